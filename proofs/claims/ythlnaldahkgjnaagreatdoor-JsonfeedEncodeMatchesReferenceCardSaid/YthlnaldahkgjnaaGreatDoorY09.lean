/- Parts of the proof: contracts and plain laws. -/
import Derived.Test.YthlnaldahkgjnaaGreatDoorY08
namespace Go.Proofs.YthlnaldahkgjnaaGreatDoor
open Go Go.RowKit Go.WideMaps Go.Maps
set_option linter.unusedVariables false
set_option linter.unusedSimpArgs false
set_option maxRecDepth 100000
set_option maxHeartbeats 16000000
section
section
variable {α κ:Type} (O:Ord α κ)
end
section
variable {α κ:Type} [DecidableEq κ] (O:Ord α κ)
end
def flatE (l:List Ent):List Value:=(l.map eCells).flatten
theorem flatE_app (a b:List Ent):flatE (a++b)=flatE a++flatE b:=by unfold flatE;rw[List.map_append,List.flatten_append]
theorem flatE_one (x:Ent):flatE [x]=eCells x:=by unfold flatE;simp
def REnts (w:World) (v:Value) (l:List Ent):Prop:=RSl w 5 v l.length (flatE l)
def OEnts (w:World) (B:Nat) (v:Value) (l:List Ent):Prop:=w.ownsRow B 64 5 v l.length (flatE l)
theorem OEnts.reads {w:World} {B:Nat} {v:Value} {l:List Ent} (h:OEnts w B v l):REnts w v l:=RSl.of_own h
theorem REnts.ext {w w':World} {v:Value} {l:List Ent} (h:REnts w v l) (hx:Ext w w'):REnts w' v l:=RSl.ext h hx
theorem OEnts.ext {w w':World} {B:Nat} {v:Value} {l:List Ent} (h:OEnts w B v l) (hx:Ext w w'):OEnts w' B v l:=own_ext h hx
theorem REnts.form {w:World} {v:Value} {l:List Ent} (h:REnts w v l):∃A c,v= .slice A l.length c∧l.length≤c∧c≤maxLen:=by
 obtain ⟨_,A,c,e,h1,h2,_⟩:=h
 exact ⟨A,c,e,h1,h2⟩
structure AtEnt (w:World) (p:Addr) (e:Ent):Prop where
 c0:w.cell? p=some (.string e.id)
 c1:w.cell? ⟨p.block,p.off+1,none⟩=some (.string e.title)
 c2:w.cell? ⟨p.block,p.off+2,none⟩=some (.string e.link)
 c3:w.cell? ⟨p.block,p.off+3,none⟩=some (.string e.content)
 c4:w.cell? ⟨p.block,p.off+4,none⟩=some (.int .i64 e.upd)
theorem AtEnt.ext {w w':World} {p:Addr} {e:Ent} (h:AtEnt w p e) (hx:Ext w w'):AtEnt w' p e:=⟨hx.cell h.c0,hx.cell h.c1,hx.cell h.c2,hx.cell h.c3,hx.cell h.c4⟩
theorem REnts.at {w:World} {v:Value} {l:List Ent} (h:REnts w v l) {k:Nat} (hk:k<l.length):∃ad c,v= .slice (some ad) l.length c∧AtEnt w (ad.add (k*5)) l[k]:=by
 obtain ⟨ad,c,e,hc⟩:=RSl.elem (k:=5) (css:=l.map eCells) h (by decide) (by intro c hc;obtain ⟨x,_,rfl⟩:=List.mem_map.1 hc;rfl) k (eCells l[k]) (by rw[List.getElem?_map,List.getElem?_eq_getElem hk];rfl)
 rw[Nat.mul_comm] at hc
 have hadd:∀i,0<i→(ad.add (k*5)).add i=⟨(ad.add (k*5)).block,(ad.add (k*5)).off+i,none⟩:=fun i hi=>if_neg (by omega)
 refine ⟨ad,c,e,?_,?_,?_,?_,?_⟩
 ·have:=hc 0 _ rfl;rwa [add_zero] at this
 ·have:=hc 1 _ rfl;rwa [hadd _ (by decide)] at this
 ·have:=hc 2 _ rfl;rwa [hadd _ (by decide)] at this
 ·have:=hc 3 _ rfl;rwa [hadd _ (by decide)] at this
 ·have:=hc 4 _ rfl;rwa [hadd _ (by decide)] at this
theorem info_ent:(Tryz.prog.info? 64).map (fun i=>(i.zero,i.size,i.bytes))=some (some (.agg #[.string ⟨#[]⟩,.string ⟨#[]⟩,.string ⟨#[]⟩,.string ⟨#[]⟩,.int .i64 0]),5,72):=info_entry
theorem ext_setBox {w wr:World} {A A':Array Value} {t:TypeId} {fr:Nat×Nat} (h:Ext (w.alloc (.cells A t fr)) wr):Ext (w.alloc (.cells A' t fr)) (wr.setRow w.heap.size A'):=by
 have hh:Below (w.alloc (.cells A t fr)).heap.size (w.alloc (.cells A t fr)) wr:=h
 refine ⟨hh.os,hh.tape,hh.output,by have:=hh.size;simp at this⊢;simpa [World.setRow] using this,fun k hk=> ?_⟩
 have hk':k<w.heap.size+1:=by simpa using hk
 by_cases e:k=w.heap.size
 ·subst e
  rw[setRow_heap wr w.heap.size A A' t fr (h.heap (heap_alloc_new w _)),heap_alloc_new]
 ·rw[setRow_other _ _ _ _ e,hh.block k (by simpa using hk'),Below.heap_alloc _ _ _ (by omega),Below.heap_alloc _ _ _ (by omega)]
end
section
theorem laterE_eok {a b:Ent} (ha:eok a) (hb:eok b):eok (laterE a b):=by unfold laterE;split<;>assumption
theorem OEnts.mono {w:World} {B B':Nat} {v:Value} {l:List Ent} (h:OEnts w B v l) (hB:B'≤B):OEnts w B' v l:=by
 refine ⟨h.1,?_⟩
 rcases h.2 with h2|⟨g,cap,cur,h1,h2,h3⟩
 ·exact Or.inl h2
 ·exact Or.inr ⟨g,cap,cur,h1,Nat.le_trans hB h2,h3⟩
theorem OEnts.nil (w:World) (B:Nat):OEnts w B (.slice none 0 0) []:=World.ownsRow_nil _ _ _ _
theorem OEnts.snoc {w:World} {B:Nat} {v:Value} {l:List Ent} {x:Ent} (h:w.ownsRow B 64 5 v (l.length+1) (flatE l++eCells x)):OEnts w B v (l++ [x]):=by
 unfold OEnts
 rw[List.length_append,flatE_app,flatE_one]
 exact h
attribute [local go_sem] calm1
end
def grp (l:List Ent) (s:ByteArray):List Ent:=l.filter fun x=>decide (ordE.id x=s)
structure Grps (w:World) (B:Nat) (v:Value) (l:List Ent) (fs:List ByteArray) (gv:List Value):Prop where
 len:gv.length=fs.length
 row:w.ownsRow B 30 1 v gv.length gv
 each:∀(j:Nat) (s:ByteArray) (u:Value),fs[j]? =some s→gv[j]? =some u→OEnts w B u (grp l s)
 apart:∀(i j:Nat) (u u':Value),gv[i]? =some u→gv[j]? =some u'→i≠j→∀g,u.ownBlock=some g→u'.ownBlock≠some g
theorem Grps.ext {w w':World} {B:Nat} {v:Value} {l:List Ent} {fs:List ByteArray} {gv:List Value} (h:Grps w B v l fs gv) (hx:Ext w w'):Grps w' B v l fs gv:=
 ⟨h.len,own_ext h.row hx,fun j s u h1 h2=>(h.each j s u h1 h2).ext hx,h.apart⟩
theorem Grps.nil (w:World) (B:Nat):Grps w B (.slice none 0 0) [] [] []:=⟨rfl,World.ownsRow_nil _ _ _ _,by simp,by simp⟩
def IdxMap (D:DataW Unit) (fs:List ByteArray):Prop:=
 IsMap D∧∀s:ByteArray,(Maps.has D (.string s.data.toList)=true↔s∈fs)∧∀j:Nat,fs[j]? =some s→D.atKey (.string s.data.toList) (.lit (.int .i64 0))= .lit (.int .i64 j)
theorem IdxMap.nil:IdxMap (.map []) []:=⟨isMap_empty,fun s=>⟨by simp[Maps.has],by simp⟩⟩
theorem IdxMap.put {D:DataW Unit} {fs:List ByteArray} {s:ByteArray} (h:IdxMap D fs) (hs:s ∉ fs):IdxMap (D.put (.string s.data.toList) (.lit (.int .i64 (fs.length:Nat)))) (fs++ [s]):=by
 refine ⟨h.1.put _ _,fun t=> ?_⟩
 by_cases e:t=s
 ·subst e
  refine ⟨⟨fun _=>by simp,fun _=>has_put_same h.1 (keyLit_str _) _⟩,fun j hj=> ?_⟩
  rw[atKey_put_same h.1 (keyLit_str _)]
  have:j=fs.length:=by
   rcases Nat.lt_trichotomy j fs.length with h1|h1|h1
   ·rw[List.getElem?_append_left h1] at hj
    exact absurd (List.mem_of_getElem? hj) hs
   ·exact h1
   ·rw[List.getElem?_eq_none (by simp;omega)] at hj;cases hj
  rw[this]
 ·have hne:(Lit.string t.data.toList)≠ .string s.data.toList:=by
   intro h'
   injection h' with h'
   exact e (data_inj h')
  obtain ⟨h1,h2⟩:=h.2 t
  rw[has_put_other hne,h1]
  refine ⟨by simp[e],fun j hj=> ?_⟩
  rw[atKey_put_other hne]
  refine h2 j ?_
  rcases Nat.lt_or_ge j fs.length with h3|h3
  ·rwa [List.getElem?_append_left h3] at hj
  ·rw[List.getElem?_append_right h3] at hj
   rcases Nat.eq_zero_or_pos (j - fs.length) with h4|h4
   ·rw[h4] at hj;simp at hj;exact absurd hj.symm e
   ·rw[List.getElem?_eq_none (by simp;omega)] at hj;cases hj
theorem grp_snoc (l:List Ent) (x:Ent) (s:ByteArray):grp (l++ [x]) s=if ordE.id x=s then grp l s++ [x] else grp l s:=by
 unfold grp
 rw[List.filter_append]
 by_cases h:ordE.id x=s
 ·rw[if_pos h];simp[h]
 ·rw[if_neg h];simp[h]
theorem mem_grp_new {l:List Ent} {s:ByteArray} (h:s ∉ ordE.firsts l):grp l s= []:=by
 unfold grp
 rw[List.filter_eq_nil_iff]
 intro x hx
 simp only[decide_eq_true_eq]
 intro e
 exact h ((ordE.mem_firsts l s).2 ⟨x,hx,e⟩)
theorem Grps.grow {w w2:World} {B g cap:Nat} {l:List Ent} {fs:List ByteArray} {gv:List Value} {x:Ent} {i:Nat} {u u':Value} {s:ByteArray}
 (h:Grps w B (.slice (some ⟨g,0,none⟩) gv.length cap) l fs gv) (hnd:fs.Pairwise (· ≠ ·)) (hi:fs[i]? =some s) (hu:gv[i]? =some u) (hx:ordE.id x=s)
 (hown:w2.ownsRow B 64 5 u' ((grp l s).length+1) (flatE (grp l s)++eCells x)) (hg:w.grownBy w2 u.ownBlock) (hat:u'.ownBlock=u.ownBlock∨(∃W:Nat,w.heap.size≤W∧u'.ownBlock=some W)) (hne:u.ownBlock≠some g):
 Grps (w2.setCell ⟨g,i,none⟩ u') B (.slice (some ⟨g,0,none⟩) gv.length cap) (l++ [x]) fs (gv.set i u'):=by
 have hlen:=h.len
 have hgB:=h.row.lt g rfl
 have hu'g:u'.ownBlock≠some g:=by
  rcases hat with e|⟨W,hW,e⟩
  ·rw[e];exact hne
  ·rw[e];intro e';injection e' with e';omega
 have hlt:∀(j:Nat) (v:Value),gv[j]? =some v→j≠i→v.ownBlock=none∨v.ownBlock≠u.ownBlock:=by
  intro j v hv hj
  cases hv':v.ownBlock with
  |none=>exact Or.inl rfl
  |some b=>exact Or.inr fun e=>h.apart j i v u hv hu hj b hv' e.symm
 have hrow2:=(h.row.kept hg (Or.inr fun e=>hne e.symm))
 refine ⟨by rw[List.length_set];exact hlen,?_,?_,?_⟩
 ·rw[List.length_set]
  exact (hrow2.stored i u').1
 ·intro j t v hj hv
  have hvg:∀(m:Nat) (q:Value),gv[m]? =some q→(∃t,fs[m]? =some t)→q.ownBlock=none∨q.ownBlock≠some g:=by
   intro m q hq ⟨t',ht'⟩
   cases hq':q.ownBlock with
   |none=>exact Or.inl rfl
   |some b=>
    refine Or.inr fun e=> ?_
    injection e with e
    subst e
    have h1:=(h.each m t' q ht' hq).2
    have h2:=h.row.2
    rcases h1 with ⟨rfl,_⟩|⟨b',c',cur',rfl,_,hb',_⟩
    ·cases hq'
    ·rcases h2 with ⟨h2,_⟩|⟨g',c'',cur'',h2,_,hg',_⟩
     ·cases h2
     ·cases h2
      cases hq'
      rw[hb'] at hg'
      simp at hg'
  by_cases hji:j=i
  ·subst hji
   rw[hi] at hj
   injection hj with hj
   subst hj
   have hv':v=u':=by
    rw[List.getElem?_set] at hv
    have:j<gv.length:=(List.getElem?_eq_some_iff.1 hu).1
    simp[this] at hv
    exact hv.symm
   subst hv'
   rw[grp_snoc,if_pos hx]
   exact OEnts.snoc (ownsRow_setCell_other hown (a:=⟨g,j,none⟩) hu'g v)
  ·rw[List.getElem?_set_ne (fun e=>hji e.symm)] at hv
   have ht:t≠s:=by
    intro e
    subst e
    have h1:=List.pairwise_iff_getElem.1 hnd
    obtain ⟨p1,q1⟩:=List.getElem?_eq_some_iff.1 hi
    obtain ⟨p2,q2⟩:=List.getElem?_eq_some_iff.1 hj
    rcases Nat.lt_or_gt_of_ne hji with h3|h3
    ·exact h1 j i p2 p1 h3 (q2.trans q1.symm)
    ·exact h1 i j p1 p2 h3 (q1.trans q2.symm)
   rw[grp_snoc,if_neg (by rw[hx];exact fun e=>ht e.symm)]
   have h4:=(h.each j t v hj hv).kept hg (hlt j v hv hji)
   refine ownsRow_setCell_other h4 (a:=⟨g,i,none⟩) ?_ u'
   rcases hvg j v hv ⟨t,hj⟩ with e|e
   ·rw[e];simp
   ·exact e
 ·intro a b v v' hv hv' hab q hq
  rw[List.getElem?_set] at hv hv'
  have key:∀(m:Nat) (q':Value),gv[m]? =some q'→m≠i→∀b,u'.ownBlock=some b→q'.ownBlock≠some b:=by
   intro m q' hq' hm b hb e
   rcases hat with e'|⟨W,hW,e'⟩
   ·rw[e'] at hb
    exact h.apart i m u q' hu hq' (fun e=>hm e.symm) b hb e
   ·rw[e'] at hb
    injection hb with hb
    obtain ⟨pm,_⟩:=List.getElem?_eq_some_iff.1 hq'
    have h5:=h.each m (fs[m]'(by omega)) q' (List.getElem?_eq_getElem (by omega)) hq'
    have:=(h5.lt b e).2
    omega
  by_cases ha:i=a
  ·subst ha
   have hil:i<gv.length:=(List.getElem?_eq_some_iff.1 hu).1
   simp only[if_true,if_pos hil,Option.some.injEq] at hv
   subst hv
   rw[if_neg hab] at hv'
   exact key b v' hv' (fun e=>hab e.symm) q hq
  ·rw[if_neg ha] at hv
   by_cases hb:i=b
   ·subst hb
    have hil:i<gv.length:=(List.getElem?_eq_some_iff.1 hu).1
    simp only[if_true,if_pos hil,Option.some.injEq] at hv'
    subst hv'
    intro e
    exact key a v hv (fun e=>ha e.symm) q e hq
   ·rw[if_neg hb] at hv'
    exact h.apart a b v v' hv hv' hab q hq
theorem Grps.form {w:World} {B:Nat} {v:Value} {l:List Ent} {fs:List ByteArray} {gv:List Value} (h:Grps w B v l fs gv):∃A c,v= .slice A gv.length c:=by
 rcases h.row.2 with ⟨h1,h2⟩|⟨g,cap,cur,h1,_⟩
 ·exact ⟨none,0,by rw[h1,h2]⟩
 ·exact ⟨_,_,h1⟩
theorem Grps.kept {w w2:World} {B m:Nat} {v:Value} {l:List Ent} {fs:List ByteArray} {gv:List Value} (h:Grps w B v l fs gv) (hg:w.grownBy w2 (some m)) (hm:m<B):Grps w2 B v l fs gv:=by
 have key:∀{e:TypeId} {n size:Nat} {u:Value} {xs:List Value},w.ownsRow B e size u n xs→u.ownBlock=none∨u.ownBlock≠some m:=by
  intro e n size u xs hu
  cases hb:u.ownBlock with
  |none=>exact Or.inl rfl
  |some b=>
   refine Or.inr fun e=> ?_
   injection e with e
   have:=(hu.lt b hb).1
   omega
 exact ⟨h.len,h.row.kept hg (key h.row),fun j s u h1 h2=>(h.each j s u h1 h2).kept hg (key (h.each j s u h1 h2)),h.apart⟩
theorem Grps.more {w w2:World} {B:Nat} {v v':Value} {l:List Ent} {fs:List ByteArray} {gv:List Value} {s:ByteArray}
 (h:Grps w B v l fs gv) (hs:grp l s= []) (hrow:w2.ownsRow B 30 1 v' (gv.length+1) (gv++ [.slice none 0 0])) (hg:w.grownBy w2 v.ownBlock):
 Grps w2 B v' l (fs++ [s]) (gv++ [.slice none 0 0]):=by
 have hlen:=h.len
 refine ⟨by simp[hlen],by simpa using hrow,?_,?_⟩
 ·intro j t u hj hu
  rcases Nat.lt_or_ge j gv.length with hjl|hjl
  ·rw[List.getElem?_append_left hjl] at hu
   rw[List.getElem?_append_left (by omega)] at hj
   have h1:=h.each j t u hj hu
   refine h1.kept hg ?_
   cases hu':u.ownBlock with
   |none=>exact Or.inl rfl
   |some b=>
    refine Or.inr fun e=> ?_
    rcases h1.2 with ⟨rfl,_⟩|⟨b',c',cur',rfl,_,hb',_⟩
    ·cases hu'
    ·rcases h.row.2 with ⟨rfl,_⟩|⟨g',c'',cur'',rfl,_,hg',_⟩
     ·cases e
     ·cases hu'
      cases e
      rw[hb'] at hg'
      simp at hg'
  ·rw[List.getElem?_append_right hjl] at hu
   rw[List.getElem?_append_right (by omega)] at hj
   have hj0:j - gv.length=0:=by
    rcases Nat.eq_zero_or_pos (j - gv.length) with h4|h4
    ·exact h4
    ·rw[List.getElem?_eq_none (by simp;omega)] at hu;cases hu
   rw[hj0] at hu
   rw[show j - fs.length=0 by omega] at hj
   simp at hu hj
   subst hu hj
   rw[hs]
   exact OEnts.nil _ _
 ·intro a b q q' hq hq' hab m hm
  have last:∀(n:Nat) (u:Value),(gv++ [Value.slice none 0 0])[n]? =some u→∀m,u.ownBlock=some m→gv[n]? =some u:=by
   intro n u hu m hm
   rcases Nat.lt_or_ge n gv.length with hjl|hjl
   ·rwa [List.getElem?_append_left hjl] at hu
   ·rw[List.getElem?_append_right hjl] at hu
    have:=List.mem_of_getElem? hu
    simp at this
    subst this
    cases hm
  intro e
  exact h.apart a b q q' (last a q hq m hm) (last b q' hq' m e) hab m hm e
theorem entID_any (e:Ent) (w:World):Calls Tryz.prog 124 #[.agg (eCells e).toArray] w fun x w'=>x= .returned (.string e.id)∧Ext w w':=by
 unfold eCells
 go_enter Tryz.func124,Tryz.ntmps124
 go_wp2
 go_ret
 exact ⟨rfl,(Ext.refl _).alloc _⟩
theorem zeroInt (w:World):(zeroValue 3).run Tryz.prog w= .ok (.int .i64 0) w:=by kernel_rfl
theorem info_row:(Tryz.prog.info? 30).map (fun i=>(i.zero,i.size,i.bytes))=some (some (.slice none 0 0),1,24):=by kernel_rfl
theorem firsts_len (l:List Ent):(ordE.firsts l).length≤l.length:=by
 suffices h:∀(n:Nat) (l:List Ent),l.length=n→(ordE.firsts l).length≤l.length from h _ l rfl
 intro n
 induction n with
 |zero=>intro l hl;rw[List.eq_nil_of_length_eq_zero hl];exact Nat.le_refl _
 |succ n ih=>
  intro l hl
  obtain ⟨l',e,rfl⟩:∃l' e,l=l'++ [e]:=by
   rcases List.eq_nil_or_concat l with h|⟨l',e,h⟩
   ·subst h;simp at hl
   ·exact ⟨l',e,by simpa using h⟩
  have:=ih l' (by simpa using hl)
  rw[ordE.firsts_snoc]
  split<;>simp<;>omega
theorem grp_len (l:List Ent) (s:ByteArray):(grp l s).length≤l.length:=List.length_filter_le _ _
theorem own_mono {w:World} {B B':Nat} {e:TypeId} {size n:Nat} {v:Value} {xs:List Value} (h:w.ownsRow B e size v n xs) (hB:B'≤B):w.ownsRow B' e size v n xs:=by
 refine ⟨h.1,?_⟩
 rcases h.2 with h2|⟨g,cap,cur,h1,h2,h3⟩
 ·exact Or.inl h2
 ·exact Or.inr ⟨g,cap,cur,h1,Nat.le_trans hB h2,h3⟩
theorem Grps.grow' {w0 w1 w w2:World} {B g cap:Nat} {l:List Ent} {fs:List ByteArray} {gv:List Value} {x:Ent} {i:Nat} {u u':Value} {s:ByteArray}
 (h:Grps w1 B (.slice (some ⟨g,0,none⟩) gv.length cap) l fs gv) (_hx0:Ext w0 w1) (hx:Ext w1 w) (hnd:fs.Pairwise (· ≠ ·)) (hi:fs[i]? =some s) (hu:gv[i]? =some u) (hxs:ordE.id x=s)
 (hown:w2.ownsRow B 64 5 u' ((grp l s).length+1) (flatE (grp l s)++eCells x)) (hg:w.grownBy w2 u.ownBlock) (hat:u'.ownBlock=u.ownBlock∨u'.ownBlock=some w.heap.size) (hne:u.ownBlock≠some g):
 w2.cell? ⟨g,i,none⟩=some u∧w2.frozen? ⟨g,i,none⟩=false∧Grps (w2.setCell ⟨g,i,none⟩ u') B (.slice (some ⟨g,0,none⟩) gv.length cap) (l++ [x]) fs (gv.set i u'):=by
 have hw:=h.ext hx
 have hrow:=hw.row.kept hg (Or.inr fun e=>hne e.symm)
 have hil:i<gv.length:=(List.getElem?_eq_some_iff.1 hu).1
 refine ⟨by rw[hrow.cellAt i (by omega)];exact hu,hrow.frozenAt i,hw.grow hnd hi hu hxs hown hg ?_ hne⟩
 rcases hat with e|e
 ·exact Or.inl e
 ·exact Or.inr ⟨_,Nat.le_refl _,e⟩
theorem groupsE_any (v:Value) (l:List Ent) (w:World) (h:REnts w v l) (hsz:∀x∈l,x.id.size≤16777216) (hn:l.length≤1000000):
 Calls Tryz.prog 123 #[v,.func (.func 124) #[] #[]] w fun x w'=>∃v' gv,x= .returned v'∧Grps w' w.heap.size v' l (ordE.firsts l) gv∧Ext w w':=by
 obtain ⟨i0,hi0,hz0,hz1,hz2⟩:=info_parts info_ent
 obtain ⟨i1,hj0,hy0,hy1,hy2⟩:=info_parts info_row
 obtain ⟨A,c,rfl,hlc,hcm⟩:=h.form
 have hmm:= @run_makeMap Tryz.prog
 have HSZ:=gd hsz
 clear hlc hcm hsz
 go_enter Tryz.func123,Tryz.ntmps123
 go_wp2
 go_loopw [6,14] (fun o i wr=>∃(k:Nat) (gv:List Value) (D:DataW Unit),k≤l.length∧i= .int .i64 k∧Grps wr (w.heap.size+1) o (l.take k) (ordE.firsts (l.take k)) gv∧wr.ownsMap Tryz.prog 9 (plainElem Tryz.prog 3) w.heap.size k D∧Hid (IdxMap D (ordE.firsts (l.take k)))∧Ext w wr∧w.heap.size+1≤wr.heap.size) (fun _ i _=>l.length - (intOf i).toNat)
 case atStart=>exact ⟨0,[],.map [],Nat.zero_le _,rfl,Grps.nil _ _,World.ownsMap_made _ _ _ _,IdxMap.nil,(Ext.refl _).alloc _,by simp⟩
 case round=>
  obtain ⟨k,gv,D,hk,rfl,hG,hM,hD,hx,hws⟩:=hrel
  by_cases hlt:k<l.length
  ·obtain ⟨ad,c',hv,hat⟩:=(h.ext hx).at hlt
   injection hv with hv1 hv2 hv3
   subst hv1
   clear hv2 hv3
   have hxs:=HSZ.out l[k] (List.getElem_mem hlt)
   have htk:=List.take_succ_eq_append_getElem hlt
   have hfn:=ordE.firsts_snoc (l.take k) l[k]
   rw[←htk] at hfn
   have hfl:=firsts_len (l.take k)
   rw[List.length_take] at hfl
   have hgl:=hG.len
   have hnd:=ordE.firsts_nodup (l.take k)
   obtain ⟨x,hxx⟩:∃x,l[k]=x:=⟨_,rfl⟩
   rw[hxx] at hat hxs htk hfn
   have HTK:=gd htk
   have HFN:=gd hfn
   clear htk hfn hxx
   have hgrl:=grp_len (l.take k) x.id
   rw[List.length_take] at hgrl
   have hkey:keyOf Tryz.prog 9 (.string x.id)=some (.string x.id.data.toList):=keyOf_string_mk Tryz.underlying9 (by unfold maxLen;omega)
   have HID:=gd (fun w'=>entID_any x w')
   have hi0':(0:Int)≤(k:Int):=by omega
   have hi1:(k:Int)<(l.length:Int):=by omega
   have hDx:=hD.out.2 x.id
   obtain ⟨a0,a1,a2,a3,a4⟩:=hat
   by_cases hmem:x.id∈ordE.firsts (l.take k)
   ·have hhas:Maps.has D (.string x.id.data.toList)=true:=hDx.1.2 hmem
    obtain ⟨j,hj⟩:=List.mem_iff_getElem?.1 hmem
    have hjd:=hDx.2 j hj
    have hjl:j<gv.length:=by rw[hgl];exact (List.getElem?_eq_some_iff.1 hj).1
    have HJD:=gd hjd
    have HHAS:=gd hhas
    have HMEM:=gd hmem
    obtain ⟨g,cap,ho,hcap⟩:∃g cap,(_:Value)= .slice (some ⟨g,0,none⟩) gv.length cap∧gv.length≤maxLen:=by
     rcases hG.row.2 with ⟨h1,h2⟩|⟨g,cap,cur,h1,_,_,h4,h5,_⟩
     ·omega
     ·exact ⟨g,cap,h1,Nat.le_trans h4 h5⟩
    subst ho
    obtain ⟨u,hu⟩:∃u,gv[j]? =some u:=⟨_,List.getElem?_eq_getElem hjl⟩
    have hou:=hG.each j x.id u hj hu
    have hgc:wr.cell? ⟨g,j,none⟩=some u:=by rw[hG.row.cellAt j (by omega)];exact hu
    have hgf:=hG.row.frozenAt j
    have hgB:=hG.row.lt g rfl
    have hune:u.ownBlock≠some g:=by
     intro e
     rcases hou.2 with ⟨rfl,_⟩|⟨b',c',cur',rfl,_,hb',_⟩
     ·cases e
     ·rcases hG.row.2 with ⟨h2,_⟩|⟨g',c'',cur'',h2,_,hg',_⟩
      ·cases h2
      ·cases h2
       cases e
       rw[hb'] at hg'
       simp at hg'
    have huM:u.ownBlock≠some w.heap.size:=by
     intro e
     have:=(hou.lt _ e).1
     omega
    have HOU:=gd hou
    have HHU:=gd hu
    have HHJ:=gd hj
    have HUN:=gd hune
    have HUM:=gd huM
    have HGB:=gd hgB
    have hjl':(j:Int)<(gv.length:Int):=by omega
    have hj0':(0:Int)≤(j:Int):=by omega
    have HBY:Hid (((grp (l.take k) x.id).length+1)*72≤140737488355328):=gd (by omega)
    have HML:Hid ((grp (l.take k) x.id).length+1≤maxLen):=gd (by unfold maxLen;omega)
    have hgl':gv.length≤9223372036854775807:=by omega
    have HGL:=gd hgl
    have HCAP:=gd hcap
    clear hjd hhas hmem hDx hou hu hj hune huM hgB hgl hcap hjl hgrl hfl
    obtain ⟨xid,xtitle,xlink,xcontent,xupd⟩:=x
    simp only at a0 a1 a2 a3 a4 hkey
    unfold eCells at HID
    dsimp only at HID
    go_wp2_with (first|(go_at_call 124;refine (HID.out _).mono ?_;rintro e w2 ⟨rfl,hx2⟩;(have e0:=hx2.boxed 0 _ rfl);(have e1:=hx2.boxed 1 _ rfl);(have e2:=hx2.boxed 2 _ rfl);(have e3:=hx2.boxed 3 _ rfl);(have e4:=hx2.boxed 4 _ rfl);(have hxa:=(((Ext.refl wr).alloc _).trans hx2));(have hgc2:=hxa.cell hgc);(have hgf2:=(Below.frozen hxa HGB.out.2).trans hgf))|(at_lookup;refine wpList_lookup_own_ok_int _ rfl (.tmp 19) (.tmp 22) _ rfl 9 3 .i64 keyLaw Tryz.underlying219 Tryz.underlying3 (zeroInt _) w.heap.size k D rfl ((hM.kept (((Ext.refl wr).alloc _).grown none) (by simp)).kept (hx2.grown none) (by simp)) _ _ rfl hkey ?_;intro c hat hwc;(have hcj:c=(j:Int):=by (have e:=HJD.out.symm.trans hat;injection e with e;injection e with _ e;exact e.symm));rw[HHAS.out,hcj];clear hat hwc hcj c))
    have HXA:=gd hxa
    have HG2:=gd (hG.ext hxa)
    have HM2:=gd (hM.kept (hxa.grown none) (by simp))
    have HOU2:=gd (OEnts.ext HOU.out hxa)
    have HXW:=gd (hx.trans hxa)
    have HWS:=gd (Nat.le_trans hws hxa.size)
    have HND:=gd hnd
    clear hG hM hkey a0 a1 a2 a3 a4 hgc hgf hx2 hnd
    have hgw2:g<w2.heap.size:=World.block_lt_of_cell? w2 _ hgc2
    have hbw2:wr.heap.size<w2.heap.size:=World.block_lt_of_cell? w2 _ e0
    go_region_law (first|(refine step_append_rsl _ (by rfl) (.tmp 43) (.tmp 45) _ (by rfl) (w.heap.size+1) 64 i0 _ 5 72 Tryz.underlying30 hi0 hz0 hz1 hz2 rfl (by decide) u (grp (l.take k) xid).length (flatE (grp (l.take k) xid)) (by rfl) (own_ext HOU2.out (by repeat (first|exact Ext.refl _|apply Ext.drew|apply Ext.alloc))) _ 1 (eCells ⟨xid,xtitle,xlink,xcontent,xupd⟩) (by rfl) (RSl.ext (rsl_new rfl (by decide)) (by repeat (first|exact Ext.refl _|apply Ext.drew))) (eCells_one _) HML.out HBY.out (Nat.le_trans HWS.out (by simp)) ?_;intro v3 w3 hown3 hg3 hat3;(obtain ⟨g3,cap3,hv3,hb3⟩:∃g3 cap3,v3= .slice (some ⟨g3,0,none⟩) ((grp (l.take k) xid).length+1) cap3∧True:=by (obtain ⟨g3,cap3,hv3,_⟩:=hown3.form (by omega);exact ⟨g3,cap3,hv3,trivial⟩));subst hv3;(have hgr:=Grps.grow' HG2.out (Ext.refl _) (by repeat (first|exact Ext.refl _|apply Ext.drew|apply Ext.alloc)) HND.out HHJ.out HHU.out rfl hown3 hg3 hat3 HUN.out);(have hgc3:=hgr.1);(have hgf3:=hgr.2.1);(have hm3:=(HM2.out.kept ((show Ext w2 _ from by repeat (first|exact Ext.refl _|apply Ext.drew|apply Ext.alloc)).grown none) (by simp)).kept hg3 (fun e=>HUM.out e.symm));(have hx3:Ext w w3:=Ext.grown' (B:=0) (Ext.trans HXW.out (by repeat (first|exact Ext.refl _|apply Ext.drew|apply Ext.alloc))) hg3 (fun b hb=>Nat.le_trans (Nat.le_succ _) (HOU2.out.lt b hb).1))))
    all_goals
     have hgr3:=hgr.2.2
     have HGR:=gd hgr3
     have HM3:=gd (hm3.setCell (a:=⟨g,j,none⟩) (show w.heap.size≠g by have:=HGB.out.1;omega) (.slice (some ⟨g3,0,none⟩) ((grp (l.take k) xid).length+1) cap3))
     have HX3:=gd (hx3.setCell (p:=⟨g,j,none⟩) (show w.heap.size≤g by have:=HGB.out.1;omega) (.slice (some ⟨g3,0,none⟩) ((grp (l.take k) xid).length+1) cap3))
     clear hgr hgr3 hm3 hx3 hown3 hg3 hat3 hgc3 hgf3 e0 e1 e2 e3 e4 hgc2 hgf2 hxa
     go_wp2
     go_roundw
     case rel=>
      have hfm:ordE.firsts (l.take (k+1))=ordE.firsts (l.take k):=HFN.out.trans (if_pos HMEM.out)
      exact ⟨k+1,gv.set j _,D,hlt,by go_num,by rw[hfm,HTK.out];exact HGR.out,HM3.out.mono (Nat.le_succ _),by rw[hfm];exact hD,HX3.out,HM3.out.lt⟩
     case measure=>simp[intOf];omega
   ·have hhas:Maps.has D (.string x.id.data.toList)=false:=by
     cases hb:Maps.has D (.string x.id.data.toList) with
     |false=>rfl
     |true=>exact absurd (hDx.1.1 hb) hmem
    have hput:=hD.out.put (s:=x.id) hmem
    rw[←hgl] at hput
    have HPUT:=gd hput
    have HHAS:=gd hhas
    have HMEM:=gd hmem
    have HNEW:=gd (mem_grp_new hmem)
    have HGL:=gd hgl
    have hwf:(Lit.int .i64 (gv.length:Nat)).wf=true:=by
     simp only[Lit.wf,IntKind.min,IntKind.max,Bool.and_eq_true]
     simp[IntKind.signed,IntKind.bits]
     omega
    have HWF:=gd hwf
    have hbx0:=heap_alloc_new wr (.cells (eCells x).toArray 64)
    have HBX:=gd hbx0
    have HBYR:Hid ((gv.length+1)*24≤140737488355328):=gd (by omega)
    have HMLR:Hid (gv.length+1≤maxLen):=gd (by unfold maxLen;omega)
    have HKL:Hid (k<maxLen):=gd (by unfold maxLen;omega)
    have hgl':gv.length≤9223372036854775806:=by omega
    clear hhas hmem hput hwf hbx0 hDx hfl hgrl hgl
    obtain ⟨xid,xtitle,xlink,xcontent,xupd⟩:=x
    simp only at a0 a1 a2 a3 a4 hkey
    unfold eCells at HID HBX
    dsimp only at HID HBX
    obtain ⟨gA,gC,ho⟩:=hG.form
    subst ho
    have tok1:True:=trivial
    go_wp2_with (first|(clear tok1;go_at_call 124;refine (HID.out _).mono ?_;rintro e w2 ⟨rfl,hx2⟩;(have hb2:=hx2.heap HBX.out);(obtain ⟨e0,e1,e2,e3,e4⟩:=blk5 hb2);(have hxa:=(((Ext.refl wr).alloc _).trans hx2)))|(at_lookup;refine wpList_lookup_own_ok_int _ rfl (.tmp 19) (.tmp 22) _ rfl 9 3 .i64 keyLaw Tryz.underlying219 Tryz.underlying3 (zeroInt _) w.heap.size k D rfl ((hM.kept (((Ext.refl wr).alloc _).grown none) (by simp)).kept (hx2.grown none) (by simp)) _ _ rfl hkey ?_;intro c hat hwc;rw[HHAS.out];clear hat hwc)|(go_at_call 124;refine (HID.out _).mono ?_;rintro e w4 ⟨rfl,hx4⟩;(have hb4:=hx4.heap hb2);(have hxb:=hxa.trans hx4))|(at_mapUpdate;refine wpList_mapUpdate_own _ rfl (.tmp 30) (.tmp 33) (.tmp 34) 219 rfl 9 3 keyLaw Tryz.underlying219 _ w.heap.size k D rfl (hM.kept (hxb.grown none) (by simp)) HKL.out _ _ _ rfl rfl hkey _ [] (plainElem_int Tryz.underlying3 HWF.out) ?_;intro w5 hM5 hg5)|(at_builtin;refine wpList_append_rsl _ rfl (.tmp 35) (.tmp 36) _ rfl (w.heap.size+1) 30 i1 _ 1 24 Tryz.underlying181 hj0 hy0 hy1 hy2 rfl (by decide) _ gv.length gv rfl ((((hG.ext hxb).kept hg5 (Nat.lt_succ_self _)).row).alloc _) _ 1 [.slice none 0 0] rfl (rsl_new rfl (by decide)) (by intro y hy;simp at hy;subst hy;rfl) HMLR.out HBYR.out ?_ ?_;(have:=hM5.lt;simp;omega);intro v6 w6 hown6 hg6 hat6))
    obtain ⟨g,cap,hv6,hgB1,hgB2⟩:=hown6.form (Nat.succ_pos _)
    subst hv6
    have hxm:Ext w w5:=Ext.grown' (B:=0) (hx.trans hxb) hg5 (fun b hb=>by cases hb;exact Nat.le_refl _)
    have hG5:=(hG.ext hxb).kept hg5 (Nat.lt_succ_self _)
    have hlen:gv.length+1=(gv++ [Value.slice none 0 0]).length:=by simp
    have hG6:=Grps.more (hG5.ext ((Ext.refl _).alloc _)) HNEW.out hown6 hg6
    rw[hlen] at hG6
    have HG2:=gd hG6
    have huN:∀b,(Value.slice gA gv.length gC).ownBlock=some b→w.heap.size+1≤b:=fun b hb=>(hG.row.lt b hb).1
    have HM2:=gd ((hM5.alloc _).kept hg6 (fun e=>by have:=huN _ e.symm;omega))
    have HXW:=gd (Ext.grown' (B:=0) (hxm.alloc _) hg6 (fun b hb=>Nat.le_trans (Nat.le_succ _) (huN b hb)))
    have hou:OEnts w6 (w.heap.size+1) (.slice none 0 0) (grp (l.take k) xid):=by rw[HNEW.out];exact OEnts.nil _ _
    have HOU2:=gd hou
    have hW6:w.heap.size+1≤w6.heap.size:=HM2.out.lt
    have HWS:=gd hW6
    have hb5:w5.heap[wr.heap.size]? =some (.cells #[.string xid,.string xtitle,.string xlink,.string xcontent,.int .i64 xupd] 64):=by
     rw[hg5.block wr.heap.size (World.block_lt_of_cell? w4 ⟨wr.heap.size,0,none⟩ (by rw[cell_of_row _ _ _ _ _ _ hb4];rfl)) (by simp;omega)]
     exact hb4
    have hb6:w6.heap[wr.heap.size]? =some (.cells #[.string xid,.string xtitle,.string xlink,.string xcontent,.int .i64 xupd] 64):=by
     rw[hg6.block wr.heap.size (by have:wr.heap.size<w5.heap.size:=World.block_lt_of_cell? w5 ⟨wr.heap.size,0,none⟩ (by rw[cell_of_row _ _ _ _ _ _ hb5];rfl);simp;omega) (fun e=>by have:=(hG.row.lt _ e.symm).2;omega)]
     exact ((Ext.refl w5).alloc _).heap hb5
    have HND:Hid ((ordE.firsts (l.take k)++ [xid]).Pairwise (· ≠ ·)):=gd (by
     rw[List.pairwise_append]
     exact ⟨hnd,by simp,fun a ha b hb=>by simp at hb;subst hb;rintro rfl;exact HMEM.out ha⟩)
    have HHJ:Hid ((ordE.firsts (l.take k)++ [xid])[gv.length]? =some xid):=gd (by rw[HGL.out];simp)
    have HHU:Hid ((gv++ [Value.slice none 0 0])[gv.length]? =some (.slice none 0 0)):=gd (by simp)
    have HUN:Hid ((Value.slice none 0 0).ownBlock≠some g):=gd (by intro e;cases e)
    have HUM:Hid ((Value.slice none 0 0).ownBlock≠some w.heap.size):=gd (by intro e;cases e)
    have HGB:=gd (And.intro hgB1 hgB2)
    have hgc2:w6.cell? ⟨g,gv.length,none⟩=some (.slice none 0 0):=by rw[hown6.cellAt gv.length (by omega)];simp
    have hgf2:w6.frozen? ⟨g,gv.length,none⟩=false:=hown6.frozenAt gv.length
    have hjl':(gv.length:Int)<((gv.length:Nat):Int)+1:=by omega
    have hjn':gv.length<gv.length+1:=by omega
    have hj0':(0:Int)≤(gv.length:Int):=by omega
    have HBY:Hid ((grp (l.take k) xid).length+1≤1∧True):=gd ⟨by rw[HNEW.out];simp,trivial⟩
    have HML:Hid ((grp (l.take k) xid).length+1≤maxLen):=gd (Nat.le_trans HBY.out.1 (by decide))
    have HBY2:Hid (((grp (l.take k) xid).length+1)*72≤140737488355328):=gd (by have:=HBY.out.1;omega)
    clear HBY
    have HBY:=HBY2
    have HLEN:=gd hlen
    clear e0 e1 e2 e3 e4
    obtain ⟨e0,e1,e2,e3,e4⟩:=blk5 hb6
    clear hG hG5 hG6 hM hM5 hkey a0 a1 a2 a3 a4 hx2 hx4 hxa hxb hb2 hb4 hb5 hb6 hg5 hg6 hat6 hown6 hxm huN hou hW6 hlen hgB1 hgB2 hnd
    have hgw2:g<w6.heap.size:=World.block_lt_of_cell? w6 _ hgc2
    have hbw2:wr.heap.size<w6.heap.size:=World.block_lt_of_cell? w6 _ e0
    go_region_law (first|(refine step_append_rsl _ (by rfl) (.tmp 43) (.tmp 45) _ (by rfl) (w.heap.size+1) 64 i0 _ 5 72 Tryz.underlying30 hi0 hz0 hz1 hz2 rfl (by decide) (.slice none 0 0) (grp (l.take k) xid).length (flatE (grp (l.take k) xid)) (by rfl) (own_ext HOU2.out (by repeat (first|exact Ext.refl _|apply Ext.drew|apply Ext.alloc))) _ 1 (eCells ⟨xid,xtitle,xlink,xcontent,xupd⟩) (by rfl) (RSl.ext (rsl_new rfl (by decide)) (by repeat (first|exact Ext.refl _|apply Ext.drew))) (eCells_one _) HML.out HBY.out (Nat.le_trans HWS.out (by simp)) ?_;intro v3 w3 hown3 hg3 hat3;(obtain ⟨g3,cap3,hv3,hb3⟩:∃g3 cap3,v3= .slice (some ⟨g3,0,none⟩) ((grp (l.take k) xid).length+1) cap3∧True:=by (obtain ⟨g3,cap3,hv3,_⟩:=hown3.form (by omega);exact ⟨g3,cap3,hv3,trivial⟩));subst hv3;(have hgr:=Grps.grow' HG2.out (Ext.refl _) (by repeat (first|exact Ext.refl _|apply Ext.drew|apply Ext.alloc)) HND.out HHJ.out HHU.out rfl hown3 hg3 hat3 HUN.out);(have hgc3:=hgr.1);(have hgf3:=hgr.2.1);(have hm3:=(HM2.out.kept ((show Ext w6 _ from by repeat (first|exact Ext.refl _|apply Ext.drew|apply Ext.alloc)).grown none) (by simp)).kept hg3 (fun e=>HUM.out e.symm));(have hx3:Ext w w3:=Ext.grown' (B:=0) (Ext.trans HXW.out (by repeat (first|exact Ext.refl _|apply Ext.drew|apply Ext.alloc))) hg3 (fun b hb=>Nat.le_trans (Nat.le_succ _) (HOU2.out.lt b hb).1))))
    all_goals
     have hgr3:=hgr.2.2
     have HGR:=gd hgr3
     have HM3:=gd (hm3.setCell (a:=⟨g,gv.length,none⟩) (show w.heap.size≠g by have:=HGB.out.1;omega) (.slice (some ⟨g3,0,none⟩) ((grp (l.take k) xid).length+1) cap3))
     have HX3:=gd (hx3.setCell (p:=⟨g,gv.length,none⟩) (show w.heap.size≤g by have:=HGB.out.1;omega) (.slice (some ⟨g3,0,none⟩) ((grp (l.take k) xid).length+1) cap3))
     clear hgr hgr3 hm3 hx3 hown3 hg3 hat3 hgc3 hgf3 e0 e1 e2 e3 e4 hgc2 hgf2
     go_wp2
     go_roundw
     case rel=>
      have hfm:ordE.firsts (l.take (k+1))=ordE.firsts (l.take k)++ [xid]:=HFN.out.trans (if_neg HMEM.out)
      exact ⟨k+1,(gv++ [Value.slice none 0 0]).set gv.length _,D.put (.string xid.data.toList) (.lit (.int .i64 (gv.length:Nat))),hlt,by go_num,by rw[hfm,HTK.out,HLEN.out];exact HGR.out,HM3.out,by rw[hfm];exact HPUT.out,HX3.out,HM3.out.lt⟩
     case measure=>simp[intOf];omega
  ·have hke:k=l.length:=by omega
   subst hke
   rw[List.take_of_length_le (Nat.le_refl _)] at hG hD
   have HG:=gd hG
   clear hG hD hM hk hlt
   go_wp2
   go_ret
   refine ⟨_,gv,rfl,?_,hx⟩
   have h1:=HG.out
   exact ⟨h1.len,own_mono h1.row (Nat.le_succ _),fun j s u hj hu=>(h1.each j s u hj hu).mono (Nat.le_succ _),h1.apart⟩
def RStrs (w:World) (v:Value) (l:List ByteArray):Prop:=RSl w 1 v l.length (l.map Value.string)
theorem RStrs.ext {w w':World} {v:Value} {l:List ByteArray} (h:RStrs w v l) (hx:Ext w w'):RStrs w' v l:=RSl.ext h hx
theorem RStrs.form {w:World} {v:Value} {l:List ByteArray} (h:RStrs w v l):∃A c,v= .slice A l.length c∧l.length≤c∧c≤maxLen:=by
 obtain ⟨_,A,c,e,h1,h2,_⟩:=h
 exact ⟨A,c,e,h1,h2⟩
def fCells (p es:Value) (f:Fd):List Value:= [p,.string f.id,.string f.title,.string f.link,.int .i64 f.upd,es]
theorem size_fd:(Tryz.prog.info? 32).map (fun i=>i.size)=some 6:=by kernel_rfl
def sizes (l:List ByteArray):Nat:=(l.map ByteArray.size).sum
def fok (f:Fd):Prop:=i64ok f.upd∧f.path.length+sizes f.path+f.id.size+f.title.size+f.link.size≤16777216
theorem size_le_sizes {l:List ByteArray} {s:ByteArray} (h:s∈l):s.size≤sizes l:=by
 induction l with
 |nil=>simp at h
 |cons x t ih=>
  have e:sizes (x::t)=x.size+sizes t:=by unfold sizes;simp
  rcases List.mem_cons.1 h with rfl|h
  ·omega
  ·have:=ih h;omega
theorem heap2_new (w:World) (A B:Obj):((w.alloc A).alloc B).heap[w.heap.size+1]? =some B:=by
 have:=heap_alloc_new (w.alloc A) B
 rwa [size_alloc] at this
structure Fc where
 p:Value
 es:Value
 f:Fd
def cellsC (x:Fc):List Value:=fCells x.p x.es x.f
def isSl (v:Value):Prop:=∃A n c,v= .slice A n c
def slC (x:Fc):Prop:=isSl x.p∧isSl x.es
theorem cellsC_one {x:Fc} (h:slC x):∀u∈cellsC x,u.oneCell'=true:=by
 obtain ⟨p,es,f⟩:=x
 obtain ⟨⟨A,n,c,h1⟩,⟨B,m,d,h2⟩⟩:=h
 simp only at h1 h2
 subst h1 h2
 intro u hu
 simp only[cellsC,fCells,List.mem_cons,List.mem_nil_iff,or_false] at hu
 rcases hu with rfl|rfl|rfl|rfl|rfl|rfl<;>rfl
def RdC (w:World) (x:Fc):Prop:=RStrs w x.p x.f.path∧REnts w x.es x.f.ents
theorem RdC.ext {w w':World} {x:Fc} (h:RdC w x) (hx:Ext w w'):RdC w' x:=⟨h.1.ext hx,h.2.ext hx⟩
theorem RdC.sl {w:World} {x:Fc} (h:RdC w x):slC x:=by
 obtain ⟨A,c,e,_⟩:=h.1.form
 obtain ⟨B,d,e',_⟩:=h.2.form
 exact ⟨⟨A,_,c,e⟩,⟨B,_,d,e'⟩⟩
def flatC (l:List Fc):List Value:=(l.map cellsC).flatten
def RFcs (w:World) (v:Value) (l:List Fc):Prop:=RSl w 6 v l.length (flatC l)
theorem RFcs.ext {w w':World} {v:Value} {l:List Fc} (h:RFcs w v l) (hx:Ext w w'):RFcs w' v l:=RSl.ext h hx
theorem RFcs.form {w:World} {v:Value} {l:List Fc} (h:RFcs w v l):∃A c,v= .slice A l.length c∧l.length≤c∧c≤maxLen:=by
 obtain ⟨_,A,c,e,h1,h2,_⟩:=h
 exact ⟨A,c,e,h1,h2⟩
structure AtFc (w:World) (q:Addr) (x:Fc):Prop where
 c0:w.cell? q=some x.p
 c1:w.cell? ⟨q.block,q.off+1,none⟩=some (.string x.f.id)
 c2:w.cell? ⟨q.block,q.off+2,none⟩=some (.string x.f.title)
 c3:w.cell? ⟨q.block,q.off+3,none⟩=some (.string x.f.link)
 c4:w.cell? ⟨q.block,q.off+4,none⟩=some (.int .i64 x.f.upd)
 c5:w.cell? ⟨q.block,q.off+5,none⟩=some x.es
theorem RFcs.at {w:World} {v:Value} {l:List Fc} (h:RFcs w v l) {k:Nat} (hk:k<l.length):∃ad c,v= .slice (some ad) l.length c∧AtFc w (ad.add (k*6)) l[k]:=by
 obtain ⟨ad,c,e,hc⟩:=RSl.elem (k:=6) (css:=l.map cellsC) h (by decide) (by intro c hc;obtain ⟨x,_,rfl⟩:=List.mem_map.1 hc;rfl) k (cellsC l[k]) (by rw[List.getElem?_map,List.getElem?_eq_getElem hk];rfl)
 rw[Nat.mul_comm] at hc
 have hadd:∀i,0<i→(ad.add (k*6)).add i=⟨(ad.add (k*6)).block,(ad.add (k*6)).off+i,none⟩:=fun i hi=>if_neg (by omega)
 refine ⟨ad,c,e,?_,?_,?_,?_,?_,?_⟩
 ·have:=hc 0 _ rfl;rwa [add_zero] at this
 ·have:=hc 1 _ rfl;rwa [hadd _ (by decide)] at this
 ·have:=hc 2 _ rfl;rwa [hadd _ (by decide)] at this
 ·have:=hc 3 _ rfl;rwa [hadd _ (by decide)] at this
 ·have:=hc 4 _ rfl;rwa [hadd _ (by decide)] at this
 ·have:=hc 5 _ rfl;rwa [hadd _ (by decide)] at this
theorem oneF {A:Option Addr} {n c:Nat} {B:Option Addr} {m d:Nat} {i t l:ByteArray} {u:Int}:(#[Value.slice A n c,.string i,.string t,.string l,.int .i64 u,.slice B m d]).all (fun u=>u.oneCell')=true:=
 oneA (cellsC_one (x:=⟨.slice A n c,.slice B m d,⟨[],i,t,l,u,[]⟩⟩) ⟨⟨_,_,_,rfl⟩,⟨_,_,_,rfl⟩⟩)
theorem RSl.grown {w w':World} {size n:Nat} {v:Value} {xs:List Value} {r:Option Nat} (h:RSl w size v n xs) (hg:w.grownBy w' r) (hv:xs= []∨v.ownBlock≠r):RSl w' size v n xs:=by
 obtain ⟨h1,A,c,rfl,h2,h3,h4,h5⟩:=h
 refine ⟨h1,A,c,rfl,h2,h3,h4,fun j u hu=> ?_⟩
 obtain ⟨ad,rfl,hc⟩:=h5 j u hu
 refine ⟨ad,rfl,hg.cell hc ?_⟩
 rw[block_of_add]
 rcases hv with hv|hv
 ·subst hv;simp at hu
 ·exact hv
def awayC (x:Fc) (r:Option Nat):Prop:=(x.f.path= []∨x.p.ownBlock≠r)∧(x.f.ents= []∨x.es.ownBlock≠r)
theorem RdC.grown {w w':World} {x:Fc} {r:Option Nat} (h:RdC w x) (hg:w.grownBy w' r) (ha:awayC x r):RdC w' x:=
 ⟨RSl.grown h.1 hg (ha.1.imp (fun e=>by rw[e];rfl) fun e=>e),RSl.grown h.2 hg (ha.2.imp (fun e=>by rw[e];rfl) fun e=>e)⟩
end Go.Proofs.YthlnaldahkgjnaaGreatDoor
