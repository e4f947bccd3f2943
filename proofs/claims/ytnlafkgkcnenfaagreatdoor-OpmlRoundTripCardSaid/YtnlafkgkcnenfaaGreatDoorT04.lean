/- Parts of the proof: contracts and plain laws. -/
import Derived.Test.YtnlafkgkcnenfaaGreatDoorT03
namespace Go.Proofs.YtnlafkgkcnenfaaGreatDoor
open Go Go.RowKit Go.WideMaps Go.Maps Tryz
set_option linter.unusedVariables false
set_option linter.unusedSimpArgs false
set_option linter.unusedSimpArgs false
set_option maxRecDepth 100000
set_option maxHeartbeats 16000000
def grp (l:List Ent) (s:ByteArray):List Ent:=l.filter λx=>decide (ordE.id x=s)
structure Grps (w:Wq) (B:Nat) (v:Value) (l:List Ent) (fs:List ByteArray) (gv:List Value):Prop where
 len:gv.length=fs.length
 row:w.ownsRow B 53 1 v gv.length gv
 each:∀(j:Nat) (s:ByteArray) (u:Value),fs[j]? =some s->gv[j]? =some u->OEnts w B u (grp l s)
 apart:∀(i j:Nat) (u u':Value),gv[i]? =some u->gv[j]? =some u'->i≠j->∀g,u.ownBlock=some g->u'.ownBlock≠some g
theorem Grps.ext {w w':Wq} {B:Nat} {v:Value} {l:List Ent} {fs:List ByteArray} {gv:List Value} (h:Grps w B v l fs gv) (A:Ext w w'):Grps w' B v l fs gv:=
 ⟨h.len,Ye h.row A,λj s u D F=>(h.each j s u D F).ext A,h.apart⟩
theorem Grps.nil (w:Wq) (B:Nat):Grps w B sN [] [] []:=⟨rfl,YL _ _ _ _,by simp,by simp⟩
def IdxMap (D:DataW Unit) (fs:List ByteArray):Prop:=
 IsMap D/\∀s:ByteArray,(Maps.has D (.string s.data.toList)=true↔s∈fs)/\∀j:Nat,fs[j]? =some s->D.atKey (.string s.data.toList) (.lit (.int .i64 0))= .lit (.int .i64 j)
theorem IdxMap.nil:IdxMap (.map []) []:=⟨isMap_empty,λs=>⟨by simp[Maps.has],by simp⟩⟩
theorem Kb (s:List UInt8):WideAt.IsKeyLit (.string s):=trivial
theorem IdxMap.put {D:DataW Unit} {fs:List ByteArray} {s:ByteArray} (h:IdxMap D fs) (R:s ∉ fs):IdxMap (D.put (.string s.data.toList) (.lit (.int .i64 (fs.length:Nat)))) (fs++ [s]):=by
 refine ⟨h.1.put _ _,λt=> ?_⟩;by_cases e:t=s
 ·subst e;refine ⟨⟨λ_=>by simp,λ_=>has_put_same h.1 (Kb _) _⟩,λj A=> ?_⟩;rw[atKey_put_same h.1 (Kb _)];have:j=fs.length:=by
   rcases Nat.lt_trichotomy j fs.length with F|F|F
   ·rw[YY F] at A;exact absurd (List.mem_of_getElem? A) R
   ·exact F
   ·rw[List.getElem?_eq_none (by simp;omega)] at A;cases A
  rw[this]
 ·have H:(Lit.string t.data.toList)≠ .string s.data.toList:=by intro I;injection I with I;exact e (KI I)
  obtain ⟨F,Q⟩:=h.2 t;rw[has_put_other H,F];refine ⟨by simp[e],λj A=> ?_⟩;rw[atKey_put_other H];refine Q j ?_;rcases Y6 j fs.length with J|J
  ·rwa [YY J] at A
  ·rw[Ym J] at A;rcases YO (j - fs.length) with K|K
   ·rw[K] at A;simp at A;exact absurd A.symm e
   ·rw[List.getElem?_eq_none (by simp;omega)] at A;cases A
theorem Zfm (l:List Ent) (x:Ent) (s:ByteArray):grp (l++ [x]) s=if ordE.id x=s then grp l s++ [x] else grp l s:=by
 unfold grp;rw[List.filter_append];by_cases h:ordE.id x=s
 ·rw[Zi h];simp[h]
 ·rw[Ze h];simp[h]
theorem ZfN {l:List Ent} {s:ByteArray} (h:s ∉ ordE.firsts l):grp l s= []:=by
 unfold grp;rw[List.filter_eq_nil_iff];intro x A;simp only[ZU];intro e;exact h ((ordE.mem_firsts l s).2 ⟨x,A,e⟩)
theorem Ext.grown' {B:Nat} {a b c:Wq} {row:Option Nat} (h:Ext a b) (A:b.grownBy c row) (F:∀g,row=some g->a.heap.size<=g):Ext a c:=
 Below.grown h A h.size λk D=>F k D
theorem Grps.grow {w w2:Wq} {B g cap:Nat} {l:List Ent} {fs:List ByteArray} {gv:List Value} {x:Ent} {i:Nat} {u u':Value} {s:ByteArray}
 (h:Grps w B (.slice (some ⟨g,0,none⟩) gv.length cap) l fs gv) (hl:fs.Pairwise (· ≠ ·)) (hi:fs[i]? =some s) (hu:gv[i]? =some u) (hx:ordE.id x=s)
 (hc:w2.ownsRow B 76 5 u' ((grp l s).length+1) (flatE (grp l s)++eCells x)) (hg:w.grownBy w2 u.ownBlock) (V:u'.ownBlock=u.ownBlock\/(∃W:Nat,w.heap.size<=W/\u'.ownBlock=some W)) (Z:u.ownBlock≠some g):
 Grps (w2.setCell ⟨g,i,none⟩ u') B (.slice (some ⟨g,0,none⟩) gv.length cap) (l++ [x]) fs (gv.set i u'):=by
 have Y:=h.len;have hs:=h.row.lt g rfl;have hd:u'.ownBlock≠some g:=by
  rcases V with e|⟨W,hW,e⟩
  ·rw[e];exact Z
  ·rw[e];intro S;injection S with S;omega
 have hk:∀(j:Nat) (v:Value),gv[j]? =some v->j≠i->v.ownBlock=none\/v.ownBlock≠u.ownBlock:=by
  intro j v D H;cases A:v.ownBlock with
  |none=>exact Or.inl rfl
  |some b=>exact Or.inr λe=>h.apart j i v u D hu H b A e.symm
 have R:=(h.row.kept hg (Or.inr λe=>Z e.symm));refine ⟨by rw[X9];exact Y,?_,?_,?_⟩
 ·rw[X9];exact (R.stored i u').1
 ·intro j t v H D;have ho:∀(m:Nat) (q:Value),gv[m]? =some q->(∃t,fs[m]? =some t)->q.ownBlock=none\/q.ownBlock≠some g:=by
   intro m q hq ⟨t',hn⟩;cases F:q.ownBlock with
   |none=>exact Or.inl rfl
   |some b=>
    refine Or.inr λe=> ?_;injection e with e;subst e;have h1:=(h.each m t' q hn hq).2;have U:=h.row.2;rcases h1 with ⟨rfl,_⟩|⟨b',c',hp,rfl,_,hh,_⟩
    ·cases F
    ·rcases U with ⟨U,_⟩|⟨g',hr,hf,U,_,X,_⟩
     ·cases U
     ·cases U;cases F;rw[hh] at X;simp at X
  by_cases I:j=i
  ·subst I;rw[hi] at H;injection H with H;subst H;have A:v=u':=(by rw[List.getElem?_set] at D;have:j<gv.length:=(ZT.1 hu).1;simp[this] at D;exact D.symm);subst A;rw[Zfm,Zi hx];exact OEnts.snoc (VJ hc (a:=⟨g,j,none⟩) hd v)
  ·rw[List.getElem?_set_ne (λe=>I e.symm)] at D;have ht:t≠s:=by
    intro e;subst e;have h1:=Y9.1 hl;obtain ⟨p1,q1⟩:=ZT.1 hi;obtain ⟨p2,q2⟩:=ZT.1 H;rcases Nat.lt_or_gt_of_ne I with h3|h3
    ·exact h1 j i p2 p1 h3 (q2.trans q1.symm)
    ·exact h1 i j p1 p2 h3 (q1.trans q2.symm)
   rw[Zfm,Ze (by rw[hx];exact λe=>ht e.symm)];have h4:=(h.each j t v H D).kept hg (hk j v D I);refine VJ h4 (a:=⟨g,i,none⟩) ?_ u';rcases ho j v D ⟨t,H⟩ with e|e
   ·rw[e];simp
   ·exact e
 ·intro a b v v' D A K q hq;rw[List.getElem?_set] at D A;have he:∀(m:Nat) (q':Value),gv[m]? =some q'->m≠i->∀b,u'.ownBlock=some b->q'.ownBlock≠some b:=by
   intro m q' F hm b J e;rcases V with S|⟨W,hW,S⟩
   ·rw[S] at J;exact h.apart i m u q' hu F (λe=>hm e.symm) b J e
   ·rw[S] at J;injection J with J;obtain ⟨pm,_⟩:=ZT.1 F;have h5:=h.each m (fs[m]'(by omega)) q' (Zl (by omega)) F;have:=(h5.lt b e).2;omega
  by_cases ha:i=a
  ·subst ha;have Q:i<gv.length:=(ZT.1 hu).1;simp only[J9,Zi Q,Y8] at D;subst D;rw[Ze K] at A;exact he b v' A (λe=>K e.symm) q hq
  ·rw[Ze ha] at D;by_cases J:i=b
   ·subst J;have Q:i<gv.length:=(ZT.1 hu).1;simp only[J9,Zi Q,Y8] at A;subst A;intro e;exact he a v D (λe=>ha e.symm) q e hq
   ·rw[Ze J] at A;exact h.apart a b v v' D A K q hq
theorem Grps.form {w:Wq} {B:Nat} {v:Value} {l:List Ent} {fs:List ByteArray} {gv:List Value} (h:Grps w B v l fs gv):∃A c,v= .slice A gv.length c:=by
 rcases h.row.2 with ⟨D,H⟩|⟨g,cap,F,D,_⟩
 ·exact ⟨none,0,by rw[D,H]⟩
 ·exact ⟨_,_,D⟩
theorem Grps.kept {w w2:Wq} {B m:Nat} {v:Value} {l:List Ent} {fs:List ByteArray} {gv:List Value} (h:Grps w B v l fs gv) (H:w.grownBy w2 (some m)) (J:m<B):Grps w2 B v l fs gv:=by
 have A:∀{e:TypeId} {n size:Nat} {u:Value} {xs:List Value},w.ownsRow B e size u n xs->u.ownBlock=none\/u.ownBlock≠some m:=by
  intro e n size u xs I;cases hb:u.ownBlock with
  |none=>exact Or.inl rfl
  |some b=>refine Or.inr λe=> ?_;injection e with e;have:=(I.lt b hb).1;omega
 exact ⟨h.len,h.row.kept H (A h.row),λj s u D F=>(h.each j s u D F).kept H (A (h.each j s u D F)),h.apart⟩
theorem Grps.more {w w2:Wq} {B:Nat} {v v':Value} {l:List Ent} {fs:List ByteArray} {gv:List Value} {s:ByteArray}
 (h:Grps w B v l fs gv) (hs:grp l s= []) (J:w2.ownsRow B 53 1 v' (gv.length+1) (gv++ [sN])) (hg:w.grownBy w2 v.ownBlock):
 Grps w2 B v' l (fs++ [s]) (gv++ [sN]):=by
 have I:=h.len;refine ⟨by simp[I],by simpa using J,?_,?_⟩
 ·intro j t u F D;rcases Y6 j gv.length with A|A
  ·rw[YY A] at D;rw[YY (by omega)] at F;have Y:=h.each j t u F D;refine Y.kept hg ?_;cases hu':u.ownBlock with
   |none=>exact Or.inl rfl
   |some b=>
    refine Or.inr λe=> ?_;rcases Y.2 with ⟨rfl,_⟩|⟨b',c',X,rfl,_,S,_⟩
    ·cases hu'
    ·rcases h.row.2 with ⟨rfl,_⟩|⟨g',ha,Q,rfl,_,H,_⟩
     ·cases e
     ·cases hu';cases e;rw[S] at H;simp at H
  ·rw[Ym A] at D;rw[Ym (by omega)] at F;have U:j - gv.length=0:=by
    rcases YO (j - gv.length) with Z|Z
    ·exact Z
    ·rw[List.getElem?_eq_none (by simp;omega)] at D;cases D
   rw[U] at D;rw[show j - fs.length=0 by omega] at F;simp at D F;subst D F;rw[hs];exact OEnts.nil _ _
 ·intro a b q q' hq V R m K;have last:∀(n:Nat) (u:Value),(gv++ [Value.slice none 0 0])[n]? =some u->∀m,u.ownBlock=some m->gv[n]? =some u:=by
   intro n u D m K;rcases Y6 n gv.length with A|A
   ·rwa [YY A] at D
   ·rw[Ym A] at D;have:=List.mem_of_getElem? D;simp at this;subst this;cases K
  intro e;exact h.apart a b q q' (last a q hq m K) (last b q' V m e) R m K e
section
variable {B B' n:Nat} {e:TypeId} {v:Value} {w:World} {xs:List Value}
theorem ZiU (e:Ent) (w:Wq):Calls prog 111 #[.agg (eCells e).toArray] w λx w'=>x= .returned (.string e.id)/\Ext w w':=by
 unfold eCells;go_enter func111,ntmps111;go_wp2;go_ret;exact ⟨rfl,(Ext.refl _).alloc _⟩
theorem Ux:Keyed prog 9:=string_keyed underlying9
theorem Zau (w:Wq):(zeroValue 3).run prog w= .ok (nI 0) w:=by kernel_rfl
theorem ZkY:(prog.info? 53).map (λi=>(i.zero,i.size,i.bytes))=some (some sN,1,24):=by kernel_rfl
theorem Za2 (l:List Ent):(ordE.firsts l).length<=l.length:=by
 suffices h:∀(n:Nat) (l:List Ent),l.length=n->(ordE.firsts l).length<=l.length from h _ l rfl
 intro n
 induction n with
 |zero=>intro l A;rw[Zr A];exact Zb _
 |succ n ih=>
  intro l A;obtain ⟨l',e,rfl⟩:∃l' e,l=l'++ [e]:=by
   rcases List.eq_nil_or_concat l with h|⟨l',e,h⟩
   ·subst h;simp at A
   ·exact ⟨l',e,by simpa using h⟩
  have:=ih l' (by simpa using A);rw[ordE.firsts_snoc];split<;>simp<;>omega
theorem Zh9 (l:List Ent) (s:ByteArray):(grp l s).length<=l.length:=List.length_filter_le _ _
theorem XM {size:Nat} (h:w.ownsRow B e size v n xs) (I:B'<=B):w.ownsRow B' e size v n xs:=by
 refine ⟨h.1,?_⟩;rcases h.2 with D|⟨g,cap,A,F,D,H⟩
 ·exact Or.inl D
 ·exact Or.inr ⟨g,cap,A,F,Zt I D,H⟩
theorem Grps.grow' {X w1 w w2:Wq} {B g cap:Nat} {l:List Ent} {fs:List ByteArray} {gv:List Value} {x:Ent} {i:Nat} {u u':Value} {s:ByteArray}
 (h:Grps w1 B (.slice (some ⟨g,0,none⟩) gv.length cap) l fs gv) (_hx0:Ext X w1) (V:Ext w1 w) (I:fs.Pairwise (· ≠ ·)) (S:fs[i]? =some s) (J:gv[i]? =some u) (K:ordE.id x=s)
 (F:w2.ownsRow B 76 5 u' ((grp l s).length+1) (flatE (grp l s)++eCells x)) (Q:w.grownBy w2 u.ownBlock) (H:u'.ownBlock=u.ownBlock\/u'.ownBlock=some w.heap.size) (D:u.ownBlock≠some g):
 w2.cell? ⟨g,i,none⟩=some u/\w2.frozen? ⟨g,i,none⟩=false/\Grps (w2.setCell ⟨g,i,none⟩ u') B (.slice (some ⟨g,0,none⟩) gv.length cap) (l++ [x]) fs (gv.set i u'):=by
 have R:=h.ext V;have A:=R.row.kept Q (Or.inr λe=>D e.symm);have U:i<gv.length:=(ZT.1 J).1;refine ⟨by rw[A.cellAt i (by omega)];exact J,A.frozenAt i,R.grow I S J K F Q ?_ D⟩;rcases H with e|e
 ·exact Or.inl e
 ·exact Or.inr ⟨_,Zb _,e⟩
theorem Zfj (v:Value) (l:List Ent) (w:Wq) (h:REnts w v l) (gT:∀x∈l,x.id.size<=16777216) (hn:l.length<=1000000):
 Calls prog 110 #[v,.func (.func 111) #[] #[]] w λx w'=>∃v' gv,x= .returned v'/\Grps w' w.heap.size v' l (ordE.firsts l) gv/\Ext w w':=by
 obtain ⟨i0,gO,gY,gZ,g0⟩:=Yu KQ;obtain ⟨i1,fc,fh,fi,fj⟩:=Yu ZkY;obtain ⟨A,c,rfl,fe,fb⟩:=h.form;have ft:= @run_makeMap prog;have g6:=gd gT;clear fe fb gT;go_enter func110,ntmps110;go_wp2;go_loopw [6,14] (λo i wr=>∃(k:Nat) (gv:List Value) (D:DataW Unit),k<=l.length/\i=nI k/\Grps wr (w.heap.size+1) o (l.take k) (ordE.firsts (l.take k)) gv/\wr.ownsMap prog 9 (plainElem prog 3) w.heap.size k D/\Hid (IdxMap D (ordE.firsts (l.take k)))/\Ext w wr/\w.heap.size+1<=wr.heap.size) (λ_ i _=>l.length - (intOf i).toNat)
 case atStart=>exact ⟨0,[],.map [],Zh _,rfl,Grps.nil _ _,World.ownsMap_made _ _ _ _,IdxMap.nil,(Ext.refl _).alloc _,by simp⟩
 case round=>
  obtain ⟨k,gv,D,hk,rfl,hG,hM,hD,hx,hws⟩:=hrel;by_cases hw:k<l.length
  ·obtain ⟨ad,c',hv,hp⟩:=(h.ext hx).at hw;injection hv with hv1 hv2 hc;subst hv1;clear hv2 hc;have fg:=g6.out l[k] (ZE hw);have hV:=Zn hw;have hT:=ordE.firsts_snoc (l.take k) l[k];rw[<-hV] at hT;have gn:=Za2 (l.take k);rw[ZL] at gn;have ht:=hG.len;have hU:=ordE.firsts_nodup (l.take k);obtain ⟨x,gX⟩:∃x,l[k]=x:=⟨_,rfl⟩;rw[gX] at hp fg hV hT;have gz:=gd hV;have gt:=gd hT;clear hV hT gX;have hL:=Zh9 (l.take k) x.id;rw[ZL] at hL;have U:keyOf prog 9 (.string x.id)=some (.string x.id.data.toList):=keyOf_string_mk underlying9 (by unfold maxLen;omega);have hm:=gd (λw'=>ZiU x w');have fm:(0:Int)<=(k:Int):=(by omega);have fr:(k:Int)<(l.length:Int):=(by omega);have hC:=hD.out.2 x.id;obtain ⟨a0,a1,a2,a3,a4⟩:=hp;by_cases K:x.id∈ordE.firsts (l.take k)
   ·have hh:Maps.has D (.string x.id.data.toList)=true:=hC.1.2 K;obtain ⟨j,hj⟩:=List.mem_iff_getElem?.1 K;have gQ:=hC.2 j hj;have gR:j<gv.length:=(by rw[ht];exact (ZT.1 hj).1);have g2:=gd gQ;have hz:=gd hh;have hr:=gd K;obtain ⟨g,cap,ho,hX⟩:∃g cap,(_:Value)= .slice (some ⟨g,0,none⟩) gv.length cap/\gv.length<=maxLen:=by
     rcases hG.row.2 with ⟨h1,h2⟩|⟨g,cap,fq,h1,_,_,h4,h5,_⟩
     ·omega
     ·exact ⟨g,cap,h1,Zt h4 h5⟩
    subst ho;obtain ⟨u,hu⟩:∃u,gv[j]? =some u:=⟨_,Zl gR⟩;have hq:=hG.each j x.id u hj hu;have gK:wr.cell? ⟨g,j,none⟩=some u:=(by rw[hG.row.cellAt j (by omega)];exact hu);have gL:=hG.row.frozenAt j;have gJ:=hG.row.lt g rfl;have h0:u.ownBlock≠some g:=by
     intro e;rcases hq.2 with ⟨rfl,_⟩|⟨b',c',fl,rfl,_,g9,_⟩
     ·cases e
     ·rcases hG.row.2 with ⟨h2,_⟩|⟨g',fp,g8,h2,_,gI,_⟩
      ·cases h2
      ·cases h2;cases e;rw[g9] at gI;simp at gI
    have gU:u.ownBlock≠some w.heap.size:=(by intro e;have:=(hq.lt _ e).1;omega);have g5:=gd hq;have h9:=gd hu;have h8:=gd hj;have ge:=gd h0;have gc:=gd gU;have hs:=gd gJ;have gS:(j:Int)<(gv.length:Int):=(by omega);have gP:(0:Int)<=(j:Int):=(by omega);have hl:Hid (((grp (l.take k) x.id).length+1)*72<=140737488355328):=gd (by omega);have ga:Hid ((grp (l.take k) x.id).length+1<=maxLen):=gd (by unfold maxLen;omega);have gM:gv.length<=9223372036854775807:=(by omega);have gu:=gd ht;have fk:=gd hX;clear gQ hh K hC hq hu hj h0 gU gJ ht hX gR hL gn;obtain ⟨F,Q,X,I,hi⟩:=x;simp only at a0 a1 a2 a3 a4 U;unfold eCells at hm;dsimp only at hm
    go_wp2_with (first|(go_at_call 111;refine (hm.out _).mono ?_;rintro e w2 ⟨rfl,R⟩;(have e0:=R.boxed 0 _ rfl);(have e1:=R.boxed 1 _ rfl);(have e2:=R.boxed 2 _ rfl);(have e3:=R.boxed 3 _ rfl);(have e4:=R.boxed 4 _ rfl);(have S:=(((Ext.refl wr).alloc _).trans R));(have hf:=S.cell gK);(have hJ:=(JA S hs.out.2).trans gL))|(at_lookup;refine wpList_lookup_own_ok_int _ rfl (.tmp 19) (.tmp 22) _ rfl 9 3 .i64 Ux underlying162 underlying3 (Zau _) w.heap.size k D rfl ((hM.kept (((Ext.refl wr).alloc _).grown none) (by simp)).kept (R.grown none) (by simp)) _ _ rfl U ?_;intro c hp gp;(have gH:c=(j:Int):=by (have e:=g2.out.symm.trans hp;injection e with e;injection e with _ e;exact e.symm));rw[hz.out,gH];clear hp gp gH c))
    have fo:=gd S;have h6:=gd (hG.ext S);have hS:=gd (hM.kept (S.grown none) (by simp));have hd:=gd (OEnts.ext g5.out S);have gh:=gd (hx.trans S);have gf:=gd (Zt hws S.size);have gb:=gd hU;clear hG hM U a0 a1 a2 a3 a4 gK gL R hU;have gN:g<w2.heap.size:=ZV w2 _ hf;have gG:wr.heap.size<w2.heap.size:=ZV w2 _ e0
    go_region_law (first|(refine Z4 _ (by rfl) (.tmp 43) (.tmp 45) _ (by rfl) (w.heap.size+1) 76 i0 _ 5 72 underlying53 gO gY gZ g0 rfl (by decide) u (grp (l.take k) F).length (flatE (grp (l.take k) F)) (by rfl) (Ye hd.out (by repeat (first|exact Ext.refl _|apply Ext.drew|apply Ext.alloc))) _ 1 (eCells ⟨F,Q,X,I,hi⟩) (by rfl) (RSl.ext (Yq rfl (by decide)) (by repeat (first|exact Ext.refl _|apply Ext.drew))) (XL _) ga.out hl.out (Zt gf.out (by simp)) ?_;intro v3 w3 J Y he;(obtain ⟨g3,H,hc,fa⟩:∃g3 H,v3= .slice (some ⟨g3,0,none⟩) ((grp (l.take k) F).length+1) H/\True:=by (obtain ⟨g3,H,hc,_⟩:=J.form (by omega);exact ⟨g3,H,hc,trivial⟩));subst hc;(have Z:=Grps.grow' h6.out (Ext.refl _) (by repeat (first|exact Ext.refl _|apply Ext.drew|apply Ext.alloc)) gb.out h8.out h9.out rfl J Y he ge.out);(have hI:=Z.1);(have hK:=Z.2.1);(have hO:=(hS.out.kept ((show Ext w2 _ from by repeat (first|exact Ext.refl _|apply Ext.drew|apply Ext.alloc)).grown none) (by simp)).kept Y (λe=>gc.out e.symm));(have hQ:Ext w w3:=Ext.grown' (B:=0) (Ext.trans gh.out (by repeat (first|exact Ext.refl _|apply Ext.drew|apply Ext.alloc))) Y (λb hb=>Zt (Yj _) (hd.out.lt b hb).1))))
    all_goals
     have hg:=Z.2.2
     have h7:=gd hg
     have hA:=gd (hO.setCell (a:=⟨g,j,none⟩) (show w.heap.size≠g by have:=hs.out.1;omega) (.slice (some ⟨g3,0,none⟩) ((grp (l.take k) F).length+1) H))
     have gg:=gd (hQ.setCell (p:=⟨g,j,none⟩) (show w.heap.size<=g by have:=hs.out.1;omega) (.slice (some ⟨g3,0,none⟩) ((grp (l.take k) F).length+1) H))
     clear Z hg hO hQ J Y he hI hK e0 e1 e2 e3 e4 hf hJ S
     go_wp2
     go_roundw
     case rel=>
      have hE:ordE.firsts (l.take (k+1))=ordE.firsts (l.take k):=gt.out.trans (Zi hr.out)
      exact ⟨k+1,gv.set j _,D,hw,by go_num,by rw[hE,gz.out];exact h7.out,hA.out.mono (Yj _),by rw[hE];exact hD,gg.out,hA.out.lt⟩
     case measure=>simp[intOf];omega
   ·have hh:Maps.has D (.string x.id.data.toList)=false:=by
     cases hb:Maps.has D (.string x.id.data.toList) with
     |false=>rfl
     |true=>exact absurd (hC.1.1 hb) K
    have hP:=hD.out.put (s:=x.id) K;rw[<-ht] at hP;have gy:=gd hP;have hz:=gd hh;have hr:=gd K;have hB:=gd (ZfN K);have gu:=gd ht;have gV:(Lit.int .i64 (gv.length:Nat)).wf=true:=(by simp only[Lit.wf,IntKind.min,IntKind.max,ZH];simp[IntKind.signed,IntKind.bits];omega);have g7:=gd gV;have hW:=Zg wr (.cells (eCells x).toArray 76);have h3:=gd hW;have gs:Hid ((gv.length+1)*24<=140737488355328):=gd (by omega);have gx:Hid (gv.length+1<=maxLen):=gd (by unfold maxLen;omega);have g4:Hid (k<maxLen):=gd (by unfold maxLen;omega);have gM:gv.length<=9223372036854775806:=(by omega);clear hh K hP gV hW hC gn hL ht;obtain ⟨F,Q,X,I,hi⟩:=x;simp only at a0 a1 a2 a3 a4 U;unfold eCells at hm h3;dsimp only at hm h3;obtain ⟨gA,gC,ho⟩:=hG.form;subst ho;have g1:True:=trivial
    go_wp2_with (first|(clear g1;go_at_call 111;refine (hm.out _).mono ?_;rintro e w2 ⟨rfl,R⟩;(have gk:=R.heap h3.out);(obtain ⟨e0,e1,e2,e3,e4⟩:=Zm0 gk);(have S:=(((Ext.refl wr).alloc _).trans R)))|(at_lookup;refine wpList_lookup_own_ok_int _ rfl (.tmp 19) (.tmp 22) _ rfl 9 3 .i64 Ux underlying162 underlying3 (Zau _) w.heap.size k D rfl ((hM.kept (((Ext.refl wr).alloc _).grown none) (by simp)).kept (R.grown none) (by simp)) _ _ rfl U ?_;intro c hp gp;rw[hz.out];clear hp gp)|(go_at_call 111;refine (hm.out _).mono ?_;rintro e w4 ⟨rfl,gq⟩;(have gl:=gq.heap gk);(have hR:=S.trans gq))|(at_mapUpdate;refine Uf _ rfl (.tmp 30) (.tmp 33) (.tmp 34) 162 rfl 9 3 Ux underlying162 _ w.heap.size k D rfl (hM.kept (hR.grown none) (by simp)) g4.out _ _ _ rfl rfl U _ [] (plainElem_int underlying3 g7.out) ?_;intro w5 gj hF)|(at_builtin;refine ZP _ rfl (.tmp 35) (.tmp 36) _ rfl (w.heap.size+1) 53 i1 _ 1 24 underlying166 fc fh fi fj rfl (by decide) _ gv.length gv rfl ((((hG.ext hR).kept hF (YK _)).row).alloc _) _ 1 [sN] rfl (Yq rfl (by decide)) (by intro y hy;simp at hy;subst hy;rfl) gx.out gs.out ?_ ?_;(have:=gj.lt;simp;omega);intro v6 w6 V hH gE))
    obtain ⟨g,cap,ff,hY,hZ⟩:=V.form (ZgF _);subst ff;have gW:Ext w w5:=Ext.grown' (B:=0) (hx.trans hR) hF (λb hb=>by cases hb;exact Zb _);have gB:=(hG.ext hR).kept hF (YK _);have hN:gv.length+1=(gv++ [Value.slice none 0 0]).length:=(by simp);have gi:=Grps.more (gB.ext ((Ext.refl _).alloc _)) hB.out V hH;rw[hN] at gi;have h6:=gd gi;have go:∀b,(Value.slice gA gv.length gC).ownBlock=some b->w.heap.size+1<=b:=λb hb=>(hG.row.lt b hb).1;have hS:=gd ((gj.alloc _).kept hH (λe=>by have:=go _ e.symm;omega));have gh:=gd (Ext.grown' (B:=0) (gW.alloc _) hH (λb hb=>Zt (Yj _) (go b hb)));have hq:OEnts w6 (w.heap.size+1) sN (grp (l.take k) F):=(by rw[hB.out];exact OEnts.nil _ _);have hd:=gd hq;have gD:w.heap.size+1<=w6.heap.size:=hS.out.lt;have gf:=gd gD;have gm:w5.heap[wr.heap.size]? =some (.cells #[.string F,.string Q,.string X,.string I,nI hi] 76):=(by rw[hF.block wr.heap.size (ZV w4 ⟨wr.heap.size,0,none⟩ (by rw[Xh _ _ _ _ _ _ gl];rfl)) (by simp;omega)];exact gl);have gF:w6.heap[wr.heap.size]? =some (.cells #[.string F,.string Q,.string X,.string I,nI hi] 76):=(by rw[hH.block wr.heap.size (by have:wr.heap.size<w5.heap.size:=ZV w5 ⟨wr.heap.size,0,none⟩ (by rw[Xh _ _ _ _ _ _ gm];rfl);simp;omega) (λe=>by have:=(hG.row.lt _ e.symm).2;omega)];exact ((Ext.refl w5).alloc _).heap gm);have gb:Hid ((ordE.firsts (l.take k)++ [F]).Pairwise (· ≠ ·)):=gd (by
     rw[List.pairwise_append];exact ⟨hU,by simp,λa ha b hb=>by simp at hb;subst hb;rintro rfl;exact hr.out ha⟩)
    have h8:Hid ((ordE.firsts (l.take k)++ [F])[gv.length]? =some F):=gd (by rw[gu.out];simp);have h9:Hid ((gv++ [Value.slice none 0 0])[gv.length]? =some sN):=gd (by simp);have ge:Hid ((Value.slice none 0 0).ownBlock≠some g):=gd (by intro e;cases e);have gc:Hid ((Value.slice none 0 0).ownBlock≠some w.heap.size):=gd (by intro e;cases e);have hs:=gd (Vz hY hZ);have hf:w6.cell? ⟨g,gv.length,none⟩=some sN:=(by rw[V.cellAt gv.length (by omega)];simp);have hJ:w6.frozen? ⟨g,gv.length,none⟩=false:=V.frozenAt gv.length;have gS:(gv.length:Int)<((gv.length:Nat):Int)+1:=(by omega);have fn:gv.length<gv.length+1:=(by omega);have gP:(0:Int)<=(gv.length:Int):=(by omega);have hl:Hid ((grp (l.take k) F).length+1<=1/\True):=gd ⟨by rw[hB.out];simp,trivial⟩;have ga:Hid ((grp (l.take k) F).length+1<=maxLen):=gd (Zt hl.out.1 (by decide));have gr:Hid (((grp (l.take k) F).length+1)*72<=140737488355328):=gd (by have:=hl.out.1;omega);clear hl;have hl:=gr;have gw:=gd hN;clear e0 e1 e2 e3 e4;obtain ⟨e0,e1,e2,e3,e4⟩:=Zm0 gF;clear hG gB gi hM gj U a0 a1 a2 a3 a4 R gq S hR gk gl gm gF hF hH gE V gW go hq gD hN hY hZ hU;have gN:g<w6.heap.size:=ZV w6 _ hf;have gG:wr.heap.size<w6.heap.size:=ZV w6 _ e0
    go_region_law (first|(refine Z4 _ (by rfl) (.tmp 43) (.tmp 45) _ (by rfl) (w.heap.size+1) 76 i0 _ 5 72 underlying53 gO gY gZ g0 rfl (by decide) sN (grp (l.take k) F).length (flatE (grp (l.take k) F)) (by rfl) (Ye hd.out (by repeat (first|exact Ext.refl _|apply Ext.drew|apply Ext.alloc))) _ 1 (eCells ⟨F,Q,X,I,hi⟩) (by rfl) (RSl.ext (Yq rfl (by decide)) (by repeat (first|exact Ext.refl _|apply Ext.drew))) (XL _) ga.out hl.out (Zt gf.out (by simp)) ?_;intro v3 w3 J Y he;(obtain ⟨g3,H,hc,fa⟩:∃g3 H,v3= .slice (some ⟨g3,0,none⟩) ((grp (l.take k) F).length+1) H/\True:=by (obtain ⟨g3,H,hc,_⟩:=J.form (by omega);exact ⟨g3,H,hc,trivial⟩));subst hc;(have Z:=Grps.grow' h6.out (Ext.refl _) (by repeat (first|exact Ext.refl _|apply Ext.drew|apply Ext.alloc)) gb.out h8.out h9.out rfl J Y he ge.out);(have hI:=Z.1);(have hK:=Z.2.1);(have hO:=(hS.out.kept ((show Ext w6 _ from by repeat (first|exact Ext.refl _|apply Ext.drew|apply Ext.alloc)).grown none) (by simp)).kept Y (λe=>gc.out e.symm));(have hQ:Ext w w3:=Ext.grown' (B:=0) (Ext.trans gh.out (by repeat (first|exact Ext.refl _|apply Ext.drew|apply Ext.alloc))) Y (λb hb=>Zt (Yj _) (hd.out.lt b hb).1))))
    all_goals
     have hg:=Z.2.2
     have h7:=gd hg
     have hA:=gd (hO.setCell (a:=⟨g,gv.length,none⟩) (show w.heap.size≠g by have:=hs.out.1;omega) (.slice (some ⟨g3,0,none⟩) ((grp (l.take k) F).length+1) H))
     have gg:=gd (hQ.setCell (p:=⟨g,gv.length,none⟩) (show w.heap.size<=g by have:=hs.out.1;omega) (.slice (some ⟨g3,0,none⟩) ((grp (l.take k) F).length+1) H))
     clear Z hg hO hQ J Y he hI hK e0 e1 e2 e3 e4 hf hJ
     go_wp2
     go_roundw
     case rel=>
      have hE:ordE.firsts (l.take (k+1))=ordE.firsts (l.take k)++ [F]:=gt.out.trans (Ze hr.out)
      exact ⟨k+1,(gv++ [Value.slice none 0 0]).set gv.length _,D.put (.string F.data.toList) (.lit (.int .i64 (gv.length:Nat))),hw,by go_num,by rw[hE,gz.out,gw.out];exact h7.out,hA.out,by rw[hE];exact gy.out,gg.out,hA.out.lt⟩
     case measure=>simp[intOf];omega
  ·have fd:k=l.length:=(by omega);subst fd;rw[ZR (Zb _)] at hG hD;have HG:=gd hG;clear hG hD hM hk hw;go_wp2;go_ret;refine ⟨_,gv,rfl,?_,hx⟩;have h1:=HG.out;exact ⟨h1.len,XM h1.row (Yj _),λj s u hj hu=>(h1.each j s u hj hu).mono (Yj _),h1.apart⟩
end
def RStrs (w:Wq) (v:Value) (l:List ByteArray):Prop:=RSl w 1 v l.length (l.map Value.string)
theorem RStrs.ext {w w':Wq} {v:Value} {l:List ByteArray} (h:RStrs w v l) (A:Ext w w'):RStrs w' v l:=RSl.ext h A
theorem RStrs.form {w:Wq} {v:Value} {l:List ByteArray} (h:RStrs w v l):∃A c,v= .slice A l.length c/\l.length<=c/\c<=maxLen:=by
 obtain ⟨_,A,c,e,D,F,_⟩:=h;exact ⟨A,c,e,D,F⟩
def fCells (p es:Value) (f:Fd):List Value:= [p,.string f.id,.string f.title,.string f.link,nI f.upd,es]
theorem JF:(prog.info? 55).map (λi=>i.size)=some 6:=by kernel_rfl
def sizes (l:List ByteArray):Nat:=(l.map ByteArray.size).sum
def fok (f:Fd):Prop:=i64ok f.upd/\f.path.length+sizes f.path+f.id.size+f.title.size+f.link.size<=16777216
theorem XZ {l:List ByteArray} {s:ByteArray} (h:s∈l):s.size<=sizes l:=by
 induction l with
 |nil=>simp at h
 |cons x t ih=>
  have e:sizes (x::t)=x.size+sizes t:=by unfold sizes;simp
  rcases ZK.1 h with rfl|h
  ·omega
  ·have:=ih h;omega
theorem ZkN (p es:Value) (f:Fd) (w:Wq):Calls prog 65 #[.agg (fCells p es f).toArray] w λx w'=>x= .returned (.string f.id)/\Ext w w':=by
 unfold fCells;go_enter func65,ntmps65;go_wp2;go_ret;exact ⟨rfl,(Ext.refl _).alloc _⟩
section
variable {c d g m n:Nat} {w:World}
theorem YI (w:Wq) (A B:Obj):((w.alloc A).alloc B).heap[w.heap.size+1]? =some B:=by
 have:=Zg (w.alloc A) B
 rwa [Zp] at this
structure Fc where
 p:Value
 es:Value
 f:Fd
def cellsC (x:Fc):List Value:=fCells x.p x.es x.f
def isSl (v:Value):Prop:=∃A n c,v= .slice A n c
def slC (x:Fc):Prop:=isSl x.p/\isSl x.es
theorem Jd {x:Fc} (h:slC x):∀u∈cellsC x,u.oneCell'=true:=by
 obtain ⟨p,es,f⟩:=x;obtain ⟨⟨A,n,c,D⟩,⟨B,m,d,F⟩⟩:=h;simp only at D F;subst D F;intro u H;simp only[cellsC,fCells,ZK,Z2,Xc] at H;rcases H with rfl|rfl|rfl|rfl|rfl|rfl<;>rfl
theorem ZgT (x:Fc):(cellsC x).length=6:=rfl
def RdC (w:Wq) (x:Fc):Prop:=RStrs w x.p x.f.path/\REnts w x.es x.f.ents
theorem RdC.ext {w w':Wq} {x:Fc} (h:RdC w x) (A:Ext w w'):RdC w' x:=⟨h.1.ext A,h.2.ext A⟩
theorem RdC.sl {w:Wq} {x:Fc} (h:RdC w x):slC x:=by
 obtain ⟨A,c,e,_⟩:=h.1.form;obtain ⟨B,d,D,_⟩:=h.2.form;exact ⟨⟨A,_,c,e⟩,⟨B,_,d,D⟩⟩
def flatC (l:List Fc):List Value:=(l.map cellsC).flatten
theorem ZcU (a b:List Fc):flatC (a++b)=flatC a++flatC b:=by unfold flatC;rw[ZN,GA]
theorem ZiY (x:Fc):flatC [x]=cellsC x:=by unfold flatC;simp
def RFcs (w:Wq) (v:Value) (l:List Fc):Prop:=RSl w 6 v l.length (flatC l)
def OFcs (w:Wq) (B:Nat) (v:Value) (l:List Fc):Prop:=w.ownsRow B 55 6 v l.length (flatC l)
theorem OFcs.reads {w:Wq} {B:Nat} {v:Value} {l:List Fc} (h:OFcs w B v l):RFcs w v l:=RSl.of_own h
theorem RFcs.ext {w w':Wq} {v:Value} {l:List Fc} (h:RFcs w v l) (A:Ext w w'):RFcs w' v l:=RSl.ext h A
theorem OFcs.ext {w w':Wq} {B:Nat} {v:Value} {l:List Fc} (h:OFcs w B v l) (A:Ext w w'):OFcs w' B v l:=Ye h A
theorem RFcs.form {w:Wq} {v:Value} {l:List Fc} (h:RFcs w v l):∃A c,v= .slice A l.length c/\l.length<=c/\c<=maxLen:=by
 obtain ⟨_,A,c,e,D,F,_⟩:=h;exact ⟨A,c,e,D,F⟩
theorem OFcs.nil (w:Wq) (B:Nat):OFcs w B sN []:=YL _ _ _ _
theorem OFcs.snoc {w:Wq} {B:Nat} {v:Value} {l:List Fc} {x:Fc} (h:w.ownsRow B 55 6 v (l.length+1) (flatC l++cellsC x)):OFcs w B v (l++ [x]):=by
 unfold OFcs;rw[ZcU,ZiY,Zc];exact h
theorem OFcs.mono {w:Wq} {B B':Nat} {v:Value} {l:List Fc} (h:OFcs w B v l) (A:B'<=B):OFcs w B' v l:=XM h A
structure AtFc (w:Wq) (q:Addr) (x:Fc):Prop where
 c0:w.cell? q=some x.p
 c1:w.cell? ⟨q.block,q.off+1,none⟩=some (.string x.f.id)
 c2:w.cell? ⟨q.block,q.off+2,none⟩=some (.string x.f.title)
 c3:w.cell? ⟨q.block,q.off+3,none⟩=some (.string x.f.link)
 c4:w.cell? ⟨q.block,q.off+4,none⟩=some (nI x.f.upd)
 c5:w.cell? ⟨q.block,q.off+5,none⟩=some x.es
theorem AtFc.ext {w w':Wq} {q:Addr} {x:Fc} (h:AtFc w q x) (A:Ext w w'):AtFc w' q x:=⟨A.cell h.c0,A.cell h.c1,A.cell h.c2,A.cell h.c3,A.cell h.c4,A.cell h.c5⟩
theorem RFcs.at {w:Wq} {v:Value} {l:List Fc} (h:RFcs w v l) {k:Nat} (F:k<l.length):∃ad c,v= .slice (some ad) l.length c/\AtFc w (ad.add (k*6)) l[k]:=by
 obtain ⟨ad,c,e,D⟩:=RSl.elem (k:=6) (css:=l.map cellsC) h (by decide) (by intro c D;obtain ⟨x,_,rfl⟩:=ZS.1 D;rfl) k (cellsC l[k]) (by rw[Yz,Zl F];rfl);rw[Qy] at D;have A:∀i,0<i->(ad.add (k*6)).add i=⟨(ad.add (k*6)).block,(ad.add (k*6)).off+i,none⟩:=λi H=>Ze (by omega);refine ⟨ad,c,e,?_,?_,?_,?_,?_,?_⟩
 ·have:=D 0 _ rfl;rwa [add_zero] at this
 ·have:=D 1 _ rfl;rwa [A _ (by decide)] at this
 ·have:=D 2 _ rfl;rwa [A _ (by decide)] at this
 ·have:=D 3 _ rfl;rwa [A _ (by decide)] at this
 ·have:=D 4 _ rfl;rwa [A _ (by decide)] at this
 ·have:=D 5 _ rfl;rwa [A _ (by decide)] at this
theorem ZfW {A:Option Addr} {B:Option Addr} {i t l:ByteArray} {u:Int}:(#[Value.slice A n c,.string i,.string t,.string l,nI u,.slice B m d]).all (λu=>u.oneCell')=true:=
 Zed (Jd (x:=⟨.slice A n c,.slice B m d,⟨[],i,t,l,u,[]⟩⟩) ⟨⟨_,_,_,rfl⟩,⟨_,_,_,rfl⟩⟩)
theorem Vt {A:Option Addr}:(#[Value.slice A n c]).all (λu=>u.oneCell')=true:=Zed (cs:= [Value.slice A n c]) (by intro u h;rw[Zo.1 h];rfl)
theorem RSl.grown {w w':Wq} {size n:Nat} {v:Value} {xs:List Value} {r:Option Nat} (h:RSl w size v n xs) (S:w.grownBy w' r) (D:xs= []\/v.ownBlock≠r):RSl w' size v n xs:=by
 obtain ⟨H,A,c,rfl,I,J,K,Q⟩:=h;refine ⟨H,A,c,rfl,I,J,K,λj u F=> ?_⟩;obtain ⟨ad,rfl,R⟩:=Q j u F;refine ⟨ad,rfl,S.cell R ?_⟩;rw[UD];rcases D with D|D
 ·subst D;simp at F
 ·exact D
theorem RSl.old {w:Wq} {size n:Nat} {v:Value} {xs:List Value} (h:RSl w size v n xs) (D:xs≠ []):∃g,v.ownBlock=some g/\g<w.heap.size:=by
 obtain ⟨I,A,c,rfl,J,K,Q,F⟩:=h;cases xs with
 |nil=>exact absurd rfl D
 |cons u t=>
  obtain ⟨ad,rfl,H⟩:=F 0 u rfl;refine ⟨ad.block,rfl,?_⟩;have:=ZV w _ H
  rwa [UD] at this
def awayC (x:Fc) (r:Option Nat):Prop:=(x.f.path= []\/x.p.ownBlock≠r)/\(x.f.ents= []\/x.es.ownBlock≠r)
theorem GX {x:Fc} (h:RdC w x):awayC x none:=by
 refine ⟨?_,?_⟩
 ·cases hp:x.f.path with
  |nil=>exact Or.inl rfl
  |cons s t=>obtain ⟨g,A,_⟩:=RSl.old h.1 (by rw[hp];simp);exact Or.inr (by rw[A];simp)
 ·cases hp:x.f.ents with
  |nil=>exact Or.inl rfl
  |cons s t=>obtain ⟨g,A,_⟩:=RSl.old h.2 (by rw[hp];unfold flatE;simp[eCells]);exact Or.inr (by rw[A];simp)
theorem Ge {x:Fc} (h:RdC w x) (F:w.heap.size<=g):awayC x (some g):=by
 refine ⟨?_,?_⟩
 ·cases hp:x.f.path with
  |nil=>exact Or.inl rfl
  |cons s t=>obtain ⟨k,A,D⟩:=RSl.old h.1 (by rw[hp];simp);exact Or.inr (by rw[A];intro e;injection e with e;omega)
 ·cases hp:x.f.ents with
  |nil=>exact Or.inl rfl
  |cons s t=>obtain ⟨k,A,D⟩:=RSl.old h.2 (by rw[hp];unfold flatE;simp[eCells]);exact Or.inr (by rw[A];intro e;injection e with e;omega)
theorem RdC.grown {w w':Wq} {x:Fc} {r:Option Nat} (h:RdC w x) (D:w.grownBy w' r) (A:awayC x r):RdC w' x:=
 ⟨RSl.grown h.1 D (A.1.imp (λe=>by rw[e];rfl) λe=>e),RSl.grown h.2 D (A.2.imp (λe=>by rw[e];rfl) λe=>e)⟩
structure HFs (w:Wq) (B:Nat) (v:Value) (l:List Fc):Prop where
 row:OFcs w B v l
 rd:∀x∈l,RdC w x
 away:∀x∈l,awayC x v.ownBlock
theorem HFs.nil (w:Wq) (B:Nat):HFs w B sN []:=⟨OFcs.nil _ _,by simp,by simp⟩
theorem HFs.ext {w w':Wq} {B:Nat} {v:Value} {l:List Fc} (h:HFs w B v l) (D:Ext w w'):HFs w' B v l:=⟨h.row.ext D,λx A=>(h.rd x A).ext D,h.away⟩
theorem HFs.snoc {w I:Wq} {B:Nat} {v v3:Value} {l:List Fc} {x:Fc} (h:HFs w B v l) (Q:RdC w x) (J:awayC x v.ownBlock)
 (F:I.ownsRow B 55 6 v3 (l.length+1) (flatC l++cellsC x)) (K:w.grownBy I v.ownBlock) (H:v3.ownBlock=v.ownBlock\/v3.ownBlock=some w.heap.size):HFs I B v3 (l++ [x]):=by
 have D:∀y∈l++ [x],RdC w y/\awayC y v.ownBlock:=by
  intro y A;rcases Zx.1 A with A|A
  ·exact ⟨h.rd y A,h.away y A⟩
  ·rw[Zo.1 A];exact ⟨Q,J⟩
 refine ⟨OFcs.snoc F,λy A=>(D y A).1.grown K (D y A).2,λy A=> ?_⟩;rcases H with e|e
 ·rw[e];exact (D y A).2
 ·rw[e];exact Ge (D y A).1 (Zb _)
end
section
variable {l:List Fc}
def firstsC (l:List Fc):List ByteArray:=ordF.firsts (l.map Fc.f)
open Classical in
theorem KL (l:List Fc) (e:Fc):firstsC (l++ [e])=if e.f.id∈firstsC l then firstsC l else firstsC l++ [e.f.id]:=by
 have h:=ordF.firsts_snoc (l.map Fc.f) e.f;unfold firstsC;rw[ZN,Zw,Yc];by_cases A:e.f.id∈ordF.firsts (l.map Fc.f)
 ·rw[Zi A];exact h.trans (Zi A)
 ·rw[Ze A];exact h.trans (Ze A)
theorem Zca (l:List Fc):(firstsC l).Pairwise (· ≠ ·):=ordF.firsts_nodup _
theorem E0 (l:List Fc) (k:ByteArray):k∈firstsC l↔∃x∈l,x.f.id=k:=by
 unfold firstsC;rw[ordF.mem_firsts];constructor
 ·rintro ⟨f,A,e⟩;obtain ⟨x,h,rfl⟩:=ZS.1 A;exact ⟨x,h,e⟩
 ·rintro ⟨x,h,e⟩;exact ⟨x.f,ZS.2 ⟨x,h,rfl⟩,e⟩
def grpC (l:List Fc) (s:ByteArray):List Fc:=l.filter λx=>decide (x.f.id=s)
structure GrpsC (w:Wq) (B:Nat) (v:Value) (l:List Fc) (fs:List ByteArray) (gv:List Value):Prop where
 len:gv.length=fs.length
 row:w.ownsRow B 29 1 v gv.length gv
 each:∀(j:Nat) (s:ByteArray) (u:Value),fs[j]? =some s->gv[j]? =some u->OFcs w B u (grpC l s)
 apart:∀(i j:Nat) (u u':Value),gv[i]? =some u->gv[j]? =some u'->i≠j->∀g,u.ownBlock=some g->u'.ownBlock≠some g
theorem GrpsC.ext {w w':Wq} {B:Nat} {v:Value} {l:List Fc} {fs:List ByteArray} {gv:List Value} (h:GrpsC w B v l fs gv) (A:Ext w w'):GrpsC w' B v l fs gv:=
 ⟨h.len,Ye h.row A,λj s u D F=>(h.each j s u D F).ext A,h.apart⟩
theorem GrpsC.nil (w:Wq) (B:Nat):GrpsC w B sN [] [] []:=⟨rfl,YL _ _ _ _,by simp,by simp⟩
theorem Zc5 (l:List Fc) (x:Fc) (s:ByteArray):grpC (l++ [x]) s=if x.f.id=s then grpC l s++ [x] else grpC l s:=by
 unfold grpC;rw[List.filter_append];by_cases h:x.f.id=s
 ·rw[Zi h];simp[h]
 ·rw[Ze h];simp[h]
theorem Zd8 {s:ByteArray} (h:s ∉ firstsC l):grpC l s= []:=by
 unfold grpC;rw[List.filter_eq_nil_iff];intro x A;simp only[ZU];intro e;exact h ((E0 l s).2 ⟨x,A,e⟩)
theorem GrpsC.grow {w w2:Wq} {B g cap:Nat} {l:List Fc} {fs:List ByteArray} {gv:List Value} {x:Fc} {i:Nat} {u u':Value} {s:ByteArray}
 (h:GrpsC w B (.slice (some ⟨g,0,none⟩) gv.length cap) l fs gv) (hl:fs.Pairwise (· ≠ ·)) (hi:fs[i]? =some s) (hu:gv[i]? =some u) (hx:x.f.id=s)
 (hc:w2.ownsRow B 55 6 u' ((grpC l s).length+1) (flatC (grpC l s)++cellsC x)) (hg:w.grownBy w2 u.ownBlock) (V:u'.ownBlock=u.ownBlock\/(∃W:Nat,w.heap.size<=W/\u'.ownBlock=some W)) (Z:u.ownBlock≠some g):
 GrpsC (w2.setCell ⟨g,i,none⟩ u') B (.slice (some ⟨g,0,none⟩) gv.length cap) (l++ [x]) fs (gv.set i u'):=by
 have Y:=h.len;have hs:=h.row.lt g rfl;have hd:u'.ownBlock≠some g:=by
  rcases V with e|⟨W,hW,e⟩
  ·rw[e];exact Z
  ·rw[e];intro S;injection S with S;omega
 have hk:∀(j:Nat) (v:Value),gv[j]? =some v->j≠i->v.ownBlock=none\/v.ownBlock≠u.ownBlock:=by
  intro j v D H;cases A:v.ownBlock with
  |none=>exact Or.inl rfl
  |some b=>exact Or.inr λe=>h.apart j i v u D hu H b A e.symm
 have R:=(h.row.kept hg (Or.inr λe=>Z e.symm));refine ⟨by rw[X9];exact Y,?_,?_,?_⟩
 ·rw[X9];exact (R.stored i u').1
 ·intro j t v H D;have ho:∀(m:Nat) (q:Value),gv[m]? =some q->(∃t,fs[m]? =some t)->q.ownBlock=none\/q.ownBlock≠some g:=by
   intro m q hq ⟨t',hn⟩;cases F:q.ownBlock with
   |none=>exact Or.inl rfl
   |some b=>
    refine Or.inr λe=> ?_;injection e with e;subst e;have h1:=(h.each m t' q hn hq).2;have U:=h.row.2;rcases h1 with ⟨rfl,_⟩|⟨b',c',hp,rfl,_,hh,_⟩
    ·cases F
    ·rcases U with ⟨U,_⟩|⟨g',hr,hf,U,_,X,_⟩
     ·cases U
     ·cases U;cases F;rw[hh] at X;simp at X
  by_cases I:j=i
  ·subst I;rw[hi] at H;injection H with H;subst H;have A:v=u':=(by rw[List.getElem?_set] at D;have:j<gv.length:=(ZT.1 hu).1;simp[this] at D;exact D.symm);subst A;rw[Zc5,Zi hx];exact OFcs.snoc (VJ hc (a:=⟨g,j,none⟩) hd v)
  ·rw[List.getElem?_set_ne (λe=>I e.symm)] at D;have ht:t≠s:=by
    intro e;subst e;have h1:=Y9.1 hl;obtain ⟨p1,q1⟩:=ZT.1 hi;obtain ⟨p2,q2⟩:=ZT.1 H;rcases Nat.lt_or_gt_of_ne I with h3|h3
    ·exact h1 j i p2 p1 h3 (q2.trans q1.symm)
    ·exact h1 i j p1 p2 h3 (q1.trans q2.symm)
   rw[Zc5,Ze (by rw[hx];exact λe=>ht e.symm)];have h4:=(h.each j t v H D).kept hg (hk j v D I);refine VJ h4 (a:=⟨g,i,none⟩) ?_ u';rcases ho j v D ⟨t,H⟩ with e|e
   ·rw[e];simp
   ·exact e
 ·intro a b v v' D A K q hq;rw[List.getElem?_set] at D A;have he:∀(m:Nat) (q':Value),gv[m]? =some q'->m≠i->∀b,u'.ownBlock=some b->q'.ownBlock≠some b:=by
   intro m q' F hm b J e;rcases V with S|⟨W,hW,S⟩
   ·rw[S] at J;exact h.apart i m u q' hu F (λe=>hm e.symm) b J e
   ·rw[S] at J;injection J with J;obtain ⟨pm,_⟩:=ZT.1 F;have h5:=h.each m (fs[m]'(by omega)) q' (Zl (by omega)) F;have:=(h5.lt b e).2;omega
  by_cases ha:i=a
  ·subst ha;have Q:i<gv.length:=(ZT.1 hu).1;simp only[J9,Zi Q,Y8] at D;subst D;rw[Ze K] at A;exact he b v' A (λe=>K e.symm) q hq
  ·rw[Ze ha] at D;by_cases J:i=b
   ·subst J;have Q:i<gv.length:=(ZT.1 hu).1;simp only[J9,Zi Q,Y8] at A;subst A;intro e;exact he a v D (λe=>ha e.symm) q e hq
   ·rw[Ze J] at A;exact h.apart a b v v' D A K q hq
theorem GrpsC.form {w:Wq} {B:Nat} {v:Value} {l:List Fc} {fs:List ByteArray} {gv:List Value} (h:GrpsC w B v l fs gv):∃A c,v= .slice A gv.length c:=by
 rcases h.row.2 with ⟨D,H⟩|⟨g,cap,F,D,_⟩
 ·exact ⟨none,0,by rw[D,H]⟩
 ·exact ⟨_,_,D⟩
theorem GrpsC.kept {w w2:Wq} {B m:Nat} {v:Value} {l:List Fc} {fs:List ByteArray} {gv:List Value} (h:GrpsC w B v l fs gv) (H:w.grownBy w2 (some m)) (J:m<B):GrpsC w2 B v l fs gv:=by
 have A:∀{e:TypeId} {n size:Nat} {u:Value} {xs:List Value},w.ownsRow B e size u n xs->u.ownBlock=none\/u.ownBlock≠some m:=by
  intro e n size u xs I;cases hb:u.ownBlock with
  |none=>exact Or.inl rfl
  |some b=>refine Or.inr λe=> ?_;injection e with e;have:=(I.lt b hb).1;omega
 exact ⟨h.len,h.row.kept H (A h.row),λj s u D F=>(h.each j s u D F).kept H (A (h.each j s u D F)),h.apart⟩
theorem GrpsC.more {w w2:Wq} {B:Nat} {v v':Value} {l:List Fc} {fs:List ByteArray} {gv:List Value} {s:ByteArray}
 (h:GrpsC w B v l fs gv) (hs:grpC l s= []) (J:w2.ownsRow B 29 1 v' (gv.length+1) (gv++ [sN])) (hg:w.grownBy w2 v.ownBlock):
 GrpsC w2 B v' l (fs++ [s]) (gv++ [sN]):=by
 have I:=h.len;refine ⟨by simp[I],by simpa using J,?_,?_⟩
 ·intro j t u F D;rcases Y6 j gv.length with A|A
  ·rw[YY A] at D;rw[YY (by omega)] at F;have Y:=h.each j t u F D;refine Y.kept hg ?_;cases hu':u.ownBlock with
   |none=>exact Or.inl rfl
   |some b=>
    refine Or.inr λe=> ?_;rcases Y.2 with ⟨rfl,_⟩|⟨b',c',X,rfl,_,S,_⟩
    ·cases hu'
    ·rcases h.row.2 with ⟨rfl,_⟩|⟨g',ha,Q,rfl,_,H,_⟩
     ·cases e
     ·cases hu';cases e;rw[S] at H;simp at H
  ·rw[Ym A] at D;rw[Ym (by omega)] at F;have U:j - gv.length=0:=by
    rcases YO (j - gv.length) with Z|Z
    ·exact Z
    ·rw[List.getElem?_eq_none (by simp;omega)] at D;cases D
   rw[U] at D;rw[show j - fs.length=0 by omega] at F;simp at D F;subst D F;rw[hs];exact OFcs.nil _ _
 ·intro a b q q' hq V R m K;have last:∀(n:Nat) (u:Value),(gv++ [Value.slice none 0 0])[n]? =some u->∀m,u.ownBlock=some m->gv[n]? =some u:=by
   intro n u D m K;rcases Y6 n gv.length with A|A
   ·rwa [YY A] at D
   ·rw[Ym A] at D;have:=List.mem_of_getElem? D;simp at this;subst this;cases K
  intro e;exact h.apart a b q q' (last a q hq m K) (last b q' V m e) R m K e
end
theorem Zjb:(prog.info? 29).map (λi=>(i.zero,i.size,i.bytes))=some (some sN,1,24):=by kernel_rfl
theorem ES (l:List Fc):(firstsC l).length<=l.length:=by
 suffices h:∀(n:Nat) (l:List Fc),l.length=n->(firstsC l).length<=l.length from h _ l rfl
 intro n
 induction n with
 |zero=>intro l A;rw[Zr A];exact Zb _
 |succ n ih=>
  intro l A;obtain ⟨l',e,rfl⟩:∃l' e,l=l'++ [e]:=by
   rcases List.eq_nil_or_concat l with h|⟨l',e,h⟩
   ·subst h;simp at A
   ·exact ⟨l',e,by simpa using h⟩
  have:=ih l' (by simpa using A);rw[KL];split<;>simp<;>omega
theorem Zfl (l:List Fc) (s:ByteArray):(grpC l s).length<=l.length:=List.length_filter_le _ _
theorem GrpsC.grow' {X w1 w w2:Wq} {B g cap:Nat} {l:List Fc} {fs:List ByteArray} {gv:List Value} {x:Fc} {i:Nat} {u u':Value} {s:ByteArray}
 (h:GrpsC w1 B (.slice (some ⟨g,0,none⟩) gv.length cap) l fs gv) (_hx0:Ext X w1) (V:Ext w1 w) (I:fs.Pairwise (· ≠ ·)) (S:fs[i]? =some s) (J:gv[i]? =some u) (K:x.f.id=s)
 (F:w2.ownsRow B 55 6 u' ((grpC l s).length+1) (flatC (grpC l s)++cellsC x)) (Q:w.grownBy w2 u.ownBlock) (H:u'.ownBlock=u.ownBlock\/u'.ownBlock=some w.heap.size) (D:u.ownBlock≠some g):
 w2.cell? ⟨g,i,none⟩=some u/\w2.frozen? ⟨g,i,none⟩=false/\GrpsC (w2.setCell ⟨g,i,none⟩ u') B (.slice (some ⟨g,0,none⟩) gv.length cap) (l++ [x]) fs (gv.set i u'):=by
 have R:=h.ext V;have A:=R.row.kept Q (Or.inr λe=>D e.symm);have U:i<gv.length:=(ZT.1 J).1;refine ⟨by rw[A.cellAt i (by omega)];exact J,A.frozenAt i,R.grow I S J K F Q ?_ D⟩;rcases H with e|e
 ·exact Or.inl e
 ·exact Or.inr ⟨_,Zb _,e⟩
theorem Zfk (v:Value) (l:List Fc) (w:Wq) (h:RFcs w v l) (hr:∀x∈l,slC x) (gZ:∀x∈l,x.f.id.size<=16777216) (hn:l.length<=1000000):
 Calls prog 64 #[v,.func (.func 65) #[] #[]] w λx w'=>∃v' gv,x= .returned v'/\GrpsC w' w.heap.size v' l (firstsC l) gv/\Ext w w':=by
 obtain ⟨i0,gU,g5,g6,g7⟩:=Yu Zc8;obtain ⟨i1,fi,fn,fo,fp⟩:=Yu Zjb;obtain ⟨A,c,rfl,fk,fh⟩:=h.form;have fA:= @run_makeMap prog;have fc:=gd gZ;have gG:=gd hr;clear fk fh gZ hr;go_enter func64,ntmps64;go_wp2;go_loopw [6,14] (λo i wr=>∃(k:Nat) (gv:List Value) (D:DataW Unit),k<=l.length/\i=nI k/\GrpsC wr (w.heap.size+1) o (l.take k) (firstsC (l.take k)) gv/\wr.ownsMap prog 9 (plainElem prog 3) w.heap.size k D/\Hid (IdxMap D (firstsC (l.take k)))/\Ext w wr/\w.heap.size+1<=wr.heap.size) (λ_ i _=>l.length - (intOf i).toNat)
 case atStart=>exact ⟨0,[],.map [],Zh _,rfl,GrpsC.nil _ _,World.ownsMap_made _ _ _ _,IdxMap.nil,(Ext.refl _).alloc _,by simp⟩
 case round=>
  obtain ⟨k,gv,D,hk,rfl,hG,hM,hD,hx,hws⟩:=hrel;by_cases hp:k<l.length
  ·obtain ⟨ad,c',hv,hm⟩:=(h.ext hx).at hp;injection hv with hv1 hv2 Z;subst hv1;clear hv2 Z;have fm:=fc.out l[k] (ZE hp);have hr:=gG.out l[k] (ZE hp);have h0:=Zn hp;have hY:=KL (l.take k) l[k];rw[<-h0] at hY;have gr:=ES (l.take k);rw[ZL] at gr;have hA:=hG.len;have hZ:=Zca (l.take k);obtain ⟨x,g4⟩:∃x,l[k]=x:=⟨_,rfl⟩;rw[g4] at hm fm hr h0 hY;have gF:=gd hr;have gH:=gd h0;have gy:=gd hY;clear h0 hY g4;have hO:=Zfl (l.take k) x.f.id;rw[ZL] at hO;have S:keyOf prog 9 (.string x.f.id)=some (.string x.f.id.data.toList):=keyOf_string_mk underlying9 (by unfold maxLen;omega);have hl:=gd (λw'=>ZkN x.p x.es x.f w');have fu:(0:Int)<=(k:Int):=(by omega);have fz:(k:Int)<(l.length:Int):=(by omega);have hF:=hD.out.2 x.f.id;obtain ⟨a0,a1,a2,a3,a4,a5⟩:=hm;by_cases J:x.f.id∈firstsC (l.take k)
   ·have hg:Maps.has D (.string x.f.id.data.toList)=true:=hF.1.2 J;obtain ⟨j,hj⟩:=List.mem_iff_getElem?.1 J;have gW:=hF.2 j hj;have gX:j<gv.length:=(by rw[hA];exact (ZT.1 hj).1);have g9:=gd gW;have hB:=gd hg;have hw:=gd J;obtain ⟨g,cap,ho,h6⟩:∃g cap,(_:Value)= .slice (some ⟨g,0,none⟩) gv.length cap/\gv.length<=maxLen:=by
     rcases hG.row.2 with ⟨h1,h2⟩|⟨g,cap,fy,h1,_,_,h4,h5,_⟩
     ·omega
     ·exact ⟨g,cap,h1,Zt h4 h5⟩
    subst ho;obtain ⟨u,hu⟩:∃u,gv[j]? =some u:=⟨_,Zl gX⟩;have hq:=hG.each j x.f.id u hj hu;have gQ:wr.cell? ⟨g,j,none⟩=some u:=(by rw[hG.row.cellAt j (by omega)];exact hu);have gR:=hG.row.frozenAt j;have gP:=hG.row.lt g rfl;have h9:u.ownBlock≠some g:=by
     intro e;rcases hq.2 with ⟨rfl,_⟩|⟨b',c',ft,rfl,_,ff,_⟩
     ·cases e
     ·rcases hG.row.2 with ⟨h2,_⟩|⟨g',fx,fe,h2,_,gO,_⟩
      ·cases h2
      ·cases h2;cases e;rw[ff] at gO;simp at gO
    have g0:u.ownBlock≠some w.heap.size:=(by intro e;have:=(hq.lt _ e).1;omega);have fb:=gd hq;have ge:=gd hu;have gc:=gd hj;have gi:=gd h9;have gh:=gd g0;have hz:=gd gP;have gY:(j:Int)<(gv.length:Int):=(by omega);have gV:(0:Int)<=(j:Int):=(by omega);have hi:Hid (((grpC (l.take k) x.f.id).length+1)*104<=140737488355328):=gd (by omega);have gf:Hid ((grpC (l.take k) x.f.id).length+1<=maxLen):=gd (by unfold maxLen;omega);have gS:gv.length<=9223372036854775807:=(by omega);have gz:=gd hA;have fr:=gd h6;clear gW hg J hF hq hu hj h9 g0 gP hA h6 gX hO gr;obtain ⟨xp,fq,⟨ht,F,Q,V,hh,hs⟩⟩:=x;obtain ⟨⟨xA,xn,xc,hV⟩,⟨xB,xm,xd,hU⟩⟩:=hr;simp only at hV hU;subst hV hU;simp only at a0 a1 a2 a3 a4 a5 S;unfold fCells at hl;dsimp only at hl
    go_wp2_with (first|(go_at_call 65;refine (hl.out _).mono ?_;rintro e w2 ⟨rfl,K⟩;(have e0:=K.boxed 0 _ rfl);(have e1:=K.boxed 1 _ rfl);(have e2:=K.boxed 2 _ rfl);(have e3:=K.boxed 3 _ rfl);(have e4:=K.boxed 4 _ rfl);(have e5:=K.boxed 5 _ rfl);(have R:=(((Ext.refl wr).alloc _).trans K));(have he:=R.cell gQ);(have hL:=(JA R hz.out.2).trans gR))|(at_lookup;refine wpList_lookup_own_ok_int _ rfl (.tmp 19) (.tmp 22) _ rfl 9 3 .i64 Ux underlying162 underlying3 (Zau _) w.heap.size k D rfl ((hM.kept (((Ext.refl wr).alloc _).grown none) (by simp)).kept (K.grown none) (by simp)) _ _ rfl S ?_;intro c hm gt;(have gN:c=(j:Int):=by (have e:=g9.out.symm.trans hm;injection e with e;injection e with _ e;exact e.symm));rw[hB.out,gN];clear hm gt gN c))
    have fw:=gd R;have ga:=gd (hG.ext R);have hX:=gd (hM.kept (R.grown none) (by simp));have hc:=gd (OFcs.ext fb.out R);have gl:=gd (hx.trans R);have gj:=gd (Zt hws R.size);have gg:=gd hZ;clear hG hM S a0 a1 a2 a3 a4 a5 gQ gR K hZ;have gT:g<w2.heap.size:=ZV w2 _ he;have gM:wr.heap.size<w2.heap.size:=ZV w2 _ e0
    go_region_law (first|(refine Z4 _ (by rfl) (.tmp 43) (.tmp 45) _ (by rfl) (w.heap.size+1) 55 i0 _ 6 104 underlying29 gU g5 g6 g7 rfl (by decide) u (grpC (l.take k) F).length (flatC (grpC (l.take k) F)) (by rfl) (Ye hc.out (by repeat (first|exact Ext.refl _|apply Ext.drew|apply Ext.alloc))) _ 1 (cellsC ⟨.slice xA xn xc,.slice xB xm xd,⟨ht,F,Q,V,hh,hs⟩⟩) (by rfl) (RSl.ext (Yq rfl (by decide)) (by repeat (first|exact Ext.refl _|apply Ext.drew))) (Jd gF.out) gf.out hi.out (Zt gj.out (by simp)) ?_;intro v3 w3 I X hd;(obtain ⟨g3,H,Z,fg⟩:∃g3 H,v3= .slice (some ⟨g3,0,none⟩) ((grpC (l.take k) F).length+1) H/\True:=by (obtain ⟨g3,H,Z,_⟩:=I.form (by omega);exact ⟨g3,H,Z,trivial⟩));subst Z;(have Y:=GrpsC.grow' ga.out (Ext.refl _) (by repeat (first|exact Ext.refl _|apply Ext.drew|apply Ext.alloc)) gg.out gc.out ge.out rfl I X hd gi.out);(have hK:=Y.1);(have hN:=Y.2.1);(have hQ:=(hX.out.kept ((show Ext w2 _ from by repeat (first|exact Ext.refl _|apply Ext.drew|apply Ext.alloc)).grown none) (by simp)).kept X (λe=>gh.out e.symm));(have hS:Ext w w3:=Ext.grown' (B:=0) (Ext.trans gl.out (by repeat (first|exact Ext.refl _|apply Ext.drew|apply Ext.alloc))) X (λb hb=>Zt (Yj _) (hc.out.lt b hb).1))))
    all_goals
     have hf:=Y.2.2
     have gb:=gd hf
     have hC:=gd (hQ.setCell (a:=⟨g,j,none⟩) (show w.heap.size≠g by have:=hz.out.1;omega) (.slice (some ⟨g3,0,none⟩) ((grpC (l.take k) F).length+1) H))
     have gk:=gd (hS.setCell (p:=⟨g,j,none⟩) (show w.heap.size<=g by have:=hz.out.1;omega) (.slice (some ⟨g3,0,none⟩) ((grpC (l.take k) F).length+1) H))
     clear Y hf hQ hS I X hd hK hN e0 e1 e2 e3 e4 e5 he hL R
     go_wp2
     go_roundw
     case rel=>
      have hH:firstsC (l.take (k+1))=firstsC (l.take k):=gy.out.trans (Zi hw.out)
      exact ⟨k+1,gv.set j _,D,hp,by go_num,by rw[hH,gH.out];exact gb.out,hC.out.mono (Yj _),by rw[hH];exact hD,gk.out,hC.out.lt⟩
     case measure=>simp[intOf];omega
   ·have hg:Maps.has D (.string x.f.id.data.toList)=false:=by
     cases hb:Maps.has D (.string x.f.id.data.toList) with
     |false=>rfl
     |true=>exact absurd (hF.1.1 hb) J
    have hR:=hD.out.put (s:=x.f.id) J;rw[<-hA] at hR;have gE:=gd hR;have hB:=gd hg;have hw:=gd J;have hE:=gd (Zd8 J);have gz:=gd hA;have g1:(Lit.int .i64 (gv.length:Nat)).wf=true:=(by simp only[Lit.wf,IntKind.min,IntKind.max,ZH];simp[IntKind.signed,IntKind.bits];omega);have fd:=gd g1;have h3:=Zg wr (.cells (cellsC x).toArray 55);have hW:=gd h3;have gx:Hid ((gv.length+1)*24<=140737488355328):=gd (by omega);have gD:Hid (gv.length+1<=maxLen):=gd (by unfold maxLen;omega);have fa:Hid (k<maxLen):=gd (by unfold maxLen;omega);have gS:gv.length<=9223372036854775806:=(by omega);clear hg J hR g1 h3 hF gr hO hA;obtain ⟨xp,fq,⟨ht,F,Q,V,hh,hs⟩⟩:=x;obtain ⟨⟨xA,xn,xc,hV⟩,⟨xB,xm,xd,hU⟩⟩:=hr;simp only at hV hU;subst hV hU;simp only at a0 a1 a2 a3 a4 a5 S;unfold cellsC at hW;unfold fCells at hl hW;dsimp only at hl hW;obtain ⟨gA,gC,ho⟩:=hG.form;subst ho;have g8:True:=trivial
    go_wp2_with (first|(clear g8;go_at_call 65;refine (hl.out _).mono ?_;rintro e w2 ⟨rfl,K⟩;(have go:=K.heap hW.out);(obtain ⟨e0,e1,e2,e3,e4,e5⟩:=ZgP go);(have R:=(((Ext.refl wr).alloc _).trans K)))|(at_lookup;refine wpList_lookup_own_ok_int _ rfl (.tmp 19) (.tmp 22) _ rfl 9 3 .i64 Ux underlying162 underlying3 (Zau _) w.heap.size k D rfl ((hM.kept (((Ext.refl wr).alloc _).grown none) (by simp)).kept (K.grown none) (by simp)) _ _ rfl S ?_;intro c hm gt;rw[hB.out];clear hm gt)|(go_at_call 65;refine (hl.out _).mono ?_;rintro e w4 ⟨rfl,gu⟩;(have gp:=gu.heap go);(have hT:=R.trans gu))|(at_mapUpdate;refine Uf _ rfl (.tmp 30) (.tmp 33) (.tmp 34) 162 rfl 9 3 Ux underlying162 _ w.heap.size k D rfl (hM.kept (hT.grown none) (by simp)) fa.out _ _ _ rfl rfl S _ [] (plainElem_int underlying3 fd.out) ?_;intro w5 gn hI)|(at_builtin;refine ZP _ rfl (.tmp 35) (.tmp 36) _ rfl (w.heap.size+1) 29 i1 _ 1 24 underlying117 fi fn fo fp rfl (by decide) _ gv.length gv rfl ((((hG.ext hT).kept hI (YK _)).row).alloc _) _ 1 [sN] rfl (Yq rfl (by decide)) (by intro y hy;simp at hy;subst hy;rfl) gD.out gx.out ?_ ?_;(have:=gn.lt;simp;omega);intro v6 w6 U hJ gK))
    obtain ⟨g,cap,fl,h7,h8⟩:=U.form (ZgF _);subst fl;have g2:Ext w w5:=Ext.grown' (B:=0) (hx.trans hT) hI (λb hb=>by cases hb;exact Zb _);have gI:=(hG.ext hT).kept hI (YK _);have hP:gv.length+1=(gv++ [Value.slice none 0 0]).length:=(by simp);have gm:=GrpsC.more (gI.ext ((Ext.refl _).alloc _)) hE.out U hJ;rw[hP] at gm;have ga:=gd gm;have gs:∀b,(Value.slice gA gv.length gC).ownBlock=some b->w.heap.size+1<=b:=λb hb=>(hG.row.lt b hb).1;have hX:=gd ((gn.alloc _).kept hJ (λe=>by have:=gs _ e.symm;omega));have gl:=gd (Ext.grown' (B:=0) (g2.alloc _) hJ (λb hb=>Zt (Yj _) (gs b hb)));have hq:OFcs w6 (w.heap.size+1) sN (grpC (l.take k) F):=(by rw[hE.out];exact OFcs.nil _ _);have hc:=gd hq;have gJ:w.heap.size+1<=w6.heap.size:=hX.out.lt;have gj:=gd gJ;have gq:w5.heap[wr.heap.size]? =some (.cells #[.slice xA xn xc,.string F,.string Q,.string V,nI hh,.slice xB xm xd] 55):=(by rw[hI.block wr.heap.size (ZV w4 ⟨wr.heap.size,0,none⟩ (by rw[Xh _ _ _ _ _ _ gp];rfl)) (by simp;omega)];exact gp);have gL:w6.heap[wr.heap.size]? =some (.cells #[.slice xA xn xc,.string F,.string Q,.string V,nI hh,.slice xB xm xd] 55):=(by rw[hJ.block wr.heap.size (by have:wr.heap.size<w5.heap.size:=ZV w5 ⟨wr.heap.size,0,none⟩ (by rw[Xh _ _ _ _ _ _ gq];rfl);simp;omega) (λe=>by have:=(hG.row.lt _ e.symm).2;omega)];exact ((Ext.refl w5).alloc _).heap gq);have gg:Hid ((firstsC (l.take k)++ [F]).Pairwise (· ≠ ·)):=gd (by
     rw[List.pairwise_append];exact ⟨hZ,by simp,λa ha b hb=>by simp at hb;subst hb;rintro rfl;exact hw.out ha⟩)
    have gc:Hid ((firstsC (l.take k)++ [F])[gv.length]? =some F):=gd (by rw[gz.out];simp);have ge:Hid ((gv++ [Value.slice none 0 0])[gv.length]? =some sN):=gd (by simp);have gi:Hid ((Value.slice none 0 0).ownBlock≠some g):=gd (by intro e;cases e);have gh:Hid ((Value.slice none 0 0).ownBlock≠some w.heap.size):=gd (by intro e;cases e);have hz:=gd (Vz h7 h8);have he:w6.cell? ⟨g,gv.length,none⟩=some sN:=(by rw[U.cellAt gv.length (by omega)];simp);have hL:w6.frozen? ⟨g,gv.length,none⟩=false:=U.frozenAt gv.length;have gY:(gv.length:Int)<((gv.length:Nat):Int)+1:=(by omega);have fv:gv.length<gv.length+1:=(by omega);have gV:(0:Int)<=(gv.length:Int):=(by omega);have hi:Hid ((grpC (l.take k) F).length+1<=1/\True):=gd ⟨by rw[hE.out];simp,trivial⟩;have gf:Hid ((grpC (l.take k) F).length+1<=maxLen):=gd (Zt hi.out.1 (by decide));have gw:Hid (((grpC (l.take k) F).length+1)*104<=140737488355328):=gd (by have:=hi.out.1;omega);clear hi;have hi:=gw;have gB:=gd hP;clear e0 e1 e2 e3 e4 e5;obtain ⟨e0,e1,e2,e3,e4,e5⟩:=ZgP gL;clear hG gI gm hM gn S a0 a1 a2 a3 a4 a5 K gu R hT go gp gq gL hI hJ gK U g2 gs hq gJ hP h7 h8 hZ;have gT:g<w6.heap.size:=ZV w6 _ he;have gM:wr.heap.size<w6.heap.size:=ZV w6 _ e0
    go_region_law (first|(refine Z4 _ (by rfl) (.tmp 43) (.tmp 45) _ (by rfl) (w.heap.size+1) 55 i0 _ 6 104 underlying29 gU g5 g6 g7 rfl (by decide) sN (grpC (l.take k) F).length (flatC (grpC (l.take k) F)) (by rfl) (Ye hc.out (by repeat (first|exact Ext.refl _|apply Ext.drew|apply Ext.alloc))) _ 1 (cellsC ⟨.slice xA xn xc,.slice xB xm xd,⟨ht,F,Q,V,hh,hs⟩⟩) (by rfl) (RSl.ext (Yq rfl (by decide)) (by repeat (first|exact Ext.refl _|apply Ext.drew))) (Jd gF.out) gf.out hi.out (Zt gj.out (by simp)) ?_;intro v3 w3 I X hd;(obtain ⟨g3,H,Z,fg⟩:∃g3 H,v3= .slice (some ⟨g3,0,none⟩) ((grpC (l.take k) F).length+1) H/\True:=by (obtain ⟨g3,H,Z,_⟩:=I.form (by omega);exact ⟨g3,H,Z,trivial⟩));subst Z;(have Y:=GrpsC.grow' ga.out (Ext.refl _) (by repeat (first|exact Ext.refl _|apply Ext.drew|apply Ext.alloc)) gg.out gc.out ge.out rfl I X hd gi.out);(have hK:=Y.1);(have hN:=Y.2.1);(have hQ:=(hX.out.kept ((show Ext w6 _ from by repeat (first|exact Ext.refl _|apply Ext.drew|apply Ext.alloc)).grown none) (by simp)).kept X (λe=>gh.out e.symm));(have hS:Ext w w3:=Ext.grown' (B:=0) (Ext.trans gl.out (by repeat (first|exact Ext.refl _|apply Ext.drew|apply Ext.alloc))) X (λb hb=>Zt (Yj _) (hc.out.lt b hb).1))))
    all_goals
     have hf:=Y.2.2
     have gb:=gd hf
     have hC:=gd (hQ.setCell (a:=⟨g,gv.length,none⟩) (show w.heap.size≠g by have:=hz.out.1;omega) (.slice (some ⟨g3,0,none⟩) ((grpC (l.take k) F).length+1) H))
     have gk:=gd (hS.setCell (p:=⟨g,gv.length,none⟩) (show w.heap.size<=g by have:=hz.out.1;omega) (.slice (some ⟨g3,0,none⟩) ((grpC (l.take k) F).length+1) H))
     clear Y hf hQ hS I X hd hK hN e0 e1 e2 e3 e4 e5 he hL
     go_wp2
     go_roundw
     case rel=>
      have hH:firstsC (l.take (k+1))=firstsC (l.take k)++ [F]:=gy.out.trans (Ze hw.out)
      exact ⟨k+1,(gv++ [Value.slice none 0 0]).set gv.length _,D.put (.string F.data.toList) (.lit (.int .i64 (gv.length:Nat))),hp,by go_num,by rw[hH,gH.out,gB.out];exact gb.out,hC.out,by rw[hH];exact gE.out,gk.out,hC.out.lt⟩
     case measure=>simp[intOf];omega
  ·have fj:k=l.length:=(by omega);subst fj;rw[ZR (Zb _)] at hG hD;have HG:=gd hG;clear hG hD hM hk hp;go_wp2;go_ret;refine ⟨_,gv,rfl,?_,hx⟩;have h1:=HG.out;exact ⟨h1.len,XM h1.row (Yj _),λj s u hj hu=>(h1.each j s u hj hu).mono (Yj _),h1.apart⟩
def withE (f:Fd) (l:List Ent):Fd:={f with ents:=l}
theorem Zd6 (a b:Fd) (x y:List Ent):laterF (withE a x) (withE b y)=laterF a b:=by
 unfold laterF;rw[show feedKey (withE a x)=feedKey a from rfl,show feedKey (withE b y)=feedKey b from rfl];rw[show (withE a x).upd=a.upd from rfl,show (withE b y).upd=b.upd from rfl];cases laterB (iCmp a.upd b.upd) (feedKey a) (feedKey b)<;>rfl
theorem Zd7 (a b:Fd) (x:List Ent):laterF (withE a x) b=laterF a b:=Zd6 a b x b.ents
theorem KM:∀(t:List Fd) (a:Fd) (x z:List Ent),withE (t.foldl laterF (withE a x)) z=withE (t.foldl laterF a) z
 | [],_,_,_=>rfl
 |h::t,a,x,z=>by rw[List.foldl_cons,List.foldl_cons,Zd7]
theorem Zbi:∀(t:List Fd) (g:Fd),ordE.canon g.ents=g.ents->t.foldl joinF g=withE (t.foldl laterF g) (ordE.canon (g.ents++(t.map Fd.ents).flatten))
 | [],g,h=>by
  rw[Yc,List.flatten_nil,ZX,h]
  rfl
 |x::t,g,h=>by
  have A:joinF g x=withE (laterF g x) (ordE.canon (g.ents++x.ents)):=by
   rw[ordE.canon_append,h]
   rfl
  rw[List.foldl_cons,Zbi t (joinF g x) (by rw[A];exact ordE.canon_canon _),A,KM,List.foldl_cons]
  refine ZC (withE _) ?_
  show ordE.canon (ordE.canon (g.ents++x.ents)++(t.map Fd.ents).flatten)=_
  rw[ordE.canon_append,ordE.canon_canon,<-ordE.canon_append,ZQ,Zw,X0]
def jF (l:List Fd) (s:ByteArray):Fd:=(ordF.got l s).getD zeroF
theorem Zfy (l:List Fd):ordF.joined l=(ordF.firsts l).map (jF l):=by
 have D:∀fs:List ByteArray,(∀s∈fs,s∈ordF.firsts l)->fs.filterMap (ordF.got l)=fs.map (jF l):=by
  intro fs
  induction fs with
  |nil=>intro _;rfl
  |cons s t ih=>intro h;obtain ⟨x,F⟩:=(Ord.got_isSome_iff (O:=ordF) l s).2 ((ordF.mem_firsts l s).1 (h s (by simp)));rw[List.filterMap_cons_some F,Zw,ih λs A=>h s (by simp[A])];unfold jF;rw[F];rfl
 exact D _ λs A=>A
theorem Zmp {l:List Fd} {s:ByteArray} {x:Fd} {t:List Fd} (h:(l.filter λx=>decide (x.id=s))=x::t) (D:ordE.canon x.ents=x.ents):
 jF l s=withE (t.foldl laterF x) (ordE.canon (x.ents++(t.map Fd.ents).flatten)):=by
 rw[<-Zbi t x D];unfold jF Ord.got;have A:(l.filter λx=>decide (ordF.id x=s))=x::t:=h;rw[A];rfl
section
theorem QH:∀(l out:List UInt8) (g:Bool),(collGo l out g).length<=out.length+l.length+(if g=true then 1 else 0)
 | [],out,g=>by simp only[collGo,ZM];omega
 |c::t,out,g=>by
  simp only[collGo]
  by_cases h:isSp c.toNat=true
  ·rw[Zi h]
   have:=QH t out (!out.isEmpty)
   rw[Zd]
   split at this<;>omega
  ·rw[Ze h]
   have:=QH t (out++(if g=true then [32] else [])++ [c]) false
   simp only[YV,Vq,Zc,Zd,ZM] at this
   rw[Zd]
   cases g
   ·simp only[YV,Vq,ZM] at this|-;omega
   ·simp only[J9,Zd,ZM] at this|-;omega
theorem Y5 (s:ByteArray):(collapse s).size<=s.size:=by
 unfold collapse coll;rw[YH];have:=QH s.data.toList [] false;simp only[YV,Vq,ZM] at this;rw[ZO] at this;omega
theorem Ze4 {e:Ent} (h:eok e):eok (collE e):=by
 obtain ⟨A,D⟩:=h;refine ⟨A,?_⟩;have a:=Y5 e.id;have b:=Y5 e.title;have c:=Y5 e.link;have d:=Y5 e.content;show (collapse e.id).size+(collapse e.title).size+(collapse e.link).size+(collapse e.content).size<=16777216;omega
theorem ZbL:∀l:List ByteArray,sizes (l.map collapse)<=sizes l
 | []=>Zb _
 |s::t=>by
  have h:=ZbL t
  have a:=Y5 s
  unfold sizes at*
  simp only[Zw,Yn] at h|-
  omega
theorem ZkP {f:Fd} (h:fok f):fok (collF f):=by
 obtain ⟨A,D⟩:=h;refine ⟨A,?_⟩;have a:=Y5 f.id;have b:=Y5 f.title;have c:=Y5 f.link;have d:=ZbL f.path;show (f.path.map collapse).length+sizes (f.path.map collapse)+(collapse f.id).size+(collapse f.title).size+(collapse f.link).size<=16777216;rw[Zm];omega
theorem Zc4:∀(t:List Ent) (x:Ent),t.foldl laterE x∈x::t
 | [],x=>by simp
 |y::t,x=>by
  have h:=Zc4 t (laterE x y)
  rw[List.foldl_cons]
  rcases ZK.1 h with h|h
  ·rw[h]
   unfold laterE
   split<;>simp
  ·simp[h]
theorem ZgQ {l:List Ent} {x:Ent} (h:x∈ordE.canon l):x∈l:=by
 have A:=((ordE.canon_is l).2 x).1 h;unfold Ord.got at A;cases hf:l.filter λy=>decide (ordE.id y=ordE.id x) with
 |nil=>rw[hf] at A;cases A
 |cons y t=>
  rw[hf] at A;have F:t.foldl laterE y=x:=by unfold Ord.fold1 at A;injection A
  have D:=Zc4 t y;rw[F,<-hf] at D;exact (Y0.1 D).1
section
variable {α κ:Type} (O:Ord α κ)
theorem Zid:∀(l:List α) (e:α),(O.ins l e).length=l.length+1
 | [],_=>rfl
 |x::t,e=>by
  unfold Ord.ins
  split
  ·rfl
  ·rw[Zd,Zid t e,Zd]
end
section
variable {α κ:Type} [DecidableEq κ] (O:Ord α κ)
theorem ZmB (l:List α) (e:α):(O.put l e).length<=l.length+1:=by
 unfold Ord.put;rw[Zid,O.scan_fst];have:=List.length_filter_le (λx=> !decide (O.id x=O.id e)) l;omega
theorem V7:∀(l s:List α),(l.foldl O.put s).length<=s.length+l.length
 | [],s=>by simp
 |x::t,s=>by
  have h:=V7 t (O.put s x)
  have:=ZmB O s x
  rw[List.foldl_cons,Zd]
  omega
theorem IM (l:List α):(O.canon l).length<=l.length:=by
 have:=V7 O l [];unfold Ord.canon;simpa using this
end
theorem Zbn {a b:Fd} (h:fok a) (A:fok b):fok (laterF a b):=by
 unfold laterF;cases laterB (iCmp a.upd b.upd) (feedKey a) (feedKey b)
 ·exact h
 ·exact A
theorem Zc1:∀(t:List Fd) (x:Fd),fok x->(∀y∈t,fok y)->fok (t.foldl laterF x)
 | [],_,h,_=>h
 |y::t,x,h,ht=>Zc1 t _ (Zbn h (ht y (by simp))) λz A=>ht z (by simp[A])
def fokS (f:Fd):Prop:=fok f/\f.ents.length<=1000000/\∀e∈f.ents,eok e
theorem ZcZ {f:Fd} (h:fokS f):fokS (collF f):=by
 refine ⟨ZkP h.1,?_,λe A=> ?_⟩
 ·show (ordE.canon (f.ents.map collE)).length<=1000000;have:=IM ordE (f.ents.map collE);rw[Zm] at this;have:=h.2.1;omega
 ·obtain ⟨x,D,rfl⟩:=ZS.1 (ZgQ (show e∈ordE.canon (f.ents.map collE) from A));exact Ze4 (h.2.2 x D)
end
section
variable {B c cap g i n:Nat} {W w w1:World} {v:Value} {z:ByteArray}
theorem Zdz:∀(l:List (Addr×ByteArray)) (w:Wq) (p:Addr×ByteArray) (u:Value),p∈l->(l.Pairwise λp q=>p.1≠q.1)->w.cell? p.1=some u->(setS w l).cell? p.1=some (.string p.2)
 | [],_,_,_,h,_,_=>by simp at h
 |q::t,w,p,u,h,hap,hu=>by
  have A:=Xs.1 hap
  rcases ZK.1 h with h|h
  ·subst h
   rw[setS,U2 t _ _ λr F=>(A.1 r F).symm]
   exact GV _ _ _ hu
  ·have D:q.1≠p.1:=A.1 p h
   rw[setS]
   exact Zdz t _ p u h A.2 (by rw[YP w q.1 p.1 _ D];exact hu)
theorem Ext.setS {a:Wq}:∀(l:List (Addr×ByteArray)) {b:Wq},Ext a b->(∀p∈l,a.heap.size<=p.1.block)->Ext a (setS b l)
 | [],_,h,_=>h
 |p::t,b,h,hl=>Ext.setS t (h.setCell (hl p (by simp)) _) λq A=>hl q (by simp[A])
def ptrsAt (g:Nat):Nat->List ByteArray->List (Addr×ByteArray)
 |_,[]=> []
 |i,s::t=>(⟨g,i,none⟩,s)::ptrsAt g (i+1) t
theorem Qe (g:Nat):∀(l:List ByteArray) (i:Nat),(ptrsAt g i l).length=l.length
 | [],_=>rfl
 |s::t,i=>by rw[ptrsAt,Zd,Qe g t,Zd]
theorem Qd (g:Nat):∀(l:List ByteArray) (i k:Nat),(ptrsAt g i l)[k]? =l[k]?.map λs=>(⟨g,i+k,none⟩,s)
 | [],_,_=>by simp[ptrsAt]
 |s::t,i,0=>by simp[ptrsAt]
 |s::t,i,k+1=>by
  rw[ptrsAt,List.getElem?_cons_succ,Qd g t,List.getElem?_cons_succ]
  rw[show i+1+k=i+(k+1) by omega]
theorem UZ {l:List ByteArray} {p:Addr×ByteArray} (h:p∈ptrsAt g i l):∃k s,l[k]? =some s/\p=(⟨g,i+k,none⟩,s):=by
 obtain ⟨k,A⟩:=List.mem_iff_getElem?.1 h;rw[Qd] at A;cases hl:l[k]? with
 |none=>rw[hl] at A;cases A
 |some s=>rw[hl] at A;injection A with A;exact ⟨k,s,hl,A.symm⟩
theorem Zbz (g:Nat):∀(l:List ByteArray) (i:Nat),(ptrsAt g i l).map (·.2)=l
 | [],_=>rfl
 |s::t,i=>by rw[ptrsAt,Zw,Zbz g t]
theorem Zby (g:Nat) (h:ByteArray->ByteArray):∀(l:List ByteArray) (i:Nat),(ptrsAt g i l).map (λp=>(p.1,h p.2))=ptrsAt g i (l.map h)
 | [],_=>rfl
 |s::t,i=>by rw[ptrsAt,Zw,Zby g h t,Zw,ptrsAt]
theorem Iq (g:Nat):∀(l:List ByteArray) (i:Nat),(ptrsAt g i l).Pairwise λp q=>p.1≠q.1
 | [],_=>List.Pairwise.nil
 |s::t,i=>by
  rw[ptrsAt,Xs]
  refine ⟨λp A=> ?_,Iq g t _⟩
  obtain ⟨k,s,_,rfl⟩:=UZ A
  intro e
  have h:=ZC Addr.off e
  simp only at h
  omega
def ptrsF (g b:Nat) (l:List ByteArray) (x y z:ByteArray):List (Addr×ByteArray):=ptrsAt g 0 l++ [(⟨b,1,none⟩,x),(⟨b,2,none⟩,y),(⟨b,3,none⟩,z)]
theorem ZjV (g b:Nat) (l:List ByteArray) (x y z:ByteArray):(ptrsF g b l x y z).length=l.length+3:=by unfold ptrsF;rw[Zc,Qe];rfl
theorem Eh (g b:Nat) (l:List ByteArray) (x y z:ByteArray):(ptrsF g b l x y z).map (·.2)=l++ [x,y,z]:=by unfold ptrsF;rw[ZN,Zbz];rfl
theorem ZjW (g b:Nat) (h:ByteArray->ByteArray) (l:List ByteArray) (x y z:ByteArray):(ptrsF g b l x y z).map (λp=>(p.1,h p.2))=ptrsF g b (l.map h) (h x) (h y) (h z):=by unfold ptrsF;rw[ZN,Zby];rfl
theorem E3 {b:Nat} (h:g≠b) (l:List ByteArray) (x y z:ByteArray):(ptrsF g b l x y z).Pairwise λp q=>p.1≠q.1:=by
 unfold ptrsF;rw[List.pairwise_append];refine ⟨Iq g l 0,by simp,λp F q A=> ?_⟩;obtain ⟨k,s,_,rfl⟩:=UZ F;simp only[ZK,Z2,Xc] at A;intro e;have D:=ZC Addr.block e;rcases A with rfl|rfl|rfl<;>exact h D
theorem Zdw {b:Nat} {l:List ByteArray} {x y:ByteArray} {p:Addr×ByteArray} (h:p∈ptrsF g b l x y z):p.1.block=g\/p.1.block=b:=by
 unfold ptrsF at h;rcases Zx.1 h with h|h
 ·obtain ⟨k,s,_,rfl⟩:=UZ h;exact Or.inl rfl
 ·simp only[ZK,Z2,Xc] at h;rcases h with rfl|rfl|rfl<;>exact Or.inr rfl
theorem ZjX {b:Nat} {A:Option Addr} {l:List ByteArray} {x y x0 y0 z0:ByteArray} {p e t:Value} {ll:List ByteArray} (H:g≠b) (hl:ll.length=l.length)
 (hA:0<l.length->A=some ⟨g,0,none⟩) (hr:RStrs w (.slice A l.length cap) ll)
 (Y:w.cell? ⟨b,0,none⟩=some p) (Z:w.cell? ⟨b,1,none⟩=some (.string x0)) (h2:w.cell? ⟨b,2,none⟩=some (.string y0)) (h3:w.cell? ⟨b,3,none⟩=some (.string z0)) (h4:w.cell? ⟨b,4,none⟩=some t) (h5:w.cell? ⟨b,5,none⟩=some e)
 (V:Ext (setS w (ptrsF g b l x y z)) w1):
 RStrs w1 (.slice A l.length cap) l/\w1.cell? ⟨b,0,none⟩=some p/\w1.cell? ⟨b,1,none⟩=some (.string x)/\w1.cell? ⟨b,2,none⟩=some (.string y)/\w1.cell? ⟨b,3,none⟩=some (.string z)/\w1.cell? ⟨b,4,none⟩=some t/\w1.cell? ⟨b,5,none⟩=some e:=by
 have S:=E3 H l x y z;have F:∀(i:Nat) (u:Value),(i=0\/i=4\/i=5)->w.cell? ⟨b,i,none⟩=some u->w1.cell? ⟨b,i,none⟩=some u:=by
  intro i u hi h;refine V.cell ?_;rw[U2 _ _ _ λq D=> ?_]
  ·exact h
  ·unfold ptrsF at D;rcases Zx.1 D with D|D
   ·obtain ⟨k,s,_,rfl⟩:=UZ D;intro e;exact H (ZC Addr.block e)
   ·simp only[ZK,Z2,Xc] at D;intro e;have X:=ZC Addr.off e;rcases D with rfl|rfl|rfl<;>simp only at X<;>omega
 have J:∀(q:Addr×ByteArray) (u:Value),q∈ptrsF g b l x y z->w.cell? q.1=some u->w1.cell? q.1=some (.string q.2):=λq u D h=>V.cell (Zdz _ _ q u D S h);refine ⟨?_,F 0 p (Or.inl rfl) Y,J (⟨b,1,none⟩,x) _ (by simp[ptrsF]) Z,J (⟨b,2,none⟩,y) _ (by simp[ptrsF]) h2,J (⟨b,3,none⟩,z) _ (by simp[ptrsF]) h3,F 4 t (Or.inr (Or.inl rfl)) h4,F 5 e (Or.inr (Or.inr rfl)) h5⟩;obtain ⟨q1,A',c',e1,q2,q3,q4,q5⟩:=hr;injection e1 with e1 e2 e3;subst e1 e3;refine ⟨by simp,A,cap,rfl,by omega,q3,q4,λj u h=> ?_⟩;rw[Yz] at h;cases hlj:l[j]? with
 |none=>rw[hlj] at h;cases h
 |some s=>
  rw[hlj] at h;injection h with h;subst h;have hb:j<l.length:=(ZT.1 hlj).1;have K:=hA (by omega);subst K;refine ⟨_,rfl,?_⟩;have I:j<ll.length:=by omega
  obtain ⟨ad,Q,U⟩:=q5 j (.string ll[j]) (by rw[Yz,Zl I];rfl);injection Q with Q;subst Q;have R:(⟨g,0,none⟩:Addr).add j=⟨g,j,none⟩:=by unfold Addr.add;split<;>simp_all
  rw[R] at U|-;refine J (⟨g,j,none⟩,s) _ ?_ U;unfold ptrsF;refine XP _ (List.mem_iff_getElem?.2 ⟨j,?_⟩);rw[Qd,hlj];simp
theorem Qu:∀(l:List (Addr×ByteArray)) (w:Wq) (k:Nat),(∀p∈l,p.1.block≠k)->(setS w l).heap[k]? =w.heap[k]?
 | [],_,_,_=>rfl
 |p::t,w,k,h=>by
  rw[setS,Qu t _ k λq A=>h q (by simp[A])]
  simp only[World.setCell,Xj]
  rw[Ze (h p (by simp))]
theorem Yi (w:Wq) (a:Addr) (v:Value):w.grownBy (w.setCell a v) (some a.block):=
 ⟨rfl,rfl,rfl,by simp[World.setCell],λk _ h=>ZZ w a k v λe=>h (by rw[e])⟩
theorem Yo (w:Wq) (g:Nat) (cs:Array Value):w.grownBy (w.setRow g cs) (some g):=
 ⟨rfl,rfl,rfl,by simp[World.setRow],λk _ h=>Z9 w g k cs λe=>h (by rw[e])⟩
theorem ZkO {b:Nat} {A:Option Addr} {l:List ByteArray} {x y:ByteArray} (I:g≠b) (X:0<l.length->A=some ⟨g,0,none⟩)
 (D:W.ownsRow B 9 1 (.slice A l.length cap) l.length (l.map Value.string))
 (S:W.cell? ⟨b,1,none⟩=some (.string x)) (U:W.cell? ⟨b,2,none⟩=some (.string y)) (V:W.cell? ⟨b,3,none⟩=some (.string z)) (K:W.frozen? ⟨b,1,none⟩=false) (Q:W.frozen? ⟨b,2,none⟩=false) (R:W.frozen? ⟨b,3,none⟩=false)
 (Z:∀s∈l++ [x,y,z],s.size<=16777216) (F:RSl W 1 v (l.length+3) ((ptrsF g b l x y z).map λp=>Value.pointer (some p.1))):Ptrs W v (ptrsF g b l x y z):=by
 refine ⟨by rw[ZjV];exact F,λp h=> ?_,λp h=> ?_,E3 I l x y z⟩
 ·unfold ptrsF at h;rcases Zx.1 h with h|h
  ·obtain ⟨k,s,J,rfl⟩:=UZ h;have Y:k<l.length:=(ZT.1 J).1;have H:=X (by omega);subst H;have hz:0+k=k:=(by omega);simp only[hz];refine ⟨?_,D.frozenAt k⟩;rw[D.cellAt k (by omega),Yz,J];rfl
  ·simp only[ZK,Z2,Xc] at h;rcases h with rfl|rfl|rfl
   ·exact ⟨S,K⟩
   ·exact ⟨U,Q⟩
   ·exact ⟨V,R⟩
 ·refine Z _ ?_;have:p.2∈(ptrsF g b l x y z).map (·.2):=ZS.2 ⟨p,h,rfl⟩
  rwa [Eh] at this
theorem Zf6 (g:Nat) (l:List ByteArray) (k:Nat) (A:k<l.length):((ptrsAt g 0 l).take (k+1)).map (λp=>Value.pointer (some p.1))=((ptrsAt g 0 l).take k).map (λp=>Value.pointer (some p.1))++ [.pointer (some ⟨g,k,none⟩)]:=by
 have h:k<(ptrsAt g 0 l).length:=by rw[Qe];exact A
 rw[Zn h,ZN];have e:=Qd g l 0 k;rw[Zl h,Zl A] at e;injection e with e;rw[e];simp
theorem Ze5:∀(l:List Ent) (k:Nat) (A:k<l.length),(∀e∈l.take k,errE e=0)->errE l[k]≠0->errEs l=errE l[k]
 | [],k,A,_,_=>by simp at A
 |e::t,0,_,_,h=>by simp only[errEs];rw[Ze (by simpa using h)];rfl
 |e::t,k+1,A,h,h2=>by
  simp only[errEs]
  rw[Zi (h e (by simp)),Ze5 t k (by simpa using A) (λx D=>h x (by simp[D])) (by simpa using h2)]
  rfl
theorem JU {A:Option Addr} {l:List ByteArray} (x:ByteArray) (X:n=l.length) (R:0<l.length->A=some ⟨g,0,none⟩) (h:RStrs w (.slice A n c) l) (S:l.length<=9223372036854775807):
 Calls prog 104 #[.slice A n c,.string x] w λe w'=>e= .returned (.bool (l.any λs=>decide (s=x)))/\w'=w:=by
 subst X;rcases YO l.length with F|F
 ·have V:=Zr F;subst V;exact slices_Contains_string_empty A c x w
 ·have H:=R F;subst H;have U:∀j,j<l.length->w.cell? ⟨g,0+j,none⟩=some (.string (l.getD j ByteArray.empty)):=by intro j K;obtain ⟨_,Z,c',e,_,_,_,q⟩:=h;injection e with e1 e2 e3;subst e1;obtain ⟨ad,I,D⟩:=q j (.string l[j]) (by rw[Yz,Zl K];rfl);injection I with I;subst I;have J:(⟨g,0,none⟩:Addr).add j=⟨g,0+j,none⟩:=(by unfold Addr.add;split<;>simp_all);rw[J] at D;rw[D,ZW,Zl K];rfl
  refine (slices_Contains_string g 0 l.length c l x w (Zb _) S U).mono ?_;rintro e w' ⟨rfl,rfl⟩;refine ⟨?_,rfl⟩;rw[ZR (Zb _)];refine ZC (λb=>Ending.returned (.bool b)) ?_;rw[YZ,Lib.containsS_iff,XC];constructor
  ·intro h;exact ⟨x,h,by simp⟩
  ·rintro ⟨s,Y,e⟩;have Q:s=x:=(by simpa using e);rw[<-Q];exact Y
end
end Go.Proofs.YtnlafkgkcnenfaaGreatDoor
