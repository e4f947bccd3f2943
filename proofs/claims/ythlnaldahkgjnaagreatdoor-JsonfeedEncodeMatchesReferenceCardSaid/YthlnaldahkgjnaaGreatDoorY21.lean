/- Parts of the proof: contracts and plain laws. -/
import Derived.Test.YthlnaldahkgjnaaGreatDoorY20
namespace Go.Proofs.YthlnaldahkgjnaaGreatDoor
open Go Go.RowKit Go.WideMaps Go.Maps
set_option linter.unusedVariables false
set_option linter.unusedSimpArgs false
set_option maxRecDepth 100000
set_option maxHeartbeats 16000000
section
set_option linter.unusedSimpArgs false
theorem valid_noS:Lib.validD noS.data.toList=true:=by decide+kernel
theorem memJ_in {N:Nat} {j x:JO} {n:ByteArray} (h:jgood N j) (hm:memJ j n=some x):jgood N x:=by
 unfold memJ at hm
 cases hg:getJ j n with
 |none=>rw[hg] at hm;cases hm
 |some y=>
  rw[hg] at hm
  simp only at hm
  split at hm
  ·cases hm
  ·injection hm with hm
   subst hm
   cases j with
   |obj a ks vs=>
    rw[jgood] at h
    exact h.2.2.2.2 y (lookG_mem ks vs n y hg)
   |_=>simp[getJ] at hg
theorem textJ_size {N M:Nat} (hN:N≤M) (hM:21≤M) {j:JO} (h:jgood N j) (n:ByteArray):(textJ j n).size≤M:=by
 unfold textJ
 cases hm:memJ j n with
 |none=>exact Nat.zero_le _
 |some x=>
  have hg:=memJ_in h hm
  cases x with
  |int a v=>
   rw[jgood] at hg
   show (str (Lib.itoa v)).size≤M
   rw[str_size]
   have:=Lib.itoa_length_le v hg.2.1 hg.2.2
   omega
  |str a s=>rw[jgood] at hg;show s.size≤M;omega
  |_=>exact Nat.zero_le _
def szE (M:Nat) (e:Ent):Prop:=∀s∈strsE e,s.size≤M
def szF (M K:Nat) (f:Fd):Prop:=(∀s∈ [f.id,f.title,f.link],s.size≤M)∧(∀e∈f.ents,szE M e)∧f.ents.length≤K
theorem entryJ_size {N M:Nat} (hN:N≤M) (hM:21≤M) {j:JO} (h:jgood N j) {e:Ent} (he:entryJ j= .ok e):szE M e:=by
 unfold entryJ at he
 split at he
 ·cases he
 ·split at he
  ·cases he
  ·split at he
   ·cases he
   ·split at he
    ·cases he
    ·injection he with he
     subst he
     have ht:=textJ_size hN hM h
     intro s hs
     simp only[strsE,entJO,List.mem_cons,List.not_mem_nil,or_false] at hs
     rcases hs with rfl|rfl|rfl|rfl
     ·exact ht _
     ·exact ht _
     ·exact ht _
     ·split<;>exact ht _
theorem entsJ_size {N M:Nat} (hN:N≤M) (hM:21≤M):∀{l:List JO} {es:List Ent},(∀j∈l,jgood N j)→entsJ l= .ok es→∀e∈es,szE M e
 | [],es,_,h=>by injection h with h;subst h;simp
 |j::t,es,hg,h=>by
  unfold entsJ at h
  split at h
  ·cases h
  ·rename_i x hx
   split at h
   ·cases h
   ·rename_i l hl
    injection h with h
    subst h
    intro e he
    rcases List.mem_cons.1 he with rfl|he
    ·exact entryJ_size hN hM (hg j (List.mem_cons_self ..)) hx
    ·exact entsJ_size hN hM (fun y hy=>hg y (List.mem_cons_of_mem _ hy)) hl e he
theorem decJ_size {N M:Nat} (hN:N≤M) (hM:21≤M) {j:JO} (h:jgood N j) {f:Fd} (hf:decJ j= .ok f):szF M N f:=by
 have ht:=textJ_size hN hM h
 have hid:(feedId j).size≤M:=by unfold feedId;split<;>exact ht _
 have h3:∀s∈ [feedId j,textJ j nTitle,textJ j nHome],s.size≤M:=by
  intro s hs
  simp only[List.mem_cons,List.not_mem_nil,or_false] at hs
  rcases hs with rfl|rfl|rfl
  ·exact hid
  ·exact ht _
  ·exact ht _
 unfold decJ at hf
 split at hf
 ·cases hf
 ·split at hf
  ·cases hf
  ·split at hf
   ·cases hf
   ·split at hf
    ·cases hf
    ·split at hf
     ·injection hf with hf
      subst hf
      exact ⟨h3,by simp,Nat.zero_le _⟩
     ·rename_i x hx
      have hg:=memJ_in h hx
      split at hf
      ·cases hf
      ·split at hf
       ·cases hf
       ·rename_i l hl
        injection hf with hf
        subst hf
        have hitems:(∀y∈itemsJ x,jgood N y)∧(itemsJ x).length≤N:=by
         cases x with
         |arr a l=>rw[jgood] at hg;exact ⟨hg.2.2,hg.2.1⟩
         |_=>exact ⟨by simp[itemsJ],Nat.zero_le _⟩
        exact ⟨h3,entsJ_size hN hM hitems.1 hl,by have:=(entsJ_ok hl).2;show l.length≤N;omega⟩
end
section
set_option linter.unusedSimpArgs false
structure QM where
 k:ByteArray
 n:ByteArray
 o:Bool
 v:ByteArray
def outQ (q:QM):List (ByteArray×ByteArray):=if (!q.o|| !decide (q.v=noS))=true then [(q.n,q.v)] else []
def outM (l:List QM):List (ByteArray×ByteArray):=l.flatMap outQ
def rowM (l:List QM):List ByteArray:=l.flatMap fun q=> [q.k,q.v]
def cellM (p:ByteArray×ByteArray):List Value:=mcell (p.1,strCells p.2,0)
theorem rowM_at:∀(l:List QM) (k:Nat) (h:k<l.length),(rowM l)[2*k]? =some l[k].k∧(rowM l)[2*k+1]? =some l[k].v
 |q::t,0,_=>⟨rfl,rfl⟩
 |q::t,k+1,h=>by
  have ih:=rowM_at t k (by simpa using h)
  unfold rowM at ih⊢
  rw[List.flatMap_cons]
  simp only[List.cons_append,List.nil_append]
  rw[show 2*(k+1)=2*k+1+1 by omega]
  simp only[List.getElem?_cons_succ,List.getElem_cons_succ]
  exact ih
theorem outM_take {l:List QM} {k:Nat} (h:k<l.length):outM (l.take (k+1))=outM (l.take k)++outQ l[k]:=by
 unfold outM
 rw[List.take_succ_eq_append_getElem h,List.flatMap_append]
 simp
theorem outM_len:∀l:List QM,(outM l).length≤l.length
 | []=>Nat.le_refl _
 |q::t=>by
  have ih:=outM_len t
  unfold outM at ih⊢
  rw[List.flatMap_cons,List.length_append,List.length_cons]
  have:(outQ q).length≤1:=by unfold outQ;split<;>simp
  omega
theorem cellM_one (p:ByteArray×ByteArray):∀u∈cellM p,u.oneCell'=true:=by
 intro u hu
 rcases List.mem_cons.1 hu with rfl|hu
 ·rfl
 ·rcases List.mem_append.1 hu with hu|hu
  ·exact vcells_one u hu
  ·rcases List.mem_singleton.1 hu with rfl;rfl
theorem info_partsM:∃i0,Tryz.prog.info? 56=some i0∧i0.zero=some (.agg #[.string ⟨#[]⟩,.int .i64 0,.bool false,.int .i64 0,.string ⟨#[]⟩,.slice none 0 0,.slice none 0 0,.int .i64 0,.int .i64 0])∧i0.size=9∧i0.bytes=120:=info_parts info_mem
theorem jMemberS_any (qn qv:ByteArray) (w:World):Calls Tryz.prog 52 #[.string qn,.agg (strCells qv).toArray] w fun e w'=>e= .returned (.agg #[.string qn,.int .i64 3,.bool false,.int .i64 0,.string qv,.slice none 0 0,.slice none 0 0,.int .i64 0,.int .i64 0])∧Ext w w':=jMember_any qn 1 (.str qv) (strCells qv) w (strCells_rvn w qv)
theorem cutS_any (s:ByteArray) (w:World) (hs:s.size≤1000000):Calls Tryz.prog 98 #[.string s,.string ⟨#[63]⟩] w fun e w'=>e= .returned (.tuple #[.string (str (Lib.trimSuffix s.data.toList [63])),.bool (Lib.hasSuffix s.data.toList [63])])∧w'=w:=Tryz.strings_CutSuffix s ⟨#[63]⟩ w (by omega)
theorem members_any (l:List QM) (sb:Nat) (w:World) (hs:w.heap[sb]? =some (.cells ((rowM l).map Value.string).toArray 9 (0,0)))
 (hc:∀q∈l,Lib.hasSuffix q.k.data.toList [63]=q.o∧str (Lib.trimSuffix q.k.data.toList [63])=q.n∧q.k.size≤1000) (hn:l.length≤1000):
 Calls Tryz.prog 51 #[.slice (some ⟨sb,0,none⟩) (2*l.length) (2*l.length)] w fun e w'=>∃v',e= .returned v'∧w'.ownsRow w.heap.size 56 9 v' (outM l).length ((outM l).map cellM).flatten∧Ext w w':=by
 obtain ⟨i0,hi0,hz0,hz1,hz2⟩:=info_partsM
 obtain ⟨n,hnl⟩:∃n,2*l.length=n:=⟨_,rfl⟩
 rw[hnl]
 have HN:=gd hnl
 have HC:=gd hc
 clear hc hnl
 go_enter Tryz.func51,Tryz.ntmps51
 go_wp2
 go_loopw [3,4] (fun v i wr=>∃(k t:Nat),k≤l.length∧i= .int .i64 (t:Nat)∧Hid (t=2*k)∧wr.ownsRow w.heap.size 56 9 v (outM (l.take k)).length ((outM (l.take k)).map cellM).flatten∧Ext w wr) (fun _ i _=>n - (intOf i).toNat)
 case atStart=>exact ⟨0,0,Nat.zero_le _,rfl,rfl,World.ownsRow_nil _ _ _ _,Ext.refl _⟩
 case round=>
  obtain ⟨k,t,hk,rfl,ht,hown,hx⟩:=hrel
  have ht2:=ht.out
  have hn2:=HN.out
  by_cases hlt:k<l.length
  ·obtain ⟨e1,e2⟩:=rowM_at l k hlt
   have hsw:=hx.heap hs
   have hS:∀i s,(rowM l)[i]? =some s→wr.cell? ⟨sb,i,none⟩=some (.string s):=fun i s h=>by
    obtain ⟨hi,rfl⟩:=List.getElem?_eq_some_iff.1 h
    exact names_cell hsw hi
   have q0:=hS _ _ e1
   have q1:=hS _ _ e2
   rw[←ht2] at q0 q1
   obtain ⟨c1,c2,c3⟩:=HC.out l[k] (List.getElem_mem hlt)
   have hot:=outM_take hlt
   obtain ⟨Q,hQ⟩:∃Q,l[k]=Q:=⟨_,rfl⟩
   rw[hQ] at q0 q1 c1 c2 c3 hot
   obtain ⟨qk,qn,qo,qv⟩:=Q
   dsimp only at q0 q1 c1 c2 c3
   have hol:=outM_len (l.take k)
   rw[List.length_take] at hol
   have hcut:=cutS_any qk wr (by omega)
   rw[c1,c2] at hcut
   have HCUT:=gd hcut
   have g0:(0:Int)≤(t:Int):=by omega
   have g1:(t:Int)<(n:Int):=by omega
   have g2:(t:Int)+1<(n:Int):=by omega
   have g3:(0:Int)≤(t:Int)+1:=by omega
   have hadd:(⟨sb,0,none⟩:Addr).add t=⟨sb,t,none⟩:=by unfold Addr.add;split<;>simp_all
   have hadd1:(⟨sb,0,none⟩:Addr).add (t+1)=⟨sb,t+1,none⟩:=by unfold Addr.add;split<;>simp_all
   have htb:t≤2000:=by omega
   have HT:=gd ht2
   have HN2:=gd hn2
   have HWE:Hid (Value.int .i64 ((t:Int)+2)= .int .i64 ((t+2:Nat):Int)):=gd (by rw[Int.natCast_add];rfl)
   have HMS:Hid (n - (intOf (Value.int .i64 ((t:Int)+2))).toNat<n - (intOf (Value.int .i64 (t:Int))).toNat):=gd (by simp only[intOf];omega)
   have HOUT:Hid (t+2=2*(k+1)):=gd (by omega)
   by_cases hin:(!qo|| !decide (qv=noS))=true
   ·have hoq:outQ ⟨qk,qn,qo,qv⟩= [(qn,qv)]:=if_pos hin
    rw[hoq] at hot
    have hown':∀(v:Value) (w':World),w'.ownsRow w.heap.size 56 9 v ((outM (l.take k)).length+1) (((outM (l.take k)).map cellM).flatten++cellM (qn,qv))→w'.ownsRow w.heap.size 56 9 v (outM (l.take (k+1))).length ((outM (l.take (k+1))).map cellM).flatten:=fun v w' h=>by
     rw[hot,List.length_append,List.map_append,List.flatten_append]
     simpa using h
    have HOW:=gd hown'
    have hbool:qo=false∨qo=true∧qv.toList.isEmpty=false:=by
     cases qo with
     |false=>exact Or.inl rfl
     |true=>exact Or.inr ⟨rfl,ne_noS (by simpa using hin)⟩
    have HOWN:=gd hown
    have HX:=gd hx
    have hml:(outM (l.take k)).length+1≤maxLen:=by unfold maxLen;omega
    have hby:((outM (l.take k)).length+1)*120≤140737488355328:=by omega
    have HML:=gd hml
    have HBY:=gd hby
    clear hot hoq hin e1 e2 hS hQ c1 c2 c3 hcut hown' hsw ht2 hn2 hown hx hol hml hby
    rcases hbool with rfl|⟨rfl,hem⟩
    all_goals go_wp2_with (first|(at_builtin;refine wpList_append_rsl _ rfl (.tmp 32) (.tmp 41) _ rfl w.heap.size 56 i0 _ 9 120 Tryz.underlying23 hi0 hz0 hz1 hz2 rfl (by decide) _ (outM (l.take k)).length ((outM (l.take k)).map cellM).flatten rfl hown9' _ 1 (cellM (qn,qv)) rfl hnew (cellM_one _) HML.out HBY.out (HX.out.trans hx9).size ?_;intro v9 w9 hown9 hg9 hat9)|(go_at_call 52;(refine Calls.mono (jMemberS_any qn qv w7) ?_);rintro e w8 ⟨rfl,hx8⟩;(have hx9:=(hx7.trans hx8).alloc (.cells #[.string qn,.int .i64 3,.bool false,.int .i64 0,.string qv,.slice none 0 0,.slice none 0 0,.int .i64 0,.int .i64 0] 56));(have hnew:RSl (w8.alloc (.cells #[.string qn,.int .i64 3,.bool false,.int .i64 0,.string qv,.slice none 0 0,.slice none 0 0,.int .i64 0,.int .i64 0] 56)) 9 (.slice (some ⟨w8.heap.size,0,none⟩) 1 1) 1 (cellM (qn,qv)):=rsl_new (w:=w8) (n:=1) (cs:= [.string qn,.int .i64 3,.bool false,.int .i64 0,.string qv,.slice none 0 0,.slice none 0 0,.int .i64 0,.int .i64 0]) rfl (by decide));(have hown9':=own_ext HOWN.out hx9))|(go_at_call 99;(refine Calls.mono (jString_any qv wr) ?_);rintro e w7 ⟨rfl,hx7⟩)|(go_at_call 98;(have hz:=HCUT.out);(with_reducible refine Calls.mono hz ?_);clear hz;rintro e w6 ⟨rfl,hw6⟩;(have hw6':=hw6.symm);clear hw6;subst hw6'))
    all_goals go_roundw
    all_goals have hxx:Ext w w9:=(HX.out.trans hx9).app hg9 (own_ext HOWN.out hx9) (Nat.le_refl _)
    case rel=>exact ⟨k+1,t+2,hlt,HWE.out,HOUT.out,HOW.out _ _ hown9,hxx⟩
    case measure=>exact HMS.out
    case rel=>exact ⟨k+1,t+2,hlt,HWE.out,HOUT.out,HOW.out _ _ hown9,hxx⟩
    case measure=>exact HMS.out
   ·have hin2:qo=true∧qv=noS:=by
     rw[Bool.not_eq_true,Bool.or_eq_false_iff] at hin
     exact ⟨by simpa using hin.1,by simpa using hin.2⟩
    obtain ⟨rfl,rfl⟩:=hin2
    have hoq:outQ ⟨qk,qn,true,noS⟩= []:=rfl
    rw[hoq,List.append_nil] at hot
    have hown':=hown
    rw[←hot] at hown'
    have HOW:=gd hown'
    have HX:=gd hx
    clear hot hoq hin e1 e2 hS hQ c1 c2 c3 hcut hown' hsw ht2 hn2 hown hx hol
    have q1':wr.cell? ⟨sb,t+1,none⟩=some (.string ⟨#[]⟩):=q1
    clear q1
    go_wp2_with (go_at_call 98;(have hz:=HCUT.out);(with_reducible refine Calls.mono hz ?_);clear hz;rintro e w6 ⟨rfl,hw6⟩;(have hw6':=hw6.symm);clear hw6;subst hw6')
    go_roundw
    case rel=>exact ⟨k+1,t+2,hlt,HWE.out,HOUT.out,HOW.out,HX.out⟩
    case measure=>exact HMS.out
  ·have hke:k=l.length:=by omega
   have g2:¬(t:Int)+1<(n:Int):=by omega
   have htb:t≤2000:=by omega
   subst hke
   rw[List.take_length] at hown
   clear ht2 hn2
   go_wp2
   go_ret
   exact ⟨_,rfl,hown,hx⟩
end
theorem refCheckE_any (e:Ent) (w:World) (hs:eokS e):
 Calls Tryz.prog 60 #[.agg (eCells e).toArray] w fun x w'=>x= .returned (.int .i64 (if okE e=true then 0 else 22))∧Ext w w':=by
 obtain ⟨R,hR⟩:∃R:Int,(if (validS e.id && (validS e.title && (validS e.link && (validS e.content && true))) && !decide (e.id=noS) && inT e.upd)=true then 0 else 22)=R:=⟨_,rfl⟩
 rw[show (if okE e=true then (0:Int) else 22)=R from hR]
 obtain ⟨s0,s1,s2,s3⟩:=hs
 have V0:=gd (fun w'=>refValid_any e.id w' (by omega))
 have V1:=gd (fun w'=>refValid_any e.title w' (by omega))
 have V2:=gd (fun w'=>refValid_any e.link w' (by omega))
 have V3:=gd (fun w'=>refValid_any e.content w' (by omega))
 have VT:=gd (fun w'=>refInTime_any e.upd w')
 have h4:e.id.toList.isEmpty=decide (e.id=noS):=by
  by_cases h:e.id=noS
  ·rw[h,ByteArray.toList_eq];rfl
  ·rw[ne_noS h,decide_eq_false h]
 clear s0 s1 s2 s3
 obtain ⟨id,title,link,content,upd⟩:=e
 unfold eCells
 dsimp only at*
 generalize validS id=b0 at*
 generalize validS title=b1 at*
 generalize validS link=b2 at*
 generalize validS content=b3 at*
 generalize decide (id=noS)=b4 at*
 generalize inT upd=b5 at*
 cases b0;rotate_left;cases b1;rotate_left;cases b2;rotate_left;cases b3;rotate_left;cases b4;cases b5
 all_goals
  simp at hR
  subst hR
  go_enter Tryz.func60,Tryz.ntmps60
  go_wp2_with (first|(go_at_call 58;(with_reducible refine Calls.mono (V0.out _) ?_);rintro e w1 ⟨rfl,hx1⟩;(have k1:=hx1.boxed 1 _ rfl))|(go_at_call 58;(with_reducible refine Calls.mono (V1.out _) ?_);rintro e w2 ⟨rfl,hx2⟩;(have hy2:=hx1.trans hx2);(have k2:=hy2.boxed 2 _ rfl))|(go_at_call 58;(with_reducible refine Calls.mono (V2.out _) ?_);rintro e w3 ⟨rfl,hx3⟩;(have hy3:=hy2.trans hx3);(have k3:=hy3.boxed 3 _ rfl))|(go_at_call 58;(with_reducible refine Calls.mono (V3.out _) ?_);rintro e w4 ⟨rfl,hx4⟩;(have hy4:=hy3.trans hx4);(have k4:=hy4.boxed 0 _ rfl);(have k5:=hy4.boxed 4 _ rfl))|(go_at_call 59;(with_reducible refine Calls.mono (VT.out _) ?_);rintro e w5 ⟨rfl,rfl⟩))
  go_ret
  exact ⟨rfl,((Ext.refl _).alloc _).trans (by assumption)⟩
theorem mInTime_any (t:Int) (w:World):
 Calls Tryz.prog 91 #[.int .i64 t] w fun e w'=>e= .returned (.bool (inT t))∧w=w':=by
 unfold inT
 go_enter Tryz.func91,Tryz.ntmps91
 go_wp2
 all_goals go_ret
 all_goals exact ⟨by simp_all<;>omega,rfl⟩
theorem checked_any (b:Bool) (w:World):
 Calls Tryz.prog 90 #[.bool b] w fun e w'=>e= .returned (.int .i64 (if b=true then 0 else 22))∧w=w':=by
 cases b with
 |true=>
  go_enter Tryz.func90,Tryz.ntmps90
  go_wp2
  go_ret
  exact ⟨rfl,rfl⟩
 |false=>
  go_enter Tryz.func90,Tryz.ntmps90
  go_wp2
  go_ret
  exact ⟨rfl,rfl⟩
theorem mEntID_any (e:Ent) (w:World):Calls Tryz.prog 89 #[.agg (eCells e).toArray] w fun x w'=>x= .returned (.string e.id)∧Ext w w':=by
 unfold eCells
 go_enter Tryz.func89,Tryz.ntmps89
 go_wp2
 go_ret
 exact ⟨rfl,(Ext.refl _).alloc _⟩
theorem mAll_any (v:Value) (l:List ByteArray) (w:World) (hE:Env w) (h:RStrs w v l) (hs:∀s∈l,s.size≤16777216) (hn:l.length≤16777216):
 Calls Tryz.prog 88 #[v] w fun e w'=>e= .returned (.bool (l.all validS))∧Ext w w':=by
 obtain ⟨A,c,rfl, -, -⟩:=h.form
 obtain ⟨R,hR⟩:∃R,l.all validS=R:=⟨_,rfl⟩
 rw[hR]
 have HR:=gd hR
 have HS:=gd hs
 have HH:=gd h
 have HEW:=gd hE
 clear hR hs h hE
 go_enter Tryz.func88,Tryz.ntmps88
 go_wp2
 go_loopw [7] (fun i wr=>∃k:Nat,k≤l.length∧i= .int .i64 k∧Hid (∀s∈l.take k,validS s=true)∧Ext w wr) (fun i _=>l.length - (intOf i).toNat)
 case atStart=>exact ⟨0,Nat.zero_le _,rfl,gd (by simp),Ext.refl _⟩
 case round=>
  obtain ⟨k,hk,rfl,hinv,hxr⟩:=hrel
  by_cases hlt:k<l.length
  ·obtain ⟨ad,c1,e1,hc⟩:=(RStrs.ext HH.out hxr).at hlt
   injection e1 with e1 e1' e1''
   subst e1
   clear e1' e1''
   have hmem:l[k]∈l:=List.getElem_mem hlt
   have htk:=List.take_succ_eq_append_getElem hlt
   have HV:=gd (textValid_any l[k] wr (HEW.out.ext hxr) (by have:=HS.out _ hmem;omega))
   have hbad:validS l[k]=false→R=false:=fun h=>by
    rw[←HR.out,Bool.eq_false_iff]
    intro h2
    have:=List.all_eq_true.1 h2 _ hmem
    rw[h] at this
    cases this
   obtain ⟨p,hpp⟩:∃p,l[k]=p:=⟨_,rfl⟩
   rw[hpp] at hc htk HV hbad
   have HTK:=gd htk
   have hi0':(0:Int)≤(k:Int):=by omega
   have hi1:(k:Int)<(l.length:Int):=by omega
   clear hpp hmem htk
   cases hv:validS p with
   |false=>
    have hRf:=hbad hv
    subst hRf
    rw[hv] at HV
    clear hbad hv
    go_wp2_with (first|(go_at_call 135;(with_reducible refine Calls.mono (HV.out) ?_);rintro e w6 ⟨rfl,hx6⟩))
    go_ret
    exact ⟨rfl,hxr.trans hx6⟩
   |true=>
    have HPV:=gd hv
    rw[hv] at HV
    clear hbad hv
    go_wp2_with (first|(go_at_call 135;(with_reducible refine Calls.mono (HV.out) ?_);rintro e w6 ⟨rfl,hx6⟩))
    go_roundw
    case rel=>exact ⟨k+1,hlt,by go_num,gd (fun s hs=>by
     rw[HTK.out] at hs
     rcases List.mem_append.1 hs with hs|hs
     ·exact hinv.out s hs
     ·rw[List.mem_singleton.1 hs];exact HPV.out),hxr.trans hx6⟩
    case measure=>simp[intOf];omega
  ·have hke:k=l.length:=by omega
   subst hke
   have hi:=hinv.out
   rw[List.take_of_length_le (Nat.le_refl _)] at hi
   have hRt:R=true:=by rw[←HR.out];exact List.all_eq_true.2 hi
   subst hRt
   clear hi
   go_wp2
   go_ret
   exact ⟨rfl,hxr⟩
theorem noS_empty {s:ByteArray} (h:s=noS):s.toList.isEmpty=true:=by rw[h,ByteArray.toList_eq];rfl
theorem strs_new (w:World) (l:List ByteArray) (hm:l.length≤maxLen):RStrs (w.alloc (.cells (l.map Value.string).toArray 9)) (.slice (some ⟨w.heap.size,0,none⟩) l.length l.length) l:=
 rsl_new (by rw[List.length_map,Nat.mul_one]) hm
theorem mCheckE_any (e:Ent) (w:World) (hE:Env w) (hs:eokS e):
 Calls Tryz.prog 93 #[.agg (eCells e).toArray] w fun x w'=>x= .returned (.int .i64 (if okE e=true then 0 else 22))∧Ext w w':=by
 have hF:okE e=((strsE e).all validS && !decide (e.id=noS) && inT e.upd):=rfl
 have HC0:=gd (fun w'=>checked_any false w')
 have HT:=gd (fun w'=>mInTime_any e.upd w')
 have HA:=gd (fun (w':World) (h:Ext w w')=>mAll_any _ (strsE e) (w'.alloc (.cells ((strsE e).map Value.string).toArray 9)) ((hE.ext h).alloc _) (strs_new w' (strsE e) (by show 4≤maxLen;decide)) (fun s h=>by
  obtain ⟨h1,h2,h3,h4⟩:=hs
  unfold strsE at h
  simp only[List.mem_cons,List.mem_nil_iff,or_false] at h
  rcases h with rfl|rfl|rfl|rfl<;>omega) (by show 4≤16777216;decide))
 by_cases h0:e.id=noS
 ·have hr:okE e=false:=by rw[hF,h0];simp
  rw[if_neg (by rw[hr];simp)]
  have hem:=noS_empty h0
  clear hF h0 hr HT HA
  unfold eCells
  go_enter Tryz.func93,Tryz.ntmps93
  go_wp2_with (first|(go_at_call 90;(with_reducible refine Calls.mono (HC0.out _) ?_);rintro e w6 ⟨rfl,rfl⟩))
  go_ret
  exact ⟨rfl,(Ext.refl _).alloc _⟩
 ·have hem:=ne_noS h0
  cases hti:inT e.upd with
  |false=>
   have hr:okE e=false:=by rw[hF,hti,Bool.and_false]
   rw[if_neg (by rw[hr];simp)]
   rw[hti] at HT
   clear hF h0 hr HA hti
   unfold eCells
   go_enter Tryz.func93,Tryz.ntmps93
   go_wp2_with (first|(go_at_call 91;(with_reducible refine Calls.mono (HT.out _) ?_);rintro e w5 ⟨rfl,rfl⟩)|(go_at_call 90;(with_reducible refine Calls.mono (HC0.out _) ?_);rintro e w6 ⟨rfl,rfl⟩))
   go_ret
   exact ⟨rfl,(Ext.refl _).alloc _⟩
  |true=>
   have hr:okE e=(strsE e).all validS:=by rw[hF,hti,decide_eq_false h0];simp
   rw[hr]
   rw[hti] at HT
   have HC:=gd (fun w'=>checked_any ((strsE e).all validS) w')
   obtain ⟨b,hb⟩:∃b,(strsE e).all validS=b:=⟨_,rfl⟩
   simp only[hb] at HA HC⊢
   unfold strsE at HA
   simp only[List.map_cons,List.map_nil,List.length_cons,List.length_nil] at HA
   clear hF h0 hr HC0 hti hb
   unfold eCells
   go_enter Tryz.func93,Tryz.ntmps93
   go_wp2_with (first|(go_at_call 91;(with_reducible refine Calls.mono (HT.out _) ?_);rintro e w5 ⟨rfl,rfl⟩)|(go_at_call 88;(have hz:=HA.out _ ((Ext.refl w).alloc (.cells #[.string e.id,.string e.title,.string e.link,.string e.content,.int .i64 e.upd] 64)));(simp only[size_alloc] at hz);(with_reducible refine Calls.mono hz ?_);clear hz;rintro e7 w7 ⟨rfl,hx7⟩)|(go_at_call 90;(with_reducible refine Calls.mono (HC.out _) ?_);rintro e8 w8 ⟨rfl,rfl⟩))
   all_goals go_ret
   all_goals exact ⟨rfl,(((Ext.refl _).alloc _).alloc _).trans hx7⟩
theorem okL_falseG {α κ:Type} [DecidableEq κ] {ok:α→Bool} {O:Ord α κ} {l:List α} {k:Nat} (hk:k<l.length) (h:okAt ok O l k=false):okL ok O l=false:=by
 rw[Bool.eq_false_iff]
 intro h'
 have:=List.all_eq_true.1 h' k (List.mem_range.2 hk)
 rw[h] at this
 cases this
theorem okL_trueG {α κ:Type} [DecidableEq κ] {ok:α→Bool} {O:Ord α κ} {l:List α} (h:∀k,k<l.length→okAt ok O l k=true):okL ok O l=true:=
 List.all_eq_true.2 fun k hk=>h k (List.mem_range.1 hk)
theorem any_take_false {α:Type} {l:List α} {k:Nat} {id:α→ByteArray} {s:ByteArray} (h:(l.take k).any (fun x=>decide (id x=s))=false):∀j (hj:j<l.length),j<k→id l[j]≠s:=fun j hj hk e=>by
 rw[List.any_eq_false] at h
 exact h l[j] (List.mem_take_iff_getElem.2 ⟨j,by omega,rfl⟩) (by simpa using e)
theorem any_take_true {α:Type} {l:List α} {k:Nat} {id:α→ByteArray} {s:ByteArray} (h:(l.take k).any (fun x=>decide (id x=s))=true):∃j,∃hj:j<l.length,j<k∧id l[j]=s:=by
 rw[List.any_eq_true] at h
 obtain ⟨x,hx,he⟩:=h
 obtain ⟨j,hj,rfl⟩:=List.mem_take_iff_getElem.1 hx
 exact ⟨j,by omega,by omega,by simpa using he⟩
theorem orderedE_any (v:Value) (l:List Ent) (w:World) (hE:Env w) (h:REnts w v l) (hs:∀x∈l,eokS x) (hn:l.length≤1000000):
 Calls Tryz.prog 92 #[v,.func (.func 93) #[] #[],.func (.func 94) #[] #[],.func (.func 89) #[] #[]] w fun e w'=>e= .returned (.bool (okL okE ordE l))∧Ext w w':=by
 obtain ⟨A,c,rfl, -, -⟩:=h.form
 have hmm:= @run_makeMap Tryz.prog
 obtain ⟨R,hR⟩:∃R,okL okE ordE l=R:=⟨_,rfl⟩
 rw[hR]
 have HR:=gd hR
 have HS:=gd hs
 have HH:=gd h
 have HEW:=gd hE
 clear hR hs h hE
 go_enter Tryz.func92,Tryz.ntmps92
 go_wp2
 go_loopw [15] (fun i wr=>∃(k:Nat) (D:DataW Unit),k≤l.length∧i= .int .i64 k∧wr.ownsMap Tryz.prog 9 (plainElem Tryz.prog 4) w.heap.size k D∧Hid (SeenMap D (fun s=>(l.take k).any (fun e=>decide (e.id=s))))∧Hid (∀j,j<k→okAt okE ordE l j=true)∧Ext w wr) (fun i _=>l.length - (intOf i).toNat)
 case atStart=>exact ⟨0,.map [],Nat.zero_le _,rfl,World.ownsMap_made _ _ _ _,gd SeenMap.nil,gd (fun j h=>by omega),(Ext.refl _).alloc _⟩
 case round=>
  obtain ⟨k,D,hk,rfl,hM,hD,hinv,hxr⟩:=hrel
  by_cases hlt:k<l.length
  ·obtain ⟨ad,c1,e1,hat⟩:=(REnts.ext HH.out hxr).at hlt
   injection e1 with e1 e1' e1''
   subst e1
   clear e1' e1''
   have hmem:l[k]∈l:=List.getElem_mem hlt
   have hEk:=HS.out _ hmem
   have htk:=List.take_succ_eq_append_getElem hlt
   have hIFF:=okAt_iff (ok:=okE) (O:=ordE) hlt
   have hb:∃b,(l.take k).any (fun e=>decide (e.id=l[k].id))=b:=⟨_,rfl⟩
   obtain ⟨b,hb⟩:=hb
   have hbf:b=false→∀j (hj:j<k),ordE.id l[j]≠ordE.id l[k]:=fun e j hj=>any_take_false (id:=Ent.id) (hb.trans e) j (by omega) hj
   have hbt:b=true→okAt okE ordE l k=false:=fun e=>by
    rw[Bool.eq_false_iff]
    intro h
    obtain ⟨j,hj,hjk,he⟩:=any_take_true (id:=Ent.id) (hb.trans e)
    exact (hIFF.1 h).2.2 j hjk he
   have HBAD:Hid (okAt okE ordE l k=false→R=false):=gd fun h=>by rw[←HR.out];exact okL_falseG hlt h
   have HPUT:Hid (SeenMap (D.put (.string l[k].id.data.toList) (.lit (.bool true))) (fun s=>(l.take (k+1)).any (fun e=>decide (e.id=s)))):=gd (hD.out.put fun t=>by rw[htk,List.any_append];simp)
   obtain ⟨E,hEE⟩:∃E,l[k]=E:=⟨_,rfl⟩
   rw[hEE] at hat hEk hb HPUT hIFF hbf
   have HIFF:=gd hIFF
   have HBF:=gd hbf
   have HBT:=gd hbt
   have hkey:keyOf Tryz.prog 9 (.string E.id)=some (.string E.id.data.toList):=keyOf_string_mk Tryz.underlying9 (by have:=hEk.1;unfold maxLen;omega)
   have hmx:E.id.size≤maxLen:=by have:=hEk.1;unfold maxLen;omega
   have HKEY:=gd hkey
   have HM:=gd hM
   have HLT:=gd hlt
   clear hIFF hbf hbt htk hmem hkey
   obtain ⟨W1,hW1⟩:∃W1,wr.alloc (.cells (eCells E).toArray 64)=W1:=⟨_,rfl⟩
   have hx1:Ext wr W1:=by rw[←hW1];exact (Ext.refl _).alloc _
   have hLK:=fun z:Aft W1=>seen_look (hM.kept ((hx1.trans z.ext).grown none) (by simp)) hD.out hmx
   simp only[hb] at hLK
   have HCE:=gd (fun z:Aft W1=>mCheckE_any E z.w (HEW.out.ext (hxr.trans (hx1.trans z.ext))) hEk)
   have HID:=gd (fun z:World=>mEntID_any E z)
   have hbk:W1.heap[wr.heap.size]? =some (.cells (eCells E).toArray 64):=by rw[←hW1];exact heap_alloc_new _ _
   have HX1:=gd hx1
   have hi0':(0:Int)≤(k:Int):=by omega
   have hi1:(k:Int)<(l.length:Int):=by omega
   have HKL:Hid (k<maxLen):=gd (by unfold maxLen;omega)
   clear hx1 hM hb
   obtain ⟨id,title,link,content,upd⟩:=E
   unfold eCells at hW1 hbk HCE HID
   dsimp only at hW1 hbk HCE HID hat hLK HPUT HKEY
   obtain ⟨b0,b1,b2,b3,b4⟩:=blk5 hbk
   obtain ⟨a0,a1,a2,a3,a4⟩:=hat
   have B0:=fun z:Aft W1=>Aft.cell b0 z
   have B1:=fun z:Aft W1=>Aft.cell b1 z
   have B2:=fun z:Aft W1=>Aft.cell b2 z
   have B3:=fun z:Aft W1=>Aft.cell b3 z
   have B4:=fun z:Aft W1=>Aft.cell b4 z
   clear b0 b1 b2 b3 b4 hbk
   dsimp only at a0 a1 a2 a3 a4
   cases hok:okE ⟨id,title,link,content,upd⟩ with
   |false=>
    have hR:=HBAD.out (by
     rw[Bool.eq_false_iff]
     intro h
     have h1:=(HIFF.out.1 h).1
     rw[hok] at h1
     cases h1)
    subst hR
    rw[hok] at HCE
    clear hok
    simp only[Bool.false_eq_true,if_false] at HCE
    go_wp2
    refine rA ?_
    repeat (first|go_big_quiet_step ((first|(go_at_call 93;with_reducible exact quiet_call (HCE.out _))|(go_at_call 89;with_reducible exact quiet_call (HID.out _))))|quiet_step ((first|(go_at_call 93;with_reducible exact quiet_call (HCE.out _))|(go_at_call 89;with_reducible exact quiet_call (HID.out _)))))
    refine wpQuiet_nil ?_
    rintro _ ⟨d1,rfl⟩
    go_wp2
    go_ret
    exact ⟨rfl,hxr.trans (HX1.out.trans d1.ext)⟩
   |true=>
    have HOK:=gd hok
    rw[hok] at HCE
    clear hok
    simp only[if_true] at HCE
    rcases Nat.eq_zero_or_pos k with h0|hpos
    ·cases b with
     |true=>
      have hR:=HBAD.out (HBT.out rfl)
      subst hR
      subst h0
      simp only[Nat.zero_mul,add_zero] at a0 a1 a2 a3 a4
      go_wp2
      refine rA ?_
      repeat (first|go_big_quiet_step ((first|(go_at_call 93;with_reducible exact quiet_call (HCE.out _))|(go_at_call 89;with_reducible exact quiet_call (HID.out _))))|quiet_step ((first|(go_at_call 93;with_reducible exact quiet_call (HCE.out _))|(go_at_call 89;with_reducible exact quiet_call (HID.out _)))))
      refine wpQuiet_nil ?_
      rintro _ ⟨d1,rfl⟩
      go_wp2
      go_ret
      exact ⟨rfl,hxr.trans (HX1.out.trans d1.ext)⟩
     |false=>
      have HGOOD:=gd (HIFF.out.2 ⟨HOK.out,fun h=>absurd h (by omega),HBF.out rfl⟩)
      subst h0
      simp only[Nat.zero_mul,add_zero] at a0 a1 a2 a3 a4
      go_wp2
      refine rA ?_
      repeat (first|go_big_quiet_step ((first|(go_at_call 93;with_reducible exact quiet_call (HCE.out _))|(go_at_call 89;with_reducible exact quiet_call (HID.out _))))|quiet_step ((first|(go_at_call 93;with_reducible exact quiet_call (HCE.out _))|(go_at_call 89;with_reducible exact quiet_call (HID.out _)))))
      refine wpQuiet_nil ?_
      rintro _ ⟨d1,rfl⟩
      have HM1:=gd (HM.out.kept ((HX1.out.trans d1.ext).grown none) (by simp))
      have HXD:=gd (hxr.trans (HX1.out.trans d1.ext))
      have D0:=B0 d1
      have D1:=B1 d1
      have D2:=B2 d1
      have D3:=B3 d1
      have D4:=B4 d1
      clear B0 B1 B2 B3 B4 hLK
      go_wp2_with (first|(go_at_call 89;(with_reducible refine Calls.mono (HID.out _) ?_);rintro e w2 ⟨rfl,hx2⟩)|(at_mapUpdate;(refine wpList_mapUpdate_own _ rfl (.tmp 46) (.tmp 49) (.const (.bool true)) 192 rfl 9 4 keyLaw Tryz.underlying192 _ w.heap.size 0 D rfl (HM1.out.kept (hx2.grown none) (by simp)) HKL.out _ _ _ rfl rfl HKEY.out _ [] (plainElem_bool Tryz.underlying4 true) ?_);intro w5 hM5 hg5))
      have hxm:Ext w w5:=Ext.grown' (B:=0) (HXD.out.trans hx2) hg5 (fun b hb=>by cases hb;exact Nat.le_refl _)
      have HM5:=gd hM5
      clear hM5 hg5
      go_roundw
      case rel=>exact ⟨0+1,_,HLT.out,by go_num,HM5.out,HPUT,gd (fun t ht=>by
       by_cases e:t=0
       ·rw[e];exact HGOOD.out
       ·exact hinv.out t (by omega)),hxm⟩
      case measure=>simp[intOf];have:=HLT.out;omega
    ·obtain ⟨q,hq⟩:∃q,k=q+1:=⟨k - 1,by omega⟩
     have hql:q<l.length:=by have:=HLT.out;omega
     obtain ⟨af,c3,e3,haq⟩:=(REnts.ext HH.out (hxr.trans HX1.out)).at hql
     injection e3 with e3 e3' e3''
     injection e3 with e3
     subst e3
     clear e3' e3''
     have hPE:l[k - 1]'(Nat.lt_of_le_of_lt (Nat.sub_le _ _) HLT.out)=l[q]:=by subst hq;rfl
     obtain ⟨F,haq,hPE⟩:∃F:Ent,AtEnt W1 (ad.add (q*5)) F∧l[k - 1]'(Nat.lt_of_le_of_lt (Nat.sub_le _ _) HLT.out)=F:=⟨_,haq,hPE⟩
     have HPE:=gd hPE
     have hlt2:ordE.lt F ⟨id,title,link,content,upd⟩=decide (entCmp F ⟨id,title,link,content,upd⟩<0):=rfl
     have HCM:=gd (fun z:Aft W1=>compareEntries_any F ⟨id,title,link,content,upd⟩ z.w)
     obtain ⟨cc,hc⟩:∃cc,entCmp F ⟨id,title,link,content,upd⟩=cc:=⟨_,rfl⟩
     rw[hc] at hlt2
     simp only[hc] at HCM
     clear hPE hc
     obtain ⟨fid,ftitle,flink,fcontent,fupd⟩:=F
     obtain ⟨k0,k1,k2,k3,k4⟩:=haq
     dsimp only at k0 k1 k2 k3 k4
     have C0:=fun z:Aft W1=>Aft.cell k0 z
     have C1:=fun z:Aft W1=>Aft.cell k1 z
     have C2:=fun z:Aft W1=>Aft.cell k2 z
     have C3:=fun z:Aft W1=>Aft.cell k3 z
     have C4:=fun z:Aft W1=>Aft.cell k4 z
     clear k0 k1 k2 k3 k4
     have hk0:(0:Int)<(k:Int):=by omega
     have hks:wrap64 ((k:Int) - 1)=(q:Int):=by rw[wrap_ok _ ⟨by omega,by omega⟩];omega
     have hkq:(k:Int) - 1=(q:Int):=by omega
     have hq0:(0:Int)≤(q:Int):=by omega
     have hq1:(q:Int)<(l.length:Int):=by omega
     unfold eCells at HCM
     dsimp only at HCM
     by_cases hneg:cc<0
     ·have HPREV:Hid (∀h:0<k,ordE.lt (l[k - 1]'(Nat.lt_of_le_of_lt (Nat.sub_le _ _) HLT.out)) ⟨id,title,link,content,upd⟩=true):=gd (fun h=>by rw[HPE.out,hlt2];exact decide_eq_true hneg)
      have hge:¬(0:Int)≤cc:=by omega
      cases b with
      |true=>
       have hR:=HBAD.out (HBT.out rfl)
       subst hR
       clear hlt2 hq HPE
       go_wp2
       refine rA ?_
       repeat (first|go_big_quiet_step ((first|(go_at_call 93;with_reducible exact quiet_call (HCE.out _))|(go_at_call 94;with_reducible exact quiet_call (HCM.out _))|(go_at_call 89;with_reducible exact quiet_call (HID.out _))))|quiet_step ((first|(go_at_call 93;with_reducible exact quiet_call (HCE.out _))|(go_at_call 94;with_reducible exact quiet_call (HCM.out _))|(go_at_call 89;with_reducible exact quiet_call (HID.out _)))))
       refine wpQuiet_nil ?_
       rintro _ ⟨d1,rfl⟩
       go_wp2
       go_ret
       exact ⟨rfl,hxr.trans (HX1.out.trans d1.ext)⟩
      |false=>
       have HGOOD:=gd (HIFF.out.2 ⟨HOK.out,HPREV.out,HBF.out rfl⟩)
       clear hlt2 hq HPE HPREV
       go_wp2
       refine rA ?_
       repeat (first|go_big_quiet_step ((first|(go_at_call 93;with_reducible exact quiet_call (HCE.out _))|(go_at_call 94;with_reducible exact quiet_call (HCM.out _))|(go_at_call 89;with_reducible exact quiet_call (HID.out _))))|quiet_step ((first|(go_at_call 93;with_reducible exact quiet_call (HCE.out _))|(go_at_call 94;with_reducible exact quiet_call (HCM.out _))|(go_at_call 89;with_reducible exact quiet_call (HID.out _)))))
       refine wpQuiet_nil ?_
       rintro _ ⟨d1,rfl⟩
       have HM1:=gd (HM.out.kept ((HX1.out.trans d1.ext).grown none) (by simp))
       have HXD:=gd (hxr.trans (HX1.out.trans d1.ext))
       have D0:=B0 d1
       have D1:=B1 d1
       have D2:=B2 d1
       have D3:=B3 d1
       have D4:=B4 d1
       clear B0 B1 B2 B3 B4 hLK
       go_wp2_with (first|(go_at_call 89;(with_reducible refine Calls.mono (HID.out _) ?_);rintro e w2 ⟨rfl,hx2⟩)|(at_mapUpdate;(refine wpList_mapUpdate_own _ rfl (.tmp 46) (.tmp 49) (.const (.bool true)) 192 rfl 9 4 keyLaw Tryz.underlying192 _ w.heap.size k D rfl (HM1.out.kept (hx2.grown none) (by simp)) HKL.out _ _ _ rfl rfl HKEY.out _ [] (plainElem_bool Tryz.underlying4 true) ?_);intro w5 hM5 hg5))
       have hxm:Ext w w5:=Ext.grown' (B:=0) (HXD.out.trans hx2) hg5 (fun b hb=>by cases hb;exact Nat.le_refl _)
       have HM5:=gd hM5
       clear hM5 hg5
       go_roundw
       case rel=>exact ⟨k+1,_,HLT.out,by go_num,HM5.out,HPUT,gd (fun t ht=>by
        by_cases e:t=k
        ·rw[e];exact HGOOD.out
        ·exact hinv.out t (by omega)),hxm⟩
       case measure=>simp[intOf];have:=HLT.out;omega
     ·have hR:=HBAD.out (by
       rw[Bool.eq_false_iff]
       intro h
       have h1:=(HIFF.out.1 h).2.1 hpos
       rw[HPE.out,hlt2] at h1
       exact hneg (of_decide_eq_true h1))
      subst hR
      have hge:(0:Int)≤cc:=by omega
      clear hlt2 hq HPE
      go_wp2
      refine rA ?_
      repeat (first|go_big_quiet_step ((first|(go_at_call 93;with_reducible exact quiet_call (HCE.out _))|(go_at_call 94;with_reducible exact quiet_call (HCM.out _))|(go_at_call 89;with_reducible exact quiet_call (HID.out _))))|quiet_step ((first|(go_at_call 93;with_reducible exact quiet_call (HCE.out _))|(go_at_call 94;with_reducible exact quiet_call (HCM.out _))|(go_at_call 89;with_reducible exact quiet_call (HID.out _)))))
      refine wpQuiet_nil ?_
      rintro _ ⟨d1,rfl⟩
      go_wp2
      go_ret
      exact ⟨rfl,hxr.trans (HX1.out.trans d1.ext)⟩
  ·have hke:k=l.length:=by omega
   subst hke
   have hRt:R=true:=by rw[←HR.out];exact okL_trueG hinv.out
   subst hRt
   go_wp2
   go_ret
   exact ⟨rfl,hxr⟩
theorem refCheckF_0 (x:Fc) (w:World) (hr:RdC w x) (hk:fokS x.f) (h0:¬x.f.path.length≤64):
 Calls Tryz.prog 23 #[.agg (cellsC x).toArray] w fun e w'=>e= .returned (.int .i64 22)∧Ext w w':=by
 obtain ⟨⟨z0,z1⟩,z2,z3⟩:=hk
 obtain ⟨xp,xes,⟨xpath,xid,xtitle,xlink,xupd,xents⟩⟩:=x
 obtain ⟨hx0,hx1⟩:=hr
 dsimp only at*
 obtain ⟨xA,xc,rfl, -, -⟩:=hx0.form
 obtain ⟨xB,xd,rfl, -, -⟩:=hx1.form
 have hb:(64:Int)<(xpath.length:Int):=by omega
 clear hx0 hx1 z0 z1 z2 z3 h0
 unfold cellsC fCells
 dsimp only
 go_enter Tryz.func23,Tryz.ntmps23
 go_wp2
 go_ret
 exact ⟨rfl,(Ext.refl _).alloc _⟩
theorem refCheckF_no (x:Fc) (w:World) (hr:RdC w x) (hk:fokS x.f) (h0:x.f.path.length≤64) (hw:validS x.f.id=false∨validS x.f.id=true∧(validS x.f.title=false∨validS x.f.title=true∧(validS x.f.link=false∨validS x.f.link=true∧(x.f.id.toList.isEmpty=true∨x.f.id.toList.isEmpty=false∧inT x.f.upd=false)))):
 Calls Tryz.prog 23 #[.agg (cellsC x).toArray] w fun e w'=>e= .returned (.int .i64 22)∧Ext w w':=by
 obtain ⟨⟨z0,z1⟩,z2,z3⟩:=hk
 have V0:=gd (fun w'=>refValid_any x.f.id w' (by omega))
 have V1:=gd (fun w'=>refValid_any x.f.title w' (by omega))
 have V2:=gd (fun w'=>refValid_any x.f.link w' (by omega))
 have VT:=gd (fun w'=>refInTime_any x.f.upd w')
 obtain ⟨xp,xes,⟨xpath,xid,xtitle,xlink,xupd,xents⟩⟩:=x
 obtain ⟨hx0,hx1⟩:=hr
 dsimp only at*
 obtain ⟨xA,xc,rfl, -, -⟩:=hx0.form
 obtain ⟨xB,xd,rfl, -, -⟩:=hx1.form
 have hb:¬(64:Int)<(xpath.length:Int):=by omega
 clear hx0 hx1 z0 z1 z2 z3 h0
 generalize validS xid=b0 at*
 generalize validS xtitle=b1 at*
 generalize validS xlink=b2 at*
 generalize inT xupd=b5 at*
 rcases hw with rfl|⟨rfl,rfl|⟨rfl,rfl|⟨rfl,h4|⟨h4,rfl⟩⟩⟩⟩
 all_goals
  unfold cellsC fCells
  dsimp only
  go_enter Tryz.func23,Tryz.ntmps23
  go_wp2_with (first|(go_at_call 58;(with_reducible refine Calls.mono (V0.out _) ?_);rintro e w1 ⟨rfl,hx1⟩;(have k2:=hx1.boxed 2 _ rfl))|(go_at_call 58;(with_reducible refine Calls.mono (V1.out _) ?_);rintro e w2 ⟨rfl,hx2⟩;(have hy2:=hx1.trans hx2);(have k3:=hy2.boxed 3 _ rfl))|(go_at_call 58;(with_reducible refine Calls.mono (V2.out _) ?_);rintro e w3 ⟨rfl,hx3⟩;(have hy3:=hy2.trans hx3);(have k1:=hy3.boxed 1 _ rfl);(have k4:=hy3.boxed 4 _ rfl))|(go_at_call 59;(with_reducible refine Calls.mono (VT.out _) ?_);rintro e w5 ⟨rfl,rfl⟩))
  go_ret
  exact ⟨rfl,((Ext.refl _).alloc _).trans (by assumption)⟩
def okP (l:List ByteArray):Bool:=l.all fun p=> !decide (p=noS) && validS p
theorem okP_take {l:List ByteArray} {k:Nat} (hk:k<l.length) (h:∀p∈l.take k,p≠noS∧validS p=true) (h2:l[k]≠noS∧validS l[k]=true):∀p∈l.take (k+1),p≠noS∧validS p=true:=by
 intro p hp
 rw[List.take_succ_eq_append_getElem hk] at hp
 rcases List.mem_append.1 hp with hp|hp
 ·exact h p hp
 ·rw[List.mem_singleton.1 hp];exact h2
theorem okP_false {l:List ByteArray} {p:ByteArray} (hp:p∈l) (h:p=noS∨validS p=false):okP l=false:=by
 unfold okP
 rw[List.all_eq_false]
 refine ⟨p,hp,?_⟩
 rcases h with h|h<;>simp[h]
theorem okP_true {l:List ByteArray} (h:∀p∈l,p≠noS∧validS p=true):okP l=true:=by
 unfold okP
 rw[List.all_eq_true]
 intro p hp
 obtain ⟨h1,h2⟩:=h p hp
 simp[h1,h2]
theorem okL_false {l:List Ent} {k:Nat} (hk:k<l.length) (h:okAt okE ordE l k=false):okL okE ordE l=false:=by
 unfold okL
 rw[List.all_eq_false]
 exact ⟨k,List.mem_range.2 hk,by simp[h]⟩
theorem okL_true {l:List Ent} (h:∀k,k<l.length→okAt okE ordE l k=true):okL okE ordE l=true:=by
 unfold okL
 rw[List.all_eq_true]
 exact fun k hk=>h k (List.mem_range.1 hk)
theorem refCheckF_6 (x:Fc) (w:World) (hr:RdC w x) (hk:fokS x.f) (h0:x.f.path.length≤64) (v0:validS x.f.id=true) (v1:validS x.f.title=true) (v2:validS x.f.link=true) (h4:x.f.id.toList.isEmpty=false) (h5:inT x.f.upd=true):
 Calls Tryz.prog 23 #[.agg (cellsC x).toArray] w fun e w'=>e= .returned (.int .i64 (if (okP x.f.path && okL okE ordE x.f.ents)=true then 0 else 22))∧Ext w w':=by
 obtain ⟨⟨z0,z1⟩,z2,z3⟩:=hk
 have V0:=gd (fun w'=>refValid_any x.f.id w' (by omega))
 rw[v0] at V0
 have V1:=gd (fun w'=>refValid_any x.f.title w' (by omega))
 rw[v1] at V1
 have V2:=gd (fun w'=>refValid_any x.f.link w' (by omega))
 rw[v2] at V2
 have VT:=gd (fun w'=>refInTime_any x.f.upd w')
 rw[h5] at VT
 obtain ⟨xp,xes,⟨xpath,xid,xtitle,xlink,xupd,xents⟩⟩:=x
 obtain ⟨hx0,hx1⟩:=hr
 dsimp only at*
 obtain ⟨xA,xc,rfl, -, -⟩:=hx0.form
 obtain ⟨xB,xd,rfl, -, -⟩:=hx1.form
 have hb:¬(64:Int)<(xpath.length:Int):=by omega
 obtain ⟨R,hR⟩:∃R:Int,(if (okP xpath && okL okE ordE xents)=true then 0 else 22)=R:=⟨_,rfl⟩
 rw[hR]
 have HR:=gd hR
 have HX0:=gd hx0
 have HX1:=gd hx1
 have HS:Hid (∀p∈xpath,p.size≤16777216):=gd fun p hp=>by have:=size_le_sizes hp;omega
 have HEK:Hid (∀e∈xents,eokS e):=gd fun e he=>by obtain ⟨_,h⟩:=z3 e he;exact ⟨by omega,by omega,by omega,by omega⟩
 have hpl:xpath.length≤64:=h0
 have hen:xents.length≤1000000:=z2
 clear hx0 hx1 z0 z1 z2 z3 h0 v0 v1 v2 h5 hR
 unfold cellsC fCells
 dsimp only
 go_enter Tryz.func23,Tryz.ntmps23
 go_wp2_with (first|(go_at_call 58;(with_reducible refine Calls.mono (V0.out _) ?_);rintro e w1 ⟨rfl,hx1⟩;(have k2:=hx1.boxed 2 _ rfl))|(go_at_call 58;(with_reducible refine Calls.mono (V1.out _) ?_);rintro e w2 ⟨rfl,hx2⟩;(have hy2:=hx1.trans hx2);(have k3:=hy2.boxed 3 _ rfl))|(go_at_call 58;(with_reducible refine Calls.mono (V2.out _) ?_);rintro e w3 ⟨rfl,hx3⟩;(have hy3:=hy2.trans hx3);(have k1:=hy3.boxed 1 _ rfl);(have k4:=hy3.boxed 4 _ rfl))|(go_at_call 59;(with_reducible refine Calls.mono (VT.out _) ?_);rintro e w5 ⟨rfl,rfl⟩))
 have hbox:Hid (∀wr:World,Ext w3 wr→wr.cell? ⟨w.heap.size,0,none⟩=some (.slice xA xpath.length xc)∧wr.cell? ⟨w.heap.size,5,none⟩=some (.slice xB xents.length xd)):=gd fun wr h=>⟨(hy3.trans h).boxed 0 _ rfl,(hy3.trans h).boxed 5 _ rfl⟩
 have HW3:Hid (Ext w w3):=gd (((Ext.refl _).alloc _).trans hy3)
 clear V0 V1 V2 VT hx1 hx2 hy2 hx3 hy3 k1 k2 k3 k4 hb h4
 go_loopw [3] (fun i wr=>∃k:Nat,k≤xpath.length∧i= .int .i64 k∧Hid (∀p∈xpath.take k,p≠noS∧validS p=true)∧Ext w3 wr) (fun i _=>xpath.length - (intOf i).toNat)
 case atStart=>exact ⟨0,Nat.zero_le _,rfl,gd (by simp),Ext.refl _⟩
 case round=>
  obtain ⟨k,hk,rfl,hinv,hxr⟩:=hrel
  obtain ⟨bx0,bx5⟩:=hbox.out wr hxr
  by_cases hlt:k<xpath.length
  ·obtain ⟨ad,c1,e1,hc⟩:=(HX0.out.ext (HW3.out.trans hxr)).at hlt
   injection e1 with e1 e1' e1''
   subst e1
   clear e1' e1''
   have hmem:xpath[k]∈xpath:=List.getElem_mem hlt
   have hstep:=okP_take hlt hinv.out
   have HV:=gd (refValid_any xpath[k] wr (by have:=HS.out _ hmem;omega))
   have hbad:(xpath[k]=noS∨validS xpath[k]=false)→R=22:=fun h=>by rw[←HR.out,okP_false hmem h];rfl
   obtain ⟨p,hpp⟩:∃p,xpath[k]=p:=⟨_,rfl⟩
   rw[hpp] at hc hstep HV hbad
   have hi0':(0:Int)≤(k:Int):=by omega
   have hi1:(k:Int)<(xpath.length:Int):=by omega
   clear hpp hmem
   by_cases he:p=noS
   ·have hR:=hbad (Or.inl he)
    subst hR
    have hem:p.toList.isEmpty=true:=by rw[he,ByteArray.toList_eq];rfl
    clear he hstep hbad HV
    go_wp2
    go_ret
    exact ⟨rfl,HW3.out.trans hxr⟩
   ·have hem:=ne_noS he
    cases hv:validS p with
    |false=>
     have hR:=hbad (Or.inr hv)
     subst hR
     rw[hv] at HV
     clear he hstep hbad hv
     go_wp2_with (first|(go_at_call 58;(with_reducible refine Calls.mono (HV.out) ?_);rintro e w6 ⟨rfl,hx6⟩))
     go_ret
     exact ⟨rfl,(HW3.out.trans hxr).trans hx6⟩
    |true=>
     have HST:=gd (hstep ⟨he,hv⟩)
     rw[hv] at HV
     clear he hstep hbad hv
     go_wp2_with (first|(go_at_call 58;(with_reducible refine Calls.mono (HV.out) ?_);rintro e w6 ⟨rfl,hx6⟩))
     go_roundw
     case rel=>exact ⟨k+1,hlt,by go_num,HST,hxr.trans hx6⟩
     case measure=>simp[intOf];omega
  ·have hke:k=xpath.length:=by omega
   subst hke
   rw[List.take_of_length_le (Nat.le_refl _)] at hinv
   have hok:=okP_true hinv.out
   have hR2:(if okL okE ordE xents=true then 0 else 22)=R:=by rw[←HR.out,hok,Bool.true_and]
   have HR2:=gd hR2
   clear hok hR2 HR hinv HX0 HS
   obtain ⟨wA,hwA⟩:∃wA:World,wA=wr:=⟨_,rfl⟩
   subst hwA
   go_wp2
   clear bx0 bx5
   go_loopw [4] (fun i wr=>∃k:Nat,k≤xents.length∧i= .int .i64 k∧Hid (∀j,j<k→okAt okE ordE xents j=true)∧Ext w3 wr) (fun i _=>xents.length - (intOf i).toNat)
   case atStart=>exact ⟨0,Nat.zero_le _,rfl,gd (fun j h=>by omega),hxr⟩
   case round=>
    obtain ⟨k,hk,rfl,hinv,hxq⟩:=hrel
    obtain ⟨_,bx5⟩:=hbox.out wr hxq
    by_cases hlt:k<xents.length
    ·have hX:REnts wr (.slice xB xents.length xd) xents:=HX1.out.ext (HW3.out.trans hxq)
     obtain ⟨ad,c1,e1,hax⟩:=hX.at hlt
     injection e1 with e1 e1' e1''
     subst e1
     clear e1' e1'' hX
     have HIFF:=gd (okAt_iff (ok:=okE) (O:=ordE) hlt)
     have hEk:=HEK.out _ (List.getElem_mem hlt)
     have HBAD:Hid (okAt okE ordE xents k=false→R=22):=gd fun h=>by rw[←HR2.out,okL_false hlt h];rfl
     obtain ⟨E,hE,hax,hEk⟩:∃E,xents[k]=E∧AtEnt wr (ad.add (k*5)) E∧eokS E:=⟨_,rfl,hax,hEk⟩
     have HE:=gd hE
     have HLT:=gd hlt
     have HCE:=gd (fun w'=>refCheckE_any E w' hEk)
     have HAX:=gd hax
     have hi0':(0:Int)≤(k:Int):=by omega
     have hi1:(k:Int)<(xents.length:Int):=by omega
     have B5:∀d:Aft wr,d.w.cell? ⟨w.heap.size,5,none⟩=some (.slice (some ad) xents.length xd):=Aft.cell bx5
     clear hE hEk
     have A0:∀d:Aft wr,d.w.cell? (ad.add (k*5))=some (.string E.id):=Aft.cell hax.c0
     have A1:∀d:Aft wr,d.w.cell? ⟨(ad.add (k*5)).block,(ad.add (k*5)).off+1,none⟩=some (.string E.title):=Aft.cell hax.c1
     have A2:∀d:Aft wr,d.w.cell? ⟨(ad.add (k*5)).block,(ad.add (k*5)).off+2,none⟩=some (.string E.link):=Aft.cell hax.c2
     have A3:∀d:Aft wr,d.w.cell? ⟨(ad.add (k*5)).block,(ad.add (k*5)).off+3,none⟩=some (.string E.content):=Aft.cell hax.c3
     have A4:∀d:Aft wr,d.w.cell? ⟨(ad.add (k*5)).block,(ad.add (k*5)).off+4,none⟩=some (.int .i64 E.upd):=Aft.cell hax.c4
     clear hax
     cases hok:okE E with
     |false=>
      have hR:=HBAD.out (by
       rw[Bool.eq_false_iff]
       intro h
       have h1:=((HIFF.out).1 h).1
       rw[HE.out,hok] at h1
       cases h1)
      subst hR
      rw[hok] at HCE
      clear hok
      unfold eCells at HCE
      simp only[Bool.false_eq_true,if_false] at HCE
      go_wp2
      refine rA ?_
      repeat (first|go_big_quiet_step ((first|(go_at_call 60;with_reducible exact quiet_call (HCE.out _))))|quiet_step ((first|(go_at_call 60;with_reducible exact quiet_call (HCE.out _)))))
      refine wpQuiet_nil ?_
      rintro _ ⟨d1,rfl⟩
      go_wp2
      go_ret
      exact ⟨rfl,HW3.out.trans (hxq.trans d1.ext)⟩
     |true=>
      have HOK:=gd hok
      rw[hok] at HCE
      clear hok
      unfold eCells at HCE
      simp only[if_true] at HCE
      rcases Nat.eq_zero_or_pos k with h0|hpos
      ·subst h0
       have HPREV:Hid (∀h:0<0,ordE.lt (xents[0 - 1]'(by have:=HLT.out;omega)) (xents[0]'HLT.out)=true):=gd (fun h=>by omega)
       simp only[add_zero,Nat.zero_mul] at A0 A1 A2 A3 A4
       go_wp2
       refine rA ?_
       repeat (first|go_big_quiet_step ((first|(go_at_call 60;with_reducible exact quiet_call (HCE.out _))))|quiet_step ((first|(go_at_call 60;with_reducible exact quiet_call (HCE.out _)))))
       refine wpQuiet_nil ?_
       rintro _ ⟨d1,rfl⟩
       have hww:=hxq.trans d1.ext
       go_wp2
       go_loopw [5] (fun i wr=>∃j:Nat,j≤0∧i= .int .i64 j∧Hid (∀t (h:t<xents.length),t<j→xents[t].id≠E.id)∧Ext d1.w wr) (fun i _=>0 - (intOf i).toNat)
       case atStart=>exact ⟨0,Nat.zero_le _,rfl,gd (fun t _ h=>by omega),Ext.refl _⟩
       case round=>
        obtain ⟨j,hj,rfl,hjn,hxj⟩:=hrel
        obtain ⟨_,bj5⟩:=hbox.out wr (hww.trans hxj)
        have hlt':=HLT.out
        by_cases hjk:j<0
        ·exact absurd hjk (Nat.not_lt_zero _)
        ·have hje:j=0:=by omega
         subst hje
         have hgood:okAt okE ordE xents 0=true:=by
          refine (HIFF.out).2 ⟨by rw[HE.out];exact HOK.out,HPREV.out,fun t ht=> ?_⟩
          rw[HE.out]
          exact hjn.out t (by omega) ht
         have HG:=gd hgood
         clear hgood hlt'
         go_wp2
         go_roundw
         case rel=>exact ⟨0+1,HLT.out,by go_num,gd (fun t ht=>by
          by_cases e:t=0
          ·rw[e];exact HG.out
          ·exact hinv.out t (by omega)),hww.trans hxj⟩
         case measure=>simp[intOf];have:=HLT.out;omega
      ·obtain ⟨q,hq⟩:∃q,k=q+1:=⟨k - 1,by omega⟩
       have hql:q<xents.length:=by have:=HLT.out;omega
       have hX:REnts wr (.slice (some ad) xents.length xd) xents:=HX1.out.ext (HW3.out.trans hxq)
       obtain ⟨af,c3,e3,haq⟩:=hX.at hql
       injection e3 with e3 e3' e3''
       injection e3 with e3
       subst e3
       clear e3' e3'' hX
       have hlt2:ordE.lt xents[q] E=decide (entCmp xents[q] E<0):=rfl
       have HPE:Hid (xents[k - 1]'(Nat.lt_of_le_of_lt (Nat.sub_le _ _) HLT.out)=xents[q]):=gd (by subst hq;rfl)
       have HCM:=gd (fun w'=>refCmpE_any xents[q] E w')
       obtain ⟨F,haq,hlt2,HPE,HCM⟩:∃F,AtEnt wr (ad.add (q*5)) F∧(ordE.lt F E=decide (entCmp F E<0))∧Hid (xents[k - 1]'(Nat.lt_of_le_of_lt (Nat.sub_le _ _) HLT.out)=F)∧Hid (∀w',Calls Tryz.prog 61 #[.agg (eCells F).toArray,.agg (eCells E).toArray] w' fun e w''=>e= .returned (.int .i64 (entCmp F E))∧Ext w' w''):=⟨_,haq,hlt2,HPE,HCM⟩
       have C0:∀d:Aft wr,d.w.cell? (ad.add (q*5))=some (.string F.id):=Aft.cell haq.c0
       have C1:∀d:Aft wr,d.w.cell? ⟨(ad.add (q*5)).block,(ad.add (q*5)).off+1,none⟩=some (.string F.title):=Aft.cell haq.c1
       have C2:∀d:Aft wr,d.w.cell? ⟨(ad.add (q*5)).block,(ad.add (q*5)).off+2,none⟩=some (.string F.link):=Aft.cell haq.c2
       have C3:∀d:Aft wr,d.w.cell? ⟨(ad.add (q*5)).block,(ad.add (q*5)).off+3,none⟩=some (.string F.content):=Aft.cell haq.c3
       have C4:∀d:Aft wr,d.w.cell? ⟨(ad.add (q*5)).block,(ad.add (q*5)).off+4,none⟩=some (.int .i64 F.upd):=Aft.cell haq.c4
       clear haq
       obtain ⟨c,hc⟩:∃c,entCmp F E=c:=⟨_,rfl⟩
       rw[hc] at hlt2 HCM
       have hk0:(0:Int)<(k:Int):=by omega
       have hks:wrap64 ((k:Int) - 1)=(q:Int):=by rw[wrap_ok _ ⟨by omega,by omega⟩];omega
       have hkq:(k:Int) - 1=(q:Int):=by omega
       have hq0:(0:Int)≤(q:Int):=by omega
       have hq1:(q:Int)<(xents.length:Int):=by omega
       unfold eCells at HCM
       by_cases hneg:c<0
       ·have HPREV:Hid (∀h:0<k,ordE.lt (xents[k - 1]'(Nat.lt_of_le_of_lt (Nat.sub_le _ _) HLT.out)) (xents[k]'HLT.out)=true):=gd (fun h=>by rw[HPE.out,HE.out,hlt2];exact decide_eq_true hneg)
        have hge:¬(0:Int)≤c:=by omega
        clear hlt2 hc hq HPE
        go_wp2
        refine rA ?_
        repeat (first|go_big_quiet_step ((first|(go_at_call 60;with_reducible exact quiet_call (HCE.out _))|(go_at_call 61;with_reducible exact quiet_call (HCM.out _))))|quiet_step ((first|(go_at_call 60;with_reducible exact quiet_call (HCE.out _))|(go_at_call 61;with_reducible exact quiet_call (HCM.out _)))))
        refine wpQuiet_nil ?_
        rintro _ ⟨d1,rfl⟩
        have hww:=hxq.trans d1.ext
        go_wp2
        go_loopw [5] (fun i wr=>∃j:Nat,j≤k∧i= .int .i64 j∧Hid (∀t (h:t<xents.length),t<j→xents[t].id≠E.id)∧Ext d1.w wr) (fun i _=>k - (intOf i).toNat)
        case atStart=>exact ⟨0,Nat.zero_le _,rfl,gd (fun t _ h=>by omega),Ext.refl _⟩
        case round=>
         obtain ⟨j,hj,rfl,hjn,hxj⟩:=hrel
         obtain ⟨_,bj5⟩:=hbox.out wr (hww.trans hxj)
         have hlt':=HLT.out
         by_cases hjk:j<k
         ·have hjl:j<xents.length:=by omega
          have hX:REnts wr (.slice (some ad) xents.length xd) xents:=HX1.out.ext (HW3.out.trans (hww.trans hxj))
          obtain ⟨ae,c2,e2,haj⟩:=hX.at hjl
          injection e2 with e2 e2' e2''
          injection e2 with e2
          subst e2
          clear e2' e2'' hX
          have hstep:xents[j].id≠E.id→∀t (h:t<xents.length),t<j+1→xents[t].id≠E.id:=fun hne t h ht=>by
           by_cases e:t=j
           ·subst e;exact hne
           ·exact hjn.out t h (by omega)
          have hbad2:xents[j].id=E.id→R=22:=fun e=>by
           refine HBAD.out ?_
           rw[Bool.eq_false_iff]
           intro h
           exact ((HIFF.out).1 h).2.2 j hjk (by rw[HE.out];exact e)
          have q0:=haj.c0
          have p0:=(HAX.out.ext (d1.ext.trans hxj)).c0
          obtain ⟨y,hyy⟩:∃y,xents[j].id=y:=⟨_,rfl⟩
          rw[hyy] at hstep hbad2 q0
          obtain ⟨z,hzz⟩:∃z,E.id=z:=⟨_,rfl⟩
          simp only[hzz] at hstep hbad2 p0 hjn⊢
          have HZ:=gd hzz
          clear hzz haj
          have B5:∀d:Aft wr,d.w.cell? ⟨w.heap.size,5,none⟩=some (.slice (some ad) xents.length xd):=Aft.cell bj5
          have Q0:∀d:Aft wr,d.w.cell? (ad.add (j*5))=some (.string y):=Aft.cell q0
          have P0:∀d:Aft wr,d.w.cell? (ad.add (k*5))=some (.string z):=Aft.cell p0
          have j0:(0:Int)≤(j:Int):=by omega
          have j1:(j:Int)<(xents.length:Int):=by omega
          have j2:(j:Int)<(k:Int):=by omega
          clear q0 p0 hlt'
          cases hyz:(y.toList==z.toList) with
          |true=>
           have hR:=hbad2 (toList_inj (by simpa using hyz))
           subst hR
           clear hbad2 hstep
           go_wp2
           refine rA ?_
           repeat (first|go_big_quiet_step (fail)|quiet_step (fail))
           refine wpQuiet_nil ?_
           rintro _ ⟨d2,rfl⟩
           go_wp2
           go_ret
           exact ⟨rfl,HW3.out.trans ((hww.trans hxj).trans d2.ext)⟩
          |false=>
           have HST:=gd (hstep (fun e=>by rw[e] at hyz;simp at hyz))
           clear hbad2 hstep
           go_wp2
           refine rA ?_
           repeat (first|go_big_quiet_step (fail)|quiet_step (fail))
           refine wpQuiet_nil ?_
           rintro _ ⟨d2,rfl⟩
           go_wp2
           go_roundw
           case rel=>exact ⟨j+1,by omega,by go_num,HST,hxj.trans d2.ext⟩
           case measure=>simp[intOf];omega
         ·have hje:j=k:=by omega
          subst hje
          have hgood:okAt okE ordE xents j=true:=by
           refine (HIFF.out).2 ⟨by rw[HE.out];exact HOK.out,HPREV.out,fun t ht=> ?_⟩
           rw[HE.out]
           exact hjn.out t (by omega) ht
          have HG:=gd hgood
          clear hgood hlt'
          go_wp2
          go_roundw
          case rel=>exact ⟨j+1,HLT.out,by go_num,gd (fun t ht=>by
           by_cases e:t=j
           ·rw[e];exact HG.out
           ·exact hinv.out t (by omega)),hww.trans hxj⟩
          case measure=>simp[intOf];have:=HLT.out;omega
       ·have hR:=HBAD.out (by
         rw[Bool.eq_false_iff]
         intro h
         have h1:=((HIFF.out).1 h).2.1 hpos
         rw[HPE.out,HE.out,hlt2] at h1
         exact hneg (of_decide_eq_true h1))
        subst hR
        have hge:(0:Int)≤c:=by omega
        clear hlt2 hc hq HPE
        go_wp2
        refine rA ?_
        repeat (first|go_big_quiet_step ((first|(go_at_call 60;with_reducible exact quiet_call (HCE.out _))|(go_at_call 61;with_reducible exact quiet_call (HCM.out _))))|quiet_step ((first|(go_at_call 60;with_reducible exact quiet_call (HCE.out _))|(go_at_call 61;with_reducible exact quiet_call (HCM.out _)))))
        refine wpQuiet_nil ?_
        rintro _ ⟨d1,rfl⟩
        go_wp2
        go_ret
        exact ⟨rfl,HW3.out.trans (hxq.trans d1.ext)⟩
    ·have hke:k=xents.length:=by omega
     subst hke
     have hR0:R=0:=by rw[←HR2.out,okL_true hinv.out];rfl
     subst hR0
     go_wp2
     go_ret
     exact ⟨rfl,HW3.out.trans hxq⟩
theorem refCheckF_any (x:Fc) (w:World) (hr:RdC w x) (hk:fokS x.f):
 Calls Tryz.prog 23 #[.agg (cellsC x).toArray] w fun e w'=>e= .returned (.int .i64 (if okF x.f=true then 0 else 22))∧Ext w w':=by
 have hF:okF x.f=(okH x.f && okL okE ordE x.f.ents):=rfl
 by_cases h0:x.f.path.length≤64
 case neg=>rw[if_neg (by rw[hF];unfold okH;simp[h0])];exact refCheckF_0 x w hr hk h0
 have nv:∀s,validS s=false→s∈ [x.f.id,x.f.title,x.f.link]→okF x.f=false:=fun s h hs=>by
  rw[Bool.eq_false_iff]
  intro h'
  have:=(okH_iff.1 (okF_iff.1 h').1).2.1 s (by unfold strsF;simp only[List.mem_append];exact Or.inr hs)
  rw[h] at this
  cases this
 cases v0:validS x.f.id with
 |false=>rw[if_neg (by rw[nv _ v0 (by simp)];simp)];exact refCheckF_no x w hr hk h0 (Or.inl v0)
 |true=>
 cases v1:validS x.f.title with
 |false=>rw[if_neg (by rw[nv _ v1 (by simp)];simp)];exact refCheckF_no x w hr hk h0 (Or.inr ⟨v0,Or.inl v1⟩)
 |true=>
 cases v2:validS x.f.link with
 |false=>rw[if_neg (by rw[nv _ v2 (by simp)];simp)];exact refCheckF_no x w hr hk h0 (Or.inr ⟨v0,Or.inr ⟨v1,Or.inl v2⟩⟩)
 |true=>
 by_cases h4:x.f.id=noS
 ·rw[if_neg (fun h'=>(okH_iff.1 (okF_iff.1 h').1).2.2.1 h4)]
  exact refCheckF_no x w hr hk h0 (Or.inr ⟨v0,Or.inr ⟨v1,Or.inr ⟨v2,Or.inl (by rw[h4,ByteArray.toList_eq];rfl)⟩⟩⟩)
 cases h5:inT x.f.upd with
 |false=>
  rw[if_neg (fun h'=>by have:=(okH_iff.1 (okF_iff.1 h').1).2.2.2.1;rw[h5] at this;cases this)]
  exact refCheckF_no x w hr hk h0 (Or.inr ⟨v0,Or.inr ⟨v1,Or.inr ⟨v2,Or.inr ⟨ne_noS h4,h5⟩⟩⟩⟩)
 |true=>
  have e:(okF x.f=true)=((okP x.f.path && okL okE ordE x.f.ents)=true):=by
   rw[hF]
   have:okH x.f=okP x.f.path:=by
    rw[Bool.eq_iff_iff,okH_iff]
    unfold okP
    rw[List.all_eq_true]
    constructor
    ·rintro ⟨_,a,_,_,b⟩ p hp
     simp[b p hp,a p (by unfold strsF;simp[hp])]
    ·intro h
     have h':∀p∈x.f.path,p≠noS∧validS p=true:=fun p hp=>by have:=h p hp;simpa using this
     refine ⟨h0,fun s hs=> ?_,h4,h5,fun p hp=>(h' p hp).1⟩
     unfold strsF at hs
     rcases List.mem_append.1 hs with hs|hs
     ·exact (h' s hs).2
     ·simp only[List.mem_cons,List.mem_nil_iff,or_false] at hs
      rcases hs with rfl|rfl|rfl<;>assumption
   rw[this]
  rw[show (if okF x.f=true then (0:Int) else 22)=(if (okP x.f.path && okL okE ordE x.f.ents)=true then 0 else 22) by simp only[e]]
  exact refCheckF_6 x w hr hk h0 v0 v1 v2 (ne_noS h4) h5
end Go.Proofs.YthlnaldahkgjnaaGreatDoor
