/- Parts of the proof: contracts and plain laws. -/
import Derived.Test.YthlnaldahkgjnaaGreatDoorY11
namespace Go.Proofs.YthlnaldahkgjnaaGreatDoor
open Go Go.RowKit
set_option linter.unusedVariables false
set_option linter.unusedSimpArgs false
set_option maxRecDepth 100000
set_option maxHeartbeats 16000000
section
set_option linter.unusedSimpArgs false
theorem large18_any (x:Fc) (w:World) (hr:RdC w x) (hw:fwide x.f):
 Calls Tryz.prog 17 #[.agg (cellsC x).toArray] w fun e w'=>e= .returned (.bool (decide (5000<bigF x.f)))∧Ext w w':=by
 have hone:=cellsC_one hr.sl
 have HT:=gd (fun (w':World) (h:Ext w w')=>tooLarge_any (.slice (some ⟨w'.heap.size,0,none⟩) 1 1) [x] (w'.alloc (.cells (cellsC x).toArray 32)) (rsl_new (w:=w') (n:=1) (cs:=cellsC x) (by rfl) (by decide)) (fun y hy=>by rw[List.mem_singleton.1 hy];exact (hr.ext h).ext ((Ext.refl _).alloc _)) (by show 1≤reachBytes;unfold reachBytes;decide) (fun y hy=>by rw[List.mem_singleton.1 hy];exact hw))
 have hb:bigL ([x].map Fc.f)=bigF x.f:=by unfold bigL;simp
 rw[hb] at HT
 obtain ⟨b,hbb⟩:∃b,bigF x.f=b:=⟨_,rfl⟩
 rw[hbb] at HT⊢
 clear hb hbb hone hw
 obtain ⟨xp,xes,⟨xpath,xid,xtitle,xlink,xupd,xents⟩⟩:=x
 obtain ⟨hx0,hx1⟩:=hr
 dsimp only at*
 obtain ⟨xA,xc,rfl, -, -⟩:=hx0.form
 obtain ⟨xB,xd,rfl, -, -⟩:=hx1.form
 unfold cellsC fCells at HT⊢
 dsimp only at HT⊢
 clear hx0 hx1
 by_cases h5:5000<b
 ·rw[if_pos h5] at HT
  rw[decide_eq_true h5]
  clear h5
  go_enter Tryz.func17,Tryz.ntmps17
  go_wp2_with (first|(go_at_call 47;(have hz:=HT.out _ ((Ext.refl w).alloc (.cells #[.slice xA xpath.length xc,.string xid,.string xtitle,.string xlink,.int .i64 xupd,.slice xB xents.length xd] 32)));(rw[size_alloc] at hz);(refine Calls.mono hz ?_);clear hz;rintro e w1 ⟨rfl,hx1⟩))
  go_ret
  exact ⟨rfl,(((Ext.refl w).alloc _).alloc _).trans hx1⟩
 ·rw[if_neg h5] at HT
  rw[decide_eq_false h5]
  clear h5
  go_enter Tryz.func17,Tryz.ntmps17
  go_wp2_with (first|(go_at_call 47;(have hz:=HT.out _ ((Ext.refl w).alloc (.cells #[.slice xA xpath.length xc,.string xid,.string xtitle,.string xlink,.int .i64 xupd,.slice xB xents.length xd] 32)));(rw[size_alloc] at hz);(refine Calls.mono hz ?_);clear hz;rintro e w1 ⟨rfl,hx1⟩))
  go_ret
  exact ⟨rfl,(((Ext.refl w).alloc _).alloc _).trans hx1⟩
def docJ (s:ByteArray):Option JO:=if 5000<s.size then none else jsonP s.data.toList
def PrsR (B:Nat) (w':World) (o:Option JO) (e:Ending):Prop:=match o with
 |some j=>∃A p c C q d m,e= .returned (.tuple #[.agg #[.int .i64 (kindJ j:Nat),.bool (bJ j),.int .i64 (nJ j),.string (sJ j),.slice A p c,.slice C q d,.int .i64 (atJ j:Nat)],.int .i64 1])∧NJn m B w' j (wcells (kindJ j) (bJ j) (nJ j) (sJ j) (.slice A p c) (.slice C q d) (atJ j))
 |none=>e= .returned (.tuple #[.agg #[.int .i64 0,.bool false,.int .i64 0,.string ⟨#[]⟩,.slice none 0 0,.slice none 0 0,.int .i64 0],.int .i64 0])
theorem parsed_any (s:ByteArray) (w:World) (hs:s.size≤reachBytes):
 Calls Tryz.prog 10 #[.string s] w fun e w'=>PrsR (w.heap.size+1) w' (docJ s) e∧Ext w w':=by
 have hk0:(w.alloc (.cells #[.int .i64 0,.bool false,.int .i64 0,.string ⟨#[]⟩,.slice none 0 0,.slice none 0 0,.int .i64 0] 25)).heap[w.heap.size]? =some (.cells #[.int .i64 0,.bool false,.int .i64 0,.string ⟨#[]⟩,.slice none 0 0,.slice none 0 0,.int .i64 0] 25 (0,0)):=heap_alloc_new w _
 by_cases h5:5000<s.size
 ·have hd:docJ s=none:=if_pos h5
  rw[hd]
  have h5':(5000:Int)<(s.size:Int):=by omega
  clear hd
  go_enter Tryz.func10,Tryz.ntmps10
  go_wp2_with (refine wpList_store_row rfl 25 (.tmp 2) (.tmp 10) rfl w.heap.size #[.int .i64 0,.bool false,.int .i64 0,.string ⟨#[]⟩,.slice none 0 0,.slice none 0 0,.int .i64 0] rfl rfl _ _ hk0 size_valJ rfl oneJ ?_)
  ((try simp only[Exit.inBlock,Exit.then]);refine bodyPost_ret (results_cell_row2 rfl _ _ _ _ _ _ _ rfl (setRow_heap _ _ _ _ _ _ hk0) Tryz.underlying25 rfl size_valJ) rfl ?_)
  exact ⟨rfl,((Ext.refl w).alloc _).setRow (Nat.le_refl _) _⟩
 ·have hd:docJ s=jsonP s.data.toList:=if_neg h5
  rw[hd]
  have h5':¬(5000:Int)<(s.size:Int):=by omega
  have HP:=gd (jParse_any s (w.alloc (.cells #[.int .i64 0,.bool false,.int .i64 0,.string ⟨#[]⟩,.slice none 0 0,.slice none 0 0,.int .i64 0] 25)) (by omega))
  clear hd h5
  cases hj:jsonP s.data.toList with
  |none=>
   rw[hj] at HP
   clear hj
   go_enter Tryz.func10,Tryz.ntmps10
   go_wp2_with (first|(go_at_call 27;(have hz:=HP.out);(refine Calls.mono hz ?_);clear hz;rintro e w1 ⟨⟨a,x,hx0,rfl⟩,hx1⟩;(have hxi:((x:Int) !=0)=true:=by rw[bne_iff_ne];omega);(have hkd:=(hx1.alloc (.cells #[.int .i64 0,.bool false,.int .i64 0,.string ⟨#[]⟩,.slice none 0 0,.slice none 0 0,.int .i64 0] 25)).heap hk0))|(refine wpList_store_row rfl 25 (.tmp 2) (.tmp 19) rfl w.heap.size #[.int .i64 0,.bool false,.int .i64 0,.string ⟨#[]⟩,.slice none 0 0,.slice none 0 0,.int .i64 0] rfl rfl _ _ hkd size_valJ rfl oneJ ?_))
   ((try simp only[Exit.inBlock,Exit.then]);refine bodyPost_ret (results_cell_row2 rfl _ _ _ _ _ _ _ rfl (setRow_heap _ _ _ _ _ _ hkd) Tryz.underlying25 rfl size_valJ) rfl ?_)
   exact ⟨rfl,((((Ext.refl w).alloc _).trans hx1).alloc _).setRow (Nat.le_refl _) _⟩
  |some j=>
   rw[hj] at HP
   clear hj
   go_enter Tryz.func10,Tryz.ntmps10
   go_wp2_with (first|(go_at_call 27;(have hz:=HP.out);(refine Calls.mono hz ?_);clear hz;rintro e w1 ⟨⟨A,p,c,C,q,d,m,rfl,hnj⟩,hx1⟩;(have HNJ:=gd hnj);clear hnj;(have hkd:=(hx1.alloc (.cells #[.int .i64 (kindJ j:Nat),.bool (bJ j),.int .i64 (nJ j),.string (sJ j),.slice A p c,.slice C q d,.int .i64 (atJ j:Nat)] 25)).heap hk0))|(refine wpList_store_row rfl 25 (.tmp 2) (.tmp 20) rfl w.heap.size #[.int .i64 (kindJ j:Nat),.bool (bJ j),.int .i64 (nJ j),.string (sJ j),.slice A p c,.slice C q d,.int .i64 (atJ j:Nat)] rfl rfl _ _ hkd size_valJ rfl oneJ ?_))
   ((try simp only[Exit.inBlock,Exit.then]);refine bodyPost_ret (results_cell_row2 rfl _ _ _ _ #[.int .i64 (kindJ j:Nat),.bool (bJ j),.int .i64 (nJ j),.string (sJ j),.slice A p c,.slice C q d,.int .i64 (atJ j:Nat)] _ _ rfl (setRow_heap _ _ _ _ _ _ hkd) Tryz.underlying25 rfl size_valJ) rfl ?_)
   refine ⟨⟨A,p,c,C,q,d,m,rfl,(HNJ.out.mono ?_).keep ((KF.of ((Ext.refl w1).alloc _)).trans (KF.setRow _ _ _ (Nat.lt_succ_self _)))⟩,((((Ext.refl w).alloc _).trans hx1).alloc _).setRow (Nat.le_refl _) _⟩
   rw[size_alloc]
   exact Nat.le_refl _
end
theorem wone {k:Int} {b:Bool} {n:Int} {s:ByteArray} {A B:Option Addr} {p c q d:Nat} {a:Int}:(wcells k b n s (.slice A p c) (.slice B q d) a).toArray.all (fun u=>u.oneCell')=true:=by
 simp[wcells,Value.oneCell']
theorem heap2b (w:World) (A B:Obj):((w.alloc A).alloc B).heap[w.heap.size+1]? =some B:=by
 have:=heap_alloc_new (w.alloc A) B
 rwa [size_alloc] at this
theorem beq_ne {a b:ByteArray} (h:¬a=b):(a.toList==b.toList)=false:=by
 rw[toList_beq];simp only[beq_eq_false_iff_ne];exact fun e=>h (bytes_inj e)
theorem getJ_ne {j:JO} (h:kindJ j≠5) (name:ByteArray):getJ j name=none:=by
 cases j<;>first|rfl|(exfalso;exact h rfl)
def GotJ (w:World) (o:Option JO) (e:Ending):Prop:=∃cs,e= .returned (.tuple #[.agg cs.toArray,.bool o.isSome])∧RJ w (o.getD (.null 0)) cs
theorem jget_any (j:JO) (cs:List Value) (name:ByteArray) (w0 w:World) (h:RJ w0 j cs) (hx0:Ext w0 w):
 Calls Tryz.prog 44 #[.agg cs.toArray,.string name] w fun e w'=>GotJ w0 (getJ j name) e∧Ext w w':=by
 by_cases h5:kindJ j=5
 ·cases j with
  |obj a ks vs=>
   obtain ⟨n,h⟩:=h
   cases n with
   |zero=>exact h.elim
   |succ n=>
    obtain ⟨its,mv,rfl,hits,⟨ms,hks,hml,hr,hel⟩,hi0, -⟩:=h
    obtain rfl:=hi0 (by show (5:Nat)≠4;decide)
    replace hks:ms.map (fun m=>(m.1,m.2.2))=ks.map (fun k=>(k.1,(k.2:Int))):=hks
    replace hml:ms.length=vs.length:=hml
    replace hr:RSl w0 9 mv vs.length (ms.map mcell).flatten:=hr
    replace hel:∀(i:Nat) (j:JO) (m:ByteArray×List Value×Int),vs[i]? =some j→ms[i]? =some m→RJn n w0 j m.2.1:=hel
    obtain ⟨_,A,c,rfl,hmc,hcm,_,_⟩:=id hr
    have hln:∀c∈ms.map mcell,c.length=9:=by
     intro c hc
     obtain ⟨m,hm,rfl⟩:=List.mem_map.1 hc
     obtain ⟨i,hi,rfl⟩:=List.mem_iff_getElem.1 hm
     have:=(hel i vs[i] ms[i] (List.getElem?_eq_getElem (by omega)) (List.getElem?_eq_getElem hi)).len
     simp[mcell,this]
    have hkl:ks.length=vs.length:=by
     have:=congrArg List.length hks
     rw[List.length_map,List.length_map] at this
     omega
    show Calls _ _ #[.agg (wcells 5 false 0 noS (.slice none 0 0) (.slice A vs.length c) a).toArray,_] _ fun e w'=>GotJ w0 (lookG ks vs name) e∧Ext w w'
    have HLN:=gd hln
    have HEL:=gd hel
    have HKS:=gd hks
    have hk1:=heap2b w (.cells (wcells 5 false 0 noS (.slice none 0 0) (.slice A vs.length c) a).toArray 25) (.cells #[.int .i64 0,.bool false,.int .i64 0,.string ⟨#[]⟩,.slice none 0 0,.slice none 0 0,.int .i64 0] 25)
    clear hln hel hks hits
    unfold wcells noS at*
    go_enter Tryz.func44,Tryz.ntmps44
    go_wp2
    go_loopw [15] (fun i wr=>∃k:Nat,k≤vs.length∧i= .int .i64 k∧Hid (lookG ks vs name=lookG (ks.drop k) (vs.drop k) name)∧Ext ((w.alloc (.cells #[.int .i64 5,.bool false,.int .i64 0,.string ⟨#[]⟩,.slice none 0 0,.slice A vs.length c,.int .i64 a] 25)).alloc (.cells #[.int .i64 0,.bool false,.int .i64 0,.string ⟨#[]⟩,.slice none 0 0,.slice none 0 0,.int .i64 0] 25)) wr) (fun i _=>vs.length - (intOf i).toNat)
    case atStart=>exact ⟨0,Nat.zero_le _,rfl,rfl,Ext.refl _⟩
    case round=>
     obtain ⟨k,hk,rfl,hlk,hx⟩:=hrel
     have hxw:Ext w wr:=(((Ext.refl w).alloc _).alloc _).trans hx
     have hk2:=hx.heap hk1
     by_cases hlt:k<vs.length
     ·have hck:k<ms.length:=by omega
      have hkk:k<ks.length:=by omega
      have hRV:=HEL.out k vs[k] ms[k] (List.getElem?_eq_getElem hlt) (List.getElem?_eq_getElem hck)
      obtain ⟨ad,cap,hA,hcells⟩:=RSl.elem (hr.ext (hx0.trans hxw)) (by omega) HLN.out k (mcell ms[k]) (by rw[List.getElem?_map,List.getElem?_eq_getElem hck];rfl)
      injection hA with hA1 hA2 hA3
      subst hA1
      clear hA2 hA3
      rw[Nat.mul_comm] at hcells
      have hkey:ks[k].1=ms[k].1:=by
       have h1:(ms.map (fun m=>(m.1,m.2.2)))[k]? =(ks.map (fun k=>(k.1,(k.2:Int))))[k]?:=by rw[HKS.out]
       rw[List.getElem?_map,List.getElem?_map,List.getElem?_eq_getElem hck,List.getElem?_eq_getElem hkk] at h1
       simp at h1
       exact h1.1.symm
      have hst:lookG ks vs name=if ks[k].1=name then some vs[k] else lookG (ks.drop (k+1)) (vs.drop (k+1)) name:=by
       rw[hlk.out,List.drop_eq_getElem_cons hlt,List.drop_eq_getElem_cons hkk];rfl
      obtain ⟨M,hM0⟩:∃M,ms[k]=M:=⟨_,rfl⟩
      rw[hM0] at hcells hRV hkey
      obtain ⟨key,cv,at_⟩:=M
      dsimp only at hkey hRV
      rw[hkey] at hst
      have hl7:=hRV.len
      have HRJ:=gd hRV
      obtain ⟨A1,p1,q1,B1,p2,q2,hc⟩:=hRV.cells
      generalize kindJ vs[k]=K,bJ vs[k]=Bb,nJ vs[k]=Nn,sJ vs[k]=Ss,atJ vs[k]=At at hc
      subst hc
      obtain ⟨c0,cv_,c8⟩:=mcell_at hl7 hcells
      have c1:=cv_ 0 _ rfl
      have c2:=cv_ 1 _ rfl
      have c3:=cv_ 2 _ rfl
      have c4:=cv_ 3 _ rfl
      have c5:=cv_ 4 _ rfl
      have c6:=cv_ 5 _ rfl
      have c7:=cv_ 6 _ rfl
      simp only[Nat.zero_add,Nat.reduceAdd] at c1 c2 c3 c4 c5 c6 c7
      have HST:=gd hst
      have hk3:=((Ext.refl wr).alloc (.cells #[.string key,.int .i64 K,.bool Bb,.int .i64 Nn,.string Ss,.slice A1 p1 q1,.slice B1 p2 q2,.int .i64 At,.int .i64 at_] 56)).heap hk2
      have hw1:wrap64 ((k:Int)+1)=((k+1:Nat):Int):=by rw[maxLen] at hcm;rw[wrap_ok _ ⟨by omega,by omega⟩];rfl
      clear hcells cv_ hl7 hkey hM0 hst hRV hlk
      by_cases hn:key=name
      ·subst hn
       have hbe:(key.toList==key.toList)=true:=by simp
       have hst:=gd (HST.out.trans (if_pos rfl))
       go_wp2_with (refine wpList_store_row rfl 25 (.tmp 4) (.tmp 24) rfl (w.heap.size+1) _ rfl rfl _ _ hk3 size_val rfl (wone (k:=K) (b:=Bb) (n:=Nn) (s:=Ss) (A:=A1) (B:=B1) (p:=p1) (c:=q1) (q:=p2) (d:=q2) (a:=At)) ?_)
       ((try simp only[Exit.inBlock,Exit.then]);refine bodyPost_ret (results_cell_row2 rfl _ _ _ _ _ _ _ rfl (setRow_heap _ _ _ _ _ _ hk3) Tryz.underlying25 rfl size_val) rfl ?_)
       rw[hst.out]
       exact ⟨⟨_,rfl,n,HRJ.out⟩,(hxw.alloc _).setRow (Nat.le_succ _) _⟩
      ·have hst:=gd (HST.out.trans (if_neg hn))
       have hbe:(key.toList==name.toList)=false:=beq_ne hn
       go_wp2
       go_roundw
       case rel=>exact ⟨k+1,hlt,by rw[hw1],hst,hx.alloc _⟩
       case measure=>rw[hw1];simp[intOf];omega
     ·have hk':k=vs.length:=by omega
      subst hk'
      have hst:=gd (hlk.out.trans (by rw[List.drop_of_length_le (Nat.le_of_eq hkl),List.drop_of_length_le (Nat.le_refl _)];rfl:_=none))
      go_wp2_with (refine wpList_store_row rfl 25 (.tmp 4) (.tmp 26) rfl (w.heap.size+1) _ rfl rfl _ _ hk2 size_val rfl (wone (k:=0) (b:=false) (n:=0) (s:=⟨#[]⟩) (A:=none) (B:=none) (p:=0) (c:=0) (q:=0) (d:=0) (a:=0)) ?_)
      ((try simp only[Exit.inBlock,Exit.then]);refine bodyPost_ret (results_cell_row2 rfl _ _ _ _ _ _ _ rfl (setRow_heap _ _ _ _ _ _ hk2) Tryz.underlying25 rfl size_val) rfl ?_)
      rw[hst.out]
      exact ⟨⟨_,rfl,RJ.null w0⟩,hxw.setRow (Nat.le_succ _) _⟩
  |null=>exact absurd h5 (by show ¬(0:Nat)=5;decide)
  |bool=>exact absurd h5 (by show ¬(1:Nat)=5;decide)
  |int=>exact absurd h5 (by show ¬(2:Nat)=5;decide)
  |str=>exact absurd h5 (by show ¬(3:Nat)=5;decide)
  |arr=>exact absurd h5 (by show ¬(4:Nat)=5;decide)
 ·rw[getJ_ne h5]
  obtain ⟨A,p,c,B,q,d,rfl⟩:=h.cells
  obtain ⟨K,hK⟩:∃K,kindJ j=K:=⟨_,rfl⟩
  rw[hK] at h5⊢
  have hne:((K:Int) !=5)=true:=by simp;omega
  have hk1:=heap2b w (.cells (wcells K (bJ j) (nJ j) (sJ j) (.slice A p c) (.slice B q d) (atJ j)).toArray 25) (.cells #[.int .i64 0,.bool false,.int .i64 0,.string ⟨#[]⟩,.slice none 0 0,.slice none 0 0,.int .i64 0] 25)
  unfold wcells at*
  clear h hK
  go_enter Tryz.func44,Tryz.ntmps44
  go_wp2_with (refine wpList_store_row rfl 25 (.tmp 4) (.tmp 11) rfl (w.heap.size+1) _ rfl rfl _ _ hk1 size_val rfl (wone (k:=0) (b:=false) (n:=0) (s:=⟨#[]⟩) (A:=none) (B:=none) (p:=0) (c:=0) (q:=0) (d:=0) (a:=0)) ?_)
  ((try simp only[Exit.inBlock,Exit.then]);refine bodyPost_ret (results_cell_row2 rfl _ _ _ _ _ _ _ rfl (setRow_heap _ _ _ _ _ _ hk1) Tryz.underlying25 rfl size_val) rfl ?_)
  exact ⟨⟨_,rfl,RJ.null w0⟩,(((Ext.refl w).alloc _).alloc _).setRow (Nat.le_succ _) _⟩
abbrev Bar (b:Nat) (w w':World):Prop:=w.grownBy w' (some b)
theorem Bar.refl (b:Nat) (w:World):Bar b w w:=(Ext.refl w).grown _
theorem Bar.trans {b:Nat} {u v w:World} (h:Bar b u v) (k:Bar b v w):Bar b u w:=
 ⟨k.os.trans h.os,k.tape.trans h.tape,k.output.trans h.output,Nat.le_trans h.size k.size,fun i hi hn=>(k.block i (Nat.lt_of_lt_of_le hi h.size) hn).trans (h.block i hi hn)⟩
theorem Bar.of {b:Nat} {u v:World} (h:Ext u v):Bar b u v:=h.grown _
theorem Bar.ext {b:Nat} {u v w:World} (h:Ext u v) (k:Bar b v w) (hb:u.heap.size≤b):Ext u w:=
 Below.grown h k h.size fun i hi=>by cases hi;exact hb
theorem Bar.heap {b k:Nat} {u v:World} {o:Obj} (h:Bar b u v) (hk:u.heap[k]? =some o) (hn:k≠b):v.heap[k]? =some o:=
 (h.block k (Array.getElem?_eq_some_iff.1 hk).1 (by simpa using hn)).trans hk
theorem Bar.setCell (w:World) (p:Addr) (u:Value):Bar p.block w (w.setCell p u):=by
 refine ⟨rfl,rfl,rfl,by simp[World.setCell],fun k hk hn=> ?_⟩
 rw[Below.heap_setCell _ _ _ _ (fun e=>hn (by rw[e]))]
def faultA:Option (Nat×Nat)→Nat
 |some e=>e.1
 |none=>0
def faultE:Option (Nat×Nat)→Nat
 |some e=>e.2
 |none=>0
def RdAt (b:Nat) (cs:List Value) (o:Option (Nat×Nat)) (w:World):Prop:=
 w.heap[b]? =some (.cells (cs++ [Value.int .i64 (faultA o:Nat),Value.int .i64 (faultE o:Nat)]).toArray 67 (0,0))∧(∀e,o=some e→e.2≠0)
theorem RdAt.ext {b:Nat} {cs:List Value} {o:Option (Nat×Nat)} {w w':World} (h:RdAt b cs o w) (hx:Ext w w'):RdAt b cs o w':=⟨hx.heap h.1,h.2⟩
def firstF (o:Option (Nat×Nat)) (a e:Nat):Option (Nat×Nat):=match o with
 |some f=>some f
 |none=>some (a,e)
theorem fail_any (b:Nat) (k:Int) (bb:Bool) (x:Int) (s:ByteArray) (its ms:Value) (a:Int) (o:Option (Nat×Nat)) (at_ e:Nat) (w:World) (h:RdAt b (wcells k bb x s its ms a) o w) (he:e≠0):
 Calls Tryz.prog 34 #[.pointer (some ⟨b,0,none⟩),.int .i64 (at_:Nat),.int .i64 (e:Nat)] w fun r w'=>r= .returned (.tuple #[])∧RdAt b (wcells k bb x s its ms a) (firstF o at_ e) w'∧Bar b w w':=by
 obtain ⟨hk,ho⟩:=h
 unfold wcells at*
 have hfr:∀i,w.frozen? ⟨b,i,none⟩=false:=fun i=>Lib.frozen_of_heap hk i
 have f7:=hfr 7
 have f8:=hfr 8
 cases o with
 |some f=>
  have hne:¬((f.2:Nat):Int)=0:=by have:=ho f rfl;omega
  have c8:w.cell? ⟨b,8,none⟩=some (.int .i64 (f.2:Nat)):=cell_of_row _ _ 8 _ _ _ hk
  obtain ⟨fa,fe⟩:=f
  dsimp only[faultE,faultA,List.cons_append,List.nil_append] at*
  go_enter Tryz.func34,Tryz.ntmps34
  go_wp2
  ((try simp only[Exit.inBlock,Exit.then]);refine bodyPost_end (results_none rfl _ _ _) rfl ?_)
  exact ⟨rfl,⟨hk,ho⟩,Bar.refl _ _⟩
 |none=>
  dsimp only[faultE,faultA,List.cons_append,List.nil_append] at*
  have c7:w.cell? ⟨b,7,none⟩=some (.int .i64 0):=cell_of_row _ _ 7 _ _ _ hk
  have c8:w.cell? ⟨b,8,none⟩=some (.int .i64 0):=cell_of_row _ _ 8 _ _ _ hk
  have d8:(w.setCell ⟨b,7,none⟩ (.int .i64 (at_:Nat))).cell? ⟨b,8,none⟩=some (.int .i64 0):=by
   rw[Lib.cell_of_heap (heap_setCell_same _ _ _ _ _ _ hk)];rfl
  have g8:(w.setCell ⟨b,7,none⟩ (.int .i64 (at_:Nat))).frozen? ⟨b,8,none⟩=false:=Lib.frozen_of_heap (heap_setCell_same _ _ _ _ _ _ hk) 8
  go_enter Tryz.func34,Tryz.ntmps34
  go_wp2
  ((try simp only[Exit.inBlock,Exit.then]);refine bodyPost_end (results_none rfl _ _ _) rfl ?_)
  refine ⟨rfl,⟨?_,?_⟩,(Bar.setCell w ⟨b,7,none⟩ _).trans (Bar.setCell _ ⟨b,8,none⟩ _)⟩
  ·rw[heap_setCell_same _ _ _ _ _ _ (heap_setCell_same _ _ _ _ _ _ hk)];rfl
  ·intro f hf
   cases hf
   exact he
section
attribute [local go_sem] calm1
def GotM (w:World) (o:Option JO) (e:Ending):Prop:=∃x cs,e= .returned (.tuple #[.agg cs.toArray,.bool o.isSome])∧RJ w x cs∧(o=some x∨(o=none∧kindJ x=0))
theorem gotM_of {w:World} {j x:JO} {name:ByteArray} {cs:List Value} (h:getJ j name=some x) (hr:RJ w x cs):GotM w (memJ j name) (.returned (.tuple #[.agg cs.toArray,.bool (decide (kindJ x≠0))])):=by
 unfold memJ
 rw[h]
 by_cases h0:kindJ x=0
 ·refine ⟨x,cs,?_,hr,Or.inr ⟨if_pos h0,h0⟩⟩
  simp[h0]
 ·refine ⟨x,cs,?_,hr,Or.inl (if_neg h0)⟩
  simp[h0]
theorem gotM_no {w:World} {j:JO} {name:ByteArray} {cs:List Value} (h:getJ j name=none) (hr:RJ w (.null 0) cs):GotM w (memJ j name) (.returned (.tuple #[.agg cs.toArray,.bool false])):=by
 unfold memJ
 rw[h]
 exact ⟨_,cs,rfl,hr,Or.inr ⟨rfl,rfl⟩⟩
theorem rget_any (j:JO) (k:Int) (bb:Bool) (x:Int) (s:ByteArray) (A B:Option Addr) (p c q d:Nat) (a:Int) (b:Nat) (o:Option (Nat×Nat)) (name:ByteArray) (w0 w:World) (h:RJ w0 j (wcells k bb x s (.slice A p c) (.slice B q d) a)) (hx0:Ext w0 w) (hr:RdAt b (wcells k bb x s (.slice A p c) (.slice B q d) a) o w):
 Calls Tryz.prog 33 #[.pointer (some ⟨b,0,none⟩),.string name] w fun e w'=>GotM w0 (memJ j name) e∧Ext w w':=by
 have HG:=gd (fun w' (hx:Ext w0 w')=>jget_any j _ name w0 w' h hx)
 have hb:=((Ext.refl w).alloc (.cells #[.int .i64 0,.bool false,.int .i64 0,.string ⟨#[]⟩,.slice none 0 0,.slice none 0 0,.int .i64 0] 25)).heap hr.1
 have hk1:=heap_alloc_new w (.cells #[.int .i64 0,.bool false,.int .i64 0,.string ⟨#[]⟩,.slice none 0 0,.slice none 0 0,.int .i64 0] 25)
 unfold wcells at*
 simp only[List.cons_append,List.nil_append] at hb
 have c0:=cell_of_row _ _ 0 _ _ _ hb
 have c1:=cell_of_row _ _ 1 _ _ _ hb
 have c2:=cell_of_row _ _ 2 _ _ _ hb
 have c3:=cell_of_row _ _ 3 _ _ _ hb
 have c4:=cell_of_row _ _ 4 _ _ _ hb
 have c5:=cell_of_row _ _ 5 _ _ _ hb
 have c6:=cell_of_row _ _ 6 _ _ _ hb
 clear h hr hb
 go_enter Tryz.func33,Tryz.ntmps33
 go_wp2_with (go_at_call 44;refine (HG.out _ (hx0.alloc _)).mono ?_;rintro e w1 ⟨⟨cv,rfl,hrj⟩,hx1⟩;(obtain ⟨A1,p1,q1,B1,p2,q2,hc⟩:=hrj.cells);(generalize hK:kindJ _=K at hc);(generalize bJ _=Bb,nJ _=Nn,sJ _=Ss,atJ _=At at hc);unfold wcells at hc;subst hc;(have hk2:=hx1.heap hk1);(generalize hF:(getJ j name).isSome=F))
 go_wp2
 cases F with
 |true=>
  obtain ⟨X,hX⟩:=Option.isSome_iff_exists.1 hF
  rw[hX] at hrj hK
  have HQ:=gd (gotM_of hX hrj)
  clear hrj hF HG
  rw[show kindJ X=K from hK] at HQ
  have hne:((K:Int) !=0)=decide (K≠0):=by by_cases hz:K=0<;>simp[hz]
  rw[←hne] at HQ
  clear hne
  refine rN ?_
  change wpAny _ _ _ _ _ _ _ (World.drew _)
  have hxd:=(Ext.refl (w1.alloc (.cells #[.int .i64 K,.bool Bb,.int .i64 Nn,.string Ss,.slice A1 p1 q1,.slice B1 p2 q2,.int .i64 At] 25))).drew
  have hkd:=hxd.heap (((Ext.refl w1).alloc _).heap hk2)
  have hS0:(w1.alloc (.cells #[.int .i64 K,.bool Bb,.int .i64 Nn,.string Ss,.slice A1 p1 q1,.slice B1 p2 q2,.int .i64 At] 25)).drew.heap[w1.heap.size]? =some (.cells #[.int .i64 K,.bool Bb,.int .i64 Nn,.string Ss,.slice A1 p1 q1,.slice B1 p2 q2,.int .i64 At] 25 (0,0)):=hxd.heap (heap_alloc_new w1 _)
  refine wpAny_of_S (fun w'=>w'.heap[w1.heap.size]? =some (.cells #[.int .i64 K,.bool Bb,.int .i64 Nn,.string Ss,.slice A1 p1 q1,.slice B1 p2 q2,.int .i64 At] 25 (0,0))) ?_
  refine tS 0 (.agg #[.int .i64 K,.bool Bb,.int .i64 Nn,.string Ss,.slice A1 p1 q1,.slice B1 p2 q2,.int .i64 At]) rfl (fun w' hS=>by have q0:=cell_of_row _ _ 0 _ _ _ hS;have q1:=cell_of_row _ _ 1 _ _ _ hS;have q2:=cell_of_row _ _ 2 _ _ _ hS;have q3:=cell_of_row _ _ 3 _ _ _ hS;have q4:=cell_of_row _ _ 4 _ _ _ hS;have q5:=cell_of_row _ _ 5 _ _ _ hS;have q6:=cell_of_row _ _ 6 _ _ _ hS;go_simp) hS0 ?_
  refine tG 1 (.bool true) hS0 ?_
  refine tG 2 (.bool true) hS0 ?_
  refine tG 3 (.pointer (some ⟨w1.heap.size,0,none⟩)) hS0 ?_
  refine tS 4 (.int .i64 K) rfl (fun w' hS=>by have hq:=cell_of_row _ _ 0 _ _ _ hS;go_simp) hS0 ?_
  refine tG 5 (.bool ((K:Int) !=0)) hS0 ?_
  refine tG 6 (.bool ((K:Int) !=0)) hS0 ?_
  go_simp
  refine wpAnyS_step (i:=7) rfl (by kernel_rfl) (fun K2 hK2=> ?_)
  refine step_store_row rfl 25 (.tmp 4) (.tmp 17) rfl w.heap.size #[.int .i64 K,.bool Bb,.int .i64 Nn,.string Ss,.slice A1 p1 q1,.slice B1 p2 q2,.int .i64 At] rfl rfl _ _ hkd size_val rfl (wone (k:=K) (b:=Bb) (n:=Nn) (s:=Ss) (A:=A1) (B:=B1) (p:=p1) (c:=q1) (q:=p2) (d:=q2) (a:=At)) ?_
  have hS1:=(setRow_other _ w.heap.size w1.heap.size #[.int .i64 K,.bool Bb,.int .i64 Nn,.string Ss,.slice A1 p1 q1,.slice B1 p2 q2,.int .i64 At] (Nat.ne_of_gt (Array.getElem?_eq_some_iff.1 hk2).1)).trans hS0
  refine hK2 _ _ hS1 ?_
  clear hK2 K2
  refine wpAnyS_step (i:=8) rfl (by kernel_rfl) (fun K2 hK2=> ?_)
  go_simp
  refine hK2 _ _ hS1 ?_
  clear hK2 K2
  refine sE ?_
  go_wp2
  ((try simp only[Exit.inBlock,Exit.then]);refine bodyPost_ret (results_cell_row2 rfl _ _ _ _ _ _ _ rfl (setRow_heap _ _ _ _ _ _ hkd) Tryz.underlying25 rfl size_val) rfl ?_)
  exact ⟨HQ.out,((((Ext.refl w).alloc _).trans hx1).alloc _|>.trans hxd).setRow (Nat.le_refl _) _⟩
 |false=>
  have hX:=Option.not_isSome_iff_eq_none.1 (by rw[hF];decide)
  rw[hX] at hrj hK
  have HQ:=gd (gotM_no hX hrj)
  clear hrj hF HG
  refine rN ?_
  change wpAny _ _ _ _ _ _ _ (World.drew _)
  have hxd:=(Ext.refl (w1.alloc (.cells #[.int .i64 K,.bool Bb,.int .i64 Nn,.string Ss,.slice A1 p1 q1,.slice B1 p2 q2,.int .i64 At] 25))).drew
  have hkd:=hxd.heap (((Ext.refl w1).alloc _).heap hk2)
  have hS0:(w1.alloc (.cells #[.int .i64 K,.bool Bb,.int .i64 Nn,.string Ss,.slice A1 p1 q1,.slice B1 p2 q2,.int .i64 At] 25)).drew.heap[w1.heap.size]? =some (.cells #[.int .i64 K,.bool Bb,.int .i64 Nn,.string Ss,.slice A1 p1 q1,.slice B1 p2 q2,.int .i64 At] 25 (0,0)):=hxd.heap (heap_alloc_new w1 _)
  refine wpAny_of_S (fun w'=>w'.heap[w1.heap.size]? =some (.cells #[.int .i64 K,.bool Bb,.int .i64 Nn,.string Ss,.slice A1 p1 q1,.slice B1 p2 q2,.int .i64 At] 25 (0,0))) ?_
  refine tS 0 (.agg #[.int .i64 K,.bool Bb,.int .i64 Nn,.string Ss,.slice A1 p1 q1,.slice B1 p2 q2,.int .i64 At]) rfl (fun w' hS=>by have q0:=cell_of_row _ _ 0 _ _ _ hS;have q1:=cell_of_row _ _ 1 _ _ _ hS;have q2:=cell_of_row _ _ 2 _ _ _ hS;have q3:=cell_of_row _ _ 3 _ _ _ hS;have q4:=cell_of_row _ _ 4 _ _ _ hS;have q5:=cell_of_row _ _ 5 _ _ _ hS;have q6:=cell_of_row _ _ 6 _ _ _ hS;go_simp) hS0 ?_
  refine tG 1 (.bool false) hS0 ?_
  refine tG 2 (.bool false) hS0 ?_
  refine wpAnyS_take (i:=3) (v:=undef) rfl (by kernel_rfl) (fun _ _ _ h=>h) (Or.inr ⟨by rfl,rfl⟩) hS0 ?_
  refine wpAnyS_take (i:=4) (v:=undef) rfl (by kernel_rfl) (fun _ _ _ h=>h) (Or.inr ⟨by rfl,rfl⟩) hS0 ?_
  refine wpAnyS_take (i:=5) (v:=undef) rfl (by kernel_rfl) (fun _ _ _ h=>h) (Or.inr ⟨by rfl,rfl⟩) hS0 ?_
  refine tG 6 (.bool false) hS0 ?_
  go_simp
  refine wpAnyS_step (i:=7) rfl (by kernel_rfl) (fun K2 hK2=> ?_)
  refine step_store_row rfl 25 (.tmp 4) (.tmp 17) rfl w.heap.size #[.int .i64 K,.bool Bb,.int .i64 Nn,.string Ss,.slice A1 p1 q1,.slice B1 p2 q2,.int .i64 At] rfl rfl _ _ hkd size_val rfl (wone (k:=K) (b:=Bb) (n:=Nn) (s:=Ss) (A:=A1) (B:=B1) (p:=p1) (c:=q1) (q:=p2) (d:=q2) (a:=At)) ?_
  have hS1:=(setRow_other _ w.heap.size w1.heap.size #[.int .i64 K,.bool Bb,.int .i64 Nn,.string Ss,.slice A1 p1 q1,.slice B1 p2 q2,.int .i64 At] (Nat.ne_of_gt (Array.getElem?_eq_some_iff.1 hk2).1)).trans hS0
  refine hK2 _ _ hS1 ?_
  clear hK2 K2
  refine wpAnyS_step (i:=8) rfl (by kernel_rfl) (fun K2 hK2=> ?_)
  go_simp
  refine hK2 _ _ hS1 ?_
  clear hK2 K2
  refine sE ?_
  go_wp2
  ((try simp only[Exit.inBlock,Exit.then]);refine bodyPost_ret (results_cell_row2 rfl _ _ _ _ _ _ _ rfl (setRow_heap _ _ _ _ _ _ hkd) Tryz.underlying25 rfl size_val) rfl ?_)
  exact ⟨HQ.out,((((Ext.refl w).alloc _).trans hx1).alloc _|>.trans hxd).setRow (Nat.le_refl _) _⟩
end
def jsz (M:Nat):JO→Prop
 | .int _ n=> -9223372036854775808≤n∧n≤9223372036854775807
 | .str _ s=>s.size≤M
 | .arr _ l=>∀j∈l,jsz M j
 | .obj _ _ vs=>∀j∈vs,jsz M j
 |_=>True
theorem lookG_mem:∀(ks:List (ByteArray×Nat)) (vs:List JO) (n:ByteArray) (x:JO),lookG ks vs n=some x→x∈vs
 |k::ks,v::vs,n,x,h=>by
  unfold lookG at h
  by_cases hk:k.1=n
  ·rw[if_pos hk] at h;injection h with h;subst h;exact List.mem_cons_self
  ·rw[if_neg hk] at h;exact List.mem_cons_of_mem _ (lookG_mem ks vs n x h)
 | [],_,_,_,h=>by simp[lookG] at h
 |_::_,[],_,_,h=>by simp[lookG] at h
theorem getJ_good {N:Nat} {j x:JO} {n:ByteArray} (h:jsz N j) (hg:getJ j n=some x):jsz N x:=by
 cases j with
 |obj a ks vs=>
  rw[jsz] at h
  exact h x (lookG_mem ks vs n x hg)
 |_=>simp[getJ] at hg
theorem memJ_get {j x:JO} {n:ByteArray} (h:memJ j n=some x):getJ j n=some x∧kindJ x≠0:=by
 unfold memJ at h
 cases hg:getJ j n with
 |none=>rw[hg] at h;cases h
 |some y=>
  rw[hg] at h
  simp only at h
  by_cases h0:kindJ y=0
  ·rw[if_pos h0] at h;cases h
  ·rw[if_neg h0] at h;injection h with h;subst h;exact ⟨rfl,h0⟩
theorem memJ_good {N:Nat} {j x:JO} {n:ByteArray} (h:jsz N j) (hg:memJ j n=some x):jsz N x:=getJ_good h (memJ_get hg).1
theorem sJ_size {N:Nat} {j:JO} (h:jsz N j):(sJ j).size≤N:=by
 cases j with
 |str a s=>rw[jsz] at h;exact h
 |_=>exact Nat.zero_le _
theorem sJ_no {j:JO} (h:kindJ j≠3):sJ j=noS:=by
 cases j<;>first|rfl|exact absurd rfl h
def orF {α:Type}:Option α→Option α→Option α
 |some f,_=>some f
 |none,o=>o
theorem orF_none {α:Type} (o:Option α):orF o none=o:=by cases o<;>rfl
theorem orF_assoc {α:Type} (a b c:Option α):orF (orF a b) c=orF a (orF b c):=by cases a<;>rfl
def chk1 (j:JO) (n:ByteArray):Option (Nat×Nat):=match memJ j n with
 |none=>none
 |some x=>if kindJ x≠3 then some (atJ x,21) else if (checkS (sJ x)).2≠0 then some (atJ x,(checkS (sJ x)).2) else none
theorem chkJ_cons1 (j:JO) (n:ByteArray) (t:List ByteArray):chkJ j false (n::t)=orF (chk1 j n) (chkJ j false t):=by
 have e:chkJ j false (n::t)=match memJ j n with
  |none=>chkJ j false t
  |some x=>if false=true∧kindJ x=2 then chkJ j false t else if kindJ x≠3 then some (atJ x,21) else if (checkS (sJ x)).2≠0 then some (atJ x,(checkS (sJ x)).2) else chkJ j false t:=rfl
 rw[e]
 unfold chk1
 cases memJ j n with
 |none=>rfl
 |some x=>
  simp only[Bool.false_eq_true,false_and,if_false]
  by_cases h3:kindJ x≠3
  ·rw[if_pos h3,if_pos h3];rfl
  ·rw[if_neg h3,if_neg h3]
   by_cases hc:(checkS (sJ x)).2≠0
   ·rw[if_pos hc,if_pos hc];rfl
   ·rw[if_neg hc,if_neg hc];rfl
theorem chkJ_one (j:JO) (n:ByteArray):chkJ j false [n]=chk1 j n:=by rw[chkJ_cons1];exact orF_none _
theorem chkJ_cons (j:JO) (n:ByteArray) (t:List ByteArray):chkJ j false (n::t)=orF (chkJ j false [n]) (chkJ j false t):=by rw[chkJ_cons1,chkJ_one]
theorem chkJ_app (j:JO) (l m:List ByteArray):chkJ j false (l++m)=orF (chkJ j false l) (chkJ j false m):=by
 induction l with
 |nil=>rfl
 |cons n t ih=>rw[List.cons_append,chkJ_cons,ih,chkJ_cons j n t,orF_assoc]
def firstJ (j:JO):List ByteArray→ByteArray
 | []=>noS
 |n::t=>match memJ j n with
  |some x=>sJ x
  |none=>firstJ j t
theorem rget_c (j:JO) (cs:List Value) (b:Nat) (o:Option (Nat×Nat)) (name:ByteArray) (w0 w:World) (h:RJ w0 j cs) (hx0:Ext w0 w) (hr:RdAt b cs o w):
 Calls Tryz.prog 33 #[.pointer (some ⟨b,0,none⟩),.string name] w fun e w'=>GotM w0 (memJ j name) e∧Ext w w':=by
 obtain ⟨A,p,c,B,q,d,rfl⟩:=h.cells
 exact rget_any j _ _ _ _ A B p c q d _ b o name w0 w h hx0 hr
theorem fail_c (j:JO) (cs:List Value) (b:Nat) (o:Option (Nat×Nat)) (at_ e:Nat) (w0 w:World) (h:RJ w0 j cs) (hr:RdAt b cs o w) (he:e≠0):
 Calls Tryz.prog 34 #[.pointer (some ⟨b,0,none⟩),.int .i64 (at_:Nat),.int .i64 (e:Nat)] w fun r w'=>r= .returned (.tuple #[])∧RdAt b cs (orF o (some (at_,e))) w'∧Bar b w w':=by
 obtain ⟨A,p,c,B,q,d,rfl⟩:=h.cells
 refine (fail_any b _ _ _ _ _ _ _ o at_ e w hr he).mono ?_
 rintro r w' ⟨h1,h2,h3⟩
 exact ⟨h1,by cases o<;>exact h2,h3⟩
theorem names_cell {w:World} {sb k:Nat} {names:List ByteArray} (h:w.heap[sb]? =some (.cells (names.map Value.string).toArray 9 (0,0))) (hk:k<names.length):w.cell? ⟨sb,k,none⟩=some (.string names[k]):=by
 rw[Lib.cell_of_heap h];simp[hk]
theorem check_any (N:Nat) (j:JO) (cs:List Value) (b sb:Nat) (o:Option (Nat×Nat)) (names:List ByteArray) (w0 w:World) (h:RJ w0 j cs) (hg:jsz N j) (hN:N≤16777216) (hE:Env w0) (hx0:Ext w0 w) (hb0:w0.heap.size≤b) (hr:RdAt b cs o w)
 (hs:w.heap[sb]? =some (.cells (names.map Value.string).toArray 9 (0,0))) (hsb:sb≠b) (hn:names.length≤1000):
 Calls Tryz.prog 28 #[.pointer (some ⟨b,0,none⟩),.slice (some ⟨sb,0,none⟩) names.length names.length] w fun e w'=>e= .returned (.tuple #[])∧RdAt b cs (orF o (chkJ j false names)) w'∧Bar b w w':=by
 have HGET:=gd (fun w' name o' (hx:Ext w0 w') (hr':RdAt b cs o' w')=>rget_c j cs b o' name w0 w' h hx hr')
 have HFAIL:=gd (fun w' at_ e o' (hr':RdAt b cs o' w') (he:e≠0)=>fail_c j cs b o' at_ e w0 w' h hr' he)
 go_enter Tryz.func28,Tryz.ntmps28
 go_wp2
 go_loopw [12] (fun i wr=>∃k:Nat,k≤names.length∧i= .int .i64 k∧RdAt b cs (orF o (chkJ j false (names.take k))) wr∧Bar b w wr) (fun i _=>names.length - (intOf i).toNat)
 case atStart=>exact ⟨0,Nat.zero_le _,rfl,by rw[List.take_zero];exact (by rw[orF_none];exact hr:RdAt b cs (orF o none) w),Bar.refl _ _⟩
 case round=>
  obtain ⟨k,hk,rfl,hrk,hbk⟩:=hrel
  have hxw:Ext w0 wr:=Bar.ext hx0 hbk hb0
  have hsw:=hbk.heap hs hsb
  by_cases hlt:k<names.length
  ·have hcell:=names_cell hsw hlt
   have hstep:orF o (chkJ j false (names.take (k+1)))=orF (orF o (chkJ j false (names.take k))) (chk1 j names[k]):=by
    rw[List.take_succ_eq_append_getElem hlt,chkJ_app,chkJ_one,orF_assoc]
   generalize orF o (chkJ j false (names.take k))=O at hrk hstep
   obtain ⟨NM,hNM⟩:∃n,names[k]=n:=⟨_,rfl⟩
   rw[hNM] at hcell hstep
   have HST:=gd hstep
   have hget:=HGET.out wr NM O hxw hrk
   clear hstep hNM
   cases hm:memJ j NM with
   |none=>
    rw[hm] at hget
    have hc1:chk1 j NM=none:=by unfold chk1;rw[hm]
    rw[hc1,orF_none] at HST
    have HG:=gd hget
    clear hget
    go_wp2_with (go_at_call 33;(have hz:=HG.out);(with_reducible refine Calls.mono hz ?_);clear hz;rintro e w1 ⟨⟨x,cx,rfl,hrx,hmx⟩,hx1⟩;(obtain ⟨A1,p1,q1,B1,p2,q2,hc⟩:=hrx.cells);(generalize kindJ _=K,bJ _=Bb,nJ _=Nn,sJ _=Ss,atJ _=At at hc);unfold wcells at hc;subst hc)
    go_roundw
    case rel=>exact ⟨k+1,hlt,rfl,by rw[HST.out];exact (hrk.ext hx1).ext ((Ext.refl _).alloc _),hbk.trans (Bar.of (hx1.alloc _))⟩
    case measure=>simp[intOf];omega
   |some x=>
    rw[hm] at hget
    have HG:=gd hget
    clear hget
    have hgx:=memJ_good hg hm
    have hsz:=sJ_size hgx
    have hck:=fun w' (hE':Env w')=>textCheck_any (sJ x) w' hE' (by unfold maxLen;omega)
    have hc1:chk1 j NM=if kindJ x≠3 then some (atJ x,21) else if (checkS (sJ x)).2≠0 then some (atJ x,(checkS (sJ x)).2) else none:=by unfold chk1;rw[hm]
    have hno:kindJ x≠3→(checkS (sJ x)).2=0:=fun h3=>by rw[sJ_no h3];rfl
    generalize (checkS (sJ x)).1=C1,(checkS (sJ x)).2=C2 at hck hc1 hno
    have HCK:=gd hck
    clear hck
    have hblt:b<wr.heap.size:=(Array.getElem?_eq_some_iff.1 hrk.1).1
    by_cases h3:kindJ x=3
    ·rw[if_neg (by omega)] at hc1
     have hk3:(((kindJ x:Nat):Int) !=3)=false:=by rw[h3];rfl
     have hk3':((kindJ x:Nat):Int)=3:=by rw[h3];rfl
     by_cases h0:C2=0
     ·subst h0
      rw[if_neg (by simp)] at hc1
      rw[hc1,orF_none] at HST
      go_wp2_with (first|(go_at_call 33;(have hz:=HG.out);(with_reducible refine Calls.mono hz ?_);clear hz;rintro e w1 ⟨⟨y,cx,rfl,hrx,hmx⟩,hx1⟩;(obtain rfl:x=y:=by rcases hmx with hmx|hmx;(injection hmx);(cases hmx.1));(obtain ⟨A1,p1,q1,B1,p2,q2,hc⟩:=hrx.cells);(unfold wcells at hc);(generalize kindJ x=K,bJ x=Bb,nJ x=Nn,sJ x=Ss,atJ x=At at*);subst hc)|(go_at_call 66;(with_reducible refine Calls.mono (HCK.out _ ((hE.ext hxw).ext (hx1.alloc _))) ?_);rintro e w2 ⟨rfl,hx2⟩))
      go_roundw
      case rel=>exact ⟨k+1,hlt,rfl,by rw[HST.out];exact (hrk.ext (hx1.alloc _)).ext hx2,hbk.trans (Bar.of ((hx1.alloc _).trans hx2))⟩
      case measure=>simp[intOf];omega
     ·rw[if_pos h0] at hc1
      have h0':¬((C2:Nat):Int)=0:=by omega
      go_wp2_with (first|(go_at_call 33;(have hz:=HG.out);(with_reducible refine Calls.mono hz ?_);clear hz;rintro e w1 ⟨⟨y,cx,rfl,hrx,hmx⟩,hx1⟩;(obtain rfl:x=y:=by rcases hmx with hmx|hmx;(injection hmx);(cases hmx.1));(obtain ⟨A1,p1,q1,B1,p2,q2,hc⟩:=hrx.cells);(unfold wcells at hc);(generalize kindJ x=K,bJ x=Bb,nJ x=Nn,sJ x=Ss,atJ x=At at*);subst hc)|(go_at_call 66;(with_reducible refine Calls.mono (HCK.out _ ((hE.ext hxw).ext (hx1.alloc _))) ?_);rintro e w2 ⟨rfl,hx2⟩;(have hq6:=hx2.boxed 6 _ rfl))|(go_at_call 34;(with_reducible refine Calls.mono (HFAIL.out w2 At C2 O ((hrk.ext (hx1.alloc _)).ext hx2) h0) ?_);rintro e w3 ⟨rfl,hr3,hb3⟩))
      go_roundw
      case rel=>exact ⟨k+1,hlt,rfl,by rw[HST.out,hc1];exact hr3,(hbk.trans (Bar.of ((hx1.alloc _).trans hx2))).trans hb3⟩
      case measure=>simp[intOf];omega
    ·rw[if_pos (by simpa using h3)] at hc1
     have hk3:(((kindJ x:Nat):Int) !=3)=true:=by simp;omega
     have hC2:=hno h3
     subst hC2
     go_wp2_with (first|(go_at_call 33;(have hz:=HG.out);(with_reducible refine Calls.mono hz ?_);clear hz;rintro e w1 ⟨⟨y,cx,rfl,hrx,hmx⟩,hx1⟩;(obtain rfl:x=y:=by rcases hmx with hmx|hmx;(injection hmx);(cases hmx.1));(obtain ⟨A1,p1,q1,B1,p2,q2,hc⟩:=hrx.cells);(unfold wcells at hc);(generalize kindJ x=K,bJ x=Bb,nJ x=Nn,sJ x=Ss,atJ x=At at*);subst hc)|(go_at_call 66;(with_reducible refine Calls.mono (HCK.out w3 (hE.ext (Bar.ext (hxw.trans (hx1.alloc _)) hb3 hb0))) ?_);rintro e w2 ⟨rfl,hx2⟩)|(go_at_call 34;(with_reducible refine Calls.mono (HFAIL.out _ At 21 O (hrk.ext (hx1.alloc _)) (by decide)) ?_);rintro e w3 ⟨rfl,hr3,hb3⟩;(have hnb:w1.heap.size≠b:=Nat.ne_of_gt (Nat.lt_of_lt_of_le hblt hx1.size));(have hq3:=cell_of_row _ _ 3 _ _ _ (hb3.heap (heap_alloc_new w1 _) hnb))))
     go_roundw
     case rel=>exact ⟨k+1,hlt,rfl,by rw[HST.out,hc1];exact hr3.ext hx2,((hbk.trans (Bar.of (hx1.alloc _))).trans hb3).trans (Bar.of hx2)⟩
     case measure=>simp[intOf];omega
  ·have hke:names.take k=names:=List.take_of_length_le (by omega)
   rw[hke] at hrk
   go_wp2
   ((try simp only[Exit.inBlock,Exit.then]);refine bodyPost_end (results_none rfl _ _ _) rfl ?_)
   exact ⟨rfl,hrk,hbk⟩
section
set_option linter.unusedSimpArgs false
theorem offP_at (l:List UInt8) (a:Nat) (h0:sepP l a 90 122=false):offP l a=match numP l (a+1) 2,numP l (a+4) 2 with
 |some h,some m=>if (sepP l a 43 45 && sepP l (a+3) 58 58)=true∧h≤23∧m≤59∧l.length=a+6 then some (if sepP l a 45 45 then -((h*3600+m*60:Nat):Int) else ((h*3600+m*60:Nat):Int)) else none
 |_,_=>none:=by
 unfold offP;rw[h0];rfl
theorem offP_bad {l:List UInt8} {a:Nat} (h0:sepP l a 90 122=false) (h:sepP l a 43 45=false∨oi (numP l (a+1) 2)<0∨23<oi (numP l (a+1) 2)∨sepP l (a+3) 58 58=false∨oi (numP l (a+4) 2)<0∨59<oi (numP l (a+4) 2)∨l.length≠a+6):offP l a=none:=by
 rw[offP_at l a h0]
 cases h1:numP l (a+1) 2 with
 |none=>rfl
 |some x=>
  cases h2:numP l (a+4) 2 with
  |none=>rfl
  |some m=>
   rw[h1,h2] at h
   simp only[oi] at h
   simp only
   rw[if_neg]
   rintro ⟨hs,hx,hm,hl⟩
   rw[Bool.and_eq_true] at hs
   rcases h with h|h|h|h|h|h|h
   ·rw[hs.1] at h;cases h
   ·omega
   ·omega
   ·rw[hs.2] at h;cases h
   ·omega
   ·omega
   ·exact h hl
end
section
set_option linter.unusedSimpArgs false
theorem itoa_any (n:Int) (w:World) (hE:Env w) (hn:i64ok n):
 Calls Tryz.prog 140 #[.int .i64 n] w fun e w'=>e= .returned (.string (itoaS n))∧Ext w w':=by
 refine (Tryz.strconv_Itoa n hn.1 hn.2 w hE.pow).mono ?_
 rintro e w' ⟨rfl,k,os,rfl⟩
 exact ⟨rfl,Lib.below_grow _ w (Nat.le_refl _) k os⟩
def padZ (width n:Nat):List UInt8:=List.replicate (width - (Lib.decDigits n).length) 48++Lib.decDigits n
theorem dg_of {n:Nat} (h:n<10):UInt8.ofNat (48+n)=dg n:=by unfold dg;rw[Nat.mod_eq_of_lt h]
theorem dec1 {n:Nat} (h:n<10):Lib.decDigits n= [dg n]:=by rw[digits_small n h,dg_of h]
theorem dec2 {n:Nat} (h:10≤n) (h2:n<100):Lib.decDigits n= [dg (n / 10),dg n]:=by rw[digits_big n (by omega),dec1 (show n / 10<10 by omega)];rfl
theorem dec3 {n:Nat} (h:100≤n) (h2:n<1000):Lib.decDigits n= [dg (n / 100),dg (n / 10),dg n]:=by
 rw[digits_big n (by omega),dec2 (show 10≤n / 10 by omega) (by omega),Nat.div_div_eq_div_mul];rfl
theorem dec4 {n:Nat} (h:1000≤n) (h2:n<10000):Lib.decDigits n= [dg (n / 1000),dg (n / 100),dg (n / 10),dg n]:=by
 rw[digits_big n (by omega),dec3 (show 100≤n / 10 by omega) (by omega),Nat.div_div_eq_div_mul,Nat.div_div_eq_div_mul];rfl
theorem dg_zero {n:Nat} (h:n=0):dg n=48:=by subst h;rfl
theorem padZ_2 {n:Nat} (h:n<100):padZ 2 n=pad2 n∧(Lib.decDigits n).length≤2:=by
 unfold padZ pad2
 by_cases h1:n<10
 ·rw[dec1 h1,dg_zero (show n / 10=0 by omega)];exact ⟨rfl,by simp⟩
 ·rw[dec2 (by omega) h];exact ⟨rfl,by simp⟩
theorem padZ_4 {n:Nat} (h:n<10000):padZ 4 n=pad4 n∧(Lib.decDigits n).length≤4:=by
 unfold padZ pad4
 by_cases h1:n<10
 ·rw[dec1 h1,dg_zero (show n / 10=0 by omega),dg_zero (show n / 100=0 by omega),dg_zero (show n / 1000=0 by omega)];exact ⟨rfl,by simp⟩
 ·by_cases h2:n<100
  ·rw[dec2 (by omega) h2,dg_zero (show n / 100=0 by omega),dg_zero (show n / 1000=0 by omega)];exact ⟨rfl,by simp⟩
  ·by_cases h3:n<1000
   ·rw[dec3 (by omega) h3,dg_zero (show n / 1000=0 by omega)];exact ⟨rfl,by simp⟩
   ·rw[dec4 (by omega) h];exact ⟨rfl,by simp⟩
def OB (w:World) (B:Nat) (v:Value) (l:List UInt8):Prop:=w.ownsRow B 5 1 v l.length (Lib.byteCells l)
theorem OB.of {w:World} {B n:Nat} {v:Value} {xs:List Value} {l:List UInt8} (h:w.ownsRow B 5 1 v n xs) (hx:xs=Lib.byteCells l):OB w B v l:=by
 subst hx
 have:=h.1
 rw[byteCells_len,Nat.mul_one] at this
 subst this
 exact h
theorem OB.ext {w w':World} {B:Nat} {v:Value} {l:List UInt8} (h:OB w B v l) (hx:Ext w w'):OB w' B v l:=own_ext h hx
theorem itoa_nat (n:Nat):itoaS (n:Nat)=str (Lib.decDigits n):=by
 unfold itoaS Lib.itoa;rw[if_neg (by omega)];rfl
theorem pad_any (b:World) (B:Nat) (hb:b.heap.size≤B) (hE:Env b) (v:Value) (l:List UInt8) (n width:Nat) (w:World) (hx:Ext b w) (hB:B≤w.heap.size) (ho:OB w B v l) (hl:l.length≤1000) (hn:n<10000) (hw:(Lib.decDigits n).length≤width) (hw4:width≤4):
 Calls Tryz.prog 96 #[v,.int .i64 (n:Nat),.int .i64 (width:Nat)] w fun e w'=>∃v',e= .returned v'∧OB w' B v' (l++padZ width n)∧Ext b w':=by
 obtain ⟨i0,hi0,hz0,hz1,hz2⟩:=info_parts info_u8
 have HI:=gd (fun w' (h:Ext b w')=>itoa_any (n:Nat) w' (hE.ext h) ⟨by omega,by omega⟩)
 rw[itoa_nat] at HI
 obtain ⟨D,hD⟩:∃D,Lib.decDigits n=D:=⟨_,rfl⟩
 have hpz:Hid (padZ width n=List.replicate (width - D.length) 48++D):=by show _=_;unfold padZ;rw[hD]
 rw[hD] at HI hw
 have hsz:(str D).size=D.length:=by simp[str,ByteArray.size]
 have hsi:((str D).size:Int)=(D.length:Int):=by rw[hsz]
 obtain ⟨z,hz⟩:∃z,width - D.length=z:=⟨_,rfl⟩
 have hzi:(width:Int) - (D.length:Int)=(z:Int):=by omega
 rw[hz] at hpz
 have hz4:z≤4:=by omega
 have hd4:D.length≤4:=by omega
 have HZI:=gd hzi
 clear hD hz hzi hw
 go_enter Tryz.func96,Tryz.ntmps96
 go_wp2_with (first|(go_at_call 140;(with_reducible refine Calls.mono (HI.out _ hx) ?_);rintro e w1 ⟨rfl,hx1⟩))
 go_loopw [0,14] (fun v i wr=>∃k:Nat,k≤z∧i= .int .i64 (k:Nat)∧OB wr B v (l++List.replicate k 48)∧B≤wr.heap.size∧Ext b wr) (fun _ i _=>z - (intOf i).toNat)
 case atStart=>exact ⟨0,by omega,rfl,by simpa using ho.ext hx1,Nat.le_trans hB hx1.size,hx.trans hx1⟩
 case round=>
  obtain ⟨k,hk,rfl,hok,hBk,hxk⟩:=hrel
  have hlk:(l++List.replicate k 48).length≤1004:=by simp;omega
  by_cases hlt:k<z
  ·have b1:(k:Int)<(width:Int) - (D.length:Int):=by have:=HZI.out;omega
   go_wp2_with (at_builtin;refine wpList_append_rsl _ rfl (.tmp 16) (.tmp 17) _ rfl B 5 i0 _ 1 1 Tryz.underlying115 hi0 hz0 hz1 hz2 rfl (by omega) _ _ _ rfl (hok.ext ((Ext.refl wr).alloc _)) _ 1 _ rfl (rsl_new (cs:= [.int .u8 48]) (by simp) (by unfold maxLen;omega)) (by intro y hy;simp at hy;subst hy;rfl) (by unfold maxLen;omega) (by omega) (Nat.le_trans hBk ((Ext.refl wr).alloc _).size) ?_;intro v1 w2 hown2 hg2 hat2)
   have hx2:Ext b w2:=(hxk.alloc _).app hg2 (hok.ext ((Ext.refl wr).alloc _)) hb
   have hB2:B≤w2.heap.size:=Nat.le_trans (Nat.le_trans hBk ((Ext.refl wr).alloc (.cells #[.int .u8 48] 5)).size) hg2.size
   have ho2:OB w2 B v1 (l++List.replicate (k+1) 48):=OB.of hown2 (by rw[List.replicate_succ',←List.append_assoc,byteCells_app (l++List.replicate k 48) [48]];rfl)
   clear hown2 hg2 hat2
   go_roundw
   case rel=>exact ⟨k+1,hlt,by go_num,ho2,hB2,hx2⟩
   case measure=>simp[intOf];omega
  ·have b1:¬(k:Int)<(width:Int) - (D.length:Int):=by have:=HZI.out;omega
   obtain rfl:k=z:=by omega
   go_wp2_with (at_builtin;refine Lib.wpList_append_own_string _ rfl (.tmp 20) (.tmp 21) _ _ rfl B 5 i0 Tryz.underlying115 Tryz.underlying9 hi0 hz0 hz1 hz2 _ _ _ rfl hok (str D) rfl (by rw[hsz];unfold maxLen;omega) (by rw[hsz];omega) hBk ?_;intro v1 w2 hown2 hg2 hat2)
   have hx2:Ext b w2:=hxk.app hg2 hok hb
   have ho2:OB w2 B v1 (l++padZ width n):=OB.of hown2 (by rw[hpz.out,←List.append_assoc,byteCells_app];simp[Lib.strCells,Lib.byteCells,str])
   go_ret
   exact ⟨_,rfl,ho2,hx2⟩
end
section
set_option linter.unusedSimpArgs false
theorem secsI_in {y m d h mi s t:Int} (hs:secsI y m d h mi s=some t): -62135596800≤t∧t≤253438000000:=by
 unfold secsI at hs
 split at hs
 ·rename_i hc
  injection hs with hs
  have hp:=dimI_pos (y:=y) (m:=m) (by omega)
  obtain ⟨y,rfl⟩:=Int.eq_ofNat_of_zero_le (show 0≤y by omega)
  obtain ⟨m,rfl⟩:=Int.eq_ofNat_of_zero_le (show 0≤m by omega)
  obtain ⟨d,rfl⟩:=Int.eq_ofNat_of_zero_le (show 0≤d by omega)
  have hp':1≤y∧y≤9999∧1≤m∧m≤12:=by omega
  have hd:=dimI_nat hp'
  have:=dayN_in (d:=d) hp' (by omega)
  simp only[Int.toNat_natCast] at hs
  omega
 ·cases hs
theorem offP_in {l:List UInt8} {a:Nat} {o:Int} (h:offP l a=some o): -86400≤o∧o≤86400:=by
 cases h0:sepP l a 90 122 with
 |true=>
  unfold offP at h
  rw[h0,if_pos rfl] at h
  split at h
  ·injection h with h;omega
  ·cases h
 |false=>
  rw[offP_at l a h0] at h
  cases h1:numP l (a+1) 2 with
  |none=>rw[h1] at h;cases h
  |some x=>
   cases h2:numP l (a+4) 2 with
   |none=>rw[h1,h2] at h;cases h
   |some y=>
    rw[h1,h2] at h
    simp only at h
    split at h
    ·rename_i hc
     injection h with h
     split at h<;>omega
    ·cases h
def sepsP (l:List UInt8):Bool:=sepP l 4 45 45 && sepP l 7 45 45 && sepP l 10 84 116 && sepP l 13 58 58 && sepP l 16 58 58
theorem stampP_at (l:List UInt8):stampP l=if sepsP l=true then secsI (oi (numP l 0 4)) (oi (numP l 5 2)) (oi (numP l 8 2)) (oi (numP l 11 2)) (oi (numP l 14 2)) (oi (numP l 17 2)) else none:=by
 rw[secsI_oi];rfl
theorem timeP_none1 {l:List UInt8} (h:stampP l=none):timeP l=none:=by unfold timeP;rw[h]
theorem timeP_none2 {l:List UInt8} (h:fracP l 19=none):timeP l=none:=by unfold timeP;rw[h];cases stampP l<;>rfl
theorem timeP_some {l:List UInt8} {t:Int} {a:Nat} (h1:stampP l=some t) (h2:fracP l 19=some a):timeP l=match offP l a with|some o=>if inT (t - o) then some (t - o) else none|none=>none:=by unfold timeP;rw[h1,h2];rfl
def TimeR (l:List UInt8) (e:Ending):Prop:=match timeP l with
 |some t=>e= .returned (.tuple #[.int .i64 t,.int .i64 0])
 |none=>∃x:Int,x≠0∧e= .returned (.tuple #[.int .i64 0,.int .i64 x])
end
theorem Ext.bytes {a w:World} (h:Ext a w) (e:TypeId) (s:ByteArray):Ext a (Lib.bytesWorld w e s):=by
 have hsz:=h.size
 refine ⟨h.os,h.tape,h.output,?_,?_⟩
 ·rw[Lib.bytesWorld_size];omega
 ·intro k hk
  rw[Lib.bytesWorld_at_old w e s k (by omega)]
  exact h.block k hk
structure BR (w:World) (g:Nat) (L:List UInt8):Prop where
 cell:∀j (hj:j<L.length),w.cell? ⟨g,j,none⟩=some (.int .u8 (L[j].toNat:Nat))
 froz:∀j,j<L.length→w.frozen? ⟨g,j,none⟩=false
theorem BR.bytes (w:World) (s:ByteArray):BR (Lib.bytesWorld w 5 s) w.heap.size s.data.toList:=by
 refine ⟨fun j hj=> ?_,fun j hj=> ?_⟩
 ·have hj2:j<s.size:=by rw[←data_len];exact hj
  rw[Lib.bytesWorld_cell w _ s j hj2,List.getD_eq_getElem?_getD,List.getElem?_eq_getElem hj]
  rfl
 ·have hj2:j<s.size:=by rw[←data_len];exact hj
  unfold World.frozen?
  rw[show (Lib.bytesWorld w 5 s).heap[(⟨w.heap.size,j,none⟩:Addr).block]? =_ from Lib.bytesWorld_at_new w 5 s]
  have:s.size≤(Lib.bytesCells w 5 s).size:=by simp[Lib.bytesCells]
  simp
  omega
end Go.Proofs.YthlnaldahkgjnaaGreatDoor
