/- Parts of the proof: contracts and plain laws. -/
import Derived.Test.YthlnaldahkgjnaaGreatDoorY05
namespace Go.Proofs.YthlnaldahkgjnaaGreatDoor
open Go Go.RowKit Go.WideMaps Go.Maps
set_option linter.unusedVariables false
set_option linter.unusedSimpArgs false
set_option maxRecDepth 100000
set_option maxHeartbeats 16000000
theorem Ext.setBoth {B:Nat} {a b:World} (h:Below B a b) (p:Addr) (v:Value):Below B (a.setCell p v) (b.setCell p v):=by
 refine ⟨h.os,h.tape,h.output,?_,fun k hk=> ?_⟩
 ·simpa [World.setCell] using h.size
 ·simp only[World.setCell,Array.getElem?_modify,h.block k hk]
def setS (w:World):List (Addr×ByteArray)→World
 | []=>w
 |p::t=>setS (w.setCell p.1 (.string p.2)) t
theorem setS_snoc:∀(l:List (Addr×ByteArray)) (w:World) (p:Addr×ByteArray),setS w (l++ [p])=(setS w l).setCell p.1 (.string p.2)
 | [],_,_=>rfl
 |q::t,w,p=>setS_snoc t (w.setCell q.1 (.string q.2)) p
theorem setS_size:∀(l:List (Addr×ByteArray)) (w:World),(setS w l).heap.size=w.heap.size
 | [],_=>rfl
 |p::t,w=>by rw[setS,setS_size t];simp[World.setCell]
theorem setS_frozen:∀(l:List (Addr×ByteArray)) (w:World) (a:Addr),(setS w l).frozen? a=w.frozen? a
 | [],_,_=>rfl
 |p::t,w,a=>by rw[setS,setS_frozen t,World.frozen?_setCell]
theorem setS_other:∀(l:List (Addr×ByteArray)) (w:World) (a:Addr),(∀p∈l,p.1≠a)→(setS w l).cell? a=w.cell? a
 | [],_,_,_=>rfl
 |p::t,w,a,h=>by rw[setS,setS_other t _ a (fun q hq=>h q (by simp[hq])),World.cell?_setCell_other w p.1 a _ (h p (by simp))]
structure Ptrs (w:World) (v:Value) (ps:List (Addr×ByteArray)):Prop where
 row:RSl w 1 v ps.length (ps.map fun p=>Value.pointer (some p.1))
 cells:∀p∈ps,w.cell? p.1=some (.string p.2)∧w.frozen? p.1=false
 size:∀p∈ps,p.2.size≤16777216
 apart:ps.Pairwise fun p q=>p.1≠q.1
theorem below_cell {w:World} {B:Nat} {a:Addr} {v:Value} {w':World} (h:Below B w w') (hB:w.heap.size≤B) (hc:w.cell? a=some v):w'.cell? a=some v:=
 (Below.cell h (Nat.lt_of_lt_of_le (World.block_lt_of_cell? w a hc) hB)).trans hc
theorem collapseAll_any (v:Value) (ps:List (Addr×ByteArray)) (w:World) (hE:Env w) (h:Ptrs w v ps):
 Calls Tryz.prog 74 #[v] w fun e w'=>e= .returned (.int .i64 (firstErr (ps.map (·.2)):Nat))∧
  ((firstErr (ps.map (·.2))=0∧Below w.heap.size (setS w (ps.map fun p=>(p.1,collapse p.2))) w')∨(firstErr (ps.map (·.2))≠0∧Ext w w')):=by
 obtain ⟨hrow,hcells,hsz,hap⟩:=h
 obtain ⟨_,A,c,rfl,hmc,hcm,_,_⟩:=id hrow
 have hnm:ps.length≤9223372036854775807:=Nat.le_trans hmc hcm
 clear hmc hcm
 obtain ⟨E,hEr⟩:∃E,firstErr (ps.map (·.2))=E:=⟨_,rfl⟩
 rw[hEr]
 go_enter Tryz.func74,Tryz.ntmps74
 go_wp2
 go_loopw [11] (fun i wr=>∃k:Nat,k≤ps.length∧i= .int .i64 k∧Hid (E=firstErr ((ps.map (·.2)).drop k))∧Ext w wr) (fun i _=>ps.length - (intOf i).toNat)
 case atStart=>exact ⟨0,Nat.zero_le _,rfl,hEr.symm,Ext.refl _⟩
 case round=>
  obtain ⟨k,hk,rfl,hf,hx⟩:=hrel
  by_cases hlt:k<ps.length
  ·obtain ⟨ad,rfl,hcell⟩:=(hrow.ext hx).at1 k (.pointer (some ps[k].1)) (by rw[List.getElem?_map,List.getElem?_eq_getElem hlt];rfl)
   have hst:=hx.cell (hcells ps[k] (List.getElem_mem hlt)).1
   have hfd:=firstErr_drop (l:=ps.map (·.2)) (k:=k) (by rw[List.length_map];exact hlt)
   rw[List.getElem_map] at hfd
   have HC:=gd (textCheck_any ps[k].2 wr (hE.ext hx) (by have:=hsz ps[k] (List.getElem_mem hlt);unfold maxLen;omega))
   obtain ⟨O,hO⟩:∃O,(checkS ps[k].2).1=O:=⟨_,rfl⟩
   obtain ⟨K,hK⟩:∃K,(checkS ps[k].2).2=K:=⟨_,rfl⟩
   obtain ⟨S,hS⟩:∃S,ps[k].2=S:=⟨_,rfl⟩
   obtain ⟨a,ha⟩:∃a,ps[k].1=a:=⟨_,rfl⟩
   rw[hK] at hfd
   rw[hO,hK,hS] at HC
   rw[hS,ha] at hst
   rw[ha] at hcell
   have hff:=hf.out.trans hfd
   clear hfd hf hO hK hS ha hEr
   by_cases h0:K=0
   ·subst h0
    rw[if_pos rfl] at hff
    have HF:=gd hff
    clear hff
    go_wp2_with (first|(go_at_call 66;refine (HC.out).mono ?_;rintro e w' ⟨rfl,hx'⟩))
    go_roundw
    case rel=>exact ⟨k+1,hlt,by go_num,HF.out,hx.trans hx'⟩
    case measure=>simp[intOf];omega
   ·have hb:((K:Int) !=0)=true:=by simp;omega
    rw[if_neg h0] at hff
    subst hff
    have hfin:(E=0∧Below w.heap.size (setS w (ps.map fun p=>(p.1,collapse p.2))) w)∨E≠0:=Or.inr h0
    clear hfin
    have H0:=gd h0
    clear h0
    go_wp2_with (first|(go_at_call 66;refine (HC.out).mono ?_;rintro e w' ⟨rfl,hx'⟩))
    go_ret
    exact ⟨rfl,Or.inr ⟨H0.out,hx.trans hx'⟩⟩
  ·have hke:k=ps.length:=by omega
   have hff:=hf.out
   rw[List.drop_of_length_le (by rw[List.length_map];omega)] at hff
   have hff':E=0:=hff
   subst hff'
   subst hke
   clear hff hlt hf hEr hk
   obtain ⟨wo,rfl⟩:∃wo:World,wo=wr:=⟨_,rfl⟩
   go_wp2
   go_loopw [28] (fun i w2=>∃k:Nat,k≤ps.length∧i= .int .i64 k∧Below w.heap.size (setS w ((ps.take k).map fun p=>(p.1,collapse p.2))) w2∧w.heap.size≤w2.heap.size) (fun i _=>ps.length - (intOf i).toNat)
   case atStart=>exact ⟨0,Nat.zero_le _,rfl,hx,hx.size⟩
   case round=>
    obtain ⟨k,hk,rfl,hb,hz⟩:=hrel
    by_cases hlt:k<ps.length
    ·obtain ⟨wk,hwk⟩:∃wk,setS w ((ps.take k).map fun p=>(p.1,collapse p.2))=wk:=⟨_,rfl⟩
     have hzk:wk.heap.size=w.heap.size:=by rw[←hwk,setS_size]
     obtain ⟨ad,rfl,hc0⟩:=hrow.at1 k (.pointer (some ps[k].1)) (by rw[List.getElem?_map,List.getElem?_eq_getElem hlt];rfl)
     have hs0:=hcells ps[k] (List.getElem_mem hlt)
     have hs1:wk.cell? ps[k].1=some (.string ps[k].2):=by
      rw[←hwk,setS_other,hs0.1]
      intro p hp
      obtain ⟨q,hq,rfl⟩:=List.mem_map.1 hp
      obtain ⟨j,hj,rfl⟩:=List.mem_take_iff_getElem.1 hq
      exact List.pairwise_iff_getElem.1 hap j k (by omega) hlt (by omega)
     have hf1:wk.frozen? ps[k].1=false:=by rw[←hwk,setS_frozen];exact hs0.2
     have hc1:wk.cell? (ad.add k)=some (.pointer (some ps[k].1)):=by
      rw[←hwk,setS_other,hc0]
      intro p hp e
      obtain ⟨q,hq,rfl⟩:=List.mem_map.1 hp
      have:=(hcells q (List.mem_of_mem_take hq)).1
      simp only at e
      rw[e,hc0] at this
      cases this
     have hB:ps[k].1.block<w.heap.size:=by have:=World.block_lt_of_cell? wk _ hs1;omega
     rw[hwk] at hb
     have hcell:=below_cell hb (Nat.le_of_eq hzk) hc1
     have hst:=below_cell hb (Nat.le_of_eq hzk) hs1
     have hfz:wr.frozen? ps[k].1=false:=(Below.frozen hb hB).trans hf1
     have HT:Hid (setS w ((ps.take (k+1)).map fun p=>(p.1,collapse p.2))=wk.setCell ps[k].1 (.string (collapse ps[k].2))):=by
      show _=_
      rw[List.take_succ_eq_append_getElem hlt,List.map_append,List.map_cons,List.map_nil,setS_snoc,hwk]
     have HC:=gd (collapse_any ps[k].2 wr (by have:=hsz ps[k] (List.getElem_mem hlt);omega))
     have HZ:=gd hz
     have HZK:=gd hzk
     clear hz hzk hs0 hs1 hf1 hc1 hc0 hwk
     obtain ⟨a,ha⟩:∃a,ps[k].1=a:=⟨_,rfl⟩
     obtain ⟨S,hS⟩:∃S,ps[k].2=S:=⟨_,rfl⟩
     rw[ha] at hcell hst hfz HT hB
     rw[hS] at hst HT HC
     clear ha hS
     go_wp2_with (first|(go_at_call 30;refine (HC.out).mono ?_;rintro e w3 ⟨rfl,hx3⟩;(have hst3:=hx3.cell hst);(have hfz3:=(Below.frozen hx3 (Nat.lt_of_lt_of_le hB HZ.out)).trans hfz)))
     go_roundw
     case rel=>exact ⟨k+1,hlt,by go_num,by rw[HT.out];exact Ext.setBoth (hb.trans (Below.mono hx3 HZ.out)) _ _,by have:=hx3.size;have:=HZ.out;simp[World.setCell];omega⟩
     case measure=>simp[intOf];omega
    ·have hke:k=ps.length:=by omega
     subst hke
     rw[List.take_of_length_le (Nat.le_refl _)] at hb
     clear hlt hk
     go_wp2
     go_ret
     exact ⟨rfl,hb⟩
theorem refCompare_any (x y:ByteArray) (w:World):
 Calls Tryz.prog 87 #[.string x,.string y] w fun e w'=>e= .returned (.int .i64 (sCmp x y))∧w'=w:=by
 have hfin:sCmp x y=if Op.bytesLess x.toList y.toList=true then -1 else if (Op.bytesLess x.toList y.toList||x.toList==y.toList)=true then 0 else 1:=by
  unfold sCmp
  by_cases h:Op.bytesLess x.toList y.toList=true
  ·rw[if_pos h,if_pos h]
  ·rw[if_neg h,if_neg h]
   simp only[Bool.not_eq_true] at h
   simp[h]
 rw[hfin]
 clear hfin
 go_enter Tryz.func87,Tryz.ntmps87
 go_wp2
 all_goals go_ret
 all_goals exact ⟨by simp_all,rfl⟩
theorem inTime_any (t:Int) (w:World):
 Calls Tryz.prog 76 #[.int .i64 t] w fun e w'=>e= .returned (.bool (inT t))∧w=w':=by
 unfold inT
 go_enter Tryz.func76,Tryz.ntmps76
 go_wp2
 all_goals go_ret
 all_goals exact ⟨by simp_all<;>omega,rfl⟩
theorem refInTime_any (t:Int) (w:World):
 Calls Tryz.prog 59 #[.int .i64 t] w fun e w'=>e= .returned (.bool (inT t))∧w=w':=by
 unfold inT
 go_enter Tryz.func59,Tryz.ntmps59
 go_wp2
 all_goals go_ret
 all_goals exact ⟨by simp_all<;>omega,rfl⟩
theorem refCmpE_any (a b:Ent) (w:World):
 Calls Tryz.prog 61 #[.agg (eCells a).toArray,.agg (eCells b).toArray] w fun e w'=>e= .returned (.int .i64 (entCmp a b))∧Ext w w':=by
 have HC:=gd (fun w'=>refCompare_any a.id b.id w')
 have hfin:entCmp a b=if b.upd<a.upd then -1 else if a.upd<b.upd then 1 else sCmp a.id b.id:=by
  unfold entCmp iCmp
  by_cases h:b.upd<a.upd
  ·simp[h]
  ·by_cases k:a.upd<b.upd
   ·simp[h,k]
   ·simp[h,k]
 rw[hfin]
 clear hfin
 obtain ⟨aid,atitle,alink,acontent,aupd⟩:=a
 obtain ⟨bid,btitle,blink,bcontent,bupd⟩:=b
 unfold eCells
 go_enter Tryz.func61,Tryz.ntmps61
 go_wp2_with (go_at_call 87;refine (HC.out _).mono ?_;rintro e w1 ⟨rfl,rfl⟩)
 all_goals go_ret
 all_goals exact ⟨by simp_all,((Ext.refl _).alloc _).alloc _⟩
def eokS (e:Ent):Prop:=e.id.size≤16777216∧e.title.size≤16777216∧e.link.size≤16777216∧e.content.size≤16777216
theorem size_alloc (w:World) (o:Obj):(w.alloc o).heap.size=w.heap.size+1:=by show (w.heap.push o).size=_;simp
theorem Ext.boxedF {w w':World} {cs:Array Value} {t:TypeId} (h:Ext (w.alloc (.cells cs t)) w') (i:Nat):w'.frozen? ⟨w.heap.size,i,none⟩=false:=
 Lib.frozen_of_heap (h.heap (heap_alloc_new w _)) i
theorem setCell_alloc (w:World) (cs:Array Value) (t:TypeId) (fr:Nat×Nat) (i:Nat) (v:Value) (hi:i<cs.size):(w.alloc (.cells cs t fr)).setCell ⟨w.heap.size,i,none⟩ v=w.alloc (.cells (cs.setIfInBounds i v) t fr):=by
 simp only[World.setCell,World.alloc]
 congr 1
 apply Array.ext_getElem?
 intro k
 rw[Array.getElem?_modify]
 by_cases hk:w.heap.size=k
 ·subst hk;simp
 ·rw[if_neg hk]
  rcases Nat.lt_or_gt_of_ne hk with h|h
  ·rw[Array.getElem?_eq_none (by simp;omega),Array.getElem?_eq_none (by simp;omega)]
  ·rw[Array.getElem?_push_lt h,Array.getElem?_push_lt h]
theorem setCell_alloc3 (w:World) (cs:Array Value) (t:TypeId) (fr:Nat×Nat) (B C:Obj) (i:Nat) (v:Value) (hi:i<cs.size):
 (((w.alloc (.cells cs t fr)).alloc B).alloc C).setCell ⟨w.heap.size,i,none⟩ v=((w.alloc (.cells (cs.setIfInBounds i v) t fr)).alloc B).alloc C:=by
 have h1:∀(W:World) (O:Obj) (p:Addr) (u:Value),p.block<W.heap.size→(W.alloc O).setCell p u=(W.setCell p u).alloc O:=by
  intro W O p u hp
  simp only[World.setCell,World.alloc]
  congr 1
  apply Array.ext_getElem?
  intro k
  rw[Array.getElem?_modify]
  rcases Nat.lt_trichotomy k W.heap.size with h|h|h
  ·rw[Array.getElem?_push_lt h,Array.getElem?_push_lt (by simpa using h)]
   simp[Array.getElem_modify]
   split<;>simp
  ·subst h
   have:¬p.block=W.heap.size:=by omega
   have e1:(W.heap.push O)[W.heap.size]? =some O:=by simp
   have e2:∀f:Obj→Obj,((W.heap.modify p.block f).push O)[W.heap.size]? =some O:=by
    intro f
    have:=Array.getElem?_push_size (xs:=W.heap.modify p.block f) (x:=O)
    rwa [Array.size_modify] at this
   rw[if_neg this,e1,e2]
  ·rw[Array.getElem?_eq_none (by simp;omega),Array.getElem?_eq_none (by simp;omega)]
   split<;>rfl
 rw[h1 _ C _ _ (by simp;omega),h1 _ B _ _ (by simp),setCell_alloc _ _ _ _ _ _ hi]
theorem boxed3a {w:World} {A:Array Value} {t:TypeId} {fr:Nat×Nat} {B C:Obj} (d:Aft (((w.alloc (.cells A t fr)).alloc B).alloc C)) (i:Nat) (v:Value) (hv:A[i]? =some v):d.w.cell? ⟨w.heap.size,i,none⟩=some v:=
 Ext.boxed (((Ext.refl _).alloc B).alloc C|>.trans d.ext) i v hv
theorem boxed3b {w:World} {B:Array Value} {t:TypeId} {fr:Nat×Nat} {A C:Obj} (d:Aft (((w.alloc A).alloc (.cells B t fr)).alloc C)) (i:Nat) (v:Value) (hv:B[i]? =some v):d.w.cell? ⟨w.heap.size+1,i,none⟩=some v:=by
 have h:=Ext.boxed (w:=w.alloc A) (((Ext.refl _).alloc C).trans d.ext) i v hv
 rwa [size_alloc] at h
theorem setS_box4 (w:World) (a0 b0 c0 d0 a b c d:ByteArray) (x:Value) (t:TypeId) (fr:Nat×Nat) (B C:Obj):
 setS (((w.alloc (.cells #[.string a0,.string b0,.string c0,.string d0,x] t fr)).alloc B).alloc C) [(⟨w.heap.size,0,none⟩,a),(⟨w.heap.size,1,none⟩,b),(⟨w.heap.size,2,none⟩,c),(⟨w.heap.size,3,none⟩,d)]
  =((w.alloc (.cells #[.string a,.string b,.string c,.string d,x] t fr)).alloc B).alloc C:=by
 simp only[setS]
 rw[setCell_alloc3 _ _ _ _ _ _ _ _ (by simp),setCell_alloc3 _ _ _ _ _ _ _ _ (by simp),setCell_alloc3 _ _ _ _ _ _ _ _ (by simp),setCell_alloc3 _ _ _ _ _ _ _ _ (by simp)]
 rfl
theorem results_cell_row2 {P:Program} {fn:Func} {p u:Tmp} {ty:TypeId} (h:fn.results=#[.cell p ty,.tmp u]) (tmps:Array Value) (w:World) (g:Nat) (t:TypeId) (cs:Array Value) (fr:Nat×Nat) (d:TypeDesc)
 (hp:tmps.getD p undef= .pointer (some ⟨g,0,none⟩)) (hg:w.heap[g]? =some (.cells cs t fr))
 (hu:P.underlying ty=some d) (hd:(match d with| .struct _| .array _ _=>true|_=>false)=true) (hi:(P.info? ty).map (·.size)=some cs.size):
 (results fn tmps).run P w= .ok (.tuple #[.agg cs,tmps.getD u undef]) w:=by
 rw[results_cell_tmp h,hp]
 simp[asAddr,run_loadVar_row w g t ty cs fr d hg hu hd hi]
theorem oneA {cs:List Value} (h:∀u∈cs,u.oneCell'=true):cs.toArray.all (fun u=>u.oneCell')=true:=by simpa using h
theorem size_ent:(Tryz.prog.info? 64).map (fun i=>i.size)=some 5:=by kernel_rfl
theorem eCells_one (e:Ent):∀u∈eCells e,u.oneCell'=true:=by
 intro u hu
 simp[eCells] at hu
 rcases hu with rfl|rfl|rfl|rfl|rfl<;>rfl
theorem heap3b {w w1:World} {A B C:Obj} (hx:Ext (((w.alloc A).alloc B).alloc C) w1):w1.heap[w.heap.size+1]? =some B:=by
 have h0:(((w.alloc A).alloc B).alloc C).heap[w.heap.size+1]? =some B:=by
  rw[Below.heap_alloc _ _ _ (by simp)]
  have:=heap_alloc_new (w.alloc A) B
  rwa [size_alloc] at this
 exact hx.heap h0
abbrev entW (w:World) (e:Ent):World:=((w.alloc (.cells (eCells e).toArray 64)).alloc (.cells (eCells zeroE).toArray 64)).alloc (.cells #[.pointer (some ⟨w.heap.size,0,none⟩),.pointer (some ⟨w.heap.size,1,none⟩),.pointer (some ⟨w.heap.size,2,none⟩),.pointer (some ⟨w.heap.size,3,none⟩)] 129)
theorem entW_ptrs (w:World) (e:Ent) (hs:eokS e):Ptrs (entW w e) (.slice (some ⟨w.heap.size+1+1,0,none⟩) 4 4) [(⟨w.heap.size,0,none⟩,e.id),(⟨w.heap.size,1,none⟩,e.title),(⟨w.heap.size,2,none⟩,e.link),(⟨w.heap.size,3,none⟩,e.content)]:=by
 obtain ⟨s1,s2,s3,s4⟩:=hs
 refine ⟨rsl_block (e:=129) (fr:=(0,0)) (cs:= [_,_,_,_]) (heap_alloc3_new w _ _ _) rfl (by decide),?_,?_,?_⟩
 ·have hx:Ext (w.alloc (.cells (eCells e).toArray 64)) (entW w e):=((Ext.refl _).alloc _).alloc _
  intro p hp
  simp only[List.mem_cons,List.mem_nil_iff,or_false] at hp
  rcases hp with rfl|rfl|rfl|rfl
  ·exact ⟨hx.boxed 0 _ rfl,hx.boxedF 0⟩
  ·exact ⟨hx.boxed 1 _ rfl,hx.boxedF 1⟩
  ·exact ⟨hx.boxed 2 _ rfl,hx.boxedF 2⟩
  ·exact ⟨hx.boxed 3 _ rfl,hx.boxedF 3⟩
 ·intro p hp
  simp only[List.mem_cons,List.mem_nil_iff,or_false] at hp
  rcases hp with rfl|rfl|rfl|rfl<;>assumption
 ·simp
theorem entColl_bad (e:Ent) (w:World) (hE:Env w) (hs:eokS e) (h0:firstErr (strsE e)≠0):
 Calls Tryz.prog 74 #[.slice (some ⟨w.heap.size+1+1,0,none⟩) 4 4] (entW w e) fun x w'=>x= .returned (.int .i64 (firstErr (strsE e):Nat))∧Ext (entW w e) w':=by
 refine (collapseAll_any _ _ _ (((hE.alloc _).alloc _).alloc _) (entW_ptrs w e hs)).mono ?_
 rintro x w' ⟨h1,h2⟩
 refine ⟨h1,?_⟩
 rcases h2 with h2|h2
 ·exact absurd h2.1 h0
 ·exact h2.2
theorem entColl_ok (e:Ent) (w:World) (hE:Env w) (hs:eokS e) (h0:firstErr (strsE e)=0):
 Calls Tryz.prog 74 #[.slice (some ⟨w.heap.size+1+1,0,none⟩) 4 4] (entW w e) fun x w'=>x= .returned (.int .i64 0)∧Ext (entW w (collE e)) w':=by
 refine (collapseAll_any _ _ _ (((hE.alloc _).alloc _).alloc _) (entW_ptrs w e hs)).mono ?_
 rintro x w' ⟨h1,h2⟩
 have h0':firstErr (List.map (·.2) [((⟨w.heap.size,0,none⟩:Addr),e.id),(⟨w.heap.size,1,none⟩,e.title),(⟨w.heap.size,2,none⟩,e.link),(⟨w.heap.size,3,none⟩,e.content)])=0:=h0
 rw[h0'] at h1 h2
 refine ⟨h1,?_⟩
 rcases h2 with h2|h2
 ·have h3:=h2.2
  have e1:=setS_box4 w e.id e.title e.link e.content (collapse e.id) (collapse e.title) (collapse e.link) (collapse e.content) (.int .i64 e.upd) 64 (0,0) (.cells (eCells zeroE).toArray 64) (.cells #[.pointer (some ⟨w.heap.size,0,none⟩),.pointer (some ⟨w.heap.size,1,none⟩),.pointer (some ⟨w.heap.size,2,none⟩),.pointer (some ⟨w.heap.size,3,none⟩)] 129)
  have h4:Below (entW w e).heap.size (entW w (collE e)) w':=by
   have h5:=h3
   simp only[List.map_cons,List.map_nil] at h5
   rw[show setS (entW w e) _=entW w (collE e) from e1] at h5
   exact h5
  have e2:(entW w e).heap.size=(entW w (collE e)).heap.size:=by simp
  rw[e2] at h4
  exact h4
 ·exact absurd rfl h2.1
theorem ne_noS {s:ByteArray} (h:s≠noS):s.toList.isEmpty=false:=by
 rw[List.isEmpty_eq_false_iff]
 intro e
 exact h (toList_inj (e.trans (by rw[ByteArray.toList_eq];rfl)))
theorem normEntry_any (e:Ent) (w:World) (hE:Env w) (hs:eokS e):
 Calls Tryz.prog 77 #[.agg (eCells e).toArray] w fun x w'=>x= .returned (.tuple #[.agg (eCells (normE e)).toArray,.int .i64 (errE e:Nat)])∧Ext w w':=by
 have hw3:Ext w (entW w e):=(((Ext.refl w).alloc _).alloc _).alloc _
 have hw3':Ext w (entW w (collE e)):=(((Ext.refl w).alloc _).alloc _).alloc _
 by_cases h0:firstErr (strsE e)=0
 have HB:=gd (entColl_ok e w hE hs h0)
 have HT:=gd (fun w'=>inTime_any e.upd w')
 have hf0:=errE_zero (e:=e)
 by_cases h1:collapse e.id=noS
 focus
  have hf1:errE e=19:=by unfold errE;rw[if_neg (by simpa using h0),if_pos h1]
  have hf2:normE e=zeroE:=by unfold normE;rw[if_neg (by rw[hf1];decide)]
  rw[hf1,hf2]
  unfold collE at HB hw3'
  rw[h1] at HB hw3'
  clear hf1 hf2 h0 h1 hf0 HT
  obtain ⟨id,title,link,content,upd⟩:=e
  have HT:=gd (fun w'=>inTime_any upd w')
  generalize collapse title=ct at*
  generalize collapse link=cl at*
  generalize collapse content=cc at*
  unfold entW eCells zeroE noS at*
  go_enter Tryz.func77,Tryz.ntmps77
  go_wp2_with (first|(go_at_call 74;refine (HB.out).mono ?_;rintro e w1 ⟨rfl,hx1⟩;(have hk1:=heap3b hx1);(have c0:=boxed3a ⟨_,hx1⟩ 0 _ rfl);(have c1:=boxed3a ⟨_,hx1⟩ 1 _ rfl);(have c2:=boxed3a ⟨_,hx1⟩ 2 _ rfl);(have c3:=boxed3a ⟨_,hx1⟩ 3 _ rfl);(have c4:=boxed3a ⟨_,hx1⟩ 4 _ rfl);dsimp only at c0 c1 c2 c3 c4)|(go_at_call 76;refine (HT.out _).mono ?_;rintro e w2 ⟨rfl,rfl⟩)|(refine wpList_store_row rfl 64 (.tmp 2) (.tmp 20) rfl (w.heap.size+1) _ rfl rfl _ _ hk1 size_ent rfl (oneA (eCells_one zeroE)) ?_))
 rotate_left
 have hne:=ne_noS h1
 cases h2:inT e.upd
 focus
  have hf1:errE e=3:=by unfold errE;rw[if_neg (by simpa using h0),if_neg h1,h2];rfl
  have hf2:normE e=zeroE:=by unfold normE;rw[if_neg (by rw[hf1];decide)]
  rw[hf1,hf2]
  rw[h2] at HT
  unfold collE at HB hw3'
  clear hf1 hf2 h0 h1 hf0 h2
  obtain ⟨id,title,link,content,upd⟩:=e
  simp only at hne HB hw3' HT
  generalize collapse id=ci at*
  generalize collapse title=ct at*
  generalize collapse link=cl at*
  generalize collapse content=cc at*
  unfold entW eCells zeroE noS at*
  go_enter Tryz.func77,Tryz.ntmps77
  go_wp2_with (first|(go_at_call 74;refine (HB.out).mono ?_;rintro e w1 ⟨rfl,hx1⟩;(have hk1:=heap3b hx1);(have c0:=boxed3a ⟨_,hx1⟩ 0 _ rfl);(have c1:=boxed3a ⟨_,hx1⟩ 1 _ rfl);(have c2:=boxed3a ⟨_,hx1⟩ 2 _ rfl);(have c3:=boxed3a ⟨_,hx1⟩ 3 _ rfl);(have c4:=boxed3a ⟨_,hx1⟩ 4 _ rfl);dsimp only at c0 c1 c2 c3 c4)|(go_at_call 76;refine (HT.out _).mono ?_;rintro e w2 ⟨rfl,rfl⟩)|(refine wpList_store_row rfl 64 (.tmp 2) (.tmp 26) rfl (w.heap.size+1) _ rfl rfl _ _ hk1 size_ent rfl (oneA (eCells_one zeroE)) ?_))
 rotate_left
 focus
  have hf1:errE e=0:=hf0.2 ⟨h0,h1,h2⟩
  have hf2:normE e=collE e:=by unfold normE;rw[if_pos hf1]
  rw[hf1,hf2]
  rw[h2] at HT
  unfold collE at HB hw3'⊢
  clear hf1 hf2 h0 h1 hf0 h2
  obtain ⟨id,title,link,content,upd⟩:=e
  simp only at hne HB hw3' HT⊢
  generalize collapse id=ci at*
  generalize collapse title=ct at*
  generalize collapse link=cl at*
  generalize collapse content=cc at*
  unfold entW eCells zeroE noS at*
  go_enter Tryz.func77,Tryz.ntmps77
  go_wp2_with (first|(go_at_call 74;refine (HB.out).mono ?_;rintro e w1 ⟨rfl,hx1⟩;(have hk1:=heap3b hx1);(have c0:=boxed3a ⟨_,hx1⟩ 0 _ rfl);(have c1:=boxed3a ⟨_,hx1⟩ 1 _ rfl);(have c2:=boxed3a ⟨_,hx1⟩ 2 _ rfl);(have c3:=boxed3a ⟨_,hx1⟩ 3 _ rfl);(have c4:=boxed3a ⟨_,hx1⟩ 4 _ rfl);dsimp only at c0 c1 c2 c3 c4)|(go_at_call 76;refine (HT.out _).mono ?_;rintro e w2 ⟨rfl,rfl⟩)|(refine wpList_store_row rfl 64 (.tmp 2) (.tmp 27) rfl (w.heap.size+1) _ rfl rfl _ _ hk1 size_ent rfl (oneA (eCells_one ⟨ci,ct,cl,cc,upd⟩)) ?_))
 rotate_left
 ·have HA:=gd (entColl_bad e w hE hs h0)
  have hf1:errE e=firstErr (strsE e):=by unfold errE;rw[if_pos h0]
  have hf2:normE e=zeroE:=by unfold normE;rw[if_neg (by rw[hf1];exact h0)]
  rw[hf1,hf2]
  clear hf1 hf2
  obtain ⟨E,hEr⟩:∃E,firstErr (strsE e)=E:=⟨_,rfl⟩
  rw[hEr] at HA h0⊢
  have hb:((E:Int) !=0)=true:=by simp;omega
  clear hEr h0
  obtain ⟨id,title,link,content,upd⟩:=e
  unfold entW eCells zeroE noS at*
  go_enter Tryz.func77,Tryz.ntmps77
  go_wp2_with (first|(go_at_call 74;refine (HA.out).mono ?_;rintro e w1 ⟨rfl,hx1⟩;(have hk1:=heap3b hx1))|(refine wpList_store_row rfl 64 (.tmp 2) (.tmp 14) rfl (w.heap.size+1) _ rfl rfl _ _ hk1 size_ent rfl (oneA (eCells_one zeroE)) ?_))
  ((try simp only[Exit.inBlock,Exit.then]);refine bodyPost_ret (results_cell_row2 rfl _ _ _ _ _ _ _ rfl (setRow_heap _ _ _ _ _ _ hk1) Tryz.underlying64 rfl size_ent) rfl ?_)
  exact ⟨rfl,(hw3.trans hx1).setRow (by omega) _⟩
 all_goals
  ((try simp only[Exit.inBlock,Exit.then]);refine bodyPost_ret (results_cell_row2 rfl _ _ _ _ _ _ _ rfl (setRow_heap _ _ _ _ _ _ hk1) Tryz.underlying64 rfl size_ent) rfl ?_)
  exact ⟨rfl,(hw3'.trans hx1).setRow (by omega) _⟩
section
set_option linter.unusedSimpArgs false
theorem jHas_any (s t:ByteArray) (k:Nat) (w:World) (hs:s.size≤maxLen) (hk:k≤maxLen) (ht:t.size≤maxLen) (h0:0<t.size):
 Calls Tryz.prog 63 #[.string s,.int .i64 (k:Nat),.string t] w fun e w'=>e= .returned (.bool (hasAt s.data.toList k t.data.toList))∧w'=w:=by
 unfold maxLen at hs hk ht
 by_cases h:k+t.size≤s.size
 ·have h1:(t.size:Int)≤(s.size:Int) - (k:Int):=by omega
  have h2:(0:Int)≤(k:Int):=by omega
  have hsl:=fun wx=>slice_in s k t.size (t.size:Int) rfl h wx
  go_enter Tryz.func63,Tryz.ntmps63
  go_wp2
  go_ret
  refine ⟨?_,rfl⟩
  rw[hasAt_eq,←data_len t,←extract_take,data_len,←toList_beq]
  rfl
 ·have h1:¬(t.size:Int)≤(s.size:Int) - (k:Int):=by omega
  have h2:(0:Int)≤(k:Int):=by omega
  have e:hasAt s.data.toList k t.data.toList=false:=hasAt_long (by rw[data_len,data_len];omega) (fun e=>by have:=congrArg List.length e;rw[data_len,List.length_nil] at this;omega)
  rw[e]
  go_enter Tryz.func63,Tryz.ntmps63
  go_wp2
  go_ret
  exact ⟨rfl,rfl⟩
theorem jSpaces_any (s:ByteArray) (k:Nat) (w:World) (hs:s.size≤80000000000) (hk:k≤s.size):
 Calls Tryz.prog 65 #[.string s,.int .i64 (k:Nat)] w fun e w'=>e= .returned (.int .i64 (spAt s.data.toList k:Nat))∧w'=w:=by
 obtain ⟨R,hR⟩:∃R,spAt s.data.toList k=R:=⟨_,rfl⟩
 rw[hR]
 go_enter Tryz.func65,Tryz.ntmps65
 go_wp2
 go_loopw [1] (fun v wr=>∃j:Nat,j≤s.size∧v= .int .i64 j∧Hid (spAt s.data.toList j=R)∧wr=w) (fun v _=>s.size - (intOf v).toNat)
 case atStart=>exact ⟨k,hk,rfl,gd hR,rfl⟩
 case round=>
  obtain ⟨j,hj,rfl,hr,rfl⟩:=hrel
  by_cases hlt:j<s.size
  ·have hi0:(0:Int)≤(j:Int):=by omega
   have hi1:(j:Int)<(s.size:Int):=by omega
   have hl:j<s.data.toList.length:=by rw[data_len];exact hlt
   have hsj:s.data.toList[j]=s[j]:=by rfl
   cases hsp:isSp (s[j].toNat) with
   |true=>
    have HN:=gd ((spAt_step hl (by rw[hsj];exact hsp)).symm.trans hr.out)
    clear hr
    go_wp2_with (first|(go_at_call 113;(with_reducible refine Calls.mono (refIsSpace_any _ _) ?_);rintro e w2 ⟨rfl,rfl⟩))
    go_roundw
    case rel=>exact ⟨j+1,hlt,by go_num,HN,by trivial⟩
    case measure=>simp[intOf];omega
   |false=>
    have hfin:=(spAt_stop hl (by rw[hsj];exact hsp)).symm.trans hr.out
    subst hfin
    clear hr
    go_wp2_with (first|(go_at_call 113;(with_reducible refine Calls.mono (refIsSpace_any _ _) ?_);rintro e w2 ⟨rfl,rfl⟩))
    go_ret
    exact ⟨rfl,rfl⟩
  ·have hje:j=s.size:=by omega
   have hfin:=(spAt_end (s:=s.data.toList) (k:=j) (by rw[data_len];omega)).symm.trans hr.out
   subst hfin
   clear hr
   subst hje
   go_wp2
   go_ret
   exact ⟨rfl,rfl⟩
def BadR (e:Ending):Prop:=∃a x:Nat,x≠0∧e= .returned (.agg #[.int .i64 0,.bool false,.int .i64 0,.string ⟨#[]⟩,.slice none 0 0,.slice none 0 0,.int .i64 0,.int .i64 (a:Nat),.int .i64 (x:Nat)])
theorem size_res:(Tryz.prog.info? 109).map (fun i=>i.size)=some 9:=by kernel_rfl
theorem size_valJ:(Tryz.prog.info? 25).map (fun i=>i.size)=some 7:=by kernel_rfl
theorem jWrong_any (s:ByteArray) (a:Nat) (w:World):Calls Tryz.prog 107 #[.string s,.int .i64 (a:Nat)] w fun e w'=>BadR e∧Ext w w':=by
 by_cases h:s.size≤a
 ·have h1:(s.size:Int)≤(a:Int):=by omega
  go_enter Tryz.func107,Tryz.ntmps107
  go_wp2
  ((try simp only[Exit.inBlock,Exit.then]);refine bodyPost_ret (results_cell_row rfl _ _ _ _ _ _ _ rfl (heap_alloc_new _ _) Tryz.underlying109 rfl rfl) rfl ?_)
  exact ⟨⟨s.size,8,by decide,rfl⟩,(Ext.refl w).alloc _⟩
 ·have h1:¬(s.size:Int)≤(a:Int):=by omega
  go_enter Tryz.func107,Tryz.ntmps107
  go_wp2
  ((try simp only[Exit.inBlock,Exit.then]);refine bodyPost_ret (results_cell_row rfl _ _ _ _ _ _ _ rfl (heap_alloc_new _ _) Tryz.underlying109 rfl rfl) rfl ?_)
  exact ⟨⟨a,7,by decide,rfl⟩,(Ext.refl w).alloc _⟩
theorem heap2J (w:World) (A B:Obj):((w.alloc A).alloc B).heap[w.heap.size+1]? =some B:=by
 have:=heap_alloc_new (w.alloc A) B
 rwa [size_alloc] at this
theorem oneR {K n a x y:Int} {k:Bool} {s:ByteArray} {A B:Option Addr} {p c q d:Nat}:(#[Value.int .i64 K,.bool k,.int .i64 n,.string s,.slice A p c,.slice B q d,.int .i64 a,.int .i64 x,.int .i64 y]).all (fun u=>u.oneCell')=true:=by simp[Value.oneCell']
def WordR (h k:Bool) (K:Int) (a n:Nat) (e:Ending):Prop:=if h then e= .returned (.agg #[.int .i64 K,.bool k,.int .i64 0,.string ⟨#[]⟩,.slice none 0 0,.slice none 0 0,.int .i64 (a:Nat),.int .i64 (n:Nat),.int .i64 0]) else BadR e
theorem jWord_any (s t:ByteArray) (a:Nat) (K:Int) (k:Bool) (w:World) (hs:s.size≤80000000000) (ha:a≤s.size) (ht:t.size≤10) (h0:0<t.size):
 Calls Tryz.prog 108 #[.string s,.int .i64 (a:Nat),.string t,.agg #[.int .i64 K,.bool k,.int .i64 0,.string ⟨#[]⟩,.slice none 0 0,.slice none 0 0,.int .i64 0]] w fun e w'=>WordR (hasAt s.data.toList a t.data.toList) k K a (a+t.size) e∧Ext w w':=by
 have HH:=gd (fun w'=>jHas_any s t a w' (by unfold maxLen;omega) (by unfold maxLen;omega) (by unfold maxLen;omega) h0)
 obtain ⟨n,hn⟩:∃n,a+t.size=n:=⟨_,rfl⟩
 rw[hn]
 have hn':(a:Int)+(t.size:Int)=(n:Int):=by omega
 clear hn
 have hk1:=fun A B=>heap2J w A B
 cases hh:hasAt s.data.toList a t.data.toList with
 |true=>
  rw[hh] at HH
  clear hh
  go_enter Tryz.func108,Tryz.ntmps108
  go_wp2_with (first|(go_at_call 63;(with_reducible refine Calls.mono (HH.out _) ?_);rintro e w2 ⟨rfl,rfl⟩))
  ((try simp only[Exit.inBlock,Exit.then]);refine bodyPost_ret (results_cell_row rfl _ _ _ _ _ _ _ rfl (hk1 _ _) Tryz.underlying109 rfl size_res) rfl ?_)
  exact ⟨rfl,((Ext.refl w).alloc _).alloc _⟩
 |false=>
  rw[hh] at HH
  clear hh
  go_enter Tryz.func108,Tryz.ntmps108
  go_wp2_with (first|(go_at_call 63;(with_reducible refine Calls.mono (HH.out _) ?_);rintro e w2 ⟨rfl,rfl⟩)|(refine wpList_store_row rfl 109 (.tmp 8) (.tmp 16) rfl (w.heap.size+1) _ rfl rfl _ _ hk3 size_res rfl oneR ?_)|(go_at_call 107;(with_reducible refine Calls.mono (jWrong_any _ _ _) ?_);rintro e w3 ⟨⟨b,x,hx0,rfl⟩,hx3⟩;have hk3:=hx3.heap (hk1 _ _)))
  ((try simp only[Exit.inBlock,Exit.then]);refine bodyPost_ret (results_cell_row rfl _ _ _ _ _ _ _ rfl (setRow_heap _ _ _ _ _ _ hk3) Tryz.underlying109 rfl rfl) rfl ?_)
  exact ⟨⟨b,x,hx0,rfl⟩,((((Ext.refl w).alloc _).alloc _).trans hx3).setRow (Nat.le_succ _) _⟩
theorem numericJ_any (c:UInt8) (w:World):Calls Tryz.prog 111 #[.int .u8 (c.toNat:Nat)] w fun e w'=>e= .returned (.bool (numeric c))∧w'=w:=by
 have hn:numeric c=(decide (48≤c.toNat∧c.toNat≤57)||decide (c.toNat=43)||decide (c.toNat=45)||decide (c.toNat=46)||decide (c.toNat=101)||decide (c.toNat=69)):=by
  unfold numeric isDg
  have e:∀n:Nat,n<256→(c==UInt8.ofNat n)=decide (c.toNat=n):=fun n hn=>by
   rw[Bool.eq_iff_iff,beq_iff_eq,decide_eq_true_iff]
   exact u8_iff hn
  rw[show (43:UInt8)=UInt8.ofNat 43 from rfl,show (45:UInt8)=UInt8.ofNat 45 from rfl,show (46:UInt8)=UInt8.ofNat 46 from rfl,show (101:UInt8)=UInt8.ofNat 101 from rfl,show (69:UInt8)=UInt8.ofNat 69 from rfl]
  rw[e 43 (by decide),e 45 (by decide),e 46 (by decide),e 101 (by decide),e 69 (by decide)]
 rw[hn]
 obtain ⟨x,hx⟩:∃x,c.toNat=x:=⟨_,rfl⟩
 rw[hx]
 clear hn hx
 have hc:(¬(x:Int)<48∧¬57<(x:Int))∨((x:Int)<48∨¬(x:Int)<48∧57<(x:Int)):=by omega
 by_cases h43:x=43
 ·subst h43
  go_enter Tryz.func111,Tryz.ntmps111
  go_wp2
  go_ret
  exact ⟨rfl,rfl⟩
 by_cases h45:x=45
 ·subst h45
  go_enter Tryz.func111,Tryz.ntmps111
  go_wp2
  go_ret
  exact ⟨rfl,rfl⟩
 by_cases h46:x=46
 ·subst h46
  go_enter Tryz.func111,Tryz.ntmps111
  go_wp2
  go_ret
  exact ⟨rfl,rfl⟩
 by_cases h101:x=101
 ·subst h101
  go_enter Tryz.func111,Tryz.ntmps111
  go_wp2
  go_ret
  exact ⟨rfl,rfl⟩
 by_cases h69:x=69
 ·subst h69
  go_enter Tryz.func111,Tryz.ntmps111
  go_wp2
  go_ret
  exact ⟨rfl,rfl⟩
 have q1:((x:Int)==43)=false:=by rw[beq_eq_false_iff_ne];omega
 have q2:((x:Int)==45)=false:=by rw[beq_eq_false_iff_ne];omega
 have q3:((x:Int)==46)=false:=by rw[beq_eq_false_iff_ne];omega
 have q4:((x:Int)==101)=false:=by rw[beq_eq_false_iff_ne];omega
 have q5:((x:Int)==69)=false:=by rw[beq_eq_false_iff_ne];omega
 have e0:(decide (48≤x∧x≤57)||decide (x=43)||decide (x=45)||decide (x=46)||decide (x=101)||decide (x=69))=decide (48≤x∧x≤57):=by simp[h43,h45,h46,h101,h69]
 rw[e0]
 clear e0
 rcases hc with ⟨c1,c2⟩|c1|⟨c1,c2⟩
 ·rw[decide_eq_true (show 48≤x∧x≤57 by omega)]
  clear h43 h45 h46 h101 h69
  go_enter Tryz.func111,Tryz.ntmps111
  go_wp2
  go_ret
  exact ⟨by refine congrArg (fun b=>Ending.returned (Value.bool b)) ?_;first|rfl|(simp;omega),rfl⟩
 ·rw[decide_eq_false (show ¬(48≤x∧x≤57) by omega)]
  go_enter Tryz.func111,Tryz.ntmps111
  go_wp2
  go_ret
  exact ⟨by refine congrArg (fun b=>Ending.returned (Value.bool b)) ?_;first|rfl|(simp;omega),rfl⟩
 ·rw[decide_eq_false (show ¬(48≤x∧x≤57) by omega)]
  go_enter Tryz.func111,Tryz.ntmps111
  go_wp2
  go_ret
  exact ⟨by refine congrArg (fun b=>Ending.returned (Value.bool b)) ?_;first|rfl|(simp;omega),rfl⟩
end
section
set_option linter.unusedSimpArgs false
theorem sliceJ_ab (s:ByteArray) (a b:Nat) (A B:Int) (hA:A=a) (hB:B=b) (h:a≤b) (h2:b≤s.size) (wx:World):
 (Instr.slice 9 (.string s) (some (.int .i64 A)) (some (.int .i64 B)) none).run Tryz.prog wx= .ok (.string (s.extract a b)) wx:=by
 subst hA hB
 rw[run_slice_string (P:=Tryz.prog) (w:=wx) 9 s .i64 .i64 _ _ Tryz.underlying9 (by omega) (by omega) (by omega)]
 rw[show ((a:Nat):Int).toNat=a by omega,show ((b:Nat):Int).toNat=b by omega]
theorem sliceJ_from (s:ByteArray) (a:Nat) (A:Int) (hA:A=a) (h2:a≤s.size) (wx:World):
 (Instr.slice 9 (.string s) (some (.int .i64 A)) none none).run Tryz.prog wx= .ok (.string (s.extract a s.size)) wx:=by
 subst hA
 rw[run_slice_string_l (P:=Tryz.prog) (w:=wx) 9 s Tryz.underlying9 .i64 _ (by omega) (by omega)]
 rw[show ((a:Nat):Int).toNat=a by omega]
theorem extractJ_tl (s:ByteArray) (a:Nat) (h:a≤s.size):(s.extract a s.size).data.toList=s.data.toList.drop a:=by
 have:=extract_take s a (s.size - a)
 rw[show a+(s.size - a)=s.size by omega] at this
 rw[this,List.take_of_length_le (by rw[List.length_drop,data_len];omega)]
theorem decV_cons (c:UInt8) (t:List UInt8) (u:Nat):decV (c::t) u=if isDg c then decV t (u*10+(c.toNat - 48)) else none:=rfl
def numD (neg:Bool) (D:List UInt8):Option Int:=
 if D= []∨19<D.length∨(1<D.length∧D.head? =some 48) then none
 else match decV D 0 with
  |none=>none
  |some u=>if neg then (if u≤9223372036854775808 then some (-(u:Int)) else none) else if u<9223372036854775808 then some (u:Int) else none
theorem numV_pos {s:List UInt8} (h:¬s.head? =some 45):numV s=numD false s:=by
 unfold numV numD
 simp only[if_neg h]
 rfl
theorem numV_neg {s:List UInt8} (h:s.head? =some 45):numV s=numD true s.tail:=by
 unfold numV numD
 simp only[if_pos h]
 rfl
theorem numD_bad {neg:Bool} {D:List UInt8} (h:D= []∨19<D.length∨(1<D.length∧D.head? =some 48)):numD neg D=none:=by unfold numD;rw[if_pos h]
theorem numD_good {neg:Bool} {D:List UInt8} (h:¬(D= []∨19<D.length∨(1<D.length∧D.head? =some 48))):numD neg D=match decV D 0 with
 |none=>none
 |some u=>if neg then (if u≤9223372036854775808 then some (-(u:Int)) else none) else if u<9223372036854775808 then some (u:Int) else none:=by unfold numD;rw[if_neg h]
theorem neg_wrap {M:Int} (h0:0≤M) (h1:M≤9223372036854775808):wrap64 (IntKind.u64.wrap (-M))= -M:=by
 simp only[wrap64,IntKind.wrap,IntKind.bits,IntKind.signed]
 simp
 omega
def NumR (o:Option Int) (e:Ending):Prop:=match o with
 |some n=>e= .returned (.tuple #[.int .i64 n,.bool true])
 |none=>∃x:Int,e= .returned (.tuple #[.int .i64 x,.bool false])
theorem head_get {s:ByteArray} (h:0<s.size):s.data.toList.head? =some s[0]:=by
 rw[List.head?_eq_getElem?]
 exact List.getElem?_eq_getElem (by rw[data_len];exact h)
theorem jNumber_pos (s:ByteArray) (w:World) (hs:s.size≤80000000000) (h0:0<s.size) (h45:¬s[0].toNat=45):
 Calls Tryz.prog 112 #[.string s] w fun e w'=>NumR (numD false s.data.toList) e∧w'=w:=by
 have hne:s.toList.isEmpty=false:=ne_noS (fun e=>by rw[e] at h0;exact absurd h0 (by decide))
 have i0:(0:Int)<(s.size:Int):=by omega
 obtain ⟨x,hx⟩:∃x,s[0].toNat=x:=⟨_,rfl⟩
 have hxi:(s[0].toNat:Int)=(x:Int):=by rw[hx]
 rw[hx] at h45
 have h45i:¬(x:Int)=45:=by omega
 have hhd:=head_get h0
 have hne2:¬s.data.toList= []:=fun e=>by have:=congrArg List.length e;rw[data_len,List.length_nil] at this;omega
 by_cases h19:19<s.size
 ·rw[numD_bad (Or.inr (Or.inl (by rw[data_len];exact h19)))]
  have j19:(19:Int)<(s.size:Int):=by omega
  clear h45 hhd hne2 h19
  go_enter Tryz.func112,Tryz.ntmps112
  go_wp2
  go_ret2
  exact ⟨⟨_,rfl⟩,rfl⟩
 have j19:¬(19:Int)<(s.size:Int):=by omega
 by_cases h48:1<s.size∧x=48
 ·have hb:s.data.toList.head? =some 48:=by
   rw[hhd]
   exact congrArg some ((u8_iff (n:=48) (by decide)).2 (by rw[hx];exact h48.2))
  rw[numD_bad (Or.inr (Or.inr ⟨by rw[data_len];exact h48.1,hb⟩))]
  have j1:(1:Int)<(s.size:Int):=by omega
  obtain ⟨-,rfl⟩:=h48
  clear h45 hhd hne2 h19 hb
  go_enter Tryz.func112,Tryz.ntmps112
  go_wp2
  go_ret2
  exact ⟨⟨_,rfl⟩,rfl⟩
 have hbad:¬(s.data.toList= []∨19<s.data.toList.length∨(1<s.data.toList.length∧s.data.toList.head? =some 48)):=by
  rintro (h|h|⟨h1,h2⟩)
  ·exact hne2 h
  ·rw[data_len] at h;exact h19 h
  ·rw[data_len] at h1
   refine h48 ⟨h1,?_⟩
   rw[hhd] at h2
   injection h2 with h2
   rw[←hx,h2]
   rfl
 obtain ⟨V,hV⟩:∃V,numD false s.data.toList=V:=⟨_,rfl⟩
 rw[hV]
 have HG:=gd (hV.symm.trans (numD_good (neg:=false) hbad))
 clear hV
 have hs19:s.size≤19:=by omega
 have hway:¬(1:Int)<(s.size:Int)∨((1:Int)<(s.size:Int)∧¬(x:Int)=48):=by omega
 clear h45 hhd hne2 h19 hbad h48 hs
 obtain ⟨R,hR⟩:∃R,decV s.data.toList 0=R:=⟨_,rfl⟩
 have HR:=gd hR
 clear hR
 rcases hway with j1|⟨j1,j48⟩
 all_goals (
  go_enter Tryz.func112,Tryz.ntmps112
  go_wp2
  go_loopw [5,6] (fun u i wr=>∃(k m:Nat) (M:Int),k≤s.size∧u= .int .u64 M∧i= .int .i64 (k:Nat)∧Hid ((m:Int)=M)∧Hid (m<10 ^ k)∧Hid (decV (s.data.toList.drop k) m=R)∧wr=w) (fun _ i _=>s.size - (intOf i).toNat)
  case atStart=>exact ⟨0,0,0,Nat.zero_le _,rfl,rfl,rfl,Nat.one_pos,HR.out,rfl⟩
  case round=>
   obtain ⟨k,m,M,hk,rfl,rfl,hmM,hm,hp,rfl⟩:=hrel
   by_cases hlt:k<s.size
   ·have hl:k<s.data.toList.length:=by rw[data_len];exact hlt
    have hst:decV (s.data.toList.drop k) m=if isDg s[k] then decV (s.data.toList.drop (k+1)) (m*10+(s[k].toNat - 48)) else none:=by
     rw[List.drop_eq_getElem_cons hl,decV_cons]
     rfl
    rw[hp.out] at hst
    have hdg:isDg s[k]=decide (48≤s[k].toNat∧s[k].toNat≤57):=rfl
    obtain ⟨y,hy⟩:∃y,s[k].toNat=y:=⟨_,rfl⟩
    have hyi:(s[k].toNat:Int)=(y:Int):=by rw[hy]
    rw[hdg,hy] at hst
    have b1:(k:Int)<(s.size:Int):=by omega
    have b2:(0:Int)≤(k:Int):=by omega
    by_cases hd:48≤y∧y≤57
    ·rw[decide_eq_true hd,if_pos rfl] at hst
     have HN:Hid (decV (s.data.toList.drop (k+1)) (m*10+(y - 48))=R):=hst.symm
     have hm2:m*10+(y - 48)<10 ^ (k+1):=by have:=hm.out;rw[Nat.pow_succ];omega
     have hp19:10 ^ (k+1)≤10 ^ 19:=Nat.pow_le_pow_right (by omega) (by omega)
     have e19:(10:Nat) ^ 19=10000000000000000000:=by decide
     have hmM':=hmM.out
     have HM2:=gd hm2
     have c1:¬(y:Int)<48:=by omega
     have c2:¬57<(y:Int):=by omega
     have d1:0≤M:=by omega
     have d2:M*10≤9999999999999999999:=by omega
     have d3:M*10+((y:Int) - 48)≤9999999999999999999:=by omega
     have HM3:Hid (((m*10+(y - 48):Nat):Int)=M*10+((y:Int) - 48)):=by show _=_;omega
     clear hst hdg hm hp hmM hmM' hp19 e19 hm2 hd
     go_wp2
     go_roundw
     case rel=>exact ⟨k+1,m*10+(y - 48),M*10+((y:Int) - 48),hlt,by first|rfl|(refine congrArg (Value.int .u64) ?_;omega),by go_num,HM3,HM2,HN,trivial⟩
     case measure=>simp[intOf];omega
    ·rw[decide_eq_false hd,if_neg (by decide)] at hst
     have hn:V=none:=by
      rw[HG.out,HR.out,hst]
     subst hn
     have hcase:(y:Int)<48∨(¬(y:Int)<48∧57<(y:Int)):=by omega
     clear hst hdg hm hp hmM hd HG HR
     rcases hcase with c1|⟨c1,c2⟩
     ·go_wp2
      go_ret2
      exact ⟨⟨_,rfl⟩,rfl⟩
     ·go_wp2
      go_ret2
      exact ⟨⟨_,rfl⟩,rfl⟩
   ·have hke:k=s.size:=by omega
    have b1:¬(k:Int)<(s.size:Int):=by omega
    have hfin:decV s.data.toList 0=some m:=by
     rw[HR.out,←hp.out,List.drop_of_length_le (by rw[data_len];omega)]
     rfl
    have hn:V=if m<9223372036854775808 then some (m:Int) else none:=by
     rw[HG.out,hfin]
     rfl
    have hmM':=hmM.out
    have d1:0≤M:=by omega
    have hpk:10 ^ k≤10 ^ 19:=Nat.pow_le_pow_right (by omega) (by omega)
    have e19:(10:Nat) ^ 19=10000000000000000000:=by decide
    have d2:M≤9999999999999999999:=by have:=hm.out;omega
    by_cases hu:m<9223372036854775808
    ·rw[if_pos hu,hmM'] at hn
     subst hn
     have c1:M<9223372036854775808:=by omega
     have c2:M≤9223372036854775807:=by omega
     clear hm hp hmM hmM' hfin hu HG HR hpk e19
     go_wp2
     go_ret2
     exact ⟨by first|rfl|(show _=_;refine congrArg (fun t=>Ending.returned (.tuple #[.int .i64 t,.bool true])) ?_;omega),rfl⟩
    ·rw[if_neg hu] at hn
     subst hn
     have c1:¬M<9223372036854775808:=by omega
     clear hm hp hmM hmM' hfin hu HG HR hpk e19
     go_wp2
     go_ret2
     exact ⟨⟨_,rfl⟩,rfl⟩)
theorem jNumber_neg (s:ByteArray) (w:World) (hs:s.size≤80000000000) (h0:0<s.size) (h45:s[0].toNat=45):
 Calls Tryz.prog 112 #[.string s] w fun e w'=>NumR (numD true s.data.toList.tail) e∧w'=w:=by
 have hne:s.toList.isEmpty=false:=ne_noS (fun e=>by rw[e] at h0;exact absurd h0 (by decide))
 have i0:(0:Int)<(s.size:Int):=by omega
 have h45i:(s[0].toNat:Int)=45:=by omega
 have hsl:=fun wx=>sliceJ_from s 1 1 rfl h0 wx
 have hdl:=extractJ_tl s 1 h0
 obtain ⟨d,hd⟩:∃d,s.extract 1 s.size=d:=⟨_,rfl⟩
 rw[hd] at hdl hsl
 have hds:d.size+1=s.size:=by
  have:=congrArg List.length hdl
  rw[data_len,List.length_drop,data_len] at this
  omega
 rw[show s.data.toList.tail=d.data.toList by rw[hdl];exact List.drop_one.symm]
 have hlts:(d.size:Int)<(s.size:Int):=by omega
 clear hd hdl h45 hs
 by_cases hd0:0<d.size
 case neg=>
  have hde:d=noS:=bytes_inj (List.eq_nil_of_length_eq_zero (by rw[data_len];omega))
  have hdn:d.toList.isEmpty=true:=by rw[hde];exact isEmpty_str []
  rw[numD_bad (Or.inl (by rw[hde];rfl))]
  clear hde hd0 hds
  go_enter Tryz.func112,Tryz.ntmps112
  go_wp2
  go_ret2
  exact ⟨⟨_,rfl⟩,rfl⟩
 have hdn:d.toList.isEmpty=false:=ne_noS (fun e=>by rw[e] at hd0;exact absurd hd0 (by decide))
 have e0:(0:Int)<(d.size:Int):=by omega
 clear hds
 obtain ⟨x,hx⟩:∃x,d[0].toNat=x:=⟨_,rfl⟩
 have hxi:(d[0].toNat:Int)=(x:Int):=by rw[hx]
 have hhd:=head_get hd0
 have hne2:¬d.data.toList= []:=fun e=>by have:=congrArg List.length e;rw[data_len,List.length_nil] at this;omega
 by_cases h19:19<d.size
 ·rw[numD_bad (Or.inr (Or.inl (by rw[data_len];exact h19)))]
  have j19:(19:Int)<(d.size:Int):=by omega
  clear hhd hne2 h19
  go_enter Tryz.func112,Tryz.ntmps112
  go_wp2
  go_ret2
  exact ⟨⟨_,rfl⟩,rfl⟩
 have j19:¬(19:Int)<(d.size:Int):=by omega
 by_cases h48:1<d.size∧x=48
 ·have hb:d.data.toList.head? =some 48:=by
   rw[hhd]
   exact congrArg some ((u8_iff (n:=48) (by decide)).2 (by rw[hx];exact h48.2))
  rw[numD_bad (Or.inr (Or.inr ⟨by rw[data_len];exact h48.1,hb⟩))]
  have j1:(1:Int)<(d.size:Int):=by omega
  obtain ⟨-,rfl⟩:=h48
  clear hhd hne2 h19 hb
  go_enter Tryz.func112,Tryz.ntmps112
  go_wp2
  go_ret2
  exact ⟨⟨_,rfl⟩,rfl⟩
 have hbad:¬(d.data.toList= []∨19<d.data.toList.length∨(1<d.data.toList.length∧d.data.toList.head? =some 48)):=by
  rintro (h|h|⟨h1,h2⟩)
  ·exact hne2 h
  ·rw[data_len] at h;exact h19 h
  ·rw[data_len] at h1
   refine h48 ⟨h1,?_⟩
   rw[hhd] at h2
   injection h2 with h2
   rw[←hx,h2]
   rfl
 obtain ⟨V,hV⟩:∃V,numD true d.data.toList=V:=⟨_,rfl⟩
 rw[hV]
 have HG:=gd (hV.symm.trans (numD_good (neg:=true) hbad))
 clear hV
 have hs19:d.size≤19:=by omega
 have hway:¬(1:Int)<(d.size:Int)∨((1:Int)<(d.size:Int)∧¬(x:Int)=48):=by omega
 clear hhd hne2 h19 hbad h48
 obtain ⟨R,hR⟩:∃R,decV d.data.toList 0=R:=⟨_,rfl⟩
 have HR:=gd hR
 clear hR
 rcases hway with j1|⟨j1,j48⟩
 all_goals (
  go_enter Tryz.func112,Tryz.ntmps112
  go_wp2
  go_loopw [5,6] (fun u i wr=>∃(k m:Nat) (M:Int),k≤d.size∧u= .int .u64 M∧i= .int .i64 (k:Nat)∧Hid ((m:Int)=M)∧Hid (m<10 ^ k)∧Hid (decV (d.data.toList.drop k) m=R)∧wr=w) (fun _ i _=>d.size - (intOf i).toNat)
  case atStart=>exact ⟨0,0,0,Nat.zero_le _,rfl,rfl,rfl,Nat.one_pos,HR.out,rfl⟩
  case round=>
   obtain ⟨k,m,M,hk,rfl,rfl,hmM,hm,hp,rfl⟩:=hrel
   by_cases hlt:k<d.size
   ·have hl:k<d.data.toList.length:=by rw[data_len];exact hlt
    have hst:decV (d.data.toList.drop k) m=if isDg d[k] then decV (d.data.toList.drop (k+1)) (m*10+(d[k].toNat - 48)) else none:=by
     rw[List.drop_eq_getElem_cons hl,decV_cons]
     rfl
    rw[hp.out] at hst
    have hdg:isDg d[k]=decide (48≤d[k].toNat∧d[k].toNat≤57):=rfl
    obtain ⟨y,hy⟩:∃y,d[k].toNat=y:=⟨_,rfl⟩
    have hyi:(d[k].toNat:Int)=(y:Int):=by rw[hy]
    rw[hdg,hy] at hst
    have b1:(k:Int)<(d.size:Int):=by omega
    have b2:(0:Int)≤(k:Int):=by omega
    by_cases hd:48≤y∧y≤57
    ·rw[decide_eq_true hd,if_pos rfl] at hst
     have HN:Hid (decV (d.data.toList.drop (k+1)) (m*10+(y - 48))=R):=hst.symm
     have hm2:m*10+(y - 48)<10 ^ (k+1):=by have:=hm.out;rw[Nat.pow_succ];omega
     have hp19:10 ^ (k+1)≤10 ^ 19:=Nat.pow_le_pow_right (by omega) (by omega)
     have e19:(10:Nat) ^ 19=10000000000000000000:=by decide
     have hmM':=hmM.out
     have HM2:=gd hm2
     have c1:¬(y:Int)<48:=by omega
     have c2:¬57<(y:Int):=by omega
     have d1:0≤M:=by omega
     have d2:M*10≤9999999999999999999:=by omega
     have d3:M*10+((y:Int) - 48)≤9999999999999999999:=by omega
     have HM3:Hid (((m*10+(y - 48):Nat):Int)=M*10+((y:Int) - 48)):=by show _=_;omega
     clear hst hdg hm hp hmM hmM' hp19 e19 hm2 hd
     go_wp2
     go_roundw
     case rel=>exact ⟨k+1,m*10+(y - 48),M*10+((y:Int) - 48),hlt,by first|rfl|(refine congrArg (Value.int .u64) ?_;omega),by go_num,HM3,HM2,HN,trivial⟩
     case measure=>simp[intOf];omega
    ·rw[decide_eq_false hd,if_neg (by decide)] at hst
     have hn:V=none:=by
      rw[HG.out,HR.out,hst]
     subst hn
     have hcase:(y:Int)<48∨(¬(y:Int)<48∧57<(y:Int)):=by omega
     clear hst hdg hm hp hmM hd HG HR
     rcases hcase with c1|⟨c1,c2⟩
     ·go_wp2
      go_ret2
      exact ⟨⟨_,rfl⟩,rfl⟩
     ·go_wp2
      go_ret2
      exact ⟨⟨_,rfl⟩,rfl⟩
   ·have hke:k=d.size:=by omega
    have b1:¬(k:Int)<(d.size:Int):=by omega
    have hfin:decV d.data.toList 0=some m:=by
     rw[HR.out,←hp.out,List.drop_of_length_le (by rw[data_len];omega)]
     rfl
    have hn:V=if m≤9223372036854775808 then some (-(m:Int)) else none:=by
     rw[HG.out,hfin]
     rfl
    have hmM':=hmM.out
    have d1:0≤M:=by omega
    have hpk:10 ^ k≤10 ^ 19:=Nat.pow_le_pow_right (by omega) (by omega)
    have e19:(10:Nat) ^ 19=10000000000000000000:=by decide
    have d2:M≤9999999999999999999:=by have:=hm.out;omega
    by_cases hu:m≤9223372036854775808
    ·rw[if_pos hu,hmM'] at hn
     subst hn
     have c1:M≤9223372036854775808:=by omega
     have c1':¬9223372036854775808<M:=by omega
     clear hm hp hmM hmM' hfin hu HG HR hpk e19
     go_wp2
     go_ret2
     exact ⟨by first|rfl|(show _=_;refine congrArg (fun t=>Ending.returned (.tuple #[.int .i64 t,.bool true])) ?_;exact neg_wrap (by omega) (by omega)),rfl⟩
    ·rw[if_neg hu] at hn
     subst hn
     have c1:¬M≤9223372036854775808:=by omega
     have c1':9223372036854775808<M:=by omega
     clear hm hp hmM hmM' hfin hu HG HR hpk e19
     go_wp2
     go_ret2
     exact ⟨⟨_,rfl⟩,rfl⟩)
theorem jNumber_any (s:ByteArray) (w:World) (hs:s.size≤80000000000) (h0:0<s.size):
 Calls Tryz.prog 112 #[.string s] w fun e w'=>NumR (numV s.data.toList) e∧w'=w:=by
 by_cases h45:s[0].toNat=45
 ·have hh:s.data.toList.head? =some 45:=by rw[head_get h0];exact congrArg some ((u8_iff (n:=45) (by decide)).2 h45)
  rw[numV_neg hh]
  exact jNumber_neg s w hs h0 h45
 ·have hh:¬s.data.toList.head? =some 45:=by
   rw[head_get h0]
   intro e
   injection e with e
   exact h45 ((u8_iff (n:=45) (by decide)).1 e)
  rw[numV_pos hh]
  exact jNumber_pos s w hs h0 h45
end
theorem keyLit_str (s:List UInt8):WideAt.IsKeyLit (.string s):=trivial
theorem keyLaw:Keyed Tryz.prog 9:=string_keyed Tryz.underlying9
theorem Ext.grown' {B:Nat} {a b c:World} {row:Option Nat} (h:Ext a b) (hg:b.grownBy c row) (hr:∀g,row=some g→a.heap.size≤g):Ext a c:=
 Below.grown h hg h.size fun k hk=>hr k hk
def SeenMap (D:DataW Unit) (p:ByteArray→Bool):Prop:=
 IsMap D∧∀s:ByteArray,D.atKey (.string s.data.toList) (.lit (.bool false))= .lit (.bool (p s))
theorem SeenMap.nil:SeenMap (.map []) (fun _=>false):=⟨isMap_empty,fun _=>rfl⟩
theorem SeenMap.put {D:DataW Unit} {p q:ByteArray→Bool} {s:ByteArray} (h:SeenMap D p) (hq:∀t,q t=(p t||decide (s=t))):SeenMap (D.put (.string s.data.toList) (.lit (.bool true))) q:=by
 refine ⟨h.1.put _ _,fun t=> ?_⟩
 rw[hq]
 by_cases e:s=t
 ·subst e
  rw[atKey_put_same h.1 (keyLit_str _)]
  simp
 ·have hne:(Lit.string t.data.toList)≠ .string s.data.toList:=by
   intro h'
   injection h' with h'
   exact e (data_inj h').symm
  rw[atKey_put_other hne,h.2 t]
  simp[e]
theorem plainElem_bool_inv {P:Program} {e:TypeId} (he:P.underlying e=some .bool) {v:Value} {z:DataW Unit×List MemPlace} (h:plainElem P e v=some z):∃b:Bool,v= .bool b∧z=(.lit (.bool b),[]):=by
 unfold plainElem at h
 rw[he] at h
 cases v<;>simp at h
 exact ⟨_,rfl,h.symm⟩
theorem zeroBool (w:World):(zeroValue 4).run Tryz.prog w= .ok (.bool false) w:=by kernel_rfl
theorem seen_look {w:World} {b n:Nat} {D:DataW Unit} {p:ByteArray→Bool} {s:ByteArray} (hM:w.ownsMap Tryz.prog 9 (plainElem Tryz.prog 4) b n D) (h:SeenMap D p) (hs:s.size≤maxLen):
 (Instr.lookup 192 (.map (some b)) (.string s) false).run Tryz.prog w= .ok (.bool (p s)) w:=by
 obtain ⟨v,ps,hrun,hv⟩:=hM.lookup keyLaw Tryz.underlying192 (zeroBool w) (plainElem_bool Tryz.underlying4 false) (keyOf_string_mk Tryz.underlying9 hs)
 obtain ⟨c,rfl,hc⟩:=plainElem_bool_inv Tryz.underlying4 hv
 rw[h.2 s] at hc
 simp only[Prod.mk.injEq,DataW.lit.injEq,Lit.bool.injEq] at hc
 rw[hrun,hc.1]
end Go.Proofs.YthlnaldahkgjnaaGreatDoor
