/- Parts of the proof: contracts and plain laws. -/
import Derived.Test.YthlnaldahkgjnaaGreatDoorRows
import Derived.Test.YthlnaldahkgjnaaGreatDoorY26
namespace Go.Proofs.YthlnaldahkgjnaaGreatDoor
open Go Go.RowKit Go.ChangeShapes Go.WideShapes Go.Deep Go.ChangeAt Go.Joins
set_option linter.unusedVariables false
set_option linter.unusedSimpArgs false
set_option maxRecDepth 100000
set_option maxHeartbeats 16000000
section
set_option linter.unusedSimpArgs false
theorem law19_any (x:Fc) (w:World) (hE:Env w) (hrx:RdC w x) (hwx:fwide x.f):
 Calls Tryz.prog 4 #[.agg (cellsC x).toArray] w fun e w'=>e= .returned (.bool true)∧Ext w w':=by
 have hbx:=hrx
 have hvx:=hwx
 obtain ⟨xp,xes,⟨xpath,xid,xtitle,xlink,xupd,xents⟩⟩:=x
 obtain ⟨hx0,hx1⟩:=hrx
 dsimp only at hx0 hx1 hbx hvx
 obtain ⟨xA,xc,rfl, -, -⟩:=hx0.form
 obtain ⟨xB,xd,rfl, -, -⟩:=hx1.form
 unfold cellsC fCells
 dsimp only
 have HAL:=gd (fun (W':World) (h:Ext w W')=>alive18_any W' (hE.ext h))
 obtain ⟨P,hP⟩:∃P:Fd,P=⟨xpath,xid,xtitle,xlink,xupd,xents⟩:=⟨_,rfl⟩
 have HLP:Hid (∀W':World,Ext w W'→Calls Tryz.prog 17 #[.agg #[.slice xA xpath.length xc,.string xid,.string xtitle,.string xlink,.int .i64 xupd,.slice xB xents.length xd]] W' fun e w2=>e= .returned (.bool (decide (5000<bigF P)))∧Ext W' w2):=gd fun W' h=>by rw[hP];exact large18_any ⟨.slice xA xpath.length xc,.slice xB xents.length xd,⟨xpath,xid,xtitle,xlink,xupd,xents⟩⟩ W' (hbx.ext h) hvx
 have hsp:¬5000<bigF P→fokS P∧smallJ P:=fun h=>by rw[hP] at h⊢;exact small_J hvx h
 have HNE0:=gd (fun (hs:fokS P) (ho:okJ P=false)=>(show ∀W':World,Ext w W'→Calls Tryz.prog 18 #[.agg #[.slice xA xpath.length xc,.string xid,.string xtitle,.string xlink,.int .i64 xupd,.slice xB xents.length xd]] W' fun e w2=>(∃z:Int,e= .returned (.tuple #[.agg #[.int .i64 z,.bool false,.int .i64 0,.string ⟨#[]⟩,.slice none 0 0,.slice none 0 0,.int .i64 0],.int .i64 22])∧z=0)∧Ext W' w2 from fun W' h=>by rw[hP] at hs ho;exact Calls.mono (jenc_no ⟨.slice xA xpath.length xc,.slice xB xents.length xd,⟨xpath,xid,xtitle,xlink,xupd,xents⟩⟩ W' (hE.ext h) (hbx.ext h) hs ho) fun e w2 ⟨h1,h2⟩=>⟨⟨0,h1,rfl⟩,h2⟩))
 have HNR0:=gd (fun (hs:fokS P) (ho:okJ P=false)=>(show ∀W':World,Ext w W'→Calls Tryz.prog 19 #[.agg #[.slice xA xpath.length xc,.string xid,.string xtitle,.string xlink,.int .i64 xupd,.slice xB xents.length xd]] W' fun e w2=>(∃z:Int,e= .returned (.tuple #[.agg #[.int .i64 z,.bool false,.int .i64 0,.string ⟨#[]⟩,.slice none 0 0,.slice none 0 0,.int .i64 0],.int .i64 22])∧z=0)∧Ext W' w2 from fun W' h=>by rw[hP] at hs ho;exact Calls.mono (refEnc_no ⟨.slice xA xpath.length xc,.slice xB xents.length xd,⟨xpath,xid,xtitle,xlink,xupd,xents⟩⟩ W' (hbx.ext h) hs ho) fun e w2 ⟨h1,h2⟩=>⟨⟨0,h1,rfl⟩,h2⟩))
 have HNW0:=gd (fun (hs:fokS P) (ho:okJ P=false)=>(show ∀W':World,Ext w W'→Calls Tryz.prog 20 #[.agg #[.slice xA xpath.length xc,.string xid,.string xtitle,.string xlink,.int .i64 xupd,.slice xB xents.length xd]] W' fun e w2=>e= .returned (.tuple #[.string ⟨#[]⟩,.int .i64 22])∧Ext W' w2 from fun W' h=>by rw[hP] at hs ho;exact jfw_no ⟨.slice xA xpath.length xc,.slice xB xents.length xd,⟨xpath,xid,xtitle,xlink,xupd,xents⟩⟩ W' (hE.ext h) (hbx.ext h) hs ho))
 have HNV0:=gd (fun (hs:fokS P) (ho:okJ P=false)=>(show ∀W':World,Ext w W'→Calls Tryz.prog 21 #[.agg #[.slice xA xpath.length xc,.string xid,.string xtitle,.string xlink,.int .i64 xupd,.slice xB xents.length xd]] W' fun e w2=>e= .returned (.tuple #[.string ⟨#[]⟩,.int .i64 22])∧Ext W' w2 from fun W' h=>by rw[hP] at hs ho;exact refWrite_no ⟨.slice xA xpath.length xc,.slice xB xents.length xd,⟨xpath,xid,xtitle,xlink,xupd,xents⟩⟩ W' (hbx.ext h) hs ho))
 have HYE0:=gd (fun (hs:fokS P) (ho:okJ P=true)=>(show ∀W':World,Ext w W'→Calls Tryz.prog 18 #[.agg #[.slice xA xpath.length xc,.string xid,.string xtitle,.string xlink,.int .i64 xupd,.slice xB xents.length xd]] W' fun e w2=>(∃A n c m,e= .returned (.tuple #[.agg #[.int .i64 5,.bool false,.int .i64 0,.string ⟨#[]⟩,.slice none 0 0,.slice A n c,.int .i64 0],.int .i64 0])∧RJn m w2 (encO P) [.int .i64 5,.bool false,.int .i64 0,.string ⟨#[]⟩,.slice none 0 0,.slice A n c,.int .i64 0])∧Ext W' w2 from fun W' h=>by
  rw[hP] at hs ho⊢
  refine Calls.mono (jenc_yes0 ⟨.slice xA xpath.length xc,.slice xB xents.length xd,⟨xpath,xid,xtitle,xlink,xupd,xents⟩⟩ W' (hE.ext h) (hbx.ext h) hs ho) ?_
  rintro e w2 ⟨A,n,c,rfl,⟨m,hm⟩,hx⟩
  exact ⟨⟨A,n,c,m,rfl,hm⟩,hx⟩))
 have HYR0:=gd (fun (hs:fokS P) (ho:okJ P=true)=>(show ∀W':World,Ext w W'→Calls Tryz.prog 19 #[.agg #[.slice xA xpath.length xc,.string xid,.string xtitle,.string xlink,.int .i64 xupd,.slice xB xents.length xd]] W' fun e w2=>(∃A n c,e= .returned (.tuple #[.agg #[.int .i64 5,.bool false,.int .i64 0,.string ⟨#[]⟩,.slice none 0 0,.slice A n c,.int .i64 0],.int .i64 0])∧RJn 4 w2 (encO P) [.int .i64 5,.bool false,.int .i64 0,.string ⟨#[]⟩,.slice none 0 0,.slice A n c,.int .i64 0])∧Ext W' w2 from fun W' h=>by
  rw[hP] at hs ho⊢
  refine Calls.mono (refEnc_yes ⟨.slice xA xpath.length xc,.slice xB xents.length xd,⟨xpath,xid,xtitle,xlink,xupd,xents⟩⟩ W' (hbx.ext h) hs ho) ?_
  rintro e w2 ⟨A,n,c,rfl,hm,hx⟩
  exact ⟨⟨A,n,c,rfl,hm⟩,hx⟩))
 have HYW0:=gd (fun (hs:fokS P∧smallJ P) (ho:okJ P=true)=>(show ∀W':World,Ext w W'→Calls Tryz.prog 20 #[.agg #[.slice xA xpath.length xc,.string xid,.string xtitle,.string xlink,.int .i64 xupd,.slice xB xents.length xd]] W' fun e w2=>e= .returned (.tuple #[.string (textF P),.int .i64 0])∧Ext W' w2 from fun W' h=>by rw[hP] at hs ho⊢;exact jfw_yes ⟨.slice xA xpath.length xc,.slice xB xents.length xd,⟨xpath,xid,xtitle,xlink,xupd,xents⟩⟩ W' (hE.ext h) (hbx.ext h) hs.1 ho hs.2))
 have HYV0:=gd (fun (hs:fokS P∧smallJ P) (ho:okJ P=true)=>(show ∀W':World,Ext w W'→Calls Tryz.prog 21 #[.agg #[.slice xA xpath.length xc,.string xid,.string xtitle,.string xlink,.int .i64 xupd,.slice xB xents.length xd]] W' fun e w2=>e= .returned (.tuple #[.string (textF P),.int .i64 0])∧Ext W' w2 from fun W' h=>by rw[hP] at hs ho⊢;exact refWrite_yes ⟨.slice xA xpath.length xc,.slice xB xents.length xd,⟨xpath,xid,xtitle,xlink,xupd,xents⟩⟩ W' (hbx.ext h) hs.1 ho hs.2))
 obtain ⟨W1,hW1⟩:∃W1,w.alloc (.cells #[.slice xA xpath.length xc,.string xid,.string xtitle,.string xlink,.int .i64 xupd,.slice xB xents.length xd] 32)=W1:=⟨_,rfl⟩
 have hx1':Ext w W1:=by rw[←hW1];exact (Ext.refl _).alloc _
 have hca:∀i v,(#[.slice xA xpath.length xc,.string xid,.string xtitle,.string xlink,.int .i64 xupd,.slice xB xents.length xd]:Array Value)[i]? =some v→W1.cell? ⟨w.heap.size,i,none⟩=some v:=fun i v h=>by rw[←hW1];exact (Ext.refl (w.alloc _)).boxed i v h
 have HC:Hid (∀W':World,Ext W1 W'→W'.cell? ⟨w.heap.size,0,none⟩=some (.slice xA xpath.length xc)∧W'.cell? ⟨w.heap.size,1,none⟩=some (.string xid)∧W'.cell? ⟨w.heap.size,2,none⟩=some (.string xtitle)∧W'.cell? ⟨w.heap.size,3,none⟩=some (.string xlink)∧W'.cell? ⟨w.heap.size,4,none⟩=some (.int .i64 xupd)∧W'.cell? ⟨w.heap.size,5,none⟩=some (.slice xB xents.length xd)):=gd fun W' h=>⟨h.cell (hca 0 _ rfl),h.cell (hca 1 _ rfl),h.cell (hca 2 _ rfl),h.cell (hca 3 _ rfl),h.cell (hca 4 _ rfl),h.cell (hca 5 _ rfl)⟩
 have HX1:=gd hx1'
 have HEQ:Hid (∀(j:JO) (n m:Nat) (cs cs':List Value) (W':World),RJn n W' j cs→RJn m W' j cs'→Calls Tryz.prog 22 #[.agg cs.toArray,.agg cs'.toArray,.bool true] W' fun e w2=>e= .returned (.bool true)∧Ext W' w2):=gd fun j n m cs cs' W' h h'=>eqJ_any (max n m) j cs cs' W' (h.more (Nat.le_max_left _ _)) (h'.more (Nat.le_max_right _ _))
 clear hx1' hca hbx hvx hx0 hx1 hE hwx hP
 by_cases h1:5000<bigF P
 ·simp only[decide_eq_true h1] at HLP
  clear h1 hsp HEQ HNE0 HNR0 HNW0 HNV0 HYE0 HYR0 HYW0 HYV0
  obtain ⟨q0_0_0,q0_0_1,q0_0_2,q0_0_3,q0_0_4,q0_0_5⟩:=HC.out _ (Ext.refl W1)
  go_enter Tryz.func4,Tryz.ntmps4
  go_wp2_with (first|(go_at_call 11;(have hz:=HAL.out _ (HX1.out.trans hy2));(with_reducible refine Calls.mono hz ?_);clear hz;rintro e w3 ⟨rfl,hx3⟩;(have hy3:=hy2.trans hx3))|(go_at_call 17;(have hz:=HLP.out _ (HX1.out.trans (Ext.refl W1)));(with_reducible refine Calls.mono hz ?_);clear hz;rintro e w2 ⟨rfl,hx2⟩;(have hy2:=(Ext.refl W1).trans hx2);(obtain ⟨q1_0_0,q1_0_1,q1_0_2,q1_0_3,q1_0_4,q1_0_5⟩:=HC.out _ hy2);clear q0_0_0 q0_0_1 q0_0_2 q0_0_3 q0_0_4 q0_0_5))
  go_ret
  exact ⟨rfl,HX1.out.trans hy3⟩
 have hsp:=hsp h1
 simp only[decide_eq_false h1] at HLP
 cases h3:okJ P with
 |false=>
  have HNE:=gd (HNE0.out hsp.1 h3)
  have HNR:=gd (HNR0.out hsp.1 h3)
  have HNW:=gd (HNW0.out hsp.1 h3)
  have HNV:=gd (HNV0.out hsp.1 h3)
  have HZ:Hid (∀(W':World) (z:Int),z=0→RJn 1 W' (JO.null 0) [.int .i64 z,.bool false,.int .i64 0,.string ⟨#[]⟩,.slice none 0 0,.slice none 0 0,.int .i64 0]):=gd fun W' z hz=>by subst hz;exact RJn.leaf (n:=0) (j:= .null 0) ⟨rfl,rfl,rfl⟩
  clear h1 h3 hsp HNE0 HNR0 HNW0 HNV0 HYE0 HYR0 HYW0 HYV0
  obtain ⟨q0_0_0,q0_0_1,q0_0_2,q0_0_3,q0_0_4,q0_0_5⟩:=HC.out _ (Ext.refl W1)
  go_enter Tryz.func4,Tryz.ntmps4
  go_wp2_with (first|(go_at_call 22;(have hz:=HEQ.out (.null 0) 1 1 _ _ w7 (HZ.out _ z1 HZ1.out) (HZ.out _ z2 HZ2.out));(refine Calls.mono hz ?_);clear hz;rintro e w8 ⟨rfl,hx8⟩;(have hy8:=hy7.trans hx8))|(go_at_call 11;(have hz:=HAL.out _ (HX1.out.trans hy6));(with_reducible refine Calls.mono hz ?_);clear hz;rintro e w7 ⟨rfl,hx7⟩;(have hy7:=hy6.trans hx7);(obtain ⟨q6_0_0,q6_0_1,q6_0_2,q6_0_3,q6_0_4,q6_0_5⟩:=HC.out _ hy7);(have hc1_7:=hc1_6.trans hx7);(obtain ⟨q6_1_0,q6_1_1,q6_1_2,q6_1_3,q6_1_4,q6_1_5,q6_1_6⟩:=HB3.out _ hc1_7);(have hc2_7:=hc2_6.trans hx7);(obtain ⟨q6_2_0,q6_2_1,q6_2_2,q6_2_3,q6_2_4,q6_2_5,q6_2_6⟩:=HB4.out _ hc2_7);clear q5_0_0 q5_0_1 q5_0_2 q5_0_3 q5_0_4 q5_0_5 q5_1_0 q5_1_1 q5_1_2 q5_1_3 q5_1_4 q5_1_5 q5_1_6 q5_2_0 q5_2_1 q5_2_2 q5_2_3 q5_2_4 q5_2_5 q5_2_6)|(go_at_call 21;(have hz:=HNV.out _ (HX1.out.trans hy5));(with_reducible refine Calls.mono hz ?_);clear hz;rintro e w6 ⟨rfl,hx6⟩;(have hy6:=hy5.trans hx6);(obtain ⟨q5_0_0,q5_0_1,q5_0_2,q5_0_3,q5_0_4,q5_0_5⟩:=HC.out _ hy6);(have hc1_6:=hc1_5.trans hx6);(obtain ⟨q5_1_0,q5_1_1,q5_1_2,q5_1_3,q5_1_4,q5_1_5,q5_1_6⟩:=HB3.out _ hc1_6);(have hc2_6:=hc2_5.trans hx6);(obtain ⟨q5_2_0,q5_2_1,q5_2_2,q5_2_3,q5_2_4,q5_2_5,q5_2_6⟩:=HB4.out _ hc2_6);clear q4_0_0 q4_0_1 q4_0_2 q4_0_3 q4_0_4 q4_0_5 q4_1_0 q4_1_1 q4_1_2 q4_1_3 q4_1_4 q4_1_5 q4_1_6 q4_2_0 q4_2_1 q4_2_2 q4_2_3 q4_2_4 q4_2_5 q4_2_6)|(go_at_call 20;(have hz:=HNW.out _ (HX1.out.trans hy4));(with_reducible refine Calls.mono hz ?_);clear hz;rintro e w5 ⟨rfl,hx5⟩;(have hy5:=hy4.trans hx5);(obtain ⟨q4_0_0,q4_0_1,q4_0_2,q4_0_3,q4_0_4,q4_0_5⟩:=HC.out _ hy5);(have hc1_5:=hc1_4.trans hx5);(obtain ⟨q4_1_0,q4_1_1,q4_1_2,q4_1_3,q4_1_4,q4_1_5,q4_1_6⟩:=HB3.out _ hc1_5);(have hc2_5:=(Ext.refl (w4.alloc (.cells #[.int .i64 z2,.bool false,.int .i64 0,.string ⟨#[]⟩,.slice none 0 0,.slice none 0 0,.int .i64 0] 25))).trans hx5);(obtain ⟨q4_2_0,q4_2_1,q4_2_2,q4_2_3,q4_2_4,q4_2_5,q4_2_6⟩:=HB4.out _ hc2_5);clear q3_0_0 q3_0_1 q3_0_2 q3_0_3 q3_0_4 q3_0_5 q3_1_0 q3_1_1 q3_1_2 q3_1_3 q3_1_4 q3_1_5 q3_1_6 q3_2_0 q3_2_1 q3_2_2 q3_2_3 q3_2_4 q3_2_5 q3_2_6)|(go_at_call 19;(have hz:=HNR.out _ (HX1.out.trans hy3));(with_reducible refine Calls.mono hz ?_);clear hz;rintro e w4 ⟨⟨z2,rfl,hz2⟩,hx4⟩;(have hv4:Ext w4 (w4.alloc (.cells #[.int .i64 z2,.bool false,.int .i64 0,.string ⟨#[]⟩,.slice none 0 0,.slice none 0 0,.int .i64 0] 25)):=(Ext.refl _).alloc _);(have hb4:∀i v,(#[.int .i64 z2,.bool false,.int .i64 0,.string ⟨#[]⟩,.slice none 0 0,.slice none 0 0,.int .i64 0]:Array Value)[i]? =some v→(w4.alloc (.cells #[.int .i64 z2,.bool false,.int .i64 0,.string ⟨#[]⟩,.slice none 0 0,.slice none 0 0,.int .i64 0] 25)).cell? ⟨w4.heap.size,i,none⟩=some v:=fun i v h=>(Ext.refl (w4.alloc (.cells #[.int .i64 z2,.bool false,.int .i64 0,.string ⟨#[]⟩,.slice none 0 0,.slice none 0 0,.int .i64 0] 25))).boxed i v h);(have HB4:Hid (∀W':World,Ext (w4.alloc (.cells #[.int .i64 z2,.bool false,.int .i64 0,.string ⟨#[]⟩,.slice none 0 0,.slice none 0 0,.int .i64 0] 25)) W'→W'.cell? ⟨w4.heap.size,0,none⟩=some (.int .i64 z2)∧W'.cell? ⟨w4.heap.size,1,none⟩=some (.bool false)∧W'.cell? ⟨w4.heap.size,2,none⟩=some (.int .i64 0)∧W'.cell? ⟨w4.heap.size,3,none⟩=some (.string ⟨#[]⟩)∧W'.cell? ⟨w4.heap.size,4,none⟩=some (.slice none 0 0)∧W'.cell? ⟨w4.heap.size,5,none⟩=some (.slice none 0 0)∧W'.cell? ⟨w4.heap.size,6,none⟩=some (.int .i64 0)):=gd fun W' h=>⟨h.cell (hb4 0 _ rfl),h.cell (hb4 1 _ rfl),h.cell (hb4 2 _ rfl),h.cell (hb4 3 _ rfl),h.cell (hb4 4 _ rfl),h.cell (hb4 5 _ rfl),h.cell (hb4 6 _ rfl)⟩);clear hb4;(have hs4:=hx4.trans hv4);(have hy4:=hy3.trans hs4);(obtain ⟨q3_0_0,q3_0_1,q3_0_2,q3_0_3,q3_0_4,q3_0_5⟩:=HC.out _ hy4);(have hc1_4:=(Ext.refl (w3.alloc (.cells #[.int .i64 z1,.bool false,.int .i64 0,.string ⟨#[]⟩,.slice none 0 0,.slice none 0 0,.int .i64 0] 25))).trans hs4);(obtain ⟨q3_1_0,q3_1_1,q3_1_2,q3_1_3,q3_1_4,q3_1_5,q3_1_6⟩:=HB3.out _ hc1_4);clear q2_0_0 q2_0_1 q2_0_2 q2_0_3 q2_0_4 q2_0_5 q2_1_0 q2_1_1 q2_1_2 q2_1_3 q2_1_4 q2_1_5 q2_1_6;(obtain ⟨q3_2_0,q3_2_1,q3_2_2,q3_2_3,q3_2_4,q3_2_5,q3_2_6⟩:=HB4.out _ (Ext.refl (w4.alloc (.cells #[.int .i64 z2,.bool false,.int .i64 0,.string ⟨#[]⟩,.slice none 0 0,.slice none 0 0,.int .i64 0] 25))));(have HZ2:=gd hz2);clear hz2)|(go_at_call 18;(have hz:=HNE.out _ (HX1.out.trans hy2));(with_reducible refine Calls.mono hz ?_);clear hz;rintro e w3 ⟨⟨z1,rfl,hz1⟩,hx3⟩;(have hv3:Ext w3 (w3.alloc (.cells #[.int .i64 z1,.bool false,.int .i64 0,.string ⟨#[]⟩,.slice none 0 0,.slice none 0 0,.int .i64 0] 25)):=(Ext.refl _).alloc _);(have hb3:∀i v,(#[.int .i64 z1,.bool false,.int .i64 0,.string ⟨#[]⟩,.slice none 0 0,.slice none 0 0,.int .i64 0]:Array Value)[i]? =some v→(w3.alloc (.cells #[.int .i64 z1,.bool false,.int .i64 0,.string ⟨#[]⟩,.slice none 0 0,.slice none 0 0,.int .i64 0] 25)).cell? ⟨w3.heap.size,i,none⟩=some v:=fun i v h=>(Ext.refl (w3.alloc (.cells #[.int .i64 z1,.bool false,.int .i64 0,.string ⟨#[]⟩,.slice none 0 0,.slice none 0 0,.int .i64 0] 25))).boxed i v h);(have HB3:Hid (∀W':World,Ext (w3.alloc (.cells #[.int .i64 z1,.bool false,.int .i64 0,.string ⟨#[]⟩,.slice none 0 0,.slice none 0 0,.int .i64 0] 25)) W'→W'.cell? ⟨w3.heap.size,0,none⟩=some (.int .i64 z1)∧W'.cell? ⟨w3.heap.size,1,none⟩=some (.bool false)∧W'.cell? ⟨w3.heap.size,2,none⟩=some (.int .i64 0)∧W'.cell? ⟨w3.heap.size,3,none⟩=some (.string ⟨#[]⟩)∧W'.cell? ⟨w3.heap.size,4,none⟩=some (.slice none 0 0)∧W'.cell? ⟨w3.heap.size,5,none⟩=some (.slice none 0 0)∧W'.cell? ⟨w3.heap.size,6,none⟩=some (.int .i64 0)):=gd fun W' h=>⟨h.cell (hb3 0 _ rfl),h.cell (hb3 1 _ rfl),h.cell (hb3 2 _ rfl),h.cell (hb3 3 _ rfl),h.cell (hb3 4 _ rfl),h.cell (hb3 5 _ rfl),h.cell (hb3 6 _ rfl)⟩);clear hb3;(have hs3:=hx3.trans hv3);(have hy3:=hy2.trans hs3);(obtain ⟨q2_0_0,q2_0_1,q2_0_2,q2_0_3,q2_0_4,q2_0_5⟩:=HC.out _ hy3);clear q1_0_0 q1_0_1 q1_0_2 q1_0_3 q1_0_4 q1_0_5;(obtain ⟨q2_1_0,q2_1_1,q2_1_2,q2_1_3,q2_1_4,q2_1_5,q2_1_6⟩:=HB3.out _ (Ext.refl (w3.alloc (.cells #[.int .i64 z1,.bool false,.int .i64 0,.string ⟨#[]⟩,.slice none 0 0,.slice none 0 0,.int .i64 0] 25))));(have HZ1:=gd hz1);clear hz1)|(go_at_call 17;(have hz:=HLP.out _ (HX1.out.trans (Ext.refl W1)));(with_reducible refine Calls.mono hz ?_);clear hz;rintro e w2 ⟨rfl,hx2⟩;(have hy2:=(Ext.refl W1).trans hx2);(obtain ⟨q1_0_0,q1_0_1,q1_0_2,q1_0_3,q1_0_4,q1_0_5⟩:=HC.out _ hy2);clear q0_0_0 q0_0_1 q0_0_2 q0_0_3 q0_0_4 q0_0_5))
  go_ret
  exact ⟨rfl,HX1.out.trans hy8⟩
 |true=>
  have HYE:=gd (HYE0.out hsp.1 h3)
  have HYR:=gd (HYR0.out hsp.1 h3)
  have HYW:=gd (HYW0.out hsp h3)
  have HYV:=gd (HYV0.out hsp h3)
  obtain ⟨T,hT⟩:∃T,textF P=T:=⟨_,rfl⟩
  obtain ⟨J,hJ⟩:∃J,encO P=J:=⟨_,rfl⟩
  rw[hT] at HYW HYV
  rw[hJ] at HYE HYR
  clear h1 h3 hsp hT hJ HNE0 HNR0 HNW0 HNV0 HYE0 HYR0 HYW0 HYV0
  obtain ⟨q0_0_0,q0_0_1,q0_0_2,q0_0_3,q0_0_4,q0_0_5⟩:=HC.out _ (Ext.refl W1)
  go_enter Tryz.func4,Tryz.ntmps4
  go_wp2_with (first|(go_at_call 22;(have hz:=HEQ.out J m1 4 _ _ w7 HR15.out HR25.out);(refine Calls.mono hz ?_);clear hz;rintro e w8 ⟨rfl,hx8⟩;(have hy8:=hy7.trans hx8))|(go_at_call 11;(have hz:=HAL.out _ (HX1.out.trans hy6));(with_reducible refine Calls.mono hz ?_);clear hz;rintro e w7 ⟨rfl,hx7⟩;(have hy7:=hy6.trans hx7);(obtain ⟨q6_0_0,q6_0_1,q6_0_2,q6_0_3,q6_0_4,q6_0_5⟩:=HC.out _ hy7);(have hc1_7:=hc1_6.trans hx7);(obtain ⟨q6_1_0,q6_1_1,q6_1_2,q6_1_3,q6_1_4,q6_1_5,q6_1_6⟩:=HB3.out _ hc1_7);(have hc2_7:=hc2_6.trans hx7);(obtain ⟨q6_2_0,q6_2_1,q6_2_2,q6_2_3,q6_2_4,q6_2_5,q6_2_6⟩:=HB4.out _ hc2_7);clear q5_0_0 q5_0_1 q5_0_2 q5_0_3 q5_0_4 q5_0_5 q5_1_0 q5_1_1 q5_1_2 q5_1_3 q5_1_4 q5_1_5 q5_1_6 q5_2_0 q5_2_1 q5_2_2 q5_2_3 q5_2_4 q5_2_5 q5_2_6;(have HR15:=gd (HR14.out.ext hx7));(have HR25:=gd (HR24.out.ext hx7)))|(go_at_call 21;(have hz:=HYV.out _ (HX1.out.trans hy5));(with_reducible refine Calls.mono hz ?_);clear hz;rintro e w6 ⟨rfl,hx6⟩;(have HR14:=gd (HR13.out.ext hx6));(have HR24:=gd (HR23.out.ext hx6));(have hy6:=hy5.trans hx6);(obtain ⟨q5_0_0,q5_0_1,q5_0_2,q5_0_3,q5_0_4,q5_0_5⟩:=HC.out _ hy6);(have hc1_6:=hc1_5.trans hx6);(obtain ⟨q5_1_0,q5_1_1,q5_1_2,q5_1_3,q5_1_4,q5_1_5,q5_1_6⟩:=HB3.out _ hc1_6);(have hc2_6:=hc2_5.trans hx6);(obtain ⟨q5_2_0,q5_2_1,q5_2_2,q5_2_3,q5_2_4,q5_2_5,q5_2_6⟩:=HB4.out _ hc2_6);clear q4_0_0 q4_0_1 q4_0_2 q4_0_3 q4_0_4 q4_0_5 q4_1_0 q4_1_1 q4_1_2 q4_1_3 q4_1_4 q4_1_5 q4_1_6 q4_2_0 q4_2_1 q4_2_2 q4_2_3 q4_2_4 q4_2_5 q4_2_6)|(go_at_call 20;(have hz:=HYW.out _ (HX1.out.trans hy4));(with_reducible refine Calls.mono hz ?_);clear hz;rintro e w5 ⟨rfl,hx5⟩;(have HR13:=gd (HR12.out.ext hx5));(have HR23:=gd (HR2.out.ext hx5));(have hy5:=hy4.trans hx5);(obtain ⟨q4_0_0,q4_0_1,q4_0_2,q4_0_3,q4_0_4,q4_0_5⟩:=HC.out _ hy5);(have hc1_5:=hc1_4.trans hx5);(obtain ⟨q4_1_0,q4_1_1,q4_1_2,q4_1_3,q4_1_4,q4_1_5,q4_1_6⟩:=HB3.out _ hc1_5);(have hc2_5:=(Ext.refl (w4.alloc (.cells #[.int .i64 5,.bool false,.int .i64 0,.string ⟨#[]⟩,.slice none 0 0,.slice A2 n2 c2,.int .i64 0] 25))).trans hx5);(obtain ⟨q4_2_0,q4_2_1,q4_2_2,q4_2_3,q4_2_4,q4_2_5,q4_2_6⟩:=HB4.out _ hc2_5);clear q3_0_0 q3_0_1 q3_0_2 q3_0_3 q3_0_4 q3_0_5 q3_1_0 q3_1_1 q3_1_2 q3_1_3 q3_1_4 q3_1_5 q3_1_6 q3_2_0 q3_2_1 q3_2_2 q3_2_3 q3_2_4 q3_2_5 q3_2_6)|(go_at_call 19;(have hz:=HYR.out _ (HX1.out.trans hy3));(with_reducible refine Calls.mono hz ?_);clear hz;rintro e w4 ⟨⟨A2,n2,c2,rfl,hr2⟩,hx4⟩;(have hv4:Ext w4 (w4.alloc (.cells #[.int .i64 5,.bool false,.int .i64 0,.string ⟨#[]⟩,.slice none 0 0,.slice A2 n2 c2,.int .i64 0] 25)):=(Ext.refl _).alloc _);(have hb4:∀i v,(#[.int .i64 5,.bool false,.int .i64 0,.string ⟨#[]⟩,.slice none 0 0,.slice A2 n2 c2,.int .i64 0]:Array Value)[i]? =some v→(w4.alloc (.cells #[.int .i64 5,.bool false,.int .i64 0,.string ⟨#[]⟩,.slice none 0 0,.slice A2 n2 c2,.int .i64 0] 25)).cell? ⟨w4.heap.size,i,none⟩=some v:=fun i v h=>(Ext.refl (w4.alloc (.cells #[.int .i64 5,.bool false,.int .i64 0,.string ⟨#[]⟩,.slice none 0 0,.slice A2 n2 c2,.int .i64 0] 25))).boxed i v h);(have HB4:Hid (∀W':World,Ext (w4.alloc (.cells #[.int .i64 5,.bool false,.int .i64 0,.string ⟨#[]⟩,.slice none 0 0,.slice A2 n2 c2,.int .i64 0] 25)) W'→W'.cell? ⟨w4.heap.size,0,none⟩=some (.int .i64 5)∧W'.cell? ⟨w4.heap.size,1,none⟩=some (.bool false)∧W'.cell? ⟨w4.heap.size,2,none⟩=some (.int .i64 0)∧W'.cell? ⟨w4.heap.size,3,none⟩=some (.string ⟨#[]⟩)∧W'.cell? ⟨w4.heap.size,4,none⟩=some (.slice none 0 0)∧W'.cell? ⟨w4.heap.size,5,none⟩=some (.slice A2 n2 c2)∧W'.cell? ⟨w4.heap.size,6,none⟩=some (.int .i64 0)):=gd fun W' h=>⟨h.cell (hb4 0 _ rfl),h.cell (hb4 1 _ rfl),h.cell (hb4 2 _ rfl),h.cell (hb4 3 _ rfl),h.cell (hb4 4 _ rfl),h.cell (hb4 5 _ rfl),h.cell (hb4 6 _ rfl)⟩);clear hb4;(have hs4:=hx4.trans hv4);(have hy4:=hy3.trans hs4);(obtain ⟨q3_0_0,q3_0_1,q3_0_2,q3_0_3,q3_0_4,q3_0_5⟩:=HC.out _ hy4);(have hc1_4:=(Ext.refl (w3.alloc (.cells #[.int .i64 5,.bool false,.int .i64 0,.string ⟨#[]⟩,.slice none 0 0,.slice A1 n1 c1,.int .i64 0] 25))).trans hs4);(obtain ⟨q3_1_0,q3_1_1,q3_1_2,q3_1_3,q3_1_4,q3_1_5,q3_1_6⟩:=HB3.out _ hc1_4);clear q2_0_0 q2_0_1 q2_0_2 q2_0_3 q2_0_4 q2_0_5 q2_1_0 q2_1_1 q2_1_2 q2_1_3 q2_1_4 q2_1_5 q2_1_6;(obtain ⟨q3_2_0,q3_2_1,q3_2_2,q3_2_3,q3_2_4,q3_2_5,q3_2_6⟩:=HB4.out _ (Ext.refl (w4.alloc (.cells #[.int .i64 5,.bool false,.int .i64 0,.string ⟨#[]⟩,.slice none 0 0,.slice A2 n2 c2,.int .i64 0] 25))));(have HR2:=gd (hr2.ext hv4));(have HR12:=gd (HR1.out.ext (hx4.trans hv4)));clear hr2)|(go_at_call 18;(have hz:=HYE.out _ (HX1.out.trans hy2));(with_reducible refine Calls.mono hz ?_);clear hz;rintro e w3 ⟨⟨A1,n1,c1,m1,rfl,hr1⟩,hx3⟩;(have hv3:Ext w3 (w3.alloc (.cells #[.int .i64 5,.bool false,.int .i64 0,.string ⟨#[]⟩,.slice none 0 0,.slice A1 n1 c1,.int .i64 0] 25)):=(Ext.refl _).alloc _);(have hb3:∀i v,(#[.int .i64 5,.bool false,.int .i64 0,.string ⟨#[]⟩,.slice none 0 0,.slice A1 n1 c1,.int .i64 0]:Array Value)[i]? =some v→(w3.alloc (.cells #[.int .i64 5,.bool false,.int .i64 0,.string ⟨#[]⟩,.slice none 0 0,.slice A1 n1 c1,.int .i64 0] 25)).cell? ⟨w3.heap.size,i,none⟩=some v:=fun i v h=>(Ext.refl (w3.alloc (.cells #[.int .i64 5,.bool false,.int .i64 0,.string ⟨#[]⟩,.slice none 0 0,.slice A1 n1 c1,.int .i64 0] 25))).boxed i v h);(have HB3:Hid (∀W':World,Ext (w3.alloc (.cells #[.int .i64 5,.bool false,.int .i64 0,.string ⟨#[]⟩,.slice none 0 0,.slice A1 n1 c1,.int .i64 0] 25)) W'→W'.cell? ⟨w3.heap.size,0,none⟩=some (.int .i64 5)∧W'.cell? ⟨w3.heap.size,1,none⟩=some (.bool false)∧W'.cell? ⟨w3.heap.size,2,none⟩=some (.int .i64 0)∧W'.cell? ⟨w3.heap.size,3,none⟩=some (.string ⟨#[]⟩)∧W'.cell? ⟨w3.heap.size,4,none⟩=some (.slice none 0 0)∧W'.cell? ⟨w3.heap.size,5,none⟩=some (.slice A1 n1 c1)∧W'.cell? ⟨w3.heap.size,6,none⟩=some (.int .i64 0)):=gd fun W' h=>⟨h.cell (hb3 0 _ rfl),h.cell (hb3 1 _ rfl),h.cell (hb3 2 _ rfl),h.cell (hb3 3 _ rfl),h.cell (hb3 4 _ rfl),h.cell (hb3 5 _ rfl),h.cell (hb3 6 _ rfl)⟩);clear hb3;(have hs3:=hx3.trans hv3);(have hy3:=hy2.trans hs3);(obtain ⟨q2_0_0,q2_0_1,q2_0_2,q2_0_3,q2_0_4,q2_0_5⟩:=HC.out _ hy3);clear q1_0_0 q1_0_1 q1_0_2 q1_0_3 q1_0_4 q1_0_5;(obtain ⟨q2_1_0,q2_1_1,q2_1_2,q2_1_3,q2_1_4,q2_1_5,q2_1_6⟩:=HB3.out _ (Ext.refl (w3.alloc (.cells #[.int .i64 5,.bool false,.int .i64 0,.string ⟨#[]⟩,.slice none 0 0,.slice A1 n1 c1,.int .i64 0] 25))));(have HR1:=gd (hr1.ext hv3));clear hr1)|(go_at_call 17;(have hz:=HLP.out _ (HX1.out.trans (Ext.refl W1)));(with_reducible refine Calls.mono hz ?_);clear hz;rintro e w2 ⟨rfl,hx2⟩;(have hy2:=(Ext.refl W1).trans hx2);(obtain ⟨q1_0_0,q1_0_1,q1_0_2,q1_0_3,q1_0_4,q1_0_5⟩:=HC.out _ hy2);clear q0_0_0 q0_0_1 q0_0_2 q0_0_3 q0_0_4 q0_0_5))
  go_ret
  exact ⟨rfl,HX1.out.trans hy8⟩
end
abbrev laidAll : List (String × DataW Unit) := [("math/bits.deBruijn32tab", Rows.laid_math_bits_deBruijn32tab), ("math/bits.deBruijn64tab", Rows.laid_math_bits_deBruijn64tab), ("internal/strconv.uint64pow10", Rows.laid_internal_strconv_uint64pow10), ("unicode/utf8.acceptRanges", Rows.laid_unicode_utf8_acceptRanges), ("feedvault/jsonstring.letters", Rows.laid_feedvault_jsonstring_letters), ("unicode/utf8.first", Rows.laid_unicode_utf8_first)]
theorem laid_first:Rows.laid_unicode_utf8_first=Lib.firstData:=by kernel_rfl
theorem laid_accept:(Rows.laid_unicode_utf8_acceptRanges:DataW Unit)=Lib.acceptData:=by kernel_rfl
theorem laid_pow:(Rows.laid_internal_strconv_uint64pow10:DataW Unit)=Lib.tabData .u64 Lib.pow10Tab:=by kernel_rfl
theorem laid_let:(Rows.laid_feedvault_jsonstring_letters:DataW Unit)= .agg [.agg [.lit (.int .u8 98),.lit (.int .u8 8)],.agg [.lit (.int .u8 102),.lit (.int .u8 12)],.agg [.lit (.int .u8 110),.lit (.int .u8 10)],.agg [.lit (.int .u8 114),.lit (.int .u8 13)],.agg [.lit (.int .u8 116),.lit (.int .u8 9)]]:=rfl
theorem gLet : Tryz.prog.globalNamed "feedvault/jsonstring.letters" = some 3 := by kernel_rfl
theorem gDb : Tryz.prog.globalNamed "math/bits.deBruijn64tab" = some 5 := by kernel_rfl
theorem heap_of_var {P:Program} {W:World} {n:String} {g:Nat} {cs:Array Value} (hg:P.globalNamed n=some g) (h:W.var? P n=some cs):∃t fr,W.heap[g]? =some (.cells cs t fr):=by
 unfold World.var? at h
 rw[hg] at h
 simp only[Option.bind_some] at h
 split at h
 ·rename_i cs' t fr hh
  injection h with h
  subst h
  exact ⟨t,fr,hh⟩
 ·cases h
theorem list10 {α:Type} {l:List α} (h:l.length=10):∃a b c d e f g i j k,l= [a,b,c,d,e,f,g,i,j,k]:=by
 match l,h with
 | [a,b,c,d,e,f,g,i,j,k],_=>exact ⟨a,b,c,d,e,f,g,i,j,k,rfl⟩
theorem env_of_laid {W:World} (h:laidMet Tryz.prog laidAll W):Env W:=by
 have r5 := Lib.laidMet.reads h (n := "unicode/utf8.first") (.tail _ (.tail _ (.tail _ (.tail _ (.tail _ (.head _))))))
 have r3 := Lib.laidMet.reads h (n := "unicode/utf8.acceptRanges") (.tail _ (.tail _ (.tail _ (.head _))))
 have r2 := Lib.laidMet.reads h (n := "internal/strconv.uint64pow10") (.tail _ (.tail _ (.head _)))
 have r4 := Lib.laidMet.reads h (n := "feedvault/jsonstring.letters") (.tail _ (.tail _ (.tail _ (.tail _ (.head _)))))
 have r1 := Lib.laidMet.reads h (n := "math/bits.deBruijn64tab") (.tail _ (.head _))
 rw[laid_first] at r5
 rw[laid_accept] at r3
 rw[laid_pow] at r2
 rw[laid_let] at r4
 refine ⟨?_,?_,?_,?_⟩
 ·exact utf8Tabs_of_reads (ρ:=Tryz.lays197_ren) {Tryz.lays197 with} ⟨by kernel_rfl,by kernel_rfl,by kernel_rfl,by kernel_rfl,by kernel_rfl,by kernel_rfl,by kernel_rfl⟩ r5 r3
 ·obtain ⟨g,t,cs,fuel,p,hg,hty,hvar,hd⟩:=r2
  obtain rfl:=Option.some.inj (gPow.symm.trans hg)
  obtain rfl:=Option.some.inj ((show (Tryz.prog.globals[0]?).map (·.type)=some 231 by kernel_rfl).symm.trans hty)
  unfold Lib.TabIs
  rw[hvar,←Lib.cells_of_tab Tryz.underlying231 Tryz.underlying209 (by kernel_rfl) (by kernel_rfl) hd]
 ·obtain ⟨g,t,cs,fuel,p,hg,hty,hvar,hd⟩:=r1
  obtain rfl:=Option.some.inj (gDb.symm.trans hg)
  obtain ⟨t',fr,hh⟩:=heap_of_var gDb hvar
  have:=(Array.getElem?_eq_some_iff.1 hh).1
  omega
 ·obtain ⟨g,t,cs,fuel,p,hg,hty,hvar,hd⟩:=r4
  obtain rfl:=Option.some.inj (gLet.symm.trans hg)
  obtain rfl:=Option.some.inj ((show (Tryz.prog.globals[3]?).map (·.type)=some 259 by kernel_rfl).symm.trans hty)
  obtain ⟨t',fr,hh⟩:=heap_of_var gLet hvar
  have c2:Tryz.prog.cellsOf 258=2:=by kernel_rfl
  have c10:Tryz.prog.cellsOf 259=10:=by kernel_rfl
  obtain ⟨xs,m,hf,hx,hlen,hxl,hel⟩:=DataW.trod_array Tryz.underlying259 hd
  rw[c10] at hlen
  obtain ⟨l⟩:=cs
  obtain ⟨a,b,c,d,e,f,g,i,j,k,hl⟩:=list10 hlen
  have hl':l= [a,b,c,d,e,f,g,i,j,k]:=hl
  subst hl'
  have part:∀(q:Nat) (z1 z2:Int),q<5→
   ([.agg [.lit (.int .u8 98),.lit (.int .u8 8)],.agg [.lit (.int .u8 102),.lit (.int .u8 12)],.agg [.lit (.int .u8 110),.lit (.int .u8 10)],.agg [.lit (.int .u8 114),.lit (.int .u8 13)],.agg [.lit (.int .u8 116),.lit (.int .u8 9)]]:List (DataW Unit))[q]? =some (Lib.tabData .u8 [z1,z2])→
   (([a,b,c,d,e,f,g,i,j,k]:List Value).drop (q*2)).take 2= [.int .u8 z1,.int .u8 z2]:=by
   intro q z1 z2 hq hz
   obtain ⟨fuel',dd,pp,hdi,he⟩:=Lib.array_elem Tryz.underlying259 hd q hq
   obtain rfl:=Option.some.inj (hz.symm.trans hdi)
   rw[c2] at he
   have:=Lib.cells_of_tab Tryz.underlying258 Tryz.underlying5 (by kernel_rfl) c2 he
   simpa using this
  have p0:=part 0 98 8 (by decide) rfl
  have p1:=part 1 102 12 (by decide) rfl
  have p2:=part 2 110 10 (by decide) rfl
  have p3:=part 3 114 13 (by decide) rfl
  have p4:=part 4 116 9 (by decide) rfl
  simp at p0 p1 p2 p3 p4
  obtain ⟨rfl,rfl⟩:=p0
  obtain ⟨rfl,rfl⟩:=p1
  obtain ⟨rfl,rfl⟩:=p2
  obtain ⟨rfl,rfl⟩:=p3
  obtain ⟨rfl,rfl⟩:=p4
  exact ⟨t',fr,hh⟩
theorem own1:ownKnob Tryz.prog.godebug=none:=by kernel_rfl
theorem laidOut1:laidOutB Tryz.prog=true:=by kernel_rfl
section
theorem array5 {α:Type} {cs:Array α} (h:cs.size=5):∃c0 c1 c2 c3 c4,cs=#[c0,c1,c2,c3,c4]:=by
 obtain ⟨l⟩:=cs
 match l,h with
 | [c0,c1,c2,c3,c4],_=>exact ⟨c0,c1,c2,c3,c4,rfl⟩
instance openEnt:Inhabited Ent:=⟨zeroE⟩
theorem flat_getk {α:Type} {k:Nat} (hk:0<k):∀(css:List (List α)),(∀c∈css,c.length=k)→∀j,css.flatten[j]? =(css[j / k]?).bind fun c=>c[j % k]?
 | [],_,j=>by simp
 |c::t,h,j=>by
  have hc:c.length=k:=h c (by simp)
  rw[List.flatten_cons]
  by_cases hj:j<k
  ·rw[List.getElem?_append_left (by omega),Nat.div_eq_of_lt hj,Nat.mod_eq_of_lt hj]
   rfl
  ·rw[List.getElem?_append_right (by omega),hc,flat_getk hk t (fun x hx=>h x (by simp[hx]))]
   have e1:j / k=(j - k) / k+1:=by
    have:=Nat.div_eq_sub_div hk (show k≤j by omega)
    omega
   have e2:j % k=(j - k) % k:=Nat.mod_eq_sub_mod (by omega)
   rw[e1,e2,List.getElem?_cons_succ]
theorem rsl_of_cells {w:World} {k:Nat} (hk:0<k) {a:Addr} {len cap:Nat} (css:Nat→List Value) (hl:len≤cap) (hm:cap≤maxLen)
 (h:∀i,i<len→(css i).length=k∧∀j,j<k→w.cell? ((a.add (i*k)).add j)=(css i)[j]?):RSl w k (.slice (some a) len cap) len ((List.range len).map css).flatten:=by
 have hlens:∀c∈(List.range len).map css,c.length=k:=by
  intro c hc
  obtain ⟨i,hi,rfl⟩:=List.mem_map.1 hc
  exact (h i (List.mem_range.1 hi)).1
 refine ⟨?_,some a,cap,rfl,hl,hm,(fun e=>by cases e),fun j u hu=>⟨a,rfl,?_⟩⟩
 ·clear hm hl
  have key:∀(l:List (List Value)),(∀c∈l,c.length=k)→l.flatten.length=l.length*k:=by
   intro l
   induction l with
   |nil=>intro _;simp
   |cons c t ih=>
    intro h
    rw[List.flatten_cons,List.length_append,h c (by simp),ih fun x hx=>h x (by simp[hx]),List.length_cons,Nat.succ_mul]
    omega
  rw[key _ hlens]
  simp
 ·rw[flat_getk hk _ hlens] at hu
  by_cases hi:j / k<len
  ·have e:((List.range len).map css)[j / k]? =some (css (j / k)):=by simp[hi]
   rw[e] at hu
   have hu':(css (j / k))[j % k]? =some u:=hu
   have h2:=(h (j / k) hi).2 (j % k) (Nat.mod_lt _ hk)
   rw[addr_add2] at h2
   have e2:j / k*k+j % k=j:=by rw[Nat.mul_comm];exact Nat.div_add_mod j k
   rw[e2] at h2
   rw[h2,hu']
  ·have e:((List.range len).map css)[j / k]? =none:=by simp;omega
   rw[e] at hu
   cases hu
theorem mem_weightsAll {H:Type} {P:Program} {e:TypeId} {n:Nat}:∀{l:List (DataW H)} {d:DataW H},d∈l→n∈d.weights P e→n∈DataW.weightsAll P e l
 | [],_,h,_=>by simp at h
 |x::t,d,h,hn=>by
  unfold DataW.weightsAll
  rcases List.mem_cons.1 h with h|h
  ·subst h;exact List.mem_append_left _ hn
  ·exact List.mem_append_right _ (mem_weightsAll h hn)
section
variable {H:Type} {enc:TypeId×Value→H} {P:Program} {w:World} {base:Nat} {spare:Nat→Bool} {held:Bool}
theorem trod5 {t:TypeId} {f0 f1 f2 f3 f4:Field} {fuel:Nat} {cs:List Value} {x:DataW H×List MemPlace} (hs:P.underlying t=some (.struct #[f0,f1,f2,f3,f4])) (hone:oneCellFields P #[f0,f1,f2,f3,f4]=true) (hC:P.cellsOf t=5)
 (h:DataW.trod enc P w base spare held fuel t cs=some x):
 ∃(v0 v1 v2 v3 v4:Value) (y0 y1 y2 y3 y4:DataW H×List MemPlace) (n:Nat),cs= [v0,v1,v2,v3,v4]∧x.1= .agg [y0.1,y1.1,y2.1,y3.1,y4.1]∧
  DataW.trod enc P w base spare held n f0.type [v0]=some y0∧DataW.trod enc P w base spare held n f1.type [v1]=some y1∧DataW.trod enc P w base spare held n f2.type [v2]=some y2∧DataW.trod enc P w base spare held n f3.type [v3]=some y3∧DataW.trod enc P w base spare held n f4.type [v4]=some y4:=by
 obtain ⟨xs,n,_,hx,hl,hlen,hall⟩:=DataW.trod_struct hs h
 obtain ⟨o0,k0⟩:=hone_of hone 0 f0 rfl
 obtain ⟨o1,k1⟩:=hone_of hone 1 f1 rfl
 obtain ⟨o2,k2⟩:=hone_of hone 2 f2 rfl
 obtain ⟨o3,k3⟩:=hone_of hone 3 f3 rfl
 obtain ⟨o4,k4⟩:=hone_of hone 4 f4 rfl
 rw[hC] at hl
 obtain ⟨c0,c1,c2,c3,c4,hc⟩:=array5 (cs:=cs.toArray) (by simpa using hl)
 have hc:cs= [c0,c1,c2,c3,c4]:=by simpa using congrArg Array.toList hc
 subst hc
 match xs,hlen with
 | [y0,y1,y2,y3,y4],_=>
  exact ⟨c0,c1,c2,c3,c4,y0,y1,y2,y3,y4,n,rfl,by rw[hx];rfl,by simpa [Value.cells,o0,k0] using hall 0 f0 rfl,by simpa [Value.cells,o1,k1] using hall 1 f1 rfl,by simpa [Value.cells,o2,k2] using hall 2 f2 rfl,by simpa [Value.cells,o3,k3] using hall 3 f3 rfl,by simpa [Value.cells,o4,k4] using hall 4 f4 rfl⟩
theorem array6 {α:Type} {cs:Array α} (h:cs.size=6):∃c0 c1 c2 c3 c4 c5,cs=#[c0,c1,c2,c3,c4,c5]:=by
 obtain ⟨l⟩:=cs
 match l,h with
 | [c0,c1,c2,c3,c4,c5],_=>exact ⟨c0,c1,c2,c3,c4,c5,rfl⟩
theorem trod6 {t:TypeId} {f0 f1 f2 f3 f4 f5:Field} {fuel:Nat} {cs:List Value} {x:DataW H×List MemPlace} (hs:P.underlying t=some (.struct #[f0,f1,f2,f3,f4,f5])) (hone:oneCellFields P #[f0,f1,f2,f3,f4,f5]=true) (hC:P.cellsOf t=6)
 (h:DataW.trod enc P w base spare held fuel t cs=some x):
 ∃(v0 v1 v2 v3 v4 v5:Value) (y0 y1 y2 y3 y4 y5:DataW H×List MemPlace) (n:Nat),cs= [v0,v1,v2,v3,v4,v5]∧x.1= .agg [y0.1,y1.1,y2.1,y3.1,y4.1,y5.1]∧
  DataW.trod enc P w base spare held n f0.type [v0]=some y0∧DataW.trod enc P w base spare held n f1.type [v1]=some y1∧DataW.trod enc P w base spare held n f2.type [v2]=some y2∧DataW.trod enc P w base spare held n f3.type [v3]=some y3∧DataW.trod enc P w base spare held n f4.type [v4]=some y4∧DataW.trod enc P w base spare held n f5.type [v5]=some y5:=by
 obtain ⟨xs,n,_,hx,hl,hlen,hall⟩:=DataW.trod_struct hs h
 obtain ⟨o0,k0⟩:=hone_of hone 0 f0 rfl
 obtain ⟨o1,k1⟩:=hone_of hone 1 f1 rfl
 obtain ⟨o2,k2⟩:=hone_of hone 2 f2 rfl
 obtain ⟨o3,k3⟩:=hone_of hone 3 f3 rfl
 obtain ⟨o4,k4⟩:=hone_of hone 4 f4 rfl
 obtain ⟨o5,k5⟩:=hone_of hone 5 f5 rfl
 rw[hC] at hl
 obtain ⟨c0,c1,c2,c3,c4,c5,hc⟩:=array6 (cs:=cs.toArray) (by simpa using hl)
 have hc:cs= [c0,c1,c2,c3,c4,c5]:=by simpa using congrArg Array.toList hc
 subst hc
 match xs,hlen with
 | [y0,y1,y2,y3,y4,y5],_=>
  exact ⟨c0,c1,c2,c3,c4,c5,y0,y1,y2,y3,y4,y5,n,rfl,by rw[hx];rfl,by simpa [Value.cells,o0,k0] using hall 0 f0 rfl,by simpa [Value.cells,o1,k1] using hall 1 f1 rfl,by simpa [Value.cells,o2,k2] using hall 2 f2 rfl,by simpa [Value.cells,o3,k3] using hall 3 f3 rfl,by simpa [Value.cells,o4,k4] using hall 4 f4 rfl,by simpa [Value.cells,o5,k5] using hall 5 f5 rfl⟩
end
section
variable {H:Type} {enc:TypeId×Value→H} {P:Program} {w:World} {base:Nat} {spare:Nat→Bool} {held:Bool}
end
theorem i64_of_wf {n:Int} (h:(Lit.int .i64 n).wf=true):i64ok n:=by
 have h':(decide (IntKind.min .i64≤n) && decide (n≤IntKind.max .i64))=true:=h
 rw[Bool.and_eq_true] at h'
 exact ⟨of_decide_eq_true h'.1,of_decide_eq_true h'.2⟩
section
variable {H:Type} {enc:TypeId×Value→H} {w:World}
theorem open_ent {fuel:Nat} {cs:List Value} {x:DataW H×List MemPlace} (h:DataW.trod enc Tryz.prog w 0 (fun _=>true) true fuel 64 cs=some x):
 ∃e:Ent,cs=eCells e∧i64ok e.upd∧((∀n∈x.1.weights Tryz.prog 64,n≤reachBytes)→ewide e):=by
 obtain ⟨c0,c1,c2,c3,c4,y0,y1,y2,y3,y4,n,rfl,hx,k0,k1,k2,k3,k4⟩:=trod5 Tryz.underlying64 (by kernel_rfl) (by kernel_rfl) h
 obtain ⟨s0,e0,w0,b0⟩:=DataW.trod_string Tryz.underlying9 k0
 obtain ⟨s1,e1,w1,b1⟩:=DataW.trod_string Tryz.underlying9 k1
 obtain ⟨s2,e2,w2,b2⟩:=DataW.trod_string Tryz.underlying9 k2
 obtain ⟨s3,e3,w3,b3⟩:=DataW.trod_string Tryz.underlying9 k3
 obtain ⟨n4,e4,w4,b4⟩:=DataW.trod_int Tryz.underlying2 k4
 injection e0 with e0
 injection e1 with e1
 injection e2 with e2
 injection e3 with e3
 injection e4 with e4
 subst e0 e1 e2 e3 e4
 clear k0 k1 k2 k3 k4
 rw[w0,w1,w2,w3,w4] at hx
 refine ⟨⟨s0,s1,s2,s3,n4⟩,rfl,i64_of_wf b4,fun hw=> ?_⟩
 rw[hx] at hw
 simp[DataW.weightsEach,DataW.weights,Tryz.underlying64] at hw
 exact ⟨i64_of_wf b4,hw.1,hw.2.1,hw.2.2.1,hw.2.2.2⟩
theorem open_ents {fuel:Nat} {v:Value} {x:DataW H×List MemPlace} (h:DataW.trod enc Tryz.prog w 0 (fun _=>true) true fuel 30 [v]=some x):
 ∃l:List Ent,REnts w v l∧((∀n∈x.1.weights Tryz.prog 30,n≤reachBytes)→l.length≤reachBytes∧∀e∈l,ewide e):=by
 rcases open_slice Tryz.underlying30 h with ⟨hv,hx⟩|⟨a,len,cap,m,n,D,Pl,hv,_,hl,hm,hmm,hx,hel⟩
 ·injection hv with hv
  subst hv
  exact ⟨[],RSl.nil w 5,fun _=>⟨Nat.zero_le _,by simp⟩⟩
 ·injection hv with hv
  subst hv
  simp only[if_true] at hmm
  have hmm':=hmm.symm
  subst hmm'
  have hc:Tryz.prog.cellsOf 64=5:=by kernel_rfl
  have hby:Tryz.prog.bytesOf 64=72:=by kernel_rfl
  obtain ⟨E,hE⟩:=choose_lt (α:=Ent) (n:=len) (p:=fun i e=>(∀j,j<5→w.cell? ((a.add (i*5)).add j)=(eCells e)[j]?)∧((∀n∈(D i).weights Tryz.prog 64,n≤reachBytes)→ewide e)) (fun i hi=>by
   obtain ⟨cs',h1,h2⟩:=hel i (by omega)
   obtain ⟨e,rfl,_,hw⟩:=open_ent h2
   rw[hc] at h1
   obtain ⟨_,_,hcell⟩:=World.cells?_some h1
   exact ⟨e,hcell,hw⟩)
  refine ⟨(List.range len).map E,?_,fun hw=> ?_⟩
  ·have:=rsl_of_cells (w:=w) (k:=5) (by decide) (a:=a) (len:=len) (cap:=cap) (fun i=>eCells (E i)) hl hm (fun i hi=>⟨rfl,(hE i hi).1⟩)
   unfold REnts flatE
   rw[List.length_map,List.length_range,List.map_map]
   exact this
  ·rw[hx] at hw
   simp only[DataW.weights,Tryz.underlying30,hby,List.length_map,List.length_range] at hw
   refine ⟨?_,fun e he=> ?_⟩
   ·have:=hw _ (List.mem_cons_self ..)
    rw[List.length_map,List.length_range]
    omega
   ·obtain ⟨i,hi,rfl⟩:=List.mem_map.1 he
    have hi:=List.mem_range.1 hi
    refine (hE i hi).2 fun n hn=>hw n (List.mem_cons_of_mem _ (List.mem_append_left _ (mem_weightsAll (List.mem_map.2 ⟨i,List.mem_range.2 hi,rfl⟩) hn)))
theorem open_strsF {fuel:Nat} {v:Value} {x:DataW H×List MemPlace} (h:DataW.trod enc Tryz.prog w 0 (fun _=>true) true fuel 29 [v]=some x):
 ∃l:List ByteArray,RStrs w v l∧((∀n∈x.1.weights Tryz.prog 29,n≤reachBytes)→l.length≤reachBytes∧∀s∈l,s.size≤reachBytes):=by
 rcases open_strs Tryz.underlying29 Tryz.underlying9 (by kernel_rfl) h with ⟨hv,hx⟩|⟨a,len,cap,m,Sx,hv,_,hl,hm,hmm,hx,hel⟩
 ·injection hv with hv
  subst hv
  exact ⟨[],RSl.nil w 1,fun _=>⟨Nat.zero_le _,by simp⟩⟩
 ·injection hv with hv
  subst hv
  simp only[if_true] at hmm
  have hmm':=hmm.symm
  subst hmm'
  have hby:Tryz.prog.bytesOf 9=16:=by kernel_rfl
  refine ⟨(List.range len).map Sx,?_,fun hw=> ?_⟩
  ·have:=rsl_of_cells (w:=w) (k:=1) (by decide) (a:=a) (len:=len) (cap:=cap) (fun i=> [.string (Sx i)]) hl hm (fun i hi=>⟨rfl,fun j hj=>by
    have hj0:j=0:=by omega
    subst hj0
    rw[add_zero,Nat.mul_one]
    exact (hel i (by omega)).1⟩)
   unfold RStrs
   rw[List.length_map,List.length_range,List.map_map]
   have e:((List.range len).map fun i=> [Value.string (Sx i)]).flatten=(List.range len).map (Value.string∘Sx):=by
    generalize List.range len=r
    induction r with
    |nil=>rfl
    |cons i t ih=>simp[ih]
   rw[←e]
   exact this
  ·rw[hx] at hw
   simp only[DataW.weights,Tryz.underlying29,hby,List.length_map,List.length_range] at hw
   refine ⟨?_,fun s hs=> ?_⟩
   ·have:=hw _ (List.mem_cons_self ..)
    rw[List.length_map,List.length_range]
    omega
   ·obtain ⟨i,hi,rfl⟩:=List.mem_map.1 hs
    have:=hw (Sx i).size (List.mem_cons_of_mem _ (List.mem_append_left _ (mem_weightsAll (List.mem_map.2 ⟨i,hi,rfl⟩) (by simp[DataW.weights]))))
    exact this
theorem open_fd {fuel:Nat} {cs:List Value} {x:DataW H×List MemPlace} (h:DataW.trod enc Tryz.prog w 0 (fun _=>true) true fuel 32 cs=some x):
 ∃f:Fc,cs=cellsC f∧RdC w f∧((∀n∈x.1.weights Tryz.prog 32,n≤reachBytes)→fwide f.f):=by
 obtain ⟨c0,c1,c2,c3,c4,c5,y0,y1,y2,y3,y4,y5,n,rfl,hx,k0,k1,k2,k3,k4,k5⟩:=trod6 Tryz.underlying32 (by kernel_rfl) (by kernel_rfl) h
 obtain ⟨l0,r0,q0⟩:=open_strsF k0
 obtain ⟨s1,e1,w1,b1⟩:=DataW.trod_string Tryz.underlying9 k1
 obtain ⟨s2,e2,w2,b2⟩:=DataW.trod_string Tryz.underlying9 k2
 obtain ⟨s3,e3,w3,b3⟩:=DataW.trod_string Tryz.underlying9 k3
 obtain ⟨n4,e4,w4,b4⟩:=DataW.trod_int Tryz.underlying2 k4
 obtain ⟨l5,r5,q5⟩:=open_ents k5
 injection e1 with e1
 injection e2 with e2
 injection e3 with e3
 injection e4 with e4
 subst e1 e2 e3 e4
 clear k0 k1 k2 k3 k4 k5
 rw[w1,w2,w3,w4] at hx
 refine ⟨⟨c0,c5,⟨l0,s1,s2,s3,n4,l5⟩⟩,rfl,⟨r0,r5⟩,fun hw=> ?_⟩
 rw[hx] at hw
 simp only[DataW.weights,Tryz.underlying32,DataW.weightsEach,List.map_cons,List.map_nil,List.append_nil,List.nil_append] at hw
 have g0:=q0 fun n hn=>hw n (List.mem_append_left _ hn)
 have g5:=q5 fun n hn=>hw n (by simp[hn])
 have g1:s1.size≤reachBytes:=hw _ (by simp)
 have g2:s2.size≤reachBytes:=hw _ (by simp)
 have g3:s3.size≤reachBytes:=hw _ (by simp)
 exact ⟨i64_of_wf b4,g0.1,g0.2,g1,g2,g3,g5.1,g5.2⟩
end
end
theorem lifted19 (os:Os) (started:os.Started) (H:Type) (enc:TypeId×Value→H):
 ReturnsInHanded {} Tryz.checked os 4 .any (fun w args=>(Rows.jsonfeedEncodeMatchesReferenceSpec.pre enc Tryz.prog Tryz.f4 [] false w args∧laidMetH Tryz.prog laidAll w)∧sizedMet enc Tryz.prog Tryz.f4 (OpenSpec.ofChange Rows.jsonfeedEncodeMatchesReferenceSpec) false w args)
  (Rows.jsonfeedEncodeMatchesReferenceSpec.post enc Tryz.prog Tryz.f4 false true false false):=by
 refine returnsInHanded_of_change_and (C:=Tryz.checked) (X:=fun w _=>laidMetH Tryz.prog laidAll w) (fun _ _ _ hh h=>h.of_heap hh) own1 started (by kernel_rfl) Tryz.func4
  (ChangeSpec.witness_shaped (enc:=enc) (C:=Tryz.checked) (os:=os) (X:=fun w _=>laidMetH Tryz.prog laidAll w) false (World.laidAll Tryz.prog os laidAll) #[.agg #[.slice none 0 0,.string ⟨#[]⟩,.string ⟨#[]⟩,.string ⟨#[]⟩,.int .i64 0,.slice none 0 0]] 8 (World.laidAll_os _ _ _)
   (World.shaped_of_ZipB (by kernel_rfl) (by kernel_rfl)) (by kernel_rfl) (by kernel_rfl) (by kernel_rfl)
   (by rw[MakeChecks.laidMetH_plain _ _ _ (by kernel_rfl)];exact laidMet_laidAll _ (by kernel_rfl) (by kernel_rfl))) ?_
 intro W base args ds gs before hval0 hW hc hsz hL _
 have hval:∀(j:Nat) t v,Tryz.f4.params[j]? =some t→args[j]? =some v→Value.okWide Tryz.prog W .any base t v:=hval0
 have hW':=hW
 obtain ⟨p,q,hA0,hV,rfl,_,_⟩:=hW
 have hA:DataW.TrodAll enc Tryz.prog W 0 (fun _=>true) true Tryz.f4.params.toList args.toList ds p:=hA0
 rw[Tryz.params4] at hA hval
 obtain ⟨v0,d0,rfl,rfl,h0⟩:=trodAll_one hA
 obtain ⟨rfl,rfl⟩:=trodVars_none hV
 have h0k:=h0
 rw[MakeChecks.laidMetH_plain _ _ _ (by kernel_rfl)] at hL
 have hE:=env_of_laid hL
 have hwt:(DataW.weightsEach Tryz.prog [32] [d0]).all (· ≤reachBytes)=true:=by
  have h:=hsz
  rw[Tryz.params4] at h
  exact h
 have hwa:=List.all_eq_true.1 hwt
 have hw0:∀n∈d0.weights Tryz.prog 32,n≤reachBytes:=fun n hn=>of_decide_eq_true (hwa n (by simpa only[DataW.weightsEach,List.append_nil] using hn))
 clear hsz hwt hwa
 have hlt:∀x∈p,x.block<W.heap.size:=fun x hx=>by simpa using hW'.lt x (List.mem_append_left _ hx)
 obtain ⟨fuel0,hf0⟩:=h0
 obtain ⟨cs0,rfl,_⟩:=okWide_struct Tryz.underlying32 (hval 0 32 v0 rfl rfl)
 obtain ⟨x0,hcs0,hrd0,hwd0⟩:=open_fd (show DataW.trod enc Tryz.prog W 0 (fun _=>true) true fuel0 32 cs0.toList=some (d0,p) from hf0)
 have hcs0':cs0=(cellsC x0).toArray:=by rw[←hcs0]
 subst hcs0'
 refine (law19_any x0 W hE hrd0 (hwd0 hw0)).mono fun e W' ⟨he,hx⟩=> ?_
 subst he
 have hB:Below W.heap.size W W':=hx
 refine ⟨_,rfl,_,_,_,[],p,[],hW',?_,?_,?_,hB.frame _,fun h=>by cases h⟩
 ·exact trodAll_mk1 (shut_bool Tryz.underlying4 _)
 ·exact trodAll_mk1 (Below.trod laidOut1 (by kernel_rfl) (of_decide_eq_true (by kernel_rfl)) h0k hB hlt)
 ·rfl
end Go.Proofs.YthlnaldahkgjnaaGreatDoor
