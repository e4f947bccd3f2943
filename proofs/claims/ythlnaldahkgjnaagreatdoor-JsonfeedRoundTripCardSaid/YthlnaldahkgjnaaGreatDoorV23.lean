/- Parts of the proof: contracts and plain laws. -/
import Derived.Test.YthlnaldahkgjnaaGreatDoorV21
import Derived.Test.YthlnaldahkgjnaaGreatDoorV22
namespace Go.Proofs.YthlnaldahkgjnaaGreatDoor
open Go Go.RowKit Go.ChangeShapes Go.WideShapes Go.ChangeAt Go.Joins Go.Deep
set_option linter.unusedVariables false
set_option linter.unusedSimpArgs false
set_option maxRecDepth 100000
set_option maxHeartbeats 16000000
section
set_option linter.unusedSimpArgs false
theorem small_K {f:Fd} (h:¬5000<bigF f) (hf:okF f=true):wrF 5000 f∧f.ents.length≤10000:=by
 have h':bigH f+bigP f.path+bigEs f.ents≤5000:=by unfold bigF at h;omega
 have hh:bigH f≤5000:=by omega
 unfold bigH capN at hh
 refine ⟨okF_wr hf (fun s hs=> ?_) fun e he s hs=> ?_,?_⟩
 ·simp only[List.mem_cons,List.not_mem_nil,or_false] at hs
  rcases hs with rfl|rfl|rfl<;>omega
 ·have hb:=bigE_mem he
  have hc:bigE e≤5000:=by omega
  unfold bigE capN at hc
  unfold strsE at hs
  simp only[List.mem_cons,List.not_mem_nil,or_false] at hs
  rcases hs with rfl|rfl|rfl|rfl<;>omega
 ·have hl:=bigEs_len f.ents
  omega
theorem law20_any (x:Fc) (w:World) (hE:Env w) (hrx:RdC w x) (hwx:fwide x.f):
 Calls Tryz.prog 5 #[.agg (cellsC x).toArray] w fun e w'=>e= .returned (.bool true)∧Ext w w':=by
 have hbx:=bareC_rd hrx
 have hvx:=bareF_wide hwx
 have hpx:(bareF x.f).path= []:=rfl
 obtain ⟨xp,xes,⟨xpath,xid,xtitle,xlink,xupd,xents⟩⟩:=x
 obtain ⟨hx0,hx1⟩:=hrx
 unfold bareC bareF at hbx
 unfold bareF at hvx hpx
 dsimp only at hx0 hx1 hbx hvx hpx
 obtain ⟨xA,xc,rfl, -, -⟩:=hx0.form
 obtain ⟨xB,xd,rfl, -, -⟩:=hx1.form
 unfold cellsC fCells
 dsimp only
 have HAL:=gd (fun (W':World) (h:Ext w W')=>alive18_any W' (hE.ext h))
 obtain ⟨P,hP⟩:∃P:Fd,P=⟨[],xid,xtitle,xlink,xupd,xents⟩:=⟨_,rfl⟩
 have HLP:Hid (∀W':World,Ext w W'→Calls Tryz.prog 17 #[.agg #[.slice none 0 0,.string xid,.string xtitle,.string xlink,.int .i64 xupd,.slice xB xents.length xd]] W' fun e w2=>e= .returned (.bool (decide (5000<bigF P)))∧Ext W' w2):=gd fun W' h=>by rw[hP];exact large18_any ⟨.slice none 0 0,.slice xB xents.length xd,⟨[],xid,xtitle,xlink,xupd,xents⟩⟩ W' (hbx.ext h) hvx
 have hPp:P.path= []:=by rw[hP]
 have hnx0:fokS P→xents.length≤16777216:=fun h=>by have:=h.2.1;rw[hP] at this;exact Nat.le_trans this (by decide)
 have hsp:¬5000<bigF P→fokS P∧smallJ P:=fun h=>by rw[hP] at h⊢;exact small_J hvx h
 have HCP0:=gd (fun (hs:fokS P)=>(show ∀W':World,Ext w W'→Calls Tryz.prog 23 #[.agg #[.slice none 0 0,.string xid,.string xtitle,.string xlink,.int .i64 xupd,.slice xB xents.length xd]] W' fun e w2=>e= .returned (.int .i64 (if okF P=true then 0 else 22))∧Ext W' w2 from fun W' h=>by rw[hP] at hs⊢;exact refCheckF_any ⟨.slice none 0 0,.slice xB xents.length xd,⟨[],xid,xtitle,xlink,xupd,xents⟩⟩ W' (hbx.ext h) hs))
 have HWP0:=gd (fun (hs:fokS P∧smallJ P) (ho:okF P=true)=>(show ∀(W':World),Ext w W'→Calls Tryz.prog 20 #[.agg #[.slice none 0 0,.string xid,.string xtitle,.string xlink,.int .i64 xupd,.slice xB xents.length xd]] W' fun e w2=>e= .returned (.tuple #[.string (textF P),.int .i64 0])∧Ext W' w2 from fun W' h=>by rw[hP] at hs ho⊢;exact jfw_yes ⟨.slice none 0 0,.slice xB xents.length xd,⟨[],xid,xtitle,xlink,xupd,xents⟩⟩ W' (hE.ext h) (hbx.ext h) hs.1 (okJ_iff.2 ⟨ho,rfl⟩) hs.2))
 have HWG0:=gd (fun (hs:fokS P∧smallJ P) (ho:okF P=true)=>(show ∀(W':World) (A5:Option Addr) (c5:Nat) (B5:Option Addr) (d5:Nat),Ext w W'→RdC W' ⟨.slice A5 0 c5,.slice B5 xents.length d5,P⟩→Calls Tryz.prog 20 #[.agg #[.slice A5 0 c5,.string xid,.string xtitle,.string xlink,.int .i64 xupd,.slice B5 xents.length d5]] W' fun e w2=>e= .returned (.tuple #[.string (textF P),.int .i64 0])∧Ext W' w2 from fun W' A5 c5 B5 d5 h hr=>by rw[hP] at hs ho hr⊢;exact jfw_yes ⟨.slice A5 0 c5,.slice B5 xents.length d5,⟨[],xid,xtitle,xlink,xupd,xents⟩⟩ W' (hE.ext h) hr hs.1 (okJ_iff.2 ⟨ho,rfl⟩) hs.2))
 have HSM:Hid (∀(W':World) (A5:Option Addr) (c5:Nat) (B5:Option Addr) (d5:Nat),xents.length≤16777216→Ext w W'→RdC W' ⟨.slice A5 0 c5,.slice B5 xents.length d5,P⟩→Calls Tryz.prog 16 #[.agg #[.slice none 0 0,.string xid,.string xtitle,.string xlink,.int .i64 xupd,.slice xB xents.length xd],.agg #[.slice A5 0 c5,.string xid,.string xtitle,.string xlink,.int .i64 xupd,.slice B5 xents.length d5]] W' fun e w2=>e= .returned (.bool true)∧Ext W' w2):=gd fun W' A5 c5 B5 d5 hn h hr=>by rw[hP] at hr;have hz:=refSame_any ⟨.slice none 0 0,.slice xB xents.length xd,⟨[],xid,xtitle,xlink,xupd,xents⟩⟩ ⟨.slice A5 0 c5,.slice B5 xents.length d5,⟨[],xid,xtitle,xlink,xupd,xents⟩⟩ W' (hbx.ext h) hr (Nat.zero_le _) hn;rw[decide_eq_true rfl] at hz;exact hz
 have HRD0:=gd (fun (ho:okF P=true) (hw:wrF 5000 P∧P.ents.length≤10000) (hs:fokS P)=>(show ∀W':World,Ext w W'→Calls Tryz.prog 24 #[.string (textF P)] W' fun e w2=>(∃A5 c5 B5 d5,e= .returned (.tuple #[.agg #[.slice A5 0 c5,.string xid,.string xtitle,.string xlink,.int .i64 xupd,.slice B5 xents.length d5],.int .i64 0])∧RdC w2 ⟨.slice A5 0 c5,.slice B5 xents.length d5,P⟩)∧Ext W' w2 from fun W' h=>by
  obtain ⟨o,g1,g2,g3,g4,g5⟩:=back_law (by decide) (by decide) ho hPp hw.1 hw.2
  refine Calls.mono (read18_any 5000 (textF P) o W' (hE.ext h) g5 g1 g3 (by decide) (fun f hf=>by rw[g2] at hf;injection hf with hf;rw[←hf];exact hs) (by omega)) ?_
  rintro e w2 ⟨hr,hx2⟩
  refine ⟨?_,hx2⟩
  rw[g2] at hr
  obtain ⟨y,rfl,hy1,hy2⟩:=hr
  obtain ⟨yp,yes,yf⟩:=y
  dsimp only at hy1
  rw[(norm_ok ho).1] at hy1
  rw[(norm_ok ho).2]
  subst hy1
  rw[hP] at hy2⊢
  obtain ⟨r0,r1⟩:=hy2
  dsimp only at r0 r1
  obtain ⟨A5,c5,rfl, -, -⟩:=r0.form
  obtain ⟨B5,d5,rfl, -, -⟩:=r1.form
  exact ⟨A5,c5,B5,d5,rfl,r0,r1⟩))
 have HSK:Hid (¬5000<bigF P→okF P=true→wrF 5000 P∧P.ents.length≤10000):=gd fun h1 h2=>small_K h1 h2
 obtain ⟨W1,hW1⟩:∃W1,w.alloc (.cells #[.slice none 0 0,.string xid,.string xtitle,.string xlink,.int .i64 xupd,.slice xB xents.length xd] 32)=W1:=⟨_,rfl⟩
 have hx1':Ext w W1:=by rw[←hW1];exact (Ext.refl _).alloc _
 have hca:∀i v,(#[.slice none 0 0,.string xid,.string xtitle,.string xlink,.int .i64 xupd,.slice xB xents.length xd]:Array Value)[i]? =some v→W1.cell? ⟨w.heap.size,i,none⟩=some v:=fun i v h=>by rw[←hW1];exact (Ext.refl (w.alloc _)).boxed i v h
 have HC:Hid (∀W':World,Ext W1 W'→W'.cell? ⟨w.heap.size,0,none⟩=some (.slice none 0 0)∧W'.cell? ⟨w.heap.size,1,none⟩=some (.string xid)∧W'.cell? ⟨w.heap.size,2,none⟩=some (.string xtitle)∧W'.cell? ⟨w.heap.size,3,none⟩=some (.string xlink)∧W'.cell? ⟨w.heap.size,4,none⟩=some (.int .i64 xupd)∧W'.cell? ⟨w.heap.size,5,none⟩=some (.slice xB xents.length xd)):=gd fun W' h=>⟨h.cell (hca 0 _ rfl),h.cell (hca 1 _ rfl),h.cell (hca 2 _ rfl),h.cell (hca 3 _ rfl),h.cell (hca 4 _ rfl),h.cell (hca 5 _ rfl)⟩
 have HX1:=gd hx1'
 clear hx1' hca hbx hvx hpx hx0 hx1 hE hwx hP
 by_cases h1:5000<bigF P
 ·simp only[decide_eq_true h1] at HLP
  clear h1 hsp hPp hnx0 HCP0 HWP0 HWG0 HSM HRD0 HSK
  obtain ⟨q0_0_0,q0_0_1,q0_0_2,q0_0_3,q0_0_4,q0_0_5⟩:=HC.out _ (Ext.refl W1)
  go_enter Tryz.func5,Tryz.ntmps5
  go_wp2_with (first|(go_at_call 11;(have hz:=HAL.out _ (HX1.out.trans hy2));(with_reducible refine Calls.mono hz ?_);clear hz;rintro e w3 ⟨rfl,hx3⟩;(have hy3:=hy2.trans hx3))|(go_at_call 17;(have hz:=HLP.out _ (HX1.out.trans (Ext.refl W1)));(with_reducible refine Calls.mono hz ?_);clear hz;rintro e w2 ⟨rfl,hx2⟩;(have hy2:=(Ext.refl W1).trans hx2);(obtain ⟨q1_0_0,q1_0_1,q1_0_2,q1_0_3,q1_0_4,q1_0_5⟩:=HC.out _ hy2);clear q0_0_0 q0_0_1 q0_0_2 q0_0_3 q0_0_4 q0_0_5))
  go_ret
  exact ⟨rfl,HX1.out.trans hy3⟩
 have hsp:=hsp h1
 simp only[decide_eq_false h1] at HLP
 have HCP:=gd (HCP0.out hsp.1)
 have hnx:=hnx0 hsp.1
 by_cases h3:okF P=true
 case neg=>
  simp only[if_neg h3] at HCP
  clear h1 h3 hsp hPp hnx0 hnx HCP0 HWP0 HWG0 HSM HRD0 HSK
  obtain ⟨q0_0_0,q0_0_1,q0_0_2,q0_0_3,q0_0_4,q0_0_5⟩:=HC.out _ (Ext.refl W1)
  go_enter Tryz.func5,Tryz.ntmps5
  go_wp2_with (first|(go_at_call 11;(have hz:=HAL.out _ (HX1.out.trans hy3));(with_reducible refine Calls.mono hz ?_);clear hz;rintro e w4 ⟨rfl,hx4⟩;(have hy4:=hy3.trans hx4))|(go_at_call 23;(have hz:=HCP.out _ (HX1.out.trans hy2));(with_reducible refine Calls.mono hz ?_);clear hz;rintro e w3 ⟨rfl,hx3⟩;(have hy3:=hy2.trans hx3);(obtain ⟨q2_0_0,q2_0_1,q2_0_2,q2_0_3,q2_0_4,q2_0_5⟩:=HC.out _ hy3);clear q1_0_0 q1_0_1 q1_0_2 q1_0_3 q1_0_4 q1_0_5)|(go_at_call 17;(have hz:=HLP.out _ (HX1.out.trans (Ext.refl W1)));(with_reducible refine Calls.mono hz ?_);clear hz;rintro e w2 ⟨rfl,hx2⟩;(have hy2:=(Ext.refl W1).trans hx2);(obtain ⟨q1_0_0,q1_0_1,q1_0_2,q1_0_3,q1_0_4,q1_0_5⟩:=HC.out _ hy2);clear q0_0_0 q0_0_1 q0_0_2 q0_0_3 q0_0_4 q0_0_5))
  go_ret
  exact ⟨rfl,HX1.out.trans hy4⟩
 simp only[if_pos h3] at HCP
 have HWP:=gd (HWP0.out hsp h3)
 have HWG:=gd (HWG0.out hsp h3)
 have HRD:=gd (HRD0.out h3 (HSK.out h1 h3) hsp.1)
 have HSM2:=gd (fun (W':World) (A5:Option Addr) (c5:Nat) (B5:Option Addr) (d5:Nat)=>HSM.out W' A5 c5 B5 d5 hnx)
 obtain ⟨T,hT⟩:∃T,textF P=T:=⟨_,rfl⟩
 rw[hT] at HWP HRD
 simp only[hT] at HWG
 clear h1 h3 hsp hPp hnx0 hnx HCP0 HWP0 HWG0 HSM HRD0 HSK hT
 obtain ⟨q0_0_0,q0_0_1,q0_0_2,q0_0_3,q0_0_4,q0_0_5⟩:=HC.out _ (Ext.refl W1)
 go_enter Tryz.func5,Tryz.ntmps5
 go_wp2_with (first|(go_at_call 16;(have hz:=HSM2.out _ A5 c5 B5 d5 (HX1.out.trans hy7) HR6.out);(with_reducible refine Calls.mono hz ?_);clear hz;rintro e w8 ⟨rfl,hx8⟩;(have hy8:=hy7.trans hx8))|(go_at_call 11;(have hz:=HAL.out _ (HX1.out.trans hy6));(with_reducible refine Calls.mono hz ?_);clear hz;rintro e w7 ⟨rfl,hx7⟩;(have hy7:=hy6.trans hx7);(obtain ⟨q6_0_0,q6_0_1,q6_0_2,q6_0_3,q6_0_4,q6_0_5⟩:=HC.out _ hy7);(have hc1_7:=hc1_6.trans hx7);(obtain ⟨q6_1_0,q6_1_1,q6_1_2,q6_1_3,q6_1_4,q6_1_5⟩:=HB5.out _ hc1_7);clear q5_0_0 q5_0_1 q5_0_2 q5_0_3 q5_0_4 q5_0_5 q5_1_0 q5_1_1 q5_1_2 q5_1_3 q5_1_4 q5_1_5;(have HR6:=gd (HR5.out.ext hx7)))|(go_at_call 20;(have hz:=HWG.out _ A5 c5 B5 d5 (HX1.out.trans hy5) HR4.out);(with_reducible refine Calls.mono hz ?_);clear hz;rintro e w6 ⟨rfl,hx6⟩;(have HR5:=gd (HR4.out.ext hx6));(have hy6:=hy5.trans hx6);(obtain ⟨q5_0_0,q5_0_1,q5_0_2,q5_0_3,q5_0_4,q5_0_5⟩:=HC.out _ hy6);(have hc1_6:=(Ext.refl W5).trans hx6);(obtain ⟨q5_1_0,q5_1_1,q5_1_2,q5_1_3,q5_1_4,q5_1_5⟩:=HB5.out _ hc1_6);clear q4_0_0 q4_0_1 q4_0_2 q4_0_3 q4_0_4 q4_0_5 q4_1_0 q4_1_1 q4_1_2 q4_1_3 q4_1_4 q4_1_5)|(go_at_call 24;(have hz:=HRD.out _ (HX1.out.trans hy4));(with_reducible refine Calls.mono hz ?_);clear hz;rintro e w5 ⟨⟨A5,c5,B5,d5,rfl,hrd⟩,hx5⟩;(obtain ⟨W5,hW5⟩:∃W0,w5.alloc (.cells #[.slice A5 0 c5,.string xid,.string xtitle,.string xlink,.int .i64 xupd,.slice B5 xents.length d5] 32)=W0:=⟨_,rfl⟩);(have hv5:Ext w5 W5:=by rw[←hW5];exact (Ext.refl _).alloc _);(have hb5:∀i v,(#[.slice A5 0 c5,.string xid,.string xtitle,.string xlink,.int .i64 xupd,.slice B5 xents.length d5]:Array Value)[i]? =some v→W5.cell? ⟨w5.heap.size,i,none⟩=some v:=fun i v h=>by rw[←hW5];exact (Ext.refl (w5.alloc _)).boxed i v h);(have HB5:Hid (∀W':World,Ext W5 W'→W'.cell? ⟨w5.heap.size,0,none⟩=some (.slice A5 0 c5)∧W'.cell? ⟨w5.heap.size,1,none⟩=some (.string xid)∧W'.cell? ⟨w5.heap.size,2,none⟩=some (.string xtitle)∧W'.cell? ⟨w5.heap.size,3,none⟩=some (.string xlink)∧W'.cell? ⟨w5.heap.size,4,none⟩=some (.int .i64 xupd)∧W'.cell? ⟨w5.heap.size,5,none⟩=some (.slice B5 xents.length d5)):=gd fun W' h=>⟨h.cell (hb5 0 _ rfl),h.cell (hb5 1 _ rfl),h.cell (hb5 2 _ rfl),h.cell (hb5 3 _ rfl),h.cell (hb5 4 _ rfl),h.cell (hb5 5 _ rfl)⟩);clear hb5;(have hs5:=hx5.trans hv5);(have hy5:=hy4.trans hs5);(obtain ⟨q4_0_0,q4_0_1,q4_0_2,q4_0_3,q4_0_4,q4_0_5⟩:=HC.out _ hy5);clear q3_0_0 q3_0_1 q3_0_2 q3_0_3 q3_0_4 q3_0_5;(obtain ⟨q4_1_0,q4_1_1,q4_1_2,q4_1_3,q4_1_4,q4_1_5⟩:=HB5.out _ (Ext.refl W5));(have HR4:=gd (hrd.ext hv5));clear hrd)|(go_at_call 20;(have hz:=HWP.out _ (HX1.out.trans hy3));(with_reducible refine Calls.mono hz ?_);clear hz;rintro e w4 ⟨rfl,hx4⟩;(have hy4:=hy3.trans hx4);(obtain ⟨q3_0_0,q3_0_1,q3_0_2,q3_0_3,q3_0_4,q3_0_5⟩:=HC.out _ hy4);clear q2_0_0 q2_0_1 q2_0_2 q2_0_3 q2_0_4 q2_0_5)|(go_at_call 23;(have hz:=HCP.out _ (HX1.out.trans hy2));(with_reducible refine Calls.mono hz ?_);clear hz;rintro e w3 ⟨rfl,hx3⟩;(have hy3:=hy2.trans hx3);(obtain ⟨q2_0_0,q2_0_1,q2_0_2,q2_0_3,q2_0_4,q2_0_5⟩:=HC.out _ hy3);clear q1_0_0 q1_0_1 q1_0_2 q1_0_3 q1_0_4 q1_0_5)|(go_at_call 17;(have hz:=HLP.out _ (HX1.out.trans (Ext.refl W1)));(with_reducible refine Calls.mono hz ?_);clear hz;rintro e w2 ⟨rfl,hx2⟩;(have hy2:=(Ext.refl W1).trans hx2);(obtain ⟨q1_0_0,q1_0_1,q1_0_2,q1_0_3,q1_0_4,q1_0_5⟩:=HC.out _ hy2);clear q0_0_0 q0_0_1 q0_0_2 q0_0_3 q0_0_4 q0_0_5))
 go_ret
 exact ⟨rfl,HX1.out.trans hy8⟩
end
theorem lifted20 (os:Os) (started:os.Started) (H:Type) (enc:TypeId×Value→H):
 ReturnsInHanded {} Tryz.checked os 5 .any (fun w args=>(Rows.jsonfeedRoundTripSpec.pre enc Tryz.prog Tryz.f5 [] false w args∧laidMetH Tryz.prog laidAll w)∧sizedMet enc Tryz.prog Tryz.f5 (OpenSpec.ofChange Rows.jsonfeedRoundTripSpec) false w args)
  (Rows.jsonfeedRoundTripSpec.post enc Tryz.prog Tryz.f5 false true false false):=by
 refine returnsInHanded_of_change_and (C:=Tryz.checked) (X:=fun w _=>laidMetH Tryz.prog laidAll w) (fun _ _ _ hh h=>h.of_heap hh) own1 started (by kernel_rfl) Tryz.func5
  (ChangeSpec.witness_shaped (enc:=enc) (C:=Tryz.checked) (os:=os) (X:=fun w _=>laidMetH Tryz.prog laidAll w) false (World.laidAll Tryz.prog os laidAll) #[.agg #[.slice none 0 0,.string ⟨#[]⟩,.string ⟨#[]⟩,.string ⟨#[]⟩,.int .i64 0,.slice none 0 0]] 8 (World.laidAll_os _ _ _)
   (World.shaped_of_ZipB (by kernel_rfl) (by kernel_rfl)) (by kernel_rfl) (by kernel_rfl) (by kernel_rfl)
   (by rw[MakeChecks.laidMetH_plain _ _ _ (by kernel_rfl)];exact laidMet_laidAll _ (by kernel_rfl) (by kernel_rfl))) ?_
 intro W base args ds gs before hval0 hW hc hsz hL _
 have hval:∀(j:Nat) t v,Tryz.f5.params[j]? =some t→args[j]? =some v→Value.okWide Tryz.prog W .any base t v:=hval0
 have hW':=hW
 obtain ⟨p,q,hA0,hV,rfl,_,_⟩:=hW
 have hA:DataW.TrodAll enc Tryz.prog W 0 (fun _=>true) true Tryz.f5.params.toList args.toList ds p:=hA0
 rw[Tryz.params5] at hA hval
 obtain ⟨v0,d0,rfl,rfl,h0⟩:=trodAll_one hA
 obtain ⟨rfl,rfl⟩:=trodVars_none hV
 have h0k:=h0
 rw[MakeChecks.laidMetH_plain _ _ _ (by kernel_rfl)] at hL
 have hE:=env_of_laid hL
 have hwt:(DataW.weightsEach Tryz.prog [32] [d0]).all (· ≤reachBytes)=true:=by
  have h:=hsz
  rw[Tryz.params5] at h
  exact h
 have hwa:=List.all_eq_true.1 hwt
 have hw0:∀n∈d0.weights Tryz.prog 32,n≤reachBytes:=fun n hn=>of_decide_eq_true (hwa n (by simpa only[DataW.weightsEach,List.append_nil] using hn))
 clear hsz hwt hwa
 have hlt:∀x∈p,x.block<W.heap.size:=fun x hx=>by simpa using hW'.lt x (List.mem_append_left _ hx)
 obtain ⟨fuel0,hf0⟩:=h0
 obtain ⟨cs0,rfl,_⟩:=okWide_struct Tryz.underlying32 (hval 0 32 v0 rfl rfl)
 obtain ⟨x0,hcs0,hrd0,hwd0⟩:=open_fd (show DataW.trod enc Tryz.prog W 0 (fun _=>true) true fuel0 32 cs0.toList=some (d0,p) from hf0)
 have hcs0':cs0=(cellsC x0).toArray:=by rw[←hcs0]
 subst hcs0'
 refine (law20_any x0 W hE hrd0 (hwd0 hw0)).mono fun e W' ⟨he,hx⟩=> ?_
 subst he
 have hB:Below W.heap.size W W':=hx
 refine ⟨_,rfl,_,_,_,[],p,[],hW',?_,?_,?_,hB.frame _,fun h=>by cases h⟩
 ·exact trodAll_mk1 (shut_bool Tryz.underlying4 _)
 ·exact trodAll_mk1 (Below.trod laidOut1 (by kernel_rfl) (of_decide_eq_true (by kernel_rfl)) h0k hB hlt)
 ·rfl
end Go.Proofs.YthlnaldahkgjnaaGreatDoor
