/- Parts of the proof: contracts and plain laws. -/
import Derived.Test.YthlnaldahkgjnaaGreatDoorV21
namespace Go.Proofs.YthlnaldahkgjnaaGreatDoor
open Go Go.RowKit Go.ChangeShapes Go.WideShapes Go.ChangeAt Go.Joins Go.Deep
set_option linter.unusedVariables false
set_option linter.unusedSimpArgs false
set_option maxRecDepth 100000
set_option maxHeartbeats 16000000
section
set_option linter.unusedSimpArgs false
theorem enc_inj {f g:Fd} (hf:okF f=true) (hg:okF g=true) (hp:f.path= []) (hq:g.path= []):jtext (encJ f)=jtext (encJ g)↔f=g:=by
 constructor
 ·intro h
  obtain ⟨o,h1, -,h3⟩:=enc_back hf hp
  obtain ⟨u,k1, -,k3⟩:=enc_back hg hq
  rw[h,k1] at h1
  injection h1 with h1
  rw[h1,h3] at k3
  injection k3
 ·rintro rfl;rfl
end
section
set_option linter.unusedSimpArgs false
theorem strs_beq21 (a b:List UInt8):((str a).toList==(str b).toList)=decide (a=b):=by rw[str_beq,str_list]
theorem law21_any (x y:Fc) (w:World) (hE:Env w) (hrx:RdC w x) (hwx:fwide x.f) (hry:RdC w y) (hwy:fwide y.f):
 Calls Tryz.prog 6 #[.agg (cellsC x).toArray,.agg (cellsC y).toArray] w fun e w'=>e= .returned (.bool true)∧Ext w w':=by
 have hbx:=bareC_rd hrx
 have hby:=bareC_rd hry
 have hvx:=bareF_wide hwx
 have hvy:=bareF_wide hwy
 have hpx:(bareF x.f).path= []:=rfl
 have hpy:(bareF y.f).path= []:=rfl
 obtain ⟨xp,xes,⟨xpath,xid,xtitle,xlink,xupd,xents⟩⟩:=x
 obtain ⟨yp,yes,⟨ypath,yid,ytitle,ylink,yupd,yents⟩⟩:=y
 obtain ⟨hx0,hx1⟩:=hrx
 obtain ⟨hy0,hy1⟩:=hry
 unfold bareC bareF at hbx hby
 unfold bareF at hvx hvy hpx hpy
 dsimp only at hx0 hx1 hy0 hy1 hbx hby hvx hvy hpx hpy
 obtain ⟨xA,xc,rfl, -, -⟩:=hx0.form
 obtain ⟨xB,xd,rfl, -, -⟩:=hx1.form
 obtain ⟨yA,yc,rfl, -, -⟩:=hy0.form
 obtain ⟨yB,yd,rfl, -, -⟩:=hy1.form
 unfold cellsC fCells
 dsimp only
 have HAL:=gd (fun (W':World) (h:Ext w W')=>alive18_any W' (hE.ext h))
 obtain ⟨P,hP⟩:∃P:Fd,P=⟨[],xid,xtitle,xlink,xupd,xents⟩:=⟨_,rfl⟩
 obtain ⟨Q,hQ⟩:∃Q:Fd,Q=⟨[],yid,ytitle,ylink,yupd,yents⟩:=⟨_,rfl⟩
 have HLP:Hid (∀W':World,Ext w W'→Calls Tryz.prog 17 #[.agg #[.slice none 0 0,.string xid,.string xtitle,.string xlink,.int .i64 xupd,.slice xB xents.length xd]] W' fun e w2=>e= .returned (.bool (decide (5000<bigF P)))∧Ext W' w2):=gd fun W' h=>by rw[hP];exact large18_any ⟨.slice none 0 0,.slice xB xents.length xd,⟨[],xid,xtitle,xlink,xupd,xents⟩⟩ W' (hbx.ext h) hvx
 have HLQ:Hid (∀W':World,Ext w W'→Calls Tryz.prog 17 #[.agg #[.slice none 0 0,.string yid,.string ytitle,.string ylink,.int .i64 yupd,.slice yB yents.length yd]] W' fun e w2=>e= .returned (.bool (decide (5000<bigF Q)))∧Ext W' w2):=gd fun W' h=>by rw[hQ];exact large18_any ⟨.slice none 0 0,.slice yB yents.length yd,⟨[],yid,ytitle,ylink,yupd,yents⟩⟩ W' (hby.ext h) hvy
 have hPp:P.path= []:=by rw[hP]
 have hQp:Q.path= []:=by rw[hQ]
 have hnx0:fokS P→xents.length≤16777216:=fun h=>by have:=h.2.1;rw[hP] at this;exact Nat.le_trans this (by decide)
 have hsp:¬5000<bigF P→fokS P∧smallJ P:=fun h=>by rw[hP] at h⊢;exact small_J hvx h
 have hsq:¬5000<bigF Q→fokS Q∧smallJ Q:=fun h=>by rw[hQ] at h⊢;exact small_J hvy h
 have HCP0:=gd (fun (hs:fokS P)=>(show ∀W':World,Ext w W'→Calls Tryz.prog 23 #[.agg #[.slice none 0 0,.string xid,.string xtitle,.string xlink,.int .i64 xupd,.slice xB xents.length xd]] W' fun e w2=>e= .returned (.int .i64 (if okF P=true then 0 else 22))∧Ext W' w2 from fun W' h=>by rw[hP] at hs⊢;exact refCheckF_any ⟨.slice none 0 0,.slice xB xents.length xd,⟨[],xid,xtitle,xlink,xupd,xents⟩⟩ W' (hbx.ext h) hs))
 have HCQ0:=gd (fun (hs:fokS Q)=>(show ∀W':World,Ext w W'→Calls Tryz.prog 23 #[.agg #[.slice none 0 0,.string yid,.string ytitle,.string ylink,.int .i64 yupd,.slice yB yents.length yd]] W' fun e w2=>e= .returned (.int .i64 (if okF Q=true then 0 else 22))∧Ext W' w2 from fun W' h=>by rw[hQ] at hs⊢;exact refCheckF_any ⟨.slice none 0 0,.slice yB yents.length yd,⟨[],yid,ytitle,ylink,yupd,yents⟩⟩ W' (hby.ext h) hs))
 have HWP0:=gd (fun (hs:fokS P∧smallJ P) (ho:okF P=true)=>(show ∀W':World,Ext w W'→Calls Tryz.prog 20 #[.agg #[.slice none 0 0,.string xid,.string xtitle,.string xlink,.int .i64 xupd,.slice xB xents.length xd]] W' fun e w2=>e= .returned (.tuple #[.string (textF P),.int .i64 0])∧Ext W' w2 from fun W' h=>by rw[hP] at hs ho⊢;exact jfw_yes ⟨.slice none 0 0,.slice xB xents.length xd,⟨[],xid,xtitle,xlink,xupd,xents⟩⟩ W' (hE.ext h) (hbx.ext h) hs.1 (okJ_iff.2 ⟨ho,rfl⟩) hs.2))
 have HWQ0:=gd (fun (hs:fokS Q∧smallJ Q) (ho:okF Q=true)=>(show ∀W':World,Ext w W'→Calls Tryz.prog 20 #[.agg #[.slice none 0 0,.string yid,.string ytitle,.string ylink,.int .i64 yupd,.slice yB yents.length yd]] W' fun e w2=>e= .returned (.tuple #[.string (textF Q),.int .i64 0])∧Ext W' w2 from fun W' h=>by rw[hQ] at hs ho⊢;exact jfw_yes ⟨.slice none 0 0,.slice yB yents.length yd,⟨[],yid,ytitle,ylink,yupd,yents⟩⟩ W' (hE.ext h) (hby.ext h) hs.1 (okJ_iff.2 ⟨ho,rfl⟩) hs.2))
 have HSM:Hid (∀W':World,xents.length≤16777216→Ext w W'→Calls Tryz.prog 16 #[.agg #[.slice none 0 0,.string xid,.string xtitle,.string xlink,.int .i64 xupd,.slice xB xents.length xd],.agg #[.slice none 0 0,.string yid,.string ytitle,.string ylink,.int .i64 yupd,.slice yB yents.length yd]] W' fun e w2=>e= .returned (.bool (decide (P=Q)))∧Ext W' w2):=gd fun W' hn h=>by rw[hP,hQ];exact refSame_any ⟨.slice none 0 0,.slice xB xents.length xd,⟨[],xid,xtitle,xlink,xupd,xents⟩⟩ ⟨.slice none 0 0,.slice yB yents.length yd,⟨[],yid,ytitle,ylink,yupd,yents⟩⟩ W' (hbx.ext h) (hby.ext h) (Nat.zero_le _) hn
 obtain ⟨W1,hW1⟩:∃W1,(w.alloc (.cells #[.slice none 0 0,.string xid,.string xtitle,.string xlink,.int .i64 xupd,.slice xB xents.length xd] 32)).alloc (.cells #[.slice none 0 0,.string yid,.string ytitle,.string ylink,.int .i64 yupd,.slice yB yents.length yd] 32)=W1:=⟨_,rfl⟩
 have hx1':Ext w W1:=by rw[←hW1];exact ((Ext.refl _).alloc _).alloc _
 have hca:∀i v,(#[.slice none 0 0,.string xid,.string xtitle,.string xlink,.int .i64 xupd,.slice xB xents.length xd]:Array Value)[i]? =some v→W1.cell? ⟨w.heap.size,i,none⟩=some v:=fun i v h=>by rw[←hW1];exact ((Ext.refl (w.alloc _)).alloc _).boxed i v h
 have hcb:∀i v,(#[.slice none 0 0,.string yid,.string ytitle,.string ylink,.int .i64 yupd,.slice yB yents.length yd]:Array Value)[i]? =some v→W1.cell? ⟨w.heap.size+1,i,none⟩=some v:=fun i v h=>by
  rw[←hW1]
  have:=Ext.boxed (w:=w.alloc (.cells #[.slice none 0 0,.string xid,.string xtitle,.string xlink,.int .i64 xupd,.slice xB xents.length xd] 32)) (Ext.refl ((w.alloc (.cells #[.slice none 0 0,.string xid,.string xtitle,.string xlink,.int .i64 xupd,.slice xB xents.length xd] 32)).alloc (.cells #[.slice none 0 0,.string yid,.string ytitle,.string ylink,.int .i64 yupd,.slice yB yents.length yd] 32))) i v h
  rw[size_alloc] at this
  exact this
 have HC:Hid (∀W':World,Ext W1 W'→W'.cell? ⟨w.heap.size,0,none⟩=some (.slice none 0 0)∧W'.cell? ⟨w.heap.size,1,none⟩=some (.string xid)∧W'.cell? ⟨w.heap.size,2,none⟩=some (.string xtitle)∧W'.cell? ⟨w.heap.size,3,none⟩=some (.string xlink)∧W'.cell? ⟨w.heap.size,4,none⟩=some (.int .i64 xupd)∧W'.cell? ⟨w.heap.size,5,none⟩=some (.slice xB xents.length xd)∧W'.cell? ⟨w.heap.size+1,0,none⟩=some (.slice none 0 0)∧W'.cell? ⟨w.heap.size+1,1,none⟩=some (.string yid)∧W'.cell? ⟨w.heap.size+1,2,none⟩=some (.string ytitle)∧W'.cell? ⟨w.heap.size+1,3,none⟩=some (.string ylink)∧W'.cell? ⟨w.heap.size+1,4,none⟩=some (.int .i64 yupd)∧W'.cell? ⟨w.heap.size+1,5,none⟩=some (.slice yB yents.length yd)):=gd fun W' h=>⟨h.cell (hca 0 _ rfl),h.cell (hca 1 _ rfl),h.cell (hca 2 _ rfl),h.cell (hca 3 _ rfl),h.cell (hca 4 _ rfl),h.cell (hca 5 _ rfl),h.cell (hcb 0 _ rfl),h.cell (hcb 1 _ rfl),h.cell (hcb 2 _ rfl),h.cell (hcb 3 _ rfl),h.cell (hcb 4 _ rfl),h.cell (hcb 5 _ rfl)⟩
 have HX1:=gd hx1'
 obtain ⟨a0,a1,a2,a3,a4,a5,a6,a7,a8,a9,a10,a11⟩:=HC.out _ (Ext.refl W1)
 clear hx1' hca hcb hbx hby hvx hvy hpx hpy hx0 hx1 hy0 hy1 hE hwx hwy hP hQ
 by_cases h1:5000<bigF P
 ·simp only[decide_eq_true h1] at HLP
  clear h1 hsp hsq
  go_enter Tryz.func6,Tryz.ntmps6
  go_wp2_with (first|(go_at_call 11;(have hz:=HAL.out _ (HX1.out.trans hy2));(with_reducible refine Calls.mono hz ?_);clear hz;rintro e w3 ⟨rfl,hx3⟩)|(go_at_call 17;(have hz:=HLP.out _ (HX1.out.trans (Ext.refl W1)));(with_reducible refine Calls.mono hz ?_);clear hz;rintro e w2 ⟨rfl,hx2⟩;(have hy2:=(Ext.refl W1).trans hx2);(obtain ⟨b0,b1,b2,b3,b4,b5,b6,b7,b8,b9,b10,b11⟩:=HC.out _ hy2);clear a0 a1 a2 a3 a4 a5 a6 a7 a8 a9 a10 a11))
  go_ret
  exact ⟨rfl,(HX1.out.trans hy2).trans hx3⟩
 have hsp:=hsp h1
 simp only[decide_eq_false h1] at HLP
 by_cases h2:5000<bigF Q
 ·simp only[decide_eq_true h2] at HLQ
  clear h1 h2 hsp hsq
  go_enter Tryz.func6,Tryz.ntmps6
  go_wp2_with (first|(go_at_call 11;(have hz:=HAL.out _ (HX1.out.trans hy3));(with_reducible refine Calls.mono hz ?_);clear hz;rintro e w4 ⟨rfl,hx4⟩)|(go_at_call 17;(have hz:=HLQ.out _ (HX1.out.trans hy2));(with_reducible refine Calls.mono hz ?_);clear hz;rintro e w3 ⟨rfl,hx3⟩;(have hy3:=hy2.trans hx3);(obtain ⟨c0,c1,c2,c3,c4,c5,c6,c7,c8,c9,c10,c11⟩:=HC.out _ hy3);clear b0 b1 b2 b3 b4 b5 b6 b7 b8 b9 b10 b11)|(go_at_call 17;(have hz:=HLP.out _ (HX1.out.trans (Ext.refl W1)));(with_reducible refine Calls.mono hz ?_);clear hz;rintro e w2 ⟨rfl,hx2⟩;(have hy2:=(Ext.refl W1).trans hx2);(obtain ⟨b0,b1,b2,b3,b4,b5,b6,b7,b8,b9,b10,b11⟩:=HC.out _ hy2);clear a0 a1 a2 a3 a4 a5 a6 a7 a8 a9 a10 a11))
  go_ret
  exact ⟨rfl,(HX1.out.trans hy3).trans hx4⟩
 have hsq:=hsq h2
 simp only[decide_eq_false h2] at HLQ
 have HCP:=gd (HCP0.out hsp.1)
 have hnx:=hnx0 hsp.1
 have HCQ:=gd (HCQ0.out hsq.1)
 clear h1 h2
 by_cases h3:okF P=true
 case neg=>
  simp only[if_neg h3] at HCP
  clear h3 hsp hsq
  go_enter Tryz.func6,Tryz.ntmps6
  go_wp2_with (first|(go_at_call 11;(have hz:=HAL.out _ (HX1.out.trans hy4));(with_reducible refine Calls.mono hz ?_);clear hz;rintro e w5 ⟨rfl,hx5⟩)|(go_at_call 23;(have hz:=HCP.out _ (HX1.out.trans hy3));(with_reducible refine Calls.mono hz ?_);clear hz;rintro e w4 ⟨rfl,hx4⟩;(have hy4:=hy3.trans hx4);(obtain ⟨d0,d1,d2,d3,d4,d5,d6,d7,d8,d9,d10,d11⟩:=HC.out _ hy4);clear c0 c1 c2 c3 c4 c5 c6 c7 c8 c9 c10 c11)|(go_at_call 17;(have hz:=HLQ.out _ (HX1.out.trans hy2));(with_reducible refine Calls.mono hz ?_);clear hz;rintro e w3 ⟨rfl,hx3⟩;(have hy3:=hy2.trans hx3);(obtain ⟨c0,c1,c2,c3,c4,c5,c6,c7,c8,c9,c10,c11⟩:=HC.out _ hy3);clear b0 b1 b2 b3 b4 b5 b6 b7 b8 b9 b10 b11)|(go_at_call 17;(have hz:=HLP.out _ (HX1.out.trans (Ext.refl W1)));(with_reducible refine Calls.mono hz ?_);clear hz;rintro e w2 ⟨rfl,hx2⟩;(have hy2:=(Ext.refl W1).trans hx2);(obtain ⟨b0,b1,b2,b3,b4,b5,b6,b7,b8,b9,b10,b11⟩:=HC.out _ hy2);clear a0 a1 a2 a3 a4 a5 a6 a7 a8 a9 a10 a11))
  go_ret
  exact ⟨rfl,(HX1.out.trans hy4).trans hx5⟩
 simp only[if_pos h3] at HCP
 have HWP:=gd (HWP0.out hsp h3)
 by_cases h4:okF Q=true
 case neg=>
  simp only[if_neg h4] at HCQ
  clear h3 h4 hsp hsq
  go_enter Tryz.func6,Tryz.ntmps6
  go_wp2_with (first|(go_at_call 11;(have hz:=HAL.out _ (HX1.out.trans hy5));(with_reducible refine Calls.mono hz ?_);clear hz;rintro e w6 ⟨rfl,hx6⟩)|(go_at_call 23;(have hz:=HCQ.out _ (HX1.out.trans hy4));(with_reducible refine Calls.mono hz ?_);clear hz;rintro e w5 ⟨rfl,hx5⟩;(have hy5:=hy4.trans hx5);(obtain ⟨g0,g1,g2,g3,g4,g5,g6,g7,g8,g9,g10,g11⟩:=HC.out _ hy5);clear d0 d1 d2 d3 d4 d5 d6 d7 d8 d9 d10 d11)|(go_at_call 23;(have hz:=HCP.out _ (HX1.out.trans hy3));(with_reducible refine Calls.mono hz ?_);clear hz;rintro e w4 ⟨rfl,hx4⟩;(have hy4:=hy3.trans hx4);(obtain ⟨d0,d1,d2,d3,d4,d5,d6,d7,d8,d9,d10,d11⟩:=HC.out _ hy4);clear c0 c1 c2 c3 c4 c5 c6 c7 c8 c9 c10 c11)|(go_at_call 17;(have hz:=HLQ.out _ (HX1.out.trans hy2));(with_reducible refine Calls.mono hz ?_);clear hz;rintro e w3 ⟨rfl,hx3⟩;(have hy3:=hy2.trans hx3);(obtain ⟨c0,c1,c2,c3,c4,c5,c6,c7,c8,c9,c10,c11⟩:=HC.out _ hy3);clear b0 b1 b2 b3 b4 b5 b6 b7 b8 b9 b10 b11)|(go_at_call 17;(have hz:=HLP.out _ (HX1.out.trans (Ext.refl W1)));(with_reducible refine Calls.mono hz ?_);clear hz;rintro e w2 ⟨rfl,hx2⟩;(have hy2:=(Ext.refl W1).trans hx2);(obtain ⟨b0,b1,b2,b3,b4,b5,b6,b7,b8,b9,b10,b11⟩:=HC.out _ hy2);clear a0 a1 a2 a3 a4 a5 a6 a7 a8 a9 a10 a11))
  go_ret
  exact ⟨rfl,(HX1.out.trans hy5).trans hx6⟩
 simp only[if_pos h4] at HCQ
 have HWQ:=gd (HWQ0.out hsq h4)
 have hiff:=enc_inj (f:=P) (g:=Q) h3 h4 hPp hQp
 have hdi:((textF P).toList==(textF Q).toList)=decide (P=Q):=by
  unfold textF
  rw[strs_beq21]
  by_cases hd:P=Q
  ·rw[decide_eq_true hd,decide_eq_true (hiff.2 hd)]
  ·rw[decide_eq_false hd,decide_eq_false fun e=>hd (hiff.1 e)]
 have HSM2:=gd (fun (W':World) (h:Ext w W')=>HSM.out W' hnx h)
 obtain ⟨D,hD⟩:∃D,decide (P=Q)=D:=⟨_,rfl⟩
 obtain ⟨TP,hTP⟩:∃TP,textF P=TP:=⟨_,rfl⟩
 obtain ⟨TQ,hTQ⟩:∃TQ,textF Q=TQ:=⟨_,rfl⟩
 rw[hTP,hTQ,hD] at hdi
 simp only[hD] at HSM2
 rw[hTP] at HWP
 rw[hTQ] at HWQ
 clear h3 h4 hsp hsq hiff hD hTP hTQ HSM HWP0 HWQ0 HCP0 HCQ0
 cases D
 all_goals go_enter Tryz.func6,Tryz.ntmps6
 all_goals go_wp2_with (first|(go_at_call 16;(have hz:=HSM2.out _ (HX1.out.trans hy8));(with_reducible refine Calls.mono hz ?_);clear hz;rintro e w9 ⟨rfl,hx9⟩)|(go_at_call 11;(have hz:=HAL.out _ (HX1.out.trans hy7));(with_reducible refine Calls.mono hz ?_);clear hz;rintro e w8 ⟨rfl,hx8⟩;(have hy8:=hy7.trans hx8);(obtain ⟨m0,m1,m2,m3,m4,m5,m6,m7,m8,m9,m10,m11⟩:=HC.out _ hy8);clear k0 k1 k2 k3 k4 k5 k6 k7 k8 k9 k10 k11)|(go_at_call 20;first|((with_reducible refine Calls.mono (HWP.out _ (HX1.out.trans hy5)) ?_);rintro e w6 ⟨rfl,hx6⟩;(have hy6:=hy5.trans hx6);(obtain ⟨j0,j1,j2,j3,j4,j5,j6,j7,j8,j9,j10,j11⟩:=HC.out _ hy6);clear i0 i1 i2 i3 i4 i5 i6 i7 i8 i9 i10 i11)|((with_reducible refine Calls.mono (HWQ.out _ (HX1.out.trans hy6)) ?_);rintro e w7 ⟨rfl,hx7⟩;(have hy7:=hy6.trans hx7);(obtain ⟨k0,k1,k2,k3,k4,k5,k6,k7,k8,k9,k10,k11⟩:=HC.out _ hy7);clear j0 j1 j2 j3 j4 j5 j6 j7 j8 j9 j10 j11))|(go_at_call 23;(have hz:=HCQ.out _ (HX1.out.trans hy4));(with_reducible refine Calls.mono hz ?_);clear hz;rintro e w5 ⟨rfl,hx5⟩;(have hy5:=hy4.trans hx5);(obtain ⟨i0,i1,i2,i3,i4,i5,i6,i7,i8,i9,i10,i11⟩:=HC.out _ hy5);clear d0 d1 d2 d3 d4 d5 d6 d7 d8 d9 d10 d11)|(go_at_call 23;(have hz:=HCP.out _ (HX1.out.trans hy3));(with_reducible refine Calls.mono hz ?_);clear hz;rintro e w4 ⟨rfl,hx4⟩;(have hy4:=hy3.trans hx4);(obtain ⟨d0,d1,d2,d3,d4,d5,d6,d7,d8,d9,d10,d11⟩:=HC.out _ hy4);clear c0 c1 c2 c3 c4 c5 c6 c7 c8 c9 c10 c11)|(go_at_call 17;(have hz:=HLQ.out _ (HX1.out.trans hy2));(with_reducible refine Calls.mono hz ?_);clear hz;rintro e w3 ⟨rfl,hx3⟩;(have hy3:=hy2.trans hx3);(obtain ⟨c0,c1,c2,c3,c4,c5,c6,c7,c8,c9,c10,c11⟩:=HC.out _ hy3);clear b0 b1 b2 b3 b4 b5 b6 b7 b8 b9 b10 b11)|(go_at_call 17;(have hz:=HLP.out _ (HX1.out.trans (Ext.refl W1)));(with_reducible refine Calls.mono hz ?_);clear hz;rintro e w2 ⟨rfl,hx2⟩;(have hy2:=(Ext.refl W1).trans hx2);(obtain ⟨b0,b1,b2,b3,b4,b5,b6,b7,b8,b9,b10,b11⟩:=HC.out _ hy2);clear a0 a1 a2 a3 a4 a5 a6 a7 a8 a9 a10 a11))
 all_goals go_ret
 all_goals exact ⟨rfl,(HX1.out.trans hy8).trans hx9⟩
end
theorem lifted21 (os:Os) (started:os.Started) (H:Type) (enc:TypeId×Value→H):
 ReturnsInHanded {} Tryz.checked os 6 .any (fun w args=>(Rows.jsonfeedIsInjectiveSpec.pre enc Tryz.prog Tryz.f6 [] false w args∧laidMetH Tryz.prog laidAll w)∧sizedMet enc Tryz.prog Tryz.f6 (OpenSpec.ofChange Rows.jsonfeedIsInjectiveSpec) false w args)
  (Rows.jsonfeedIsInjectiveSpec.post enc Tryz.prog Tryz.f6 false true false false):=by
 refine returnsInHanded_of_change_and (C:=Tryz.checked) (X:=fun w _=>laidMetH Tryz.prog laidAll w) (fun _ _ _ hh h=>h.of_heap hh) own1 started (by kernel_rfl) Tryz.func6
  (ChangeSpec.witness_shaped (enc:=enc) (C:=Tryz.checked) (os:=os) (X:=fun w _=>laidMetH Tryz.prog laidAll w) false (World.laidAll Tryz.prog os laidAll) #[.agg #[.slice none 0 0,.string ⟨#[]⟩,.string ⟨#[]⟩,.string ⟨#[]⟩,.int .i64 0,.slice none 0 0],.agg #[.slice none 0 0,.string ⟨#[]⟩,.string ⟨#[]⟩,.string ⟨#[]⟩,.int .i64 0,.slice none 0 0]] 8 (World.laidAll_os _ _ _)
   (World.shaped_of_ZipB (by kernel_rfl) (by kernel_rfl)) (by kernel_rfl) (by kernel_rfl) (by kernel_rfl)
   (by rw[MakeChecks.laidMetH_plain _ _ _ (by kernel_rfl)];exact laidMet_laidAll _ (by kernel_rfl) (by kernel_rfl))) ?_
 intro W base args ds gs before hval0 hW hc hsz hL _
 have hval:∀(j:Nat) t v,Tryz.f6.params[j]? =some t→args[j]? =some v→Value.okWide Tryz.prog W .any base t v:=hval0
 have hW':=hW
 obtain ⟨p,q,hA0,hV,rfl,_,_⟩:=hW
 have hA:DataW.TrodAll enc Tryz.prog W 0 (fun _=>true) true Tryz.f6.params.toList args.toList ds p:=hA0
 rw[Tryz.params6] at hA hval
 obtain ⟨v0,v1,d0,d1,p0,p1,rfl,rfl,rfl,h0,h1⟩:=trodAll_two hA
 obtain ⟨rfl,rfl⟩:=trodVars_none hV
 have h0k:=h0
 have h1k:=h1
 rw[MakeChecks.laidMetH_plain _ _ _ (by kernel_rfl)] at hL
 have hE:=env_of_laid hL
 have hwt:(DataW.weightsEach Tryz.prog [32,32] [d0,d1]).all (· ≤reachBytes)=true:=by
  have h:=hsz
  rw[Tryz.params6] at h
  exact h
 have hwa:=List.all_eq_true.1 hwt
 have hw0:∀n∈d0.weights Tryz.prog 32,n≤reachBytes:=fun n hn=>of_decide_eq_true (hwa n (by simp only[DataW.weightsEach,List.append_nil,List.mem_append];exact Or.inl hn))
 have hw1:∀n∈d1.weights Tryz.prog 32,n≤reachBytes:=fun n hn=>of_decide_eq_true (hwa n (by simp only[DataW.weightsEach,List.append_nil,List.mem_append];exact Or.inr hn))
 clear hsz hwt hwa
 have hlt:∀x∈(p0++p1),x.block<W.heap.size:=fun x hx=>by simpa using hW'.lt x (List.mem_append_left _ hx)
 obtain ⟨fuel0,hf0⟩:=h0
 obtain ⟨cs0,rfl,_⟩:=okWide_struct Tryz.underlying32 (hval 0 32 v0 rfl rfl)
 obtain ⟨x0,hcs0,hrd0,hwd0⟩:=open_fd (show DataW.trod enc Tryz.prog W 0 (fun _=>true) true fuel0 32 cs0.toList=some (d0,p0) from hf0)
 have hcs0':cs0=(cellsC x0).toArray:=by rw[←hcs0]
 subst hcs0'
 obtain ⟨fuel1,hf1⟩:=h1
 obtain ⟨cs1,rfl,_⟩:=okWide_struct Tryz.underlying32 (hval 1 32 v1 rfl rfl)
 obtain ⟨x1,hcs1,hrd1,hwd1⟩:=open_fd (show DataW.trod enc Tryz.prog W 0 (fun _=>true) true fuel1 32 cs1.toList=some (d1,p1) from hf1)
 have hcs1':cs1=(cellsC x1).toArray:=by rw[←hcs1]
 subst hcs1'
 refine (law21_any x0 x1 W hE hrd0 (hwd0 hw0) hrd1 (hwd1 hw1)).mono fun e W' ⟨he,hx⟩=> ?_
 subst he
 have hB:Below W.heap.size W W':=hx
 refine ⟨_,rfl,_,_,_,[],(p0++p1),[],hW',?_,?_,?_,hB.frame _,fun h=>by cases h⟩
 ·exact trodAll_mk1 (shut_bool Tryz.underlying4 _)
 ·exact trodAll_mk2 (Below.trod laidOut1 (by kernel_rfl) (of_decide_eq_true (by kernel_rfl)) h0k hB fun x hx=>hlt x (List.mem_append_left _ hx)) (Below.trod laidOut1 (by kernel_rfl) (of_decide_eq_true (by kernel_rfl)) h1k hB fun x hx=>hlt x (List.mem_append_right _ hx))
 ·rfl
end Go.Proofs.YthlnaldahkgjnaaGreatDoor
