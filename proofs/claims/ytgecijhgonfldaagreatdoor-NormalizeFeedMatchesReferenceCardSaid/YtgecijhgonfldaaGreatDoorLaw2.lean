/- NormalizeFeedMatchesReference: the law's contract (written by gen_law2.py). -/
import Derived.Test.YtgecijhgonfldaaGreatDoorM35
import Derived.Test.YtgecijhgonfldaaGreatDoorM27
import Derived.Test.YtgecijhgonfldaaGreatDoorFeedR
import Derived.Test.YtgecijhgonfldaaGreatDoorSame
import Derived.Test.YtgecijhgonfldaaGreatDoorCheckF
import Derived.Test.YtgecijhgonfldaaGreatDoorTooL
import Derived.Test.YtgecijhgonfldaaGreatDoorCut
namespace Go.Proofs.YtgecijhgonfldaaGreatDoor
open Go Go.RowKit
set_option linter.unusedVariables false

theorem one_rfcs (w : World) (O : Obj) (x : Fc) : RFcs ((w.alloc O).alloc (.cells (cellsC x).toArray 35)) (.slice (some ⟨w.heap.size + 1, 0, none⟩) 1 1) [x] := by
  have h := rsl_new (w := w.alloc O) (size := 6) (n := 1) (cs := cellsC x) (e := 35) rfl (by decide)
  rw [size_alloc] at h
  unfold RFcs
  rw [flatC_one]
  exact h
set_option maxRecDepth 100000 in
set_option maxHeartbeats 8000000 in
theorem law2_any (x : Fc) (w : World) (hE : Env w) (hr : RdC w x) (hw : fwide x.f) :
    Calls Tryz.prog 4 #[.agg (cellsC x).toArray] w fun e w' => e = .returned (.bool true) ∧ Ext w w' := by
  have HAL := Lib.hid (fun (w' : World) (h : Ext w w') => alive_any w' (hE.ext h))
  have HLG := Lib.hid (large_any _ [x] ((w.alloc (.cells (cellsC x).toArray 35)).alloc (.cells (cellsC x).toArray 35)) (one_rfcs w _ x) (fun y hy => by rw [List.mem_singleton.1 hy]; exact hr.ext (((Ext.refl _).alloc _).alloc _)) (show 1 ≤ reachBytes by decide) (fun y hy => by rw [List.mem_singleton.1 hy]; exact hw))
  by_cases hb : 5000 < bigL [x.f]
  · have hlb : (decide (50 < [x].length) || decide (5000 < bigL ([x].map Fc.f))) = true := by simp [hb]
    rw [hlb] at HLG
    clear hlb hb hw hE
    obtain ⟨xp, xes, ⟨xpath, xid, xtitle, xlink, xupd, xents⟩⟩ := x
    obtain ⟨hx0, hx1⟩ := hr
    dsimp only at *
    obtain ⟨xA, xc, rfl, -, -⟩ := hx0.form
    obtain ⟨xB, xd, rfl, -, -⟩ := hx1.form
    clear hx0 hx1
    unfold cellsC fCells at *
    dsimp only at *
    go_enter Tryz.func4, Tryz.ntmps4
    go_wp2_with (first
      | (go_at_call 20; (have hz := HLG.out); (with_reducible refine Calls.mono hz ?_); clear hz; rintro e w1 ⟨rfl, hx1⟩; (have hb1 : Ext (w.alloc (.cells #[.slice xA xpath.length xc, .string xid, .string xtitle, .string xlink, .int .i64 xupd, .slice xB xents.length xd] 35)) w1 := ((Ext.refl _).alloc _).trans hx1); (have hw1 : Ext w w1 := ((Ext.refl _).alloc _).trans hb1); (have k0 := (hb1).boxed 0 _ rfl); (have k1 := (hb1).boxed 1 _ rfl); (have k2 := (hb1).boxed 2 _ rfl); (have k3 := (hb1).boxed 3 _ rfl); (have k4 := (hb1).boxed 4 _ rfl); (have k5 := (hb1).boxed 5 _ rfl))
      | (go_at_call 16; (have hz := HAL.out _ hw1); (with_reducible refine Calls.mono hz ?_); clear hz; rintro e w2 ⟨rfl, hx2⟩))
    go_ret
    exact ⟨rfl, hw1.trans hx2⟩
  · have hlb : (decide (50 < [x].length) || decide (5000 < bigL ([x].map Fc.f))) = false := by simp [hb]
    rw [hlb] at HLG
    have hk : fokS x.f := small_fok hw (by unfold bigL at hb; simp at hb; exact hb)
    have hnk := norm_fokS hk
    have HF := Lib.hid (fun (w' : World) (h : Ext w w') => normFeed_any x w' (hE.ext h) hk (hr.ext h))
    have HR := Lib.hid (fun (w' : World) (h : Ext w w') => refFeed_any x w' (hE.ext h) hk (hr.ext h))
    have hok : errF x.f = 0 → okF (normF x.f) = true := fun h => by unfold normF; rw [if_pos h]; exact okF_coll h
    obtain ⟨E, hEr⟩ : ∃ E, errF x.f = E := ⟨_, rfl⟩
    obtain ⟨N, hN⟩ : ∃ N, normF x.f = N := ⟨_, rfl⟩
    rw [hEr, hN] at hok
    rw [hN] at hnk
    simp only [hEr, hN] at HF HR
    have HSM : Hid (∀ (y z : Fc) (w' : World), RdC w' y → RdC w' z → y.f = N → z.f = N → Calls Tryz.prog 23 #[.agg (cellsC y).toArray, .agg (cellsC z).toArray] w' fun e w'' => e = .returned (.bool true) ∧ Ext w' w'') := Lib.hid fun y z w' h1 h2 e1 e2 => by
      have := refSame_any y z w' h1 h2 (by rw [e1]; have := hnk.1.2; omega) (by rw [e1]; have := hnk.2.1; omega)
      rwa [decide_eq_true (by rw [e1, e2])] at this
    clear hlb hb hw
    by_cases h0 : E = 0
    · subst h0
      have hk0 := hok rfl
      have HCK : Hid (∀ (y : Fc) (w' : World), RdC w' y → y.f = N → Calls Tryz.prog 24 #[.agg (cellsC y).toArray] w' fun e w'' => e = .returned (.int .i64 0) ∧ Ext w' w'') := Lib.hid fun y w' h1 e1 => by
        have := refCheckF_any y w' h1 (by rw [e1]; exact hnk)
        rwa [if_pos (by rw [e1]; exact hk0)] at this
      clear hok hk0 hnk hEr hN hk hE
      obtain ⟨xp, xes, ⟨xpath, xid, xtitle, xlink, xupd, xents⟩⟩ := x
      obtain ⟨hx0, hx1⟩ := hr
      dsimp only at *
      obtain ⟨xA, xc, rfl, -, -⟩ := hx0.form
      obtain ⟨xB, xd, rfl, -, -⟩ := hx1.form
      clear hx0 hx1
      unfold cellsC fCells at *
      dsimp only at *
      go_enter Tryz.func4, Tryz.ntmps4
      go_wp2_with (first
        | (go_at_call 20; (have hz := HLG.out); (with_reducible refine Calls.mono hz ?_); clear hz; rintro e w1 ⟨rfl, hx1⟩; (have hb1 : Ext (w.alloc (.cells #[.slice xA xpath.length xc, .string xid, .string xtitle, .string xlink, .int .i64 xupd, .slice xB xents.length xd] 35)) w1 := ((Ext.refl _).alloc _).trans hx1); (have hw1 : Ext w w1 := ((Ext.refl _).alloc _).trans hb1); (have k0 := (hb1).boxed 0 _ rfl); (have k1 := (hb1).boxed 1 _ rfl); (have k2 := (hb1).boxed 2 _ rfl); (have k3 := (hb1).boxed 3 _ rfl); (have k4 := (hb1).boxed 4 _ rfl); (have k5 := (hb1).boxed 5 _ rfl))
        | (go_at_call 21; (have hz := HF.out w1 hw1); (with_reducible refine Calls.mono hz ?_); clear hz; rintro e w2 ⟨y, rfl, hyf, hyr, hya, hx2⟩; (have hysl := hyr.sl); (obtain ⟨yp, yes, yf⟩ := y); (obtain ⟨⟨yA, yn, yc, hyp⟩, ⟨yB, ym, yd, hye⟩⟩ := hysl); simp only at hyp hye; subst hyp hye; (have hyf2 : yf = N := hyf); clear hyf hya; subst hyf2; clear k0 k1 k2 k3 k4 k5; (have hb2 : Ext (w.alloc (.cells #[.slice xA xpath.length xc, .string xid, .string xtitle, .string xlink, .int .i64 xupd, .slice xB xents.length xd] 35)) (w2.alloc (.cells #[.slice yA yn yc, .string yf.id, .string yf.title, .string yf.link, .int .i64 yf.upd, .slice yB ym yd] 35)) := (hb1.trans hx2).alloc _); (have hw2 : Ext w (w2.alloc (.cells #[.slice yA yn yc, .string yf.id, .string yf.title, .string yf.link, .int .i64 yf.upd, .slice yB ym yd] 35)) := ((Ext.refl _).alloc _).trans hb2); (have k0 := (hb2).boxed 0 _ rfl); (have k1 := (hb2).boxed 1 _ rfl); (have k2 := (hb2).boxed 2 _ rfl); (have k3 := (hb2).boxed 3 _ rfl); (have k4 := (hb2).boxed 4 _ rfl); (have k5 := (hb2).boxed 5 _ rfl))
        | (go_at_call 22; (have hz := HR.out _ hw2); (with_reducible refine Calls.mono hz ?_); clear hz; rintro e w3 ⟨z, rfl, hzf, hzr, hx3⟩; (have hzsl := hzr.sl); (obtain ⟨zp, zes, zf⟩ := z); (obtain ⟨⟨zA, zn, zc, hzp⟩, ⟨zB, zm, zd, hze⟩⟩ := hzsl); simp only at hzp hze; subst hzp hze; (have hzf2 : zf = yf := hzf); clear hzf; subst hzf2; clear k0 k1 k2 k3 k4 k5; (have hw3 : Ext w (w3.alloc (.cells #[.slice zA zn zc, .string zf.id, .string zf.title, .string zf.link, .int .i64 zf.upd, .slice zB zm zd] 35)) := (hw2.trans hx3).alloc _))
        | (go_at_call 16; (have hz := HAL.out _ hw3); (with_reducible refine Calls.mono hz ?_); clear hz; rintro e w4 ⟨rfl, hx4⟩; (have hb3 : Ext (w2.alloc (.cells #[.slice yA yn yc, .string zf.id, .string zf.title, .string zf.link, .int .i64 zf.upd, .slice yB ym yd] 35)) w4 := hx3.trans (((Ext.refl _).alloc _).trans hx4)); (have m0 := (hb3).boxed 0 _ rfl); (have m1 := (hb3).boxed 1 _ rfl); (have m2 := (hb3).boxed 2 _ rfl); (have m3 := (hb3).boxed 3 _ rfl); (have m4 := (hb3).boxed 4 _ rfl); (have m5 := (hb3).boxed 5 _ rfl); (have n0 := (hx4).boxed 0 _ rfl); (have n1 := (hx4).boxed 1 _ rfl); (have n2 := (hx4).boxed 2 _ rfl); (have n3 := (hx4).boxed 3 _ rfl); (have n4 := (hx4).boxed 4 _ rfl); (have n5 := (hx4).boxed 5 _ rfl); (have hyr4 : RdC w4 ⟨.slice yA yn yc, .slice yB ym yd, zf⟩ := hyr.ext (((Ext.refl _).alloc _).trans hb3)); (have hzr4 : RdC w4 ⟨.slice zA zn zc, .slice zB zm zd, zf⟩ := hzr.ext (((Ext.refl _).alloc _).trans hx4)))
        | (go_at_call 23; (have hz := HSM.out ⟨.slice yA yn yc, .slice yB ym yd, zf⟩ ⟨.slice zA zn zc, .slice zB zm zd, zf⟩ w4 hyr4 hzr4 rfl rfl); (with_reducible refine Calls.mono hz ?_); clear hz; rintro e w5 ⟨rfl, hx5⟩; clear m0 m1 m2 m3 m4 m5; (have hb5 := hb3.trans hx5); (have m0 := (hb5).boxed 0 _ rfl); (have m1 := (hb5).boxed 1 _ rfl); (have m2 := (hb5).boxed 2 _ rfl); (have m3 := (hb5).boxed 3 _ rfl); (have m4 := (hb5).boxed 4 _ rfl); (have m5 := (hb5).boxed 5 _ rfl))
        | (go_at_call 24; (have hz := HCK.out ⟨.slice yA yn yc, .slice yB ym yd, zf⟩ w5 (hyr4.ext hx5) rfl); (with_reducible refine Calls.mono hz ?_); clear hz; rintro e w6 ⟨rfl, hx6⟩))
      go_ret
      exact ⟨rfl, (((hw3.trans hx4).trans hx5).trans hx6)⟩
    · have hb0 : ((E : Int) != 0) = true := by simp; omega
      clear hok hnk hEr hN hk hE h0
      obtain ⟨xp, xes, ⟨xpath, xid, xtitle, xlink, xupd, xents⟩⟩ := x
      obtain ⟨hx0, hx1⟩ := hr
      dsimp only at *
      obtain ⟨xA, xc, rfl, -, -⟩ := hx0.form
      obtain ⟨xB, xd, rfl, -, -⟩ := hx1.form
      clear hx0 hx1
      unfold cellsC fCells at *
      dsimp only at *
      go_enter Tryz.func4, Tryz.ntmps4
      go_wp2_with (first
        | (go_at_call 20; (have hz := HLG.out); (with_reducible refine Calls.mono hz ?_); clear hz; rintro e w1 ⟨rfl, hx1⟩; (have hb1 : Ext (w.alloc (.cells #[.slice xA xpath.length xc, .string xid, .string xtitle, .string xlink, .int .i64 xupd, .slice xB xents.length xd] 35)) w1 := ((Ext.refl _).alloc _).trans hx1); (have hw1 : Ext w w1 := ((Ext.refl _).alloc _).trans hb1); (have k0 := (hb1).boxed 0 _ rfl); (have k1 := (hb1).boxed 1 _ rfl); (have k2 := (hb1).boxed 2 _ rfl); (have k3 := (hb1).boxed 3 _ rfl); (have k4 := (hb1).boxed 4 _ rfl); (have k5 := (hb1).boxed 5 _ rfl))
        | (go_at_call 21; (have hz := HF.out w1 hw1); (with_reducible refine Calls.mono hz ?_); clear hz; rintro e w2 ⟨y, rfl, hyf, hyr, hya, hx2⟩; (have hysl := hyr.sl); (obtain ⟨yp, yes, yf⟩ := y); (obtain ⟨⟨yA, yn, yc, hyp⟩, ⟨yB, ym, yd, hye⟩⟩ := hysl); simp only at hyp hye; subst hyp hye; (have hyf2 : yf = N := hyf); clear hyf hya; subst hyf2; clear k0 k1 k2 k3 k4 k5; (have hb2 : Ext (w.alloc (.cells #[.slice xA xpath.length xc, .string xid, .string xtitle, .string xlink, .int .i64 xupd, .slice xB xents.length xd] 35)) (w2.alloc (.cells #[.slice yA yn yc, .string yf.id, .string yf.title, .string yf.link, .int .i64 yf.upd, .slice yB ym yd] 35)) := (hb1.trans hx2).alloc _); (have hw2 : Ext w (w2.alloc (.cells #[.slice yA yn yc, .string yf.id, .string yf.title, .string yf.link, .int .i64 yf.upd, .slice yB ym yd] 35)) := ((Ext.refl _).alloc _).trans hb2); (have k0 := (hb2).boxed 0 _ rfl); (have k1 := (hb2).boxed 1 _ rfl); (have k2 := (hb2).boxed 2 _ rfl); (have k3 := (hb2).boxed 3 _ rfl); (have k4 := (hb2).boxed 4 _ rfl); (have k5 := (hb2).boxed 5 _ rfl))
        | (go_at_call 22; (have hz := HR.out _ hw2); (with_reducible refine Calls.mono hz ?_); clear hz; rintro e w3 ⟨z, rfl, hzf, hzr, hx3⟩; (have hzsl := hzr.sl); (obtain ⟨zp, zes, zf⟩ := z); (obtain ⟨⟨zA, zn, zc, hzp⟩, ⟨zB, zm, zd, hze⟩⟩ := hzsl); simp only at hzp hze; subst hzp hze; (have hzf2 : zf = yf := hzf); clear hzf; subst hzf2; clear k0 k1 k2 k3 k4 k5; (have hw3 : Ext w (w3.alloc (.cells #[.slice zA zn zc, .string zf.id, .string zf.title, .string zf.link, .int .i64 zf.upd, .slice zB zm zd] 35)) := (hw2.trans hx3).alloc _))
        | (go_at_call 16; (have hz := HAL.out _ hw3); (with_reducible refine Calls.mono hz ?_); clear hz; rintro e w4 ⟨rfl, hx4⟩; (have hb3 : Ext (w2.alloc (.cells #[.slice yA yn yc, .string zf.id, .string zf.title, .string zf.link, .int .i64 zf.upd, .slice yB ym yd] 35)) w4 := hx3.trans (((Ext.refl _).alloc _).trans hx4)); (have m0 := (hb3).boxed 0 _ rfl); (have m1 := (hb3).boxed 1 _ rfl); (have m2 := (hb3).boxed 2 _ rfl); (have m3 := (hb3).boxed 3 _ rfl); (have m4 := (hb3).boxed 4 _ rfl); (have m5 := (hb3).boxed 5 _ rfl); (have n0 := (hx4).boxed 0 _ rfl); (have n1 := (hx4).boxed 1 _ rfl); (have n2 := (hx4).boxed 2 _ rfl); (have n3 := (hx4).boxed 3 _ rfl); (have n4 := (hx4).boxed 4 _ rfl); (have n5 := (hx4).boxed 5 _ rfl); (have hyr4 : RdC w4 ⟨.slice yA yn yc, .slice yB ym yd, zf⟩ := hyr.ext (((Ext.refl _).alloc _).trans hb3)); (have hzr4 : RdC w4 ⟨.slice zA zn zc, .slice zB zm zd, zf⟩ := hzr.ext (((Ext.refl _).alloc _).trans hx4)))
        | (go_at_call 23; (have hz := HSM.out ⟨.slice yA yn yc, .slice yB ym yd, zf⟩ ⟨.slice zA zn zc, .slice zB zm zd, zf⟩ w4 hyr4 hzr4 rfl rfl); (with_reducible refine Calls.mono hz ?_); clear hz; rintro e w5 ⟨rfl, hx5⟩; clear m0 m1 m2 m3 m4 m5; (have hb5 := hb3.trans hx5); (have m0 := (hb5).boxed 0 _ rfl); (have m1 := (hb5).boxed 1 _ rfl); (have m2 := (hb5).boxed 2 _ rfl); (have m3 := (hb5).boxed 3 _ rfl); (have m4 := (hb5).boxed 4 _ rfl); (have m5 := (hb5).boxed 5 _ rfl)))
      go_ret
      exact ⟨rfl, ((hw3.trans hx4).trans hx5)⟩
end Go.Proofs.YtgecijhgonfldaaGreatDoor
