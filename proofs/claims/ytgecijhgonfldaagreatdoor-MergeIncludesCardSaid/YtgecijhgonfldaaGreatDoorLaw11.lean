/- MergeIncludes: the law's contract. -/
import Derived.Test.YtgecijhgonfldaaGreatDoorQ33
namespace Go.Proofs.YtgecijhgonfldaaGreatDoor
open Go Go.RowKit
set_option linter.unusedVariables false

set_option maxRecDepth 100000 in
set_option maxHeartbeats 8000000 in
theorem law11_any (vp : Value) (lp : List Fc) (vq : Value) (lq : List Fc) (w : World) (hE : Env w) (hpr : RFcs w vp lp) (hpd : ∀ y ∈ lp, RdC w y) (hpn : lp.length ≤ reachBytes) (hpk : ∀ y ∈ lp, fwide y.f) (hqr : RFcs w vq lq) (hqd : ∀ y ∈ lq, RdC w y) (hqn : lq.length ≤ reachBytes) (hqk : ∀ y ∈ lq, fwide y.f) :
    Calls Tryz.prog 13 #[.agg #[vp], .agg #[vq]] w fun e w' => e = .returned (.bool true) ∧ Ext w w' := by
  have hp : ArcV w (vp, lp) := ⟨hpr, hpd⟩
  obtain ⟨pA, pc, hpf⟩ := hp.form
  have hpw : arcWide (vp, lp) := ⟨hpn, hpk⟩
  dsimp only at hpf
  subst hpf
  have hq : ArcV w (vq, lq) := ⟨hqr, hqd⟩
  obtain ⟨qA, qc, hqf⟩ := hq.form
  have hqw : arcWide (vq, lq) := ⟨hqn, hqk⟩
  dsimp only at hqf
  subst hqf
  obtain ⟨W1, hW1⟩ : ∃ W1, (((w.alloc (.cells #[.slice pA lp.length pc] 46))).alloc (.cells #[.slice qA lq.length qc] 46)) = W1 := ⟨_, rfl⟩
  have hx1 : Ext w W1 := by rw [← hW1]; exact ((Ext.refl _).alloc _).alloc _
  have cp : W1.cell? ⟨w.heap.size, 0, none⟩ = some (.slice pA lp.length pc) := by rw [← hW1]; exact ((Ext.refl _).alloc (.cells #[.slice qA lq.length qc] 46)).boxed 0 _ rfl
  have cq : W1.cell? ⟨w.heap.size + 1, 0, none⟩ = some (.slice qA lq.length qc) := by
    have := Ext.boxed (w := (w.alloc (.cells #[.slice pA lp.length pc] 46))) (Ext.refl ((w.alloc (.cells #[.slice pA lp.length pc] 46)).alloc (.cells #[.slice qA lq.length qc] 46))) 0 (.slice qA lq.length qc) rfl
    simp only [size_alloc] at this
    rw [hW1] at this
    exact this
  have HC : Hid (∀ W' : World, Ext W1 W' → W'.cell? ⟨w.heap.size, 0, none⟩ = some (.slice pA lp.length pc) ∧ W'.cell? ⟨w.heap.size + 1, 0, none⟩ = some (.slice qA lq.length qc)) := Lib.hid fun W' h => ⟨h.cell cp, h.cell cq⟩
  have HE := Lib.hid (fun (W' : World) (h : Ext W1 W') => hE.ext (hx1.trans h))
  have HP := Lib.hid (fun (W' : World) (h : Ext W1 W') => hp.ext (hx1.trans h))
  have HQ := Lib.hid (fun (W' : World) (h : Ext W1 W') => hq.ext (hx1.trans h))
  have HX1 := Lib.hid hx1
  have HAL := Lib.hid (fun (W' : World) (h : Ext W1 W') => alive15_any W' (hE.ext (hx1.trans h)))
  have hall : ∀ z ∈ [(.slice pA lp.length pc, lp), (.slice qA lq.length qc, lq)], ArcV W1 z := fun z hz => by
    simp only [List.mem_cons, List.mem_nil_iff, or_false] at hz
    rcases hz with rfl | rfl
    · exact hp.ext hx1
    · exact hq.ext hx1
  have hwall : ∀ z ∈ [(.slice pA lp.length pc, lp), (.slice qA lq.length qc, lq)], arcWide z := fun z hz => by
    simp only [List.mem_cons, List.mem_nil_iff, or_false] at hz
    rcases hz with rfl | rfl
    · exact hpw
    · exact hqw
  have HLG : Hid (Calls Tryz.prog 32 #[.slice (some ⟨W1.heap.size, 0, none⟩) 2 2] (W1.alloc (.cells #[.slice pA lp.length pc, .slice qA lq.length qc] 46)) fun e w' => e = .returned (.bool (largeB [(.slice pA lp.length pc, lp), (.slice qA lq.length qc, lq)])) ∧ Ext (W1.alloc (.cells #[.slice pA lp.length pc, .slice qA lq.length qc] 46)) w') :=
    Lib.hid (large15_any _ [(.slice pA lp.length pc, lp), (.slice qA lq.length qc, lq)] _ (arcs_lit [(.slice pA lp.length pc, lp), (.slice qA lq.length qc, lq)] W1 (by show 2 ≤ 1000; decide)) (fun z hz => (hall z hz).ext ((Ext.refl _).alloc _)) hwall (by show 2 ≤ reachBytes; decide))
  cases hlb : largeB [(.slice pA lp.length pc, lp), (.slice qA lq.length qc, lq)] with
  | true =>
    rw [hlb] at HLG
    clear hlb hall hwall hpw hqw hE hx1 hp hq hpr hqr hpd hqd hpn hqn hpk hqk
    go_enter Tryz.func13, Tryz.ntmps13
    go_wp2_with (first
      | (go_at_call 32; (have hz := HLG.out); (with_reducible refine Calls.mono hz ?_); clear hz; rintro e w1 ⟨rfl, hx2⟩; (have hx3 := ((Ext.refl W1).alloc (.cells #[.slice pA lp.length pc, .slice qA lq.length qc] 46)).trans hx2))
      | (go_at_call 33; (have hz := HAL.out _ hx3); (with_reducible refine Calls.mono hz ?_); clear hz; rintro e w2 ⟨rfl, hx4⟩))
    go_ret
    exact ⟨rfl, HX1.out.trans (hx3.trans hx4)⟩
  | false =>
    rw [hlb] at HLG
    have hsm := largeB_sm hlb hwall
    have hsp : SmL (lp.map Fc.f) 5000 := hsm (.slice pA lp.length pc, lp) (by simp)
    have hsq : SmL (lq.map Fc.f) 5000 := hsm (.slice qA lq.length qc, lq) (by simp)
    have hsV : SmL (mValV [lp.map Fc.f, lq.map Fc.f]) 10000 := smL_valV (by simpa using hsp.app hsq)
    obtain ⟨I, hI⟩ : ∃ I, inclV (lp.map Fc.f) (lq.map Fc.f) = I := ⟨_, rfl⟩
    have two : ∀ {a b : Arc} {n : Nat}, SmL a.fs n → SmL b.fs n → ∀ z ∈ [a, b], SmL z.fs n := fun ha hb z hz => by
      simp only [List.mem_cons, List.mem_nil_iff, or_false] at hz
      rcases hz with rfl | rfl
      · exact ha
      · exact hb
    have HI1 : Hid (∀ W' : World, Ext W1 W' → Calls Tryz.prog 40 #[.agg #[.slice pA lp.length pc], .agg #[.slice qA lq.length qc]] W' fun e w' => e = .returned (.tuple #[.bool I, .int .i64 (mErrV [lp.map Fc.f, lq.map Fc.f])]) ∧ Ext W' w') := Lib.hid fun W' h => by
      have := incl_any (.slice pA lp.length pc, lp) (.slice qA lq.length qc, lq) W' (HE.out W' h) (HP.out W' h) (HQ.out W' h) (n := 5000) (two hsp hsq) (by decide)
      rw [← hI]
      exact this
    have HI2 : Hid (∀ W' : World, Ext W1 W' → Calls Tryz.prog 41 #[.agg #[.slice pA lp.length pc], .agg #[.slice qA lq.length qc]] W' fun e w' => e = .returned (.tuple #[.bool I, .int .i64 (mErrV [lp.map Fc.f, lq.map Fc.f])]) ∧ Ext W' w') := Lib.hid fun W' h => by
      have := refIncl_any (.slice pA lp.length pc, lp) (.slice qA lq.length qc, lq) W' (HE.out W' h) (HP.out W' h) (HQ.out W' h) (n := 5000) (two hsp hsq) (by decide)
      rw [← hI]
      exact this
    have hZ : mErrV [lp.map Fc.f, lq.map Fc.f] = if okV [lp.map Fc.f, lq.map Fc.f] = true then 0 else 22 := rfl
    cases hok : okV [lp.map Fc.f, lq.map Fc.f] with
    | false =>
      rw [hok] at hZ
      rw [hZ] at HI1 HI2
      simp only [Bool.false_eq_true, if_false] at HI1 HI2
      clear hlb hall hwall hpw hqw hE hx1 hp hq hpr hqr hpd hqd hpn hqn hpk hqk hsm hsp hsq hsV hI hok hZ
      go_enter Tryz.func13, Tryz.ntmps13
      go_wp2_with (first
        | (go_at_call 32; (have hz := HLG.out); (with_reducible refine Calls.mono hz ?_); clear hz; rintro e w1 ⟨rfl, hx2⟩; (have hx3 := ((Ext.refl W1).alloc (.cells #[.slice pA lp.length pc, .slice qA lq.length qc] 46)).trans hx2); (obtain ⟨n0, n1⟩ := HC.out _ hx3))
        | (go_at_call 40; (have hz := HI1.out _ hx3); (with_reducible refine Calls.mono hz ?_); clear hz; rintro e w2 ⟨rfl, hx4⟩; (have hx5 := hx3.trans hx4); (obtain ⟨m0, m1⟩ := HC.out _ hx5))
        | (go_at_call 41; (have hz := HI2.out _ hx5); (with_reducible refine Calls.mono hz ?_); clear hz; rintro e w3 ⟨rfl, hx6⟩)
        | (go_at_call 33; (have hz := HAL.out _ (hx5.trans hx6)); (with_reducible refine Calls.mono hz ?_); clear hz; rintro e w4 ⟨rfl, hx7⟩))
      go_ret
      exact ⟨rfl, HX1.out.trans ((hx5.trans hx6).trans hx7)⟩
    | true =>
      rw [hok] at hZ
      simp only [if_true] at hZ
      obtain ⟨e1, e2, e3, i1, i2, i3⟩ := incl_facts hZ
      rw [hZ] at HI1 HI2
      have HM : Hid (∀ W' : World, Ext W1 W' → Calls Tryz.prog 34 #[.slice (some ⟨W'.heap.size, 0, none⟩) 2 2] (W'.alloc (.cells #[.slice pA lp.length pc, .slice qA lq.length qc] 46)) fun e w' => ∃ (A : Option Addr) (c : Nat) (l : List Fc), e = .returned (.tuple #[.agg #[.slice A l.length c], .int .i64 0]) ∧ l.map Fc.f = mValV [lp.map Fc.f, lq.map Fc.f] ∧ ArcV w' (.slice A l.length c, l) ∧ Ext (W'.alloc (.cells #[.slice pA lp.length pc, .slice qA lq.length qc] 46)) w') := Lib.hid fun W' h => by
        have := merge_lit [(.slice pA lp.length pc, lp), (.slice qA lq.length qc, lq)] W' (HE.out W' h) (fun z hz => (hall z hz).ext h) hsm (by show 5000 * 2 ≤ 1000000; decide) (by show 2 ≤ 1000; decide)
        rw [← hZ]
        exact this
      have HJ1 : Hid (∀ (A : Option Addr) (c : Nat) (l : List Fc) (W' : World), l.map Fc.f = mValV [lp.map Fc.f, lq.map Fc.f] → ArcV W' (.slice A l.length c, l) → Ext W1 W' → Calls Tryz.prog 40 #[.agg #[.slice A l.length c], .agg #[.slice pA lp.length pc]] W' fun e w' => e = .returned (.tuple #[.bool true, .int .i64 0]) ∧ Ext W' w') := Lib.hid fun A c l W' hl ha h => by
        have := incl_any (.slice A l.length c, l) (.slice pA lp.length pc, lp) W' (HE.out W' h) ha (HP.out W' h) (n := 10000) (two (show SmL (l.map Fc.f) _ by rw [hl]; exact hsV) (hsp.mono (by decide))) (by decide)
        rw [show Arc.fs (.slice A l.length c, l) = mValV [lp.map Fc.f, lq.map Fc.f] from hl, show Arc.fs (.slice pA lp.length pc, lp) = lp.map Fc.f from rfl, e1, i1] at this
        exact this
      have HJ2 : Hid (∀ (A : Option Addr) (c : Nat) (l : List Fc) (W' : World), l.map Fc.f = mValV [lp.map Fc.f, lq.map Fc.f] → ArcV W' (.slice A l.length c, l) → Ext W1 W' → Calls Tryz.prog 40 #[.agg #[.slice A l.length c], .agg #[.slice qA lq.length qc]] W' fun e w' => e = .returned (.tuple #[.bool true, .int .i64 0]) ∧ Ext W' w') := Lib.hid fun A c l W' hl ha h => by
        have := incl_any (.slice A l.length c, l) (.slice qA lq.length qc, lq) W' (HE.out W' h) ha (HQ.out W' h) (n := 10000) (two (show SmL (l.map Fc.f) _ by rw [hl]; exact hsV) (hsq.mono (by decide))) (by decide)
        rw [show Arc.fs (.slice A l.length c, l) = mValV [lp.map Fc.f, lq.map Fc.f] from hl, show Arc.fs (.slice qA lq.length qc, lq) = lq.map Fc.f from rfl, e2, i2] at this
        exact this
      have HJ3 : Hid (∀ W' : World, Ext W1 W' → Calls Tryz.prog 40 #[.agg #[.slice pA lp.length pc], .agg #[.slice pA lp.length pc]] W' fun e w' => e = .returned (.tuple #[.bool true, .int .i64 0]) ∧ Ext W' w') := Lib.hid fun W' h => by
        have := incl_any (.slice pA lp.length pc, lp) (.slice pA lp.length pc, lp) W' (HE.out W' h) (HP.out W' h) (HP.out W' h) (n := 5000) (two hsp hsp) (by decide)
        rw [show Arc.fs (.slice pA lp.length pc, lp) = lp.map Fc.f from rfl, e3, i3] at this
        exact this
      obtain ⟨V, hV⟩ : ∃ V, mValV [lp.map Fc.f, lq.map Fc.f] = V := ⟨_, rfl⟩
      simp only [hV] at HM HJ1 HJ2
      clear hlb hall hwall hpw hqw hE hx1 hp hq hpr hqr hpd hqd hpn hqn hpk hqk hsm hsp hsq hsV hI hok hZ e1 e2 e3 i1 i2 i3 hV
      go_enter Tryz.func13, Tryz.ntmps13
      go_wp2_with (first
        | (go_at_call 32; (have hz := HLG.out); (with_reducible refine Calls.mono hz ?_); clear hz; rintro e w1 ⟨rfl, hx2⟩; (have hx3 := ((Ext.refl W1).alloc (.cells #[.slice pA lp.length pc, .slice qA lq.length qc] 46)).trans hx2); (obtain ⟨n0, n1⟩ := HC.out _ hx3))
        | (go_at_call 40; (have hz := HI1.out _ hx3); (with_reducible refine Calls.mono hz ?_); clear hz; rintro e w2 ⟨rfl, hx4⟩; (have hx5 := hx3.trans hx4); clear n0 n1; (obtain ⟨m0, m1⟩ := HC.out _ hx5))
        | (go_at_call 41; (have hz := HI2.out _ hx5); (with_reducible refine Calls.mono hz ?_); clear hz; rintro e w3 ⟨rfl, hx6⟩; (have hx7 := hx5.trans hx6); clear m0 m1; (obtain ⟨n0, n1⟩ := HC.out _ hx7))
        | (go_at_call 34; (have hz := HM.out _ hx7); (with_reducible refine Calls.mono hz ?_); clear hz; rintro e w4 ⟨rA, rc, rl, rfl, hrv, hra, hx8⟩; (have HRV := Lib.hid hrv); clear hrv n0 n1; (have hx9 := ((Ext.refl w3).alloc (.cells #[.slice pA lp.length pc, .slice qA lq.length qc] 46)).trans hx8); (have hxa : Ext W1 (w4.alloc (.cells #[.slice rA rl.length rc] 46)) := (hx7.trans hx9).alloc _); (obtain ⟨n0, n1⟩ := HC.out _ hxa); (have hra2 := hra.ext ((Ext.refl w4).alloc (.cells #[.slice rA rl.length rc] 46))))
        | (go_at_call 40; (have hz := HJ1.out _ _ rl _ HRV.out hra2 hxa); (with_reducible refine Calls.mono hz ?_); clear hz; rintro e w5 ⟨rfl, hxb⟩; clear n0 n1; (have hxc := hxa.trans hxb); (obtain ⟨n0, n1⟩ := HC.out _ hxc); (have b0 := hxb.boxed 0 _ rfl); (have hra3 := hra2.ext hxb))
        | (go_at_call 40; (have hz := HJ2.out _ _ rl _ HRV.out hra3 hxc); (with_reducible refine Calls.mono hz ?_); clear hz; rintro e w6 ⟨rfl, hxd⟩; clear n0 n1; (have hxe := hxc.trans hxd); (obtain ⟨n0, n1⟩ := HC.out _ hxe))
        | (go_at_call 40; (have hz := HJ3.out _ hxe); (with_reducible refine Calls.mono hz ?_); clear hz; rintro e w7 ⟨rfl, hxf⟩)
        | (go_at_call 33; (have hz := HAL.out _ (hxe.trans hxf)); (with_reducible refine Calls.mono hz ?_); clear hz; rintro e w8 ⟨rfl, hxg⟩))
      go_ret
      exact ⟨rfl, HX1.out.trans ((hxe.trans hxf).trans hxg)⟩
end Go.Proofs.YtgecijhgonfldaaGreatDoor
