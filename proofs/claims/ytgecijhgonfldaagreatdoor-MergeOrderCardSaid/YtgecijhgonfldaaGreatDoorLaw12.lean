/- MergeOrder: the law's contract. -/
import Derived.Test.YtgecijhgonfldaaGreatDoorQ33
namespace Go.Proofs.YtgecijhgonfldaaGreatDoor
open Go Go.RowKit
set_option linter.unusedVariables false

set_option maxRecDepth 100000 in
set_option maxHeartbeats 8000000 in
theorem law12_any (vp : Value) (lp : List Fc) (vq : Value) (lq : List Fc) (vr : Value) (lr : List Fc) (w : World) (hE : Env w) (hpr : RFcs w vp lp) (hpd : ∀ y ∈ lp, RdC w y) (hpn : lp.length ≤ reachBytes) (hpk : ∀ y ∈ lp, fwide y.f) (hqr : RFcs w vq lq) (hqd : ∀ y ∈ lq, RdC w y) (hqn : lq.length ≤ reachBytes) (hqk : ∀ y ∈ lq, fwide y.f) (hrr : RFcs w vr lr) (hrd : ∀ y ∈ lr, RdC w y) (hrn : lr.length ≤ reachBytes) (hrk : ∀ y ∈ lr, fwide y.f) :
    Calls Tryz.prog 14 #[.agg #[vp], .agg #[vq], .agg #[vr]] w fun e w' => e = .returned (.bool true) ∧ Ext w w' := by
  have hp : ArcV w (vp, lp) := ⟨hpr, hpd⟩
  obtain ⟨pA, pc, hpf⟩ := hp.form
  have hpw : arcWide (vp, lp) := ⟨hpn, hpk⟩
  dsimp only at hpf
  subst hpf
  have hq : ArcV w (vq, lq) := ⟨hqr, hqd⟩
  obtain ⟨qA, qc, hqf⟩ := hq.form
  have hqw : arcWide (vq, lq) := ⟨hqn, hqk⟩
  dsimp only at hqf
  subst hqf
  have hr : ArcV w (vr, lr) := ⟨hrr, hrd⟩
  obtain ⟨rA, rc, hrf⟩ := hr.form
  have hrw : arcWide (vr, lr) := ⟨hrn, hrk⟩
  dsimp only at hrf
  subst hrf
  obtain ⟨W1, hW1⟩ : ∃ W1, (((((w.alloc (.cells #[.slice pA lp.length pc] 46))).alloc (.cells #[.slice qA lq.length qc] 46))).alloc (.cells #[.slice rA lr.length rc] 46)) = W1 := ⟨_, rfl⟩
  have hx1 : Ext w W1 := by rw [← hW1]; exact (((Ext.refl _).alloc _).alloc _).alloc _
  have cp : W1.cell? ⟨w.heap.size, 0, none⟩ = some (.slice pA lp.length pc) := by rw [← hW1]; exact (((Ext.refl _).alloc (.cells #[.slice qA lq.length qc] 46)).alloc (.cells #[.slice rA lr.length rc] 46)).boxed 0 _ rfl
  have cq : W1.cell? ⟨w.heap.size + 1, 0, none⟩ = some (.slice qA lq.length qc) := by
    have := Ext.boxed (w := (w.alloc (.cells #[.slice pA lp.length pc] 46))) ((Ext.refl ((w.alloc (.cells #[.slice pA lp.length pc] 46)).alloc (.cells #[.slice qA lq.length qc] 46))).alloc (.cells #[.slice rA lr.length rc] 46)) 0 (.slice qA lq.length qc) rfl
    simp only [size_alloc] at this
    rw [hW1] at this
    exact this
  have cr : W1.cell? ⟨w.heap.size + 1 + 1, 0, none⟩ = some (.slice rA lr.length rc) := by
    have := Ext.boxed (w := ((w.alloc (.cells #[.slice pA lp.length pc] 46)).alloc (.cells #[.slice qA lq.length qc] 46))) (Ext.refl (((w.alloc (.cells #[.slice pA lp.length pc] 46)).alloc (.cells #[.slice qA lq.length qc] 46)).alloc (.cells #[.slice rA lr.length rc] 46))) 0 (.slice rA lr.length rc) rfl
    simp only [size_alloc] at this
    rw [hW1] at this
    exact this
  have HC : Hid (∀ W' : World, Ext W1 W' → W'.cell? ⟨w.heap.size, 0, none⟩ = some (.slice pA lp.length pc) ∧ W'.cell? ⟨w.heap.size + 1, 0, none⟩ = some (.slice qA lq.length qc) ∧ W'.cell? ⟨w.heap.size + 1 + 1, 0, none⟩ = some (.slice rA lr.length rc)) := Lib.hid fun W' h => ⟨h.cell cp, h.cell cq, h.cell cr⟩
  have HE := Lib.hid (fun (W' : World) (h : Ext W1 W') => hE.ext (hx1.trans h))
  have HP := Lib.hid (fun (W' : World) (h : Ext W1 W') => hp.ext (hx1.trans h))
  have HQ := Lib.hid (fun (W' : World) (h : Ext W1 W') => hq.ext (hx1.trans h))
  have HR := Lib.hid (fun (W' : World) (h : Ext W1 W') => hr.ext (hx1.trans h))
  have HX1 := Lib.hid hx1
  have HAL := Lib.hid (fun (W' : World) (h : Ext W1 W') => alive15_any W' (hE.ext (hx1.trans h)))
  have hall : ∀ z ∈ [(.slice pA lp.length pc, lp), (.slice qA lq.length qc, lq), (.slice rA lr.length rc, lr)], ArcV W1 z := fun z hz => by
    simp only [List.mem_cons, List.mem_nil_iff, or_false] at hz
    rcases hz with rfl | rfl | rfl
    · exact hp.ext hx1
    · exact hq.ext hx1
    · exact hr.ext hx1
  have hwall : ∀ z ∈ [(.slice pA lp.length pc, lp), (.slice qA lq.length qc, lq), (.slice rA lr.length rc, lr)], arcWide z := fun z hz => by
    simp only [List.mem_cons, List.mem_nil_iff, or_false] at hz
    rcases hz with rfl | rfl | rfl
    · exact hpw
    · exact hqw
    · exact hrw
  have HLG : Hid (Calls Tryz.prog 32 #[.slice (some ⟨W1.heap.size, 0, none⟩) 3 3] (W1.alloc (.cells #[.slice pA lp.length pc, .slice qA lq.length qc, .slice rA lr.length rc] 46)) fun e w' => e = .returned (.bool (largeB [(.slice pA lp.length pc, lp), (.slice qA lq.length qc, lq), (.slice rA lr.length rc, lr)])) ∧ Ext (W1.alloc (.cells #[.slice pA lp.length pc, .slice qA lq.length qc, .slice rA lr.length rc] 46)) w') :=
    Lib.hid (large15_any _ [(.slice pA lp.length pc, lp), (.slice qA lq.length qc, lq), (.slice rA lr.length rc, lr)] _ (arcs_lit [(.slice pA lp.length pc, lp), (.slice qA lq.length qc, lq), (.slice rA lr.length rc, lr)] W1 (by show 3 ≤ 1000; decide)) (fun z hz => (hall z hz).ext ((Ext.refl _).alloc _)) hwall (by show 3 ≤ reachBytes; decide))
  have hKp := fun (W' : World) (h : Ext W1 W') (hs : SmL (lp.map Fc.f) 5000) => arcCheck (.slice pA lp.length pc, lp) W' (HP.out W' h) hs (by decide)
  have hKq := fun (W' : World) (h : Ext W1 W') (hs : SmL (lq.map Fc.f) 5000) => arcCheck (.slice qA lq.length qc, lq) W' (HQ.out W' h) hs (by decide)
  have hKr := fun (W' : World) (h : Ext W1 W') (hs : SmL (lr.map Fc.f) 5000) => arcCheck (.slice rA lr.length rc, lr) W' (HR.out W' h) hs (by decide)
  cases hlb : largeB [(.slice pA lp.length pc, lp), (.slice qA lq.length qc, lq), (.slice rA lr.length rc, lr)] with
  | true =>
    rw [hlb] at HLG
    clear hpw hp hpr hpd hpn hpk hqw hq hqr hqd hqn hqk hrw hr hrr hrd hrn hrk hall hwall hE hx1 hlb hKp hKq hKr
    go_enter Tryz.func14, Tryz.ntmps14
    go_wp2_with (first
      | (go_at_call 32; (have hz := HLG.out); (with_reducible refine Calls.mono hz ?_); clear hz; rintro e w1 ⟨rfl, hx2⟩; (have hx3 := ((Ext.refl W1).alloc (.cells #[.slice pA lp.length pc, .slice qA lq.length qc, .slice rA lr.length rc] 46)).trans hx2))
      | (go_at_call 33; (have hz := HAL.out _ hx3); (with_reducible refine Calls.mono hz ?_); clear hz; rintro e w2 ⟨rfl, hx4⟩))
    go_ret
    exact ⟨rfl, HX1.out.trans (hx3.trans hx4)⟩
  | false =>
    rw [hlb] at HLG
    have hsm := largeB_sm hlb hwall
    have hsp : SmL (lp.map Fc.f) 5000 := hsm (.slice pA lp.length pc, lp) (by simp)
    have HKp : Hid (∀ W' : World, Ext W1 W' → Calls Tryz.prog 28 #[.agg #[.slice pA lp.length pc]] W' fun e w' => e = .returned (.int .i64 (if okA (lp.map Fc.f) = true then 0 else 22)) ∧ Ext W' w') := Lib.hid fun W' h => hKp W' h hsp
    have hsq : SmL (lq.map Fc.f) 5000 := hsm (.slice qA lq.length qc, lq) (by simp)
    have HKq : Hid (∀ W' : World, Ext W1 W' → Calls Tryz.prog 28 #[.agg #[.slice qA lq.length qc]] W' fun e w' => e = .returned (.int .i64 (if okA (lq.map Fc.f) = true then 0 else 22)) ∧ Ext W' w') := Lib.hid fun W' h => hKq W' h hsq
    have hsr : SmL (lr.map Fc.f) 5000 := hsm (.slice rA lr.length rc, lr) (by simp)
    have HKr : Hid (∀ W' : World, Ext W1 W' → Calls Tryz.prog 28 #[.agg #[.slice rA lr.length rc]] W' fun e w' => e = .returned (.int .i64 (if okA (lr.map Fc.f) = true then 0 else 22)) ∧ Ext W' w') := Lib.hid fun W' h => hKr W' h hsr
    cases hop : okA (lp.map Fc.f) with
    | false =>
      rw [hop] at HKp
      simp only [Bool.false_eq_true, if_false] at HKp
      clear hpw hp hpr hpd hpn hpk hqw hq hqr hqd hqn hqk hrw hr hrr hrd hrn hrk hall hwall hE hx1 hlb hKp hKq hKr hsm hsp hsq hsr hop
      go_enter Tryz.func14, Tryz.ntmps14
      go_wp2_with (first
        | (go_at_call 32; (have hz := HLG.out); (with_reducible refine Calls.mono hz ?_); clear hz; rintro e w1 ⟨rfl, hx2⟩; (have hy0 := ((Ext.refl W1).alloc (.cells #[.slice pA lp.length pc, .slice qA lq.length qc, .slice rA lr.length rc] 46)).trans hx2); (obtain ⟨n0, n1, n2⟩ := HC.out _ hy0))
        | (go_at_call 28; (have hz := HKp.out _ hy0); (with_reducible refine Calls.mono hz ?_); clear hz; rintro e wk0 ⟨rfl, hz0⟩; (have hy1 := hy0.trans hz0); clear n0 n1 n2; (obtain ⟨n0, n1, n2⟩ := HC.out _ hy1))
        | (go_at_call 33; (have hz := HAL.out _ hy1); (with_reducible refine Calls.mono hz ?_); clear hz; rintro e w2 ⟨rfl, hx4⟩))
      go_ret
      exact ⟨rfl, HX1.out.trans (hy1.trans hx4)⟩
    | true =>
      rw [hop] at HKp
      simp only [if_true] at HKp
      cases hoq : okA (lq.map Fc.f) with
      | false =>
        rw [hoq] at HKq
        simp only [Bool.false_eq_true, if_false] at HKq
        clear hpw hp hpr hpd hpn hpk hqw hq hqr hqd hqn hqk hrw hr hrr hrd hrn hrk hall hwall hE hx1 hlb hKp hKq hKr hsm hsp hsq hsr hop hoq
        go_enter Tryz.func14, Tryz.ntmps14
        go_wp2_with (first
          | (go_at_call 32; (have hz := HLG.out); (with_reducible refine Calls.mono hz ?_); clear hz; rintro e w1 ⟨rfl, hx2⟩; (have hy0 := ((Ext.refl W1).alloc (.cells #[.slice pA lp.length pc, .slice qA lq.length qc, .slice rA lr.length rc] 46)).trans hx2); (obtain ⟨n0, n1, n2⟩ := HC.out _ hy0))
          | (go_at_call 28; (have hz := HKp.out _ hy0); (with_reducible refine Calls.mono hz ?_); clear hz; rintro e wk0 ⟨rfl, hz0⟩; (have hy1 := hy0.trans hz0); clear n0 n1 n2; (obtain ⟨n0, n1, n2⟩ := HC.out _ hy1))
          | (go_at_call 28; (have hz := HKq.out _ hy1); (with_reducible refine Calls.mono hz ?_); clear hz; rintro e wk1 ⟨rfl, hz1⟩; (have hy2 := hy1.trans hz1); clear n0 n1 n2; (obtain ⟨n0, n1, n2⟩ := HC.out _ hy2))
          | (go_at_call 33; (have hz := HAL.out _ hy2); (with_reducible refine Calls.mono hz ?_); clear hz; rintro e w2 ⟨rfl, hx4⟩))
        go_ret
        exact ⟨rfl, HX1.out.trans (hy2.trans hx4)⟩
      | true =>
        rw [hoq] at HKq
        simp only [if_true] at HKq
        cases hor : okA (lr.map Fc.f) with
        | false =>
          rw [hor] at HKr
          simp only [Bool.false_eq_true, if_false] at HKr
          clear hpw hp hpr hpd hpn hpk hqw hq hqr hqd hqn hqk hrw hr hrr hrd hrn hrk hall hwall hE hx1 hlb hKp hKq hKr hsm hsp hsq hsr hop hoq hor
          go_enter Tryz.func14, Tryz.ntmps14
          go_wp2_with (first
            | (go_at_call 32; (have hz := HLG.out); (with_reducible refine Calls.mono hz ?_); clear hz; rintro e w1 ⟨rfl, hx2⟩; (have hy0 := ((Ext.refl W1).alloc (.cells #[.slice pA lp.length pc, .slice qA lq.length qc, .slice rA lr.length rc] 46)).trans hx2); (obtain ⟨n0, n1, n2⟩ := HC.out _ hy0))
            | (go_at_call 28; (have hz := HKp.out _ hy0); (with_reducible refine Calls.mono hz ?_); clear hz; rintro e wk0 ⟨rfl, hz0⟩; (have hy1 := hy0.trans hz0); clear n0 n1 n2; (obtain ⟨n0, n1, n2⟩ := HC.out _ hy1))
            | (go_at_call 28; (have hz := HKq.out _ hy1); (with_reducible refine Calls.mono hz ?_); clear hz; rintro e wk1 ⟨rfl, hz1⟩; (have hy2 := hy1.trans hz1); clear n0 n1 n2; (obtain ⟨n0, n1, n2⟩ := HC.out _ hy2))
            | (go_at_call 28; (have hz := HKr.out _ hy2); (with_reducible refine Calls.mono hz ?_); clear hz; rintro e wk2 ⟨rfl, hz2⟩; (have hy3 := hy2.trans hz2); clear n0 n1 n2; (obtain ⟨n0, n1, n2⟩ := HC.out _ hy3))
            | (go_at_call 33; (have hz := HAL.out _ hy3); (with_reducible refine Calls.mono hz ?_); clear hz; rintro e w2 ⟨rfl, hx4⟩))
          go_ret
          exact ⟨rfl, HX1.out.trans (hy3.trans hx4)⟩
        | true =>
          rw [hor] at HKr
          simp only [if_true] at HKr
          have two : ∀ {a b : Arc}, SmL a.fs 5000 → SmL b.fs 5000 → ∀ z ∈ [a, b], SmL z.fs 5000 := fun ha hb z hz => by
            simp only [List.mem_cons, List.mem_nil_iff, or_false] at hz
            rcases hz with rfl | rfl
            · exact ha
            · exact hb
          obtain ⟨hF1, hF2⟩ := order_facts hop hoq hor
          have hIpq : ∀ W' : World, Ext W1 W' → Calls Tryz.prog 40 #[.agg #[.slice pA lp.length pc], .agg #[.slice qA lq.length qc]] W' fun e w' => e = .returned (.tuple #[.bool (inclV (lp.map Fc.f) (lq.map Fc.f)), .int .i64 0]) ∧ Ext W' w' := fun W' h => by
            have := incl_any (.slice pA lp.length pc, lp) (.slice qA lq.length qc, lq) W' (HE.out W' h) (HP.out W' h) (HQ.out W' h) (n := 5000) (two hsp hsq) (by decide)
            rw [show Arc.fs (.slice pA lp.length pc, lp) = lp.map Fc.f from rfl, show Arc.fs (.slice qA lq.length qc, lq) = lq.map Fc.f from rfl, (mV_two hop hoq).1] at this
            exact this
          obtain ⟨PQ, hPQ⟩ : ∃ b, inclV (lp.map Fc.f) (lq.map Fc.f) = b := ⟨_, rfl⟩
          have hIqp : ∀ W' : World, Ext W1 W' → Calls Tryz.prog 40 #[.agg #[.slice qA lq.length qc], .agg #[.slice pA lp.length pc]] W' fun e w' => e = .returned (.tuple #[.bool (inclV (lq.map Fc.f) (lp.map Fc.f)), .int .i64 0]) ∧ Ext W' w' := fun W' h => by
            have := incl_any (.slice qA lq.length qc, lq) (.slice pA lp.length pc, lp) W' (HE.out W' h) (HQ.out W' h) (HP.out W' h) (n := 5000) (two hsq hsp) (by decide)
            rw [show Arc.fs (.slice qA lq.length qc, lq) = lq.map Fc.f from rfl, show Arc.fs (.slice pA lp.length pc, lp) = lp.map Fc.f from rfl, (mV_two hoq hop).1] at this
            exact this
          obtain ⟨QP, hQP⟩ : ∃ b, inclV (lq.map Fc.f) (lp.map Fc.f) = b := ⟨_, rfl⟩
          have hIqr : ∀ W' : World, Ext W1 W' → Calls Tryz.prog 40 #[.agg #[.slice qA lq.length qc], .agg #[.slice rA lr.length rc]] W' fun e w' => e = .returned (.tuple #[.bool (inclV (lq.map Fc.f) (lr.map Fc.f)), .int .i64 0]) ∧ Ext W' w' := fun W' h => by
            have := incl_any (.slice qA lq.length qc, lq) (.slice rA lr.length rc, lr) W' (HE.out W' h) (HQ.out W' h) (HR.out W' h) (n := 5000) (two hsq hsr) (by decide)
            rw [show Arc.fs (.slice qA lq.length qc, lq) = lq.map Fc.f from rfl, show Arc.fs (.slice rA lr.length rc, lr) = lr.map Fc.f from rfl, (mV_two hoq hor).1] at this
            exact this
          obtain ⟨QR, hQR⟩ : ∃ b, inclV (lq.map Fc.f) (lr.map Fc.f) = b := ⟨_, rfl⟩
          have hIpr : ∀ W' : World, Ext W1 W' → Calls Tryz.prog 40 #[.agg #[.slice pA lp.length pc], .agg #[.slice rA lr.length rc]] W' fun e w' => e = .returned (.tuple #[.bool (inclV (lp.map Fc.f) (lr.map Fc.f)), .int .i64 0]) ∧ Ext W' w' := fun W' h => by
            have := incl_any (.slice pA lp.length pc, lp) (.slice rA lr.length rc, lr) W' (HE.out W' h) (HP.out W' h) (HR.out W' h) (n := 5000) (two hsp hsr) (by decide)
            rw [show Arc.fs (.slice pA lp.length pc, lp) = lp.map Fc.f from rfl, show Arc.fs (.slice rA lr.length rc, lr) = lr.map Fc.f from rfl, (mV_two hop hor).1] at this
            exact this
          obtain ⟨PR, hPR⟩ : ∃ b, inclV (lp.map Fc.f) (lr.map Fc.f) = b := ⟨_, rfl⟩
          have hEQ : ∀ W' : World, Ext W1 W' → Calls Tryz.prog 27 #[.agg #[.slice pA lp.length pc], .agg #[.slice qA lq.length qc]] W' fun e w' => e = .returned (.bool (decide (lp.map Fc.f = lq.map Fc.f))) ∧ Ext W' w' := fun W' h => arcEq (.slice pA lp.length pc, lp) (.slice qA lq.length qc, lq) W' (HP.out W' h) (HQ.out W' h) hsp (by decide)
          rw [hPQ, hQP] at hF1
          rw [hPQ, hQR, hPR] at hF2
          rw [← hF1] at hEQ
          rw [hPQ] at hIpq
          have HIpq := Lib.hid hIpq
          rw [hQP] at hIqp
          have HIqp := Lib.hid hIqp
          rw [hQR] at hIqr
          have HIqr := Lib.hid hIqr
          rw [hPR] at hIpr
          have HIpr := Lib.hid hIpr
          have HEQ := Lib.hid hEQ
          clear hpw hp hpr hpd hpn hpk hqw hq hqr hqd hqn hqk hrw hr hrr hrd hrn hrk hall hwall hE hx1 hlb hKp hKq hKr hsm hsp hsq hsr hop hoq hor two hF1 hEQ hIpq hIqp hIqr hIpr hPQ hQP hQR hPR
          go_enter Tryz.func14, Tryz.ntmps14
          go_wp2_with (first
              | (go_at_call 32; (have hz := HLG.out); (with_reducible refine Calls.mono hz ?_); clear hz; rintro e w1 ⟨rfl, hx2⟩; (have hy0 := ((Ext.refl W1).alloc (.cells #[.slice pA lp.length pc, .slice qA lq.length qc, .slice rA lr.length rc] 46)).trans hx2); (obtain ⟨n0, n1, n2⟩ := HC.out _ hy0))
              | (go_at_call 28; (have hz := HKp.out _ hy0); (with_reducible refine Calls.mono hz ?_); clear hz; rintro e wk0 ⟨rfl, hz0⟩; (have hy1 := hy0.trans hz0); clear n0 n1 n2; (obtain ⟨n0, n1, n2⟩ := HC.out _ hy1))
              | (go_at_call 28; (have hz := HKq.out _ hy1); (with_reducible refine Calls.mono hz ?_); clear hz; rintro e wk1 ⟨rfl, hz1⟩; (have hy2 := hy1.trans hz1); clear n0 n1 n2; (obtain ⟨n0, n1, n2⟩ := HC.out _ hy2))
              | (go_at_call 28; (have hz := HKr.out _ hy2); (with_reducible refine Calls.mono hz ?_); clear hz; rintro e wk2 ⟨rfl, hz2⟩; (have hy3 := hy2.trans hz2); clear n0 n1 n2; (obtain ⟨n0, n1, n2⟩ := HC.out _ hy3))
              | (go_at_call 40; (have hz := HIpq.out _ hy3); (with_reducible refine Calls.mono hz ?_); clear hz; rintro e wi0 ⟨rfl, hu0⟩; (have hy4 := hy3.trans hu0); clear n0 n1 n2; (obtain ⟨n0, n1, n2⟩ := HC.out _ hy4))
              | (go_at_call 40; (have hz := HIqp.out _ hy4); (with_reducible refine Calls.mono hz ?_); clear hz; rintro e wi1 ⟨rfl, hu1⟩; (have hy5 := hy4.trans hu1); clear n0 n1 n2; (obtain ⟨n0, n1, n2⟩ := HC.out _ hy5))
              | (go_at_call 40; (have hz := HIqr.out _ hy5); (with_reducible refine Calls.mono hz ?_); clear hz; rintro e wi2 ⟨rfl, hu2⟩; (have hy6 := hy5.trans hu2); clear n0 n1 n2; (obtain ⟨n0, n1, n2⟩ := HC.out _ hy6))
              | (go_at_call 40; (have hz := HIpr.out _ hy6); (with_reducible refine Calls.mono hz ?_); clear hz; rintro e wi3 ⟨rfl, hu3⟩; (have hy7 := hy6.trans hu3); clear n0 n1 n2; (obtain ⟨n0, n1, n2⟩ := HC.out _ hy7)))
          cases PQ <;> cases QP <;> cases QR <;> cases PR
          all_goals first
            | exact absurd (hF2 rfl rfl) (by decide)
            | (clear hF2
               simp only [Bool.and_true, Bool.and_false] at HEQ
               go_wp2_with (first
                 | (go_at_call 33; (have hz := HAL.out _ hy7); (with_reducible refine Calls.mono hz ?_); clear hz; rintro e wa ⟨rfl, hva⟩; (have hy8 := hy7.trans hva); clear n0 n1 n2; (obtain ⟨n0, n1, n2⟩ := HC.out _ hy8))
                 | (go_at_call 27; (have hz := HEQ.out _ hy8); (with_reducible refine Calls.mono hz ?_); clear hz; rintro e wb ⟨rfl, hvb⟩))
               go_ret
               exact ⟨rfl, HX1.out.trans (hy8.trans hvb)⟩)
end Go.Proofs.YtgecijhgonfldaaGreatDoor
