/- MergeIsSemilattice: the law's contract. -/
import Derived.Test.YtgecijhgonfldaaGreatDoorQ33
namespace Go.Proofs.YtgecijhgonfldaaGreatDoor
open Go Go.RowKit
set_option linter.unusedVariables false

set_option maxRecDepth 100000 in
set_option maxHeartbeats 8000000 in
theorem law9_any (vp : Value) (lp : List Fc) (vq : Value) (lq : List Fc) (vr : Value) (lr : List Fc) (w : World) (hE : Env w) (hpr : RFcs w vp lp) (hpd : ∀ y ∈ lp, RdC w y) (hpn : lp.length ≤ reachBytes) (hpk : ∀ y ∈ lp, fwide y.f) (hqr : RFcs w vq lq) (hqd : ∀ y ∈ lq, RdC w y) (hqn : lq.length ≤ reachBytes) (hqk : ∀ y ∈ lq, fwide y.f) (hrr : RFcs w vr lr) (hrd : ∀ y ∈ lr, RdC w y) (hrn : lr.length ≤ reachBytes) (hrk : ∀ y ∈ lr, fwide y.f) :
    Calls Tryz.prog 11 #[.agg #[vp], .agg #[vq], .agg #[vr]] w fun e w' => e = .returned (.bool true) ∧ Ext w w' := by
  have hp : ArcV w (vp, lp) := ⟨hpr, hpd⟩
  obtain ⟨pA, pc, hpf⟩ := hp.form
  have hpw : arcWide (vp, lp) := ⟨hpn, hpk⟩
  dsimp only at hpf
  subst hpf
  have hq : ArcV w (vq, lq) := ⟨hqr, hqd⟩
  obtain ⟨qA, qc, hqf⟩ := hq.form
  have hqw : arcWide (vq, lq) := ⟨hqn, hqk⟩
  dsimp only at hqf
  subst hqf
  have hr : ArcV w (vr, lr) := ⟨hrr, hrd⟩
  obtain ⟨rA, rc, hrf⟩ := hr.form
  have hrw : arcWide (vr, lr) := ⟨hrn, hrk⟩
  dsimp only at hrf
  subst hrf
  obtain ⟨W1, hW1⟩ : ∃ W1, (((((w.alloc (.cells #[.slice pA lp.length pc] 46))).alloc (.cells #[.slice qA lq.length qc] 46))).alloc (.cells #[.slice rA lr.length rc] 46)) = W1 := ⟨_, rfl⟩
  have hx1 : Ext w W1 := by rw [← hW1]; exact (((Ext.refl _).alloc _).alloc _).alloc _
  have cp : W1.cell? ⟨w.heap.size, 0, none⟩ = some (.slice pA lp.length pc) := by rw [← hW1]; exact (((Ext.refl _).alloc (.cells #[.slice qA lq.length qc] 46)).alloc (.cells #[.slice rA lr.length rc] 46)).boxed 0 _ rfl
  have cq : W1.cell? ⟨w.heap.size + 1, 0, none⟩ = some (.slice qA lq.length qc) := by
    have := Ext.boxed (w := (w.alloc (.cells #[.slice pA lp.length pc] 46))) ((Ext.refl ((w.alloc (.cells #[.slice pA lp.length pc] 46)).alloc (.cells #[.slice qA lq.length qc] 46))).alloc (.cells #[.slice rA lr.length rc] 46)) 0 (.slice qA lq.length qc) rfl
    simp only [size_alloc] at this
    rw [hW1] at this
    exact this
  have cr : W1.cell? ⟨w.heap.size + 1 + 1, 0, none⟩ = some (.slice rA lr.length rc) := by
    have := Ext.boxed (w := ((w.alloc (.cells #[.slice pA lp.length pc] 46)).alloc (.cells #[.slice qA lq.length qc] 46))) (Ext.refl (((w.alloc (.cells #[.slice pA lp.length pc] 46)).alloc (.cells #[.slice qA lq.length qc] 46)).alloc (.cells #[.slice rA lr.length rc] 46))) 0 (.slice rA lr.length rc) rfl
    simp only [size_alloc] at this
    rw [hW1] at this
    exact this
  have HC : Hid (∀ W' : World, Ext W1 W' → W'.cell? ⟨w.heap.size, 0, none⟩ = some (.slice pA lp.length pc) ∧ W'.cell? ⟨w.heap.size + 1, 0, none⟩ = some (.slice qA lq.length qc) ∧ W'.cell? ⟨w.heap.size + 1 + 1, 0, none⟩ = some (.slice rA lr.length rc)) := Lib.hid fun W' h => ⟨h.cell cp, h.cell cq, h.cell cr⟩
  have HE := Lib.hid (fun (W' : World) (h : Ext W1 W') => hE.ext (hx1.trans h))
  have HP := Lib.hid (fun (W' : World) (h : Ext W1 W') => hp.ext (hx1.trans h))
  have HQ := Lib.hid (fun (W' : World) (h : Ext W1 W') => hq.ext (hx1.trans h))
  have HR := Lib.hid (fun (W' : World) (h : Ext W1 W') => hr.ext (hx1.trans h))
  have HX1 := Lib.hid hx1
  have HAL := Lib.hid (fun (W' : World) (h : Ext W1 W') => alive15_any W' (hE.ext (hx1.trans h)))
  have hall : ∀ z ∈ [(.slice pA lp.length pc, lp), (.slice qA lq.length qc, lq), (.slice rA lr.length rc, lr)], ArcV W1 z := fun z hz => by
    simp only [List.mem_cons, List.mem_nil_iff, or_false] at hz
    rcases hz with rfl | rfl | rfl
    · exact hp.ext hx1
    · exact hq.ext hx1
    · exact hr.ext hx1
  have hwall : ∀ z ∈ [(.slice pA lp.length pc, lp), (.slice qA lq.length qc, lq), (.slice rA lr.length rc, lr)], arcWide z := fun z hz => by
    simp only [List.mem_cons, List.mem_nil_iff, or_false] at hz
    rcases hz with rfl | rfl | rfl
    · exact hpw
    · exact hqw
    · exact hrw
  have HLG : Hid (Calls Tryz.prog 32 #[.slice (some ⟨W1.heap.size, 0, none⟩) 3 3] (W1.alloc (.cells #[.slice pA lp.length pc, .slice qA lq.length qc, .slice rA lr.length rc] 46)) fun e w' => e = .returned (.bool (largeB [(.slice pA lp.length pc, lp), (.slice qA lq.length qc, lq), (.slice rA lr.length rc, lr)])) ∧ Ext (W1.alloc (.cells #[.slice pA lp.length pc, .slice qA lq.length qc, .slice rA lr.length rc] 46)) w') :=
    Lib.hid (large15_any _ [(.slice pA lp.length pc, lp), (.slice qA lq.length qc, lq), (.slice rA lr.length rc, lr)] _ (arcs_lit [(.slice pA lp.length pc, lp), (.slice qA lq.length qc, lq), (.slice rA lr.length rc, lr)] W1 (by show 3 ≤ 1000; decide)) (fun z hz => (hall z hz).ext ((Ext.refl _).alloc _)) hwall (by show 3 ≤ reachBytes; decide))
  have hKp := fun (W' : World) (h : Ext W1 W') (hs : SmL (lp.map Fc.f) 5000) => arcCheck (.slice pA lp.length pc, lp) W' (HP.out W' h) hs (by decide)
  have hKq := fun (W' : World) (h : Ext W1 W') (hs : SmL (lq.map Fc.f) 5000) => arcCheck (.slice qA lq.length qc, lq) W' (HQ.out W' h) hs (by decide)
  have hKr := fun (W' : World) (h : Ext W1 W') (hs : SmL (lr.map Fc.f) 5000) => arcCheck (.slice rA lr.length rc, lr) W' (HR.out W' h) hs (by decide)
  cases hlb : largeB [(.slice pA lp.length pc, lp), (.slice qA lq.length qc, lq), (.slice rA lr.length rc, lr)] with
  | true =>
    rw [hlb] at HLG
    clear hpw hp hpr hpd hpn hpk hqw hq hqr hqd hqn hqk hrw hr hrr hrd hrn hrk hall hwall hE hx1 hlb hKp hKq hKr
    go_enter Tryz.func11, Tryz.ntmps11
    go_wp2_with (first
      | (go_at_call 32; (have hz := HLG.out); (with_reducible refine Calls.mono hz ?_); clear hz; rintro e w1 ⟨rfl, hx2⟩; (have hx3 := ((Ext.refl W1).alloc (.cells #[.slice pA lp.length pc, .slice qA lq.length qc, .slice rA lr.length rc] 46)).trans hx2))
      | (go_at_call 33; (have hz := HAL.out _ hx3); (with_reducible refine Calls.mono hz ?_); clear hz; rintro e w2 ⟨rfl, hx4⟩))
    go_ret
    exact ⟨rfl, HX1.out.trans (hx3.trans hx4)⟩
  | false =>
    rw [hlb] at HLG
    have hsm := largeB_sm hlb hwall
    have hsp : SmL (lp.map Fc.f) 5000 := hsm (.slice pA lp.length pc, lp) (by simp)
    have HKp : Hid (∀ W' : World, Ext W1 W' → Calls Tryz.prog 28 #[.agg #[.slice pA lp.length pc]] W' fun e w' => e = .returned (.int .i64 (if okA (lp.map Fc.f) = true then 0 else 22)) ∧ Ext W' w') := Lib.hid fun W' h => hKp W' h hsp
    have hsq : SmL (lq.map Fc.f) 5000 := hsm (.slice qA lq.length qc, lq) (by simp)
    have HKq : Hid (∀ W' : World, Ext W1 W' → Calls Tryz.prog 28 #[.agg #[.slice qA lq.length qc]] W' fun e w' => e = .returned (.int .i64 (if okA (lq.map Fc.f) = true then 0 else 22)) ∧ Ext W' w') := Lib.hid fun W' h => hKq W' h hsq
    have hsr : SmL (lr.map Fc.f) 5000 := hsm (.slice rA lr.length rc, lr) (by simp)
    have HKr : Hid (∀ W' : World, Ext W1 W' → Calls Tryz.prog 28 #[.agg #[.slice rA lr.length rc]] W' fun e w' => e = .returned (.int .i64 (if okA (lr.map Fc.f) = true then 0 else 22)) ∧ Ext W' w') := Lib.hid fun W' h => hKr W' h hsr
    cases hop : okA (lp.map Fc.f) with
    | false =>
      rw [hop] at HKp
      simp only [Bool.false_eq_true, if_false] at HKp
      clear hpw hp hpr hpd hpn hpk hqw hq hqr hqd hqn hqk hrw hr hrr hrd hrn hrk hall hwall hE hx1 hlb hKp hKq hKr hsm hsp hsq hsr hop
      go_enter Tryz.func11, Tryz.ntmps11
      go_wp2_with (first
        | (go_at_call 32; (have hz := HLG.out); (with_reducible refine Calls.mono hz ?_); clear hz; rintro e w1 ⟨rfl, hx2⟩; (have hy0 := ((Ext.refl W1).alloc (.cells #[.slice pA lp.length pc, .slice qA lq.length qc, .slice rA lr.length rc] 46)).trans hx2); (obtain ⟨n0, n1, n2⟩ := HC.out _ hy0))
        | (go_at_call 28; (have hz := HKp.out _ hy0); (with_reducible refine Calls.mono hz ?_); clear hz; rintro e wk0 ⟨rfl, hz0⟩; (have hy1 := hy0.trans hz0); clear n0 n1 n2; (obtain ⟨n0, n1, n2⟩ := HC.out _ hy1))
        | (go_at_call 33; (have hz := HAL.out _ hy1); (with_reducible refine Calls.mono hz ?_); clear hz; rintro e w2 ⟨rfl, hx4⟩))
      go_ret
      exact ⟨rfl, HX1.out.trans (hy1.trans hx4)⟩
    | true =>
      rw [hop] at HKp
      simp only [if_true] at HKp
      cases hoq : okA (lq.map Fc.f) with
      | false =>
        rw [hoq] at HKq
        simp only [Bool.false_eq_true, if_false] at HKq
        clear hpw hp hpr hpd hpn hpk hqw hq hqr hqd hqn hqk hrw hr hrr hrd hrn hrk hall hwall hE hx1 hlb hKp hKq hKr hsm hsp hsq hsr hop hoq
        go_enter Tryz.func11, Tryz.ntmps11
        go_wp2_with (first
          | (go_at_call 32; (have hz := HLG.out); (with_reducible refine Calls.mono hz ?_); clear hz; rintro e w1 ⟨rfl, hx2⟩; (have hy0 := ((Ext.refl W1).alloc (.cells #[.slice pA lp.length pc, .slice qA lq.length qc, .slice rA lr.length rc] 46)).trans hx2); (obtain ⟨n0, n1, n2⟩ := HC.out _ hy0))
          | (go_at_call 28; (have hz := HKp.out _ hy0); (with_reducible refine Calls.mono hz ?_); clear hz; rintro e wk0 ⟨rfl, hz0⟩; (have hy1 := hy0.trans hz0); clear n0 n1 n2; (obtain ⟨n0, n1, n2⟩ := HC.out _ hy1))
          | (go_at_call 28; (have hz := HKq.out _ hy1); (with_reducible refine Calls.mono hz ?_); clear hz; rintro e wk1 ⟨rfl, hz1⟩; (have hy2 := hy1.trans hz1); clear n0 n1 n2; (obtain ⟨n0, n1, n2⟩ := HC.out _ hy2))
          | (go_at_call 33; (have hz := HAL.out _ hy2); (with_reducible refine Calls.mono hz ?_); clear hz; rintro e w2 ⟨rfl, hx4⟩))
        go_ret
        exact ⟨rfl, HX1.out.trans (hy2.trans hx4)⟩
      | true =>
        rw [hoq] at HKq
        simp only [if_true] at HKq
        cases hor : okA (lr.map Fc.f) with
        | false =>
          rw [hor] at HKr
          simp only [Bool.false_eq_true, if_false] at HKr
          clear hpw hp hpr hpd hpn hpk hqw hq hqr hqd hqn hqk hrw hr hrr hrd hrn hrk hall hwall hE hx1 hlb hKp hKq hKr hsm hsp hsq hsr hop hoq hor
          go_enter Tryz.func11, Tryz.ntmps11
          go_wp2_with (first
            | (go_at_call 32; (have hz := HLG.out); (with_reducible refine Calls.mono hz ?_); clear hz; rintro e w1 ⟨rfl, hx2⟩; (have hy0 := ((Ext.refl W1).alloc (.cells #[.slice pA lp.length pc, .slice qA lq.length qc, .slice rA lr.length rc] 46)).trans hx2); (obtain ⟨n0, n1, n2⟩ := HC.out _ hy0))
            | (go_at_call 28; (have hz := HKp.out _ hy0); (with_reducible refine Calls.mono hz ?_); clear hz; rintro e wk0 ⟨rfl, hz0⟩; (have hy1 := hy0.trans hz0); clear n0 n1 n2; (obtain ⟨n0, n1, n2⟩ := HC.out _ hy1))
            | (go_at_call 28; (have hz := HKq.out _ hy1); (with_reducible refine Calls.mono hz ?_); clear hz; rintro e wk1 ⟨rfl, hz1⟩; (have hy2 := hy1.trans hz1); clear n0 n1 n2; (obtain ⟨n0, n1, n2⟩ := HC.out _ hy2))
            | (go_at_call 28; (have hz := HKr.out _ hy2); (with_reducible refine Calls.mono hz ?_); clear hz; rintro e wk2 ⟨rfl, hz2⟩; (have hy3 := hy2.trans hz2); clear n0 n1 n2; (obtain ⟨n0, n1, n2⟩ := HC.out _ hy3))
            | (go_at_call 33; (have hz := HAL.out _ hy3); (with_reducible refine Calls.mono hz ?_); clear hz; rintro e w2 ⟨rfl, hx4⟩))
          go_ret
          exact ⟨rfl, HX1.out.trans (hy3.trans hx4)⟩
        | true =>
          rw [hor] at HKr
          simp only [if_true] at HKr
          obtain ⟨g1, g2, g3, g4, g5⟩ := semi_facts hop hoq hor
          obtain ⟨f1, f2, f3, f4, f5, f6, f7, f8⟩ := semi_errs hop hoq hor
          have sV : SmL (mValV [lp.map Fc.f, lq.map Fc.f]) 15000 := (smL_valV (by simpa using hsp.app hsq)).mono (by decide)
          have sW : SmL (mValV [lq.map Fc.f, lr.map Fc.f]) 15000 := (smL_valV (by simpa using hsq.app hsr)).mono (by decide)
          have sX : SmL (mValV [lp.map Fc.f, lq.map Fc.f, lr.map Fc.f]) 15000 := (smL_valV (by simpa using hsp.app (hsq.app hsr))).mono (by decide)
          have two : ∀ {a b : Arc}, SmL a.fs 15000 → SmL b.fs 15000 → ∀ z ∈ [a, b], SmL z.fs 15000 := fun ha hb z hz => by
            simp only [List.mem_cons, List.mem_nil_iff, or_false] at hz
            rcases hz with rfl | rfl
            · exact ha
            · exact hb
          have twoV : ∀ {a b : Arc} {W' : World}, ArcV W' a → ArcV W' b → ∀ z ∈ [a, b], ArcV W' z := fun ha hb z hz => by
            simp only [List.mem_cons, List.mem_nil_iff, or_false] at hz
            rcases hz with rfl | rfl
            · exact ha
            · exact hb
          have kp : SmL (lp.map Fc.f) 15000 := hsp.mono (by decide)
          have kq : SmL (lq.map Fc.f) 15000 := hsq.mono (by decide)
          have kr : SmL (lr.map Fc.f) 15000 := hsr.mono (by decide)
          have k0 : SmL ([] : List Fd) 15000 := SmL.nil.mono (by decide)
          obtain ⟨VV, hVV⟩ : ∃ X, mValV [lp.map Fc.f, lq.map Fc.f] = X := ⟨_, rfl⟩
          obtain ⟨WW, hWW⟩ : ∃ X, mValV [lq.map Fc.f, lr.map Fc.f] = X := ⟨_, rfl⟩
          obtain ⟨XX, hXX⟩ : ∃ X, mValV [lp.map Fc.f, lq.map Fc.f, lr.map Fc.f] = X := ⟨_, rfl⟩
          rw [hVV] at g1 g2 f4 sV
          rw [hWW] at g3 f5 sW
          rw [hXX] at g2 g3 sX
          have M1 : Hid (∀ (W' : World), Ext W1 W' → Calls Tryz.prog 34 #[.slice (some ⟨W'.heap.size, 0, none⟩) 2 2] (W'.alloc (.cells #[.slice pA lp.length pc, .slice qA lq.length qc] 46)) (fun e w' => ∃ (A : Option Addr) (c : Nat) (l : List Fc), e = .returned (.tuple #[.agg #[.slice A l.length c], .int .i64 0]) ∧ l.map Fc.f = VV ∧ ArcV w' (.slice A l.length c, l) ∧ Ext (W'.alloc (.cells #[.slice pA lp.length pc, .slice qA lq.length qc] 46)) w')) := Lib.hid fun W' h => by
            have := merge_lit [(.slice pA lp.length pc, lp), (.slice qA lq.length qc, lq)] W' (HE.out W' h) (twoV (HP.out W' h) (HQ.out W' h)) (n := 15000) (two kp kq) (by show 15000 * 2 ≤ 1000000; decide) (by show 2 ≤ 1000; decide)
            unfold MrgPost at this
            rw [show List.map Arc.fs [(.slice pA lp.length pc, lp), (.slice qA lq.length qc, lq)] = [lp.map Fc.f, lq.map Fc.f] from rfl, f1, hVV] at this
            exact this
          have M2 : Hid (∀ (W' : World), Ext W1 W' → Calls Tryz.prog 34 #[.slice (some ⟨W'.heap.size, 0, none⟩) 2 2] (W'.alloc (.cells #[.slice qA lq.length qc, .slice pA lp.length pc] 46)) (fun e w' => ∃ (A : Option Addr) (c : Nat) (l : List Fc), e = .returned (.tuple #[.agg #[.slice A l.length c], .int .i64 0]) ∧ l.map Fc.f = VV ∧ ArcV w' (.slice A l.length c, l) ∧ Ext (W'.alloc (.cells #[.slice qA lq.length qc, .slice pA lp.length pc] 46)) w')) := Lib.hid fun W' h => by
            have := merge_lit [(.slice qA lq.length qc, lq), (.slice pA lp.length pc, lp)] W' (HE.out W' h) (twoV (HQ.out W' h) (HP.out W' h)) (n := 15000) (two kq kp) (by show 15000 * 2 ≤ 1000000; decide) (by show 2 ≤ 1000; decide)
            unfold MrgPost at this
            rw [show List.map Arc.fs [(.slice qA lq.length qc, lq), (.slice pA lp.length pc, lp)] = [lq.map Fc.f, lp.map Fc.f] from rfl, f2, g1] at this
            exact this
          have M3 : Hid (∀ (W' : World), Ext W1 W' → Calls Tryz.prog 34 #[.slice (some ⟨W'.heap.size, 0, none⟩) 2 2] (W'.alloc (.cells #[.slice qA lq.length qc, .slice rA lr.length rc] 46)) (fun e w' => ∃ (A : Option Addr) (c : Nat) (l : List Fc), e = .returned (.tuple #[.agg #[.slice A l.length c], .int .i64 0]) ∧ l.map Fc.f = WW ∧ ArcV w' (.slice A l.length c, l) ∧ Ext (W'.alloc (.cells #[.slice qA lq.length qc, .slice rA lr.length rc] 46)) w')) := Lib.hid fun W' h => by
            have := merge_lit [(.slice qA lq.length qc, lq), (.slice rA lr.length rc, lr)] W' (HE.out W' h) (twoV (HQ.out W' h) (HR.out W' h)) (n := 15000) (two kq kr) (by show 15000 * 2 ≤ 1000000; decide) (by show 2 ≤ 1000; decide)
            unfold MrgPost at this
            rw [show List.map Arc.fs [(.slice qA lq.length qc, lq), (.slice rA lr.length rc, lr)] = [lq.map Fc.f, lr.map Fc.f] from rfl, f3, hWW] at this
            exact this
          have M4 : Hid (∀ (Ai : Option Addr) (ci : Nat) (li : List Fc) (W' : World), Ext W1 W' → li.map Fc.f = VV → ArcV W' (.slice Ai li.length ci, li) → Calls Tryz.prog 34 #[.slice (some ⟨W'.heap.size, 0, none⟩) 2 2] (W'.alloc (.cells #[.slice Ai li.length ci, .slice rA lr.length rc] 46)) (fun e w' => ∃ (A : Option Addr) (c : Nat) (l : List Fc), e = .returned (.tuple #[.agg #[.slice A l.length c], .int .i64 0]) ∧ l.map Fc.f = XX ∧ ArcV w' (.slice A l.length c, l) ∧ Ext (W'.alloc (.cells #[.slice Ai li.length ci, .slice rA lr.length rc] 46)) w')) := Lib.hid fun Ai ci li W' h hl ha => by
            have := merge_lit [(.slice Ai li.length ci, li), (.slice rA lr.length rc, lr)] W' (HE.out W' h) (twoV ha (HR.out W' h)) (n := 15000) (two (show SmL (li.map Fc.f) _ by rw [hl]; exact sV) kr) (by show 15000 * 2 ≤ 1000000; decide) (by show 2 ≤ 1000; decide)
            unfold MrgPost at this
            rw [show List.map Arc.fs [(.slice Ai li.length ci, li), (.slice rA lr.length rc, lr)] = [li.map Fc.f, lr.map Fc.f] from rfl, hl, f4, g2] at this
            exact this
          have M5 : Hid (∀ (Ai : Option Addr) (ci : Nat) (li : List Fc) (W' : World), Ext W1 W' → li.map Fc.f = WW → ArcV W' (.slice Ai li.length ci, li) → Calls Tryz.prog 34 #[.slice (some ⟨W'.heap.size, 0, none⟩) 2 2] (W'.alloc (.cells #[.slice pA lp.length pc, .slice Ai li.length ci] 46)) (fun e w' => ∃ (A : Option Addr) (c : Nat) (l : List Fc), e = .returned (.tuple #[.agg #[.slice A l.length c], .int .i64 0]) ∧ l.map Fc.f = XX ∧ ArcV w' (.slice A l.length c, l) ∧ Ext (W'.alloc (.cells #[.slice pA lp.length pc, .slice Ai li.length ci] 46)) w')) := Lib.hid fun Ai ci li W' h hl ha => by
            have := merge_lit [(.slice pA lp.length pc, lp), (.slice Ai li.length ci, li)] W' (HE.out W' h) (twoV (HP.out W' h) ha) (n := 15000) (two kp (show SmL (li.map Fc.f) _ by rw [hl]; exact sW)) (by show 15000 * 2 ≤ 1000000; decide) (by show 2 ≤ 1000; decide)
            unfold MrgPost at this
            rw [show List.map Arc.fs [(.slice pA lp.length pc, lp), (.slice Ai li.length ci, li)] = [lp.map Fc.f, li.map Fc.f] from rfl, hl, f5, g3] at this
            exact this
          have M6 : Hid (∀ (W' : World), Ext W1 W' → Calls Tryz.prog 34 #[.slice (some ⟨W'.heap.size, 0, none⟩) 3 3] (W'.alloc (.cells #[.slice pA lp.length pc, .slice qA lq.length qc, .slice rA lr.length rc] 46)) (fun e w' => ∃ (A : Option Addr) (c : Nat) (l : List Fc), e = .returned (.tuple #[.agg #[.slice A l.length c], .int .i64 0]) ∧ l.map Fc.f = XX ∧ ArcV w' (.slice A l.length c, l) ∧ Ext (W'.alloc (.cells #[.slice pA lp.length pc, .slice qA lq.length qc, .slice rA lr.length rc] 46)) w')) := Lib.hid fun W' h => by
            have := merge_lit [(.slice pA lp.length pc, lp), (.slice qA lq.length qc, lq), (.slice rA lr.length rc, lr)] W' (HE.out W' h) (fun z hz => (hall z hz).ext h) (n := 15000) (fun z hz => (hsm z hz).mono (by decide)) (by show 15000 * 3 ≤ 1000000; decide) (by show 3 ≤ 1000; decide)
            unfold MrgPost at this
            rw [show List.map Arc.fs [(.slice pA lp.length pc, lp), (.slice qA lq.length qc, lq), (.slice rA lr.length rc, lr)] = [lp.map Fc.f, lq.map Fc.f, lr.map Fc.f] from rfl, f6, hXX] at this
            exact this
          have M7 : Hid (∀ (W' : World), Ext W1 W' → Calls Tryz.prog 34 #[.slice (some ⟨W'.heap.size, 0, none⟩) 2 2] (W'.alloc (.cells #[.slice pA lp.length pc, .slice pA lp.length pc] 46)) (fun e w' => ∃ (A : Option Addr) (c : Nat) (l : List Fc), e = .returned (.tuple #[.agg #[.slice A l.length c], .int .i64 0]) ∧ l.map Fc.f = lp.map Fc.f ∧ ArcV w' (.slice A l.length c, l) ∧ Ext (W'.alloc (.cells #[.slice pA lp.length pc, .slice pA lp.length pc] 46)) w')) := Lib.hid fun W' h => by
            have := merge_lit [(.slice pA lp.length pc, lp), (.slice pA lp.length pc, lp)] W' (HE.out W' h) (twoV (HP.out W' h) (HP.out W' h)) (n := 15000) (two kp kp) (by show 15000 * 2 ≤ 1000000; decide) (by show 2 ≤ 1000; decide)
            unfold MrgPost at this
            rw [show List.map Arc.fs [(.slice pA lp.length pc, lp), (.slice pA lp.length pc, lp)] = [lp.map Fc.f, lp.map Fc.f] from rfl, f7, g4] at this
            exact this
          have M8 : Hid (∀ (W' : World), Ext W1 W' → Calls Tryz.prog 34 #[.slice (some ⟨W'.heap.size, 0, none⟩) 2 2] (W'.alloc (.cells #[.slice none 0 0, .slice pA lp.length pc] 46)) (fun e w' => ∃ (A : Option Addr) (c : Nat) (l : List Fc), e = .returned (.tuple #[.agg #[.slice A l.length c], .int .i64 0]) ∧ l.map Fc.f = lp.map Fc.f ∧ ArcV w' (.slice A l.length c, l) ∧ Ext (W'.alloc (.cells #[.slice none 0 0, .slice pA lp.length pc] 46)) w')) := Lib.hid fun W' h => by
            have := merge_lit [(.slice none 0 0, []), (.slice pA lp.length pc, lp)] W' (HE.out W' h) (twoV (ArcV.nil W') (HP.out W' h)) (n := 15000) (two k0 kp) (by show 15000 * 2 ≤ 1000000; decide) (by show 2 ≤ 1000; decide)
            unfold MrgPost at this
            rw [show List.map Arc.fs [(.slice none 0 0, []), (.slice pA lp.length pc, lp)] = [[], lp.map Fc.f] from rfl, f8, g5] at this
            exact this
          have HEQ : ∀ X : List Fd, SmL X 15000 → ∀ (A : Option Addr) (c : Nat) (l : List Fc) (B : Option Addr) (d : Nat) (m : List Fc) (W' : World), l.map Fc.f = X → m.map Fc.f = X → ArcV W' (.slice A l.length c, l) → ArcV W' (.slice B m.length d, m) → Calls Tryz.prog 27 #[.agg #[.slice A l.length c], .agg #[.slice B m.length d]] W' fun e w' => e = .returned (.bool true) ∧ Ext W' w' := fun X hX A c l B d m W' h1 h2 h3 h4 => by
            have := arcEq (.slice A l.length c, l) (.slice B m.length d, m) W' h3 h4 (n := 15000) (by show SmL (l.map Fc.f) _; rw [h1]; exact hX) (by decide)
            rwa [decide_eq_true (show Arc.fs (.slice A l.length c, l) = Arc.fs (.slice B m.length d, m) from h1.trans h2.symm)] at this
          have EV := Lib.hid (HEQ VV sV)
          have EX := Lib.hid (HEQ XX sX)
          have EP := Lib.hid (HEQ _ kp)
          clear hpw hp hpr hpd hpn hpk hqw hq hqr hqd hqn hqk hrw hr hrr hrd hrn hrk hall hwall hE hx1 hlb hKp hKq hKr hsm hsp hsq hsr hop hoq hor two twoV kp kq kr k0 g1 g2 g3 g4 g5 f1 f2 f3 f4 f5 f6 f7 f8 sV sW sX HEQ hVV hWW hXX
          have HP2 := Lib.hid (fun (W' : World) (h : Ext W1 W') => HP.out W' h)
          go_enter Tryz.func11, Tryz.ntmps11
          go_wp2_with (first
              | (go_at_call 32; (have hz := HLG.out); (with_reducible refine Calls.mono hz ?_); clear hz; rintro e w1 ⟨rfl, hx2⟩; (have hy0 := ((Ext.refl W1).alloc (.cells #[.slice pA lp.length pc, .slice qA lq.length qc, .slice rA lr.length rc] 46)).trans hx2); (obtain ⟨n0, n1, n2⟩ := HC.out _ hy0))
              | (go_at_call 28; (have hz := HKp.out _ hy0); (with_reducible refine Calls.mono hz ?_); clear hz; rintro e wk0 ⟨rfl, hz0⟩; (have hy1 := hy0.trans hz0); clear n0 n1 n2; (obtain ⟨n0, n1, n2⟩ := HC.out _ hy1))
              | (go_at_call 28; (have hz := HKq.out _ hy1); (with_reducible refine Calls.mono hz ?_); clear hz; rintro e wk1 ⟨rfl, hz1⟩; (have hy2 := hy1.trans hz1); clear n0 n1 n2; (obtain ⟨n0, n1, n2⟩ := HC.out _ hy2))
              | (go_at_call 28; (have hz := HKr.out _ hy2); (with_reducible refine Calls.mono hz ?_); clear hz; rintro e wk2 ⟨rfl, hz2⟩; (have hy3 := hy2.trans hz2); clear n0 n1 n2; (obtain ⟨n0, n1, n2⟩ := HC.out _ hy3))
              | (go_at_call 34; (have hz := M1.out _ hy3); (with_reducible refine Calls.mono hz ?_); clear hz; rintro e w1 ⟨A1, c1, l1, rfl, hv1', ha1', hxx⟩; (have hv1 := Lib.hid hv1'); clear hv1'; (have hs := ((((Ext.refl _).alloc (.cells #[.slice pA lp.length pc, .slice qA lq.length qc] 46)).trans hxx).alloc (.cells #[.slice A1 l1.length c1] 46))); (have hw1 := hy3.trans hs); (have hb1 := (Ext.refl (w1.alloc (.cells #[.slice A1 l1.length c1] 46))).boxed 0 _ rfl); (have ha1 := ha1'.ext ((Ext.refl w1).alloc (.cells #[.slice A1 l1.length c1] 46))); clear ha1' n0 n1 n2; (obtain ⟨n0, n1, n2⟩ := HC.out _ hw1); clear hs hxx)
              | (go_at_call 34; (have hz := M2.out _ hw1); (simp only [size_alloc] at hz); (with_reducible refine Calls.mono hz ?_); clear hz; rintro e w2 ⟨A2, c2, l2, rfl, hv2', ha2', hxx⟩; (have hv2 := Lib.hid hv2'); clear hv2'; (have hs := ((((Ext.refl _).alloc (.cells #[.slice qA lq.length qc, .slice pA lp.length pc] 46)).trans hxx).alloc (.cells #[.slice A2 l2.length c2] 46))); (have hw2 := hw1.trans hs); (have hb2 := (Ext.refl (w2.alloc (.cells #[.slice A2 l2.length c2] 46))).boxed 0 _ rfl); (have ha2 := ha2'.ext ((Ext.refl w2).alloc (.cells #[.slice A2 l2.length c2] 46))); clear ha2' n0 n1 n2; (obtain ⟨n0, n1, n2⟩ := HC.out _ hw2); (replace hb1 := hs.cell hb1); (replace ha1 := ha1.ext hs); clear hs hxx)
              | (go_at_call 34; (have hz := M3.out _ hw2); (simp only [size_alloc] at hz); (with_reducible refine Calls.mono hz ?_); clear hz; rintro e w3 ⟨A3, c3, l3, rfl, hv3', ha3', hxx⟩; (have hv3 := Lib.hid hv3'); clear hv3'; (have hs := ((((Ext.refl _).alloc (.cells #[.slice qA lq.length qc, .slice rA lr.length rc] 46)).trans hxx).alloc (.cells #[.slice A3 l3.length c3] 46))); (have hw3 := hw2.trans hs); (have hb3 := (Ext.refl (w3.alloc (.cells #[.slice A3 l3.length c3] 46))).boxed 0 _ rfl); (have ha3 := ha3'.ext ((Ext.refl w3).alloc (.cells #[.slice A3 l3.length c3] 46))); clear ha3' n0 n1 n2; (obtain ⟨n0, n1, n2⟩ := HC.out _ hw3); (replace hb1 := hs.cell hb1); (replace ha1 := ha1.ext hs); (replace hb2 := hs.cell hb2); (replace ha2 := ha2.ext hs); clear hs hxx)
              | (go_at_call 34; (have hz := M4.out _ _ l1 _ hw3 hv1.out ha1); (simp only [size_alloc] at hz); (with_reducible refine Calls.mono hz ?_); clear hz; rintro e w4 ⟨A4, c4, l4, rfl, hv4', ha4', hxx⟩; (have hv4 := Lib.hid hv4'); clear hv4'; (have hs := ((((Ext.refl _).alloc (.cells #[.slice A1 l1.length c1, .slice rA lr.length rc] 46)).trans hxx).alloc (.cells #[.slice A4 l4.length c4] 46))); (have hw4 := hw3.trans hs); (have hb4 := (Ext.refl (w4.alloc (.cells #[.slice A4 l4.length c4] 46))).boxed 0 _ rfl); (have ha4 := ha4'.ext ((Ext.refl w4).alloc (.cells #[.slice A4 l4.length c4] 46))); clear ha4' n0 n1 n2; (obtain ⟨n0, n1, n2⟩ := HC.out _ hw4); (replace hb1 := hs.cell hb1); (replace ha1 := ha1.ext hs); (replace hb2 := hs.cell hb2); (replace ha2 := ha2.ext hs); (replace hb3 := hs.cell hb3); (replace ha3 := ha3.ext hs); clear hs hxx)
              | (go_at_call 34; (have hz := M5.out _ _ l3 _ hw4 hv3.out ha3); (simp only [size_alloc] at hz); (with_reducible refine Calls.mono hz ?_); clear hz; rintro e w5 ⟨A5, c5, l5, rfl, hv5', ha5', hxx⟩; (have hv5 := Lib.hid hv5'); clear hv5'; (have hs := ((((Ext.refl _).alloc (.cells #[.slice pA lp.length pc, .slice A3 l3.length c3] 46)).trans hxx).alloc (.cells #[.slice A5 l5.length c5] 46))); (have hw5 := hw4.trans hs); (have hb5 := (Ext.refl (w5.alloc (.cells #[.slice A5 l5.length c5] 46))).boxed 0 _ rfl); (have ha5 := ha5'.ext ((Ext.refl w5).alloc (.cells #[.slice A5 l5.length c5] 46))); clear ha5' n0 n1 n2; (obtain ⟨n0, n1, n2⟩ := HC.out _ hw5); (replace hb1 := hs.cell hb1); (replace ha1 := ha1.ext hs); (replace hb2 := hs.cell hb2); (replace ha2 := ha2.ext hs); (replace hb3 := hs.cell hb3); (replace ha3 := ha3.ext hs); (replace hb4 := hs.cell hb4); (replace ha4 := ha4.ext hs); clear hs hxx)
              | (go_at_call 34; (have hz := M6.out _ hw5); (simp only [size_alloc] at hz); (with_reducible refine Calls.mono hz ?_); clear hz; rintro e w6 ⟨A6, c6, l6, rfl, hv6', ha6', hxx⟩; (have hv6 := Lib.hid hv6'); clear hv6'; (have hs := ((((Ext.refl _).alloc (.cells #[.slice pA lp.length pc, .slice qA lq.length qc, .slice rA lr.length rc] 46)).trans hxx).alloc (.cells #[.slice A6 l6.length c6] 46))); (have hw6 := hw5.trans hs); (have hb6 := (Ext.refl (w6.alloc (.cells #[.slice A6 l6.length c6] 46))).boxed 0 _ rfl); (have ha6 := ha6'.ext ((Ext.refl w6).alloc (.cells #[.slice A6 l6.length c6] 46))); clear ha6' n0 n1 n2; (obtain ⟨n0, n1, n2⟩ := HC.out _ hw6); (replace hb1 := hs.cell hb1); (replace ha1 := ha1.ext hs); (replace hb2 := hs.cell hb2); (replace ha2 := ha2.ext hs); (replace hb3 := hs.cell hb3); (replace ha3 := ha3.ext hs); (replace hb4 := hs.cell hb4); (replace ha4 := ha4.ext hs); (replace hb5 := hs.cell hb5); (replace ha5 := ha5.ext hs); clear hs hxx)
              | (go_at_call 34; (have hz := M7.out _ hw6); (simp only [size_alloc] at hz); (with_reducible refine Calls.mono hz ?_); clear hz; rintro e w7 ⟨A7, c7, l7, rfl, hv7', ha7', hxx⟩; (have hv7 := Lib.hid hv7'); clear hv7'; (have hs := ((((Ext.refl _).alloc (.cells #[.slice pA lp.length pc, .slice pA lp.length pc] 46)).trans hxx).alloc (.cells #[.slice A7 l7.length c7] 46))); (have hw7 := hw6.trans hs); (have hb7 := (Ext.refl (w7.alloc (.cells #[.slice A7 l7.length c7] 46))).boxed 0 _ rfl); (have ha7 := ha7'.ext ((Ext.refl w7).alloc (.cells #[.slice A7 l7.length c7] 46))); clear ha7' n0 n1 n2; (obtain ⟨n0, n1, n2⟩ := HC.out _ hw7); (replace hb1 := hs.cell hb1); (replace ha1 := ha1.ext hs); (replace hb2 := hs.cell hb2); (replace ha2 := ha2.ext hs); (replace hb3 := hs.cell hb3); (replace ha3 := ha3.ext hs); (replace hb4 := hs.cell hb4); (replace ha4 := ha4.ext hs); (replace hb5 := hs.cell hb5); (replace ha5 := ha5.ext hs); (replace hb6 := hs.cell hb6); (replace ha6 := ha6.ext hs); clear hs hxx)
              | (go_at_call 34; (have hz := M8.out _ hw7); (simp only [size_alloc] at hz); (with_reducible refine Calls.mono hz ?_); clear hz; rintro e w8 ⟨A8, c8, l8, rfl, hv8', ha8', hxx⟩; (have hv8 := Lib.hid hv8'); clear hv8'; (have hs := ((((Ext.refl _).alloc (.cells #[.slice none 0 0, .slice pA lp.length pc] 46)).trans hxx).alloc (.cells #[.slice A8 l8.length c8] 46))); (have hw8 := hw7.trans hs); (have hb8 := (Ext.refl (w8.alloc (.cells #[.slice A8 l8.length c8] 46))).boxed 0 _ rfl); (have ha8 := ha8'.ext ((Ext.refl w8).alloc (.cells #[.slice A8 l8.length c8] 46))); clear ha8' n0 n1 n2; (obtain ⟨n0, n1, n2⟩ := HC.out _ hw8); (replace hb1 := hs.cell hb1); (replace ha1 := ha1.ext hs); (replace hb2 := hs.cell hb2); (replace ha2 := ha2.ext hs); (replace hb3 := hs.cell hb3); (replace ha3 := ha3.ext hs); (replace hb4 := hs.cell hb4); (replace ha4 := ha4.ext hs); (replace hb5 := hs.cell hb5); (replace ha5 := ha5.ext hs); (replace hb6 := hs.cell hb6); (replace ha6 := ha6.ext hs); (replace hb7 := hs.cell hb7); (replace ha7 := ha7.ext hs); clear hs hxx)
              | (go_at_call 33; (have hz := HAL.out _ hw8); (with_reducible refine Calls.mono hz ?_); clear hz; rintro e wa ⟨rfl, hs0⟩; (have hw9 := hw8.trans hs0); clear n0 n1 n2; (obtain ⟨n0, n1, n2⟩ := HC.out _ hw9); (replace hb1 := hs0.cell hb1); (replace ha1 := ha1.ext hs0); (replace hb2 := hs0.cell hb2); (replace ha2 := ha2.ext hs0); (replace hb4 := hs0.cell hb4); (replace ha4 := ha4.ext hs0); (replace hb5 := hs0.cell hb5); (replace ha5 := ha5.ext hs0); (replace hb6 := hs0.cell hb6); (replace ha6 := ha6.ext hs0); (replace hb7 := hs0.cell hb7); (replace ha7 := ha7.ext hs0); (replace hb8 := hs0.cell hb8); (replace ha8 := ha8.ext hs0))
              | (go_at_call 27; (have hz := EV.out _ _ l1 _ _ l2 _ hv1.out hv2.out ha1 ha2); (with_reducible refine Calls.mono hz ?_); clear hz; rintro e we0 ⟨rfl, ht0⟩; (have hw10 := hw9.trans ht0); clear n0 n1 n2; (obtain ⟨n0, n1, n2⟩ := HC.out _ hw10); (replace hb1 := ht0.cell hb1); (replace ha1 := ha1.ext ht0); (replace hb2 := ht0.cell hb2); (replace ha2 := ha2.ext ht0); (replace hb4 := ht0.cell hb4); (replace ha4 := ha4.ext ht0); (replace hb5 := ht0.cell hb5); (replace ha5 := ha5.ext ht0); (replace hb6 := ht0.cell hb6); (replace ha6 := ha6.ext ht0); (replace hb7 := ht0.cell hb7); (replace ha7 := ha7.ext ht0); (replace hb8 := ht0.cell hb8); (replace ha8 := ha8.ext ht0))
              | (go_at_call 27; (have hz := EX.out _ _ l4 _ _ l5 _ hv4.out hv5.out ha4 ha5); (with_reducible refine Calls.mono hz ?_); clear hz; rintro e we1 ⟨rfl, ht1⟩; (have hw11 := hw10.trans ht1); clear n0 n1 n2; (obtain ⟨n0, n1, n2⟩ := HC.out _ hw11); (replace hb1 := ht1.cell hb1); (replace ha1 := ha1.ext ht1); (replace hb2 := ht1.cell hb2); (replace ha2 := ha2.ext ht1); (replace hb4 := ht1.cell hb4); (replace ha4 := ha4.ext ht1); (replace hb5 := ht1.cell hb5); (replace ha5 := ha5.ext ht1); (replace hb6 := ht1.cell hb6); (replace ha6 := ha6.ext ht1); (replace hb7 := ht1.cell hb7); (replace ha7 := ha7.ext ht1); (replace hb8 := ht1.cell hb8); (replace ha8 := ha8.ext ht1))
              | (go_at_call 27; (have hz := EX.out _ _ l4 _ _ l6 _ hv4.out hv6.out ha4 ha6); (with_reducible refine Calls.mono hz ?_); clear hz; rintro e we2 ⟨rfl, ht2⟩; (have hw12 := hw11.trans ht2); clear n0 n1 n2; (obtain ⟨n0, n1, n2⟩ := HC.out _ hw12); (replace hb1 := ht2.cell hb1); (replace ha1 := ha1.ext ht2); (replace hb2 := ht2.cell hb2); (replace ha2 := ha2.ext ht2); (replace hb4 := ht2.cell hb4); (replace ha4 := ha4.ext ht2); (replace hb5 := ht2.cell hb5); (replace ha5 := ha5.ext ht2); (replace hb6 := ht2.cell hb6); (replace ha6 := ha6.ext ht2); (replace hb7 := ht2.cell hb7); (replace ha7 := ha7.ext ht2); (replace hb8 := ht2.cell hb8); (replace ha8 := ha8.ext ht2))
              | (go_at_call 27; (have hz := EP.out _ _ l7 _ _ lp _ hv7.out rfl ha7 (HP2.out _ hw12)); (with_reducible refine Calls.mono hz ?_); clear hz; rintro e we3 ⟨rfl, ht3⟩; (have hw13 := hw12.trans ht3); clear n0 n1 n2; (obtain ⟨n0, n1, n2⟩ := HC.out _ hw13); (replace hb1 := ht3.cell hb1); (replace ha1 := ha1.ext ht3); (replace hb2 := ht3.cell hb2); (replace ha2 := ha2.ext ht3); (replace hb4 := ht3.cell hb4); (replace ha4 := ha4.ext ht3); (replace hb5 := ht3.cell hb5); (replace ha5 := ha5.ext ht3); (replace hb6 := ht3.cell hb6); (replace ha6 := ha6.ext ht3); (replace hb7 := ht3.cell hb7); (replace ha7 := ha7.ext ht3); (replace hb8 := ht3.cell hb8); (replace ha8 := ha8.ext ht3))
              | (go_at_call 27; (have hz := EP.out _ _ l8 _ _ lp _ hv8.out rfl ha8 (HP2.out _ hw13)); (with_reducible refine Calls.mono hz ?_); clear hz; rintro e we4 ⟨rfl, ht4⟩; (have hw14 := hw13.trans ht4); clear n0 n1 n2; (obtain ⟨n0, n1, n2⟩ := HC.out _ hw14); (replace hb1 := ht4.cell hb1); (replace ha1 := ha1.ext ht4); (replace hb2 := ht4.cell hb2); (replace ha2 := ha2.ext ht4); (replace hb4 := ht4.cell hb4); (replace ha4 := ha4.ext ht4); (replace hb5 := ht4.cell hb5); (replace ha5 := ha5.ext ht4); (replace hb6 := ht4.cell hb6); (replace ha6 := ha6.ext ht4); (replace hb7 := ht4.cell hb7); (replace ha7 := ha7.ext ht4); (replace hb8 := ht4.cell hb8); (replace ha8 := ha8.ext ht4)))
          go_ret
          exact ⟨rfl, HX1.out.trans hw14⟩
end Go.Proofs.YtgecijhgonfldaaGreatDoor
