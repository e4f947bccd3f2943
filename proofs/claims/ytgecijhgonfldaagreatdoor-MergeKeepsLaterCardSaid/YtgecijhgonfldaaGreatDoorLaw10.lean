/- MergeKeepsLater: the law's contract. -/
import Derived.Test.YtgecijhgonfldaaGreatDoorQ34
import Derived.Test.YtgecijhgonfldaaGreatDoorQ33
import Derived.Test.YtgecijhgonfldaaGreatDoorQ24
import Derived.Test.YtgecijhgonfldaaGreatDoorQ28
namespace Go.Proofs.YtgecijhgonfldaaGreatDoor
open Go Go.RowKit
set_option linter.unusedVariables false

theorem REnts.ext' {w w' : World} {v : Value} {l : List Ent} (h : REnts w v l) (hx : Ext w w') : REnts w' v l := RSl.ext h hx
/-- two entries are one, or differ in a first field -/
theorem ent_split (i1 t1 l1 c1 : ByteArray) (u1 : Int) (i2 t2 l2 c2 : ByteArray) (u2 : Int) : (⟨i1, t1, l1, c1, u1⟩ : Ent) = ⟨i2, t2, l2, c2, u2⟩ ∨
    ((i1.toList == i2.toList) = false ∨ (i1 = i2 ∧ ((t1.toList == t2.toList) = false ∨ (t1 = t2 ∧ ((l1.toList == l2.toList) = false ∨ (l1 = l2 ∧ ((c1.toList == c2.toList) = false ∨ (c1 = c2 ∧ (u1 == u2) = false)))))))) := by
  cases g1 : (i1.toList == i2.toList) with
  | false => exact Or.inr (Or.inl rfl)
  | true =>
  cases g2 : (t1.toList == t2.toList) with
  | false => exact Or.inr (Or.inr ⟨str_eqb g1, Or.inl rfl⟩)
  | true =>
  cases g3 : (l1.toList == l2.toList) with
  | false => exact Or.inr (Or.inr ⟨str_eqb g1, Or.inr ⟨str_eqb g2, Or.inl rfl⟩⟩)
  | true =>
  cases g4 : (c1.toList == c2.toList) with
  | false => exact Or.inr (Or.inr ⟨str_eqb g1, Or.inr ⟨str_eqb g2, Or.inr ⟨str_eqb g3, Or.inl rfl⟩⟩⟩)
  | true =>
  cases g5 : (u1 == u2) with
  | false => exact Or.inr (Or.inr ⟨str_eqb g1, Or.inr ⟨str_eqb g2, Or.inr ⟨str_eqb g3, Or.inr ⟨str_eqb g4, rfl⟩⟩⟩⟩)
  | true => exact Or.inl (by rw [str_eqb g1, str_eqb g2, str_eqb g3, str_eqb g4, show u1 = u2 by simpa using g5])
set_option maxRecDepth 100000 in
set_option maxHeartbeats 8000000 in
theorem law10_any (vp : Value) (lp : List Fc) (vq : Value) (lq : List Fc) (w : World) (hE : Env w) (hpr : RFcs w vp lp) (hpd : ∀ y ∈ lp, RdC w y) (hpn : lp.length ≤ reachBytes) (hpk : ∀ y ∈ lp, fwide y.f) (hqr : RFcs w vq lq) (hqd : ∀ y ∈ lq, RdC w y) (hqn : lq.length ≤ reachBytes) (hqk : ∀ y ∈ lq, fwide y.f) :
    Calls Tryz.prog 12 #[.agg #[vp], .agg #[vq]] w fun e w' => e = .returned (.bool true) ∧ Ext w w' := by
  have hp : ArcV w (vp, lp) := ⟨hpr, hpd⟩
  obtain ⟨pA, pc, hpf⟩ := hp.form
  have hpw : arcWide (vp, lp) := ⟨hpn, hpk⟩
  dsimp only at hpf
  subst hpf
  have hq : ArcV w (vq, lq) := ⟨hqr, hqd⟩
  obtain ⟨qA, qc, hqf⟩ := hq.form
  have hqw : arcWide (vq, lq) := ⟨hqn, hqk⟩
  dsimp only at hqf
  subst hqf
  obtain ⟨W1, hW1⟩ : ∃ W1, (((w.alloc (.cells #[.slice pA lp.length pc] 46))).alloc (.cells #[.slice qA lq.length qc] 46)) = W1 := ⟨_, rfl⟩
  have hx1 : Ext w W1 := by rw [← hW1]; exact ((Ext.refl _).alloc _).alloc _
  have cp : W1.cell? ⟨w.heap.size, 0, none⟩ = some (.slice pA lp.length pc) := by rw [← hW1]; exact ((Ext.refl _).alloc (.cells #[.slice qA lq.length qc] 46)).boxed 0 _ rfl
  have cq : W1.cell? ⟨w.heap.size + 1, 0, none⟩ = some (.slice qA lq.length qc) := by
    have := Ext.boxed (w := (w.alloc (.cells #[.slice pA lp.length pc] 46))) (Ext.refl ((w.alloc (.cells #[.slice pA lp.length pc] 46)).alloc (.cells #[.slice qA lq.length qc] 46))) 0 (.slice qA lq.length qc) rfl
    simp only [size_alloc] at this
    rw [hW1] at this
    exact this
  have HC : Hid (∀ W' : World, Ext W1 W' → W'.cell? ⟨w.heap.size, 0, none⟩ = some (.slice pA lp.length pc) ∧ W'.cell? ⟨w.heap.size + 1, 0, none⟩ = some (.slice qA lq.length qc)) := Lib.hid fun W' h => ⟨h.cell cp, h.cell cq⟩
  have HE := Lib.hid (fun (W' : World) (h : Ext W1 W') => hE.ext (hx1.trans h))
  have HP := Lib.hid (fun (W' : World) (h : Ext W1 W') => hp.ext (hx1.trans h))
  have HQ := Lib.hid (fun (W' : World) (h : Ext W1 W') => hq.ext (hx1.trans h))
  have HX1 := Lib.hid hx1
  have HAL := Lib.hid (fun (W' : World) (h : Ext W1 W') => alive15_any W' (hE.ext (hx1.trans h)))
  have hall : ∀ z ∈ [(.slice pA lp.length pc, lp), (.slice qA lq.length qc, lq)], ArcV W1 z := fun z hz => by
    simp only [List.mem_cons, List.mem_nil_iff, or_false] at hz
    rcases hz with rfl | rfl
    · exact hp.ext hx1
    · exact hq.ext hx1
  have hwall : ∀ z ∈ [(.slice pA lp.length pc, lp), (.slice qA lq.length qc, lq)], arcWide z := fun z hz => by
    simp only [List.mem_cons, List.mem_nil_iff, or_false] at hz
    rcases hz with rfl | rfl
    · exact hpw
    · exact hqw
  have HLG : Hid (Calls Tryz.prog 32 #[.slice (some ⟨W1.heap.size, 0, none⟩) 2 2] (W1.alloc (.cells #[.slice pA lp.length pc, .slice qA lq.length qc] 46)) fun e w' => e = .returned (.bool (largeB [(.slice pA lp.length pc, lp), (.slice qA lq.length qc, lq)])) ∧ Ext (W1.alloc (.cells #[.slice pA lp.length pc, .slice qA lq.length qc] 46)) w') :=
    Lib.hid (large15_any _ [(.slice pA lp.length pc, lp), (.slice qA lq.length qc, lq)] _ (arcs_lit [(.slice pA lp.length pc, lp), (.slice qA lq.length qc, lq)] W1 (by show 2 ≤ 1000; decide)) (fun z hz => (hall z hz).ext ((Ext.refl _).alloc _)) hwall (by show 2 ≤ reachBytes; decide))
  have hKp := fun (W' : World) (h : Ext W1 W') (hs : SmL (lp.map Fc.f) 5000) => arcCheck (.slice pA lp.length pc, lp) W' (HP.out W' h) hs (by decide)
  have hKq := fun (W' : World) (h : Ext W1 W') (hs : SmL (lq.map Fc.f) 5000) => arcCheck (.slice qA lq.length qc, lq) W' (HQ.out W' h) hs (by decide)
  cases hlb : largeB [(.slice pA lp.length pc, lp), (.slice qA lq.length qc, lq)] with
  | true =>
    rw [hlb] at HLG
    clear hpw hp hpr hpd hpn hpk hqw hq hqr hqd hqn hqk hall hwall hE hx1 hlb hKp hKq
    go_enter Tryz.func12, Tryz.ntmps12
    go_wp2_with (first
      | (go_at_call 32; (have hz := HLG.out); (with_reducible refine Calls.mono hz ?_); clear hz; rintro e w1 ⟨rfl, hx2⟩; (have hx3 := ((Ext.refl W1).alloc (.cells #[.slice pA lp.length pc, .slice qA lq.length qc] 46)).trans hx2))
      | (go_at_call 33; (have hz := HAL.out _ hx3); (with_reducible refine Calls.mono hz ?_); clear hz; rintro e w2 ⟨rfl, hx4⟩))
    go_ret
    exact ⟨rfl, HX1.out.trans (hx3.trans hx4)⟩
  | false =>
    rw [hlb] at HLG
    have hsm := largeB_sm hlb hwall
    have hsp : SmL (lp.map Fc.f) 5000 := hsm (.slice pA lp.length pc, lp) (by simp)
    have HKp : Hid (∀ W' : World, Ext W1 W' → Calls Tryz.prog 28 #[.agg #[.slice pA lp.length pc]] W' fun e w' => e = .returned (.int .i64 (if okA (lp.map Fc.f) = true then 0 else 22)) ∧ Ext W' w') := Lib.hid fun W' h => hKp W' h hsp
    have hsq : SmL (lq.map Fc.f) 5000 := hsm (.slice qA lq.length qc, lq) (by simp)
    have HKq : Hid (∀ W' : World, Ext W1 W' → Calls Tryz.prog 28 #[.agg #[.slice qA lq.length qc]] W' fun e w' => e = .returned (.int .i64 (if okA (lq.map Fc.f) = true then 0 else 22)) ∧ Ext W' w') := Lib.hid fun W' h => hKq W' h hsq
    cases hop : okA (lp.map Fc.f) with
    | false =>
      rw [hop] at HKp
      simp only [Bool.false_eq_true, if_false] at HKp
      clear hpw hp hpr hpd hpn hpk hqw hq hqr hqd hqn hqk hall hwall hE hx1 hlb hKp hKq hsm hsp hsq hop
      go_enter Tryz.func12, Tryz.ntmps12
      go_wp2_with (first
        | (go_at_call 32; (have hz := HLG.out); (with_reducible refine Calls.mono hz ?_); clear hz; rintro e w1 ⟨rfl, hx2⟩; (have hy0 := ((Ext.refl W1).alloc (.cells #[.slice pA lp.length pc, .slice qA lq.length qc] 46)).trans hx2); (obtain ⟨n0, n1⟩ := HC.out _ hy0))
        | (go_at_call 28; (have hz := HKp.out _ hy0); (with_reducible refine Calls.mono hz ?_); clear hz; rintro e wk0 ⟨rfl, hz0⟩; (have hy1 := hy0.trans hz0); clear n0 n1; (obtain ⟨n0, n1⟩ := HC.out _ hy1))
        | (go_at_call 33; (have hz := HAL.out _ hy1); (with_reducible refine Calls.mono hz ?_); clear hz; rintro e w2 ⟨rfl, hx4⟩))
      go_ret
      exact ⟨rfl, HX1.out.trans (hy1.trans hx4)⟩
    | true =>
      rw [hop] at HKp
      simp only [if_true] at HKp
      cases hoq : okA (lq.map Fc.f) with
      | false =>
        rw [hoq] at HKq
        simp only [Bool.false_eq_true, if_false] at HKq
        clear hpw hp hpr hpd hpn hpk hqw hq hqr hqd hqn hqk hall hwall hE hx1 hlb hKp hKq hsm hsp hsq hop hoq
        go_enter Tryz.func12, Tryz.ntmps12
        go_wp2_with (first
          | (go_at_call 32; (have hz := HLG.out); (with_reducible refine Calls.mono hz ?_); clear hz; rintro e w1 ⟨rfl, hx2⟩; (have hy0 := ((Ext.refl W1).alloc (.cells #[.slice pA lp.length pc, .slice qA lq.length qc] 46)).trans hx2); (obtain ⟨n0, n1⟩ := HC.out _ hy0))
          | (go_at_call 28; (have hz := HKp.out _ hy0); (with_reducible refine Calls.mono hz ?_); clear hz; rintro e wk0 ⟨rfl, hz0⟩; (have hy1 := hy0.trans hz0); clear n0 n1; (obtain ⟨n0, n1⟩ := HC.out _ hy1))
          | (go_at_call 28; (have hz := HKq.out _ hy1); (with_reducible refine Calls.mono hz ?_); clear hz; rintro e wk1 ⟨rfl, hz1⟩; (have hy2 := hy1.trans hz1); clear n0 n1; (obtain ⟨n0, n1⟩ := HC.out _ hy2))
          | (go_at_call 33; (have hz := HAL.out _ hy2); (with_reducible refine Calls.mono hz ?_); clear hz; rintro e w2 ⟨rfl, hx4⟩))
        go_ret
        exact ⟨rfl, HX1.out.trans (hy2.trans hx4)⟩
      | true =>
        rw [hoq] at HKq
        simp only [if_true] at HKq
        obtain ⟨VM, hVM⟩ : ∃ X, mValV [lp.map Fc.f, lq.map Fc.f] = X := ⟨_, rfl⟩
        have HM : Hid (∀ W' : World, Ext W1 W' → Calls Tryz.prog 34 #[.slice (some ⟨W'.heap.size, 0, none⟩) 2 2] (W'.alloc (.cells #[.slice pA lp.length pc, .slice qA lq.length qc] 46)) fun e w' => ∃ (A : Option Addr) (c : Nat) (l : List Fc), e = .returned (.tuple #[.agg #[.slice A l.length c], .int .i64 0]) ∧ l.map Fc.f = VM ∧ ArcV w' (.slice A l.length c, l) ∧ Ext (W'.alloc (.cells #[.slice pA lp.length pc, .slice qA lq.length qc] 46)) w') := Lib.hid fun W' h => by
          have := merge_lit [(.slice pA lp.length pc, lp), (.slice qA lq.length qc, lq)] W' (HE.out W' h) (fun z hz => (hall z hz).ext h) hsm (by show 5000 * 2 ≤ 1000000; decide) (by show 2 ≤ 1000; decide)
          unfold MrgPost at this
          rw [show List.map Arc.fs ([(.slice pA lp.length pc, lp), (.slice qA lq.length qc, lq)] : List Arc) = [lp.map Fc.f, lq.map Fc.f] from rfl, (mV_two hop hoq).1, hVM] at this
          exact this
        have HARC : Hid (∀ W : World, RSl (W.alloc (.cells #[.slice pA lp.length pc, .slice qA lq.length qc] 46)) 1 (.slice (some ⟨W.heap.size, 0, none⟩) 2 2) 2 [.slice pA lp.length pc, .slice qA lq.length qc]) := Lib.hid fun W => arcs_lit [(.slice pA lp.length pc, lp), (.slice qA lq.length qc, lq)] W (by show 2 ≤ 1000; decide)
        have HALL : Hid (∀ W : World, Ext W1 W → ∀ z ∈ ([(.slice pA lp.length pc, lp), (.slice qA lq.length qc, lq)] : List Arc), ArcV W z) := Lib.hid fun W h z hz => (hall z hz).ext h
        have hsV : SmL VM 10000 := by rw [← hVM]; exact smL_valV (by simpa using hsp.app hsq)
        have HLEN : Hid (∀ rl : List Fc, rl.map Fc.f = VM → rl.length ≤ 10000 ∧ ∀ y ∈ rl, hokF y.f ∧ y.f.path.length ≤ 16777216 ∧ y.f.ents.length ≤ 16777216) := Lib.hid fun rl h => by
          refine ⟨?_, fun y hy => ?_⟩
          · have := hsV.len
            rw [← h, List.length_map] at this
            exact this
          · have hm : y.f ∈ VM := by rw [← h]; exact List.mem_map.2 ⟨y, hy, rfl⟩
            exact ⟨hsV.hok _ hm, hsV.lens (by decide) _ hm⟩
        have HOKX : Hid (∀ z ∈ ([(.slice pA lp.length pc, lp), (.slice qA lq.length qc, lq)] : List Arc), z.2.length ≤ 5000 ∧ ∀ x ∈ z.2, hokF x.f) := Lib.hid fun z hz => by
          have h := hsm z hz
          refine ⟨?_, fun x hx => h.hok _ (List.mem_map.2 ⟨x, hx, rfl⟩)⟩
          have := h.len
          unfold Arc.fs at this
          rwa [List.length_map] at this
        have HKF : Hid (∀ rl : List Fc, rl.map Fc.f = VM → ∀ z ∈ ([(.slice pA lp.length pc, lp), (.slice qA lq.length qc, lq)] : List Arc), ∀ x ∈ z.2, ∃ y ∈ rl, findC rl x.f.id = some y ∧ laterF x.f y.f = laterF y.f y.f) := Lib.hid fun rl h z hz x hx => by
          refine keeps_feed hop hoq (h.trans hVM.symm) ?_
          simp only [List.mem_cons, List.mem_nil_iff, or_false] at hz
          rcases hz with rfl | rfl
          · exact List.mem_append_left _ (List.mem_map.2 ⟨x, hx, rfl⟩)
          · exact List.mem_append_right _ (List.mem_map.2 ⟨x, hx, rfl⟩)
        have HTO : Hid (∀ g ∈ VM, ∀ e ∈ entsOf g.id (lp.map Fc.f ++ lq.map Fc.f), ∃ y ∈ g.ents, e.id = y.id ∧ laterE e y = y) := Lib.hid fun g hg e he => keeps_to hop hoq (by rw [hVM]; exact hg) he
        have HFR : Hid (∀ g ∈ VM, ∀ y ∈ g.ents, y ∈ entsOf g.id (lp.map Fc.f ++ lq.map Fc.f)) := Lib.hid fun g hg y hy => keeps_from hop hoq (by rw [hVM]; exact hg) hy
        have HEOK : Hid (∀ s, (entsOf s (lp.map Fc.f ++ lq.map Fc.f)).length ≤ 16777216 ∧ ∀ e ∈ entsOf s (lp.map Fc.f ++ lq.map Fc.f), eok e) := Lib.hid fun s => by
          have h := hsp.app hsq
          refine ⟨Nat.le_trans (entsOf_len s _) (Nat.le_trans h.sum (by decide)), fun e he => ?_⟩
          unfold entsOf at he
          obtain ⟨es, hes, he⟩ := List.mem_flatten.1 he
          obtain ⟨f, hf, rfl⟩ := List.mem_map.1 hes
          exact (h.hok f (List.mem_filter.1 hf).1).2 e he
        have HENT : Hid (∀ (s : ByteArray) (W' : World), Ext W1 W' → Calls Tryz.prog 38 #[.string s, .slice (some ⟨W'.heap.size, 0, none⟩) 2 2] (W'.alloc (.cells #[.slice pA lp.length pc, .slice qA lq.length qc] 46)) fun e w' => ∃ (A : Option Addr) (c : Nat), e = .returned (.slice A (entsOf s (lp.map Fc.f ++ lq.map Fc.f)).length c) ∧ REnts w' (.slice A (entsOf s (lp.map Fc.f ++ lq.map Fc.f)).length c) (entsOf s (lp.map Fc.f ++ lq.map Fc.f)) ∧ Ext (W'.alloc (.cells #[.slice pA lp.length pc, .slice qA lq.length qc] 46)) w') := Lib.hid fun s W' h => by
          refine (entries_any s _ [(.slice pA lp.length pc, lp), (.slice qA lq.length qc, lq)] (W'.alloc (.cells #[.slice pA lp.length pc, .slice qA lq.length qc] 46)) (arcs_lit [(.slice pA lp.length pc, lp), (.slice qA lq.length qc, lq)] W' (by show 2 ≤ 1000; decide)) (fun z hz => ((hall z hz).ext h).ext ((Ext.refl _).alloc _)) (by show 2 ≤ 10; decide) hsm).mono ?_
          rintro e w' ⟨A, n, c, rfl, hr, hx⟩
          have e0 : (List.map Arc.fs ([(.slice pA lp.length pc, lp), (.slice qA lq.length qc, lq)] : List Arc)).flatten = lp.map Fc.f ++ lq.map Fc.f := by show lp.map Fc.f ++ (lq.map Fc.f ++ []) = _; rw [List.append_nil]
          rw [e0] at hr
          obtain ⟨A', c', e1, -, -⟩ := hr.form
          injection e1 with e1 e2 e3
          subst e1 e2 e3
          exact ⟨A, c, rfl, hr, hx⟩
        obtain ⟨EO, hEO⟩ : ∃ EO : ByteArray → List Ent, (fun s => entsOf s (lp.map Fc.f ++ lq.map Fc.f)) = EO := ⟨_, rfl⟩
        have hEO2 : ∀ s, entsOf s (lp.map Fc.f ++ lq.map Fc.f) = EO s := fun s => by rw [← hEO]
        simp only [hEO2] at HTO HFR HEOK HENT
        obtain ⟨L2, hL2⟩ : ∃ L2 : List Arc, ([(.slice pA lp.length pc, lp), (.slice qA lq.length qc, lq)] : List Arc) = L2 := ⟨_, rfl⟩
        have HL2 : Hid (L2.length = 2) := Lib.hid (by rw [← hL2]; rfl)
        have HPS : Hid (L2.map Prod.fst = [.slice pA lp.length pc, .slice qA lq.length qc]) := Lib.hid (by rw [← hL2]; rfl)
        rw [hL2] at HALL HOKX HKF
        clear hpw hp hpr hpd hpn hpk hqw hq hqr hqd hqn hqk hall hwall hE hx1 hlb hKp hKq hsm hsp hsq hop hoq hVM hsV hEO hEO2 hL2
        go_enter Tryz.func12, Tryz.ntmps12
        go_wp2_with (first
            | (go_at_call 32; (have hz := HLG.out); (with_reducible refine Calls.mono hz ?_); clear hz; rintro e w1 ⟨rfl, hx2⟩; (have hy0 := ((Ext.refl W1).alloc (.cells #[.slice pA lp.length pc, .slice qA lq.length qc] 46)).trans hx2); (obtain ⟨n0, n1⟩ := HC.out _ hy0))
            | (go_at_call 28; (have hz := HKp.out _ hy0); (with_reducible refine Calls.mono hz ?_); clear hz; rintro e wk0 ⟨rfl, hz0⟩; (have hy1 := hy0.trans hz0); clear n0 n1; (obtain ⟨n0, n1⟩ := HC.out _ hy1))
            | (go_at_call 28; (have hz := HKq.out _ hy1); (with_reducible refine Calls.mono hz ?_); clear hz; rintro e wk1 ⟨rfl, hz1⟩; (have hy2 := hy1.trans hz1); clear n0 n1; (obtain ⟨n0, n1⟩ := HC.out _ hy2))
            | (go_at_call 34; (have hz := HM.out _ hy2); (with_reducible refine Calls.mono hz ?_); clear hz; rintro e w4 ⟨mA, mc, rl, rfl, hrv, hra, hx4⟩; (have HRV := Lib.hid hrv); clear hrv n0 n1; (have hxa : Ext W1 (w4.alloc (.cells #[.slice mA rl.length mc] 46)) := (hy2.trans (((Ext.refl wk1).alloc (.cells #[.slice pA lp.length pc, .slice qA lq.length qc] 46)).trans hx4)).alloc _); (obtain ⟨n0, n1⟩ := HC.out _ hxa); (have hra2 := hra.ext ((Ext.refl w4).alloc (.cells #[.slice mA rl.length mc] 46)))))
        have harc := HARC.out (w4.alloc (.cells #[.slice mA rl.length mc] 46))
        simp only [size_alloc] at harc
        have hb5 := ((Ext.refl (w4.alloc (.cells #[.slice mA rl.length mc] 46))).alloc (.cells #[.slice pA lp.length pc, .slice qA lq.length qc] 46)).boxed 0 _ rfl
        have hxl := (Ext.refl (w4.alloc (.cells #[.slice mA rl.length mc] 46))).alloc (.cells #[.slice pA lp.length pc, .slice qA lq.length qc] 46)
        have hra3 := hra2.ext hxl
        have hxw := hxa.trans hxl
        obtain ⟨W2, hW2⟩ : ∃ W2, (w4.alloc (.cells #[.slice mA rl.length mc] 46)).alloc (.cells #[.slice pA lp.length pc, .slice qA lq.length qc] 46) = W2 := ⟨_, rfl⟩
        rw [hW2] at harc hb5 hra3 hxw ⊢
        obtain ⟨G5, hG5⟩ : ∃ G5, w4.heap.size = G5 := ⟨_, rfl⟩
        rw [hG5] at harc hb5 ⊢
        obtain ⟨AD, hAD⟩ : ∃ AD : Addr, (⟨G5 + 1, 0, none⟩ : Addr) = AD := ⟨_, rfl⟩
        rw [hAD] at harc ⊢
        clear hAD
        have HARC2 : Hid (RSl W2 1 (.slice (some AD) 2 2) L2.length (L2.map Prod.fst)) := Lib.hid (by rw [HL2.out, HPS.out]; exact harc)
        have HMV := Lib.hid hra3
        have HB5 := Lib.hid (fun (W' : World) (h : Ext W2 W') => h.cell hb5)
        have HX2 := Lib.hid hxw
        have HKF2 := Lib.hid (HKF.out rl HRV.out)
        have HLN2 := Lib.hid (HLEN.out rl HRV.out)
        have hrl : rl.length ≤ 10000 := HLN2.out.1
        clear harc hb5 hra3 hxw hW2 hG5 hxl hra2 hra hxa hx4 hy0 hy1 hy2 n0 n1 HM HARC
        go_loopw [54] (fun i wr => ∃ k : Nat, k ≤ 2 ∧ i = .int .i64 k ∧ Ext W2 wr) (fun i _ => 2 - (intOf i).toNat)
        case atStart => exact ⟨0, by omega, rfl, Ext.refl _⟩
        case round =>
          obtain ⟨k, hk, rfl, hxr⟩ := hrel
          by_cases hlt : k < 2
          · have hlt2 : k < L2.length := by rw [HL2.out]; exact hlt
            have hgk : (L2.map Prod.fst)[k]? = some L2[k].1 := by rw [List.getElem?_map, List.getElem?_eq_getElem hlt2]; rfl
            obtain ⟨ad, e1, hc⟩ := RSl.at1 (HARC2.out.ext hxr) k _ hgk
            injection e1 with e1
            subst e1
            have hzm := List.getElem_mem hlt2
            have hav := HALL.out _ (HX2.out.trans hxr) _ hzm
            have hkf := HKF2.out _ hzm
            have hokx := HOKX.out _ hzm
            obtain ⟨z, hz⟩ : ∃ z, L2[k] = z := ⟨_, rfl⟩
            rw [hz] at hc hav hkf hokx
            obtain ⟨zA, zc, hzf⟩ := hav.form
            rw [hzf] at hc
            obtain ⟨P, hP⟩ : ∃ P, z.2 = P := ⟨_, rfl⟩
            rw [hP] at hzf hokx hkf hc
            have hav2 : ArcV wr (.slice zA P.length zc, P) := by rw [← hzf, ← hP]; exact hav
            obtain ⟨hPl, hPk⟩ := hokx
            have HPV := Lib.hid hav2
            have HKX := Lib.hid hkf
            have HPK := Lib.hid hPk
            have hi0 : (0 : Int) ≤ (k : Int) := by omega
            have hi1 : (k : Int) < 2 := by omega
            have HXR0 := Lib.hid hxr
            have HLT := Lib.hid hlt
            obtain ⟨wP, hwP⟩ : ∃ wP : World, wP = wr := ⟨_, rfl⟩
            subst hwP
            clear hgk hz hzf hP hav hav2 hkf hPk hzm hlt2 hxr
            go_wp2
            go_loopw [61] (fun i wr => ∃ j : Nat, j ≤ P.length ∧ i = .int .i64 j ∧ Ext wP wr) (fun i _ => P.length - (intOf i).toNat)
            case atStart => exact ⟨0, Nat.zero_le _, rfl, (Ext.refl wP).alloc _⟩
            case round =>
              obtain ⟨j, hj, rfl, hxr⟩ := hrel
              by_cases hlj : j < P.length
              · obtain ⟨ad, c1, e1, hax⟩ := (HPV.out.row.ext hxr).at hlj
                injection e1 with e1 e1' e1''
                subst e1
                clear e1' e1''
                have hxm := List.getElem_mem hlj
                have hxd := HPV.out.rd _ hxm
                have hxk := HPK.out _ hxm
                obtain ⟨y, hym, hyf, hyl⟩ := HKX.out _ hxm
                obtain ⟨x, hxx⟩ : ∃ x, P[j] = x := ⟨_, rfl⟩
                rw [hxx] at hax hxd hxk hyf hyl
                have hyd := HMV.out.rd y hym
                have hyk := HLN2.out.2 y hym
                have hfc : foundC rl x.f.id = y := by unfold foundC; rw [hyf]; rfl
                have HRF : Hid (∀ W' : World, Ext W2 W' → Calls Tryz.prog 36 #[.agg #[.slice mA rl.length mc], .string x.f.id] W' fun e w' => e = .returned (.tuple #[.agg (cellsC y).toArray, .bool true]) ∧ Ext W' w') := Lib.hid fun W' h => by
                  have := refFind_any (.slice mA rl.length mc) rl x.f.id W' (HMV.out.ext h).row (HMV.out.ext h).rd (by omega)
                  rw [hfc, hyf] at this
                  exact this
                have hxs := hxd.sl
                have hys := hyd.sl
                have HXD := Lib.hid hxd
                have HYD := Lib.hid hyd
                have hlen : (laterF y.f y.f).path.length ≤ 16777216 := by
                  unfold laterF
                  dsimp only
                  split <;> exact hyk.2.1
                have mk : ∀ (u : Fc) (W' : World), hokF u.f → RdC W' u → laterF u.f y.f = laterF y.f y.f → Ext W2 W' → Calls Tryz.prog 37 #[.agg (cellsC u).toArray, .agg (cellsC y).toArray] W' fun e w' => ∃ (A : Option Addr) (c : Nat), e = .returned (.agg #[.slice A (laterF y.f y.f).path.length c, .string (laterF y.f y.f).id, .string (laterF y.f y.f).title, .string (laterF y.f y.f).link, .int .i64 (laterF y.f y.f).upd, .slice none 0 0]) ∧ RdC w' ⟨.slice A (laterF y.f y.f).path.length c, .slice none 0 0, laterF y.f y.f⟩ ∧ Ext W' w' := fun u W' hu hd he hx => by
                  refine (refLaterF_any u y W' hu.1.1 hyk.1.1.1 hu.1.2 hyk.1.1.2 hd (hyd.ext hx)).mono ?_
                  rintro e w' ⟨p', rfl, hr, -, hxx⟩
                  rw [he] at hr ⊢
                  obtain ⟨A, c, e1, -, -⟩ := hr.form
                  subst e1
                  exact ⟨A, c, rfl, ⟨hr, RSl.nil _ 5⟩, hxx⟩
                have HL1 : Hid (∀ W' : World, Ext wP W' → Ext W2 W' → Calls Tryz.prog 37 #[.agg (cellsC x).toArray, .agg (cellsC y).toArray] W' fun e w' => ∃ (A : Option Addr) (c : Nat), e = .returned (.agg #[.slice A (laterF y.f y.f).path.length c, .string (laterF y.f y.f).id, .string (laterF y.f y.f).title, .string (laterF y.f y.f).link, .int .i64 (laterF y.f y.f).upd, .slice none 0 0]) ∧ RdC w' ⟨.slice A (laterF y.f y.f).path.length c, .slice none 0 0, laterF y.f y.f⟩ ∧ Ext W' w') := Lib.hid fun W' h h2 => mk x W' hxk (hxd.ext h) hyl h2
                have HL2Y : Hid (∀ W' : World, Ext W2 W' → Calls Tryz.prog 37 #[.agg (cellsC y).toArray, .agg (cellsC y).toArray] W' fun e w' => ∃ (A : Option Addr) (c : Nat), e = .returned (.agg #[.slice A (laterF y.f y.f).path.length c, .string (laterF y.f y.f).id, .string (laterF y.f y.f).title, .string (laterF y.f y.f).link, .int .i64 (laterF y.f y.f).upd, .slice none 0 0]) ∧ RdC w' ⟨.slice A (laterF y.f y.f).path.length c, .slice none 0 0, laterF y.f y.f⟩ ∧ Ext W' w') := Lib.hid fun W' h => mk y W' hyk.1 (hyd.ext h) rfl h
                have HSM : Hid (∀ (A B : Option Addr) (c d : Nat) (W' : World), RdC W' ⟨.slice A (laterF y.f y.f).path.length c, .slice none 0 0, laterF y.f y.f⟩ → RdC W' ⟨.slice B (laterF y.f y.f).path.length d, .slice none 0 0, laterF y.f y.f⟩ → Calls Tryz.prog 23 #[.agg #[.slice A (laterF y.f y.f).path.length c, .string (laterF y.f y.f).id, .string (laterF y.f y.f).title, .string (laterF y.f y.f).link, .int .i64 (laterF y.f y.f).upd, .slice none 0 0], .agg #[.slice B (laterF y.f y.f).path.length d, .string (laterF y.f y.f).id, .string (laterF y.f y.f).title, .string (laterF y.f y.f).link, .int .i64 (laterF y.f y.f).upd, .slice none 0 0]] W' fun e w' => e = .returned (.bool true) ∧ Ext W' w') := Lib.hid fun A B c d W' h1 h2 => by
                  have := refSame_any ⟨.slice A (laterF y.f y.f).path.length c, .slice none 0 0, laterF y.f y.f⟩ ⟨.slice B (laterF y.f y.f).path.length d, .slice none 0 0, laterF y.f y.f⟩ W' h1 h2 hlen (by show 0 ≤ 16777216; decide)
                  rwa [decide_eq_true rfl] at this
                obtain ⟨Z, hZ⟩ : ∃ Z, laterF y.f y.f = Z := ⟨_, rfl⟩
                simp only [hZ] at HL1 HL2Y HSM
                obtain ⟨zn, hzn⟩ : ∃ zn, Z.path.length = zn := ⟨_, rfl⟩
                have HZN := Lib.hid hzn
                simp only [hzn] at HL1 HL2Y HSM
                have HLJ := Lib.hid hlj
                have hj0 : (0 : Int) ≤ (j : Int) := by omega
                have hj1 : (j : Int) < (P.length : Int) := by omega
                have HXR := Lib.hid hxr
                clear hxx hxm hxd hxk hyf hyl hym hyd hyk hfc hlen mk hZ hzn hxr
                obtain ⟨xp, xe, xf⟩ := x
                obtain ⟨yp, ye, yf⟩ := y
                obtain ⟨⟨xA, xn, xc, hxp⟩, ⟨xB, xm, xd, hxe⟩⟩ := hxs
                obtain ⟨⟨yA, yn, yc, hyp⟩, ⟨yB, ym, yd, hye⟩⟩ := hys
                dsimp only at hxp hxe hyp hye
                subst hxp hxe hyp hye
                obtain ⟨p0, p1, p2, p3, p4, p5⟩ := hax
                dsimp only at p0 p1 p2 p3 p4 p5
                unfold cellsC fCells at HRF HL1 HL2Y
                dsimp only at HRF HL1 HL2Y
                have b5 := HB5.out _ ((HXR0.out.trans HXR.out).alloc (.cells #[.slice xA xn xc, .string xf.id, .string xf.title, .string xf.link, .int .i64 xf.upd, .slice xB xm xd] 35))
                go_wp2_with (first
                  | (go_at_call 36; (have hz := HRF.out _ ((HXR0.out.trans HXR.out).alloc (.cells #[.slice xA xn xc, .string xf.id, .string xf.title, .string xf.link, .int .i64 xf.upd, .slice xB xm xd] 35))); (with_reducible refine Calls.mono hz ?_); clear hz; rintro e w5 ⟨rfl, hx5⟩))
                have bx := (hx5.alloc (.cells #[.slice yA yn yc, .string yf.id, .string yf.title, .string yf.link, .int .i64 yf.upd, .slice yB ym yd] 35)).heap (heap_alloc_new wr (.cells #[.slice xA xn xc, .string xf.id, .string xf.title, .string xf.link, .int .i64 xf.upd, .slice xB xm xd] 35))
                have bY := heap_alloc_new w5 (.cells #[.slice yA yn yc, .string yf.id, .string yf.title, .string yf.link, .int .i64 yf.upd, .slice yB ym yd] 35)
                have hx6 := ((((Ext.refl wr).alloc (.cells #[.slice xA xn xc, .string xf.id, .string xf.title, .string xf.link, .int .i64 xf.upd, .slice xB xm xd] 35)).trans hx5).alloc (.cells #[.slice yA yn yc, .string yf.id, .string yf.title, .string yf.link, .int .i64 yf.upd, .slice yB ym yd] 35))
                obtain ⟨W6, hW6⟩ : ∃ W6, w5.alloc (.cells #[.slice yA yn yc, .string yf.id, .string yf.title, .string yf.link, .int .i64 yf.upd, .slice yB ym yd] 35) = W6 := ⟨_, rfl⟩
                rw [hW6] at bx bY hx6 ⊢
                obtain ⟨x0, x1, x2, x3, x4, x5⟩ := blk6 bx
                obtain ⟨y0, y1, y2, y3, y4, y5⟩ := blk6 bY
                have HX6 := Lib.hid hx6
                have HXP6 := Lib.hid (HXR.out.trans hx6)
                have HX26 := Lib.hid ((HXR0.out.trans HXR.out).trans hx6)
                clear hW6 bx bY hx6 hx5 b5 p0 p1 p2 p3 p4 p5
                refine wp_region_any (by kernel_rfl) ?_
                change wpAny _ _ _ _ _ _ _ (World.drew _)
                have hxd := (Ext.refl W6).drew
                refine wpAny_of_S (fun w' => Ext W6 w') ?_
                refine wpAnyS_take (i := 0) (v := .bool true) rfl (by kernel_rfl) (fun _ _ _ h => h) (Or.inl ⟨by rfl, fun w' hS => by go_simp⟩) hxd ?_
                refine wpAnyS_take (i := 1) (v := .bool false) rfl (by kernel_rfl) (fun _ _ _ h => h) (Or.inl ⟨by rfl, fun w' hS => by go_simp⟩) hxd ?_
                refine wpAnyS_take (i := 2) (v := .bool false) rfl (by kernel_rfl) (fun _ _ _ h => h) (Or.inl ⟨by rfl, fun w' hS => by go_simp⟩) hxd ?_
                refine wpAnyS_take (i := 3) (v := .agg #[.slice xA xn xc, .string xf.id, .string xf.title, .string xf.link, .int .i64 xf.upd, .slice xB xm xd]) rfl (by kernel_rfl) (fun _ _ _ h => h) (Or.inl ⟨by rfl, fun w' hS => by have q0 := Ext.cell hS x0; have q1 := Ext.cell hS x1; have q2 := Ext.cell hS x2; have q3 := Ext.cell hS x3; have q4 := Ext.cell hS x4; have q5 := Ext.cell hS x5; go_simp⟩) hxd ?_
                refine wpAnyS_take (i := 4) (v := .agg #[.slice yA yn yc, .string yf.id, .string yf.title, .string yf.link, .int .i64 yf.upd, .slice yB ym yd]) rfl (by kernel_rfl) (fun _ _ _ h => h) (Or.inl ⟨by rfl, fun w' hS => by have q0 := Ext.cell hS y0; have q1 := Ext.cell hS y1; have q2 := Ext.cell hS y2; have q3 := Ext.cell hS y3; have q4 := Ext.cell hS y4; have q5 := Ext.cell hS y5; go_simp⟩) hxd ?_
                refine wpAnyS_take (i := 6) (v := .agg #[.slice yA yn yc, .string yf.id, .string yf.title, .string yf.link, .int .i64 yf.upd, .slice yB ym yd]) rfl (by kernel_rfl) (fun _ _ _ h => h) (Or.inl ⟨by rfl, fun w' hS => by have q0 := Ext.cell hS y0; have q1 := Ext.cell hS y1; have q2 := Ext.cell hS y2; have q3 := Ext.cell hS y3; have q4 := Ext.cell hS y4; have q5 := Ext.cell hS y5; go_simp⟩) hxd ?_
                refine wpAnyS_take (i := 7) (v := .agg #[.slice yA yn yc, .string yf.id, .string yf.title, .string yf.link, .int .i64 yf.upd, .slice yB ym yd]) rfl (by kernel_rfl) (fun _ _ _ h => h) (Or.inl ⟨by rfl, fun w' hS => by have q0 := Ext.cell hS y0; have q1 := Ext.cell hS y1; have q2 := Ext.cell hS y2; have q3 := Ext.cell hS y3; have q4 := Ext.cell hS y4; have q5 := Ext.cell hS y5; go_simp⟩) hxd ?_
                clear x0 x1 x2 x3 x4 x5 y0 y1 y2 y3 y4 y5
                refine wpAnyS_step (i := 5) rfl (by kernel_rfl) (fun K hK => ?_)
                go_simp
                go_at_call 37
                have hz := HL1.out W6.drew (HXP6.out.trans hxd) (HX26.out.trans hxd)
                with_reducible refine Calls.mono hz ?_
                clear hz
                rintro e w7 ⟨aA, ac, rfl, ha7, hx7⟩
                have hx76 := hxd.trans hx7
                refine hK _ _ hx76 ?_
                clear hK K
                refine wpAnyS_step (i := 8) rfl (by kernel_rfl) (fun K hK => ?_)
                go_simp
                go_at_call 37
                have hz := HL2Y.out w7 (HX26.out.trans hx76)
                with_reducible refine Calls.mono hz ?_
                clear hz
                rintro e w8 ⟨bA, bc, rfl, ha8, hx8⟩
                have hx86 := hx76.trans hx8
                refine hK _ _ hx86 ?_
                clear hK K
                refine wpAnyS_step (i := 9) rfl (by kernel_rfl) (fun K hK => ?_)
                go_simp
                go_at_call 23
                have hz := HSM.out aA bA ac bc w8 (by rw [← HZN.out] at ha7 ⊢; exact ha7.ext hx8) (by rw [← HZN.out] at ha8 ⊢; exact ha8)
                with_reducible refine Calls.mono hz ?_
                clear hz
                rintro e w9 ⟨rfl, hx9⟩
                have hx96 := hx86.trans hx9
                refine hK _ _ hx96 ?_
                clear hK K
                refine wpAnyS_take (i := 10) (v := .bool false) rfl (by kernel_rfl) (fun _ _ _ h => h) (Or.inl ⟨by rfl, fun w' hS => by go_simp⟩) hx96 ?_
                refine wpAnyS_take (i := 11) (v := .bool false) rfl (by kernel_rfl) (fun _ _ _ h => h) (Or.inl ⟨by rfl, fun w' hS => by go_simp⟩) hx96 ?_
                refine wpAnyS_end (by kernel_rfl) ?_
                have hx9r := HXP6.out.trans hx96
                clear ha7 ha8 hx7 hx8 hx76 hx86 hx9 hx96 hxd
                go_wp2
                go_roundw
                case rel => exact ⟨j + 1, HLJ.out, by go_num, hx9r⟩
                case measure => simp [intOf]; omega
              · have hje : j = P.length := by omega
                subst hje
                go_wp2
                go_roundw
                case rel => exact ⟨k + 1, HLT.out, by go_num, HXR0.out.trans hxr⟩
                case measure => simp [intOf]; omega
          · have hke : k = 2 := by omega
            subst hke
            have b5 := HB5.out wr hxr
            go_wp2
            clear b5
            go_loopw [89] (fun i wr => ∃ k : Nat, k ≤ rl.length ∧ i = .int .i64 k ∧ Ext W2 wr) (fun i _ => rl.length - (intOf i).toNat)
            case atStart => exact ⟨0, Nat.zero_le _, rfl, hxr⟩
            case round =>
              clear hxr
              obtain ⟨k, hk, rfl, hxr⟩ := hrel
              by_cases hlt : k < rl.length
              · obtain ⟨ad, c1, e1, hax⟩ := (HMV.out.row.ext hxr).at hlt
                injection e1 with e1 e1' e1''
                subst e1
                clear e1' e1''
                have hgm := List.getElem_mem hlt
                have hgd := HMV.out.rd _ hgm
                have hgk := HLN2.out.2 _ hgm
                have hgv : rl[k].f ∈ VM := by rw [← HRV.out]; exact List.mem_map.2 ⟨_, hgm, rfl⟩
                have hto := HTO.out _ hgv
                have hfr := HFR.out _ hgv
                obtain ⟨g, hg⟩ : ∃ g, rl[k] = g := ⟨_, rfl⟩
                rw [hg] at hax hgd hgk hto hfr
                have HLT := Lib.hid hlt
                have HGD := Lib.hid hgd
                have hi0 : (0 : Int) ≤ (k : Int) := by omega
                have hi1 : (k : Int) < (rl.length : Int) := by omega
                have HXR := Lib.hid hxr
                obtain ⟨gA, gc, hgp, -, -⟩ := hgd.1.form
                obtain ⟨gB, gd, hge, -, -⟩ := hgd.2.form
                have hgl := hgk.2.2
                have hgo : ∀ e ∈ g.f.ents, eok e := hgk.1.2
                clear hg hgm hgv hgk hxr hgd
                obtain ⟨gp, ge, gf⟩ := g
                dsimp only at hgp hge hto hfr hgl hgo hax
                subst hgp hge
                obtain ⟨gn, hgn⟩ : ∃ gn, gf.path.length = gn := ⟨_, rfl⟩
                obtain ⟨Z, hZ⟩ : ∃ Z, gf.ents = Z := ⟨_, rfl⟩
                rw [hZ] at hto hfr hgl hgo
                have HGE : Hid (REnts w1 (.slice gB Z.length gd) Z → True) := Lib.hid fun _ => trivial
                have HGR : Hid (∀ W' : World, Ext W2 W' → REnts W' (.slice gB Z.length gd) Z) := Lib.hid fun W' h => by
                  have := (HGD.out.2).ext h
                  dsimp only at this
                  rwa [hZ] at this
                obtain ⟨p0, p1, p2, p3, p4, p5⟩ := hax
                dsimp only at p0 p1 p2 p3 p4 p5
                rw [hgn] at p0
                rw [hZ] at p5
                have hEL := (HEOK.out gf.id).1
                have hEO := (HEOK.out gf.id).2
                have HEN := Lib.hid (HENT.out gf.id)
                obtain ⟨Y, hY⟩ : ∃ Y, EO gf.id = Y := ⟨_, rfl⟩
                rw [hY] at hto hfr hEL hEO HEN
                have HTO2 := Lib.hid hto
                have HFR2 := Lib.hid hfr
                have HGO := Lib.hid hgo
                have HYO := Lib.hid hEO
                obtain ⟨gid, hgid⟩ : ∃ s, gf.id = s := ⟨_, rfl⟩
                rw [hgid] at p1 HEN
                obtain ⟨gt, hgt⟩ : ∃ s, gf.title = s := ⟨_, rfl⟩
                rw [hgt] at p2
                obtain ⟨gl, hgl2⟩ : ∃ s, gf.link = s := ⟨_, rfl⟩
                rw [hgl2] at p3
                obtain ⟨gu, hgu⟩ : ∃ s, gf.upd = s := ⟨_, rfl⟩
                rw [hgu] at p4
                clear hY hZ hgn hto hfr hgo hEO HGE HGD hgid hgt hgl2 hgu
                have hw1 := HX2.out.trans (HXR.out.alloc (.cells #[.slice gA gn gc, .string gid, .string gt, .string gl, .int .i64 gu, .slice gB Z.length gd] 35))
                obtain ⟨n0, n1⟩ := HC.out _ hw1
                go_wp2_with (first
                  | (go_at_call 38; (have hz := HEN.out (wr.alloc (.cells #[.slice gA gn gc, .string gid, .string gt, .string gl, .int .i64 gu, .slice gB Z.length gd] 35)) hw1); (simp only [size_alloc] at hz); (with_reducible refine Calls.mono hz ?_); clear hz; rintro e w5 ⟨yA, yc, rfl, hyr, hx5⟩; (have hxg := ((Ext.refl (wr.alloc (.cells #[.slice gA gn gc, .string gid, .string gt, .string gl, .int .i64 gu, .slice gB Z.length gd] 35))).alloc (.cells #[.slice pA lp.length pc, .slice qA lq.length qc] 46)).trans hx5)))
                clear n0 n1 p0 p1 p2 p3 p4 p5
                have HYR := Lib.hid (fun (W' : World) (h : Ext w5 W') => REnts.ext' hyr h)
                have HG5 : Hid (∀ W' : World, Ext w5 W' → W'.cell? ⟨wr.heap.size, 5, none⟩ = some (.slice gB Z.length gd)) := Lib.hid fun W' h => (hxg.trans h).boxed 5 _ rfl
                have HX5 : Hid (Ext W2 w5) := Lib.hid ((HXR.out.alloc _).trans hxg)
                obtain ⟨G14, hG14⟩ : ∃ G14, wr.heap.size = G14 := ⟨_, rfl⟩
                rw [hG14] at HG5 ⊢
                clear hG14 hyr hx5 hxg hw1
                go_loopw [101] (fun i wr => ∃ j : Nat, j ≤ Y.length ∧ i = .int .i64 j ∧ Ext w5 wr) (fun i _ => Y.length - (intOf i).toNat)
                case atStart => exact ⟨0, Nat.zero_le _, rfl, Ext.refl _⟩
                case round =>
                  obtain ⟨j, hj, rfl, hxr⟩ := hrel
                  by_cases hlj : j < Y.length
                  · obtain ⟨ad, c1, e1, hax⟩ := (HYR.out _ hxr).at hlj
                    injection e1 with e1 e1' e1''
                    subst e1
                    clear e1' e1''
                    have hem := List.getElem_mem hlj
                    have hmt := HTO2.out _ hem
                    have hek := HYO.out _ hem
                    obtain ⟨e, he⟩ : ∃ e, Y[j] = e := ⟨_, rfl⟩
                    rw [he] at hax hmt hek
                    have HLJ := Lib.hid hlj
                    have HMT := Lib.hid hmt
                    have hj0 : (0 : Int) ≤ (j : Int) := by omega
                    have hj1 : (j : Int) < (Y.length : Int) := by omega
                    have HXJ := Lib.hid hxr
                    clear he hem hmt hxr
                    obtain ⟨e1, e2, e3, e4, e5⟩ := e
                    obtain ⟨p0, p1, p2, p3, p4⟩ := hax
                    dsimp only at p0 p1 p2 p3 p4
                    have g5 := HG5.out _ (HXJ.out.alloc (.cells #[.string e1, .string e2, .string e3, .string e4, .int .i64 e5] 23))
                    obtain ⟨wE, hwE⟩ : ∃ wE : World, wE = wr := ⟨_, rfl⟩
                    subst hwE
                    go_wp2
                    clear g5 p0 p1 p2 p3 p4
                    go_loopw [18, 108] (fun f i wr => ∃ (m : Nat) (F : Bool), f = .bool F ∧ m ≤ Z.length ∧ i = .int .i64 m ∧ Hid (F = false → ∀ m' (h : m' < Z.length), m' < m → ¬ (e1 = Z[m'].id ∧ laterE (⟨e1, e2, e3, e4, e5⟩ : Ent) Z[m'] = Z[m'])) ∧ Ext (wE.alloc (.cells #[.string e1, .string e2, .string e3, .string e4, .int .i64 e5] 23)) wr) (fun _ i _ => Z.length - (intOf i).toNat)
                    case atStart => exact ⟨0, false, rfl, Nat.zero_le _, rfl, Lib.hid (fun _ m' _ h => by omega), Ext.refl _⟩
                    case round =>
                      obtain ⟨m, F, rfl, hm, rfl, hF, hxr⟩ := hrel
                      by_cases hlm : m < Z.length
                      · obtain ⟨ad, c1, q1, hax⟩ := (HGR.out _ (HX5.out.trans ((HXJ.out.alloc (.cells #[.string e1, .string e2, .string e3, .string e4, .int .i64 e5] 23)).trans hxr))).at hlm
                        injection q1 with q1 q1' q1''
                        subst q1
                        clear q1' q1''
                        have hzk := HGO.out _ (List.getElem_mem hlm)
                        have hstep : (F = true ∨ ¬ (e1 = Z[m].id ∧ laterE (⟨e1, e2, e3, e4, e5⟩ : Ent) Z[m] = Z[m])) → F = false → ∀ m' (h : m' < Z.length), m' < m + 1 → ¬ (e1 = Z[m'].id ∧ laterE (⟨e1, e2, e3, e4, e5⟩ : Ent) Z[m'] = Z[m']) := fun h1 h2 m' hm' hlt' => by
                          rcases Nat.lt_or_ge m' m with h3 | h3
                          · exact hF.out h2 m' hm' h3
                          · have h4 : m' = m := by omega
                            subst h4
                            rcases h1 with h1 | h1
                            · rw [h1] at h2; cases h2
                            · exact h1
                        obtain ⟨z, hz⟩ : ∃ z, Z[m] = z := ⟨_, rfl⟩
                        rw [hz] at hax hzk hstep
                        have HST := Lib.hid hstep
                        have HLM := Lib.hid hlm
                        have hm0 : (0 : Int) ≤ (m : Int) := by omega
                        have hm1 : (m : Int) < (Z.length : Int) := by omega
                        have HLE := Lib.hid (fun W' : World => refLater_any (⟨e1, e2, e3, e4, e5⟩ : Ent) z W' hek hzk)
                        clear hz hzk hstep hF
                        obtain ⟨z1, z2, z3, z4, z5⟩ := z
                        obtain ⟨p0, p1, p2, p3, p4⟩ := hax
                        dsimp only at p0 p1 p2 p3 p4
                        have HXM := Lib.hid hxr
                        have HWM : Hid (Ext (wE.alloc (.cells #[.string e1, .string e2, .string e3, .string e4, .int .i64 e5] 23)) (wr.alloc (.cells #[.string z1, .string z2, .string z3, .string z4, .int .i64 z5] 23))) := Lib.hid (hxr.alloc _)
                        have A0 : ∀ d : Aft (wr.alloc (.cells #[.string z1, .string z2, .string z3, .string z4, .int .i64 z5] 23)), d.w.cell? ⟨wr.heap.size, 0, none⟩ = some (.string z1) := fun d => d.ext.boxed 0 _ rfl
                        have B0 : ∀ d : Aft (wr.alloc (.cells #[.string z1, .string z2, .string z3, .string z4, .int .i64 z5] 23)), d.w.cell? ⟨wE.heap.size, 0, none⟩ = some (.string e1) := fun d => (HWM.out.trans d.ext).boxed 0 _ rfl
                        have A1 : ∀ d : Aft (wr.alloc (.cells #[.string z1, .string z2, .string z3, .string z4, .int .i64 z5] 23)), d.w.cell? ⟨wr.heap.size, 1, none⟩ = some (.string z2) := fun d => d.ext.boxed 1 _ rfl
                        have B1 : ∀ d : Aft (wr.alloc (.cells #[.string z1, .string z2, .string z3, .string z4, .int .i64 z5] 23)), d.w.cell? ⟨wE.heap.size, 1, none⟩ = some (.string e2) := fun d => (HWM.out.trans d.ext).boxed 1 _ rfl
                        have A2 : ∀ d : Aft (wr.alloc (.cells #[.string z1, .string z2, .string z3, .string z4, .int .i64 z5] 23)), d.w.cell? ⟨wr.heap.size, 2, none⟩ = some (.string z3) := fun d => d.ext.boxed 2 _ rfl
                        have B2 : ∀ d : Aft (wr.alloc (.cells #[.string z1, .string z2, .string z3, .string z4, .int .i64 z5] 23)), d.w.cell? ⟨wE.heap.size, 2, none⟩ = some (.string e3) := fun d => (HWM.out.trans d.ext).boxed 2 _ rfl
                        have A3 : ∀ d : Aft (wr.alloc (.cells #[.string z1, .string z2, .string z3, .string z4, .int .i64 z5] 23)), d.w.cell? ⟨wr.heap.size, 3, none⟩ = some (.string z4) := fun d => d.ext.boxed 3 _ rfl
                        have B3 : ∀ d : Aft (wr.alloc (.cells #[.string z1, .string z2, .string z3, .string z4, .int .i64 z5] 23)), d.w.cell? ⟨wE.heap.size, 3, none⟩ = some (.string e4) := fun d => (HWM.out.trans d.ext).boxed 3 _ rfl
                        have A4 : ∀ d : Aft (wr.alloc (.cells #[.string z1, .string z2, .string z3, .string z4, .int .i64 z5] 23)), d.w.cell? ⟨wr.heap.size, 4, none⟩ = some (.int .i64 z5) := fun d => d.ext.boxed 4 _ rfl
                        have B4 : ∀ d : Aft (wr.alloc (.cells #[.string z1, .string z2, .string z3, .string z4, .int .i64 z5] 23)), d.w.cell? ⟨wE.heap.size, 4, none⟩ = some (.int .i64 e5) := fun d => (HWM.out.trans d.ext).boxed 4 _ rfl
                        clear hxr
                        obtain ⟨r, hr⟩ : ∃ r, laterE (⟨e1, e2, e3, e4, e5⟩ : Ent) (⟨z1, z2, z3, z4, z5⟩ : Ent) = r := ⟨_, rfl⟩
                        rw [hr] at HLE HST
                        clear hr
                        obtain ⟨r1, r2, r3, r4, r5⟩ := r
                        unfold eCells at HLE
                        dsimp only at HLE HST
                        cases F with
                        | true =>
                          have HS2 := Lib.hid (HST.out (Or.inl rfl))
                          clear HST HLE
                          go_wp2
                          clear p0 p1 p2 p3 p4
                          refine wp_region_aft (by kernel_rfl) (by kernel_rfl) ?_
                          repeat (first | go_big_quiet_step (fail) | quiet_step (fail))
                          refine wpQuiet_nil ?_
                          rintro _ ⟨d1, rfl⟩
                          have hxd := HWM.out.trans d1.ext
                          go_wp2
                          go_roundw
                          case rel => exact ⟨m + 1, true, rfl, HLM.out, by go_num, HS2, hxd⟩
                          case measure => simp [intOf]; omega
                        | false =>
                          cases hid : (e1.toList == z1.toList) with
                          | false =>
                            have HS2 := Lib.hid (HST.out (Or.inr fun h => str_neb hid h.1))
                            clear HST HLE
                            go_wp2
                            clear p0 p1 p2 p3 p4
                            refine wp_region_aft (by kernel_rfl) (by kernel_rfl) ?_
                            repeat (first | go_big_quiet_step (fail) | quiet_step (fail))
                            refine wpQuiet_nil ?_
                            rintro _ ⟨d1, rfl⟩
                            have hxd := HWM.out.trans d1.ext
                            go_wp2
                            go_roundw
                            case rel => exact ⟨m + 1, false, rfl, HLM.out, by go_num, Lib.hid (fun _ => HS2.out (by trivial)), hxd⟩
                            case measure => simp [intOf]; omega
                          | true =>
                            rcases ent_split r1 r2 r3 r4 r5 z1 z2 z3 z4 z5 with hrz | hrz
                            · injection hrz with g1 g2 g3 g4 g5
                              subst g1 g2 g3 g4 g5
                              clear HST
                              go_wp2
                              clear p0 p1 p2 p3 p4
                              refine wp_region_aft (by kernel_rfl) (by kernel_rfl) ?_
                              repeat (first | go_big_quiet_step ((first | (go_at_call 39; with_reducible exact quiet_call (HLE.out _)))) | quiet_step ((first | (go_at_call 39; with_reducible exact quiet_call (HLE.out _)))))
                              refine wpQuiet_nil ?_
                              rintro _ ⟨d1, rfl⟩
                              have hxd := HWM.out.trans d1.ext
                              go_wp2
                              go_roundw
                              case rel => exact ⟨m + 1, true, rfl, HLM.out, by go_num, Lib.hid (fun h => by cases h), hxd⟩
                              case measure => simp [intOf]; omega
                            · have HS2 := Lib.hid (HST.out (Or.inr fun h => by
                                have h2 := h.2
                                rcases hrz with h | ⟨h0, h | ⟨h1, h | ⟨h2', h | ⟨h3, h⟩⟩⟩⟩
                                · exact str_neb h (congrArg Ent.id h2)
                                · exact str_neb h (congrArg Ent.title h2)
                                · exact str_neb h (congrArg Ent.link h2)
                                · exact str_neb h (congrArg Ent.content h2)
                                · have h5 : r5 = z5 := congrArg Ent.upd h2
                                  rw [h5] at h
                                  simp at h))
                              clear HST
                              rcases hrz with h | ⟨rfl, h | ⟨rfl, h | ⟨rfl, h | ⟨rfl, h⟩⟩⟩⟩
                              all_goals
                                (go_wp2
                                 clear p0 p1 p2 p3 p4
                                 refine wp_region_aft (by kernel_rfl) (by kernel_rfl) ?_
                                 repeat (first | go_big_quiet_step ((first | (go_at_call 39; with_reducible exact quiet_call (HLE.out _)))) | quiet_step ((first | (go_at_call 39; with_reducible exact quiet_call (HLE.out _)))))
                                 refine wpQuiet_nil ?_
                                 rintro _ ⟨d1, rfl⟩
                                 have hxd := HWM.out.trans d1.ext
                                 go_wp2
                                 go_roundw
                                 case rel => exact ⟨m + 1, false, rfl, HLM.out, by go_num, Lib.hid (fun _ => HS2.out (by trivial)), hxd⟩
                                 case measure => simp [intOf]; omega)
                      · have hme : m = Z.length := by omega
                        subst hme
                        have hFt : F = true := by
                          cases F with
                          | true => rfl
                          | false =>
                            obtain ⟨y, hy, h1, h2⟩ := HMT.out
                            obtain ⟨i, hi, rfl⟩ := List.mem_iff_getElem.1 hy
                            exact absurd ⟨h1, h2⟩ (hF.out rfl i hi hi)
                        subst hFt
                        have hxd := (HXJ.out.alloc (.cells #[.string e1, .string e2, .string e3, .string e4, .int .i64 e5] 23)).trans hxr
                        go_wp2
                        go_roundw
                        case rel => exact ⟨j + 1, HLJ.out, by go_num, hxd⟩
                        case measure => simp [intOf]; omega
                  · have hje : j = Y.length := by omega
                    subst hje
                    have g5 := HG5.out _ hxr
                    go_wp2
                    clear g5
                    go_loopw [134] (fun i wr => ∃ m : Nat, m ≤ Z.length ∧ i = .int .i64 m ∧ Ext w5 wr) (fun i _ => Z.length - (intOf i).toNat)
                    case atStart => exact ⟨0, Nat.zero_le _, rfl, hxr⟩
                    case round =>
                      clear hxr
                      obtain ⟨m, hm, rfl, hxr⟩ := hrel
                      by_cases hlm : m < Z.length
                      · obtain ⟨ad, c1, q1, hax⟩ := (HGR.out _ (HX5.out.trans hxr)).at hlm
                        injection q1 with q1 q1' q1''
                        subst q1
                        clear q1' q1''
                        have hzm := HFR2.out _ (List.getElem_mem hlm)
                        obtain ⟨z, hz⟩ : ∃ z, Z[m] = z := ⟨_, rfl⟩
                        rw [hz] at hax hzm
                        have HLM := Lib.hid hlm
                        have HZM := Lib.hid hzm
                        have hm0 : (0 : Int) ≤ (m : Int) := by omega
                        have hm1 : (m : Int) < (Z.length : Int) := by omega
                        have HXM := Lib.hid hxr
                        clear hz hzm hxr
                        obtain ⟨z1, z2, z3, z4, z5⟩ := z
                        obtain ⟨p0, p1, p2, p3, p4⟩ := hax
                        dsimp only at p0 p1 p2 p3 p4
                        obtain ⟨wE, hwE⟩ : ∃ wE : World, wE = wr := ⟨_, rfl⟩
                        subst hwE
                        go_wp2
                        clear p0 p1 p2 p3 p4
                        go_loopw [23, 140] (fun f i wr => ∃ (j : Nat) (F : Bool), f = .bool F ∧ j ≤ Y.length ∧ i = .int .i64 j ∧ Hid (F = false → ∀ j' (h : j' < Y.length), j' < j → Y[j'] ≠ (⟨z1, z2, z3, z4, z5⟩ : Ent)) ∧ Ext (wE.alloc (.cells #[.string z1, .string z2, .string z3, .string z4, .int .i64 z5] 23)) wr) (fun _ i _ => Y.length - (intOf i).toNat)
                        case atStart => exact ⟨0, false, rfl, Nat.zero_le _, rfl, Lib.hid (fun _ m' _ h => by omega), Ext.refl _⟩
                        case round =>
                          clear hj
                          obtain ⟨j, F, rfl, hj, rfl, hF, hxr⟩ := hrel
                          by_cases hlj : j < Y.length
                          · obtain ⟨ad, c1, q1, hax⟩ := (HYR.out _ ((HXM.out.alloc (.cells #[.string z1, .string z2, .string z3, .string z4, .int .i64 z5] 23)).trans hxr)).at hlj
                            injection q1 with q1 q1' q1''
                            subst q1
                            clear q1' q1''
                            have hstep : (F = true ∨ Y[j] ≠ (⟨z1, z2, z3, z4, z5⟩ : Ent)) → F = false → ∀ m' (h : m' < Y.length), m' < j + 1 → Y[m'] ≠ (⟨z1, z2, z3, z4, z5⟩ : Ent) := fun h1 h2 m' hm' hlt' => by
                              rcases Nat.lt_or_ge m' j with h3 | h3
                              · exact hF.out h2 m' hm' h3
                              · have h4 : m' = j := by omega
                                subst h4
                                rcases h1 with h1 | h1
                                · rw [h1] at h2; cases h2
                                · exact h1
                            obtain ⟨e, he⟩ : ∃ e, Y[j] = e := ⟨_, rfl⟩
                            rw [he] at hax hstep
                            have HST := Lib.hid hstep
                            have HLJ := Lib.hid hlj
                            have hj0 : (0 : Int) ≤ (j : Int) := by omega
                            have hj1 : (j : Int) < (Y.length : Int) := by omega
                            clear he hstep hF
                            obtain ⟨e1, e2, e3, e4, e5⟩ := e
                            obtain ⟨p0, p1, p2, p3, p4⟩ := hax
                            dsimp only at p0 p1 p2 p3 p4
                            have hxe := hxr.alloc (.cells #[.string e1, .string e2, .string e3, .string e4, .int .i64 e5] 23)
                            have q0 := hxe.boxed 0 _ rfl
                            have q1 := hxe.boxed 1 _ rfl
                            have q2 := hxe.boxed 2 _ rfl
                            have q3 := hxe.boxed 3 _ rfl
                            have q4 := hxe.boxed 4 _ rfl
                            have HXE := Lib.hid hxe
                            clear hxr hxe
                            cases F with
                            | true =>
                              have HS2 := Lib.hid (HST.out (Or.inl rfl))
                              clear HST
                              go_wp2
                              go_roundw
                              case rel => exact ⟨j + 1, true, rfl, HLJ.out, by go_num, Lib.hid (fun h => by cases h), HXE.out⟩
                              case measure => simp [intOf]; omega
                            | false =>
                              rcases ent_split e1 e2 e3 e4 e5 z1 z2 z3 z4 z5 with hez | hez
                              · injection hez with g1 g2 g3 g4 g5
                                subst g1 g2 g3 g4 g5
                                clear HST
                                go_wp2
                                go_roundw
                                case rel => exact ⟨j + 1, true, rfl, HLJ.out, by go_num, Lib.hid (fun h => by cases h), HXE.out⟩
                                case measure => simp [intOf]; omega
                              · have HS2 := Lib.hid (HST.out (Or.inr fun h2 => by
                                  rcases hez with h | ⟨h0, h | ⟨h1, h | ⟨h2', h | ⟨h3, h⟩⟩⟩⟩
                                  · exact str_neb h (congrArg Ent.id h2)
                                  · exact str_neb h (congrArg Ent.title h2)
                                  · exact str_neb h (congrArg Ent.link h2)
                                  · exact str_neb h (congrArg Ent.content h2)
                                  · have h5 : e5 = z5 := congrArg Ent.upd h2
                                    rw [h5] at h
                                    simp at h))
                                clear HST
                                rcases hez with h | ⟨rfl, h | ⟨rfl, h | ⟨rfl, h | ⟨rfl, h⟩⟩⟩⟩
                                all_goals
                                  (go_wp2
                                   go_roundw
                                   case rel => exact ⟨j + 1, false, rfl, HLJ.out, by go_num, Lib.hid (fun _ => HS2.out (by trivial)), HXE.out⟩
                                   case measure => simp [intOf]; omega)
                          · have hje : j = Y.length := by omega
                            have hFt : F = true := by
                              cases F with
                              | true => rfl
                              | false =>
                                obtain ⟨i, hi, h1⟩ := List.mem_iff_getElem.1 HZM.out
                                exact absurd h1 (hF.out rfl i hi (by omega))
                            subst hFt
                            have hxd := (HXM.out.alloc (.cells #[.string z1, .string z2, .string z3, .string z4, .int .i64 z5] 23)).trans hxr
                            go_wp2
                            go_roundw
                            case rel => exact ⟨m + 1, HLM.out, by go_num, hxd⟩
                            case measure => simp [intOf]; omega
                      · have hme : m = Z.length := by omega
                        subst hme
                        have hxd := HX5.out.trans hxr
                        go_wp2
                        go_roundw
                        case rel => ((repeat apply Exists.intro); refine ⟨?_, rfl⟩; exact ⟨k + 1, HLT.out, by go_num, hxd⟩)
                        case measure => simp [intOf]; omega
              · have hke : k = rl.length := by omega
                subst hke
                go_wp2_with (first
                  | (go_at_call 33; (have hz := HAL.out _ (HX2.out.trans hxr)); (with_reducible refine Calls.mono hz ?_); clear hz; rintro e wa ⟨rfl, hxa⟩))
                go_ret
                exact ⟨rfl, HX1.out.trans ((HX2.out.trans hxr).trans hxa)⟩
end Go.Proofs.YtgecijhgonfldaaGreatDoor
