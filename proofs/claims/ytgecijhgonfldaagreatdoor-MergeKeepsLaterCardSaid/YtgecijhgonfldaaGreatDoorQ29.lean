/- Parts of the proof: contracts and plain laws that the statement needs. -/
import Derived.Test.YtgecijhgonfldaaGreatDoorQ28
import Derived.Test.YtgecijhgonfldaaGreatDoorQ19
import Derived.Test.YtgecijhgonfldaaGreatDoorQ20
import Derived.Lib.AppendZerosOnto
import Derived.Lib.SliceRun
namespace Go.Proofs.YtgecijhgonfldaaGreatDoor
open Go Go.RowKit
set_option linter.unusedVariables false
set_option maxRecDepth 100000 in
set_option maxHeartbeats 4000000 in
theorem eqS_any (u v : Value) (l m : List ByteArray) (w : World) (hu : RStrs w u l) (hv : RStrs w v m) (hn : l.length ≤ 16777216) (hn2 : m.length ≤ 9223372036854775807) :
    Calls Tryz.prog 131 #[u, v] w fun e w' => e = .returned (.bool (decide (l = m))) ∧ Ext w w' := by
  obtain ⟨R, hR⟩ : ∃ R, decide (l = m) = R := ⟨_, rfl⟩
  rw [hR]
  obtain ⟨A, c, rfl, -, -⟩ := hu.form
  obtain ⟨B, d, rfl, -, -⟩ := hv.form
  by_cases h4 : l.length = m.length
  case neg =>
    have hRf : R = false := by
      rw [← hR]
      exact decide_eq_false fun e => h4 (congrArg List.length e)
    subst hRf
    have hb : ((l.length : Int) != (m.length : Int)) = true := by simp; omega
    have hb2 : ((l.length : Int) == (m.length : Int)) = false := by simp; omega
    clear hR hu hv
    go_enter Tryz.func131, Tryz.ntmps131
    go_wp2
    go_ret
    exact ⟨rfl, Ext.refl _⟩
  case pos =>
    have HR := Lib.hid hR
    have HU := Lib.hid hu
    have HV := Lib.hid hv
    obtain ⟨M, hM⟩ : ∃ M, l.length = M := ⟨_, rfl⟩
    have hM2 : m.length = M := by rw [← h4]; exact hM
    have HM := Lib.hid hM
    have HM2 := Lib.hid hM2
    rw [hM] at hn
    simp only [hM, hM2]
    clear hu hv h4 hM hM2 hR hn2
    go_enter Tryz.func131, Tryz.ntmps131
    go_wp2
    go_loopw [13] (fun i wr => ∃ k : Nat, k ≤ M ∧ i = .int .i64 k ∧ Hid (∀ j (h1 : j < l.length) (h2 : j < m.length), j < k → l[j] = m[j]) ∧ Ext w wr) (fun i _ => M - (intOf i).toNat)
    case atStart => exact ⟨0, Nat.zero_le _, rfl, Lib.hid (fun j _ _ h => by omega), Ext.refl _⟩
    case round =>
      obtain ⟨k, hk, rfl, hinv, hxr⟩ := hrel
      by_cases hlt : k < M
      · have hkx : k < l.length := by rw [HM.out]; exact hlt
        have hky : k < m.length := by rw [HM2.out]; exact hlt
        obtain ⟨ad, c1, e1, hax⟩ := (HU.out.ext hxr).at hkx
        obtain ⟨ae, c2, e2, hay⟩ := (HV.out.ext hxr).at hky
        injection e1 with e1 e1' e1''
        injection e2 with e2 e2' e2''
        subst e1 e2
        clear e1' e1'' e2' e2''
        have hstep := take_succ_all (P := fun a b => a = b) hkx hky hinv.out
        have hno : l[k] ≠ m[k] → R = false := fun h => by
          rw [← HR.out]
          refine decide_eq_false fun e => h ?_
          subst e
          rfl
        obtain ⟨x, hxx⟩ : ∃ x, l[k] = x := ⟨_, rfl⟩
        obtain ⟨y, hyy⟩ : ∃ y, m[k] = y := ⟨_, rfl⟩
        rw [hxx] at hax hstep hno
        rw [hyy] at hay hstep hno
        have HST := Lib.hid hstep
        clear hstep hxx hyy hkx hky
        have hi0' : (0 : Int) ≤ (k : Int) := by omega
        have hi1 : (k : Int) < (M : Int) := by omega
        have P0 := fun z : Aft wr => Aft.cell hax z
        have Q0 := fun z : Aft wr => Aft.cell hay z
        clear hax hay
        cases hyz : (x.toList == y.toList) with
        | true =>
          have hxy := toList_inj (by simpa using hyz : x.toList = y.toList)
          subst hxy
          clear hno hyz
          go_wp2
          refine wp_region_aft (by kernel_rfl) (by kernel_rfl) ?_
          repeat (first | go_big_quiet_step (fail) | quiet_step (fail))
          refine wpQuiet_nil ?_
          rintro _ ⟨d1, rfl⟩
          go_wp2
          go_roundw
          case rel => exact ⟨k + 1, hlt, by go_num, Lib.hid (HST.out (by trivial)), hxr.trans d1.ext⟩
          case measure => simp [intOf]; omega
        | false =>
          have hRf := hno (fun e => by rw [e] at hyz; simp at hyz)
          subst hRf
          clear hno HST
          go_wp2
          refine wp_region_aft (by kernel_rfl) (by kernel_rfl) ?_
          repeat (first | go_big_quiet_step (fail) | quiet_step (fail))
          refine wpQuiet_nil ?_
          rintro _ ⟨d1, rfl⟩
          go_wp2
          go_ret
          exact ⟨rfl, hxr.trans d1.ext⟩
      · have hke : k = M := by omega
        subst hke
        have hRt : R = true := by
          rw [← HR.out]
          exact decide_eq_true (List.ext_getElem (by rw [HM.out, HM2.out]) fun j h1 h2 => hinv.out j h1 h2 (by have := HM.out; omega))
        subst hRt
        go_wp2
        go_ret
        exact ⟨rfl, hxr⟩
set_option maxRecDepth 100000 in
set_option maxHeartbeats 4000000 in
theorem eqEs_any (u v : Value) (l m : List Ent) (w : World) (hu : REnts w u l) (hv : REnts w v m) (hn : l.length ≤ 16777216) (hn2 : m.length ≤ 9223372036854775807) :
    Calls Tryz.prog 132 #[u, v] w fun e w' => e = .returned (.bool (decide (l = m))) ∧ Ext w w' := by
  obtain ⟨R, hR⟩ : ∃ R, decide (l = m) = R := ⟨_, rfl⟩
  rw [hR]
  obtain ⟨A, c, rfl, -, -⟩ := hu.form
  obtain ⟨B, d, rfl, -, -⟩ := hv.form
  by_cases h4 : l.length = m.length
  case neg =>
    have hRf : R = false := by
      rw [← hR]
      exact decide_eq_false fun e => h4 (congrArg List.length e)
    subst hRf
    have hb : ((l.length : Int) != (m.length : Int)) = true := by simp; omega
    have hb2 : ((l.length : Int) == (m.length : Int)) = false := by simp; omega
    clear hR hu hv
    go_enter Tryz.func132, Tryz.ntmps132
    go_wp2
    go_ret
    exact ⟨rfl, Ext.refl _⟩
  case pos =>
    have HR := Lib.hid hR
    have HU := Lib.hid hu
    have HV := Lib.hid hv
    obtain ⟨M, hM⟩ : ∃ M, l.length = M := ⟨_, rfl⟩
    have hM2 : m.length = M := by rw [← h4]; exact hM
    have HM := Lib.hid hM
    have HM2 := Lib.hid hM2
    rw [hM] at hn
    simp only [hM, hM2]
    clear hu hv h4 hM hM2 hR hn2
    go_enter Tryz.func132, Tryz.ntmps132
    go_wp2
    go_loopw [13] (fun i wr => ∃ k : Nat, k ≤ M ∧ i = .int .i64 k ∧ Hid (∀ j (h1 : j < l.length) (h2 : j < m.length), j < k → l[j] = m[j]) ∧ Ext w wr) (fun i _ => M - (intOf i).toNat)
    case atStart => exact ⟨0, Nat.zero_le _, rfl, Lib.hid (fun j _ _ h => by omega), Ext.refl _⟩
    case round =>
      obtain ⟨k, hk, rfl, hinv, hxr⟩ := hrel
      by_cases hlt : k < M
      · have hkx : k < l.length := by rw [HM.out]; exact hlt
        have hky : k < m.length := by rw [HM2.out]; exact hlt
        obtain ⟨ad, c1, e1, hax⟩ := (HU.out.ext hxr).at hkx
        obtain ⟨ae, c2, e2, hay⟩ := (HV.out.ext hxr).at hky
        injection e1 with e1 e1' e1''
        injection e2 with e2 e2' e2''
        subst e1 e2
        clear e1' e1'' e2' e2''
        have hstep := take_succ_all (P := fun a b => a = b) hkx hky hinv.out
        have hno : l[k] ≠ m[k] → R = false := fun h => by
          rw [← HR.out]
          refine decide_eq_false fun e => h ?_
          subst e
          rfl
        obtain ⟨x, hxx⟩ : ∃ x, l[k] = x := ⟨_, rfl⟩
        obtain ⟨y, hyy⟩ : ∃ y, m[k] = y := ⟨_, rfl⟩
        rw [hxx] at hax hstep hno
        rw [hyy] at hay hstep hno
        have HST := Lib.hid hstep
        clear hstep hxx hyy hkx hky
        have hi0' : (0 : Int) ≤ (k : Int) := by omega
        have hi1 : (k : Int) < (M : Int) := by omega
        obtain ⟨i1, t1, l1, c1', u1⟩ := x
        obtain ⟨i2, t2, l2, c2', u2⟩ := y
        obtain ⟨p0, p1, p2, p3, p4⟩ := hax
        obtain ⟨q0, q1, q2, q3, q4⟩ := hay
        dsimp only at p0 p1 p2 p3 p4 q0 q1 q2 q3 q4
        have P0 := fun z : Aft wr => Aft.cell p0 z
        have Q0 := fun z : Aft wr => Aft.cell q0 z
        have P1 := fun z : Aft wr => Aft.cell p1 z
        have Q1 := fun z : Aft wr => Aft.cell q1 z
        have P2 := fun z : Aft wr => Aft.cell p2 z
        have Q2 := fun z : Aft wr => Aft.cell q2 z
        have P3 := fun z : Aft wr => Aft.cell p3 z
        have Q3 := fun z : Aft wr => Aft.cell q3 z
        have P4 := fun z : Aft wr => Aft.cell p4 z
        have Q4 := fun z : Aft wr => Aft.cell q4 z
        clear p0 p1 p2 p3 p4 q0 q1 q2 q3 q4
        by_cases hxy : (⟨i1, t1, l1, c1', u1⟩ : Ent) = ⟨i2, t2, l2, c2', u2⟩
        · injection hxy with g1 g2 g3 g4 g5
          subst g1 g2 g3 g4 g5
          clear hno
          go_wp2
          refine wp_region_aft (by kernel_rfl) (by kernel_rfl) ?_
          repeat (first | go_big_quiet_step (fail) | quiet_step (fail))
          refine wpQuiet_nil ?_
          rintro _ ⟨d1, rfl⟩
          go_wp2
          go_roundw
          case rel => exact ⟨k + 1, hlt, by go_num, Lib.hid (HST.out (by trivial)), hxr.trans d1.ext⟩
          case measure => simp [intOf]; omega
        · have hRf := hno hxy
          subst hRf
          have hsp : (i1.toList == i2.toList) = false ∨ (i1 = i2 ∧ ((t1.toList == t2.toList) = false ∨ (t1 = t2 ∧ ((l1.toList == l2.toList) = false ∨ (l1 = l2 ∧ ((c1'.toList == c2'.toList) = false ∨ (c1' = c2' ∧ (u1 == u2) = false))))))) := by
            cases g1 : (i1.toList == i2.toList) with
            | false => exact Or.inl rfl
            | true =>
            refine Or.inr ⟨toList_inj (by simpa using g1), ?_⟩
            cases g2 : (t1.toList == t2.toList) with
            | false => exact Or.inl rfl
            | true =>
            refine Or.inr ⟨toList_inj (by simpa using g2), ?_⟩
            cases g3 : (l1.toList == l2.toList) with
            | false => exact Or.inl rfl
            | true =>
            refine Or.inr ⟨toList_inj (by simpa using g3), ?_⟩
            cases g4 : (c1'.toList == c2'.toList) with
            | false => exact Or.inl rfl
            | true =>
            refine Or.inr ⟨toList_inj (by simpa using g4), ?_⟩
            rw [beq_eq_false_iff_ne]
            intro g5
            exact hxy (by rw [toList_inj (by simpa using g1 : i1.toList = i2.toList), toList_inj (by simpa using g2 : t1.toList = t2.toList), toList_inj (by simpa using g3 : l1.toList = l2.toList), toList_inj (by simpa using g4 : c1'.toList = c2'.toList), g5])
          clear hno hxy HST
          rcases hsp with h | ⟨rfl, h | ⟨rfl, h | ⟨rfl, h | ⟨rfl, h⟩⟩⟩⟩
          all_goals
            (go_wp2
             refine wp_region_aft (by kernel_rfl) (by kernel_rfl) ?_
             repeat (first | go_big_quiet_step (fail) | quiet_step (fail))
             refine wpQuiet_nil ?_
             rintro _ ⟨d1, rfl⟩
             go_wp2
             go_ret
             exact ⟨rfl, hxr.trans d1.ext⟩)
      · have hke : k = M := by omega
        subst hke
        have hRt : R = true := by
          rw [← HR.out]
          exact decide_eq_true (List.ext_getElem (by rw [HM.out, HM2.out]) fun j h1 h2 => hinv.out j h1 h2 (by have := HM.out; omega))
        subst hRt
        go_wp2
        go_ret
        exact ⟨rfl, hxr⟩
set_option maxRecDepth 100000 in
set_option maxHeartbeats 2000000 in
theorem mSame_0 (x y : Fc) (w : World) (hx : RdC w x) (hy : RdC w y) (hn : x.f.path.length ≤ 16777216) (hn2 : y.f.path.length ≤ 16777216) (hm : x.f.ents.length ≤ 16777216) (hm2 : y.f.ents.length ≤ 16777216)  (hp : ¬ x.f.path = y.f.path) :
    Calls Tryz.prog 96 #[.agg (cellsC x).toArray, .agg (cellsC y).toArray] w fun e w' => e = .returned (.bool false) ∧ Ext w w' := by
  obtain ⟨xp, xes, ⟨xpath, xid, xtitle, xlink, xupd, xents⟩⟩ := x
  obtain ⟨yp, yes, ⟨ypath, yid, ytitle, ylink, yupd, yents⟩⟩ := y
  obtain ⟨hx0, hx1⟩ := hx
  obtain ⟨hy0, hy1⟩ := hy
  dsimp only at *
  obtain ⟨xA, xc, rfl, -, -⟩ := hx0.form
  obtain ⟨xB, xd, rfl, -, -⟩ := hx1.form
  obtain ⟨yA, yc, rfl, -, -⟩ := hy0.form
  obtain ⟨yB, yd, rfl, -, -⟩ := hy1.form
  have HCP := Lib.hid (eqS_any _ _ xpath ypath ((w.alloc (.cells #[.slice xA xpath.length xc, .string xid, .string xtitle, .string xlink, .int .i64 xupd, .slice xB xents.length xd] 35)).alloc (.cells #[.slice yA ypath.length yc, .string yid, .string ytitle, .string ylink, .int .i64 yupd, .slice yB yents.length yd] 35)) (hx0.ext (((Ext.refl _).alloc _).alloc _)) (hy0.ext (((Ext.refl _).alloc _).alloc _)) hn (by omega))
  have HCE := Lib.hid (fun (w' : World) (h : Ext ((w.alloc (.cells #[.slice xA xpath.length xc, .string xid, .string xtitle, .string xlink, .int .i64 xupd, .slice xB xents.length xd] 35)).alloc (.cells #[.slice yA ypath.length yc, .string yid, .string ytitle, .string ylink, .int .i64 yupd, .slice yB yents.length yd] 35)) w') => eqEs_any _ _ xents yents w' (hx1.ext ((((Ext.refl _).alloc _).alloc _).trans h)) (hy1.ext ((((Ext.refl _).alloc _).alloc _).trans h)) hm (by omega))
  have HXA : Hid (∀ w1 : World, Ext ((w.alloc (.cells #[.slice xA xpath.length xc, .string xid, .string xtitle, .string xlink, .int .i64 xupd, .slice xB xents.length xd] 35)).alloc (.cells #[.slice yA ypath.length yc, .string yid, .string ytitle, .string ylink, .int .i64 yupd, .slice yB yents.length yd] 35)) w1 → Ext (w.alloc (.cells #[.slice xA xpath.length xc, .string xid, .string xtitle, .string xlink, .int .i64 xupd, .slice xB xents.length xd] 35)) w1) := Lib.hid fun w1 h => ((Ext.refl _).alloc _).trans h
  rw [decide_eq_false hp] at HCP
  clear hx0 hx1 hy0 hy1 hn hn2 hm hm2 hp
  clear HCE
  unfold cellsC fCells
  dsimp only
  go_enter Tryz.func96, Tryz.ntmps96
  go_wp2_with (first
    | (go_at_call 131; (have hz := HCP.out); (with_reducible refine Calls.mono hz ?_); clear hz; rintro e w1 ⟨rfl, hx1⟩; (have hxa := HXA.out _ hx1); (have a0 := hxa.boxed 0 _ rfl); (have b0 := boxed2b hx1 0 _ rfl); (have a1 := hxa.boxed 1 _ rfl); (have b1 := boxed2b hx1 1 _ rfl); (have a2 := hxa.boxed 2 _ rfl); (have b2 := boxed2b hx1 2 _ rfl); (have a3 := hxa.boxed 3 _ rfl); (have b3 := boxed2b hx1 3 _ rfl); (have a4 := hxa.boxed 4 _ rfl); (have b4 := boxed2b hx1 4 _ rfl); (have a5 := hxa.boxed 5 _ rfl); (have b5 := boxed2b hx1 5 _ rfl)))
  all_goals go_ret
  all_goals exact ⟨rfl, (((Ext.refl _).alloc _).alloc _).trans hx1⟩
set_option maxRecDepth 100000 in
set_option maxHeartbeats 2000000 in
theorem mSame_1 (x y : Fc) (w : World) (hx : RdC w x) (hy : RdC w y) (hn : x.f.path.length ≤ 16777216) (hn2 : y.f.path.length ≤ 16777216) (hm : x.f.ents.length ≤ 16777216) (hm2 : y.f.ents.length ≤ 16777216) (hp : x.f.path = y.f.path) (h0 : (x.f.id.toList == y.f.id.toList) = false) :
    Calls Tryz.prog 96 #[.agg (cellsC x).toArray, .agg (cellsC y).toArray] w fun e w' => e = .returned (.bool false) ∧ Ext w w' := by
  obtain ⟨xp, xes, ⟨xpath, xid, xtitle, xlink, xupd, xents⟩⟩ := x
  obtain ⟨yp, yes, ⟨ypath, yid, ytitle, ylink, yupd, yents⟩⟩ := y
  obtain ⟨hx0, hx1⟩ := hx
  obtain ⟨hy0, hy1⟩ := hy
  dsimp only at *
  obtain ⟨xA, xc, rfl, -, -⟩ := hx0.form
  obtain ⟨xB, xd, rfl, -, -⟩ := hx1.form
  obtain ⟨yA, yc, rfl, -, -⟩ := hy0.form
  obtain ⟨yB, yd, rfl, -, -⟩ := hy1.form
  have HCP := Lib.hid (eqS_any _ _ xpath ypath ((w.alloc (.cells #[.slice xA xpath.length xc, .string xid, .string xtitle, .string xlink, .int .i64 xupd, .slice xB xents.length xd] 35)).alloc (.cells #[.slice yA ypath.length yc, .string yid, .string ytitle, .string ylink, .int .i64 yupd, .slice yB yents.length yd] 35)) (hx0.ext (((Ext.refl _).alloc _).alloc _)) (hy0.ext (((Ext.refl _).alloc _).alloc _)) hn (by omega))
  have HCE := Lib.hid (fun (w' : World) (h : Ext ((w.alloc (.cells #[.slice xA xpath.length xc, .string xid, .string xtitle, .string xlink, .int .i64 xupd, .slice xB xents.length xd] 35)).alloc (.cells #[.slice yA ypath.length yc, .string yid, .string ytitle, .string ylink, .int .i64 yupd, .slice yB yents.length yd] 35)) w') => eqEs_any _ _ xents yents w' (hx1.ext ((((Ext.refl _).alloc _).alloc _).trans h)) (hy1.ext ((((Ext.refl _).alloc _).alloc _).trans h)) hm (by omega))
  have HXA : Hid (∀ w1 : World, Ext ((w.alloc (.cells #[.slice xA xpath.length xc, .string xid, .string xtitle, .string xlink, .int .i64 xupd, .slice xB xents.length xd] 35)).alloc (.cells #[.slice yA ypath.length yc, .string yid, .string ytitle, .string ylink, .int .i64 yupd, .slice yB yents.length yd] 35)) w1 → Ext (w.alloc (.cells #[.slice xA xpath.length xc, .string xid, .string xtitle, .string xlink, .int .i64 xupd, .slice xB xents.length xd] 35)) w1) := Lib.hid fun w1 h => ((Ext.refl _).alloc _).trans h
  rw [decide_eq_true hp] at HCP
  clear hx0 hx1 hy0 hy1 hn hn2 hm hm2 hp
  clear HCE
  unfold cellsC fCells
  dsimp only
  go_enter Tryz.func96, Tryz.ntmps96
  go_wp2_with (first
    | (go_at_call 131; (have hz := HCP.out); (with_reducible refine Calls.mono hz ?_); clear hz; rintro e w1 ⟨rfl, hx1⟩; (have hxa := HXA.out _ hx1); (have a0 := hxa.boxed 0 _ rfl); (have b0 := boxed2b hx1 0 _ rfl); (have a1 := hxa.boxed 1 _ rfl); (have b1 := boxed2b hx1 1 _ rfl); (have a2 := hxa.boxed 2 _ rfl); (have b2 := boxed2b hx1 2 _ rfl); (have a3 := hxa.boxed 3 _ rfl); (have b3 := boxed2b hx1 3 _ rfl); (have a4 := hxa.boxed 4 _ rfl); (have b4 := boxed2b hx1 4 _ rfl); (have a5 := hxa.boxed 5 _ rfl); (have b5 := boxed2b hx1 5 _ rfl)))
  all_goals go_ret
  all_goals exact ⟨rfl, (((Ext.refl _).alloc _).alloc _).trans hx1⟩
set_option maxRecDepth 100000 in
set_option maxHeartbeats 2000000 in
theorem mSame_2 (x y : Fc) (w : World) (hx : RdC w x) (hy : RdC w y) (hn : x.f.path.length ≤ 16777216) (hn2 : y.f.path.length ≤ 16777216) (hm : x.f.ents.length ≤ 16777216) (hm2 : y.f.ents.length ≤ 16777216) (hp : x.f.path = y.f.path) (h0 : x.f.id = y.f.id) (h1 : (x.f.title.toList == y.f.title.toList) = false) :
    Calls Tryz.prog 96 #[.agg (cellsC x).toArray, .agg (cellsC y).toArray] w fun e w' => e = .returned (.bool false) ∧ Ext w w' := by
  obtain ⟨xp, xes, ⟨xpath, xid, xtitle, xlink, xupd, xents⟩⟩ := x
  obtain ⟨yp, yes, ⟨ypath, yid, ytitle, ylink, yupd, yents⟩⟩ := y
  obtain ⟨hx0, hx1⟩ := hx
  obtain ⟨hy0, hy1⟩ := hy
  dsimp only at *
  obtain ⟨xA, xc, rfl, -, -⟩ := hx0.form
  obtain ⟨xB, xd, rfl, -, -⟩ := hx1.form
  obtain ⟨yA, yc, rfl, -, -⟩ := hy0.form
  obtain ⟨yB, yd, rfl, -, -⟩ := hy1.form
  have HCP := Lib.hid (eqS_any _ _ xpath ypath ((w.alloc (.cells #[.slice xA xpath.length xc, .string xid, .string xtitle, .string xlink, .int .i64 xupd, .slice xB xents.length xd] 35)).alloc (.cells #[.slice yA ypath.length yc, .string yid, .string ytitle, .string ylink, .int .i64 yupd, .slice yB yents.length yd] 35)) (hx0.ext (((Ext.refl _).alloc _).alloc _)) (hy0.ext (((Ext.refl _).alloc _).alloc _)) hn (by omega))
  have HCE := Lib.hid (fun (w' : World) (h : Ext ((w.alloc (.cells #[.slice xA xpath.length xc, .string xid, .string xtitle, .string xlink, .int .i64 xupd, .slice xB xents.length xd] 35)).alloc (.cells #[.slice yA ypath.length yc, .string yid, .string ytitle, .string ylink, .int .i64 yupd, .slice yB yents.length yd] 35)) w') => eqEs_any _ _ xents yents w' (hx1.ext ((((Ext.refl _).alloc _).alloc _).trans h)) (hy1.ext ((((Ext.refl _).alloc _).alloc _).trans h)) hm (by omega))
  have HXA : Hid (∀ w1 : World, Ext ((w.alloc (.cells #[.slice xA xpath.length xc, .string xid, .string xtitle, .string xlink, .int .i64 xupd, .slice xB xents.length xd] 35)).alloc (.cells #[.slice yA ypath.length yc, .string yid, .string ytitle, .string ylink, .int .i64 yupd, .slice yB yents.length yd] 35)) w1 → Ext (w.alloc (.cells #[.slice xA xpath.length xc, .string xid, .string xtitle, .string xlink, .int .i64 xupd, .slice xB xents.length xd] 35)) w1) := Lib.hid fun w1 h => ((Ext.refl _).alloc _).trans h
  rw [decide_eq_true hp] at HCP
  clear hx0 hx1 hy0 hy1 hn hn2 hm hm2 hp
  clear HCE
  subst h0
  unfold cellsC fCells
  dsimp only
  go_enter Tryz.func96, Tryz.ntmps96
  go_wp2_with (first
    | (go_at_call 131; (have hz := HCP.out); (with_reducible refine Calls.mono hz ?_); clear hz; rintro e w1 ⟨rfl, hx1⟩; (have hxa := HXA.out _ hx1); (have a0 := hxa.boxed 0 _ rfl); (have b0 := boxed2b hx1 0 _ rfl); (have a1 := hxa.boxed 1 _ rfl); (have b1 := boxed2b hx1 1 _ rfl); (have a2 := hxa.boxed 2 _ rfl); (have b2 := boxed2b hx1 2 _ rfl); (have a3 := hxa.boxed 3 _ rfl); (have b3 := boxed2b hx1 3 _ rfl); (have a4 := hxa.boxed 4 _ rfl); (have b4 := boxed2b hx1 4 _ rfl); (have a5 := hxa.boxed 5 _ rfl); (have b5 := boxed2b hx1 5 _ rfl)))
  all_goals go_ret
  all_goals exact ⟨rfl, (((Ext.refl _).alloc _).alloc _).trans hx1⟩
set_option maxRecDepth 100000 in
set_option maxHeartbeats 2000000 in
theorem mSame_3 (x y : Fc) (w : World) (hx : RdC w x) (hy : RdC w y) (hn : x.f.path.length ≤ 16777216) (hn2 : y.f.path.length ≤ 16777216) (hm : x.f.ents.length ≤ 16777216) (hm2 : y.f.ents.length ≤ 16777216) (hp : x.f.path = y.f.path) (h0 : x.f.id = y.f.id) (h1 : x.f.title = y.f.title) (h2 : (x.f.link.toList == y.f.link.toList) = false) :
    Calls Tryz.prog 96 #[.agg (cellsC x).toArray, .agg (cellsC y).toArray] w fun e w' => e = .returned (.bool false) ∧ Ext w w' := by
  obtain ⟨xp, xes, ⟨xpath, xid, xtitle, xlink, xupd, xents⟩⟩ := x
  obtain ⟨yp, yes, ⟨ypath, yid, ytitle, ylink, yupd, yents⟩⟩ := y
  obtain ⟨hx0, hx1⟩ := hx
  obtain ⟨hy0, hy1⟩ := hy
  dsimp only at *
  obtain ⟨xA, xc, rfl, -, -⟩ := hx0.form
  obtain ⟨xB, xd, rfl, -, -⟩ := hx1.form
  obtain ⟨yA, yc, rfl, -, -⟩ := hy0.form
  obtain ⟨yB, yd, rfl, -, -⟩ := hy1.form
  have HCP := Lib.hid (eqS_any _ _ xpath ypath ((w.alloc (.cells #[.slice xA xpath.length xc, .string xid, .string xtitle, .string xlink, .int .i64 xupd, .slice xB xents.length xd] 35)).alloc (.cells #[.slice yA ypath.length yc, .string yid, .string ytitle, .string ylink, .int .i64 yupd, .slice yB yents.length yd] 35)) (hx0.ext (((Ext.refl _).alloc _).alloc _)) (hy0.ext (((Ext.refl _).alloc _).alloc _)) hn (by omega))
  have HCE := Lib.hid (fun (w' : World) (h : Ext ((w.alloc (.cells #[.slice xA xpath.length xc, .string xid, .string xtitle, .string xlink, .int .i64 xupd, .slice xB xents.length xd] 35)).alloc (.cells #[.slice yA ypath.length yc, .string yid, .string ytitle, .string ylink, .int .i64 yupd, .slice yB yents.length yd] 35)) w') => eqEs_any _ _ xents yents w' (hx1.ext ((((Ext.refl _).alloc _).alloc _).trans h)) (hy1.ext ((((Ext.refl _).alloc _).alloc _).trans h)) hm (by omega))
  have HXA : Hid (∀ w1 : World, Ext ((w.alloc (.cells #[.slice xA xpath.length xc, .string xid, .string xtitle, .string xlink, .int .i64 xupd, .slice xB xents.length xd] 35)).alloc (.cells #[.slice yA ypath.length yc, .string yid, .string ytitle, .string ylink, .int .i64 yupd, .slice yB yents.length yd] 35)) w1 → Ext (w.alloc (.cells #[.slice xA xpath.length xc, .string xid, .string xtitle, .string xlink, .int .i64 xupd, .slice xB xents.length xd] 35)) w1) := Lib.hid fun w1 h => ((Ext.refl _).alloc _).trans h
  rw [decide_eq_true hp] at HCP
  clear hx0 hx1 hy0 hy1 hn hn2 hm hm2 hp
  clear HCE
  subst h0 h1
  unfold cellsC fCells
  dsimp only
  go_enter Tryz.func96, Tryz.ntmps96
  go_wp2_with (first
    | (go_at_call 131; (have hz := HCP.out); (with_reducible refine Calls.mono hz ?_); clear hz; rintro e w1 ⟨rfl, hx1⟩; (have hxa := HXA.out _ hx1); (have a0 := hxa.boxed 0 _ rfl); (have b0 := boxed2b hx1 0 _ rfl); (have a1 := hxa.boxed 1 _ rfl); (have b1 := boxed2b hx1 1 _ rfl); (have a2 := hxa.boxed 2 _ rfl); (have b2 := boxed2b hx1 2 _ rfl); (have a3 := hxa.boxed 3 _ rfl); (have b3 := boxed2b hx1 3 _ rfl); (have a4 := hxa.boxed 4 _ rfl); (have b4 := boxed2b hx1 4 _ rfl); (have a5 := hxa.boxed 5 _ rfl); (have b5 := boxed2b hx1 5 _ rfl)))
  all_goals go_ret
  all_goals exact ⟨rfl, (((Ext.refl _).alloc _).alloc _).trans hx1⟩
set_option maxRecDepth 100000 in
set_option maxHeartbeats 2000000 in
theorem mSame_4 (x y : Fc) (w : World) (hx : RdC w x) (hy : RdC w y) (hn : x.f.path.length ≤ 16777216) (hn2 : y.f.path.length ≤ 16777216) (hm : x.f.ents.length ≤ 16777216) (hm2 : y.f.ents.length ≤ 16777216) (hp : x.f.path = y.f.path) (h0 : x.f.id = y.f.id) (h1 : x.f.title = y.f.title) (h2 : x.f.link = y.f.link) (h3 : (x.f.upd == y.f.upd) = false) :
    Calls Tryz.prog 96 #[.agg (cellsC x).toArray, .agg (cellsC y).toArray] w fun e w' => e = .returned (.bool false) ∧ Ext w w' := by
  obtain ⟨xp, xes, ⟨xpath, xid, xtitle, xlink, xupd, xents⟩⟩ := x
  obtain ⟨yp, yes, ⟨ypath, yid, ytitle, ylink, yupd, yents⟩⟩ := y
  obtain ⟨hx0, hx1⟩ := hx
  obtain ⟨hy0, hy1⟩ := hy
  dsimp only at *
  obtain ⟨xA, xc, rfl, -, -⟩ := hx0.form
  obtain ⟨xB, xd, rfl, -, -⟩ := hx1.form
  obtain ⟨yA, yc, rfl, -, -⟩ := hy0.form
  obtain ⟨yB, yd, rfl, -, -⟩ := hy1.form
  have HCP := Lib.hid (eqS_any _ _ xpath ypath ((w.alloc (.cells #[.slice xA xpath.length xc, .string xid, .string xtitle, .string xlink, .int .i64 xupd, .slice xB xents.length xd] 35)).alloc (.cells #[.slice yA ypath.length yc, .string yid, .string ytitle, .string ylink, .int .i64 yupd, .slice yB yents.length yd] 35)) (hx0.ext (((Ext.refl _).alloc _).alloc _)) (hy0.ext (((Ext.refl _).alloc _).alloc _)) hn (by omega))
  have HCE := Lib.hid (fun (w' : World) (h : Ext ((w.alloc (.cells #[.slice xA xpath.length xc, .string xid, .string xtitle, .string xlink, .int .i64 xupd, .slice xB xents.length xd] 35)).alloc (.cells #[.slice yA ypath.length yc, .string yid, .string ytitle, .string ylink, .int .i64 yupd, .slice yB yents.length yd] 35)) w') => eqEs_any _ _ xents yents w' (hx1.ext ((((Ext.refl _).alloc _).alloc _).trans h)) (hy1.ext ((((Ext.refl _).alloc _).alloc _).trans h)) hm (by omega))
  have HXA : Hid (∀ w1 : World, Ext ((w.alloc (.cells #[.slice xA xpath.length xc, .string xid, .string xtitle, .string xlink, .int .i64 xupd, .slice xB xents.length xd] 35)).alloc (.cells #[.slice yA ypath.length yc, .string yid, .string ytitle, .string ylink, .int .i64 yupd, .slice yB yents.length yd] 35)) w1 → Ext (w.alloc (.cells #[.slice xA xpath.length xc, .string xid, .string xtitle, .string xlink, .int .i64 xupd, .slice xB xents.length xd] 35)) w1) := Lib.hid fun w1 h => ((Ext.refl _).alloc _).trans h
  rw [decide_eq_true hp] at HCP
  clear hx0 hx1 hy0 hy1 hn hn2 hm hm2 hp
  clear HCE
  subst h0 h1 h2
  unfold cellsC fCells
  dsimp only
  go_enter Tryz.func96, Tryz.ntmps96
  go_wp2_with (first
    | (go_at_call 131; (have hz := HCP.out); (with_reducible refine Calls.mono hz ?_); clear hz; rintro e w1 ⟨rfl, hx1⟩; (have hxa := HXA.out _ hx1); (have a0 := hxa.boxed 0 _ rfl); (have b0 := boxed2b hx1 0 _ rfl); (have a1 := hxa.boxed 1 _ rfl); (have b1 := boxed2b hx1 1 _ rfl); (have a2 := hxa.boxed 2 _ rfl); (have b2 := boxed2b hx1 2 _ rfl); (have a3 := hxa.boxed 3 _ rfl); (have b3 := boxed2b hx1 3 _ rfl); (have a4 := hxa.boxed 4 _ rfl); (have b4 := boxed2b hx1 4 _ rfl); (have a5 := hxa.boxed 5 _ rfl); (have b5 := boxed2b hx1 5 _ rfl)))
  all_goals go_ret
  all_goals exact ⟨rfl, (((Ext.refl _).alloc _).alloc _).trans hx1⟩
set_option maxRecDepth 100000 in
set_option maxHeartbeats 2000000 in
theorem mSame_5 (x y : Fc) (w : World) (hx : RdC w x) (hy : RdC w y) (hn : x.f.path.length ≤ 16777216) (hn2 : y.f.path.length ≤ 16777216) (hm : x.f.ents.length ≤ 16777216) (hm2 : y.f.ents.length ≤ 16777216) (hp : x.f.path = y.f.path) (h0 : x.f.id = y.f.id) (h1 : x.f.title = y.f.title) (h2 : x.f.link = y.f.link) (h3 : x.f.upd = y.f.upd) :
    Calls Tryz.prog 96 #[.agg (cellsC x).toArray, .agg (cellsC y).toArray] w fun e w' => e = .returned (.bool (decide (x.f.ents = y.f.ents))) ∧ Ext w w' := by
  obtain ⟨xp, xes, ⟨xpath, xid, xtitle, xlink, xupd, xents⟩⟩ := x
  obtain ⟨yp, yes, ⟨ypath, yid, ytitle, ylink, yupd, yents⟩⟩ := y
  obtain ⟨hx0, hx1⟩ := hx
  obtain ⟨hy0, hy1⟩ := hy
  dsimp only at *
  obtain ⟨xA, xc, rfl, -, -⟩ := hx0.form
  obtain ⟨xB, xd, rfl, -, -⟩ := hx1.form
  obtain ⟨yA, yc, rfl, -, -⟩ := hy0.form
  obtain ⟨yB, yd, rfl, -, -⟩ := hy1.form
  have HCP := Lib.hid (eqS_any _ _ xpath ypath ((w.alloc (.cells #[.slice xA xpath.length xc, .string xid, .string xtitle, .string xlink, .int .i64 xupd, .slice xB xents.length xd] 35)).alloc (.cells #[.slice yA ypath.length yc, .string yid, .string ytitle, .string ylink, .int .i64 yupd, .slice yB yents.length yd] 35)) (hx0.ext (((Ext.refl _).alloc _).alloc _)) (hy0.ext (((Ext.refl _).alloc _).alloc _)) hn (by omega))
  have HCE := Lib.hid (fun (w' : World) (h : Ext ((w.alloc (.cells #[.slice xA xpath.length xc, .string xid, .string xtitle, .string xlink, .int .i64 xupd, .slice xB xents.length xd] 35)).alloc (.cells #[.slice yA ypath.length yc, .string yid, .string ytitle, .string ylink, .int .i64 yupd, .slice yB yents.length yd] 35)) w') => eqEs_any _ _ xents yents w' (hx1.ext ((((Ext.refl _).alloc _).alloc _).trans h)) (hy1.ext ((((Ext.refl _).alloc _).alloc _).trans h)) hm (by omega))
  have HXA : Hid (∀ w1 : World, Ext ((w.alloc (.cells #[.slice xA xpath.length xc, .string xid, .string xtitle, .string xlink, .int .i64 xupd, .slice xB xents.length xd] 35)).alloc (.cells #[.slice yA ypath.length yc, .string yid, .string ytitle, .string ylink, .int .i64 yupd, .slice yB yents.length yd] 35)) w1 → Ext (w.alloc (.cells #[.slice xA xpath.length xc, .string xid, .string xtitle, .string xlink, .int .i64 xupd, .slice xB xents.length xd] 35)) w1) := Lib.hid fun w1 h => ((Ext.refl _).alloc _).trans h
  rw [decide_eq_true hp] at HCP
  obtain ⟨b, hb⟩ : ∃ b, decide (xents = yents) = b := ⟨_, rfl⟩
  simp only [hb] at HCE ⊢
  clear hb
  clear hx0 hx1 hy0 hy1 hn hn2 hm hm2 hp
  subst h0 h1 h2 h3
  unfold cellsC fCells
  dsimp only
  go_enter Tryz.func96, Tryz.ntmps96
  go_wp2_with (first
    | (go_at_call 131; (have hz := HCP.out); (with_reducible refine Calls.mono hz ?_); clear hz; rintro e w1 ⟨rfl, hx1⟩; (have hxa := HXA.out _ hx1); (have a0 := hxa.boxed 0 _ rfl); (have b0 := boxed2b hx1 0 _ rfl); (have a1 := hxa.boxed 1 _ rfl); (have b1 := boxed2b hx1 1 _ rfl); (have a2 := hxa.boxed 2 _ rfl); (have b2 := boxed2b hx1 2 _ rfl); (have a3 := hxa.boxed 3 _ rfl); (have b3 := boxed2b hx1 3 _ rfl); (have a4 := hxa.boxed 4 _ rfl); (have b4 := boxed2b hx1 4 _ rfl); (have a5 := hxa.boxed 5 _ rfl); (have b5 := boxed2b hx1 5 _ rfl))
    | (go_at_call 132; (with_reducible refine Calls.mono (HCE.out _ hx1) ?_); rintro e2 w2 ⟨rfl, hx2⟩))
  all_goals go_ret
  all_goals exact ⟨rfl, (((Ext.refl _).alloc _).alloc _).trans (hx1.trans hx2)⟩
theorem mSame_any (x y : Fc) (w : World) (hx : RdC w x) (hy : RdC w y) (hn : x.f.path.length ≤ 16777216) (hn2 : y.f.path.length ≤ 16777216) (hm : x.f.ents.length ≤ 16777216) (hm2 : y.f.ents.length ≤ 16777216) :
    Calls Tryz.prog 96 #[.agg (cellsC x).toArray, .agg (cellsC y).toArray] w fun e w' => e = .returned (.bool (decide (x.f = y.f))) ∧ Ext w w' := by
  have tl : ∀ {s t : ByteArray}, (s.toList == t.toList) = false → s ≠ t := fun {s t} h e => by rw [e] at h; simp at h
  have te : ∀ {s t : ByteArray}, (s.toList == t.toList) = true → s = t := fun {s t} h => toList_inj (by simpa using h)
  by_cases hp : x.f.path = y.f.path
  case neg => rw [decide_eq_false (fun e => hp (congrArg Fd.path e))]; exact mSame_0 x y w hx hy hn hn2 hm hm2 hp
  cases h0 : (x.f.id.toList == y.f.id.toList) with
  | false => rw [decide_eq_false (fun e => tl h0 (congrArg Fd.id e))]; exact mSame_1 x y w hx hy hn hn2 hm hm2 hp h0
  | true =>
  cases h1 : (x.f.title.toList == y.f.title.toList) with
  | false => rw [decide_eq_false (fun e => tl h1 (congrArg Fd.title e))]; exact mSame_2 x y w hx hy hn hn2 hm hm2 hp (te h0) h1
  | true =>
  cases h2 : (x.f.link.toList == y.f.link.toList) with
  | false => rw [decide_eq_false (fun e => tl h2 (congrArg Fd.link e))]; exact mSame_3 x y w hx hy hn hn2 hm hm2 hp (te h0) (te h1) h2
  | true =>
  cases h3 : (x.f.upd == y.f.upd) with
  | false => rw [decide_eq_false (fun e => by rw [congrArg Fd.upd e] at h3; simp at h3)]; exact mSame_4 x y w hx hy hn hn2 hm hm2 hp (te h0) (te h1) (te h2) h3
  | true =>
    have h3' : x.f.upd = y.f.upd := by simpa using h3
    have hd : decide (x.f = y.f) = decide (x.f.ents = y.f.ents) := by
      by_cases he : x.f.ents = y.f.ents
      · rw [decide_eq_true he]
        refine decide_eq_true ?_
        obtain ⟨xp, xes, ⟨xpath, xid, xtitle, xlink, xupd, xents⟩⟩ := x
        obtain ⟨yp, yes, ⟨ypath, yid, ytitle, ylink, yupd, yents⟩⟩ := y
        have t0 := te h0
        have t1 := te h1
        have t2 := te h2
        dsimp only at hp t0 t1 t2 h3' he
        rw [hp, t0, t1, t2, h3', he]
      · rw [decide_eq_false he]
        exact decide_eq_false fun e => he (congrArg Fd.ents e)
    rw [hd]
    exact mSame_5 x y w hx hy hn hn2 hm hm2 hp (te h0) (te h1) (te h2) h3'
end Go.Proofs.YtgecijhgonfldaaGreatDoor
namespace Go.Proofs.YtgecijhgonfldaaGreatDoor
open Go Go.RowKit
set_option linter.unusedVariables false
set_option maxRecDepth 100000 in
set_option maxHeartbeats 4000000 in
theorem eqFunc_any (u v : Value) (l m : List Fc) (w : World) (hu : RFcs w u l) (hv : RFcs w v m) (hl : ∀ x ∈ l, RdC w x) (hm : ∀ x ∈ m, RdC w x) (hk : ∀ x ∈ l, x.f.path.length ≤ 16777216 ∧ x.f.ents.length ≤ 16777216) (hk2 : ∀ x ∈ m, x.f.path.length ≤ 16777216 ∧ x.f.ents.length ≤ 16777216) (hn : l.length ≤ 16777216) :
    Calls Tryz.prog 95 #[u, v, .func (.func 96) #[] #[]] w fun e w' => e = .returned (.bool (decide (l.map Fc.f = m.map Fc.f))) ∧ Ext w w' := by
  obtain ⟨R, hR⟩ : ∃ R, decide (l.map Fc.f = m.map Fc.f) = R := ⟨_, rfl⟩
  rw [hR]
  obtain ⟨A, c, rfl, -, -⟩ := hu.form
  obtain ⟨B, d, rfl, -, -⟩ := hv.form
  by_cases h4 : l.length = m.length
  case neg =>
    have hRf : R = false := by
      rw [← hR]
      refine decide_eq_false fun e => h4 ?_
      have := congrArg List.length e
      simpa using this
    subst hRf
    have hb : ((l.length : Int) != (m.length : Int)) = true := by simp; omega
    have hb2 : ((l.length : Int) == (m.length : Int)) = false := by simp; omega
    clear hR hu hv hl hm hk hk2
    go_enter Tryz.func95, Tryz.ntmps95
    go_wp2
    go_ret
    exact ⟨rfl, Ext.refl _⟩
  case pos =>
    have HR := Lib.hid hR
    have HU := Lib.hid hu
    have HV := Lib.hid hv
    have HL := Lib.hid hl
    have HMM := Lib.hid hm
    have HK := Lib.hid hk
    have HK2 := Lib.hid hk2
    obtain ⟨M, hM⟩ : ∃ M, l.length = M := ⟨_, rfl⟩
    have hM2 : m.length = M := by rw [← h4]; exact hM
    have HM := Lib.hid hM
    have HM2 := Lib.hid hM2
    rw [hM] at hn
    simp only [hM, hM2]
    clear hu hv hl hm hk hk2 h4 hM hM2 hR
    go_enter Tryz.func95, Tryz.ntmps95
    go_wp2
    go_loopw [17] (fun i wr => ∃ k : Nat, k ≤ M ∧ i = .int .i64 k ∧ Hid (∀ j (h1 : j < l.length) (h2 : j < m.length), j < k → l[j].f = m[j].f) ∧ Ext w wr) (fun i _ => M - (intOf i).toNat)
    case atStart => exact ⟨0, Nat.zero_le _, rfl, Lib.hid (fun j _ _ h => by omega), Ext.refl _⟩
    case round =>
      obtain ⟨k, hk, rfl, hinv, hxr⟩ := hrel
      by_cases hlt : k < M
      · have hkx : k < l.length := by rw [HM.out]; exact hlt
        have hky : k < m.length := by rw [HM2.out]; exact hlt
        obtain ⟨ad, c1, e1, hax⟩ := (HU.out.ext hxr).at hkx
        obtain ⟨ae, c2, e2, hay⟩ := (HV.out.ext hxr).at hky
        injection e1 with e1 e1' e1''
        injection e2 with e2 e2' e2''
        subst e1 e2
        clear e1' e1'' e2' e2''
        have hstep := take_succ_all (P := fun a b : Fc => a.f = b.f) hkx hky hinv.out
        have hno : l[k].f ≠ m[k].f → R = false := fun h => by
          rw [← HR.out]
          refine decide_eq_false fun e => h ?_
          have h1 : (l.map Fc.f)[k]? = (m.map Fc.f)[k]? := by rw [e]
          rw [List.getElem?_map, List.getElem?_map, List.getElem?_eq_getElem hkx, List.getElem?_eq_getElem hky] at h1
          exact Option.some.inj h1
        have hx := HL.out _ (List.getElem_mem hkx)
        have hy := HMM.out _ (List.getElem_mem hky)
        have hkk := HK.out _ (List.getElem_mem hkx)
        have hkk2 := HK2.out _ (List.getElem_mem hky)
        obtain ⟨x, hxx⟩ : ∃ x, l[k] = x := ⟨_, rfl⟩
        obtain ⟨y, hyy⟩ : ∃ y, m[k] = y := ⟨_, rfl⟩
        rw [hxx] at hax hstep hno hx hkk
        rw [hyy] at hay hstep hno hy hkk2
        have HST := Lib.hid hstep
        have HNO := Lib.hid hno
        have hsx := hx.sl
        have hsy := hy.sl
        have HSM := Lib.hid (fun (w' : World) (h : Ext wr w') => mSame_any x y w' (hx.ext (hxr.trans h)) (hy.ext (hxr.trans h)) hkk.1 hkk2.1 hkk.2 hkk2.2)
        clear hstep hno hxx hyy hkx hky hx hy hkk hkk2
        have hi0' : (0 : Int) ≤ (k : Int) := by omega
        have hi1 : (k : Int) < (M : Int) := by omega
        obtain ⟨S, hS⟩ : ∃ S, decide (x.f = y.f) = S := ⟨_, rfl⟩
        simp only [hS] at HSM
        have HS := Lib.hid hS
        clear hS
        obtain ⟨xp, xes, ⟨xpath, xid, xtitle, xlink, xupd, xents⟩⟩ := x
        obtain ⟨yp, yes, ⟨ypath, yid, ytitle, ylink, yupd, yents⟩⟩ := y
        obtain ⟨⟨xA, xn, xc, hxp⟩, ⟨xB, xm, xd, hxe⟩⟩ := hsx
        obtain ⟨⟨yA, yn, yc, hyp⟩, ⟨yB, ym, yd, hye⟩⟩ := hsy
        dsimp only at hxp hxe hyp hye
        subst hxp hxe hyp hye
        obtain ⟨p0, p1, p2, p3, p4, p5⟩ := hax
        obtain ⟨q0, q1, q2, q3, q4, q5⟩ := hay
        dsimp only at p0 p1 p2 p3 p4 p5 q0 q1 q2 q3 q4 q5
        have W1 : Ext wr (wr.alloc (.cells #[.slice xA xn xc, .string xid, .string xtitle, .string xlink, .int .i64 xupd, .slice xB xm xd] 35)) := (Ext.refl _).alloc _
        have r0 := W1.cell q0
        have r1 := W1.cell q1
        have r2 := W1.cell q2
        have r3 := W1.cell q3
        have r4 := W1.cell q4
        have r5 := W1.cell q5
        have HXR := Lib.hid hxr
        clear W1
        unfold cellsC fCells at HSM
        dsimp only at HSM
        cases S with
        | true =>
          have hxy := of_decide_eq_true HS.out
          have HST2 := Lib.hid (HST.out hxy)
          clear hxy HNO HST
          go_wp2_with (first | (go_at_call 96; (with_reducible refine Calls.mono (HSM.out _ (((Ext.refl wr).alloc _).alloc _)) ?_); rintro e w2 ⟨rfl, hx2⟩))
          go_roundw
          case rel => exact ⟨k + 1, hlt, by go_num, HST2, HXR.out.trans ((((Ext.refl wr).alloc _).alloc _).trans hx2)⟩
          case measure => simp [intOf]; omega
        | false =>
          have hRf := HNO.out (of_decide_eq_false HS.out)
          subst hRf
          clear HST
          go_wp2_with (first | (go_at_call 96; (with_reducible refine Calls.mono (HSM.out _ (((Ext.refl wr).alloc _).alloc _)) ?_); rintro e w2 ⟨rfl, hx2⟩))
          go_ret
          exact ⟨rfl, HXR.out.trans ((((Ext.refl wr).alloc _).alloc _).trans hx2)⟩
      · have hke : k = M := by omega
        subst hke
        have hRt : R = true := by
          rw [← HR.out]
          refine decide_eq_true (List.ext_getElem (by simp only [List.length_map]; rw [HM.out, HM2.out]) fun j h1 h2 => ?_)
          simp only [List.length_map] at h1 h2
          rw [List.getElem_map, List.getElem_map]
          exact hinv.out j h1 h2 (by have := HM.out; omega)
        subst hRt
        go_wp2
        go_ret
        exact ⟨rfl, hxr⟩
set_option maxRecDepth 100000 in
set_option maxHeartbeats 2000000 in
theorem mEqual_any (u v : Value) (l m : List Fc) (w : World) (hu : RFcs w u l) (hv : RFcs w v m) (hl : ∀ x ∈ l, RdC w x) (hm : ∀ x ∈ m, RdC w x) (hk : ∀ x ∈ l, x.f.path.length ≤ 16777216 ∧ x.f.ents.length ≤ 16777216) (hk2 : ∀ x ∈ m, x.f.path.length ≤ 16777216 ∧ x.f.ents.length ≤ 16777216) (hn : l.length ≤ 16777216) :
    Calls Tryz.prog 70 #[.agg #[u], .agg #[v]] w fun e w' => e = .returned (.bool (decide (l.map Fc.f = m.map Fc.f))) ∧ Ext w w' := by
  have HQ := Lib.hid (fun (w' : World) (h : Ext w w') => eqFunc_any u v l m w' (hu.ext h) (hv.ext h) (fun x hx => (hl x hx).ext h) (fun x hx => (hm x hx).ext h) hk hk2 hn)
  obtain ⟨A, c, rfl, -, -⟩ := hu.form
  obtain ⟨B, d, rfl, -, -⟩ := hv.form
  obtain ⟨R, hR⟩ : ∃ R, decide (l.map Fc.f = m.map Fc.f) = R := ⟨_, rfl⟩
  simp only [hR] at HQ ⊢
  clear hR hu hv hl hm hk hk2
  go_enter Tryz.func70, Tryz.ntmps70
  go_wp2_with (first | (go_at_call 95; (with_reducible refine Calls.mono (HQ.out _ (((Ext.refl w).alloc _).alloc _)) ?_); rintro e w2 ⟨rfl, hx2⟩))
  all_goals go_ret
  all_goals exact ⟨rfl, (((Ext.refl w).alloc _).alloc _).trans hx2⟩
end Go.Proofs.YtgecijhgonfldaaGreatDoor
namespace Go.Proofs.YtgecijhgonfldaaGreatDoor
open Go Go.RowKit Go.Sort
set_option linter.unusedVariables false
instance : Inhabited {x : Fc // slC x} := ⟨⟨⟨.slice none 0 0, .slice none 0 0, zeroF⟩, ⟨⟨_, _, _, rfl⟩, ⟨_, _, _, rfl⟩⟩⟩⟩
theorem flatC_ones {l : List Fc} (h : ∀ x ∈ l, slC x) : ∀ u ∈ flatC l, u.oneCell' = true := by
  intro u hu
  unfold flatC at hu
  obtain ⟨c, hc, hu⟩ := List.mem_flatten.1 hu
  obtain ⟨x, hx, rfl⟩ := List.mem_map.1 hc
  exact cellsC_one (h x hx) u hu
def lensP (L : List (Value × List Fc)) : Nat := (L.map fun p => p.2.length).sum
def catP (L : List (Value × List Fc)) : List Fc := (L.map Prod.snd).flatten
theorem lensP_snoc (L : List (Value × List Fc)) (p : Value × List Fc) : lensP (L ++ [p]) = lensP L + p.2.length := by unfold lensP; simp
theorem catP_snoc (L : List (Value × List Fc)) (p : Value × List Fc) : catP (L ++ [p]) = catP L ++ p.2 := by unfold catP; simp
theorem catP_len (L : List (Value × List Fc)) : (catP L).length = lensP L := by unfold catP lensP; rw [List.length_flatten, List.map_map]; rfl
theorem lensP_take (L : List (Value × List Fc)) (k : Nat) : lensP (L.take k) ≤ lensP L := by
  have h : lensP L = lensP (L.take k) + lensP (L.drop k) := by unfold lensP; rw [← List.sum_append, ← List.map_append, List.take_append_drop]
  omega
end Go.Proofs.YtgecijhgonfldaaGreatDoor
