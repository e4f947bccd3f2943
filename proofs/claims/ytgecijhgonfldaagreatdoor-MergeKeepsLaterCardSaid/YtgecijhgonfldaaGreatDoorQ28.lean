/- Parts of the proof: contracts and plain laws that the statement needs. -/
import Derived.Test.YtgecijhgonfldaaGreatDoorQ17
import Derived.Test.YtgecijhgonfldaaGreatDoorQ13
import Derived.Test.YtgecijhgonfldaaGreatDoorQ10
namespace Go.Proofs.YtgecijhgonfldaaGreatDoor
open Go Go.RowKit
set_option linter.unusedVariables false
theorem boxed2b {w w1 : World} {A : Obj} {B : Array Value} {t : TypeId} {fr : Nat × Nat} (h : Ext ((w.alloc A).alloc (.cells B t fr)) w1) (i : Nat) (v : Value) (hv : B[i]? = some v) : w1.cell? ⟨w.heap.size + 1, i, none⟩ = some v := by
  have := h.boxed i v hv
  rwa [size_alloc] at this
set_option maxRecDepth 100000 in
set_option maxHeartbeats 2000000 in
theorem refSame_0 (x y : Fc) (w : World) (hx : RdC w x) (hy : RdC w y) (hn : x.f.path.length ≤ 16777216) (hp : pathCmp x.f.path y.f.path ≠ 0)  :
    Calls Tryz.prog 23 #[.agg (cellsC x).toArray, .agg (cellsC y).toArray] w fun e w' => e = .returned (.bool false) ∧ Ext w w' := by
  obtain ⟨xp, xes, ⟨xpath, xid, xtitle, xlink, xupd, xents⟩⟩ := x
  obtain ⟨yp, yes, ⟨ypath, yid, ytitle, ylink, yupd, yents⟩⟩ := y
  obtain ⟨hx0, hx1⟩ := hx
  obtain ⟨hy0, hy1⟩ := hy
  dsimp only at *
  obtain ⟨xA, xc, rfl, -, -⟩ := hx0.form
  obtain ⟨xB, xd, rfl, -, -⟩ := hx1.form
  obtain ⟨yA, yc, rfl, -, -⟩ := hy0.form
  obtain ⟨yB, yd, rfl, -, -⟩ := hy1.form
  have HCP := Lib.hid (refCmpP_any _ _ xpath ypath ((w.alloc (.cells #[.slice xA xpath.length xc, .string xid, .string xtitle, .string xlink, .int .i64 xupd, .slice xB xents.length xd] 35)).alloc (.cells #[.slice yA ypath.length yc, .string yid, .string ytitle, .string ylink, .int .i64 yupd, .slice yB yents.length yd] 35)) (hx0.ext (((Ext.refl _).alloc _).alloc _)) (hy0.ext (((Ext.refl _).alloc _).alloc _)) hn)
  have HXA : Hid (∀ w1 : World, Ext ((w.alloc (.cells #[.slice xA xpath.length xc, .string xid, .string xtitle, .string xlink, .int .i64 xupd, .slice xB xents.length xd] 35)).alloc (.cells #[.slice yA ypath.length yc, .string yid, .string ytitle, .string ylink, .int .i64 yupd, .slice yB yents.length yd] 35)) w1 → Ext (w.alloc (.cells #[.slice xA xpath.length xc, .string xid, .string xtitle, .string xlink, .int .i64 xupd, .slice xB xents.length xd] 35)) w1) := Lib.hid fun w1 h => ((Ext.refl _).alloc _).trans h
  obtain ⟨c, hc⟩ : ∃ c, pathCmp xpath ypath = c := ⟨_, rfl⟩
  rw [hc] at HCP hp
  have hb : (c != 0) = true := by simpa using hp
  clear hx0 hx1 hy0 hy1 hn hp
  unfold cellsC fCells
  dsimp only
  go_enter Tryz.func23, Tryz.ntmps23
  go_wp2_with (first | (go_at_call 54; (have hz := HCP.out); (with_reducible refine Calls.mono hz ?_); clear hz; rintro e w1 ⟨rfl, hx1⟩; (have a0 := (HXA.out _ hx1).boxed 0 _ rfl); (have a1 := (HXA.out _ hx1).boxed 1 _ rfl); (have a2 := (HXA.out _ hx1).boxed 2 _ rfl); (have a3 := (HXA.out _ hx1).boxed 3 _ rfl); (have a4 := (HXA.out _ hx1).boxed 4 _ rfl); (have a5 := (HXA.out _ hx1).boxed 5 _ rfl); (have b0 := boxed2b hx1 0 _ rfl); (have b1 := boxed2b hx1 1 _ rfl); (have b2 := boxed2b hx1 2 _ rfl); (have b3 := boxed2b hx1 3 _ rfl); (have b4 := boxed2b hx1 4 _ rfl); (have b5 := boxed2b hx1 5 _ rfl)))
  go_ret
  exact ⟨rfl, (((Ext.refl _).alloc _).alloc _).trans hx1⟩
set_option maxRecDepth 100000 in
set_option maxHeartbeats 2000000 in
theorem refSame_1 (x y : Fc) (w : World) (hx : RdC w x) (hy : RdC w y) (hn : x.f.path.length ≤ 16777216) (hp : pathCmp x.f.path y.f.path = 0) (h0 : (x.f.id.toList == y.f.id.toList) = false) :
    Calls Tryz.prog 23 #[.agg (cellsC x).toArray, .agg (cellsC y).toArray] w fun e w' => e = .returned (.bool false) ∧ Ext w w' := by
  obtain ⟨xp, xes, ⟨xpath, xid, xtitle, xlink, xupd, xents⟩⟩ := x
  obtain ⟨yp, yes, ⟨ypath, yid, ytitle, ylink, yupd, yents⟩⟩ := y
  obtain ⟨hx0, hx1⟩ := hx
  obtain ⟨hy0, hy1⟩ := hy
  dsimp only at *
  obtain ⟨xA, xc, rfl, -, -⟩ := hx0.form
  obtain ⟨xB, xd, rfl, -, -⟩ := hx1.form
  obtain ⟨yA, yc, rfl, -, -⟩ := hy0.form
  obtain ⟨yB, yd, rfl, -, -⟩ := hy1.form
  have HCP := Lib.hid (refCmpP_any _ _ xpath ypath ((w.alloc (.cells #[.slice xA xpath.length xc, .string xid, .string xtitle, .string xlink, .int .i64 xupd, .slice xB xents.length xd] 35)).alloc (.cells #[.slice yA ypath.length yc, .string yid, .string ytitle, .string ylink, .int .i64 yupd, .slice yB yents.length yd] 35)) (hx0.ext (((Ext.refl _).alloc _).alloc _)) (hy0.ext (((Ext.refl _).alloc _).alloc _)) hn)
  have HXA : Hid (∀ w1 : World, Ext ((w.alloc (.cells #[.slice xA xpath.length xc, .string xid, .string xtitle, .string xlink, .int .i64 xupd, .slice xB xents.length xd] 35)).alloc (.cells #[.slice yA ypath.length yc, .string yid, .string ytitle, .string ylink, .int .i64 yupd, .slice yB yents.length yd] 35)) w1 → Ext (w.alloc (.cells #[.slice xA xpath.length xc, .string xid, .string xtitle, .string xlink, .int .i64 xupd, .slice xB xents.length xd] 35)) w1) := Lib.hid fun w1 h => ((Ext.refl _).alloc _).trans h
  rw [hp] at HCP
  clear hx0 hx1 hy0 hy1 hn hp
  unfold cellsC fCells
  dsimp only
  go_enter Tryz.func23, Tryz.ntmps23
  go_wp2_with (first | (go_at_call 54; (have hz := HCP.out); (with_reducible refine Calls.mono hz ?_); clear hz; rintro e w1 ⟨rfl, hx1⟩; (have a0 := (HXA.out _ hx1).boxed 0 _ rfl); (have a1 := (HXA.out _ hx1).boxed 1 _ rfl); (have a2 := (HXA.out _ hx1).boxed 2 _ rfl); (have a3 := (HXA.out _ hx1).boxed 3 _ rfl); (have a4 := (HXA.out _ hx1).boxed 4 _ rfl); (have a5 := (HXA.out _ hx1).boxed 5 _ rfl); (have b0 := boxed2b hx1 0 _ rfl); (have b1 := boxed2b hx1 1 _ rfl); (have b2 := boxed2b hx1 2 _ rfl); (have b3 := boxed2b hx1 3 _ rfl); (have b4 := boxed2b hx1 4 _ rfl); (have b5 := boxed2b hx1 5 _ rfl)))
  go_ret
  exact ⟨rfl, (((Ext.refl _).alloc _).alloc _).trans hx1⟩
set_option maxRecDepth 100000 in
set_option maxHeartbeats 2000000 in
theorem refSame_2 (x y : Fc) (w : World) (hx : RdC w x) (hy : RdC w y) (hn : x.f.path.length ≤ 16777216) (hp : pathCmp x.f.path y.f.path = 0) (h0 : (x.f.id.toList == y.f.id.toList) = true) (h1 : (x.f.title.toList == y.f.title.toList) = false) :
    Calls Tryz.prog 23 #[.agg (cellsC x).toArray, .agg (cellsC y).toArray] w fun e w' => e = .returned (.bool false) ∧ Ext w w' := by
  obtain ⟨xp, xes, ⟨xpath, xid, xtitle, xlink, xupd, xents⟩⟩ := x
  obtain ⟨yp, yes, ⟨ypath, yid, ytitle, ylink, yupd, yents⟩⟩ := y
  obtain ⟨hx0, hx1⟩ := hx
  obtain ⟨hy0, hy1⟩ := hy
  dsimp only at *
  obtain ⟨xA, xc, rfl, -, -⟩ := hx0.form
  obtain ⟨xB, xd, rfl, -, -⟩ := hx1.form
  obtain ⟨yA, yc, rfl, -, -⟩ := hy0.form
  obtain ⟨yB, yd, rfl, -, -⟩ := hy1.form
  have HCP := Lib.hid (refCmpP_any _ _ xpath ypath ((w.alloc (.cells #[.slice xA xpath.length xc, .string xid, .string xtitle, .string xlink, .int .i64 xupd, .slice xB xents.length xd] 35)).alloc (.cells #[.slice yA ypath.length yc, .string yid, .string ytitle, .string ylink, .int .i64 yupd, .slice yB yents.length yd] 35)) (hx0.ext (((Ext.refl _).alloc _).alloc _)) (hy0.ext (((Ext.refl _).alloc _).alloc _)) hn)
  have HXA : Hid (∀ w1 : World, Ext ((w.alloc (.cells #[.slice xA xpath.length xc, .string xid, .string xtitle, .string xlink, .int .i64 xupd, .slice xB xents.length xd] 35)).alloc (.cells #[.slice yA ypath.length yc, .string yid, .string ytitle, .string ylink, .int .i64 yupd, .slice yB yents.length yd] 35)) w1 → Ext (w.alloc (.cells #[.slice xA xpath.length xc, .string xid, .string xtitle, .string xlink, .int .i64 xupd, .slice xB xents.length xd] 35)) w1) := Lib.hid fun w1 h => ((Ext.refl _).alloc _).trans h
  rw [hp] at HCP
  clear hx0 hx1 hy0 hy1 hn hp
  unfold cellsC fCells
  dsimp only
  go_enter Tryz.func23, Tryz.ntmps23
  go_wp2_with (first | (go_at_call 54; (have hz := HCP.out); (with_reducible refine Calls.mono hz ?_); clear hz; rintro e w1 ⟨rfl, hx1⟩; (have a0 := (HXA.out _ hx1).boxed 0 _ rfl); (have a1 := (HXA.out _ hx1).boxed 1 _ rfl); (have a2 := (HXA.out _ hx1).boxed 2 _ rfl); (have a3 := (HXA.out _ hx1).boxed 3 _ rfl); (have a4 := (HXA.out _ hx1).boxed 4 _ rfl); (have a5 := (HXA.out _ hx1).boxed 5 _ rfl); (have b0 := boxed2b hx1 0 _ rfl); (have b1 := boxed2b hx1 1 _ rfl); (have b2 := boxed2b hx1 2 _ rfl); (have b3 := boxed2b hx1 3 _ rfl); (have b4 := boxed2b hx1 4 _ rfl); (have b5 := boxed2b hx1 5 _ rfl)))
  go_ret
  exact ⟨rfl, (((Ext.refl _).alloc _).alloc _).trans hx1⟩
set_option maxRecDepth 100000 in
set_option maxHeartbeats 2000000 in
theorem refSame_3 (x y : Fc) (w : World) (hx : RdC w x) (hy : RdC w y) (hn : x.f.path.length ≤ 16777216) (hp : pathCmp x.f.path y.f.path = 0) (h0 : (x.f.id.toList == y.f.id.toList) = true) (h1 : (x.f.title.toList == y.f.title.toList) = true) (h2 : (x.f.link.toList == y.f.link.toList) = false) :
    Calls Tryz.prog 23 #[.agg (cellsC x).toArray, .agg (cellsC y).toArray] w fun e w' => e = .returned (.bool false) ∧ Ext w w' := by
  obtain ⟨xp, xes, ⟨xpath, xid, xtitle, xlink, xupd, xents⟩⟩ := x
  obtain ⟨yp, yes, ⟨ypath, yid, ytitle, ylink, yupd, yents⟩⟩ := y
  obtain ⟨hx0, hx1⟩ := hx
  obtain ⟨hy0, hy1⟩ := hy
  dsimp only at *
  obtain ⟨xA, xc, rfl, -, -⟩ := hx0.form
  obtain ⟨xB, xd, rfl, -, -⟩ := hx1.form
  obtain ⟨yA, yc, rfl, -, -⟩ := hy0.form
  obtain ⟨yB, yd, rfl, -, -⟩ := hy1.form
  have HCP := Lib.hid (refCmpP_any _ _ xpath ypath ((w.alloc (.cells #[.slice xA xpath.length xc, .string xid, .string xtitle, .string xlink, .int .i64 xupd, .slice xB xents.length xd] 35)).alloc (.cells #[.slice yA ypath.length yc, .string yid, .string ytitle, .string ylink, .int .i64 yupd, .slice yB yents.length yd] 35)) (hx0.ext (((Ext.refl _).alloc _).alloc _)) (hy0.ext (((Ext.refl _).alloc _).alloc _)) hn)
  have HXA : Hid (∀ w1 : World, Ext ((w.alloc (.cells #[.slice xA xpath.length xc, .string xid, .string xtitle, .string xlink, .int .i64 xupd, .slice xB xents.length xd] 35)).alloc (.cells #[.slice yA ypath.length yc, .string yid, .string ytitle, .string ylink, .int .i64 yupd, .slice yB yents.length yd] 35)) w1 → Ext (w.alloc (.cells #[.slice xA xpath.length xc, .string xid, .string xtitle, .string xlink, .int .i64 xupd, .slice xB xents.length xd] 35)) w1) := Lib.hid fun w1 h => ((Ext.refl _).alloc _).trans h
  rw [hp] at HCP
  clear hx0 hx1 hy0 hy1 hn hp
  unfold cellsC fCells
  dsimp only
  go_enter Tryz.func23, Tryz.ntmps23
  go_wp2_with (first | (go_at_call 54; (have hz := HCP.out); (with_reducible refine Calls.mono hz ?_); clear hz; rintro e w1 ⟨rfl, hx1⟩; (have a0 := (HXA.out _ hx1).boxed 0 _ rfl); (have a1 := (HXA.out _ hx1).boxed 1 _ rfl); (have a2 := (HXA.out _ hx1).boxed 2 _ rfl); (have a3 := (HXA.out _ hx1).boxed 3 _ rfl); (have a4 := (HXA.out _ hx1).boxed 4 _ rfl); (have a5 := (HXA.out _ hx1).boxed 5 _ rfl); (have b0 := boxed2b hx1 0 _ rfl); (have b1 := boxed2b hx1 1 _ rfl); (have b2 := boxed2b hx1 2 _ rfl); (have b3 := boxed2b hx1 3 _ rfl); (have b4 := boxed2b hx1 4 _ rfl); (have b5 := boxed2b hx1 5 _ rfl)))
  go_ret
  exact ⟨rfl, (((Ext.refl _).alloc _).alloc _).trans hx1⟩
set_option maxRecDepth 100000 in
set_option maxHeartbeats 2000000 in
theorem refSame_4 (x y : Fc) (w : World) (hx : RdC w x) (hy : RdC w y) (hn : x.f.path.length ≤ 16777216) (hp : pathCmp x.f.path y.f.path = 0) (h0 : (x.f.id.toList == y.f.id.toList) = true) (h1 : (x.f.title.toList == y.f.title.toList) = true) (h2 : (x.f.link.toList == y.f.link.toList) = true) (h3 : (x.f.upd == y.f.upd) = false) :
    Calls Tryz.prog 23 #[.agg (cellsC x).toArray, .agg (cellsC y).toArray] w fun e w' => e = .returned (.bool false) ∧ Ext w w' := by
  obtain ⟨xp, xes, ⟨xpath, xid, xtitle, xlink, xupd, xents⟩⟩ := x
  obtain ⟨yp, yes, ⟨ypath, yid, ytitle, ylink, yupd, yents⟩⟩ := y
  obtain ⟨hx0, hx1⟩ := hx
  obtain ⟨hy0, hy1⟩ := hy
  dsimp only at *
  obtain ⟨xA, xc, rfl, -, -⟩ := hx0.form
  obtain ⟨xB, xd, rfl, -, -⟩ := hx1.form
  obtain ⟨yA, yc, rfl, -, -⟩ := hy0.form
  obtain ⟨yB, yd, rfl, -, -⟩ := hy1.form
  have HCP := Lib.hid (refCmpP_any _ _ xpath ypath ((w.alloc (.cells #[.slice xA xpath.length xc, .string xid, .string xtitle, .string xlink, .int .i64 xupd, .slice xB xents.length xd] 35)).alloc (.cells #[.slice yA ypath.length yc, .string yid, .string ytitle, .string ylink, .int .i64 yupd, .slice yB yents.length yd] 35)) (hx0.ext (((Ext.refl _).alloc _).alloc _)) (hy0.ext (((Ext.refl _).alloc _).alloc _)) hn)
  have HXA : Hid (∀ w1 : World, Ext ((w.alloc (.cells #[.slice xA xpath.length xc, .string xid, .string xtitle, .string xlink, .int .i64 xupd, .slice xB xents.length xd] 35)).alloc (.cells #[.slice yA ypath.length yc, .string yid, .string ytitle, .string ylink, .int .i64 yupd, .slice yB yents.length yd] 35)) w1 → Ext (w.alloc (.cells #[.slice xA xpath.length xc, .string xid, .string xtitle, .string xlink, .int .i64 xupd, .slice xB xents.length xd] 35)) w1) := Lib.hid fun w1 h => ((Ext.refl _).alloc _).trans h
  rw [hp] at HCP
  clear hx0 hx1 hy0 hy1 hn hp
  unfold cellsC fCells
  dsimp only
  go_enter Tryz.func23, Tryz.ntmps23
  go_wp2_with (first | (go_at_call 54; (have hz := HCP.out); (with_reducible refine Calls.mono hz ?_); clear hz; rintro e w1 ⟨rfl, hx1⟩; (have a0 := (HXA.out _ hx1).boxed 0 _ rfl); (have a1 := (HXA.out _ hx1).boxed 1 _ rfl); (have a2 := (HXA.out _ hx1).boxed 2 _ rfl); (have a3 := (HXA.out _ hx1).boxed 3 _ rfl); (have a4 := (HXA.out _ hx1).boxed 4 _ rfl); (have a5 := (HXA.out _ hx1).boxed 5 _ rfl); (have b0 := boxed2b hx1 0 _ rfl); (have b1 := boxed2b hx1 1 _ rfl); (have b2 := boxed2b hx1 2 _ rfl); (have b3 := boxed2b hx1 3 _ rfl); (have b4 := boxed2b hx1 4 _ rfl); (have b5 := boxed2b hx1 5 _ rfl)))
  go_ret
  exact ⟨rfl, (((Ext.refl _).alloc _).alloc _).trans hx1⟩
set_option maxRecDepth 100000 in
set_option maxHeartbeats 2000000 in
theorem refSame_5 (x y : Fc) (w : World) (hx : RdC w x) (hy : RdC w y) (hn : x.f.path.length ≤ 16777216) (hp : pathCmp x.f.path y.f.path = 0) (h0 : (x.f.id.toList == y.f.id.toList) = true) (h1 : (x.f.title.toList == y.f.title.toList) = true) (h2 : (x.f.link.toList == y.f.link.toList) = true) (h3 : (x.f.upd == y.f.upd) = true) (h4 : ¬ x.f.ents.length = y.f.ents.length) :
    Calls Tryz.prog 23 #[.agg (cellsC x).toArray, .agg (cellsC y).toArray] w fun e w' => e = .returned (.bool false) ∧ Ext w w' := by
  obtain ⟨xp, xes, ⟨xpath, xid, xtitle, xlink, xupd, xents⟩⟩ := x
  obtain ⟨yp, yes, ⟨ypath, yid, ytitle, ylink, yupd, yents⟩⟩ := y
  obtain ⟨hx0, hx1⟩ := hx
  obtain ⟨hy0, hy1⟩ := hy
  dsimp only at *
  obtain ⟨xA, xc, rfl, -, -⟩ := hx0.form
  obtain ⟨xB, xd, rfl, -, -⟩ := hx1.form
  obtain ⟨yA, yc, rfl, -, -⟩ := hy0.form
  obtain ⟨yB, yd, rfl, -, -⟩ := hy1.form
  have HCP := Lib.hid (refCmpP_any _ _ xpath ypath ((w.alloc (.cells #[.slice xA xpath.length xc, .string xid, .string xtitle, .string xlink, .int .i64 xupd, .slice xB xents.length xd] 35)).alloc (.cells #[.slice yA ypath.length yc, .string yid, .string ytitle, .string ylink, .int .i64 yupd, .slice yB yents.length yd] 35)) (hx0.ext (((Ext.refl _).alloc _).alloc _)) (hy0.ext (((Ext.refl _).alloc _).alloc _)) hn)
  have HXA : Hid (∀ w1 : World, Ext ((w.alloc (.cells #[.slice xA xpath.length xc, .string xid, .string xtitle, .string xlink, .int .i64 xupd, .slice xB xents.length xd] 35)).alloc (.cells #[.slice yA ypath.length yc, .string yid, .string ytitle, .string ylink, .int .i64 yupd, .slice yB yents.length yd] 35)) w1 → Ext (w.alloc (.cells #[.slice xA xpath.length xc, .string xid, .string xtitle, .string xlink, .int .i64 xupd, .slice xB xents.length xd] 35)) w1) := Lib.hid fun w1 h => ((Ext.refl _).alloc _).trans h
  rw [hp] at HCP
  have h4b : ((xents.length : Int) != (yents.length : Int)) = true := by simp; omega
  have h3b : (xupd != yupd) = false := by simpa using h3
  clear hx0 hx1 hy0 hy1 hn hp
  unfold cellsC fCells
  dsimp only
  go_enter Tryz.func23, Tryz.ntmps23
  go_wp2_with (first | (go_at_call 54; (have hz := HCP.out); (with_reducible refine Calls.mono hz ?_); clear hz; rintro e w1 ⟨rfl, hx1⟩; (have a0 := (HXA.out _ hx1).boxed 0 _ rfl); (have a1 := (HXA.out _ hx1).boxed 1 _ rfl); (have a2 := (HXA.out _ hx1).boxed 2 _ rfl); (have a3 := (HXA.out _ hx1).boxed 3 _ rfl); (have a4 := (HXA.out _ hx1).boxed 4 _ rfl); (have a5 := (HXA.out _ hx1).boxed 5 _ rfl); (have b0 := boxed2b hx1 0 _ rfl); (have b1 := boxed2b hx1 1 _ rfl); (have b2 := boxed2b hx1 2 _ rfl); (have b3 := boxed2b hx1 3 _ rfl); (have b4 := boxed2b hx1 4 _ rfl); (have b5 := boxed2b hx1 5 _ rfl)))
  go_ret
  exact ⟨rfl, (((Ext.refl _).alloc _).alloc _).trans hx1⟩
theorem take_succ_all {α : Type} {P : α → α → Prop} {a b : List α} {k : Nat} (ha : k < a.length) (hb : k < b.length) (h : ∀ j (h1 : j < a.length) (h2 : j < b.length), j < k → P a[j] b[j]) (hk : P a[k] b[k]) : ∀ j (h1 : j < a.length) (h2 : j < b.length), j < k + 1 → P a[j] b[j] := by
  intro j h1 h2 hj
  by_cases e : j = k
  · subst e; exact hk
  · exact h j h1 h2 (by omega)
set_option maxRecDepth 100000 in
set_option maxHeartbeats 4000000 in
theorem refSame_6 (x y : Fc) (w : World) (hx : RdC w x) (hy : RdC w y) (hn : x.f.path.length ≤ 16777216) (hm : x.f.ents.length ≤ 16777216) (hp : pathCmp x.f.path y.f.path = 0) (h0 : (x.f.id.toList == y.f.id.toList) = true) (h1 : (x.f.title.toList == y.f.title.toList) = true) (h2 : (x.f.link.toList == y.f.link.toList) = true) (h3 : (x.f.upd == y.f.upd) = true) (h4 : x.f.ents.length = y.f.ents.length) :
    Calls Tryz.prog 23 #[.agg (cellsC x).toArray, .agg (cellsC y).toArray] w fun e w' => e = .returned (.bool (decide (x.f.ents = y.f.ents))) ∧ Ext w w' := by
  obtain ⟨xp, xes, ⟨xpath, xid, xtitle, xlink, xupd, xents⟩⟩ := x
  obtain ⟨yp, yes, ⟨ypath, yid, ytitle, ylink, yupd, yents⟩⟩ := y
  obtain ⟨hx0, hx1⟩ := hx
  obtain ⟨hy0, hy1⟩ := hy
  dsimp only at *
  obtain ⟨xA, xc, rfl, -, -⟩ := hx0.form
  obtain ⟨xB, xd, rfl, -, -⟩ := hx1.form
  obtain ⟨yA, yc, rfl, -, -⟩ := hy0.form
  obtain ⟨yB, yd, rfl, -, -⟩ := hy1.form
  have HCP := Lib.hid (refCmpP_any _ _ xpath ypath ((w.alloc (.cells #[.slice xA xpath.length xc, .string xid, .string xtitle, .string xlink, .int .i64 xupd, .slice xB xents.length xd] 35)).alloc (.cells #[.slice yA ypath.length yc, .string yid, .string ytitle, .string ylink, .int .i64 yupd, .slice yB yents.length yd] 35)) (hx0.ext (((Ext.refl _).alloc _).alloc _)) (hy0.ext (((Ext.refl _).alloc _).alloc _)) hn)
  have HXA : Hid (∀ w1 : World, Ext ((w.alloc (.cells #[.slice xA xpath.length xc, .string xid, .string xtitle, .string xlink, .int .i64 xupd, .slice xB xents.length xd] 35)).alloc (.cells #[.slice yA ypath.length yc, .string yid, .string ytitle, .string ylink, .int .i64 yupd, .slice yB yents.length yd] 35)) w1 → Ext (w.alloc (.cells #[.slice xA xpath.length xc, .string xid, .string xtitle, .string xlink, .int .i64 xupd, .slice xB xents.length xd] 35)) w1) := Lib.hid fun w1 h => ((Ext.refl _).alloc _).trans h
  rw [hp] at HCP
  have h3b : (xupd != yupd) = false := by simpa using h3
  obtain ⟨M, hM⟩ : ∃ M, xents.length = M := ⟨_, rfl⟩
  have hM2 : yents.length = M := by rw [← h4]; exact hM
  obtain ⟨R, hR⟩ : ∃ R, decide (xents = yents) = R := ⟨_, rfl⟩
  rw [hR]
  have HR := Lib.hid hR
  have HM := Lib.hid hM
  have HM2 := Lib.hid hM2
  unfold REnts at hx1 hy1
  rw [hM] at HCP HXA hx1 hm
  rw [hM2] at HCP HXA hy1
  have HX1 := Lib.hid hx1
  have HY1 := Lib.hid hy1
  simp only [hM, hM2]
  clear hx0 hx1 hy0 hy1 hn hp h4 hM hM2 hR
  unfold cellsC fCells
  dsimp only
  go_enter Tryz.func23, Tryz.ntmps23
  go_wp2_with (first | (go_at_call 54; (have hz := HCP.out); (with_reducible refine Calls.mono hz ?_); clear hz; rintro e w1 ⟨rfl, hx1⟩; (have a0 := (HXA.out _ hx1).boxed 0 _ rfl); (have a1 := (HXA.out _ hx1).boxed 1 _ rfl); (have a2 := (HXA.out _ hx1).boxed 2 _ rfl); (have a3 := (HXA.out _ hx1).boxed 3 _ rfl); (have a4 := (HXA.out _ hx1).boxed 4 _ rfl); (have a5 := (HXA.out _ hx1).boxed 5 _ rfl); (have b0 := boxed2b hx1 0 _ rfl); (have b1 := boxed2b hx1 1 _ rfl); (have b2 := boxed2b hx1 2 _ rfl); (have b3 := boxed2b hx1 3 _ rfl); (have b4 := boxed2b hx1 4 _ rfl); (have b5 := boxed2b hx1 5 _ rfl)))
  have HA5 := Lib.hid a5
  have HB5 := Lib.hid b5
  have hw1 : Ext w w1 := (((Ext.refl _).alloc _).alloc _).trans hx1
  have HW1 := Lib.hid hw1
  clear a0 a1 a2 a3 a4 a5 b0 b1 b2 b3 b4 b5 HXA HCP hx1 h0 h1 h2 h3 h3b hw1
  go_loopw [5] (fun i wr => ∃ k : Nat, k ≤ M ∧ i = .int .i64 k ∧ Hid (∀ j (h1 : j < xents.length) (h2 : j < yents.length), j < k → xents[j] = yents[j]) ∧ Ext w1 wr) (fun i _ => M - (intOf i).toNat)
  case atStart => exact ⟨0, Nat.zero_le _, rfl, Lib.hid (fun j _ _ h => by omega), Ext.refl _⟩
  case round =>
    obtain ⟨k, hk, rfl, hinv, hxr⟩ := hrel
    have a5 := hxr.cell HA5.out
    have b5 := hxr.cell HB5.out
    by_cases hlt : k < M
    · have hkx : k < xents.length := by rw [HM.out]; exact hlt
      have hky : k < yents.length := by rw [HM2.out]; exact hlt
      have hX : REnts wr (.slice xB M xd) xents := by unfold REnts; rw [HM.out]; exact HX1.out.ext (HW1.out.trans hxr)
      have hY : REnts wr (.slice yB M yd) yents := by unfold REnts; rw [HM2.out]; exact HY1.out.ext (HW1.out.trans hxr)
      obtain ⟨ad, c1, e1, hax⟩ := hX.at hkx
      obtain ⟨ae, c2, e2, hay⟩ := hY.at hky
      injection e1 with e1 e1' e1''
      injection e2 with e2 e2' e2''
      subst e1 e2
      clear e1' e1'' e2' e2'' hX hY
      have hstep := take_succ_all (P := fun a b => a = b) hkx hky hinv.out
      have hno : xents[k] ≠ yents[k] → R = false := fun h => by
        rw [← HR.out]
        refine decide_eq_false fun e => h ?_
        subst e
        rfl
      obtain ⟨x, hxx⟩ : ∃ x, xents[k] = x := ⟨_, rfl⟩
      obtain ⟨y, hyy⟩ : ∃ y, yents[k] = y := ⟨_, rfl⟩
      rw [hxx] at hax hstep hno
      rw [hyy] at hay hstep hno
      have HST := Lib.hid hstep
      clear hstep hxx hyy hkx hky
      have hi0' : (0 : Int) ≤ (k : Int) := by omega
      have hi1 : (k : Int) < (M : Int) := by omega
      obtain ⟨i1, t1, l1, c1', u1⟩ := x
      obtain ⟨i2, t2, l2, c2', u2⟩ := y
      obtain ⟨p0, p1, p2, p3, p4⟩ := hax
      obtain ⟨q0, q1, q2, q3, q4⟩ := hay
      dsimp only at p0 p1 p2 p3 p4 q0 q1 q2 q3 q4
      have A5 : ∀ d : Aft wr, d.w.cell? ⟨w.heap.size, 5, none⟩ = some (.slice (some ad) M xd) := Aft.cell a5
      have B5 : ∀ d : Aft wr, d.w.cell? ⟨w.heap.size + 1, 5, none⟩ = some (.slice (some ae) M yd) := Aft.cell b5
      have P0 : ∀ d : Aft wr, d.w.cell? (ad.add (k * 5)) = some (.string i1) := Aft.cell p0
      have P1 : ∀ d : Aft wr, d.w.cell? ⟨(ad.add (k * 5)).block, (ad.add (k * 5)).off + 1, none⟩ = some (.string t1) := Aft.cell p1
      have P2 : ∀ d : Aft wr, d.w.cell? ⟨(ad.add (k * 5)).block, (ad.add (k * 5)).off + 2, none⟩ = some (.string l1) := Aft.cell p2
      have P3 : ∀ d : Aft wr, d.w.cell? ⟨(ad.add (k * 5)).block, (ad.add (k * 5)).off + 3, none⟩ = some (.string c1') := Aft.cell p3
      have P4 : ∀ d : Aft wr, d.w.cell? ⟨(ad.add (k * 5)).block, (ad.add (k * 5)).off + 4, none⟩ = some (.int .i64 u1) := Aft.cell p4
      have Q0 : ∀ d : Aft wr, d.w.cell? (ae.add (k * 5)) = some (.string i2) := Aft.cell q0
      have Q1 : ∀ d : Aft wr, d.w.cell? ⟨(ae.add (k * 5)).block, (ae.add (k * 5)).off + 1, none⟩ = some (.string t2) := Aft.cell q1
      have Q2 : ∀ d : Aft wr, d.w.cell? ⟨(ae.add (k * 5)).block, (ae.add (k * 5)).off + 2, none⟩ = some (.string l2) := Aft.cell q2
      have Q3 : ∀ d : Aft wr, d.w.cell? ⟨(ae.add (k * 5)).block, (ae.add (k * 5)).off + 3, none⟩ = some (.string c2') := Aft.cell q3
      have Q4 : ∀ d : Aft wr, d.w.cell? ⟨(ae.add (k * 5)).block, (ae.add (k * 5)).off + 4, none⟩ = some (.int .i64 u2) := Aft.cell q4
      clear p0 p1 p2 p3 p4 q0 q1 q2 q3 q4
      by_cases hxy : (⟨i1, t1, l1, c1', u1⟩ : Ent) = ⟨i2, t2, l2, c2', u2⟩
      · injection hxy with g1 g2 g3 g4 g5
        subst g1 g2 g3 g4 g5
        clear hno
        go_wp2
        refine wp_region_aft (by kernel_rfl) (by kernel_rfl) ?_
        repeat (first | go_big_quiet_step (fail) | quiet_step (fail))
        refine wpQuiet_nil ?_
        rintro _ ⟨d1, rfl⟩
        go_wp2
        go_roundw
        case rel => exact ⟨k + 1, hlt, by go_num, Lib.hid (HST.out (by trivial)), hxr.trans d1.ext⟩
        case measure => simp [intOf]; omega
      · have hRf := hno hxy
        subst hRf
        have hsp : (i1.toList == i2.toList) = false ∨ (i1 = i2 ∧ ((t1.toList == t2.toList) = false ∨ (t1 = t2 ∧ ((l1.toList == l2.toList) = false ∨ (l1 = l2 ∧ ((c1'.toList == c2'.toList) = false ∨ (c1' = c2' ∧ (u1 == u2) = false))))))) := by
          cases g1 : (i1.toList == i2.toList) with
          | false => exact Or.inl rfl
          | true =>
          refine Or.inr ⟨toList_inj (by simpa using g1), ?_⟩
          cases g2 : (t1.toList == t2.toList) with
          | false => exact Or.inl rfl
          | true =>
          refine Or.inr ⟨toList_inj (by simpa using g2), ?_⟩
          cases g3 : (l1.toList == l2.toList) with
          | false => exact Or.inl rfl
          | true =>
          refine Or.inr ⟨toList_inj (by simpa using g3), ?_⟩
          cases g4 : (c1'.toList == c2'.toList) with
          | false => exact Or.inl rfl
          | true =>
          refine Or.inr ⟨toList_inj (by simpa using g4), ?_⟩
          rw [beq_eq_false_iff_ne]
          intro g5
          exact hxy (by rw [toList_inj (by simpa using g1 : i1.toList = i2.toList), toList_inj (by simpa using g2 : t1.toList = t2.toList), toList_inj (by simpa using g3 : l1.toList = l2.toList), toList_inj (by simpa using g4 : c1'.toList = c2'.toList), g5])
        clear hno hxy HST
        rcases hsp with h | ⟨rfl, h | ⟨rfl, h | ⟨rfl, h | ⟨rfl, h⟩⟩⟩⟩
        all_goals
          (go_wp2
           refine wp_region_aft (by kernel_rfl) (by kernel_rfl) ?_
           repeat (first | go_big_quiet_step (fail) | quiet_step (fail))
           refine wpQuiet_nil ?_
           rintro _ ⟨d1, rfl⟩
           go_wp2
           go_ret
           exact ⟨rfl, HW1.out.trans (hxr.trans d1.ext)⟩)
    · have hke : k = M := by omega
      subst hke
      have hRt : R = true := by
        rw [← HR.out]
        refine decide_eq_true (List.ext_getElem (by rw [HM.out, HM2.out]) fun j h1 h2 => hinv.out j h1 h2 (by have := HM.out; omega))
      subst hRt
      go_wp2
      go_ret
      exact ⟨rfl, HW1.out.trans hxr⟩
theorem refSame_any (x y : Fc) (w : World) (hx : RdC w x) (hy : RdC w y) (hn : x.f.path.length ≤ 16777216) (hm : x.f.ents.length ≤ 16777216) :
    Calls Tryz.prog 23 #[.agg (cellsC x).toArray, .agg (cellsC y).toArray] w fun e w' => e = .returned (.bool (decide (x.f = y.f))) ∧ Ext w w' := by
  have tl : ∀ {s t : ByteArray}, (s.toList == t.toList) = false → s ≠ t := fun {s t} h e => by rw [e] at h; simp at h
  by_cases hp : pathCmp x.f.path y.f.path = 0
  · cases h0 : (x.f.id.toList == y.f.id.toList) with
    | false => rw [decide_eq_false (fun e => tl h0 (congrArg Fd.id e))]; exact refSame_1 x y w hx hy hn hp h0
    | true =>
    cases h1 : (x.f.title.toList == y.f.title.toList) with
    | false => rw [decide_eq_false (fun e => tl h1 (congrArg Fd.title e))]; exact refSame_2 x y w hx hy hn hp h0 h1
    | true =>
    cases h2 : (x.f.link.toList == y.f.link.toList) with
    | false => rw [decide_eq_false (fun e => tl h2 (congrArg Fd.link e))]; exact refSame_3 x y w hx hy hn hp h0 h1 h2
    | true =>
    cases h3 : (x.f.upd == y.f.upd) with
    | false => rw [decide_eq_false (fun e => by rw [congrArg Fd.upd e] at h3; simp at h3)]; exact refSame_4 x y w hx hy hn hp h0 h1 h2 h3
    | true =>
    by_cases h4 : x.f.ents.length = y.f.ents.length
    · have e : decide (x.f = y.f) = decide (x.f.ents = y.f.ents) := by
        have e0 := pathCmp_eq hp
        have e1 := toList_inj (by simpa using h0 : x.f.id.toList = y.f.id.toList)
        have e2 := toList_inj (by simpa using h1 : x.f.title.toList = y.f.title.toList)
        have e3 := toList_inj (by simpa using h2 : x.f.link.toList = y.f.link.toList)
        have e4 : x.f.upd = y.f.upd := by simpa using h3
        rw [decide_eq_decide]
        constructor
        · intro h; rw [h]
        · intro h
          generalize x.f = a at *
          generalize y.f = b at *
          cases a; cases b
          simp_all
      rw [e]; exact refSame_6 x y w hx hy hn hm hp h0 h1 h2 h3 h4
    · rw [decide_eq_false (fun e => h4 (by rw [e]))]; exact refSame_5 x y w hx hy hn hp h0 h1 h2 h3 h4
  · rw [decide_eq_false (fun e => hp (by rw [e]; exact pathCmp_is.self _))]; exact refSame_0 x y w hx hy hn hp
end Go.Proofs.YtgecijhgonfldaaGreatDoor
namespace Go.Proofs.YtgecijhgonfldaaGreatDoor
open Go Go.RowKit
set_option linter.unusedVariables false
set_option maxRecDepth 100000 in
set_option maxHeartbeats 4000000 in
theorem refEqual_any (u v : Value) (l m : List Fc) (w : World) (hu : RFcs w u l) (hv : RFcs w v m) (hl : ∀ x ∈ l, RdC w x) (hm : ∀ x ∈ m, RdC w x) (hk : ∀ x ∈ l, x.f.path.length ≤ 16777216 ∧ x.f.ents.length ≤ 16777216) (hn : l.length ≤ 16777216) :
    Calls Tryz.prog 27 #[.agg #[u], .agg #[v]] w fun e w' => e = .returned (.bool (decide (l.map Fc.f = m.map Fc.f))) ∧ Ext w w' := by
  obtain ⟨R, hR⟩ : ∃ R, decide (l.map Fc.f = m.map Fc.f) = R := ⟨_, rfl⟩
  rw [hR]
  obtain ⟨A, c, rfl, -, -⟩ := hu.form
  obtain ⟨B, d, rfl, -, -⟩ := hv.form
  by_cases h4 : l.length = m.length
  case neg =>
    have hRf : R = false := by
      rw [← hR]
      refine decide_eq_false fun e => h4 ?_
      have := congrArg List.length e
      simpa using this
    subst hRf
    have hb : ((l.length : Int) != (m.length : Int)) = true := by simp; omega
    clear hR hu hv hl hm hk
    go_enter Tryz.func27, Tryz.ntmps27
    go_wp2
    go_ret
    exact ⟨rfl, ((Ext.refl _).alloc _).alloc _⟩
  case pos =>
    have HR := Lib.hid hR
    have HU := Lib.hid hu
    have HV := Lib.hid hv
    have HL := Lib.hid hl
    have HMM := Lib.hid hm
    have HK := Lib.hid hk
    obtain ⟨M, hM⟩ : ∃ M, l.length = M := ⟨_, rfl⟩
    have hM2 : m.length = M := by rw [← h4]; exact hM
    have HM := Lib.hid hM
    have HM2 := Lib.hid hM2
    rw [hM] at hn
    simp only [hM, hM2]
    clear hu hv hl hm hk h4 hM hM2 hR
    go_enter Tryz.func27, Tryz.ntmps27
    go_wp2
    go_loopw [5] (fun i wr => ∃ k : Nat, k ≤ M ∧ i = .int .i64 k ∧ Hid (∀ j (h1 : j < l.length) (h2 : j < m.length), j < k → l[j].f = m[j].f) ∧ Ext ((w.alloc (.cells #[.slice A M c] 46)).alloc (.cells #[.slice B M d] 46)) wr) (fun i _ => M - (intOf i).toNat)
    case atStart => exact ⟨0, Nat.zero_le _, rfl, Lib.hid (fun j _ _ h => by omega), Ext.refl _⟩
    case round =>
      obtain ⟨k, hk, rfl, hinv, hxr⟩ := hrel
      have a5 := (((Ext.refl _).alloc _).trans hxr).boxed 0 _ rfl
      have b5 := boxed2b hxr 0 _ rfl
      have hwr : Ext w wr := (((Ext.refl _).alloc _).alloc _).trans hxr
      by_cases hlt : k < M
      · have hkx : k < l.length := by rw [HM.out]; exact hlt
        have hky : k < m.length := by rw [HM2.out]; exact hlt
        obtain ⟨ad, c1, e1, hax⟩ := (HU.out.ext hwr).at hkx
        obtain ⟨ae, c2, e2, hay⟩ := (HV.out.ext hwr).at hky
        injection e1 with e1 e1' e1''
        injection e2 with e2 e2' e2''
        subst e1 e2
        clear e1' e1'' e2' e2''
        have hstep := take_succ_all (P := fun a b : Fc => a.f = b.f) hkx hky hinv.out
        have hno : l[k].f ≠ m[k].f → R = false := fun h => by
          rw [← HR.out]
          refine decide_eq_false fun e => h ?_
          have h1 : (l.map Fc.f)[k]? = (m.map Fc.f)[k]? := by rw [e]
          rw [List.getElem?_map, List.getElem?_map, List.getElem?_eq_getElem hkx, List.getElem?_eq_getElem hky] at h1
          exact Option.some.inj h1
        have hx := HL.out _ (List.getElem_mem hkx)
        have hy := HMM.out _ (List.getElem_mem hky)
        have hkk := HK.out _ (List.getElem_mem hkx)
        obtain ⟨x, hxx⟩ : ∃ x, l[k] = x := ⟨_, rfl⟩
        obtain ⟨y, hyy⟩ : ∃ y, m[k] = y := ⟨_, rfl⟩
        rw [hxx] at hax hstep hno hx hkk
        rw [hyy] at hay hstep hno hy
        have HST := Lib.hid hstep
        have HNO := Lib.hid hno
        have hsx := hx.sl
        have hsy := hy.sl
        have HSM := Lib.hid (fun z : Aft wr => refSame_any x y z.w (hx.ext (hwr.trans z.ext)) (hy.ext (hwr.trans z.ext)) hkk.1 hkk.2)
        clear hstep hno hxx hyy hkx hky hx hy hkk
        have hi0' : (0 : Int) ≤ (k : Int) := by omega
        have hi1 : (k : Int) < (M : Int) := by omega
        obtain ⟨S, hS⟩ : ∃ S, decide (x.f = y.f) = S := ⟨_, rfl⟩
        simp only [hS] at HSM
        have HS := Lib.hid hS
        clear hS
        obtain ⟨xp, xes, xf⟩ := x
        obtain ⟨yp, yes, yf⟩ := y
        obtain ⟨⟨xA, xn, xc, hxp⟩, ⟨xB, xm, xd, hxe⟩⟩ := hsx
        obtain ⟨⟨yA, yn, yc, hyp⟩, ⟨yB, ym, yd, hye⟩⟩ := hsy
        dsimp only at hxp hxe hyp hye
        subst hxp hxe hyp hye
        obtain ⟨p0, p1, p2, p3, p4, p5⟩ := hax
        obtain ⟨q0, q1, q2, q3, q4, q5⟩ := hay
        dsimp only at p0 p1 p2 p3 p4 p5 q0 q1 q2 q3 q4 q5
        unfold cellsC fCells at HSM
        dsimp only at HSM
        have A5 : ∀ z : Aft wr, z.w.cell? ⟨w.heap.size, 0, none⟩ = some (.slice (some ad) M c) := Aft.cell a5
        have B5 : ∀ z : Aft wr, z.w.cell? ⟨w.heap.size + 1, 0, none⟩ = some (.slice (some ae) M d) := Aft.cell b5
        have P0 := fun z : Aft wr => Aft.cell p0 z
        have P1 := fun z : Aft wr => Aft.cell p1 z
        have P2 := fun z : Aft wr => Aft.cell p2 z
        have P3 := fun z : Aft wr => Aft.cell p3 z
        have P4 := fun z : Aft wr => Aft.cell p4 z
        have P5 := fun z : Aft wr => Aft.cell p5 z
        have Q0 := fun z : Aft wr => Aft.cell q0 z
        have Q1 := fun z : Aft wr => Aft.cell q1 z
        have Q2 := fun z : Aft wr => Aft.cell q2 z
        have Q3 := fun z : Aft wr => Aft.cell q3 z
        have Q4 := fun z : Aft wr => Aft.cell q4 z
        have Q5 := fun z : Aft wr => Aft.cell q5 z
        clear p0 p1 p2 p3 p4 p5 q0 q1 q2 q3 q4 q5
        cases S with
        | true =>
          have hxy : xf = yf := of_decide_eq_true HS.out
          have HST2 := Lib.hid (HST.out hxy)
          clear hxy HNO
          go_wp2
          refine wp_region_aft (by kernel_rfl) (by kernel_rfl) ?_
          repeat (first | go_big_quiet_step ((go_at_call 23; with_reducible exact quiet_call (HSM.out _))) | quiet_step ((go_at_call 23; with_reducible exact quiet_call (HSM.out _))))
          refine wpQuiet_nil ?_
          rintro _ ⟨d1, rfl⟩
          go_wp2
          go_roundw
          case rel => exact ⟨k + 1, hlt, by go_num, HST2, hxr.trans d1.ext⟩
          case measure => simp [intOf]; omega
        | false =>
          have hRf := HNO.out (of_decide_eq_false HS.out)
          subst hRf
          go_wp2
          refine wp_region_aft (by kernel_rfl) (by kernel_rfl) ?_
          repeat (first | go_big_quiet_step ((go_at_call 23; with_reducible exact quiet_call (HSM.out _))) | quiet_step ((go_at_call 23; with_reducible exact quiet_call (HSM.out _))))
          refine wpQuiet_nil ?_
          rintro _ ⟨d1, rfl⟩
          go_wp2
          go_ret
          exact ⟨rfl, hwr.trans d1.ext⟩
      · have hke : k = M := by omega
        subst hke
        have hRt : R = true := by
          rw [← HR.out]
          refine decide_eq_true (List.ext_getElem (by simp only [List.length_map]; rw [HM.out, HM2.out]) fun j h1 h2 => ?_)
          simp only [List.length_map] at h1 h2
          rw [List.getElem_map, List.getElem_map]
          exact hinv.out j h1 h2 (by have := HM.out; omega)
        subst hRt
        go_wp2
        go_ret
        exact ⟨rfl, hwr⟩
end Go.Proofs.YtgecijhgonfldaaGreatDoor
