/- Parts of the proof: contracts and plain laws that the statement needs. -/
import Derived.Test.YtgecijhgonfldaaGreatDoorQ22
import Derived.Test.YtgecijhgonfldaaGreatDoorQ08
import Derived.Test.YtgecijhgonfldaaGreatDoorQ17
import Derived.Test.YtgecijhgonfldaaGreatDoorQ13
import Derived.Test.YtgecijhgonfldaaGreatDoorQ10
namespace Go.Proofs.YtgecijhgonfldaaGreatDoor
open Go Go.RowKit
set_option linter.unusedVariables false
set_option maxRecDepth 100000 in
set_option maxHeartbeats 2000000 in
theorem refCheckF_0 (x : Fc) (w : World) (hr : RdC w x) (hk : fokS x.f) (h0 : ¬ x.f.path.length ≤ 64) :
    Calls Tryz.prog 24 #[.agg (cellsC x).toArray] w fun e w' => e = .returned (.int .i64 22) ∧ Ext w w' := by
  obtain ⟨⟨z0, z1⟩, z2, z3⟩ := hk
  obtain ⟨xp, xes, ⟨xpath, xid, xtitle, xlink, xupd, xents⟩⟩ := x
  obtain ⟨hx0, hx1⟩ := hr
  dsimp only at *
  obtain ⟨xA, xc, rfl, -, -⟩ := hx0.form
  obtain ⟨xB, xd, rfl, -, -⟩ := hx1.form
  have hb : (64 : Int) < (xpath.length : Int) := by omega
  clear hx0 hx1 z0 z1 z2 z3 h0
  unfold cellsC fCells
  dsimp only
  go_enter Tryz.func24, Tryz.ntmps24
  go_wp2
  go_ret
  exact ⟨rfl, (Ext.refl _).alloc _⟩
set_option maxRecDepth 100000 in
set_option maxHeartbeats 2000000 in
theorem refCheckF_1 (x : Fc) (w : World) (hr : RdC w x) (hk : fokS x.f) (h0 : x.f.path.length ≤ 64) (v0 : validS x.f.id = false) :
    Calls Tryz.prog 24 #[.agg (cellsC x).toArray] w fun e w' => e = .returned (.int .i64 22) ∧ Ext w w' := by
  obtain ⟨⟨z0, z1⟩, z2, z3⟩ := hk
  have V0 := Lib.hid (fun w' => refValid_any x.f.id w' (by omega))
  rw [v0] at V0
  obtain ⟨xp, xes, ⟨xpath, xid, xtitle, xlink, xupd, xents⟩⟩ := x
  obtain ⟨hx0, hx1⟩ := hr
  dsimp only at *
  obtain ⟨xA, xc, rfl, -, -⟩ := hx0.form
  obtain ⟨xB, xd, rfl, -, -⟩ := hx1.form
  have hb : ¬ (64 : Int) < (xpath.length : Int) := by omega
  clear hx0 hx1 z0 z1 z2 z3 h0 v0
  unfold cellsC fCells
  dsimp only
  go_enter Tryz.func24, Tryz.ntmps24
  go_wp2_with (first
        | (go_at_call 47; (with_reducible refine Calls.mono (V0.out _) ?_); rintro e w1 ⟨rfl, hx1⟩; (have k2 := hx1.boxed 2 _ rfl)))
  go_ret
  exact ⟨rfl, ((Ext.refl _).alloc _).trans hx1⟩
set_option maxRecDepth 100000 in
set_option maxHeartbeats 2000000 in
theorem refCheckF_2 (x : Fc) (w : World) (hr : RdC w x) (hk : fokS x.f) (h0 : x.f.path.length ≤ 64) (v0 : validS x.f.id = true) (v1 : validS x.f.title = false) :
    Calls Tryz.prog 24 #[.agg (cellsC x).toArray] w fun e w' => e = .returned (.int .i64 22) ∧ Ext w w' := by
  obtain ⟨⟨z0, z1⟩, z2, z3⟩ := hk
  have V0 := Lib.hid (fun w' => refValid_any x.f.id w' (by omega))
  rw [v0] at V0
  have V1 := Lib.hid (fun w' => refValid_any x.f.title w' (by omega))
  rw [v1] at V1
  obtain ⟨xp, xes, ⟨xpath, xid, xtitle, xlink, xupd, xents⟩⟩ := x
  obtain ⟨hx0, hx1⟩ := hr
  dsimp only at *
  obtain ⟨xA, xc, rfl, -, -⟩ := hx0.form
  obtain ⟨xB, xd, rfl, -, -⟩ := hx1.form
  have hb : ¬ (64 : Int) < (xpath.length : Int) := by omega
  clear hx0 hx1 z0 z1 z2 z3 h0 v0 v1
  unfold cellsC fCells
  dsimp only
  go_enter Tryz.func24, Tryz.ntmps24
  go_wp2_with (first
        | (go_at_call 47; (with_reducible refine Calls.mono (V0.out _) ?_); rintro e w1 ⟨rfl, hx1⟩; (have k2 := hx1.boxed 2 _ rfl))
        | (go_at_call 47; (with_reducible refine Calls.mono (V1.out _) ?_); rintro e w2 ⟨rfl, hx2⟩; (have hy2 := hx1.trans hx2); (have k3 := hy2.boxed 3 _ rfl)))
  go_ret
  exact ⟨rfl, ((Ext.refl _).alloc _).trans hy2⟩
set_option maxRecDepth 100000 in
set_option maxHeartbeats 2000000 in
theorem refCheckF_3 (x : Fc) (w : World) (hr : RdC w x) (hk : fokS x.f) (h0 : x.f.path.length ≤ 64) (v0 : validS x.f.id = true) (v1 : validS x.f.title = true) (v2 : validS x.f.link = false) :
    Calls Tryz.prog 24 #[.agg (cellsC x).toArray] w fun e w' => e = .returned (.int .i64 22) ∧ Ext w w' := by
  obtain ⟨⟨z0, z1⟩, z2, z3⟩ := hk
  have V0 := Lib.hid (fun w' => refValid_any x.f.id w' (by omega))
  rw [v0] at V0
  have V1 := Lib.hid (fun w' => refValid_any x.f.title w' (by omega))
  rw [v1] at V1
  have V2 := Lib.hid (fun w' => refValid_any x.f.link w' (by omega))
  rw [v2] at V2
  obtain ⟨xp, xes, ⟨xpath, xid, xtitle, xlink, xupd, xents⟩⟩ := x
  obtain ⟨hx0, hx1⟩ := hr
  dsimp only at *
  obtain ⟨xA, xc, rfl, -, -⟩ := hx0.form
  obtain ⟨xB, xd, rfl, -, -⟩ := hx1.form
  have hb : ¬ (64 : Int) < (xpath.length : Int) := by omega
  clear hx0 hx1 z0 z1 z2 z3 h0 v0 v1 v2
  unfold cellsC fCells
  dsimp only
  go_enter Tryz.func24, Tryz.ntmps24
  go_wp2_with (first
        | (go_at_call 47; (with_reducible refine Calls.mono (V0.out _) ?_); rintro e w1 ⟨rfl, hx1⟩; (have k2 := hx1.boxed 2 _ rfl))
        | (go_at_call 47; (with_reducible refine Calls.mono (V1.out _) ?_); rintro e w2 ⟨rfl, hx2⟩; (have hy2 := hx1.trans hx2); (have k3 := hy2.boxed 3 _ rfl))
        | (go_at_call 47; (with_reducible refine Calls.mono (V2.out _) ?_); rintro e w3 ⟨rfl, hx3⟩; (have hy3 := hy2.trans hx3); (have k1 := hy3.boxed 1 _ rfl); (have k4 := hy3.boxed 4 _ rfl)))
  go_ret
  exact ⟨rfl, ((Ext.refl _).alloc _).trans hy3⟩
set_option maxRecDepth 100000 in
set_option maxHeartbeats 2000000 in
theorem refCheckF_4 (x : Fc) (w : World) (hr : RdC w x) (hk : fokS x.f) (h0 : x.f.path.length ≤ 64) (v0 : validS x.f.id = true) (v1 : validS x.f.title = true) (v2 : validS x.f.link = true) (h4 : x.f.id.toList.isEmpty = true) :
    Calls Tryz.prog 24 #[.agg (cellsC x).toArray] w fun e w' => e = .returned (.int .i64 22) ∧ Ext w w' := by
  obtain ⟨⟨z0, z1⟩, z2, z3⟩ := hk
  have V0 := Lib.hid (fun w' => refValid_any x.f.id w' (by omega))
  rw [v0] at V0
  have V1 := Lib.hid (fun w' => refValid_any x.f.title w' (by omega))
  rw [v1] at V1
  have V2 := Lib.hid (fun w' => refValid_any x.f.link w' (by omega))
  rw [v2] at V2
  obtain ⟨xp, xes, ⟨xpath, xid, xtitle, xlink, xupd, xents⟩⟩ := x
  obtain ⟨hx0, hx1⟩ := hr
  dsimp only at *
  obtain ⟨xA, xc, rfl, -, -⟩ := hx0.form
  obtain ⟨xB, xd, rfl, -, -⟩ := hx1.form
  have hb : ¬ (64 : Int) < (xpath.length : Int) := by omega
  clear hx0 hx1 z0 z1 z2 z3 h0 v0 v1 v2
  unfold cellsC fCells
  dsimp only
  go_enter Tryz.func24, Tryz.ntmps24
  go_wp2_with (first
        | (go_at_call 47; (with_reducible refine Calls.mono (V0.out _) ?_); rintro e w1 ⟨rfl, hx1⟩; (have k2 := hx1.boxed 2 _ rfl))
        | (go_at_call 47; (with_reducible refine Calls.mono (V1.out _) ?_); rintro e w2 ⟨rfl, hx2⟩; (have hy2 := hx1.trans hx2); (have k3 := hy2.boxed 3 _ rfl))
        | (go_at_call 47; (with_reducible refine Calls.mono (V2.out _) ?_); rintro e w3 ⟨rfl, hx3⟩; (have hy3 := hy2.trans hx3); (have k1 := hy3.boxed 1 _ rfl); (have k4 := hy3.boxed 4 _ rfl)))
  go_ret
  exact ⟨rfl, ((Ext.refl _).alloc _).trans hy3⟩
set_option maxRecDepth 100000 in
set_option maxHeartbeats 2000000 in
theorem refCheckF_5 (x : Fc) (w : World) (hr : RdC w x) (hk : fokS x.f) (h0 : x.f.path.length ≤ 64) (v0 : validS x.f.id = true) (v1 : validS x.f.title = true) (v2 : validS x.f.link = true) (h4 : x.f.id.toList.isEmpty = false) (h5 : inT x.f.upd = false) :
    Calls Tryz.prog 24 #[.agg (cellsC x).toArray] w fun e w' => e = .returned (.int .i64 22) ∧ Ext w w' := by
  obtain ⟨⟨z0, z1⟩, z2, z3⟩ := hk
  have V0 := Lib.hid (fun w' => refValid_any x.f.id w' (by omega))
  rw [v0] at V0
  have V1 := Lib.hid (fun w' => refValid_any x.f.title w' (by omega))
  rw [v1] at V1
  have V2 := Lib.hid (fun w' => refValid_any x.f.link w' (by omega))
  rw [v2] at V2
  have VT := Lib.hid (fun w' => refInTime_any x.f.upd w')
  rw [h5] at VT
  obtain ⟨xp, xes, ⟨xpath, xid, xtitle, xlink, xupd, xents⟩⟩ := x
  obtain ⟨hx0, hx1⟩ := hr
  dsimp only at *
  obtain ⟨xA, xc, rfl, -, -⟩ := hx0.form
  obtain ⟨xB, xd, rfl, -, -⟩ := hx1.form
  have hb : ¬ (64 : Int) < (xpath.length : Int) := by omega
  clear hx0 hx1 z0 z1 z2 z3 h0 v0 v1 v2 h5
  unfold cellsC fCells
  dsimp only
  go_enter Tryz.func24, Tryz.ntmps24
  go_wp2_with (first
        | (go_at_call 47; (with_reducible refine Calls.mono (V0.out _) ?_); rintro e w1 ⟨rfl, hx1⟩; (have k2 := hx1.boxed 2 _ rfl))
        | (go_at_call 47; (with_reducible refine Calls.mono (V1.out _) ?_); rintro e w2 ⟨rfl, hx2⟩; (have hy2 := hx1.trans hx2); (have k3 := hy2.boxed 3 _ rfl))
        | (go_at_call 47; (with_reducible refine Calls.mono (V2.out _) ?_); rintro e w3 ⟨rfl, hx3⟩; (have hy3 := hy2.trans hx3); (have k1 := hy3.boxed 1 _ rfl); (have k4 := hy3.boxed 4 _ rfl))
        | (go_at_call 48; (with_reducible refine Calls.mono (VT.out _) ?_); rintro e w5 ⟨rfl, rfl⟩))
  go_ret
  exact ⟨rfl, ((Ext.refl _).alloc _).trans hy3⟩
def okP (l : List ByteArray) : Bool := l.all fun p => !decide (p = noS) && validS p
theorem okP_take {l : List ByteArray} {k : Nat} (hk : k < l.length) (h : ∀ p ∈ l.take k, p ≠ noS ∧ validS p = true) (h2 : l[k] ≠ noS ∧ validS l[k] = true) : ∀ p ∈ l.take (k + 1), p ≠ noS ∧ validS p = true := by
  intro p hp
  rw [List.take_succ_eq_append_getElem hk] at hp
  rcases List.mem_append.1 hp with hp | hp
  · exact h p hp
  · rw [List.mem_singleton.1 hp]; exact h2
theorem okP_false {l : List ByteArray} {p : ByteArray} (hp : p ∈ l) (h : p = noS ∨ validS p = false) : okP l = false := by
  unfold okP
  rw [List.all_eq_false]
  refine ⟨p, hp, ?_⟩
  rcases h with h | h <;> simp [h]
theorem okP_true {l : List ByteArray} (h : ∀ p ∈ l, p ≠ noS ∧ validS p = true) : okP l = true := by
  unfold okP
  rw [List.all_eq_true]
  intro p hp
  obtain ⟨h1, h2⟩ := h p hp
  simp [h1, h2]
theorem okL_false {l : List Ent} {k : Nat} (hk : k < l.length) (h : okAt okE ordE l k = false) : okL okE ordE l = false := by
  unfold okL
  rw [List.all_eq_false]
  exact ⟨k, List.mem_range.2 hk, by simp [h]⟩
theorem okL_true {l : List Ent} (h : ∀ k, k < l.length → okAt okE ordE l k = true) : okL okE ordE l = true := by
  unfold okL
  rw [List.all_eq_true]
  exact fun k hk => h k (List.mem_range.1 hk)
set_option maxRecDepth 100000 in
set_option maxHeartbeats 8000000 in
theorem refCheckF_6 (x : Fc) (w : World) (hr : RdC w x) (hk : fokS x.f) (h0 : x.f.path.length ≤ 64) (v0 : validS x.f.id = true) (v1 : validS x.f.title = true) (v2 : validS x.f.link = true) (h4 : x.f.id.toList.isEmpty = false) (h5 : inT x.f.upd = true) :
    Calls Tryz.prog 24 #[.agg (cellsC x).toArray] w fun e w' => e = .returned (.int .i64 (if (okP x.f.path && okL okE ordE x.f.ents) = true then 0 else 22)) ∧ Ext w w' := by
  obtain ⟨⟨z0, z1⟩, z2, z3⟩ := hk
  have V0 := Lib.hid (fun w' => refValid_any x.f.id w' (by omega))
  rw [v0] at V0
  have V1 := Lib.hid (fun w' => refValid_any x.f.title w' (by omega))
  rw [v1] at V1
  have V2 := Lib.hid (fun w' => refValid_any x.f.link w' (by omega))
  rw [v2] at V2
  have VT := Lib.hid (fun w' => refInTime_any x.f.upd w')
  rw [h5] at VT
  obtain ⟨xp, xes, ⟨xpath, xid, xtitle, xlink, xupd, xents⟩⟩ := x
  obtain ⟨hx0, hx1⟩ := hr
  dsimp only at *
  obtain ⟨xA, xc, rfl, -, -⟩ := hx0.form
  obtain ⟨xB, xd, rfl, -, -⟩ := hx1.form
  have hb : ¬ (64 : Int) < (xpath.length : Int) := by omega
  obtain ⟨R, hR⟩ : ∃ R : Int, (if (okP xpath && okL okE ordE xents) = true then 0 else 22) = R := ⟨_, rfl⟩
  rw [hR]
  have HR := Lib.hid hR
  have HX0 := Lib.hid hx0
  have HX1 := Lib.hid hx1
  have HS : Hid (∀ p ∈ xpath, p.size ≤ 16777216) := Lib.hid fun p hp => by have := size_le_sizes hp; omega
  have HEK : Hid (∀ e ∈ xents, eokS e) := Lib.hid fun e he => by obtain ⟨_, h⟩ := z3 e he; exact ⟨by omega, by omega, by omega, by omega⟩
  have hpl : xpath.length ≤ 64 := h0
  have hen : xents.length ≤ 1000000 := z2
  clear hx0 hx1 z0 z1 z2 z3 h0 v0 v1 v2 h5 hR
  unfold cellsC fCells
  dsimp only
  go_enter Tryz.func24, Tryz.ntmps24
  go_wp2_with (first
        | (go_at_call 47; (with_reducible refine Calls.mono (V0.out _) ?_); rintro e w1 ⟨rfl, hx1⟩; (have k2 := hx1.boxed 2 _ rfl))
        | (go_at_call 47; (with_reducible refine Calls.mono (V1.out _) ?_); rintro e w2 ⟨rfl, hx2⟩; (have hy2 := hx1.trans hx2); (have k3 := hy2.boxed 3 _ rfl))
        | (go_at_call 47; (with_reducible refine Calls.mono (V2.out _) ?_); rintro e w3 ⟨rfl, hx3⟩; (have hy3 := hy2.trans hx3); (have k1 := hy3.boxed 1 _ rfl); (have k4 := hy3.boxed 4 _ rfl))
        | (go_at_call 48; (with_reducible refine Calls.mono (VT.out _) ?_); rintro e w5 ⟨rfl, rfl⟩))
  have hbox : Hid (∀ wr : World, Ext w3 wr → wr.cell? ⟨w.heap.size, 0, none⟩ = some (.slice xA xpath.length xc) ∧ wr.cell? ⟨w.heap.size, 5, none⟩ = some (.slice xB xents.length xd)) := Lib.hid fun wr h => ⟨(hy3.trans h).boxed 0 _ rfl, (hy3.trans h).boxed 5 _ rfl⟩
  have HW3 : Hid (Ext w w3) := Lib.hid (((Ext.refl _).alloc _).trans hy3)
  clear V0 V1 V2 VT hx1 hx2 hy2 hx3 hy3 k1 k2 k3 k4 hb h4
  go_loopw [3] (fun i wr => ∃ k : Nat, k ≤ xpath.length ∧ i = .int .i64 k ∧ Hid (∀ p ∈ xpath.take k, p ≠ noS ∧ validS p = true) ∧ Ext w3 wr) (fun i _ => xpath.length - (intOf i).toNat)
  case atStart => exact ⟨0, Nat.zero_le _, rfl, Lib.hid (by simp), Ext.refl _⟩
  case round =>
    obtain ⟨k, hk, rfl, hinv, hxr⟩ := hrel
    obtain ⟨bx0, bx5⟩ := hbox.out wr hxr
    by_cases hlt : k < xpath.length
    · obtain ⟨ad, c1, e1, hc⟩ := (HX0.out.ext (HW3.out.trans hxr)).at hlt
      injection e1 with e1 e1' e1''
      subst e1
      clear e1' e1''
      have hmem : xpath[k] ∈ xpath := List.getElem_mem hlt
      have hstep := okP_take hlt hinv.out
      have HV := Lib.hid (refValid_any xpath[k] wr (by have := HS.out _ hmem; omega))
      have hbad : (xpath[k] = noS ∨ validS xpath[k] = false) → R = 22 := fun h => by rw [← HR.out, okP_false hmem h]; rfl
      obtain ⟨p, hpp⟩ : ∃ p, xpath[k] = p := ⟨_, rfl⟩
      rw [hpp] at hc hstep HV hbad
      have hi0' : (0 : Int) ≤ (k : Int) := by omega
      have hi1 : (k : Int) < (xpath.length : Int) := by omega
      clear hpp hmem
      by_cases he : p = noS
      · have hR := hbad (Or.inl he)
        subst hR
        have hem : p.toList.isEmpty = true := by rw [he, ByteArray.toList_eq]; rfl
        clear he hstep hbad HV
        go_wp2
        go_ret
        exact ⟨rfl, HW3.out.trans hxr⟩
      · have hem := ne_noS he
        cases hv : validS p with
        | false =>
          have hR := hbad (Or.inr hv)
          subst hR
          rw [hv] at HV
          clear he hstep hbad hv
          go_wp2_with (first | (go_at_call 47; (with_reducible refine Calls.mono (HV.out) ?_); rintro e w6 ⟨rfl, hx6⟩))
          go_ret
          exact ⟨rfl, (HW3.out.trans hxr).trans hx6⟩
        | true =>
          have HST := Lib.hid (hstep ⟨he, hv⟩)
          rw [hv] at HV
          clear he hstep hbad hv
          go_wp2_with (first | (go_at_call 47; (with_reducible refine Calls.mono (HV.out) ?_); rintro e w6 ⟨rfl, hx6⟩))
          go_roundw
          case rel => exact ⟨k + 1, hlt, by go_num, HST, hxr.trans hx6⟩
          case measure => simp [intOf]; omega
    · have hke : k = xpath.length := by omega
      subst hke
      rw [List.take_of_length_le (Nat.le_refl _)] at hinv
      have hok := okP_true hinv.out
      have hR2 : (if okL okE ordE xents = true then 0 else 22) = R := by rw [← HR.out, hok, Bool.true_and]
      have HR2 := Lib.hid hR2
      clear hok hR2 HR hinv HX0 HS
      obtain ⟨wA, hwA⟩ : ∃ wA : World, wA = wr := ⟨_, rfl⟩
      subst hwA
      go_wp2
      clear bx0 bx5
      go_loopw [4] (fun i wr => ∃ k : Nat, k ≤ xents.length ∧ i = .int .i64 k ∧ Hid (∀ j, j < k → okAt okE ordE xents j = true) ∧ Ext w3 wr) (fun i _ => xents.length - (intOf i).toNat)
      case atStart => exact ⟨0, Nat.zero_le _, rfl, Lib.hid (fun j h => by omega), hxr⟩
      case round =>
        obtain ⟨k, hk, rfl, hinv, hxq⟩ := hrel
        obtain ⟨_, bx5⟩ := hbox.out wr hxq
        by_cases hlt : k < xents.length
        · have hX : REnts wr (.slice xB xents.length xd) xents := HX1.out.ext (HW3.out.trans hxq)
          obtain ⟨ad, c1, e1, hax⟩ := hX.at hlt
          injection e1 with e1 e1' e1''
          subst e1
          clear e1' e1'' hX
          have HIFF := Lib.hid (okAt_iff (ok := okE) (O := ordE) hlt)
          have hEk := HEK.out _ (List.getElem_mem hlt)
          have HBAD : Hid (okAt okE ordE xents k = false → R = 22) := Lib.hid fun h => by rw [← HR2.out, okL_false hlt h]; rfl
          obtain ⟨E, hE, hax, hEk⟩ : ∃ E, xents[k] = E ∧ AtEnt wr (ad.add (k * 5)) E ∧ eokS E := ⟨_, rfl, hax, hEk⟩
          have HE := Lib.hid hE
          have HLT := Lib.hid hlt
          have HCE := Lib.hid (fun w' => refCheckE_any E w' hEk)
          have HAX := Lib.hid hax
          have hi0' : (0 : Int) ≤ (k : Int) := by omega
          have hi1 : (k : Int) < (xents.length : Int) := by omega
          have B5 : ∀ d : Aft wr, d.w.cell? ⟨w.heap.size, 5, none⟩ = some (.slice (some ad) xents.length xd) := Aft.cell bx5
          clear hE hEk
          have A0 : ∀ d : Aft wr, d.w.cell? (ad.add (k * 5)) = some (.string E.id) := Aft.cell hax.c0
          have A1 : ∀ d : Aft wr, d.w.cell? ⟨(ad.add (k * 5)).block, (ad.add (k * 5)).off + 1, none⟩ = some (.string E.title) := Aft.cell hax.c1
          have A2 : ∀ d : Aft wr, d.w.cell? ⟨(ad.add (k * 5)).block, (ad.add (k * 5)).off + 2, none⟩ = some (.string E.link) := Aft.cell hax.c2
          have A3 : ∀ d : Aft wr, d.w.cell? ⟨(ad.add (k * 5)).block, (ad.add (k * 5)).off + 3, none⟩ = some (.string E.content) := Aft.cell hax.c3
          have A4 : ∀ d : Aft wr, d.w.cell? ⟨(ad.add (k * 5)).block, (ad.add (k * 5)).off + 4, none⟩ = some (.int .i64 E.upd) := Aft.cell hax.c4
          clear hax
          cases hok : okE E with
          | false =>
            have hR := HBAD.out (by
              rw [Bool.eq_false_iff]
              intro h
              have h1 := ((HIFF.out).1 h).1
              rw [HE.out, hok] at h1
              cases h1)
            subst hR
            rw [hok] at HCE
            clear hok
            unfold eCells at HCE
            simp only [Bool.false_eq_true, if_false] at HCE
            go_wp2
            refine wp_region_aft (by kernel_rfl) (by kernel_rfl) ?_
            repeat (first | go_big_quiet_step ((first | (go_at_call 19; with_reducible exact quiet_call (HCE.out _)))) | quiet_step ((first | (go_at_call 19; with_reducible exact quiet_call (HCE.out _)))))
            refine wpQuiet_nil ?_
            rintro _ ⟨d1, rfl⟩
            go_wp2
            go_ret
            exact ⟨rfl, HW3.out.trans (hxq.trans d1.ext)⟩
          | true =>
            have HOK := Lib.hid hok
            rw [hok] at HCE
            clear hok
            unfold eCells at HCE
            simp only [if_true] at HCE
            rcases Nat.eq_zero_or_pos k with h0 | hpos
            · subst h0
              have HPREV : Hid (∀ h : 0 < 0, ordE.lt (xents[0 - 1]'(by have := HLT.out; omega)) (xents[0]'HLT.out) = true) := Lib.hid (fun h => by omega)
              simp only [add_zero, Nat.zero_mul] at A0 A1 A2 A3 A4
              go_wp2
              refine wp_region_aft (by kernel_rfl) (by kernel_rfl) ?_
              repeat (first | go_big_quiet_step ((first | (go_at_call 19; with_reducible exact quiet_call (HCE.out _)))) | quiet_step ((first | (go_at_call 19; with_reducible exact quiet_call (HCE.out _)))))
              refine wpQuiet_nil ?_
              rintro _ ⟨d1, rfl⟩
              have hww := hxq.trans d1.ext
              go_wp2
              go_loopw [5] (fun i wr => ∃ j : Nat, j ≤ 0 ∧ i = .int .i64 j ∧ Hid (∀ t (h : t < xents.length), t < j → xents[t].id ≠ E.id) ∧ Ext d1.w wr) (fun i _ => 0 - (intOf i).toNat)
              case atStart => exact ⟨0, Nat.zero_le _, rfl, Lib.hid (fun t _ h => by omega), Ext.refl _⟩
              case round =>
                obtain ⟨j, hj, rfl, hjn, hxj⟩ := hrel
                obtain ⟨_, bj5⟩ := hbox.out wr (hww.trans hxj)
                have hlt' := HLT.out
                by_cases hjk : j < 0
                · exact absurd hjk (Nat.not_lt_zero _)
                · have hje : j = 0 := by omega
                  subst hje
                  have hgood : okAt okE ordE xents 0 = true := by
                    refine (HIFF.out).2 ⟨by rw [HE.out]; exact HOK.out, HPREV.out, fun t ht => ?_⟩
                    rw [HE.out]
                    exact hjn.out t (by omega) ht
                  have HG := Lib.hid hgood
                  clear hgood hlt'
                  go_wp2
                  go_roundw
                  case rel => exact ⟨0 + 1, HLT.out, by go_num, Lib.hid (fun t ht => by
                    by_cases e : t = 0
                    · rw [e]; exact HG.out
                    · exact hinv.out t (by omega)), hww.trans hxj⟩
                  case measure => simp [intOf]; have := HLT.out; omega
            · obtain ⟨q, hq⟩ : ∃ q, k = q + 1 := ⟨k - 1, by omega⟩
              have hql : q < xents.length := by have := HLT.out; omega
              have hX : REnts wr (.slice (some ad) xents.length xd) xents := HX1.out.ext (HW3.out.trans hxq)
              obtain ⟨af, c3, e3, haq⟩ := hX.at hql
              injection e3 with e3 e3' e3''
              injection e3 with e3
              subst e3
              clear e3' e3'' hX
              have hlt2 : ordE.lt xents[q] E = decide (entCmp xents[q] E < 0) := rfl
              have HPE : Hid (xents[k - 1]'(Nat.lt_of_le_of_lt (Nat.sub_le _ _) HLT.out) = xents[q]) := Lib.hid (by subst hq; rfl)
              have HCM := Lib.hid (fun w' => refCmpE_any xents[q] E w')
              obtain ⟨F, haq, hlt2, HPE, HCM⟩ : ∃ F, AtEnt wr (ad.add (q * 5)) F ∧ (ordE.lt F E = decide (entCmp F E < 0)) ∧ Hid (xents[k - 1]'(Nat.lt_of_le_of_lt (Nat.sub_le _ _) HLT.out) = F) ∧ Hid (∀ w', Calls Tryz.prog 55 #[.agg (eCells F).toArray, .agg (eCells E).toArray] w' fun e w'' => e = .returned (.int .i64 (entCmp F E)) ∧ Ext w' w'') := ⟨_, haq, hlt2, HPE, HCM⟩
              have C0 : ∀ d : Aft wr, d.w.cell? (ad.add (q * 5)) = some (.string F.id) := Aft.cell haq.c0
              have C1 : ∀ d : Aft wr, d.w.cell? ⟨(ad.add (q * 5)).block, (ad.add (q * 5)).off + 1, none⟩ = some (.string F.title) := Aft.cell haq.c1
              have C2 : ∀ d : Aft wr, d.w.cell? ⟨(ad.add (q * 5)).block, (ad.add (q * 5)).off + 2, none⟩ = some (.string F.link) := Aft.cell haq.c2
              have C3 : ∀ d : Aft wr, d.w.cell? ⟨(ad.add (q * 5)).block, (ad.add (q * 5)).off + 3, none⟩ = some (.string F.content) := Aft.cell haq.c3
              have C4 : ∀ d : Aft wr, d.w.cell? ⟨(ad.add (q * 5)).block, (ad.add (q * 5)).off + 4, none⟩ = some (.int .i64 F.upd) := Aft.cell haq.c4
              clear haq
              obtain ⟨c, hc⟩ : ∃ c, entCmp F E = c := ⟨_, rfl⟩
              rw [hc] at hlt2 HCM
              have hk0 : (0 : Int) < (k : Int) := by omega
              have hks : wrap64 ((k : Int) - 1) = (q : Int) := by rw [wrap_ok _ ⟨by omega, by omega⟩]; omega
              have hkq : (k : Int) - 1 = (q : Int) := by omega
              have hq0 : (0 : Int) ≤ (q : Int) := by omega
              have hq1 : (q : Int) < (xents.length : Int) := by omega
              unfold eCells at HCM
              by_cases hneg : c < 0
              · have HPREV : Hid (∀ h : 0 < k, ordE.lt (xents[k - 1]'(Nat.lt_of_le_of_lt (Nat.sub_le _ _) HLT.out)) (xents[k]'HLT.out) = true) := Lib.hid (fun h => by rw [HPE.out, HE.out, hlt2]; exact decide_eq_true hneg)
                have hge : ¬ (0 : Int) ≤ c := by omega
                clear hlt2 hc hq HPE
                go_wp2
                refine wp_region_aft (by kernel_rfl) (by kernel_rfl) ?_
                repeat (first | go_big_quiet_step ((first | (go_at_call 19; with_reducible exact quiet_call (HCE.out _)) | (go_at_call 55; with_reducible exact quiet_call (HCM.out _)))) | quiet_step ((first | (go_at_call 19; with_reducible exact quiet_call (HCE.out _)) | (go_at_call 55; with_reducible exact quiet_call (HCM.out _)))))
                refine wpQuiet_nil ?_
                rintro _ ⟨d1, rfl⟩
                have hww := hxq.trans d1.ext
                go_wp2
                go_loopw [5] (fun i wr => ∃ j : Nat, j ≤ k ∧ i = .int .i64 j ∧ Hid (∀ t (h : t < xents.length), t < j → xents[t].id ≠ E.id) ∧ Ext d1.w wr) (fun i _ => k - (intOf i).toNat)
                case atStart => exact ⟨0, Nat.zero_le _, rfl, Lib.hid (fun t _ h => by omega), Ext.refl _⟩
                case round =>
                  obtain ⟨j, hj, rfl, hjn, hxj⟩ := hrel
                  obtain ⟨_, bj5⟩ := hbox.out wr (hww.trans hxj)
                  have hlt' := HLT.out
                  by_cases hjk : j < k
                  · have hjl : j < xents.length := by omega
                    have hX : REnts wr (.slice (some ad) xents.length xd) xents := HX1.out.ext (HW3.out.trans (hww.trans hxj))
                    obtain ⟨ae, c2, e2, haj⟩ := hX.at hjl
                    injection e2 with e2 e2' e2''
                    injection e2 with e2
                    subst e2
                    clear e2' e2'' hX
                    have hstep : xents[j].id ≠ E.id → ∀ t (h : t < xents.length), t < j + 1 → xents[t].id ≠ E.id := fun hne t h ht => by
                      by_cases e : t = j
                      · subst e; exact hne
                      · exact hjn.out t h (by omega)
                    have hbad2 : xents[j].id = E.id → R = 22 := fun e => by
                      refine HBAD.out ?_
                      rw [Bool.eq_false_iff]
                      intro h
                      exact ((HIFF.out).1 h).2.2 j hjk (by rw [HE.out]; exact e)
                    have q0 := haj.c0
                    have p0 := (HAX.out.ext (d1.ext.trans hxj)).c0
                    obtain ⟨y, hyy⟩ : ∃ y, xents[j].id = y := ⟨_, rfl⟩
                    rw [hyy] at hstep hbad2 q0
                    obtain ⟨z, hzz⟩ : ∃ z, E.id = z := ⟨_, rfl⟩
                    simp only [hzz] at hstep hbad2 p0 hjn ⊢
                    have HZ := Lib.hid hzz
                    clear hzz haj
                    have B5 : ∀ d : Aft wr, d.w.cell? ⟨w.heap.size, 5, none⟩ = some (.slice (some ad) xents.length xd) := Aft.cell bj5
                    have Q0 : ∀ d : Aft wr, d.w.cell? (ad.add (j * 5)) = some (.string y) := Aft.cell q0
                    have P0 : ∀ d : Aft wr, d.w.cell? (ad.add (k * 5)) = some (.string z) := Aft.cell p0
                    have j0 : (0 : Int) ≤ (j : Int) := by omega
                    have j1 : (j : Int) < (xents.length : Int) := by omega
                    have j2 : (j : Int) < (k : Int) := by omega
                    clear q0 p0 hlt'
                    cases hyz : (y.toList == z.toList) with
                    | true =>
                      have hR := hbad2 (toList_inj (by simpa using hyz))
                      subst hR
                      clear hbad2 hstep
                      go_wp2
                      refine wp_region_aft (by kernel_rfl) (by kernel_rfl) ?_
                      repeat (first | go_big_quiet_step (fail) | quiet_step (fail))
                      refine wpQuiet_nil ?_
                      rintro _ ⟨d2, rfl⟩
                      go_wp2
                      go_ret
                      exact ⟨rfl, HW3.out.trans ((hww.trans hxj).trans d2.ext)⟩
                    | false =>
                      have HST := Lib.hid (hstep (fun e => by rw [e] at hyz; simp at hyz))
                      clear hbad2 hstep
                      go_wp2
                      refine wp_region_aft (by kernel_rfl) (by kernel_rfl) ?_
                      repeat (first | go_big_quiet_step (fail) | quiet_step (fail))
                      refine wpQuiet_nil ?_
                      rintro _ ⟨d2, rfl⟩
                      go_wp2
                      go_roundw
                      case rel => exact ⟨j + 1, by omega, by go_num, HST, hxj.trans d2.ext⟩
                      case measure => simp [intOf]; omega
                  · have hje : j = k := by omega
                    subst hje
                    have hgood : okAt okE ordE xents j = true := by
                      refine (HIFF.out).2 ⟨by rw [HE.out]; exact HOK.out, HPREV.out, fun t ht => ?_⟩
                      rw [HE.out]
                      exact hjn.out t (by omega) ht
                    have HG := Lib.hid hgood
                    clear hgood hlt'
                    go_wp2
                    go_roundw
                    case rel => exact ⟨j + 1, HLT.out, by go_num, Lib.hid (fun t ht => by
                      by_cases e : t = j
                      · rw [e]; exact HG.out
                      · exact hinv.out t (by omega)), hww.trans hxj⟩
                    case measure => simp [intOf]; have := HLT.out; omega
              · have hR := HBAD.out (by
                  rw [Bool.eq_false_iff]
                  intro h
                  have h1 := ((HIFF.out).1 h).2.1 hpos
                  rw [HPE.out, HE.out, hlt2] at h1
                  exact hneg (of_decide_eq_true h1))
                subst hR
                have hge : (0 : Int) ≤ c := by omega
                clear hlt2 hc hq HPE
                go_wp2
                refine wp_region_aft (by kernel_rfl) (by kernel_rfl) ?_
                repeat (first | go_big_quiet_step ((first | (go_at_call 19; with_reducible exact quiet_call (HCE.out _)) | (go_at_call 55; with_reducible exact quiet_call (HCM.out _)))) | quiet_step ((first | (go_at_call 19; with_reducible exact quiet_call (HCE.out _)) | (go_at_call 55; with_reducible exact quiet_call (HCM.out _)))))
                refine wpQuiet_nil ?_
                rintro _ ⟨d1, rfl⟩
                go_wp2
                go_ret
                exact ⟨rfl, HW3.out.trans (hxq.trans d1.ext)⟩
        · have hke : k = xents.length := by omega
          subst hke
          have hR0 : R = 0 := by rw [← HR2.out, okL_true hinv.out]; rfl
          subst hR0
          go_wp2
          go_ret
          exact ⟨rfl, HW3.out.trans hxq⟩
theorem refCheckF_any (x : Fc) (w : World) (hr : RdC w x) (hk : fokS x.f) :
    Calls Tryz.prog 24 #[.agg (cellsC x).toArray] w fun e w' => e = .returned (.int .i64 (if okF x.f = true then 0 else 22)) ∧ Ext w w' := by
  have hF : okF x.f = (okH x.f && okL okE ordE x.f.ents) := rfl
  by_cases h0 : x.f.path.length ≤ 64
  case neg => rw [if_neg (by rw [hF]; unfold okH; simp [h0])]; exact refCheckF_0 x w hr hk h0
  have nv : ∀ s, validS s = false → s ∈ [x.f.id, x.f.title, x.f.link] → okF x.f = false := fun s h hs => by
    rw [Bool.eq_false_iff]
    intro h'
    have := (okH_iff.1 (okF_iff.1 h').1).2.1 s (by unfold strsF; simp only [List.mem_append]; exact Or.inr hs)
    rw [h] at this
    cases this
  cases v0 : validS x.f.id with
  | false => rw [if_neg (by rw [nv _ v0 (by simp)]; simp)]; exact refCheckF_1 x w hr hk h0 v0
  | true =>
  cases v1 : validS x.f.title with
  | false => rw [if_neg (by rw [nv _ v1 (by simp)]; simp)]; exact refCheckF_2 x w hr hk h0 v0 v1
  | true =>
  cases v2 : validS x.f.link with
  | false => rw [if_neg (by rw [nv _ v2 (by simp)]; simp)]; exact refCheckF_3 x w hr hk h0 v0 v1 v2
  | true =>
  by_cases h4 : x.f.id = noS
  · rw [if_neg (fun h' => (okH_iff.1 (okF_iff.1 h').1).2.2.1 h4)]
    exact refCheckF_4 x w hr hk h0 v0 v1 v2 (by rw [h4, ByteArray.toList_eq]; rfl)
  cases h5 : inT x.f.upd with
  | false =>
    rw [if_neg (fun h' => by have := (okH_iff.1 (okF_iff.1 h').1).2.2.2.1; rw [h5] at this; cases this)]
    exact refCheckF_5 x w hr hk h0 v0 v1 v2 (ne_noS h4) h5
  | true =>
    have e : (okF x.f = true) = ((okP x.f.path && okL okE ordE x.f.ents) = true) := by
      rw [hF]
      have : okH x.f = okP x.f.path := by
        rw [Bool.eq_iff_iff, okH_iff]
        unfold okP
        rw [List.all_eq_true]
        constructor
        · rintro ⟨_, a, _, _, b⟩ p hp
          simp [b p hp, a p (by unfold strsF; simp [hp])]
        · intro h
          have h' : ∀ p ∈ x.f.path, p ≠ noS ∧ validS p = true := fun p hp => by have := h p hp; simpa using this
          refine ⟨h0, fun s hs => ?_, h4, h5, fun p hp => (h' p hp).1⟩
          unfold strsF at hs
          rcases List.mem_append.1 hs with hs | hs
          · exact (h' s hs).2
          · simp only [List.mem_cons, List.mem_nil_iff, or_false] at hs
            rcases hs with rfl | rfl | rfl <;> assumption
      rw [this]
    rw [show (if okF x.f = true then (0 : Int) else 22) = (if (okP x.f.path && okL okE ordE x.f.ents) = true then 0 else 22) by simp only [e]]
    exact refCheckF_6 x w hr hk h0 v0 v1 v2 (ne_noS h4) h5
end Go.Proofs.YtgecijhgonfldaaGreatDoor
namespace Go.Proofs.YtgecijhgonfldaaGreatDoor
open Go Go.RowKit
set_option linter.unusedVariables false
theorem okLF_false {l : List Fd} {k : Nat} (hk : k < l.length) (h : okAt okF ordF l k = false) : okL okF ordF l = false := by
  rw [Bool.eq_false_iff]
  intro h'
  have := List.all_eq_true.1 h' k (List.mem_range.2 hk)
  rw [h] at this
  cases this
theorem okLF_true {l : List Fd} (h : ∀ k, k < l.length → okAt okF ordF l k = true) : okL okF ordF l = true :=
  List.all_eq_true.2 fun k hk => h k (List.mem_range.1 hk)
set_option maxRecDepth 100000 in
set_option maxHeartbeats 8000000 in
theorem refCheckA_any (v : Value) (l : List Fc) (w : World) (hr : RFcs w v l) (hrd : ∀ x ∈ l, RdC w x) (hk : ∀ x ∈ l, fokS x.f) (hn : l.length ≤ 1000000) :
    Calls Tryz.prog 28 #[.agg #[v]] w fun e w' => e = .returned (.int .i64 (if okA (l.map Fc.f) = true then 0 else 22)) ∧ Ext w w' := by
  obtain ⟨xB, xd, rfl, -, -⟩ := hr.form
  obtain ⟨R, hR⟩ : ∃ R : Int, (if okA (l.map Fc.f) = true then 0 else 22) = R := ⟨_, rfl⟩
  rw [hR]
  have HR2 := Lib.hid hR
  have HX1 := Lib.hid hr
  have HRD := Lib.hid hrd
  have HEK := Lib.hid hk
  obtain ⟨L, hL⟩ : ∃ L, l.map Fc.f = L := ⟨_, rfl⟩
  have hLl : L.length = l.length := by rw [← hL, List.length_map]
  have HLL := Lib.hid hLl
  have HLG : Hid (∀ (j : Nat) (h : j < l.length), L[j]'(by rw [hLl]; exact h) = l[j].f) := Lib.hid fun j h => by subst hL; rw [List.getElem_map]
  rw [hL] at HR2
  have hb0 : Hid (∀ wr : World, Ext (w.alloc (.cells #[.slice xB l.length xd] 46)) wr → wr.cell? ⟨w.heap.size, 0, none⟩ = some (.slice xB l.length xd)) := Lib.hid fun wr h => h.boxed 0 _ rfl
  have HW3 : Hid (Ext w (w.alloc (.cells #[.slice xB l.length xd] 46))) := Lib.hid ((Ext.refl _).alloc _)
  clear hr hrd hk hR hL
  go_enter Tryz.func28, Tryz.ntmps28
  go_wp2
  obtain ⟨w3, hw3⟩ : ∃ w3, w.alloc (.cells #[.slice xB l.length xd] 46) = w3 := ⟨_, rfl⟩
  rw [hw3] at hb0 HW3 ⊢
  have hbox := hb0
  clear hw3 hb0
  go_loopw [3] (fun i wr => ∃ k : Nat, k ≤ l.length ∧ i = .int .i64 k ∧ Hid (∀ j, j < k → okAt okF ordF L j = true) ∧ Ext w3 wr) (fun i _ => l.length - (intOf i).toNat)
  case atStart => exact ⟨0, Nat.zero_le _, rfl, Lib.hid (fun j h => by omega), Ext.refl _⟩
  case round =>
    obtain ⟨k, hk, rfl, hinv, hxq⟩ := hrel
    have bx5 := hbox.out wr hxq
    by_cases hlt : k < l.length
    · have hX := HX1.out.ext (HW3.out.trans hxq)
      obtain ⟨ad, c1, e1, hax⟩ := hX.at hlt
      injection e1 with e1 e1' e1''
      subst e1
      clear e1' e1'' hX
      have hltL : k < L.length := by rw [HLL.out]; exact hlt
      have HIFF := Lib.hid (okAt_iff (ok := okF) (O := ordF) hltL)
      have hEk := HEK.out _ (List.getElem_mem hlt)
      have hEr := (HRD.out _ (List.getElem_mem hlt)).ext (HW3.out.trans hxq)
      have HBAD : Hid (okAt okF ordF L k = false → R = 22) := Lib.hid fun h => by rw [← HR2.out]; unfold okA; rw [okLF_false hltL h]; rfl
      have hE0 := HLG.out k hlt
      obtain ⟨E, hE, hax, hEk, hEr, hE0⟩ : ∃ E, l[k] = E ∧ AtFc wr (ad.add (k * 6)) E ∧ fokS E.f ∧ RdC wr E ∧ L[k] = E.f := ⟨_, rfl, hax, hEk, hEr, hE0⟩
      have HE := Lib.hid hE0
      have HLT := Lib.hid hlt
      have HLTL := Lib.hid hltL
      have HCE := Lib.hid (fun z : Aft wr => refCheckF_any E z.w (hEr.ext z.ext) hEk)
      have HER := Lib.hid hEr
      have HSE := Lib.hid hEr.sl
      have HAX := Lib.hid hax
      have hi0' : (0 : Int) ≤ (k : Int) := by omega
      have hi1 : (k : Int) < (l.length : Int) := by omega
      have B5 : ∀ z : Aft wr, z.w.cell? ⟨w.heap.size, 0, none⟩ = some (.slice (some ad) l.length xd) := Aft.cell bx5
      clear hE hEk hE0 hEr
      obtain ⟨EP, EE, EF⟩ := E
      obtain ⟨⟨EA, EN, EC, hep⟩, ⟨EB, EM, ED, hee⟩⟩ := HSE.out
      dsimp only at hep hee
      subst hep hee
      obtain ⟨k0, k1, k2, k3, k4, k5⟩ := hax
      dsimp only at k0 k1 k2 k3 k4 k5
      have A0 := fun z : Aft wr => Aft.cell k0 z
      have A1 := fun z : Aft wr => Aft.cell k1 z
      have A2 := fun z : Aft wr => Aft.cell k2 z
      have A3 := fun z : Aft wr => Aft.cell k3 z
      have A4 := fun z : Aft wr => Aft.cell k4 z
      have A5 := fun z : Aft wr => Aft.cell k5 z
      clear k0 k1 k2 k3 k4 k5
      unfold cellsC fCells at HCE
      dsimp only at HCE HE HAX
      cases hok : okF EF with
      | false =>
        have hR := HBAD.out (by
          rw [Bool.eq_false_iff]
          intro h
          have h1 := ((HIFF.out).1 h).1
          rw [HE.out, hok] at h1
          cases h1)
        subst hR
        rw [hok] at HCE
        clear hok
        simp only [Bool.false_eq_true, if_false] at HCE
        go_wp2
        refine wp_region_aft (by kernel_rfl) (by kernel_rfl) ?_
        repeat (first | go_big_quiet_step ((first | (go_at_call 24; with_reducible exact quiet_call (HCE.out _)))) | quiet_step ((first | (go_at_call 24; with_reducible exact quiet_call (HCE.out _)))))
        refine wpQuiet_nil ?_
        rintro _ ⟨d1, rfl⟩
        go_wp2
        go_ret
        exact ⟨rfl, HW3.out.trans (hxq.trans d1.ext)⟩
      | true =>
        have HOK := Lib.hid hok
        rw [hok] at HCE
        clear hok
        simp only [if_true] at HCE
        rcases Nat.eq_zero_or_pos k with h0 | hpos
        · subst h0
          simp only [add_zero, Nat.zero_mul] at A0 A1 A2 A3 A4 A5
          go_wp2
          refine wp_region_aft (by kernel_rfl) (by kernel_rfl) ?_
          repeat (first | go_big_quiet_step ((first | (go_at_call 24; with_reducible exact quiet_call (HCE.out _)))) | quiet_step ((first | (go_at_call 24; with_reducible exact quiet_call (HCE.out _)))))
          refine wpQuiet_nil ?_
          rintro _ ⟨d1, rfl⟩
          have hww := hxq.trans d1.ext
          go_wp2
          go_loopw [4] (fun i wr => ∃ j : Nat, j ≤ 0 ∧ i = .int .i64 j ∧ Ext d1.w wr) (fun i _ => 0 - (intOf i).toNat)
          case atStart => exact ⟨0, Nat.zero_le _, rfl, Ext.refl _⟩
          case round =>
            obtain ⟨j, hj, rfl, hxj⟩ := hrel
            have bj5 := hbox.out wr (hww.trans hxj)
            by_cases hjk : j < 0
            · exact absurd hjk (Nat.not_lt_zero _)
            · have hje : j = 0 := by omega
              subst hje
              have hgood : okAt okF ordF L 0 = true := (HIFF.out).2 ⟨by rw [HE.out]; exact HOK.out, fun h => absurd h (Nat.lt_irrefl _), fun t ht => absurd ht (Nat.not_lt_zero _)⟩
              have HG := Lib.hid hgood
              clear hgood
              go_wp2
              go_roundw
              case rel => exact ⟨0 + 1, HLT.out, by go_num, Lib.hid (fun t ht => by
                by_cases e : t = 0
                · rw [e]; exact HG.out
                · exact hinv.out t (by omega)), hww.trans hxj⟩
              case measure => simp [intOf]; have := HLT.out; omega
        · obtain ⟨q, hq⟩ : ∃ q, k = q + 1 := ⟨k - 1, by omega⟩
          have hql : q < l.length := by have := HLT.out; omega
          have hqL : q < L.length := by rw [HLL.out]; exact hql
          have hX : RFcs wr (.slice (some ad) l.length xd) l := HX1.out.ext (HW3.out.trans hxq)
          obtain ⟨af, c3, e3, haq⟩ := hX.at hql
          injection e3 with e3 e3' e3''
          injection e3 with e3
          subst e3
          clear e3' e3'' hX
          have hQr := (HRD.out _ (List.getElem_mem hql)).ext (HW3.out.trans hxq)
          have hQk := HEK.out _ (List.getElem_mem hql)
          have hPE : ∀ h : k - 1 < L.length, L[k - 1] = l[q].f := fun h => by
            subst hq
            exact HLG.out q hql
          obtain ⟨F, haq, hQr, hQk, hPE⟩ : ∃ F : Fc, AtFc wr (ad.add (q * 6)) F ∧ RdC wr F ∧ fokS F.f ∧ (∀ h : k - 1 < L.length, L[k - 1] = F.f) := ⟨_, haq, hQr, hQk, hPE⟩
          have HPE := Lib.hid hPE
          have hlt2 : ordF.lt F.f EF = decide (feedCmp F.f EF < 0) := rfl
          have hee := HER.out.1
          dsimp only at hee
          have HCM := Lib.hid (fun z : Aft wr => refCmpF_any F.p (.slice EA EN EC) F.es (.slice EB EM ED) F.f EF z.w (hQr.1.ext z.ext) (hee.ext z.ext) (by have := hQk.1.2; omega))
          have hsF := hQr.sl
          obtain ⟨c, hc⟩ : ∃ c, feedCmp F.f EF = c := ⟨_, rfl⟩
          rw [hc] at hlt2
          simp only [hc] at HCM
          clear hQr hQk hPE hc hee
          obtain ⟨FP, FE, FF⟩ := F
          obtain ⟨⟨FA, FN, FC, hep⟩, ⟨FB, FM, FD, hee⟩⟩ := hsF
          dsimp only at hep hee
          subst hep hee
          obtain ⟨k0, k1, k2, k3, k4, k5⟩ := haq
          dsimp only at k0 k1 k2 k3 k4 k5 HCM hlt2 HPE
          have C0 := fun z : Aft wr => Aft.cell k0 z
          have C1 := fun z : Aft wr => Aft.cell k1 z
          have C2 := fun z : Aft wr => Aft.cell k2 z
          have C3 := fun z : Aft wr => Aft.cell k3 z
          have C4 := fun z : Aft wr => Aft.cell k4 z
          have C5 := fun z : Aft wr => Aft.cell k5 z
          clear k0 k1 k2 k3 k4 k5
          have hk0 : (0 : Int) < (k : Int) := by omega
          have hks : wrap64 ((k : Int) - 1) = (q : Int) := by rw [wrap_ok _ ⟨by omega, by omega⟩]; omega
          have hkq : (k : Int) - 1 = (q : Int) := by omega
          have hq0 : (0 : Int) ≤ (q : Int) := by omega
          have hq1 : (q : Int) < (l.length : Int) := by omega
          unfold fCells at HCM
          by_cases hneg : c < 0
          · have HPREV : Hid (∀ h : 0 < k, ordF.lt (L[k - 1]'(Nat.lt_of_le_of_lt (Nat.sub_le _ _) HLTL.out)) (L[k]'HLTL.out) = true) := Lib.hid (fun h => by rw [HPE.out (Nat.lt_of_le_of_lt (Nat.sub_le _ _) HLTL.out), HE.out, hlt2]; exact decide_eq_true hneg)
            have hge : ¬ (0 : Int) ≤ c := by omega
            clear hlt2 hq HPE
            go_wp2
            refine wp_region_aft (by kernel_rfl) (by kernel_rfl) ?_
            repeat (first | go_big_quiet_step ((first | (go_at_call 24; with_reducible exact quiet_call (HCE.out _)) | (go_at_call 63; with_reducible exact quiet_call (HCM.out _)))) | quiet_step ((first | (go_at_call 24; with_reducible exact quiet_call (HCE.out _)) | (go_at_call 63; with_reducible exact quiet_call (HCM.out _)))))
            refine wpQuiet_nil ?_
            rintro _ ⟨d1, rfl⟩
            have hww := hxq.trans d1.ext
            go_wp2
            go_loopw [4] (fun i wr => ∃ j : Nat, j ≤ k ∧ i = .int .i64 j ∧ Hid (∀ t (h : t < L.length), t < j → L[t].id ≠ EF.id) ∧ Ext d1.w wr) (fun i _ => k - (intOf i).toNat)
            case atStart => exact ⟨0, Nat.zero_le _, rfl, Lib.hid (fun t _ h => by omega), Ext.refl _⟩
            case round =>
              obtain ⟨j, hj, rfl, hjn, hxj⟩ := hrel
              have bj5 := hbox.out wr (hww.trans hxj)
              have hlt' := HLT.out
              by_cases hjk : j < k
              · have hjl : j < l.length := by omega
                have hjL : j < L.length := by rw [HLL.out]; exact hjl
                have hX : RFcs wr (.slice (some ad) l.length xd) l := HX1.out.ext (HW3.out.trans (hww.trans hxj))
                obtain ⟨ae, c2, e2, haj⟩ := hX.at hjl
                injection e2 with e2 e2' e2''
                injection e2 with e2
                subst e2
                clear e2' e2'' hX
                have hLj := HLG.out j hjl
                have hstep : L[j].id ≠ EF.id → ∀ t (h : t < L.length), t < j + 1 → L[t].id ≠ EF.id := fun hne t h ht => by
                  by_cases e : t = j
                  · subst e; exact hne
                  · exact hjn.out t h (by omega)
                have hbad2 : L[j].id = EF.id → R = 22 := fun e => by
                  refine HBAD.out ?_
                  rw [Bool.eq_false_iff]
                  intro h
                  exact ((HIFF.out).1 h).2.2 j hjk (by rw [HE.out]; exact e)
                rw [hLj] at hstep hbad2
                have q0 := haj.c1
                have p0 := (HAX.out.ext (d1.ext.trans hxj)).c1
                dsimp only at p0
                obtain ⟨y, hyy⟩ : ∃ y, l[j].f.id = y := ⟨_, rfl⟩
                rw [hyy] at hstep hbad2 q0
                obtain ⟨z, hzz⟩ : ∃ z, EF.id = z := ⟨_, rfl⟩
                simp only [hzz] at hstep hbad2 p0 hjn ⊢
                have HZ := Lib.hid hzz
                clear hzz haj hLj hjL
                have B5 : ∀ z : Aft wr, z.w.cell? ⟨w.heap.size, 0, none⟩ = some (.slice (some ad) l.length xd) := Aft.cell bj5
                have Q0 : ∀ z : Aft wr, z.w.cell? ⟨(ad.add (j * 6)).block, (ad.add (j * 6)).off + 1, none⟩ = some (.string y) := Aft.cell q0
                have P0 : ∀ u : Aft wr, u.w.cell? ⟨(ad.add (k * 6)).block, (ad.add (k * 6)).off + 1, none⟩ = some (.string z) := Aft.cell p0
                have j0 : (0 : Int) ≤ (j : Int) := by omega
                have j1 : (j : Int) < (l.length : Int) := by omega
                have j2 : (j : Int) < (k : Int) := by omega
                clear q0 p0 hlt'
                cases hyz : (y.toList == z.toList) with
                | true =>
                  have hR := hbad2 (toList_inj (by simpa using hyz))
                  subst hR
                  clear hbad2 hstep
                  go_wp2
                  refine wp_region_aft (by kernel_rfl) (by kernel_rfl) ?_
                  repeat (first | go_big_quiet_step (fail) | quiet_step (fail))
                  refine wpQuiet_nil ?_
                  rintro _ ⟨d2, rfl⟩
                  go_wp2
                  go_ret
                  exact ⟨rfl, HW3.out.trans ((hww.trans hxj).trans d2.ext)⟩
                | false =>
                  have HST := Lib.hid (hstep (fun e => by rw [e] at hyz; simp at hyz))
                  clear hbad2 hstep
                  go_wp2
                  refine wp_region_aft (by kernel_rfl) (by kernel_rfl) ?_
                  repeat (first | go_big_quiet_step (fail) | quiet_step (fail))
                  refine wpQuiet_nil ?_
                  rintro _ ⟨d2, rfl⟩
                  go_wp2
                  go_roundw
                  case rel => exact ⟨j + 1, by omega, by go_num, HST, hxj.trans d2.ext⟩
                  case measure => simp [intOf]; omega
              · have hje : j = k := by omega
                subst hje
                have hgood : okAt okF ordF L j = true := by
                  refine (HIFF.out).2 ⟨by rw [HE.out]; exact HOK.out, HPREV.out, fun t ht => ?_⟩
                  rw [HE.out]
                  exact hjn.out t (by have := HLTL.out; omega) ht
                have HG := Lib.hid hgood
                clear hgood hlt'
                go_wp2
                go_roundw
                case rel => exact ⟨j + 1, HLT.out, by go_num, Lib.hid (fun t ht => by
                  by_cases e : t = j
                  · rw [e]; exact HG.out
                  · exact hinv.out t (by omega)), hww.trans hxj⟩
                case measure => simp [intOf]; have := HLT.out; omega
          · have hR := HBAD.out (by
              rw [Bool.eq_false_iff]
              intro h
              have h1 := ((HIFF.out).1 h).2.1 hpos
              rw [HPE.out (Nat.lt_of_le_of_lt (Nat.sub_le _ _) HLTL.out), HE.out, hlt2] at h1
              exact hneg (of_decide_eq_true h1))
            subst hR
            have hge : (0 : Int) ≤ c := by omega
            clear hlt2 hq HPE
            go_wp2
            refine wp_region_aft (by kernel_rfl) (by kernel_rfl) ?_
            repeat (first | go_big_quiet_step ((first | (go_at_call 24; with_reducible exact quiet_call (HCE.out _)) | (go_at_call 63; with_reducible exact quiet_call (HCM.out _)))) | quiet_step ((first | (go_at_call 24; with_reducible exact quiet_call (HCE.out _)) | (go_at_call 63; with_reducible exact quiet_call (HCM.out _)))))
            refine wpQuiet_nil ?_
            rintro _ ⟨d1, rfl⟩
            go_wp2
            go_ret
            exact ⟨rfl, HW3.out.trans (hxq.trans d1.ext)⟩
    · have hke : k = l.length := by omega
      subst hke
      have hR0 : R = 0 := by
        rw [← HR2.out]
        unfold okA
        rw [okLF_true (fun j hj => hinv.out j (by rw [← HLL.out]; exact hj))]
        rfl
      subst hR0
      go_wp2
      go_ret
      exact ⟨rfl, HW3.out.trans hxq⟩
end Go.Proofs.YtgecijhgonfldaaGreatDoor
