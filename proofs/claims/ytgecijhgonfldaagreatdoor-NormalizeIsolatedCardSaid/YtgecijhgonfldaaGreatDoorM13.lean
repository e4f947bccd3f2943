/- YtgecijhgonfldaaGreatDoor: texts Mod1, Cmp1, put one behind the other. -/
import Derived.Deep.RegionHeld3
import Derived.Deep.DrawnRows
import Derived.Lib.ItoaLen
import Derived.Test.YtgecijhgonfldaaGreatDoorM11
import Derived.Test.YtgecijhgonfldaaGreatDoorM12
/- Contracts: model.EntryKey. -/
namespace Go.Proofs.YtgecijhgonfldaaGreatDoor
open Go Go.RowKit
set_option linter.unusedVariables false

/-- within the sizes that the walks ask for -/
def eok (e : Ent) : Prop := i64ok e.upd ∧ e.id.size + e.title.size + e.link.size + e.content.size ≤ 16777216

theorem entJ_ok (e : Ent) (h : eok e) : jok (entJ e) := by
  obtain ⟨h1, h2⟩ := h
  unfold entJ
  rw [jok_arr]
  intro j hj
  simp only [List.mem_cons, List.mem_nil_iff, or_false] at hj
  rcases hj with rfl | rfl | rfl | rfl | rfl <;> simp only [jok]
  · omega
  · omega
  · omega
  · omega
  · exact h1
theorem entJ_len (e : Ent) (h : eok e) : (jtext (entJ e)).length ≤ 140737488355328 := by
  obtain ⟨h1, h2⟩ := h
  unfold entJ
  rw [jtext_arr]
  have a := quoteL_len e.id.data.toList
  have b := quoteL_len e.title.data.toList
  have c := quoteL_len e.link.data.toList
  have d := quoteL_len e.content.data.toList
  have f := Lib.itoa_length_le e.upd h1.1 h1.2
  rw [data_len] at a b c d
  simp only [List.map_cons, List.map_nil, jtext_str, jtext_int, commas, List.length_cons, List.length_append, List.length_nil]
  omega

attribute [local go_sem ↓] Go.wp_at_zero Go.wp_at_succ
set_option maxRecDepth 100000 in
set_option maxHeartbeats 1000000 in
theorem entryKey_any (e : Ent) (w : World) (hE : Env w) (hok : eok e) :
    Calls Tryz.prog 107 #[.agg (eCells e).toArray] w fun x w' => x = .returned (.string (entryKey e)) ∧ Ext w w' := by
  obtain ⟨id, title, link, content, upd⟩ := e
  obtain ⟨i0, hi0, hz0, hz1, hz2⟩ := info_parts_val
  have hsz : (w.alloc (.cells (eCells ⟨id, title, link, content, upd⟩).toArray 23)).heap.size = w.heap.size + 1 := by show (w.heap.push _).size = _; simp
  have hR : RSl (((w.alloc (.cells (eCells ⟨id, title, link, content, upd⟩).toArray 23)).alloc (.cells #[Value.string id, Value.string title, Value.string link, Value.string content] 9)).drew) 1 (.slice (some ⟨w.heap.size + 1, 0, none⟩) 4 4) 4 [Value.string id, .string title, .string link, .string content] := by
    have := RSl.ext (rsl_new (w := w.alloc (.cells (eCells ⟨id, title, link, content, upd⟩).toArray 23)) (size := 1) (n := 4) (e := 9) (cs := [Value.string id, .string title, .string link, .string content]) rfl (by decide)) (Ext.refl _).drew
    rw [hsz] at this
    exact this
  have hsz2 : (((w.alloc (.cells (eCells ⟨id, title, link, content, upd⟩).toArray 23)).alloc (.cells #[Value.string id, Value.string title, Value.string link, Value.string content] 9)).drew).heap.size = w.heap.size + 2 := by show ((w.heap.push _).push _).size = _; simp
  obtain ⟨X, hX⟩ : ∃ X, ([id, title, link, content].map strCells).flatten = X := ⟨_, rfl⟩
  have hcall : Calls Tryz.prog 111 #[.slice (some ⟨w.heap.size + 1, 0, none⟩) 4 4] (((w.alloc (.cells (eCells ⟨id, title, link, content, upd⟩).toArray 23)).alloc (.cells #[Value.string id, Value.string title, Value.string link, Value.string content] 9)).drew) fun e w' => ∃ v', e = .returned v' ∧ w'.ownsRow (w.heap.size + 2) 146 7 v' 4 X ∧ Ext (((w.alloc (.cells (eCells ⟨id, title, link, content, upd⟩).toArray 23)).alloc (.cells #[Value.string id, Value.string title, Value.string link, Value.string content] 9)).drew) w' := by
    have := stringValues_any (.slice (some ⟨w.heap.size + 1, 0, none⟩) 4 4) [id, title, link, content] _ hR (by show 4 * 96 ≤ 1407374883553; decide)
    rw [hsz2, hX] at this
    exact this
  have HS := Lib.hid hcall
  clear hcall hsz
  have hfl : X ++ intCells upd = ([strCells id, strCells title, strCells link, strCells content, intCells upd] : List (List Value)).flatten := by rw [← hX]; simp
  have hrvs : ∀ w' v, w'.ownsRow (w.heap.size + 2) 146 7 v (4 + 1) (X ++ intCells upd) → RVs w' v [.str id, .str title, .str link, .str content, .int upd] [strCells id, strCells title, strCells link, strCells content, intCells upd] := by
    intro w' v hown
    rw [hfl] at hown
    refine ⟨rfl, RSl.of_own hown, 1, fun i j c hj hc => ?_⟩
    match i with
    | 0 | 1 | 2 | 3 => simp at hj hc; subst hj hc; exact strCells_rvn _ _
    | 4 => simp at hj hc; subst hj hc; exact intCells_rvn _ _
    | i + 5 => simp at hj
  have HRVS := Lib.hid hrvs
  clear hrvs hfl hX
  have hjw := fun w' cs h => jwrite_any (entJ ⟨id, title, link, content, upd⟩) cs w' h
  have hokJ : jok (entJ ⟨id, title, link, content, upd⟩) := entJ_ok _ hok
  have hlenJ : (jtext (entJ ⟨id, title, link, content, upd⟩)).length ≤ 140737488355328 := entJ_len _ hok
  have HJW := Lib.hid (fun w' cs h hE' => hjw w' cs h hokJ hE' hlenJ)
  clear hjw hokJ hlenJ
  have HR := Lib.hid hR
  clear hR
  unfold eCells at *
  go_enter Tryz.func107, Tryz.ntmps107
  go_wp2
  go_region_held3 (fun w' => Ext w w' ∧ w'.cell? ⟨w.heap.size, 0, none⟩ = some (.string id) ∧ w'.cell? ⟨w.heap.size, 1, none⟩ = some (.string title) ∧ w'.cell? ⟨w.heap.size, 2, none⟩ = some (.string link) ∧ w'.cell? ⟨w.heap.size, 3, none⟩ = some (.string content) ∧ w'.cell? ⟨w.heap.size, 4, none⟩ = some (.int .i64 upd))
    ((go_split_ands; refine ⟨?_, ?_, ?_, ?_, ?_, ?_⟩ <;> first | assumption | ((repeat (first | exact Ext.refl _ | assumption | apply Ext.drew | apply Ext.alloc)); done) | ((refine Ext.trans ?_ (by assumption)); (repeat (first | exact Ext.refl _ | assumption | apply Ext.drew | apply Ext.alloc)); done) | ((refine Ext.cell (by assumption) ?_); first | assumption | (go_keep; done)) | (go_keep; done)))
    (first
      | (go_at_call 111; refine HS.out.mono ?_; rintro e w1 ⟨v1, rfl, hown1, hx1⟩)
      | (go_at_call 113; refine (jInt_any _ _).mono ?_; rintro e w2 ⟨he, hx2⟩; (replace he : e = .returned (.agg #[.int .i64 2, .bool false, .int .i64 upd, .string ⟨#[]⟩, .slice none 0 0, .slice none 0 0, .int .i64 0]) := he); subst he)
      | (refine step_append_rsl _ (by rfl) (.tmp 15) (.tmp 19) _ (by rfl) (w.heap.size + 2) 146 i0 _ 7 96 Tryz.underlying143 hi0 hz0 hz1 hz2 rfl (by decide) v1 4 X (by rfl) (own_ext hown1 (by repeat (first | exact hx2 | apply Ext.drew | apply Ext.alloc))) _ 1 (intCells upd) (by rfl) (RSl.ext (rsl_new rfl (by decide)) (by repeat (first | exact Ext.refl _ | apply Ext.drew))) vcells_one (by decide) (by decide) (Nat.le_trans (Nat.le_of_eq hsz2.symm) (hx1.trans (by repeat (first | exact hx2 | apply Ext.drew | apply Ext.alloc))).size) ?_; intro v2 w3 hown3 hg3 hat3; have hxa := Ext.app (hx1.trans (by repeat (first | exact hx2 | apply Ext.drew | apply Ext.alloc))) hg3 (own_ext hown1 (by repeat (first | exact hx2 | apply Ext.drew | apply Ext.alloc))) (Nat.le_of_eq hsz2); have hxw3 : Ext w w3 := (((Ext.refl w).alloc _).alloc _).drew.trans hxa; have hxb := hxa; clear hxa hg3 hat3)
      | (go_at_call 110; refine (jArray_any _ _ _ _ (HRVS.out _ _ hown3) (by show 5 * 96 ≤ 140737488355328; decide)).mono ?_; rintro e w4 ⟨cs4, rfl, hrv4, hx4⟩)
      | (go_at_call 112; refine (HJW.out _ _ hrv4 (hE.ext (hxw3.trans hx4))).mono ?_; rintro e w5 ⟨rfl, hx5⟩))
  go_wp2
  go_ret
  exact ⟨rfl, hxw3.trans (hx4.trans hx5)⟩
end Go.Proofs.YtgecijhgonfldaaGreatDoor
/- Contracts: cmp.Compare, cmp.Or, model.CompareEntries. -/
namespace Go.Proofs.YtgecijhgonfldaaGreatDoor
open Go Go.RowKit
set_option linter.unusedVariables false

theorem cmpInt_any (x y : Int) (w : World) :
    Calls Tryz.prog 109 #[.int .i64 x, .int .i64 y] w fun e w' => e = .returned (.int .i64 (if x < y then -1 else if y < x then 1 else 0)) ∧ w' = w := by
  go_enter Tryz.func109, Tryz.ntmps109
  go_wp2
  all_goals go_ret
  all_goals exact ⟨by simp_all, rfl⟩
theorem cmpStr_any (x y : ByteArray) (w : World) :
    Calls Tryz.prog 91 #[.string x, .string y] w fun e w' => e = .returned (.int .i64 (sCmp x y)) ∧ w' = w := by
  unfold sCmp
  go_enter Tryz.func91, Tryz.ntmps91
  go_wp2
  all_goals go_ret
  all_goals exact ⟨by simp_all, rfl⟩
theorem cmpOr_any (x y : Int) (v : Value) (w : World) (h : RSl w 1 v 2 [.int .i64 x, .int .i64 y]) :
    Calls Tryz.prog 89 #[v] w fun e w' => e = .returned (.int .i64 (if x = 0 then y else x)) ∧ w' = w := by
  obtain ⟨_, A, c, rfl, hmc, hcm, _, _⟩ := id h
  obtain ⟨ad, rfl, h0⟩ := h.at1 0 _ rfl
  obtain ⟨ad', h', h1⟩ := h.at1 1 _ rfl
  cases h'
  rw [add_zero] at h0
  have h1' : w.cell? ⟨ad.block, ad.off + 1, none⟩ = some (.int .i64 y) := h1
  clear h1
  by_cases hx : x = 0
  · subst hx
    have hfin : (if (0 : Int) = 0 then y else 0) = y := rfl
    rw [hfin]
    by_cases hy : y = 0
    · subst hy
      go_enter Tryz.func89, Tryz.ntmps89
      go_wp2
      refine wp_loop_rounds 3 ?_
      rw [rounds_succ]
      go_wp2
      rw [rounds_succ]
      go_wp2
      rw [rounds_succ]
      go_wp2
      all_goals go_ret
      all_goals exact ⟨rfl, rfl⟩
    · have hy0 : (y == 0) = false := by simpa using hy
      go_enter Tryz.func89, Tryz.ntmps89
      go_wp2
      refine wp_loop_rounds 2 ?_
      rw [rounds_succ]
      go_wp2
      rw [rounds_succ]
      go_wp2
      all_goals go_ret
      all_goals exact ⟨rfl, rfl⟩
  · have hx0 : (x == 0) = false := by simpa using hx
    rw [if_neg hx]
    go_enter Tryz.func89, Tryz.ntmps89
    go_wp2
    refine wp_loop_rounds 1 ?_
    rw [rounds_succ]
    go_wp2
    all_goals go_ret
    all_goals exact ⟨rfl, rfl⟩

attribute [local go_sem ↓] Go.wp_at_zero Go.wp_at_succ
set_option maxRecDepth 100000 in
set_option maxHeartbeats 1000000 in
theorem compareEntries_any (a b : Ent) (w : World) :
    Calls Tryz.prog 82 #[.agg (eCells a).toArray, .agg (eCells b).toArray] w fun x w' => x = .returned (.int .i64 (entCmp a b)) ∧ Ext w w' := by
  obtain ⟨aid, atitle, alink, acontent, aupd⟩ := a
  obtain ⟨bid, btitle, blink, bcontent, bupd⟩ := b
  unfold entCmp
  obtain ⟨ci, hci⟩ : ∃ ci, iCmp bupd aupd = ci := ⟨_, rfl⟩
  obtain ⟨cs, hcs⟩ : ∃ cs, sCmp aid bid = cs := ⟨_, rfl⟩
  simp only [hci, hcs]
  have HI := Lib.hid (fun w' => cmpInt_any bupd aupd w')
  have HS := Lib.hid (fun w' => cmpStr_any aid bid w')
  rw [hcs] at HS
  rw [show (if bupd < aupd then (-1 : Int) else if aupd < bupd then 1 else 0) = ci from hci] at HI
  have HO := Lib.hid (fun v w' h => cmpOr_any ci cs v w' h)
  obtain ⟨res, hres⟩ : ∃ res, (if ci = 0 then cs else ci) = res := ⟨_, rfl⟩
  rw [hres] at HO
  rw [hres]
  clear hci hcs hres
  unfold eCells
  go_enter Tryz.func82, Tryz.ntmps82
  go_wp2
  go_region_held3 (fun w' => Ext w w' ∧ w'.cell? ⟨w.heap.size, 0, none⟩ = some (.string aid) ∧ w'.cell? ⟨w.heap.size, 4, none⟩ = some (.int .i64 aupd) ∧ w'.cell? ⟨w.heap.size + 1, 0, none⟩ = some (.string bid) ∧ w'.cell? ⟨w.heap.size + 1, 4, none⟩ = some (.int .i64 bupd))
    ((go_split_ands; refine ⟨?_, ?_, ?_, ?_, ?_⟩ <;> first | assumption | ((repeat (first | exact Ext.refl _ | assumption | apply Ext.drew | apply Ext.alloc)); done) | ((refine Ext.trans ?_ (by assumption)); (repeat (first | exact Ext.refl _ | assumption | apply Ext.drew | apply Ext.alloc)); done) | ((refine Ext.cell (by assumption) ?_); first | assumption | (go_keep; done)) | (go_keep; done)))
    (first
      | (go_at_call 109; refine (HI.out _).mono ?_; rintro e w1 ⟨rfl, rfl⟩)
      | (go_at_call 91; refine (HS.out _).mono ?_; rintro e w2 ⟨rfl, rfl⟩)
      | (go_at_call 89; refine (HO.out _ _ (rsl_block (e := 3) (fr := (0, 0)) (cs := [.int .i64 ci, .int .i64 cs]) ?hg (by rfl) (by decide))).mono ?_; (case hg => exact heap_alloc3_new w _ _ _); rintro e w3 ⟨rfl, rfl⟩))
  go_wp2
  go_ret
  exact ⟨rfl, ((((Ext.refl w).alloc _).alloc _).alloc _).drew⟩
end Go.Proofs.YtgecijhgonfldaaGreatDoor
