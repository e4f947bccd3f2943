/- Parts of the proof: contracts and plain laws that the statement needs. -/
import Derived.Test.YtgecijhgonfldaaGreatDoorQ07
import Derived.Test.YtgecijhgonfldaaGreatDoorQ08
namespace Go.Proofs.YtgecijhgonfldaaGreatDoor
open Go Go.RowKit
set_option linter.unusedVariables false
theorem updE_any (e : Ent) (w : World) : Calls Tryz.prog 106 #[.agg (eCells e).toArray] w fun x w' => x = .returned (.int .i64 e.upd) ∧ Ext w w' := by
  unfold eCells
  go_enter Tryz.func106, Tryz.ntmps106
  go_wp2
  go_ret
  exact ⟨rfl, (Ext.refl _).alloc _⟩
theorem iCmp_vals (x y : Int) : iCmp x y = -1 ∨ iCmp x y = 0 ∨ iCmp x y = 1 := by
  unfold iCmp
  split
  · exact Or.inl rfl
  · split
    · exact Or.inr (Or.inr rfl)
    · exact Or.inr (Or.inl rfl)
attribute [local go_sem ↓] Go.wp_at_zero Go.wp_at_succ
set_option maxRecDepth 100000 in
set_option maxHeartbeats 2000000 in
theorem laterE_m1 (a b : Ent) (w : World) (hE : Env w) (ha : eok a) (hb : eok b) (hc : iCmp a.upd b.upd = -1) :
    Calls Tryz.prog 105 #[.agg (eCells a).toArray, .agg (eCells b).toArray, .func (.func 106) #[] #[], .func (.func 107) #[] #[]] w
      fun x w' => x = .returned (.agg (eCells b).toArray) ∧ Ext w w' := by
  have HUA := Lib.hid (fun w' => updE_any a w')
  have HUB := Lib.hid (fun w' => updE_any b w')
  have HKA := Lib.hid (fun w' h => entryKey_any a w' h ha)
  have HKB := Lib.hid (fun w' h => entryKey_any b w' h hb)
  have HC := Lib.hid (fun w' => cmpInt_any a.upd b.upd w')
  rw [show (if a.upd < b.upd then (-1 : Int) else if b.upd < a.upd then 1 else 0) = -1 from hc] at HC
  generalize entryKey a = ka at *
  generalize entryKey b = kb at *
  clear hc ha hb
  obtain ⟨aid, atitle, alink, acontent, aupd⟩ := a
  obtain ⟨bid, btitle, blink, bcontent, bupd⟩ := b
  unfold eCells at *
  dsimp only at *
  go_enter Tryz.func105, Tryz.ntmps105
  go_wp2
  obtain ⟨W, hW⟩ : ∃ W, W = ((w.alloc (.cells #[.string aid, .string atitle, .string alink, .string acontent, .int .i64 aupd] 23)).alloc (.cells #[.string bid, .string btitle, .string blink, .string bcontent, .int .i64 bupd] 23)).alloc (.cells #[.string ⟨#[]⟩, .string ⟨#[]⟩, .string ⟨#[]⟩, .string ⟨#[]⟩, .int .i64 0] 23) := ⟨_, rfl⟩
  rw [← hW]
  have hxW : Ext w W := by rw [hW]; exact (((Ext.refl w).alloc _).alloc _).alloc _
  have hkW : ∀ d : Aft W, d.w.heap[w.heap.size + 1 + 1]? = some (.cells #[.string ⟨#[]⟩, .string ⟨#[]⟩, .string ⟨#[]⟩, .string ⟨#[]⟩, .int .i64 0] 23) := by rw [hW]; exact fun d => d.ext.heap (heap_alloc3_new w _ _ _)
  have a0 : ∀ d : Aft W, d.w.cell? ⟨w.heap.size, 0, none⟩ = some (.string aid) := by rw [hW]; exact fun d => boxed3a d 0 _ rfl
  have a1 : ∀ d : Aft W, d.w.cell? ⟨w.heap.size, 1, none⟩ = some (.string atitle) := by rw [hW]; exact fun d => boxed3a d 1 _ rfl
  have a2 : ∀ d : Aft W, d.w.cell? ⟨w.heap.size, 2, none⟩ = some (.string alink) := by rw [hW]; exact fun d => boxed3a d 2 _ rfl
  have a3 : ∀ d : Aft W, d.w.cell? ⟨w.heap.size, 3, none⟩ = some (.string acontent) := by rw [hW]; exact fun d => boxed3a d 3 _ rfl
  have a4 : ∀ d : Aft W, d.w.cell? ⟨w.heap.size, 4, none⟩ = some (.int .i64 aupd) := by rw [hW]; exact fun d => boxed3a d 4 _ rfl
  have b0 : ∀ d : Aft W, d.w.cell? ⟨w.heap.size + 1, 0, none⟩ = some (.string bid) := by rw [hW]; exact fun d => boxed3b d 0 _ rfl
  have b1 : ∀ d : Aft W, d.w.cell? ⟨w.heap.size + 1, 1, none⟩ = some (.string btitle) := by rw [hW]; exact fun d => boxed3b d 1 _ rfl
  have b2 : ∀ d : Aft W, d.w.cell? ⟨w.heap.size + 1, 2, none⟩ = some (.string blink) := by rw [hW]; exact fun d => boxed3b d 2 _ rfl
  have b3 : ∀ d : Aft W, d.w.cell? ⟨w.heap.size + 1, 3, none⟩ = some (.string bcontent) := by rw [hW]; exact fun d => boxed3b d 3 _ rfl
  have b4 : ∀ d : Aft W, d.w.cell? ⟨w.heap.size + 1, 4, none⟩ = some (.int .i64 bupd) := by rw [hW]; exact fun d => boxed3b d 4 _ rfl
  clear hW
  refine wp_region_aft (by kernel_rfl) (by kernel_rfl) ?_
  repeat (quiet_step ((first
    | (go_at_call 106; with_reducible exact quiet_call (HUA.out _))
    | (go_at_call 106; with_reducible exact quiet_call (HUB.out _))
    | (go_at_call 109; with_reducible exact quiet_call_same' (HC.out _)))))
  refine wpQuiet_nil ?_
  rintro _ ⟨d1, rfl⟩
  have hE1 : Env d1.w := hE.ext (hxW.trans d1.ext)
  have hx1 := hxW.trans d1.ext
  have hk1 := hkW d1
  have a0' : ∀ d : Aft d1.w, d.w.cell? ⟨w.heap.size, 0, none⟩ = some (.string aid) := fun d => a0 ⟨_, d1.ext.trans d.ext⟩
  have a1' : ∀ d : Aft d1.w, d.w.cell? ⟨w.heap.size, 1, none⟩ = some (.string atitle) := fun d => a1 ⟨_, d1.ext.trans d.ext⟩
  have a2' : ∀ d : Aft d1.w, d.w.cell? ⟨w.heap.size, 2, none⟩ = some (.string alink) := fun d => a2 ⟨_, d1.ext.trans d.ext⟩
  have a3' : ∀ d : Aft d1.w, d.w.cell? ⟨w.heap.size, 3, none⟩ = some (.string acontent) := fun d => a3 ⟨_, d1.ext.trans d.ext⟩
  have a4' : ∀ d : Aft d1.w, d.w.cell? ⟨w.heap.size, 4, none⟩ = some (.int .i64 aupd) := fun d => a4 ⟨_, d1.ext.trans d.ext⟩
  have b0' : ∀ d : Aft d1.w, d.w.cell? ⟨w.heap.size + 1, 0, none⟩ = some (.string bid) := fun d => b0 ⟨_, d1.ext.trans d.ext⟩
  have b1' : ∀ d : Aft d1.w, d.w.cell? ⟨w.heap.size + 1, 1, none⟩ = some (.string btitle) := fun d => b1 ⟨_, d1.ext.trans d.ext⟩
  have b2' : ∀ d : Aft d1.w, d.w.cell? ⟨w.heap.size + 1, 2, none⟩ = some (.string blink) := fun d => b2 ⟨_, d1.ext.trans d.ext⟩
  have b3' : ∀ d : Aft d1.w, d.w.cell? ⟨w.heap.size + 1, 3, none⟩ = some (.string bcontent) := fun d => b3 ⟨_, d1.ext.trans d.ext⟩
  have b4' : ∀ d : Aft d1.w, d.w.cell? ⟨w.heap.size + 1, 4, none⟩ = some (.int .i64 bupd) := fun d => b4 ⟨_, d1.ext.trans d.ext⟩
  have hk2 : ∀ d : Aft d1.w, d.w.heap[w.heap.size + 1 + 1]? = some (.cells #[.string ⟨#[]⟩, .string ⟨#[]⟩, .string ⟨#[]⟩, .string ⟨#[]⟩, .int .i64 0] 23) := fun d => d.ext.heap hk1
  clear a0 a1 a2 a3 a4 b0 b1 b2 b3 b4 hkW hk1
  generalize d1.w = W1 at *
  go_wp2
  refine wp_region_aft (by kernel_rfl) (by kernel_rfl) ?_
  repeat (first | go_big_quiet_step ((first | (go_at_call 107; with_reducible exact quiet_call (HKA.out _ (hE1.ext (Aft.ext _)))) | (go_at_call 107; with_reducible exact quiet_call (HKB.out _ (hE1.ext (Aft.ext _)))))) | quiet_step ((first | (go_at_call 107; with_reducible exact quiet_call (HKA.out _ (hE1.ext (Aft.ext _)))) | (go_at_call 107; with_reducible exact quiet_call (HKB.out _ (hE1.ext (Aft.ext _)))))))
  refine wpQuiet_nil ?_
  rintro _ ⟨d2, rfl⟩
  have hkf := hk2 d2
  go_wp2_with (first
    | (refine wpList_store_row rfl 23 (.tmp 8) (.tmp 32) rfl (w.heap.size + 1 + 1) _ rfl rfl _ _ hkf size_ent rfl (oneA (eCells_one ⟨bid, btitle, blink, bcontent, bupd⟩)) ?_)
    | (refine wpList_store_row rfl 23 (.tmp 8) (.tmp 33) rfl (w.heap.size + 1 + 1) _ rfl rfl _ _ hkf size_ent rfl (oneA (eCells_one ⟨aid, atitle, alink, acontent, aupd⟩)) ?_))
  ((try simp only [Exit.inBlock, Exit.then]); refine bodyPost_ret (results_cell_row rfl _ _ _ _ _ _ _ rfl (setRow_heap _ _ _ _ _ _ hkf) Tryz.underlying23 rfl size_ent) rfl ?_)
  exact ⟨rfl, (hx1.trans d2.ext).setRow (by omega) _⟩
set_option maxRecDepth 100000 in
set_option maxHeartbeats 2000000 in
theorem laterE_p1 (a b : Ent) (w : World) (hE : Env w) (ha : eok a) (hb : eok b) (hc : iCmp a.upd b.upd = 1) :
    Calls Tryz.prog 105 #[.agg (eCells a).toArray, .agg (eCells b).toArray, .func (.func 106) #[] #[], .func (.func 107) #[] #[]] w
      fun x w' => x = .returned (.agg (eCells a).toArray) ∧ Ext w w' := by
  have HUA := Lib.hid (fun w' => updE_any a w')
  have HUB := Lib.hid (fun w' => updE_any b w')
  have HKA := Lib.hid (fun w' h => entryKey_any a w' h ha)
  have HKB := Lib.hid (fun w' h => entryKey_any b w' h hb)
  have HC := Lib.hid (fun w' => cmpInt_any a.upd b.upd w')
  rw [show (if a.upd < b.upd then (-1 : Int) else if b.upd < a.upd then 1 else 0) = 1 from hc] at HC
  generalize entryKey a = ka at *
  generalize entryKey b = kb at *
  clear hc ha hb
  obtain ⟨aid, atitle, alink, acontent, aupd⟩ := a
  obtain ⟨bid, btitle, blink, bcontent, bupd⟩ := b
  unfold eCells at *
  dsimp only at *
  go_enter Tryz.func105, Tryz.ntmps105
  go_wp2
  obtain ⟨W, hW⟩ : ∃ W, W = ((w.alloc (.cells #[.string aid, .string atitle, .string alink, .string acontent, .int .i64 aupd] 23)).alloc (.cells #[.string bid, .string btitle, .string blink, .string bcontent, .int .i64 bupd] 23)).alloc (.cells #[.string ⟨#[]⟩, .string ⟨#[]⟩, .string ⟨#[]⟩, .string ⟨#[]⟩, .int .i64 0] 23) := ⟨_, rfl⟩
  rw [← hW]
  have hxW : Ext w W := by rw [hW]; exact (((Ext.refl w).alloc _).alloc _).alloc _
  have hkW : ∀ d : Aft W, d.w.heap[w.heap.size + 1 + 1]? = some (.cells #[.string ⟨#[]⟩, .string ⟨#[]⟩, .string ⟨#[]⟩, .string ⟨#[]⟩, .int .i64 0] 23) := by rw [hW]; exact fun d => d.ext.heap (heap_alloc3_new w _ _ _)
  have a0 : ∀ d : Aft W, d.w.cell? ⟨w.heap.size, 0, none⟩ = some (.string aid) := by rw [hW]; exact fun d => boxed3a d 0 _ rfl
  have a1 : ∀ d : Aft W, d.w.cell? ⟨w.heap.size, 1, none⟩ = some (.string atitle) := by rw [hW]; exact fun d => boxed3a d 1 _ rfl
  have a2 : ∀ d : Aft W, d.w.cell? ⟨w.heap.size, 2, none⟩ = some (.string alink) := by rw [hW]; exact fun d => boxed3a d 2 _ rfl
  have a3 : ∀ d : Aft W, d.w.cell? ⟨w.heap.size, 3, none⟩ = some (.string acontent) := by rw [hW]; exact fun d => boxed3a d 3 _ rfl
  have a4 : ∀ d : Aft W, d.w.cell? ⟨w.heap.size, 4, none⟩ = some (.int .i64 aupd) := by rw [hW]; exact fun d => boxed3a d 4 _ rfl
  have b0 : ∀ d : Aft W, d.w.cell? ⟨w.heap.size + 1, 0, none⟩ = some (.string bid) := by rw [hW]; exact fun d => boxed3b d 0 _ rfl
  have b1 : ∀ d : Aft W, d.w.cell? ⟨w.heap.size + 1, 1, none⟩ = some (.string btitle) := by rw [hW]; exact fun d => boxed3b d 1 _ rfl
  have b2 : ∀ d : Aft W, d.w.cell? ⟨w.heap.size + 1, 2, none⟩ = some (.string blink) := by rw [hW]; exact fun d => boxed3b d 2 _ rfl
  have b3 : ∀ d : Aft W, d.w.cell? ⟨w.heap.size + 1, 3, none⟩ = some (.string bcontent) := by rw [hW]; exact fun d => boxed3b d 3 _ rfl
  have b4 : ∀ d : Aft W, d.w.cell? ⟨w.heap.size + 1, 4, none⟩ = some (.int .i64 bupd) := by rw [hW]; exact fun d => boxed3b d 4 _ rfl
  clear hW
  refine wp_region_aft (by kernel_rfl) (by kernel_rfl) ?_
  repeat (quiet_step ((first
    | (go_at_call 106; with_reducible exact quiet_call (HUA.out _))
    | (go_at_call 106; with_reducible exact quiet_call (HUB.out _))
    | (go_at_call 109; with_reducible exact quiet_call_same' (HC.out _)))))
  refine wpQuiet_nil ?_
  rintro _ ⟨d1, rfl⟩
  have hE1 : Env d1.w := hE.ext (hxW.trans d1.ext)
  have hx1 := hxW.trans d1.ext
  have hk1 := hkW d1
  have a0' : ∀ d : Aft d1.w, d.w.cell? ⟨w.heap.size, 0, none⟩ = some (.string aid) := fun d => a0 ⟨_, d1.ext.trans d.ext⟩
  have a1' : ∀ d : Aft d1.w, d.w.cell? ⟨w.heap.size, 1, none⟩ = some (.string atitle) := fun d => a1 ⟨_, d1.ext.trans d.ext⟩
  have a2' : ∀ d : Aft d1.w, d.w.cell? ⟨w.heap.size, 2, none⟩ = some (.string alink) := fun d => a2 ⟨_, d1.ext.trans d.ext⟩
  have a3' : ∀ d : Aft d1.w, d.w.cell? ⟨w.heap.size, 3, none⟩ = some (.string acontent) := fun d => a3 ⟨_, d1.ext.trans d.ext⟩
  have a4' : ∀ d : Aft d1.w, d.w.cell? ⟨w.heap.size, 4, none⟩ = some (.int .i64 aupd) := fun d => a4 ⟨_, d1.ext.trans d.ext⟩
  have b0' : ∀ d : Aft d1.w, d.w.cell? ⟨w.heap.size + 1, 0, none⟩ = some (.string bid) := fun d => b0 ⟨_, d1.ext.trans d.ext⟩
  have b1' : ∀ d : Aft d1.w, d.w.cell? ⟨w.heap.size + 1, 1, none⟩ = some (.string btitle) := fun d => b1 ⟨_, d1.ext.trans d.ext⟩
  have b2' : ∀ d : Aft d1.w, d.w.cell? ⟨w.heap.size + 1, 2, none⟩ = some (.string blink) := fun d => b2 ⟨_, d1.ext.trans d.ext⟩
  have b3' : ∀ d : Aft d1.w, d.w.cell? ⟨w.heap.size + 1, 3, none⟩ = some (.string bcontent) := fun d => b3 ⟨_, d1.ext.trans d.ext⟩
  have b4' : ∀ d : Aft d1.w, d.w.cell? ⟨w.heap.size + 1, 4, none⟩ = some (.int .i64 bupd) := fun d => b4 ⟨_, d1.ext.trans d.ext⟩
  have hk2 : ∀ d : Aft d1.w, d.w.heap[w.heap.size + 1 + 1]? = some (.cells #[.string ⟨#[]⟩, .string ⟨#[]⟩, .string ⟨#[]⟩, .string ⟨#[]⟩, .int .i64 0] 23) := fun d => d.ext.heap hk1
  clear a0 a1 a2 a3 a4 b0 b1 b2 b3 b4 hkW hk1
  generalize d1.w = W1 at *
  go_wp2
  refine wp_region_aft (by kernel_rfl) (by kernel_rfl) ?_
  repeat (first | go_big_quiet_step ((first | (go_at_call 107; with_reducible exact quiet_call (HKA.out _ (hE1.ext (Aft.ext _)))) | (go_at_call 107; with_reducible exact quiet_call (HKB.out _ (hE1.ext (Aft.ext _)))))) | quiet_step ((first | (go_at_call 107; with_reducible exact quiet_call (HKA.out _ (hE1.ext (Aft.ext _)))) | (go_at_call 107; with_reducible exact quiet_call (HKB.out _ (hE1.ext (Aft.ext _)))))))
  refine wpQuiet_nil ?_
  rintro _ ⟨d2, rfl⟩
  have hkf := hk2 d2
  go_wp2_with (first
    | (refine wpList_store_row rfl 23 (.tmp 8) (.tmp 32) rfl (w.heap.size + 1 + 1) _ rfl rfl _ _ hkf size_ent rfl (oneA (eCells_one ⟨bid, btitle, blink, bcontent, bupd⟩)) ?_)
    | (refine wpList_store_row rfl 23 (.tmp 8) (.tmp 33) rfl (w.heap.size + 1 + 1) _ rfl rfl _ _ hkf size_ent rfl (oneA (eCells_one ⟨aid, atitle, alink, acontent, aupd⟩)) ?_))
  ((try simp only [Exit.inBlock, Exit.then]); refine bodyPost_ret (results_cell_row rfl _ _ _ _ _ _ _ rfl (setRow_heap _ _ _ _ _ _ hkf) Tryz.underlying23 rfl size_ent) rfl ?_)
  exact ⟨rfl, (hx1.trans d2.ext).setRow (by omega) _⟩
set_option maxRecDepth 100000 in
set_option maxHeartbeats 2000000 in
theorem laterE_z1 (a b : Ent) (w : World) (hE : Env w) (ha : eok a) (hb : eok b) (hc : iCmp a.upd b.upd = 0) (hT : Op.bytesLess (entryKey a).toList (entryKey b).toList = true) :
    Calls Tryz.prog 105 #[.agg (eCells a).toArray, .agg (eCells b).toArray, .func (.func 106) #[] #[], .func (.func 107) #[] #[]] w
      fun x w' => x = .returned (.agg (eCells b).toArray) ∧ Ext w w' := by
  have HUA := Lib.hid (fun w' => updE_any a w')
  have HUB := Lib.hid (fun w' => updE_any b w')
  have HKA := Lib.hid (fun w' h => entryKey_any a w' h ha)
  have HKB := Lib.hid (fun w' h => entryKey_any b w' h hb)
  have HC := Lib.hid (fun w' => cmpInt_any a.upd b.upd w')
  rw [show (if a.upd < b.upd then (-1 : Int) else if b.upd < a.upd then 1 else 0) = 0 from hc] at HC
  generalize entryKey a = ka at *
  generalize entryKey b = kb at *
  clear hc ha hb
  obtain ⟨aid, atitle, alink, acontent, aupd⟩ := a
  obtain ⟨bid, btitle, blink, bcontent, bupd⟩ := b
  unfold eCells at *
  dsimp only at *
  go_enter Tryz.func105, Tryz.ntmps105
  go_wp2
  obtain ⟨W, hW⟩ : ∃ W, W = ((w.alloc (.cells #[.string aid, .string atitle, .string alink, .string acontent, .int .i64 aupd] 23)).alloc (.cells #[.string bid, .string btitle, .string blink, .string bcontent, .int .i64 bupd] 23)).alloc (.cells #[.string ⟨#[]⟩, .string ⟨#[]⟩, .string ⟨#[]⟩, .string ⟨#[]⟩, .int .i64 0] 23) := ⟨_, rfl⟩
  rw [← hW]
  have hxW : Ext w W := by rw [hW]; exact (((Ext.refl w).alloc _).alloc _).alloc _
  have hkW : ∀ d : Aft W, d.w.heap[w.heap.size + 1 + 1]? = some (.cells #[.string ⟨#[]⟩, .string ⟨#[]⟩, .string ⟨#[]⟩, .string ⟨#[]⟩, .int .i64 0] 23) := by rw [hW]; exact fun d => d.ext.heap (heap_alloc3_new w _ _ _)
  have a0 : ∀ d : Aft W, d.w.cell? ⟨w.heap.size, 0, none⟩ = some (.string aid) := by rw [hW]; exact fun d => boxed3a d 0 _ rfl
  have a1 : ∀ d : Aft W, d.w.cell? ⟨w.heap.size, 1, none⟩ = some (.string atitle) := by rw [hW]; exact fun d => boxed3a d 1 _ rfl
  have a2 : ∀ d : Aft W, d.w.cell? ⟨w.heap.size, 2, none⟩ = some (.string alink) := by rw [hW]; exact fun d => boxed3a d 2 _ rfl
  have a3 : ∀ d : Aft W, d.w.cell? ⟨w.heap.size, 3, none⟩ = some (.string acontent) := by rw [hW]; exact fun d => boxed3a d 3 _ rfl
  have a4 : ∀ d : Aft W, d.w.cell? ⟨w.heap.size, 4, none⟩ = some (.int .i64 aupd) := by rw [hW]; exact fun d => boxed3a d 4 _ rfl
  have b0 : ∀ d : Aft W, d.w.cell? ⟨w.heap.size + 1, 0, none⟩ = some (.string bid) := by rw [hW]; exact fun d => boxed3b d 0 _ rfl
  have b1 : ∀ d : Aft W, d.w.cell? ⟨w.heap.size + 1, 1, none⟩ = some (.string btitle) := by rw [hW]; exact fun d => boxed3b d 1 _ rfl
  have b2 : ∀ d : Aft W, d.w.cell? ⟨w.heap.size + 1, 2, none⟩ = some (.string blink) := by rw [hW]; exact fun d => boxed3b d 2 _ rfl
  have b3 : ∀ d : Aft W, d.w.cell? ⟨w.heap.size + 1, 3, none⟩ = some (.string bcontent) := by rw [hW]; exact fun d => boxed3b d 3 _ rfl
  have b4 : ∀ d : Aft W, d.w.cell? ⟨w.heap.size + 1, 4, none⟩ = some (.int .i64 bupd) := by rw [hW]; exact fun d => boxed3b d 4 _ rfl
  clear hW
  refine wp_region_aft (by kernel_rfl) (by kernel_rfl) ?_
  repeat (quiet_step ((first
    | (go_at_call 106; with_reducible exact quiet_call (HUA.out _))
    | (go_at_call 106; with_reducible exact quiet_call (HUB.out _))
    | (go_at_call 109; with_reducible exact quiet_call_same' (HC.out _)))))
  refine wpQuiet_nil ?_
  rintro _ ⟨d1, rfl⟩
  have hE1 : Env d1.w := hE.ext (hxW.trans d1.ext)
  have hx1 := hxW.trans d1.ext
  have hk1 := hkW d1
  have a0' : ∀ d : Aft d1.w, d.w.cell? ⟨w.heap.size, 0, none⟩ = some (.string aid) := fun d => a0 ⟨_, d1.ext.trans d.ext⟩
  have a1' : ∀ d : Aft d1.w, d.w.cell? ⟨w.heap.size, 1, none⟩ = some (.string atitle) := fun d => a1 ⟨_, d1.ext.trans d.ext⟩
  have a2' : ∀ d : Aft d1.w, d.w.cell? ⟨w.heap.size, 2, none⟩ = some (.string alink) := fun d => a2 ⟨_, d1.ext.trans d.ext⟩
  have a3' : ∀ d : Aft d1.w, d.w.cell? ⟨w.heap.size, 3, none⟩ = some (.string acontent) := fun d => a3 ⟨_, d1.ext.trans d.ext⟩
  have a4' : ∀ d : Aft d1.w, d.w.cell? ⟨w.heap.size, 4, none⟩ = some (.int .i64 aupd) := fun d => a4 ⟨_, d1.ext.trans d.ext⟩
  have b0' : ∀ d : Aft d1.w, d.w.cell? ⟨w.heap.size + 1, 0, none⟩ = some (.string bid) := fun d => b0 ⟨_, d1.ext.trans d.ext⟩
  have b1' : ∀ d : Aft d1.w, d.w.cell? ⟨w.heap.size + 1, 1, none⟩ = some (.string btitle) := fun d => b1 ⟨_, d1.ext.trans d.ext⟩
  have b2' : ∀ d : Aft d1.w, d.w.cell? ⟨w.heap.size + 1, 2, none⟩ = some (.string blink) := fun d => b2 ⟨_, d1.ext.trans d.ext⟩
  have b3' : ∀ d : Aft d1.w, d.w.cell? ⟨w.heap.size + 1, 3, none⟩ = some (.string bcontent) := fun d => b3 ⟨_, d1.ext.trans d.ext⟩
  have b4' : ∀ d : Aft d1.w, d.w.cell? ⟨w.heap.size + 1, 4, none⟩ = some (.int .i64 bupd) := fun d => b4 ⟨_, d1.ext.trans d.ext⟩
  have hk2 : ∀ d : Aft d1.w, d.w.heap[w.heap.size + 1 + 1]? = some (.cells #[.string ⟨#[]⟩, .string ⟨#[]⟩, .string ⟨#[]⟩, .string ⟨#[]⟩, .int .i64 0] 23) := fun d => d.ext.heap hk1
  clear a0 a1 a2 a3 a4 b0 b1 b2 b3 b4 hkW hk1
  generalize d1.w = W1 at *
  go_wp2
  refine wp_region_aft (by kernel_rfl) (by kernel_rfl) ?_
  repeat (first | go_big_quiet_step ((first | (go_at_call 107; with_reducible exact quiet_call (HKA.out _ (hE1.ext (Aft.ext _)))) | (go_at_call 107; with_reducible exact quiet_call (HKB.out _ (hE1.ext (Aft.ext _)))))) | quiet_step ((first | (go_at_call 107; with_reducible exact quiet_call (HKA.out _ (hE1.ext (Aft.ext _)))) | (go_at_call 107; with_reducible exact quiet_call (HKB.out _ (hE1.ext (Aft.ext _)))))))
  refine wpQuiet_nil ?_
  rintro _ ⟨d2, rfl⟩
  have hkf := hk2 d2
  go_wp2_with (first
    | (refine wpList_store_row rfl 23 (.tmp 8) (.tmp 32) rfl (w.heap.size + 1 + 1) _ rfl rfl _ _ hkf size_ent rfl (oneA (eCells_one ⟨bid, btitle, blink, bcontent, bupd⟩)) ?_)
    | (refine wpList_store_row rfl 23 (.tmp 8) (.tmp 33) rfl (w.heap.size + 1 + 1) _ rfl rfl _ _ hkf size_ent rfl (oneA (eCells_one ⟨aid, atitle, alink, acontent, aupd⟩)) ?_))
  ((try simp only [Exit.inBlock, Exit.then]); refine bodyPost_ret (results_cell_row rfl _ _ _ _ _ _ _ rfl (setRow_heap _ _ _ _ _ _ hkf) Tryz.underlying23 rfl size_ent) rfl ?_)
  exact ⟨rfl, (hx1.trans d2.ext).setRow (by omega) _⟩
set_option maxRecDepth 100000 in
set_option maxHeartbeats 2000000 in
theorem laterE_z0 (a b : Ent) (w : World) (hE : Env w) (ha : eok a) (hb : eok b) (hc : iCmp a.upd b.upd = 0) (hT : Op.bytesLess (entryKey a).toList (entryKey b).toList = false) :
    Calls Tryz.prog 105 #[.agg (eCells a).toArray, .agg (eCells b).toArray, .func (.func 106) #[] #[], .func (.func 107) #[] #[]] w
      fun x w' => x = .returned (.agg (eCells a).toArray) ∧ Ext w w' := by
  have HUA := Lib.hid (fun w' => updE_any a w')
  have HUB := Lib.hid (fun w' => updE_any b w')
  have HKA := Lib.hid (fun w' h => entryKey_any a w' h ha)
  have HKB := Lib.hid (fun w' h => entryKey_any b w' h hb)
  have HC := Lib.hid (fun w' => cmpInt_any a.upd b.upd w')
  rw [show (if a.upd < b.upd then (-1 : Int) else if b.upd < a.upd then 1 else 0) = 0 from hc] at HC
  generalize entryKey a = ka at *
  generalize entryKey b = kb at *
  clear hc ha hb
  obtain ⟨aid, atitle, alink, acontent, aupd⟩ := a
  obtain ⟨bid, btitle, blink, bcontent, bupd⟩ := b
  unfold eCells at *
  dsimp only at *
  go_enter Tryz.func105, Tryz.ntmps105
  go_wp2
  obtain ⟨W, hW⟩ : ∃ W, W = ((w.alloc (.cells #[.string aid, .string atitle, .string alink, .string acontent, .int .i64 aupd] 23)).alloc (.cells #[.string bid, .string btitle, .string blink, .string bcontent, .int .i64 bupd] 23)).alloc (.cells #[.string ⟨#[]⟩, .string ⟨#[]⟩, .string ⟨#[]⟩, .string ⟨#[]⟩, .int .i64 0] 23) := ⟨_, rfl⟩
  rw [← hW]
  have hxW : Ext w W := by rw [hW]; exact (((Ext.refl w).alloc _).alloc _).alloc _
  have hkW : ∀ d : Aft W, d.w.heap[w.heap.size + 1 + 1]? = some (.cells #[.string ⟨#[]⟩, .string ⟨#[]⟩, .string ⟨#[]⟩, .string ⟨#[]⟩, .int .i64 0] 23) := by rw [hW]; exact fun d => d.ext.heap (heap_alloc3_new w _ _ _)
  have a0 : ∀ d : Aft W, d.w.cell? ⟨w.heap.size, 0, none⟩ = some (.string aid) := by rw [hW]; exact fun d => boxed3a d 0 _ rfl
  have a1 : ∀ d : Aft W, d.w.cell? ⟨w.heap.size, 1, none⟩ = some (.string atitle) := by rw [hW]; exact fun d => boxed3a d 1 _ rfl
  have a2 : ∀ d : Aft W, d.w.cell? ⟨w.heap.size, 2, none⟩ = some (.string alink) := by rw [hW]; exact fun d => boxed3a d 2 _ rfl
  have a3 : ∀ d : Aft W, d.w.cell? ⟨w.heap.size, 3, none⟩ = some (.string acontent) := by rw [hW]; exact fun d => boxed3a d 3 _ rfl
  have a4 : ∀ d : Aft W, d.w.cell? ⟨w.heap.size, 4, none⟩ = some (.int .i64 aupd) := by rw [hW]; exact fun d => boxed3a d 4 _ rfl
  have b0 : ∀ d : Aft W, d.w.cell? ⟨w.heap.size + 1, 0, none⟩ = some (.string bid) := by rw [hW]; exact fun d => boxed3b d 0 _ rfl
  have b1 : ∀ d : Aft W, d.w.cell? ⟨w.heap.size + 1, 1, none⟩ = some (.string btitle) := by rw [hW]; exact fun d => boxed3b d 1 _ rfl
  have b2 : ∀ d : Aft W, d.w.cell? ⟨w.heap.size + 1, 2, none⟩ = some (.string blink) := by rw [hW]; exact fun d => boxed3b d 2 _ rfl
  have b3 : ∀ d : Aft W, d.w.cell? ⟨w.heap.size + 1, 3, none⟩ = some (.string bcontent) := by rw [hW]; exact fun d => boxed3b d 3 _ rfl
  have b4 : ∀ d : Aft W, d.w.cell? ⟨w.heap.size + 1, 4, none⟩ = some (.int .i64 bupd) := by rw [hW]; exact fun d => boxed3b d 4 _ rfl
  clear hW
  refine wp_region_aft (by kernel_rfl) (by kernel_rfl) ?_
  repeat (quiet_step ((first
    | (go_at_call 106; with_reducible exact quiet_call (HUA.out _))
    | (go_at_call 106; with_reducible exact quiet_call (HUB.out _))
    | (go_at_call 109; with_reducible exact quiet_call_same' (HC.out _)))))
  refine wpQuiet_nil ?_
  rintro _ ⟨d1, rfl⟩
  have hE1 : Env d1.w := hE.ext (hxW.trans d1.ext)
  have hx1 := hxW.trans d1.ext
  have hk1 := hkW d1
  have a0' : ∀ d : Aft d1.w, d.w.cell? ⟨w.heap.size, 0, none⟩ = some (.string aid) := fun d => a0 ⟨_, d1.ext.trans d.ext⟩
  have a1' : ∀ d : Aft d1.w, d.w.cell? ⟨w.heap.size, 1, none⟩ = some (.string atitle) := fun d => a1 ⟨_, d1.ext.trans d.ext⟩
  have a2' : ∀ d : Aft d1.w, d.w.cell? ⟨w.heap.size, 2, none⟩ = some (.string alink) := fun d => a2 ⟨_, d1.ext.trans d.ext⟩
  have a3' : ∀ d : Aft d1.w, d.w.cell? ⟨w.heap.size, 3, none⟩ = some (.string acontent) := fun d => a3 ⟨_, d1.ext.trans d.ext⟩
  have a4' : ∀ d : Aft d1.w, d.w.cell? ⟨w.heap.size, 4, none⟩ = some (.int .i64 aupd) := fun d => a4 ⟨_, d1.ext.trans d.ext⟩
  have b0' : ∀ d : Aft d1.w, d.w.cell? ⟨w.heap.size + 1, 0, none⟩ = some (.string bid) := fun d => b0 ⟨_, d1.ext.trans d.ext⟩
  have b1' : ∀ d : Aft d1.w, d.w.cell? ⟨w.heap.size + 1, 1, none⟩ = some (.string btitle) := fun d => b1 ⟨_, d1.ext.trans d.ext⟩
  have b2' : ∀ d : Aft d1.w, d.w.cell? ⟨w.heap.size + 1, 2, none⟩ = some (.string blink) := fun d => b2 ⟨_, d1.ext.trans d.ext⟩
  have b3' : ∀ d : Aft d1.w, d.w.cell? ⟨w.heap.size + 1, 3, none⟩ = some (.string bcontent) := fun d => b3 ⟨_, d1.ext.trans d.ext⟩
  have b4' : ∀ d : Aft d1.w, d.w.cell? ⟨w.heap.size + 1, 4, none⟩ = some (.int .i64 bupd) := fun d => b4 ⟨_, d1.ext.trans d.ext⟩
  have hk2 : ∀ d : Aft d1.w, d.w.heap[w.heap.size + 1 + 1]? = some (.cells #[.string ⟨#[]⟩, .string ⟨#[]⟩, .string ⟨#[]⟩, .string ⟨#[]⟩, .int .i64 0] 23) := fun d => d.ext.heap hk1
  clear a0 a1 a2 a3 a4 b0 b1 b2 b3 b4 hkW hk1
  generalize d1.w = W1 at *
  go_wp2
  refine wp_region_aft (by kernel_rfl) (by kernel_rfl) ?_
  repeat (first | go_big_quiet_step ((first | (go_at_call 107; with_reducible exact quiet_call (HKA.out _ (hE1.ext (Aft.ext _)))) | (go_at_call 107; with_reducible exact quiet_call (HKB.out _ (hE1.ext (Aft.ext _)))))) | quiet_step ((first | (go_at_call 107; with_reducible exact quiet_call (HKA.out _ (hE1.ext (Aft.ext _)))) | (go_at_call 107; with_reducible exact quiet_call (HKB.out _ (hE1.ext (Aft.ext _)))))))
  refine wpQuiet_nil ?_
  rintro _ ⟨d2, rfl⟩
  have hkf := hk2 d2
  go_wp2_with (first
    | (refine wpList_store_row rfl 23 (.tmp 8) (.tmp 32) rfl (w.heap.size + 1 + 1) _ rfl rfl _ _ hkf size_ent rfl (oneA (eCells_one ⟨bid, btitle, blink, bcontent, bupd⟩)) ?_)
    | (refine wpList_store_row rfl 23 (.tmp 8) (.tmp 33) rfl (w.heap.size + 1 + 1) _ rfl rfl _ _ hkf size_ent rfl (oneA (eCells_one ⟨aid, atitle, alink, acontent, aupd⟩)) ?_))
  ((try simp only [Exit.inBlock, Exit.then]); refine bodyPost_ret (results_cell_row rfl _ _ _ _ _ _ _ rfl (setRow_heap _ _ _ _ _ _ hkf) Tryz.underlying23 rfl size_ent) rfl ?_)
  exact ⟨rfl, (hx1.trans d2.ext).setRow (by omega) _⟩
theorem laterE_any (a b : Ent) (w : World) (hE : Env w) (ha : eok a) (hb : eok b) :
    Calls Tryz.prog 105 #[.agg (eCells a).toArray, .agg (eCells b).toArray, .func (.func 106) #[] #[], .func (.func 107) #[] #[]] w
      fun x w' => x = .returned (.agg (eCells (laterE a b)).toArray) ∧ Ext w w' := by
  rcases iCmp_vals a.upd b.upd with h | h | h
  · have e : laterE a b = b := by unfold laterE laterB; rw [h]; rfl
    rw [e]; exact laterE_m1 a b w hE ha hb h
  · cases hT : Op.bytesLess (entryKey a).toList (entryKey b).toList with
    | true =>
      have e : laterE a b = b := by unfold laterE laterB; rw [h, hT]; rfl
      rw [e]; exact laterE_z1 a b w hE ha hb h hT
    | false =>
      have e : laterE a b = a := by unfold laterE laterB; rw [h, hT]; rfl
      rw [e]; exact laterE_z0 a b w hE ha hb h hT
  · have e : laterE a b = a := by unfold laterE laterB; rw [h]; rfl
    rw [e]; exact laterE_p1 a b w hE ha hb h
set_option maxRecDepth 100000 in
theorem laterEntry_any (a b : Ent) (w : World) (hE : Env w) (ha : eok a) (hb : eok b) :
    Calls Tryz.prog 80 #[.agg (eCells a).toArray, .agg (eCells b).toArray] w fun x w' => x = .returned (.agg (eCells (laterE a b)).toArray) ∧ Ext w w' := by
  have hxW : ∀ (A B C : Obj), Ext w (((w.alloc A).alloc B).alloc C) := fun A B C => (((Ext.refl w).alloc A).alloc B).alloc C
  have HL := Lib.hid (fun (w' : World) (h : Ext w w') => laterE_any a b w' (hE.ext h) ha hb)
  generalize laterE a b = r at *
  obtain ⟨aid, atitle, alink, acontent, aupd⟩ := a
  obtain ⟨bid, btitle, blink, bcontent, bupd⟩ := b
  obtain ⟨rid, rtitle, rlink, rcontent, rupd⟩ := r
  clear ha hb
  have HX := Lib.hid hxW
  clear hxW
  unfold eCells at *
  go_enter Tryz.func80, Tryz.ntmps80
  go_wp2_with (first
    | (go_at_call 105; refine (HL.out _ (HX.out _ _ _)).mono ?_; rintro e w1 ⟨rfl, hx1⟩; (have hk1 := hx1.heap (heap_alloc3_new w _ _ _)))
    | (refine wpList_store_row rfl 23 (.tmp 4) (.tmp 7) rfl (w.heap.size + 1 + 1) _ rfl rfl _ _ hk1 size_ent rfl (oneA (eCells_one ⟨rid, rtitle, rlink, rcontent, rupd⟩)) ?_))
  ((try simp only [Exit.inBlock, Exit.then]); refine bodyPost_ret (results_cell_row rfl _ _ _ _ _ _ _ rfl (setRow_heap _ _ _ _ _ _ hk1) Tryz.underlying23 rfl size_ent) rfl ?_)
  exact ⟨rfl, ((HX.out _ _ _).trans hx1).setRow (by omega) _⟩
end Go.Proofs.YtgecijhgonfldaaGreatDoor
