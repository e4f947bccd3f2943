/- Parts of the proof: contracts and plain laws that the statement needs. -/
import Derived.Test.YtgecijhgonfldaaGreatDoorQ13
import Derived.Test.YtgecijhgonfldaaGreatDoorQ17
namespace Go.Proofs.YtgecijhgonfldaaGreatDoor
open Go Go.RowKit
set_option linter.unusedVariables false
structure SlPair (w : World) (x : Fc) : Prop where
  hra : RStrs w x.p x.f.path
  hsa : isSl x.es
theorem SlPair.sl {w : World} {x : Fc} (h : SlPair w x) : slC x := by
  obtain ⟨A, c, e, _⟩ := h.hra.form
  exact ⟨⟨A, _, c, e⟩, h.hsa⟩
attribute [local go_sem ↓] Go.wp_at_zero Go.wp_at_succ
set_option maxRecDepth 100000 in
set_option maxHeartbeats 2000000 in
theorem laterF_m1 (a b : Fc) (w : World) (hE : Env w) (ha : fok a.f) (hb : fok b.f) (hra : RStrs w a.p a.f.path) (hrb : RStrs w b.p b.f.path) (hsa : isSl a.es) (hsb : isSl b.es) (hc : iCmp a.f.upd b.f.upd = -1) :
    Calls Tryz.prog 84 #[.agg (cellsC a).toArray, .agg (cellsC b).toArray, .func (.func 85) #[] #[], .func (.func 86) #[] #[]] w
      fun x w' => x = .returned (.agg (cellsC b).toArray) ∧ Ext w w' := by
  have HUA := Lib.hid (fun w' => updF_any a.p a.es a.f w')
  have HUB := Lib.hid (fun w' => updF_any b.p b.es b.f w')
  have HKA := Lib.hid (fun w' h (hx : Ext w w') => feedKey_any a.p a.es a.f w' h ha (hra.ext hx))
  have HKB := Lib.hid (fun w' h (hx : Ext w w') => feedKey_any b.p b.es b.f w' h hb (hrb.ext hx))
  have HC := Lib.hid (fun w' => cmpInt_any a.f.upd b.f.upd w')
  rw [show (if a.f.upd < b.f.upd then (-1 : Int) else if b.f.upd < a.f.upd then 1 else 0) = -1 from hc] at HC
  have h1 := cellsC_one (SlPair.sl (w := w) ⟨hrb, hsb⟩)
  generalize feedKey a.f = ka at *
  generalize feedKey b.f = kb at *
  clear hc ha hb
  obtain ⟨ap, aes, ⟨apath, aid, atitle, alink, aupd, aents⟩⟩ := a
  obtain ⟨bp, bes, ⟨bpath, bid, btitle, blink, bupd, bents⟩⟩ := b
  obtain ⟨aA, ac, hp1, _, _⟩ := hra.form
  obtain ⟨bA, bc, hp2, _, _⟩ := hrb.form
  obtain ⟨aB, am, ad, hp3⟩ := hsa
  obtain ⟨bB, bm, bd, hp4⟩ := hsb
  simp only at hp1 hp2 hp3 hp4
  subst hp1 hp2 hp3 hp4
  clear hra hrb
  have H1 := Lib.hid h1
  clear h1
  unfold cellsC fCells at *
  dsimp only at *
  go_enter Tryz.func84, Tryz.ntmps84
  go_wp2
  obtain ⟨W, hW⟩ : ∃ W, W = ((w.alloc (.cells #[.slice aA apath.length ac, .string aid, .string atitle, .string alink, .int .i64 aupd, .slice aB am ad] 35)).alloc (.cells #[.slice bA bpath.length bc, .string bid, .string btitle, .string blink, .int .i64 bupd, .slice bB bm bd] 35)).alloc (.cells #[.slice none 0 0, .string ⟨#[]⟩, .string ⟨#[]⟩, .string ⟨#[]⟩, .int .i64 0, .slice none 0 0] 35) := ⟨_, rfl⟩
  rw [← hW]
  have hxW : Ext w W := by rw [hW]; exact (((Ext.refl w).alloc _).alloc _).alloc _
  have hkW : ∀ d : Aft W, d.w.heap[w.heap.size + 1 + 1]? = some (.cells #[.slice none 0 0, .string ⟨#[]⟩, .string ⟨#[]⟩, .string ⟨#[]⟩, .int .i64 0, .slice none 0 0] 35) := by rw [hW]; exact fun d => d.ext.heap (heap_alloc3_new w _ _ _)
  have a0 : ∀ d : Aft W, d.w.cell? ⟨w.heap.size, 0, none⟩ = some (.slice aA apath.length ac) := by rw [hW]; exact fun d => boxed3a d 0 _ rfl
  have a1 : ∀ d : Aft W, d.w.cell? ⟨w.heap.size, 1, none⟩ = some (.string aid) := by rw [hW]; exact fun d => boxed3a d 1 _ rfl
  have a2 : ∀ d : Aft W, d.w.cell? ⟨w.heap.size, 2, none⟩ = some (.string atitle) := by rw [hW]; exact fun d => boxed3a d 2 _ rfl
  have a3 : ∀ d : Aft W, d.w.cell? ⟨w.heap.size, 3, none⟩ = some (.string alink) := by rw [hW]; exact fun d => boxed3a d 3 _ rfl
  have a4 : ∀ d : Aft W, d.w.cell? ⟨w.heap.size, 4, none⟩ = some (.int .i64 aupd) := by rw [hW]; exact fun d => boxed3a d 4 _ rfl
  have a5 : ∀ d : Aft W, d.w.cell? ⟨w.heap.size, 5, none⟩ = some (.slice aB am ad) := by rw [hW]; exact fun d => boxed3a d 5 _ rfl
  have b0 : ∀ d : Aft W, d.w.cell? ⟨w.heap.size + 1, 0, none⟩ = some (.slice bA bpath.length bc) := by rw [hW]; exact fun d => boxed3b d 0 _ rfl
  have b1 : ∀ d : Aft W, d.w.cell? ⟨w.heap.size + 1, 1, none⟩ = some (.string bid) := by rw [hW]; exact fun d => boxed3b d 1 _ rfl
  have b2 : ∀ d : Aft W, d.w.cell? ⟨w.heap.size + 1, 2, none⟩ = some (.string btitle) := by rw [hW]; exact fun d => boxed3b d 2 _ rfl
  have b3 : ∀ d : Aft W, d.w.cell? ⟨w.heap.size + 1, 3, none⟩ = some (.string blink) := by rw [hW]; exact fun d => boxed3b d 3 _ rfl
  have b4 : ∀ d : Aft W, d.w.cell? ⟨w.heap.size + 1, 4, none⟩ = some (.int .i64 bupd) := by rw [hW]; exact fun d => boxed3b d 4 _ rfl
  have b5 : ∀ d : Aft W, d.w.cell? ⟨w.heap.size + 1, 5, none⟩ = some (.slice bB bm bd) := by rw [hW]; exact fun d => boxed3b d 5 _ rfl
  clear hW
  refine wp_region_aft (by kernel_rfl) (by kernel_rfl) ?_
  repeat (quiet_step ((first
    | (go_at_call 85; with_reducible exact quiet_call (HUA.out _))
    | (go_at_call 85; with_reducible exact quiet_call (HUB.out _))
    | (go_at_call 109; with_reducible exact quiet_call_same' (HC.out _)))))
  refine wpQuiet_nil ?_
  rintro _ ⟨d1, rfl⟩
  have hE1 : Env d1.w := hE.ext (hxW.trans d1.ext)
  have hx1 := hxW.trans d1.ext
  have hk1 := hkW d1
  have a0' : ∀ d : Aft d1.w, d.w.cell? ⟨w.heap.size, 0, none⟩ = some (.slice aA apath.length ac) := fun d => a0 ⟨_, d1.ext.trans d.ext⟩
  have a1' : ∀ d : Aft d1.w, d.w.cell? ⟨w.heap.size, 1, none⟩ = some (.string aid) := fun d => a1 ⟨_, d1.ext.trans d.ext⟩
  have a2' : ∀ d : Aft d1.w, d.w.cell? ⟨w.heap.size, 2, none⟩ = some (.string atitle) := fun d => a2 ⟨_, d1.ext.trans d.ext⟩
  have a3' : ∀ d : Aft d1.w, d.w.cell? ⟨w.heap.size, 3, none⟩ = some (.string alink) := fun d => a3 ⟨_, d1.ext.trans d.ext⟩
  have a4' : ∀ d : Aft d1.w, d.w.cell? ⟨w.heap.size, 4, none⟩ = some (.int .i64 aupd) := fun d => a4 ⟨_, d1.ext.trans d.ext⟩
  have a5' : ∀ d : Aft d1.w, d.w.cell? ⟨w.heap.size, 5, none⟩ = some (.slice aB am ad) := fun d => a5 ⟨_, d1.ext.trans d.ext⟩
  have b0' : ∀ d : Aft d1.w, d.w.cell? ⟨w.heap.size + 1, 0, none⟩ = some (.slice bA bpath.length bc) := fun d => b0 ⟨_, d1.ext.trans d.ext⟩
  have b1' : ∀ d : Aft d1.w, d.w.cell? ⟨w.heap.size + 1, 1, none⟩ = some (.string bid) := fun d => b1 ⟨_, d1.ext.trans d.ext⟩
  have b2' : ∀ d : Aft d1.w, d.w.cell? ⟨w.heap.size + 1, 2, none⟩ = some (.string btitle) := fun d => b2 ⟨_, d1.ext.trans d.ext⟩
  have b3' : ∀ d : Aft d1.w, d.w.cell? ⟨w.heap.size + 1, 3, none⟩ = some (.string blink) := fun d => b3 ⟨_, d1.ext.trans d.ext⟩
  have b4' : ∀ d : Aft d1.w, d.w.cell? ⟨w.heap.size + 1, 4, none⟩ = some (.int .i64 bupd) := fun d => b4 ⟨_, d1.ext.trans d.ext⟩
  have b5' : ∀ d : Aft d1.w, d.w.cell? ⟨w.heap.size + 1, 5, none⟩ = some (.slice bB bm bd) := fun d => b5 ⟨_, d1.ext.trans d.ext⟩
  have hk2 : ∀ d : Aft d1.w, d.w.heap[w.heap.size + 1 + 1]? = some (.cells #[.slice none 0 0, .string ⟨#[]⟩, .string ⟨#[]⟩, .string ⟨#[]⟩, .int .i64 0, .slice none 0 0] 35) := fun d => d.ext.heap hk1
  clear a0 a1 a2 a3 a4 a5 b0 b1 b2 b3 b4 b5 hkW hk1
  generalize d1.w = W1 at *
  go_wp2
  refine wp_region_aft (by kernel_rfl) (by kernel_rfl) ?_
  repeat (first | go_big_quiet_step ((first | (go_at_call 86; with_reducible exact quiet_call (HKA.out _ (hE1.ext (Aft.ext _)) (hx1.trans (Aft.ext _)))) | (go_at_call 86; with_reducible exact quiet_call (HKB.out _ (hE1.ext (Aft.ext _)) (hx1.trans (Aft.ext _)))))) | quiet_step ((first | (go_at_call 86; with_reducible exact quiet_call (HKA.out _ (hE1.ext (Aft.ext _)) (hx1.trans (Aft.ext _)))) | (go_at_call 86; with_reducible exact quiet_call (HKB.out _ (hE1.ext (Aft.ext _)) (hx1.trans (Aft.ext _)))))))
  refine wpQuiet_nil ?_
  rintro _ ⟨d2, rfl⟩
  have hkf := hk2 d2
  go_wp2_with (refine wpList_store_row rfl 35 (.tmp 8) (.tmp 32) rfl (w.heap.size + 1 + 1) _ rfl rfl _ _ hkf size_fd rfl (oneA H1.out) ?_)
  ((try simp only [Exit.inBlock, Exit.then]); refine bodyPost_ret (results_cell_row rfl _ _ _ _ _ _ _ rfl (setRow_heap _ _ _ _ _ _ hkf) Tryz.underlying35 rfl size_fd) rfl ?_)
  exact ⟨rfl, (hx1.trans d2.ext).setRow (by omega) _⟩
set_option maxRecDepth 100000 in
set_option maxHeartbeats 2000000 in
theorem laterF_p1 (a b : Fc) (w : World) (hE : Env w) (ha : fok a.f) (hb : fok b.f) (hra : RStrs w a.p a.f.path) (hrb : RStrs w b.p b.f.path) (hsa : isSl a.es) (hsb : isSl b.es) (hc : iCmp a.f.upd b.f.upd = 1) :
    Calls Tryz.prog 84 #[.agg (cellsC a).toArray, .agg (cellsC b).toArray, .func (.func 85) #[] #[], .func (.func 86) #[] #[]] w
      fun x w' => x = .returned (.agg (cellsC a).toArray) ∧ Ext w w' := by
  have HUA := Lib.hid (fun w' => updF_any a.p a.es a.f w')
  have HUB := Lib.hid (fun w' => updF_any b.p b.es b.f w')
  have HKA := Lib.hid (fun w' h (hx : Ext w w') => feedKey_any a.p a.es a.f w' h ha (hra.ext hx))
  have HKB := Lib.hid (fun w' h (hx : Ext w w') => feedKey_any b.p b.es b.f w' h hb (hrb.ext hx))
  have HC := Lib.hid (fun w' => cmpInt_any a.f.upd b.f.upd w')
  rw [show (if a.f.upd < b.f.upd then (-1 : Int) else if b.f.upd < a.f.upd then 1 else 0) = 1 from hc] at HC
  have h1 := cellsC_one (SlPair.sl (w := w) ⟨hra, hsa⟩)
  generalize feedKey a.f = ka at *
  generalize feedKey b.f = kb at *
  clear hc ha hb
  obtain ⟨ap, aes, ⟨apath, aid, atitle, alink, aupd, aents⟩⟩ := a
  obtain ⟨bp, bes, ⟨bpath, bid, btitle, blink, bupd, bents⟩⟩ := b
  obtain ⟨aA, ac, hp1, _, _⟩ := hra.form
  obtain ⟨bA, bc, hp2, _, _⟩ := hrb.form
  obtain ⟨aB, am, ad, hp3⟩ := hsa
  obtain ⟨bB, bm, bd, hp4⟩ := hsb
  simp only at hp1 hp2 hp3 hp4
  subst hp1 hp2 hp3 hp4
  clear hra hrb
  have H1 := Lib.hid h1
  clear h1
  unfold cellsC fCells at *
  dsimp only at *
  go_enter Tryz.func84, Tryz.ntmps84
  go_wp2
  obtain ⟨W, hW⟩ : ∃ W, W = ((w.alloc (.cells #[.slice aA apath.length ac, .string aid, .string atitle, .string alink, .int .i64 aupd, .slice aB am ad] 35)).alloc (.cells #[.slice bA bpath.length bc, .string bid, .string btitle, .string blink, .int .i64 bupd, .slice bB bm bd] 35)).alloc (.cells #[.slice none 0 0, .string ⟨#[]⟩, .string ⟨#[]⟩, .string ⟨#[]⟩, .int .i64 0, .slice none 0 0] 35) := ⟨_, rfl⟩
  rw [← hW]
  have hxW : Ext w W := by rw [hW]; exact (((Ext.refl w).alloc _).alloc _).alloc _
  have hkW : ∀ d : Aft W, d.w.heap[w.heap.size + 1 + 1]? = some (.cells #[.slice none 0 0, .string ⟨#[]⟩, .string ⟨#[]⟩, .string ⟨#[]⟩, .int .i64 0, .slice none 0 0] 35) := by rw [hW]; exact fun d => d.ext.heap (heap_alloc3_new w _ _ _)
  have a0 : ∀ d : Aft W, d.w.cell? ⟨w.heap.size, 0, none⟩ = some (.slice aA apath.length ac) := by rw [hW]; exact fun d => boxed3a d 0 _ rfl
  have a1 : ∀ d : Aft W, d.w.cell? ⟨w.heap.size, 1, none⟩ = some (.string aid) := by rw [hW]; exact fun d => boxed3a d 1 _ rfl
  have a2 : ∀ d : Aft W, d.w.cell? ⟨w.heap.size, 2, none⟩ = some (.string atitle) := by rw [hW]; exact fun d => boxed3a d 2 _ rfl
  have a3 : ∀ d : Aft W, d.w.cell? ⟨w.heap.size, 3, none⟩ = some (.string alink) := by rw [hW]; exact fun d => boxed3a d 3 _ rfl
  have a4 : ∀ d : Aft W, d.w.cell? ⟨w.heap.size, 4, none⟩ = some (.int .i64 aupd) := by rw [hW]; exact fun d => boxed3a d 4 _ rfl
  have a5 : ∀ d : Aft W, d.w.cell? ⟨w.heap.size, 5, none⟩ = some (.slice aB am ad) := by rw [hW]; exact fun d => boxed3a d 5 _ rfl
  have b0 : ∀ d : Aft W, d.w.cell? ⟨w.heap.size + 1, 0, none⟩ = some (.slice bA bpath.length bc) := by rw [hW]; exact fun d => boxed3b d 0 _ rfl
  have b1 : ∀ d : Aft W, d.w.cell? ⟨w.heap.size + 1, 1, none⟩ = some (.string bid) := by rw [hW]; exact fun d => boxed3b d 1 _ rfl
  have b2 : ∀ d : Aft W, d.w.cell? ⟨w.heap.size + 1, 2, none⟩ = some (.string btitle) := by rw [hW]; exact fun d => boxed3b d 2 _ rfl
  have b3 : ∀ d : Aft W, d.w.cell? ⟨w.heap.size + 1, 3, none⟩ = some (.string blink) := by rw [hW]; exact fun d => boxed3b d 3 _ rfl
  have b4 : ∀ d : Aft W, d.w.cell? ⟨w.heap.size + 1, 4, none⟩ = some (.int .i64 bupd) := by rw [hW]; exact fun d => boxed3b d 4 _ rfl
  have b5 : ∀ d : Aft W, d.w.cell? ⟨w.heap.size + 1, 5, none⟩ = some (.slice bB bm bd) := by rw [hW]; exact fun d => boxed3b d 5 _ rfl
  clear hW
  refine wp_region_aft (by kernel_rfl) (by kernel_rfl) ?_
  repeat (quiet_step ((first
    | (go_at_call 85; with_reducible exact quiet_call (HUA.out _))
    | (go_at_call 85; with_reducible exact quiet_call (HUB.out _))
    | (go_at_call 109; with_reducible exact quiet_call_same' (HC.out _)))))
  refine wpQuiet_nil ?_
  rintro _ ⟨d1, rfl⟩
  have hE1 : Env d1.w := hE.ext (hxW.trans d1.ext)
  have hx1 := hxW.trans d1.ext
  have hk1 := hkW d1
  have a0' : ∀ d : Aft d1.w, d.w.cell? ⟨w.heap.size, 0, none⟩ = some (.slice aA apath.length ac) := fun d => a0 ⟨_, d1.ext.trans d.ext⟩
  have a1' : ∀ d : Aft d1.w, d.w.cell? ⟨w.heap.size, 1, none⟩ = some (.string aid) := fun d => a1 ⟨_, d1.ext.trans d.ext⟩
  have a2' : ∀ d : Aft d1.w, d.w.cell? ⟨w.heap.size, 2, none⟩ = some (.string atitle) := fun d => a2 ⟨_, d1.ext.trans d.ext⟩
  have a3' : ∀ d : Aft d1.w, d.w.cell? ⟨w.heap.size, 3, none⟩ = some (.string alink) := fun d => a3 ⟨_, d1.ext.trans d.ext⟩
  have a4' : ∀ d : Aft d1.w, d.w.cell? ⟨w.heap.size, 4, none⟩ = some (.int .i64 aupd) := fun d => a4 ⟨_, d1.ext.trans d.ext⟩
  have a5' : ∀ d : Aft d1.w, d.w.cell? ⟨w.heap.size, 5, none⟩ = some (.slice aB am ad) := fun d => a5 ⟨_, d1.ext.trans d.ext⟩
  have b0' : ∀ d : Aft d1.w, d.w.cell? ⟨w.heap.size + 1, 0, none⟩ = some (.slice bA bpath.length bc) := fun d => b0 ⟨_, d1.ext.trans d.ext⟩
  have b1' : ∀ d : Aft d1.w, d.w.cell? ⟨w.heap.size + 1, 1, none⟩ = some (.string bid) := fun d => b1 ⟨_, d1.ext.trans d.ext⟩
  have b2' : ∀ d : Aft d1.w, d.w.cell? ⟨w.heap.size + 1, 2, none⟩ = some (.string btitle) := fun d => b2 ⟨_, d1.ext.trans d.ext⟩
  have b3' : ∀ d : Aft d1.w, d.w.cell? ⟨w.heap.size + 1, 3, none⟩ = some (.string blink) := fun d => b3 ⟨_, d1.ext.trans d.ext⟩
  have b4' : ∀ d : Aft d1.w, d.w.cell? ⟨w.heap.size + 1, 4, none⟩ = some (.int .i64 bupd) := fun d => b4 ⟨_, d1.ext.trans d.ext⟩
  have b5' : ∀ d : Aft d1.w, d.w.cell? ⟨w.heap.size + 1, 5, none⟩ = some (.slice bB bm bd) := fun d => b5 ⟨_, d1.ext.trans d.ext⟩
  have hk2 : ∀ d : Aft d1.w, d.w.heap[w.heap.size + 1 + 1]? = some (.cells #[.slice none 0 0, .string ⟨#[]⟩, .string ⟨#[]⟩, .string ⟨#[]⟩, .int .i64 0, .slice none 0 0] 35) := fun d => d.ext.heap hk1
  clear a0 a1 a2 a3 a4 a5 b0 b1 b2 b3 b4 b5 hkW hk1
  generalize d1.w = W1 at *
  go_wp2
  refine wp_region_aft (by kernel_rfl) (by kernel_rfl) ?_
  repeat (first | go_big_quiet_step ((first | (go_at_call 86; with_reducible exact quiet_call (HKA.out _ (hE1.ext (Aft.ext _)) (hx1.trans (Aft.ext _)))) | (go_at_call 86; with_reducible exact quiet_call (HKB.out _ (hE1.ext (Aft.ext _)) (hx1.trans (Aft.ext _)))))) | quiet_step ((first | (go_at_call 86; with_reducible exact quiet_call (HKA.out _ (hE1.ext (Aft.ext _)) (hx1.trans (Aft.ext _)))) | (go_at_call 86; with_reducible exact quiet_call (HKB.out _ (hE1.ext (Aft.ext _)) (hx1.trans (Aft.ext _)))))))
  refine wpQuiet_nil ?_
  rintro _ ⟨d2, rfl⟩
  have hkf := hk2 d2
  go_wp2_with (refine wpList_store_row rfl 35 (.tmp 8) (.tmp 33) rfl (w.heap.size + 1 + 1) _ rfl rfl _ _ hkf size_fd rfl (oneA H1.out) ?_)
  ((try simp only [Exit.inBlock, Exit.then]); refine bodyPost_ret (results_cell_row rfl _ _ _ _ _ _ _ rfl (setRow_heap _ _ _ _ _ _ hkf) Tryz.underlying35 rfl size_fd) rfl ?_)
  exact ⟨rfl, (hx1.trans d2.ext).setRow (by omega) _⟩
set_option maxRecDepth 100000 in
set_option maxHeartbeats 2000000 in
theorem laterF_z1 (a b : Fc) (w : World) (hE : Env w) (ha : fok a.f) (hb : fok b.f) (hra : RStrs w a.p a.f.path) (hrb : RStrs w b.p b.f.path) (hsa : isSl a.es) (hsb : isSl b.es) (hc : iCmp a.f.upd b.f.upd = 0) (hT : Op.bytesLess (feedKey a.f).toList (feedKey b.f).toList = true) :
    Calls Tryz.prog 84 #[.agg (cellsC a).toArray, .agg (cellsC b).toArray, .func (.func 85) #[] #[], .func (.func 86) #[] #[]] w
      fun x w' => x = .returned (.agg (cellsC b).toArray) ∧ Ext w w' := by
  have HUA := Lib.hid (fun w' => updF_any a.p a.es a.f w')
  have HUB := Lib.hid (fun w' => updF_any b.p b.es b.f w')
  have HKA := Lib.hid (fun w' h (hx : Ext w w') => feedKey_any a.p a.es a.f w' h ha (hra.ext hx))
  have HKB := Lib.hid (fun w' h (hx : Ext w w') => feedKey_any b.p b.es b.f w' h hb (hrb.ext hx))
  have HC := Lib.hid (fun w' => cmpInt_any a.f.upd b.f.upd w')
  rw [show (if a.f.upd < b.f.upd then (-1 : Int) else if b.f.upd < a.f.upd then 1 else 0) = 0 from hc] at HC
  have h1 := cellsC_one (SlPair.sl (w := w) ⟨hrb, hsb⟩)
  generalize feedKey a.f = ka at *
  generalize feedKey b.f = kb at *
  clear hc ha hb
  obtain ⟨ap, aes, ⟨apath, aid, atitle, alink, aupd, aents⟩⟩ := a
  obtain ⟨bp, bes, ⟨bpath, bid, btitle, blink, bupd, bents⟩⟩ := b
  obtain ⟨aA, ac, hp1, _, _⟩ := hra.form
  obtain ⟨bA, bc, hp2, _, _⟩ := hrb.form
  obtain ⟨aB, am, ad, hp3⟩ := hsa
  obtain ⟨bB, bm, bd, hp4⟩ := hsb
  simp only at hp1 hp2 hp3 hp4
  subst hp1 hp2 hp3 hp4
  clear hra hrb
  have H1 := Lib.hid h1
  clear h1
  unfold cellsC fCells at *
  dsimp only at *
  go_enter Tryz.func84, Tryz.ntmps84
  go_wp2
  obtain ⟨W, hW⟩ : ∃ W, W = ((w.alloc (.cells #[.slice aA apath.length ac, .string aid, .string atitle, .string alink, .int .i64 aupd, .slice aB am ad] 35)).alloc (.cells #[.slice bA bpath.length bc, .string bid, .string btitle, .string blink, .int .i64 bupd, .slice bB bm bd] 35)).alloc (.cells #[.slice none 0 0, .string ⟨#[]⟩, .string ⟨#[]⟩, .string ⟨#[]⟩, .int .i64 0, .slice none 0 0] 35) := ⟨_, rfl⟩
  rw [← hW]
  have hxW : Ext w W := by rw [hW]; exact (((Ext.refl w).alloc _).alloc _).alloc _
  have hkW : ∀ d : Aft W, d.w.heap[w.heap.size + 1 + 1]? = some (.cells #[.slice none 0 0, .string ⟨#[]⟩, .string ⟨#[]⟩, .string ⟨#[]⟩, .int .i64 0, .slice none 0 0] 35) := by rw [hW]; exact fun d => d.ext.heap (heap_alloc3_new w _ _ _)
  have a0 : ∀ d : Aft W, d.w.cell? ⟨w.heap.size, 0, none⟩ = some (.slice aA apath.length ac) := by rw [hW]; exact fun d => boxed3a d 0 _ rfl
  have a1 : ∀ d : Aft W, d.w.cell? ⟨w.heap.size, 1, none⟩ = some (.string aid) := by rw [hW]; exact fun d => boxed3a d 1 _ rfl
  have a2 : ∀ d : Aft W, d.w.cell? ⟨w.heap.size, 2, none⟩ = some (.string atitle) := by rw [hW]; exact fun d => boxed3a d 2 _ rfl
  have a3 : ∀ d : Aft W, d.w.cell? ⟨w.heap.size, 3, none⟩ = some (.string alink) := by rw [hW]; exact fun d => boxed3a d 3 _ rfl
  have a4 : ∀ d : Aft W, d.w.cell? ⟨w.heap.size, 4, none⟩ = some (.int .i64 aupd) := by rw [hW]; exact fun d => boxed3a d 4 _ rfl
  have a5 : ∀ d : Aft W, d.w.cell? ⟨w.heap.size, 5, none⟩ = some (.slice aB am ad) := by rw [hW]; exact fun d => boxed3a d 5 _ rfl
  have b0 : ∀ d : Aft W, d.w.cell? ⟨w.heap.size + 1, 0, none⟩ = some (.slice bA bpath.length bc) := by rw [hW]; exact fun d => boxed3b d 0 _ rfl
  have b1 : ∀ d : Aft W, d.w.cell? ⟨w.heap.size + 1, 1, none⟩ = some (.string bid) := by rw [hW]; exact fun d => boxed3b d 1 _ rfl
  have b2 : ∀ d : Aft W, d.w.cell? ⟨w.heap.size + 1, 2, none⟩ = some (.string btitle) := by rw [hW]; exact fun d => boxed3b d 2 _ rfl
  have b3 : ∀ d : Aft W, d.w.cell? ⟨w.heap.size + 1, 3, none⟩ = some (.string blink) := by rw [hW]; exact fun d => boxed3b d 3 _ rfl
  have b4 : ∀ d : Aft W, d.w.cell? ⟨w.heap.size + 1, 4, none⟩ = some (.int .i64 bupd) := by rw [hW]; exact fun d => boxed3b d 4 _ rfl
  have b5 : ∀ d : Aft W, d.w.cell? ⟨w.heap.size + 1, 5, none⟩ = some (.slice bB bm bd) := by rw [hW]; exact fun d => boxed3b d 5 _ rfl
  clear hW
  refine wp_region_aft (by kernel_rfl) (by kernel_rfl) ?_
  repeat (quiet_step ((first
    | (go_at_call 85; with_reducible exact quiet_call (HUA.out _))
    | (go_at_call 85; with_reducible exact quiet_call (HUB.out _))
    | (go_at_call 109; with_reducible exact quiet_call_same' (HC.out _)))))
  refine wpQuiet_nil ?_
  rintro _ ⟨d1, rfl⟩
  have hE1 : Env d1.w := hE.ext (hxW.trans d1.ext)
  have hx1 := hxW.trans d1.ext
  have hk1 := hkW d1
  have a0' : ∀ d : Aft d1.w, d.w.cell? ⟨w.heap.size, 0, none⟩ = some (.slice aA apath.length ac) := fun d => a0 ⟨_, d1.ext.trans d.ext⟩
  have a1' : ∀ d : Aft d1.w, d.w.cell? ⟨w.heap.size, 1, none⟩ = some (.string aid) := fun d => a1 ⟨_, d1.ext.trans d.ext⟩
  have a2' : ∀ d : Aft d1.w, d.w.cell? ⟨w.heap.size, 2, none⟩ = some (.string atitle) := fun d => a2 ⟨_, d1.ext.trans d.ext⟩
  have a3' : ∀ d : Aft d1.w, d.w.cell? ⟨w.heap.size, 3, none⟩ = some (.string alink) := fun d => a3 ⟨_, d1.ext.trans d.ext⟩
  have a4' : ∀ d : Aft d1.w, d.w.cell? ⟨w.heap.size, 4, none⟩ = some (.int .i64 aupd) := fun d => a4 ⟨_, d1.ext.trans d.ext⟩
  have a5' : ∀ d : Aft d1.w, d.w.cell? ⟨w.heap.size, 5, none⟩ = some (.slice aB am ad) := fun d => a5 ⟨_, d1.ext.trans d.ext⟩
  have b0' : ∀ d : Aft d1.w, d.w.cell? ⟨w.heap.size + 1, 0, none⟩ = some (.slice bA bpath.length bc) := fun d => b0 ⟨_, d1.ext.trans d.ext⟩
  have b1' : ∀ d : Aft d1.w, d.w.cell? ⟨w.heap.size + 1, 1, none⟩ = some (.string bid) := fun d => b1 ⟨_, d1.ext.trans d.ext⟩
  have b2' : ∀ d : Aft d1.w, d.w.cell? ⟨w.heap.size + 1, 2, none⟩ = some (.string btitle) := fun d => b2 ⟨_, d1.ext.trans d.ext⟩
  have b3' : ∀ d : Aft d1.w, d.w.cell? ⟨w.heap.size + 1, 3, none⟩ = some (.string blink) := fun d => b3 ⟨_, d1.ext.trans d.ext⟩
  have b4' : ∀ d : Aft d1.w, d.w.cell? ⟨w.heap.size + 1, 4, none⟩ = some (.int .i64 bupd) := fun d => b4 ⟨_, d1.ext.trans d.ext⟩
  have b5' : ∀ d : Aft d1.w, d.w.cell? ⟨w.heap.size + 1, 5, none⟩ = some (.slice bB bm bd) := fun d => b5 ⟨_, d1.ext.trans d.ext⟩
  have hk2 : ∀ d : Aft d1.w, d.w.heap[w.heap.size + 1 + 1]? = some (.cells #[.slice none 0 0, .string ⟨#[]⟩, .string ⟨#[]⟩, .string ⟨#[]⟩, .int .i64 0, .slice none 0 0] 35) := fun d => d.ext.heap hk1
  clear a0 a1 a2 a3 a4 a5 b0 b1 b2 b3 b4 b5 hkW hk1
  generalize d1.w = W1 at *
  go_wp2
  refine wp_region_aft (by kernel_rfl) (by kernel_rfl) ?_
  repeat (first | go_big_quiet_step ((first | (go_at_call 86; with_reducible exact quiet_call (HKA.out _ (hE1.ext (Aft.ext _)) (hx1.trans (Aft.ext _)))) | (go_at_call 86; with_reducible exact quiet_call (HKB.out _ (hE1.ext (Aft.ext _)) (hx1.trans (Aft.ext _)))))) | quiet_step ((first | (go_at_call 86; with_reducible exact quiet_call (HKA.out _ (hE1.ext (Aft.ext _)) (hx1.trans (Aft.ext _)))) | (go_at_call 86; with_reducible exact quiet_call (HKB.out _ (hE1.ext (Aft.ext _)) (hx1.trans (Aft.ext _)))))))
  refine wpQuiet_nil ?_
  rintro _ ⟨d2, rfl⟩
  have hkf := hk2 d2
  go_wp2_with (refine wpList_store_row rfl 35 (.tmp 8) (.tmp 32) rfl (w.heap.size + 1 + 1) _ rfl rfl _ _ hkf size_fd rfl (oneA H1.out) ?_)
  ((try simp only [Exit.inBlock, Exit.then]); refine bodyPost_ret (results_cell_row rfl _ _ _ _ _ _ _ rfl (setRow_heap _ _ _ _ _ _ hkf) Tryz.underlying35 rfl size_fd) rfl ?_)
  exact ⟨rfl, (hx1.trans d2.ext).setRow (by omega) _⟩
set_option maxRecDepth 100000 in
set_option maxHeartbeats 2000000 in
theorem laterF_z0 (a b : Fc) (w : World) (hE : Env w) (ha : fok a.f) (hb : fok b.f) (hra : RStrs w a.p a.f.path) (hrb : RStrs w b.p b.f.path) (hsa : isSl a.es) (hsb : isSl b.es) (hc : iCmp a.f.upd b.f.upd = 0) (hT : Op.bytesLess (feedKey a.f).toList (feedKey b.f).toList = false) :
    Calls Tryz.prog 84 #[.agg (cellsC a).toArray, .agg (cellsC b).toArray, .func (.func 85) #[] #[], .func (.func 86) #[] #[]] w
      fun x w' => x = .returned (.agg (cellsC a).toArray) ∧ Ext w w' := by
  have HUA := Lib.hid (fun w' => updF_any a.p a.es a.f w')
  have HUB := Lib.hid (fun w' => updF_any b.p b.es b.f w')
  have HKA := Lib.hid (fun w' h (hx : Ext w w') => feedKey_any a.p a.es a.f w' h ha (hra.ext hx))
  have HKB := Lib.hid (fun w' h (hx : Ext w w') => feedKey_any b.p b.es b.f w' h hb (hrb.ext hx))
  have HC := Lib.hid (fun w' => cmpInt_any a.f.upd b.f.upd w')
  rw [show (if a.f.upd < b.f.upd then (-1 : Int) else if b.f.upd < a.f.upd then 1 else 0) = 0 from hc] at HC
  have h1 := cellsC_one (SlPair.sl (w := w) ⟨hra, hsa⟩)
  generalize feedKey a.f = ka at *
  generalize feedKey b.f = kb at *
  clear hc ha hb
  obtain ⟨ap, aes, ⟨apath, aid, atitle, alink, aupd, aents⟩⟩ := a
  obtain ⟨bp, bes, ⟨bpath, bid, btitle, blink, bupd, bents⟩⟩ := b
  obtain ⟨aA, ac, hp1, _, _⟩ := hra.form
  obtain ⟨bA, bc, hp2, _, _⟩ := hrb.form
  obtain ⟨aB, am, ad, hp3⟩ := hsa
  obtain ⟨bB, bm, bd, hp4⟩ := hsb
  simp only at hp1 hp2 hp3 hp4
  subst hp1 hp2 hp3 hp4
  clear hra hrb
  have H1 := Lib.hid h1
  clear h1
  unfold cellsC fCells at *
  dsimp only at *
  go_enter Tryz.func84, Tryz.ntmps84
  go_wp2
  obtain ⟨W, hW⟩ : ∃ W, W = ((w.alloc (.cells #[.slice aA apath.length ac, .string aid, .string atitle, .string alink, .int .i64 aupd, .slice aB am ad] 35)).alloc (.cells #[.slice bA bpath.length bc, .string bid, .string btitle, .string blink, .int .i64 bupd, .slice bB bm bd] 35)).alloc (.cells #[.slice none 0 0, .string ⟨#[]⟩, .string ⟨#[]⟩, .string ⟨#[]⟩, .int .i64 0, .slice none 0 0] 35) := ⟨_, rfl⟩
  rw [← hW]
  have hxW : Ext w W := by rw [hW]; exact (((Ext.refl w).alloc _).alloc _).alloc _
  have hkW : ∀ d : Aft W, d.w.heap[w.heap.size + 1 + 1]? = some (.cells #[.slice none 0 0, .string ⟨#[]⟩, .string ⟨#[]⟩, .string ⟨#[]⟩, .int .i64 0, .slice none 0 0] 35) := by rw [hW]; exact fun d => d.ext.heap (heap_alloc3_new w _ _ _)
  have a0 : ∀ d : Aft W, d.w.cell? ⟨w.heap.size, 0, none⟩ = some (.slice aA apath.length ac) := by rw [hW]; exact fun d => boxed3a d 0 _ rfl
  have a1 : ∀ d : Aft W, d.w.cell? ⟨w.heap.size, 1, none⟩ = some (.string aid) := by rw [hW]; exact fun d => boxed3a d 1 _ rfl
  have a2 : ∀ d : Aft W, d.w.cell? ⟨w.heap.size, 2, none⟩ = some (.string atitle) := by rw [hW]; exact fun d => boxed3a d 2 _ rfl
  have a3 : ∀ d : Aft W, d.w.cell? ⟨w.heap.size, 3, none⟩ = some (.string alink) := by rw [hW]; exact fun d => boxed3a d 3 _ rfl
  have a4 : ∀ d : Aft W, d.w.cell? ⟨w.heap.size, 4, none⟩ = some (.int .i64 aupd) := by rw [hW]; exact fun d => boxed3a d 4 _ rfl
  have a5 : ∀ d : Aft W, d.w.cell? ⟨w.heap.size, 5, none⟩ = some (.slice aB am ad) := by rw [hW]; exact fun d => boxed3a d 5 _ rfl
  have b0 : ∀ d : Aft W, d.w.cell? ⟨w.heap.size + 1, 0, none⟩ = some (.slice bA bpath.length bc) := by rw [hW]; exact fun d => boxed3b d 0 _ rfl
  have b1 : ∀ d : Aft W, d.w.cell? ⟨w.heap.size + 1, 1, none⟩ = some (.string bid) := by rw [hW]; exact fun d => boxed3b d 1 _ rfl
  have b2 : ∀ d : Aft W, d.w.cell? ⟨w.heap.size + 1, 2, none⟩ = some (.string btitle) := by rw [hW]; exact fun d => boxed3b d 2 _ rfl
  have b3 : ∀ d : Aft W, d.w.cell? ⟨w.heap.size + 1, 3, none⟩ = some (.string blink) := by rw [hW]; exact fun d => boxed3b d 3 _ rfl
  have b4 : ∀ d : Aft W, d.w.cell? ⟨w.heap.size + 1, 4, none⟩ = some (.int .i64 bupd) := by rw [hW]; exact fun d => boxed3b d 4 _ rfl
  have b5 : ∀ d : Aft W, d.w.cell? ⟨w.heap.size + 1, 5, none⟩ = some (.slice bB bm bd) := by rw [hW]; exact fun d => boxed3b d 5 _ rfl
  clear hW
  refine wp_region_aft (by kernel_rfl) (by kernel_rfl) ?_
  repeat (quiet_step ((first
    | (go_at_call 85; with_reducible exact quiet_call (HUA.out _))
    | (go_at_call 85; with_reducible exact quiet_call (HUB.out _))
    | (go_at_call 109; with_reducible exact quiet_call_same' (HC.out _)))))
  refine wpQuiet_nil ?_
  rintro _ ⟨d1, rfl⟩
  have hE1 : Env d1.w := hE.ext (hxW.trans d1.ext)
  have hx1 := hxW.trans d1.ext
  have hk1 := hkW d1
  have a0' : ∀ d : Aft d1.w, d.w.cell? ⟨w.heap.size, 0, none⟩ = some (.slice aA apath.length ac) := fun d => a0 ⟨_, d1.ext.trans d.ext⟩
  have a1' : ∀ d : Aft d1.w, d.w.cell? ⟨w.heap.size, 1, none⟩ = some (.string aid) := fun d => a1 ⟨_, d1.ext.trans d.ext⟩
  have a2' : ∀ d : Aft d1.w, d.w.cell? ⟨w.heap.size, 2, none⟩ = some (.string atitle) := fun d => a2 ⟨_, d1.ext.trans d.ext⟩
  have a3' : ∀ d : Aft d1.w, d.w.cell? ⟨w.heap.size, 3, none⟩ = some (.string alink) := fun d => a3 ⟨_, d1.ext.trans d.ext⟩
  have a4' : ∀ d : Aft d1.w, d.w.cell? ⟨w.heap.size, 4, none⟩ = some (.int .i64 aupd) := fun d => a4 ⟨_, d1.ext.trans d.ext⟩
  have a5' : ∀ d : Aft d1.w, d.w.cell? ⟨w.heap.size, 5, none⟩ = some (.slice aB am ad) := fun d => a5 ⟨_, d1.ext.trans d.ext⟩
  have b0' : ∀ d : Aft d1.w, d.w.cell? ⟨w.heap.size + 1, 0, none⟩ = some (.slice bA bpath.length bc) := fun d => b0 ⟨_, d1.ext.trans d.ext⟩
  have b1' : ∀ d : Aft d1.w, d.w.cell? ⟨w.heap.size + 1, 1, none⟩ = some (.string bid) := fun d => b1 ⟨_, d1.ext.trans d.ext⟩
  have b2' : ∀ d : Aft d1.w, d.w.cell? ⟨w.heap.size + 1, 2, none⟩ = some (.string btitle) := fun d => b2 ⟨_, d1.ext.trans d.ext⟩
  have b3' : ∀ d : Aft d1.w, d.w.cell? ⟨w.heap.size + 1, 3, none⟩ = some (.string blink) := fun d => b3 ⟨_, d1.ext.trans d.ext⟩
  have b4' : ∀ d : Aft d1.w, d.w.cell? ⟨w.heap.size + 1, 4, none⟩ = some (.int .i64 bupd) := fun d => b4 ⟨_, d1.ext.trans d.ext⟩
  have b5' : ∀ d : Aft d1.w, d.w.cell? ⟨w.heap.size + 1, 5, none⟩ = some (.slice bB bm bd) := fun d => b5 ⟨_, d1.ext.trans d.ext⟩
  have hk2 : ∀ d : Aft d1.w, d.w.heap[w.heap.size + 1 + 1]? = some (.cells #[.slice none 0 0, .string ⟨#[]⟩, .string ⟨#[]⟩, .string ⟨#[]⟩, .int .i64 0, .slice none 0 0] 35) := fun d => d.ext.heap hk1
  clear a0 a1 a2 a3 a4 a5 b0 b1 b2 b3 b4 b5 hkW hk1
  generalize d1.w = W1 at *
  go_wp2
  refine wp_region_aft (by kernel_rfl) (by kernel_rfl) ?_
  repeat (first | go_big_quiet_step ((first | (go_at_call 86; with_reducible exact quiet_call (HKA.out _ (hE1.ext (Aft.ext _)) (hx1.trans (Aft.ext _)))) | (go_at_call 86; with_reducible exact quiet_call (HKB.out _ (hE1.ext (Aft.ext _)) (hx1.trans (Aft.ext _)))))) | quiet_step ((first | (go_at_call 86; with_reducible exact quiet_call (HKA.out _ (hE1.ext (Aft.ext _)) (hx1.trans (Aft.ext _)))) | (go_at_call 86; with_reducible exact quiet_call (HKB.out _ (hE1.ext (Aft.ext _)) (hx1.trans (Aft.ext _)))))))
  refine wpQuiet_nil ?_
  rintro _ ⟨d2, rfl⟩
  have hkf := hk2 d2
  go_wp2_with (refine wpList_store_row rfl 35 (.tmp 8) (.tmp 33) rfl (w.heap.size + 1 + 1) _ rfl rfl _ _ hkf size_fd rfl (oneA H1.out) ?_)
  ((try simp only [Exit.inBlock, Exit.then]); refine bodyPost_ret (results_cell_row rfl _ _ _ _ _ _ _ rfl (setRow_heap _ _ _ _ _ _ hkf) Tryz.underlying35 rfl size_fd) rfl ?_)
  exact ⟨rfl, (hx1.trans d2.ext).setRow (by omega) _⟩
theorem laterF1_any (a b : Fc) (w : World) (hE : Env w) (ha : fok a.f) (hb : fok b.f) (hra : RStrs w a.p a.f.path) (hrb : RStrs w b.p b.f.path) (hsa : isSl a.es) (hsb : isSl b.es) :
    Calls Tryz.prog 84 #[.agg (cellsC a).toArray, .agg (cellsC b).toArray, .func (.func 85) #[] #[], .func (.func 86) #[] #[]] w
      fun x w' => x = .returned (.agg (cellsC (if laterB (iCmp a.f.upd b.f.upd) (feedKey a.f) (feedKey b.f) then b else a)).toArray) ∧ Ext w w' := by
  rcases iCmp_vals a.f.upd b.f.upd with h | h | h
  · have e : laterB (iCmp a.f.upd b.f.upd) (feedKey a.f) (feedKey b.f) = true := by unfold laterB; rw [h]; rfl
    rw [if_pos e]; exact laterF_m1 a b w hE ha hb hra hrb hsa hsb h
  · cases hT : Op.bytesLess (feedKey a.f).toList (feedKey b.f).toList with
    | true =>
      have e : laterB (iCmp a.f.upd b.f.upd) (feedKey a.f) (feedKey b.f) = true := by unfold laterB; rw [h, hT]; rfl
      rw [if_pos e]; exact laterF_z1 a b w hE ha hb hra hrb hsa hsb h hT
    | false =>
      have e : laterB (iCmp a.f.upd b.f.upd) (feedKey a.f) (feedKey b.f) = false := by unfold laterB; rw [h, hT]; rfl
      rw [if_neg (by rw [e]; decide)]; exact laterF_z0 a b w hE ha hb hra hrb hsa hsb h hT
  · have e : laterB (iCmp a.f.upd b.f.upd) (feedKey a.f) (feedKey b.f) = false := by unfold laterB; rw [h]; rfl
    rw [if_neg (by rw [e]; decide)]; exact laterF_p1 a b w hE ha hb hra hrb hsa hsb h
set_option maxRecDepth 100000 in
set_option maxHeartbeats 2000000 in
theorem laterFeed_any (a b : Fc) (w : World) (hE : Env w) (ha : fok a.f) (hb : fok b.f) (hra : RStrs w a.p a.f.path) (hrb : RStrs w b.p b.f.path) (hsa : isSl a.es) (hsb : isSl b.es) :
    Calls Tryz.prog 59 #[.agg (cellsC a).toArray, .agg (cellsC b).toArray] w
      fun x w' => ∃ p', x = .returned (.agg (fCells p' (.slice none 0 0) (laterF a.f b.f)).toArray) ∧ w'.ownsRow w.heap.size 9 1 p' (laterF a.f b.f).path.length ((laterF a.f b.f).path.map Value.string) ∧ Ext w w' := by
  have HX : Hid (∀ (A B C : Obj), Ext w (((w.alloc A).alloc B).alloc C)) := Lib.hid fun A B C => (((Ext.refl w).alloc A).alloc B).alloc C
  have HL := Lib.hid (fun (w' : World) (h : Ext w w') => laterF1_any a b w' (hE.ext h) ha hb (hra.ext h) (hrb.ext h) hsa hsb)
  obtain ⟨r, hr⟩ : ∃ r, (if laterB (iCmp a.f.upd b.f.upd) (feedKey a.f) (feedKey b.f) then b else a) = r := ⟨_, rfl⟩
  have hfr : laterF a.f b.f = { r.f with ents := [] } := by
    rw [← hr]
    unfold laterF
    cases laterB (iCmp a.f.upd b.f.upd) (feedKey a.f) (feedKey b.f) <;> rfl
  have hrr : RStrs w r.p r.f.path := by
    rw [← hr]
    split <;> assumption
  have hrs : isSl r.es := by
    rw [← hr]
    split <;> assumption
  have hrk : fok r.f := by
    rw [← hr]
    split <;> assumption
  rw [hr] at HL
  rw [hfr]
  clear hr hfr
  have hsa' := SlPair.sl (w := w) ⟨hra, hsa⟩
  have hsb' := SlPair.sl (w := w) ⟨hrb, hsb⟩
  obtain ⟨ap, aes, ⟨apath, aid, atitle, alink, aupd, aents⟩⟩ := a
  obtain ⟨bp, bes, ⟨bpath, bid, btitle, blink, bupd, bents⟩⟩ := b
  obtain ⟨rp, res, ⟨rpath, rid, rtitle, rlink, rupd, rents⟩⟩ := r
  obtain ⟨⟨aA, an, ac, hp1⟩, ⟨aB, am, ad, hp3⟩⟩ := hsa'
  obtain ⟨⟨bA, bn, bc, hp2⟩, ⟨bB, bm, bd, hp4⟩⟩ := hsb'
  obtain ⟨rA, rc, hp5, _, _⟩ := hrr.form
  obtain ⟨rB, rm, rd, hp6⟩ := hrs
  simp only at hp1 hp2 hp3 hp4 hp5 hp6
  subst hp1 hp2 hp3 hp4 hp5 hp6
  have hrl : rpath.length ≤ 16777216 := by have := hrk.2; simp at this; omega
  have HCL := Lib.hid (fun (w' : World) (h : Ext w w') => clone_str _ rpath.length (rpath.map Value.string) w' (hrr.ext h) (by intro u hu; obtain ⟨s, _, rfl⟩ := List.mem_map.1 hu; rfl) (by omega))
  clear hra hrb hrr hrk ha hb
  dsimp only at HCL ⊢
  unfold cellsC at HL ⊢
  unfold fCells at HL ⊢
  dsimp only at HL ⊢
  go_enter Tryz.func59, Tryz.ntmps59
  go_wp2_with (first
    | (go_at_call 84; refine (HL.out _ (HX.out _ _ _)).mono ?_; rintro e w1 ⟨rfl, hx1⟩; (have hk1 := hx1.heap (heap_alloc3_new w _ _ _)); (have hs1 := hx1.size); simp only [size_alloc] at hs1)
    | (go_at_call 50; refine (HCL.out _ ((HX.out _ _ _).trans (hx1.trans ((Ext.refl _).alloc _)))).mono ?_; rintro e w2 ⟨p2, rfl, hown2, hx2⟩; (obtain ⟨A2, cc2, hp2⟩ : ∃ A c, p2 = .slice A rpath.length c := (by obtain ⟨A, c, e, _⟩ := (RSl.of_own hown2).2; exact ⟨A, c, e⟩)); subst hp2; (have c0 := hx2.boxed 0 _ rfl); (have c1 := hx2.boxed 1 _ rfl); (have c2 := hx2.boxed 2 _ rfl); (have c3 := hx2.boxed 3 _ rfl); (have c4 := hx2.boxed 4 _ rfl); (have c5 := hx2.boxed 5 _ rfl); (have f0 := hx2.boxedF 0); (have f5 := hx2.boxedF 5); (have hk2 := hx2.heap (((Ext.refl w1).alloc _).heap hk1)); (have HOWN := Lib.hid hown2); clear hown2; (have hk3 := (heap_setCell_other (w2.setCell ⟨w1.heap.size, 0, none⟩ (.slice A2 rpath.length cc2)) ⟨w1.heap.size, 5, none⟩ (w.heap.size + 1 + 1) (.slice none 0 0) (by show w.heap.size + 1 + 1 ≠ w1.heap.size; omega)).trans ((heap_setCell_other w2 ⟨w1.heap.size, 0, none⟩ (w.heap.size + 1 + 1) (.slice A2 rpath.length cc2) (by show w.heap.size + 1 + 1 ≠ w1.heap.size; omega)).trans hk2)))
    | (refine wpList_store_row rfl 35 (.tmp 4) (.tmp 14) rfl (w.heap.size + 1 + 1) _ rfl rfl _ _ hk3 size_fd rfl oneF ?_))
  ((try simp only [Exit.inBlock, Exit.then]); refine bodyPost_ret (results_cell_row rfl _ _ _ _ _ _ _ rfl (setRow_heap _ _ _ #[.slice A2 rpath.length cc2, .string rid, .string rtitle, .string rlink, .int .i64 rupd, .slice none 0 0] _ _ hk3) Tryz.underlying35 rfl size_fd) rfl ?_)
  have hx2' := hx1.trans (((Ext.refl w1).alloc _).trans hx2)
  have hxW := (HX.out _ _ _).trans hx2'
  have hs3 : w1.heap.size + 1 ≤ w2.heap.size := by have := hx2.size; rwa [size_alloc] at this
  have ho := HOWN.out
  have hob := ho.lt
  rw [size_alloc] at hob
  refine ⟨_, rfl, ?_, ?_⟩
  · have hne : ∀ i, (Value.slice A2 rpath.length cc2).ownBlock ≠ some (⟨w1.heap.size, i, none⟩ : Addr).block := fun i e => absurd (hob _ e).1 (show ¬ (w1.heap.size + 1 ≤ w1.heap.size) by omega)
    have h1 := ownsRow_setCell_other ho (a := ⟨w1.heap.size, 0, none⟩) (hne 0) (.slice A2 rpath.length cc2)
    have h2 := ownsRow_setCell_other h1 (a := ⟨w1.heap.size, 5, none⟩) (hne 5) (.slice none 0 0)
    exact own_mono (own_setRow h2 (by rw [size_alloc]; omega) _) (by rw [size_alloc]; omega)
  · exact (Ext.setCell (Ext.setCell hxW (show w.heap.size ≤ w1.heap.size by omega) _) (show w.heap.size ≤ w1.heap.size by omega) _).setRow (by omega) _
end Go.Proofs.YtgecijhgonfldaaGreatDoor
