/- YtgecijhgonfldaaGreatDoor: texts CheckE, Alive, put one behind the other. -/
import Derived.Test.YtgecijhgonfldaaGreatDoorM06
import Derived.Test.YtgecijhgonfldaaGreatDoorM16
import Derived.Test.YtgecijhgonfldaaGreatDoorM34
/- Contracts: the reference's CheckEntry. -/
namespace Go.Proofs.YtgecijhgonfldaaGreatDoor
open Go Go.RowKit
set_option linter.unusedVariables false

set_option maxRecDepth 100000 in
set_option maxHeartbeats 1000000 in
theorem refCheckE_0 (e : Ent) (w : World) (hs : eokS e) (h0 : validS e.id = false) :
    Calls Tryz.prog 19 #[.agg (eCells e).toArray] w fun x w' => x = .returned (.int .i64 22) ∧ Ext w w' := by
  obtain ⟨s0, s1, s2, s3⟩ := hs
  have V0 := Lib.hid (fun w' => refValid_any e.id w' (by omega))
  rw [h0] at V0
  clear s0 s1 s2 s3 h0
  obtain ⟨id, title, link, content, upd⟩ := e
  unfold eCells
  dsimp only at *
  go_enter Tryz.func19, Tryz.ntmps19
  go_wp2_with (first
        | (go_at_call 47; (with_reducible refine Calls.mono (V0.out _) ?_); rintro e w1 ⟨rfl, hx1⟩; (have k1 := hx1.boxed 1 _ rfl)))
  go_ret
  exact ⟨rfl, ((Ext.refl _).alloc _).trans hx1⟩
set_option maxRecDepth 100000 in
set_option maxHeartbeats 1000000 in
theorem refCheckE_1 (e : Ent) (w : World) (hs : eokS e) (h0 : validS e.id = true) (h1 : validS e.title = false) :
    Calls Tryz.prog 19 #[.agg (eCells e).toArray] w fun x w' => x = .returned (.int .i64 22) ∧ Ext w w' := by
  obtain ⟨s0, s1, s2, s3⟩ := hs
  have V0 := Lib.hid (fun w' => refValid_any e.id w' (by omega))
  rw [h0] at V0
  have V1 := Lib.hid (fun w' => refValid_any e.title w' (by omega))
  rw [h1] at V1
  clear s0 s1 s2 s3 h0 h1
  obtain ⟨id, title, link, content, upd⟩ := e
  unfold eCells
  dsimp only at *
  go_enter Tryz.func19, Tryz.ntmps19
  go_wp2_with (first
        | (go_at_call 47; (with_reducible refine Calls.mono (V0.out _) ?_); rintro e w1 ⟨rfl, hx1⟩; (have k1 := hx1.boxed 1 _ rfl))
        | (go_at_call 47; (with_reducible refine Calls.mono (V1.out _) ?_); rintro e w2 ⟨rfl, hx2⟩; (have hy2 := hx1.trans hx2); (have k2 := hy2.boxed 2 _ rfl)))
  go_ret
  exact ⟨rfl, ((Ext.refl _).alloc _).trans hy2⟩
set_option maxRecDepth 100000 in
set_option maxHeartbeats 1000000 in
theorem refCheckE_2 (e : Ent) (w : World) (hs : eokS e) (h0 : validS e.id = true) (h1 : validS e.title = true) (h2 : validS e.link = false) :
    Calls Tryz.prog 19 #[.agg (eCells e).toArray] w fun x w' => x = .returned (.int .i64 22) ∧ Ext w w' := by
  obtain ⟨s0, s1, s2, s3⟩ := hs
  have V0 := Lib.hid (fun w' => refValid_any e.id w' (by omega))
  rw [h0] at V0
  have V1 := Lib.hid (fun w' => refValid_any e.title w' (by omega))
  rw [h1] at V1
  have V2 := Lib.hid (fun w' => refValid_any e.link w' (by omega))
  rw [h2] at V2
  clear s0 s1 s2 s3 h0 h1 h2
  obtain ⟨id, title, link, content, upd⟩ := e
  unfold eCells
  dsimp only at *
  go_enter Tryz.func19, Tryz.ntmps19
  go_wp2_with (first
        | (go_at_call 47; (with_reducible refine Calls.mono (V0.out _) ?_); rintro e w1 ⟨rfl, hx1⟩; (have k1 := hx1.boxed 1 _ rfl))
        | (go_at_call 47; (with_reducible refine Calls.mono (V1.out _) ?_); rintro e w2 ⟨rfl, hx2⟩; (have hy2 := hx1.trans hx2); (have k2 := hy2.boxed 2 _ rfl))
        | (go_at_call 47; (with_reducible refine Calls.mono (V2.out _) ?_); rintro e w3 ⟨rfl, hx3⟩; (have hy3 := hy2.trans hx3); (have k3 := hy3.boxed 3 _ rfl)))
  go_ret
  exact ⟨rfl, ((Ext.refl _).alloc _).trans hy3⟩
set_option maxRecDepth 100000 in
set_option maxHeartbeats 1000000 in
theorem refCheckE_3 (e : Ent) (w : World) (hs : eokS e) (h0 : validS e.id = true) (h1 : validS e.title = true) (h2 : validS e.link = true) (h3 : validS e.content = false) :
    Calls Tryz.prog 19 #[.agg (eCells e).toArray] w fun x w' => x = .returned (.int .i64 22) ∧ Ext w w' := by
  obtain ⟨s0, s1, s2, s3⟩ := hs
  have V0 := Lib.hid (fun w' => refValid_any e.id w' (by omega))
  rw [h0] at V0
  have V1 := Lib.hid (fun w' => refValid_any e.title w' (by omega))
  rw [h1] at V1
  have V2 := Lib.hid (fun w' => refValid_any e.link w' (by omega))
  rw [h2] at V2
  have V3 := Lib.hid (fun w' => refValid_any e.content w' (by omega))
  rw [h3] at V3
  clear s0 s1 s2 s3 h0 h1 h2 h3
  obtain ⟨id, title, link, content, upd⟩ := e
  unfold eCells
  dsimp only at *
  go_enter Tryz.func19, Tryz.ntmps19
  go_wp2_with (first
        | (go_at_call 47; (with_reducible refine Calls.mono (V0.out _) ?_); rintro e w1 ⟨rfl, hx1⟩; (have k1 := hx1.boxed 1 _ rfl))
        | (go_at_call 47; (with_reducible refine Calls.mono (V1.out _) ?_); rintro e w2 ⟨rfl, hx2⟩; (have hy2 := hx1.trans hx2); (have k2 := hy2.boxed 2 _ rfl))
        | (go_at_call 47; (with_reducible refine Calls.mono (V2.out _) ?_); rintro e w3 ⟨rfl, hx3⟩; (have hy3 := hy2.trans hx3); (have k3 := hy3.boxed 3 _ rfl))
        | (go_at_call 47; (with_reducible refine Calls.mono (V3.out _) ?_); rintro e w4 ⟨rfl, hx4⟩; (have hy4 := hy3.trans hx4); (have k4 := hy4.boxed 0 _ rfl); (have k5 := hy4.boxed 4 _ rfl)))
  go_ret
  exact ⟨rfl, ((Ext.refl _).alloc _).trans hy4⟩
set_option maxRecDepth 100000 in
set_option maxHeartbeats 1000000 in
theorem refCheckE_4 (e : Ent) (w : World) (hs : eokS e) (h0 : validS e.id = true) (h1 : validS e.title = true) (h2 : validS e.link = true) (h3 : validS e.content = true) (h4 : e.id.toList.isEmpty = true) :
    Calls Tryz.prog 19 #[.agg (eCells e).toArray] w fun x w' => x = .returned (.int .i64 22) ∧ Ext w w' := by
  obtain ⟨s0, s1, s2, s3⟩ := hs
  have V0 := Lib.hid (fun w' => refValid_any e.id w' (by omega))
  rw [h0] at V0
  have V1 := Lib.hid (fun w' => refValid_any e.title w' (by omega))
  rw [h1] at V1
  have V2 := Lib.hid (fun w' => refValid_any e.link w' (by omega))
  rw [h2] at V2
  have V3 := Lib.hid (fun w' => refValid_any e.content w' (by omega))
  rw [h3] at V3
  clear s0 s1 s2 s3 h0 h1 h2 h3
  obtain ⟨id, title, link, content, upd⟩ := e
  simp only at h4
  unfold eCells
  dsimp only at *
  go_enter Tryz.func19, Tryz.ntmps19
  go_wp2_with (first
        | (go_at_call 47; (with_reducible refine Calls.mono (V0.out _) ?_); rintro e w1 ⟨rfl, hx1⟩; (have k1 := hx1.boxed 1 _ rfl))
        | (go_at_call 47; (with_reducible refine Calls.mono (V1.out _) ?_); rintro e w2 ⟨rfl, hx2⟩; (have hy2 := hx1.trans hx2); (have k2 := hy2.boxed 2 _ rfl))
        | (go_at_call 47; (with_reducible refine Calls.mono (V2.out _) ?_); rintro e w3 ⟨rfl, hx3⟩; (have hy3 := hy2.trans hx3); (have k3 := hy3.boxed 3 _ rfl))
        | (go_at_call 47; (with_reducible refine Calls.mono (V3.out _) ?_); rintro e w4 ⟨rfl, hx4⟩; (have hy4 := hy3.trans hx4); (have k4 := hy4.boxed 0 _ rfl); (have k5 := hy4.boxed 4 _ rfl)))
  go_ret
  exact ⟨rfl, ((Ext.refl _).alloc _).trans hy4⟩
set_option maxRecDepth 100000 in
set_option maxHeartbeats 1000000 in
theorem refCheckE_5 (e : Ent) (w : World) (hs : eokS e) (h0 : validS e.id = true) (h1 : validS e.title = true) (h2 : validS e.link = true) (h3 : validS e.content = true) (h4 : e.id.toList.isEmpty = false) (h5 : inT e.upd = false) :
    Calls Tryz.prog 19 #[.agg (eCells e).toArray] w fun x w' => x = .returned (.int .i64 22) ∧ Ext w w' := by
  obtain ⟨s0, s1, s2, s3⟩ := hs
  have V0 := Lib.hid (fun w' => refValid_any e.id w' (by omega))
  rw [h0] at V0
  have V1 := Lib.hid (fun w' => refValid_any e.title w' (by omega))
  rw [h1] at V1
  have V2 := Lib.hid (fun w' => refValid_any e.link w' (by omega))
  rw [h2] at V2
  have V3 := Lib.hid (fun w' => refValid_any e.content w' (by omega))
  rw [h3] at V3
  have VT := Lib.hid (fun w' => refInTime_any e.upd w')
  rw [h5] at VT
  clear s0 s1 s2 s3 h0 h1 h2 h3 h5
  obtain ⟨id, title, link, content, upd⟩ := e
  simp only at h4
  unfold eCells
  dsimp only at *
  go_enter Tryz.func19, Tryz.ntmps19
  go_wp2_with (first
        | (go_at_call 47; (with_reducible refine Calls.mono (V0.out _) ?_); rintro e w1 ⟨rfl, hx1⟩; (have k1 := hx1.boxed 1 _ rfl))
        | (go_at_call 47; (with_reducible refine Calls.mono (V1.out _) ?_); rintro e w2 ⟨rfl, hx2⟩; (have hy2 := hx1.trans hx2); (have k2 := hy2.boxed 2 _ rfl))
        | (go_at_call 47; (with_reducible refine Calls.mono (V2.out _) ?_); rintro e w3 ⟨rfl, hx3⟩; (have hy3 := hy2.trans hx3); (have k3 := hy3.boxed 3 _ rfl))
        | (go_at_call 47; (with_reducible refine Calls.mono (V3.out _) ?_); rintro e w4 ⟨rfl, hx4⟩; (have hy4 := hy3.trans hx4); (have k4 := hy4.boxed 0 _ rfl); (have k5 := hy4.boxed 4 _ rfl))
        | (go_at_call 48; (with_reducible refine Calls.mono (VT.out _) ?_); rintro e w5 ⟨rfl, rfl⟩))
  go_ret
  exact ⟨rfl, ((Ext.refl _).alloc _).trans hy4⟩
set_option maxRecDepth 100000 in
set_option maxHeartbeats 1000000 in
theorem refCheckE_6 (e : Ent) (w : World) (hs : eokS e) (h0 : validS e.id = true) (h1 : validS e.title = true) (h2 : validS e.link = true) (h3 : validS e.content = true) (h4 : e.id.toList.isEmpty = false) (h5 : inT e.upd = true) :
    Calls Tryz.prog 19 #[.agg (eCells e).toArray] w fun x w' => x = .returned (.int .i64 0) ∧ Ext w w' := by
  obtain ⟨s0, s1, s2, s3⟩ := hs
  have V0 := Lib.hid (fun w' => refValid_any e.id w' (by omega))
  rw [h0] at V0
  have V1 := Lib.hid (fun w' => refValid_any e.title w' (by omega))
  rw [h1] at V1
  have V2 := Lib.hid (fun w' => refValid_any e.link w' (by omega))
  rw [h2] at V2
  have V3 := Lib.hid (fun w' => refValid_any e.content w' (by omega))
  rw [h3] at V3
  have VT := Lib.hid (fun w' => refInTime_any e.upd w')
  rw [h5] at VT
  clear s0 s1 s2 s3 h0 h1 h2 h3 h5
  obtain ⟨id, title, link, content, upd⟩ := e
  simp only at h4
  unfold eCells
  dsimp only at *
  go_enter Tryz.func19, Tryz.ntmps19
  go_wp2_with (first
        | (go_at_call 47; (with_reducible refine Calls.mono (V0.out _) ?_); rintro e w1 ⟨rfl, hx1⟩; (have k1 := hx1.boxed 1 _ rfl))
        | (go_at_call 47; (with_reducible refine Calls.mono (V1.out _) ?_); rintro e w2 ⟨rfl, hx2⟩; (have hy2 := hx1.trans hx2); (have k2 := hy2.boxed 2 _ rfl))
        | (go_at_call 47; (with_reducible refine Calls.mono (V2.out _) ?_); rintro e w3 ⟨rfl, hx3⟩; (have hy3 := hy2.trans hx3); (have k3 := hy3.boxed 3 _ rfl))
        | (go_at_call 47; (with_reducible refine Calls.mono (V3.out _) ?_); rintro e w4 ⟨rfl, hx4⟩; (have hy4 := hy3.trans hx4); (have k4 := hy4.boxed 0 _ rfl); (have k5 := hy4.boxed 4 _ rfl))
        | (go_at_call 48; (with_reducible refine Calls.mono (VT.out _) ?_); rintro e w5 ⟨rfl, rfl⟩))
  go_ret
  exact ⟨rfl, ((Ext.refl _).alloc _).trans hy4⟩
theorem refCheckE_any (e : Ent) (w : World) (hs : eokS e) :
    Calls Tryz.prog 19 #[.agg (eCells e).toArray] w fun x w' => x = .returned (.int .i64 (if okE e = true then 0 else 22)) ∧ Ext w w' := by
  have hk : okE e = (validS e.id && (validS e.title && (validS e.link && (validS e.content && true))) && !decide (e.id = noS) && inT e.upd) := rfl
  cases h0 : validS e.id
  · rw [if_neg (by rw [hk, h0]; simp)]; exact refCheckE_0 e w hs h0
  cases h1 : validS e.title
  · rw [if_neg (by rw [hk, h1]; simp)]; exact refCheckE_1 e w hs h0 h1
  cases h2 : validS e.link
  · rw [if_neg (by rw [hk, h2]; simp)]; exact refCheckE_2 e w hs h0 h1 h2
  cases h3 : validS e.content
  · rw [if_neg (by rw [hk, h3]; simp)]; exact refCheckE_3 e w hs h0 h1 h2 h3
  by_cases h4 : e.id = noS
  · rw [if_neg (by rw [hk]; simp [h4])]; exact refCheckE_4 e w hs h0 h1 h2 h3 (by rw [h4, ByteArray.toList_eq]; rfl)
  cases h5 : inT e.upd
  · rw [if_neg (by rw [hk, h5]; simp)]; exact refCheckE_5 e w hs h0 h1 h2 h3 (ne_noS h4) h5
  · rw [if_pos (by rw [hk, h0, h1, h2, h3, h5]; simp [h4])]; exact refCheckE_6 e w hs h0 h1 h2 h3 (ne_noS h4) h5
end Go.Proofs.YtgecijhgonfldaaGreatDoor
/- Contracts: law 14's alive. -/
namespace Go.Proofs.YtgecijhgonfldaaGreatDoor
open Go Go.RowKit
set_option linter.unusedVariables false

def aE (n : Int) : Ent := ⟨⟨#[97]⟩, noS, noS, noS, n⟩
def aF (n : Int) : Fd := ⟨[], ⟨#[102]⟩, noS, noS, 0, [aE n]⟩
def aX : Ent := ⟨⟨#[32, 120, 32]⟩, noS, noS, noS, 0⟩
def aZ : Fd := ⟨[], ⟨#[32]⟩, noS, noS, 0, []⟩
theorem alive_e0 : errE aX = 0 := by kernel_rfl
theorem alive_e1 : normE aX = ⟨⟨#[120]⟩, noS, noS, noS, 0⟩ := by kernel_rfl
theorem alive_a0 : errFs [aF 1, aF 2] = 0 := by kernel_rfl
theorem alive_a1 : ordF.canon ([aF 1, aF 2].map collF) = [joinF (collF (aF 1)) (collF (aF 2))] := by kernel_rfl
theorem alive_a2 : (joinF (collF (aF 1)) (collF (aF 2))).ents = [aE 2] := by kernel_rfl
theorem alive_z : errF aZ = 19 := by kernel_rfl
theorem aE_ok (n : Int) (h : i64ok n) : eok (aE n) := ⟨h, by show 1 + 0 + 0 + 0 ≤ 16777216; decide⟩
theorem aF_ok (n : Int) (h : i64ok n) : fokS (aF n) := by
  refine ⟨⟨by show i64ok 0; unfold i64ok; decide, by show 0 + 0 + 1 + 0 + 0 ≤ 16777216; decide⟩, by show 1 ≤ 1000000; decide, fun e he => ?_⟩
  rw [List.mem_singleton.1 he]
  exact aE_ok n h
theorem aZ_ok : fokS aZ := ⟨⟨by show i64ok 0; unfold i64ok; decide, by show 0 + 0 + 1 + 0 + 0 ≤ 16777216; decide⟩, by show 0 ≤ 1000000; decide, fun e he => by simp [aZ] at he⟩
abbrev aS (n : Int) : Obj := .cells (eCells (aE n)).toArray 23
abbrev aC (b : Nat) (n : Int) : Fc := ⟨.slice none 0 0, .slice (some ⟨b, 0, none⟩) 1 1, aF n⟩
abbrev aW (w : World) (E : Obj) : World := (((w.alloc E).alloc (aS 1)).alloc (aS 2)).alloc (.cells (cellsC (aC (w.heap.size + 1) 1) ++ cellsC (aC (w.heap.size + 1 + 1) 2)).toArray 35)
theorem alive_arc (w : World) (E : Obj) (hE : Env w) :
    Calls Tryz.prog 25 #[.slice (some ⟨w.heap.size + 1 + 1 + 1, 0, none⟩) 2 2] (aW w E) fun e w' =>
      ∃ (ad ad2 : Addr) (c c2 : Nat), e = .returned (.tuple #[.agg #[.slice (some ad) 1 c], .int .i64 0]) ∧ w'.cell? ⟨ad.block, ad.off + 5, none⟩ = some (.slice (some ad2) 1 c2) ∧ w'.cell? ⟨ad2.block, ad2.off + 4, none⟩ = some (.int .i64 2) ∧ Ext (aW w E) w' := by
  have h1 : (aW w E).heap[w.heap.size + 1]? = some (aS 1) := (((Ext.refl _).alloc _).alloc _).heap (heap2_new w E (aS 1))
  have h2 : (aW w E).heap[w.heap.size + 1 + 1]? = some (aS 2) := ((Ext.refl _).alloc _).heap (heap_alloc3_new w E (aS 1) (aS 2))
  have h3 : (aW w E).heap[w.heap.size + 1 + 1 + 1]? = some (.cells (cellsC (aC (w.heap.size + 1) 1) ++ cellsC (aC (w.heap.size + 1 + 1) 2)).toArray 35) := by
    have := heap_alloc_new (((w.alloc E).alloc (aS 1)).alloc (aS 2)) (.cells (cellsC (aC (w.heap.size + 1) 1) ++ cellsC (aC (w.heap.size + 1 + 1) 2)).toArray 35)
    rwa [size_alloc, size_alloc, size_alloc] at this
  have hE4 : Env (aW w E) := (((hE.alloc _).alloc _).alloc _).alloc _
  have hrow : RFcs (aW w E) (.slice (some ⟨w.heap.size + 1 + 1 + 1, 0, none⟩) 2 2) [aC (w.heap.size + 1) 1, aC (w.heap.size + 1 + 1) 2] := by
    have := rsl_block (e := 35) (fr := (0, 0)) (size := 6) (n := 2) (cs := cellsC (aC (w.heap.size + 1) 1) ++ cellsC (aC (w.heap.size + 1 + 1) 2)) h3 rfl (by decide)
    exact this
  have hrd : ∀ x ∈ [aC (w.heap.size + 1) 1, aC (w.heap.size + 1 + 1) 2], RdC (aW w E) x := by
    intro x hx
    simp only [List.mem_cons, List.mem_nil_iff, or_false] at hx
    rcases hx with rfl | rfl
    · exact ⟨RSl.nil _ 1, rsl_block (e := 23) (fr := (0, 0)) (size := 5) (n := 1) (cs := eCells (aE 1)) h1 rfl (by decide)⟩
    · exact ⟨RSl.nil _ 1, rsl_block (e := 23) (fr := (0, 0)) (size := 5) (n := 1) (cs := eCells (aE 2)) h2 rfl (by decide)⟩
  have hok : ∀ x ∈ [aC (w.heap.size + 1) 1, aC (w.heap.size + 1 + 1) 2], fokS x.f := by
    intro x hx
    simp only [List.mem_cons, List.mem_nil_iff, or_false] at hx
    rcases hx with rfl | rfl
    · exact aF_ok 1 (by unfold i64ok; decide)
    · exact aF_ok 2 (by unfold i64ok; decide)
  refine (archive_any _ _ _ hE4 hrow hrd hok (by show 2 ≤ 1000000; decide) (by show 1 + (1 + 0) ≤ 1000000; decide)).mono ?_
  rintro e w' ⟨v', lc, rfl, hm, hH, hx⟩
  have hm2 : lc.map Fc.f = [joinF (collF (aF 1)) (collF (aF 2))] := by
    rw [hm]
    show normA [aF 1, aF 2] = _
    unfold normA
    rw [if_pos alive_a0, alive_a1]
  have he : errFs (List.map Fc.f [aC (w.heap.size + 1) 1, aC (w.heap.size + 1 + 1) 2]) = 0 := alive_a0
  rw [he]
  match lc, hm2, hH with
  | [y], hm2, hH =>
    have hy : y.f = joinF (collF (aF 1)) (collF (aF 2)) := by simpa using hm2
    obtain ⟨ad, c, hv, hat⟩ := hH.row.reads.at (k := 0) (by simp)
    have hre := (hH.rd y (by simp)).2
    rw [hy, alive_a2] at hre
    obtain ⟨ad2, c2, hv2, hat2⟩ := hre.at (k := 0) (by simp)
    have e0 : ad.add (0 * 6) = ad := by rw [Nat.zero_mul]; exact add_zero ad
    have e1 : ad2.add (0 * 5) = ad2 := by rw [Nat.zero_mul]; exact add_zero ad2
    rw [e0] at hat
    rw [e1] at hat2
    have c5 := hat.c5
    simp only [List.getElem_cons_zero] at c5
    rw [hv2] at c5
    exact ⟨ad, ad2, c, c2, by rw [hv]; rfl, c5, hat2.c4, hx⟩
  | [], hm2, _ => simp at hm2
  | _ :: _ :: _, hm2, _ => simp at hm2

set_option maxRecDepth 100000 in
set_option maxHeartbeats 4000000 in
theorem alive_any (w : World) (hE : Env w) : Calls Tryz.prog 16 #[] w fun x w' => x = .returned (.bool true) ∧ Ext w w' := by
  have HN := Lib.hid (normEntry_any aX w hE ⟨by decide, by decide, by decide, by decide⟩)
  rw [alive_e0, alive_e1] at HN
  have HA := Lib.hid (fun (w1 : World) (E : Obj) (h : Ext w w1) => alive_arc w1 E (hE.ext h))
  have HZ := Lib.hid (fun (w1 : World) (h : Ext w w1) => normFeed_any ⟨.slice none 0 0, .slice none 0 0, aZ⟩ w1 (hE.ext h) aZ_ok ⟨RSl.nil _ 1, RSl.nil _ 5⟩)
  simp only [alive_z] at HZ
  have hEB : ∀ w1 : World, w1.alloc (.cells (eCells ⟨⟨#[120]⟩, noS, noS, noS, 0⟩).toArray 23) = w1.alloc (.cells #[.string ⟨#[120]⟩, .string ⟨#[]⟩, .string ⟨#[]⟩, .string ⟨#[]⟩, .int .i64 0] 23) := fun _ => rfl
  clear hEB
  unfold eCells aX noS at HN
  unfold aW aS aC aE aF eCells cellsC fCells noS at HA
  unfold cellsC fCells aZ noS at HZ
  dsimp only [List.cons_append, List.nil_append] at HN HA HZ
  go_enter Tryz.func16, Tryz.ntmps16
  go_wp2_with (first
    | (go_at_call 17; (have hz := HN.out); (with_reducible refine Calls.mono hz ?_); clear hz; rintro e w1 ⟨rfl, hx1⟩)
    | (go_at_call 25; (have hz := HA.out w1 (.cells #[.string ⟨#[120]⟩, .string ⟨#[]⟩, .string ⟨#[]⟩, .string ⟨#[]⟩, .int .i64 0] 23) hx1); (refine Calls.mono hz ?_); clear hz; rintro e w2 ⟨ad, ad2, c, c2, rfl, k5, k4, hx2⟩; (have hxb := (((((Ext.refl _).alloc _).alloc _).alloc _).trans hx2)); (have e0 := hxb.boxed 0 (.string ⟨#[120]⟩) rfl); (have hxw2 := (hx1.alloc _).trans hxb))
    | (go_at_call 21; (have hz := HZ.out (w2.alloc (.cells #[.slice (some ad) 1 c] 46)) (hxw2.alloc _)); (with_reducible refine Calls.mono hz ?_); clear hz; rintro e w3 ⟨y, rfl, hyf, hyr, hya, hx3⟩; (have hysl := hyr.sl); (obtain ⟨yp, yes, yf⟩ := y); (obtain ⟨⟨yA, yn, yc, hyp⟩, ⟨yB, ym, yd, hye⟩⟩ := hysl); simp only at hyp hye; subst hyp hye; clear hyf hyr hya; (have hx4 : Ext w3 (w3.alloc (.cells #[.slice yA yn yc, .string yf.id, .string yf.title, .string yf.link, .int .i64 yf.upd, .slice yB ym yd] 35)) := (Ext.refl w3).alloc _); (have m0 := hx4.cell (hx3.boxed 0 (.slice (some ad) 1 c) rfl)); (have hx23 := (((Ext.refl w2).alloc _).trans hx3).trans hx4); (have e0' := hx23.cell e0); (have k5' := hx23.cell k5); (have k4' := hx23.cell k4); clear e0 k5 k4))
  go_ret
  exact ⟨rfl, (hxw2.trans ((((Ext.refl w2).alloc _).trans hx3).trans hx4))⟩
end Go.Proofs.YtgecijhgonfldaaGreatDoor
