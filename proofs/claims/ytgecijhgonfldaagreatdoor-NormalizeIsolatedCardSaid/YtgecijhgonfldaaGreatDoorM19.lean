/- YtgecijhgonfldaaGreatDoor: texts EntryR, put one behind the other. -/
import Derived.Test.YtgecijhgonfldaaGreatDoorM16
import Derived.Test.YtgecijhgonfldaaGreatDoorM18
/- Contracts: the reference's Entry. -/
namespace Go.Proofs.YtgecijhgonfldaaGreatDoor
open Go Go.RowKit
set_option linter.unusedVariables false
abbrev entR (w : World) (e : Ent) : World := ((w.alloc (.cells (eCells e).toArray 23)).alloc (.cells (eCells zeroE).toArray 23)).alloc (.cells #[.string e.id, .string e.title, .string e.link, .string e.content] 9)
theorem refEnt_check (e : Ent) (w : World) (hs : eokS e) :
    Calls Tryz.prog 45 #[.slice (some ⟨w.heap.size + 1 + 1, 0, none⟩) 4 4] (entR w e) fun x w' => x = .returned (.int .i64 (firstErr (strsE e) : Nat)) ∧ Ext (entR w e) w' :=
  refCheckAll_any _ (strsE e) _ (rsl_block (e := 9) (fr := (0, 0)) (cs := [_, _, _, _]) (heap_alloc3_new w _ _ _) rfl (by decide)) (by
    obtain ⟨s1, s2, s3, s4⟩ := hs
    intro s h
    simp only [strsE, List.mem_cons, List.mem_nil_iff, or_false] at h
    rcases h with rfl | rfl | rfl | rfl <;> assumption)
theorem refColl_sz (s : ByteArray) (w : World) (hs : s.size ≤ 16777216) :
    Calls Tryz.prog 46 #[.string s] w fun e w' => e = .returned (.string (collapse s)) ∧ Ext w w' := refCollapse_any s w (by omega)

attribute [local go_sem] calm1
set_option maxRecDepth 100000 in
set_option maxHeartbeats 2000000 in
theorem refEntry_any (e : Ent) (w : World) (hE : Env w) (hs : eokS e) :
    Calls Tryz.prog 18 #[.agg (eCells e).toArray] w fun x w' => x = .returned (.tuple #[.agg (eCells (normE e)).toArray, .int .i64 (errE e : Nat)]) ∧ Ext w w' := by
  have HA := Lib.hid (refEnt_check e w hs)
  have hw3 : Ext w (entR w e) := (((Ext.refl w).alloc _).alloc _).alloc _
  by_cases h0 : firstErr (strsE e) = 0
  · rw [h0] at HA
    have hf0 := errE_zero (e := e)
    have HF := Lib.hid hf0
    clear hf0
    obtain ⟨s1, s2, s3, s4⟩ := hs
    obtain ⟨id, title, link, content, upd⟩ := e
    simp only at s1 s2 s3 s4
    unfold entR eCells zeroE noS at *
    go_enter Tryz.func18, Tryz.ntmps18
    go_wp2_with (first
      | (go_at_call 45; refine (HA.out).mono ?_; rintro e w1 ⟨rfl, hx1⟩; (have hk1 := heap3b hx1); (have c0 := boxed3a ⟨_, hx1⟩ 0 _ rfl); (have c1 := boxed3a ⟨_, hx1⟩ 1 _ rfl); (have c2 := boxed3a ⟨_, hx1⟩ 2 _ rfl); (have c3 := boxed3a ⟨_, hx1⟩ 3 _ rfl); (have c4 := boxed3a ⟨_, hx1⟩ 4 _ rfl); dsimp only at c0 c1 c2 c3 c4))
    have a0 : ∀ d : Aft w1, d.w.cell? ⟨w.heap.size, 0, none⟩ = some (.string id) := Aft.cell c0
    have a1 : ∀ d : Aft w1, d.w.cell? ⟨w.heap.size, 1, none⟩ = some (.string title) := Aft.cell c1
    have a2 : ∀ d : Aft w1, d.w.cell? ⟨w.heap.size, 2, none⟩ = some (.string link) := Aft.cell c2
    have a3 : ∀ d : Aft w1, d.w.cell? ⟨w.heap.size, 3, none⟩ = some (.string content) := Aft.cell c3
    have a4 : ∀ d : Aft w1, d.w.cell? ⟨w.heap.size, 4, none⟩ = some (.int .i64 upd) := Aft.cell c4
    have hk2 : ∀ d : Aft w1, d.w.heap[w.heap.size + 1]? = some (.cells #[.string ⟨#[]⟩, .string ⟨#[]⟩, .string ⟨#[]⟩, .string ⟨#[]⟩, .int .i64 0] 23) := fun d => d.ext.heap hk1
    clear c0 c1 c2 c3 c4 hk1
    refine wp_region_new 15 (.cells #[.string ⟨#[]⟩, .string ⟨#[]⟩, .string ⟨#[]⟩, .string ⟨#[]⟩, .int .i64 0] 23) _ (by kernel_rfl) rfl (by kernel_rfl) (fun a w K h => by go_simp; exact h) ?_
    repeat (refine wpCalm_step (fun K hK => ?_); go_simp; first | (refine hK _ ?_; clear hK K) | (apply Exists.intro; refine ⟨fun _ => ?_, hK _ ?_⟩; (go_at_call 46; exact quiet_callC (refColl_sz _ _ (by assumption))); clear hK K))
    refine wpCalm_nil ?_
    intro g c hg hblk
    refine wpList_store_blk rfl 23 (.tmp 5) (.tmp 34) rfl g _ rfl rfl _ _ hblk size_ent rfl (oneA (eCells_one ⟨collapse id, collapse title, collapse link, collapse content, upd⟩)) ?_
    intro W3 hW3 hE3 _
    have hx3 : Ext w1 W3 := hE3 w1 c.ext hg
    have k3 := hk2 ⟨W3, hx3⟩
    have e4 := a4 ⟨W3, hx3⟩
    dsimp only at k3 e4
    obtain ⟨d0, d1, d2, d3, d4⟩ := blk5 hW3
    clear hblk hE3 hW3 a0 a1 a2 a3 a4 hk2
    have hnf : ∀ n, errE ⟨id, title, link, content, upd⟩ = n → n ≠ 0 → normE ⟨id, title, link, content, upd⟩ = zeroE := fun n h h' => by unfold normE; rw [h, if_neg h']
    have hef : errE ⟨id, title, link, content, upd⟩ = if collapse id = noS then 19 else if inT upd then 0 else 3 := by unfold errE; rw [if_neg (by simpa using h0)]
    have HNF := Lib.hid hnf
    have HEF := Lib.hid hef
    clear hnf hef h0 HF HA
    by_cases h1 : collapse id = noS
    · have hf1 := HEF.out
      rw [if_pos h1] at hf1
      have hf2 := HNF.out _ hf1 (by decide)
      have hne : (collapse id).toList = [] := by rw [h1, ByteArray.toList_eq]; rfl
      have HR := Lib.hid (And.intro hf1 hf2)
      clear hf1 hf2 h1 HEF HNF
      go_wp2_with (first
          | (refine wpList_store_row rfl 23 (.tmp 2) (.tmp 38) rfl (w.heap.size + 1) _ rfl rfl _ _ k3 size_ent rfl (oneA (eCells_one zeroE)) ?_))
      ((try simp only [Exit.inBlock, Exit.then]); refine bodyPost_ret (results_cell_row2 rfl _ _ _ _ _ _ _ rfl (setRow_heap _ _ _ _ _ _ k3) Tryz.underlying23 rfl size_ent) rfl ?_)
      exact ⟨by rw [HR.out.1, HR.out.2]; rfl, ((hw3.trans hx1).trans hx3).setRow (by omega) _⟩
    · have hne := ne_noS h1
      have hf1 := HEF.out
      rw [if_neg h1] at hf1
      clear HEF h1
      by_cases hlo : upd < -62135596800
      · have hf2 : errE ⟨id, title, link, content, upd⟩ = 3 := by rw [hf1, if_neg]; unfold inT; simp; omega
        have hf3 := HNF.out _ hf2 (by decide)
        have HR := Lib.hid (And.intro hf2 hf3)
        have hl := decide_eq_true hlo
        clear hf1 hf2 hf3 HNF
        go_wp2_with (first
          | (refine wpList_store_row rfl 23 (.tmp 2) (.tmp 47) rfl (w.heap.size + 1) _ rfl rfl _ _ k3 size_ent rfl (oneA (eCells_one zeroE)) ?_))
        ((try simp only [Exit.inBlock, Exit.then]); refine bodyPost_ret (results_cell_row2 rfl _ _ _ _ _ _ _ rfl (setRow_heap _ _ _ _ _ _ k3) Tryz.underlying23 rfl size_ent) rfl ?_)
        exact ⟨by rw [HR.out.1, HR.out.2]; rfl, ((hw3.trans hx1).trans hx3).setRow (by omega) _⟩
      · have hl := decide_eq_false hlo
        by_cases hhi : 253402300799 < upd
        · have hf2 : errE ⟨id, title, link, content, upd⟩ = 3 := by rw [hf1, if_neg]; unfold inT; simp; omega
          have hf3 := HNF.out _ hf2 (by decide)
          have HR := Lib.hid (And.intro hf2 hf3)
          have hh := decide_eq_true hhi
          clear hf1 hf2 hf3 HNF hlo
          go_wp2_with (first
            | (refine wpList_store_row rfl 23 (.tmp 2) (.tmp 47) rfl (w.heap.size + 1) _ rfl rfl _ _ k3 size_ent rfl (oneA (eCells_one zeroE)) ?_))
          ((try simp only [Exit.inBlock, Exit.then]); refine bodyPost_ret (results_cell_row2 rfl _ _ _ _ _ _ _ rfl (setRow_heap _ _ _ _ _ _ k3) Tryz.underlying23 rfl size_ent) rfl ?_)
          exact ⟨by rw [HR.out.1, HR.out.2]; rfl, ((hw3.trans hx1).trans hx3).setRow (by omega) _⟩
        · have hh := decide_eq_false hhi
          have hf2 : errE ⟨id, title, link, content, upd⟩ = 0 := by rw [hf1, if_pos]; unfold inT; simp; omega
          have hf3 : normE ⟨id, title, link, content, upd⟩ = ⟨collapse id, collapse title, collapse link, collapse content, upd⟩ := by unfold normE; rw [if_pos hf2]; rfl
          have HR := Lib.hid (And.intro hf2 hf3)
          clear hf1 hf2 hf3 HNF hlo hhi
          go_wp2_with (first
            | (refine wpList_store_row rfl 23 (.tmp 2) (.tmp 48) rfl (w.heap.size + 1) _ rfl rfl _ _ k3 size_ent rfl (oneA (eCells_one ⟨collapse id, collapse title, collapse link, collapse content, upd⟩)) ?_))
          ((try simp only [Exit.inBlock, Exit.then]); refine bodyPost_ret (results_cell_row2 rfl _ _ _ _ _ _ _ rfl (setRow_heap _ _ _ _ _ _ k3) Tryz.underlying23 rfl size_ent) rfl ?_)
          exact ⟨by rw [HR.out.1, HR.out.2]; rfl, ((hw3.trans hx1).trans hx3).setRow (by omega) _⟩
  · have hf1 : errE e = firstErr (strsE e) := by unfold errE; rw [if_pos h0]
    have hf2 : normE e = zeroE := by unfold normE; rw [if_neg (by rw [hf1]; exact h0)]
    rw [hf1, hf2]
    clear hf1 hf2
    obtain ⟨E, hEr⟩ : ∃ E, firstErr (strsE e) = E := ⟨_, rfl⟩
    rw [hEr] at HA h0 ⊢
    have hb : ((E : Int) != 0) = true := by simp; omega
    clear hEr h0
    obtain ⟨id, title, link, content, upd⟩ := e
    unfold entR eCells zeroE noS at *
    go_enter Tryz.func18, Tryz.ntmps18
    go_wp2_with (first
      | (go_at_call 45; refine (HA.out).mono ?_; rintro e w1 ⟨rfl, hx1⟩; (have hk1 := heap3b hx1))
      | (refine wpList_store_row rfl 23 (.tmp 2) (.tmp 18) rfl (w.heap.size + 1) _ rfl rfl _ _ hk1 size_ent rfl (oneA (eCells_one zeroE)) ?_))
    ((try simp only [Exit.inBlock, Exit.then]); refine bodyPost_ret (results_cell_row2 rfl _ _ _ _ _ _ _ rfl (setRow_heap _ _ _ _ _ _ hk1) Tryz.underlying23 rfl size_ent) rfl ?_)
    exact ⟨rfl, (hw3.trans hx1).setRow (by omega) _⟩
end Go.Proofs.YtgecijhgonfldaaGreatDoor
