/- Plain: the laws of normalize that speak of parts and of order. No program in sight. -/
import Derived.Test.YtgecijhgonfldaaGreatDoorM24
namespace Go.Proofs.YtgecijhgonfldaaGreatDoor
open Go
set_option linter.unusedVariables false

theorem errEs_cons (e : Ent) (t : List Ent) : errEs (e :: t) = if errE e = 0 then errEs t else errE e := rfl
theorem errEs_app : ∀ a b : List Ent, errEs (a ++ b) = if errEs a = 0 then errEs b else errEs a
  | [], b => by
    have h : errEs [] = 0 := rfl
    rw [List.nil_append, if_pos h]
  | e :: t, b => by
    have ih := errEs_app t b
    rw [List.cons_append]
    by_cases h : errE e = 0
    · have e1 : errEs (e :: t) = errEs t := by rw [errEs_cons, if_pos h]
      have e2 : errEs (e :: (t ++ b)) = errEs (t ++ b) := by rw [errEs_cons, if_pos h]
      rw [e2, ih]
      simp only [e1]
    · have e1 : errEs (e :: t) = errE e := by rw [errEs_cons, if_neg h]
      have e2 : errEs (e :: (t ++ b)) = errE e := by rw [errEs_cons, if_neg h]
      simp only [e1, e2, if_neg h]
theorem errFs_one (f : Fd) : errFs [f] = errF f := by
  simp only [errFs]
  by_cases h : errF f = 0
  · rw [if_pos h, h]
  · rw [if_neg h]
theorem headF_withE (f : Fd) (l : List Ent) : headF (withE f l) = headF f := rfl
theorem split_err (f : Fd) (n : Nat) : errFs [withE f (f.ents.take n), withE f (f.ents.drop n)] = errFs [f] := by
  have e1 : errFs [withE f (f.ents.take n), withE f (f.ents.drop n)] = if errF (withE f (f.ents.take n)) = 0 then errF (withE f (f.ents.drop n)) else errF (withE f (f.ents.take n)) := by
    rw [← errFs_one (withE f (f.ents.drop n))]
    rfl
  rw [e1, errFs_one]
  have f1 : ∀ l : List Ent, errF (withE f l) = if headF f = 0 then errEs l else headF f := fun l => rfl
  have f2 : errF f = if headF f = 0 then errEs f.ents else headF f := rfl
  simp only [f1, f2]
  by_cases h : headF f = 0
  · simp only [if_pos h]
    have e2 := errEs_app (f.ents.take n) (f.ents.drop n)
    rw [List.take_append_drop] at e2
    exact e2.symm
  · simp only [if_neg h]
theorem canonF_one (x : Fd) : ordF.canon [x] = [x] := rfl
theorem canonF_two {a b : Fd} (h : a.id = b.id) : ordF.canon [a, b] = [joinF a b] := by
  have e : ordF.scan [a] b = ([], joinF a b) := by
    simp only [Ord.scan]
    rw [if_pos (show ordF.id a = ordF.id b from h)]
    rfl
  show ordF.put (ordF.canon [a]) b = _
  rw [canonF_one]
  unfold Ord.put
  rw [e]
  rfl
theorem split_norm (f : Fd) (n : Nat) : normA [withE f (f.ents.take n), withE f (f.ents.drop n)] = normA [f] := by
  have hs := split_err f n
  by_cases h : errFs [f] = 0
  · have h0 : errF f = 0 := by rw [← errFs_one]; exact h
    have hE := errEs_zero.1 (errF_zero.1 h0).2
    unfold normA
    rw [hs, if_pos h, if_pos h]
    simp only [List.map_cons, List.map_nil]
    rw [canonF_one, canonF_two (a := collF (withE f (f.ents.take n))) (b := collF (withE f (f.ents.drop n))) rfl]
    refine congrArg (fun x => [x]) (fd_ext ?_ ?_)
    · rw [joinF_hdr]
      rcases pk_either keyCmpF (collF (withE f (f.ents.take n))) (collF (withE f (f.ents.drop n))) with e | e <;> rw [e] <;> rfl
    · rw [joinF_ents (ordE.canon_canon _)]
      show ordE.canon (ordE.canon ((f.ents.take n).map collE) ++ ordE.canon ((f.ents.drop n).map collE)) = ordE.canon (f.ents.map collE)
      have g : ∀ l : List Ent, (∀ x ∈ l, x ∈ f.ents) → ∀ x ∈ l.map collE, okE x = true := by
        intro l hl x hx
        obtain ⟨y, hy, rfl⟩ := List.mem_map.1 hx
        exact okE_coll (hE y (hl y hy))
      rw [Ord.canon_left, semiE'.canon_right (g _ fun x hx => List.mem_of_mem_take hx) (g _ fun x hx => List.mem_of_mem_drop hx), ← List.map_append, List.take_append_drop]
  · unfold normA
    rw [hs, if_neg h, if_neg h]
/-- the same set of feeds: the same result -/
theorem order_norm {l m : List Fd} (h : errFs l = 0) (hm : ∀ x, x ∈ m ↔ x ∈ l) : errFs m = 0 ∧ normA m = normA l := by
  have hl := errFs_zero.1 h
  have e : errFs m = 0 := errFs_zero.2 fun x hx => hl x ((hm x).1 hx)
  refine ⟨e, ?_⟩
  unfold normA
  rw [if_pos e, if_pos h]
  refine semiF'.canon_congr (fun x hx => ?_) fun x => ?_
  · obtain ⟨y, hy, rfl⟩ := List.mem_map.1 hx
    exact okF_coll (hl y ((hm y).1 hy))
  · simp only [List.mem_map]
    constructor
    · rintro ⟨y, hy, rfl⟩; exact ⟨y, (hm y).1 hy, rfl⟩
    · rintro ⟨y, hy, rfl⟩; exact ⟨y, (hm y).2 hy, rfl⟩
/-- the row of IgnoresOrder has the elements of l -/
theorem turned_mem {α : Type} (l : List α) (i : Nat) (x : α) : x ∈ (l.reverse.drop i ++ l.reverse.take i) ++ l.reverse.drop i ↔ x ∈ l := by
  constructor
  · intro h
    rcases List.mem_append.1 h with h | h
    · rcases List.mem_append.1 h with h | h
      · exact List.mem_reverse.1 (List.mem_of_mem_drop h)
      · exact List.mem_reverse.1 (List.mem_of_mem_take h)
    · exact List.mem_reverse.1 (List.mem_of_mem_drop h)
  · intro h
    have h := List.mem_reverse.2 h
    rw [← List.take_append_drop i l.reverse] at h
    rcases List.mem_append.1 h with h | h
    · exact List.mem_append_left _ (List.mem_append_right _ h)
    · exact List.mem_append_right _ h
end Go.Proofs.YtgecijhgonfldaaGreatDoor
