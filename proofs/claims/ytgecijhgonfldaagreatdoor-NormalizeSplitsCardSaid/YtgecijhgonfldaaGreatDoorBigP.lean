/- Plain: what the laws' bound on sizes counts; what is small is within the walks' sizes. No program in sight. -/
import Derived.Test.YtgecijhgonfldaaGreatDoorM24
namespace Go.Proofs.YtgecijhgonfldaaGreatDoor
open Go
set_option linter.unusedVariables false

/-- the entries of feeds -/
def allEn (l : List Fd) : Nat := (l.map fun f => f.ents.length).sum
/-- within the reach of the claims -/
def ewide (e : Ent) : Prop := i64ok e.upd ∧ e.id.size ≤ reachBytes ∧ e.title.size ≤ reachBytes ∧ e.link.size ≤ reachBytes ∧ e.content.size ≤ reachBytes
def fwide (f : Fd) : Prop := i64ok f.upd ∧ f.path.length ≤ reachBytes ∧ (∀ s ∈ f.path, s.size ≤ reachBytes) ∧ f.id.size ≤ reachBytes ∧ f.title.size ≤ reachBytes ∧ f.link.size ≤ reachBytes ∧ f.ents.length ≤ reachBytes ∧ ∀ e ∈ f.ents, ewide e
def capN (n : Nat) : Nat := 1 + min n 9000
def bigE (e : Ent) : Nat := capN (e.id.size + e.title.size + e.link.size + e.content.size)
def bigP (l : List ByteArray) : Nat := (l.map fun s => capN s.size).sum
def bigEs (l : List Ent) : Nat := (l.map bigE).sum
def bigH (f : Fd) : Nat := capN (f.id.size + f.title.size + f.link.size)
def bigF (f : Fd) : Nat := bigH f + bigP f.path + bigEs f.ents
def bigL (l : List Fd) : Nat := (l.map bigF).sum
theorem mem_sum {l : List Nat} {n : Nat} (h : n ∈ l) : n ≤ l.sum := by
  induction l with
  | nil => simp at h
  | cons x t ih =>
    rw [List.sum_cons]
    rcases List.mem_cons.1 h with h | h
    · omega
    · have := ih h; omega
theorem bigP_small : ∀ {l : List ByteArray}, bigP l ≤ 5000 → l.length + sizes l ≤ bigP l
  | [], _ => by simp [sizes, bigP]
  | s :: t, h => by
    have e : bigP (s :: t) = capN s.size + bigP t := by unfold bigP; simp
    have e2 : sizes (s :: t) = s.size + sizes t := by unfold sizes; simp
    rw [e] at h ⊢
    have ih := bigP_small (l := t) (by omega)
    unfold capN at h ⊢
    rw [e2, List.length_cons]
    omega
theorem bigEs_len : ∀ (l : List Ent), l.length ≤ bigEs l
  | [] => by simp
  | s :: t => by
    have e : bigEs (s :: t) = bigE s + bigEs t := by unfold bigEs; simp
    have ih := bigEs_len t
    rw [e, List.length_cons]
    unfold bigE capN
    omega
theorem bigE_mem {l : List Ent} {e : Ent} (h : e ∈ l) : bigE e ≤ bigEs l := mem_sum (List.mem_map.2 ⟨e, h, rfl⟩)
theorem bigF_mem {l : List Fd} {f : Fd} (h : f ∈ l) : bigF f ≤ bigL l := mem_sum (List.mem_map.2 ⟨f, h, rfl⟩)
theorem bigE_small {e : Ent} (h : bigE e ≤ 5000) : e.id.size + e.title.size + e.link.size + e.content.size ≤ 5000 := by
  unfold bigE capN at h
  omega
theorem small_eok {e : Ent} (hw : i64ok e.upd) (h : bigE e ≤ 5000) : eok e := ⟨hw, by have := bigE_small h; omega⟩
theorem small_fok {f : Fd} (hw : fwide f) (h : bigF f ≤ 5000) : fokS f := by
  have h' : bigH f + bigP f.path + bigEs f.ents ≤ 5000 := h
  have hp := bigP_small (l := f.path) (by omega)
  have hh : bigH f ≤ 5000 := by omega
  unfold bigH capN at hh
  have he := bigEs_len f.ents
  refine ⟨⟨hw.1, by omega⟩, by omega, fun e hm => small_eok (hw.2.2.2.2.2.2.2 e hm).1 ?_⟩
  have := bigE_mem hm
  omega
theorem small_allE : ∀ (l : List Fc), allEn (l.map Fc.f) ≤ bigL (l.map Fc.f)
  | [] => by simp [allEn]
  | x :: t => by
    have ih := small_allE t
    have e : bigL ((x :: t).map Fc.f) = bigF x.f + bigL (t.map Fc.f) := by unfold bigL; simp
    have e2 : allEn ((x :: t).map Fc.f) = x.f.ents.length + allEn (t.map Fc.f) := by unfold allEn; simp
    have h3 : bigEs x.f.ents ≤ bigF x.f := by unfold bigF; omega
    have h4 := bigEs_len x.f.ents
    rw [e, e2]
    omega
theorem bigL_take {l : List Fc} {k : Nat} (hk : k < l.length) : bigL ((l.take (k + 1)).map Fc.f) = bigL ((l.take k).map Fc.f) + bigF l[k].f := by
  rw [List.take_succ_eq_append_getElem hk]
  unfold bigL
  simp only [List.map_append, List.sum_append, List.map_cons, List.map_nil, List.sum_cons, List.sum_nil, Nat.add_zero]
theorem bigL_le (l : List Fc) (k : Nat) : bigL ((l.take k).map Fc.f) ≤ bigL (l.map Fc.f) := by
  have e : bigL (l.map Fc.f) = bigL ((l.take k).map Fc.f) + bigL ((l.drop k).map Fc.f) := by
    unfold bigL
    rw [← List.sum_append, ← List.map_append, ← List.map_append, List.take_append_drop]
  omega
theorem bigP_take {l : List ByteArray} {k : Nat} (hk : k < l.length) : bigP (l.take (k + 1)) = bigP (l.take k) + capN l[k].size := by
  rw [List.take_succ_eq_append_getElem hk]
  unfold bigP
  simp only [List.map_append, List.sum_append, List.map_cons, List.map_nil, List.sum_cons, List.sum_nil, Nat.add_zero]
theorem bigEs_take {l : List Ent} {k : Nat} (hk : k < l.length) : bigEs (l.take (k + 1)) = bigEs (l.take k) + bigE l[k] := by
  rw [List.take_succ_eq_append_getElem hk]
  unfold bigEs
  simp only [List.map_append, List.sum_append, List.map_cons, List.map_nil, List.sum_cons, List.sum_nil, Nat.add_zero]
theorem bigEs_le (l : List Ent) (k : Nat) : bigEs (l.take k) ≤ bigEs l := by
  have e : bigEs l = bigEs (l.take k) + bigEs (l.drop k) := by
    unfold bigEs
    rw [← List.sum_append, ← List.map_append, List.take_append_drop]
  omega
theorem capN_le (n : Nat) : capN n ≤ 9001 := by unfold capN; omega
theorem bigP_bound : ∀ l : List ByteArray, bigP l ≤ 9001 * l.length
  | [] => by simp [bigP]
  | s :: t => by
    have e : bigP (s :: t) = capN s.size + bigP t := by unfold bigP; simp
    have := bigP_bound t
    have := capN_le s.size
    rw [e, List.length_cons]
    omega
theorem bigL_fokS {l : List Fc} (hw : ∀ x ∈ l, fwide x.f) (h : bigL (l.map Fc.f) ≤ 5000) : ∀ x ∈ l, fokS x.f := fun x hx => small_fok (hw x hx) (Nat.le_trans (bigF_mem (List.mem_map.2 ⟨x, hx, rfl⟩)) h)
end Go.Proofs.YtgecijhgonfldaaGreatDoor
