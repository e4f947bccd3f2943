/- Parts of the proof: contracts and plain laws that the statement needs. -/
import Derived.Test.YtgecijhgonfldaaGreatDoorQ14
import Derived.Test.YtgecijhgonfldaaGreatDoorQ19
namespace Go.Proofs.YtgecijhgonfldaaGreatDoor
open Go Go.RowKit
set_option linter.unusedVariables false
theorem rowSliceF : Tryz.prog.underlying 37 = some (.slice (Tryz.prog.elem 37)) := by kernel_rfl
theorem rowSizeF (w : World) : (Go.sizeOf (Tryz.prog.elem 37)).run Tryz.prog w = .ok 6 w := by kernel_rfl
theorem flatC_cons (x : Fc) (t : List Fc) : flatC (x :: t) = cellsC x ++ flatC t := by unfold flatC; simp
theorem flatC_len : ∀ l : List Fc, (flatC l).length = l.length * 6
  | [] => rfl
  | x :: t => by rw [flatC_cons, List.length_append, flatC_len t, cellsC_len, List.length_cons]; omega
theorem tailF {w : World} {A : Option Addr} {c : Nat} {x : Fc} {t : List Fc} (h : RFcs w (.slice A (t.length + 1) c) (x :: t)) :
    ∃ v', (∀ wx : World, (Instr.slice 37 (.slice A (t.length + 1) c) (some (.int .i64 1)) none none).run Tryz.prog wx = .ok v' wx) ∧ RFcs w v' t := by
  refine ⟨sliced A 1 (t.length + 1) c 6, fun wx => ?_, ?_⟩
  · rw [run_slice_l (P := Tryz.prog) (w := wx) 37 A (t.length + 1) c rowSliceF .i64 1 (by omega) (by omega)]
    rw [rowSizeF]
    rfl
  · obtain ⟨h1, A', c', e, h2, h3, h4, h5⟩ := h
    injection e with e1 e2 e3
    subst e1 e3
    clear e2
    have hcells : ∀ j u, (flatC t)[j]? = some u → ∃ ad, A = some ad ∧ w.cell? (ad.add (6 + j)) = some u := by
      intro j u hu
      refine h5 (6 + j) u ?_
      rw [flatC_cons, List.getElem?_append_right (by show 6 ≤ 6 + j; omega)]
      simpa [cellsC, fCells] using hu
    unfold sliced
    have hn : t.length + 1 ≤ c := by simpa using h2
    refine ⟨flatC_len t, ?_⟩
    by_cases hc : c = 1
    · have ht : t = [] := List.eq_nil_of_length_eq_zero (by omega)
      subst ht
      exact ⟨_, _, rfl, by simp, Nat.le_trans (Nat.sub_le _ _) h3, fun _ => by omega, fun j u hu => by simp [flatC] at hu⟩
    · cases A with
      | none => have := h4 rfl; omega
      | some ad =>
        refine ⟨some (ad.add 6), c - 1, by rw [if_neg hc]; rfl, by omega, Nat.le_trans (Nat.sub_le _ _) h3, (fun e => by cases e), fun j u hu => ⟨_, rfl, ?_⟩⟩
        obtain ⟨ad', e, hc'⟩ := hcells j u hu
        injection e with e
        subst e
        rw [addr_add2]
        exact hc'
theorem grpC_map (l : List Fc) (s : ByteArray) : (grpC l s).map Fc.f = (l.map Fc.f).filter fun f => decide (f.id = s) := by
  unfold grpC
  rw [List.filter_map]
  rfl
theorem grpC_cons {l : List Fc} {s : ByteArray} (h : s ∈ firstsC l) : ∃ x t, grpC l s = x :: t := by
  obtain ⟨x, hx, e⟩ := (mem_firstsC l s).1 h
  have : x ∈ grpC l s := by unfold grpC; exact List.mem_filter.2 ⟨hx, by simpa using e⟩
  cases hg : grpC l s with
  | nil => rw [hg] at this; simp at this
  | cons y t => exact ⟨y, t, rfl⟩
def hdF (x : Fc) (t : List Fc) : Fd := (t.map Fc.f).foldl laterF x.f
def enF (x : Fc) (t : List Fc) : List Ent := x.f.ents ++ ((t.map Fc.f).map Fd.ents).flatten
theorem hdF_snoc (x : Fc) (t : List Fc) (y : Fc) : hdF x (t ++ [y]) = laterF (hdF x t) y.f := by unfold hdF; rw [List.map_append, List.foldl_append]; rfl
theorem enF_snoc (x : Fc) (t : List Fc) (y : Fc) : enF x (t ++ [y]) = enF x t ++ y.f.ents := by unfold enF; simp
theorem jF_grp {l : List Fc} {s : ByteArray} {x : Fc} {t : List Fc} (h : grpC l s = x :: t) (hx : ordE.canon x.f.ents = x.f.ents) : jF (l.map Fc.f) s = withE (hdF x t) (ordE.canon (enF x t)) := by
  refine jF_fold (l := l.map Fc.f) (x := x.f) (t := t.map Fc.f) ?_ hx
  rw [← grpC_map, h]
  rfl
theorem hdF_fok (x : Fc) (t : List Fc) (hx : fok x.f) (ht : ∀ y ∈ t, fok y.f) : fok (hdF x t) := foldF_fok _ _ hx fun y hy => by
  obtain ⟨z, hz, rfl⟩ := List.mem_map.1 hy
  exact ht z hz
theorem enF_eok {x : Fc} {t : List Fc} (hx : ∀ e ∈ x.f.ents, eok e) (ht : ∀ y ∈ t, ∀ e ∈ y.f.ents, eok e) : ∀ e ∈ enF x t, eok e := by
  intro e he
  unfold enF at he
  rcases List.mem_append.1 he with he | he
  · exact hx e he
  · obtain ⟨l, hl, he⟩ := List.mem_flatten.1 he
    obtain ⟨f, hf, rfl⟩ := List.mem_map.1 hl
    obtain ⟨y, hy, rfl⟩ := List.mem_map.1 hf
    exact ht y hy e he
def allE (l : List Fc) : Nat := (l.map fun x => x.f.ents.length).sum
theorem enF_len : ∀ (t : List Fc) (x : Fc), (enF x t).length = allE (x :: t)
  | [], x => by unfold enF allE; simp
  | y :: t, x => by
    have h := enF_len t x
    unfold enF allE at *
    simp only [List.map_cons, List.flatten_cons, List.length_append, List.sum_cons] at h ⊢
    omega
theorem allE_filter (p : Fc → Bool) : ∀ l : List Fc, allE (l.filter p) ≤ allE l
  | [] => Nat.le_refl _
  | x :: t => by
    have h := allE_filter p t
    unfold allE at *
    by_cases hp : p x = true
    · rw [List.filter_cons_of_pos hp]; simp only [List.map_cons, List.sum_cons]; omega
    · rw [List.filter_cons_of_neg hp]; simp only [List.map_cons, List.sum_cons]; omega
theorem awayC_row {w : World} {x : Fc} (h : RdC w x) {r : Option Nat} (hr : ∀ q, r = some q → w.heap.size ≤ q) : awayC x r := by
  cases r with
  | none => exact awayC_none h
  | some q => exact awayC_new h (hr q rfl)
theorem setCell_twice (w : World) (g i : Nat) (u v : Value) : (w.setCell ⟨g, i, none⟩ u).setCell ⟨g, i, none⟩ v = w.setCell ⟨g, i, none⟩ v := by
  unfold World.setCell
  congr 1
  apply Array.ext_getElem?
  intro k
  simp only [Array.getElem?_modify]
  by_cases hk : g = k
  · rw [if_pos hk, if_pos hk, if_pos hk, Option.map_map]
    congr 1
    funext o
    cases o <;> simp
  · rw [if_neg hk, if_neg hk, if_neg hk]
theorem setCell_kept (w : World) (g i : Nat) (v : Value) (h : w.cell? ⟨g, i, none⟩ = some v) : w.setCell ⟨g, i, none⟩ v = w := by
  have hh : (w.setCell ⟨g, i, none⟩ v).heap = w.heap := by
    apply Array.ext_getElem?
    intro k
    by_cases hk : k = g
    · subst hk
      cases ho : w.heap[k]? with
      | none => simp [World.setCell, Array.getElem?_modify, ho]
      | some o =>
        cases o with
        | cells c e fr =>
          have hc : c[i]? = some v := by
            rw [cell_of_row _ _ _ _ _ _ ho] at h
            exact h
          have e1 : c.setIfInBounds i v = c := by
            apply Array.ext_getElem?
            intro j
            rw [Array.getElem?_setIfInBounds]
            by_cases hj : i = j
            · subst hj
              rw [if_pos rfl, if_pos (Array.getElem?_eq_some_iff.1 hc).1, hc]
            · rw [if_neg hj]
          rw [setCell_eq_setRow w k i c e fr v ho, setRow_heap w k c _ e fr ho, e1]
        | _ => simp [World.setCell, Array.getElem?_modify, ho]
    · exact heap_setCell_other w ⟨g, i, none⟩ k v hk
  have e2 : w.setCell ⟨g, i, none⟩ v = { w with heap := (w.setCell ⟨g, i, none⟩ v).heap } := rfl
  rw [e2, hh]
theorem HFs.setCell {w : World} {B g i : Nat} {v u : Value} {l : List Fc} (h : HFs w B v l) (hg : g < B) (ha : ∀ x ∈ l, awayC x (some g)) : HFs (w.setCell ⟨g, i, none⟩ u) B v l :=
  ⟨ownsRow_setCell_other h.row (a := ⟨g, i, none⟩) (fun e => absurd (h.row.lt _ e).1 (show ¬ B ≤ g by omega)) u, fun x hx => (h.rd x hx).grown (setCell_grown w ⟨g, i, none⟩ u) (ha x hx), h.away⟩
theorem HFs.setRow {w : World} {B B' g : Nat} {v : Value} {l : List Fc} (h : HFs w B v l) (hg : g < B) (hB : B' ≤ B) (ha : ∀ x ∈ l, awayC x (some g)) (cs : Array Value) : HFs (w.setRow g cs) B' v l :=
  ⟨own_mono (own_setRow h.row hg cs) hB, fun x hx => (h.rd x hx).grown (setRow_grown w g cs) (ha x hx), h.away⟩
theorem heap_set_new (w : World) (p : Addr) (v : Value) (O : Obj) : ((w.setCell p v).alloc O).heap[w.heap.size]? = some O := by
  have := heap_alloc_new (w.setCell p v) O
  rwa [show (w.setCell p v).heap.size = w.heap.size by simp [World.setCell]] at this
theorem awayC_opt {w : World} {x : Fc} (h : RdC w x) {r : Option Nat} (hr : ∀ q, r = some q → awayC x (some q)) : awayC x r := by
  cases r with
  | none => exact awayC_none h
  | some q => exact hr q rfl
theorem ext_setCell2 {a b : World} {g i : Nat} {u v : Value} (h : Ext (a.setCell ⟨g, i, none⟩ u) b) : Ext (a.setCell ⟨g, i, none⟩ v) (b.setCell ⟨g, i, none⟩ v) := by
  have h1 : Below a.heap.size (a.setCell ⟨g, i, none⟩ u) b := by
    have e : (a.setCell ⟨g, i, none⟩ u).heap.size = a.heap.size := by simp [World.setCell]
    unfold Ext at h
    rwa [e] at h
  have h2 := Ext.setBoth h1 ⟨g, i, none⟩ v
  rw [setCell_twice] at h2
  have e2 : (a.setCell ⟨g, i, none⟩ v).heap.size = a.heap.size := by simp [World.setCell]
  unfold Ext
  rw [e2]
  exact h2
end Go.Proofs.YtgecijhgonfldaaGreatDoor
