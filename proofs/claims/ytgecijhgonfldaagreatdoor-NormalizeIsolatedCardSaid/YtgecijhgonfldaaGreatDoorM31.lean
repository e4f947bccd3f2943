/- YtgecijhgonfldaaGreatDoor: texts GrpF, put one behind the other. -/
import Derived.Test.YtgecijhgonfldaaGreatDoorM24
/- Rows of rows of feeds: what normalize.groups keeps. No walk. -/
namespace Go.Proofs.YtgecijhgonfldaaGreatDoor
open Go Go.RowKit Go.WideMaps Go.Maps
set_option linter.unusedVariables false

def firstsC (l : List Fc) : List ByteArray := ordF.firsts (l.map Fc.f)
open Classical in
theorem firstsC_snoc (l : List Fc) (e : Fc) : firstsC (l ++ [e]) = if e.f.id ∈ firstsC l then firstsC l else firstsC l ++ [e.f.id] := by
  have h := ordF.firsts_snoc (l.map Fc.f) e.f
  unfold firstsC
  rw [List.map_append, List.map_cons, List.map_nil]
  by_cases hm : e.f.id ∈ ordF.firsts (l.map Fc.f)
  · rw [if_pos hm]; exact h.trans (if_pos hm)
  · rw [if_neg hm]; exact h.trans (if_neg hm)
theorem firstsC_nodup (l : List Fc) : (firstsC l).Pairwise (· ≠ ·) := ordF.firsts_nodup _
theorem mem_firstsC (l : List Fc) (k : ByteArray) : k ∈ firstsC l ↔ ∃ x ∈ l, x.f.id = k := by
  unfold firstsC
  rw [ordF.mem_firsts]
  constructor
  · rintro ⟨f, hf, e⟩
    obtain ⟨x, hx, rfl⟩ := List.mem_map.1 hf
    exact ⟨x, hx, e⟩
  · rintro ⟨x, hx, e⟩
    exact ⟨x.f, List.mem_map.2 ⟨x, hx, rfl⟩, e⟩
/-- the groups of a list of identifiers' entries -/
def grpC (l : List Fc) (s : ByteArray) : List Fc := l.filter fun x => decide (x.f.id = s)
/-- memory: 'v' is a row of the groups of l, each a row of the call's own, in blocks of their own -/
structure GrpsC (w : World) (B : Nat) (v : Value) (l : List Fc) (fs : List ByteArray) (gv : List Value) : Prop where
  len : gv.length = fs.length
  row : w.ownsRow B 37 1 v gv.length gv
  each : ∀ (j : Nat) (s : ByteArray) (u : Value), fs[j]? = some s → gv[j]? = some u → OFcs w B u (grpC l s)
  apart : ∀ (i j : Nat) (u u' : Value), gv[i]? = some u → gv[j]? = some u' → i ≠ j → ∀ g, u.ownBlock = some g → u'.ownBlock ≠ some g
theorem GrpsC.ext {w w' : World} {B : Nat} {v : Value} {l : List Fc} {fs : List ByteArray} {gv : List Value} (h : GrpsC w B v l fs gv) (hx : Ext w w') : GrpsC w' B v l fs gv :=
  ⟨h.len, own_ext h.row hx, fun j s u h1 h2 => (h.each j s u h1 h2).ext hx, h.apart⟩
theorem GrpsC.nil (w : World) (B : Nat) : GrpsC w B (.slice none 0 0) [] [] [] := ⟨rfl, World.ownsRow_nil _ _ _ _, by simp, by simp⟩
/-! ### a further element -/
theorem grpC_snoc (l : List Fc) (x : Fc) (s : ByteArray) : grpC (l ++ [x]) s = if x.f.id = s then grpC l s ++ [x] else grpC l s := by
  unfold grpC
  rw [List.filter_append]
  by_cases h : x.f.id = s
  · rw [if_pos h]; simp [h]
  · rw [if_neg h]; simp [h]
theorem mem_grpC_new {l : List Fc} {s : ByteArray} (h : s ∉ firstsC l) : grpC l s = [] := by
  unfold grpC
  rw [List.filter_eq_nil_iff]
  intro x hx
  simp only [decide_eq_true_eq]
  intro e
  exact h ((mem_firstsC l s).2 ⟨x, hx, e⟩)
/-- the row of entries of one group has grown by x and is stored back at its place -/
theorem GrpsC.grow {w w2 : World} {B g cap : Nat} {l : List Fc} {fs : List ByteArray} {gv : List Value} {x : Fc} {i : Nat} {u u' : Value} {s : ByteArray}
    (h : GrpsC w B (.slice (some ⟨g, 0, none⟩) gv.length cap) l fs gv) (hnd : fs.Pairwise (· ≠ ·)) (hi : fs[i]? = some s) (hu : gv[i]? = some u) (hx : x.f.id = s)
    (hown : w2.ownsRow B 35 6 u' ((grpC l s).length + 1) (flatC (grpC l s) ++ cellsC x)) (hg : w.grownBy w2 u.ownBlock) (hat : u'.ownBlock = u.ownBlock ∨ (∃ W : Nat, w.heap.size ≤ W ∧ u'.ownBlock = some W)) (hne : u.ownBlock ≠ some g) :
    GrpsC (w2.setCell ⟨g, i, none⟩ u') B (.slice (some ⟨g, 0, none⟩) gv.length cap) (l ++ [x]) fs (gv.set i u') := by
  have hlen := h.len
  have hgB := h.row.lt g rfl
  have hu'g : u'.ownBlock ≠ some g := by
    rcases hat with e | ⟨W, hW, e⟩
    · rw [e]; exact hne
    · rw [e]; intro e'; injection e' with e'; omega
  have hlt : ∀ (j : Nat) (v : Value), gv[j]? = some v → j ≠ i → v.ownBlock = none ∨ v.ownBlock ≠ u.ownBlock := by
    intro j v hv hj
    cases hv' : v.ownBlock with
    | none => exact Or.inl rfl
    | some b => exact Or.inr fun e => h.apart j i v u hv hu hj b hv' e.symm
  have hrow2 := (h.row.kept hg (Or.inr fun e => hne e.symm))
  refine ⟨by rw [List.length_set]; exact hlen, ?_, ?_, ?_⟩
  · rw [List.length_set]
    exact (hrow2.stored i u').1
  · intro j t v hj hv
    have hvg : ∀ (m : Nat) (q : Value), gv[m]? = some q → (∃ t, fs[m]? = some t) → q.ownBlock = none ∨ q.ownBlock ≠ some g := by
      intro m q hq ⟨t', ht'⟩
      cases hq' : q.ownBlock with
      | none => exact Or.inl rfl
      | some b =>
        refine Or.inr fun e => ?_
        injection e with e
        subst e
        have h1 := (h.each m t' q ht' hq).2
        have h2 := h.row.2
        rcases h1 with ⟨rfl, _⟩ | ⟨b', c', cur', rfl, _, hb', _⟩
        · cases hq'
        · rcases h2 with ⟨h2, _⟩ | ⟨g', c'', cur'', h2, _, hg', _⟩
          · cases h2
          · cases h2
            cases hq'
            rw [hb'] at hg'
            simp at hg'
    by_cases hji : j = i
    · subst hji
      rw [hi] at hj
      injection hj with hj
      subst hj
      have hv' : v = u' := by
        rw [List.getElem?_set] at hv
        have : j < gv.length := (List.getElem?_eq_some_iff.1 hu).1
        simp [this] at hv
        exact hv.symm
      subst hv'
      rw [grpC_snoc, if_pos hx]
      exact OFcs.snoc (ownsRow_setCell_other hown (a := ⟨g, j, none⟩) hu'g v)
    · rw [List.getElem?_set_ne (fun e => hji e.symm)] at hv
      have ht : t ≠ s := by
        intro e
        subst e
        have h1 := List.pairwise_iff_getElem.1 hnd
        obtain ⟨p1, q1⟩ := List.getElem?_eq_some_iff.1 hi
        obtain ⟨p2, q2⟩ := List.getElem?_eq_some_iff.1 hj
        rcases Nat.lt_or_gt_of_ne hji with h3 | h3
        · exact h1 j i p2 p1 h3 (q2.trans q1.symm)
        · exact h1 i j p1 p2 h3 (q1.trans q2.symm)
      rw [grpC_snoc, if_neg (by rw [hx]; exact fun e => ht e.symm)]
      have h4 := (h.each j t v hj hv).kept hg (hlt j v hv hji)
      refine ownsRow_setCell_other h4 (a := ⟨g, i, none⟩) ?_ u'
      rcases hvg j v hv ⟨t, hj⟩ with e | e
      · rw [e]; simp
      · exact e
  · intro a b v v' hv hv' hab q hq
    rw [List.getElem?_set] at hv hv'
    have key : ∀ (m : Nat) (q' : Value), gv[m]? = some q' → m ≠ i → ∀ b, u'.ownBlock = some b → q'.ownBlock ≠ some b := by
      intro m q' hq' hm b hb e
      rcases hat with e' | ⟨W, hW, e'⟩
      · rw [e'] at hb
        exact h.apart i m u q' hu hq' (fun e => hm e.symm) b hb e
      · rw [e'] at hb
        injection hb with hb
        obtain ⟨pm, _⟩ := List.getElem?_eq_some_iff.1 hq'
        have h5 := h.each m (fs[m]'(by omega)) q' (List.getElem?_eq_getElem (by omega)) hq'
        have := (h5.lt b e).2
        omega
    by_cases ha : i = a
    · subst ha
      have hil : i < gv.length := (List.getElem?_eq_some_iff.1 hu).1
      simp only [if_true, if_pos hil, Option.some.injEq] at hv
      subst hv
      rw [if_neg hab] at hv'
      exact key b v' hv' (fun e => hab e.symm) q hq
    · rw [if_neg ha] at hv
      by_cases hb : i = b
      · subst hb
        have hil : i < gv.length := (List.getElem?_eq_some_iff.1 hu).1
        simp only [if_true, if_pos hil, Option.some.injEq] at hv'
        subst hv'
        intro e
        exact key a v hv (fun e => ha e.symm) q e hq
      · rw [if_neg hb] at hv'
        exact h.apart a b v v' hv hv' hab q hq
theorem GrpsC.form {w : World} {B : Nat} {v : Value} {l : List Fc} {fs : List ByteArray} {gv : List Value} (h : GrpsC w B v l fs gv) : ∃ A c, v = .slice A gv.length c := by
  rcases h.row.2 with ⟨h1, h2⟩ | ⟨g, cap, cur, h1, _⟩
  · exact ⟨none, 0, by rw [h1, h2]⟩
  · exact ⟨_, _, h1⟩
/-- another block changes -/
theorem GrpsC.kept {w w2 : World} {B m : Nat} {v : Value} {l : List Fc} {fs : List ByteArray} {gv : List Value} (h : GrpsC w B v l fs gv) (hg : w.grownBy w2 (some m)) (hm : m < B) : GrpsC w2 B v l fs gv := by
  have key : ∀ {e : TypeId} {n size : Nat} {u : Value} {xs : List Value}, w.ownsRow B e size u n xs → u.ownBlock = none ∨ u.ownBlock ≠ some m := by
    intro e n size u xs hu
    cases hb : u.ownBlock with
    | none => exact Or.inl rfl
    | some b =>
      refine Or.inr fun e => ?_
      injection e with e
      have := (hu.lt b hb).1
      omega
  exact ⟨h.len, h.row.kept hg (key h.row), fun j s u h1 h2 => (h.each j s u h1 h2).kept hg (key (h.each j s u h1 h2)), h.apart⟩
/-- a new, empty group -/
theorem GrpsC.more {w w2 : World} {B : Nat} {v v' : Value} {l : List Fc} {fs : List ByteArray} {gv : List Value} {s : ByteArray}
    (h : GrpsC w B v l fs gv) (hs : grpC l s = []) (hrow : w2.ownsRow B 37 1 v' (gv.length + 1) (gv ++ [.slice none 0 0])) (hg : w.grownBy w2 v.ownBlock) :
    GrpsC w2 B v' l (fs ++ [s]) (gv ++ [.slice none 0 0]) := by
  have hlen := h.len
  refine ⟨by simp [hlen], by simpa using hrow, ?_, ?_⟩
  · intro j t u hj hu
    rcases Nat.lt_or_ge j gv.length with hjl | hjl
    · rw [List.getElem?_append_left hjl] at hu
      rw [List.getElem?_append_left (by omega)] at hj
      have h1 := h.each j t u hj hu
      refine h1.kept hg ?_
      cases hu' : u.ownBlock with
      | none => exact Or.inl rfl
      | some b =>
        refine Or.inr fun e => ?_
        rcases h1.2 with ⟨rfl, _⟩ | ⟨b', c', cur', rfl, _, hb', _⟩
        · cases hu'
        · rcases h.row.2 with ⟨rfl, _⟩ | ⟨g', c'', cur'', rfl, _, hg', _⟩
          · cases e
          · cases hu'
            cases e
            rw [hb'] at hg'
            simp at hg'
    · rw [List.getElem?_append_right hjl] at hu
      rw [List.getElem?_append_right (by omega)] at hj
      have hj0 : j - gv.length = 0 := by
        rcases Nat.eq_zero_or_pos (j - gv.length) with h4 | h4
        · exact h4
        · rw [List.getElem?_eq_none (by simp; omega)] at hu; cases hu
      rw [hj0] at hu
      rw [show j - fs.length = 0 by omega] at hj
      simp at hu hj
      subst hu hj
      rw [hs]
      exact OFcs.nil _ _
  · intro a b q q' hq hq' hab m hm
    have last : ∀ (n : Nat) (u : Value), (gv ++ [Value.slice none 0 0])[n]? = some u → ∀ m, u.ownBlock = some m → gv[n]? = some u := by
      intro n u hu m hm
      rcases Nat.lt_or_ge n gv.length with hjl | hjl
      · rwa [List.getElem?_append_left hjl] at hu
      · rw [List.getElem?_append_right hjl] at hu
        have := List.mem_of_getElem? hu
        simp at this
        subst this
        cases hm
    intro e
    exact h.apart a b q q' (last a q hq m hm) (last b q' hq' m e) hab m hm e
end Go.Proofs.YtgecijhgonfldaaGreatDoor
