/- YtgecijhgonfldaaGreatDoor: texts Grp, put one behind the other. -/
import Derived.Maps.OwnSet
import Derived.Laws.OwnMore
import Derived.Test.YtgecijhgonfldaaGreatDoorM21
/- Rows of rows of entries; a map from identifiers to numbers: what normalize.groups keeps. No walk. -/
namespace Go.Proofs.YtgecijhgonfldaaGreatDoor
open Go Go.RowKit Go.WideMaps Go.Maps
set_option linter.unusedVariables false

/-- the groups of a list of identifiers' entries -/
def grp (l : List Ent) (s : ByteArray) : List Ent := l.filter fun x => decide (ordE.id x = s)
/-- memory: 'v' is a row of the groups of l, each a row of the call's own, in blocks of their own -/
structure Grps (w : World) (B : Nat) (v : Value) (l : List Ent) (fs : List ByteArray) (gv : List Value) : Prop where
  len : gv.length = fs.length
  row : w.ownsRow B 33 1 v gv.length gv
  each : ∀ (j : Nat) (s : ByteArray) (u : Value), fs[j]? = some s → gv[j]? = some u → OEnts w B u (grp l s)
  apart : ∀ (i j : Nat) (u u' : Value), gv[i]? = some u → gv[j]? = some u' → i ≠ j → ∀ g, u.ownBlock = some g → u'.ownBlock ≠ some g
theorem Grps.ext {w w' : World} {B : Nat} {v : Value} {l : List Ent} {fs : List ByteArray} {gv : List Value} (h : Grps w B v l fs gv) (hx : Ext w w') : Grps w' B v l fs gv :=
  ⟨h.len, own_ext h.row hx, fun j s u h1 h2 => (h.each j s u h1 h2).ext hx, h.apart⟩
theorem Grps.nil (w : World) (B : Nat) : Grps w B (.slice none 0 0) [] [] [] := ⟨rfl, World.ownsRow_nil _ _ _ _, by simp, by simp⟩
/-- the map: each identifier's place among the first ones -/
def IdxMap (D : DataW Unit) (fs : List ByteArray) : Prop :=
  IsMap D ∧ ∀ s : ByteArray, (Maps.has D (.string s.data.toList) = true ↔ s ∈ fs) ∧ ∀ j : Nat, fs[j]? = some s → D.atKey (.string s.data.toList) (.lit (.int .i64 0)) = .lit (.int .i64 j)
theorem IdxMap.nil : IdxMap (.map []) [] := ⟨isMap_empty, fun s => ⟨by simp [Maps.has], by simp⟩⟩
theorem keyLit_str (s : List UInt8) : WideAt.IsKeyLit (.string s) := trivial
theorem IdxMap.put {D : DataW Unit} {fs : List ByteArray} {s : ByteArray} (h : IdxMap D fs) (hs : s ∉ fs) : IdxMap (D.put (.string s.data.toList) (.lit (.int .i64 (fs.length : Nat)))) (fs ++ [s]) := by
  refine ⟨h.1.put _ _, fun t => ?_⟩
  by_cases e : t = s
  · subst e
    refine ⟨⟨fun _ => by simp, fun _ => has_put_same h.1 (keyLit_str _) _⟩, fun j hj => ?_⟩
    rw [atKey_put_same h.1 (keyLit_str _)]
    have : j = fs.length := by
      rcases Nat.lt_trichotomy j fs.length with h1 | h1 | h1
      · rw [List.getElem?_append_left h1] at hj
        exact absurd (List.mem_of_getElem? hj) hs
      · exact h1
      · rw [List.getElem?_eq_none (by simp; omega)] at hj; cases hj
    rw [this]
  · have hne : (Lit.string t.data.toList) ≠ .string s.data.toList := by
      intro h'
      injection h' with h'
      exact e (data_inj h')
    obtain ⟨h1, h2⟩ := h.2 t
    rw [has_put_other hne, h1]
    refine ⟨by simp [e], fun j hj => ?_⟩
    rw [atKey_put_other hne]
    refine h2 j ?_
    rcases Nat.lt_or_ge j fs.length with h3 | h3
    · rwa [List.getElem?_append_left h3] at hj
    · rw [List.getElem?_append_right h3] at hj
      rcases Nat.eq_zero_or_pos (j - fs.length) with h4 | h4
      · rw [h4] at hj; simp at hj; exact absurd hj.symm e
      · rw [List.getElem?_eq_none (by simp; omega)] at hj; cases hj

/-! ### a further element -/
theorem grp_snoc (l : List Ent) (x : Ent) (s : ByteArray) : grp (l ++ [x]) s = if ordE.id x = s then grp l s ++ [x] else grp l s := by
  unfold grp
  rw [List.filter_append]
  by_cases h : ordE.id x = s
  · rw [if_pos h]; simp [h]
  · rw [if_neg h]; simp [h]
theorem mem_grp_new {l : List Ent} {s : ByteArray} (h : s ∉ ordE.firsts l) : grp l s = [] := by
  unfold grp
  rw [List.filter_eq_nil_iff]
  intro x hx
  simp only [decide_eq_true_eq]
  intro e
  exact h ((ordE.mem_firsts l s).2 ⟨x, hx, e⟩)
theorem Ext.grown' {B : Nat} {a b c : World} {row : Option Nat} (h : Ext a b) (hg : b.grownBy c row) (hr : ∀ g, row = some g → a.heap.size ≤ g) : Ext a c :=
  Below.grown h hg h.size fun k hk => hr k hk
/-- the row of entries of one group has grown by x and is stored back at its place -/
theorem Grps.grow {w w2 : World} {B g cap : Nat} {l : List Ent} {fs : List ByteArray} {gv : List Value} {x : Ent} {i : Nat} {u u' : Value} {s : ByteArray}
    (h : Grps w B (.slice (some ⟨g, 0, none⟩) gv.length cap) l fs gv) (hnd : fs.Pairwise (· ≠ ·)) (hi : fs[i]? = some s) (hu : gv[i]? = some u) (hx : ordE.id x = s)
    (hown : w2.ownsRow B 23 5 u' ((grp l s).length + 1) (flatE (grp l s) ++ eCells x)) (hg : w.grownBy w2 u.ownBlock) (hat : u'.ownBlock = u.ownBlock ∨ (∃ W : Nat, w.heap.size ≤ W ∧ u'.ownBlock = some W)) (hne : u.ownBlock ≠ some g) :
    Grps (w2.setCell ⟨g, i, none⟩ u') B (.slice (some ⟨g, 0, none⟩) gv.length cap) (l ++ [x]) fs (gv.set i u') := by
  have hlen := h.len
  have hgB := h.row.lt g rfl
  have hu'g : u'.ownBlock ≠ some g := by
    rcases hat with e | ⟨W, hW, e⟩
    · rw [e]; exact hne
    · rw [e]; intro e'; injection e' with e'; omega
  have hlt : ∀ (j : Nat) (v : Value), gv[j]? = some v → j ≠ i → v.ownBlock = none ∨ v.ownBlock ≠ u.ownBlock := by
    intro j v hv hj
    cases hv' : v.ownBlock with
    | none => exact Or.inl rfl
    | some b => exact Or.inr fun e => h.apart j i v u hv hu hj b hv' e.symm
  have hrow2 := (h.row.kept hg (Or.inr fun e => hne e.symm))
  refine ⟨by rw [List.length_set]; exact hlen, ?_, ?_, ?_⟩
  · rw [List.length_set]
    exact (hrow2.stored i u').1
  · intro j t v hj hv
    have hvg : ∀ (m : Nat) (q : Value), gv[m]? = some q → (∃ t, fs[m]? = some t) → q.ownBlock = none ∨ q.ownBlock ≠ some g := by
      intro m q hq ⟨t', ht'⟩
      cases hq' : q.ownBlock with
      | none => exact Or.inl rfl
      | some b =>
        refine Or.inr fun e => ?_
        injection e with e
        subst e
        have h1 := (h.each m t' q ht' hq).2
        have h2 := h.row.2
        rcases h1 with ⟨rfl, _⟩ | ⟨b', c', cur', rfl, _, hb', _⟩
        · cases hq'
        · rcases h2 with ⟨h2, _⟩ | ⟨g', c'', cur'', h2, _, hg', _⟩
          · cases h2
          · cases h2
            cases hq'
            rw [hb'] at hg'
            simp at hg'
    by_cases hji : j = i
    · subst hji
      rw [hi] at hj
      injection hj with hj
      subst hj
      have hv' : v = u' := by
        rw [List.getElem?_set] at hv
        have : j < gv.length := (List.getElem?_eq_some_iff.1 hu).1
        simp [this] at hv
        exact hv.symm
      subst hv'
      rw [grp_snoc, if_pos hx]
      exact OEnts.snoc (ownsRow_setCell_other hown (a := ⟨g, j, none⟩) hu'g v)
    · rw [List.getElem?_set_ne (fun e => hji e.symm)] at hv
      have ht : t ≠ s := by
        intro e
        subst e
        have h1 := List.pairwise_iff_getElem.1 hnd
        obtain ⟨p1, q1⟩ := List.getElem?_eq_some_iff.1 hi
        obtain ⟨p2, q2⟩ := List.getElem?_eq_some_iff.1 hj
        rcases Nat.lt_or_gt_of_ne hji with h3 | h3
        · exact h1 j i p2 p1 h3 (q2.trans q1.symm)
        · exact h1 i j p1 p2 h3 (q1.trans q2.symm)
      rw [grp_snoc, if_neg (by rw [hx]; exact fun e => ht e.symm)]
      have h4 := (h.each j t v hj hv).kept hg (hlt j v hv hji)
      refine ownsRow_setCell_other h4 (a := ⟨g, i, none⟩) ?_ u'
      rcases hvg j v hv ⟨t, hj⟩ with e | e
      · rw [e]; simp
      · exact e
  · intro a b v v' hv hv' hab q hq
    rw [List.getElem?_set] at hv hv'
    have key : ∀ (m : Nat) (q' : Value), gv[m]? = some q' → m ≠ i → ∀ b, u'.ownBlock = some b → q'.ownBlock ≠ some b := by
      intro m q' hq' hm b hb e
      rcases hat with e' | ⟨W, hW, e'⟩
      · rw [e'] at hb
        exact h.apart i m u q' hu hq' (fun e => hm e.symm) b hb e
      · rw [e'] at hb
        injection hb with hb
        obtain ⟨pm, _⟩ := List.getElem?_eq_some_iff.1 hq'
        have h5 := h.each m (fs[m]'(by omega)) q' (List.getElem?_eq_getElem (by omega)) hq'
        have := (h5.lt b e).2
        omega
    by_cases ha : i = a
    · subst ha
      have hil : i < gv.length := (List.getElem?_eq_some_iff.1 hu).1
      simp only [if_true, if_pos hil, Option.some.injEq] at hv
      subst hv
      rw [if_neg hab] at hv'
      exact key b v' hv' (fun e => hab e.symm) q hq
    · rw [if_neg ha] at hv
      by_cases hb : i = b
      · subst hb
        have hil : i < gv.length := (List.getElem?_eq_some_iff.1 hu).1
        simp only [if_true, if_pos hil, Option.some.injEq] at hv'
        subst hv'
        intro e
        exact key a v hv (fun e => ha e.symm) q e hq
      · rw [if_neg hb] at hv'
        exact h.apart a b v v' hv hv' hab q hq
theorem Grps.form {w : World} {B : Nat} {v : Value} {l : List Ent} {fs : List ByteArray} {gv : List Value} (h : Grps w B v l fs gv) : ∃ A c, v = .slice A gv.length c := by
  rcases h.row.2 with ⟨h1, h2⟩ | ⟨g, cap, cur, h1, _⟩
  · exact ⟨none, 0, by rw [h1, h2]⟩
  · exact ⟨_, _, h1⟩
/-- another block changes -/
theorem Grps.kept {w w2 : World} {B m : Nat} {v : Value} {l : List Ent} {fs : List ByteArray} {gv : List Value} (h : Grps w B v l fs gv) (hg : w.grownBy w2 (some m)) (hm : m < B) : Grps w2 B v l fs gv := by
  have key : ∀ {e : TypeId} {n size : Nat} {u : Value} {xs : List Value}, w.ownsRow B e size u n xs → u.ownBlock = none ∨ u.ownBlock ≠ some m := by
    intro e n size u xs hu
    cases hb : u.ownBlock with
    | none => exact Or.inl rfl
    | some b =>
      refine Or.inr fun e => ?_
      injection e with e
      have := (hu.lt b hb).1
      omega
  exact ⟨h.len, h.row.kept hg (key h.row), fun j s u h1 h2 => (h.each j s u h1 h2).kept hg (key (h.each j s u h1 h2)), h.apart⟩
/-- a new, empty group -/
theorem Grps.more {w w2 : World} {B : Nat} {v v' : Value} {l : List Ent} {fs : List ByteArray} {gv : List Value} {s : ByteArray}
    (h : Grps w B v l fs gv) (hs : grp l s = []) (hrow : w2.ownsRow B 33 1 v' (gv.length + 1) (gv ++ [.slice none 0 0])) (hg : w.grownBy w2 v.ownBlock) :
    Grps w2 B v' l (fs ++ [s]) (gv ++ [.slice none 0 0]) := by
  have hlen := h.len
  refine ⟨by simp [hlen], by simpa using hrow, ?_, ?_⟩
  · intro j t u hj hu
    rcases Nat.lt_or_ge j gv.length with hjl | hjl
    · rw [List.getElem?_append_left hjl] at hu
      rw [List.getElem?_append_left (by omega)] at hj
      have h1 := h.each j t u hj hu
      refine h1.kept hg ?_
      cases hu' : u.ownBlock with
      | none => exact Or.inl rfl
      | some b =>
        refine Or.inr fun e => ?_
        rcases h1.2 with ⟨rfl, _⟩ | ⟨b', c', cur', rfl, _, hb', _⟩
        · cases hu'
        · rcases h.row.2 with ⟨rfl, _⟩ | ⟨g', c'', cur'', rfl, _, hg', _⟩
          · cases e
          · cases hu'
            cases e
            rw [hb'] at hg'
            simp at hg'
    · rw [List.getElem?_append_right hjl] at hu
      rw [List.getElem?_append_right (by omega)] at hj
      have hj0 : j - gv.length = 0 := by
        rcases Nat.eq_zero_or_pos (j - gv.length) with h4 | h4
        · exact h4
        · rw [List.getElem?_eq_none (by simp; omega)] at hu; cases hu
      rw [hj0] at hu
      rw [show j - fs.length = 0 by omega] at hj
      simp at hu hj
      subst hu hj
      rw [hs]
      exact OEnts.nil _ _
  · intro a b q q' hq hq' hab m hm
    have last : ∀ (n : Nat) (u : Value), (gv ++ [Value.slice none 0 0])[n]? = some u → ∀ m, u.ownBlock = some m → gv[n]? = some u := by
      intro n u hu m hm
      rcases Nat.lt_or_ge n gv.length with hjl | hjl
      · rwa [List.getElem?_append_left hjl] at hu
      · rw [List.getElem?_append_right hjl] at hu
        have := List.mem_of_getElem? hu
        simp at this
        subst this
        cases hm
    intro e
    exact h.apart a b q q' (last a q hq m hm) (last b q' hq' m e) hab m hm e
end Go.Proofs.YtgecijhgonfldaaGreatDoor
