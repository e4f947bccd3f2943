/- Parts of the proof: contracts and plain laws that the statement needs. -/
import Derived.Test.YtgecijhgonfldaaGreatDoorQ13
import Derived.Deep.RegionLaw
import Derived.Test.YtgecijhgonfldaaGreatDoorQ14
import Derived.Test.YtgecijhgonfldaaGreatDoorQ17
namespace Go.Proofs.YtgecijhgonfldaaGreatDoor
open Go Go.RowKit Go.WideMaps Go.Maps
set_option linter.unusedVariables false
def firstsC (l : List Fc) : List ByteArray := ordF.firsts (l.map Fc.f)
open Classical in
theorem firstsC_snoc (l : List Fc) (e : Fc) : firstsC (l ++ [e]) = if e.f.id ∈ firstsC l then firstsC l else firstsC l ++ [e.f.id] := by
  have h := ordF.firsts_snoc (l.map Fc.f) e.f
  unfold firstsC
  rw [List.map_append, List.map_cons, List.map_nil]
  by_cases hm : e.f.id ∈ ordF.firsts (l.map Fc.f)
  · rw [if_pos hm]; exact h.trans (if_pos hm)
  · rw [if_neg hm]; exact h.trans (if_neg hm)
theorem firstsC_nodup (l : List Fc) : (firstsC l).Pairwise (· ≠ ·) := ordF.firsts_nodup _
theorem mem_firstsC (l : List Fc) (k : ByteArray) : k ∈ firstsC l ↔ ∃ x ∈ l, x.f.id = k := by
  unfold firstsC
  rw [ordF.mem_firsts]
  constructor
  · rintro ⟨f, hf, e⟩
    obtain ⟨x, hx, rfl⟩ := List.mem_map.1 hf
    exact ⟨x, hx, e⟩
  · rintro ⟨x, hx, e⟩
    exact ⟨x.f, List.mem_map.2 ⟨x, hx, rfl⟩, e⟩
def grpC (l : List Fc) (s : ByteArray) : List Fc := l.filter fun x => decide (x.f.id = s)
structure GrpsC (w : World) (B : Nat) (v : Value) (l : List Fc) (fs : List ByteArray) (gv : List Value) : Prop where
  len : gv.length = fs.length
  row : w.ownsRow B 37 1 v gv.length gv
  each : ∀ (j : Nat) (s : ByteArray) (u : Value), fs[j]? = some s → gv[j]? = some u → OFcs w B u (grpC l s)
  apart : ∀ (i j : Nat) (u u' : Value), gv[i]? = some u → gv[j]? = some u' → i ≠ j → ∀ g, u.ownBlock = some g → u'.ownBlock ≠ some g
theorem GrpsC.ext {w w' : World} {B : Nat} {v : Value} {l : List Fc} {fs : List ByteArray} {gv : List Value} (h : GrpsC w B v l fs gv) (hx : Ext w w') : GrpsC w' B v l fs gv :=
  ⟨h.len, own_ext h.row hx, fun j s u h1 h2 => (h.each j s u h1 h2).ext hx, h.apart⟩
theorem GrpsC.nil (w : World) (B : Nat) : GrpsC w B (.slice none 0 0) [] [] [] := ⟨rfl, World.ownsRow_nil _ _ _ _, by simp, by simp⟩
theorem grpC_snoc (l : List Fc) (x : Fc) (s : ByteArray) : grpC (l ++ [x]) s = if x.f.id = s then grpC l s ++ [x] else grpC l s := by
  unfold grpC
  rw [List.filter_append]
  by_cases h : x.f.id = s
  · rw [if_pos h]; simp [h]
  · rw [if_neg h]; simp [h]
theorem mem_grpC_new {l : List Fc} {s : ByteArray} (h : s ∉ firstsC l) : grpC l s = [] := by
  unfold grpC
  rw [List.filter_eq_nil_iff]
  intro x hx
  simp only [decide_eq_true_eq]
  intro e
  exact h ((mem_firstsC l s).2 ⟨x, hx, e⟩)
theorem GrpsC.grow {w w2 : World} {B g cap : Nat} {l : List Fc} {fs : List ByteArray} {gv : List Value} {x : Fc} {i : Nat} {u u' : Value} {s : ByteArray}
    (h : GrpsC w B (.slice (some ⟨g, 0, none⟩) gv.length cap) l fs gv) (hnd : fs.Pairwise (· ≠ ·)) (hi : fs[i]? = some s) (hu : gv[i]? = some u) (hx : x.f.id = s)
    (hown : w2.ownsRow B 35 6 u' ((grpC l s).length + 1) (flatC (grpC l s) ++ cellsC x)) (hg : w.grownBy w2 u.ownBlock) (hat : u'.ownBlock = u.ownBlock ∨ (∃ W : Nat, w.heap.size ≤ W ∧ u'.ownBlock = some W)) (hne : u.ownBlock ≠ some g) :
    GrpsC (w2.setCell ⟨g, i, none⟩ u') B (.slice (some ⟨g, 0, none⟩) gv.length cap) (l ++ [x]) fs (gv.set i u') := by
  have hlen := h.len
  have hgB := h.row.lt g rfl
  have hu'g : u'.ownBlock ≠ some g := by
    rcases hat with e | ⟨W, hW, e⟩
    · rw [e]; exact hne
    · rw [e]; intro e'; injection e' with e'; omega
  have hlt : ∀ (j : Nat) (v : Value), gv[j]? = some v → j ≠ i → v.ownBlock = none ∨ v.ownBlock ≠ u.ownBlock := by
    intro j v hv hj
    cases hv' : v.ownBlock with
    | none => exact Or.inl rfl
    | some b => exact Or.inr fun e => h.apart j i v u hv hu hj b hv' e.symm
  have hrow2 := (h.row.kept hg (Or.inr fun e => hne e.symm))
  refine ⟨by rw [List.length_set]; exact hlen, ?_, ?_, ?_⟩
  · rw [List.length_set]
    exact (hrow2.stored i u').1
  · intro j t v hj hv
    have hvg : ∀ (m : Nat) (q : Value), gv[m]? = some q → (∃ t, fs[m]? = some t) → q.ownBlock = none ∨ q.ownBlock ≠ some g := by
      intro m q hq ⟨t', ht'⟩
      cases hq' : q.ownBlock with
      | none => exact Or.inl rfl
      | some b =>
        refine Or.inr fun e => ?_
        injection e with e
        subst e
        have h1 := (h.each m t' q ht' hq).2
        have h2 := h.row.2
        rcases h1 with ⟨rfl, _⟩ | ⟨b', c', cur', rfl, _, hb', _⟩
        · cases hq'
        · rcases h2 with ⟨h2, _⟩ | ⟨g', c'', cur'', h2, _, hg', _⟩
          · cases h2
          · cases h2
            cases hq'
            rw [hb'] at hg'
            simp at hg'
    by_cases hji : j = i
    · subst hji
      rw [hi] at hj
      injection hj with hj
      subst hj
      have hv' : v = u' := by
        rw [List.getElem?_set] at hv
        have : j < gv.length := (List.getElem?_eq_some_iff.1 hu).1
        simp [this] at hv
        exact hv.symm
      subst hv'
      rw [grpC_snoc, if_pos hx]
      exact OFcs.snoc (ownsRow_setCell_other hown (a := ⟨g, j, none⟩) hu'g v)
    · rw [List.getElem?_set_ne (fun e => hji e.symm)] at hv
      have ht : t ≠ s := by
        intro e
        subst e
        have h1 := List.pairwise_iff_getElem.1 hnd
        obtain ⟨p1, q1⟩ := List.getElem?_eq_some_iff.1 hi
        obtain ⟨p2, q2⟩ := List.getElem?_eq_some_iff.1 hj
        rcases Nat.lt_or_gt_of_ne hji with h3 | h3
        · exact h1 j i p2 p1 h3 (q2.trans q1.symm)
        · exact h1 i j p1 p2 h3 (q1.trans q2.symm)
      rw [grpC_snoc, if_neg (by rw [hx]; exact fun e => ht e.symm)]
      have h4 := (h.each j t v hj hv).kept hg (hlt j v hv hji)
      refine ownsRow_setCell_other h4 (a := ⟨g, i, none⟩) ?_ u'
      rcases hvg j v hv ⟨t, hj⟩ with e | e
      · rw [e]; simp
      · exact e
  · intro a b v v' hv hv' hab q hq
    rw [List.getElem?_set] at hv hv'
    have key : ∀ (m : Nat) (q' : Value), gv[m]? = some q' → m ≠ i → ∀ b, u'.ownBlock = some b → q'.ownBlock ≠ some b := by
      intro m q' hq' hm b hb e
      rcases hat with e' | ⟨W, hW, e'⟩
      · rw [e'] at hb
        exact h.apart i m u q' hu hq' (fun e => hm e.symm) b hb e
      · rw [e'] at hb
        injection hb with hb
        obtain ⟨pm, _⟩ := List.getElem?_eq_some_iff.1 hq'
        have h5 := h.each m (fs[m]'(by omega)) q' (List.getElem?_eq_getElem (by omega)) hq'
        have := (h5.lt b e).2
        omega
    by_cases ha : i = a
    · subst ha
      have hil : i < gv.length := (List.getElem?_eq_some_iff.1 hu).1
      simp only [if_true, if_pos hil, Option.some.injEq] at hv
      subst hv
      rw [if_neg hab] at hv'
      exact key b v' hv' (fun e => hab e.symm) q hq
    · rw [if_neg ha] at hv
      by_cases hb : i = b
      · subst hb
        have hil : i < gv.length := (List.getElem?_eq_some_iff.1 hu).1
        simp only [if_true, if_pos hil, Option.some.injEq] at hv'
        subst hv'
        intro e
        exact key a v hv (fun e => ha e.symm) q e hq
      · rw [if_neg hb] at hv'
        exact h.apart a b v v' hv hv' hab q hq
theorem GrpsC.form {w : World} {B : Nat} {v : Value} {l : List Fc} {fs : List ByteArray} {gv : List Value} (h : GrpsC w B v l fs gv) : ∃ A c, v = .slice A gv.length c := by
  rcases h.row.2 with ⟨h1, h2⟩ | ⟨g, cap, cur, h1, _⟩
  · exact ⟨none, 0, by rw [h1, h2]⟩
  · exact ⟨_, _, h1⟩
theorem GrpsC.kept {w w2 : World} {B m : Nat} {v : Value} {l : List Fc} {fs : List ByteArray} {gv : List Value} (h : GrpsC w B v l fs gv) (hg : w.grownBy w2 (some m)) (hm : m < B) : GrpsC w2 B v l fs gv := by
  have key : ∀ {e : TypeId} {n size : Nat} {u : Value} {xs : List Value}, w.ownsRow B e size u n xs → u.ownBlock = none ∨ u.ownBlock ≠ some m := by
    intro e n size u xs hu
    cases hb : u.ownBlock with
    | none => exact Or.inl rfl
    | some b =>
      refine Or.inr fun e => ?_
      injection e with e
      have := (hu.lt b hb).1
      omega
  exact ⟨h.len, h.row.kept hg (key h.row), fun j s u h1 h2 => (h.each j s u h1 h2).kept hg (key (h.each j s u h1 h2)), h.apart⟩
theorem GrpsC.more {w w2 : World} {B : Nat} {v v' : Value} {l : List Fc} {fs : List ByteArray} {gv : List Value} {s : ByteArray}
    (h : GrpsC w B v l fs gv) (hs : grpC l s = []) (hrow : w2.ownsRow B 37 1 v' (gv.length + 1) (gv ++ [.slice none 0 0])) (hg : w.grownBy w2 v.ownBlock) :
    GrpsC w2 B v' l (fs ++ [s]) (gv ++ [.slice none 0 0]) := by
  have hlen := h.len
  refine ⟨by simp [hlen], by simpa using hrow, ?_, ?_⟩
  · intro j t u hj hu
    rcases Nat.lt_or_ge j gv.length with hjl | hjl
    · rw [List.getElem?_append_left hjl] at hu
      rw [List.getElem?_append_left (by omega)] at hj
      have h1 := h.each j t u hj hu
      refine h1.kept hg ?_
      cases hu' : u.ownBlock with
      | none => exact Or.inl rfl
      | some b =>
        refine Or.inr fun e => ?_
        rcases h1.2 with ⟨rfl, _⟩ | ⟨b', c', cur', rfl, _, hb', _⟩
        · cases hu'
        · rcases h.row.2 with ⟨rfl, _⟩ | ⟨g', c'', cur'', rfl, _, hg', _⟩
          · cases e
          · cases hu'
            cases e
            rw [hb'] at hg'
            simp at hg'
    · rw [List.getElem?_append_right hjl] at hu
      rw [List.getElem?_append_right (by omega)] at hj
      have hj0 : j - gv.length = 0 := by
        rcases Nat.eq_zero_or_pos (j - gv.length) with h4 | h4
        · exact h4
        · rw [List.getElem?_eq_none (by simp; omega)] at hu; cases hu
      rw [hj0] at hu
      rw [show j - fs.length = 0 by omega] at hj
      simp at hu hj
      subst hu hj
      rw [hs]
      exact OFcs.nil _ _
  · intro a b q q' hq hq' hab m hm
    have last : ∀ (n : Nat) (u : Value), (gv ++ [Value.slice none 0 0])[n]? = some u → ∀ m, u.ownBlock = some m → gv[n]? = some u := by
      intro n u hu m hm
      rcases Nat.lt_or_ge n gv.length with hjl | hjl
      · rwa [List.getElem?_append_left hjl] at hu
      · rw [List.getElem?_append_right hjl] at hu
        have := List.mem_of_getElem? hu
        simp at this
        subst this
        cases hm
    intro e
    exact h.apart a b q q' (last a q hq m hm) (last b q' hq' m e) hab m hm e
end Go.Proofs.YtgecijhgonfldaaGreatDoor
namespace Go.Proofs.YtgecijhgonfldaaGreatDoor
open Go Go.RowKit Go.WideMaps Go.Maps
set_option linter.unusedVariables false
theorem info_rowF : (Tryz.prog.info? 37).map (fun i => (i.zero, i.size, i.bytes)) = some (some (.slice none 0 0), 1, 24) := by kernel_rfl
theorem firstsC_len (l : List Fc) : (firstsC l).length ≤ l.length := by
  suffices h : ∀ (n : Nat) (l : List Fc), l.length = n → (firstsC l).length ≤ l.length from h _ l rfl
  intro n
  induction n with
  | zero => intro l hl; rw [List.eq_nil_of_length_eq_zero hl]; exact Nat.le_refl _
  | succ n ih =>
    intro l hl
    obtain ⟨l', e, rfl⟩ : ∃ l' e, l = l' ++ [e] := by
      rcases List.eq_nil_or_concat l with h | ⟨l', e, h⟩
      · subst h; simp at hl
      · exact ⟨l', e, by simpa using h⟩
    have := ih l' (by simpa using hl)
    rw [firstsC_snoc]
    split <;> simp <;> omega
theorem grpC_len (l : List Fc) (s : ByteArray) : (grpC l s).length ≤ l.length := List.length_filter_le _ _
theorem GrpsC.grow' {w0 w1 w w2 : World} {B g cap : Nat} {l : List Fc} {fs : List ByteArray} {gv : List Value} {x : Fc} {i : Nat} {u u' : Value} {s : ByteArray}
    (h : GrpsC w1 B (.slice (some ⟨g, 0, none⟩) gv.length cap) l fs gv) (_hx0 : Ext w0 w1) (hx : Ext w1 w) (hnd : fs.Pairwise (· ≠ ·)) (hi : fs[i]? = some s) (hu : gv[i]? = some u) (hxs : x.f.id = s)
    (hown : w2.ownsRow B 35 6 u' ((grpC l s).length + 1) (flatC (grpC l s) ++ cellsC x)) (hg : w.grownBy w2 u.ownBlock) (hat : u'.ownBlock = u.ownBlock ∨ u'.ownBlock = some w.heap.size) (hne : u.ownBlock ≠ some g) :
    w2.cell? ⟨g, i, none⟩ = some u ∧ w2.frozen? ⟨g, i, none⟩ = false ∧ GrpsC (w2.setCell ⟨g, i, none⟩ u') B (.slice (some ⟨g, 0, none⟩) gv.length cap) (l ++ [x]) fs (gv.set i u') := by
  have hw := h.ext hx
  have hrow := hw.row.kept hg (Or.inr fun e => hne e.symm)
  have hil : i < gv.length := (List.getElem?_eq_some_iff.1 hu).1
  refine ⟨by rw [hrow.cellAt i (by omega)]; exact hu, hrow.frozenAt i, hw.grow hnd hi hu hxs hown hg ?_ hne⟩
  rcases hat with e | e
  · exact Or.inl e
  · exact Or.inr ⟨_, Nat.le_refl _, e⟩
set_option maxRecDepth 100000 in
set_option maxHeartbeats 2000000 in
theorem groupsF_any (v : Value) (l : List Fc) (w : World) (h : RFcs w v l) (hsl : ∀ x ∈ l, slC x) (hsz : ∀ x ∈ l, x.f.id.size ≤ 16777216) (hn : l.length ≤ 1000000) :
    Calls Tryz.prog 56 #[v, .func (.func 57) #[] #[]] w fun x w' => ∃ v' gv, x = .returned v' ∧ GrpsC w' w.heap.size v' l (firstsC l) gv ∧ Ext w w' := by
  obtain ⟨i0, hi0, hz0, hz1, hz2⟩ := info_parts info_feed
  obtain ⟨i1, hj0, hy0, hy1, hy2⟩ := info_parts info_rowF
  obtain ⟨A, c, rfl, hlc, hcm⟩ := h.form
  have hmm := @run_makeMap Tryz.prog
  have HSZ := Lib.hid hsz
  have HSLA := Lib.hid hsl
  clear hlc hcm hsz hsl
  go_enter Tryz.func56, Tryz.ntmps56
  go_wp2
  go_loopw [6, 14] (fun o i wr => ∃ (k : Nat) (gv : List Value) (D : DataW Unit), k ≤ l.length ∧ i = .int .i64 k ∧ GrpsC wr (w.heap.size + 1) o (l.take k) (firstsC (l.take k)) gv ∧ wr.ownsMap Tryz.prog 9 (plainElem Tryz.prog 3) w.heap.size k D ∧ Hid (IdxMap D (firstsC (l.take k))) ∧ Ext w wr ∧ w.heap.size + 1 ≤ wr.heap.size) (fun _ i _ => l.length - (intOf i).toNat)
  case atStart => exact ⟨0, [], .map [], Nat.zero_le _, rfl, GrpsC.nil _ _, World.ownsMap_made _ _ _ _, IdxMap.nil, (Ext.refl _).alloc _, by simp⟩
  case round =>
    obtain ⟨k, gv, D, hk, rfl, hG, hM, hD, hx, hws⟩ := hrel
    by_cases hlt : k < l.length
    · obtain ⟨ad, c', hv, hat⟩ := (h.ext hx).at hlt
      injection hv with hv1 hv2 hv3
      subst hv1
      clear hv2 hv3
      have hxs := HSZ.out l[k] (List.getElem_mem hlt)
      have hsl := HSLA.out l[k] (List.getElem_mem hlt)
      have htk := List.take_succ_eq_append_getElem hlt
      have hfn := firstsC_snoc (l.take k) l[k]
      rw [← htk] at hfn
      have hfl := firstsC_len (l.take k)
      rw [List.length_take] at hfl
      have hgl := hG.len
      have hnd := firstsC_nodup (l.take k)
      obtain ⟨x, hxx⟩ : ∃ x, l[k] = x := ⟨_, rfl⟩
      rw [hxx] at hat hxs hsl htk hfn
      have HSL := Lib.hid hsl
      have HTK := Lib.hid htk
      have HFN := Lib.hid hfn
      clear htk hfn hxx
      have hgrl := grpC_len (l.take k) x.f.id
      rw [List.length_take] at hgrl
      have hkey : keyOf Tryz.prog 9 (.string x.f.id) = some (.string x.f.id.data.toList) := keyOf_string_mk Tryz.underlying9 (by unfold maxLen; omega)
      have HID := Lib.hid (fun w' => fdID_any x.p x.es x.f w')
      have hi0' : (0 : Int) ≤ (k : Int) := by omega
      have hi1 : (k : Int) < (l.length : Int) := by omega
      have hDx := hD.out.2 x.f.id
      obtain ⟨a0, a1, a2, a3, a4, a5⟩ := hat
      by_cases hmem : x.f.id ∈ firstsC (l.take k)
      · have hhas : Maps.has D (.string x.f.id.data.toList) = true := hDx.1.2 hmem
        obtain ⟨j, hj⟩ := List.mem_iff_getElem?.1 hmem
        have hjd := hDx.2 j hj
        have hjl : j < gv.length := by rw [hgl]; exact (List.getElem?_eq_some_iff.1 hj).1
        have HJD := Lib.hid hjd
        have HHAS := Lib.hid hhas
        have HMEM := Lib.hid hmem
        obtain ⟨g, cap, ho, hcap⟩ : ∃ g cap, (_ : Value) = .slice (some ⟨g, 0, none⟩) gv.length cap ∧ gv.length ≤ maxLen := by
          rcases hG.row.2 with ⟨h1, h2⟩ | ⟨g, cap, cur, h1, _, _, h4, h5, _⟩
          · omega
          · exact ⟨g, cap, h1, Nat.le_trans h4 h5⟩
        subst ho
        obtain ⟨u, hu⟩ : ∃ u, gv[j]? = some u := ⟨_, List.getElem?_eq_getElem hjl⟩
        have hou := hG.each j x.f.id u hj hu
        have hgc : wr.cell? ⟨g, j, none⟩ = some u := by rw [hG.row.cellAt j (by omega)]; exact hu
        have hgf := hG.row.frozenAt j
        have hgB := hG.row.lt g rfl
        have hune : u.ownBlock ≠ some g := by
          intro e
          rcases hou.2 with ⟨rfl, _⟩ | ⟨b', c', cur', rfl, _, hb', _⟩
          · cases e
          · rcases hG.row.2 with ⟨h2, _⟩ | ⟨g', c'', cur'', h2, _, hg', _⟩
            · cases h2
            · cases h2
              cases e
              rw [hb'] at hg'
              simp at hg'
        have huM : u.ownBlock ≠ some w.heap.size := by
          intro e
          have := (hou.lt _ e).1
          omega
        have HOU := Lib.hid hou
        have HHU := Lib.hid hu
        have HHJ := Lib.hid hj
        have HUN := Lib.hid hune
        have HUM := Lib.hid huM
        have HGB := Lib.hid hgB
        have hjl' : (j : Int) < (gv.length : Int) := by omega
        have hj0' : (0 : Int) ≤ (j : Int) := by omega
        have HBY : Hid (((grpC (l.take k) x.f.id).length + 1) * 104 ≤ 140737488355328) := Lib.hid (by omega)
        have HML : Hid ((grpC (l.take k) x.f.id).length + 1 ≤ maxLen) := Lib.hid (by unfold maxLen; omega)
        have hgl' : gv.length ≤ 9223372036854775807 := by omega
        have HGL := Lib.hid hgl
        have HCAP := Lib.hid hcap
        clear hjd hhas hmem hDx hou hu hj hune huM hgB hgl hcap hjl hgrl hfl
        obtain ⟨xp, xes, ⟨xpath, xid, xtitle, xlink, xupd, xents⟩⟩ := x
        obtain ⟨⟨xA, xn, xc, hxp⟩, ⟨xB, xm, xd, hxe⟩⟩ := hsl
        simp only at hxp hxe
        subst hxp hxe
        simp only at a0 a1 a2 a3 a4 a5 hkey
        unfold fCells at HID
        dsimp only at HID
        go_wp2_with (first
          | (go_at_call 57; refine (HID.out _).mono ?_; rintro e w2 ⟨rfl, hx2⟩; (have e0 := hx2.boxed 0 _ rfl); (have e1 := hx2.boxed 1 _ rfl); (have e2 := hx2.boxed 2 _ rfl); (have e3 := hx2.boxed 3 _ rfl); (have e4 := hx2.boxed 4 _ rfl); (have e5 := hx2.boxed 5 _ rfl); (have hxa := (((Ext.refl wr).alloc _).trans hx2)); (have hgc2 := hxa.cell hgc); (have hgf2 := (Below.frozen hxa HGB.out.2).trans hgf))
          | (at_lookup; refine wpList_lookup_own_ok_int _ rfl (.tmp 19) (.tmp 22) _ rfl 9 3 .i64 keyLaw Tryz.underlying114 Tryz.underlying3 (zeroInt _) w.heap.size k D rfl ((hM.kept (((Ext.refl wr).alloc _).grown none) (by simp)).kept (hx2.grown none) (by simp)) _ _ rfl hkey ?_; intro c hat hwc; (have hcj : c = (j : Int) := by (have e := HJD.out.symm.trans hat; injection e with e; injection e with _ e; exact e.symm)); rw [HHAS.out, hcj]; clear hat hwc hcj c))
        have HXA := Lib.hid hxa
        have HG2 := Lib.hid (hG.ext hxa)
        have HM2 := Lib.hid (hM.kept (hxa.grown none) (by simp))
        have HOU2 := Lib.hid (OFcs.ext HOU.out hxa)
        have HXW := Lib.hid (hx.trans hxa)
        have HWS := Lib.hid (Nat.le_trans hws hxa.size)
        have HND := Lib.hid hnd
        clear hG hM hkey a0 a1 a2 a3 a4 a5 hgc hgf hx2 hnd
        have hgw2 : g < w2.heap.size := World.block_lt_of_cell? w2 _ hgc2
        have hbw2 : wr.heap.size < w2.heap.size := World.block_lt_of_cell? w2 _ e0
        go_region_law (first
          | (refine step_append_rsl _ (by rfl) (.tmp 43) (.tmp 45) _ (by rfl) (w.heap.size + 1) 35 i0 _ 6 104 Tryz.underlying37 hi0 hz0 hz1 hz2 rfl (by decide) u (grpC (l.take k) xid).length (flatC (grpC (l.take k) xid)) (by rfl) (own_ext HOU2.out (by repeat (first | exact Ext.refl _ | apply Ext.drew | apply Ext.alloc))) _ 1 (cellsC ⟨.slice xA xn xc, .slice xB xm xd, ⟨xpath, xid, xtitle, xlink, xupd, xents⟩⟩) (by rfl) (RSl.ext (rsl_new rfl (by decide)) (by repeat (first | exact Ext.refl _ | apply Ext.drew))) (cellsC_one HSL.out) HML.out HBY.out (Nat.le_trans HWS.out (by simp)) ?_; intro v3 w3 hown3 hg3 hat3; (obtain ⟨g3, cap3, hv3, hb3⟩ : ∃ g3 cap3, v3 = .slice (some ⟨g3, 0, none⟩) ((grpC (l.take k) xid).length + 1) cap3 ∧ True := by (obtain ⟨g3, cap3, hv3, _⟩ := hown3.form (by omega); exact ⟨g3, cap3, hv3, trivial⟩)); subst hv3; (have hgr := GrpsC.grow' HG2.out (Ext.refl _) (by repeat (first | exact Ext.refl _ | apply Ext.drew | apply Ext.alloc)) HND.out HHJ.out HHU.out rfl hown3 hg3 hat3 HUN.out); (have hgc3 := hgr.1); (have hgf3 := hgr.2.1); (have hm3 := (HM2.out.kept ((show Ext w2 _ from by repeat (first | exact Ext.refl _ | apply Ext.drew | apply Ext.alloc)).grown none) (by simp)).kept hg3 (fun e => HUM.out e.symm)); (have hx3 : Ext w w3 := Ext.grown' (B := 0) (Ext.trans HXW.out (by repeat (first | exact Ext.refl _ | apply Ext.drew | apply Ext.alloc))) hg3 (fun b hb => Nat.le_trans (Nat.le_succ _) (HOU2.out.lt b hb).1))))
        all_goals
          have hgr3 := hgr.2.2
          have HGR := Lib.hid hgr3
          have HM3 := Lib.hid (hm3.setCell (a := ⟨g, j, none⟩) (show w.heap.size ≠ g by have := HGB.out.1; omega) (.slice (some ⟨g3, 0, none⟩) ((grpC (l.take k) xid).length + 1) cap3))
          have HX3 := Lib.hid (hx3.setCell (p := ⟨g, j, none⟩) (show w.heap.size ≤ g by have := HGB.out.1; omega) (.slice (some ⟨g3, 0, none⟩) ((grpC (l.take k) xid).length + 1) cap3))
          clear hgr hgr3 hm3 hx3 hown3 hg3 hat3 hgc3 hgf3 e0 e1 e2 e3 e4 e5 hgc2 hgf2 hxa
          go_wp2
          go_roundw
          case rel =>
            have hfm : firstsC (l.take (k + 1)) = firstsC (l.take k) := HFN.out.trans (if_pos HMEM.out)
            exact ⟨k + 1, gv.set j _, D, hlt, by go_num, by rw [hfm, HTK.out]; exact HGR.out, HM3.out.mono (Nat.le_succ _), by rw [hfm]; exact hD, HX3.out, HM3.out.lt⟩
          case measure => simp [intOf]; omega
      · have hhas : Maps.has D (.string x.f.id.data.toList) = false := by
          cases hb : Maps.has D (.string x.f.id.data.toList) with
          | false => rfl
          | true => exact absurd (hDx.1.1 hb) hmem
        have hput := hD.out.put (s := x.f.id) hmem
        rw [← hgl] at hput
        have HPUT := Lib.hid hput
        have HHAS := Lib.hid hhas
        have HMEM := Lib.hid hmem
        have HNEW := Lib.hid (mem_grpC_new hmem)
        have HGL := Lib.hid hgl
        have hwf : (Lit.int .i64 (gv.length : Nat)).wf = true := by
          simp only [Lit.wf, IntKind.min, IntKind.max, Bool.and_eq_true]
          simp [IntKind.signed, IntKind.bits]
          omega
        have HWF := Lib.hid hwf
        have hbx0 := heap_alloc_new wr (.cells (cellsC x).toArray 35)
        have HBX := Lib.hid hbx0
        have HBYR : Hid ((gv.length + 1) * 24 ≤ 140737488355328) := Lib.hid (by omega)
        have HMLR : Hid (gv.length + 1 ≤ maxLen) := Lib.hid (by unfold maxLen; omega)
        have HKL : Hid (k < maxLen) := Lib.hid (by unfold maxLen; omega)
        have hgl' : gv.length ≤ 9223372036854775806 := by omega
        clear hhas hmem hput hwf hbx0 hDx hfl hgrl hgl
        obtain ⟨xp, xes, ⟨xpath, xid, xtitle, xlink, xupd, xents⟩⟩ := x
        obtain ⟨⟨xA, xn, xc, hxp⟩, ⟨xB, xm, xd, hxe⟩⟩ := hsl
        simp only at hxp hxe
        subst hxp hxe
        simp only at a0 a1 a2 a3 a4 a5 hkey
        unfold cellsC at HBX
        unfold fCells at HID HBX
        dsimp only at HID HBX
        obtain ⟨gA, gC, ho⟩ := hG.form
        subst ho
        have tok1 : True := trivial
        go_wp2_with (first
          | (clear tok1; go_at_call 57; refine (HID.out _).mono ?_; rintro e w2 ⟨rfl, hx2⟩; (have hb2 := hx2.heap HBX.out); (obtain ⟨e0, e1, e2, e3, e4, e5⟩ := blk6 hb2); (have hxa := (((Ext.refl wr).alloc _).trans hx2)))
          | (at_lookup; refine wpList_lookup_own_ok_int _ rfl (.tmp 19) (.tmp 22) _ rfl 9 3 .i64 keyLaw Tryz.underlying114 Tryz.underlying3 (zeroInt _) w.heap.size k D rfl ((hM.kept (((Ext.refl wr).alloc _).grown none) (by simp)).kept (hx2.grown none) (by simp)) _ _ rfl hkey ?_; intro c hat hwc; rw [HHAS.out]; clear hat hwc)
          | (go_at_call 57; refine (HID.out _).mono ?_; rintro e w4 ⟨rfl, hx4⟩; (have hb4 := hx4.heap hb2); (have hxb := hxa.trans hx4))
          | (at_mapUpdate; refine wpList_mapUpdate_own _ rfl (.tmp 30) (.tmp 33) (.tmp 34) 114 rfl 9 3 keyLaw Tryz.underlying114 _ w.heap.size k D rfl (hM.kept (hxb.grown none) (by simp)) HKL.out _ _ _ rfl rfl hkey _ [] (plainElem_int Tryz.underlying3 HWF.out) ?_; intro w5 hM5 hg5)
          | (at_builtin; refine wpList_append_rsl _ rfl (.tmp 35) (.tmp 36) _ rfl (w.heap.size + 1) 37 i1 _ 1 24 Tryz.underlying88 hj0 hy0 hy1 hy2 rfl (by decide) _ gv.length gv rfl ((((hG.ext hxb).kept hg5 (Nat.lt_succ_self _)).row).alloc _) _ 1 [.slice none 0 0] rfl (rsl_new rfl (by decide)) (by intro y hy; simp at hy; subst hy; rfl) HMLR.out HBYR.out ?_ ?_; (have := hM5.lt; simp; omega); intro v6 w6 hown6 hg6 hat6))
        obtain ⟨g, cap, hv6, hgB1, hgB2⟩ := hown6.form (Nat.succ_pos _)
        subst hv6
        have hxm : Ext w w5 := Ext.grown' (B := 0) (hx.trans hxb) hg5 (fun b hb => by cases hb; exact Nat.le_refl _)
        have hG5 := (hG.ext hxb).kept hg5 (Nat.lt_succ_self _)
        have hlen : gv.length + 1 = (gv ++ [Value.slice none 0 0]).length := by simp
        have hG6 := GrpsC.more (hG5.ext ((Ext.refl _).alloc _)) HNEW.out hown6 hg6
        rw [hlen] at hG6
        have HG2 := Lib.hid hG6
        have huN : ∀ b, (Value.slice gA gv.length gC).ownBlock = some b → w.heap.size + 1 ≤ b := fun b hb => (hG.row.lt b hb).1
        have HM2 := Lib.hid ((hM5.alloc _).kept hg6 (fun e => by have := huN _ e.symm; omega))
        have HXW := Lib.hid (Ext.grown' (B := 0) (hxm.alloc _) hg6 (fun b hb => Nat.le_trans (Nat.le_succ _) (huN b hb)))
        have hou : OFcs w6 (w.heap.size + 1) (.slice none 0 0) (grpC (l.take k) xid) := by rw [HNEW.out]; exact OFcs.nil _ _
        have HOU2 := Lib.hid hou
        have hW6 : w.heap.size + 1 ≤ w6.heap.size := HM2.out.lt
        have HWS := Lib.hid hW6
        have hb5 : w5.heap[wr.heap.size]? = some (.cells #[.slice xA xn xc, .string xid, .string xtitle, .string xlink, .int .i64 xupd, .slice xB xm xd] 35) := by
          rw [hg5.block wr.heap.size (World.block_lt_of_cell? w4 ⟨wr.heap.size, 0, none⟩ (by rw [cell_of_row _ _ _ _ _ _ hb4]; rfl)) (by simp; omega)]
          exact hb4
        have hb6 : w6.heap[wr.heap.size]? = some (.cells #[.slice xA xn xc, .string xid, .string xtitle, .string xlink, .int .i64 xupd, .slice xB xm xd] 35) := by
          rw [hg6.block wr.heap.size (by have : wr.heap.size < w5.heap.size := World.block_lt_of_cell? w5 ⟨wr.heap.size, 0, none⟩ (by rw [cell_of_row _ _ _ _ _ _ hb5]; rfl); simp; omega) (fun e => by have := (hG.row.lt _ e.symm).2; omega)]
          exact ((Ext.refl w5).alloc _).heap hb5
        have HND : Hid ((firstsC (l.take k) ++ [xid]).Pairwise (· ≠ ·)) := Lib.hid (by
          rw [List.pairwise_append]
          exact ⟨hnd, by simp, fun a ha b hb => by simp at hb; subst hb; rintro rfl; exact HMEM.out ha⟩)
        have HHJ : Hid ((firstsC (l.take k) ++ [xid])[gv.length]? = some xid) := Lib.hid (by rw [HGL.out]; simp)
        have HHU : Hid ((gv ++ [Value.slice none 0 0])[gv.length]? = some (.slice none 0 0)) := Lib.hid (by simp)
        have HUN : Hid ((Value.slice none 0 0).ownBlock ≠ some g) := Lib.hid (by intro e; cases e)
        have HUM : Hid ((Value.slice none 0 0).ownBlock ≠ some w.heap.size) := Lib.hid (by intro e; cases e)
        have HGB := Lib.hid (And.intro hgB1 hgB2)
        have hgc2 : w6.cell? ⟨g, gv.length, none⟩ = some (.slice none 0 0) := by rw [hown6.cellAt gv.length (by omega)]; simp
        have hgf2 : w6.frozen? ⟨g, gv.length, none⟩ = false := hown6.frozenAt gv.length
        have hjl' : (gv.length : Int) < ((gv.length : Nat) : Int) + 1 := by omega
        have hjn' : gv.length < gv.length + 1 := by omega
        have hj0' : (0 : Int) ≤ (gv.length : Int) := by omega
        have HBY : Hid ((grpC (l.take k) xid).length + 1 ≤ 1 ∧ True) := Lib.hid ⟨by rw [HNEW.out]; simp, trivial⟩
        have HML : Hid ((grpC (l.take k) xid).length + 1 ≤ maxLen) := Lib.hid (Nat.le_trans HBY.out.1 (by decide))
        have HBY2 : Hid (((grpC (l.take k) xid).length + 1) * 104 ≤ 140737488355328) := Lib.hid (by have := HBY.out.1; omega)
        clear HBY
        have HBY := HBY2
        have HLEN := Lib.hid hlen
        clear e0 e1 e2 e3 e4 e5
        obtain ⟨e0, e1, e2, e3, e4, e5⟩ := blk6 hb6
        clear hG hG5 hG6 hM hM5 hkey a0 a1 a2 a3 a4 a5 hx2 hx4 hxa hxb hb2 hb4 hb5 hb6 hg5 hg6 hat6 hown6 hxm huN hou hW6 hlen hgB1 hgB2 hnd
        have hgw2 : g < w6.heap.size := World.block_lt_of_cell? w6 _ hgc2
        have hbw2 : wr.heap.size < w6.heap.size := World.block_lt_of_cell? w6 _ e0
        go_region_law (first
          | (refine step_append_rsl _ (by rfl) (.tmp 43) (.tmp 45) _ (by rfl) (w.heap.size + 1) 35 i0 _ 6 104 Tryz.underlying37 hi0 hz0 hz1 hz2 rfl (by decide) (.slice none 0 0) (grpC (l.take k) xid).length (flatC (grpC (l.take k) xid)) (by rfl) (own_ext HOU2.out (by repeat (first | exact Ext.refl _ | apply Ext.drew | apply Ext.alloc))) _ 1 (cellsC ⟨.slice xA xn xc, .slice xB xm xd, ⟨xpath, xid, xtitle, xlink, xupd, xents⟩⟩) (by rfl) (RSl.ext (rsl_new rfl (by decide)) (by repeat (first | exact Ext.refl _ | apply Ext.drew))) (cellsC_one HSL.out) HML.out HBY.out (Nat.le_trans HWS.out (by simp)) ?_; intro v3 w3 hown3 hg3 hat3; (obtain ⟨g3, cap3, hv3, hb3⟩ : ∃ g3 cap3, v3 = .slice (some ⟨g3, 0, none⟩) ((grpC (l.take k) xid).length + 1) cap3 ∧ True := by (obtain ⟨g3, cap3, hv3, _⟩ := hown3.form (by omega); exact ⟨g3, cap3, hv3, trivial⟩)); subst hv3; (have hgr := GrpsC.grow' HG2.out (Ext.refl _) (by repeat (first | exact Ext.refl _ | apply Ext.drew | apply Ext.alloc)) HND.out HHJ.out HHU.out rfl hown3 hg3 hat3 HUN.out); (have hgc3 := hgr.1); (have hgf3 := hgr.2.1); (have hm3 := (HM2.out.kept ((show Ext w6 _ from by repeat (first | exact Ext.refl _ | apply Ext.drew | apply Ext.alloc)).grown none) (by simp)).kept hg3 (fun e => HUM.out e.symm)); (have hx3 : Ext w w3 := Ext.grown' (B := 0) (Ext.trans HXW.out (by repeat (first | exact Ext.refl _ | apply Ext.drew | apply Ext.alloc))) hg3 (fun b hb => Nat.le_trans (Nat.le_succ _) (HOU2.out.lt b hb).1))))
        all_goals
          have hgr3 := hgr.2.2
          have HGR := Lib.hid hgr3
          have HM3 := Lib.hid (hm3.setCell (a := ⟨g, gv.length, none⟩) (show w.heap.size ≠ g by have := HGB.out.1; omega) (.slice (some ⟨g3, 0, none⟩) ((grpC (l.take k) xid).length + 1) cap3))
          have HX3 := Lib.hid (hx3.setCell (p := ⟨g, gv.length, none⟩) (show w.heap.size ≤ g by have := HGB.out.1; omega) (.slice (some ⟨g3, 0, none⟩) ((grpC (l.take k) xid).length + 1) cap3))
          clear hgr hgr3 hm3 hx3 hown3 hg3 hat3 hgc3 hgf3 e0 e1 e2 e3 e4 e5 hgc2 hgf2
          go_wp2
          go_roundw
          case rel =>
            have hfm : firstsC (l.take (k + 1)) = firstsC (l.take k) ++ [xid] := HFN.out.trans (if_neg HMEM.out)
            exact ⟨k + 1, (gv ++ [Value.slice none 0 0]).set gv.length _, D.put (.string xid.data.toList) (.lit (.int .i64 (gv.length : Nat))), hlt, by go_num, by rw [hfm, HTK.out, HLEN.out]; exact HGR.out, HM3.out, by rw [hfm]; exact HPUT.out, HX3.out, HM3.out.lt⟩
          case measure => simp [intOf]; omega
    · have hke : k = l.length := by omega
      subst hke
      rw [List.take_of_length_le (Nat.le_refl _)] at hG hD
      have HG := Lib.hid hG
      clear hG hD hM hk hlt
      go_wp2
      go_ret
      refine ⟨_, gv, rfl, ?_, hx⟩
      have h1 := HG.out
      exact ⟨h1.len, own_mono h1.row (Nat.le_succ _), fun j s u hj hu => (h1.each j s u hj hu).mono (Nat.le_succ _), h1.apart⟩
end Go.Proofs.YtgecijhgonfldaaGreatDoor
namespace Go.Proofs.YtgecijhgonfldaaGreatDoor
open Go Go.RowKit Go.Sort
set_option linter.unusedVariables false
set_option maxRecDepth 100000 in
set_option maxHeartbeats 2000000 in
theorem slicesCmp_any (u v : Value) (a b : List ByteArray) (w : World) (ha : RStrs w u a) (hb : RStrs w v b) (hn : a.length ≤ 16777216) :
    Calls Tryz.prog 124 #[u, v] w fun e w' => e = .returned (.int .i64 (pathCmp a b)) ∧ w' = w := by
  obtain ⟨A, c, rfl, hac, hcm⟩ := ha.form
  obtain ⟨B, d, rfl, hbd, hdm⟩ := hb.form
  have HA : Hid (a.length ≤ maxLen) := Lib.hid (by omega)
  have HB : Hid (b.length ≤ maxLen) := Lib.hid (by omega)
  clear hac hcm hbd hdm
  go_enter Tryz.func124, Tryz.ntmps124
  go_wp2
  go_loopw [11] (fun i wr => ∃ k : Nat, k ≤ a.length ∧ k ≤ b.length ∧ i = .int .i64 k ∧ Hid (pathCmp a b = pathCmp (a.drop k) (b.drop k)) ∧ wr = w) (fun i _ => a.length - (intOf i).toNat)
  case atStart => exact ⟨0, Nat.zero_le _, Nat.zero_le _, rfl, Lib.hid rfl, rfl⟩
  case round =>
    obtain ⟨k, hka, hkb, rfl, hinv, rfl⟩ := hrel
    by_cases hla : k < a.length
    · by_cases hlb : k < b.length
      · have hpd := pathCmp_drop hla hlb
        obtain ⟨ad, c1, e1, hca⟩ := ha.at hla
        injection e1 with e1 e2 e3
        subst e1
        obtain ⟨bd, d1, e4, hcb⟩ := hb.at hlb
        injection e4 with e4 e5 e6
        subst e4
        clear e2 e3 e5 e6
        obtain ⟨x, hxx⟩ : ∃ x, a[k] = x := ⟨_, rfl⟩
        obtain ⟨y, hyy⟩ : ∃ y, b[k] = y := ⟨_, rfl⟩
        rw [hxx, hyy] at hpd
        rw [hxx] at hca
        rw [hyy] at hcb
        have HPD := Lib.hid hpd
        have HC := Lib.hid (fun w' => cmpStr_any x y w')
        clear hpd hxx hyy
        have hi0 : (0 : Int) ≤ (k : Int) := by omega
        have hia : (k : Int) < (a.length : Int) := by omega
        have hib : (k : Int) < (b.length : Int) := by omega
        obtain ⟨q, hq⟩ : ∃ q, sCmp x y = q := ⟨_, rfl⟩
        rw [hq] at HC
        have HQ := Lib.hid hq
        clear hq
        by_cases hq0 : q = 0
        · subst hq0
          go_wp2_with (go_at_call 91; refine (HC.out _).mono ?_; rintro e w2 ⟨rfl, rfl⟩)
          go_roundw
          case rel =>
            refine ⟨k + 1, by omega, by omega, by go_num, Lib.hid ?_, trivial⟩
            rw [hinv.out, HPD.out, if_pos HQ.out]
          case measure => simp [intOf]; omega
        · have hqb : (q != 0) = true := by simpa using hq0
          have HQ0 := Lib.hid hq0
          clear hq0
          go_wp2_with (go_at_call 91; refine (HC.out _).mono ?_; rintro e w2 ⟨rfl, rfl⟩)
          go_ret
          have hfin : pathCmp a b = q := by rw [hinv.out, HPD.out, HQ.out, if_neg HQ0.out]
          exact ⟨by rw [hfin]; rfl, rfl⟩
      · have hke : k = b.length := by omega
        subst hke
        have hfin : pathCmp a b = 1 := by rw [hinv.out, List.drop_of_length_le (Nat.le_refl _), List.drop_eq_getElem_cons hla]; rfl
        have HF := Lib.hid hfin
        clear hfin hinv
        have hia : (b.length : Int) < (a.length : Int) := by omega
        obtain ⟨ad, c1, e1, hca⟩ := ha.at hla
        injection e1 with e1 e2 e3
        subst e1
        clear e2 e3
        obtain ⟨x, hxx⟩ : ∃ x, a[b.length] = x := ⟨_, rfl⟩
        rw [hxx] at hca
        clear hxx
        go_wp2
        go_ret
        exact ⟨by rw [HF.out]; rfl, rfl⟩
    · have hke : k = a.length := by omega
      subst hke
      by_cases hlb : a.length < b.length
      · have hfin : pathCmp a b = -1 := by rw [hinv.out, List.drop_of_length_le (Nat.le_refl a.length), List.drop_eq_getElem_cons hlb]; rfl
        have HF := Lib.hid hfin
        clear hfin hinv
        have hib : (a.length : Int) < (b.length : Int) := by omega
        go_wp2
        go_ret
        exact ⟨by rw [HF.out]; rfl, rfl⟩
      · have hle : b.length = a.length := by omega
        have hfin : pathCmp a b = 0 := by rw [hinv.out, List.drop_of_length_le (Nat.le_refl a.length), List.drop_of_length_le (by omega)]; rfl
        have HF := Lib.hid hfin
        clear hfin hinv
        have hib : ¬ (a.length : Int) < (b.length : Int) := by omega
        go_wp2
        go_ret
        exact ⟨by rw [HF.out]; rfl, rfl⟩
theorem cmpPaths_any (u v : Value) (a b : List ByteArray) (w : World) (ha : RStrs w u a) (hb : RStrs w v b) (hn : a.length ≤ 16777216) :
    Calls Tryz.prog 90 #[u, v] w fun e w' => e = .returned (.int .i64 (pathCmp a b)) ∧ w' = w := by
  have HS := Lib.hid (slicesCmp_any u v a b w ha hb hn)
  obtain ⟨A, c, rfl, _, _⟩ := ha.form
  obtain ⟨B, d, rfl, _, _⟩ := hb.form
  go_enter Tryz.func90, Tryz.ntmps90
  go_wp2_with (go_at_call 124; refine (HS.out).mono ?_; rintro e w2 ⟨rfl, rfl⟩)
  go_ret
  exact ⟨rfl, rfl⟩
attribute [local go_sem ↓] Go.wp_at_zero Go.wp_at_succ
set_option maxRecDepth 100000 in
set_option maxHeartbeats 1000000 in
theorem compareFeeds_grow (x y : Fc) (w : World) (hsx : isSl x.es) (hsy : isSl y.es) (hx : RStrs w x.p x.f.path) (hy : RStrs w y.p y.f.path) (hn : x.f.path.length ≤ 16777216) :
    Calls Tryz.prog 61 #[.agg (cellsC x).toArray, .agg (cellsC y).toArray] w fun e w' => e = .returned (.int .i64 (feedCmp x.f y.f)) ∧ ∃ q os, w' = grow (w.drewN q) os := by
  have HP := Lib.hid (fun (w' : World) (h : Ext w w') => cmpPaths_any x.p y.p x.f.path y.f.path w' (hx.ext h) (hy.ext h) hn)
  have HC := Lib.hid (fun w' => cmpStr_any x.f.id y.f.id w')
  have hfin : feedCmp x.f y.f = if pathCmp x.f.path y.f.path = 0 then sCmp x.f.id y.f.id else pathCmp x.f.path y.f.path := rfl
  obtain ⟨ci, hci⟩ : ∃ c, pathCmp x.f.path y.f.path = c := ⟨_, rfl⟩
  obtain ⟨cs, hcs⟩ : ∃ c, sCmp x.f.id y.f.id = c := ⟨_, rfl⟩
  rw [hci] at HP hfin
  rw [hcs] at HC hfin
  rw [hfin]
  have HO := Lib.hid (fun v w' h => cmpOr_any ci cs v w' h)
  obtain ⟨res, hres⟩ : ∃ res, (if ci = 0 then cs else ci) = res := ⟨_, rfl⟩
  rw [hres] at HO
  rw [hres]
  clear hci hcs hfin hres
  obtain ⟨px, ex, ⟨pathx, idx, titlex, linkx, updx, entsx⟩⟩ := x
  obtain ⟨py, ey, ⟨pathy, idy, titley, linky, updy, entsy⟩⟩ := y
  obtain ⟨A, c, hpx, _, _⟩ := hx.form
  obtain ⟨B, d, hpy, _, _⟩ := hy.form
  obtain ⟨A2, n2, c2, hex⟩ := hsx
  obtain ⟨B2, m2, d2, hey⟩ := hsy
  simp only at hpx hpy hex hey
  subst hpx hpy hex hey
  clear hx hy
  unfold cellsC fCells
  dsimp only at *
  go_enter Tryz.func61, Tryz.ntmps61
  go_wp2
  go_region_held3 (fun w' => Ext w w' ∧ w'.cell? ⟨w.heap.size, 0, none⟩ = some (.slice A pathx.length c) ∧ w'.cell? ⟨w.heap.size, 1, none⟩ = some (.string idx) ∧ w'.cell? ⟨w.heap.size + 1, 0, none⟩ = some (.slice B pathy.length d) ∧ w'.cell? ⟨w.heap.size + 1, 1, none⟩ = some (.string idy))
    ((go_split_ands; refine ⟨?_, ?_, ?_, ?_, ?_⟩ <;> first | assumption | ((repeat (first | exact Ext.refl _ | assumption | apply Ext.drew | apply Ext.alloc)); done) | ((refine Ext.trans ?_ (by assumption)); (repeat (first | exact Ext.refl _ | assumption | apply Ext.drew | apply Ext.alloc)); done) | ((refine Ext.cell (by assumption) ?_); first | assumption | (go_keep; done)) | (go_keep; done)))
    (first
      | (go_at_call 90; refine (HP.out _ (by repeat (first | exact Ext.refl _ | apply Ext.drew | apply Ext.alloc))).mono ?_; rintro e w1 ⟨rfl, rfl⟩)
      | (go_at_call 91; refine (HC.out _).mono ?_; rintro e w2 ⟨rfl, rfl⟩)
      | (go_at_call 89; refine (HO.out _ _ (rsl_block (e := 3) (fr := (0, 0)) (cs := [.int .i64 ci, .int .i64 cs]) ?hg (by rfl) (by decide))).mono ?_; (case hg => exact heap_alloc3_new w _ _ _); rintro e w3 ⟨rfl, rfl⟩))
  go_wp2
  go_ret
  exact ⟨rfl, 1, _, by rw [alloc_eq_grow, alloc_eq_grow, alloc_eq_grow, grow_grow, grow_grow]; rfl⟩
end Go.Proofs.YtgecijhgonfldaaGreatDoor
namespace Go.Proofs.YtgecijhgonfldaaGreatDoor
open Go Go.RowKit Go.Sort
set_option linter.unusedVariables false
def PthC (w : World) (g : Nat) (x : Fc) : Prop := RdC w x ∧ awayC x (some g) ∧ x.f.path.length ≤ 16777216
instance : Inhabited Fc := ⟨⟨.slice none 0 0, .slice none 0 0, zeroF⟩⟩
instance (w : World) (g : Nat) : Inhabited {x : Fc // PthC w g x} := ⟨⟨⟨.slice none 0 0, .slice none 0 0, zeroF⟩, ⟨RSl.nil w 1, RSl.nil w 5⟩, ⟨Or.inl rfl, Or.inl rfl⟩, Nat.zero_le _⟩⟩
theorem isAggF (w : World) : (isAgg 35).run Tryz.prog w = .ok true w := by kernel_rfl
theorem sizeF (w : World) : (Go.sizeOf 35).run Tryz.prog w = .ok 6 w := by kernel_rfl
theorem enterCmpF (args : Array Value) (w : World) : (callFunc 61 args).run Tryz.prog w = .ok (.enter 61 args) w := enters_of Tryz.func61 (by kernel_rfl) rfl args w
theorem sortF_any (v : Value) (l : List Fc) (w : World) (B : Nat) (h : HFs w B v l) (hp : ∀ x ∈ l, x.f.path.length ≤ 16777216) (hn : l.length ≤ 1000000) :
    Calls Tryz.prog 60 #[v, .func (.func 61) #[] #[]] w fun e w' => e = .returned (.tuple #[]) ∧
      ∃ l' : List Fc, l'.Perm l ∧ l'.Pairwise (fun a b => ordF.lt b.f a.f = false) ∧ HFs w' B v l' ∧ w.grownBy w' v.ownBlock := by
  rcases Nat.eq_zero_or_pos l.length with h0 | h0
  · have hl : l = [] := List.eq_nil_of_length_eq_zero h0
    subst hl
    obtain ⟨A, c, rfl, _, _⟩ := h.row.reads.form
    refine (Tryz.slices_SortFunc_none_f60 (α := Fc) A c _ w).mono ?_
    rintro e w' ⟨rfl, rfl⟩
    exact ⟨rfl, [], List.Perm.refl _, List.Pairwise.nil, h, World.grownBy.refl _ _⟩
  · obtain ⟨g, cap, rfl, hb, hg⟩ := World.ownsRow.form h.row h0
    have hP : ∀ x ∈ l, PthC w g x := fun x hx => ⟨h.rd x hx, h.away x hx, hp x hx⟩
    obtain ⟨L, hL⟩ : ∃ L : List {x : Fc // PthC w g x}, L.map Subtype.val = l := ⟨l.attachWith _ hP, by simp⟩
    have hll : L.length = l.length := by rw [← hL, List.length_map]
    let enc : {x : Fc // PthC w g x} → List Value := fun s => cellsC s.1
    have hme : ∀ M : List {x : Fc // PthC w g x}, (M.map enc).flatten = flatC (M.map Subtype.val) := fun M => by unfold flatC; rw [List.map_map]; rfl
    have h' : w.ownsRow B 35 6 (.slice (some ⟨g, 0, none⟩) L.toArray.size cap) L.toArray.size (L.toArray.toList.map enc).flatten := by
      rw [List.toList_toArray, hme, hL, List.size_toArray, hll]
      exact h.row
    let cf : {x : Fc // PthC w g x} → {x : Fc // PthC w g x} → Int := fun s t => feedCmp s.1.f t.1.f
    have hcf : IsCmp cf := feedCmp_is.comap fun s : {x : Fc // PthC w g x} => s.1.f
    have key : ∀ (m : Nat) (os : Array Obj) (dk : Array {x : Fc // PthC w g x}), dk.size = L.toArray.size → ∀ s : {x : Fc // PthC w g x}, RdC (sortWorldK enc 6 w g 0 m dk os) s.1 := fun m os dk hdk s =>
      s.2.1.grown (own_of_sort enc 6 (fun _ => rfl) (m := m) (os := os) h' hdk).2 s.2.2.1
    have hc := Tryz.slices_SortFunc_f60 6 isAggF sizeF enc (fun _ => rfl) (fun s => cellsC_one s.2.1.sl) cf (swo_of hcf) 61 #[] g 0 cap L.toArray w enterCmpF
      (fun m os dk hdk x y => compareFeeds_grow x.1 y.1 _ x.2.1.sl.2 y.2.1.sl.2 (key m os dk hdk x).1 (key m os dk hdk y).1 x.2.2.2) (holds_of_own enc 6 (fun _ => rfl) h') hg (by rw [List.size_toArray, hll]; omega)
    rw [List.size_toArray, hll] at hc
    refine hc.mono ?_
    rintro e w' ⟨rfl, d', n, os, hpm, hs, rfl⟩
    have hsz : d'.size = L.toArray.size := hpm.1
    have ho := own_of_sort enc 6 (fun _ => rfl) (m := n) (os := os) h' hsz
    have hperm : d'.toList.Perm L := by
      have := hpm.2.2
      have hl : L.length = d'.toList.length := by simpa using hsz.symm
      rw [← hll] at this
      simp at this
      rwa [hl, List.take_of_length_le (Nat.le_refl _)] at this
    have hpl : (d'.toList.map Subtype.val).Perm l := by rw [← hL]; exact hperm.map _
    refine ⟨rfl, d'.toList.map Subtype.val, hpl, ?_, ⟨?_, ?_, ?_⟩, ho.2⟩
    · rw [List.pairwise_map, List.pairwise_iff_getElem]
      intro i j hi hj hij
      have h1 := hs i j (Nat.zero_le _) hij (by rw [← hll, ← List.size_toArray, ← hsz]; simpa using hj)
      rw [getElem!_pos d' j (by simpa using hj), getElem!_pos d' i (by simpa using hi)] at h1
      simpa [ltOf, ordF, ltF, cf] using h1
    · unfold OFcs
      have e1 : (d'.toList.map Subtype.val).length = l.length := hpl.length_eq
      rw [e1]
      have := ho.1
      rw [hme, List.size_toArray, hll] at this
      exact this
    · intro x hx
      obtain ⟨s, _, rfl⟩ := List.mem_map.1 hx
      exact key n os d' hsz s
    · intro x hx
      exact h.away x (hpl.mem_iff.1 hx)
end Go.Proofs.YtgecijhgonfldaaGreatDoor
