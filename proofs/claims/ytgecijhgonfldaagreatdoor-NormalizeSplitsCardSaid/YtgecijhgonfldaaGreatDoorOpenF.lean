/- From a row's data to feeds: entries, feeds and rows of feeds that an argument reads as, and their sizes. -/
import Derived.Test.YtgecijhgonfldaaGreatDoorM24
import Derived.Test.YtgecijhgonfldaaGreatDoorM36
import Derived.Test.YtgecijhgonfldaaGreatDoorBigP
import Derived.Deep.Strs
namespace Go.Proofs.YtgecijhgonfldaaGreatDoor
open Go Go.ChangeShapes Go.WideShapes Go.RowKit Go.Deep
set_option linter.unusedVariables false

instance : Inhabited Ent := ⟨zeroE⟩
instance : Inhabited Fc := ⟨⟨.slice none 0 0, .slice none 0 0, zeroF⟩⟩
/-- a list of lists of one length, read at a place -/
theorem flat_getk {α : Type} {k : Nat} (hk : 0 < k) : ∀ (css : List (List α)), (∀ c ∈ css, c.length = k) → ∀ j, css.flatten[j]? = (css[j / k]?).bind fun c => c[j % k]?
  | [], _, j => by simp
  | c :: t, h, j => by
    have hc : c.length = k := h c (by simp)
    rw [List.flatten_cons]
    by_cases hj : j < k
    · rw [List.getElem?_append_left (by omega), Nat.div_eq_of_lt hj, Nat.mod_eq_of_lt hj]
      rfl
    · rw [List.getElem?_append_right (by omega), hc, flat_getk hk t (fun x hx => h x (by simp [hx]))]
      have e1 : j / k = (j - k) / k + 1 := by
        have := Nat.div_eq_sub_div hk (show k ≤ j by omega)
        omega
      have e2 : j % k = (j - k) % k := Nat.mod_eq_sub_mod (by omega)
      rw [e1, e2, List.getElem?_cons_succ]
theorem rsl_of_cells {w : World} {k : Nat} (hk : 0 < k) {a : Addr} {len cap : Nat} (css : Nat → List Value) (hl : len ≤ cap) (hm : cap ≤ maxLen)
    (h : ∀ i, i < len → (css i).length = k ∧ ∀ j, j < k → w.cell? ((a.add (i * k)).add j) = (css i)[j]?) : RSl w k (.slice (some a) len cap) len ((List.range len).map css).flatten := by
  have hlens : ∀ c ∈ (List.range len).map css, c.length = k := by
    intro c hc
    obtain ⟨i, hi, rfl⟩ := List.mem_map.1 hc
    exact (h i (List.mem_range.1 hi)).1
  refine ⟨?_, some a, cap, rfl, hl, hm, (fun e => by cases e), fun j u hu => ⟨a, rfl, ?_⟩⟩
  · clear hm hl
    have key : ∀ (l : List (List Value)), (∀ c ∈ l, c.length = k) → l.flatten.length = l.length * k := by
      intro l
      induction l with
      | nil => intro _; simp
      | cons c t ih =>
        intro h
        rw [List.flatten_cons, List.length_append, h c (by simp), ih fun x hx => h x (by simp [hx]), List.length_cons, Nat.succ_mul]
        omega
    rw [key _ hlens]
    simp
  · rw [flat_getk hk _ hlens] at hu
    by_cases hi : j / k < len
    · have e : ((List.range len).map css)[j / k]? = some (css (j / k)) := by simp [hi]
      rw [e] at hu
      have hu' : (css (j / k))[j % k]? = some u := hu
      have h2 := (h (j / k) hi).2 (j % k) (Nat.mod_lt _ hk)
      rw [addr_add2] at h2
      have e2 : j / k * k + j % k = j := by rw [Nat.mul_comm]; exact Nat.div_add_mod j k
      rw [e2] at h2
      rw [h2, hu']
    · have e : ((List.range len).map css)[j / k]? = none := by simp; omega
      rw [e] at hu
      cases hu
theorem mem_weightsAll {H : Type} {P : Program} {e : TypeId} {n : Nat} : ∀ {l : List (DataW H)} {d : DataW H}, d ∈ l → n ∈ d.weights P e → n ∈ DataW.weightsAll P e l
  | [], _, h, _ => by simp at h
  | x :: t, d, h, hn => by
    unfold DataW.weightsAll
    rcases List.mem_cons.1 h with h | h
    · subst h; exact List.mem_append_left _ hn
    · exact List.mem_append_right _ (mem_weightsAll h hn)
section
variable {H : Type} {enc : TypeId × Value → H} {P : Program} {w : World} {base : Nat} {spare : Nat → Bool} {held : Bool}
theorem trod5 {t : TypeId} {f0 f1 f2 f3 f4 : Field} {fuel : Nat} {cs : List Value} {x : DataW H × List MemPlace} (hs : P.underlying t = some (.struct #[f0, f1, f2, f3, f4])) (hone : oneCellFields P #[f0, f1, f2, f3, f4] = true) (hC : P.cellsOf t = 5)
    (h : DataW.trod enc P w base spare held fuel t cs = some x) :
    ∃ (v0 v1 v2 v3 v4 : Value) (y0 y1 y2 y3 y4 : DataW H × List MemPlace) (n : Nat), cs = [v0, v1, v2, v3, v4] ∧ x.1 = .agg [y0.1, y1.1, y2.1, y3.1, y4.1] ∧
      DataW.trod enc P w base spare held n f0.type [v0] = some y0 ∧ DataW.trod enc P w base spare held n f1.type [v1] = some y1 ∧ DataW.trod enc P w base spare held n f2.type [v2] = some y2 ∧ DataW.trod enc P w base spare held n f3.type [v3] = some y3 ∧ DataW.trod enc P w base spare held n f4.type [v4] = some y4 := by
  obtain ⟨xs, n, _, hx, hl, hlen, hall⟩ := DataW.trod_struct hs h
  obtain ⟨o0, k0⟩ := hone_of hone 0 f0 rfl
  obtain ⟨o1, k1⟩ := hone_of hone 1 f1 rfl
  obtain ⟨o2, k2⟩ := hone_of hone 2 f2 rfl
  obtain ⟨o3, k3⟩ := hone_of hone 3 f3 rfl
  obtain ⟨o4, k4⟩ := hone_of hone 4 f4 rfl
  rw [hC] at hl
  obtain ⟨c0, c1, c2, c3, c4, hc⟩ := array5 (cs := cs.toArray) (by simpa using hl)
  have hc : cs = [c0, c1, c2, c3, c4] := by simpa using congrArg Array.toList hc
  subst hc
  match xs, hlen with
  | [y0, y1, y2, y3, y4], _ =>
    exact ⟨c0, c1, c2, c3, c4, y0, y1, y2, y3, y4, n, rfl, by rw [hx]; rfl, by simpa [Value.cells, o0, k0] using hall 0 f0 rfl, by simpa [Value.cells, o1, k1] using hall 1 f1 rfl, by simpa [Value.cells, o2, k2] using hall 2 f2 rfl, by simpa [Value.cells, o3, k3] using hall 3 f3 rfl, by simpa [Value.cells, o4, k4] using hall 4 f4 rfl⟩
theorem array6 {α : Type} {cs : Array α} (h : cs.size = 6) : ∃ c0 c1 c2 c3 c4 c5, cs = #[c0, c1, c2, c3, c4, c5] := by
  obtain ⟨l⟩ := cs
  match l, h with
  | [c0, c1, c2, c3, c4, c5], _ => exact ⟨c0, c1, c2, c3, c4, c5, rfl⟩
theorem trod6 {t : TypeId} {f0 f1 f2 f3 f4 f5 : Field} {fuel : Nat} {cs : List Value} {x : DataW H × List MemPlace} (hs : P.underlying t = some (.struct #[f0, f1, f2, f3, f4, f5])) (hone : oneCellFields P #[f0, f1, f2, f3, f4, f5] = true) (hC : P.cellsOf t = 6)
    (h : DataW.trod enc P w base spare held fuel t cs = some x) :
    ∃ (v0 v1 v2 v3 v4 v5 : Value) (y0 y1 y2 y3 y4 y5 : DataW H × List MemPlace) (n : Nat), cs = [v0, v1, v2, v3, v4, v5] ∧ x.1 = .agg [y0.1, y1.1, y2.1, y3.1, y4.1, y5.1] ∧
      DataW.trod enc P w base spare held n f0.type [v0] = some y0 ∧ DataW.trod enc P w base spare held n f1.type [v1] = some y1 ∧ DataW.trod enc P w base spare held n f2.type [v2] = some y2 ∧ DataW.trod enc P w base spare held n f3.type [v3] = some y3 ∧ DataW.trod enc P w base spare held n f4.type [v4] = some y4 ∧ DataW.trod enc P w base spare held n f5.type [v5] = some y5 := by
  obtain ⟨xs, n, _, hx, hl, hlen, hall⟩ := DataW.trod_struct hs h
  obtain ⟨o0, k0⟩ := hone_of hone 0 f0 rfl
  obtain ⟨o1, k1⟩ := hone_of hone 1 f1 rfl
  obtain ⟨o2, k2⟩ := hone_of hone 2 f2 rfl
  obtain ⟨o3, k3⟩ := hone_of hone 3 f3 rfl
  obtain ⟨o4, k4⟩ := hone_of hone 4 f4 rfl
  obtain ⟨o5, k5⟩ := hone_of hone 5 f5 rfl
  rw [hC] at hl
  obtain ⟨c0, c1, c2, c3, c4, c5, hc⟩ := array6 (cs := cs.toArray) (by simpa using hl)
  have hc : cs = [c0, c1, c2, c3, c4, c5] := by simpa using congrArg Array.toList hc
  subst hc
  match xs, hlen with
  | [y0, y1, y2, y3, y4, y5], _ =>
    exact ⟨c0, c1, c2, c3, c4, c5, y0, y1, y2, y3, y4, y5, n, rfl, by rw [hx]; rfl, by simpa [Value.cells, o0, k0] using hall 0 f0 rfl, by simpa [Value.cells, o1, k1] using hall 1 f1 rfl, by simpa [Value.cells, o2, k2] using hall 2 f2 rfl, by simpa [Value.cells, o3, k3] using hall 3 f3 rfl, by simpa [Value.cells, o4, k4] using hall 4 f4 rfl, by simpa [Value.cells, o5, k5] using hall 5 f5 rfl⟩
end
section
variable {H : Type} {enc : TypeId × Value → H} {P : Program} {w : World} {base : Nat} {spare : Nat → Bool} {held : Bool}
theorem trod1 {t : TypeId} {f0 : Field} {fuel : Nat} {cs : List Value} {x : DataW H × List MemPlace} (hs : P.underlying t = some (.struct #[f0])) (hone : oneCellFields P #[f0] = true) (hC : P.cellsOf t = 1)
    (h : DataW.trod enc P w base spare held fuel t cs = some x) :
    ∃ (v0 : Value) (y0 : DataW H × List MemPlace) (n : Nat), cs = [v0] ∧ x.1 = .agg [y0.1] ∧ DataW.trod enc P w base spare held n f0.type [v0] = some y0 := by
  obtain ⟨xs, n, _, hx, hl, hlen, hall⟩ := DataW.trod_struct hs h
  obtain ⟨o0, k0⟩ := hone_of hone 0 f0 rfl
  rw [hC] at hl
  match cs, hl, xs, hlen with
  | [c0], _, [y0], _ => exact ⟨c0, y0, n, rfl, by rw [hx]; rfl, by simpa [Value.cells, o0, k0] using hall 0 f0 rfl⟩
end
theorem i64_of_wf {n : Int} (h : (Lit.int .i64 n).wf = true) : i64ok n := by
  have h' : (decide (IntKind.min .i64 ≤ n) && decide (n ≤ IntKind.max .i64)) = true := h
  rw [Bool.and_eq_true] at h'
  exact ⟨of_decide_eq_true h'.1, of_decide_eq_true h'.2⟩
section
variable {H : Type} {enc : TypeId × Value → H} {w : World}
/-- within reach: each string, each slice -/
theorem open_ent {fuel : Nat} {cs : List Value} {x : DataW H × List MemPlace} (h : DataW.trod enc Tryz.prog w 0 (fun _ => true) true fuel 23 cs = some x) :
    ∃ e : Ent, cs = eCells e ∧ i64ok e.upd ∧ ((∀ n ∈ x.1.weights Tryz.prog 23, n ≤ reachBytes) → ewide e) := by
  obtain ⟨c0, c1, c2, c3, c4, y0, y1, y2, y3, y4, n, rfl, hx, k0, k1, k2, k3, k4⟩ := trod5 Tryz.underlying23 (by kernel_rfl) (by kernel_rfl) h
  obtain ⟨s0, e0, w0, b0⟩ := DataW.trod_string Tryz.underlying9 k0
  obtain ⟨s1, e1, w1, b1⟩ := DataW.trod_string Tryz.underlying9 k1
  obtain ⟨s2, e2, w2, b2⟩ := DataW.trod_string Tryz.underlying9 k2
  obtain ⟨s3, e3, w3, b3⟩ := DataW.trod_string Tryz.underlying9 k3
  obtain ⟨n4, e4, w4, b4⟩ := DataW.trod_int Tryz.underlying2 k4
  injection e0 with e0
  injection e1 with e1
  injection e2 with e2
  injection e3 with e3
  injection e4 with e4
  subst e0 e1 e2 e3 e4
  clear k0 k1 k2 k3 k4
  rw [w0, w1, w2, w3, w4] at hx
  refine ⟨⟨s0, s1, s2, s3, n4⟩, rfl, i64_of_wf b4, fun hw => ?_⟩
  rw [hx] at hw
  simp [DataW.weightsEach, DataW.weights, Tryz.underlying23] at hw
  exact ⟨i64_of_wf b4, hw.1, hw.2.1, hw.2.2.1, hw.2.2.2⟩
theorem open_ents {fuel : Nat} {v : Value} {x : DataW H × List MemPlace} (h : DataW.trod enc Tryz.prog w 0 (fun _ => true) true fuel 33 [v] = some x) :
    ∃ l : List Ent, REnts w v l ∧ ((∀ n ∈ x.1.weights Tryz.prog 33, n ≤ reachBytes) → l.length ≤ reachBytes ∧ ∀ e ∈ l, ewide e) := by
  rcases open_slice Tryz.underlying33 h with ⟨hv, hx⟩ | ⟨a, len, cap, m, n, D, Pl, hv, _, hl, hm, hmm, hx, hel⟩
  · injection hv with hv
    subst hv
    exact ⟨[], RSl.nil w 5, fun _ => ⟨Nat.zero_le _, by simp⟩⟩
  · injection hv with hv
    subst hv
    simp only [if_true] at hmm
    have hmm' := hmm.symm
    subst hmm'
    have hc : Tryz.prog.cellsOf 23 = 5 := by kernel_rfl
    have hby : Tryz.prog.bytesOf 23 = 72 := by kernel_rfl
    obtain ⟨E, hE⟩ := choose_lt (α := Ent) (n := len) (p := fun i e => (∀ j, j < 5 → w.cell? ((a.add (i * 5)).add j) = (eCells e)[j]?) ∧ ((∀ n ∈ (D i).weights Tryz.prog 23, n ≤ reachBytes) → ewide e)) (fun i hi => by
      obtain ⟨cs', h1, h2⟩ := hel i (by omega)
      obtain ⟨e, rfl, _, hw⟩ := open_ent h2
      rw [hc] at h1
      obtain ⟨_, _, hcell⟩ := World.cells?_some h1
      exact ⟨e, hcell, hw⟩)
    refine ⟨(List.range len).map E, ?_, fun hw => ?_⟩
    · have := rsl_of_cells (w := w) (k := 5) (by decide) (a := a) (len := len) (cap := cap) (fun i => eCells (E i)) hl hm (fun i hi => ⟨rfl, (hE i hi).1⟩)
      unfold REnts flatE
      rw [List.length_map, List.length_range, List.map_map]
      exact this
    · rw [hx] at hw
      simp only [DataW.weights, Tryz.underlying33, hby, List.length_map, List.length_range] at hw
      refine ⟨?_, fun e he => ?_⟩
      · have := hw _ (List.mem_cons_self ..)
        rw [List.length_map, List.length_range]
        omega
      · obtain ⟨i, hi, rfl⟩ := List.mem_map.1 he
        have hi := List.mem_range.1 hi
        refine (hE i hi).2 fun n hn => hw n (List.mem_cons_of_mem _ (List.mem_append_left _ (mem_weightsAll (List.mem_map.2 ⟨i, List.mem_range.2 hi, rfl⟩) hn)))
theorem open_strsF {fuel : Nat} {v : Value} {x : DataW H × List MemPlace} (h : DataW.trod enc Tryz.prog w 0 (fun _ => true) true fuel 32 [v] = some x) :
    ∃ l : List ByteArray, RStrs w v l ∧ ((∀ n ∈ x.1.weights Tryz.prog 32, n ≤ reachBytes) → l.length ≤ reachBytes ∧ ∀ s ∈ l, s.size ≤ reachBytes) := by
  rcases open_strs Tryz.underlying32 Tryz.underlying9 (by kernel_rfl) h with ⟨hv, hx⟩ | ⟨a, len, cap, m, Sx, hv, _, hl, hm, hmm, hx, hel⟩
  · injection hv with hv
    subst hv
    exact ⟨[], RSl.nil w 1, fun _ => ⟨Nat.zero_le _, by simp⟩⟩
  · injection hv with hv
    subst hv
    simp only [if_true] at hmm
    have hmm' := hmm.symm
    subst hmm'
    have hby : Tryz.prog.bytesOf 9 = 16 := by kernel_rfl
    refine ⟨(List.range len).map Sx, ?_, fun hw => ?_⟩
    · have := rsl_of_cells (w := w) (k := 1) (by decide) (a := a) (len := len) (cap := cap) (fun i => [.string (Sx i)]) hl hm (fun i hi => ⟨rfl, fun j hj => by
        have hj0 : j = 0 := by omega
        subst hj0
        rw [add_zero, Nat.mul_one]
        exact (hel i (by omega)).1⟩)
      unfold RStrs
      rw [List.length_map, List.length_range, List.map_map]
      have e : ((List.range len).map fun i => [Value.string (Sx i)]).flatten = (List.range len).map (Value.string ∘ Sx) := by
        generalize List.range len = r
        induction r with
        | nil => rfl
        | cons i t ih => simp [ih]
      rw [← e]
      exact this
    · rw [hx] at hw
      simp only [DataW.weights, Tryz.underlying32, hby, List.length_map, List.length_range] at hw
      refine ⟨?_, fun s hs => ?_⟩
      · have := hw _ (List.mem_cons_self ..)
        rw [List.length_map, List.length_range]
        omega
      · obtain ⟨i, hi, rfl⟩ := List.mem_map.1 hs
        have := hw (Sx i).size (List.mem_cons_of_mem _ (List.mem_append_left _ (mem_weightsAll (List.mem_map.2 ⟨i, hi, rfl⟩) (by simp [DataW.weights]))))
        exact this
theorem open_fd {fuel : Nat} {cs : List Value} {x : DataW H × List MemPlace} (h : DataW.trod enc Tryz.prog w 0 (fun _ => true) true fuel 35 cs = some x) :
    ∃ f : Fc, cs = cellsC f ∧ RdC w f ∧ ((∀ n ∈ x.1.weights Tryz.prog 35, n ≤ reachBytes) → fwide f.f) := by
  obtain ⟨c0, c1, c2, c3, c4, c5, y0, y1, y2, y3, y4, y5, n, rfl, hx, k0, k1, k2, k3, k4, k5⟩ := trod6 Tryz.underlying35 (by kernel_rfl) (by kernel_rfl) h
  obtain ⟨l0, r0, q0⟩ := open_strsF k0
  obtain ⟨s1, e1, w1, b1⟩ := DataW.trod_string Tryz.underlying9 k1
  obtain ⟨s2, e2, w2, b2⟩ := DataW.trod_string Tryz.underlying9 k2
  obtain ⟨s3, e3, w3, b3⟩ := DataW.trod_string Tryz.underlying9 k3
  obtain ⟨n4, e4, w4, b4⟩ := DataW.trod_int Tryz.underlying2 k4
  obtain ⟨l5, r5, q5⟩ := open_ents k5
  injection e1 with e1
  injection e2 with e2
  injection e3 with e3
  injection e4 with e4
  subst e1 e2 e3 e4
  clear k0 k1 k2 k3 k4 k5
  rw [w1, w2, w3, w4] at hx
  refine ⟨⟨c0, c5, ⟨l0, s1, s2, s3, n4, l5⟩⟩, rfl, ⟨r0, r5⟩, fun hw => ?_⟩
  rw [hx] at hw
  simp only [DataW.weights, Tryz.underlying35, DataW.weightsEach, List.map_cons, List.map_nil, List.append_nil, List.nil_append] at hw
  have g0 := q0 fun n hn => hw n (List.mem_append_left _ hn)
  have g5 := q5 fun n hn => hw n (by simp [hn])
  have g1 : s1.size ≤ reachBytes := hw _ (by simp)
  have g2 : s2.size ≤ reachBytes := hw _ (by simp)
  have g3 : s3.size ≤ reachBytes := hw _ (by simp)
  exact ⟨i64_of_wf b4, g0.1, g0.2, g1, g2, g3, g5.1, g5.2⟩
theorem open_fds {fuel : Nat} {v : Value} {x : DataW H × List MemPlace} (h : DataW.trod enc Tryz.prog w 0 (fun _ => true) true fuel 37 [v] = some x) :
    ∃ l : List Fc, RFcs w v l ∧ (∀ y ∈ l, RdC w y) ∧ ((∀ n ∈ x.1.weights Tryz.prog 37, n ≤ reachBytes) → l.length ≤ reachBytes ∧ ∀ y ∈ l, fwide y.f) := by
  rcases open_slice Tryz.underlying37 h with ⟨hv, hx⟩ | ⟨a, len, cap, m, n, D, Pl, hv, _, hl, hm, hmm, hx, hel⟩
  · injection hv with hv
    subst hv
    exact ⟨[], RSl.nil w 6, by simp, fun _ => ⟨Nat.zero_le _, by simp⟩⟩
  · injection hv with hv
    subst hv
    simp only [if_true] at hmm
    have hmm' := hmm.symm
    subst hmm'
    have hc : Tryz.prog.cellsOf 35 = 6 := by kernel_rfl
    have hby : 1 ≤ Tryz.prog.bytesOf 35 := of_decide_eq_true (by kernel_rfl)
    obtain ⟨E, hE⟩ := choose_lt (α := Fc) (n := len) (p := fun i e => (∀ j, j < 6 → w.cell? ((a.add (i * 6)).add j) = (cellsC e)[j]?) ∧ RdC w e ∧ ((∀ n ∈ (D i).weights Tryz.prog 35, n ≤ reachBytes) → fwide e.f)) (fun i hi => by
      obtain ⟨cs', h1, h2⟩ := hel i (by omega)
      obtain ⟨e, rfl, hr, hw⟩ := open_fd h2
      rw [hc] at h1
      obtain ⟨_, _, hcell⟩ := World.cells?_some h1
      exact ⟨e, hcell, hr, hw⟩)
    refine ⟨(List.range len).map E, ?_, fun y hy => ?_, fun hw => ?_⟩
    · have := rsl_of_cells (w := w) (k := 6) (by decide) (a := a) (len := len) (cap := cap) (fun i => cellsC (E i)) hl hm (fun i hi => ⟨rfl, (hE i hi).1⟩)
      unfold RFcs flatC
      rw [List.length_map, List.length_range, List.map_map]
      exact this
    · obtain ⟨i, hi, rfl⟩ := List.mem_map.1 hy
      exact (hE i (List.mem_range.1 hi)).2.1
    · rw [hx] at hw
      simp only [DataW.weights, Tryz.underlying37, List.length_map, List.length_range] at hw
      refine ⟨?_, fun e he => ?_⟩
      · have h1 := hw _ (List.mem_cons_self ..)
        rw [List.length_map, List.length_range]
        have h2 : len + (cap - len) ≤ (len + (cap - len)) * Tryz.prog.bytesOf 35 := Nat.le_mul_of_pos_right _ hby
        omega
      · obtain ⟨i, hi, rfl⟩ := List.mem_map.1 he
        have hi := List.mem_range.1 hi
        exact (hE i hi).2.2 fun n hn => hw n (List.mem_cons_of_mem _ (List.mem_append_left _ (mem_weightsAll (List.mem_map.2 ⟨i, List.mem_range.2 hi, rfl⟩) hn)))
theorem open_arc {fuel : Nat} {cs : List Value} {x : DataW H × List MemPlace} (h : DataW.trod enc Tryz.prog w 0 (fun _ => true) true fuel 46 cs = some x) :
    ∃ (v : Value) (l : List Fc), cs = [v] ∧ RFcs w v l ∧ (∀ y ∈ l, RdC w y) ∧ ((∀ n ∈ x.1.weights Tryz.prog 46, n ≤ reachBytes) → l.length ≤ reachBytes ∧ ∀ y ∈ l, fwide y.f) := by
  obtain ⟨v0, y0, n, rfl, hx, k0⟩ := trod1 Tryz.underlying46 (by kernel_rfl) (by kernel_rfl) h
  obtain ⟨l, hr, hrd, hw⟩ := open_fds k0
  refine ⟨v0, l, rfl, hr, hrd, fun h => hw fun n hn => h n ?_⟩
  rw [hx]
  simp only [DataW.weights, Tryz.underlying46, DataW.weightsEach, List.map_cons, List.map_nil, List.append_nil]
  exact hn
theorem u8_of_wf {n : Int} (h : (Lit.int .u8 n).wf = true) : 0 ≤ n ∧ n ≤ 255 := by
  have h' : (decide (IntKind.min .u8 ≤ n) && decide (n ≤ IntKind.max .u8)) = true := h
  rw [Bool.and_eq_true] at h'
  exact ⟨of_decide_eq_true h'.1, of_decide_eq_true h'.2⟩
end
end Go.Proofs.YtgecijhgonfldaaGreatDoor
