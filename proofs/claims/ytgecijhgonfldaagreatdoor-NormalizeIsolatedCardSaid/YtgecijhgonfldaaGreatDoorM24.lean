/- YtgecijhgonfldaaGreatDoor: texts FdV, FdK, FcV, ArcP, ArcQ, put one behind the other. -/
import Derived.Test.YtgecijhgonfldaaGreatDoorM15
import Derived.Test.YtgecijhgonfldaaGreatDoorM23
/- Feeds in the world: cells that read as a feed, rows of feeds. -/
namespace Go.Proofs.YtgecijhgonfldaaGreatDoor
open Go Go.RowKit
set_option linter.unusedVariables false

/-- a slice that reads as strings -/
def RStrs (w : World) (v : Value) (l : List ByteArray) : Prop := RSl w 1 v l.length (l.map Value.string)
theorem RStrs.ext {w w' : World} {v : Value} {l : List ByteArray} (h : RStrs w v l) (hx : Ext w w') : RStrs w' v l := RSl.ext h hx
theorem RStrs.form {w : World} {v : Value} {l : List ByteArray} (h : RStrs w v l) : ∃ A c, v = .slice A l.length c ∧ l.length ≤ c ∧ c ≤ maxLen := by
  obtain ⟨_, A, c, e, h1, h2, _⟩ := h
  exact ⟨A, c, e, h1, h2⟩
/-- a feed's six cells, by its two slices -/
def fCells (p es : Value) (f : Fd) : List Value := [p, .string f.id, .string f.title, .string f.link, .int .i64 f.upd, es]
/-- cells that read as a feed -/
def RFd (w : World) (cs : List Value) (f : Fd) : Prop := ∃ p es, cs = fCells p es f ∧ RStrs w p f.path ∧ REnts w es f.ents
theorem RFd.ext {w w' : World} {cs : List Value} {f : Fd} (h : RFd w cs f) (hx : Ext w w') : RFd w' cs f := by
  obtain ⟨p, es, e, h1, h2⟩ := h
  exact ⟨p, es, e, h1.ext hx, h2.ext hx⟩
theorem RFd.len {w : World} {cs : List Value} {f : Fd} (h : RFd w cs f) : cs.length = 6 := by
  obtain ⟨p, es, rfl, _⟩ := h
  rfl
theorem RFd.one {w : World} {cs : List Value} {f : Fd} (h : RFd w cs f) : ∀ u ∈ cs, u.oneCell' = true := by
  obtain ⟨p, es, rfl, h1, h2⟩ := h
  obtain ⟨A, c, rfl, _⟩ := h1.form
  obtain ⟨B, d, rfl, _⟩ := h2.form
  intro u hu
  simp only [fCells, List.mem_cons, List.mem_nil_iff, or_false] at hu
  rcases hu with rfl | rfl | rfl | rfl | rfl | rfl <;> rfl
theorem info_fd : (Tryz.prog.info? 35).map (fun i => (i.zero, i.size)) = some (some (.agg #[.slice none 0 0, .string ⟨#[]⟩, .string ⟨#[]⟩, .string ⟨#[]⟩, .int .i64 0, .slice none 0 0]), 6) := by kernel_rfl
theorem size_fd : (Tryz.prog.info? 35).map (fun i => i.size) = some 6 := by kernel_rfl
/-- a slice that reads as feeds; css: the cells, one list for each feed -/
def RFds (w : World) (v : Value) (l : List Fd) (css : List (List Value)) : Prop :=
  css.length = l.length ∧ RSl w 6 v l.length css.flatten ∧ ∀ (i : Nat) (f : Fd) (c : List Value), l[i]? = some f → css[i]? = some c → RFd w c f
theorem RFds.ext {w w' : World} {v : Value} {l : List Fd} {css : List (List Value)} (h : RFds w v l css) (hx : Ext w w') : RFds w' v l css :=
  ⟨h.1, h.2.1.ext hx, fun i f c hf hc => (h.2.2 i f c hf hc).ext hx⟩
theorem RFds.nil (w : World) : RFds w (.slice none 0 0) [] [] := ⟨rfl, RSl.nil w 6, fun i f c hf _ => by simp at hf⟩
theorem RFds.lens {w : World} {v : Value} {l : List Fd} {css : List (List Value)} (h : RFds w v l css) : ∀ c ∈ css, c.length = 6 := by
  intro c hc
  obtain ⟨i, hi⟩ := List.mem_iff_getElem?.1 hc
  have hil : i < l.length := by rw [← h.1]; exact (List.getElem?_eq_some_iff.1 hi).1
  exact (h.2.2 i l[i] c (List.getElem?_eq_getElem hil) hi).len
/-- the cells of a feed at an address -/
structure AtFd (w : World) (q : Addr) (p es : Value) (f : Fd) : Prop where
  c0 : w.cell? q = some p
  c1 : w.cell? ⟨q.block, q.off + 1, none⟩ = some (.string f.id)
  c2 : w.cell? ⟨q.block, q.off + 2, none⟩ = some (.string f.title)
  c3 : w.cell? ⟨q.block, q.off + 3, none⟩ = some (.string f.link)
  c4 : w.cell? ⟨q.block, q.off + 4, none⟩ = some (.int .i64 f.upd)
  c5 : w.cell? ⟨q.block, q.off + 5, none⟩ = some es
  path : RStrs w p f.path
  ents : REnts w es f.ents
theorem AtFd.ext {w w' : World} {q : Addr} {p es : Value} {f : Fd} (h : AtFd w q p es f) (hx : Ext w w') : AtFd w' q p es f :=
  ⟨hx.cell h.c0, hx.cell h.c1, hx.cell h.c2, hx.cell h.c3, hx.cell h.c4, hx.cell h.c5, h.path.ext hx, h.ents.ext hx⟩
theorem RFds.at {w : World} {v : Value} {l : List Fd} {css : List (List Value)} (h : RFds w v l css) {k : Nat} (hk : k < l.length) :
    ∃ ad c p es, v = .slice (some ad) l.length c ∧ css[k]? = some (fCells p es l[k]) ∧ AtFd w (ad.add (k * 6)) p es l[k] := by
  have hkc : k < css.length := by rw [h.1]; exact hk
  obtain ⟨p, es, e0, h1, h2⟩ := h.2.2 k l[k] css[k] (List.getElem?_eq_getElem hk) (List.getElem?_eq_getElem hkc)
  have hck : css[k]? = some (fCells p es l[k]) := by rw [List.getElem?_eq_getElem hkc, e0]
  obtain ⟨ad, c, e, hc⟩ := RSl.elem (k := 6) h.2.1 (by decide) h.lens k _ hck
  rw [Nat.mul_comm] at hc
  have hadd : ∀ i, 0 < i → (ad.add (k * 6)).add i = ⟨(ad.add (k * 6)).block, (ad.add (k * 6)).off + i, none⟩ := fun i hi => if_neg (by omega)
  refine ⟨ad, c, p, es, e, hck, ?_, ?_, ?_, ?_, ?_, ?_, h1, h2⟩
  · have := hc 0 _ rfl; rwa [add_zero] at this
  · have := hc 1 _ rfl; rwa [hadd _ (by decide)] at this
  · have := hc 2 _ rfl; rwa [hadd _ (by decide)] at this
  · have := hc 3 _ rfl; rwa [hadd _ (by decide)] at this
  · have := hc 4 _ rfl; rwa [hadd _ (by decide)] at this
  · have := hc 5 _ rfl; rwa [hadd _ (by decide)] at this
end Go.Proofs.YtgecijhgonfldaaGreatDoor
/- Contracts: feeds' keys and times. -/
namespace Go.Proofs.YtgecijhgonfldaaGreatDoor
open Go Go.RowKit
set_option linter.unusedVariables false

/-- the bytes of a list of strings -/
def sizes (l : List ByteArray) : Nat := (l.map ByteArray.size).sum
/-- within the sizes that the walks ask for (the head of a feed) -/
def fok (f : Fd) : Prop := i64ok f.upd ∧ f.path.length + sizes f.path + f.id.size + f.title.size + f.link.size ≤ 16777216
theorem size_le_sizes {l : List ByteArray} {s : ByteArray} (h : s ∈ l) : s.size ≤ sizes l := by
  induction l with
  | nil => simp at h
  | cons x t ih =>
    have e : sizes (x :: t) = x.size + sizes t := by unfold sizes; simp
    rcases List.mem_cons.1 h with rfl | h
    · omega
    · have := ih h; omega
theorem feedJ_ok (f : Fd) (h : fok f) : jok (feedJ f) := by
  obtain ⟨h1, h2⟩ := h
  unfold feedJ
  rw [jok_arr]
  intro j hj
  simp only [List.mem_cons, List.mem_nil_iff, or_false] at hj
  rcases hj with rfl | rfl | rfl | rfl | rfl
  · rw [jok_arr]
    intro j hj
    obtain ⟨s, hs, rfl⟩ := List.mem_map.1 hj
    have := size_le_sizes hs
    simp only [jok]
    omega
  · simp only [jok]; omega
  · simp only [jok]; omega
  · simp only [jok]; omega
  · simp only [jok]; exact h1
theorem paths_len : ∀ l : List ByteArray, (commas ((l.map JV.str).map jtext)).length ≤ 8 * sizes l + 3 * l.length
  | [] => by simp [commas]
  | [s] => by
    have a := quoteL_len s.data.toList
    rw [data_len] at a
    simp only [List.map_cons, List.map_nil, jtext_str, commas]
    unfold sizes
    simp
    omega
  | s :: t :: r => by
    have a := quoteL_len s.data.toList
    rw [data_len] at a
    have ih := paths_len (t :: r)
    have e : sizes (s :: t :: r) = s.size + sizes (t :: r) := by unfold sizes; simp
    rw [e]
    simp only [List.map_cons, jtext_str, commas, List.length_append, List.length_cons] at ih ⊢
    omega
theorem feedJ_len (f : Fd) (h : fok f) : (jtext (feedJ f)).length ≤ 140737488355328 := by
  obtain ⟨h1, h2⟩ := h
  unfold feedJ
  rw [jtext_arr]
  have a := quoteL_len f.id.data.toList
  have b := quoteL_len f.title.data.toList
  have c := quoteL_len f.link.data.toList
  have p := paths_len f.path
  have g := Lib.itoa_length_le f.upd h1.1 h1.2
  rw [data_len] at a b c
  simp only [List.map_cons, List.map_nil, jtext_arr, jtext_str, jtext_int, commas, List.length_cons, List.length_append, List.length_nil] at p ⊢
  omega
theorem updF_any (p es : Value) (f : Fd) (w : World) : Calls Tryz.prog 85 #[.agg (fCells p es f).toArray] w fun x w' => x = .returned (.int .i64 f.upd) ∧ Ext w w' := by
  unfold fCells
  go_enter Tryz.func85, Tryz.ntmps85
  go_wp2
  go_ret
  exact ⟨rfl, (Ext.refl _).alloc _⟩
theorem fdID_any (p es : Value) (f : Fd) (w : World) : Calls Tryz.prog 57 #[.agg (fCells p es f).toArray] w fun x w' => x = .returned (.string f.id) ∧ Ext w w' := by
  unfold fCells
  go_enter Tryz.func57, Tryz.ntmps57
  go_wp2
  go_ret
  exact ⟨rfl, (Ext.refl _).alloc _⟩
end Go.Proofs.YtgecijhgonfldaaGreatDoor
/- Feeds as cells with their two slices: rows of feeds, of the call's own or only read; what a write into one block keeps of them. -/
namespace Go.Proofs.YtgecijhgonfldaaGreatDoor
open Go Go.RowKit
set_option linter.unusedVariables false

theorem heap2_new (w : World) (A B : Obj) : ((w.alloc A).alloc B).heap[w.heap.size + 1]? = some B := by
  have := heap_alloc_new (w.alloc A) B
  rwa [size_alloc] at this
/-- a feed with its two slices -/
structure Fc where
  p : Value
  es : Value
  f : Fd
def cellsC (x : Fc) : List Value := fCells x.p x.es x.f
def isSl (v : Value) : Prop := ∃ A n c, v = .slice A n c
def slC (x : Fc) : Prop := isSl x.p ∧ isSl x.es
theorem cellsC_one {x : Fc} (h : slC x) : ∀ u ∈ cellsC x, u.oneCell' = true := by
  obtain ⟨p, es, f⟩ := x
  obtain ⟨⟨A, n, c, h1⟩, ⟨B, m, d, h2⟩⟩ := h
  simp only at h1 h2
  subst h1 h2
  intro u hu
  simp only [cellsC, fCells, List.mem_cons, List.mem_nil_iff, or_false] at hu
  rcases hu with rfl | rfl | rfl | rfl | rfl | rfl <;> rfl
theorem cellsC_len (x : Fc) : (cellsC x).length = 6 := rfl
/-- its slices read as its path and its entries -/
def RdC (w : World) (x : Fc) : Prop := RStrs w x.p x.f.path ∧ REnts w x.es x.f.ents
theorem RdC.ext {w w' : World} {x : Fc} (h : RdC w x) (hx : Ext w w') : RdC w' x := ⟨h.1.ext hx, h.2.ext hx⟩
theorem RdC.sl {w : World} {x : Fc} (h : RdC w x) : slC x := by
  obtain ⟨A, c, e, _⟩ := h.1.form
  obtain ⟨B, d, e', _⟩ := h.2.form
  exact ⟨⟨A, _, c, e⟩, ⟨B, _, d, e'⟩⟩
def flatC (l : List Fc) : List Value := (l.map cellsC).flatten
theorem flatC_app (a b : List Fc) : flatC (a ++ b) = flatC a ++ flatC b := by unfold flatC; rw [List.map_append, List.flatten_append]
theorem flatC_one (x : Fc) : flatC [x] = cellsC x := by unfold flatC; simp
/-- a slice that reads as feeds -/
def RFcs (w : World) (v : Value) (l : List Fc) : Prop := RSl w 6 v l.length (flatC l)
/-- a slice of feeds of the call's own -/
def OFcs (w : World) (B : Nat) (v : Value) (l : List Fc) : Prop := w.ownsRow B 35 6 v l.length (flatC l)
theorem OFcs.reads {w : World} {B : Nat} {v : Value} {l : List Fc} (h : OFcs w B v l) : RFcs w v l := RSl.of_own h
theorem RFcs.ext {w w' : World} {v : Value} {l : List Fc} (h : RFcs w v l) (hx : Ext w w') : RFcs w' v l := RSl.ext h hx
theorem OFcs.ext {w w' : World} {B : Nat} {v : Value} {l : List Fc} (h : OFcs w B v l) (hx : Ext w w') : OFcs w' B v l := own_ext h hx
theorem RFcs.form {w : World} {v : Value} {l : List Fc} (h : RFcs w v l) : ∃ A c, v = .slice A l.length c ∧ l.length ≤ c ∧ c ≤ maxLen := by
  obtain ⟨_, A, c, e, h1, h2, _⟩ := h
  exact ⟨A, c, e, h1, h2⟩
theorem OFcs.nil (w : World) (B : Nat) : OFcs w B (.slice none 0 0) [] := World.ownsRow_nil _ _ _ _
theorem OFcs.snoc {w : World} {B : Nat} {v : Value} {l : List Fc} {x : Fc} (h : w.ownsRow B 35 6 v (l.length + 1) (flatC l ++ cellsC x)) : OFcs w B v (l ++ [x]) := by
  unfold OFcs
  rw [flatC_app, flatC_one, List.length_append]
  exact h
theorem OFcs.mono {w : World} {B B' : Nat} {v : Value} {l : List Fc} (h : OFcs w B v l) (hB : B' ≤ B) : OFcs w B' v l := own_mono h hB
/-- the cells of a feed at an address -/
structure AtFc (w : World) (q : Addr) (x : Fc) : Prop where
  c0 : w.cell? q = some x.p
  c1 : w.cell? ⟨q.block, q.off + 1, none⟩ = some (.string x.f.id)
  c2 : w.cell? ⟨q.block, q.off + 2, none⟩ = some (.string x.f.title)
  c3 : w.cell? ⟨q.block, q.off + 3, none⟩ = some (.string x.f.link)
  c4 : w.cell? ⟨q.block, q.off + 4, none⟩ = some (.int .i64 x.f.upd)
  c5 : w.cell? ⟨q.block, q.off + 5, none⟩ = some x.es
theorem AtFc.ext {w w' : World} {q : Addr} {x : Fc} (h : AtFc w q x) (hx : Ext w w') : AtFc w' q x := ⟨hx.cell h.c0, hx.cell h.c1, hx.cell h.c2, hx.cell h.c3, hx.cell h.c4, hx.cell h.c5⟩
theorem RFcs.at {w : World} {v : Value} {l : List Fc} (h : RFcs w v l) {k : Nat} (hk : k < l.length) : ∃ ad c, v = .slice (some ad) l.length c ∧ AtFc w (ad.add (k * 6)) l[k] := by
  obtain ⟨ad, c, e, hc⟩ := RSl.elem (k := 6) (css := l.map cellsC) h (by decide) (by intro c hc; obtain ⟨x, _, rfl⟩ := List.mem_map.1 hc; rfl) k (cellsC l[k]) (by rw [List.getElem?_map, List.getElem?_eq_getElem hk]; rfl)
  rw [Nat.mul_comm] at hc
  have hadd : ∀ i, 0 < i → (ad.add (k * 6)).add i = ⟨(ad.add (k * 6)).block, (ad.add (k * 6)).off + i, none⟩ := fun i hi => if_neg (by omega)
  refine ⟨ad, c, e, ?_, ?_, ?_, ?_, ?_, ?_⟩
  · have := hc 0 _ rfl; rwa [add_zero] at this
  · have := hc 1 _ rfl; rwa [hadd _ (by decide)] at this
  · have := hc 2 _ rfl; rwa [hadd _ (by decide)] at this
  · have := hc 3 _ rfl; rwa [hadd _ (by decide)] at this
  · have := hc 4 _ rfl; rwa [hadd _ (by decide)] at this
  · have := hc 5 _ rfl; rwa [hadd _ (by decide)] at this

theorem oneF {A : Option Addr} {n c : Nat} {B : Option Addr} {m d : Nat} {i t l : ByteArray} {u : Int} : (#[Value.slice A n c, .string i, .string t, .string l, .int .i64 u, .slice B m d]).all (fun u => u.oneCell') = true :=
  oneA (cellsC_one (x := ⟨.slice A n c, .slice B m d, ⟨[], i, t, l, u, []⟩⟩) ⟨⟨_, _, _, rfl⟩, ⟨_, _, _, rfl⟩⟩)
theorem oneArc {A : Option Addr} {n c : Nat} : (#[Value.slice A n c]).all (fun u => u.oneCell') = true := oneA (cs := [Value.slice A n c]) (by intro u hu; rw [List.mem_singleton.1 hu]; rfl)
/-! ### writes into one block -/
theorem RSl.grown {w w' : World} {size n : Nat} {v : Value} {xs : List Value} {r : Option Nat} (h : RSl w size v n xs) (hg : w.grownBy w' r) (hv : xs = [] ∨ v.ownBlock ≠ r) : RSl w' size v n xs := by
  obtain ⟨h1, A, c, rfl, h2, h3, h4, h5⟩ := h
  refine ⟨h1, A, c, rfl, h2, h3, h4, fun j u hu => ?_⟩
  obtain ⟨ad, rfl, hc⟩ := h5 j u hu
  refine ⟨ad, rfl, hg.cell hc ?_⟩
  rw [block_of_add]
  rcases hv with hv | hv
  · subst hv; simp at hu
  · exact hv
theorem RSl.old {w : World} {size n : Nat} {v : Value} {xs : List Value} (h : RSl w size v n xs) (hne : xs ≠ []) : ∃ g, v.ownBlock = some g ∧ g < w.heap.size := by
  obtain ⟨h1, A, c, rfl, h2, h3, h4, h5⟩ := h
  cases xs with
  | nil => exact absurd rfl hne
  | cons u t =>
    obtain ⟨ad, rfl, hc⟩ := h5 0 u rfl
    refine ⟨ad.block, rfl, ?_⟩
    have := World.block_lt_of_cell? w _ hc
    rwa [block_of_add] at this
/-- what is read of the feed does not lie in block r -/
def awayC (x : Fc) (r : Option Nat) : Prop := (x.f.path = [] ∨ x.p.ownBlock ≠ r) ∧ (x.f.ents = [] ∨ x.es.ownBlock ≠ r)
theorem awayC_none {w : World} {x : Fc} (h : RdC w x) : awayC x none := by
  refine ⟨?_, ?_⟩
  · cases hp : x.f.path with
    | nil => exact Or.inl rfl
    | cons s t =>
      obtain ⟨g, hg, _⟩ := RSl.old h.1 (by rw [hp]; simp)
      exact Or.inr (by rw [hg]; simp)
  · cases hp : x.f.ents with
    | nil => exact Or.inl rfl
    | cons s t =>
      obtain ⟨g, hg, _⟩ := RSl.old h.2 (by rw [hp]; unfold flatE; simp [eCells])
      exact Or.inr (by rw [hg]; simp)
theorem awayC_new {w : World} {x : Fc} (h : RdC w x) {g : Nat} (hg : w.heap.size ≤ g) : awayC x (some g) := by
  refine ⟨?_, ?_⟩
  · cases hp : x.f.path with
    | nil => exact Or.inl rfl
    | cons s t =>
      obtain ⟨k, hk, hlt⟩ := RSl.old h.1 (by rw [hp]; simp)
      exact Or.inr (by rw [hk]; intro e; injection e with e; omega)
  · cases hp : x.f.ents with
    | nil => exact Or.inl rfl
    | cons s t =>
      obtain ⟨k, hk, hlt⟩ := RSl.old h.2 (by rw [hp]; unfold flatE; simp [eCells])
      exact Or.inr (by rw [hk]; intro e; injection e with e; omega)
theorem RdC.grown {w w' : World} {x : Fc} {r : Option Nat} (h : RdC w x) (hg : w.grownBy w' r) (ha : awayC x r) : RdC w' x :=
  ⟨RSl.grown h.1 hg (ha.1.imp (fun e => by rw [e]; rfl) fun e => e), RSl.grown h.2 hg (ha.2.imp (fun e => by rw [e]; rfl) fun e => e)⟩

/-- a row of feeds of the call's own, whose feeds' memory lies elsewhere -/
structure HFs (w : World) (B : Nat) (v : Value) (l : List Fc) : Prop where
  row : OFcs w B v l
  rd : ∀ x ∈ l, RdC w x
  away : ∀ x ∈ l, awayC x v.ownBlock
theorem HFs.nil (w : World) (B : Nat) : HFs w B (.slice none 0 0) [] := ⟨OFcs.nil _ _, by simp, by simp⟩
theorem HFs.ext {w w' : World} {B : Nat} {v : Value} {l : List Fc} (h : HFs w B v l) (hx : Ext w w') : HFs w' B v l := ⟨h.row.ext hx, fun x hxl => (h.rd x hxl).ext hx, h.away⟩
theorem HFs.snoc {w w3 : World} {B : Nat} {v v3 : Value} {l : List Fc} {x : Fc} (h : HFs w B v l) (hx : RdC w x) (ha : awayC x v.ownBlock)
    (hown : w3.ownsRow B 35 6 v3 (l.length + 1) (flatC l ++ cellsC x)) (hg : w.grownBy w3 v.ownBlock) (hat : v3.ownBlock = v.ownBlock ∨ v3.ownBlock = some w.heap.size) : HFs w3 B v3 (l ++ [x]) := by
  have key : ∀ y ∈ l ++ [x], RdC w y ∧ awayC y v.ownBlock := by
    intro y hy
    rcases List.mem_append.1 hy with hy | hy
    · exact ⟨h.rd y hy, h.away y hy⟩
    · rw [List.mem_singleton.1 hy]; exact ⟨hx, ha⟩
  refine ⟨OFcs.snoc hown, fun y hy => (key y hy).1.grown hg (key y hy).2, fun y hy => ?_⟩
  rcases hat with e | e
  · rw [e]; exact (key y hy).2
  · rw [e]; exact awayC_new (key y hy).1 (Nat.le_refl _)
end Go.Proofs.YtgecijhgonfldaaGreatDoor
/- Plain: what Archive computes, group by group. No program in sight. -/
namespace Go.Proofs.YtgecijhgonfldaaGreatDoor
open Go
set_option linter.unusedVariables false

def withE (f : Fd) (l : List Ent) : Fd := { f with ents := l }
theorem laterF_withE (a b : Fd) (x y : List Ent) : laterF (withE a x) (withE b y) = laterF a b := by
  unfold laterF
  rw [show feedKey (withE a x) = feedKey a from rfl, show feedKey (withE b y) = feedKey b from rfl]
  rw [show (withE a x).upd = a.upd from rfl, show (withE b y).upd = b.upd from rfl]
  cases laterB (iCmp a.upd b.upd) (feedKey a) (feedKey b) <;> rfl
theorem laterF_withL (a b : Fd) (x : List Ent) : laterF (withE a x) b = laterF a b := laterF_withE a b x b.ents
theorem fold_laterF_withE : ∀ (t : List Fd) (a : Fd) (x z : List Ent), withE (t.foldl laterF (withE a x)) z = withE (t.foldl laterF a) z
  | [], _, _, _ => rfl
  | h :: t, a, x, z => by rw [List.foldl_cons, List.foldl_cons, laterF_withL]
theorem joinF_fold : ∀ (t : List Fd) (g : Fd), ordE.canon g.ents = g.ents → t.foldl joinF g = withE (t.foldl laterF g) (ordE.canon (g.ents ++ (t.map Fd.ents).flatten))
  | [], g, h => by
    rw [List.map_nil, List.flatten_nil, List.append_nil, h]
    rfl
  | x :: t, g, h => by
    have hj : joinF g x = withE (laterF g x) (ordE.canon (g.ents ++ x.ents)) := by
      rw [ordE.canon_append, h]
      rfl
    rw [List.foldl_cons, joinF_fold t (joinF g x) (by rw [hj]; exact ordE.canon_canon _), hj, fold_laterF_withE, List.foldl_cons]
    refine congrArg (withE _) ?_
    show ordE.canon (ordE.canon (g.ents ++ x.ents) ++ (t.map Fd.ents).flatten) = _
    rw [ordE.canon_append, ordE.canon_canon, ← ordE.canon_append, List.append_assoc, List.map_cons, List.flatten_cons]
/-- the joined feed of a group -/
def jF (l : List Fd) (s : ByteArray) : Fd := (ordF.got l s).getD zeroF
theorem joinedF_map (l : List Fd) : ordF.joined l = (ordF.firsts l).map (jF l) := by
  have key : ∀ fs : List ByteArray, (∀ s ∈ fs, s ∈ ordF.firsts l) → fs.filterMap (ordF.got l) = fs.map (jF l) := by
    intro fs
    induction fs with
    | nil => intro _; rfl
    | cons s t ih =>
      intro h
      obtain ⟨x, hx⟩ := (Ord.got_isSome_iff (O := ordF) l s).2 ((ordF.mem_firsts l s).1 (h s (by simp)))
      rw [List.filterMap_cons_some hx, List.map_cons, ih fun s hs => h s (by simp [hs])]
      unfold jF
      rw [hx]; rfl
  exact key _ fun s hs => hs
theorem jF_fold {l : List Fd} {s : ByteArray} {x : Fd} {t : List Fd} (h : (l.filter fun x => decide (x.id = s)) = x :: t) (hx : ordE.canon x.ents = x.ents) :
    jF l s = withE (t.foldl laterF x) (ordE.canon (x.ents ++ (t.map Fd.ents).flatten)) := by
  rw [← joinF_fold t x hx]
  unfold jF Ord.got
  have h' : (l.filter fun x => decide (ordF.id x = s)) = x :: t := h
  rw [h']
  rfl
end Go.Proofs.YtgecijhgonfldaaGreatDoor
/- Sizes of what normalize computes. No program in sight. -/
namespace Go.Proofs.YtgecijhgonfldaaGreatDoor
open Go
set_option linter.unusedVariables false

theorem collGo_len1 : ∀ (l out : List UInt8) (g : Bool), (collGo l out g).length ≤ out.length + l.length + (if g = true then 1 else 0)
  | [], out, g => by simp only [collGo, List.length_nil]; omega
  | c :: t, out, g => by
    simp only [collGo]
    by_cases h : isSp c.toNat = true
    · rw [if_pos h]
      have := collGo_len1 t out (!out.isEmpty)
      rw [List.length_cons]
      split at this <;> omega
    · rw [if_neg h]
      have := collGo_len1 t (out ++ (if g = true then [32] else []) ++ [c]) false
      simp only [Bool.false_eq_true, if_false, List.length_append, List.length_cons, List.length_nil] at this
      rw [List.length_cons]
      cases g
      · simp only [Bool.false_eq_true, if_false, List.length_nil] at this ⊢; omega
      · simp only [if_true, List.length_cons, List.length_nil] at this ⊢; omega
theorem collapse_size (s : ByteArray) : (collapse s).size ≤ s.size := by
  unfold collapse coll
  rw [str_size]
  have := collGo_len1 s.data.toList [] false
  simp only [Bool.false_eq_true, if_false, List.length_nil] at this
  rw [data_len] at this
  omega
theorem eok_coll {e : Ent} (h : eok e) : eok (collE e) := by
  obtain ⟨h1, h2⟩ := h
  refine ⟨h1, ?_⟩
  have a := collapse_size e.id
  have b := collapse_size e.title
  have c := collapse_size e.link
  have d := collapse_size e.content
  show (collapse e.id).size + (collapse e.title).size + (collapse e.link).size + (collapse e.content).size ≤ 16777216
  omega
theorem sizes_coll : ∀ l : List ByteArray, sizes (l.map collapse) ≤ sizes l
  | [] => Nat.le_refl _
  | s :: t => by
    have h := sizes_coll t
    have a := collapse_size s
    unfold sizes at *
    simp only [List.map_cons, List.sum_cons] at h ⊢
    omega
theorem fok_coll {f : Fd} (h : fok f) : fok (collF f) := by
  obtain ⟨h1, h2⟩ := h
  refine ⟨h1, ?_⟩
  have a := collapse_size f.id
  have b := collapse_size f.title
  have c := collapse_size f.link
  have d := sizes_coll f.path
  show (f.path.map collapse).length + sizes (f.path.map collapse) + (collapse f.id).size + (collapse f.title).size + (collapse f.link).size ≤ 16777216
  rw [List.length_map]
  omega
theorem fold_pick : ∀ (t : List Ent) (x : Ent), t.foldl laterE x ∈ x :: t
  | [], x => by simp
  | y :: t, x => by
    have h := fold_pick t (laterE x y)
    rw [List.foldl_cons]
    rcases List.mem_cons.1 h with h | h
    · rw [h]
      unfold laterE
      split <;> simp
    · simp [h]
theorem canonE_mem {l : List Ent} {x : Ent} (h : x ∈ ordE.canon l) : x ∈ l := by
  have h1 := ((ordE.canon_is l).2 x).1 h
  unfold Ord.got at h1
  cases hf : l.filter fun y => decide (ordE.id y = ordE.id x) with
  | nil => rw [hf] at h1; cases h1
  | cons y t =>
    rw [hf] at h1
    have h2 : t.foldl laterE y = x := by
      unfold Ord.fold1 at h1
      injection h1
    have h3 := fold_pick t y
    rw [h2, ← hf] at h3
    exact (List.mem_filter.1 h3).1
section
variable {α κ : Type} (O : Ord α κ)
theorem ins_len : ∀ (l : List α) (e : α), (O.ins l e).length = l.length + 1
  | [], _ => rfl
  | x :: t, e => by
    unfold Ord.ins
    split
    · rfl
    · rw [List.length_cons, ins_len t e, List.length_cons]
end
section
variable {α κ : Type} [DecidableEq κ] (O : Ord α κ)
theorem put_len (l : List α) (e : α) : (O.put l e).length ≤ l.length + 1 := by
  unfold Ord.put
  rw [ins_len, O.scan_fst]
  have := List.length_filter_le (fun x => !decide (O.id x = O.id e)) l
  omega
theorem fold_put_len : ∀ (l s : List α), (l.foldl O.put s).length ≤ s.length + l.length
  | [], s => by simp
  | x :: t, s => by
    have h := fold_put_len t (O.put s x)
    have := put_len O s x
    rw [List.foldl_cons, List.length_cons]
    omega
theorem canon_len (l : List α) : (O.canon l).length ≤ l.length := by
  have := fold_put_len O l []
  unfold Ord.canon
  simpa using this
end
theorem laterF_fok {a b : Fd} (ha : fok a) (hb : fok b) : fok (laterF a b) := by
  unfold laterF
  cases laterB (iCmp a.upd b.upd) (feedKey a) (feedKey b)
  · exact ha
  · exact hb
theorem foldF_fok : ∀ (t : List Fd) (x : Fd), fok x → (∀ y ∈ t, fok y) → fok (t.foldl laterF x)
  | [], _, h, _ => h
  | y :: t, x, h, ht => foldF_fok t _ (laterF_fok h (ht y (by simp))) fun z hz => ht z (by simp [hz])
/-- within the sizes that the walks ask for: a feed with its entries -/
def fokS (f : Fd) : Prop := fok f ∧ f.ents.length ≤ 1000000 ∧ ∀ e ∈ f.ents, eok e
theorem fokS_coll {f : Fd} (h : fokS f) : fokS (collF f) := by
  refine ⟨fok_coll h.1, ?_, fun e he => ?_⟩
  · show (ordE.canon (f.ents.map collE)).length ≤ 1000000
    have := canon_len ordE (f.ents.map collE)
    rw [List.length_map] at this
    have := h.2.1
    omega
  · obtain ⟨x, hx, rfl⟩ := List.mem_map.1 (canonE_mem (show e ∈ ordE.canon (f.ents.map collE) from he))
    exact eok_coll (h.2.2 x hx)
end Go.Proofs.YtgecijhgonfldaaGreatDoor
