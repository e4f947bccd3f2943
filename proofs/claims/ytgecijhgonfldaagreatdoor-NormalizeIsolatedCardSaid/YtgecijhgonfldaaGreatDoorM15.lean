/- YtgecijhgonfldaaGreatDoor: texts NormP, Coll, put one behind the other. -/
import Derived.Test.YtgecijhgonfldaaGreatDoorM04
import Derived.Test.YtgecijhgonfldaaGreatDoorM08
import Derived.Test.YtgecijhgonfldaaGreatDoorM14
/- Plain data: what normalize computes, and what is valid. No program in sight. -/
namespace Go.Proofs.YtgecijhgonfldaaGreatDoor
open Go
set_option linter.unusedVariables false

def noS : ByteArray := ⟨#[]⟩
def zeroE : Ent := ⟨noS, noS, noS, noS, 0⟩
def zeroF : Fd := ⟨[], noS, noS, noS, 0, []⟩
def inT (t : Int) : Bool := decide (-62135596800 ≤ t) && decide (t ≤ 253402300799)
/-- the first error of a list of strings -/
def firstErr : List ByteArray → Nat
  | [] => 0
  | s :: t => if (checkS s).2 = 0 then firstErr t else (checkS s).2
def strsE (e : Ent) : List ByteArray := [e.id, e.title, e.link, e.content]
def strsF (f : Fd) : List ByteArray := f.path ++ [f.id, f.title, f.link]
def collE (e : Ent) : Ent := ⟨collapse e.id, collapse e.title, collapse e.link, collapse e.content, e.upd⟩
def collF (f : Fd) : Fd := ⟨f.path.map collapse, collapse f.id, collapse f.title, collapse f.link, f.upd, ordE.canon (f.ents.map collE)⟩
def errE (e : Ent) : Nat := if firstErr (strsE e) ≠ 0 then firstErr (strsE e) else if collapse e.id = noS then 19 else if inT e.upd then 0 else 3
def errEs : List Ent → Nat
  | [] => 0
  | e :: t => if errE e = 0 then errEs t else errE e
def headF (f : Fd) : Nat := if firstErr (strsF f) ≠ 0 then firstErr (strsF f) else if collapse f.id = noS ∨ (f.path.any fun p => decide (collapse p = noS)) = true then 19 else if 64 < f.path.length then 9 else if inT f.upd then 0 else 3
def errF (f : Fd) : Nat := if headF f = 0 then errEs f.ents else headF f
def errFs : List Fd → Nat
  | [] => 0
  | f :: t => if errF f = 0 then errFs t else errF f
def normE (e : Ent) : Ent := if errE e = 0 then collE e else zeroE
def normF (f : Fd) : Fd := if errF f = 0 then collF f else zeroF
def normA (l : List Fd) : List Fd := if errFs l = 0 then ordF.canon (l.map collF) else []

/-! ### valid data -/
/-- the check of the element at place i of a list -/
def okAt {α κ : Type} [DecidableEq κ] (ok : α → Bool) (O : Ord α κ) (l : List α) (i : Nat) : Bool :=
  match l[i]? with
  | none => true
  | some x => ok x && (decide (i = 0) || (match l[i - 1]? with | none => true | some y => O.lt y x)) && (l.take i).all fun y => decide (O.id y ≠ O.id x)
def okL {α κ : Type} [DecidableEq κ] (ok : α → Bool) (O : Ord α κ) (l : List α) : Bool := (List.range l.length).all (okAt ok O l)
def okE (e : Ent) : Bool := (strsE e).all validS && !decide (e.id = noS) && inT e.upd
def okH (f : Fd) : Bool := decide (f.path.length ≤ 64) && (strsF f).all validS && !decide (f.id = noS) && inT f.upd && f.path.all fun p => !decide (p = noS)
def okF (f : Fd) : Bool := okH f && okL okE ordE f.ents
def okA (l : List Fd) : Bool := okL okF ordF l

section
variable {α κ : Type} [DecidableEq κ] {ok : α → Bool} {O : Ord α κ}
theorem okAt_iff {l : List α} {i : Nat} (hi : i < l.length) : okAt ok O l i = true ↔ ok l[i] = true ∧ (∀ h : 0 < i, O.lt l[i - 1] l[i] = true) ∧ ∀ j (hj : j < i), O.id l[j] ≠ O.id l[i] := by
  unfold okAt
  rw [List.getElem?_eq_getElem hi]
  simp only [Bool.and_eq_true, Bool.or_eq_true, decide_eq_true_eq, List.all_eq_true, and_assoc]
  refine and_congr Iff.rfl (and_congr ?_ ?_)
  · rw [List.getElem?_eq_getElem (show i - 1 < l.length by omega)]
    constructor
    · rintro (h | h) h0
      · omega
      · exact h
    · intro h
      rcases Nat.eq_zero_or_pos i with h0 | h0
      · exact Or.inl h0
      · exact Or.inr (h h0)
  · constructor
    · intro h j hj
      refine h _ ?_
      exact List.mem_take_iff_getElem.2 ⟨j, by omega, rfl⟩
    · intro h x hx
      obtain ⟨j, hj, rfl⟩ := List.mem_take_iff_getElem.1 hx
      exact h j (by omega)
theorem okL_iff {l : List α} : okL ok O l = true ↔ (∀ x ∈ l, ok x = true) ∧ O.sorted l ∧ l.Pairwise fun a b => O.id a ≠ O.id b := by
  unfold okL
  simp only [List.all_eq_true, List.mem_range]
  constructor
  · intro h
    refine ⟨fun x hx => ?_, ?_, ?_⟩
    · obtain ⟨i, hi, rfl⟩ := List.mem_iff_getElem.1 hx
      exact ((okAt_iff hi).1 (h i hi)).1
    · refine List.pairwise_iff_getElem.2 fun i j hi hj hij => ?_
      have step : ∀ d i (hd : i + d + 1 < l.length), O.lt l[i] l[i + d + 1] = true := by
        intro d
        induction d with
        | zero => intro i hd; exact ((okAt_iff hd).1 (h (i + 1) hd)).2.1 (by omega)
        | succ d ih =>
          intro i hd
          have h1 := ih i (by omega)
          have h2 := ((okAt_iff hd).1 (h _ hd)).2.1 (by omega)
          exact O.trans _ _ _ h1 h2
      have := step (j - i - 1) i (by omega)
      simpa [show i + (j - i - 1) + 1 = j by omega] using this
    · exact List.pairwise_iff_getElem.2 fun i j hi hj hij => ((okAt_iff hj).1 (h j hj)).2.2 i hij
  · rintro ⟨h1, h2, h3⟩ i hi
    rw [okAt_iff hi]
    exact ⟨h1 _ (List.getElem_mem hi), fun h0 => List.pairwise_iff_getElem.1 h2 (i - 1) i (by omega) hi (by omega), fun j hj => List.pairwise_iff_getElem.1 h3 j i (by omega) hi hj⟩
end
theorem okE_iff {e : Ent} : okE e = true ↔ (∀ s ∈ strsE e, validS s = true) ∧ e.id ≠ noS ∧ inT e.upd = true := by
  unfold okE; simp only [Bool.and_eq_true, List.all_eq_true, Bool.not_eq_true', decide_eq_false_iff_not, and_assoc, ne_eq]
theorem okH_iff {f : Fd} : okH f = true ↔ f.path.length ≤ 64 ∧ (∀ s ∈ strsF f, validS s = true) ∧ f.id ≠ noS ∧ inT f.upd = true ∧ ∀ p ∈ f.path, p ≠ noS := by
  unfold okH; simp only [Bool.and_eq_true, List.all_eq_true, Bool.not_eq_true', decide_eq_false_iff_not, decide_eq_true_eq, and_assoc, ne_eq]
theorem okF_iff {f : Fd} : okF f = true ↔ okH f = true ∧ okL okE ordE f.ents = true := by unfold okF; rw [Bool.and_eq_true]
theorem vld_of {s : ByteArray} (h : validS s = true) : vld s = true := utf8_of_check (check_valid h)
theorem okE_good {e : Ent} (h : okE e = true) : goodE e := by
  have h := (okE_iff.1 h).1
  exact ⟨vld_of (h _ (by simp [strsE])), vld_of (h _ (by simp [strsE])), vld_of (h _ (by simp [strsE])), vld_of (h _ (by simp [strsE]))⟩
theorem okH_good {f : Fd} (h : okH f = true) : goodH f := by
  have h := (okH_iff.1 h).2.1
  exact ⟨fun p hp => vld_of (h p (by simp [strsF, hp])), vld_of (h _ (by simp [strsF])), vld_of (h _ (by simp [strsF])), vld_of (h _ (by simp [strsF]))⟩
theorem okL_canon {α κ : Type} [DecidableEq κ] {ok : α → Bool} {O : Ord α κ} {l : List α} (h : okL ok O l = true) : O.canon l = l := by
  have h := okL_iff.1 h
  exact O.canon_self h.2.1 h.2.2
theorem canon_okL {α κ : Type} [DecidableEq κ] {ok : α → Bool} {O : Ord α κ} {l : List α} (h : ∀ x ∈ O.canon l, ok x = true) : okL ok O (O.canon l) = true :=
  okL_iff.2 ⟨h, (O.canon_is l).1, (O.canon_is l).ids⟩
theorem okF_good {f : Fd} (h : okF f = true) : goodF f := by
  have h := okF_iff.1 h
  exact ⟨okH_good h.1, fun e he => okE_good ((okL_iff.1 h.2).1 e he), okL_canon h.2⟩
/-- valid entries: a semilattice -/
theorem semiE' : ordE.Semi (fun e => okE e = true) where
  good a b _ ha hb := by show okE (laterE a b) = true; rw [laterE_pk]; rcases pk_either keyCmpE a b with h | h <;> rw [h] <;> assumption
  comm a b h ha hb := semiE.comm a b h (okE_good ha) (okE_good hb)
  assoc a b c h k ha hb hc := semiE.assoc a b c h k (okE_good ha) (okE_good hb) (okE_good hc)
  idem a ha := semiE.idem a (okE_good ha)
theorem okH_hdr (f : Fd) : okH (hdr f) = okH f := rfl
theorem okH_of_hdr {a b : Fd} (h : hdr a = hdr b) (k : okH b = true) : okH a = true := by rw [← okH_hdr, h, okH_hdr]; exact k
theorem okF_join {a b : Fd} (ha : okF a = true) (hb : okF b = true) : okF (joinF a b) = true := by
  have ha' := okF_iff.1 ha
  have hb' := okF_iff.1 hb
  refine okF_iff.2 ⟨okH_of_hdr (joinF_hdr a b) ?_, ?_⟩
  · rcases pk_either keyCmpF a b with h | h <;> rw [h]
    · exact ha'.1
    · exact hb'.1
  · rw [joinF_ents (okL_canon ha'.2)]
    refine canon_okL (semiE'.canon_good fun x hx => ?_)
    rcases List.mem_append.1 hx with h | h
    · exact (okL_iff.1 ha'.2).1 x h
    · exact (okL_iff.1 hb'.2).1 x h
/-- valid feeds: a semilattice -/
theorem semiF' : ordF.Semi (fun f => okF f = true) where
  good a b _ ha hb := okF_join ha hb
  comm a b h ha hb := semiF.comm a b h (okF_good ha) (okF_good hb)
  assoc a b c h k ha hb hc := semiF.assoc a b c h k (okF_good ha) (okF_good hb) (okF_good hc)
  idem a ha := semiF.idem a (okF_good ha)

/-! ### normalized data are valid; valid data stay -/
theorem firstErr_zero {l : List ByteArray} : firstErr l = 0 ↔ ∀ s ∈ l, (checkS s).2 = 0 := by
  induction l with
  | nil => simp [firstErr]
  | cons s t ih =>
    unfold firstErr
    by_cases h : (checkS s).2 = 0
    · rw [if_pos h, ih]; simp [h]
    · rw [if_neg h]; simp [h]
theorem firstErr_drop {l : List ByteArray} {k : Nat} (hk : k < l.length) : firstErr (l.drop k) = if (checkS l[k]).2 = 0 then firstErr (l.drop (k + 1)) else (checkS l[k]).2 := by
  rw [List.drop_eq_getElem_cons hk]; rfl
theorem errE_zero {e : Ent} : errE e = 0 ↔ firstErr (strsE e) = 0 ∧ collapse e.id ≠ noS ∧ inT e.upd = true := by
  unfold errE
  by_cases h : firstErr (strsE e) = 0
  · rw [if_neg (by simpa using h)]
    by_cases k : collapse e.id = noS
    · rw [if_pos k]; simp [k]
    · rw [if_neg k]; simp [h, k]
  · rw [if_pos h]; simp [h]
theorem headF_zero {f : Fd} : headF f = 0 ↔ firstErr (strsF f) = 0 ∧ collapse f.id ≠ noS ∧ (∀ p ∈ f.path, collapse p ≠ noS) ∧ f.path.length ≤ 64 ∧ inT f.upd = true := by
  unfold headF
  by_cases h : firstErr (strsF f) = 0
  · rw [if_neg (by simpa using h)]
    by_cases k : collapse f.id = noS ∨ (f.path.any fun p => decide (collapse p = noS)) = true
    · rw [if_pos k]
      constructor
      · intro h'; omega
      · rintro ⟨_, h1, h2, _⟩
        rcases k with k | k
        · exact absurd k h1
        · obtain ⟨p, hp, e⟩ := List.any_eq_true.1 k; exact absurd (of_decide_eq_true e) (h2 p hp)
    · rw [if_neg k]
      have k1 : collapse f.id ≠ noS := fun e => k (Or.inl e)
      have k2 : ∀ p ∈ f.path, collapse p ≠ noS := fun p hp e => k (Or.inr (List.any_eq_true.2 ⟨p, hp, decide_eq_true e⟩))
      by_cases g : 64 < f.path.length
      · rw [if_pos g]; constructor
        · intro h'; omega
        · rintro ⟨_, _, _, h', _⟩; omega
      · rw [if_neg g]
        have g' : f.path.length ≤ 64 := by omega
        by_cases hi : inT f.upd = true
        · rw [if_pos hi]; exact ⟨fun _ => ⟨h, k1, k2, g', hi⟩, fun _ => rfl⟩
        · rw [if_neg hi]; exact ⟨fun h' => by omega, fun h' => absurd h'.2.2.2.2 hi⟩
  · rw [if_pos h]; exact ⟨fun h' => absurd h' h, fun h' => absurd h'.1 h⟩
theorem errEs_zero {l : List Ent} : errEs l = 0 ↔ ∀ e ∈ l, errE e = 0 := by
  induction l with
  | nil => simp [errEs]
  | cons s t ih =>
    unfold errEs
    by_cases h : errE s = 0
    · rw [if_pos h, ih]; simp [h]
    · rw [if_neg h]; simp [h]
theorem errF_zero {f : Fd} : errF f = 0 ↔ headF f = 0 ∧ errEs f.ents = 0 := by
  unfold errF
  by_cases h : headF f = 0
  · rw [if_pos h]; simp [h]
  · rw [if_neg h]; simp [h]
theorem errFs_zero {l : List Fd} : errFs l = 0 ↔ ∀ e ∈ l, errF e = 0 := by
  induction l with
  | nil => simp [errFs]
  | cons s t ih =>
    unfold errFs
    by_cases h : errF s = 0
    · rw [if_pos h, ih]; simp [h]
    · rw [if_neg h]; simp [h]
theorem okE_coll {e : Ent} (h : errE e = 0) : okE (collE e) = true := by
  obtain ⟨h1, h2, h3⟩ := errE_zero.1 h
  have h1 := firstErr_zero.1 h1
  refine okE_iff.2 ⟨fun s hs => ?_, h2, h3⟩
  have : ∃ t ∈ strsE e, s = collapse t := by
    simp only [strsE, collE, List.mem_cons, List.mem_nil_iff, or_false] at hs ⊢
    rcases hs with rfl | rfl | rfl | rfl
    · exact ⟨_, Or.inl rfl, rfl⟩
    · exact ⟨_, Or.inr (Or.inl rfl), rfl⟩
    · exact ⟨_, Or.inr (Or.inr (Or.inl rfl)), rfl⟩
    · exact ⟨_, Or.inr (Or.inr (Or.inr rfl)), rfl⟩
  obtain ⟨t, ht, rfl⟩ := this
  exact valid_collapse (h1 t ht)
theorem coll_okE {e : Ent} (h : okE e = true) : errE e = 0 ∧ collE e = e := by
  obtain ⟨h1, h2, h3⟩ := okE_iff.1 h
  have c1 := collapse_valid (h1 e.id (by simp [strsE]))
  have c2 := collapse_valid (h1 e.title (by simp [strsE]))
  have c3 := collapse_valid (h1 e.link (by simp [strsE]))
  have c4 := collapse_valid (h1 e.content (by simp [strsE]))
  refine ⟨errE_zero.2 ⟨firstErr_zero.2 fun s hs => check_valid (h1 s hs), by rw [c1]; exact h2, h3⟩, ?_⟩
  unfold collE
  rw [c1, c2, c3, c4]
theorem okF_coll {f : Fd} (h : errF f = 0) : okF (collF f) = true := by
  obtain ⟨h0, h5⟩ := errF_zero.1 h
  obtain ⟨h1, h2, h3, h4, h6⟩ := headF_zero.1 h0
  have h1 := firstErr_zero.1 h1
  have h5 := errEs_zero.1 h5
  refine okF_iff.2 ⟨okH_iff.2 ⟨by simpa [collF] using h4, fun s hs => ?_, h2, h6, fun p hp => ?_⟩, canon_okL (semiE'.canon_good fun x hx => ?_)⟩
  · have : ∃ t ∈ strsF f, s = collapse t := by
      simp only [strsF, collF, List.mem_append, List.mem_map, List.mem_cons, List.mem_nil_iff, or_false] at hs ⊢
      rcases hs with ⟨p, hp, rfl⟩ | rfl | rfl | rfl
      · exact ⟨p, Or.inl hp, rfl⟩
      · exact ⟨_, Or.inr (Or.inl rfl), rfl⟩
      · exact ⟨_, Or.inr (Or.inr (Or.inl rfl)), rfl⟩
      · exact ⟨_, Or.inr (Or.inr (Or.inr rfl)), rfl⟩
    obtain ⟨t, ht, rfl⟩ := this
    exact valid_collapse (h1 t ht)
  · obtain ⟨q, hq, rfl⟩ := List.mem_map.1 hp
    exact h3 q hq
  · obtain ⟨q, hq, rfl⟩ := List.mem_map.1 hx
    exact okE_coll (h5 q hq)
theorem map_self {α : Type} {g : α → α} : ∀ {l : List α}, (∀ x ∈ l, g x = x) → l.map g = l
  | [], _ => rfl
  | x :: t, h => by rw [List.map_cons, h x (by simp), map_self fun y hy => h y (by simp [hy])]
theorem coll_okF {f : Fd} (h : okF f = true) : errF f = 0 ∧ collF f = f := by
  obtain ⟨h1, h2⟩ := okF_iff.1 h
  obtain ⟨g1, g2, g3, g4, g5⟩ := okH_iff.1 h1
  have c1 := collapse_valid (g2 f.id (by simp [strsF]))
  have c2 := collapse_valid (g2 f.title (by simp [strsF]))
  have c3 := collapse_valid (g2 f.link (by simp [strsF]))
  have c4 : ∀ p ∈ f.path, collapse p = p := fun p hp => collapse_valid (g2 p (by simp [strsF, hp]))
  have h3 := (okL_iff.1 h2).1
  refine ⟨errF_zero.2 ⟨headF_zero.2 ⟨firstErr_zero.2 fun s hs => check_valid (g2 s hs), by rw [c1]; exact g3, fun p hp => by rw [c4 p hp]; exact g5 p hp, g1, g4⟩, errEs_zero.2 fun e he => (coll_okE (h3 e he)).1⟩, ?_⟩
  unfold collF
  rw [c1, c2, c3, map_self c4, map_self fun e he => (coll_okE (h3 e he)).2, okL_canon h2]
theorem okA_norm {l : List Fd} (h : errFs l = 0) : okA (ordF.canon (l.map collF)) = true := by
  have h := errFs_zero.1 h
  refine canon_okL (semiF'.canon_good fun x hx => ?_)
  obtain ⟨q, hq, rfl⟩ := List.mem_map.1 hx
  exact okF_coll (h q hq)
theorem norm_okA {l : List Fd} (h : okA l = true) : errFs l = 0 ∧ normA l = l := by
  have h1 := (okL_iff.1 h).1
  have e : errFs l = 0 := errFs_zero.2 fun f hf => (coll_okF (h1 f hf)).1
  refine ⟨e, ?_⟩
  unfold normA
  rw [if_pos e, map_self fun f hf => (coll_okF (h1 f hf)).2, okL_canon h]
end Go.Proofs.YtgecijhgonfldaaGreatDoor
/- Contracts: normalize.collapse, through pointers to strings. -/
namespace Go.Proofs.YtgecijhgonfldaaGreatDoor
open Go Go.RowKit
set_option linter.unusedVariables false

theorem Ext.setBoth {B : Nat} {a b : World} (h : Below B a b) (p : Addr) (v : Value) : Below B (a.setCell p v) (b.setCell p v) := by
  refine ⟨h.os, h.tape, h.output, ?_, fun k hk => ?_⟩
  · simpa [World.setCell] using h.size
  · simp only [World.setCell, Array.getElem?_modify, h.block k hk]
/-- strings stored at addresses, one behind the other -/
def setS (w : World) : List (Addr × ByteArray) → World
  | [] => w
  | p :: t => setS (w.setCell p.1 (.string p.2)) t
theorem setS_snoc : ∀ (l : List (Addr × ByteArray)) (w : World) (p : Addr × ByteArray), setS w (l ++ [p]) = (setS w l).setCell p.1 (.string p.2)
  | [], _, _ => rfl
  | q :: t, w, p => setS_snoc t (w.setCell q.1 (.string q.2)) p
theorem setS_size : ∀ (l : List (Addr × ByteArray)) (w : World), (setS w l).heap.size = w.heap.size
  | [], _ => rfl
  | p :: t, w => by rw [setS, setS_size t]; simp [World.setCell]
theorem setS_frozen : ∀ (l : List (Addr × ByteArray)) (w : World) (a : Addr), (setS w l).frozen? a = w.frozen? a
  | [], _, _ => rfl
  | p :: t, w, a => by rw [setS, setS_frozen t, World.frozen?_setCell]
theorem setS_other : ∀ (l : List (Addr × ByteArray)) (w : World) (a : Addr), (∀ p ∈ l, p.1 ≠ a) → (setS w l).cell? a = w.cell? a
  | [], _, _, _ => rfl
  | p :: t, w, a, h => by rw [setS, setS_other t _ a (fun q hq => h q (by simp [hq])), World.cell?_setCell_other w p.1 a _ (h p (by simp))]
theorem Ext.setS_base {w : World} (l : List (Addr × ByteArray)) : Below 0 w (setS w l) := by
  induction l generalizing w with
  | nil => exact Below.refl _ _
  | cons p t ih => exact (Below.setCell (Below.refl 0 w) (Nat.zero_le _) _).trans ih

/-- the strings behind pointers -/
structure Ptrs (w : World) (v : Value) (ps : List (Addr × ByteArray)) : Prop where
  row : RSl w 1 v ps.length (ps.map fun p => Value.pointer (some p.1))
  cells : ∀ p ∈ ps, w.cell? p.1 = some (.string p.2) ∧ w.frozen? p.1 = false
  size : ∀ p ∈ ps, p.2.size ≤ 16777216
  apart : ps.Pairwise fun p q => p.1 ≠ q.1
theorem below_cell {w : World} {B : Nat} {a : Addr} {v : Value} {w' : World} (h : Below B w w') (hB : w.heap.size ≤ B) (hc : w.cell? a = some v) : w'.cell? a = some v :=
  (Below.cell h (Nat.lt_of_lt_of_le (World.block_lt_of_cell? w a hc) hB)).trans hc

set_option maxRecDepth 100000 in
set_option maxHeartbeats 1000000 in
theorem collapseAll_any (v : Value) (ps : List (Addr × ByteArray)) (w : World) (hE : Env w) (h : Ptrs w v ps) :
    Calls Tryz.prog 43 #[v] w fun e w' => e = .returned (.int .i64 (firstErr (ps.map (·.2)) : Nat)) ∧
      ((firstErr (ps.map (·.2)) = 0 ∧ Below w.heap.size (setS w (ps.map fun p => (p.1, collapse p.2))) w') ∨ (firstErr (ps.map (·.2)) ≠ 0 ∧ Ext w w')) := by
  obtain ⟨hrow, hcells, hsz, hap⟩ := h
  obtain ⟨_, A, c, rfl, hmc, hcm, _, _⟩ := id hrow
  have hnm : ps.length ≤ 9223372036854775807 := Nat.le_trans hmc hcm
  clear hmc hcm
  obtain ⟨E, hEr⟩ : ∃ E, firstErr (ps.map (·.2)) = E := ⟨_, rfl⟩
  rw [hEr]
  go_enter Tryz.func43, Tryz.ntmps43
  go_wp2
  go_loopw [11] (fun i wr => ∃ k : Nat, k ≤ ps.length ∧ i = .int .i64 k ∧ Hid (E = firstErr ((ps.map (·.2)).drop k)) ∧ Ext w wr) (fun i _ => ps.length - (intOf i).toNat)
  case atStart => exact ⟨0, Nat.zero_le _, rfl, hEr.symm, Ext.refl _⟩
  case round =>
    obtain ⟨k, hk, rfl, hf, hx⟩ := hrel
    by_cases hlt : k < ps.length
    · obtain ⟨ad, rfl, hcell⟩ := (hrow.ext hx).at1 k (.pointer (some ps[k].1)) (by rw [List.getElem?_map, List.getElem?_eq_getElem hlt]; rfl)
      have hst := hx.cell (hcells ps[k] (List.getElem_mem hlt)).1
      have hfd := firstErr_drop (l := ps.map (·.2)) (k := k) (by rw [List.length_map]; exact hlt)
      rw [List.getElem_map] at hfd
      have HC := Lib.hid (textCheck_any ps[k].2 wr (hE.ext hx) (by have := hsz ps[k] (List.getElem_mem hlt); unfold maxLen; omega))
      obtain ⟨O, hO⟩ : ∃ O, (checkS ps[k].2).1 = O := ⟨_, rfl⟩
      obtain ⟨K, hK⟩ : ∃ K, (checkS ps[k].2).2 = K := ⟨_, rfl⟩
      obtain ⟨S, hS⟩ : ∃ S, ps[k].2 = S := ⟨_, rfl⟩
      obtain ⟨a, ha⟩ : ∃ a, ps[k].1 = a := ⟨_, rfl⟩
      rw [hK] at hfd
      rw [hO, hK, hS] at HC
      rw [hS, ha] at hst
      rw [ha] at hcell
      have hff := hf.out.trans hfd
      clear hfd hf hO hK hS ha hEr
      by_cases h0 : K = 0
      · subst h0
        rw [if_pos rfl] at hff
        have HF := Lib.hid hff
        clear hff
        go_wp2_with (first | (go_at_call 73; refine (HC.out).mono ?_; rintro e w' ⟨rfl, hx'⟩))
        go_roundw
        case rel => exact ⟨k + 1, hlt, by go_num, HF.out, hx.trans hx'⟩
        case measure => simp [intOf]; omega
      · have hb : ((K : Int) != 0) = true := by simp; omega
        rw [if_neg h0] at hff
        subst hff
        have hfin : (E = 0 ∧ Below w.heap.size (setS w (ps.map fun p => (p.1, collapse p.2))) w) ∨ E ≠ 0 := Or.inr h0
        clear hfin
        have H0 := Lib.hid h0
        clear h0
        go_wp2_with (first | (go_at_call 73; refine (HC.out).mono ?_; rintro e w' ⟨rfl, hx'⟩))
        go_ret
        exact ⟨rfl, Or.inr ⟨H0.out, hx.trans hx'⟩⟩
    · have hke : k = ps.length := by omega
      have hff := hf.out
      rw [List.drop_of_length_le (by rw [List.length_map]; omega)] at hff
      have hff' : E = 0 := hff
      subst hff'
      subst hke
      clear hff hlt hf hEr hk
      obtain ⟨wo, rfl⟩ : ∃ wo : World, wo = wr := ⟨_, rfl⟩
      go_wp2
      go_loopw [28] (fun i w2 => ∃ k : Nat, k ≤ ps.length ∧ i = .int .i64 k ∧ Below w.heap.size (setS w ((ps.take k).map fun p => (p.1, collapse p.2))) w2 ∧ w.heap.size ≤ w2.heap.size) (fun i _ => ps.length - (intOf i).toNat)
      case atStart => exact ⟨0, Nat.zero_le _, rfl, hx, hx.size⟩
      case round =>
        obtain ⟨k, hk, rfl, hb, hz⟩ := hrel
        by_cases hlt : k < ps.length
        · obtain ⟨wk, hwk⟩ : ∃ wk, setS w ((ps.take k).map fun p => (p.1, collapse p.2)) = wk := ⟨_, rfl⟩
          have hzk : wk.heap.size = w.heap.size := by rw [← hwk, setS_size]
          obtain ⟨ad, rfl, hc0⟩ := hrow.at1 k (.pointer (some ps[k].1)) (by rw [List.getElem?_map, List.getElem?_eq_getElem hlt]; rfl)
          have hs0 := hcells ps[k] (List.getElem_mem hlt)
          have hs1 : wk.cell? ps[k].1 = some (.string ps[k].2) := by
            rw [← hwk, setS_other, hs0.1]
            intro p hp
            obtain ⟨q, hq, rfl⟩ := List.mem_map.1 hp
            obtain ⟨j, hj, rfl⟩ := List.mem_take_iff_getElem.1 hq
            exact List.pairwise_iff_getElem.1 hap j k (by omega) hlt (by omega)
          have hf1 : wk.frozen? ps[k].1 = false := by rw [← hwk, setS_frozen]; exact hs0.2
          have hc1 : wk.cell? (ad.add k) = some (.pointer (some ps[k].1)) := by
            rw [← hwk, setS_other, hc0]
            intro p hp e
            obtain ⟨q, hq, rfl⟩ := List.mem_map.1 hp
            have := (hcells q (List.mem_of_mem_take hq)).1
            simp only at e
            rw [e, hc0] at this
            cases this
          have hB : ps[k].1.block < w.heap.size := by have := World.block_lt_of_cell? wk _ hs1; omega
          rw [hwk] at hb
          have hcell := below_cell hb (Nat.le_of_eq hzk) hc1
          have hst := below_cell hb (Nat.le_of_eq hzk) hs1
          have hfz : wr.frozen? ps[k].1 = false := (Below.frozen hb hB).trans hf1
          have HT : Hid (setS w ((ps.take (k + 1)).map fun p => (p.1, collapse p.2)) = wk.setCell ps[k].1 (.string (collapse ps[k].2))) := by
            show _ = _
            rw [List.take_succ_eq_append_getElem hlt, List.map_append, List.map_cons, List.map_nil, setS_snoc, hwk]
          have HC := Lib.hid (collapse_any ps[k].2 wr (by have := hsz ps[k] (List.getElem_mem hlt); omega))
          have HZ := Lib.hid hz
          have HZK := Lib.hid hzk
          clear hz hzk hs0 hs1 hf1 hc1 hc0 hwk
          obtain ⟨a, ha⟩ : ∃ a, ps[k].1 = a := ⟨_, rfl⟩
          obtain ⟨S, hS⟩ : ∃ S, ps[k].2 = S := ⟨_, rfl⟩
          rw [ha] at hcell hst hfz HT hB
          rw [hS] at hst HT HC
          clear ha hS
          go_wp2_with (first | (go_at_call 74; refine (HC.out).mono ?_; rintro e w3 ⟨rfl, hx3⟩; (have hst3 := hx3.cell hst); (have hfz3 := (Below.frozen hx3 (Nat.lt_of_lt_of_le hB HZ.out)).trans hfz)))
          go_roundw
          case rel => exact ⟨k + 1, hlt, by go_num, by rw [HT.out]; exact Ext.setBoth (hb.trans (Below.mono hx3 HZ.out)) _ _, by have := hx3.size; have := HZ.out; simp [World.setCell]; omega⟩
          case measure => simp [intOf]; omega
        · have hke : k = ps.length := by omega
          subst hke
          rw [List.take_of_length_le (Nat.le_refl _)] at hb
          clear hlt hk
          go_wp2
          go_ret
          exact ⟨rfl, hb⟩
end Go.Proofs.YtgecijhgonfldaaGreatDoor
