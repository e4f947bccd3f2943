/- YtgecijhgonfldaaGreatDoor: texts Canon2, EntP, put one behind the other. -/
import Derived.Test.YtgecijhgonfldaaGreatDoorM08
import Derived.Test.YtgecijhgonfldaaGreatDoorM11
/- Plain lists: where the join is a semilattice, the canonical list depends on the set of elements alone. No program in sight. -/
namespace Go.Proofs.YtgecijhgonfldaaGreatDoor
namespace Ord
section
variable {α κ : Type} (O : Ord α κ)

/-- the join is a semilattice on the good elements of one identifier -/
structure Semi (G : α → Prop) : Prop where
  good : ∀ a b, O.id a = O.id b → G a → G b → G (O.op a b)
  comm : ∀ a b, O.id a = O.id b → G a → G b → O.op a b = O.op b a
  assoc : ∀ a b c, O.id a = O.id b → O.id b = O.id c → G a → G b → G c → O.op (O.op a b) c = O.op a (O.op b c)
  idem : ∀ a, G a → O.op a a = a
variable {O}
variable {G : α → Prop}
/-- an upper bound of the elements with an identifier -/
def UB (O : Ord α κ) (G : α → Prop) (l : List α) (k : κ) (u : α) : Prop := G u ∧ O.id u = k ∧ ∀ x ∈ l, O.id x = k → O.op x u = u

theorem Semi.op_id' (_ : O.Semi G) {a b : α} (h : O.id a = O.id b) : O.id (O.op a b) = O.id a := by rw [O.op_id a b h, h]
theorem Semi.le_left (S : O.Semi G) {a b : α} (h : O.id a = O.id b) (ha : G a) (hb : G b) : O.op a (O.op a b) = O.op a b := by
  rw [← S.assoc a a b rfl h ha ha hb, S.idem a ha]
theorem Semi.le_right (S : O.Semi G) {a b : α} (h : O.id a = O.id b) (ha : G a) (hb : G b) : O.op b (O.op a b) = O.op a b := by
  rw [S.comm a b h ha hb, S.le_left h.symm hb ha]
theorem Semi.le_trans (S : O.Semi G) {a b c : α} (h : O.id a = O.id b) (k : O.id b = O.id c) (ha : G a) (hb : G b) (hc : G c) (h1 : O.op a b = b) (h2 : O.op b c = c) : O.op a c = c := by
  rw [← h2, ← S.assoc a b c h k ha hb hc, h1]
theorem Semi.antisymm (S : O.Semi G) {a b : α} (h : O.id a = O.id b) (ha : G a) (hb : G b) (h1 : O.op a b = b) (h2 : O.op b a = a) : a = b := by
  rw [← h2, ← S.comm a b h ha hb, h1]
theorem Semi.fold (S : O.Semi G) (k : κ) : ∀ (t : List α) (x : α), G x → O.id x = k → (∀ y ∈ t, G y ∧ O.id y = k) →
    G (t.foldl O.op x) ∧ O.id (t.foldl O.op x) = k ∧ O.op x (t.foldl O.op x) = t.foldl O.op x ∧ (∀ y ∈ t, O.op y (t.foldl O.op x) = t.foldl O.op x) ∧
    ∀ u, G u → O.id u = k → O.op x u = u → (∀ y ∈ t, O.op y u = u) → O.op (t.foldl O.op x) u = u
  | [], x, hx, hk, _ => ⟨hx, hk, S.idem x hx, by simp, fun u _ _ h _ => h⟩
  | y :: t, x, hx, hk, h => by
    have hy := h y (by simp)
    have hxy : O.id x = O.id y := hk.trans hy.2.symm
    have hz : O.id (O.op x y) = k := by rw [S.op_id' hxy, hk]
    obtain ⟨h1, h2, h3, h4, h5⟩ := Semi.fold S k t (O.op x y) (S.good x y hxy hx hy.1) hz fun z hz => h z (by simp [hz])
    refine ⟨h1, h2, ?_, ?_, ?_⟩
    · exact S.le_trans (hk.trans hz.symm) (hz.trans h2.symm) hx (S.good x y hxy hx hy.1) h1 (S.le_left hxy hx hy.1) h3
    · intro z hz'
      rcases List.mem_cons.1 hz' with e | e
      · subst e; exact S.le_trans (hy.2.trans hz.symm) (hz.trans h2.symm) hy.1 (S.good x z hxy hx hy.1) h1 (S.le_right hxy hx hy.1) h3
      · exact h4 z e
    · intro u hu hku hxu hall
      refine h5 u hu hku ?_ fun z hz => hall z (by simp [hz])
      rw [S.assoc x y u hxy (hy.2.trans hku.symm) hx hy.1 hu, hall y (by simp), hxu]
end
variable {α κ : Type} [DecidableEq κ] {O : Ord α κ} {G : α → Prop}
/-- the joined element is the least upper bound -/
theorem Semi.got_lub (S : O.Semi G) {l : List α} (hl : ∀ x ∈ l, G x) {k : κ} {s : α} (h : O.got l k = some s) : UB O G l k s ∧ ∀ u, UB O G l k u → O.op s u = u := by
  unfold Ord.got at h
  generalize hg : (l.filter fun x => O.id x = k) = g at h
  have hm : ∀ x, x ∈ g ↔ x ∈ l ∧ O.id x = k := by intro x; rw [← hg, List.mem_filter]; simp
  cases g with
  | nil => cases h
  | cons x t =>
    simp only [fold1, Option.some.injEq] at h
    have hx := (hm x).1 (by simp)
    obtain ⟨h1, h2, h3, h4, h5⟩ := S.fold k t x (hl x hx.1) hx.2 fun y hy => have := (hm y).1 (by simp [hy]); ⟨hl y this.1, this.2⟩
    rw [h] at h1 h2 h3 h4 h5
    refine ⟨⟨h1, h2, fun y hy hk => ?_⟩, fun u hu => h5 u hu.1 hu.2.1 (hu.2.2 x hx.1 hx.2) fun y hy => have := (hm y).1 (by simp [hy]); hu.2.2 y this.1 this.2⟩
    rcases List.mem_cons.1 ((hm y).2 ⟨hy, hk⟩) with e | e
    · subst e; exact h3
    · exact h4 y e
theorem got_none_iff (l : List α) (k : κ) : O.got l k = none ↔ ∀ x ∈ l, O.id x ≠ k := by
  unfold Ord.got
  generalize hg : (l.filter fun x => O.id x = k) = g
  cases g with
  | nil =>
    simp only [fold1, true_iff]
    intro x hx e
    have : x ∈ l.filter fun x => decide (O.id x = k) := List.mem_filter.2 ⟨hx, by simpa using e⟩
    rw [hg] at this
    cases this
  | cons y t =>
    simp only [fold1]
    constructor
    · intro h; cases h
    · intro h
      have := List.mem_filter.1 (show y ∈ l.filter fun x => decide (O.id x = k) by rw [hg]; simp)
      exact absurd (by simpa using this.2) (h y this.1)
theorem got_isSome_iff (l : List α) (k : κ) : (∃ s, O.got l k = some s) ↔ ∃ x ∈ l, O.id x = k := by
  rw [← Option.isSome_iff_exists, ← Option.ne_none_iff_isSome, Ne, got_none_iff]
  simp
theorem Semi.got_congr (S : O.Semi G) {l m : List α} (hl : ∀ x ∈ l, G x) (hm : ∀ x ∈ m, G x) (k : κ) (h1 : (∃ x ∈ l, O.id x = k) ↔ ∃ x ∈ m, O.id x = k) (h2 : ∀ u, UB O G l k u ↔ UB O G m k u) : O.got l k = O.got m k := by
  cases hg : O.got l k with
  | none =>
    symm
    rw [got_none_iff] at hg ⊢
    intro x hx e
    obtain ⟨y, hy, hy'⟩ := h1.2 ⟨x, hx, e⟩
    exact hg y hy hy'
  | some s =>
    obtain ⟨t, ht⟩ := (got_isSome_iff m k).2 (h1.1 ((got_isSome_iff l k).1 ⟨s, hg⟩))
    rw [ht]
    have a := S.got_lub hl hg
    have b := S.got_lub hm ht
    rw [S.antisymm (a.1.2.1.trans b.1.2.1.symm) a.1.1 b.1.1 (a.2 t ((h2 t).2 b.1)) (b.2 s ((h2 s).1 a.1))]
theorem canon_of_got {l m : List α} (h : ∀ k, O.got l k = O.got m k) : O.canon l = O.canon m := by
  refine IsCanon.unique O (O.canon_is l) ⟨(O.canon_is m).1, fun x => ?_⟩
  rw [(O.canon_is m).2, h]
theorem got_of_canon {l m : List α} (h : O.canon l = O.canon m) (k : κ) : O.got l k = O.got m k := by
  have key : ∀ (l m : List α), O.canon l = O.canon m → ∀ s, O.got l k = some s → O.got m k = some s := by
    intro l m h s hs
    have hk := O.got_id hs
    have := ((O.canon_is l).2 s).2 (by rw [hk]; exact hs)
    rw [h] at this
    have := ((O.canon_is m).2 s).1 this
    rwa [hk] at this
  cases hg : O.got l k with
  | some s => rw [key l m h s hg]
  | none =>
    cases hm : O.got m k with
    | none => rfl
    | some s => rw [key m l h.symm s hm] at hg; cases hg
theorem got_canon (l : List α) (k : κ) : O.got (O.canon l) k = O.got l k := got_of_canon (O.canon_canon l) k
/-- the same set of elements: the same canonical list -/
theorem Semi.canon_congr (S : O.Semi G) {l m : List α} (hl : ∀ x ∈ l, G x) (h : ∀ x, x ∈ l ↔ x ∈ m) : O.canon l = O.canon m := by
  refine canon_of_got fun k => S.got_congr hl (fun x hx => hl x ((h x).2 hx)) k ?_ fun u => ?_
  · exact ⟨fun ⟨x, hx, e⟩ => ⟨x, (h x).1 hx, e⟩, fun ⟨x, hx, e⟩ => ⟨x, (h x).2 hx, e⟩⟩
  · exact ⟨fun ⟨a, b, c⟩ => ⟨a, b, fun x hx => c x ((h x).2 hx)⟩, fun ⟨a, b, c⟩ => ⟨a, b, fun x hx => c x ((h x).1 hx)⟩⟩
theorem Semi.canon_good (S : O.Semi G) {l : List α} (hl : ∀ x ∈ l, G x) : ∀ x ∈ O.canon l, G x := fun x hx => (S.got_lub hl (((O.canon_is l).2 x).1 hx)).1.1
theorem canon_left (l m : List α) : O.canon (O.canon l ++ m) = O.canon (l ++ m) := by rw [O.canon_append, O.canon_append, O.canon_canon]
theorem Semi.canon_comm (S : O.Semi G) {l m : List α} (hl : ∀ x ∈ l, G x) (hm : ∀ x ∈ m, G x) : O.canon (l ++ m) = O.canon (m ++ l) :=
  S.canon_congr (fun x hx => (List.mem_append.1 hx).elim (hl x) (hm x)) fun x => by simp [or_comm]
theorem Semi.canon_right (S : O.Semi G) {l m : List α} (hl : ∀ x ∈ l, G x) (hm : ∀ x ∈ m, G x) : O.canon (l ++ O.canon m) = O.canon (l ++ m) := by
  rw [S.canon_comm hl (S.canon_good hm), canon_left, S.canon_comm hl hm]
end Ord
end Go.Proofs.YtgecijhgonfldaaGreatDoor
/- Plain data: entries and feeds, their canonical keys, their orders, the later one. No program in sight. -/
namespace Go.Proofs.YtgecijhgonfldaaGreatDoor
open Go
set_option linter.unusedVariables false

theorem quoteL_len (l : List UInt8) : (quoteL l).length ≤ 6 * l.length + 2 := by
  have : (l.flatMap qB).length ≤ 6 * l.length := by
    induction l with
    | nil => simp
    | cons b l ih => rw [List.flatMap_cons, List.length_append, List.length_cons]; have := qB_len b; omega
  unfold quoteL
  rw [List.length_cons, List.length_append]
  simp only [List.length_cons, List.length_nil]
  omega

structure Ent where
  id : ByteArray
  title : ByteArray
  link : ByteArray
  content : ByteArray
  upd : Int
  deriving DecidableEq
structure Fd where
  path : List ByteArray
  id : ByteArray
  title : ByteArray
  link : ByteArray
  upd : Int
  ents : List Ent
  deriving DecidableEq
def eCells (e : Ent) : List Value := [.string e.id, .string e.title, .string e.link, .string e.content, .int .i64 e.upd]
def entJ (e : Ent) : JV := .arr [.str e.id, .str e.title, .str e.link, .str e.content, .int e.upd]
def feedJ (f : Fd) : JV := .arr [.arr (f.path.map .str), .str f.id, .str f.title, .str f.link, .int f.upd]
def entryKey (e : Ent) : ByteArray := (jwrite (entJ e)).1
def feedKey (f : Fd) : ByteArray := (jwrite (feedJ f)).1

/-! ### comparisons -/
def sCmp (x y : ByteArray) : Int := if Op.bytesLess x.toList y.toList then -1 else if x.toList = y.toList then 0 else 1
def iCmp (x y : Int) : Int := if x < y then -1 else if y < x then 1 else 0
def pathCmp : List ByteArray → List ByteArray → Int
  | [], [] => 0
  | [], _ :: _ => -1
  | _ :: _, [] => 1
  | a :: x, b :: y => if sCmp a b = 0 then pathCmp x y else sCmp a b
/-- the order of entries -/
def entCmp (a b : Ent) : Int := if iCmp b.upd a.upd = 0 then sCmp a.id b.id else iCmp b.upd a.upd
/-- the order of feeds -/
def feedCmp (a b : Fd) : Int := if pathCmp a.path b.path = 0 then sCmp a.id b.id else pathCmp a.path b.path

theorem bl_irrefl : ∀ x : List UInt8, Op.bytesLess x x = false
  | [] => rfl
  | a :: x => by simp [Op.bytesLess, bl_irrefl x]
theorem bl_cons (a b : UInt8) (x y : List UInt8) : Op.bytesLess (a :: x) (b :: y) = true ↔ a < b ∨ (a = b ∧ Op.bytesLess x y = true) := by simp [Op.bytesLess]
theorem bl_trans : ∀ x y z : List UInt8, Op.bytesLess x y = true → Op.bytesLess y z = true → Op.bytesLess x z = true
  | [], y, [], _, h => by cases y <;> simp [Op.bytesLess] at h
  | [], _, _ :: _, _, _ => rfl
  | _ :: _, [], _, h, _ => by simp [Op.bytesLess] at h
  | _ :: _, _ :: _, [], _, h => by simp [Op.bytesLess] at h
  | a :: x, b :: y, c :: z, h, k => by
    rw [bl_cons] at h k ⊢
    rcases h with h | ⟨rfl, h⟩ <;> rcases k with k | ⟨rfl, k⟩
    · exact Or.inl (UInt8.lt_trans h k)
    · exact Or.inl h
    · exact Or.inl k
    · exact Or.inr ⟨rfl, bl_trans x y z h k⟩
theorem bl_total : ∀ x y : List UInt8, Op.bytesLess x y = false → Op.bytesLess y x = false → x = y
  | [], [], _, _ => rfl
  | [], _ :: _, h, _ => by simp [Op.bytesLess] at h
  | _ :: _, [], _, h => by simp [Op.bytesLess] at h
  | a :: x, b :: y, h, k => by
    rw [Bool.eq_false_iff, Ne, bl_cons] at h k
    have hab : a = b := by
      rcases Classical.em (a = b) with e | e
      · exact e
      · rcases UInt8.lt_or_lt_of_ne e with e | e
        · exact absurd (Or.inl e) h
        · exact absurd (Or.inl e) k
    subst hab
    refine congrArg (a :: ·) (bl_total x y ?_ ?_)
    · rw [Bool.eq_false_iff]; exact fun e => h (Or.inr ⟨rfl, e⟩)
    · rw [Bool.eq_false_iff]; exact fun e => k (Or.inr ⟨rfl, e⟩)

/-- a comparison: the sign of a total preorder -/
structure IsCmp {α : Type} (c : α → α → Int) : Prop where
  anti : ∀ a b, c b a = - c a b
  trans : ∀ a b d, c a b ≤ 0 → c b d ≤ 0 → c a d ≤ 0
namespace IsCmp
variable {α : Type} {c : α → α → Int} (h : IsCmp c)
include h
theorem self (a : α) : c a a = 0 := by have := h.anti a a; omega
theorem lt_trans (a b d : α) (h1 : c a b < 0) (h2 : c b d < 0) : c a d < 0 := by
  have h3 := h.trans a b d (by omega) (by omega)
  rcases Classical.em (c a d = 0) with e | e
  · have h4 := h.trans d a b (by have := h.anti a d; omega) (by omega)
    have := h.anti b d
    omega
  · omega
theorem zero_left (a b d : α) (h1 : c a b = 0) : c a d ≤ 0 ↔ c b d ≤ 0 :=
  ⟨fun h2 => h.trans b a d (by have := h.anti a b; omega) h2, fun h2 => h.trans a b d (by omega) h2⟩
theorem zero_right (a b d : α) (h1 : c b d = 0) : c a b ≤ 0 ↔ c a d ≤ 0 :=
  ⟨fun h2 => h.trans a b d h2 (by omega), fun h2 => h.trans a d b h2 (by have := h.anti b d; omega)⟩
end IsCmp
theorem IsCmp.lex {α : Type} {c d : α → α → Int} (hc : IsCmp c) (hd : IsCmp d) : IsCmp fun a b => if c a b = 0 then d a b else c a b where
  anti a b := by
    have h1 := hc.anti a b
    have h2 := hd.anti a b
    by_cases h : c a b = 0
    · simp only [h, if_true, show c b a = 0 by omega]; exact h2
    · simp only [if_neg h, if_neg (show ¬ c b a = 0 by omega)]; exact h1
  trans a b e h1 h2 := by
    by_cases h : c a b = 0
    · rw [if_pos h] at h1
      have hl := hc.zero_left a b e h
      have hr := hc.zero_left b a e (by have := hc.anti a b; omega)
      by_cases k : c b e = 0
      · rw [if_pos k] at h2
        have : c a e = 0 := by
          have e1 := hl.2 (by omega)
          have := hc.trans e b a (by have := hc.anti b e; omega) (by have := hc.anti a b; omega)
          have := hc.anti a e
          omega
        rw [if_pos this]; exact hd.trans a b e h1 h2
      · rw [if_neg k] at h2
        by_cases g : c a e = 0
        · have := (hc.zero_right b a e g)
          have e1 := hc.trans e a b (by have := hc.anti a e; omega) (by omega)
          have := hc.anti b e
          omega
        · rw [if_neg g]; exact hl.2 h2
    · rw [if_neg h] at h1
      by_cases k : c b e = 0
      · rw [if_pos k] at h2
        by_cases g : c a e = 0
        · have e1 := hc.trans b e a (by omega) (by have := hc.anti a e; omega)
          have := hc.anti a b
          omega
        · rw [if_neg g]; exact (hc.zero_right a b e k).1 h1
      · rw [if_neg k] at h2
        have := hc.lt_trans a b e (by omega) (by omega)
        rw [if_neg (by omega)]; omega
theorem iCmp_is : IsCmp iCmp where
  anti a b := by unfold iCmp; split <;> split <;> (try split) <;> omega
  trans a b d h1 h2 := by unfold iCmp at *; repeat' split at h1
                          all_goals (repeat' split at h2)
                          all_goals (repeat' split)
                          all_goals omega
theorem sCmp_neg (a b : ByteArray) : sCmp a b < 0 ↔ Op.bytesLess a.toList b.toList = true := by
  unfold sCmp
  split
  · rename_i h; simp [h]
  · rename_i h; split <;> simp_all
theorem sCmp_zero (a b : ByteArray) : sCmp a b = 0 ↔ a.toList = b.toList := by
  unfold sCmp
  split
  · rename_i h
    constructor
    · intro h'; cases h'
    · intro h'; rw [h', bl_irrefl] at h; cases h
  · split <;> simp_all
theorem sCmp_is : IsCmp sCmp where
  anti a b := by
    unfold sCmp
    by_cases h : Op.bytesLess a.toList b.toList = true
    · have hb : ¬ Op.bytesLess b.toList a.toList = true := fun k => by have := bl_trans _ _ _ h k; rw [bl_irrefl] at this; cases this
      have hne : ¬ b.toList = a.toList := fun e => by rw [e, bl_irrefl] at h; cases h
      rw [if_pos h, if_neg hb, if_neg hne]; rfl
    · by_cases k : Op.bytesLess b.toList a.toList = true
      · have hne : ¬ a.toList = b.toList := fun e => by rw [e, bl_irrefl] at k; cases k
        rw [if_pos k, if_neg h, if_neg hne]
      · have e := bl_total a.toList b.toList (by simpa using h) (by simpa using k)
        rw [if_neg h, if_neg k, if_pos e, if_pos e.symm]; rfl
  trans a b d h1 h2 := by
    have key : ∀ x y : ByteArray, sCmp x y ≤ 0 ↔ Op.bytesLess x.toList y.toList = true ∨ x.toList = y.toList := by
      intro x y
      rw [← sCmp_neg, ← sCmp_zero]
      omega
    rw [key] at *
    rcases h1 with h1 | h1
    · rcases h2 with h2 | h2
      · exact Or.inl (bl_trans _ _ _ h1 h2)
      · rw [← h2]; exact Or.inl h1
    · rw [h1]; exact h2
theorem IsCmp.comap {α β : Type} {c : β → β → Int} (h : IsCmp c) (f : α → β) : IsCmp fun a b => c (f a) (f b) := ⟨fun a b => h.anti _ _, fun a b d => h.trans _ _ _⟩
theorem IsCmp.swap {α : Type} {c : α → α → Int} (h : IsCmp c) : IsCmp fun a b => c b a := ⟨fun a b => h.anti _ _, fun a b d h1 h2 => h.trans _ _ _ h2 h1⟩
theorem pathCmp_anti : ∀ a b, pathCmp b a = - pathCmp a b
  | [], [] => rfl
  | [], _ :: _ => rfl
  | _ :: _, [] => rfl
  | a :: x, b :: y => by
    have h1 := sCmp_is.anti a b
    unfold pathCmp
    by_cases h : sCmp a b = 0
    · rw [if_pos h, if_pos (by omega)]; exact pathCmp_anti x y
    · rw [if_neg h, if_neg (by omega)]; exact h1
theorem pathCmp_trans : ∀ a b d, pathCmp a b ≤ 0 → pathCmp b d ≤ 0 → pathCmp a d ≤ 0
  | [], _, [], _, _ => by simp [pathCmp]
  | [], _, _ :: _, _, _ => by simp [pathCmp]
  | _ :: _, [], _, h, _ => by simp [pathCmp] at h
  | _ :: _, _ :: _, [], _, h => by simp [pathCmp] at h
  | a :: x, b :: y, d :: z, h, k => by
    unfold pathCmp at h k ⊢
    by_cases e1 : sCmp a b = 0
    · rw [if_pos e1] at h
      have ea : a.toList = b.toList := (sCmp_zero a b).1 e1
      by_cases e2 : sCmp b d = 0
      · rw [if_pos e2] at k
        have eb : b.toList = d.toList := (sCmp_zero b d).1 e2
        rw [if_pos ((sCmp_zero a d).2 (ea.trans eb))]
        exact pathCmp_trans x y z h k
      · rw [if_neg e2] at k
        have e3 : sCmp a d ≠ 0 := fun e => e2 ((sCmp_zero b d).2 (ea.symm.trans ((sCmp_zero a d).1 e)))
        rw [if_neg e3]
        exact (sCmp_is.zero_left a b d e1).2 k
    · rw [if_neg e1] at h
      by_cases e2 : sCmp b d = 0
      · rw [if_pos e2] at k
        have eb : b.toList = d.toList := (sCmp_zero b d).1 e2
        have e3 : sCmp a d ≠ 0 := fun e => e1 ((sCmp_zero a b).2 (((sCmp_zero a d).1 e).trans eb.symm))
        rw [if_neg e3]
        exact (sCmp_is.zero_right a b d e2).1 h
      · rw [if_neg e2] at k
        have := sCmp_is.lt_trans a b d (by omega) (by omega)
        rw [if_neg (by omega)]; omega
theorem pathCmp_is : IsCmp pathCmp := ⟨pathCmp_anti, pathCmp_trans⟩
theorem toList_inj {a b : ByteArray} (h : a.toList = b.toList) : a = b := by
  rw [ByteArray.toList_eq, ByteArray.toList_eq] at h
  cases a; cases b
  congr
  exact Array.toList_inj.1 h
theorem sCmp_eq {a b : ByteArray} (h : sCmp a b = 0) : a = b := toList_inj ((sCmp_zero a b).1 h)
theorem pathCmp_eq : ∀ {a b : List ByteArray}, pathCmp a b = 0 → a = b
  | [], [], _ => rfl
  | [], _ :: _, h => by simp [pathCmp] at h
  | _ :: _, [], h => by simp [pathCmp] at h
  | a :: x, b :: y, h => by
    unfold pathCmp at h
    by_cases e : sCmp a b = 0
    · rw [if_pos e] at h; rw [sCmp_eq e, pathCmp_eq h]
    · rw [if_neg e] at h; exact absurd h e
theorem entCmp_is : IsCmp entCmp := IsCmp.lex (α := Ent) (c := fun a b => iCmp b.upd a.upd) (d := fun a b => sCmp a.id b.id) ((iCmp_is.comap fun e : Ent => e.upd).swap) (sCmp_is.comap fun e : Ent => e.id)
theorem feedCmp_is : IsCmp feedCmp := IsCmp.lex (α := Fd) (c := fun a b => pathCmp a.path b.path) (d := fun a b => sCmp a.id b.id) (pathCmp_is.comap fun e : Fd => e.path) (sCmp_is.comap fun e : Fd => e.id)
theorem entCmp_id {a b : Ent} (h : entCmp a b = 0) : a.id = b.id := by
  unfold entCmp at h
  split at h
  · exact sCmp_eq h
  · rename_i h'; exact absurd h h'
theorem feedCmp_id {a b : Fd} (h : feedCmp a b = 0) : a.id = b.id := by
  unfold feedCmp at h
  split at h
  · exact sCmp_eq h
  · rename_i h'; exact absurd h h'

/-! ### the later one -/
def laterB (c : Int) (ka kb : ByteArray) : Bool := decide (c < 0) || (decide (c = 0) && Op.bytesLess ka.toList kb.toList)
def lessE (a b : Ent) : Bool := laterB (iCmp a.upd b.upd) (entryKey a) (entryKey b)
def lessF (a b : Fd) : Bool := laterB (iCmp a.upd b.upd) (feedKey a) (feedKey b)
def laterE (a b : Ent) : Ent := if laterB (iCmp a.upd b.upd) (entryKey a) (entryKey b) then b else a
/-- the later one of two feeds, without its entries -/
def laterF (a b : Fd) : Fd := { (if laterB (iCmp a.upd b.upd) (feedKey a) (feedKey b) then b else a) with ents := [] }
theorem laterB_iff (x y : Int) (ka kb : ByteArray) : laterB (iCmp x y) ka kb = true ↔ (if iCmp x y = 0 then sCmp ka kb else iCmp x y) < 0 := by
  unfold laterB
  simp only [Bool.or_eq_true, Bool.and_eq_true, decide_eq_true_eq]
  by_cases h : iCmp x y = 0
  · rw [if_pos h, sCmp_neg]; simp [h]
  · rw [if_neg h]; simp [h]
def ltE (a b : Ent) : Bool := decide (entCmp a b < 0)
def ltF (a b : Fd) : Bool := decide (feedCmp a b < 0)
theorem laterE_id (a b : Ent) (h : a.id = b.id) : (laterE a b).id = b.id := by unfold laterE; split <;> simp [h]
theorem laterF_id (a b : Fd) (h : a.id = b.id) : (laterF a b).id = b.id := by unfold laterF; simp only []; split <;> simp [h]
/-- entries -/
def ordE : Ord Ent ByteArray where
  id := Ent.id
  op := laterE
  lt := ltE
  op_id := laterE_id
  irrefl a := by simp [ltE, entCmp_is.self]
  trans a b c h1 h2 := by simp only [ltE, decide_eq_true_eq] at *; exact entCmp_is.lt_trans a b c h1 h2
  total a b h := by
    simp only [ltE, decide_eq_true_eq]
    have h1 := entCmp_is.anti a b
    have h2 : entCmp a b ≠ 0 := fun e => h (entCmp_id e)
    omega
/-- the join of two feeds -/
def joinF (g f : Fd) : Fd := { laterF g f with ents := f.ents.foldl ordE.put g.ents }
def ordF : Ord Fd ByteArray where
  id := Fd.id
  op := joinF
  lt := ltF
  op_id a b h := laterF_id a b h
  irrefl a := by simp [ltF, feedCmp_is.self]
  trans a b c h1 h2 := by simp only [ltF, decide_eq_true_eq] at *; exact feedCmp_is.lt_trans a b c h1 h2
  total a b h := by
    simp only [ltF, decide_eq_true_eq]
    have h1 := feedCmp_is.anti a b
    have h2 : feedCmp a b ≠ 0 := fun e => h (feedCmp_id e)
    omega
end Go.Proofs.YtgecijhgonfldaaGreatDoor
