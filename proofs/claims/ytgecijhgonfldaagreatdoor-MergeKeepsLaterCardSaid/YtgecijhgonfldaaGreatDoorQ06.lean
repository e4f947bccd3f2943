/- Parts of the proof: contracts and plain laws that the statement needs. -/
import Derived.Test.YtgecijhgonfldaaGreatDoorQ03
import Derived.Test.YtgecijhgonfldaaGreatDoorQ05
import Derived.Test.YtgecijhgonfldaaGreatDoorQ02
namespace Go.Proofs.YtgecijhgonfldaaGreatDoor
namespace Ord
section
variable {α κ : Type} (O : Ord α κ)
structure Semi (G : α → Prop) : Prop where
  good : ∀ a b, O.id a = O.id b → G a → G b → G (O.op a b)
  comm : ∀ a b, O.id a = O.id b → G a → G b → O.op a b = O.op b a
  assoc : ∀ a b c, O.id a = O.id b → O.id b = O.id c → G a → G b → G c → O.op (O.op a b) c = O.op a (O.op b c)
  idem : ∀ a, G a → O.op a a = a
variable {O}
variable {G : α → Prop}
def UB (O : Ord α κ) (G : α → Prop) (l : List α) (k : κ) (u : α) : Prop := G u ∧ O.id u = k ∧ ∀ x ∈ l, O.id x = k → O.op x u = u
theorem Semi.op_id' (_ : O.Semi G) {a b : α} (h : O.id a = O.id b) : O.id (O.op a b) = O.id a := by rw [O.op_id a b h, h]
theorem Semi.le_left (S : O.Semi G) {a b : α} (h : O.id a = O.id b) (ha : G a) (hb : G b) : O.op a (O.op a b) = O.op a b := by
  rw [← S.assoc a a b rfl h ha ha hb, S.idem a ha]
theorem Semi.le_right (S : O.Semi G) {a b : α} (h : O.id a = O.id b) (ha : G a) (hb : G b) : O.op b (O.op a b) = O.op a b := by
  rw [S.comm a b h ha hb, S.le_left h.symm hb ha]
theorem Semi.le_trans (S : O.Semi G) {a b c : α} (h : O.id a = O.id b) (k : O.id b = O.id c) (ha : G a) (hb : G b) (hc : G c) (h1 : O.op a b = b) (h2 : O.op b c = c) : O.op a c = c := by
  rw [← h2, ← S.assoc a b c h k ha hb hc, h1]
theorem Semi.antisymm (S : O.Semi G) {a b : α} (h : O.id a = O.id b) (ha : G a) (hb : G b) (h1 : O.op a b = b) (h2 : O.op b a = a) : a = b := by
  rw [← h2, ← S.comm a b h ha hb, h1]
theorem Semi.fold (S : O.Semi G) (k : κ) : ∀ (t : List α) (x : α), G x → O.id x = k → (∀ y ∈ t, G y ∧ O.id y = k) →
    G (t.foldl O.op x) ∧ O.id (t.foldl O.op x) = k ∧ O.op x (t.foldl O.op x) = t.foldl O.op x ∧ (∀ y ∈ t, O.op y (t.foldl O.op x) = t.foldl O.op x) ∧
    ∀ u, G u → O.id u = k → O.op x u = u → (∀ y ∈ t, O.op y u = u) → O.op (t.foldl O.op x) u = u
  | [], x, hx, hk, _ => ⟨hx, hk, S.idem x hx, by simp, fun u _ _ h _ => h⟩
  | y :: t, x, hx, hk, h => by
    have hy := h y (by simp)
    have hxy : O.id x = O.id y := hk.trans hy.2.symm
    have hz : O.id (O.op x y) = k := by rw [S.op_id' hxy, hk]
    obtain ⟨h1, h2, h3, h4, h5⟩ := Semi.fold S k t (O.op x y) (S.good x y hxy hx hy.1) hz fun z hz => h z (by simp [hz])
    refine ⟨h1, h2, ?_, ?_, ?_⟩
    · exact S.le_trans (hk.trans hz.symm) (hz.trans h2.symm) hx (S.good x y hxy hx hy.1) h1 (S.le_left hxy hx hy.1) h3
    · intro z hz'
      rcases List.mem_cons.1 hz' with e | e
      · subst e; exact S.le_trans (hy.2.trans hz.symm) (hz.trans h2.symm) hy.1 (S.good x z hxy hx hy.1) h1 (S.le_right hxy hx hy.1) h3
      · exact h4 z e
    · intro u hu hku hxu hall
      refine h5 u hu hku ?_ fun z hz => hall z (by simp [hz])
      rw [S.assoc x y u hxy (hy.2.trans hku.symm) hx hy.1 hu, hall y (by simp), hxu]
end
variable {α κ : Type} [DecidableEq κ] {O : Ord α κ} {G : α → Prop}
theorem Semi.got_lub (S : O.Semi G) {l : List α} (hl : ∀ x ∈ l, G x) {k : κ} {s : α} (h : O.got l k = some s) : UB O G l k s ∧ ∀ u, UB O G l k u → O.op s u = u := by
  unfold Ord.got at h
  generalize hg : (l.filter fun x => O.id x = k) = g at h
  have hm : ∀ x, x ∈ g ↔ x ∈ l ∧ O.id x = k := by intro x; rw [← hg, List.mem_filter]; simp
  cases g with
  | nil => cases h
  | cons x t =>
    simp only [fold1, Option.some.injEq] at h
    have hx := (hm x).1 (by simp)
    obtain ⟨h1, h2, h3, h4, h5⟩ := S.fold k t x (hl x hx.1) hx.2 fun y hy => have := (hm y).1 (by simp [hy]); ⟨hl y this.1, this.2⟩
    rw [h] at h1 h2 h3 h4 h5
    refine ⟨⟨h1, h2, fun y hy hk => ?_⟩, fun u hu => h5 u hu.1 hu.2.1 (hu.2.2 x hx.1 hx.2) fun y hy => have := (hm y).1 (by simp [hy]); hu.2.2 y this.1 this.2⟩
    rcases List.mem_cons.1 ((hm y).2 ⟨hy, hk⟩) with e | e
    · subst e; exact h3
    · exact h4 y e
theorem got_none_iff (l : List α) (k : κ) : O.got l k = none ↔ ∀ x ∈ l, O.id x ≠ k := by
  unfold Ord.got
  generalize hg : (l.filter fun x => O.id x = k) = g
  cases g with
  | nil =>
    simp only [fold1, true_iff]
    intro x hx e
    have : x ∈ l.filter fun x => decide (O.id x = k) := List.mem_filter.2 ⟨hx, by simpa using e⟩
    rw [hg] at this
    cases this
  | cons y t =>
    simp only [fold1]
    constructor
    · intro h; cases h
    · intro h
      have := List.mem_filter.1 (show y ∈ l.filter fun x => decide (O.id x = k) by rw [hg]; simp)
      exact absurd (by simpa using this.2) (h y this.1)
theorem got_isSome_iff (l : List α) (k : κ) : (∃ s, O.got l k = some s) ↔ ∃ x ∈ l, O.id x = k := by
  rw [← Option.isSome_iff_exists, ← Option.ne_none_iff_isSome, Ne, got_none_iff]
  simp
theorem Semi.got_congr (S : O.Semi G) {l m : List α} (hl : ∀ x ∈ l, G x) (hm : ∀ x ∈ m, G x) (k : κ) (h1 : (∃ x ∈ l, O.id x = k) ↔ ∃ x ∈ m, O.id x = k) (h2 : ∀ u, UB O G l k u ↔ UB O G m k u) : O.got l k = O.got m k := by
  cases hg : O.got l k with
  | none =>
    symm
    rw [got_none_iff] at hg ⊢
    intro x hx e
    obtain ⟨y, hy, hy'⟩ := h1.2 ⟨x, hx, e⟩
    exact hg y hy hy'
  | some s =>
    obtain ⟨t, ht⟩ := (got_isSome_iff m k).2 (h1.1 ((got_isSome_iff l k).1 ⟨s, hg⟩))
    rw [ht]
    have a := S.got_lub hl hg
    have b := S.got_lub hm ht
    rw [S.antisymm (a.1.2.1.trans b.1.2.1.symm) a.1.1 b.1.1 (a.2 t ((h2 t).2 b.1)) (b.2 s ((h2 s).1 a.1))]
theorem canon_of_got {l m : List α} (h : ∀ k, O.got l k = O.got m k) : O.canon l = O.canon m := by
  refine IsCanon.unique O (O.canon_is l) ⟨(O.canon_is m).1, fun x => ?_⟩
  rw [(O.canon_is m).2, h]
theorem Semi.canon_congr (S : O.Semi G) {l m : List α} (hl : ∀ x ∈ l, G x) (h : ∀ x, x ∈ l ↔ x ∈ m) : O.canon l = O.canon m := by
  refine canon_of_got fun k => S.got_congr hl (fun x hx => hl x ((h x).2 hx)) k ?_ fun u => ?_
  · exact ⟨fun ⟨x, hx, e⟩ => ⟨x, (h x).1 hx, e⟩, fun ⟨x, hx, e⟩ => ⟨x, (h x).2 hx, e⟩⟩
  · exact ⟨fun ⟨a, b, c⟩ => ⟨a, b, fun x hx => c x ((h x).2 hx)⟩, fun ⟨a, b, c⟩ => ⟨a, b, fun x hx => c x ((h x).1 hx)⟩⟩
theorem Semi.canon_good (S : O.Semi G) {l : List α} (hl : ∀ x ∈ l, G x) : ∀ x ∈ O.canon l, G x := fun x hx => (S.got_lub hl (((O.canon_is l).2 x).1 hx)).1.1
theorem canon_left (l m : List α) : O.canon (O.canon l ++ m) = O.canon (l ++ m) := by rw [O.canon_append, O.canon_append, O.canon_canon]
theorem Semi.canon_comm (S : O.Semi G) {l m : List α} (hl : ∀ x ∈ l, G x) (hm : ∀ x ∈ m, G x) : O.canon (l ++ m) = O.canon (m ++ l) :=
  S.canon_congr (fun x hx => (List.mem_append.1 hx).elim (hl x) (hm x)) fun x => by simp [or_comm]
theorem Semi.canon_right (S : O.Semi G) {l m : List α} (hl : ∀ x ∈ l, G x) (hm : ∀ x ∈ m, G x) : O.canon (l ++ O.canon m) = O.canon (l ++ m) := by
  rw [S.canon_comm hl (S.canon_good hm), canon_left, S.canon_comm hl hm]
end Ord
end Go.Proofs.YtgecijhgonfldaaGreatDoor
namespace Go.Proofs.YtgecijhgonfldaaGreatDoor
open Go
set_option linter.unusedVariables false
theorem quoteL_len (l : List UInt8) : (quoteL l).length ≤ 6 * l.length + 2 := by
  have : (l.flatMap qB).length ≤ 6 * l.length := by
    induction l with
    | nil => simp
    | cons b l ih => rw [List.flatMap_cons, List.length_append, List.length_cons]; have := qB_len b; omega
  unfold quoteL
  rw [List.length_cons, List.length_append]
  simp only [List.length_cons, List.length_nil]
  omega
structure Ent where
  id : ByteArray
  title : ByteArray
  link : ByteArray
  content : ByteArray
  upd : Int
  deriving DecidableEq
structure Fd where
  path : List ByteArray
  id : ByteArray
  title : ByteArray
  link : ByteArray
  upd : Int
  ents : List Ent
  deriving DecidableEq
def eCells (e : Ent) : List Value := [.string e.id, .string e.title, .string e.link, .string e.content, .int .i64 e.upd]
def entJ (e : Ent) : JV := .arr [.str e.id, .str e.title, .str e.link, .str e.content, .int e.upd]
def feedJ (f : Fd) : JV := .arr [.arr (f.path.map .str), .str f.id, .str f.title, .str f.link, .int f.upd]
def entryKey (e : Ent) : ByteArray := (jwrite (entJ e)).1
def feedKey (f : Fd) : ByteArray := (jwrite (feedJ f)).1
def sCmp (x y : ByteArray) : Int := if Op.bytesLess x.toList y.toList then -1 else if x.toList = y.toList then 0 else 1
def iCmp (x y : Int) : Int := if x < y then -1 else if y < x then 1 else 0
def pathCmp : List ByteArray → List ByteArray → Int
  | [], [] => 0
  | [], _ :: _ => -1
  | _ :: _, [] => 1
  | a :: x, b :: y => if sCmp a b = 0 then pathCmp x y else sCmp a b
def entCmp (a b : Ent) : Int := if iCmp b.upd a.upd = 0 then sCmp a.id b.id else iCmp b.upd a.upd
def feedCmp (a b : Fd) : Int := if pathCmp a.path b.path = 0 then sCmp a.id b.id else pathCmp a.path b.path
theorem bl_irrefl : ∀ x : List UInt8, Op.bytesLess x x = false
  | [] => rfl
  | a :: x => by simp [Op.bytesLess, bl_irrefl x]
theorem bl_cons (a b : UInt8) (x y : List UInt8) : Op.bytesLess (a :: x) (b :: y) = true ↔ a < b ∨ (a = b ∧ Op.bytesLess x y = true) := by simp [Op.bytesLess]
theorem bl_trans : ∀ x y z : List UInt8, Op.bytesLess x y = true → Op.bytesLess y z = true → Op.bytesLess x z = true
  | [], y, [], _, h => by cases y <;> simp [Op.bytesLess] at h
  | [], _, _ :: _, _, _ => rfl
  | _ :: _, [], _, h, _ => by simp [Op.bytesLess] at h
  | _ :: _, _ :: _, [], _, h => by simp [Op.bytesLess] at h
  | a :: x, b :: y, c :: z, h, k => by
    rw [bl_cons] at h k ⊢
    rcases h with h | ⟨rfl, h⟩ <;> rcases k with k | ⟨rfl, k⟩
    · exact Or.inl (UInt8.lt_trans h k)
    · exact Or.inl h
    · exact Or.inl k
    · exact Or.inr ⟨rfl, bl_trans x y z h k⟩
theorem bl_total : ∀ x y : List UInt8, Op.bytesLess x y = false → Op.bytesLess y x = false → x = y
  | [], [], _, _ => rfl
  | [], _ :: _, h, _ => by simp [Op.bytesLess] at h
  | _ :: _, [], _, h => by simp [Op.bytesLess] at h
  | a :: x, b :: y, h, k => by
    rw [Bool.eq_false_iff, Ne, bl_cons] at h k
    have hab : a = b := by
      rcases Classical.em (a = b) with e | e
      · exact e
      · rcases UInt8.lt_or_lt_of_ne e with e | e
        · exact absurd (Or.inl e) h
        · exact absurd (Or.inl e) k
    subst hab
    refine congrArg (a :: ·) (bl_total x y ?_ ?_)
    · rw [Bool.eq_false_iff]; exact fun e => h (Or.inr ⟨rfl, e⟩)
    · rw [Bool.eq_false_iff]; exact fun e => k (Or.inr ⟨rfl, e⟩)
structure IsCmp {α : Type} (c : α → α → Int) : Prop where
  anti : ∀ a b, c b a = - c a b
  trans : ∀ a b d, c a b ≤ 0 → c b d ≤ 0 → c a d ≤ 0
namespace IsCmp
variable {α : Type} {c : α → α → Int} (h : IsCmp c)
include h
theorem self (a : α) : c a a = 0 := by have := h.anti a a; omega
theorem lt_trans (a b d : α) (h1 : c a b < 0) (h2 : c b d < 0) : c a d < 0 := by
  have h3 := h.trans a b d (by omega) (by omega)
  rcases Classical.em (c a d = 0) with e | e
  · have h4 := h.trans d a b (by have := h.anti a d; omega) (by omega)
    have := h.anti b d
    omega
  · omega
theorem zero_left (a b d : α) (h1 : c a b = 0) : c a d ≤ 0 ↔ c b d ≤ 0 :=
  ⟨fun h2 => h.trans b a d (by have := h.anti a b; omega) h2, fun h2 => h.trans a b d (by omega) h2⟩
theorem zero_right (a b d : α) (h1 : c b d = 0) : c a b ≤ 0 ↔ c a d ≤ 0 :=
  ⟨fun h2 => h.trans a b d h2 (by omega), fun h2 => h.trans a d b h2 (by have := h.anti b d; omega)⟩
end IsCmp
theorem IsCmp.lex {α : Type} {c d : α → α → Int} (hc : IsCmp c) (hd : IsCmp d) : IsCmp fun a b => if c a b = 0 then d a b else c a b where
  anti a b := by
    have h1 := hc.anti a b
    have h2 := hd.anti a b
    by_cases h : c a b = 0
    · simp only [h, if_true, show c b a = 0 by omega]; exact h2
    · simp only [if_neg h, if_neg (show ¬ c b a = 0 by omega)]; exact h1
  trans a b e h1 h2 := by
    by_cases h : c a b = 0
    · rw [if_pos h] at h1
      have hl := hc.zero_left a b e h
      have hr := hc.zero_left b a e (by have := hc.anti a b; omega)
      by_cases k : c b e = 0
      · rw [if_pos k] at h2
        have : c a e = 0 := by
          have e1 := hl.2 (by omega)
          have := hc.trans e b a (by have := hc.anti b e; omega) (by have := hc.anti a b; omega)
          have := hc.anti a e
          omega
        rw [if_pos this]; exact hd.trans a b e h1 h2
      · rw [if_neg k] at h2
        by_cases g : c a e = 0
        · have := (hc.zero_right b a e g)
          have e1 := hc.trans e a b (by have := hc.anti a e; omega) (by omega)
          have := hc.anti b e
          omega
        · rw [if_neg g]; exact hl.2 h2
    · rw [if_neg h] at h1
      by_cases k : c b e = 0
      · rw [if_pos k] at h2
        by_cases g : c a e = 0
        · have e1 := hc.trans b e a (by omega) (by have := hc.anti a e; omega)
          have := hc.anti a b
          omega
        · rw [if_neg g]; exact (hc.zero_right a b e k).1 h1
      · rw [if_neg k] at h2
        have := hc.lt_trans a b e (by omega) (by omega)
        rw [if_neg (by omega)]; omega
theorem iCmp_is : IsCmp iCmp where
  anti a b := by unfold iCmp; split <;> split <;> (try split) <;> omega
  trans a b d h1 h2 := by unfold iCmp at *; repeat' split at h1
                          all_goals (repeat' split at h2)
                          all_goals (repeat' split)
                          all_goals omega
theorem sCmp_neg (a b : ByteArray) : sCmp a b < 0 ↔ Op.bytesLess a.toList b.toList = true := by
  unfold sCmp
  split
  · rename_i h; simp [h]
  · rename_i h; split <;> simp_all
theorem sCmp_zero (a b : ByteArray) : sCmp a b = 0 ↔ a.toList = b.toList := by
  unfold sCmp
  split
  · rename_i h
    constructor
    · intro h'; cases h'
    · intro h'; rw [h', bl_irrefl] at h; cases h
  · split <;> simp_all
theorem sCmp_is : IsCmp sCmp where
  anti a b := by
    unfold sCmp
    by_cases h : Op.bytesLess a.toList b.toList = true
    · have hb : ¬ Op.bytesLess b.toList a.toList = true := fun k => by have := bl_trans _ _ _ h k; rw [bl_irrefl] at this; cases this
      have hne : ¬ b.toList = a.toList := fun e => by rw [e, bl_irrefl] at h; cases h
      rw [if_pos h, if_neg hb, if_neg hne]; rfl
    · by_cases k : Op.bytesLess b.toList a.toList = true
      · have hne : ¬ a.toList = b.toList := fun e => by rw [e, bl_irrefl] at k; cases k
        rw [if_pos k, if_neg h, if_neg hne]
      · have e := bl_total a.toList b.toList (by simpa using h) (by simpa using k)
        rw [if_neg h, if_neg k, if_pos e, if_pos e.symm]; rfl
  trans a b d h1 h2 := by
    have key : ∀ x y : ByteArray, sCmp x y ≤ 0 ↔ Op.bytesLess x.toList y.toList = true ∨ x.toList = y.toList := by
      intro x y
      rw [← sCmp_neg, ← sCmp_zero]
      omega
    rw [key] at *
    rcases h1 with h1 | h1
    · rcases h2 with h2 | h2
      · exact Or.inl (bl_trans _ _ _ h1 h2)
      · rw [← h2]; exact Or.inl h1
    · rw [h1]; exact h2
theorem IsCmp.comap {α β : Type} {c : β → β → Int} (h : IsCmp c) (f : α → β) : IsCmp fun a b => c (f a) (f b) := ⟨fun a b => h.anti _ _, fun a b d => h.trans _ _ _⟩
theorem IsCmp.swap {α : Type} {c : α → α → Int} (h : IsCmp c) : IsCmp fun a b => c b a := ⟨fun a b => h.anti _ _, fun a b d h1 h2 => h.trans _ _ _ h2 h1⟩
theorem pathCmp_anti : ∀ a b, pathCmp b a = - pathCmp a b
  | [], [] => rfl
  | [], _ :: _ => rfl
  | _ :: _, [] => rfl
  | a :: x, b :: y => by
    have h1 := sCmp_is.anti a b
    unfold pathCmp
    by_cases h : sCmp a b = 0
    · rw [if_pos h, if_pos (by omega)]; exact pathCmp_anti x y
    · rw [if_neg h, if_neg (by omega)]; exact h1
theorem pathCmp_trans : ∀ a b d, pathCmp a b ≤ 0 → pathCmp b d ≤ 0 → pathCmp a d ≤ 0
  | [], _, [], _, _ => by simp [pathCmp]
  | [], _, _ :: _, _, _ => by simp [pathCmp]
  | _ :: _, [], _, h, _ => by simp [pathCmp] at h
  | _ :: _, _ :: _, [], _, h => by simp [pathCmp] at h
  | a :: x, b :: y, d :: z, h, k => by
    unfold pathCmp at h k ⊢
    by_cases e1 : sCmp a b = 0
    · rw [if_pos e1] at h
      have ea : a.toList = b.toList := (sCmp_zero a b).1 e1
      by_cases e2 : sCmp b d = 0
      · rw [if_pos e2] at k
        have eb : b.toList = d.toList := (sCmp_zero b d).1 e2
        rw [if_pos ((sCmp_zero a d).2 (ea.trans eb))]
        exact pathCmp_trans x y z h k
      · rw [if_neg e2] at k
        have e3 : sCmp a d ≠ 0 := fun e => e2 ((sCmp_zero b d).2 (ea.symm.trans ((sCmp_zero a d).1 e)))
        rw [if_neg e3]
        exact (sCmp_is.zero_left a b d e1).2 k
    · rw [if_neg e1] at h
      by_cases e2 : sCmp b d = 0
      · rw [if_pos e2] at k
        have eb : b.toList = d.toList := (sCmp_zero b d).1 e2
        have e3 : sCmp a d ≠ 0 := fun e => e1 ((sCmp_zero a b).2 (((sCmp_zero a d).1 e).trans eb.symm))
        rw [if_neg e3]
        exact (sCmp_is.zero_right a b d e2).1 h
      · rw [if_neg e2] at k
        have := sCmp_is.lt_trans a b d (by omega) (by omega)
        rw [if_neg (by omega)]; omega
theorem pathCmp_is : IsCmp pathCmp := ⟨pathCmp_anti, pathCmp_trans⟩
theorem toList_inj {a b : ByteArray} (h : a.toList = b.toList) : a = b := by
  rw [ByteArray.toList_eq, ByteArray.toList_eq] at h
  cases a; cases b
  congr
  exact Array.toList_inj.1 h
theorem sCmp_eq {a b : ByteArray} (h : sCmp a b = 0) : a = b := toList_inj ((sCmp_zero a b).1 h)
theorem pathCmp_eq : ∀ {a b : List ByteArray}, pathCmp a b = 0 → a = b
  | [], [], _ => rfl
  | [], _ :: _, h => by simp [pathCmp] at h
  | _ :: _, [], h => by simp [pathCmp] at h
  | a :: x, b :: y, h => by
    unfold pathCmp at h
    by_cases e : sCmp a b = 0
    · rw [if_pos e] at h; rw [sCmp_eq e, pathCmp_eq h]
    · rw [if_neg e] at h; exact absurd h e
theorem entCmp_is : IsCmp entCmp := IsCmp.lex (α := Ent) (c := fun a b => iCmp b.upd a.upd) (d := fun a b => sCmp a.id b.id) ((iCmp_is.comap fun e : Ent => e.upd).swap) (sCmp_is.comap fun e : Ent => e.id)
theorem feedCmp_is : IsCmp feedCmp := IsCmp.lex (α := Fd) (c := fun a b => pathCmp a.path b.path) (d := fun a b => sCmp a.id b.id) (pathCmp_is.comap fun e : Fd => e.path) (sCmp_is.comap fun e : Fd => e.id)
theorem entCmp_id {a b : Ent} (h : entCmp a b = 0) : a.id = b.id := by
  unfold entCmp at h
  split at h
  · exact sCmp_eq h
  · rename_i h'; exact absurd h h'
theorem feedCmp_id {a b : Fd} (h : feedCmp a b = 0) : a.id = b.id := by
  unfold feedCmp at h
  split at h
  · exact sCmp_eq h
  · rename_i h'; exact absurd h h'
def laterB (c : Int) (ka kb : ByteArray) : Bool := decide (c < 0) || (decide (c = 0) && Op.bytesLess ka.toList kb.toList)
def lessE (a b : Ent) : Bool := laterB (iCmp a.upd b.upd) (entryKey a) (entryKey b)
def lessF (a b : Fd) : Bool := laterB (iCmp a.upd b.upd) (feedKey a) (feedKey b)
def laterE (a b : Ent) : Ent := if laterB (iCmp a.upd b.upd) (entryKey a) (entryKey b) then b else a
def laterF (a b : Fd) : Fd := { (if laterB (iCmp a.upd b.upd) (feedKey a) (feedKey b) then b else a) with ents := [] }
theorem laterB_iff (x y : Int) (ka kb : ByteArray) : laterB (iCmp x y) ka kb = true ↔ (if iCmp x y = 0 then sCmp ka kb else iCmp x y) < 0 := by
  unfold laterB
  simp only [Bool.or_eq_true, Bool.and_eq_true, decide_eq_true_eq]
  by_cases h : iCmp x y = 0
  · rw [if_pos h, sCmp_neg]; simp [h]
  · rw [if_neg h]; simp [h]
def ltE (a b : Ent) : Bool := decide (entCmp a b < 0)
def ltF (a b : Fd) : Bool := decide (feedCmp a b < 0)
theorem laterE_id (a b : Ent) (h : a.id = b.id) : (laterE a b).id = b.id := by unfold laterE; split <;> simp [h]
theorem laterF_id (a b : Fd) (h : a.id = b.id) : (laterF a b).id = b.id := by unfold laterF; simp only []; split <;> simp [h]
def ordE : Ord Ent ByteArray where
  id := Ent.id
  op := laterE
  lt := ltE
  op_id := laterE_id
  irrefl a := by simp [ltE, entCmp_is.self]
  trans a b c h1 h2 := by simp only [ltE, decide_eq_true_eq] at *; exact entCmp_is.lt_trans a b c h1 h2
  total a b h := by
    simp only [ltE, decide_eq_true_eq]
    have h1 := entCmp_is.anti a b
    have h2 : entCmp a b ≠ 0 := fun e => h (entCmp_id e)
    omega
def joinF (g f : Fd) : Fd := { laterF g f with ents := f.ents.foldl ordE.put g.ents }
def ordF : Ord Fd ByteArray where
  id := Fd.id
  op := joinF
  lt := ltF
  op_id a b h := laterF_id a b h
  irrefl a := by simp [ltF, feedCmp_is.self]
  trans a b c h1 h2 := by simp only [ltF, decide_eq_true_eq] at *; exact feedCmp_is.lt_trans a b c h1 h2
  total a b h := by
    simp only [ltF, decide_eq_true_eq]
    have h1 := feedCmp_is.anti a b
    have h2 : feedCmp a b ≠ 0 := fun e => h (feedCmp_id e)
    omega
end Go.Proofs.YtgecijhgonfldaaGreatDoor
namespace Go.Proofs.YtgecijhgonfldaaGreatDoor
open Go
set_option linter.unusedVariables false
theorem qB_prefix_all : ((List.range 256).all fun i => (List.range 256).all fun j => !(qB (UInt8.ofNat i)).isPrefixOf (qB (UInt8.ofNat j)) || i == j) = true := by decide +kernel
theorem qB_prefix (b c : UInt8) (h : qB b <+: qB c) : b = c := by
  have h1 := List.all_eq_true.1 qB_prefix_all b.toNat (List.mem_range.2 b.toNat_lt)
  have h2 := List.all_eq_true.1 h1 c.toNat (List.mem_range.2 c.toNat_lt)
  simp only [UInt8.ofNat_toNat, Bool.or_eq_true, Bool.not_eq_true', beq_iff_eq] at h2
  rcases h2 with h2 | h2
  · rw [List.isPrefixOf_iff_prefix.2 h] at h2; cases h2
  · exact UInt8.toNat_inj.1 h2
theorem qB_split {b c : UInt8} {x y : List UInt8} (h : qB b ++ x = qB c ++ y) : b = c ∧ x = y := by
  have h1 : qB b <+: qB c ++ y := ⟨x, h⟩
  have h2 : qB c <+: qB c ++ y := ⟨y, rfl⟩
  have hbc : b = c := by
    rcases List.prefix_or_prefix_of_prefix h1 h2 with h' | h'
    · exact qB_prefix b c h'
    · exact (qB_prefix c b h').symm
  subst hbc
  exact ⟨rfl, List.append_cancel_left h⟩
theorem qB_head_all : ((List.range 256).all fun i => (qB (UInt8.ofNat i)).head? != some 34 && (qB (UInt8.ofNat i)).head?.isSome) = true := by decide +kernel
theorem qB_head (b : UInt8) (x y : List UInt8) : qB b ++ x ≠ 34 :: y := by
  intro h
  have h1 := List.all_eq_true.1 qB_head_all b.toNat (List.mem_range.2 b.toNat_lt)
  simp only [UInt8.ofNat_toNat, Bool.and_eq_true, bne_iff_ne, ne_eq] at h1
  cases hq : qB b with
  | nil => rw [hq] at h1; simp at h1
  | cons c t =>
    rw [hq] at h h1
    simp only [List.cons_append, List.cons.injEq] at h
    rw [h.1] at h1
    simp at h1
theorem flat_split : ∀ (l m r s : List UInt8), l.flatMap qB ++ 34 :: r = m.flatMap qB ++ 34 :: s → l = m ∧ r = s
  | [], [], r, s, h => by simpa using h
  | [], c :: m, r, s, h => by
    simp only [List.flatMap_nil, List.nil_append, List.flatMap_cons, List.append_assoc] at h
    exact absurd h.symm (qB_head c _ _)
  | b :: l, [], r, s, h => by
    simp only [List.flatMap_nil, List.nil_append, List.flatMap_cons, List.append_assoc] at h
    exact absurd h (qB_head b _ _)
  | b :: l, c :: m, r, s, h => by
    simp only [List.flatMap_cons, List.append_assoc] at h
    obtain ⟨e1, h1⟩ := qB_split h
    obtain ⟨e2, h2⟩ := flat_split l m r s h1
    exact ⟨by rw [e1, e2], h2⟩
theorem quote_split {l m r s : List UInt8} (h : quoteL l ++ r = quoteL m ++ s) : l = m ∧ r = s := by
  unfold quoteL at h
  simp only [List.cons_append, List.append_assoc, List.cons.injEq, true_and, List.nil_append] at h
  exact flat_split l m r s h
theorem quote_cons (l r : List UInt8) : ∃ t, quoteL l ++ r = 34 :: t := ⟨_, rfl⟩
theorem commas_split : ∀ (p q : List (List UInt8)) (r s : List UInt8), commas (p.map quoteL) ++ 93 :: r = commas (q.map quoteL) ++ 93 :: s → p = q ∧ r = s
  | [], [], r, s, h => by simpa [commas] using h
  | [], [a], r, s, h => by
    obtain ⟨t, ht⟩ := quote_cons a (93 :: s)
    simp only [List.map_nil, List.map_cons, commas, List.nil_append, ht] at h
    simp at h
  | [], a :: b :: q, r, s, h => by
    obtain ⟨t, ht⟩ := quote_cons a (44 :: (commas ((b :: q).map quoteL) ++ 93 :: s))
    simp only [List.map_cons] at ht
    simp only [List.map_nil, List.map_cons, commas, List.nil_append, List.append_assoc, List.cons_append] at h
    rw [ht] at h
    simp at h
  | [a], [], r, s, h => by
    obtain ⟨t, ht⟩ := quote_cons a (93 :: r)
    simp only [List.map_nil, List.map_cons, commas, List.nil_append, ht] at h
    simp at h
  | a :: b :: p, [], r, s, h => by
    obtain ⟨t, ht⟩ := quote_cons a (44 :: (commas ((b :: p).map quoteL) ++ 93 :: r))
    simp only [List.map_cons] at ht
    simp only [List.map_nil, List.map_cons, commas, List.nil_append, List.append_assoc, List.cons_append] at h
    rw [ht] at h
    simp at h
  | [a], [b], r, s, h => by
    simp only [List.map_nil, List.map_cons, commas] at h
    obtain ⟨e1, h1⟩ := quote_split h
    simp only [List.cons.injEq, true_and] at h1
    exact ⟨by rw [e1], h1⟩
  | [a], b :: c :: q, r, s, h => by
    simp only [List.map_nil, List.map_cons, commas, List.append_assoc, List.cons_append] at h
    obtain ⟨_, h⟩ := quote_split h
    simp at h
  | a :: c :: p, [b], r, s, h => by
    simp only [List.map_nil, List.map_cons, commas, List.append_assoc, List.cons_append] at h
    obtain ⟨_, h⟩ := quote_split h
    exact absurd (List.cons.inj h).1 (by decide)
  | a :: c :: p, b :: d :: q, r, s, h => by
    simp only [List.map_cons, commas, List.append_assoc, List.cons_append] at h
    obtain ⟨e1, h1⟩ := quote_split h
    simp only [List.cons.injEq, true_and] at h1
    obtain ⟨e, h2⟩ := commas_split (c :: p) (d :: q) r s h1
    exact ⟨by rw [e1, e], h2⟩
def vld (s : ByteArray) : Bool := Lib.validD s.data.toList
def goodE (e : Ent) : Prop := vld e.id = true ∧ vld e.title = true ∧ vld e.link = true ∧ vld e.content = true
def goodH (f : Fd) : Prop := (∀ p ∈ f.path, vld p = true) ∧ vld f.id = true ∧ vld f.title = true ∧ vld f.link = true
theorem str_inj {l m : List UInt8} (h : str l = str m) : l = m := by
  have := congrArg (fun s : ByteArray => s.data.toList) h
  simpa using this
theorem data_inj {a b : ByteArray} (h : a.data.toList = b.data.toList) : a = b := by
  rw [← str_of a, ← str_of b, h]
theorem entryKey_good {e : Ent} (h : goodE e) : entryKey e = str (jtext (entJ e)) := by
  obtain ⟨h1, h2, h3, h4⟩ := h
  unfold vld at h1 h2 h3 h4
  unfold entryKey jwrite
  rw [if_pos]
  unfold entJ
  rw [jvalid_arr]
  simp [jvalid, h1, h2, h3, h4]
theorem feedKey_good {f : Fd} (h : goodH f) : feedKey f = str (jtext (feedJ f)) := by
  obtain ⟨h1, h2, h3, h4⟩ := h
  unfold vld at h1 h2 h3 h4
  unfold feedKey jwrite
  rw [if_pos]
  unfold feedJ
  rw [jvalid_arr]
  simp [jvalid, h2, h3, h4]
  exact h1
theorem jtext_str' (s : ByteArray) : jtext (.str s) = quoteL s.data.toList := by rw [jtext]
theorem jtext_int' (n : Int) : jtext (.int n) = Lib.itoa n := by rw [jtext]
theorem entryKey_inj {a b : Ent} (ha : goodE a) (hb : goodE b) (hu : a.upd = b.upd) (h : entryKey a = entryKey b) : a = b := by
  rw [entryKey_good ha, entryKey_good hb] at h
  have h := str_inj h
  unfold entJ at h
  rw [jtext_arr, jtext_arr] at h
  simp only [List.map_cons, List.map_nil, jtext_str', jtext_int', commas, List.cons.injEq, true_and, List.append_assoc, List.cons_append] at h
  obtain ⟨e1, h⟩ := quote_split h
  simp only [List.cons.injEq, true_and] at h
  obtain ⟨e2, h⟩ := quote_split h
  simp only [List.cons.injEq, true_and] at h
  obtain ⟨e3, h⟩ := quote_split h
  simp only [List.cons.injEq, true_and] at h
  obtain ⟨e4, h⟩ := quote_split h
  cases a; cases b
  simp only at e1 e2 e3 e4 hu
  rw [data_inj e1, data_inj e2, data_inj e3, data_inj e4, hu]
def hdr (f : Fd) : Fd := { f with ents := [] }
theorem feedKey_inj {a b : Fd} (ha : goodH a) (hb : goodH b) (hu : a.upd = b.upd) (h : feedKey a = feedKey b) : hdr a = hdr b := by
  rw [feedKey_good ha, feedKey_good hb] at h
  have h := str_inj h
  unfold feedJ at h
  rw [jtext_arr, jtext_arr] at h
  simp only [List.map_cons, List.map_nil, jtext_str', jtext_int', jtext_arr, List.map_map, commas, List.cons.injEq, true_and, List.append_assoc, List.cons_append] at h
  have hm : ∀ p : List ByteArray, p.map (jtext ∘ JV.str) = (p.map fun s => s.data.toList).map quoteL := by
    intro p; rw [List.map_map]; exact List.map_congr_left fun s _ => jtext_str' s
  rw [hm, hm] at h
  obtain ⟨e0, h⟩ := commas_split _ _ _ _ h
  simp only [List.nil_append, List.cons.injEq, true_and] at h
  obtain ⟨e1, h⟩ := quote_split h
  simp only [List.cons.injEq, true_and] at h
  obtain ⟨e2, h⟩ := quote_split h
  simp only [List.cons.injEq, true_and] at h
  obtain ⟨e3, h⟩ := quote_split h
  have hp : a.path = b.path := List.map_inj_right (f := fun s : ByteArray => s.data.toList) (fun _ _ => data_inj) |>.1 e0
  cases a; cases b
  simp only [hdr] at *
  rw [hp, data_inj e1, data_inj e2, data_inj e3, hu]
def pk {α : Type} (c : α → α → Int) (a b : α) : α := if c a b < 0 then b else a
theorem pk_assoc {α : Type} {c : α → α → Int} (h : IsCmp c) (a b d : α) : pk c (pk c a b) d = pk c a (pk c b d) := by
  unfold pk
  by_cases h1 : c a b < 0 <;> by_cases h2 : c b d < 0
  · simp only [if_pos h1, if_pos h2, if_pos (h.lt_trans a b d h1 h2)]
  · simp only [if_pos h1, if_neg h2]
  · simp only [if_neg h1, if_pos h2]
  · have h3 : ¬ c a d < 0 := by
      have := h.trans d b a (by have := h.anti b d; omega) (by have := h.anti a b; omega)
      have := h.anti a d
      omega
    simp only [if_neg h1, if_neg h2, if_neg h3]
theorem pk_comm {α : Type} {c : α → α → Int} (h : IsCmp c) (a b : α) (he : c a b = 0 → a = b) : pk c a b = pk c b a := by
  have := h.anti a b
  unfold pk
  by_cases h1 : c a b < 0
  · rw [if_pos h1, if_neg (by omega)]
  · by_cases h2 : c b a < 0
    · rw [if_neg h1, if_pos h2]
    · rw [if_neg h1, if_neg h2]; exact he (by omega)
theorem pk_self {α : Type} (c : α → α → Int) (a : α) : pk c a a = a := by unfold pk; split <;> rfl
theorem pk_either {α : Type} (c : α → α → Int) (a b : α) : pk c a b = a ∨ pk c a b = b := by unfold pk; split <;> simp
def keyCmpE (a b : Ent) : Int := if iCmp a.upd b.upd = 0 then sCmp (entryKey a) (entryKey b) else iCmp a.upd b.upd
def keyCmpF (a b : Fd) : Int := if iCmp a.upd b.upd = 0 then sCmp (feedKey a) (feedKey b) else iCmp a.upd b.upd
theorem keyCmpE_is : IsCmp keyCmpE := IsCmp.lex (α := Ent) (c := fun a b => iCmp a.upd b.upd) (d := fun a b => sCmp (entryKey a) (entryKey b)) (iCmp_is.comap fun e : Ent => e.upd) (sCmp_is.comap fun e : Ent => entryKey e)
theorem keyCmpF_is : IsCmp keyCmpF := IsCmp.lex (α := Fd) (c := fun a b => iCmp a.upd b.upd) (d := fun a b => sCmp (feedKey a) (feedKey b)) (iCmp_is.comap fun e : Fd => e.upd) (sCmp_is.comap fun e : Fd => feedKey e)
theorem laterE_pk (a b : Ent) : laterE a b = pk keyCmpE a b := by
  have : laterB (iCmp a.upd b.upd) (entryKey a) (entryKey b) = true ↔ keyCmpE a b < 0 := laterB_iff a.upd b.upd (entryKey a) (entryKey b)
  unfold laterE pk
  by_cases h : laterB (iCmp a.upd b.upd) (entryKey a) (entryKey b) = true
  · rw [if_pos h, if_pos (this.1 h)]
  · rw [if_neg h, if_neg (fun k => h (this.2 k))]
theorem laterF_pk (a b : Fd) : laterF a b = hdr (pk keyCmpF a b) := by
  have : laterB (iCmp a.upd b.upd) (feedKey a) (feedKey b) = true ↔ keyCmpF a b < 0 := laterB_iff a.upd b.upd (feedKey a) (feedKey b)
  show hdr (if laterB (iCmp a.upd b.upd) (feedKey a) (feedKey b) then b else a) = _
  unfold pk
  by_cases h : laterB (iCmp a.upd b.upd) (feedKey a) (feedKey b) = true
  · rw [if_pos h, if_pos (this.1 h)]
  · rw [if_neg h, if_neg (fun k => h (this.2 k))]
theorem iCmp_zero {x y : Int} (h : iCmp x y = 0) : x = y := by
  unfold iCmp at h
  by_cases h1 : x < y
  · rw [if_pos h1] at h; omega
  · rw [if_neg h1] at h
    by_cases h2 : y < x
    · rw [if_pos h2] at h; omega
    · omega
theorem keyCmpE_eq {a b : Ent} (ha : goodE a) (hb : goodE b) (h : keyCmpE a b = 0) : a = b := by
  unfold keyCmpE at h
  split at h
  · rename_i h'; exact entryKey_inj ha hb (iCmp_zero h') (sCmp_eq h)
  · rename_i h'; exact absurd h h'
theorem keyCmpF_eq {a b : Fd} (ha : goodH a) (hb : goodH b) (h : keyCmpF a b = 0) : hdr a = hdr b := by
  unfold keyCmpF at h
  split at h
  · rename_i h'; exact feedKey_inj ha hb (iCmp_zero h') (sCmp_eq h)
  · rename_i h'; exact absurd h h'
theorem semiE : ordE.Semi goodE where
  good a b _ ha hb := by show goodE (laterE a b); rw [laterE_pk]; rcases pk_either keyCmpE a b with h | h <;> rw [h] <;> assumption
  comm a b _ ha hb := by show laterE a b = laterE b a; rw [laterE_pk, laterE_pk]; exact pk_comm keyCmpE_is a b (keyCmpE_eq ha hb)
  assoc a b c _ _ _ _ _ := by show laterE (laterE a b) c = laterE a (laterE b c); simp only [laterE_pk]; exact pk_assoc keyCmpE_is a b c
  idem a _ := by show laterE a a = a; rw [laterE_pk]; exact pk_self _ a
def goodF (f : Fd) : Prop := goodH f ∧ (∀ e ∈ f.ents, goodE e) ∧ ordE.canon f.ents = f.ents
theorem keyCmpF_hdr_left (a b : Fd) : keyCmpF (hdr a) b = keyCmpF a b := rfl
theorem keyCmpF_hdr_right (a b : Fd) : keyCmpF a (hdr b) = keyCmpF a b := rfl
theorem hdr_pk_left (a b : Fd) : hdr (pk keyCmpF (hdr a) b) = hdr (pk keyCmpF a b) := by unfold pk; rw [keyCmpF_hdr_left]; split <;> rfl
theorem hdr_pk_right (a b : Fd) : hdr (pk keyCmpF a (hdr b)) = hdr (pk keyCmpF a b) := by unfold pk; rw [keyCmpF_hdr_right]; split <;> rfl
theorem joinF_ents {a b : Fd} (ha : ordE.canon a.ents = a.ents) : (joinF a b).ents = ordE.canon (a.ents ++ b.ents) := by
  show b.ents.foldl ordE.put a.ents = _
  rw [ordE.canon_append, ha]
theorem joinF_hdr (a b : Fd) : hdr (joinF a b) = hdr (pk keyCmpF a b) := by
  show hdr (laterF a b) = _
  rw [laterF_pk]; rfl
theorem fd_ext {a b : Fd} (h : hdr a = hdr b) (k : a.ents = b.ents) : a = b := by
  cases a; cases b
  simp only [hdr, Fd.mk.injEq] at *
  simp_all
theorem goodH_hdr (f : Fd) : goodH (hdr f) ↔ goodH f := Iff.rfl
theorem goodH_of_hdr {a b : Fd} (h : hdr a = hdr b) (k : goodH b) : goodH a := by rw [← goodH_hdr, h, goodH_hdr]; exact k
theorem semiF : ordF.Semi goodF where
  good a b _ ha hb := by
    show goodF (joinF a b)
    refine ⟨goodH_of_hdr (joinF_hdr a b) ?_, ?_, ?_⟩
    · rcases pk_either keyCmpF a b with h | h <;> rw [h]
      · exact ha.1
      · exact hb.1
    · rw [joinF_ents ha.2.2]
      exact semiE.canon_good fun x hx => (List.mem_append.1 hx).elim (ha.2.1 x) (hb.2.1 x)
    · rw [joinF_ents ha.2.2]; exact ordE.canon_canon _
  comm a b _ ha hb := by
    show joinF a b = joinF b a
    refine fd_ext ?_ ?_
    · rw [joinF_hdr, joinF_hdr]
      have := keyCmpF_is.anti a b
      unfold pk
      by_cases h1 : keyCmpF a b < 0
      · rw [if_pos h1, if_neg (by omega)]
      · by_cases h2 : keyCmpF b a < 0
        · rw [if_neg h1, if_pos h2]
        · rw [if_neg h1, if_neg h2]; exact keyCmpF_eq ha.1 hb.1 (by omega)
    · rw [joinF_ents ha.2.2, joinF_ents hb.2.2]; exact semiE.canon_comm ha.2.1 hb.2.1
  assoc a b c _ _ ha hb hc := by
    show joinF (joinF a b) c = joinF a (joinF b c)
    have hab : ordE.canon (joinF a b).ents = (joinF a b).ents := by rw [joinF_ents ha.2.2]; exact ordE.canon_canon _
    refine fd_ext ?_ ?_
    · rw [joinF_hdr, joinF_hdr, ← hdr_pk_left, joinF_hdr, hdr_pk_left, ← hdr_pk_right a, joinF_hdr, hdr_pk_right]
      rw [pk_assoc keyCmpF_is]
    · rw [joinF_ents hab, joinF_ents ha.2.2, joinF_ents ha.2.2, joinF_ents hb.2.2]
      rw [Ord.canon_left, semiE.canon_right ha.2.1 (fun x hx => (List.mem_append.1 hx).elim (hb.2.1 x) (hc.2.1 x)), List.append_assoc]
  idem a ha := by
    show joinF a a = a
    refine fd_ext ?_ ?_
    · rw [joinF_hdr, pk_self]
    · rw [joinF_ents ha.2.2]
      rw [semiE.canon_congr (m := a.ents) (fun x hx => (List.mem_append.1 hx).elim (ha.2.1 x) (ha.2.1 x)) (by simp)]
      exact ha.2.2
end Go.Proofs.YtgecijhgonfldaaGreatDoor
namespace Go.Proofs.YtgecijhgonfldaaGreatDoor
open Go
set_option linter.unusedVariables false
def scalar (r : Nat) : Prop := r < 55296 ∨ (57344 ≤ r ∧ r ≤ 1114111)
theorem isChar_scalar {r : Nat} (h : isChar r = true) : scalar r := by
  unfold isChar at h
  unfold scalar
  simp only [decide_eq_true_eq] at h
  omega
theorem toNat_ofNat {n : Nat} (h : n < 256) : (UInt8.ofNat n).toNat = n := by simp [Nat.mod_eq_of_lt h]
theorem encN_len {r : Nat} (h : scalar r) : 1 ≤ (encN r).length := by
  unfold scalar at h
  unfold encN
  rw [if_neg (by omega)]
  repeat' split
  all_goals simp
theorem encN_ascii {r : Nat} (h : r < 128) : encN r = [UInt8.ofNat r] := by
  unfold encN; rw [if_neg (by omega), if_pos h]
theorem encN_2 {r : Nat} (h : 128 ≤ r) (k : r < 2048) : encN r = [UInt8.ofNat (192 + r / 64), UInt8.ofNat (128 + r % 64)] := by
  unfold encN; rw [if_neg (by omega), if_neg (by omega), if_pos k]
theorem encN_3 {r : Nat} (hs : scalar r) (h : 2048 ≤ r) (k : r < 65536) : encN r = [UInt8.ofNat (224 + r / 4096), UInt8.ofNat (128 + r / 64 % 64), UInt8.ofNat (128 + r % 64)] := by
  unfold scalar at hs
  unfold encN; rw [if_neg (by omega), if_neg (by omega), if_neg (by omega), if_pos k]
theorem encN_4 {r : Nat} (hs : scalar r) (h : 65536 ≤ r) : encN r = [UInt8.ofNat (240 + r / 262144), UInt8.ofNat (128 + r / 4096 % 64), UInt8.ofNat (128 + r / 64 % 64), UInt8.ofNat (128 + r % 64)] := by
  unfold scalar at hs
  unfold encN; rw [if_neg (by omega), if_neg (by omega), if_neg (by omega), if_neg (by omega)]
theorem dec_of {r m : Nat} {l : List UInt8} (hne : l ≠ []) (h : Lib.decodeN l.length (l.getD 0 0).toNat (l.getD 1 0).toNat (l.getD 2 0).toNat (l.getD 3 0).toNat = (r, m)) (hm : ¬ (r = 65533 ∧ m = 1)) : dec l = (r, m) := by
  unfold dec
  rw [if_neg hne, decodeL_nat, h, if_neg hm]
set_option maxHeartbeats 1000000 in
theorem dec_enc {r : Nat} (h : scalar r) (t : List UInt8) : dec (encN r ++ t) = (r, (encN r).length) := by
  have hs := h
  unfold scalar at h
  by_cases h1 : r < 128
  · rw [encN_ascii h1]
    refine dec_of (by simp) ?_ (by omega)
    have e0 : (([UInt8.ofNat r] ++ t).getD 0 0).toNat = r := toNat_ofNat (by omega)
    rw [e0]
    unfold Lib.decodeN
    rw [if_pos h1]; rfl
  · by_cases h2 : r < 2048
    · rw [encN_2 (by omega) h2]
      refine dec_of (by simp) ?_ (by simp)
      have e0 : (([UInt8.ofNat (192 + r / 64), UInt8.ofNat (128 + r % 64)] ++ t).getD 0 0).toNat = 192 + r / 64 := toNat_ofNat (by omega)
      have e1 : (([UInt8.ofNat (192 + r / 64), UInt8.ofNat (128 + r % 64)] ++ t).getD 1 0).toNat = 128 + r % 64 := toNat_ofNat (by omega)
      have el : ([UInt8.ofNat (192 + r / 64), UInt8.ofNat (128 + r % 64)] ++ t).length = t.length + 2 := rfl
      rw [e0, e1, el]
      unfold Lib.decodeN
      rw [if_neg (by omega), if_pos (by omega), if_pos (by omega), show (192 + r / 64) % 32 * 64 + (128 + r % 64) % 64 = r by omega]; rfl
    · by_cases h3 : r < 65536
      · rw [encN_3 hs (by omega) h3]
        refine dec_of (by simp) ?_ (by simp)
        generalize hl : [UInt8.ofNat (224 + r / 4096), UInt8.ofNat (128 + r / 64 % 64), UInt8.ofNat (128 + r % 64)] = l
        have e0 : ((l ++ t).getD 0 0).toNat = 224 + r / 4096 := by rw [← hl]; exact toNat_ofNat (by omega)
        have e1 : ((l ++ t).getD 1 0).toNat = 128 + r / 64 % 64 := by rw [← hl]; exact toNat_ofNat (by omega)
        have e2 : ((l ++ t).getD 2 0).toNat = 128 + r % 64 := by rw [← hl]; exact toNat_ofNat (by omega)
        have el : (l ++ t).length = t.length + 3 := by rw [← hl]; rfl
        rw [e0, e1, e2, el]
        unfold Lib.decodeN
        rw [if_neg (by omega), if_neg (by omega), if_pos (by omega), if_pos (by omega), show (224 + r / 4096) % 16 * 4096 + (128 + r / 64 % 64) % 64 * 64 + (128 + r % 64) % 64 = r by omega, ← hl]; rfl
      · rw [encN_4 hs (by omega)]
        refine dec_of (by simp) ?_ (by simp)
        generalize hl : [UInt8.ofNat (240 + r / 262144), UInt8.ofNat (128 + r / 4096 % 64), UInt8.ofNat (128 + r / 64 % 64), UInt8.ofNat (128 + r % 64)] = l
        have e0 : ((l ++ t).getD 0 0).toNat = 240 + r / 262144 := by rw [← hl]; exact toNat_ofNat (by omega)
        have e1 : ((l ++ t).getD 1 0).toNat = 128 + r / 4096 % 64 := by rw [← hl]; exact toNat_ofNat (by omega)
        have e2 : ((l ++ t).getD 2 0).toNat = 128 + r / 64 % 64 := by rw [← hl]; exact toNat_ofNat (by omega)
        have e3 : ((l ++ t).getD 3 0).toNat = 128 + r % 64 := by rw [← hl]; exact toNat_ofNat (by omega)
        have el : (l ++ t).length = t.length + 4 := by rw [← hl]; rfl
        rw [e0, e1, e2, e3, el]
        unfold Lib.decodeN
        rw [if_neg (by omega), if_neg (by omega), if_neg (by omega), if_pos (by omega), if_pos (by omega), show (240 + r / 262144) % 8 * 262144 + (128 + r / 4096 % 64) % 64 * 4096 + (128 + r / 64 % 64) % 64 * 64 + (128 + r % 64) % 64 = r by omega, ← hl]; rfl
theorem refFrom_enc : ∀ (k n : Nat) (l : List UInt8) (r m : Nat), refFrom k n l = (r, m) → m ≠ 0 → encN r = l.take m ∧ m ≤ l.length
  | 0, n, l, r, m, h, hm => by simp only [refFrom, Prod.mk.injEq] at h; exact absurd h.2.symm hm
  | k + 1, n, l, r, m, h, hm => by
    unfold refFrom at h
    split at h
    · rename_i h1
      split at h
      · rename_i h2
        simp only [Prod.mk.injEq] at h
        obtain ⟨rfl, rfl⟩ := h
        exact ⟨h2, h1.2⟩
      · exact refFrom_enc k (n + 1) l r m h hm
    · simp only [Prod.mk.injEq] at h; exact absurd h.2.symm hm
theorem dec_split {l : List UInt8} {r m : Nat} (h : dec l = (r, m)) (hm : m ≠ 0) : l = encN r ++ l.drop m := by
  have hl : l ≠ [] := by
    intro e
    rw [e] at h
    simp only [dec, if_true, Prod.mk.injEq] at h
    exact hm h.2.symm
  rw [← refDec_eq l hl] at h
  have := (refFrom_enc 4 1 l r m h hm).1
  rw [this, List.take_append_drop]
def isText (l : List UInt8) : Prop := ∃ rs : List Nat, (∀ r ∈ rs, isChar r = true) ∧ l = rs.flatMap encN
theorem isText_nil : isText [] := ⟨[], by simp, rfl⟩
theorem isText_app {l m : List UInt8} (h : isText l) (k : isText m) : isText (l ++ m) := by
  obtain ⟨rs, h1, rfl⟩ := h
  obtain ⟨ss, h2, rfl⟩ := k
  exact ⟨rs ++ ss, fun r hr => (List.mem_append.1 hr).elim (h1 r) (h2 r), by simp⟩
theorem isText_enc {r : Nat} (h : isChar r = true) : isText (encN r) := ⟨[r], by simpa using h, by simp⟩
theorem isText_of_check : ∀ (n at_ : Nat) (l : List UInt8), l.length ≤ n → (checkGo n at_ l).2 = 0 → isText l
  | 0, _, l, hl, _ => by
    have e : l = [] := List.eq_nil_of_length_eq_zero (by omega)
    rw [e]; exact isText_nil
  | n + 1, at_, l, hl, h => by
    by_cases he : l = []
    · subst he; exact isText_nil
    · rw [check_step n at_ l he] at h
      by_cases h0 : (dec l).2 = 0
      · rw [if_pos h0] at h; simp at h
      · rw [if_neg h0] at h
        by_cases hc : isChar (dec l).1 = false
        · rw [if_pos hc] at h; simp at h
        · rw [if_neg hc] at h
          have hs := dec_split (l := l) (r := (dec l).1) (m := (dec l).2) rfl h0
          rw [hs]
          refine isText_app (isText_enc (by simpa using hc)) (isText_of_check n _ _ ?_ h)
          rw [List.length_drop]; omega
theorem check_text : ∀ (rs : List Nat) (n at_ : Nat), (∀ r ∈ rs, isChar r = true) → (rs.flatMap encN).length ≤ n → (checkGo n at_ (rs.flatMap encN)).2 = 0
  | [], n, at_, _, _ => by rw [List.flatMap_nil, check_nil]
  | r :: rs, n, at_, h, hl => by
    have hr : isChar r = true := h r (by simp)
    have h1 := encN_len (isChar_scalar hr)
    have hd := dec_enc (isChar_scalar hr) (rs.flatMap encN)
    rw [List.flatMap_cons] at hl ⊢
    rw [List.length_append] at hl
    obtain ⟨n, rfl⟩ : ∃ k, n = k + 1 := ⟨n - 1, by omega⟩
    rw [check_step n at_ _ (by intro e; have := congrArg List.length e; rw [List.length_append, List.length_nil] at this; omega), hd]
    rw [if_neg (by simp only []; omega), if_neg (by simp [hr])]
    simp only [List.drop_left]
    exact check_text rs n _ (fun r hr => h r (by simp [hr])) (by omega)
theorem check_iff (l : List UInt8) : (check l).2 = 0 ↔ isText l :=
  ⟨isText_of_check _ _ _ (Nat.le_refl _), fun ⟨rs, h, e⟩ => by subst e; exact check_text rs _ _ h (Nat.le_refl _)⟩
theorem text_valid {l : List UInt8} (h : isText l) : Lib.validD l = true := by
  obtain ⟨rs, h, rfl⟩ := h
  induction rs with
  | nil => rfl
  | cons r rs ih =>
    have hr : isChar r = true := h r (by simp)
    have h1 := encN_len (isChar_scalar hr)
    have hd := dec_enc (isChar_scalar hr) (rs.flatMap encN)
    rw [List.flatMap_cons]
    have hv := valid_at (encN r ++ rs.flatMap encN) 0 (by rw [List.length_append]; omega)
    rw [List.drop_zero, hd, if_neg (by simp only []; omega), Nat.zero_add, List.drop_left] at hv
    rw [hv]
    exact ih fun r hr => h r (by simp [hr])
def Fixed (out : List UInt8) : Prop := ∀ rest, collGo (out ++ rest) [] false = collGo rest out false
theorem collapse_valid {s : ByteArray} (h : validS s = true) : collapse s = s := by
  unfold validS at h
  simp only [Bool.and_eq_true, beq_iff_eq] at h
  rw [← str_of (collapse s), h.2, str_of]
theorem check_valid {s : ByteArray} (h : validS s = true) : (checkS s).2 = 0 := by
  unfold validS at h
  simp only [Bool.and_eq_true, decide_eq_true_eq] at h
  exact h.1
theorem utf8_of_check {s : ByteArray} (h : (checkS s).2 = 0) : Lib.validD s.data.toList = true := text_valid ((check_iff _).1 h)
end Go.Proofs.YtgecijhgonfldaaGreatDoor
