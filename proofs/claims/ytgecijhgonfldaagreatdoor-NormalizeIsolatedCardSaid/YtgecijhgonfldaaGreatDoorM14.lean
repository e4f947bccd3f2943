/- YtgecijhgonfldaaGreatDoor: texts SemiP, TextP2, put one behind the other. -/
import Derived.Test.YtgecijhgonfldaaGreatDoorM06
import Derived.Test.YtgecijhgonfldaaGreatDoorM12
/- Plain data: canonical keys are injective on valid data; the later one is a semilattice's join. No program in sight. -/
namespace Go.Proofs.YtgecijhgonfldaaGreatDoor
open Go
set_option linter.unusedVariables false

/-! ### quoted strings can be told apart -/
theorem qB_prefix_all : ((List.range 256).all fun i => (List.range 256).all fun j => !(qB (UInt8.ofNat i)).isPrefixOf (qB (UInt8.ofNat j)) || i == j) = true := by decide +kernel
theorem qB_prefix (b c : UInt8) (h : qB b <+: qB c) : b = c := by
  have h1 := List.all_eq_true.1 qB_prefix_all b.toNat (List.mem_range.2 b.toNat_lt)
  have h2 := List.all_eq_true.1 h1 c.toNat (List.mem_range.2 c.toNat_lt)
  simp only [UInt8.ofNat_toNat, Bool.or_eq_true, Bool.not_eq_true', beq_iff_eq] at h2
  rcases h2 with h2 | h2
  · rw [List.isPrefixOf_iff_prefix.2 h] at h2; cases h2
  · exact UInt8.toNat_inj.1 h2
theorem qB_split {b c : UInt8} {x y : List UInt8} (h : qB b ++ x = qB c ++ y) : b = c ∧ x = y := by
  have h1 : qB b <+: qB c ++ y := ⟨x, h⟩
  have h2 : qB c <+: qB c ++ y := ⟨y, rfl⟩
  have hbc : b = c := by
    rcases List.prefix_or_prefix_of_prefix h1 h2 with h' | h'
    · exact qB_prefix b c h'
    · exact (qB_prefix c b h').symm
  subst hbc
  exact ⟨rfl, List.append_cancel_left h⟩
theorem qB_head_all : ((List.range 256).all fun i => (qB (UInt8.ofNat i)).head? != some 34 && (qB (UInt8.ofNat i)).head?.isSome) = true := by decide +kernel
theorem qB_head (b : UInt8) (x y : List UInt8) : qB b ++ x ≠ 34 :: y := by
  intro h
  have h1 := List.all_eq_true.1 qB_head_all b.toNat (List.mem_range.2 b.toNat_lt)
  simp only [UInt8.ofNat_toNat, Bool.and_eq_true, bne_iff_ne, ne_eq] at h1
  cases hq : qB b with
  | nil => rw [hq] at h1; simp at h1
  | cons c t =>
    rw [hq] at h h1
    simp only [List.cons_append, List.cons.injEq] at h
    rw [h.1] at h1
    simp at h1
theorem flat_split : ∀ (l m r s : List UInt8), l.flatMap qB ++ 34 :: r = m.flatMap qB ++ 34 :: s → l = m ∧ r = s
  | [], [], r, s, h => by simpa using h
  | [], c :: m, r, s, h => by
    simp only [List.flatMap_nil, List.nil_append, List.flatMap_cons, List.append_assoc] at h
    exact absurd h.symm (qB_head c _ _)
  | b :: l, [], r, s, h => by
    simp only [List.flatMap_nil, List.nil_append, List.flatMap_cons, List.append_assoc] at h
    exact absurd h (qB_head b _ _)
  | b :: l, c :: m, r, s, h => by
    simp only [List.flatMap_cons, List.append_assoc] at h
    obtain ⟨e1, h1⟩ := qB_split h
    obtain ⟨e2, h2⟩ := flat_split l m r s h1
    exact ⟨by rw [e1, e2], h2⟩
theorem quote_split {l m r s : List UInt8} (h : quoteL l ++ r = quoteL m ++ s) : l = m ∧ r = s := by
  unfold quoteL at h
  simp only [List.cons_append, List.append_assoc, List.cons.injEq, true_and, List.nil_append] at h
  exact flat_split l m r s h
theorem quote_cons (l r : List UInt8) : ∃ t, quoteL l ++ r = 34 :: t := ⟨_, rfl⟩
theorem commas_split : ∀ (p q : List (List UInt8)) (r s : List UInt8), commas (p.map quoteL) ++ 93 :: r = commas (q.map quoteL) ++ 93 :: s → p = q ∧ r = s
  | [], [], r, s, h => by simpa [commas] using h
  | [], [a], r, s, h => by
    obtain ⟨t, ht⟩ := quote_cons a (93 :: s)
    simp only [List.map_nil, List.map_cons, commas, List.nil_append, ht] at h
    simp at h
  | [], a :: b :: q, r, s, h => by
    obtain ⟨t, ht⟩ := quote_cons a (44 :: (commas ((b :: q).map quoteL) ++ 93 :: s))
    simp only [List.map_cons] at ht
    simp only [List.map_nil, List.map_cons, commas, List.nil_append, List.append_assoc, List.cons_append] at h
    rw [ht] at h
    simp at h
  | [a], [], r, s, h => by
    obtain ⟨t, ht⟩ := quote_cons a (93 :: r)
    simp only [List.map_nil, List.map_cons, commas, List.nil_append, ht] at h
    simp at h
  | a :: b :: p, [], r, s, h => by
    obtain ⟨t, ht⟩ := quote_cons a (44 :: (commas ((b :: p).map quoteL) ++ 93 :: r))
    simp only [List.map_cons] at ht
    simp only [List.map_nil, List.map_cons, commas, List.nil_append, List.append_assoc, List.cons_append] at h
    rw [ht] at h
    simp at h
  | [a], [b], r, s, h => by
    simp only [List.map_nil, List.map_cons, commas] at h
    obtain ⟨e1, h1⟩ := quote_split h
    simp only [List.cons.injEq, true_and] at h1
    exact ⟨by rw [e1], h1⟩
  | [a], b :: c :: q, r, s, h => by
    simp only [List.map_nil, List.map_cons, commas, List.append_assoc, List.cons_append] at h
    obtain ⟨_, h⟩ := quote_split h
    simp at h
  | a :: c :: p, [b], r, s, h => by
    simp only [List.map_nil, List.map_cons, commas, List.append_assoc, List.cons_append] at h
    obtain ⟨_, h⟩ := quote_split h
    exact absurd (List.cons.inj h).1 (by decide)
  | a :: c :: p, b :: d :: q, r, s, h => by
    simp only [List.map_cons, commas, List.append_assoc, List.cons_append] at h
    obtain ⟨e1, h1⟩ := quote_split h
    simp only [List.cons.injEq, true_and] at h1
    obtain ⟨e, h2⟩ := commas_split (c :: p) (d :: q) r s h1
    exact ⟨by rw [e1, e], h2⟩

/-! ### keys -/
def vld (s : ByteArray) : Bool := Lib.validD s.data.toList
def goodE (e : Ent) : Prop := vld e.id = true ∧ vld e.title = true ∧ vld e.link = true ∧ vld e.content = true
def goodH (f : Fd) : Prop := (∀ p ∈ f.path, vld p = true) ∧ vld f.id = true ∧ vld f.title = true ∧ vld f.link = true
theorem str_inj {l m : List UInt8} (h : str l = str m) : l = m := by
  have := congrArg (fun s : ByteArray => s.data.toList) h
  simpa using this
theorem data_inj {a b : ByteArray} (h : a.data.toList = b.data.toList) : a = b := by
  rw [← str_of a, ← str_of b, h]
theorem entryKey_good {e : Ent} (h : goodE e) : entryKey e = str (jtext (entJ e)) := by
  obtain ⟨h1, h2, h3, h4⟩ := h
  unfold vld at h1 h2 h3 h4
  unfold entryKey jwrite
  rw [if_pos]
  unfold entJ
  rw [jvalid_arr]
  simp [jvalid, h1, h2, h3, h4]
theorem feedKey_good {f : Fd} (h : goodH f) : feedKey f = str (jtext (feedJ f)) := by
  obtain ⟨h1, h2, h3, h4⟩ := h
  unfold vld at h1 h2 h3 h4
  unfold feedKey jwrite
  rw [if_pos]
  unfold feedJ
  rw [jvalid_arr]
  simp [jvalid, h2, h3, h4]
  exact h1
theorem jtext_str' (s : ByteArray) : jtext (.str s) = quoteL s.data.toList := by rw [jtext]
theorem jtext_int' (n : Int) : jtext (.int n) = Lib.itoa n := by rw [jtext]
theorem entryKey_inj {a b : Ent} (ha : goodE a) (hb : goodE b) (hu : a.upd = b.upd) (h : entryKey a = entryKey b) : a = b := by
  rw [entryKey_good ha, entryKey_good hb] at h
  have h := str_inj h
  unfold entJ at h
  rw [jtext_arr, jtext_arr] at h
  simp only [List.map_cons, List.map_nil, jtext_str', jtext_int', commas, List.cons.injEq, true_and, List.append_assoc, List.cons_append] at h
  obtain ⟨e1, h⟩ := quote_split h
  simp only [List.cons.injEq, true_and] at h
  obtain ⟨e2, h⟩ := quote_split h
  simp only [List.cons.injEq, true_and] at h
  obtain ⟨e3, h⟩ := quote_split h
  simp only [List.cons.injEq, true_and] at h
  obtain ⟨e4, h⟩ := quote_split h
  cases a; cases b
  simp only at e1 e2 e3 e4 hu
  rw [data_inj e1, data_inj e2, data_inj e3, data_inj e4, hu]
def hdr (f : Fd) : Fd := { f with ents := [] }
theorem feedKey_inj {a b : Fd} (ha : goodH a) (hb : goodH b) (hu : a.upd = b.upd) (h : feedKey a = feedKey b) : hdr a = hdr b := by
  rw [feedKey_good ha, feedKey_good hb] at h
  have h := str_inj h
  unfold feedJ at h
  rw [jtext_arr, jtext_arr] at h
  simp only [List.map_cons, List.map_nil, jtext_str', jtext_int', jtext_arr, List.map_map, commas, List.cons.injEq, true_and, List.append_assoc, List.cons_append] at h
  have hm : ∀ p : List ByteArray, p.map (jtext ∘ JV.str) = (p.map fun s => s.data.toList).map quoteL := by
    intro p; rw [List.map_map]; exact List.map_congr_left fun s _ => jtext_str' s
  rw [hm, hm] at h
  obtain ⟨e0, h⟩ := commas_split _ _ _ _ h
  simp only [List.nil_append, List.cons.injEq, true_and] at h
  obtain ⟨e1, h⟩ := quote_split h
  simp only [List.cons.injEq, true_and] at h
  obtain ⟨e2, h⟩ := quote_split h
  simp only [List.cons.injEq, true_and] at h
  obtain ⟨e3, h⟩ := quote_split h
  have hp : a.path = b.path := List.map_inj_right (f := fun s : ByteArray => s.data.toList) (fun _ _ => data_inj) |>.1 e0
  cases a; cases b
  simp only [hdr] at *
  rw [hp, data_inj e1, data_inj e2, data_inj e3, hu]

/-! ### the later one -/
def pk {α : Type} (c : α → α → Int) (a b : α) : α := if c a b < 0 then b else a
theorem pk_assoc {α : Type} {c : α → α → Int} (h : IsCmp c) (a b d : α) : pk c (pk c a b) d = pk c a (pk c b d) := by
  unfold pk
  by_cases h1 : c a b < 0 <;> by_cases h2 : c b d < 0
  · simp only [if_pos h1, if_pos h2, if_pos (h.lt_trans a b d h1 h2)]
  · simp only [if_pos h1, if_neg h2]
  · simp only [if_neg h1, if_pos h2]
  · have h3 : ¬ c a d < 0 := by
      have := h.trans d b a (by have := h.anti b d; omega) (by have := h.anti a b; omega)
      have := h.anti a d
      omega
    simp only [if_neg h1, if_neg h2, if_neg h3]
theorem pk_comm {α : Type} {c : α → α → Int} (h : IsCmp c) (a b : α) (he : c a b = 0 → a = b) : pk c a b = pk c b a := by
  have := h.anti a b
  unfold pk
  by_cases h1 : c a b < 0
  · rw [if_pos h1, if_neg (by omega)]
  · by_cases h2 : c b a < 0
    · rw [if_neg h1, if_pos h2]
    · rw [if_neg h1, if_neg h2]; exact he (by omega)
theorem pk_self {α : Type} (c : α → α → Int) (a : α) : pk c a a = a := by unfold pk; split <;> rfl
theorem pk_either {α : Type} (c : α → α → Int) (a b : α) : pk c a b = a ∨ pk c a b = b := by unfold pk; split <;> simp
def keyCmpE (a b : Ent) : Int := if iCmp a.upd b.upd = 0 then sCmp (entryKey a) (entryKey b) else iCmp a.upd b.upd
def keyCmpF (a b : Fd) : Int := if iCmp a.upd b.upd = 0 then sCmp (feedKey a) (feedKey b) else iCmp a.upd b.upd
theorem keyCmpE_is : IsCmp keyCmpE := IsCmp.lex (α := Ent) (c := fun a b => iCmp a.upd b.upd) (d := fun a b => sCmp (entryKey a) (entryKey b)) (iCmp_is.comap fun e : Ent => e.upd) (sCmp_is.comap fun e : Ent => entryKey e)
theorem keyCmpF_is : IsCmp keyCmpF := IsCmp.lex (α := Fd) (c := fun a b => iCmp a.upd b.upd) (d := fun a b => sCmp (feedKey a) (feedKey b)) (iCmp_is.comap fun e : Fd => e.upd) (sCmp_is.comap fun e : Fd => feedKey e)
theorem laterE_pk (a b : Ent) : laterE a b = pk keyCmpE a b := by
  have : laterB (iCmp a.upd b.upd) (entryKey a) (entryKey b) = true ↔ keyCmpE a b < 0 := laterB_iff a.upd b.upd (entryKey a) (entryKey b)
  unfold laterE pk
  by_cases h : laterB (iCmp a.upd b.upd) (entryKey a) (entryKey b) = true
  · rw [if_pos h, if_pos (this.1 h)]
  · rw [if_neg h, if_neg (fun k => h (this.2 k))]
theorem laterF_pk (a b : Fd) : laterF a b = hdr (pk keyCmpF a b) := by
  have : laterB (iCmp a.upd b.upd) (feedKey a) (feedKey b) = true ↔ keyCmpF a b < 0 := laterB_iff a.upd b.upd (feedKey a) (feedKey b)
  show hdr (if laterB (iCmp a.upd b.upd) (feedKey a) (feedKey b) then b else a) = _
  unfold pk
  by_cases h : laterB (iCmp a.upd b.upd) (feedKey a) (feedKey b) = true
  · rw [if_pos h, if_pos (this.1 h)]
  · rw [if_neg h, if_neg (fun k => h (this.2 k))]
theorem iCmp_zero {x y : Int} (h : iCmp x y = 0) : x = y := by
  unfold iCmp at h
  by_cases h1 : x < y
  · rw [if_pos h1] at h; omega
  · rw [if_neg h1] at h
    by_cases h2 : y < x
    · rw [if_pos h2] at h; omega
    · omega
theorem keyCmpE_eq {a b : Ent} (ha : goodE a) (hb : goodE b) (h : keyCmpE a b = 0) : a = b := by
  unfold keyCmpE at h
  split at h
  · rename_i h'; exact entryKey_inj ha hb (iCmp_zero h') (sCmp_eq h)
  · rename_i h'; exact absurd h h'
theorem keyCmpF_eq {a b : Fd} (ha : goodH a) (hb : goodH b) (h : keyCmpF a b = 0) : hdr a = hdr b := by
  unfold keyCmpF at h
  split at h
  · rename_i h'; exact feedKey_inj ha hb (iCmp_zero h') (sCmp_eq h)
  · rename_i h'; exact absurd h h'
theorem semiE : ordE.Semi goodE where
  good a b _ ha hb := by show goodE (laterE a b); rw [laterE_pk]; rcases pk_either keyCmpE a b with h | h <;> rw [h] <;> assumption
  comm a b _ ha hb := by show laterE a b = laterE b a; rw [laterE_pk, laterE_pk]; exact pk_comm keyCmpE_is a b (keyCmpE_eq ha hb)
  assoc a b c _ _ _ _ _ := by show laterE (laterE a b) c = laterE a (laterE b c); simp only [laterE_pk]; exact pk_assoc keyCmpE_is a b c
  idem a _ := by show laterE a a = a; rw [laterE_pk]; exact pk_self _ a

/-! ### feeds -/
def goodF (f : Fd) : Prop := goodH f ∧ (∀ e ∈ f.ents, goodE e) ∧ ordE.canon f.ents = f.ents
theorem keyCmpF_hdr_left (a b : Fd) : keyCmpF (hdr a) b = keyCmpF a b := rfl
theorem keyCmpF_hdr_right (a b : Fd) : keyCmpF a (hdr b) = keyCmpF a b := rfl
theorem hdr_pk_left (a b : Fd) : hdr (pk keyCmpF (hdr a) b) = hdr (pk keyCmpF a b) := by unfold pk; rw [keyCmpF_hdr_left]; split <;> rfl
theorem hdr_pk_right (a b : Fd) : hdr (pk keyCmpF a (hdr b)) = hdr (pk keyCmpF a b) := by unfold pk; rw [keyCmpF_hdr_right]; split <;> rfl
theorem joinF_ents {a b : Fd} (ha : ordE.canon a.ents = a.ents) : (joinF a b).ents = ordE.canon (a.ents ++ b.ents) := by
  show b.ents.foldl ordE.put a.ents = _
  rw [ordE.canon_append, ha]
theorem joinF_hdr (a b : Fd) : hdr (joinF a b) = hdr (pk keyCmpF a b) := by
  show hdr (laterF a b) = _
  rw [laterF_pk]; rfl
theorem fd_ext {a b : Fd} (h : hdr a = hdr b) (k : a.ents = b.ents) : a = b := by
  cases a; cases b
  simp only [hdr, Fd.mk.injEq] at *
  simp_all
theorem goodH_hdr (f : Fd) : goodH (hdr f) ↔ goodH f := Iff.rfl
theorem goodH_of_hdr {a b : Fd} (h : hdr a = hdr b) (k : goodH b) : goodH a := by rw [← goodH_hdr, h, goodH_hdr]; exact k
theorem semiF : ordF.Semi goodF where
  good a b _ ha hb := by
    show goodF (joinF a b)
    refine ⟨goodH_of_hdr (joinF_hdr a b) ?_, ?_, ?_⟩
    · rcases pk_either keyCmpF a b with h | h <;> rw [h]
      · exact ha.1
      · exact hb.1
    · rw [joinF_ents ha.2.2]
      exact semiE.canon_good fun x hx => (List.mem_append.1 hx).elim (ha.2.1 x) (hb.2.1 x)
    · rw [joinF_ents ha.2.2]; exact ordE.canon_canon _
  comm a b _ ha hb := by
    show joinF a b = joinF b a
    refine fd_ext ?_ ?_
    · rw [joinF_hdr, joinF_hdr]
      have := keyCmpF_is.anti a b
      unfold pk
      by_cases h1 : keyCmpF a b < 0
      · rw [if_pos h1, if_neg (by omega)]
      · by_cases h2 : keyCmpF b a < 0
        · rw [if_neg h1, if_pos h2]
        · rw [if_neg h1, if_neg h2]; exact keyCmpF_eq ha.1 hb.1 (by omega)
    · rw [joinF_ents ha.2.2, joinF_ents hb.2.2]; exact semiE.canon_comm ha.2.1 hb.2.1
  assoc a b c _ _ ha hb hc := by
    show joinF (joinF a b) c = joinF a (joinF b c)
    have hab : ordE.canon (joinF a b).ents = (joinF a b).ents := by rw [joinF_ents ha.2.2]; exact ordE.canon_canon _
    refine fd_ext ?_ ?_
    · rw [joinF_hdr, joinF_hdr, ← hdr_pk_left, joinF_hdr, hdr_pk_left, ← hdr_pk_right a, joinF_hdr, hdr_pk_right]
      rw [pk_assoc keyCmpF_is]
    · rw [joinF_ents hab, joinF_ents ha.2.2, joinF_ents ha.2.2, joinF_ents hb.2.2]
      rw [Ord.canon_left, semiE.canon_right ha.2.1 (fun x hx => (List.mem_append.1 hx).elim (hb.2.1 x) (hc.2.1 x)), List.append_assoc]
  idem a ha := by
    show joinF a a = a
    refine fd_ext ?_ ?_
    · rw [joinF_hdr, pk_self]
    · rw [joinF_ents ha.2.2]
      rw [semiE.canon_congr (m := a.ents) (fun x hx => (List.mem_append.1 hx).elim (ha.2.1 x) (ha.2.1 x)) (by simp)]
      exact ha.2.2
end Go.Proofs.YtgecijhgonfldaaGreatDoor
/- Plain strings: texts are encoded runes; a collapsed text is a text, and collapsing it changes nothing. No program in sight. -/
namespace Go.Proofs.YtgecijhgonfldaaGreatDoor
open Go
set_option linter.unusedVariables false

/-! ### texts -/
def scalar (r : Nat) : Prop := r < 55296 ∨ (57344 ≤ r ∧ r ≤ 1114111)
theorem isChar_scalar {r : Nat} (h : isChar r = true) : scalar r := by
  unfold isChar at h
  unfold scalar
  simp only [decide_eq_true_eq] at h
  omega
theorem toNat_ofNat {n : Nat} (h : n < 256) : (UInt8.ofNat n).toNat = n := by simp [Nat.mod_eq_of_lt h]
theorem encN_len {r : Nat} (h : scalar r) : 1 ≤ (encN r).length := by
  unfold scalar at h
  unfold encN
  rw [if_neg (by omega)]
  repeat' split
  all_goals simp
theorem encN_ascii {r : Nat} (h : r < 128) : encN r = [UInt8.ofNat r] := by
  unfold encN; rw [if_neg (by omega), if_pos h]
theorem encN_high {r : Nat} (hs : scalar r) (h : 128 ≤ r) : ∀ c ∈ encN r, 128 ≤ c.toNat := by
  unfold scalar at hs
  unfold encN
  rw [if_neg (by omega), if_neg (by omega)]
  intro c hc
  by_cases h2 : r < 2048
  · rw [if_pos h2] at hc
    simp only [List.mem_cons, List.mem_nil_iff, or_false] at hc
    rcases hc with rfl | rfl <;> rw [toNat_ofNat (by omega)] <;> omega
  · rw [if_neg h2] at hc
    by_cases h3 : r < 65536
    · rw [if_pos h3] at hc
      simp only [List.mem_cons, List.mem_nil_iff, or_false] at hc
      rcases hc with rfl | rfl | rfl <;> rw [toNat_ofNat (by omega)] <;> omega
    · rw [if_neg h3] at hc
      simp only [List.mem_cons, List.mem_nil_iff, or_false] at hc
      rcases hc with rfl | rfl | rfl | rfl <;> rw [toNat_ofNat (by omega)] <;> omega
theorem encN_2 {r : Nat} (h : 128 ≤ r) (k : r < 2048) : encN r = [UInt8.ofNat (192 + r / 64), UInt8.ofNat (128 + r % 64)] := by
  unfold encN; rw [if_neg (by omega), if_neg (by omega), if_pos k]
theorem encN_3 {r : Nat} (hs : scalar r) (h : 2048 ≤ r) (k : r < 65536) : encN r = [UInt8.ofNat (224 + r / 4096), UInt8.ofNat (128 + r / 64 % 64), UInt8.ofNat (128 + r % 64)] := by
  unfold scalar at hs
  unfold encN; rw [if_neg (by omega), if_neg (by omega), if_neg (by omega), if_pos k]
theorem encN_4 {r : Nat} (hs : scalar r) (h : 65536 ≤ r) : encN r = [UInt8.ofNat (240 + r / 262144), UInt8.ofNat (128 + r / 4096 % 64), UInt8.ofNat (128 + r / 64 % 64), UInt8.ofNat (128 + r % 64)] := by
  unfold scalar at hs
  unfold encN; rw [if_neg (by omega), if_neg (by omega), if_neg (by omega), if_neg (by omega)]
theorem dec_of {r m : Nat} {l : List UInt8} (hne : l ≠ []) (h : Lib.decodeN l.length (l.getD 0 0).toNat (l.getD 1 0).toNat (l.getD 2 0).toNat (l.getD 3 0).toNat = (r, m)) (hm : ¬ (r = 65533 ∧ m = 1)) : dec l = (r, m) := by
  unfold dec
  rw [if_neg hne, decodeL_nat, h, if_neg hm]
set_option maxHeartbeats 1000000 in
theorem dec_enc {r : Nat} (h : scalar r) (t : List UInt8) : dec (encN r ++ t) = (r, (encN r).length) := by
  have hs := h
  unfold scalar at h
  by_cases h1 : r < 128
  · rw [encN_ascii h1]
    refine dec_of (by simp) ?_ (by omega)
    have e0 : (([UInt8.ofNat r] ++ t).getD 0 0).toNat = r := toNat_ofNat (by omega)
    rw [e0]
    unfold Lib.decodeN
    rw [if_pos h1]; rfl
  · by_cases h2 : r < 2048
    · rw [encN_2 (by omega) h2]
      refine dec_of (by simp) ?_ (by simp)
      have e0 : (([UInt8.ofNat (192 + r / 64), UInt8.ofNat (128 + r % 64)] ++ t).getD 0 0).toNat = 192 + r / 64 := toNat_ofNat (by omega)
      have e1 : (([UInt8.ofNat (192 + r / 64), UInt8.ofNat (128 + r % 64)] ++ t).getD 1 0).toNat = 128 + r % 64 := toNat_ofNat (by omega)
      have el : ([UInt8.ofNat (192 + r / 64), UInt8.ofNat (128 + r % 64)] ++ t).length = t.length + 2 := rfl
      rw [e0, e1, el]
      unfold Lib.decodeN
      rw [if_neg (by omega), if_pos (by omega), if_pos (by omega), show (192 + r / 64) % 32 * 64 + (128 + r % 64) % 64 = r by omega]; rfl
    · by_cases h3 : r < 65536
      · rw [encN_3 hs (by omega) h3]
        refine dec_of (by simp) ?_ (by simp)
        generalize hl : [UInt8.ofNat (224 + r / 4096), UInt8.ofNat (128 + r / 64 % 64), UInt8.ofNat (128 + r % 64)] = l
        have e0 : ((l ++ t).getD 0 0).toNat = 224 + r / 4096 := by rw [← hl]; exact toNat_ofNat (by omega)
        have e1 : ((l ++ t).getD 1 0).toNat = 128 + r / 64 % 64 := by rw [← hl]; exact toNat_ofNat (by omega)
        have e2 : ((l ++ t).getD 2 0).toNat = 128 + r % 64 := by rw [← hl]; exact toNat_ofNat (by omega)
        have el : (l ++ t).length = t.length + 3 := by rw [← hl]; rfl
        rw [e0, e1, e2, el]
        unfold Lib.decodeN
        rw [if_neg (by omega), if_neg (by omega), if_pos (by omega), if_pos (by omega), show (224 + r / 4096) % 16 * 4096 + (128 + r / 64 % 64) % 64 * 64 + (128 + r % 64) % 64 = r by omega, ← hl]; rfl
      · rw [encN_4 hs (by omega)]
        refine dec_of (by simp) ?_ (by simp)
        generalize hl : [UInt8.ofNat (240 + r / 262144), UInt8.ofNat (128 + r / 4096 % 64), UInt8.ofNat (128 + r / 64 % 64), UInt8.ofNat (128 + r % 64)] = l
        have e0 : ((l ++ t).getD 0 0).toNat = 240 + r / 262144 := by rw [← hl]; exact toNat_ofNat (by omega)
        have e1 : ((l ++ t).getD 1 0).toNat = 128 + r / 4096 % 64 := by rw [← hl]; exact toNat_ofNat (by omega)
        have e2 : ((l ++ t).getD 2 0).toNat = 128 + r / 64 % 64 := by rw [← hl]; exact toNat_ofNat (by omega)
        have e3 : ((l ++ t).getD 3 0).toNat = 128 + r % 64 := by rw [← hl]; exact toNat_ofNat (by omega)
        have el : (l ++ t).length = t.length + 4 := by rw [← hl]; rfl
        rw [e0, e1, e2, e3, el]
        unfold Lib.decodeN
        rw [if_neg (by omega), if_neg (by omega), if_neg (by omega), if_pos (by omega), if_pos (by omega), show (240 + r / 262144) % 8 * 262144 + (128 + r / 4096 % 64) % 64 * 4096 + (128 + r / 64 % 64) % 64 * 64 + (128 + r % 64) % 64 = r by omega, ← hl]; rfl
theorem refFrom_enc : ∀ (k n : Nat) (l : List UInt8) (r m : Nat), refFrom k n l = (r, m) → m ≠ 0 → encN r = l.take m ∧ m ≤ l.length
  | 0, n, l, r, m, h, hm => by simp only [refFrom, Prod.mk.injEq] at h; exact absurd h.2.symm hm
  | k + 1, n, l, r, m, h, hm => by
    unfold refFrom at h
    split at h
    · rename_i h1
      split at h
      · rename_i h2
        simp only [Prod.mk.injEq] at h
        obtain ⟨rfl, rfl⟩ := h
        exact ⟨h2, h1.2⟩
      · exact refFrom_enc k (n + 1) l r m h hm
    · simp only [Prod.mk.injEq] at h; exact absurd h.2.symm hm
theorem dec_split {l : List UInt8} {r m : Nat} (h : dec l = (r, m)) (hm : m ≠ 0) : l = encN r ++ l.drop m := by
  have hl : l ≠ [] := by
    intro e
    rw [e] at h
    simp only [dec, if_true, Prod.mk.injEq] at h
    exact hm h.2.symm
  rw [← refDec_eq l hl] at h
  have := (refFrom_enc 4 1 l r m h hm).1
  rw [this, List.take_append_drop]
def isText (l : List UInt8) : Prop := ∃ rs : List Nat, (∀ r ∈ rs, isChar r = true) ∧ l = rs.flatMap encN
theorem isText_nil : isText [] := ⟨[], by simp, rfl⟩
theorem isText_app {l m : List UInt8} (h : isText l) (k : isText m) : isText (l ++ m) := by
  obtain ⟨rs, h1, rfl⟩ := h
  obtain ⟨ss, h2, rfl⟩ := k
  exact ⟨rs ++ ss, fun r hr => (List.mem_append.1 hr).elim (h1 r) (h2 r), by simp⟩
theorem isText_enc {r : Nat} (h : isChar r = true) : isText (encN r) := ⟨[r], by simpa using h, by simp⟩
theorem isText_of_check : ∀ (n at_ : Nat) (l : List UInt8), l.length ≤ n → (checkGo n at_ l).2 = 0 → isText l
  | 0, _, l, hl, _ => by
    have e : l = [] := List.eq_nil_of_length_eq_zero (by omega)
    rw [e]; exact isText_nil
  | n + 1, at_, l, hl, h => by
    by_cases he : l = []
    · subst he; exact isText_nil
    · rw [check_step n at_ l he] at h
      by_cases h0 : (dec l).2 = 0
      · rw [if_pos h0] at h; simp at h
      · rw [if_neg h0] at h
        by_cases hc : isChar (dec l).1 = false
        · rw [if_pos hc] at h; simp at h
        · rw [if_neg hc] at h
          have hs := dec_split (l := l) (r := (dec l).1) (m := (dec l).2) rfl h0
          rw [hs]
          refine isText_app (isText_enc (by simpa using hc)) (isText_of_check n _ _ ?_ h)
          rw [List.length_drop]; omega
theorem check_text : ∀ (rs : List Nat) (n at_ : Nat), (∀ r ∈ rs, isChar r = true) → (rs.flatMap encN).length ≤ n → (checkGo n at_ (rs.flatMap encN)).2 = 0
  | [], n, at_, _, _ => by rw [List.flatMap_nil, check_nil]
  | r :: rs, n, at_, h, hl => by
    have hr : isChar r = true := h r (by simp)
    have h1 := encN_len (isChar_scalar hr)
    have hd := dec_enc (isChar_scalar hr) (rs.flatMap encN)
    rw [List.flatMap_cons] at hl ⊢
    rw [List.length_append] at hl
    obtain ⟨n, rfl⟩ : ∃ k, n = k + 1 := ⟨n - 1, by omega⟩
    rw [check_step n at_ _ (by intro e; have := congrArg List.length e; rw [List.length_append, List.length_nil] at this; omega), hd]
    rw [if_neg (by simp only []; omega), if_neg (by simp [hr])]
    simp only [List.drop_left]
    exact check_text rs n _ (fun r hr => h r (by simp [hr])) (by omega)
theorem check_iff (l : List UInt8) : (check l).2 = 0 ↔ isText l :=
  ⟨isText_of_check _ _ _ (Nat.le_refl _), fun ⟨rs, h, e⟩ => by subst e; exact check_text rs _ _ h (Nat.le_refl _)⟩
theorem text_valid {l : List UInt8} (h : isText l) : Lib.validD l = true := by
  obtain ⟨rs, h, rfl⟩ := h
  induction rs with
  | nil => rfl
  | cons r rs ih =>
    have hr : isChar r = true := h r (by simp)
    have h1 := encN_len (isChar_scalar hr)
    have hd := dec_enc (isChar_scalar hr) (rs.flatMap encN)
    rw [List.flatMap_cons]
    have hv := valid_at (encN r ++ rs.flatMap encN) 0 (by rw [List.length_append]; omega)
    rw [List.drop_zero, hd, if_neg (by simp only []; omega), Nat.zero_add, List.drop_left] at hv
    rw [hv]
    exact ih fun r hr => h r (by simp [hr])

/-! ### collapsed texts -/
theorem isSp_high {c : Nat} (h : 128 ≤ c) : isSp (c : Int) = false := by
  unfold isSp; simp only [decide_eq_false_iff_not]; omega
theorem collGo_run : ∀ (bs rest out : List UInt8) (g : Bool), bs ≠ [] → (∀ c ∈ bs, isSp c.toNat = false) → collGo (bs ++ rest) out g = collGo rest (out ++ (if g then [32] else []) ++ bs) false
  | [], _, _, _, h, _ => absurd rfl h
  | [c], rest, out, g, _, h => by
    show collGo (c :: rest) out g = _
    rw [collGo, if_neg (by simp [h c (by simp)])]
  | c :: d :: bs, rest, out, g, _, h => by
    show collGo (c :: ((d :: bs) ++ rest)) out g = _
    rw [collGo, if_neg (by simp [h c (by simp)]), collGo_run (d :: bs) rest _ false (by simp) fun x hx => h x (by simp only [List.mem_cons] at hx ⊢; exact Or.inr hx)]
    simp
theorem collGo_text : ∀ (rs : List Nat) (out : List UInt8) (g : Bool), (∀ r ∈ rs, isChar r = true) → isText out → isText (collGo (rs.flatMap encN) out g)
  | [], out, g, _, h => by rw [List.flatMap_nil]; exact h
  | r :: rs, out, g, hr, h => by
    have h1 : isChar r = true := hr r (by simp)
    have hs := isChar_scalar h1
    rw [List.flatMap_cons]
    by_cases ha : r < 128 ∧ isSp r = true
    · rw [encN_ascii ha.1]
      show isText (collGo (UInt8.ofNat r :: rs.flatMap encN) out g)
      rw [collGo, if_pos (by rw [toNat_ofNat (by omega)]; exact ha.2)]
      exact collGo_text rs out _ (fun r h' => hr r (by simp [h'])) h
    · have hall : ∀ c ∈ encN r, isSp c.toNat = false := by
        by_cases h2 : r < 128
        · rw [encN_ascii h2]
          intro c hc
          simp only [List.mem_cons, List.mem_nil_iff, or_false] at hc
          subst hc
          rw [toNat_ofNat (by omega)]
          cases hb : isSp (r : Int) with
          | false => rfl
          | true => exact absurd ⟨h2, hb⟩ ha
        · exact fun c hc => isSp_high (encN_high hs (by omega) c hc)
      rw [collGo_run _ _ _ _ (by intro e; have := encN_len hs; rw [e] at this; simp at this) hall]
      refine collGo_text rs _ _ (fun r h' => hr r (by simp [h'])) (isText_app (isText_app h ?_) (isText_enc h1))
      cases g
      · exact isText_nil
      · exact ⟨[32], by simp [isChar], rfl⟩
theorem coll_text {l : List UInt8} (h : isText l) : isText (coll l) := by
  obtain ⟨rs, h, rfl⟩ := h
  exact collGo_text rs [] false h isText_nil
/-- a collapsed list is read back as it is -/
def Fixed (out : List UInt8) : Prop := ∀ rest, collGo (out ++ rest) [] false = collGo rest out false
theorem collGo_fixed : ∀ (l out : List UInt8) (g : Bool), Fixed out → (g = true → out ≠ []) → Fixed (collGo l out g)
  | [], out, g, h, _ => h
  | c :: t, out, g, h, hg => by
    unfold collGo
    by_cases hc : isSp c.toNat = true
    · rw [if_pos hc]
      refine collGo_fixed t out _ h fun e => ?_
      simpa using e
    · rw [if_neg hc]
      refine collGo_fixed t _ false ?_ (by simp)
      intro rest
      cases g with
      | false =>
        simp only [Bool.false_eq_true, if_false, List.append_nil, List.append_assoc, List.cons_append, List.nil_append]
        rw [h, collGo, if_neg hc]
        simp
      | true =>
        have hne : out.isEmpty = false := by simpa using hg rfl
        simp only [if_true, List.append_assoc, List.cons_append, List.nil_append]
        rw [h, collGo, if_pos (by decide), hne, collGo, if_neg hc]
        simp
theorem coll_coll (l : List UInt8) : coll (coll l) = coll l := by
  have h := collGo_fixed l [] false (fun rest => rfl) (by simp) []
  rw [List.append_nil] at h
  exact h
theorem collapse_collapse (s : ByteArray) : collapse (collapse s) = collapse s := by
  unfold collapse; rw [str_list, coll_coll]
theorem checkS_collapse {s : ByteArray} (h : (checkS s).2 = 0) : (checkS (collapse s)).2 = 0 := by
  unfold checkS collapse at *
  rw [str_list, check_iff]
  exact coll_text ((check_iff _).1 h)
theorem valid_collapse {s : ByteArray} (h : (checkS s).2 = 0) : validS (collapse s) = true := by
  unfold validS
  rw [checkS_collapse h, collapse_collapse]
  simp
theorem collapse_valid {s : ByteArray} (h : validS s = true) : collapse s = s := by
  unfold validS at h
  simp only [Bool.and_eq_true, beq_iff_eq] at h
  rw [← str_of (collapse s), h.2, str_of]
theorem check_valid {s : ByteArray} (h : validS s = true) : (checkS s).2 = 0 := by
  unfold validS at h
  simp only [Bool.and_eq_true, decide_eq_true_eq] at h
  exact h.1
theorem utf8_of_check {s : ByteArray} (h : (checkS s).2 = 0) : Lib.validD s.data.toList = true := text_valid ((check_iff _).1 h)
end Go.Proofs.YtgecijhgonfldaaGreatDoor
