/- YtgecijhgonfldaaGreatDoor: texts TextP, Base, Text1, put one behind the other. -/
import Derived.Lib.ValidLaws
import Derived.Lib.DecodeN
import Derived.WalkKit
import Derived.WalkLawsBesides
import Derived.WalkSpells
import Derived.Lib.Hide
import Derived.Lib.LaidTab
import Derived.Deep.Draws
import Derived.Deep.QuietTactic
import Derived.BigQuiet
import Derived.Deep.LoopGhost
import Derived.Deep.DeepMust
import Derived.Deep.DeepFit
import Derived.Shelf.Unicode.DecodeSlow
import Derived.Lib.ItoaMem
import Derived.Test.YtgecijhgonfldaaGreatDoorProg
/- Plain functions on strings: what package text and its reference compute. No program in sight. -/
namespace Go.Proofs.YtgecijhgonfldaaGreatDoor
open Go

/-- white space, as a byte's number -/
def isSp (c : Int) : Bool := decide (c = 32 ∨ c = 9 ∨ c = 10 ∨ c = 13)
/-- an XML character -/
def isChar (r : Int) : Bool := decide (r = 9 ∨ r = 10 ∨ r = 13 ∨ (32 ≤ r ∧ r ≤ 55295) ∨ (57344 ≤ r ∧ r ≤ 65533) ∨ (65536 ≤ r ∧ r ≤ 1114111))

/-- the rune at the head of a list of bytes and its length; (0, 0) where there is none -/
def dec (l : List UInt8) : Nat × Nat :=
  if l = [] then (0, 0) else if (Lib.decodeL l).1 = 65533 ∧ (Lib.decodeL l).2 = 1 then (0, 0) else Lib.decodeL l

/-- the offset and the error of the first byte that is not part of an XML character -/
def checkGo : Nat → Nat → List UInt8 → Nat × Nat
  | 0, at_, _ => (at_, 0)
  | n + 1, at_, l => if l = [] then (at_, 0) else if (dec l).2 = 0 then (at_, 5) else if isChar (dec l).1 = false then (at_, 6) else checkGo n (at_ + (dec l).2) (l.drop (dec l).2)
def check (l : List UInt8) : Nat × Nat := checkGo l.length 0 l

/-- white space collapsed: the bytes written so far, and whether a space is due -/
def collGo : List UInt8 → List UInt8 → Bool → List UInt8
  | [], out, _ => out
  | c :: t, out, gap => if isSp c.toNat then collGo t out (!out.isEmpty) else collGo t (out ++ (if gap then [32] else []) ++ [c]) false
def coll (l : List UInt8) : List UInt8 := collGo l [] false

/-- a string made of bytes -/
def str (l : List UInt8) : ByteArray := ⟨l.toArray⟩
@[simp] theorem str_list (l : List UInt8) : (str l).data.toList = l := by simp [str]
@[simp] theorem str_size (l : List UInt8) : (str l).size = l.length := by simp [str, ByteArray.size]
theorem str_of (s : ByteArray) : str s.data.toList = s := by simp [str]

def collapse (s : ByteArray) : ByteArray := str (coll s.data.toList)
def checkS (s : ByteArray) : Nat × Nat := check s.data.toList
def validS (s : ByteArray) : Bool := decide ((checkS s).2 = 0) && ((collapse s).data.toList == s.data.toList)

theorem decodeL_nat (l : List UInt8) : Lib.decodeL l = Lib.decodeN l.length (l.getD 0 0).toNat (l.getD 1 0).toNat (l.getD 2 0).toNat (l.getD 3 0).toNat := by
  unfold Lib.decodeL
  rw [Lib.decode_at]
  have h : ∀ k, (ByteArray.mk l.toArray).get! k = l.getD k 0 := by
    intro k
    simp [ByteArray.get!, List.getD_eq_getElem?_getD]
    rfl
  simp only [h]
  simp [ByteArray.size]
theorem decodeN_len (n b0 b1 b2 b3 : Nat) (hn : 1 ≤ n) : 1 ≤ (Lib.decodeN n b0 b1 b2 b3).2 ∧ (Lib.decodeN n b0 b1 b2 b3).2 ≤ n := by
  unfold Lib.decodeN
  repeat' split
  all_goals (simp only []; omega)
theorem dec_le (l : List UInt8) : (dec l).2 ≤ l.length := by
  unfold dec
  by_cases h : l = []
  · simp [h]
  · rw [if_neg h]
    have hl : 1 ≤ l.length := List.length_pos_iff.2 h
    split
    · simp
    · rw [decodeL_nat]; exact (decodeN_len _ _ _ _ _ hl).2
theorem check_step (n k : Nat) (l : List UInt8) (hl : l ≠ []) : checkGo (n + 1) k l = if (dec l).2 = 0 then (k, 5) else if isChar (dec l).1 = false then (k, 6) else checkGo n (k + (dec l).2) (l.drop (dec l).2) := by
  simp only [checkGo, if_neg hl]
/-- more fuel than bytes changes nothing -/
theorem checkGo_fuel : ∀ (n m k : Nat) (l : List UInt8), l.length ≤ n → l.length ≤ m → checkGo n k l = checkGo m k l
  | 0, m, k, l, h, _ => by
    have hl : l = [] := List.eq_nil_of_length_eq_zero (by omega)
    subst hl
    cases m <;> simp [checkGo]
  | n + 1, 0, k, l, _, h => by
    have hl : l = [] := List.eq_nil_of_length_eq_zero (by omega)
    subst hl
    simp [checkGo]
  | n + 1, m + 1, k, l, h1, h2 => by
    by_cases hl : l = []
    · subst hl; simp [checkGo]
    · rw [check_step n k l hl, check_step m k l hl]
      by_cases h0 : (dec l).2 = 0
      · rw [if_pos h0, if_pos h0]
      · rw [if_neg h0, if_neg h0]
        by_cases hc : isChar (dec l).1 = false
        · rw [if_pos hc, if_pos hc]
        · rw [if_neg hc, if_neg hc]
          exact checkGo_fuel n m _ _ (by simp; omega) (by simp; omega)
theorem check_nil (n k : Nat) : checkGo n k [] = (k, 0) := by cases n <;> simp [checkGo]
/-- one step of the check at place k of l: what is left to do -/
theorem check_at (l : List UInt8) (k : Nat) (hk : k < l.length) : checkGo l.length k (l.drop k) = if (dec (l.drop k)).2 = 0 then (k, 5) else if isChar (dec (l.drop k)).1 = false then (k, 6) else checkGo l.length (k + (dec (l.drop k)).2) (l.drop (k + (dec (l.drop k)).2)) := by
  have hne : l.drop k ≠ [] := by intro h; have := congrArg List.length h; simp at this; omega
  obtain ⟨n, hn⟩ : ∃ n, l.length = n + 1 := ⟨l.length - 1, by omega⟩
  rw [show checkGo l.length k (l.drop k) = checkGo (n + 1) k (l.drop k) by rw [hn], check_step n k _ hne, List.drop_drop]
  by_cases h0 : (dec (l.drop k)).2 = 0
  · rw [if_pos h0, if_pos h0]
  · rw [if_neg h0, if_neg h0]
    by_cases hc : isChar (dec (l.drop k)).1 = false
    · rw [if_pos hc, if_pos hc]
    · rw [if_neg hc, if_neg hc]
      exact checkGo_fuel _ _ _ _ (by rw [List.length_drop]; omega) (by rw [List.length_drop]; omega)
theorem check_end (l : List UInt8) (k : Nat) (hk : l.length ≤ k) : checkGo l.length k (l.drop k) = (k, 0) := by
  rw [List.drop_of_length_le hk]; exact check_nil _ _
end Go.Proofs.YtgecijhgonfldaaGreatDoor
/- What every walk of this seat uses: worlds that keep old memory, the tables of Go's library as they lie, slices that read as lists. -/
namespace Go.Proofs.YtgecijhgonfldaaGreatDoor
open Go Go.RowKit

/-! ### Worlds that keep what was there -/
def Ext (w w' : World) : Prop := Below w.heap.size w w'
theorem Ext.refl (w : World) : Ext w w := Below.refl _ _
theorem Ext.size {a b : World} (h : Ext a b) : a.heap.size ≤ b.heap.size := Below.size h
theorem Ext.trans {a b c : World} (h : Ext a b) (k : Ext b c) : Ext a c := Below.trans h (Below.mono k h.size)
theorem Ext.drew {a b : World} (h : Ext a b) : Ext a b.drew := Below.drew h
theorem Ext.drewN {a b : World} (h : Ext a b) (n : Nat) : Ext a (b.drewN n) := by
  have h' : Below a.heap.size a b := h
  exact ⟨h'.os, h'.tape, h'.output, h'.size, h'.block⟩
theorem Ext.alloc {a b : World} (h : Ext a b) (o : Obj) : Ext a (b.alloc o) := Below.alloc h h.size o
theorem Ext.setCell {a b : World} (h : Ext a b) {p : Addr} (hp : a.heap.size ≤ p.block) (u : Value) : Ext a (b.setCell p u) := Below.setCell h hp u
theorem Ext.below {a b : World} (h : Ext a b) : Below a.heap.size a b := h
theorem Ext.of {a b : World} (h : Below a.heap.size a b) : Ext a b := h
theorem Ext.le {a b : World} {B : Nat} (h : Below B a b) (hB : a.heap.size ≤ B) : Ext a b := Below.mono h hB
theorem Ext.then {a b c : World} (h : Ext a b) (k : Below a.heap.size b c) : Ext a c := Below.trans h k
theorem Ext.cell {a b : World} (h : Ext a b) {p : Addr} {v : Value} (hc : a.cell? p = some v) : b.cell? p = some v :=
  (Below.cell h (World.block_lt_of_cell? a p hc)).trans hc
theorem Ext.heap {a b : World} (h : Ext a b) {k : Nat} {o : Obj} (hc : a.heap[k]? = some o) : b.heap[k]? = some o :=
  (Below.block h k (Array.getElem?_eq_some_iff.1 hc).1).trans hc
theorem Ext.grown {a b : World} (h : Ext a b) (row : Option Nat) : a.grownBy b row := ⟨h.os, h.tape, h.output, h.size, fun k hk _ => Below.block h k hk⟩
/-- all old cells and marks read as before: for the walk -/
theorem Ext.walk {a b : World} (h : Ext a b) : (∀ k o, k < a.heap.size → b.cell? ⟨k, o, none⟩ = a.cell? ⟨k, o, none⟩) ∧ (∀ k o, k < a.heap.size → b.frozen? ⟨k, o, none⟩ = a.frozen? ⟨k, o, none⟩) :=
  ⟨fun k o hk => Below.cell (p := ⟨k, o, none⟩) h hk, fun k o hk => Below.frozen (p := ⟨k, o, none⟩) h hk⟩

theorem toList_data (s : ByteArray) : s.toList = s.data.toList := ByteArray.toList_eq s
theorem toList_beq (a b : ByteArray) : (a.toList == b.toList) = (a.data.toList == b.data.toList) := by rw [toList_data, toList_data]
theorem bytes_inj {a b : ByteArray} (h : a.data.toList = b.data.toList) : a = b := by
  cases a; cases b
  congr
  exact Array.toList_inj.1 h

theorem ret_int {k : IntKind} {a b : Int} (h : a = b) : Ending.returned (.int k a) = .returned (.int k b) := by rw [h]
theorem ret2_eq {k k' : IntKind} {a b c d : Int} (h : a = b) (h' : c = d) : Ending.returned (.tuple #[.int k a, .int k' c]) = .returned (.tuple #[.int k b, .int k' d]) := by rw [h, h']

/-! ### The tables -/
structure Env (w : World) : Prop where
  utf8 : Lib.Utf8Tabs 0 1 w
  pow : Lib.TabIs Tryz.prog w "internal/strconv.uint64pow10" .u64 Lib.pow10Tab
  size : 6 ≤ w.heap.size
  letters : ∃ t fr, w.heap[3]? = some (.cells #[.int .u8 98, .int .u8 8, .int .u8 102, .int .u8 12, .int .u8 110, .int .u8 10, .int .u8 114, .int .u8 13, .int .u8 116, .int .u8 9] t fr)
theorem gPow : Tryz.prog.globalNamed "internal/strconv.uint64pow10" = some 2 := by kernel_rfl
theorem Env.ext {w w' : World} (hE : Env w) (h : Ext w w') : Env w' := by
  obtain ⟨h1, h2, h3, h4⟩ := hE
  refine ⟨⟨fun c hc => h.cell (h1.1 c hc), fun i hi => ⟨h.cell (h1.2 i hi).1, h.cell (h1.2 i hi).2⟩⟩, ?_, Nat.le_trans h3 h.size, ?_⟩
  · exact var?_below (B := w.heap.size) h gPow (by omega) h2
  · obtain ⟨t, fr, hl⟩ := h4
    exact ⟨t, fr, h.heap hl⟩
theorem Env.drewN {w : World} (hE : Env w) (n : Nat) : Env (w.drewN n) := hE.ext ((Ext.refl w).drewN n)
theorem Env.drew {w : World} (hE : Env w) : Env w.drew := hE.ext (Ext.refl w).drew
theorem Env.alloc {w : World} (hE : Env w) (o : Obj) : Env (w.alloc o) := hE.ext ((Ext.refl w).alloc o)

/-! ### Slices that read as lists of cells -/
theorem block_of_add (a : Addr) (n : Nat) : (a.add n).block = a.block := by unfold Addr.add; split <;> rfl
theorem add_of_add (a : Addr) (i j : Nat) : (a.add i).add j = a.add (i + j) := by
  unfold Addr.add
  by_cases hi : i = 0 <;> by_cases hj : j = 0 <;> simp [hi, hj, Nat.add_assoc]
theorem add_zero (a : Addr) : a.add 0 = a := by unfold Addr.add; simp
/-- A slice value of n elements of 'size' cells each that holds the cells xs. -/
structure RSl (w : World) (size : Nat) (v : Value) (n : Nat) (xs : List Value) : Prop where
  len : xs.length = n * size
  form : ∃ A c, v = .slice A n c ∧ n ≤ c ∧ c ≤ maxLen ∧ (A = none → c = 0) ∧ ∀ j u, xs[j]? = some u → ∃ ad, A = some ad ∧ w.cell? (ad.add j) = some u
theorem RSl.ext {w w' : World} {size n : Nat} {v : Value} {xs : List Value} (h : RSl w size v n xs) (hx : Ext w w') : RSl w' size v n xs := by
  obtain ⟨h1, A, c, e, h2, h3, h4, h5⟩ := h
  exact ⟨h1, A, c, e, h2, h3, h4, fun j u hu => let ⟨ad, ha, hc⟩ := h5 j u hu; ⟨ad, ha, hx.cell hc⟩⟩
theorem RSl.nil (w : World) (size : Nat) : RSl w size (.slice none 0 0) 0 [] := ⟨by simp, none, 0, rfl, Nat.le_refl _, Nat.zero_le _, fun _ => rfl, fun j u hu => by simp at hu⟩
theorem RSl.of_own {w : World} {base size n : Nat} {e : TypeId} {v : Value} {xs : List Value} (h : w.ownsRow base e size v n xs) : RSl w size v n xs := by
  refine ⟨h.1, ?_⟩
  rcases h.2 with ⟨rfl, rfl⟩ | ⟨g, cap, cur, rfl, hb, hg, hn, hm, hs, ht⟩
  · exact ⟨none, 0, rfl, Nat.le_refl _, Nat.zero_le _, fun _ => rfl, fun j u hu => by have := h.1; simp at this; subst this; simp at hu⟩
  · exact ⟨some ⟨g, 0, none⟩, cap, rfl, hn, hm, (fun e => by cases e), fun j u hu => ⟨_, rfl, h.cells (g := g) rfl j u hu⟩⟩
end Go.Proofs.YtgecijhgonfldaaGreatDoor
/- Contracts: small predicates on bytes and runes of package text and its reference. -/
namespace Go.Proofs.YtgecijhgonfldaaGreatDoor
open Go Go.RowKit

theorem validRune_any (r : Int) (w : World) : Calls Tryz.prog 134 #[.int .i32 r] w fun e w' => e = .returned (.bool (decide ((0 ≤ r ∧ r < 55296) ∨ (57343 < r ∧ r ≤ 1114111)))) ∧ w = w' := by
  go_enter Tryz.func134, Tryz.ntmps134
  go_wp2
  all_goals (go_ret; refine ⟨?_, rfl⟩)
  all_goals (refine congrArg (fun b => Ending.returned (.bool b)) (Bool.eq_iff_iff.2 ?_); simp at * <;> omega)

theorem textIsSpace_any (c : Int) (w : World) : Calls Tryz.prog 99 #[.int .u8 c] w fun e w' => e = .returned (.bool (isSp c)) ∧ w = w' := by
  unfold isSp
  go_enter Tryz.func99, Tryz.ntmps99
  go_wp2
  all_goals (go_ret; refine ⟨?_, rfl⟩)
  all_goals (refine congrArg (fun b => Ending.returned (.bool b)) (Bool.eq_iff_iff.2 ?_); simp at * <;> omega)

theorem refIsSpace_any (c : Int) (w : World) : Calls Tryz.prog 76 #[.int .u8 c] w fun e w' => e = .returned (.bool (isSp c)) ∧ w = w' := by
  unfold isSp
  go_enter Tryz.func76, Tryz.ntmps76
  go_wp2
  all_goals (go_ret; refine ⟨?_, rfl⟩)
  all_goals (refine congrArg (fun b => Ending.returned (.bool b)) (Bool.eq_iff_iff.2 ?_); simp at * <;> omega)

theorem textIsChar_any (r : Int) (w : World) : Calls Tryz.prog 98 #[.int .i32 r] w fun e w' => e = .returned (.bool (isChar r)) ∧ w = w' := by
  unfold isChar
  go_enter Tryz.func98, Tryz.ntmps98
  go_wp2
  all_goals (go_ret; refine ⟨?_, rfl⟩)
  all_goals (refine congrArg (fun b => Ending.returned (.bool b)) (Bool.eq_iff_iff.2 ?_); simp at * <;> omega)

theorem refIsChar_any (r : Int) (w : World) : Calls Tryz.prog 104 #[.int .i64 r] w fun e w' => e = .returned (.bool (isChar r)) ∧ w = w' := by
  unfold isChar
  go_enter Tryz.func104, Tryz.ntmps104
  go_wp2
  all_goals (go_ret; refine ⟨?_, rfl⟩)
  all_goals (refine congrArg (fun b => Ending.returned (.bool b)) (Bool.eq_iff_iff.2 ?_); simp at * <;> omega)
end Go.Proofs.YtgecijhgonfldaaGreatDoor
