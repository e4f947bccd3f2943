/- Parts of the proof: contracts and plain laws that the statement needs. -/
import Derived.Test.YtgecijhgonfldaaGreatDoorQ00
import Derived.Laws.BytesArg
import Derived.Deep.RegionWith
namespace Go.Proofs.YtgecijhgonfldaaGreatDoor
open Go Go.RowKit
set_option linter.unusedVariables false
theorem decodeRune_any (s : ByteArray) (w : World) (hE : Env w) : Calls Tryz.prog 133 #[.string s] w fun e w' => e = .returned (.tuple #[.int .i32 (Lib.decodeGo s).1, .int .i64 (Lib.decodeGo s).2]) ∧ Ext w w' :=
  Tryz.utf8_DecodeRuneInString s w hE.utf8
theorem builderLen_t {T : TypeId} (hT : BT T) (B b : Nat) (bs : List Value) (w : World) (h : Lib.IsBuilder T 5 B b bs w) :
    Calls Tryz.prog 100 #[.pointer (some ⟨b, 0, none⟩)] w fun e w' => e = .returned (.int .i64 bs.length) ∧ w' = w := Builder_Len hT B b bs w h
theorem builderWriteByte_t {T : TypeId} (hT : BT T) (B b : Nat) (bs : List Value) (c : Int) (w : World) (h : Lib.IsBuilder T 5 B b bs w) (hlen : bs.length + 1 ≤ 140737488355328) (hBw : B ≤ w.heap.size) :
    Calls Tryz.prog 101 #[.pointer (some ⟨b, 0, none⟩), .int .u8 c] w fun e w' => e = .returned .nilIface ∧ (Lib.IsBuilder T 5 B b (bs ++ [.int .u8 c]) w' ∧ Below B w w') :=
  (Builder_WriteByte hT B b bs c w h hlen hBw).mono fun _ _ ⟨h1, h2, h3⟩ => ⟨h1, Or.inr h2, h3⟩
theorem builderWriteString_t {T : TypeId} (hT : BT T) (B b : Nat) (bs : List Value) (s : ByteArray) (w : World) (h : Lib.IsBuilder T 5 B b bs w) (hlen : bs.length + s.size ≤ 140737488355328) (hBw : B ≤ w.heap.size) :
    Calls Tryz.prog 168 #[.pointer (some ⟨b, 0, none⟩), .string s] w fun e w' => e = .returned (.tuple #[.int .i64 s.size, .nilIface]) ∧ (Lib.IsBuilder T 5 B b (bs ++ Lib.byteCells s.data.toList) w' ∧ Below B w w') :=
  (Builder_WriteString hT B b bs s w h hlen hBw).mono fun _ _ ⟨h1, h2, h3⟩ => ⟨h1, Or.inr h2, h3⟩
theorem builderString_t {T : TypeId} (hT : BT T) (B b : Nat) (l : List UInt8) (w : World) (h : Lib.IsBuilder T 5 B b (Lib.byteCells l) w) (hBw : B ≤ w.heap.size) :
    Calls Tryz.prog 102 #[.pointer (some ⟨b, 0, none⟩)] w fun e w' => e = .returned (.string (str l)) ∧ Below B w w' := Builder_String_any hT B b l w h hBw
theorem builderLen_any (B b : Nat) (bs : List Value) (w : World) (h : Lib.IsBuilder 131 5 B b bs w) :
    Calls Tryz.prog 100 #[.pointer (some ⟨b, 0, none⟩)] w fun e w' => e = .returned (.int .i64 bs.length) ∧ w' = w := builderLen_t bt_plain B b bs w h
theorem builderWriteByte_any (B b : Nat) (bs : List Value) (c : Int) (w : World) (h : Lib.IsBuilder 131 5 B b bs w) (hlen : bs.length + 1 ≤ 140737488355328) (hBw : B ≤ w.heap.size) :
    Calls Tryz.prog 101 #[.pointer (some ⟨b, 0, none⟩), .int .u8 c] w fun e w' => e = .returned .nilIface ∧ (Lib.IsBuilder 131 5 B b (bs ++ [.int .u8 c]) w' ∧ Below B w w') := builderWriteByte_t bt_plain B b bs c w h hlen hBw
theorem builderWriteString_any (B b : Nat) (bs : List Value) (s : ByteArray) (w : World) (h : Lib.IsBuilder 131 5 B b bs w) (hlen : bs.length + s.size ≤ 140737488355328) (hBw : B ≤ w.heap.size) :
    Calls Tryz.prog 168 #[.pointer (some ⟨b, 0, none⟩), .string s] w fun e w' => e = .returned (.tuple #[.int .i64 s.size, .nilIface]) ∧ (Lib.IsBuilder 131 5 B b (bs ++ Lib.byteCells s.data.toList) w' ∧ Below B w w') := builderWriteString_t bt_plain B b bs s w h hlen hBw
theorem builderString_any (B b : Nat) (l : List UInt8) (w : World) (h : Lib.IsBuilder 131 5 B b (Lib.byteCells l) w) (hBw : B ≤ w.heap.size) :
    Calls Tryz.prog 102 #[.pointer (some ⟨b, 0, none⟩)] w fun e w' => e = .returned (.string (str l)) ∧ Below B w w' := builderString_t bt_plain B b l w h hBw
end Go.Proofs.YtgecijhgonfldaaGreatDoor
namespace Go.Proofs.YtgecijhgonfldaaGreatDoor
open Go Go.RowKit
set_option linter.unusedVariables false
theorem decodeGo_eq (s : ByteArray) (hs : s.data.toList ≠ []) : Lib.decodeGo s = Lib.decodeL s.data.toList := by
  unfold Lib.decodeGo Lib.decodeL
  have h0 : s.size ≠ 0 := by
    intro h
    apply hs
    apply List.eq_nil_of_length_eq_zero
    simpa using h
  rw [if_neg h0]
theorem ext_list (t : ByteArray) (k : Nat) : (t.extract k t.size).data.toList = t.data.toList.drop k := by
  simp [List.take_of_length_le]
theorem dec_in (s : ByteArray) (k : Nat) (hk : k < s.size) : Lib.decodeGo (s.extract k s.size) = Lib.decodeL (s.data.toList.drop k) := by
  rw [decodeGo_eq, ext_list]
  rw [ext_list]
  intro h
  have := congrArg List.length h
  simp at this
  have : s.data.size = s.size := rfl
  omega
def decVal (d : Nat × Nat) : Value := .tuple #[.int .i32 (d.1 : Nat), .int .i64 (d.2 : Nat)]
theorem textDecode_in (s : ByteArray) (k : Nat) (w : World) (hE : Env w) (hk : k < s.size) (hs : s.size ≤ maxLen) :
    Calls Tryz.prog 97 #[.string s, .int .i64 (k : Nat)] w fun e w' => e = .returned (decVal (dec (s.data.toList.drop k))) ∧ Ext w w' := by
  have hd := dec_in s k hk
  have hne : s.data.toList.drop k ≠ [] := by
    intro h
    have := congrArg List.length h
    simp at this
    have : s.data.size = s.size := rfl
    omega
  obtain ⟨R, hR⟩ : ∃ R, (Lib.decodeL (s.data.toList.drop k)).1 = R := ⟨_, rfl⟩
  obtain ⟨K, hK⟩ : ∃ K, (Lib.decodeL (s.data.toList.drop k)).2 = K := ⟨_, rfl⟩
  have hc := decodeRune_any (s.extract k s.size) w hE
  rw [hd, hR, hK] at hc
  have hfin : dec (s.data.toList.drop k) = if R = 65533 ∧ K = 1 then (0, 0) else (R, K) := by
    unfold dec
    rw [if_neg hne, hR, hK, ← hR, ← hK]
  rw [hfin]
  clear hfin hK hR hne hd
  unfold maxLen at hs
  have HC := Lib.hid hc
  clear hc
  by_cases h1 : R = 65533 ∧ K = 1
  · obtain ⟨rfl, rfl⟩ := h1
    go_enter Tryz.func97, Tryz.ntmps97
    go_wp2_with (go_at_call 133; refine (HC.out).mono ?_; rintro e w' ⟨rfl, hx⟩)
    all_goals go_ret2
    all_goals exact ⟨rfl, hx⟩
  · by_cases h2 : R = 65533
    · have h3 : ((K : Int) == 1) = false := by
        rw [beq_eq_false_iff_ne]; omega
      have h4 : ((R : Int) == 65533) = true := by simp [h2]
      have hfin : (if R = 65533 ∧ K = 1 then ((0, 0) : Nat × Nat) else (R, K)) = (R, K) := if_neg h1
      rw [hfin]
      clear hfin h1 h2
      go_enter Tryz.func97, Tryz.ntmps97
      go_wp2_with (go_at_call 133; refine (HC.out).mono ?_; rintro e w' ⟨rfl, hx⟩)
      all_goals go_ret2
      all_goals exact ⟨rfl, hx⟩
    · have h4 : ((R : Int) == 65533) = false := by rw [beq_eq_false_iff_ne]; omega
      have hfin : (if R = 65533 ∧ K = 1 then ((0, 0) : Nat × Nat) else (R, K)) = (R, K) := if_neg h1
      rw [hfin]
      clear hfin h1 h2
      go_enter Tryz.func97, Tryz.ntmps97
      go_wp2_with (go_at_call 133; refine (HC.out).mono ?_; rintro e w' ⟨rfl, hx⟩)
      all_goals go_ret2
      all_goals exact ⟨rfl, hx⟩
theorem data_len (s : ByteArray) : s.data.toList.length = s.size := rfl
theorem textCheck_any (s : ByteArray) (w : World) (hE : Env w) (hs : s.size ≤ maxLen) :
    Calls Tryz.prog 73 #[.string s] w fun e w' => e = .returned (.tuple #[.int .i64 ((checkS s).1 : Nat), .int .i64 ((checkS s).2 : Nat)]) ∧ Ext w w' := by
  have hml := hs
  unfold maxLen at hs
  go_enter Tryz.func73, Tryz.ntmps73
  go_wp2
  go_loopw [4, 5, 6] (fun v _ _ wr => ∃ k : Nat, k ≤ s.size ∧ v = .int .i64 k ∧ Hid (checkS s = checkGo s.data.toList.length k (s.data.toList.drop k)) ∧ Ext w wr) (fun v _ _ _ => s.size - (intOf v).toNat)
  case atStart => exact ⟨0, Nat.zero_le _, rfl, rfl, Ext.refl _⟩
  case round =>
    obtain ⟨k, hk, rfl, hc, hx⟩ := hrel
    by_cases hlt : k < s.size
    · have hst := check_at s.data.toList k (by rw [data_len]; exact hlt)
      have hle := dec_le (s.data.toList.drop k)
      rw [List.length_drop, data_len] at hle
      have hcon := textDecode_in s k wr (hE.ext hx) hlt hml
      unfold decVal at hcon
      have hc2 := hc.out.trans hst
      clear hc hst
      obtain ⟨R, hR⟩ : ∃ R, (dec (s.data.toList.drop k)).1 = R := ⟨_, rfl⟩
      obtain ⟨K, hK⟩ : ∃ K, (dec (s.data.toList.drop k)).2 = K := ⟨_, rfl⟩
      rw [hR, hK] at hcon hc2
      rw [hK] at hle
      clear hR hK
      have HC := Lib.hid hcon
      have HS := Lib.hid hc2
      clear hcon hc2
      by_cases h0 : K = 0
      · subst h0
        have hfin := HS.out
        rw [if_pos rfl] at hfin
        have HF := Lib.hid hfin
        clear hfin HS
        go_wp2_with (first | (go_at_call 97; refine (HC.out).mono ?_; rintro e w' ⟨rfl, hx'⟩))
        go_ret2
        exact ⟨by rw [HF.out]; rfl, hx.trans hx'⟩
      · have hb : ((K : Int) == 0) = false := by rw [beq_eq_false_iff_ne]; omega
        by_cases hch : isChar R = false
        · have hfin := HS.out
          rw [if_neg h0, if_pos hch] at hfin
          have HF := Lib.hid hfin
          clear hfin HS
          go_wp2_with (first | (go_at_call 97; refine (HC.out).mono ?_; rintro e w' ⟨rfl, hx'⟩) | (go_at_call 98; refine (textIsChar_any _ _).mono ?_; rintro e w' ⟨rfl, rfl⟩))
          go_ret2
          exact ⟨by rw [HF.out]; rfl, hx.trans hx'⟩
        · have hch' : isChar R = true := by simpa using hch
          have HS2 : Hid (checkS s = checkGo s.data.toList.length (k + K) (s.data.toList.drop (k + K))) := by
            have h := HS.out
            rw [if_neg h0, if_neg hch] at h
            exact h
          clear HS hch
          go_wp2_with (first | (go_at_call 97; refine (HC.out).mono ?_; rintro e w' ⟨rfl, hx'⟩) | (go_at_call 98; refine (textIsChar_any _ _).mono ?_; rintro e w' ⟨rfl, rfl⟩))
          go_roundw
          case rel => exact ⟨k + K, by omega, by go_num, HS2, hx.trans hx'⟩
          case measure => simp [intOf]; omega
    · have hke : k = s.size := by omega
      have hfin : checkS s = (s.size, 0) := by
        rw [hc.out, check_end _ _ (by rw [data_len]; omega), hke]
      have HF := Lib.hid hfin
      clear hfin hc hke
      go_wp2
      go_ret2
      exact ⟨by rw [HF.out]; rfl, hx⟩
end Go.Proofs.YtgecijhgonfldaaGreatDoor
namespace Go.Proofs.YtgecijhgonfldaaGreatDoor
open Go Go.RowKit
set_option linter.unusedVariables false
theorem coll_step (l out : List UInt8) (g : Bool) (k : Nat) (hk : k < l.length) : collGo (l.drop k) out g = if isSp (l[k]).toNat then collGo (l.drop (k + 1)) out (!out.isEmpty) else collGo (l.drop (k + 1)) (out ++ (if g then [32] else []) ++ [l[k]]) false := by
  rw [List.drop_eq_getElem_cons hk]; rfl
theorem byteCells_app (a b : List UInt8) : Lib.byteCells (a ++ b) = Lib.byteCells a ++ Lib.byteCells b := by simp [Lib.byteCells]
theorem byteCells_len (a : List UInt8) : (Lib.byteCells a).length = a.length := by simp [Lib.byteCells]
theorem coll_sp (s : ByteArray) (out : List UInt8) (g : Bool) (k : Nat) (hk : k < s.size) (h : isSp (s[k].toNat) = true) : collGo (s.data.toList.drop k) out g = collGo (s.data.toList.drop (k + 1)) out (!out.isEmpty) := by
  rw [coll_step _ _ _ k (by rw [data_len]; exact hk)]
  exact if_pos h
theorem coll_ch (s : ByteArray) (out : List UInt8) (g : Bool) (k : Nat) (hk : k < s.size) (h : isSp (s[k].toNat) = false) : collGo (s.data.toList.drop k) out g = collGo (s.data.toList.drop (k + 1)) (out ++ (if g then [32] else []) ++ [s[k]]) false := by
  rw [coll_step _ _ _ k (by rw [data_len]; exact hk)]
  exact if_neg (by rw [Bool.not_eq_true]; exact h)
theorem collapse_any (s : ByteArray) (w : World) (hs : s.size ≤ 140737488351232) :
    Calls Tryz.prog 74 #[.string s] w fun e w' => e = .returned (.string (collapse s)) ∧ Ext w w' := by
  go_enter Tryz.func74, Tryz.ntmps74
  go_wp2
  go_loopw [4, 5, 8] (fun v _ i wr => ∃ (k : Nat) (out : List UInt8) (g : Bool), k ≤ s.size ∧ i = .int .i64 k ∧ v = .bool g ∧ out.length + (if g then 1 else 0) ≤ k ∧
      Lib.IsBuilder 131 5 w.heap.size w.heap.size (Lib.byteCells out) wr ∧ Hid (coll s.data.toList = collGo (s.data.toList.drop k) out g) ∧ Ext w wr) (fun _ _ i _ => s.size - (intOf i).toNat)
  case atStart => exact ⟨0, [], false, Nat.zero_le _, rfl, rfl, by simp, Lib.fresh_isBuilder _ _ _, rfl, (Ext.refl _).alloc _⟩
  case round =>
    obtain ⟨k, out, g, hk, rfl, rfl, hlen, hB, hc, hx⟩ := hrel
    have hsz := hx.size
    by_cases hlt : k < s.size
    · by_cases hsp : isSp (s[k]).toNat = true
      · have HC := Lib.hid (hc.out.trans (coll_sp s out g k hlt hsp))
        have hlen' : out.length ≤ k := by split at hlen <;> omega
        have hg' : decide (0 < (Lib.byteCells out).length) = !out.isEmpty := by
          rw [byteCells_len]; cases out <;> simp
        have HG := Lib.hid hg'
        clear hc hg' hlen
        go_wp2_with (first | (go_at_call 99; refine (textIsSpace_any _ _).mono ?_; rintro e w' ⟨rfl, rfl⟩) | (go_at_call 100; refine (builderLen_any _ _ _ _ hB).mono ?_; rintro e w' ⟨rfl, rfl⟩))
        go_roundw
        case rel => exact ⟨k + 1, out, !out.isEmpty, by omega, by go_num, by rw [HG.out], by split <;> omega, hB, HC, hx⟩
        case measure => simp [intOf]; omega
      · have hsp' : isSp (s[k]).toNat = false := by simpa using hsp
        have HC := Lib.hid (hc.out.trans (coll_ch s out g k hlt hsp'))
        clear hc hsp
        cases g
        · have hlen' : out.length ≤ k := by simpa using hlen
          clear hlen
          go_wp2_with (first | (go_at_call 99; refine (textIsSpace_any _ _).mono ?_; rintro e w' ⟨rfl, rfl⟩) | (go_at_call 101; refine (builderWriteByte_any _ _ _ _ _ hB (by rw [byteCells_len]; omega) hsz).mono ?_; rintro e w' ⟨rfl, hB', hx'⟩))
          go_roundw
          case rel => exact ⟨k + 1, out ++ [s[k]], false, by omega, by go_num, rfl, by simp; omega, by rw [byteCells_app]; exact hB', by simpa using HC, hx.then hx'⟩
          case measure => simp [intOf]; omega
        · have hlen' : out.length + 1 ≤ k := by simpa using hlen
          clear hlen
          go_wp2_with fail
          refine (textIsSpace_any _ _).mono ?_
          rintro e w' ⟨rfl, rfl⟩
          go_wp2_with fail
          refine (builderWriteByte_any _ _ _ _ _ hB (by rw [byteCells_len]; omega) hsz).mono ?_
          rintro e w1 ⟨rfl, hB1, hx1⟩
          have hsz1 := (hx.then hx1).size
          go_wp2_with fail
          refine (builderWriteByte_any _ _ _ _ _ hB1 (by simp [byteCells_len]; omega) hsz1).mono ?_
          rintro e w2 ⟨rfl, hB2, hx2⟩
          go_wp2_with fail
          go_roundw
          case rel => exact ⟨k + 1, out ++ [32] ++ [s[k]], false, by omega, by go_num, rfl, by simp; omega, by rw [byteCells_app, byteCells_app]; exact hB2, by simpa using HC, (hx.then hx1).then hx2⟩
          case measure => simp [intOf]; omega
    · have hke : k = s.size := by omega
      have hfin : coll s.data.toList = out := by
        rw [hc.out, List.drop_of_length_le (by rw [data_len]; omega)]; rfl
      have HF : Hid (str out = collapse s) := by unfold collapse; rw [hfin]; rfl
      clear hfin hc hke
      go_wp2_with (go_at_call 102; refine (builderString_any _ _ _ _ hB hsz).mono ?_; rintro e w' ⟨rfl, hx'⟩)
      go_ret
      exact ⟨by rw [← HF.out]; rfl, hx.then hx'⟩
theorem textValid_any (s : ByteArray) (w : World) (hE : Env w) (hs : s.size ≤ 140737488351232) :
    Calls Tryz.prog 176 #[.string s] w fun e w' => e = .returned (.bool (validS s)) ∧ Ext w w' := by
  have hml : s.size ≤ maxLen := by unfold maxLen; omega
  have hcon := textCheck_any s w hE hml
  obtain ⟨K, hK⟩ : ∃ K, (checkS s).2 = K := ⟨_, rfl⟩
  obtain ⟨R, hR⟩ : ∃ R, collapse s = R := ⟨_, rfl⟩
  have hfin : validS s = (decide (K = 0) && (R.data.toList == s.data.toList)) := by unfold validS; rw [hK, hR]
  have hcol := fun w' => collapse_any s w' hs
  rw [hK] at hcon
  rw [hR] at hcol
  rw [hfin]
  clear hfin hK hR
  have HC := Lib.hid hcon
  have HD := Lib.hid hcol
  clear hcon hcol
  by_cases h0 : K = 0
  · subst h0
    go_enter Tryz.func176, Tryz.ntmps176
    go_wp2_with (first | (go_at_call 73; refine (HC.out).mono ?_; rintro e w' ⟨rfl, hx⟩) | (go_at_call 74; refine (HD.out _).mono ?_; rintro e w' ⟨rfl, hx'⟩))
    go_ret
    exact ⟨by simp [toList_beq], hx.trans hx'⟩
  · have hb : ((K : Int) == 0) = false := by rw [beq_eq_false_iff_ne]; omega
    have hk : decide (K = 0) = false := by simp [h0]
    rw [hk]
    clear hk h0
    go_enter Tryz.func176, Tryz.ntmps176
    go_wp2_with (first | (go_at_call 73; refine (HC.out).mono ?_; rintro e w' ⟨rfl, hx⟩) | (go_at_call 74; refine (HD.out _).mono ?_; rintro e w' ⟨rfl, hx'⟩))
    go_ret
    exact ⟨by simp, hx⟩
end Go.Proofs.YtgecijhgonfldaaGreatDoor
namespace Go.Proofs.YtgecijhgonfldaaGreatDoor
open Go
def encN (r : Nat) : List UInt8 :=
  if 1114111 < r ∨ (55296 ≤ r ∧ r ≤ 57343) then []
  else if r < 128 then [UInt8.ofNat r]
  else if r < 2048 then [UInt8.ofNat (192 + r / 64), UInt8.ofNat (128 + r % 64)]
  else if r < 65536 then [UInt8.ofNat (224 + r / 4096), UInt8.ofNat (128 + r / 64 % 64), UInt8.ofNat (128 + r % 64)]
  else [UInt8.ofNat (240 + r / 262144), UInt8.ofNat (128 + r / 4096 % 64), UInt8.ofNat (128 + r / 64 % 64), UInt8.ofNat (128 + r % 64)]
def accStart (n : Nat) (b : Nat) : Nat := if n = 2 then b % 32 else if n = 3 then b % 16 else if n = 4 then b % 8 else b
def acc (n : Nat) (l : List UInt8) : Nat → Nat
  | 0 => accStart n (l.getD 0 0).toNat
  | i + 1 => acc n l i * 64 + (l.getD (i + 1) 0).toNat % 64
def refFrom : Nat → Nat → List UInt8 → Nat × Nat
  | 0, _, _ => (0, 0)
  | k + 1, n, l => if n ≤ 4 ∧ n ≤ l.length then (if encN (acc n l (n - 1)) = l.take n then (acc n l (n - 1), n) else refFrom k (n + 1) l) else (0, 0)
def refDec (l : List UInt8) : Nat × Nat := refFrom 4 1 l
theorem byte_lt (x : UInt8) : x.toNat < 256 := x.toNat_lt
theorem byte_eq_of (x : UInt8) (n : Nat) (hn : n < 256) : UInt8.ofNat n = x ↔ n = x.toNat := by
  constructor
  · rintro rfl; simp [Nat.mod_eq_of_lt hn]
  · rintro rfl; simp
theorem enc1 (a : UInt8) : encN a.toNat = [a] ↔ a.toNat < 128 := by
  have ha := byte_lt a
  unfold encN
  rw [if_neg (by omega)]
  by_cases h : a.toNat < 128
  · rw [if_pos h]; simp [h]
  · rw [if_neg h, if_pos (by omega)]; simp [h]
theorem enc2 (a b : UInt8) : encN (a.toNat % 32 * 64 + b.toNat % 64) = [a, b] ↔ (a.toNat / 32 = 6 ∧ b.toNat / 64 = 2) ∧ 128 ≤ a.toNat % 32 * 64 + b.toNat % 64 := by
  have ha := byte_lt a
  have hb := byte_lt b
  unfold encN
  rw [if_neg (by omega)]
  by_cases h : a.toNat % 32 * 64 + b.toNat % 64 < 128
  · rw [if_pos h]; simp; omega
  · rw [if_neg h, if_pos (by omega)]
    simp only [List.cons.injEq, and_true]
    rw [byte_eq_of _ _ (by omega), byte_eq_of _ _ (by omega)]
    omega
theorem enc3 (a b c : UInt8) : encN ((a.toNat % 16 * 64 + b.toNat % 64) * 64 + c.toNat % 64) = [a, b, c] ↔ (a.toNat / 16 = 14 ∧ b.toNat / 64 = 2 ∧ c.toNat / 64 = 2) ∧
    2048 ≤ (a.toNat % 16 * 64 + b.toNat % 64) * 64 + c.toNat % 64 ∧ ((a.toNat % 16 * 64 + b.toNat % 64) * 64 + c.toNat % 64 < 55296 ∨ 57344 ≤ (a.toNat % 16 * 64 + b.toNat % 64) * 64 + c.toNat % 64) := by
  have ha := byte_lt a
  have hb := byte_lt b
  have hc := byte_lt c
  unfold encN
  generalize hr : (a.toNat % 16 * 64 + b.toNat % 64) * 64 + c.toNat % 64 = r
  by_cases h0 : 1114111 < r ∨ (55296 ≤ r ∧ r ≤ 57343)
  · rw [if_pos h0]; simp; omega
  · rw [if_neg h0]
    by_cases h : r < 128
    · rw [if_pos h]; simp; omega
    · rw [if_neg h]
      by_cases h2 : r < 2048
      · rw [if_pos h2]; simp; omega
      · rw [if_neg h2, if_pos (by omega)]
        simp only [List.cons.injEq, and_true]
        rw [byte_eq_of _ _ (by omega), byte_eq_of _ _ (by omega), byte_eq_of _ _ (by omega)]
        omega
theorem enc4 (a b c d : UInt8) : encN (((a.toNat % 8 * 64 + b.toNat % 64) * 64 + c.toNat % 64) * 64 + d.toNat % 64) = [a, b, c, d] ↔ (a.toNat / 8 = 30 ∧ b.toNat / 64 = 2 ∧ c.toNat / 64 = 2 ∧ d.toNat / 64 = 2) ∧
    65536 ≤ ((a.toNat % 8 * 64 + b.toNat % 64) * 64 + c.toNat % 64) * 64 + d.toNat % 64 ∧ ((a.toNat % 8 * 64 + b.toNat % 64) * 64 + c.toNat % 64) * 64 + d.toNat % 64 ≤ 1114111 := by
  have ha := byte_lt a
  have hb := byte_lt b
  have hc := byte_lt c
  have hd := byte_lt d
  unfold encN
  generalize hr : ((a.toNat % 8 * 64 + b.toNat % 64) * 64 + c.toNat % 64) * 64 + d.toNat % 64 = r
  by_cases h0 : 1114111 < r ∨ (55296 ≤ r ∧ r ≤ 57343)
  · rw [if_pos h0]; simp; omega
  · rw [if_neg h0]
    by_cases h : r < 128
    · rw [if_pos h]; simp; omega
    · rw [if_neg h]
      by_cases h2 : r < 2048
      · rw [if_pos h2]; simp; omega
      · rw [if_neg h2]
        by_cases h3 : r < 65536
        · rw [if_pos h3]; simp; omega
        · rw [if_neg h3]
          simp only [List.cons.injEq, and_true]
          rw [byte_eq_of _ _ (by omega), byte_eq_of _ _ (by omega), byte_eq_of _ _ (by omega), byte_eq_of _ _ (by omega)]
          omega
set_option maxHeartbeats 1000000 in
theorem refDec_eq (l : List UInt8) (hl : l ≠ []) : refDec l = dec l := by
  have hlen : 1 ≤ l.length := List.length_pos_iff.2 hl
  unfold dec
  rw [if_neg hl, decodeL_nat]
  match l, hl with
  | [a], _ =>
    have ha := byte_lt a
    simp [refDec, refFrom, acc, accStart, Lib.decodeN, enc1]
    split <;> simp
    omega
  | [a, b], _ =>
    have ha := byte_lt a
    have hb := byte_lt b
    simp [refDec, refFrom, acc, accStart, Lib.decodeN, enc1, enc2]
    repeat' split
    all_goals (simp at *; try omega)
  | [a, b, c], _ =>
    have ha := byte_lt a
    have hb := byte_lt b
    have hc := byte_lt c
    simp [refDec, refFrom, acc, accStart, Lib.decodeN, enc1, enc2, enc3]
    repeat' split
    all_goals (simp at *; try omega)
  | a :: b :: c :: d :: t, _ =>
    have ha := byte_lt a
    have hb := byte_lt b
    have hc := byte_lt c
    have hd := byte_lt d
    simp [refDec, refFrom, acc, accStart, Lib.decodeN, enc1, enc2, enc3, enc4]
    repeat' split
    all_goals (simp at *; try omega)
end Go.Proofs.YtgecijhgonfldaaGreatDoor
namespace Go.Proofs.YtgecijhgonfldaaGreatDoor
open Go Go.RowKit
theorem conv_bytes (w : World) (xs : List Int) (n : Nat) (h : xs.length = n) :
    (convert 107 9 (.slice (some ⟨w.heap.size, 0, none⟩) n n)).run Tryz.prog (w.alloc (.cells (xs.map (Value.int .u8)).toArray 5)) = .ok (.string (strOfNums xs)) (w.alloc (.cells (xs.map (Value.int .u8)).toArray 5)) := by
  refine run_convert_bytes_arg _ _ 5 Tryz.underlying107 Tryz.underlying5 _ 0 n n xs h (fun i hi => ?_) _ Tryz.underlying9
  have := heap_alloc_new w (.cells (xs.map (Value.int .u8)).toArray 5)
  rw [Nat.zero_add, Lib.cell_of_heap this]
  simp [List.getElem?_eq_getElem (show i < xs.length by omega), List.getD]
theorem conv1 (w : World) (a : Int) : (convert 107 9 (.slice (some ⟨w.heap.size, 0, none⟩) 1 1)).run Tryz.prog (w.alloc (.cells #[.int .u8 a] 5)) = .ok (.string (strOfNums [a])) (w.alloc (.cells #[.int .u8 a] 5)) := conv_bytes w [a] 1 rfl
theorem conv2 (w : World) (a b : Int) : (convert 107 9 (.slice (some ⟨w.heap.size, 0, none⟩) 2 2)).run Tryz.prog (w.alloc (.cells #[.int .u8 a, .int .u8 b] 5)) = .ok (.string (strOfNums [a, b])) (w.alloc (.cells #[.int .u8 a, .int .u8 b] 5)) := conv_bytes w [a, b] 2 rfl
theorem conv3 (w : World) (a b c : Int) : (convert 107 9 (.slice (some ⟨w.heap.size, 0, none⟩) 3 3)).run Tryz.prog (w.alloc (.cells #[.int .u8 a, .int .u8 b, .int .u8 c] 5)) = .ok (.string (strOfNums [a, b, c])) (w.alloc (.cells #[.int .u8 a, .int .u8 b, .int .u8 c] 5)) := conv_bytes w [a, b, c] 3 rfl
theorem conv4 (w : World) (a b c d : Int) : (convert 107 9 (.slice (some ⟨w.heap.size, 0, none⟩) 4 4)).run Tryz.prog (w.alloc (.cells #[.int .u8 a, .int .u8 b, .int .u8 c, .int .u8 d] 5)) = .ok (.string (strOfNums [a, b, c, d])) (w.alloc (.cells #[.int .u8 a, .int .u8 b, .int .u8 c, .int .u8 d] 5)) := conv_bytes w [a, b, c, d] 4 rfl
theorem str_nums (xs : List Int) : strOfNums xs = str (xs.map fun n => UInt8.ofNat n.toNat) := rfl
theorem extract_take (s : ByteArray) (k n : Nat) : (s.extract k (k + n)).data.toList = (s.data.toList.drop k).take n := by
  simp [Nat.add_sub_cancel_left]
theorem str_beq (L : List UInt8) (t : ByteArray) : ((str L).toList == t.toList) = decide (L = t.data.toList) := by
  rw [toList_beq, str_list, Bool.eq_iff_iff]
  simp
end Go.Proofs.YtgecijhgonfldaaGreatDoor
namespace Go.Proofs.YtgecijhgonfldaaGreatDoor
open Go Go.RowKit
set_option linter.unusedVariables false
attribute [local go_sem] conv1 conv2 conv3 conv4
set_option maxRecDepth 100000 in
theorem refEncode_any (r : Nat) (w : World) (hr : r < 4294967296) :
    Calls Tryz.prog 136 #[.int .i64 (r : Nat)] w fun e w' => e = .returned (.string (str (encN r))) ∧ Ext w w' := by
  obtain ⟨L, hL⟩ : ∃ L, encN r = L := ⟨_, rfl⟩
  rw [hL]
  obtain ⟨x, hx⟩ : ∃ x : Int, (r : Int) = x := ⟨_, rfl⟩
  rw [hx]
  have x0 : 0 ≤ x := by omega
  have x1 : x < 4294967296 := by omega
  have HX := Lib.hid hx
  have HR := Lib.hid hr
  have HL := Lib.hid hL
  clear hx hr hL
  go_enter Tryz.func136, Tryz.ntmps136
  go_wp2
  all_goals go_ret
  all_goals (refine ⟨congrArg (fun l => Ending.returned (.string l)) ?_, by repeat (first | exact Ext.refl _ | apply Ext.alloc)⟩)
  all_goals have hx := HX.out
  all_goals (rw [← HL.out]; unfold encN)
  all_goals first
    | (rw [if_pos (by omega)]; rfl)
    | (rw [if_neg (by omega), if_neg (by omega), if_neg (by omega), if_pos (by omega)]; simp only [str_nums, List.map_cons, List.map_nil, show (224 + x / 4096).toNat = 224 + r / 4096 by omega, show (128 + x / 64 % 64).toNat = 128 + r / 64 % 64 by omega, show (128 + x % 64).toNat = 128 + r % 64 by omega])
    | (rw [if_neg (by omega), if_neg (by omega), if_neg (by omega), if_neg (by omega)]; simp only [str_nums, List.map_cons, List.map_nil, show (240 + x / 262144).toNat = 240 + r / 262144 by omega, show (128 + x / 4096 % 64).toNat = 128 + r / 4096 % 64 by omega, show (128 + x / 64 % 64).toNat = 128 + r / 64 % 64 by omega, show (128 + x % 64).toNat = 128 + r % 64 by omega])
    | (rw [if_neg (by omega), if_pos (by omega)]; simp only [str_nums, List.map_cons, List.map_nil, show x.toNat = r by omega])
    | (rw [if_neg (by omega), if_neg (by omega), if_pos (by omega)]; simp only [str_nums, List.map_cons, List.map_nil, show (192 + x / 64).toNat = 192 + r / 64 by omega, show (128 + x % 64).toNat = 128 + r % 64 by omega])
theorem refEncode_int (x : Int) (w : World) (h0 : 0 ≤ x) (h1 : x < 4294967296) :
    Calls Tryz.prog 136 #[.int .i64 x] w fun e w' => e = .returned (.string (str (encN x.toNat))) ∧ Ext w w' := by
  have h := refEncode_any x.toNat w (by omega)
  rwa [Int.toNat_of_nonneg h0] at h
end Go.Proofs.YtgecijhgonfldaaGreatDoor
namespace Go.Proofs.YtgecijhgonfldaaGreatDoor
open Go Go.RowKit
set_option linter.unusedVariables false
theorem byteInt (x : UInt8) : (x.toNat : Int) < 256 := by have := byte_lt x; omega
theorem getD_at (s : ByteArray) (k i : Nat) (h : k + i < s.size) : (s.data.toList.drop k).getD i 0 = s[k + i] := by
  rw [List.getD_eq_getElem?_getD, List.getElem?_drop, List.getElem?_eq_getElem (by rw [data_len]; exact h)]
  rfl
theorem ref_yes (s : ByteArray) (k n : Nat) (h1 : 1 ≤ n) (h4 : n ≤ 4) (hn : k + n ≤ s.size) (x : Int) (hx : acc n (s.data.toList.drop k) (n - 1) = x.toNat)
    (hd : dec (s.data.toList.drop k) = refFrom (5 - n) n (s.data.toList.drop k)) (hb : ((str (encN x.toNat)).toList == (s.extract k (k + n)).toList) = true) : dec (s.data.toList.drop k) = (x.toNat, n) := by
  rw [str_beq, extract_take, decide_eq_true_eq] at hb
  obtain ⟨m, hm⟩ : ∃ m, 5 - n = m + 1 := ⟨4 - n, by omega⟩
  rw [hd, hm, refFrom, if_pos ⟨h4, by rw [List.length_drop, data_len]; omega⟩, hx, if_pos hb]
theorem ref_no (s : ByteArray) (k n : Nat) (h1 : 1 ≤ n) (h4 : n ≤ 4) (hn : k + n ≤ s.size) (x : Int) (hx : acc n (s.data.toList.drop k) (n - 1) = x.toNat)
    (hd : dec (s.data.toList.drop k) = refFrom (5 - n) n (s.data.toList.drop k)) (hb : ((str (encN x.toNat)).toList == (s.extract k (k + n)).toList) = false) : Hid (dec (s.data.toList.drop k) = refFrom (5 - (n + 1)) (n + 1) (s.data.toList.drop k)) := by
  rw [str_beq, extract_take, decide_eq_false_iff_not] at hb
  obtain ⟨m, hm⟩ : ∃ m, 5 - n = m + 1 := ⟨4 - n, by omega⟩
  have hm' : 5 - (n + 1) = m := by omega
  rw [hm']
  rw [hm, refFrom, if_pos ⟨h4, by rw [List.length_drop, data_len]; omega⟩, hx, if_neg hb] at hd
  exact hd
set_option maxRecDepth 100000 in
set_option maxHeartbeats 1000000 in
theorem refDecode_in (s : ByteArray) (k : Nat) (w : World) (hk : k < s.size) (hs : s.size ≤ maxLen) :
    Calls Tryz.prog 103 #[.string s, .int .i64 (k : Nat)] w fun e w' => e = .returned (.tuple #[.int .i64 ((dec (s.data.toList.drop k)).1 : Nat), .int .i64 ((dec (s.data.toList.drop k)).2 : Nat)]) ∧ Ext w w' := by
  unfold maxLen at hs
  have hne : s.data.toList.drop k ≠ [] := by
    intro h
    have := congrArg List.length h
    rw [List.length_drop, data_len] at this
    simp at this
    omega
  have hst : Hid (dec (s.data.toList.drop k) = refFrom 4 1 (s.data.toList.drop k)) := (refDec_eq _ hne).symm
  clear hne
  obtain ⟨l, hl⟩ : ∃ l, s.data.toList.drop k = l := ⟨_, rfl⟩
  have HL := Lib.hid hl
  rw [hl] at hst ⊢
  clear hl
  have hge : decide (s.size ≤ k) = false := by simp; omega
  have hneg : decide ((k : Int) < 0) = false := by simp
  go_enter Tryz.func103, Tryz.ntmps103
  go_wp2
  go_loopw [6, 7, 8] (fun v _ _ wr => ∃ n : Nat, 1 ≤ n ∧ n ≤ 5 ∧ k + n ≤ s.size + 1 ∧ v = .int .i64 n ∧ Hid (dec l = refFrom (5 - n) n l) ∧ Ext w wr) (fun v _ _ _ => 5 - (intOf v).toNat)
  case atStart => exact ⟨1, by omega, by omega, by omega, rfl, hst, Ext.refl _⟩
  case round =>
    obtain ⟨n, h1, h5, hn, rfl, hd, hx⟩ := hrel
    clear hst hge hneg
    by_cases hlt : n ≤ 4 ∧ k + n ≤ s.size
    · obtain ⟨h4, hn'⟩ := hlt
      have hcase : n = 1 ∨ n = 2 ∨ n = 3 ∨ n = 4 := by omega
      rcases hcase with rfl | rfl | rfl | rfl
      · clear h1 h5 h4 hn
        have b0 := byteInt (s[k]'(by omega))
        have hacc : Hid (acc 1 (s.data.toList.drop k) (1 - 1) = (s[k].toNat : Int).toNat) := by
          show _ = _
          simp only [acc, accStart, show 1 - 1 = 0 from rfl, getD_at s k 0 (by omega)]
          simp
        go_wp2
        refine wp_loop_rounds 1 ?_
        rw [rounds_succ]
        go_wp2
        have hj1 : (k : Int) + 1 ≤ s.size := by omega
        have hj0 : 0 ≤ (k : Int) + 1 := by omega
        have hj2 : (k : Int) ≤ (k : Int) + 1 := by omega
        have hj3 : IntKind.i64.wrap ((k : Int) + 1) = (k : Int) + 1 := IntWalk.i64_in _ (by omega)
        have hj4 : ((k : Int) + 1).toNat = k + 1 := by omega
        go_region_with (go_at_call 136; refine (refEncode_int _ _ (by omega) (by omega)).mono ?_; rintro e w' ⟨rfl, hx'⟩)
        clear hj1 hj0 hj2 hj3 hj4
        go_wp2
        all_goals have hyn : ((str (encN (s[k].toNat : Int).toNat)).toList == (s.extract k (k + 1)).toList) = true ∨ ((str (encN (s[k].toNat : Int).toNat)).toList == (s.extract k (k + 1)).toList) = false := by first | exact Or.inl ‹_› | exact Or.inr ‹_›
        all_goals have hl := HL.out
        all_goals subst hl
        all_goals first
          | (have hfin := ref_yes s k 1 (by omega) (by omega) hn' _ hacc.out hd.out ‹_›; go_ret2; exact ⟨by rw [hfin]; exact ret2_eq (by simp only []; omega) rfl, (hx.drew).trans hx'⟩)
          | (have hfin := ref_no s k 1 (by omega) (by omega) hn' _ hacc.out hd.out ‹_›; go_roundw; (case rel => (first | exact ⟨1 + 1, by omega, by omega, by omega, rfl, hfin, (hx.drew).trans hx'⟩ | ((repeat apply Exists.intro); exact ⟨⟨1 + 1, by omega, by omega, by omega, rfl, hfin, (hx.drew).trans hx'⟩, rfl⟩))); (case measure => simp [intOf]))
      · clear h1 h5 h4 hn
        have b0 := byteInt (s[k]'(by omega))
        have b1 := byteInt (s[k + 1]'(by omega))
        have hacc : Hid (acc 2 (s.data.toList.drop k) (2 - 1) = ((s[k].toNat : Int) % 32 * 64 + (s[k + 1].toNat : Int) % 64).toNat) := by
          show _ = _
          simp only [acc, accStart, show 2 - 1 = 1 from rfl, getD_at s k 0 (by omega), getD_at s k 1 (by omega)]
          simp
          omega
        go_wp2
        refine wp_loop_rounds 2 ?_
        rw [rounds_succ]
        go_wp2
        rw [rounds_succ]
        go_wp2
        have hj1 : (k : Int) + 2 ≤ s.size := by omega
        have hj0 : 0 ≤ (k : Int) + 2 := by omega
        have hj2 : (k : Int) ≤ (k : Int) + 2 := by omega
        have hj3 : IntKind.i64.wrap ((k : Int) + 2) = (k : Int) + 2 := IntWalk.i64_in _ (by omega)
        have hj4 : ((k : Int) + 2).toNat = k + 2 := by omega
        go_region_with (go_at_call 136; refine (refEncode_int _ _ (by omega) (by omega)).mono ?_; rintro e w' ⟨rfl, hx'⟩)
        clear hj1 hj0 hj2 hj3 hj4
        go_wp2
        all_goals have hyn : ((str (encN ((s[k].toNat : Int) % 32 * 64 + (s[k + 1].toNat : Int) % 64).toNat)).toList == (s.extract k (k + 2)).toList) = true ∨ ((str (encN ((s[k].toNat : Int) % 32 * 64 + (s[k + 1].toNat : Int) % 64).toNat)).toList == (s.extract k (k + 2)).toList) = false := by first | exact Or.inl ‹_› | exact Or.inr ‹_›
        all_goals have hl := HL.out
        all_goals subst hl
        all_goals first
          | (have hfin := ref_yes s k 2 (by omega) (by omega) hn' _ hacc.out hd.out ‹_›; go_ret2; exact ⟨by rw [hfin]; exact ret2_eq (by simp only []; omega) rfl, (hx.drew).trans hx'⟩)
          | (have hfin := ref_no s k 2 (by omega) (by omega) hn' _ hacc.out hd.out ‹_›; go_roundw; (case rel => (first | exact ⟨2 + 1, by omega, by omega, by omega, rfl, hfin, (hx.drew).trans hx'⟩ | ((repeat apply Exists.intro); exact ⟨⟨2 + 1, by omega, by omega, by omega, rfl, hfin, (hx.drew).trans hx'⟩, rfl⟩))); (case measure => simp [intOf]))
      · clear h1 h5 h4 hn
        have b0 := byteInt (s[k]'(by omega))
        have b1 := byteInt (s[k + 1]'(by omega))
        have b2 := byteInt (s[k + 2]'(by omega))
        have hacc : Hid (acc 3 (s.data.toList.drop k) (3 - 1) = (((s[k].toNat : Int) % 16 * 64 + (s[k + 1].toNat : Int) % 64) * 64 + (s[k + 2].toNat : Int) % 64).toNat) := by
          show _ = _
          simp only [acc, accStart, show 3 - 1 = 2 from rfl, getD_at s k 0 (by omega), getD_at s k 1 (by omega), getD_at s k 2 (by omega)]
          simp
          omega
        go_wp2
        refine wp_loop_rounds 3 ?_
        rw [rounds_succ]
        go_wp2
        rw [rounds_succ]
        go_wp2
        rw [rounds_succ]
        go_wp2
        have hj1 : (k : Int) + 3 ≤ s.size := by omega
        have hj0 : 0 ≤ (k : Int) + 3 := by omega
        have hj2 : (k : Int) ≤ (k : Int) + 3 := by omega
        have hj3 : IntKind.i64.wrap ((k : Int) + 3) = (k : Int) + 3 := IntWalk.i64_in _ (by omega)
        have hj4 : ((k : Int) + 3).toNat = k + 3 := by omega
        go_region_with (go_at_call 136; refine (refEncode_int _ _ (by omega) (by omega)).mono ?_; rintro e w' ⟨rfl, hx'⟩)
        clear hj1 hj0 hj2 hj3 hj4
        go_wp2
        all_goals have hyn : ((str (encN (((s[k].toNat : Int) % 16 * 64 + (s[k + 1].toNat : Int) % 64) * 64 + (s[k + 2].toNat : Int) % 64).toNat)).toList == (s.extract k (k + 3)).toList) = true ∨ ((str (encN (((s[k].toNat : Int) % 16 * 64 + (s[k + 1].toNat : Int) % 64) * 64 + (s[k + 2].toNat : Int) % 64).toNat)).toList == (s.extract k (k + 3)).toList) = false := by first | exact Or.inl ‹_› | exact Or.inr ‹_›
        all_goals have hl := HL.out
        all_goals subst hl
        all_goals first
          | (have hfin := ref_yes s k 3 (by omega) (by omega) hn' _ hacc.out hd.out ‹_›; go_ret2; exact ⟨by rw [hfin]; exact ret2_eq (by simp only []; omega) rfl, (hx.drew).trans hx'⟩)
          | (have hfin := ref_no s k 3 (by omega) (by omega) hn' _ hacc.out hd.out ‹_›; go_roundw; (case rel => (first | exact ⟨3 + 1, by omega, by omega, by omega, rfl, hfin, (hx.drew).trans hx'⟩ | ((repeat apply Exists.intro); exact ⟨⟨3 + 1, by omega, by omega, by omega, rfl, hfin, (hx.drew).trans hx'⟩, rfl⟩))); (case measure => simp [intOf]))
      · clear h1 h5 h4 hn
        have b0 := byteInt (s[k]'(by omega))
        have b1 := byteInt (s[k + 1]'(by omega))
        have b2 := byteInt (s[k + 2]'(by omega))
        have b3 := byteInt (s[k + 3]'(by omega))
        have hacc : Hid (acc 4 (s.data.toList.drop k) (4 - 1) = ((((s[k].toNat : Int) % 8 * 64 + (s[k + 1].toNat : Int) % 64) * 64 + (s[k + 2].toNat : Int) % 64) * 64 + (s[k + 3].toNat : Int) % 64).toNat) := by
          show _ = _
          simp only [acc, accStart, show 4 - 1 = 3 from rfl, getD_at s k 0 (by omega), getD_at s k 1 (by omega), getD_at s k 2 (by omega), getD_at s k 3 (by omega)]
          simp
          omega
        go_wp2
        refine wp_loop_rounds 4 ?_
        rw [rounds_succ]
        go_wp2
        rw [rounds_succ]
        go_wp2
        rw [rounds_succ]
        go_wp2
        rw [rounds_succ]
        go_wp2
        have hj1 : (k : Int) + 4 ≤ s.size := by omega
        have hj0 : 0 ≤ (k : Int) + 4 := by omega
        have hj2 : (k : Int) ≤ (k : Int) + 4 := by omega
        have hj3 : IntKind.i64.wrap ((k : Int) + 4) = (k : Int) + 4 := IntWalk.i64_in _ (by omega)
        have hj4 : ((k : Int) + 4).toNat = k + 4 := by omega
        go_region_with (go_at_call 136; refine (refEncode_int _ _ (by omega) (by omega)).mono ?_; rintro e w' ⟨rfl, hx'⟩)
        clear hj1 hj0 hj2 hj3 hj4
        go_wp2
        all_goals have hyn : ((str (encN ((((s[k].toNat : Int) % 8 * 64 + (s[k + 1].toNat : Int) % 64) * 64 + (s[k + 2].toNat : Int) % 64) * 64 + (s[k + 3].toNat : Int) % 64).toNat)).toList == (s.extract k (k + 4)).toList) = true ∨ ((str (encN ((((s[k].toNat : Int) % 8 * 64 + (s[k + 1].toNat : Int) % 64) * 64 + (s[k + 2].toNat : Int) % 64) * 64 + (s[k + 3].toNat : Int) % 64).toNat)).toList == (s.extract k (k + 4)).toList) = false := by first | exact Or.inl ‹_› | exact Or.inr ‹_›
        all_goals have hl := HL.out
        all_goals subst hl
        all_goals first
          | (have hfin := ref_yes s k 4 (by omega) (by omega) hn' _ hacc.out hd.out ‹_›; go_ret2; exact ⟨by rw [hfin]; exact ret2_eq (by simp only []; omega) rfl, (hx.drew).trans hx'⟩)
          | (have hfin := ref_no s k 4 (by omega) (by omega) hn' _ hacc.out hd.out ‹_›; go_roundw; (case rel => (first | exact ⟨4 + 1, by omega, by omega, by omega, rfl, hfin, (hx.drew).trans hx'⟩ | ((repeat apply Exists.intro); exact ⟨⟨4 + 1, by omega, by omega, by omega, rfl, hfin, (hx.drew).trans hx'⟩, rfl⟩))); (case measure => simp [intOf]))
    · have hfin : dec l = (0, 0) := by
        rw [hd.out]
        have hlen : l.length = s.size - k := by rw [← HL.out, List.length_drop, data_len]
        cases h : 5 - n with
        | zero => rfl
        | succ m => rw [refFrom, if_neg (by omega)]
      have HF := Lib.hid hfin
      clear hfin hd
      by_cases h6 : n = 5
      · subst h6
        go_wp2
        all_goals go_ret2
        all_goals exact ⟨by rw [HF.out]; rfl, hx⟩
      · have h7 : s.size < k + n := by omega
        clear hlt h6
        go_wp2
        all_goals go_ret2
        all_goals exact ⟨by rw [HF.out]; rfl, hx⟩
end Go.Proofs.YtgecijhgonfldaaGreatDoor
