/- YtgecijhgonfldaaGreatDoor: texts Conv, Ref1, Ref2, put one behind the other. -/
import Derived.Laws.BytesArg
import Derived.Deep.RegionWith
import Derived.Test.YtgecijhgonfldaaGreatDoorM01
import Derived.Test.YtgecijhgonfldaaGreatDoorM04
/- Conversions of short rows of bytes to strings. -/
namespace Go.Proofs.YtgecijhgonfldaaGreatDoor
open Go Go.RowKit

theorem conv_bytes (w : World) (xs : List Int) (n : Nat) (h : xs.length = n) :
    (convert 107 9 (.slice (some ⟨w.heap.size, 0, none⟩) n n)).run Tryz.prog (w.alloc (.cells (xs.map (Value.int .u8)).toArray 5)) = .ok (.string (strOfNums xs)) (w.alloc (.cells (xs.map (Value.int .u8)).toArray 5)) := by
  refine run_convert_bytes_arg _ _ 5 Tryz.underlying107 Tryz.underlying5 _ 0 n n xs h (fun i hi => ?_) _ Tryz.underlying9
  have := heap_alloc_new w (.cells (xs.map (Value.int .u8)).toArray 5)
  rw [Nat.zero_add, Lib.cell_of_heap this]
  simp [List.getElem?_eq_getElem (show i < xs.length by omega), List.getD]
theorem conv1 (w : World) (a : Int) : (convert 107 9 (.slice (some ⟨w.heap.size, 0, none⟩) 1 1)).run Tryz.prog (w.alloc (.cells #[.int .u8 a] 5)) = .ok (.string (strOfNums [a])) (w.alloc (.cells #[.int .u8 a] 5)) := conv_bytes w [a] 1 rfl
theorem conv2 (w : World) (a b : Int) : (convert 107 9 (.slice (some ⟨w.heap.size, 0, none⟩) 2 2)).run Tryz.prog (w.alloc (.cells #[.int .u8 a, .int .u8 b] 5)) = .ok (.string (strOfNums [a, b])) (w.alloc (.cells #[.int .u8 a, .int .u8 b] 5)) := conv_bytes w [a, b] 2 rfl
theorem conv3 (w : World) (a b c : Int) : (convert 107 9 (.slice (some ⟨w.heap.size, 0, none⟩) 3 3)).run Tryz.prog (w.alloc (.cells #[.int .u8 a, .int .u8 b, .int .u8 c] 5)) = .ok (.string (strOfNums [a, b, c])) (w.alloc (.cells #[.int .u8 a, .int .u8 b, .int .u8 c] 5)) := conv_bytes w [a, b, c] 3 rfl
theorem conv4 (w : World) (a b c d : Int) : (convert 107 9 (.slice (some ⟨w.heap.size, 0, none⟩) 4 4)).run Tryz.prog (w.alloc (.cells #[.int .u8 a, .int .u8 b, .int .u8 c, .int .u8 d] 5)) = .ok (.string (strOfNums [a, b, c, d])) (w.alloc (.cells #[.int .u8 a, .int .u8 b, .int .u8 c, .int .u8 d] 5)) := conv_bytes w [a, b, c, d] 4 rfl
theorem str_nums (xs : List Int) : strOfNums xs = str (xs.map fun n => UInt8.ofNat n.toNat) := rfl
/-- a slice of a string, its bounds in range, at whatever world -/
theorem slice_in (s : ByteArray) (k n : Nat) (m : Int) (hm : m = n) (h : k + n ≤ s.size) (wx : World) :
    (Instr.slice 9 (.string s) (some (.int .i64 (k : Nat))) (some (.int .i64 ((k : Nat) + m))) none).run Tryz.prog wx = .ok (.string (s.extract k (k + n))) wx := by
  subst hm
  rw [run_slice_string (P := Tryz.prog) (w := wx) 9 s .i64 .i64 _ _ Tryz.underlying9 (by omega) (by omega) (by omega)]
  rw [show ((k : Int) + (n : Int)).toNat = k + n by omega, show ((k : Nat) : Int).toNat = k by omega]
theorem extract_take (s : ByteArray) (k n : Nat) : (s.extract k (k + n)).data.toList = (s.data.toList.drop k).take n := by
  simp [Nat.add_sub_cancel_left]
theorem str_beq (L : List UInt8) (t : ByteArray) : ((str L).toList == t.toList) = decide (L = t.data.toList) := by
  rw [toList_beq, str_list, Bool.eq_iff_iff]
  simp
end Go.Proofs.YtgecijhgonfldaaGreatDoor
/- Contracts: the reference of package text. -/
namespace Go.Proofs.YtgecijhgonfldaaGreatDoor
open Go Go.RowKit
set_option linter.unusedVariables false

attribute [local go_sem] conv1 conv2 conv3 conv4
theorem nat_of {x : Int} {r n : Nat} (h : x.toNat = n) : UInt8.ofNat x.toNat = UInt8.ofNat n := by rw [h]
set_option maxRecDepth 100000 in
theorem refEncode_any (r : Nat) (w : World) (hr : r < 4294967296) :
    Calls Tryz.prog 136 #[.int .i64 (r : Nat)] w fun e w' => e = .returned (.string (str (encN r))) ∧ Ext w w' := by
  obtain ⟨L, hL⟩ : ∃ L, encN r = L := ⟨_, rfl⟩
  rw [hL]
  obtain ⟨x, hx⟩ : ∃ x : Int, (r : Int) = x := ⟨_, rfl⟩
  rw [hx]
  have x0 : 0 ≤ x := by omega
  have x1 : x < 4294967296 := by omega
  have HX := Lib.hid hx
  have HR := Lib.hid hr
  have HL := Lib.hid hL
  clear hx hr hL
  go_enter Tryz.func136, Tryz.ntmps136
  go_wp2
  all_goals go_ret
  all_goals (refine ⟨congrArg (fun l => Ending.returned (.string l)) ?_, by repeat (first | exact Ext.refl _ | apply Ext.alloc)⟩)
  all_goals have hx := HX.out
  all_goals (rw [← HL.out]; unfold encN)
  all_goals first
    | (rw [if_pos (by omega)]; rfl)
    | (rw [if_neg (by omega), if_neg (by omega), if_neg (by omega), if_pos (by omega)]; simp only [str_nums, List.map_cons, List.map_nil, show (224 + x / 4096).toNat = 224 + r / 4096 by omega, show (128 + x / 64 % 64).toNat = 128 + r / 64 % 64 by omega, show (128 + x % 64).toNat = 128 + r % 64 by omega])
    | (rw [if_neg (by omega), if_neg (by omega), if_neg (by omega), if_neg (by omega)]; simp only [str_nums, List.map_cons, List.map_nil, show (240 + x / 262144).toNat = 240 + r / 262144 by omega, show (128 + x / 4096 % 64).toNat = 128 + r / 4096 % 64 by omega, show (128 + x / 64 % 64).toNat = 128 + r / 64 % 64 by omega, show (128 + x % 64).toNat = 128 + r % 64 by omega])
    | (rw [if_neg (by omega), if_pos (by omega)]; simp only [str_nums, List.map_cons, List.map_nil, show x.toNat = r by omega])
    | (rw [if_neg (by omega), if_neg (by omega), if_pos (by omega)]; simp only [str_nums, List.map_cons, List.map_nil, show (192 + x / 64).toNat = 192 + r / 64 by omega, show (128 + x % 64).toNat = 128 + r % 64 by omega])

theorem refEncode_int (x : Int) (w : World) (h0 : 0 ≤ x) (h1 : x < 4294967296) :
    Calls Tryz.prog 136 #[.int .i64 x] w fun e w' => e = .returned (.string (str (encN x.toNat))) ∧ Ext w w' := by
  have h := refEncode_any x.toNat w (by omega)
  rwa [Int.toNat_of_nonneg h0] at h
end Go.Proofs.YtgecijhgonfldaaGreatDoor
/- Contracts: the reference's Decode of package text. -/
namespace Go.Proofs.YtgecijhgonfldaaGreatDoor
open Go Go.RowKit
set_option linter.unusedVariables false

theorem byteInt (x : UInt8) : (x.toNat : Int) < 256 := by have := byte_lt x; omega
theorem getD_at (s : ByteArray) (k i : Nat) (h : k + i < s.size) : (s.data.toList.drop k).getD i 0 = s[k + i] := by
  rw [List.getD_eq_getElem?_getD, List.getElem?_drop, List.getElem?_eq_getElem (by rw [data_len]; exact h)]
  rfl
theorem ref_yes (s : ByteArray) (k n : Nat) (h1 : 1 ≤ n) (h4 : n ≤ 4) (hn : k + n ≤ s.size) (x : Int) (hx : acc n (s.data.toList.drop k) (n - 1) = x.toNat)
    (hd : dec (s.data.toList.drop k) = refFrom (5 - n) n (s.data.toList.drop k)) (hb : ((str (encN x.toNat)).toList == (s.extract k (k + n)).toList) = true) : dec (s.data.toList.drop k) = (x.toNat, n) := by
  rw [str_beq, extract_take, decide_eq_true_eq] at hb
  obtain ⟨m, hm⟩ : ∃ m, 5 - n = m + 1 := ⟨4 - n, by omega⟩
  rw [hd, hm, refFrom, if_pos ⟨h4, by rw [List.length_drop, data_len]; omega⟩, hx, if_pos hb]
theorem ref_no (s : ByteArray) (k n : Nat) (h1 : 1 ≤ n) (h4 : n ≤ 4) (hn : k + n ≤ s.size) (x : Int) (hx : acc n (s.data.toList.drop k) (n - 1) = x.toNat)
    (hd : dec (s.data.toList.drop k) = refFrom (5 - n) n (s.data.toList.drop k)) (hb : ((str (encN x.toNat)).toList == (s.extract k (k + n)).toList) = false) : Hid (dec (s.data.toList.drop k) = refFrom (5 - (n + 1)) (n + 1) (s.data.toList.drop k)) := by
  rw [str_beq, extract_take, decide_eq_false_iff_not] at hb
  obtain ⟨m, hm⟩ : ∃ m, 5 - n = m + 1 := ⟨4 - n, by omega⟩
  have hm' : 5 - (n + 1) = m := by omega
  rw [hm']
  rw [hm, refFrom, if_pos ⟨h4, by rw [List.length_drop, data_len]; omega⟩, hx, if_neg hb] at hd
  exact hd

set_option maxRecDepth 100000 in
set_option maxHeartbeats 1000000 in
theorem refDecode_in (s : ByteArray) (k : Nat) (w : World) (hk : k < s.size) (hs : s.size ≤ maxLen) :
    Calls Tryz.prog 103 #[.string s, .int .i64 (k : Nat)] w fun e w' => e = .returned (.tuple #[.int .i64 ((dec (s.data.toList.drop k)).1 : Nat), .int .i64 ((dec (s.data.toList.drop k)).2 : Nat)]) ∧ Ext w w' := by
  unfold maxLen at hs
  have hne : s.data.toList.drop k ≠ [] := by
    intro h
    have := congrArg List.length h
    rw [List.length_drop, data_len] at this
    simp at this
    omega
  have hst : Hid (dec (s.data.toList.drop k) = refFrom 4 1 (s.data.toList.drop k)) := (refDec_eq _ hne).symm
  clear hne
  obtain ⟨l, hl⟩ : ∃ l, s.data.toList.drop k = l := ⟨_, rfl⟩
  have HL := Lib.hid hl
  rw [hl] at hst ⊢
  clear hl
  have hge : decide (s.size ≤ k) = false := by simp; omega
  have hneg : decide ((k : Int) < 0) = false := by simp
  go_enter Tryz.func103, Tryz.ntmps103
  go_wp2
  go_loopw [6, 7, 8] (fun v _ _ wr => ∃ n : Nat, 1 ≤ n ∧ n ≤ 5 ∧ k + n ≤ s.size + 1 ∧ v = .int .i64 n ∧ Hid (dec l = refFrom (5 - n) n l) ∧ Ext w wr) (fun v _ _ _ => 5 - (intOf v).toNat)
  case atStart => exact ⟨1, by omega, by omega, by omega, rfl, hst, Ext.refl _⟩
  case round =>
    obtain ⟨n, h1, h5, hn, rfl, hd, hx⟩ := hrel
    clear hst hge hneg
    by_cases hlt : n ≤ 4 ∧ k + n ≤ s.size
    · obtain ⟨h4, hn'⟩ := hlt
      have hcase : n = 1 ∨ n = 2 ∨ n = 3 ∨ n = 4 := by omega
      rcases hcase with rfl | rfl | rfl | rfl
      · clear h1 h5 h4 hn
        have b0 := byteInt (s[k]'(by omega))
        have hacc : Hid (acc 1 (s.data.toList.drop k) (1 - 1) = (s[k].toNat : Int).toNat) := by
          show _ = _
          simp only [acc, accStart, show 1 - 1 = 0 from rfl, getD_at s k 0 (by omega)]
          simp
        go_wp2
        refine wp_loop_rounds 1 ?_
        rw [rounds_succ]
        go_wp2
        have hj1 : (k : Int) + 1 ≤ s.size := by omega
        have hj0 : 0 ≤ (k : Int) + 1 := by omega
        have hj2 : (k : Int) ≤ (k : Int) + 1 := by omega
        have hj3 : IntKind.i64.wrap ((k : Int) + 1) = (k : Int) + 1 := IntWalk.i64_in _ (by omega)
        have hj4 : ((k : Int) + 1).toNat = k + 1 := by omega
        go_region_with (go_at_call 136; refine (refEncode_int _ _ (by omega) (by omega)).mono ?_; rintro e w' ⟨rfl, hx'⟩)
        clear hj1 hj0 hj2 hj3 hj4
        go_wp2
        all_goals have hyn : ((str (encN (s[k].toNat : Int).toNat)).toList == (s.extract k (k + 1)).toList) = true ∨ ((str (encN (s[k].toNat : Int).toNat)).toList == (s.extract k (k + 1)).toList) = false := by first | exact Or.inl ‹_› | exact Or.inr ‹_›
        all_goals have hl := HL.out
        all_goals subst hl
        all_goals first
          | (have hfin := ref_yes s k 1 (by omega) (by omega) hn' _ hacc.out hd.out ‹_›; go_ret2; exact ⟨by rw [hfin]; exact ret2_eq (by simp only []; omega) rfl, (hx.drew).trans hx'⟩)
          | (have hfin := ref_no s k 1 (by omega) (by omega) hn' _ hacc.out hd.out ‹_›; go_roundw; (case rel => (first | exact ⟨1 + 1, by omega, by omega, by omega, rfl, hfin, (hx.drew).trans hx'⟩ | ((repeat apply Exists.intro); exact ⟨⟨1 + 1, by omega, by omega, by omega, rfl, hfin, (hx.drew).trans hx'⟩, rfl⟩))); (case measure => simp [intOf]))
      · clear h1 h5 h4 hn
        have b0 := byteInt (s[k]'(by omega))
        have b1 := byteInt (s[k + 1]'(by omega))
        have hacc : Hid (acc 2 (s.data.toList.drop k) (2 - 1) = ((s[k].toNat : Int) % 32 * 64 + (s[k + 1].toNat : Int) % 64).toNat) := by
          show _ = _
          simp only [acc, accStart, show 2 - 1 = 1 from rfl, getD_at s k 0 (by omega), getD_at s k 1 (by omega)]
          simp
          omega
        go_wp2
        refine wp_loop_rounds 2 ?_
        rw [rounds_succ]
        go_wp2
        rw [rounds_succ]
        go_wp2
        have hj1 : (k : Int) + 2 ≤ s.size := by omega
        have hj0 : 0 ≤ (k : Int) + 2 := by omega
        have hj2 : (k : Int) ≤ (k : Int) + 2 := by omega
        have hj3 : IntKind.i64.wrap ((k : Int) + 2) = (k : Int) + 2 := IntWalk.i64_in _ (by omega)
        have hj4 : ((k : Int) + 2).toNat = k + 2 := by omega
        go_region_with (go_at_call 136; refine (refEncode_int _ _ (by omega) (by omega)).mono ?_; rintro e w' ⟨rfl, hx'⟩)
        clear hj1 hj0 hj2 hj3 hj4
        go_wp2
        all_goals have hyn : ((str (encN ((s[k].toNat : Int) % 32 * 64 + (s[k + 1].toNat : Int) % 64).toNat)).toList == (s.extract k (k + 2)).toList) = true ∨ ((str (encN ((s[k].toNat : Int) % 32 * 64 + (s[k + 1].toNat : Int) % 64).toNat)).toList == (s.extract k (k + 2)).toList) = false := by first | exact Or.inl ‹_› | exact Or.inr ‹_›
        all_goals have hl := HL.out
        all_goals subst hl
        all_goals first
          | (have hfin := ref_yes s k 2 (by omega) (by omega) hn' _ hacc.out hd.out ‹_›; go_ret2; exact ⟨by rw [hfin]; exact ret2_eq (by simp only []; omega) rfl, (hx.drew).trans hx'⟩)
          | (have hfin := ref_no s k 2 (by omega) (by omega) hn' _ hacc.out hd.out ‹_›; go_roundw; (case rel => (first | exact ⟨2 + 1, by omega, by omega, by omega, rfl, hfin, (hx.drew).trans hx'⟩ | ((repeat apply Exists.intro); exact ⟨⟨2 + 1, by omega, by omega, by omega, rfl, hfin, (hx.drew).trans hx'⟩, rfl⟩))); (case measure => simp [intOf]))
      · clear h1 h5 h4 hn
        have b0 := byteInt (s[k]'(by omega))
        have b1 := byteInt (s[k + 1]'(by omega))
        have b2 := byteInt (s[k + 2]'(by omega))
        have hacc : Hid (acc 3 (s.data.toList.drop k) (3 - 1) = (((s[k].toNat : Int) % 16 * 64 + (s[k + 1].toNat : Int) % 64) * 64 + (s[k + 2].toNat : Int) % 64).toNat) := by
          show _ = _
          simp only [acc, accStart, show 3 - 1 = 2 from rfl, getD_at s k 0 (by omega), getD_at s k 1 (by omega), getD_at s k 2 (by omega)]
          simp
          omega
        go_wp2
        refine wp_loop_rounds 3 ?_
        rw [rounds_succ]
        go_wp2
        rw [rounds_succ]
        go_wp2
        rw [rounds_succ]
        go_wp2
        have hj1 : (k : Int) + 3 ≤ s.size := by omega
        have hj0 : 0 ≤ (k : Int) + 3 := by omega
        have hj2 : (k : Int) ≤ (k : Int) + 3 := by omega
        have hj3 : IntKind.i64.wrap ((k : Int) + 3) = (k : Int) + 3 := IntWalk.i64_in _ (by omega)
        have hj4 : ((k : Int) + 3).toNat = k + 3 := by omega
        go_region_with (go_at_call 136; refine (refEncode_int _ _ (by omega) (by omega)).mono ?_; rintro e w' ⟨rfl, hx'⟩)
        clear hj1 hj0 hj2 hj3 hj4
        go_wp2
        all_goals have hyn : ((str (encN (((s[k].toNat : Int) % 16 * 64 + (s[k + 1].toNat : Int) % 64) * 64 + (s[k + 2].toNat : Int) % 64).toNat)).toList == (s.extract k (k + 3)).toList) = true ∨ ((str (encN (((s[k].toNat : Int) % 16 * 64 + (s[k + 1].toNat : Int) % 64) * 64 + (s[k + 2].toNat : Int) % 64).toNat)).toList == (s.extract k (k + 3)).toList) = false := by first | exact Or.inl ‹_› | exact Or.inr ‹_›
        all_goals have hl := HL.out
        all_goals subst hl
        all_goals first
          | (have hfin := ref_yes s k 3 (by omega) (by omega) hn' _ hacc.out hd.out ‹_›; go_ret2; exact ⟨by rw [hfin]; exact ret2_eq (by simp only []; omega) rfl, (hx.drew).trans hx'⟩)
          | (have hfin := ref_no s k 3 (by omega) (by omega) hn' _ hacc.out hd.out ‹_›; go_roundw; (case rel => (first | exact ⟨3 + 1, by omega, by omega, by omega, rfl, hfin, (hx.drew).trans hx'⟩ | ((repeat apply Exists.intro); exact ⟨⟨3 + 1, by omega, by omega, by omega, rfl, hfin, (hx.drew).trans hx'⟩, rfl⟩))); (case measure => simp [intOf]))
      · clear h1 h5 h4 hn
        have b0 := byteInt (s[k]'(by omega))
        have b1 := byteInt (s[k + 1]'(by omega))
        have b2 := byteInt (s[k + 2]'(by omega))
        have b3 := byteInt (s[k + 3]'(by omega))
        have hacc : Hid (acc 4 (s.data.toList.drop k) (4 - 1) = ((((s[k].toNat : Int) % 8 * 64 + (s[k + 1].toNat : Int) % 64) * 64 + (s[k + 2].toNat : Int) % 64) * 64 + (s[k + 3].toNat : Int) % 64).toNat) := by
          show _ = _
          simp only [acc, accStart, show 4 - 1 = 3 from rfl, getD_at s k 0 (by omega), getD_at s k 1 (by omega), getD_at s k 2 (by omega), getD_at s k 3 (by omega)]
          simp
          omega
        go_wp2
        refine wp_loop_rounds 4 ?_
        rw [rounds_succ]
        go_wp2
        rw [rounds_succ]
        go_wp2
        rw [rounds_succ]
        go_wp2
        rw [rounds_succ]
        go_wp2
        have hj1 : (k : Int) + 4 ≤ s.size := by omega
        have hj0 : 0 ≤ (k : Int) + 4 := by omega
        have hj2 : (k : Int) ≤ (k : Int) + 4 := by omega
        have hj3 : IntKind.i64.wrap ((k : Int) + 4) = (k : Int) + 4 := IntWalk.i64_in _ (by omega)
        have hj4 : ((k : Int) + 4).toNat = k + 4 := by omega
        go_region_with (go_at_call 136; refine (refEncode_int _ _ (by omega) (by omega)).mono ?_; rintro e w' ⟨rfl, hx'⟩)
        clear hj1 hj0 hj2 hj3 hj4
        go_wp2
        all_goals have hyn : ((str (encN ((((s[k].toNat : Int) % 8 * 64 + (s[k + 1].toNat : Int) % 64) * 64 + (s[k + 2].toNat : Int) % 64) * 64 + (s[k + 3].toNat : Int) % 64).toNat)).toList == (s.extract k (k + 4)).toList) = true ∨ ((str (encN ((((s[k].toNat : Int) % 8 * 64 + (s[k + 1].toNat : Int) % 64) * 64 + (s[k + 2].toNat : Int) % 64) * 64 + (s[k + 3].toNat : Int) % 64).toNat)).toList == (s.extract k (k + 4)).toList) = false := by first | exact Or.inl ‹_› | exact Or.inr ‹_›
        all_goals have hl := HL.out
        all_goals subst hl
        all_goals first
          | (have hfin := ref_yes s k 4 (by omega) (by omega) hn' _ hacc.out hd.out ‹_›; go_ret2; exact ⟨by rw [hfin]; exact ret2_eq (by simp only []; omega) rfl, (hx.drew).trans hx'⟩)
          | (have hfin := ref_no s k 4 (by omega) (by omega) hn' _ hacc.out hd.out ‹_›; go_roundw; (case rel => (first | exact ⟨4 + 1, by omega, by omega, by omega, rfl, hfin, (hx.drew).trans hx'⟩ | ((repeat apply Exists.intro); exact ⟨⟨4 + 1, by omega, by omega, by omega, rfl, hfin, (hx.drew).trans hx'⟩, rfl⟩))); (case measure => simp [intOf]))
    · have hfin : dec l = (0, 0) := by
        rw [hd.out]
        have hlen : l.length = s.size - k := by rw [← HL.out, List.length_drop, data_len]
        cases h : 5 - n with
        | zero => rfl
        | succ m => rw [refFrom, if_neg (by omega)]
      have HF := Lib.hid hfin
      clear hfin hd
      by_cases h6 : n = 5
      · subst h6
        go_wp2
        all_goals go_ret2
        all_goals exact ⟨by rw [HF.out]; rfl, hx⟩
      · have h7 : s.size < k + n := by omega
        clear hlt h6
        go_wp2
        all_goals go_ret2
        all_goals exact ⟨by rw [HF.out]; rfl, hx⟩
end Go.Proofs.YtgecijhgonfldaaGreatDoor
