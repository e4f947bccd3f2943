/- Parts of the proof: contracts and plain laws that the statement needs. -/
import Derived.Shelf.Unicode.ValidAny
import Derived.Shelf.Strings.Builder1
import Derived.Shelf.Small.Utf8
import Derived.Shelf.Small.Bits
import Derived.Shelf.Small.Wraps
import Derived.Shelf.Strings.BuilderF
import Derived.Shelf.Strings.BuilderK
import Derived.Shelf.Strconv.Itoa0
import Derived.Shelf.Strconv.Itoa1
import Derived.Shelf.LaysM
import Derived.Shelf.Strconv.Itoa2
import Derived.Shelf.Strconv.Itoa3
import Derived.Shelf.Strconv.Itoa4
import Derived.Shelf.Unicode.Decode
import Derived.Shelf.Unicode.DecodeSlow
import Derived.Shelf.Unicode.DecodeAny
import Derived.Shelf.Strings.BuilderCap
import Derived.Shelf.Slices.Turned
import Derived.Shelf.Slices.Equal
import Derived.Ground.Names2Prog
import Derived.Shelf.Slices.Clone
import Derived.Shelf.Slices.Empties2
import Derived.Ground.SlgnProg
import Derived.Shelf.SlicesE.Equal
import Derived.Shelf.SlicesE.Clone
import Derived.Ground.SlgqProg
import Derived.Shelf.SlicesQ.Equal
import Derived.Ground.SlgfProg
import Derived.Shelf.SlicesQ.IndexFunc
import Derived.Shelf.SlicesQ.Reverse
import Derived.Ground.SlsfProg
import Derived.Test.YtgecijhgonfldaaGreatDoorProg
import Derived.Test.YtgecijhgonfldaaGreatDoorQ02
import Derived.Lib.ItoaLen
import Derived.Lib.AppendIntMem
import Derived.Test.YtgecijhgonfldaaGreatDoorQ00
namespace Go.Proofs.YtgecijhgonfldaaGreatDoor
open Go Go.RowKit
set_option linter.unusedVariables false
def qPre (l : List UInt8) (k : Nat) : List UInt8 := 34 :: (l.take k).flatMap qB
theorem qPre_step (s : ByteArray) (k : Nat) (hk : k < s.size) : qPre s.data.toList (k + 1) = qPre s.data.toList k ++ qB s[k] := by
  unfold qPre
  rw [List.take_succ_eq_append_getElem (by rw [data_len]; exact hk)]
  simp
  rfl
theorem qPre_len (l : List UInt8) (k : Nat) : (qPre l k).length ≤ 1 + 6 * k := by
  unfold qPre
  have h := flat_len (l.take k)
  have h2 : (l.take k).length ≤ k := List.length_take_le _ _
  simp only [List.length_cons]
  omega
theorem qPre_all (l : List UInt8) : qPre l l.length ++ [34] = quoteL l := by
  unfold qPre quoteL
  simp
theorem hexGet (n : Nat) (hn : n < 16) (h : n < ({ data := #[48, 49, 50, 51, 52, 53, 54, 55, 56, 57, 97, 98, 99, 100, 101, 102] } : ByteArray).size) : ({ data := #[48, 49, 50, 51, 52, 53, 54, 55, 56, 57, 97, 98, 99, 100, 101, 102] } : ByteArray)[n] = hexD n := by
  have hc : n = 0 ∨ n = 1 ∨ n = 2 ∨ n = 3 ∨ n = 4 ∨ n = 5 ∨ n = 6 ∨ n = 7 ∨ n = 8 ∨ n = 9 ∨ n = 10 ∨ n = 11 ∨ n = 12 ∨ n = 13 ∨ n = 14 ∨ n = 15 := by omega
  rcases hc with rfl | rfl | rfl | rfl | rfl | rfl | rfl | rfl | rfl | rfl | rfl | rfl | rfl | rfl | rfl | rfl <;> rfl
theorem letterN_lt (n : Nat) (h : n < 256) : letterN n < 256 := by
  unfold letterN
  repeat' split
  all_goals omega
set_option maxRecDepth 100000 in
set_option maxHeartbeats 1000000 in
theorem ref10Quote_any (s : ByteArray) (w : World) (hs : s.size ≤ 16777216) :
    Calls Tryz.prog 130 #[.string s] w fun e w' => e = .returned (.tuple #[.string (quoteS s).1, .int .i64 ((quoteS s).2 : Nat)]) ∧ Ext w w' := by
  have hval := ref10Valid_any s w hs
  obtain ⟨V, hV⟩ : ∃ V, Lib.validD s.data.toList = V := ⟨_, rfl⟩
  rw [hV] at hval
  have hq : quoteS s = if V then (str (quoteL s.data.toList), 0) else (str [], 5) := by unfold quoteS; rw [hV]
  rw [hq]
  clear hq hV
  have HVAL := Lib.hid hval
  clear hval
  obtain ⟨i0, hi0, hz0, hz1, hz2⟩ := info_parts info_u8
  cases V
  · go_enter Tryz.func130, Tryz.ntmps130
    go_wp2_with (go_at_call 160; refine (HVAL.out).mono ?_; rintro e w' ⟨rfl, hx⟩)
    go_ret2
    exact ⟨rfl, hx⟩
  · obtain ⟨Q, hQ⟩ : ∃ Q, quoteL s.data.toList = Q := ⟨_, rfl⟩
    rw [hQ]
    have HQ := Lib.hid hQ
    clear hQ
    simp only [if_true]
    go_enter Tryz.func130, Tryz.ntmps130
    go_wp2_with (go_at_call 160; refine (HVAL.out).mono ?_; rintro e w' ⟨rfl, hx⟩)
    have hwz := hx.size
    go_loopw [4, 5, 6] (fun v i _ wr => ∃ k : Nat, k ≤ s.size ∧ i = .int .i64 k ∧ wr.ownsRow w.heap.size 5 1 v (qPre s.data.toList k).length (Lib.byteCells (qPre s.data.toList k)) ∧ Ext w wr) (fun _ i _ _ => s.size - (intOf i).toNat)
    case atStart => exact ⟨0, Nat.zero_le _, rfl, own_new (cs := [.int .u8 34]) hwz (by simp) (by unfold maxLen; omega), hx.alloc _⟩
    case round =>
      obtain ⟨k, hk, rfl, hown, hx2⟩ := hrel
      have hsz := hx2.size
      have hle := qPre_len s.data.toList k
      by_cases hlt : k < s.size
      · have hst := qPre_step s k hlt
        have HOWN := hown
        obtain ⟨_, A, c, rfl, hmc, hcm, _, _⟩ := RSl.of_own hown
        have hlc := letter_any s[k].toNat
        have hb8 := byteInt s[k]
        by_cases hl : letterN s[k].toNat = 0
        · rw [hl] at hlc
          have HLC := Lib.hid hlc
          clear hlc
          by_cases h32 : s[k].toNat < 32
          · rw [qB_hex _ hl h32] at hst
            replace hst := Lib.hid hst
            have HL := Lib.hid hl
            clear hl
            go_wp2_with (go_at_call 161; refine (HLC.out _).mono ?_; rintro e w' ⟨rfl, rfl⟩)
            obtain ⟨a, ha⟩ : ∃ a, s[k].toNat / 16 = a := ⟨_, rfl⟩
            obtain ⟨b, hb⟩ : ∃ b, s[k].toNat % 16 = b := ⟨_, rfl⟩
            rw [ha, hb] at hst
            have ha16 : (a : Int) < 16 := by omega
            have hb16 : (b : Int) < 16 := by omega
            have hw1 : IntKind.u8.wrap ((s[k].toNat : Int) / 16) = (a : Int) := by rw [IntKind.wrap_u8]; omega
            have hw2 : ((s[k].toNat : Int)).tmod 16 = (b : Int) := by rw [Int.tmod_eq_emod_of_nonneg (by omega)]; omega
            clear ha hb
            go_region_law (refine step_append_rsl _ rfl (.tmp 36) (.tmp 43) _ rfl w.heap.size 5 i0 _ 1 1 Tryz.underlying107 hi0 hz0 hz1 hz2 rfl (by omega) _ _ _ rfl ((HOWN.alloc _).drew) _ 6 _ rfl (RSl.ext (rsl_new (by simp) (by unfold maxLen; omega)) (Ext.refl _).drew) (by intro y hy; simp at hy; rcases hy with rfl | rfl | rfl | rfl | rfl <;> rfl) (by unfold maxLen; omega) (by omega) (by simp; omega) ?_; intro v1 wa1 hown1 hg1 hat1)
            all_goals have hx3 : Ext w wa1 := ((hx2.alloc _).drew).app hg1 (HOWN.alloc _).drew (Nat.le_refl _)
            all_goals rw [hexGet a (by omega), hexGet b (by omega)] at hown1
            all_goals have hown2 : wa1.ownsRow w.heap.size 5 1 v1 (qPre s.data.toList (k + 1)).length (Lib.byteCells (qPre s.data.toList (k + 1))) := (by rw [hst.out, byteCells_app, List.length_append]; exact hown1)
            all_goals clear hg1 hat1 hown1
            all_goals go_wp2
            all_goals go_roundw
            all_goals first
              | exact ⟨k + 1, by omega, by go_num, hown2, hx3⟩
              | (simp [intOf]; omega)
              | ((repeat apply Exists.intro); exact ⟨⟨k + 1, by omega, by go_num, hown2, hx3⟩, rfl⟩)
          · rw [qB_none _ hl (by omega)] at hst
            replace hst := Lib.hid hst
            have HL := Lib.hid hl
            clear hl
            go_wp2_with (first | (go_at_call 161; refine (HLC.out _).mono ?_; rintro e w' ⟨rfl, rfl⟩) | (at_builtin; refine wpList_append_rsl _ rfl (.tmp 20) (.tmp 22) _ rfl w.heap.size 5 i0 _ 1 1 Tryz.underlying107 hi0 hz0 hz1 hz2 rfl (by omega) _ _ _ rfl (HOWN.alloc _) _ 1 _ rfl (rsl_new (cs := [.int .u8 s[k].toNat]) (by simp) (by unfold maxLen; omega)) (by intro y hy; simp at hy; (first | (rcases hy with rfl | rfl <;> rfl) | (subst hy; rfl))) (by unfold maxLen; omega) (by omega) (by simp; omega) ?_; intro v1 wa1 hown1 hg1 hat1))
            have hx3 : Ext w wa1 := (hx2.alloc _).app hg1 (HOWN.alloc _) (Nat.le_refl _)
            have hown2 : wa1.ownsRow w.heap.size 5 1 v1 (qPre s.data.toList (k + 1)).length (Lib.byteCells (qPre s.data.toList (k + 1))) := by
              rw [hst.out, byteCells_app, List.length_append]; exact hown1
            clear hg1 hat1 hown1
            go_wp2
            go_roundw
            case rel => first | exact ⟨k + 1, by omega, by go_num, hown2, hx3⟩ | ((repeat apply Exists.intro); exact ⟨⟨k + 1, by omega, by go_num, hown2, hx3⟩, rfl⟩)
            case measure => simp [intOf]; omega
        · rw [qB_letter _ hl] at hst
          replace hst := Lib.hid hst
          have hlt8 := letterN_lt s[k].toNat (byte_lt _)
          obtain ⟨N, hN⟩ : ∃ N, letterN s[k].toNat = N := ⟨_, rfl⟩
          rw [hN] at hlc hst hl hlt8
          have HLC := Lib.hid hlc
          have hb : ((N : Int) != 0) = true := by rw [bne_iff_ne]; omega
          clear hlc hN hl
          go_wp2_with (first | (go_at_call 161; refine (HLC.out _).mono ?_; rintro e w' ⟨rfl, rfl⟩) | (at_builtin; refine wpList_append_rsl _ rfl (.tmp 28) (.tmp 31) _ rfl w.heap.size 5 i0 _ 1 1 Tryz.underlying107 hi0 hz0 hz1 hz2 rfl (by omega) _ _ _ rfl (HOWN.alloc _) _ 2 _ rfl (rsl_new (cs := [.int .u8 92, .int .u8 (N : Nat)]) (by simp) (by unfold maxLen; omega)) (by intro y hy; simp at hy; (first | (rcases hy with rfl | rfl <;> rfl) | (subst hy; rfl))) (by unfold maxLen; omega) (by omega) (by simp; omega) ?_; intro v1 wa1 hown1 hg1 hat1))
          have hx3 : Ext w wa1 := (hx2.alloc _).app hg1 (HOWN.alloc _) (Nat.le_refl _)
          have hown2 : wa1.ownsRow w.heap.size 5 1 v1 (qPre s.data.toList (k + 1)).length (Lib.byteCells (qPre s.data.toList (k + 1))) := by
            rw [hst.out, byteCells_app, List.length_append]; rw [show Lib.byteCells [92, UInt8.ofNat N] = [Value.int .u8 92, Value.int .u8 (N : Nat)] from by simp [Lib.byteCells, Nat.mod_eq_of_lt hlt8]]; exact hown1
          clear hg1 hat1 hown1
          go_wp2
          go_roundw
          case rel => first | exact ⟨k + 1, by omega, by go_num, hown2, hx3⟩ | ((repeat apply Exists.intro); exact ⟨⟨k + 1, by omega, by go_num, hown2, hx3⟩, rfl⟩)
          case measure => simp [intOf]; omega
      · have hke : k = s.size := by omega
        subst hke
        have HQ2 : Hid (str (qPre s.data.toList s.size ++ [34]) = str Q) := by
          show _ = _
          rw [← HQ.out, ← qPre_all]; rfl
        have HOWN := hown
        obtain ⟨_, A, c, rfl, hmc, hcm, _, _⟩ := RSl.of_own hown
        go_wp2_with (at_builtin; refine wpList_append_rsl _ rfl (.tmp 45) (.tmp 46) _ rfl w.heap.size 5 i0 _ 1 1 Tryz.underlying107 hi0 hz0 hz1 hz2 rfl (by omega) _ _ _ rfl (HOWN.alloc _) _ 1 _ rfl (rsl_new (cs := [.int .u8 34]) (by simp) (by unfold maxLen; omega)) (by intro y hy; simp at hy; subst hy; rfl) (by unfold maxLen; omega) (by omega) (by simp; omega) ?_; intro v1 wa1 hown1 hg1 hat1; have hx3 : Ext w wa1 := (hx2.alloc _).app hg1 (HOWN.alloc _) (Nat.le_refl _); have kc := conv_own wa1 w.heap.size v1 (qPre s.data.toList s.size ++ [34]) (by rw [byteCells_app, List.length_append]; exact hown1); rw [HQ2.out] at kc; clear hg1 hat1 hown1)
        go_ret2
        exact ⟨rfl, hx3⟩
end Go.Proofs.YtgecijhgonfldaaGreatDoor
namespace Go.Proofs
open Go.Shelf
def Tryz.lays196_ren : Go.Shelf.Ren := ⟨fun | 196 => 179 | 259 => 183 | n => n, fun | 9 => 9 | 4 => 4 | 3 => 3 | 5 => 5 | 12 => 12 | 119 => 214 | 0 => 0 | 46 => 120 | 139 => 217 | 138 => 216 | 53 => 162 | n => n, fun | 3 => 0 | 4 => 1 | n => n⟩
theorem Tryz.lays196 : Go.Proofs.Lays.n196 Tryz.prog Tryz.lays196_ren := {
  mixed := by kernel_rfl
  f196 := Tryz.func179.trans (congrArg some (by kernel_rfl))
  f259 := Tryz.func183.trans (congrArg some (by kernel_rfl))
  t0 := Tryz.underlying0
  a0 := Tryz.isAgg0
  z0 := Tryz.sizeOf0
  v0 := Tryz.zeroValue0
  t3 := Tryz.underlying3
  a3 := Tryz.isAgg3
  z3 := Tryz.sizeOf3
  v3 := Tryz.zeroValue3
  t4 := Tryz.underlying4
  a4 := Tryz.isAgg4
  z4 := Tryz.sizeOf4
  v4 := Tryz.zeroValue4
  t5 := Tryz.underlying5
  a5 := Tryz.isAgg5
  z5 := Tryz.sizeOf5
  v5 := Tryz.zeroValue5
  t9 := Tryz.underlying9
  a9 := Tryz.isAgg9
  z9 := Tryz.sizeOf9
  v9 := Tryz.zeroValue9
  t12 := Tryz.underlying12
  a12 := Tryz.isAgg12
  z12 := Tryz.sizeOf12
  v12 := Tryz.zeroValue12
  t46 := Tryz.underlying120
  a46 := Tryz.isAgg120
  z46 := Tryz.sizeOf120
  v46 := Tryz.zeroValue120
  t53 := Tryz.underlying162
  a53 := Tryz.isAgg162
  z53 := Tryz.sizeOf162
  v53 := Tryz.zeroValue162
  t119 := Tryz.underlying214
  a119 := Tryz.isAgg214
  z119 := Tryz.sizeOf214
  t138 := Tryz.underlying216
  a138 := Tryz.isAgg216
  z138 := Tryz.sizeOf216
  v138 := Tryz.zeroValue216
  t139 := Tryz.underlying217
  a139 := Tryz.isAgg217
  z139 := Tryz.sizeOf217
  v139 := Tryz.zeroValue217
  g3 := by kernel_rfl
  g4 := by kernel_rfl }
open Go.RowKit in
theorem Tryz.utf8_ValidString (s : ByteArray) (w : World) (hs : s.size ≤ 9223372036854775807) (hT : Lib.Utf8Tabs 0 1 w) :
    Calls Tryz.prog 179 #[.string s] w fun e w' => e = .returned (.bool (Lib.validD s.data.toList)) ∧ Below w.heap.size w w' := Any.utf8_ValidString Tryz.lays196 s w hs hT
end Go.Proofs
namespace Go.Proofs.YtgecijhgonfldaaGreatDoor
open Go Go.RowKit
set_option linter.unusedVariables false
theorem validString_any (s : ByteArray) (w : World) (hE : Env w) (hs : s.size ≤ 16777216) :
    Calls Tryz.prog 179 #[.string s] w fun e w' => e = .returned (.bool (Lib.validD s.data.toList)) ∧ Ext w w' :=
  Tryz.utf8_ValidString s w (by omega) hE.utf8
theorem letAt0 (w : World) : (Instr.index 232 (.agg #[.int .u8 98, .int .u8 8, .int .u8 102, .int .u8 12, .int .u8 110, .int .u8 10, .int .u8 114, .int .u8 13, .int .u8 116, .int .u8 9]) (.int .i64 0)).run Tryz.prog w = .ok (.agg #[.int .u8 98, .int .u8 8]) w := by kernel_rfl
theorem letAt1 (w : World) : (Instr.index 232 (.agg #[.int .u8 98, .int .u8 8, .int .u8 102, .int .u8 12, .int .u8 110, .int .u8 10, .int .u8 114, .int .u8 13, .int .u8 116, .int .u8 9]) (.int .i64 1)).run Tryz.prog w = .ok (.agg #[.int .u8 102, .int .u8 12]) w := by kernel_rfl
theorem letAt2 (w : World) : (Instr.index 232 (.agg #[.int .u8 98, .int .u8 8, .int .u8 102, .int .u8 12, .int .u8 110, .int .u8 10, .int .u8 114, .int .u8 13, .int .u8 116, .int .u8 9]) (.int .i64 2)).run Tryz.prog w = .ok (.agg #[.int .u8 110, .int .u8 10]) w := by kernel_rfl
theorem letAt3 (w : World) : (Instr.index 232 (.agg #[.int .u8 98, .int .u8 8, .int .u8 102, .int .u8 12, .int .u8 110, .int .u8 10, .int .u8 114, .int .u8 13, .int .u8 116, .int .u8 9]) (.int .i64 3)).run Tryz.prog w = .ok (.agg #[.int .u8 114, .int .u8 13]) w := by kernel_rfl
theorem letAt4 (w : World) : (Instr.index 232 (.agg #[.int .u8 98, .int .u8 8, .int .u8 102, .int .u8 12, .int .u8 110, .int .u8 10, .int .u8 114, .int .u8 13, .int .u8 116, .int .u8 9]) (.int .i64 4)).run Tryz.prog w = .ok (.agg #[.int .u8 116, .int .u8 9]) w := by kernel_rfl
theorem hexSl (n : Nat) (hn : n < 16) : ({ data := #[48, 49, 50, 51, 52, 53, 54, 55, 56, 57, 97, 98, 99, 100, 101, 102] } : ByteArray).extract ((n : Int)).toNat ((n : Int) + 1).toNat = str [hexD n] := by
  have hc : n = 0 ∨ n = 1 ∨ n = 2 ∨ n = 3 ∨ n = 4 ∨ n = 5 ∨ n = 6 ∨ n = 7 ∨ n = 8 ∨ n = 9 ∨ n = 10 ∨ n = 11 ∨ n = 12 ∨ n = 13 ∨ n = 14 ∨ n = 15 := by omega
  rcases hc with rfl | rfl | rfl | rfl | rfl | rfl | rfl | rfl | rfl | rfl | rfl | rfl | rfl | rfl | rfl | rfl <;> exact bytes_inj (by decide)
theorem hexText (x : Int) (a b : Nat) (ha : a < 16) (hb : b < 16) (hxa : x / 16 = (a : Int)) (hxb : x % 16 = (b : Int)) :
    ({ data := #[92, 117, 48, 48] } : ByteArray) ++ ({ data := #[48, 49, 50, 51, 52, 53, 54, 55, 56, 57, 97, 98, 99, 100, 101, 102] } : ByteArray).extract (x / 16).toNat (x / 16 + 1).toNat ++ ({ data := #[48, 49, 50, 51, 52, 53, 54, 55, 56, 57, 97, 98, 99, 100, 101, 102] } : ByteArray).extract (x % 16).toNat (x % 16 + 1).toNat = str [92, 117, 48, 48, hexD a, hexD b] := by
  rw [hxa, hxb, hexSl a ha, hexSl b hb]
  rfl
theorem conv2n (w : World) (a b : Int) (n : Nat) (h : n = w.heap.size) : (convert 107 9 (.slice (some ⟨n, 0, none⟩) 2 2)).run Tryz.prog (w.alloc (.cells #[.int .u8 a, .int .u8 b] 5)) = .ok (.string (strOfNums [a, b])) (w.alloc (.cells #[.int .u8 a, .int .u8 b] 5)) := by subst h; exact conv2 w a b
attribute [local go_sem] conv2n letAt0 letAt1 letAt2 letAt3 letAt4
set_option maxRecDepth 100000 in
set_option maxHeartbeats 2000000 in
theorem escape_any (c : UInt8) (w : World) (hE : Env w) :
    Calls Tryz.prog 188 #[.int .u8 (c.toNat : Nat)] w fun e w' => e = .returned (.string (str (escB c))) ∧ Ext w w' := by
  obtain ⟨L, hL⟩ : ∃ L, escB c = L := ⟨_, rfl⟩
  rw [hL]
  have HL := Lib.hid hL
  clear hL
  obtain ⟨x, hx⟩ : ∃ x : Int, (c.toNat : Int) = x := ⟨_, rfl⟩
  have hx1 := byteInt c
  rw [hx] at hx1 ⊢
  have hx0 : 0 ≤ x := by omega
  have HX := Lib.hid hx
  clear hx
  obtain ⟨t, fr, hlet⟩ := hE.letters
  by_cases hq : x = 34 ∨ x = 92
  · have hf : Hid (L = [92, UInt8.ofNat x.toNat]) := by
      show _ = _
      have := HX.out
      rw [← HL.out]; unfold escB; rw [if_pos (by omega), show x.toNat = c.toNat by omega]; simp
    clear HX HL
    rcases hq with rfl | rfl
    all_goals go_enter Tryz.func188, Tryz.ntmps188
    all_goals go_wp2
    all_goals go_ret
    all_goals exact ⟨by rw [hf.out]; rfl, by repeat (first | exact Ext.refl _ | apply Ext.drew | apply Ext.alloc | (refine Ext.setCell ?_ (by simp) _))⟩
  · have hq1 : (x == 34) = false := by rw [beq_eq_false_iff_ne]; omega
    have hq2 : (x == 92) = false := by rw [beq_eq_false_iff_ne]; omega
    clear hq
    by_cases h32 : 32 ≤ x
    · have hf : Hid (L = []) := by
        show _ = _
        have := HX.out
        rw [beq_eq_false_iff_ne] at hq1 hq2
        rw [← HL.out]; unfold escB; rw [if_neg (by omega), if_pos (by omega)]
      go_enter Tryz.func188, Tryz.ntmps188
      go_wp2
      all_goals go_ret
      all_goals exact ⟨by rw [hf.out]; rfl, Ext.refl _⟩
    · have h5 : (x = 8 ∨ x = 9 ∨ x = 10 ∨ x = 12 ∨ x = 13) ∨ (x ≠ 8 ∧ x ≠ 9 ∧ x ≠ 10 ∧ x ≠ 12 ∧ x ≠ 13) := by omega
      rcases h5 with h5 | h5
      · have hf : Hid (L = [92, UInt8.ofNat (letterN x.toNat)]) := by
          show _ = _
          have := HX.out
          rw [← HL.out, escB_letter c (by rcases h5 with h | h | h | h | h <;> (rw [show c.toNat = x.toNat by omega, h]; decide)), show c.toNat = x.toNat by omega]
        clear HX HL
        clear hq1 hq2
        rcases h5 with rfl | rfl | rfl | rfl | rfl
        all_goals go_enter Tryz.func188, Tryz.ntmps188
        all_goals go_wp2_with (refine wpList_load_row rfl 232 _ rfl 3 rfl t _ fr _ hlet Tryz.underlying232 rfl (by kernel_rfl) ?_)
        all_goals refine wp_loop_rounds 5 ?_
        all_goals rw [rounds_succ]
        all_goals go_wp2
        all_goals try rw [rounds_succ]
        all_goals try go_wp2
        all_goals try rw [rounds_succ]
        all_goals try go_wp2
        all_goals try rw [rounds_succ]
        all_goals try go_wp2
        all_goals try rw [rounds_succ]
        all_goals try go_wp2
        all_goals go_ret
        all_goals exact ⟨by rw [hf.out, str_nums]; rfl, by repeat (first | exact Ext.refl _ | apply Ext.drew | apply Ext.alloc | (refine Ext.setCell ?_ (by simp) _))⟩
      · obtain ⟨n8, n9, n10, n12, n13⟩ := h5
        obtain ⟨a, ha⟩ : ∃ a, c.toNat / 16 = a := ⟨_, rfl⟩
        obtain ⟨b, hb⟩ : ∃ b, c.toNat % 16 = b := ⟨_, rfl⟩
        have hxc := HX.out
        have hf : Hid (L = [92, 117, 48, 48, hexD a, hexD b]) := by
          show _ = _
          rw [beq_eq_false_iff_ne] at hq1 hq2
          rw [← HL.out, escB_hex c (by unfold letterN; (repeat' split) <;> omega) (by omega), ha, hb]
        have m8 : ((8 : Int) == x) = false := by rw [beq_eq_false_iff_ne]; omega
        have m9 : ((9 : Int) == x) = false := by rw [beq_eq_false_iff_ne]; omega
        have m10 : ((10 : Int) == x) = false := by rw [beq_eq_false_iff_ne]; omega
        have m12 : ((12 : Int) == x) = false := by rw [beq_eq_false_iff_ne]; omega
        have m13 : ((13 : Int) == x) = false := by rw [beq_eq_false_iff_ne]; omega
        have hxa : Hid (x / 16 = (a : Int)) := by show _ = _; omega
        have hxb : Hid (x % 16 = (b : Int)) := by show _ = _; omega
        have ha16 : (a : Int) < 16 := by omega
        have hb16 : (b : Int) < 16 := by omega
        clear HX HL n8 n9 n10 n12 n13 ha hb hxc
        go_enter Tryz.func188, Tryz.ntmps188
        go_wp2_with (refine wpList_load_row rfl 232 _ rfl 3 rfl t _ fr _ hlet Tryz.underlying232 rfl (by kernel_rfl) ?_)
        refine wp_loop_rounds 6 ?_
        rw [rounds_succ]
        go_wp2
        rw [rounds_succ]
        go_wp2
        rw [rounds_succ]
        go_wp2
        rw [rounds_succ]
        go_wp2
        rw [rounds_succ]
        go_wp2
        rw [rounds_succ]
        go_wp2
        go_region
        have ht := hexText x a b (by omega) (by omega) hxa.out hxb.out
        rw [ht, ← hf.out]
        clear ht
        go_wp2
        go_ret
        exact ⟨rfl, by repeat (first | exact Ext.refl _ | apply Ext.drew | apply Ext.alloc | (refine Ext.setCell ?_ (by simp) _))⟩
end Go.Proofs.YtgecijhgonfldaaGreatDoor
namespace Go.Proofs.YtgecijhgonfldaaGreatDoor
open Go Go.RowKit
set_option linter.unusedVariables false
theorem isEmpty_str (l : List UInt8) : (str l).toList.isEmpty = l.isEmpty := by rw [toList_data, str_list]
theorem extract_list (s : ByteArray) (f k : Nat) (h : f ≤ k) : (s.extract f k).data.toList = (s.data.toList.drop f).take (k - f) := by
  simp
theorem cat_list (a b : ByteArray) : (a ++ b).data.toList = a.data.toList ++ b.data.toList := by simp
theorem seg_step (s : ByteArray) (f k : Nat) (h : f ≤ k) (hk : k < s.size) : (s.data.toList.drop f).take (k + 1 - f) = (s.data.toList.drop f).take (k - f) ++ [s[k]] := by
  rw [show k + 1 - f = (k - f) + 1 by omega, List.take_succ_eq_append_getElem (by rw [List.length_drop, data_len]; omega)]
  simp only [List.getElem_drop]
  congr 2
  have : f + (k - f) = k := by omega
  simp only [this]
  rfl
theorem own_ext {w w' : World} {base size n : Nat} {e : TypeId} {v : Value} {xs : List Value} (h : w.ownsRow base e size v n xs) (hx : Ext w w') : w'.ownsRow base e size v n xs :=
  h.kept (hx.grown none) (by cases v.ownBlock <;> simp)
theorem builder_ext {T e : TypeId} {B b : Nat} {bs : List Value} {w w' : World} (h : Lib.IsBuilder T e B b bs w) (hx : Ext w w') : Lib.IsBuilder T e B b bs w' := by
  rcases h with ⟨hB, v, hb, hown, hne⟩ | ⟨hB, v, hb, hown, hne⟩
  · exact Or.inl ⟨hB, v, hx.heap hb, own_ext hown hx, hne⟩
  · exact Or.inr ⟨hB, v, hx.heap hb, own_ext hown hx, hne⟩
set_option maxRecDepth 100000 in
set_option maxHeartbeats 1000000 in
theorem quote_any (s : ByteArray) (w : World) (hE : Env w) (hs : s.size ≤ 16777216) :
    Calls Tryz.prog 182 #[.string s] w fun e w' => e = .returned (.tuple #[.string (quoteS s).1, .int .i64 ((quoteS s).2 : Nat)]) ∧ Ext w w' := by
  have hval := validString_any s w hE hs
  obtain ⟨V, hV⟩ : ∃ V, Lib.validD s.data.toList = V := ⟨_, rfl⟩
  rw [hV] at hval
  have hq : quoteS s = if V then (str (quoteL s.data.toList), 0) else (str [], 5) := by unfold quoteS; rw [hV]
  rw [hq]
  clear hq hV
  have HVAL := Lib.hid hval
  clear hval
  cases V
  · go_enter Tryz.func182, Tryz.ntmps182
    go_wp2_with (go_at_call 179; refine (HVAL.out).mono ?_; rintro e w' ⟨rfl, hx⟩)
    go_ret2
    exact ⟨rfl, hx⟩
  · obtain ⟨Q, hQ⟩ : ∃ Q, quoteL s.data.toList = Q := ⟨_, rfl⟩
    rw [hQ]
    have HQ := Lib.hid hQ
    clear hQ
    simp only [if_true]
    go_enter Tryz.func182, Tryz.ntmps182
    go_wp2_with (go_at_call 179; refine (HVAL.out).mono ?_; rintro e w1 ⟨rfl, hx⟩)
    refine (builderWriteByte_any w1.heap.size _ [] _ _ (Lib.fresh_isBuilder _ _ _) (by simp) (by simp)).mono ?_
    rintro e w2 ⟨rfl, hB2, hx2⟩
    have hxx : Ext w w2 := (hx.alloc _).then (Below.mono hx2 hx.size)
    have hbz : w1.heap.size ≤ w2.heap.size := by have := hx2.size; simp at this; omega
    have hwz := hx.size
    go_wp2
    go_loopw [5, 6, 7, 14] (fun fr _ _ i wr => ∃ k f : Nat, k ≤ s.size ∧ f ≤ k ∧ i = .int .i64 k ∧ fr = .int .i64 f ∧ Lib.IsBuilder 131 5 w1.heap.size w1.heap.size (Lib.byteCells (qPre s.data.toList f)) wr ∧
        Hid (qPre s.data.toList k = qPre s.data.toList f ++ (s.data.toList.drop f).take (k - f)) ∧ Ext w wr ∧ w1.heap.size ≤ wr.heap.size) (fun _ _ _ i _ => s.size - (intOf i).toNat)
    case atStart => exact ⟨0, 0, Nat.zero_le _, Nat.zero_le _, rfl, rfl, hB2, by show _ = _; simp, hxx, hbz⟩
    case round =>
      obtain ⟨k, f, hk, hf, rfl, rfl, hB, hq, hx3, hbz3⟩ := hrel
      have hle := qPre_len s.data.toList f
      have hst := hE.ext hx3
      by_cases hlt : k < s.size
      · have hesc := escape_any s[k] wr hst
        have hqs := qPre_step s k hlt
        have hseg := seg_step s f k hf hlt
        obtain ⟨E, hEq⟩ : ∃ E, escB s[k] = E := ⟨_, rfl⟩
        have hlen := escB_len s[k]
        unfold qB at hqs
        rw [hEq] at hesc hqs hlen
        have HESC := Lib.hid hesc
        by_cases hE0 : E = []
        · subst hE0
          rw [if_pos rfl] at hqs
          have HQ3 : Hid (qPre s.data.toList (k + 1) = qPre s.data.toList f ++ (s.data.toList.drop f).take (k + 1 - f)) := by
            show _ = _
            rw [hqs, hq.out, hseg, List.append_assoc]
          have hem : (str ([] : List UInt8)).toList.isEmpty = true := isEmpty_str []
          have HEM := Lib.hid hem
          clear hesc hqs hseg hEq hq hem hlen
          go_wp2_with (go_at_call 188; refine (HESC.out).mono ?_; rintro e w' ⟨rfl, hx'⟩; have hem := HEM.out)
          go_roundw
          case rel => exact ⟨k + 1, f, by omega, by omega, by go_num, rfl, builder_ext hB hx', HQ3, hx3.trans hx', Nat.le_trans hbz3 hx'.size⟩
          case measure => simp [intOf]; omega
        · rw [if_neg hE0] at hqs
          have HQ3 : Hid (Lib.byteCells (qPre s.data.toList (k + 1)) = Lib.byteCells (qPre s.data.toList f) ++ Lib.byteCells (s.extract f k ++ str E).data.toList) := by
            show _ = _
            rw [hqs, hq.out, cat_list, extract_list s f k hf, str_list, List.append_assoc, byteCells_app]
          have hem : (str E).toList.isEmpty = false := by rw [isEmpty_str]; cases E <;> simp_all
          have HEM := Lib.hid hem
          have hsz : (s.extract f k ++ str E).size ≤ 16777216 + 6 := by
            have : (s.extract f k ++ str E).size = (s.extract f k ++ str E).data.toList.length := rfl
            rw [this, cat_list, extract_list s f k hf, str_list, List.length_append, List.length_take, List.length_drop, data_len]
            omega
          have HSZ := Lib.hid hsz
          clear hesc hqs hseg hEq hq hem hE0 hsz
          go_wp2_with (go_at_call 188; refine (HESC.out).mono ?_; rintro e w' ⟨rfl, hx'⟩; have hem := HEM.out)
          have hB' := builder_ext hB hx'
          have hz3 := hx'.size
          refine (builderWriteString_any _ _ _ _ _ hB' (by rw [byteCells_len]; have := HSZ.out; omega) (by omega)).mono ?_
          rintro e w4 ⟨rfl, hB4, hx4⟩
          rw [← HQ3.out] at hB4
          go_wp2
          have hx5 : Ext w w4 := (hx3.trans hx').then (Below.mono hx4 hwz)
          have hz5 := hx4.size
          go_roundw
          case rel => exact ⟨k + 1, k + 1, by omega, by omega, by go_num, by go_num, hB4, by show _ = _; simp, hx5, by omega⟩
          case measure => simp [intOf]; omega
      · have hke : k = s.size := by omega
        have hsz : (s.extract f s.size ++ str [34]).size ≤ 16777216 + 6 := by
          have : (s.extract f s.size ++ str [34]).size = (s.extract f s.size ++ str [34]).data.toList.length := rfl
          rw [this, cat_list, ext_list, str_list, List.length_append, List.length_drop, data_len]
          simp; omega
        have hfin : Lib.byteCells (qPre s.data.toList f) ++ Lib.byteCells (s.extract f s.size ++ str [34]).data.toList = Lib.byteCells Q := by
          rw [← byteCells_app, cat_list, ext_list, str_list]
          congr 1
          have h := hq.out
          rw [hke, List.take_of_length_le (by rw [List.length_drop, data_len]; omega)] at h
          rw [← List.append_assoc, ← h, ← HQ.out, ← qPre_all]
          rfl
        have HF := Lib.hid hfin
        have HSZ := Lib.hid hsz
        clear hfin hq hke hsz
        go_wp2_with (go_at_call 168; refine (builderWriteString_any _ _ _ (s.extract f s.size ++ str [34]) _ hB (by rw [byteCells_len]; have := HSZ.out; omega) hbz3).mono ?_; rintro e w4 ⟨rfl, hB4, hx4⟩)
        rw [HF.out] at hB4
        have hz5 := hx4.size
        have hx5 : Ext w w4 := hx3.then (Below.mono hx4 hwz)
        go_wp2_with (go_at_call 102; refine (builderString_any _ _ _ _ hB4 (by omega)).mono ?_; rintro e w5 ⟨rfl, hx6⟩)
        go_ret2
        exact ⟨rfl, hx5.then (Below.mono hx6 hwz)⟩
end Go.Proofs.YtgecijhgonfldaaGreatDoor
namespace Go.Proofs.YtgecijhgonfldaaGreatDoor
open Go Go.RowKit
set_option linter.unusedVariables false
attribute [local go_sem] conv1 strOfNums_size
def i64ok (n : Int) : Prop := -9223372036854775808 ≤ n ∧ n ≤ 9223372036854775807
def itoaS (n : Int) : ByteArray := str (Lib.itoa n)
theorem digits_small (u : Nat) (h : u < 10) : Lib.decDigits u = [UInt8.ofNat (48 + u)] := by rw [Lib.decDigits, dif_pos h]
theorem digits_big (u : Nat) (h : ¬ u < 10) : Lib.decDigits u = Lib.decDigits (u / 10) ++ [UInt8.ofNat (48 + u % 10)] := by rw [Lib.decDigits, dif_neg h]
theorem digits_len (n : Int) (h : i64ok n) : (Lib.decDigits n.natAbs).length ≤ 21 := by
  have := Lib.itoa_length_le n h.1 h.2
  unfold Lib.itoa at this
  split at this
  · simp at this; omega
  · rwa [show n.toNat = n.natAbs by omega] at this
theorem cons_nums (x : Int) (d : Nat) (l : List UInt8) (h : x.toNat = d) : strOfNums [x] ++ str l = str (UInt8.ofNat d :: l) := by
  subst h; exact bytes_inj (by simp [str_nums])
theorem wrap_ok (x : Int) (h : i64ok x) : wrap64 x = x := by unfold wrap64; have := h.1; have := h.2; omega
theorem sign_nums (n : Int) (l : List UInt8) (hn : n < 0) (h : l = Lib.decDigits n.natAbs) : ({ data := #[45] } : ByteArray) ++ str l = itoaS n := by
  unfold itoaS Lib.itoa
  rw [if_pos hn, h]
  exact bytes_inj (by simp)
theorem plain_nums (n : Int) (l : List UInt8) (hn : 0 ≤ n) (h : l = Lib.decDigits n.natAbs) : str l = itoaS n := by
  unfold itoaS Lib.itoa
  rw [if_neg (by omega), h, show n.toNat = n.natAbs by omega]
set_option maxRecDepth 100000 in
set_option maxHeartbeats 1000000 in
theorem decimal_any (n : Int) (w : World) (hn : i64ok n) :
    Calls Tryz.prog 94 #[.int .i64 n] w fun e w' => e = .returned (.string (itoaS n)) ∧ Ext w w' := by
  have hdl := digits_len n hn
  obtain ⟨R, hR⟩ : ∃ R, itoaS n = R := ⟨_, rfl⟩
  rw [hR]
  have HR := Lib.hid hR
  have HDL := Lib.hid hdl
  have HN := Lib.hid hn
  clear hR hdl hn
  go_enter Tryz.func94, Tryz.ntmps94
  go_wp2
  go_loopw [3, 4, 5] (fun v m _ wr => ∃ (x : Int) (l : List UInt8), m = .int .i64 x ∧ v = .string (str l) ∧ Hid (i64ok x) ∧ Hid (Lib.decDigits x.natAbs ++ l = Lib.decDigits n.natAbs) ∧ Ext w wr) (fun _ m _ _ => (intOf m).natAbs)
  case atStart => exact ⟨n, [], rfl, rfl, HN, by show _ = _; simp, Ext.refl _⟩
  case round =>
    obtain ⟨x, l, rfl, rfl, hx64, hd, hx⟩ := hrel
    have hll : l.length ≤ 21 := by
      have h1 := congrArg List.length hd.out
      have h2 := HDL.out
      rw [List.length_append] at h1
      omega
    by_cases h10 : x.natAbs < 10
    · have hcase : x = -9 ∨ x = -8 ∨ x = -7 ∨ x = -6 ∨ x = -5 ∨ x = -4 ∨ x = -3 ∨ x = -2 ∨ x = -1 ∨ x = 0 ∨ x = 1 ∨ x = 2 ∨ x = 3 ∨ x = 4 ∨ x = 5 ∨ x = 6 ∨ x = 7 ∨ x = 8 ∨ x = 9 := by omega
      have hs : Hid ((UInt8.ofNat (48 + x.natAbs)) :: l = Lib.decDigits n.natAbs) := by
        show _ = _
        rw [← hd.out, digits_small _ h10]; rfl
      have hl2 : l.length < 100 := by omega
      clear HDL hd h10 hll HN
      by_cases hneg : n < 0
      · have HF : Hid (({ data := #[45] } : ByteArray) ++ str ((UInt8.ofNat (48 + x.natAbs)) :: l) = R) := by
          show _ = _
          rw [sign_nums n _ hneg hs.out, HR.out]
        clear HR hx64
        rcases hcase with rfl | rfl | rfl | rfl | rfl | rfl | rfl | rfl | rfl | rfl | rfl | rfl | rfl | rfl | rfl | rfl | rfl | rfl | rfl
        all_goals go_wp2
        all_goals go_ret
        all_goals exact ⟨by rw [← HF.out]; rfl, by repeat (first | exact hx | apply Ext.drew | apply Ext.alloc)⟩
      · have HF : Hid (str ((UInt8.ofNat (48 + x.natAbs)) :: l) = R) := by
          show _ = _
          rw [plain_nums n _ (by omega) hs.out, HR.out]
        clear HR hx64
        rcases hcase with rfl | rfl | rfl | rfl | rfl | rfl | rfl | rfl | rfl | rfl | rfl | rfl | rfl | rfl | rfl | rfl | rfl | rfl | rfl
        all_goals go_wp2
        all_goals go_ret
        all_goals exact ⟨by rw [← HF.out]; rfl, by repeat (first | exact hx | apply Ext.drew | apply Ext.alloc)⟩
    · have hs : Hid (Lib.decDigits (x.natAbs / 10) ++ (UInt8.ofNat (48 + x.natAbs % 10) :: l) = Lib.decDigits n.natAbs) := by
        show _ = _
        rw [← hd.out, digits_big _ h10, List.append_assoc]; rfl
      by_cases hpos : 0 ≤ x
      · obtain ⟨a, rfl⟩ := Int.eq_ofNat_of_zero_le hpos
        have hb := hx64.out.2
        have ha : 10 ≤ (a : Int) := by omega
        have ha2 : Hid ((a : Int) ≤ 9223372036854775807) := hb
        clear hb h10 hpos
        go_wp2
        have hok : i64ok ((a : Int) / 10) := by have := ha2.out; unfold i64ok; omega
        refine ⟨⟨(a : Int) / 10, UInt8.ofNat (48 + a % 10) :: l, by rw [wrap_ok _ hok], by rw [cons_nums _ (48 + a % 10) l (by omega)], hok, ?_, hx.alloc _⟩, ?_⟩
        · have h := hs.out
          rw [show ((a : Int)).natAbs = a by omega] at h
          show _ = _
          rw [show ((a : Int) / 10).natAbs = a / 10 by omega]
          exact h
        · rw [wrap_ok _ hok]; simp [intOf]; omega
      · obtain ⟨a, rfl⟩ : ∃ a : Nat, x = -(a : Int) := ⟨x.natAbs, by omega⟩
        have hb := hx64.out.1
        have ha : 10 ≤ (a : Int) := by omega
        have ha2 : Hid (-9223372036854775808 ≤ -(a : Int)) := hb
        clear hb h10 hpos
        go_wp2
        all_goals have hok : i64ok (-((a : Int) / 10)) := by have := ha2.out; unfold i64ok; omega
        all_goals refine ⟨⟨-((a : Int) / 10), UInt8.ofNat (48 + a % 10) :: l, by rw [wrap_ok _ hok], by rw [cons_nums _ (48 + a % 10) l (by omega)], hok, ?_, hx.alloc _⟩, by rw [wrap_ok _ hok]; simp [intOf]; omega⟩
        all_goals have h := hs.out
        all_goals rw [show (-(a : Int)).natAbs = a by omega] at h
        all_goals (show _ = _)
        all_goals rw [show (-((a : Int) / 10)).natAbs = a / 10 by omega]
        all_goals exact h
theorem formatInt_any (n : Int) (w : World) (hE : Env w) (hn : i64ok n) :
    Calls Tryz.prog 170 #[.int .i64 n, .int .i64 10] w fun e w' => e = .returned (.string (itoaS n)) ∧ Ext w w' := by
  refine (Tryz.strconv_FormatInt_10 n hn.1 hn.2 w hE.pow).mono ?_
  rintro e w' ⟨rfl, k, os, rfl⟩
  exact ⟨rfl, Lib.below_grow _ w (Nat.le_refl _) k os⟩
end Go.Proofs.YtgecijhgonfldaaGreatDoor
namespace Go.Proofs.YtgecijhgonfldaaGreatDoor
open Go
inductive JV where
  | null
  | bool (b : Bool)
  | int (n : Int)
  | str (s : ByteArray)
  | arr (l : List JV)
def commas : List (List UInt8) → List UInt8
  | [] => []
  | [t] => t
  | t :: u :: r => t ++ 44 :: commas (u :: r)
theorem commas_snoc : ∀ (l : List (List UInt8)) (t : List UInt8), commas (l ++ [t]) = if l = [] then t else commas l ++ 44 :: t
  | [], t => by simp [commas]
  | [u], t => by simp [commas]
  | u :: v :: r, t => by
    have ih := commas_snoc (v :: r) t
    simp only [List.cons_append] at ih ⊢
    rw [if_neg (by simp)] at ih ⊢
    simp only [commas, ih, List.append_assoc, List.cons_append]
def jtext : JV → List UInt8
  | .null => [110, 117, 108, 108]
  | .bool b => if b then [116, 114, 117, 101] else [102, 97, 108, 115, 101]
  | .int n => Lib.itoa n
  | .str s => quoteL s.data.toList
  | .arr l => 91 :: (commas (l.map jtext) ++ [93])
def jvalid : JV → Nat → Bool
  | .str s, depth => decide (depth ≤ 100) && Lib.validD s.data.toList
  | .arr l, depth => decide (depth ≤ 100) && (l.map fun j => jvalid j (depth + 1)).all id
  | _, depth => decide (depth ≤ 100)
def jok : JV → Prop
  | .int n => -9223372036854775808 ≤ n ∧ n ≤ 9223372036854775807
  | .str s => s.size ≤ 16777216
  | .arr l => ∀ j ∈ l, jok j
  | _ => True
def jwrite (j : JV) : ByteArray × Nat := if jvalid j 1 then (str (jtext j), 0) else (⟨#[]⟩, 22)
theorem jtext_arr (l : List JV) : jtext (.arr l) = 91 :: (commas (l.map jtext) ++ [93]) := by rw [jtext]
theorem jvalid_arr (d : Nat) (l : List JV) : jvalid (.arr l) d = (decide (d ≤ 100) && l.all fun j => jvalid j (d + 1)) := by rw [jvalid]; simp [List.all_map]
theorem jok_arr (l : List JV) : jok (.arr l) = ∀ j ∈ l, jok j := by rw [jok]
end Go.Proofs.YtgecijhgonfldaaGreatDoor
namespace Go.Proofs.YtgecijhgonfldaaGreatDoor
open Go Go.RowKit
set_option linter.unusedVariables false
def vcells (k : Int) (b : Bool) (n : Int) (s : ByteArray) (its : Value) (at_ : Int) : List Value := [.int .i64 k, .bool b, .int .i64 n, .string s, its, .slice none 0 0, .int .i64 at_]
def RVn : Nat → World → JV → List Value → Prop
  | 0, _, _, _ => False
  | n + 1, w, j, cs => ∃ a : Int, match j with
    | .null => cs = vcells 0 false 0 ⟨#[]⟩ (.slice none 0 0) a
    | .bool b => cs = vcells 1 b 0 ⟨#[]⟩ (.slice none 0 0) a
    | .int x => cs = vcells 2 false x ⟨#[]⟩ (.slice none 0 0) a
    | .str s => cs = vcells 3 false 0 s (.slice none 0 0) a
    | .arr l => ∃ (v : Value) (css : List (List Value)), cs = vcells 4 false 0 ⟨#[]⟩ v a ∧ css.length = l.length ∧ RSl w 7 v l.length css.flatten ∧ ∀ (i : Nat) (j : JV) (c : List Value), l[i]? = some j → css[i]? = some c → RVn n w j c
def RV (w : World) (j : JV) (cs : List Value) : Prop := ∃ n, RVn n w j cs
theorem RVn.ext {w w' : World} (hx : Ext w w') : ∀ (n : Nat) (j : JV) (cs : List Value), RVn n w j cs → RVn n w' j cs
  | 0, _, _, h => h.elim
  | n + 1, j, cs, ⟨a, h⟩ => by
    refine ⟨a, ?_⟩
    cases j with
    | arr l =>
      obtain ⟨v, css, h1, h2, h3, h4⟩ := h
      exact ⟨v, css, h1, h2, h3.ext hx, fun i j c hj hc => RVn.ext hx n j c (h4 i j c hj hc)⟩
    | _ => exact h
theorem RVn.more {w : World} : ∀ (n m : Nat) (j : JV) (cs : List Value), n ≤ m → RVn n w j cs → RVn m w j cs
  | 0, _, _, _, _, h => h.elim
  | n + 1, 0, _, _, h, _ => by omega
  | n + 1, m + 1, j, cs, hnm, ⟨a, h⟩ => by
    refine ⟨a, ?_⟩
    cases j with
    | arr l =>
      obtain ⟨v, css, h1, h2, h3, h4⟩ := h
      exact ⟨v, css, h1, h2, h3, fun i j c hj hc => RVn.more n m j c (by omega) (h4 i j c hj hc)⟩
    | _ => exact h
theorem RV.ext {w w' : World} {j : JV} {cs : List Value} (h : RV w j cs) (hx : Ext w w') : RV w' j cs := let ⟨n, h⟩ := h; ⟨n, h.ext hx⟩
theorem RVn.len {w : World} {n : Nat} {j : JV} {cs : List Value} (h : RVn n w j cs) : cs.length = 7 := by
  cases n with
  | zero => exact h.elim
  | succ n =>
    obtain ⟨a, h⟩ := h
    cases j with
    | arr l => obtain ⟨v, css, rfl, _⟩ := h; rfl
    | _ => subst h; rfl
set_option maxRecDepth 100000 in
theorem unused_any (n : Nat) (j : JV) (cs : List Value) (w : World) (h : RVn n w j cs) :
    Calls Tryz.prog 178 #[.agg cs.toArray] w fun e w' => e = .returned (.bool true) ∧ Ext w w' := by
  cases n with
  | zero => exact h.elim
  | succ n =>
    obtain ⟨a, h⟩ := h
    cases j with
    | arr l =>
      obtain ⟨v, css, rfl, hcl, hr, _⟩ := h
      obtain ⟨_, A, c, rfl, hmc, hcm, _, _⟩ := hr
      unfold vcells
      go_enter Tryz.func178, Tryz.ntmps178
      go_wp2
      all_goals go_ret
      all_goals exact ⟨by first | rfl | (refine congrArg (fun b => Ending.returned (.bool b)) ?_; simp_all), by repeat (first | exact Ext.refl _ | apply Ext.drew | apply Ext.alloc | (refine Ext.setCell ?_ (by simp) _))⟩
    | null =>
      subst h
      unfold vcells
      go_enter Tryz.func178, Tryz.ntmps178
      go_wp2
      all_goals go_ret
      all_goals exact ⟨by first | rfl | (refine congrArg (fun b => Ending.returned (.bool b)) ?_; simp_all), by repeat (first | exact Ext.refl _ | apply Ext.drew | apply Ext.alloc | (refine Ext.setCell ?_ (by simp) _))⟩
    | bool b =>
      subst h
      unfold vcells
      go_enter Tryz.func178, Tryz.ntmps178
      go_wp2
      all_goals go_ret
      all_goals exact ⟨by first | rfl | (refine congrArg (fun b => Ending.returned (.bool b)) ?_; simp_all), by repeat (first | exact Ext.refl _ | apply Ext.drew | apply Ext.alloc | (refine Ext.setCell ?_ (by simp) _))⟩
    | int x =>
      subst h
      unfold vcells
      go_enter Tryz.func178, Tryz.ntmps178
      go_wp2
      all_goals go_ret
      all_goals exact ⟨by first | rfl | (refine congrArg (fun b => Ending.returned (.bool b)) ?_; simp_all), by repeat (first | exact Ext.refl _ | apply Ext.drew | apply Ext.alloc | (refine Ext.setCell ?_ (by simp) _))⟩
    | str t =>
      subst h
      unfold vcells
      go_enter Tryz.func178, Tryz.ntmps178
      go_wp2
      all_goals go_ret
      all_goals exact ⟨by first | rfl | (refine congrArg (fun b => Ending.returned (.bool b)) ?_; simp_all), by repeat (first | exact Ext.refl _ | apply Ext.drew | apply Ext.alloc | (refine Ext.setCell ?_ (by simp) _))⟩
end Go.Proofs.YtgecijhgonfldaaGreatDoor
namespace Go.Proofs.YtgecijhgonfldaaGreatDoor
open Go Go.RowKit
set_option linter.unusedVariables false
section
variable {P : Program}
end
theorem Ext.setRow {a b : World} (h : Ext a b) {g : Nat} (hg : a.heap.size ≤ g) (cs : Array Value) : Ext a (b.setRow g cs) :=
  h.then ⟨rfl, rfl, rfl, by simp [World.setRow], fun k hk => setRow_other b g k cs (by omega)⟩
theorem own_setRow {w : World} {base size n : Nat} {e : TypeId} {v : Value} {xs : List Value} (h : w.ownsRow base e size v n xs) {g : Nat} (hg : g < base) (cs : Array Value) : (w.setRow g cs).ownsRow base e size v n xs := by
  refine h.kept (row := some g) ⟨rfl, rfl, rfl, by simp [World.setRow], fun k _ hk => setRow_other w g k cs (fun e => hk (by rw [e]))⟩ (Or.inr fun hv => ?_)
  have := (h.lt g hv).1
  omega
theorem heap_alloc3_new (w : World) (A B C : Obj) : (((w.alloc A).alloc B).alloc C).heap[w.heap.size + 1 + 1]? = some C := by
  have h := heap_alloc_new ((w.alloc A).alloc B) C
  have e : ((w.alloc A).alloc B).heap.size = w.heap.size + 1 + 1 := by
    show ((w.heap.push A).push B).size = _
    simp
  rwa [e] at h
theorem rsl_block {w : World} {g n size : Nat} {cs : List Value} {e : TypeId} {fr : Nat × Nat} (hg : w.heap[g]? = some (.cells cs.toArray e fr)) (h : cs.length = n * size) (hm : n ≤ maxLen) : RSl w size (.slice (some ⟨g, 0, none⟩) n n) n cs := by
  refine ⟨h, some ⟨g, 0, none⟩, n, rfl, Nat.le_refl _, hm, (fun h => by cases h), fun j u hu => ⟨_, rfl, ?_⟩⟩
  have hadd : (⟨g, 0, none⟩ : Addr).add j = ⟨g, j, none⟩ := by unfold Addr.add; split <;> simp_all
  rw [hadd, Lib.cell_of_heap hg]
  simpa using hu
theorem RSl.at1 {w : World} {size n c m : Nat} {A : Option Addr} {xs : List Value} (h : RSl w size (.slice A m c) n xs) (k : Nat) (u : Value) (hu : xs[k]? = some u) : ∃ ad, A = some ad ∧ w.cell? (ad.add k) = some u := by
  obtain ⟨_, A', c', e, _, _, _, hcell⟩ := h
  cases e
  exact hcell k u hu
theorem addr_add2 (a : Addr) (m n : Nat) : (a.add m).add n = a.add (m + n) := by
  unfold Addr.add
  by_cases hm : m = 0 <;> by_cases hn : n = 0 <;> simp_all [Nat.add_assoc]
theorem RSl.elem {w : World} {k : Nat} {v : Value} {n : Nat} {css : List (List Value)} (h : RSl w k v n css.flatten) (hk : 0 < k) (hl : ∀ c ∈ css, c.length = k) (i : Nat) (c : List Value) (hc : css[i]? = some c) :
    ∃ ad cap, v = .slice (some ad) n cap ∧ ∀ j u, c[j]? = some u → w.cell? ((ad.add (k * i)).add j) = some u := by
  obtain ⟨_, A, cap, rfl, _, _, hA, hcell⟩ := h
  have key : ∀ (l : List (List Value)) (i : Nat) (c : List Value) (j : Nat) (u : Value), (∀ c ∈ l, c.length = k) → l[i]? = some c → c[j]? = some u → l.flatten[k * i + j]? = some u := by
    intro l
    induction l with
    | nil => intro i c j u _ h; simp at h
    | cons x l ih =>
      intro i c j u hl hc hu
      have hx : x.length = k := hl x (by simp)
      cases i with
      | zero =>
        simp at hc
        subst hc
        have hj : j < x.length := by
          have := (List.getElem?_eq_some_iff.mp hu).1
          exact this
        simpa [List.getElem?_append, hj] using (List.getElem?_eq_some_iff.mp hu).2
      | succ i =>
        have := ih i c j u (fun c h => hl c (by simp [h])) (by simpa using hc) hu
        simp only [List.flatten_cons]
        have e : k * (i + 1) + j = x.length + (k * i + j) := by rw [hx, Nat.mul_succ]; omega
        rw [e, List.getElem?_append_right (by omega)]
        simpa using this
  have hck : c.length = k := hl c (List.mem_of_getElem? hc)
  have h0 : 0 < c.length := by omega
  obtain ⟨ad, rfl, _⟩ := hcell _ _ (key css i c 0 c[0] hl hc (List.getElem?_eq_getElem h0))
  refine ⟨ad, cap, rfl, fun j u hu => ?_⟩
  obtain ⟨ad', h, hc'⟩ := hcell _ _ (key css i c j u hl hc hu)
  injection h with h
  subst h
  rw [addr_add2]
  exact hc'
theorem Ext.boxed {w w' : World} {cs : Array Value} {t : TypeId} {fr : Nat × Nat} (h : Ext (w.alloc (.cells cs t fr)) w') (i : Nat) (v : Value) (hv : cs[i]? = some v) : w'.cell? ⟨w.heap.size, i, none⟩ = some v :=
  h.cell (p := ⟨w.heap.size, i, none⟩) (by rw [cell_of_row _ _ _ cs t fr (heap_alloc_new w _)]; exact hv)
end Go.Proofs.YtgecijhgonfldaaGreatDoor
