/- Parts of the proof: contracts and plain laws that the statement needs. -/
import Derived.Lib.ItoaNum
import Derived.Lib.ValidU
import Derived.Deep.RegionLaw
import Derived.Test.YtgecijhgonfldaaGreatDoorQ00
import Derived.Test.YtgecijhgonfldaaGreatDoorQ01
namespace Go.Proofs.YtgecijhgonfldaaGreatDoor
open Go Go.RowKit
set_option linter.unusedVariables false
theorem refCheck_any (s : ByteArray) (w : World) (hs : s.size ≤ maxLen) :
    Calls Tryz.prog 75 #[.string s] w fun e w' => e = .returned (.tuple #[.int .i64 ((checkS s).1 : Nat), .int .i64 ((checkS s).2 : Nat)]) ∧ Ext w w' := by
  have hml := hs
  unfold maxLen at hs
  go_enter Tryz.func75, Tryz.ntmps75
  go_wp2
  go_loopw [4, 5, 6] (fun v _ _ wr => ∃ k : Nat, k ≤ s.size ∧ v = .int .i64 k ∧ Hid (checkS s = checkGo s.data.toList.length k (s.data.toList.drop k)) ∧ Ext w wr) (fun v _ _ _ => s.size - (intOf v).toNat)
  case atStart => exact ⟨0, Nat.zero_le _, rfl, rfl, Ext.refl _⟩
  case round =>
    obtain ⟨k, hk, rfl, hc, hx⟩ := hrel
    by_cases hlt : k < s.size
    · have hst := check_at s.data.toList k (by rw [data_len]; exact hlt)
      have hle := dec_le (s.data.toList.drop k)
      rw [List.length_drop, data_len] at hle
      have hcon := refDecode_in s k wr hlt hml
      have hc2 := hc.out.trans hst
      clear hc hst
      obtain ⟨R, hR⟩ : ∃ R, (dec (s.data.toList.drop k)).1 = R := ⟨_, rfl⟩
      obtain ⟨K, hK⟩ : ∃ K, (dec (s.data.toList.drop k)).2 = K := ⟨_, rfl⟩
      rw [hR, hK] at hcon hc2
      rw [hK] at hle
      clear hR hK
      have HC := Lib.hid hcon
      have HS := Lib.hid hc2
      clear hcon hc2
      by_cases h0 : K = 0
      · subst h0
        have hfin := HS.out
        rw [if_pos rfl] at hfin
        have HF := Lib.hid hfin
        clear hfin HS
        go_wp2_with (first | (go_at_call 103; refine (HC.out).mono ?_; rintro e w' ⟨rfl, hx'⟩))
        go_ret2
        exact ⟨by rw [HF.out]; rfl, hx.trans hx'⟩
      · have hb : ((K : Int) == 0) = false := by rw [beq_eq_false_iff_ne]; omega
        by_cases hch : isChar R = false
        · have hfin := HS.out
          rw [if_neg h0, if_pos hch] at hfin
          have HF := Lib.hid hfin
          clear hfin HS
          go_wp2_with (first | (go_at_call 103; refine (HC.out).mono ?_; rintro e w' ⟨rfl, hx'⟩) | (go_at_call 104; refine (refIsChar_any _ _).mono ?_; rintro e w' ⟨rfl, rfl⟩))
          go_ret2
          exact ⟨by rw [HF.out]; rfl, hx.trans hx'⟩
        · have hch' : isChar R = true := by simpa using hch
          have HS2 : Hid (checkS s = checkGo s.data.toList.length (k + K) (s.data.toList.drop (k + K))) := by
            have h := HS.out
            rw [if_neg h0, if_neg hch] at h
            exact h
          clear HS hch
          go_wp2_with (first | (go_at_call 103; refine (HC.out).mono ?_; rintro e w' ⟨rfl, hx'⟩) | (go_at_call 104; refine (refIsChar_any _ _).mono ?_; rintro e w' ⟨rfl, rfl⟩))
          go_roundw
          case rel => exact ⟨k + K, by omega, by go_num, HS2, hx.trans hx'⟩
          case measure => simp [intOf]; omega
    · have hke : k = s.size := by omega
      have hfin : checkS s = (k, 0) := by
        rw [hc.out, check_end _ _ (by rw [data_len]; omega)]
      have HF := Lib.hid hfin
      clear hfin hc hke
      go_wp2
      go_ret2
      exact ⟨by rw [HF.out]; rfl, hx⟩
theorem bytes_one (l : List UInt8) : ∀ y ∈ Lib.byteCells l, y.oneCell' = true := by
  intro y hy
  simp [Lib.byteCells] at hy
  obtain ⟨b, _, rfl⟩ := hy
  rfl
theorem conv_own (w : World) (base : Nat) (v : Value) (l : List UInt8) (h : w.ownsRow base 5 1 v l.length (Lib.byteCells l)) :
    (convert 107 9 v).run Tryz.prog w = .ok (.string (str l)) w := by
  rcases h.2 with ⟨rfl, h0⟩ | ⟨g, cap, cur, rfl, _⟩
  · have : l = [] := List.eq_nil_of_length_eq_zero h0
    subst this
    exact run_convert_bytes_nil w _ 5 Tryz.underlying107 Tryz.underlying5 0 0 _ Tryz.underlying9
  · have := run_convert_bytes_arg (P := Tryz.prog) w _ 5 Tryz.underlying107 Tryz.underlying5 g 0 l.length cap (l.map fun b => (b.toNat : Int)) (by simp) (fun i hi => ?_) 9 Tryz.underlying9
    · rw [this]
      have e : strOfNums (l.map fun b => (b.toNat : Int)) = str l := by
        rw [str_nums, List.map_map]
        refine congrArg str ((List.map_congr_left ?_).trans (List.map_id l))
        intro x _
        simp
      rw [e]
    · have hc := h.cells (g := g) rfl i (.int .u8 (l[i].toNat)) (by simp [Lib.byteCells, List.getElem?_eq_getElem hi])
      rw [show (⟨g, 0, none⟩ : Addr).add i = ⟨g, 0 + i, none⟩ from by unfold Addr.add; split <;> simp_all] at hc
      rw [hc]
      simp [List.getD, List.getElem?_eq_getElem hi]
def gapOf (l : List UInt8) (k : Nat) (out : List UInt8) : Bool := decide (0 < k) && isSp (l.getD (k - 1) 0).toNat && !out.isEmpty
theorem gap_sp (s : ByteArray) (out : List UInt8) (k : Nat) (hk : k < s.size) (h : isSp (s[k].toNat) = true) : gapOf s.data.toList (k + 1) out = !out.isEmpty := by
  unfold gapOf
  have : s.data.toList.getD (k + 1 - 1) 0 = s[k] := by
    rw [Nat.add_sub_cancel, List.getD_eq_getElem?_getD, List.getElem?_eq_getElem (by rw [data_len]; exact hk)]; rfl
  rw [this, h]; simp
theorem gap_ch (s : ByteArray) (out : List UInt8) (k : Nat) (hk : k < s.size) (h : isSp (s[k].toNat) = false) : gapOf s.data.toList (k + 1) out = false := by
  unfold gapOf
  have : s.data.toList.getD (k + 1 - 1) 0 = s[k] := by
    rw [Nat.add_sub_cancel, List.getD_eq_getElem?_getD, List.getElem?_eq_getElem (by rw [data_len]; exact hk)]; rfl
  rw [this, h]; simp
set_option maxRecDepth 100000 in
set_option maxHeartbeats 1000000 in
theorem refCollapse_any (s : ByteArray) (w : World) (hs : s.size ≤ 140737488351232) :
    Calls Tryz.prog 46 #[.string s] w fun e w' => e = .returned (.string (collapse s)) ∧ Ext w w' := by
  obtain ⟨i0, hi0, hz0, hz1, hz2⟩ := info_parts info_u8
  go_enter Tryz.func46, Tryz.ntmps46
  go_wp2
  go_loopw [3, 4] (fun v i wr => ∃ (k : Nat) (out : List UInt8), k ≤ s.size ∧ i = .int .i64 k ∧ Hid (out.length + (if gapOf s.data.toList k out then 1 else 0) ≤ k) ∧
      wr.ownsRow w.heap.size 5 1 v out.length (Lib.byteCells out) ∧ Hid (coll s.data.toList = collGo (s.data.toList.drop k) out (gapOf s.data.toList k out)) ∧ Ext w wr) (fun _ i _ => s.size - (intOf i).toNat)
  case atStart => exact ⟨0, [], Nat.zero_le _, rfl, by show _ ≤ _; simp [gapOf], World.ownsRow_nil _ _ _ _, rfl, Ext.refl _⟩
  case round =>
    obtain ⟨k, out, hk, rfl, hlen, hown, hc, hx⟩ := hrel
    have hsz := hx.size
    have hle : out.length ≤ k := by have := hlen.out; omega
    by_cases hlt : k < s.size
    · by_cases hsp : isSp (s[k]).toNat = true
      · have HC := Lib.hid (hc.out.trans (coll_sp s out _ k hlt hsp))
        rw [← gap_sp s out k hlt hsp] at HC
        have HL : Hid (out.length + (if gapOf s.data.toList (k + 1) out then 1 else 0) ≤ k + 1) := by
          show _ ≤ _
          split <;> omega
        clear hc hlen
        go_wp2_with (go_at_call 76; refine (refIsSpace_any _ _).mono ?_; rintro e w' ⟨rfl, rfl⟩)
        go_roundw
        case rel => exact ⟨k + 1, out, by omega, by go_num, HL, hown, HC, hx⟩
        case measure => simp [intOf]; omega
      · have hsp' : isSp (s[k]).toNat = false := by simpa using hsp
        have hgn := gap_ch s
        have hc1 := hc.out.trans (coll_ch s out _ k hlt hsp')
        cases hg : gapOf s.data.toList k out
        · rw [hg] at hc1
          simp only [Bool.false_eq_true, if_false, List.append_nil] at hc1
          rw [← gap_ch s (out ++ [s[k]]) k hlt hsp'] at hc1
          have HC := Lib.hid hc1
          have HL : Hid ((out ++ [s[k]]).length + (if gapOf s.data.toList (k + 1) (out ++ [s[k]]) then 1 else 0) ≤ k + 1) := by
            show _ ≤ _
            rw [gap_ch s _ k hlt hsp']
            simp; omega
          clear hc hlen hc1 hgn hsp
          have HOWN := hown
          obtain ⟨_, A, c, rfl, hmc, hcm, _, _⟩ := RSl.of_own hown
          unfold gapOf at hg
          have hcase : k = 0 ∨ (∃ j, k = j + 1 ∧ isSp (s.data.toList.getD j 0).toNat = false) ∨ (∃ j, k = j + 1 ∧ isSp (s.data.toList.getD j 0).toNat = true ∧ out = []) := by
            cases k with
            | zero => exact Or.inl rfl
            | succ j =>
              simp at hg
              cases h : isSp (s.data.toList.getD j 0).toNat
              · exact Or.inr (Or.inl ⟨j, rfl, h⟩)
              · exact Or.inr (Or.inr ⟨j, rfl, h, by simpa using hg (by simpa using h)⟩)
          clear hg
          rcases hcase with rfl | ⟨j, rfl, hj⟩ | ⟨j, rfl, hj, rfl⟩
          · go_wp2_with (first | (go_at_call 76; refine (refIsSpace_any _ _).mono ?_; rintro e w' ⟨rfl, rfl⟩) | (at_builtin; refine wpList_append_rsl _ rfl (.tmp 33) (.tmp 37) _ rfl w.heap.size 5 i0 _ 1 1 Tryz.underlying107 hi0 hz0 hz1 hz2 rfl (by omega) _ _ _ rfl (HOWN.alloc _) _ 1 _ rfl (rsl_new (cs := [.int .u8 s[0].toNat]) (by simp) (by unfold maxLen; omega)) (bytes_one [s[0]]) (by unfold maxLen; omega) (by omega) (by simp; omega) ?_; intro v1 w1 hown1 hg1 hat1))
            have hx1 : Ext w w1 := (hx.alloc _).app hg1 (HOWN.alloc _) (Nat.le_refl _)
            have hown2 : w1.ownsRow w.heap.size 5 1 v1 (out ++ [s[0]]).length (Lib.byteCells (out ++ [s[0]])) := by
              rw [byteCells_app, List.length_append]; exact hown1
            clear hg1 hat1 hown1
            go_wp2
            go_roundw
            case rel => first | exact ⟨0 + 1, out ++ [s[0]], by omega, by go_num, HL, hown2, HC, hx1⟩ | ((repeat apply Exists.intro); exact ⟨⟨0 + 1, out ++ [s[0]], by omega, by go_num, HL, hown2, HC, hx1⟩, rfl⟩)
            case measure => simp [intOf]; omega
          · have hj' : isSp (s[j].toNat) = false := by
              rw [← hj, List.getD_eq_getElem?_getD, List.getElem?_eq_getElem (by rw [data_len]; omega)]; rfl
            go_wp2_with (first | (go_at_call 76; refine (refIsSpace_any _ _).mono ?_; rintro e w' ⟨rfl, rfl⟩) | (at_builtin; refine wpList_append_rsl _ rfl (.tmp 33) (.tmp 37) _ rfl w.heap.size 5 i0 _ 1 1 Tryz.underlying107 hi0 hz0 hz1 hz2 rfl (by omega) _ _ _ rfl (HOWN.alloc _) _ 1 _ rfl (rsl_new (cs := [.int .u8 s[j + 1].toNat]) (by simp) (by unfold maxLen; omega)) (bytes_one [s[j + 1]]) (by unfold maxLen; omega) (by omega) (by simp; omega) ?_; intro v1 w1 hown1 hg1 hat1))
            have hx1 : Ext w w1 := (hx.alloc _).app hg1 (HOWN.alloc _) (Nat.le_refl _)
            have hown2 : w1.ownsRow w.heap.size 5 1 v1 (out ++ [s[j + 1]]).length (Lib.byteCells (out ++ [s[j + 1]])) := by
              rw [byteCells_app, List.length_append]; exact hown1
            clear hg1 hat1 hown1
            go_wp2
            go_roundw
            case rel => first | exact ⟨j + 1 + 1, out ++ [s[j + 1]], by omega, by go_num, HL, hown2, HC, hx1⟩ | ((repeat apply Exists.intro); exact ⟨⟨j + 1 + 1, out ++ [s[j + 1]], by omega, by go_num, HL, hown2, HC, hx1⟩, rfl⟩)
            case measure => simp [intOf]; omega
          · have hj' : isSp (s[j].toNat) = true := by
              rw [← hj, List.getD_eq_getElem?_getD, List.getElem?_eq_getElem (by rw [data_len]; omega)]; rfl
            go_wp2_with (first | (go_at_call 76; refine (refIsSpace_any _ _).mono ?_; rintro e w' ⟨rfl, rfl⟩) | (at_builtin; refine wpList_append_rsl _ rfl (.tmp 33) (.tmp 37) _ rfl w.heap.size 5 i0 _ 1 1 Tryz.underlying107 hi0 hz0 hz1 hz2 rfl (by omega) _ _ _ rfl (HOWN.alloc _) _ 1 _ rfl (rsl_new (cs := [.int .u8 s[j + 1].toNat]) (by simp) (by unfold maxLen; omega)) (bytes_one [s[j + 1]]) (by unfold maxLen; omega) (by omega) (by simp; omega) ?_; intro v1 w1 hown1 hg1 hat1))
            have hx1 : Ext w w1 := (hx.alloc _).app hg1 (HOWN.alloc _) (Nat.le_refl _)
            have hown2 : w1.ownsRow w.heap.size 5 1 v1 (([] : List UInt8) ++ [s[j + 1]]).length (Lib.byteCells (([] : List UInt8) ++ [s[j + 1]])) := by
              rw [byteCells_app, List.length_append]; exact hown1
            clear hg1 hat1 hown1
            go_wp2
            go_roundw
            case rel => first | exact ⟨j + 1 + 1, ([] : List UInt8) ++ [s[j + 1]], by omega, by go_num, HL, hown2, HC, hx1⟩ | ((repeat apply Exists.intro); exact ⟨⟨j + 1 + 1, ([] : List UInt8) ++ [s[j + 1]], by omega, by go_num, HL, hown2, HC, hx1⟩, rfl⟩)
            case measure => simp [intOf]; omega
        · rw [hg] at hc1 hlen
          simp only [if_true] at hc1 hlen
          have hlen' := hlen.out
          rw [← gap_ch s (out ++ [32] ++ [s[k]]) k hlt hsp'] at hc1
          have HC := Lib.hid hc1
          have HL : Hid ((out ++ [32] ++ [s[k]]).length + (if gapOf s.data.toList (k + 1) (out ++ [32] ++ [s[k]]) then 1 else 0) ≤ k + 1) := by
            show _ ≤ _
            rw [gap_ch s _ k hlt hsp']
            simp; omega
          clear hc hlen hc1 hgn hsp
          have HOWN := hown
          obtain ⟨_, A, c, rfl, hmc, hcm, _, _⟩ := RSl.of_own hown
          unfold gapOf at hg
          simp only [Bool.and_eq_true, decide_eq_true_eq] at hg
          obtain ⟨⟨hk0, hj⟩, hne⟩ := hg
          obtain ⟨j, rfl⟩ : ∃ j, k = j + 1 := ⟨k - 1, by omega⟩
          rw [Nat.add_sub_cancel] at hj
          have hj' : isSp (s[j].toNat) = true := by
            rw [← hj, List.getD_eq_getElem?_getD, List.getElem?_eq_getElem (by rw [data_len]; omega)]; rfl
          have hpos : 0 < out.length := by
            cases out with
            | nil => simp at hne
            | cons a t => simp
          clear hk0 hj hne
          go_wp2_with (first | (go_at_call 76; refine (refIsSpace_any _ _).mono ?_; rintro e w' ⟨rfl, rfl⟩) | (at_builtin; refine wpList_append_rsl _ rfl (.tmp 30) (.tmp 31) _ rfl w.heap.size 5 i0 _ 1 1 Tryz.underlying107 hi0 hz0 hz1 hz2 rfl (by omega) _ _ _ rfl (HOWN.alloc _) _ 1 _ rfl (rsl_new (cs := [.int .u8 32]) (by simp) (by unfold maxLen; omega)) (by intro y hy; simp at hy; subst hy; rfl) (by unfold maxLen; omega) (by omega) (by simp; omega) ?_; intro v1 w1 hown1 hg1 hat1; have hs1 : w.heap.size ≤ w1.heap.size := ((hx.alloc _).app hg1 (HOWN.alloc _) (Nat.le_refl _)).size) | (at_builtin; refine wpList_append_rsl _ rfl (.tmp 33) (.tmp 37) _ rfl w.heap.size 5 i0 _ 1 1 Tryz.underlying107 hi0 hz0 hz1 hz2 rfl (by omega) _ _ _ rfl (hown1.alloc _) _ 1 _ rfl (rsl_new (cs := [.int .u8 s[j + 1].toNat]) (by simp) (by unfold maxLen; omega)) (bytes_one [s[j + 1]]) (by unfold maxLen; omega) (by omega) (by simp; omega) ?_; intro v2 w2 hown2 hg2 hat2))
          have hx1 : Ext w w1 := (hx.alloc _).app hg1 (HOWN.alloc _) (Nat.le_refl _)
          have hx2 : Ext w w2 := (hx1.alloc _).app hg2 (hown1.alloc _) (Nat.le_refl _)
          have hown3 : w2.ownsRow w.heap.size 5 1 v2 (out ++ [32] ++ [s[j + 1]]).length (Lib.byteCells (out ++ [32] ++ [s[j + 1]])) := by
            rw [byteCells_app, byteCells_app, List.length_append, List.length_append]; exact hown2
          clear hg1 hat1 hown1 hg2 hat2 hown2
          go_wp2
          go_roundw
          case rel => first | exact ⟨j + 1 + 1, out ++ [32] ++ [s[j + 1]], by omega, by go_num, HL, hown3, HC, hx2⟩ | ((repeat apply Exists.intro); exact ⟨⟨j + 1 + 1, out ++ [32] ++ [s[j + 1]], by omega, by go_num, HL, hown3, HC, hx2⟩, rfl⟩)
          case measure => simp [intOf]; omega
    · have hfin : coll s.data.toList = out := by
        rw [hc.out, List.drop_of_length_le (by rw [data_len]; omega)]; rfl
      have HF : Hid (str out = collapse s) := by unfold collapse; rw [hfin]; rfl
      have kc := conv_own wr _ _ out hown
      clear hfin hc hlen
      go_wp2
      go_ret
      exact ⟨by rw [← HF.out]; rfl, hx⟩
theorem refValid_any (s : ByteArray) (w : World) (hs : s.size ≤ 140737488351232) :
    Calls Tryz.prog 47 #[.string s] w fun e w' => e = .returned (.bool (validS s)) ∧ Ext w w' := by
  have hml : s.size ≤ maxLen := by unfold maxLen; omega
  have hcon := refCheck_any s w hml
  obtain ⟨K, hK⟩ : ∃ K, (checkS s).2 = K := ⟨_, rfl⟩
  obtain ⟨R, hR⟩ : ∃ R, collapse s = R := ⟨_, rfl⟩
  have hfin : validS s = (decide (K = 0) && (R.data.toList == s.data.toList)) := by unfold validS; rw [hK, hR]
  have hcol := fun w' => refCollapse_any s w' hs
  rw [hK] at hcon
  rw [hR] at hcol
  rw [hfin]
  clear hfin hK hR
  have HC := Lib.hid hcon
  have HD := Lib.hid hcol
  clear hcon hcol
  by_cases h0 : K = 0
  · subst h0
    go_enter Tryz.func47, Tryz.ntmps47
    go_wp2_with (first | (go_at_call 75; refine (HC.out).mono ?_; rintro e w' ⟨rfl, hx⟩) | (go_at_call 46; refine (HD.out _).mono ?_; rintro e w' ⟨rfl, hx'⟩))
    go_ret
    exact ⟨by simp [toList_beq], hx.trans hx'⟩
  · have hb : ((K : Int) == 0) = false := by rw [beq_eq_false_iff_ne]; omega
    have hk : decide (K = 0) = false := by simp [h0]
    rw [hk]
    clear hk h0
    go_enter Tryz.func47, Tryz.ntmps47
    go_wp2_with (first | (go_at_call 75; refine (HC.out).mono ?_; rintro e w' ⟨rfl, hx⟩) | (go_at_call 46; refine (HD.out _).mono ?_; rintro e w' ⟨rfl, hx'⟩))
    go_ret
    exact ⟨by simp, hx⟩
end Go.Proofs.YtgecijhgonfldaaGreatDoor
namespace Go.Proofs.YtgecijhgonfldaaGreatDoor
open Go
def hexD (n : Nat) : UInt8 := UInt8.ofNat (if n < 10 then 48 + n else 87 + n)
def escB (c : UInt8) : List UInt8 :=
  if c.toNat = 34 ∨ c.toNat = 92 then [92, c]
  else if 32 ≤ c.toNat then []
  else if c.toNat = 8 then [92, 98] else if c.toNat = 12 then [92, 102] else if c.toNat = 10 then [92, 110] else if c.toNat = 13 then [92, 114] else if c.toNat = 9 then [92, 116]
  else [92, 117, 48, 48, hexD (c.toNat / 16), hexD (c.toNat % 16)]
def qB (c : UInt8) : List UInt8 := if escB c = [] then [c] else escB c
def quoteL (l : List UInt8) : List UInt8 := 34 :: (l.flatMap qB ++ [34])
def quoteS (s : ByteArray) : ByteArray × Nat := if Lib.validD s.data.toList then (str (quoteL s.data.toList), 0) else (str [], 5)
def valGo : Nat → List UInt8 → Bool
  | 0, _ => true
  | n + 1, l => if l = [] then true else if (dec l).2 = 0 then false else valGo n (l.drop (dec l).2)
theorem valid_at (l : List UInt8) (k : Nat) (hk : k < l.length) : Lib.validD (l.drop k) = if (dec (l.drop k)).2 = 0 then false else Lib.validD (l.drop (k + (dec (l.drop k)).2)) := by
  have hne : l.drop k ≠ [] := by intro h; have := congrArg List.length h; simp at this; omega
  rw [Lib.validD_step _ hne]
  have hd : dec (l.drop k) = if (Lib.decodeL (l.drop k)).1 = 65533 ∧ (Lib.decodeL (l.drop k)).2 = 1 then (0, 0) else Lib.decodeL (l.drop k) := by unfold dec; rw [if_neg hne]
  by_cases h : (Lib.decodeL (l.drop k)).1 = 65533 ∧ (Lib.decodeL (l.drop k)).2 = 1
  · rw [if_pos h] at hd ⊢
    rw [hd]; rfl
  · rw [if_neg h] at hd ⊢
    rw [hd, if_neg, List.drop_drop]
    rw [decodeL_nat]
    have := (decodeN_len (l.drop k).length ((l.drop k).getD 0 0).toNat ((l.drop k).getD 1 0).toNat ((l.drop k).getD 2 0).toNat ((l.drop k).getD 3 0).toNat (List.length_pos_iff.2 hne)).1
    omega
theorem valid_end (l : List UInt8) (k : Nat) (hk : l.length ≤ k) : Lib.validD (l.drop k) = true := by
  rw [List.drop_of_length_le hk]; rfl
def letterN (c : Nat) : Nat := if c = 34 ∨ c = 92 then c else if c = 8 then 98 else if c = 9 then 116 else if c = 10 then 110 else if c = 12 then 102 else if c = 13 then 114 else 0
theorem escB_letter (c : UInt8) (h : letterN c.toNat ≠ 0) : escB c = [92, UInt8.ofNat (letterN c.toNat)] := by
  unfold letterN at h ⊢
  unfold escB
  by_cases h1 : c.toNat = 34 ∨ c.toNat = 92
  · rw [if_pos h1, if_pos h1]; simp
  · rw [if_neg h1] at h ⊢
    rw [if_neg h1]
    have hc : c.toNat = 8 ∨ c.toNat = 9 ∨ c.toNat = 10 ∨ c.toNat = 12 ∨ c.toNat = 13 := by
      by_cases a : c.toNat = 8 <;> by_cases b : c.toNat = 9 <;> by_cases d : c.toNat = 10 <;> by_cases e : c.toNat = 12 <;> by_cases f : c.toNat = 13 <;> simp_all
    rcases hc with e | e | e | e | e <;> rw [e] <;> rfl
theorem escB_hex (c : UInt8) (h : letterN c.toNat = 0) (h2 : c.toNat < 32) : escB c = [92, 117, 48, 48, hexD (c.toNat / 16), hexD (c.toNat % 16)] := by
  unfold letterN at h
  unfold escB
  by_cases h1 : c.toNat = 34 ∨ c.toNat = 92
  · omega
  · rw [if_neg h1] at h ⊢
    rw [if_neg (by omega)]
    by_cases a : c.toNat = 8
    · rw [if_pos a] at h; omega
    · rw [if_neg a] at h ⊢
      by_cases b : c.toNat = 9
      · rw [if_pos b] at h; omega
      · rw [if_neg b] at h
        by_cases d : c.toNat = 10
        · rw [if_pos d] at h; omega
        · rw [if_neg d] at h
          by_cases e : c.toNat = 12
          · rw [if_pos e] at h; omega
          · rw [if_neg e] at h ⊢
            by_cases f : c.toNat = 13
            · rw [if_pos f] at h; omega
            · rw [if_neg d, if_neg f, if_neg b]
theorem escB_none (c : UInt8) (h : letterN c.toNat = 0) (h2 : 32 ≤ c.toNat) : escB c = [] := by
  unfold letterN at h
  unfold escB
  by_cases h1 : c.toNat = 34 ∨ c.toNat = 92
  · rw [if_pos h1] at h; omega
  · rw [if_neg h1, if_pos h2]
theorem qB_letter (c : UInt8) (h : letterN c.toNat ≠ 0) : qB c = [92, UInt8.ofNat (letterN c.toNat)] := by
  unfold qB; rw [escB_letter c h, if_neg (by simp)]
theorem qB_hex (c : UInt8) (h : letterN c.toNat = 0) (h2 : c.toNat < 32) : qB c = [92, 117, 48, 48, hexD (c.toNat / 16), hexD (c.toNat % 16)] := by
  unfold qB; rw [escB_hex c h h2, if_neg (by simp)]
theorem qB_none (c : UInt8) (h : letterN c.toNat = 0) (h2 : 32 ≤ c.toNat) : qB c = [c] := by
  unfold qB; rw [escB_none c h h2, if_pos rfl]
theorem escB_len (c : UInt8) : (escB c).length ≤ 6 := by
  unfold escB
  repeat' split
  all_goals simp
theorem qB_len (c : UInt8) : (qB c).length ≤ 6 := by
  unfold qB
  split
  · simp
  · exact escB_len c
theorem flat_len (l : List UInt8) : (l.flatMap qB).length ≤ 6 * l.length := by
  induction l with
  | nil => simp
  | cons c t ih => have := qB_len c; simp only [List.flatMap_cons, List.length_append, List.length_cons]; omega
def decGo : Nat → Nat → List UInt8
  | 0, _ => []
  | k + 1, m => if m < 10 then [UInt8.ofNat (48 + m)] else decGo k (m / 10) ++ [UInt8.ofNat (48 + m % 10)]
end Go.Proofs.YtgecijhgonfldaaGreatDoor
namespace Go.Proofs.YtgecijhgonfldaaGreatDoor
open Go Go.RowKit
set_option linter.unusedVariables false
theorem letter_any (n : Nat) (w : World) : Calls Tryz.prog 161 #[.int .u8 (n : Nat)] w fun e w' => e = .returned (.int .u8 (letterN n : Nat)) ∧ w = w' := by
  obtain ⟨L, hL⟩ : ∃ L, letterN n = L := ⟨_, rfl⟩
  rw [hL]
  have HL := Lib.hid hL
  clear hL
  go_enter Tryz.func161, Tryz.ntmps161
  go_wp2
  all_goals (go_ret; refine ⟨ret_int ?_, rfl⟩)
  all_goals (rw [← HL.out]; unfold letterN; simp at *; (repeat' split) <;> omega)
theorem ref10Valid_any (s : ByteArray) (w : World) (hs : s.size ≤ 16777216) :
    Calls Tryz.prog 160 #[.string s] w fun e w' => e = .returned (.bool (Lib.validD s.data.toList)) ∧ Ext w w' := by
  have hml : s.size ≤ maxLen := by unfold maxLen; omega
  obtain ⟨V, hV⟩ : ∃ V, Lib.validD s.data.toList = V := ⟨_, rfl⟩
  rw [hV]
  have HV := Lib.hid hV
  clear hV
  go_enter Tryz.func160, Tryz.ntmps160
  go_wp2
  go_loopw [3, 4, 5] (fun v _ _ wr => ∃ k : Nat, k ≤ s.size ∧ v = .int .i64 k ∧ Hid (V = Lib.validD (s.data.toList.drop k)) ∧ Ext w wr) (fun v _ _ _ => s.size - (intOf v).toNat)
  case atStart => exact ⟨0, Nat.zero_le _, rfl, HV.out.symm, Ext.refl _⟩
  case round =>
    obtain ⟨k, hk, rfl, hc, hx⟩ := hrel
    by_cases hlt : k < s.size
    · have hst := valid_at s.data.toList k (by rw [data_len]; exact hlt)
      have hle := dec_le (s.data.toList.drop k)
      rw [List.length_drop, data_len] at hle
      have hcon := refDecode_in s k wr hlt hml
      have hc2 := hc.out.trans hst
      clear hc hst
      obtain ⟨R, hR⟩ : ∃ R, (dec (s.data.toList.drop k)).1 = R := ⟨_, rfl⟩
      obtain ⟨K, hK⟩ : ∃ K, (dec (s.data.toList.drop k)).2 = K := ⟨_, rfl⟩
      rw [hR, hK] at hcon
      rw [hK] at hle hc2
      clear hR hK
      have HC := Lib.hid hcon
      have HS := Lib.hid hc2
      clear hcon hc2
      by_cases h0 : K = 0
      · subst h0
        have hfin := HS.out
        rw [if_pos rfl] at hfin
        have HF := Lib.hid hfin
        clear hfin HS
        go_wp2_with (first | (go_at_call 103; refine (HC.out).mono ?_; rintro e w' ⟨rfl, hx'⟩))
        go_ret
        exact ⟨by rw [HF.out]; rfl, hx.trans hx'⟩
      · have hb : ((K : Int) == 0) = false := by rw [beq_eq_false_iff_ne]; omega
        have HS2 : Hid (V = Lib.validD (s.data.toList.drop (k + K))) := by
          have h := HS.out
          rw [if_neg h0] at h
          exact h
        clear HS
        go_wp2_with (first | (go_at_call 103; refine (HC.out).mono ?_; rintro e w' ⟨rfl, hx'⟩))
        go_roundw
        case rel => exact ⟨k + K, by omega, by go_num, HS2, hx.trans hx'⟩
        case measure => simp [intOf]; omega
    · have hfin : V = true := by rw [hc.out, valid_end _ _ (by rw [data_len]; omega)]
      have HF := Lib.hid hfin
      clear hfin hc
      go_wp2
      go_ret
      exact ⟨by rw [HF.out]; rfl, hx⟩
end Go.Proofs.YtgecijhgonfldaaGreatDoor
