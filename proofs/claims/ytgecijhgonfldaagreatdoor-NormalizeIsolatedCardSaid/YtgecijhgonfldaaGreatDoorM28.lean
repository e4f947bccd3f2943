/- YtgecijhgonfldaaGreatDoor: texts CmpP, CmpF, put one behind the other. -/
import Derived.Test.YtgecijhgonfldaaGreatDoorM24
/- Contracts: the reference's ComparePaths. -/
namespace Go.Proofs.YtgecijhgonfldaaGreatDoor
open Go Go.RowKit
set_option linter.unusedVariables false

theorem pathCmp_drop {a b : List ByteArray} {k : Nat} (ha : k < a.length) (hb : k < b.length) : pathCmp (a.drop k) (b.drop k) = if sCmp a[k] b[k] = 0 then pathCmp (a.drop (k + 1)) (b.drop (k + 1)) else sCmp a[k] b[k] := by
  rw [List.drop_eq_getElem_cons ha, List.drop_eq_getElem_cons hb]
  rfl
theorem RStrs.at {w : World} {v : Value} {l : List ByteArray} (h : RStrs w v l) {k : Nat} (hk : k < l.length) : ∃ ad c, v = .slice (some ad) l.length c ∧ w.cell? (ad.add k) = some (.string l[k]) := by
  obtain ⟨_, A, c, e, _, _, _, h5⟩ := h
  obtain ⟨ad, rfl, hc⟩ := h5 k (.string l[k]) (by rw [List.getElem?_map, List.getElem?_eq_getElem hk]; rfl)
  exact ⟨ad, c, e, hc⟩
theorem sCmp_self (a : ByteArray) : sCmp a a = 0 := sCmp_is.self a

set_option maxRecDepth 100000 in
set_option maxHeartbeats 2000000 in
theorem refCmpP_any (u v : Value) (a b : List ByteArray) (w : World) (ha : RStrs w u a) (hb : RStrs w v b) (hn : a.length ≤ 16777216) :
    Calls Tryz.prog 54 #[u, v] w fun e w' => e = .returned (.int .i64 (pathCmp a b)) ∧ Ext w w' := by
  obtain ⟨A, c, rfl, hac, hcm⟩ := ha.form
  obtain ⟨B, d, rfl, hbd, hdm⟩ := hb.form
  have HA : Hid (a.length ≤ maxLen) := Lib.hid (by omega)
  have HB : Hid (b.length ≤ maxLen) := Lib.hid (by omega)
  clear hac hcm hbd hdm
  go_enter Tryz.func54, Tryz.ntmps54
  go_wp2
  go_loopw [5] (fun i wr => ∃ k : Nat, k ≤ a.length ∧ k ≤ b.length ∧ i = .int .i64 k ∧ Hid (pathCmp a b = pathCmp (a.drop k) (b.drop k)) ∧ Ext w wr) (fun i _ => a.length - (intOf i).toNat)
  case atStart => exact ⟨0, Nat.zero_le _, Nat.zero_le _, rfl, Lib.hid rfl, Ext.refl _⟩
  case round =>
    obtain ⟨k, hka, hkb, rfl, hinv, hx⟩ := hrel
    by_cases hla : k < a.length
    · by_cases hlb : k < b.length
      · have hpd := pathCmp_drop hla hlb
        obtain ⟨ad, c1, e1, hca⟩ := (ha.ext hx).at hla
        injection e1 with e1 e2 e3
        subst e1
        obtain ⟨bd, d1, e4, hcb⟩ := (hb.ext hx).at hlb
        injection e4 with e4 e5 e6
        subst e4
        clear e2 e3 e5 e6
        obtain ⟨x, hxx⟩ : ∃ x, a[k] = x := ⟨_, rfl⟩
        obtain ⟨y, hyy⟩ : ∃ y, b[k] = y := ⟨_, rfl⟩
        rw [hxx, hyy] at hpd
        rw [hxx] at hca
        rw [hyy] at hcb
        have HPD := Lib.hid hpd
        have HC := Lib.hid (fun w' => refCompare_any x y w')
        clear hpd hxx hyy
        have hi0 : (0 : Int) ≤ (k : Int) := by omega
        have hia : (k : Int) < (a.length : Int) := by omega
        have hib : (k : Int) < (b.length : Int) := by omega
        have f0 : ∀ d : Aft wr, d.w.cell? (ad.add k) = some (.string x) := Aft.cell hca
        have f1 : ∀ d : Aft wr, d.w.cell? (bd.add k) = some (.string y) := Aft.cell hcb
        cases hxy : (x.toList == y.toList) with
        | true =>
          have hxe : x = y := toList_inj (by simpa using hxy)
          have HXE := Lib.hid hxe
          clear hxe
          go_wp2
          refine wp_region_aft (by kernel_rfl) (by kernel_rfl) ?_
          repeat (first | go_big_quiet_step (fail) | quiet_step (fail))
          refine wpQuiet_nil ?_
          rintro _ ⟨d1, rfl⟩
          have hx1 := hx.trans d1.ext
          clear f0 f1
          go_wp2
          go_roundw
          case rel =>
            refine ⟨k + 1, by omega, by omega, by go_num, Lib.hid ?_, hx1⟩
            rw [hinv.out, HPD.out, HXE.out, if_pos (sCmp_self _)]
          case measure => simp [intOf]; omega
        | false =>
          have hxe : ¬ sCmp x y = 0 := by
            intro e
            have := sCmp_eq e
            rw [this] at hxy
            simp at hxy
          have HXE := Lib.hid hxe
          clear hxe
          go_wp2
          refine wp_region_aft (by kernel_rfl) (by kernel_rfl) ?_
          repeat (first | go_big_quiet_step (fail) | quiet_step (fail))
          refine wpQuiet_nil ?_
          rintro _ ⟨d1, rfl⟩
          have hx1 := hx.trans d1.ext
          have g0 : ∀ d : Aft d1.w, d.w.cell? (ad.add k) = some (.string x) := fun d => (d1.ext.trans d.ext).cell hca
          have g1 : ∀ d : Aft d1.w, d.w.cell? (bd.add k) = some (.string y) := fun d => (d1.ext.trans d.ext).cell hcb
          clear f0 f1
          go_wp2
          refine wp_region_aft (by kernel_rfl) (by kernel_rfl) ?_
          repeat (first | go_big_quiet_step ((go_at_call 83; with_reducible exact quiet_call_same' (HC.out _))) | quiet_step ((go_at_call 83; with_reducible exact quiet_call_same' (HC.out _))))
          refine wpQuiet_nil ?_
          rintro _ ⟨d2, rfl⟩
          have hx2 := hx1.trans d2.ext
          clear g0 g1
          go_wp2
          go_ret
          have hfin : pathCmp a b = sCmp x y := by rw [hinv.out, HPD.out, if_neg HXE.out]
          exact ⟨by rw [hfin]; rfl, hx2⟩
      · have hke : k = b.length := by omega
        subst hke
        have hfin : pathCmp a b = 1 := by rw [hinv.out, List.drop_of_length_le (Nat.le_refl _), List.drop_eq_getElem_cons hla]; rfl
        have HF := Lib.hid hfin
        clear hfin hinv
        have hib : ¬ (b.length : Int) < (b.length : Int) := by omega
        have hia : (b.length : Int) < (a.length : Int) := by omega
        have hai : ¬ (a.length : Int) < (b.length : Int) := by omega
        go_wp2
        go_ret
        exact ⟨by rw [HF.out]; rfl, hx⟩
    · have hke : k = a.length := by omega
      subst hke
      by_cases hlb : a.length < b.length
      · have hfin : pathCmp a b = -1 := by rw [hinv.out, List.drop_of_length_le (Nat.le_refl a.length), List.drop_eq_getElem_cons hlb]; rfl
        have HF := Lib.hid hfin
        clear hfin hinv
        have hib : (a.length : Int) < (b.length : Int) := by omega
        go_wp2
        go_ret
        exact ⟨by rw [HF.out]; rfl, hx⟩
      · have hle : b.length = a.length := by omega
        have hfin : pathCmp a b = 0 := by rw [hinv.out, List.drop_of_length_le (Nat.le_refl a.length), List.drop_of_length_le (by omega)]; rfl
        have HF := Lib.hid hfin
        clear hfin hinv
        have hib : ¬ (a.length : Int) < (b.length : Int) := by omega
        have hai : ¬ (b.length : Int) < (a.length : Int) := by omega
        go_wp2
        go_ret
        exact ⟨by rw [HF.out]; rfl, hx⟩
end Go.Proofs.YtgecijhgonfldaaGreatDoor
/- Contracts: the reference's CompareFeeds. -/
namespace Go.Proofs.YtgecijhgonfldaaGreatDoor
open Go Go.RowKit
set_option linter.unusedVariables false

set_option maxRecDepth 100000 in
set_option maxHeartbeats 1000000 in
theorem refCmpF_any (p q es fs : Value) (a b : Fd) (w : World) (ha : RStrs w p a.path) (hb : RStrs w q b.path) (hn : a.path.length ≤ 16777216) :
    Calls Tryz.prog 63 #[.agg (fCells p es a).toArray, .agg (fCells q fs b).toArray] w fun e w' => e = .returned (.int .i64 (feedCmp a b)) ∧ Ext w w' := by
  have HP := Lib.hid (fun (w' : World) (h : Ext w w') => refCmpP_any p q a.path b.path w' (ha.ext h) (hb.ext h) hn)
  have HC := Lib.hid (fun w' => refCompare_any a.id b.id w')
  have hfin : feedCmp a b = if pathCmp a.path b.path = 0 then sCmp a.id b.id else pathCmp a.path b.path := rfl
  obtain ⟨c, hc⟩ : ∃ c, pathCmp a.path b.path = c := ⟨_, rfl⟩
  rw [hc] at HP hfin
  rw [hfin]
  clear hc hfin
  unfold fCells
  go_enter Tryz.func63, Tryz.ntmps63
  go_wp2_with (first
    | (go_at_call 54; refine (HP.out _ (((Ext.refl _).alloc _).alloc _)).mono ?_; rintro e w1 ⟨rfl, hx1⟩; (have s0 : w1.cell? ⟨w.heap.size, 1, none⟩ = some (.string a.id) := (((Ext.refl _).alloc _).trans hx1).boxed 1 _ rfl); (have s1 : w1.cell? ⟨w.heap.size + 1, 1, none⟩ = some (.string b.id) := by have := hx1.boxed 1 _ rfl; simpa using this))
    | (go_at_call 83; refine (HC.out _).mono ?_; rintro e w2 ⟨rfl, rfl⟩))
  all_goals go_ret
  all_goals exact ⟨by simp_all, (((Ext.refl _).alloc _).alloc _).trans hx1⟩
end Go.Proofs.YtgecijhgonfldaaGreatDoor
