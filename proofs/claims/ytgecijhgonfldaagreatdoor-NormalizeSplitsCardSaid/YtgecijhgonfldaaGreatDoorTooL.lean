/- Contracts: the laws' bound on sizes: TooLarge, large. -/
import Derived.Test.YtgecijhgonfldaaGreatDoorBigP
import Derived.Test.YtgecijhgonfldaaGreatDoorM28
import Derived.Test.YtgecijhgonfldaaGreatDoorM18
namespace Go.Proofs.YtgecijhgonfldaaGreatDoor
open Go Go.RowKit
set_option linter.unusedVariables false

theorem wrap2 {a b : Nat} (h1 : a ≤ 140737488351232) (h2 : b ≤ 140737488351232) : wrap64 ((a : Int) + (b : Int)) = (a : Int) + (b : Int) := wrap_ok _ ⟨by omega, by omega⟩
theorem wrap3 {a b c : Nat} (h1 : a ≤ 140737488351232) (h2 : b ≤ 140737488351232) (h3 : c ≤ 140737488351232) : wrap64 ((a : Int) + (b : Int) + (c : Int)) = (a : Int) + (b : Int) + (c : Int) := wrap_ok _ ⟨by omega, by omega⟩
theorem wrap4 {a b c d : Nat} (h1 : a ≤ 140737488351232) (h2 : b ≤ 140737488351232) (h3 : c ≤ 140737488351232) (h4 : d ≤ 140737488351232) : wrap64 ((a : Int) + (b : Int) + (c : Int) + (d : Int)) = (a : Int) + (b : Int) + (c : Int) + (d : Int) := wrap_ok _ ⟨by omega, by omega⟩
theorem wrapS {a : Nat} (h : a ≤ 1000000000000000) : wrap64 (a : Int) = (a : Int) := wrap_ok _ ⟨by omega, by omega⟩
theorem wrapM {M : Int} (h1 : 0 ≤ M) (h2 : M ≤ 9000) : wrap64 (1 + M) = 1 + M := wrap_ok _ ⟨by omega, by omega⟩
theorem wrapJ {j : Nat} (h : j ≤ 1000000000000000) : wrap64 ((j : Int) + 1) = (j : Int) + 1 := wrap_ok _ ⟨by omega, by omega⟩
theorem measJ {n j : Nat} (h : j < n) : n - ((j : Int) + 1).toNat < n - (j : Int).toNat := by omega
theorem wrapQ {q : Nat} {M : Int} (h : q ≤ 2000000000000000000) (h1 : 0 ≤ M) (h2 : M ≤ 9000) : wrap64 ((q : Int) + (1 + M)) = (q : Int) + (1 + M) := wrap_ok _ ⟨by omega, by omega⟩
set_option maxRecDepth 100000 in
set_option maxHeartbeats 4000000 in
theorem tooLarge_any (v : Value) (l : List Fc) (w : World) (hr : RFcs w v l) (hrd : ∀ x ∈ l, RdC w x) (hn : l.length ≤ reachBytes) (hk : ∀ x ∈ l, fwide x.f) :
    Calls Tryz.prog 49 #[.agg #[v]] w fun e w' => e = .returned (.int .i64 (if 5000 < bigL (l.map Fc.f) then 1 else 0)) ∧ Ext w w' := by
  obtain ⟨A, c, rfl, hlc, hcm⟩ := hr.form
  have HK := Lib.hid hk
  have HRD := Lib.hid hrd
  obtain ⟨R, hR⟩ : ∃ R : Int, (if 5000 < bigL (l.map Fc.f) then 1 else 0) = R := ⟨_, rfl⟩
  rw [hR]
  have HR := Lib.hid hR
  unfold reachBytes at hn
  clear hlc hcm hk hrd hR
  go_enter Tryz.func49, Tryz.ntmps49
  go_wp2
  go_loopw [3, 13] (fun u i wr => ∃ (k n : Nat), k ≤ l.length ∧ i = .int .i64 k ∧ u = .int .i64 n ∧ n ≤ 5000 ∧ Hid (n = bigL ((l.take k).map Fc.f)) ∧ Ext w wr) (fun _ i _ => l.length - (intOf i).toNat)
  case atStart => exact ⟨0, 0, Nat.zero_le _, rfl, rfl, by decide, Lib.hid rfl, (Ext.refl _).alloc _⟩
  case round =>
    obtain ⟨k, n, hk, rfl, rfl, hn5, hnk, hx⟩ := hrel
    by_cases hlt : k < l.length
    · obtain ⟨ad, c', hv, hat⟩ := (hr.ext hx).at hlt
      injection hv with hv1 hv2 hv3
      subst hv1
      clear hv2 hv3
      have hmem : l[k] ∈ l := List.getElem_mem hlt
      have hrx := (HRD.out _ hmem).ext hx
      have hkx := HK.out _ hmem
      have htk := bigL_take hlt
      rw [← hnk.out] at htk
      have hle := bigL_le l (k + 1)
      obtain ⟨x, hxx⟩ : ∃ x, l[k] = x := ⟨_, rfl⟩
      rw [hxx] at hat hrx hkx htk
      have HTK := Lib.hid htk
      have HLE := Lib.hid hle
      clear hxx htk hle hmem hnk
      obtain ⟨k1, k2, k3, k4, k5, k6, k7, k8⟩ := hkx
      unfold reachBytes at k2 k4 k5 k6 k7
      have HK3 := Lib.hid k3
      have HK8 := Lib.hid k8
      obtain ⟨xp, xes, ⟨xpath, xid, xtitle, xlink, xupd, xents⟩⟩ := x
      obtain ⟨hx0, hx1⟩ := hrx
      dsimp only at *
      obtain ⟨xA, xc, rfl, -, -⟩ := hx0.form
      obtain ⟨xB, xd, rfl, -, -⟩ := hx1.form
      have HX0 := Lib.hid hx0
      have HX1 := Lib.hid hx1
      have HX := Lib.hid hx
      obtain ⟨a0, a1, a2, a3, a4, a5⟩ := hat
      dsimp only at a0 a1 a2 a3 a4 a5
      have hi0' : (0 : Int) ≤ (k : Int) := by omega
      have hi1 : (k : Int) < (l.length : Int) := by omega
      have hw1 : wrap64 ((xid.size : Int) + (xtitle.size : Int)) = (xid.size : Int) + (xtitle.size : Int) := wrap2 k4 k5
      have hw2 : wrap64 ((xid.size : Int) + (xtitle.size : Int) + (xlink.size : Int)) = (xid.size : Int) + (xtitle.size : Int) + (xlink.size : Int) := wrap3 k4 k5 k6
      clear k1 k3 k8 hx0 hx1
      obtain ⟨S0, hS0⟩ : ∃ S0, xid.size + xtitle.size + xlink.size = S0 := ⟨_, rfl⟩
      have HS0 := Lib.hid hS0
      have hS0i : (xid.size : Int) + (xtitle.size : Int) + (xlink.size : Int) = (S0 : Int) := by omega
      obtain ⟨wB, hwB⟩ : ∃ wB : World, wB = wr := ⟨_, rfl⟩
      subst hwB
      have hxB : Ext w (wB.alloc (.cells #[.slice xA xpath.length xc, .string xid, .string xtitle, .string xlink, .int .i64 xupd, .slice xB xents.length xd] 35)) := hx.alloc _
      have HXB := Lib.hid hxB
      have HB5 : Hid (∀ w', Ext (wB.alloc (.cells #[.slice xA xpath.length xc, .string xid, .string xtitle, .string xlink, .int .i64 xupd, .slice xB xents.length xd] 35)) w' → w'.cell? ⟨wB.heap.size, 5, none⟩ = some (.slice xB xents.length xd)) := Lib.hid fun w' h => h.boxed 5 _ rfl
      clear hxB
      go_wp2
      clear hw1 hw2 a0 a1 a2 a3 a4 a5
      go_loopw [3, 35] (fun u i wr => ∃ (j m : Nat), j ≤ xpath.length ∧ i = .int .i64 j ∧ u = .int .i64 m ∧ m ≤ 14001 + 9001 * j ∧ Hid (m = n + capN S0 + bigP (xpath.take j)) ∧ Ext (wB.alloc (.cells #[.slice xA xpath.length xc, .string xid, .string xtitle, .string xlink, .int .i64 xupd, .slice xB xents.length xd] 35)) wr) (fun _ i _ => xpath.length - (intOf i).toNat)
      case atStart => exact ⟨0, n + capN S0, Nat.zero_le _, rfl, congrArg (Value.int .i64) (by unfold capN; omega), by have := capN_le S0; omega, Lib.hid rfl, Ext.refl _⟩
      case round =>
        obtain ⟨j, m, hj, rfl, rfl, hmb, hme, hxj⟩ := hrel
        by_cases hjl : j < xpath.length
        · obtain ⟨ae, c2, e2, hc⟩ := ((HX0.out.ext ((Ext.refl _).alloc _)).ext hxj).at hjl
          injection e2 with e2 e2' e2''
          subst e2
          clear e2' e2''
          have hsz := HK3.out _ (List.getElem_mem hjl)
          unfold reachBytes at hsz
          have htk := bigP_take hjl
          obtain ⟨s, hs⟩ : ∃ s, xpath[j] = s := ⟨_, rfl⟩
          rw [hs] at hc hsz htk
          have HTP := Lib.hid htk
          have hi0' : (0 : Int) ≤ (j : Int) := by omega
          have hi1 : (j : Int) < (xpath.length : Int) := by omega
          clear hs htk
          go_wp2
          go_roundw
          case rel => exact ⟨j + 1, m + capN s.size, hjl, by go_num, congrArg (Value.int .i64) (by unfold capN; omega), by have := capN_le s.size; omega, Lib.hid (by have := hme.out; have := HTP.out; omega), hxj⟩
          case measure => simp [intOf]; omega
        · have hje : j = xpath.length := by omega
          subst hje
          rw [List.take_of_length_le (Nat.le_refl _)] at hme
          have b5 := HB5.out _ hxj
          obtain ⟨wC, hwC⟩ : ∃ wC : World, wC = wr := ⟨_, rfl⟩
          subst hwC
          have HXJ := Lib.hid hxj
          go_wp2
          go_loopw [3, 49] (fun u i wr => ∃ (j q : Nat), j ≤ xents.length ∧ i = .int .i64 j ∧ u = .int .i64 q ∧ q ≤ 14001 + 9001 * xpath.length ∧ Hid (q = m + bigEs (xents.take j)) ∧ Ext wC wr) (fun _ i _ => xents.length - (intOf i).toNat)
          case atStart => exact ⟨0, m, Nat.zero_le _, rfl, rfl, by omega, Lib.hid rfl, Ext.refl _⟩
          case round =>
            obtain ⟨j, q, hj2, rfl, rfl, hqb, hqe, hxq⟩ := hrel
            by_cases hjl2 : j < xents.length
            · obtain ⟨ae, c2, e2, hat⟩ := (((HX1.out.ext ((Ext.refl _).alloc _)).ext HXJ.out).ext hxq).at hjl2
              injection e2 with e2 e2' e2''
              subst e2
              clear e2' e2''
              have hsz := HK8.out _ (List.getElem_mem hjl2)
              have htk := bigEs_take hjl2
              have hle2 := bigEs_le xents (j + 1)
              obtain ⟨e, he⟩ : ∃ e, xents[j] = e := ⟨_, rfl⟩
              rw [he] at hat hsz htk
              have HTE := Lib.hid htk
              have HLE2 := Lib.hid hle2
              clear he htk hle2
              obtain ⟨eid, etitle, elink, econtent, eupd⟩ := e
              obtain ⟨_, g1, g2, g3, g4⟩ := hsz
              unfold reachBytes at g1 g2 g3 g4
              obtain ⟨p0, p1, p2, p3, p4⟩ := hat
              dsimp only at g1 g2 g3 g4 p0 p1 p2 p3 p4
              have hi0' : (0 : Int) ≤ (j : Int) := by omega
              have hi1 : (j : Int) < (xents.length : Int) := by omega
              obtain ⟨S1, hS1⟩ : ∃ S1, eid.size + etitle.size + elink.size + econtent.size = S1 := ⟨_, rfl⟩
              have hE : bigE ⟨eid, etitle, elink, econtent, eupd⟩ = capN S1 := by rw [← hS1]; rfl
              have hS1i : (eid.size : Int) + (etitle.size : Int) + (elink.size : Int) + (econtent.size : Int) = (S1 : Int) := by omega
              have hq63 : q ≤ 2000000000000000000 := by omega
              have HJ2 := Lib.hid hjl2
              have hj15 : j ≤ 1000000000000000 := by omega
              by_cases hbig : 5000 < q + capN S1
              · have hbi : (5000 : Int) < (q : Int) + (1 + min (S1 : Int) 9000) := by unfold capN at hbig; omega
                have hR1 : R = 1 := by
                  rw [← HR.out, if_pos]
                  have h1 := HTK.out
                  have h2 := HLE.out
                  have h3 := hqe.out
                  have h4 := hme.out
                  have h5 := HTE.out
                  have h6 := HLE2.out
                  rw [hE] at h5
                  have h7 : bigF ⟨xpath, xid, xtitle, xlink, xupd, xents⟩ = capN S0 + bigP xpath + bigEs xents := by
                    unfold bigF bigH
                    rw [← HS0.out]
                  omega
                subst hR1
                obtain ⟨M, hM⟩ : ∃ M : Int, min (S1 : Int) 9000 = M := ⟨_, rfl⟩
                have hM1 : 0 ≤ M := by omega
                have hM2 : M ≤ 9000 := by omega
                rw [hM] at hbi
                have HM := Lib.hid hM
                have hS1b : S1 ≤ 1000000000000000 := by omega
                have hwS := congrArg (Value.int .i64) (wrapS hS1b)
                have hwM := congrArg (Value.int .i64) (wrapM hM1 hM2)
                have hwQ := congrArg (Value.int .i64) (wrapQ hq63 hM1 hM2)
                clear hbig hE hS1 hS1b
                have hw1 := congrArg (Value.int .i64) (wrap2 g1 g2)
                have hw2 := congrArg (Value.int .i64) (wrap3 g1 g2 g3)
                have hw3 := congrArg (Value.int .i64) (wrap4 g1 g2 g3 g4)
                clear g1 g2 g3 g4 k2 k4 k5 k6 k7 hn hS0 hS0i hmb hqb hn5 hj2 hjl2 hjl hj hk hlt
                go_wp2
                go_ret
                exact ⟨rfl, (HXB.out.trans HXJ.out).trans (hxq.alloc _)⟩
              · have hbi : ¬ (5000 : Int) < (q : Int) + (1 + min (S1 : Int) 9000) := by unfold capN at hbig; omega
                have HBG := Lib.hid hbig
                have HEE := Lib.hid hE
                obtain ⟨M, hM⟩ : ∃ M : Int, min (S1 : Int) 9000 = M := ⟨_, rfl⟩
                have hM1 : 0 ≤ M := by omega
                have hM2 : M ≤ 9000 := by omega
                rw [hM] at hbi
                have HM := Lib.hid hM
                have hS1b : S1 ≤ 1000000000000000 := by omega
                have hwS := congrArg (Value.int .i64) (wrapS hS1b)
                have hwM := congrArg (Value.int .i64) (wrapM hM1 hM2)
                have hwQ := congrArg (Value.int .i64) (wrapQ hq63 hM1 hM2)
                clear hbig hE hS1 hS1b
                have hw1 := congrArg (Value.int .i64) (wrap2 g1 g2)
                have hw2 := congrArg (Value.int .i64) (wrap3 g1 g2 g3)
                have hw3 := congrArg (Value.int .i64) (wrap4 g1 g2 g3 g4)
                clear g1 g2 g3 g4 k2 k4 k5 k6 k7 hn hS0 hS0i hmb hqb hn5 hj2 hjl2 hjl hj hk hlt
                go_wp2
                clear hw1 hw2 hw3 hwS hwM hwQ
                go_roundw
                case rel =>
                  refine ⟨j + 1, q + capN S1, HJ2.out, by go_num, congrArg (Value.int .i64) (by have := HM.out; unfold capN; omega), by have := HBG.out; omega, Lib.hid ?_, hxq.alloc _⟩
                  have h3 := hqe.out
                  have h5 := HTE.out
                  rw [HEE.out] at h5
                  omega
                case measure => simp [intOf]; have := HJ2.out; omega
            · have hje2 : j = xents.length := by omega
              subst hje2
              rw [List.take_of_length_le (Nat.le_refl _)] at hqe
              have h7 : bigF ⟨xpath, xid, xtitle, xlink, xupd, xents⟩ = capN S0 + bigP xpath + bigEs xents := by
                unfold bigF bigH
                rw [← HS0.out]
              have hq : q = bigL ((l.take (k + 1)).map Fc.f) := by
                have h1 := HTK.out
                have h3 := hqe.out
                have h4 := hme.out
                rw [h7] at h1
                omega
              have HQ := Lib.hid hq
              have hxa := (HXB.out.trans HXJ.out).trans hxq
              clear hq h7 hqe
              by_cases hbig : 5000 < q
              · have hbi : (5000 : Int) < (q : Int) := by omega
                have hR1 : R = 1 := by
                  rw [← HR.out, if_pos]
                  have h2 := HLE.out
                  have := HQ.out
                  omega
                subst hR1
                clear hbig
                go_wp2
                go_ret
                exact ⟨rfl, hxa⟩
              · have hbi : ¬ (5000 : Int) < (q : Int) := by omega
                have hq5 : q ≤ 5000 := by omega
                clear hbig
                go_wp2
                go_roundw
                case rel => exact ⟨k + 1, q, hlt, by go_num, rfl, hq5, HQ, hxa⟩
                case measure => simp [intOf]; omega
    · have hke : k = l.length := by omega
      subst hke
      have hnn := hnk.out
      rw [List.take_of_length_le (Nat.le_refl _)] at hnn
      have hR0 : R = 0 := by rw [← HR.out, if_neg]; omega
      subst hR0
      clear hnn hnk
      go_wp2
      go_ret
      exact ⟨rfl, hx⟩
theorem large_any (v : Value) (l : List Fc) (w : World) (hr : RFcs w v l) (hrd : ∀ x ∈ l, RdC w x) (hn : l.length ≤ reachBytes) (hk : ∀ x ∈ l, fwide x.f) :
    Calls Tryz.prog 20 #[v] w fun e w' => e = .returned (.bool (decide (50 < l.length) || decide (5000 < bigL (l.map Fc.f)))) ∧ Ext w w' := by
  have HT := Lib.hid (tooLarge_any v l w hr hrd hn hk)
  obtain ⟨A, c, rfl, -, -⟩ := hr.form
  clear hr hrd hn hk
  by_cases hb : 50 < l.length
  · have hb' : (50 : Int) < (l.length : Int) := by omega
    rw [decide_eq_true hb, Bool.true_or]
    clear hb HT
    go_enter Tryz.func20, Tryz.ntmps20
    go_wp2
    go_ret
    exact ⟨rfl, Ext.refl _⟩
  · have hb' : ¬ (50 : Int) < (l.length : Int) := by omega
    rw [decide_eq_false hb, Bool.false_or]
    clear hb
    by_cases hc : 5000 < bigL (l.map Fc.f)
    · rw [if_pos hc] at HT
      rw [decide_eq_true hc]
      clear hc
      go_enter Tryz.func20, Tryz.ntmps20
      go_wp2_with (first | (go_at_call 49; (with_reducible refine Calls.mono HT.out ?_); rintro e w1 ⟨rfl, hx1⟩))
      go_ret
      exact ⟨rfl, hx1⟩
    · rw [if_neg hc] at HT
      rw [decide_eq_false hc]
      clear hc
      go_enter Tryz.func20, Tryz.ntmps20
      go_wp2_with (first | (go_at_call 49; (with_reducible refine Calls.mono HT.out ?_); rintro e w1 ⟨rfl, hx1⟩))
      go_ret
      exact ⟨rfl, hx1⟩
end Go.Proofs.YtgecijhgonfldaaGreatDoor
