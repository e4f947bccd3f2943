/- NormalizeIgnoresOrder: the law's contract. -/
import Derived.Test.YtgecijhgonfldaaGreatDoorM35
import Derived.Test.YtgecijhgonfldaaGreatDoorK01
import Derived.Test.YtgecijhgonfldaaGreatDoorK00
import Derived.Test.YtgecijhgonfldaaGreatDoorK06
import Derived.Test.YtgecijhgonfldaaGreatDoorConc
import Derived.Deep.RegionHeld3
namespace Go.Proofs.YtgecijhgonfldaaGreatDoor
open Go Go.RowKit
set_option linter.unusedVariables false

theorem flatC_td (l : List Fc) (n : Nat) : flatC l = flatC (l.take n) ++ flatC (l.drop n) := by rw [← flatC_app, List.take_append_drop]
theorem takeF {w : World} {A : Option Addr} {c : Nat} {l : List Fc} (n : Nat) (h : RFcs w (.slice A l.length c) l) (hn : n ≤ l.length) :
    ∃ A1 c1, (∀ wx : World, (Instr.slice 37 (.slice A l.length c) none (some (.int .i64 (n : Int))) none).run Tryz.prog wx = .ok (.slice A1 n c1) wx) ∧ RFcs w (.slice A1 n c1) (l.take n) := by
  obtain ⟨h1, A', c', e, h2, h3, h4, h5⟩ := h
  injection e with e1 e2 e3
  subst e1 e3
  clear e2
  have hlt : (l.take n).length = n := by rw [List.length_take]; omega
  refine ⟨if c = 0 then A else A.map (·.add (0 * 6)), c, fun wx => ?_, ?_⟩
  · rw [run_slice_h (P := Tryz.prog) (w := wx) 37 A l.length c rowSliceF .i64 (n : Int) (by omega) (by omega), rowSizeF]
    show Result.ok (sliced A 0 ((n : Int).toNat) c 6) wx = _
    rw [Int.toNat_natCast]
    rfl
  · unfold RFcs
    rw [hlt]
    refine ⟨by rw [flatC_len, hlt], _, c, rfl, by omega, h3, fun e => ?_, fun j u hu => ?_⟩
    · by_cases h0 : c = 0
      · exact h0
      · rw [if_neg h0] at e
        exact h4 (by simpa using e)
    · have hj : (flatC l)[j]? = some u := by
        rw [flatC_td l n, List.getElem?_append_left (List.getElem?_eq_some_iff.1 hu).1]
        exact hu
      obtain ⟨ad, ha, hc⟩ := h5 j u hj
      subst ha
      refine ⟨ad, ?_, hc⟩
      by_cases h0 : c = 0
      · rw [if_pos h0]
      · rw [if_neg h0]
        show some (ad.add (0 * 6)) = some ad
        rw [Nat.zero_mul, add_zero]
theorem dropF {w : World} {A : Option Addr} {c : Nat} {l : List Fc} (n : Nat) (h : RFcs w (.slice A l.length c) l) (hn : n ≤ l.length) :
    ∃ A2 c2, (∀ wx : World, (Instr.slice 37 (.slice A l.length c) (some (.int .i64 (n : Int))) none none).run Tryz.prog wx = .ok (.slice A2 (l.length - n) c2) wx) ∧ RFcs w (.slice A2 (l.length - n) c2) (l.drop n) := by
  obtain ⟨h1, A', c', e, h2, h3, h4, h5⟩ := h
  injection e with e1 e2 e3
  subst e1 e3
  clear e2
  have hlt : (l.drop n).length = l.length - n := List.length_drop
  refine ⟨if c = n then A else A.map (·.add (n * 6)), c - n, fun wx => ?_, ?_⟩
  · rw [run_slice_l (P := Tryz.prog) (w := wx) 37 A l.length c rowSliceF .i64 (n : Int) (by omega) (by omega), rowSizeF]
    show Result.ok (sliced A ((n : Int).toNat) l.length c 6) wx = _
    rw [Int.toNat_natCast]
    rfl
  · unfold RFcs
    rw [hlt]
    refine ⟨by rw [flatC_len, hlt], _, c - n, rfl, by omega, Nat.le_trans (Nat.sub_le _ _) h3, fun e => ?_, fun j u hu => ?_⟩
    · by_cases h0 : c = n
      · omega
      · rw [if_neg h0] at e
        have := h4 (by simpa using e)
        omega
    · have hjl : j < (flatC (l.drop n)).length := (List.getElem?_eq_some_iff.1 hu).1
      rw [flatC_len, hlt] at hjl
      have htl : (flatC (l.take n)).length = n * 6 := by rw [flatC_len, List.length_take]; congr 1; omega
      have hj : (flatC l)[n * 6 + j]? = some u := by
        rw [flatC_td l n, List.getElem?_append_right (by omega), htl, show n * 6 + j - n * 6 = j by omega]
        exact hu
      obtain ⟨ad, ha, hc⟩ := h5 _ u hj
      subst ha
      have h0 : c ≠ n := by omega
      refine ⟨ad.add (n * 6), ?_, ?_⟩
      · rw [if_neg h0]; rfl
      · rw [addr_add2]; exact hc
theorem allE_bound : ∀ (l : List Fc), (∀ x ∈ l, x.f.ents.length ≤ 5000) → allE l ≤ 5000 * l.length
  | [], _ => by simp [allE]
  | x :: t, h => by
    have ih := allE_bound t fun y hy => h y (List.mem_cons_of_mem _ hy)
    have h1 := h x (List.mem_cons_self ..)
    have e : allE (x :: t) = x.f.ents.length + allE t := by unfold allE; simp
    rw [e, List.length_cons]
    omega
theorem small_ents {f : Fd} (h : bigF f ≤ 5000) : f.ents.length ≤ 5000 := by
  have h1 := bigEs_len f.ents
  have h2 : bigF f = bigH f + bigP f.path + bigEs f.ents := rfl
  omega
theorem rem_nat2 {n : Int} {M : Nat} (h0 : 0 ≤ n) (hM : 0 < M) : ∃ N : Nat, n % (M : Int) = (N : Int) ∧ N < M := by
  have h1 := Int.emod_nonneg n (b := (M : Int)) (by omega)
  have h2 := Int.emod_lt_of_pos n (b := (M : Int)) (by omega)
  exact ⟨(n % (M : Int)).toNat, by omega, by omega⟩
set_option maxRecDepth 100000 in
set_option maxHeartbeats 8000000 in
theorem law7_any (v : Value) (l : List Fc) (n : Int) (w : World) (hE : Env w) (hr : RFcs w v l) (hrd : ∀ x ∈ l, RdC w x) (hn : l.length ≤ reachBytes) (hk : ∀ x ∈ l, fwide x.f) (hn8 : 0 ≤ n ∧ n ≤ 255) :
    Calls Tryz.prog 9 #[v, .int .u8 n] w fun e w' => e = .returned (.bool true) ∧ Ext w w' := by
  have HAL := Lib.hid (fun (w' : World) (h : Ext w w') => alive_any w' (hE.ext h))
  have HLG := Lib.hid (large_any v l w hr hrd hn hk)
  obtain ⟨A, c, hv, -, -⟩ := hr.form
  obtain ⟨hn0, hn1⟩ := hn8
  by_cases hb : 50 < l.length ∨ 5000 < bigL (l.map Fc.f)
  · have hlb : (decide (50 < l.length) || decide (5000 < bigL (l.map Fc.f))) = true := by simpa using hb
    rw [hlb] at HLG
    subst hv
    clear hlb hb hn hk hr hrd hE
    go_enter Tryz.func9, Tryz.ntmps9
    go_wp2_with (first
      | (go_at_call 20; (have hz := HLG.out); (with_reducible refine Calls.mono hz ?_); clear hz; rintro e w1 ⟨rfl, hx1⟩)
      | (go_at_call 16; (have hz := HAL.out _ hx1); (with_reducible refine Calls.mono hz ?_); clear hz; rintro e w2 ⟨rfl, hx2⟩))
    go_ret
    exact ⟨rfl, hx1.trans hx2⟩
  · have h50 : l.length ≤ 50 := by omega
    have hbl : bigL (l.map Fc.f) ≤ 5000 := by omega
    have hlb : (decide (50 < l.length) || decide (5000 < bigL (l.map Fc.f))) = false := by simp; omega
    rw [hlb] at HLG
    have hfk := small_all hk hbl
    have hae := allE_small2 l hbl
    have hNk := normA_fokS hfk hae
    have hNl := normA_len (l.map Fc.f)
    rw [List.length_map] at hNl
    have hse : ∀ x ∈ l, x.f.ents.length ≤ 5000 := fun x hx => small_ents (Nat.le_trans (bigF_mem (List.mem_map.2 ⟨x, hx, rfl⟩)) hbl)
    have HAR := Lib.hid (fun (w' : World) (h : Ext w w') => archive_any v l w' (hE.ext h) (hr.ext h) (fun x hx => (hrd x hx).ext h) (fun x hx => (hfk x hx).1) (by omega) hae)
    have HRA := Lib.hid (fun (w' : World) (h : Ext w w') => refArc_any v l w' (hE.ext h) (hr.ext h) (fun x hx => (hrd x hx).ext h) hfk (by omega) hae)
    have HA2 : Hid (errFs (l.map Fc.f) = 0 → ∀ (v2 : Value) (m : List Fc) (w' : World), Ext w w' → RFcs w' v2 m → (∀ x, x ∈ m ↔ x ∈ l) → m.length ≤ 150 → Calls Tryz.prog 25 #[v2] w' fun e w'' => ∃ (v' : Value) (lc : List Fc), e = .returned (.tuple #[.agg #[v'], .int .i64 0]) ∧ lc.map Fc.f = normA (l.map Fc.f) ∧ RFcs w'' v' lc ∧ (∀ y ∈ lc, RdC w'' y) ∧ Ext w' w'') := Lib.hid fun h0 v2 m w' hx hr2 hm h150 => by
      have ho := order_norm (l := l.map Fc.f) (m := m.map Fc.f) h0 (fun x => by
        simp only [List.mem_map]
        constructor
        · rintro ⟨y, hy, rfl⟩; exact ⟨y, (hm y).1 hy, rfl⟩
        · rintro ⟨y, hy, rfl⟩; exact ⟨y, (hm y).2 hy, rfl⟩)
      have hb2 := allE_bound m fun x hx => hse x ((hm x).1 hx)
      refine (archive_any v2 m w' (hE.ext hx) hr2 (fun x hx' => (hrd x ((hm x).1 hx')).ext hx) (fun x hx' => (hfk x ((hm x).1 hx')).1) (by omega) (by omega)).mono ?_
      rintro e w'' ⟨v', lc, rfl, hlm, hH, hxx⟩
      exact ⟨v', lc, by rw [ho.1]; rfl, hlm.trans ho.2, hH.row.reads, hH.rd, hxx⟩
    obtain ⟨E, hEr⟩ : ∃ E, errFs (l.map Fc.f) = E := ⟨_, rfl⟩
    obtain ⟨N, hN⟩ : ∃ N, normA (l.map Fc.f) = N := ⟨_, rfl⟩
    simp only [hEr, hN] at HAR HRA HA2
    rw [hN] at hNk hNl
    have HEQ : Hid (∀ (v1 v2 : Value) (l1 l2 : List Fc) (w' : World), RFcs w' v1 l1 → RFcs w' v2 l2 → (∀ y ∈ l1, RdC w' y) → (∀ y ∈ l2, RdC w' y) → l1.map Fc.f = N → l2.map Fc.f = N → Calls Tryz.prog 27 #[.agg #[v1], .agg #[v2]] w' fun e w'' => e = .returned (.bool true) ∧ Ext w' w'') := Lib.hid fun v1 v2 l1 l2 w' r1 r2 d1 d2 e1 e2 => by
      have hl : l1.length ≤ 50 := by
        have h1 : l1.length = N.length := by rw [← e1, List.length_map]
        omega
      have := refEqual_any v1 v2 l1 l2 w' r1 r2 d1 d2 (fun y hy => by have h3 := hNk y.f (by rw [← e1]; exact List.mem_map.2 ⟨y, hy, rfl⟩); exact ⟨by have := h3.1.2; omega, by have := h3.2.1; omega⟩) (by omega)
      rwa [decide_eq_true (by rw [e1, e2])] at this
    have HSL : Hid (∀ x ∈ l, slC x) := Lib.hid fun x hx => (hrd x hx).sl
    have HCL := Lib.hid (fun (w' : World) (h : Ext w w') => clone_feed v l.length (flatC l) w' (hr.ext h) (flatC_ones HSL.out) (by omega))
    subst hv
    clear hlb hb hn hk hr hrd hE hfk hae hNk hNl hEr hN hbl hse
    by_cases hE0 : E = 0
    · subst hE0
      have HA3 := Lib.hid (HA2.out rfl)
      clear HA2 HRA
      rcases Nat.eq_zero_or_pos l.length with hl0 | hl0
      · have hl : l = [] := List.eq_nil_of_length_eq_zero hl0
        subst hl
        go_enter Tryz.func9, Tryz.ntmps9
        go_wp2_with (first
          | (go_at_call 20; (have hz := HLG.out); (with_reducible refine Calls.mono hz ?_); clear hz; rintro e w1 ⟨rfl, hx1⟩)
          | (go_at_call 25; (have hz := HAR.out _ hx1); (with_reducible refine Calls.mono hz ?_); clear hz; rintro e w2 ⟨v1, l1, rfl, hm1, hH1, hx2⟩; clear HAR; (have hrd2 := hH1.rd); (have hrf2 := hH1.row.reads); clear hH1; (obtain ⟨vA, vc, hv1, -, -⟩ := hrf2.form); subst hv1; (have HM1 := Lib.hid hm1); clear hm1; (have hX2 := hx2.alloc (.cells #[.slice vA l1.length vc] 46)))
          | (go_at_call 29; (have hz := HCL.out _ (hx1.trans hX2)); (with_reducible refine Calls.mono hz ?_); clear hz; rintro e w3 ⟨v3, rfl, hown3, hx3⟩; (have HOW3 := Lib.hid (show OFcs w3 _ v3 [] from hown3)); clear hown3; (obtain ⟨mA, mc, hv3, -, -⟩ := HOW3.out.reads.form); subst hv3)
          | (go_at_call 30; (have hz := reverse_any _ [] w3 _ HOW3.out (by simp) (by simp)); (with_reducible refine Calls.mono hz ?_); clear hz; rintro e w4 ⟨rfl, hown4, hg4⟩; (have hx4 := Ext.app hx3 hg4 HOW3.out (Nat.le_refl _)); (have hw4 := (hx1.trans hX2).trans hx4))
          | (go_at_call 25; (have hz := HA3.out _ [] _ hw4 hown4.reads (fun x => Iff.rfl) (by simp)); (with_reducible refine Calls.mono hz ?_); clear hz; rintro e w6 ⟨v6, l6, rfl, hm6, hrf6, hrd6, hx6⟩; (obtain ⟨uA, uc, hv6, -, -⟩ := hrf6.form); subst hv6; (have HM6 := Lib.hid hm6); clear hm6; (have hX6 := hx6.alloc (.cells #[.slice uA l6.length uc] 46)))
          | (go_at_call 16; (have hz := HAL.out _ (hw4.trans hX6)); (with_reducible refine Calls.mono hz ?_); clear hz; rintro e w7 ⟨rfl, hx7⟩; (have n0 := ((hx4.trans hX6).trans hx7).boxed 0 _ rfl); (have n1 := hx7.boxed 0 _ rfl); (have hx27 : Ext w2 w7 := ((((Ext.refl _).alloc _).trans hx4).trans hX6).trans hx7); (have hx67 : Ext w6 w7 := ((Ext.refl _).alloc _).trans hx7))
          | (go_at_call 27; (have hz := HEQ.out _ _ l1 l6 w7 (hrf2.ext hx27) (hrf6.ext hx67) (fun y hy => (hrd2 y hy).ext hx27) (fun y hy => (hrd6 y hy).ext hx67) HM1.out HM6.out); (with_reducible refine Calls.mono hz ?_); clear hz; rintro e w8 ⟨rfl, hx8⟩))
        go_ret
        exact ⟨rfl, ((hw4.trans hX6).trans hx7).trans hx8⟩
      · obtain ⟨M, hM⟩ : ∃ M, l.length = M := ⟨_, rfl⟩
        obtain ⟨i, hi, hiM⟩ := rem_nat2 (M := M) hn0 (by omega)
        have hM0 : (0 : Int) < (M : Int) := by omega
        have hi0 : (0 : Int) ≤ (i : Int) := by omega
        have hi1 : (i : Int) ≤ (M : Int) := by omega
        have hM1 : (M : Int) ≤ 50 := by omega
        have HM := Lib.hid hM
        have HI := Lib.hid hi
        simp only [hM] at HLG HAR HCL ⊢
        clear hM hi
        go_enter Tryz.func9, Tryz.ntmps9
        go_wp2_with (first
          | (go_at_call 20; (have hz := HLG.out); (with_reducible refine Calls.mono hz ?_); clear hz; rintro e w1 ⟨rfl, hx1⟩)
          | (go_at_call 25; (have hz := HAR.out _ hx1); (with_reducible refine Calls.mono hz ?_); clear hz; rintro e w2 ⟨v1, l1, rfl, hm1, hH1, hx2⟩; clear HAR; (have hrd2 := hH1.rd); (have hrf2 := hH1.row.reads); clear hH1; (obtain ⟨vA, vc, hv1, -, -⟩ := hrf2.form); subst hv1; (have HM1 := Lib.hid hm1); clear hm1; (have hX2 := hx2.alloc (.cells #[.slice vA l1.length vc] 46)))
          | (go_at_call 29; (have hz := HCL.out _ (hx1.trans hX2)); (with_reducible refine Calls.mono hz ?_); clear hz; rintro e w3 ⟨v3, rfl, hown3, hx3⟩; (have HOW3 := Lib.hid (show OFcs w3 _ v3 l by unfold OFcs; rw [HM.out]; exact hown3)); clear hown3; (obtain ⟨mA, mc, hv3, -, -⟩ := HOW3.out.reads.form); rw [HM.out] at hv3; subst hv3)
          | (go_at_call 30; (have hz := reverse_any _ l w3 _ HOW3.out HSL.out (by have := HM.out; omega)); (with_reducible refine Calls.mono hz ?_); clear hz; rintro e w4 ⟨rfl, hown4, hg4⟩; (have hx4 := Ext.app hx3 hg4 HOW3.out (Nat.le_refl _)); (have hw4 := (hx1.trans hX2).trans hx4)))
        rw [HI.out]
        obtain ⟨R, hR⟩ : ∃ R, l.reverse = R := ⟨_, rfl⟩
        rw [hR] at hown4
        have hRl : R.length = M := by rw [← hR, List.length_reverse]; exact HM.out
        have hRm : ∀ x, x ∈ R → x ∈ l := fun x hx => by rw [← hR] at hx; exact List.mem_reverse.1 hx
        have hrR : RFcs w4 (.slice mA R.length mc) R := by rw [hRl]; exact hown4.reads
        obtain ⟨A1, c1, hs1, ht1⟩ := takeF i hrR (by omega)
        obtain ⟨A2, c2, hs2, ht2⟩ := dropF i hrR (by omega)
        rw [hRl] at hs1 hs2 ht2
        have hmem : ∀ x, x ∈ R.drop i ++ (R.take i ++ R.drop i) ↔ x ∈ l := fun x => by
          have := turned_mem l i x
          rw [hR, List.append_assoc] at this
          exact this
        have hlen : (R.drop i ++ (R.take i ++ R.drop i)).length ≤ 150 := by simp only [List.length_append, List.length_drop, List.length_take]; omega
        have HMEM := Lib.hid hmem
        have HLEN := Lib.hid hlen
        have HCC : Hid (Calls Tryz.prog 31 #[.slice (some ⟨w4.heap.size, 0, none⟩) 3 3] ((w4.alloc (.cells #[.slice A2 (M - i) c2, .slice A1 i c1, .slice A2 (M - i) c2] 37)).drew) fun e w' => ∃ v', e = .returned v' ∧ RFcs w' v' (R.drop i ++ (R.take i ++ R.drop i)) ∧ Ext w4 w') := Lib.hid (by
          have hxW : Ext w4 ((w4.alloc (.cells #[.slice A2 (M - i) c2, .slice A1 i c1, .slice A2 (M - i) c2] 37)).drew) := ((Ext.refl w4).alloc _).drew
          have hd : ∀ x ∈ R.drop i, slC x := fun x hx => HSL.out x (hRm x (List.mem_of_mem_drop hx))
          have ht : ∀ x ∈ R.take i, slC x := fun x hx => HSL.out x (hRm x (List.mem_of_mem_take hx))
          have hc := concat_any (.slice (some ⟨w4.heap.size, 0, none⟩) 3 3) [(.slice A2 (M - i) c2, R.drop i), (.slice A1 i c1, R.take i), (.slice A2 (M - i) c2, R.drop i)] ((w4.alloc (.cells #[.slice A2 (M - i) c2, .slice A1 i c1, .slice A2 (M - i) c2] 37)).drew)
            ((rsl_new (w := w4) (size := 1) (n := 3) (e := 37) (cs := [.slice A2 (M - i) c2, .slice A1 i c1, .slice A2 (M - i) c2]) rfl (by decide)).ext (Ext.refl _).drew)
            (fun p hp => by
              simp only [List.mem_cons, List.mem_nil_iff, or_false] at hp
              rcases hp with rfl | rfl | rfl
              · exact ⟨ht2.ext hxW, hd⟩
              · exact ⟨ht1.ext hxW, ht⟩
              · exact ⟨ht2.ext hxW, hd⟩) (by show 3 ≤ 1000; decide)
            (by show (R.drop i).length + ((R.take i).length + ((R.drop i).length + 0)) ≤ 1000000; rw [List.length_drop, List.length_take]; omega)
          refine hc.mono ?_
          rintro e w' ⟨v', rfl, hown, hx⟩
          refine ⟨v', rfl, ?_, hxW.trans hx⟩
          have h := hown.reads
          rwa [show catP [((.slice A2 (M - i) c2 : Value), R.drop i), (.slice A1 i c1, R.take i), (.slice A2 (M - i) c2, R.drop i)] = R.drop i ++ (R.take i ++ R.drop i) by unfold catP; simp] at h)
        have HW4 := Lib.hid hw4
        have HX4 := Lib.hid hx4
        clear hmem hlen hR hRl hRm hrR ht1 ht2 hown4 hg4 hx3 hX2 hx2 hx1 hw4
        have hxa : Ext w4 w4 := Ext.refl w4
        go_region_held3 (fun w' => Ext w4 w')
          (first | assumption | ((repeat (first | exact Ext.refl _ | apply Ext.drew | apply Ext.alloc)); done))
          ((go_at_call 31; (have hz := HCC.out); (with_reducible refine Calls.mono hz ?_); clear hz; rintro e w5 ⟨v5, rfl, hrf5, hx5⟩; (have HRF5 := Lib.hid hrf5); clear hrf5))
        go_wp2_with (first
          | (go_at_call 25; (have hz := HA3.out v5 _ _ (HW4.out.trans hx5) HRF5.out HMEM.out HLEN.out); (with_reducible refine Calls.mono hz ?_); clear hz; rintro e w6 ⟨v6, l6, rfl, hm6, hrf6, hrd6, hx6⟩; (obtain ⟨uA, uc, hv6, -, -⟩ := hrf6.form); subst hv6; (have HM6 := Lib.hid hm6); clear hm6; (have hX6 := hx6.alloc (.cells #[.slice uA l6.length uc] 46)))
          | (go_at_call 16; (have hz := HAL.out _ ((HW4.out.trans hx5).trans hX6)); (with_reducible refine Calls.mono hz ?_); clear hz; rintro e w7 ⟨rfl, hx7⟩; (have n0 := (((HX4.out.trans hx5).trans hX6).trans hx7).boxed 0 _ rfl); (have n1 := hx7.boxed 0 _ rfl); (have hx27 : Ext w2 w7 := (((((Ext.refl _).alloc _).trans HX4.out).trans hx5).trans hX6).trans hx7); (have hx67 : Ext w6 w7 := ((Ext.refl _).alloc _).trans hx7))
          | (go_at_call 27; (have hz := HEQ.out _ _ l1 l6 w7 (hrf2.ext hx27) (hrf6.ext hx67) (fun y hy => (hrd2 y hy).ext hx27) (fun y hy => (hrd6 y hy).ext hx67) HM1.out HM6.out); (with_reducible refine Calls.mono hz ?_); clear hz; rintro e w8 ⟨rfl, hx8⟩))
        go_ret
        exact ⟨rfl, (((HW4.out.trans hx5).trans hX6).trans hx7).trans hx8⟩
    · have hb0 : ((E : Int) != 0) = true := by simp; omega
      clear hE0 HA2 HCL HSL HEQ
      go_enter Tryz.func9, Tryz.ntmps9
      go_wp2_with (first
        | (go_at_call 20; (have hz := HLG.out); (with_reducible refine Calls.mono hz ?_); clear hz; rintro e w1 ⟨rfl, hx1⟩)
        | (go_at_call 25; (have hz := HAR.out _ hx1); (with_reducible refine Calls.mono hz ?_); clear hz; rintro e w2 ⟨v1, l1, rfl, hm1, hH1, hx2⟩; clear HAR; (have hrf2 := hH1.row.reads); clear hH1; (obtain ⟨vA, vc, hv1, -, -⟩ := hrf2.form); subst hv1; clear hm1; (have hX2 := hx2.alloc (.cells #[.slice vA l1.length vc] 46)))
        | (go_at_call 26; (have hz := HRA.out _ (hx1.trans hX2)); (with_reducible refine Calls.mono hz ?_); clear hz; rintro e w3 ⟨v2, l2, rfl, hm2, hrf3, hrd3, hx3⟩; (obtain ⟨uA, uc, hv2, -, -⟩ := hrf3.form); subst hv2; clear hm2; (have hX3 := hx3.alloc (.cells #[.slice uA l2.length uc] 46)))
        | (go_at_call 16; (have hz := HAL.out _ ((hx1.trans hX2).trans hX3)); (with_reducible refine Calls.mono hz ?_); clear hz; rintro e w4 ⟨rfl, hx4⟩))
      go_ret
      exact ⟨rfl, ((hx1.trans hX2).trans hX3).trans hx4⟩
end Go.Proofs.YtgecijhgonfldaaGreatDoor
