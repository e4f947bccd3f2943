/- NormalizeArchiveMatchesReference: the law's contract. -/
import Derived.Test.YtgecijhgonfldaaGreatDoorM35
import Derived.Test.YtgecijhgonfldaaGreatDoorK02
import Derived.Test.YtgecijhgonfldaaGreatDoorK01
import Derived.Test.YtgecijhgonfldaaGreatDoorK00
import Derived.Test.YtgecijhgonfldaaGreatDoorK06
namespace Go.Proofs.YtgecijhgonfldaaGreatDoor
open Go Go.RowKit
set_option linter.unusedVariables false

set_option maxRecDepth 100000 in
set_option maxHeartbeats 8000000 in
theorem law3_any (v : Value) (l : List Fc) (w : World) (hE : Env w) (hr : RFcs w v l) (hrd : ∀ x ∈ l, RdC w x) (hn : l.length ≤ reachBytes) (hk : ∀ x ∈ l, fwide x.f) :
    Calls Tryz.prog 5 #[v] w fun e w' => e = .returned (.bool true) ∧ Ext w w' := by
  have HAL := Lib.hid (fun (w' : World) (h : Ext w w') => alive_any w' (hE.ext h))
  have HLG := Lib.hid (large_any v l w hr hrd hn hk)
  obtain ⟨A, c, hv, -, -⟩ := hr.form
  by_cases hb : 50 < l.length ∨ 5000 < bigL (l.map Fc.f)
  · have hlb : (decide (50 < l.length) || decide (5000 < bigL (l.map Fc.f))) = true := by simpa using hb
    rw [hlb] at HLG
    subst hv
    clear hlb hb hn hk hr hrd hE
    go_enter Tryz.func5, Tryz.ntmps5
    go_wp2_with (first
      | (go_at_call 20; (have hz := HLG.out); (with_reducible refine Calls.mono hz ?_); clear hz; rintro e w1 ⟨rfl, hx1⟩)
      | (go_at_call 16; (have hz := HAL.out _ hx1); (with_reducible refine Calls.mono hz ?_); clear hz; rintro e w2 ⟨rfl, hx2⟩))
    go_ret
    exact ⟨rfl, hx1.trans hx2⟩
  · have h50 : l.length ≤ 50 := by omega
    have hbl : bigL (l.map Fc.f) ≤ 5000 := by omega
    have hlb : (decide (50 < l.length) || decide (5000 < bigL (l.map Fc.f))) = false := by simp; omega
    rw [hlb] at HLG
    have hfk := small_all hk hbl
    have hae := allE_small2 l hbl
    have hNk := normA_fokS hfk hae
    have hNl := normA_len (l.map Fc.f)
    rw [List.length_map] at hNl
    have hNo := okA_normA (l.map Fc.f)
    have HAR := Lib.hid (fun (w' : World) (h : Ext w w') => archive_any v l w' (hE.ext h) (hr.ext h) (fun x hx => (hrd x hx).ext h) (fun x hx => (hfk x hx).1) (by omega) hae)
    have HRA := Lib.hid (fun (w' : World) (h : Ext w w') => refArc_any v l w' (hE.ext h) (hr.ext h) (fun x hx => (hrd x hx).ext h) hfk (by omega) hae)
    obtain ⟨E, hEr⟩ : ∃ E, errFs (l.map Fc.f) = E := ⟨_, rfl⟩
    obtain ⟨N, hN⟩ : ∃ N, normA (l.map Fc.f) = N := ⟨_, rfl⟩
    simp only [hEr, hN] at HAR HRA
    rw [hN] at hNk hNl hNo
    have HEQ : Hid (∀ (v1 v2 : Value) (l1 l2 : List Fc) (w' : World), RFcs w' v1 l1 → RFcs w' v2 l2 → (∀ y ∈ l1, RdC w' y) → (∀ y ∈ l2, RdC w' y) → l1.map Fc.f = N → l2.map Fc.f = N → Calls Tryz.prog 27 #[.agg #[v1], .agg #[v2]] w' fun e w'' => e = .returned (.bool true) ∧ Ext w' w'') := Lib.hid fun v1 v2 l1 l2 w' r1 r2 d1 d2 e1 e2 => by
      have hl : l1.length ≤ 50 := by
        have h1 : l1.length = N.length := by rw [← e1, List.length_map]
        omega
      have := refEqual_any v1 v2 l1 l2 w' r1 r2 d1 d2 (fun y hy => by have h3 := hNk y.f (by rw [← e1]; exact List.mem_map.2 ⟨y, hy, rfl⟩); exact ⟨by have := h3.1.2; omega, by have := h3.2.1; omega⟩) (by omega)
      rwa [decide_eq_true (by rw [e1, e2])] at this
    have HCK : Hid (∀ (v1 : Value) (l1 : List Fc) (w' : World), RFcs w' v1 l1 → (∀ y ∈ l1, RdC w' y) → l1.map Fc.f = N → Calls Tryz.prog 28 #[.agg #[v1]] w' fun e w'' => e = .returned (.int .i64 0) ∧ Ext w' w'') := Lib.hid fun v1 l1 w' r1 d1 e1 => by
      have hl : l1.length ≤ 50 := by
        have h1 : l1.length = N.length := by rw [← e1, List.length_map]
        omega
      have := refCheckA_any v1 l1 w' r1 d1 (fun y hy => hNk y.f (by rw [← e1]; exact List.mem_map.2 ⟨y, hy, rfl⟩)) (by omega)
      rwa [e1, if_pos hNo] at this
    subst hv
    clear hlb hb hn hk hr hrd hE hfk hae hNk hNl hNo hEr hN hbl
    go_enter Tryz.func5, Tryz.ntmps5
    go_wp2_with (first
      | (go_at_call 20; (have hz := HLG.out); (with_reducible refine Calls.mono hz ?_); clear hz; rintro e w1 ⟨rfl, hx1⟩)
      | (go_at_call 25; (have hz := HAR.out _ hx1); (with_reducible refine Calls.mono hz ?_); clear hz; rintro e w8 ⟨v1, l1, rfl, hm1, hH1, hx8⟩; (have hrd8 := hH1.rd); (have hrf8 := hH1.row.reads); clear hH1; (obtain ⟨vA, vc, hv1, -, -⟩ := hrf8.form); subst hv1; (have HM1 := Lib.hid hm1); clear hm1; (have hX8 := (hx1.trans hx8).alloc (.cells #[.slice vA l1.length vc] 46)))
      | (go_at_call 26; (have hz := HRA.out _ hX8); (with_reducible refine Calls.mono hz ?_); clear hz; rintro e w9 ⟨v2, l2, rfl, hm2, hrf9, hrd9, hx9⟩; (obtain ⟨uA, uc, hv2, -, -⟩ := hrf9.form); subst hv2; (have HM2 := Lib.hid hm2); clear hm2; (have hX9 := hx9.alloc (.cells #[.slice uA l2.length uc] 46)))
      | (go_at_call 16; (have hz := HAL.out _ (hX8.trans hX9)); (with_reducible refine Calls.mono hz ?_); clear hz; rintro e wA ⟨rfl, hxA⟩; (have n0 := (hX9.trans hxA).boxed 0 _ rfl); (have n1 := hxA.boxed 0 _ rfl); (have hx8A : Ext w8 wA := (((Ext.refl _).alloc _).trans hX9).trans hxA); (have hx9A : Ext w9 wA := ((Ext.refl _).alloc _).trans hxA))
      | (go_at_call 27; (have hz := HEQ.out _ _ l1 l2 wA (hrf8.ext hx8A) (hrf9.ext hx9A) (fun y hy => (hrd8 y hy).ext hx8A) (fun y hy => (hrd9 y hy).ext hx9A) HM1.out HM2.out); (with_reducible refine Calls.mono hz ?_); clear hz; rintro e wB ⟨rfl, hxB⟩; (have n2 := ((hX9.trans hxA).trans hxB).boxed 0 _ rfl))
      | (go_at_call 28; (have hz := HCK.out _ l1 wB (hrf8.ext (hx8A.trans hxB)) (fun y hy => (hrd8 y hy).ext (hx8A.trans hxB)) HM1.out); (with_reducible refine Calls.mono hz ?_); clear hz; rintro e wC ⟨rfl, hxC⟩))
    go_ret
    exact ⟨rfl, (((hX8.trans hX9).trans hxA).trans hxB).trans hxC⟩
end Go.Proofs.YtgecijhgonfldaaGreatDoor
