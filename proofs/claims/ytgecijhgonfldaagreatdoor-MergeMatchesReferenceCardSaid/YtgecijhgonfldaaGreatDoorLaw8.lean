/- MergeMatchesReference: the law's contract. -/
import Derived.Test.YtgecijhgonfldaaGreatDoorQ33
namespace Go.Proofs.YtgecijhgonfldaaGreatDoor
open Go Go.RowKit
set_option linter.unusedVariables false

set_option maxRecDepth 100000 in
set_option maxHeartbeats 8000000 in
theorem law8_any (u : Value) (L : List Arc) (w : World) (hE : Env w) (hu : RSl w 1 u L.length (L.map Prod.fst)) (hp : ∀ p ∈ L, ArcV w p) (hn : L.length ≤ reachBytes) (hw : ∀ p ∈ L, arcWide p) :
    Calls Tryz.prog 10 #[u] w fun e w' => e = .returned (.bool true) ∧ Ext w w' := by
  have HAL := Lib.hid (fun (w' : World) (h : Ext w w') => alive15_any w' (hE.ext h))
  have HLG := Lib.hid (large15_any u L w hu hp hw hn)
  obtain ⟨uA, uc, huf⟩ : ∃ A c, u = .slice A L.length c := by obtain ⟨_, A, c, e, _⟩ := hu; exact ⟨A, c, e⟩
  cases hlb : largeB L with
  | true =>
    rw [hlb] at HLG
    subst huf
    clear hlb hn hu hp hw hE
    go_enter Tryz.func10, Tryz.ntmps10
    go_wp2_with (first
      | (go_at_call 32; (have hz := HLG.out); (with_reducible refine Calls.mono hz ?_); clear hz; rintro e w1 ⟨rfl, hx1⟩)
      | (go_at_call 33; (have hz := HAL.out _ hx1); (with_reducible refine Calls.mono hz ?_); clear hz; rintro e w2 ⟨rfl, hx2⟩))
    go_ret
    exact ⟨rfl, hx1.trans hx2⟩
  | false =>
    rw [hlb] at HLG
    have hl10 := (largeB_false hlb).1
    have hcat := smL_cat L 5000 (largeB_sm hlb hw)
    have hcat2 : SmL ((catP L).map Fc.f) 50000 := hcat.mono (by omega)
    have hfl : SmL (L.map Arc.fs).flatten 50000 := by rw [← catP_map]; exact hcat2
    have hVs := smL_valV hfl
    have hVo := okA_valV (L.map Arc.fs)
    have HM := Lib.hid (fun (w' : World) (h : Ext w w') => merge_arcs L u w' (hE.ext h) (hu.ext h) (fun p hq => (hp p hq).ext h) hcat2 (by decide) (by omega))
    have HR := Lib.hid (fun (w' : World) (h : Ext w w') => refMerge_arcs L u w' (hE.ext h) (hu.ext h) (fun p hq => (hp p hq).ext h) hcat2 (by decide) (by omega))
    unfold MrgPost at HM HR
    obtain ⟨E, hEr⟩ : ∃ E, mErrV (L.map Arc.fs) = E := ⟨_, rfl⟩
    obtain ⟨V, hV⟩ : ∃ V, mValV (L.map Arc.fs) = V := ⟨_, rfl⟩
    simp only [hEr, hV] at HM HR
    rw [hV] at hVs hVo
    have HEQ : Hid (∀ (A : Option Addr) (c : Nat) (l : List Fc) (B : Option Addr) (d : Nat) (m : List Fc) (w' : World), l.map Fc.f = V → m.map Fc.f = V → ArcV w' (.slice A l.length c, l) → ArcV w' (.slice B m.length d, m) → Calls Tryz.prog 27 #[.agg #[.slice A l.length c], .agg #[.slice B m.length d]] w' fun e w'' => e = .returned (.bool true) ∧ Ext w' w'') := Lib.hid fun A c l B d m w' h1 h2 h3 h4 => by
      have := arcEq (.slice A l.length c, l) (.slice B m.length d, m) w' h3 h4 (n := 50000) (by show SmL (l.map Fc.f) _; rw [h1]; exact hVs) (by decide)
      rwa [decide_eq_true (show Arc.fs (.slice A l.length c, l) = Arc.fs (.slice B m.length d, m) from h1.trans h2.symm)] at this
    have HCK : Hid (∀ (A : Option Addr) (c : Nat) (l : List Fc) (w' : World), l.map Fc.f = V → ArcV w' (.slice A l.length c, l) → Calls Tryz.prog 28 #[.agg #[.slice A l.length c]] w' fun e w'' => e = .returned (.int .i64 0) ∧ Ext w' w'') := Lib.hid fun A c l w' h1 h3 => by
      have := arcCheck (.slice A l.length c, l) w' h3 (n := 50000) (by show SmL (l.map Fc.f) _; rw [h1]; exact hVs) (by decide)
      rwa [if_pos (show okA (Arc.fs (.slice A l.length c, l)) = true by show okA (l.map Fc.f) = true; rw [h1]; exact hVo)] at this
    subst huf
    clear hlb hn hu hp hw hE hl10 hcat hcat2 hfl hVs hVo hEr hV
    go_enter Tryz.func10, Tryz.ntmps10
    go_wp2_with (first
      | (go_at_call 32; (have hz := HLG.out); (with_reducible refine Calls.mono hz ?_); clear hz; rintro e w1 ⟨rfl, hx1⟩)
      | (go_at_call 34; (have hz := HM.out _ hx1); (with_reducible refine Calls.mono hz ?_); clear hz; rintro e w8 ⟨vA, vc, l1, rfl, hm1, ha1, hx8⟩; (have HM1 := Lib.hid hm1); clear hm1; (have hX8 := (hx1.trans hx8).alloc (.cells #[.slice vA l1.length vc] 46)))
      | (go_at_call 35; (have hz := HR.out _ hX8); (with_reducible refine Calls.mono hz ?_); clear hz; rintro e w9 ⟨tA, tc, l2, rfl, hm2, ha2, hx9⟩; (have HM2 := Lib.hid hm2); clear hm2; (have hX9 := hx9.alloc (.cells #[.slice tA l2.length tc] 46)))
      | (go_at_call 33; (have hz := HAL.out _ (hX8.trans hX9)); (with_reducible refine Calls.mono hz ?_); clear hz; rintro e wA ⟨rfl, hxA⟩; (have n0 := (hX9.trans hxA).boxed 0 _ rfl); (have n1 := hxA.boxed 0 _ rfl); (have hx8A : Ext w8 wA := (((Ext.refl _).alloc _).trans hX9).trans hxA); (have hx9A : Ext w9 wA := ((Ext.refl _).alloc _).trans hxA))
      | (go_at_call 27; (have hz := HEQ.out _ _ l1 _ _ l2 wA HM1.out HM2.out (ha1.ext hx8A) (ha2.ext hx9A)); (with_reducible refine Calls.mono hz ?_); clear hz; rintro e wB ⟨rfl, hxB⟩; (have n2 := ((hX9.trans hxA).trans hxB).boxed 0 _ rfl))
      | (go_at_call 28; (have hz := HCK.out _ _ l1 wB HM1.out (ha1.ext (hx8A.trans hxB))); (with_reducible refine Calls.mono hz ?_); clear hz; rintro e wC ⟨rfl, hxC⟩))
    go_ret
    exact ⟨rfl, (((hX8.trans hX9).trans hxA).trans hxB).trans hxC⟩
end Go.Proofs.YtgecijhgonfldaaGreatDoor
