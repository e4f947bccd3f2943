/- NormalizeKeepsValid: the law's contract. -/
import Derived.Test.YtgecijhgonfldaaGreatDoorM35
import Derived.Test.YtgecijhgonfldaaGreatDoorM27
import Derived.Test.YtgecijhgonfldaaGreatDoorSame
import Derived.Test.YtgecijhgonfldaaGreatDoorCheckA
import Derived.Test.YtgecijhgonfldaaGreatDoorEqA
import Derived.Test.YtgecijhgonfldaaGreatDoorTooL
import Derived.Test.YtgecijhgonfldaaGreatDoorCut
namespace Go.Proofs.YtgecijhgonfldaaGreatDoor
open Go Go.RowKit
set_option linter.unusedVariables false

theorem allE_small (l : List Fc) (h : bigL (l.map Fc.f) ≤ 5000) : allE l ≤ 1000000 := by
  have h1 := small_allE l
  have h2 := allE_len l (l.map Fc.f) rfl
  unfold allEn at h1
  rw [h2]
  omega
set_option maxRecDepth 100000 in
set_option maxHeartbeats 8000000 in
theorem law4_any (v : Value) (l : List Fc) (w : World) (hE : Env w) (hr : RFcs w v l) (hrd : ∀ x ∈ l, RdC w x) (hn : l.length ≤ reachBytes) (hk : ∀ x ∈ l, fwide x.f) :
    Calls Tryz.prog 6 #[.agg #[v]] w fun e w' => e = .returned (.bool true) ∧ Ext w w' := by
  have HAL := Lib.hid (fun (w' : World) (h : Ext w w') => alive_any w' (hE.ext h))
  have HLG := Lib.hid (fun (w' : World) (h : Ext w w') => large_any v l w' (hr.ext h) (fun x hx => (hrd x hx).ext h) hn hk)
  obtain ⟨A, c, hv, -, -⟩ := hr.form
  by_cases hb : 50 < l.length ∨ 5000 < bigL (l.map Fc.f)
  · have hlb : (decide (50 < l.length) || decide (5000 < bigL (l.map Fc.f))) = true := by simpa using hb
    simp only [hlb] at HLG
    subst hv
    clear hlb hb hn hk hr hrd hE
    go_enter Tryz.func6, Tryz.ntmps6
    go_wp2_with (first
      | (go_at_call 20; (have hz := HLG.out _ ((Ext.refl w).alloc (.cells #[.slice A l.length c] 46))); (with_reducible refine Calls.mono hz ?_); clear hz; rintro e w1 ⟨rfl, hx1⟩; (have hw1 : Ext w w1 := ((Ext.refl _).alloc _).trans hx1); (have k0 := hx1.boxed 0 _ rfl))
      | (go_at_call 16; (have hz := HAL.out _ hw1); (with_reducible refine Calls.mono hz ?_); clear hz; rintro e w2 ⟨rfl, hx2⟩))
    go_ret
    exact ⟨rfl, hw1.trans hx2⟩
  · have h50 : l.length ≤ 50 := by omega
    have hbl : bigL (l.map Fc.f) ≤ 5000 := by omega
    have hlb : (decide (50 < l.length) || decide (5000 < bigL (l.map Fc.f))) = false := by simp; omega
    simp only [hlb] at HLG
    have hfk := bigL_fokS hk hbl
    have HCK := Lib.hid (fun (w' : World) (h : Ext w w') => refCheckA_any v l w' (hr.ext h) (fun x hx => (hrd x hx).ext h) hfk (by omega))
    by_cases hok : okA (l.map Fc.f) = true
    · have h0 := (norm_okA hok).1
      have hN := (norm_okA hok).2
      have HNF : Hid (∀ x ∈ l, ∀ w' : World, Ext w w' → Calls Tryz.prog 21 #[.agg (cellsC x).toArray] w' fun e w'' => ∃ y : Fc, e = .returned (.tuple #[.agg (cellsC y).toArray, .int .i64 0]) ∧ y.f = x.f ∧ RdC w'' y ∧ Ext w' w'') := Lib.hid fun x hx w' h => by
        have hox := coll_okF ((okL_iff.1 hok).1 x.f (List.mem_map.2 ⟨x, hx, rfl⟩))
        refine (normFeed_any x w' (hE.ext h) (hfk x hx) ((hrd x hx).ext h)).mono ?_
        rintro e w'' ⟨y, rfl, hy, hyr, _, hxx⟩
        refine ⟨y, by rw [hox.1]; rfl, ?_, hyr, hxx⟩
        rw [hy]
        unfold normF
        rw [hox.1, if_pos rfl, hox.2]
      have HSM : Hid (∀ x ∈ l, ∀ (y : Fc) (w' : World), Ext w w' → RdC w' y → y.f = x.f → Calls Tryz.prog 23 #[.agg (cellsC x).toArray, .agg (cellsC y).toArray] w' fun e w'' => e = .returned (.bool true) ∧ Ext w' w'') := Lib.hid fun x hx y w' h hy e => by
        have h1 := hfk x hx
        have := refSame_any x y w' ((hrd x hx).ext h) hy (by have := h1.1.2; omega) (by have := h1.2.1; omega)
        rwa [decide_eq_true e.symm] at this
      have HAR : Hid (∀ w' : World, Ext w w' → Calls Tryz.prog 25 #[v] w' fun e w'' => ∃ (v' : Value) (lc : List Fc), e = .returned (.tuple #[.agg #[v'], .int .i64 0]) ∧ lc.map Fc.f = l.map Fc.f ∧ (∀ y ∈ lc, RdC w'' y) ∧ RFcs w'' v' lc ∧ Ext w' w'') := Lib.hid fun w' h => by
        refine (archive_any v l w' (hE.ext h) (hr.ext h) (fun x hx => (hrd x hx).ext h) hfk (by omega) (allE_small l hbl)).mono ?_
        rintro e w'' ⟨v', lc, rfl, hm, hH, hxx⟩
        exact ⟨v', lc, by rw [h0]; rfl, hm.trans hN, hH.rd, hH.row.reads, hxx⟩
      have HEQ : Hid (∀ (v' : Value) (lc : List Fc) (w' : World), Ext w w' → RFcs w' v' lc → (∀ y ∈ lc, RdC w' y) → lc.map Fc.f = l.map Fc.f → Calls Tryz.prog 27 #[.agg #[v], .agg #[v']] w' fun e w'' => e = .returned (.bool true) ∧ Ext w' w'') := Lib.hid fun v' lc w' h h1 h2 e => by
        have := refEqual_any v v' l lc w' (hr.ext h) h1 (fun x hx => (hrd x hx).ext h) h2 (fun x hx => by have h3 := hfk x hx; exact ⟨by have := h3.1.2; omega, by have := h3.2.1; omega⟩) (by omega)
        rwa [decide_eq_true e.symm] at this
      simp only [if_pos hok] at HCK
      have HR := Lib.hid hr
      have HRD := Lib.hid hrd
      subst hv
      clear hlb hb hn hk hr hrd hE hok h0 hN hfk hbl
      go_enter Tryz.func6, Tryz.ntmps6
      go_wp2_with (first
        | (go_at_call 20; (have hz := HLG.out _ ((Ext.refl w).alloc (.cells #[.slice A l.length c] 46))); (with_reducible refine Calls.mono hz ?_); clear hz; rintro e w1 ⟨rfl, hx1⟩; (have hw1 : Ext w w1 := ((Ext.refl _).alloc _).trans hx1); (have k0 := hx1.boxed 0 _ rfl))
        | (go_at_call 28; (have hz := HCK.out _ hw1); (with_reducible refine Calls.mono hz ?_); clear hz; rintro e w2 ⟨rfl, hx2⟩; (have hb2 := hx1.trans hx2); (have k2 := hb2.boxed 0 _ rfl)))
      have HB2 := Lib.hid hb2
      have HW2 : Hid (Ext w w2) := Lib.hid (hw1.trans hx2)
      clear hx1 hw1 k0 hx2 hb2 k2 HLG HCK
      go_loopw [21] (fun i wr => ∃ k : Nat, k ≤ l.length ∧ i = .int .i64 k ∧ Ext w2 wr) (fun i _ => l.length - (intOf i).toNat)
      case atStart => exact ⟨0, Nat.zero_le _, rfl, Ext.refl _⟩
      case round =>
        obtain ⟨k, hk, rfl, hxr⟩ := hrel
        have hwr := HW2.out.trans hxr
        by_cases hlt : k < l.length
        · obtain ⟨ad, c1, e1, hax⟩ := (HR.out.ext hwr).at hlt
          injection e1 with e1 e1' e1''
          subst e1
          clear e1' e1''
          have hmem := List.getElem_mem hlt
          have hxd := HRD.out _ hmem
          have hnf := HNF.out _ hmem
          have hsm := HSM.out _ hmem
          obtain ⟨x, hxx⟩ : ∃ x, l[k] = x := ⟨_, rfl⟩
          rw [hxx] at hax hxd hnf hsm
          have hsl := hxd.sl
          clear hxx hmem hxd
          obtain ⟨xp, xes, xf⟩ := x
          obtain ⟨⟨xA, xn, xc, hxp⟩, ⟨xB, xm, xd, hxe⟩⟩ := hsl
          dsimp only at hxp hxe
          subst hxp hxe
          obtain ⟨p0, p1, p2, p3, p4, p5⟩ := hax
          dsimp only at p0 p1 p2 p3 p4 p5 hnf hsm
          unfold cellsC fCells at hnf hsm
          dsimp only at hnf hsm
          have HNX := Lib.hid hnf
          have HSX := Lib.hid hsm
          have hi0 : (0 : Int) ≤ (k : Int) := by omega
          have hi1 : (k : Int) < (l.length : Int) := by omega
          have hwb := hwr.alloc (.cells #[.slice xA xn xc, .string xf.id, .string xf.title, .string xf.link, .int .i64 xf.upd, .slice xB xm xd] 35)
          have HXR := Lib.hid hxr
          clear hnf hsm hxr
          go_wp2_with (first
            | (go_at_call 21; (have hz := HNX.out _ hwb); (with_reducible refine Calls.mono hz ?_); clear hz; rintro e w8 ⟨y, rfl, hyf, hyr, hx8⟩; (have hysl := hyr.sl); (obtain ⟨yp, yes, yf⟩ := y); (obtain ⟨⟨yA, yn, yc, hyp⟩, ⟨yB, ym, yd, hye⟩⟩ := hysl); simp only at hyp hye; subst hyp hye; (have hyf2 : yf = xf := hyf); clear hyf; subst hyf2; (have hb8 := hx8.alloc (.cells #[.slice yA yn yc, .string yf.id, .string yf.title, .string yf.link, .int .i64 yf.upd, .slice yB ym yd] 35)); (have m0 := hb8.boxed 0 _ rfl); (have m1 := hb8.boxed 1 _ rfl); (have m2 := hb8.boxed 2 _ rfl); (have m3 := hb8.boxed 3 _ rfl); (have m4 := hb8.boxed 4 _ rfl); (have m5 := hb8.boxed 5 _ rfl); (have hw8 := hwb.trans hb8))
            | (go_at_call 23; (have hz := HSX.out ⟨.slice yA yn yc, .slice yB ym yd, yf⟩ _ hw8 (hyr.ext ((Ext.refl _).alloc _)) rfl); (with_reducible refine Calls.mono hz ?_); clear hz; rintro e w9 ⟨rfl, hx9⟩))
          go_roundw
          case rel => exact ⟨k + 1, hlt, by go_num, ((HXR.out.alloc _).trans hb8).trans hx9⟩
          case measure => simp [intOf]; omega
        · have hke : k = l.length := by omega
          subst hke
          have k3 := (HB2.out.trans hxr).boxed 0 _ rfl
          have HXR := Lib.hid hxr
          have HBR := Lib.hid (HB2.out.trans hxr)
          have HWR := Lib.hid hwr
          clear hxr hwr HNF HSM HR HRD
          go_wp2_with (first
            | (go_at_call 25; (have hz := HAR.out _ HWR.out); (with_reducible refine Calls.mono hz ?_); clear hz; rintro e w8 ⟨v', lc, rfl, hm, hrd8, hrf8, hx8⟩; (obtain ⟨vA, vc, hv', -, -⟩ := hrf8.form); subst hv'; (have hw8 := (HWR.out.trans hx8).alloc (.cells #[.slice vA lc.length vc] 46)); (have HM := Lib.hid hm); clear hm)
            | (go_at_call 16; (have hz := HAL.out _ hw8); (with_reducible refine Calls.mono hz ?_); clear hz; rintro e w9 ⟨rfl, hx9⟩; (have n0 := hx9.boxed 0 _ rfl); (have n1 := (HBR.out.trans ((hx8.alloc (.cells #[.slice vA lc.length vc] 46)).trans hx9)).boxed 0 _ rfl); (have hx89 : Ext w8 w9 := ((Ext.refl _).alloc _).trans hx9))
            | (go_at_call 27; (have hz := HEQ.out _ lc _ (hw8.trans hx9) (hrf8.ext hx89) (fun y hy => (hrd8 y hy).ext hx89) HM.out); (with_reducible refine Calls.mono hz ?_); clear hz; rintro e wB ⟨rfl, hxB⟩))
          go_ret
          exact ⟨rfl, (hw8.trans hx9).trans hxB⟩
    · simp only [if_neg hok] at HCK
      subst hv
      clear hlb hb hn hk hr hrd hE hok hfk hbl
      go_enter Tryz.func6, Tryz.ntmps6
      go_wp2_with (first
        | (go_at_call 20; (have hz := HLG.out _ ((Ext.refl w).alloc (.cells #[.slice A l.length c] 46))); (with_reducible refine Calls.mono hz ?_); clear hz; rintro e w1 ⟨rfl, hx1⟩; (have hw1 : Ext w w1 := ((Ext.refl _).alloc _).trans hx1); (have k0 := hx1.boxed 0 _ rfl))
        | (go_at_call 28; (have hz := HCK.out _ hw1); (with_reducible refine Calls.mono hz ?_); clear hz; rintro e w2 ⟨rfl, hx2⟩; (have hw2 := hw1.trans hx2))
        | (go_at_call 16; (have hz := HAL.out _ hw2); (with_reducible refine Calls.mono hz ?_); clear hz; rintro e w3 ⟨rfl, hx3⟩))
      go_ret
      exact ⟨rfl, hw2.trans hx3⟩
end Go.Proofs.YtgecijhgonfldaaGreatDoor
