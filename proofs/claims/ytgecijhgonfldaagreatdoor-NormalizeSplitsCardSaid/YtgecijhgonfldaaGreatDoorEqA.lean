/- Contracts: the reference's Equal at archives. -/
import Derived.Test.YtgecijhgonfldaaGreatDoorSame
namespace Go.Proofs.YtgecijhgonfldaaGreatDoor
open Go Go.RowKit
set_option linter.unusedVariables false

set_option maxRecDepth 100000 in
set_option maxHeartbeats 4000000 in
theorem refEqual_any (u v : Value) (l m : List Fc) (w : World) (hu : RFcs w u l) (hv : RFcs w v m) (hl : ∀ x ∈ l, RdC w x) (hm : ∀ x ∈ m, RdC w x) (hk : ∀ x ∈ l, x.f.path.length ≤ 16777216 ∧ x.f.ents.length ≤ 16777216) (hn : l.length ≤ 16777216) :
    Calls Tryz.prog 27 #[.agg #[u], .agg #[v]] w fun e w' => e = .returned (.bool (decide (l.map Fc.f = m.map Fc.f))) ∧ Ext w w' := by
  obtain ⟨R, hR⟩ : ∃ R, decide (l.map Fc.f = m.map Fc.f) = R := ⟨_, rfl⟩
  rw [hR]
  obtain ⟨A, c, rfl, -, -⟩ := hu.form
  obtain ⟨B, d, rfl, -, -⟩ := hv.form
  by_cases h4 : l.length = m.length
  case neg =>
    have hRf : R = false := by
      rw [← hR]
      refine decide_eq_false fun e => h4 ?_
      have := congrArg List.length e
      simpa using this
    subst hRf
    have hb : ((l.length : Int) != (m.length : Int)) = true := by simp; omega
    clear hR hu hv hl hm hk
    go_enter Tryz.func27, Tryz.ntmps27
    go_wp2
    go_ret
    exact ⟨rfl, ((Ext.refl _).alloc _).alloc _⟩
  case pos =>
    have HR := Lib.hid hR
    have HU := Lib.hid hu
    have HV := Lib.hid hv
    have HL := Lib.hid hl
    have HMM := Lib.hid hm
    have HK := Lib.hid hk
    obtain ⟨M, hM⟩ : ∃ M, l.length = M := ⟨_, rfl⟩
    have hM2 : m.length = M := by rw [← h4]; exact hM
    have HM := Lib.hid hM
    have HM2 := Lib.hid hM2
    rw [hM] at hn
    simp only [hM, hM2]
    clear hu hv hl hm hk h4 hM hM2 hR
    go_enter Tryz.func27, Tryz.ntmps27
    go_wp2
    go_loopw [5] (fun i wr => ∃ k : Nat, k ≤ M ∧ i = .int .i64 k ∧ Hid (∀ j (h1 : j < l.length) (h2 : j < m.length), j < k → l[j].f = m[j].f) ∧ Ext ((w.alloc (.cells #[.slice A M c] 46)).alloc (.cells #[.slice B M d] 46)) wr) (fun i _ => M - (intOf i).toNat)
    case atStart => exact ⟨0, Nat.zero_le _, rfl, Lib.hid (fun j _ _ h => by omega), Ext.refl _⟩
    case round =>
      obtain ⟨k, hk, rfl, hinv, hxr⟩ := hrel
      have a5 := (((Ext.refl _).alloc _).trans hxr).boxed 0 _ rfl
      have b5 := boxed2b hxr 0 _ rfl
      have hwr : Ext w wr := (((Ext.refl _).alloc _).alloc _).trans hxr
      by_cases hlt : k < M
      · have hkx : k < l.length := by rw [HM.out]; exact hlt
        have hky : k < m.length := by rw [HM2.out]; exact hlt
        obtain ⟨ad, c1, e1, hax⟩ := (HU.out.ext hwr).at hkx
        obtain ⟨ae, c2, e2, hay⟩ := (HV.out.ext hwr).at hky
        injection e1 with e1 e1' e1''
        injection e2 with e2 e2' e2''
        subst e1 e2
        clear e1' e1'' e2' e2''
        have hstep := take_succ_all (P := fun a b : Fc => a.f = b.f) hkx hky hinv.out
        have hno : l[k].f ≠ m[k].f → R = false := fun h => by
          rw [← HR.out]
          refine decide_eq_false fun e => h ?_
          have h1 : (l.map Fc.f)[k]? = (m.map Fc.f)[k]? := by rw [e]
          rw [List.getElem?_map, List.getElem?_map, List.getElem?_eq_getElem hkx, List.getElem?_eq_getElem hky] at h1
          exact Option.some.inj h1
        have hx := HL.out _ (List.getElem_mem hkx)
        have hy := HMM.out _ (List.getElem_mem hky)
        have hkk := HK.out _ (List.getElem_mem hkx)
        obtain ⟨x, hxx⟩ : ∃ x, l[k] = x := ⟨_, rfl⟩
        obtain ⟨y, hyy⟩ : ∃ y, m[k] = y := ⟨_, rfl⟩
        rw [hxx] at hax hstep hno hx hkk
        rw [hyy] at hay hstep hno hy
        have HST := Lib.hid hstep
        have HNO := Lib.hid hno
        have hsx := hx.sl
        have hsy := hy.sl
        have HSM := Lib.hid (fun z : Aft wr => refSame_any x y z.w (hx.ext (hwr.trans z.ext)) (hy.ext (hwr.trans z.ext)) hkk.1 hkk.2)
        clear hstep hno hxx hyy hkx hky hx hy hkk
        have hi0' : (0 : Int) ≤ (k : Int) := by omega
        have hi1 : (k : Int) < (M : Int) := by omega
        obtain ⟨S, hS⟩ : ∃ S, decide (x.f = y.f) = S := ⟨_, rfl⟩
        simp only [hS] at HSM
        have HS := Lib.hid hS
        clear hS
        obtain ⟨xp, xes, xf⟩ := x
        obtain ⟨yp, yes, yf⟩ := y
        obtain ⟨⟨xA, xn, xc, hxp⟩, ⟨xB, xm, xd, hxe⟩⟩ := hsx
        obtain ⟨⟨yA, yn, yc, hyp⟩, ⟨yB, ym, yd, hye⟩⟩ := hsy
        dsimp only at hxp hxe hyp hye
        subst hxp hxe hyp hye
        obtain ⟨p0, p1, p2, p3, p4, p5⟩ := hax
        obtain ⟨q0, q1, q2, q3, q4, q5⟩ := hay
        dsimp only at p0 p1 p2 p3 p4 p5 q0 q1 q2 q3 q4 q5
        unfold cellsC fCells at HSM
        dsimp only at HSM
        have A5 : ∀ z : Aft wr, z.w.cell? ⟨w.heap.size, 0, none⟩ = some (.slice (some ad) M c) := Aft.cell a5
        have B5 : ∀ z : Aft wr, z.w.cell? ⟨w.heap.size + 1, 0, none⟩ = some (.slice (some ae) M d) := Aft.cell b5
        have P0 := fun z : Aft wr => Aft.cell p0 z
        have P1 := fun z : Aft wr => Aft.cell p1 z
        have P2 := fun z : Aft wr => Aft.cell p2 z
        have P3 := fun z : Aft wr => Aft.cell p3 z
        have P4 := fun z : Aft wr => Aft.cell p4 z
        have P5 := fun z : Aft wr => Aft.cell p5 z
        have Q0 := fun z : Aft wr => Aft.cell q0 z
        have Q1 := fun z : Aft wr => Aft.cell q1 z
        have Q2 := fun z : Aft wr => Aft.cell q2 z
        have Q3 := fun z : Aft wr => Aft.cell q3 z
        have Q4 := fun z : Aft wr => Aft.cell q4 z
        have Q5 := fun z : Aft wr => Aft.cell q5 z
        clear p0 p1 p2 p3 p4 p5 q0 q1 q2 q3 q4 q5
        cases S with
        | true =>
          have hxy : xf = yf := of_decide_eq_true HS.out
          have HST2 := Lib.hid (HST.out hxy)
          clear hxy HNO
          go_wp2
          refine wp_region_aft (by kernel_rfl) (by kernel_rfl) ?_
          repeat (first | go_big_quiet_step ((go_at_call 23; with_reducible exact quiet_call (HSM.out _))) | quiet_step ((go_at_call 23; with_reducible exact quiet_call (HSM.out _))))
          refine wpQuiet_nil ?_
          rintro _ ⟨d1, rfl⟩
          go_wp2
          go_roundw
          case rel => exact ⟨k + 1, hlt, by go_num, HST2, hxr.trans d1.ext⟩
          case measure => simp [intOf]; omega
        | false =>
          have hRf := HNO.out (of_decide_eq_false HS.out)
          subst hRf
          go_wp2
          refine wp_region_aft (by kernel_rfl) (by kernel_rfl) ?_
          repeat (first | go_big_quiet_step ((go_at_call 23; with_reducible exact quiet_call (HSM.out _))) | quiet_step ((go_at_call 23; with_reducible exact quiet_call (HSM.out _))))
          refine wpQuiet_nil ?_
          rintro _ ⟨d1, rfl⟩
          go_wp2
          go_ret
          exact ⟨rfl, hwr.trans d1.ext⟩
      · have hke : k = M := by omega
        subst hke
        have hRt : R = true := by
          rw [← HR.out]
          refine decide_eq_true (List.ext_getElem (by simp only [List.length_map]; rw [HM.out, HM2.out]) fun j h1 h2 => ?_)
          simp only [List.length_map] at h1 h2
          rw [List.getElem_map, List.getElem_map]
          exact hinv.out j h1 h2 (by have := HM.out; omega)
        subst hRt
        go_wp2
        go_ret
        exact ⟨rfl, hwr⟩
end Go.Proofs.YtgecijhgonfldaaGreatDoor
