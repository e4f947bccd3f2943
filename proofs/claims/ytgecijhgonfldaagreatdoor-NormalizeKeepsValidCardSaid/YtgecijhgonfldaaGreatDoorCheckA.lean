/- Contracts: the reference's Check at archives. -/
import Derived.Test.YtgecijhgonfldaaGreatDoorCheckF
import Derived.Test.YtgecijhgonfldaaGreatDoorM28
namespace Go.Proofs.YtgecijhgonfldaaGreatDoor
open Go Go.RowKit
set_option linter.unusedVariables false

theorem okLF_false {l : List Fd} {k : Nat} (hk : k < l.length) (h : okAt okF ordF l k = false) : okL okF ordF l = false := by
  rw [Bool.eq_false_iff]
  intro h'
  have := List.all_eq_true.1 h' k (List.mem_range.2 hk)
  rw [h] at this
  cases this
theorem okLF_true {l : List Fd} (h : ∀ k, k < l.length → okAt okF ordF l k = true) : okL okF ordF l = true :=
  List.all_eq_true.2 fun k hk => h k (List.mem_range.1 hk)
theorem AtFc.rebase {w : World} {ad : Addr} {x : Fc} (h : AtFc w (ad.add (0 * 6)) x) : AtFc w ad x := by
  rw [Nat.zero_mul, add_zero] at h
  exact h
set_option maxRecDepth 100000 in
set_option maxHeartbeats 8000000 in
theorem refCheckA_any (v : Value) (l : List Fc) (w : World) (hr : RFcs w v l) (hrd : ∀ x ∈ l, RdC w x) (hk : ∀ x ∈ l, fokS x.f) (hn : l.length ≤ 1000000) :
    Calls Tryz.prog 28 #[.agg #[v]] w fun e w' => e = .returned (.int .i64 (if okA (l.map Fc.f) = true then 0 else 22)) ∧ Ext w w' := by
  obtain ⟨xB, xd, rfl, -, -⟩ := hr.form
  obtain ⟨R, hR⟩ : ∃ R : Int, (if okA (l.map Fc.f) = true then 0 else 22) = R := ⟨_, rfl⟩
  rw [hR]
  have HR2 := Lib.hid hR
  have HX1 := Lib.hid hr
  have HRD := Lib.hid hrd
  have HEK := Lib.hid hk
  obtain ⟨L, hL⟩ : ∃ L, l.map Fc.f = L := ⟨_, rfl⟩
  have hLl : L.length = l.length := by rw [← hL, List.length_map]
  have HLL := Lib.hid hLl
  have HLG : Hid (∀ (j : Nat) (h : j < l.length), L[j]'(by rw [hLl]; exact h) = l[j].f) := Lib.hid fun j h => by subst hL; rw [List.getElem_map]
  rw [hL] at HR2
  have hb0 : Hid (∀ wr : World, Ext (w.alloc (.cells #[.slice xB l.length xd] 46)) wr → wr.cell? ⟨w.heap.size, 0, none⟩ = some (.slice xB l.length xd)) := Lib.hid fun wr h => h.boxed 0 _ rfl
  have HW3 : Hid (Ext w (w.alloc (.cells #[.slice xB l.length xd] 46))) := Lib.hid ((Ext.refl _).alloc _)
  clear hr hrd hk hR hL
  go_enter Tryz.func28, Tryz.ntmps28
  go_wp2
  obtain ⟨w3, hw3⟩ : ∃ w3, w.alloc (.cells #[.slice xB l.length xd] 46) = w3 := ⟨_, rfl⟩
  rw [hw3] at hb0 HW3 ⊢
  have hbox := hb0
  clear hw3 hb0
  go_loopw [3] (fun i wr => ∃ k : Nat, k ≤ l.length ∧ i = .int .i64 k ∧ Hid (∀ j, j < k → okAt okF ordF L j = true) ∧ Ext w3 wr) (fun i _ => l.length - (intOf i).toNat)
  case atStart => exact ⟨0, Nat.zero_le _, rfl, Lib.hid (fun j h => by omega), Ext.refl _⟩
  case round =>
    obtain ⟨k, hk, rfl, hinv, hxq⟩ := hrel
    have bx5 := hbox.out wr hxq
    by_cases hlt : k < l.length
    · have hX := HX1.out.ext (HW3.out.trans hxq)
      obtain ⟨ad, c1, e1, hax⟩ := hX.at hlt
      injection e1 with e1 e1' e1''
      subst e1
      clear e1' e1'' hX
      have hltL : k < L.length := by rw [HLL.out]; exact hlt
      have HIFF := Lib.hid (okAt_iff (ok := okF) (O := ordF) hltL)
      have hEk := HEK.out _ (List.getElem_mem hlt)
      have hEr := (HRD.out _ (List.getElem_mem hlt)).ext (HW3.out.trans hxq)
      have HBAD : Hid (okAt okF ordF L k = false → R = 22) := Lib.hid fun h => by rw [← HR2.out]; unfold okA; rw [okLF_false hltL h]; rfl
      have hE0 := HLG.out k hlt
      obtain ⟨E, hE, hax, hEk, hEr, hE0⟩ : ∃ E, l[k] = E ∧ AtFc wr (ad.add (k * 6)) E ∧ fokS E.f ∧ RdC wr E ∧ L[k] = E.f := ⟨_, rfl, hax, hEk, hEr, hE0⟩
      have HE := Lib.hid hE0
      have HLT := Lib.hid hlt
      have HLTL := Lib.hid hltL
      have HCE := Lib.hid (fun z : Aft wr => refCheckF_any E z.w (hEr.ext z.ext) hEk)
      have HER := Lib.hid hEr
      have HSE := Lib.hid hEr.sl
      have HAX := Lib.hid hax
      have hi0' : (0 : Int) ≤ (k : Int) := by omega
      have hi1 : (k : Int) < (l.length : Int) := by omega
      have B5 : ∀ z : Aft wr, z.w.cell? ⟨w.heap.size, 0, none⟩ = some (.slice (some ad) l.length xd) := Aft.cell bx5
      clear hE hEk hE0 hEr
      obtain ⟨EP, EE, EF⟩ := E
      obtain ⟨⟨EA, EN, EC, hep⟩, ⟨EB, EM, ED, hee⟩⟩ := HSE.out
      dsimp only at hep hee
      subst hep hee
      obtain ⟨k0, k1, k2, k3, k4, k5⟩ := hax
      dsimp only at k0 k1 k2 k3 k4 k5
      have A0 := fun z : Aft wr => Aft.cell k0 z
      have A1 := fun z : Aft wr => Aft.cell k1 z
      have A2 := fun z : Aft wr => Aft.cell k2 z
      have A3 := fun z : Aft wr => Aft.cell k3 z
      have A4 := fun z : Aft wr => Aft.cell k4 z
      have A5 := fun z : Aft wr => Aft.cell k5 z
      clear k0 k1 k2 k3 k4 k5
      unfold cellsC fCells at HCE
      dsimp only at HCE HE HAX
      cases hok : okF EF with
      | false =>
        have hR := HBAD.out (by
          rw [Bool.eq_false_iff]
          intro h
          have h1 := ((HIFF.out).1 h).1
          rw [HE.out, hok] at h1
          cases h1)
        subst hR
        rw [hok] at HCE
        clear hok
        simp only [Bool.false_eq_true, if_false] at HCE
        go_wp2
        refine wp_region_aft (by kernel_rfl) (by kernel_rfl) ?_
        repeat (first | go_big_quiet_step ((first | (go_at_call 24; with_reducible exact quiet_call (HCE.out _)))) | quiet_step ((first | (go_at_call 24; with_reducible exact quiet_call (HCE.out _)))))
        refine wpQuiet_nil ?_
        rintro _ ⟨d1, rfl⟩
        go_wp2
        go_ret
        exact ⟨rfl, HW3.out.trans (hxq.trans d1.ext)⟩
      | true =>
        have HOK := Lib.hid hok
        rw [hok] at HCE
        clear hok
        simp only [if_true] at HCE
        rcases Nat.eq_zero_or_pos k with h0 | hpos
        · subst h0
          simp only [add_zero, Nat.zero_mul] at A0 A1 A2 A3 A4 A5
          go_wp2
          refine wp_region_aft (by kernel_rfl) (by kernel_rfl) ?_
          repeat (first | go_big_quiet_step ((first | (go_at_call 24; with_reducible exact quiet_call (HCE.out _)))) | quiet_step ((first | (go_at_call 24; with_reducible exact quiet_call (HCE.out _)))))
          refine wpQuiet_nil ?_
          rintro _ ⟨d1, rfl⟩
          have hww := hxq.trans d1.ext
          go_wp2
          go_loopw [4] (fun i wr => ∃ j : Nat, j ≤ 0 ∧ i = .int .i64 j ∧ Ext d1.w wr) (fun i _ => 0 - (intOf i).toNat)
          case atStart => exact ⟨0, Nat.zero_le _, rfl, Ext.refl _⟩
          case round =>
            obtain ⟨j, hj, rfl, hxj⟩ := hrel
            have bj5 := hbox.out wr (hww.trans hxj)
            by_cases hjk : j < 0
            · exact absurd hjk (Nat.not_lt_zero _)
            · have hje : j = 0 := by omega
              subst hje
              have hgood : okAt okF ordF L 0 = true := (HIFF.out).2 ⟨by rw [HE.out]; exact HOK.out, fun h => absurd h (Nat.lt_irrefl _), fun t ht => absurd ht (Nat.not_lt_zero _)⟩
              have HG := Lib.hid hgood
              clear hgood
              go_wp2
              go_roundw
              case rel => exact ⟨0 + 1, HLT.out, by go_num, Lib.hid (fun t ht => by
                by_cases e : t = 0
                · rw [e]; exact HG.out
                · exact hinv.out t (by omega)), hww.trans hxj⟩
              case measure => simp [intOf]; have := HLT.out; omega
        · obtain ⟨q, hq⟩ : ∃ q, k = q + 1 := ⟨k - 1, by omega⟩
          have hql : q < l.length := by have := HLT.out; omega
          have hqL : q < L.length := by rw [HLL.out]; exact hql
          have hX : RFcs wr (.slice (some ad) l.length xd) l := HX1.out.ext (HW3.out.trans hxq)
          obtain ⟨af, c3, e3, haq⟩ := hX.at hql
          injection e3 with e3 e3' e3''
          injection e3 with e3
          subst e3
          clear e3' e3'' hX
          have hQr := (HRD.out _ (List.getElem_mem hql)).ext (HW3.out.trans hxq)
          have hQk := HEK.out _ (List.getElem_mem hql)
          have hPE : ∀ h : k - 1 < L.length, L[k - 1] = l[q].f := fun h => by
            subst hq
            exact HLG.out q hql
          obtain ⟨F, haq, hQr, hQk, hPE⟩ : ∃ F : Fc, AtFc wr (ad.add (q * 6)) F ∧ RdC wr F ∧ fokS F.f ∧ (∀ h : k - 1 < L.length, L[k - 1] = F.f) := ⟨_, haq, hQr, hQk, hPE⟩
          have HPE := Lib.hid hPE
          have hlt2 : ordF.lt F.f EF = decide (feedCmp F.f EF < 0) := rfl
          have hee := HER.out.1
          dsimp only at hee
          have HCM := Lib.hid (fun z : Aft wr => refCmpF_any F.p (.slice EA EN EC) F.es (.slice EB EM ED) F.f EF z.w (hQr.1.ext z.ext) (hee.ext z.ext) (by have := hQk.1.2; omega))
          have hsF := hQr.sl
          obtain ⟨c, hc⟩ : ∃ c, feedCmp F.f EF = c := ⟨_, rfl⟩
          rw [hc] at hlt2
          simp only [hc] at HCM
          clear hQr hQk hPE hc hee
          obtain ⟨FP, FE, FF⟩ := F
          obtain ⟨⟨FA, FN, FC, hep⟩, ⟨FB, FM, FD, hee⟩⟩ := hsF
          dsimp only at hep hee
          subst hep hee
          obtain ⟨k0, k1, k2, k3, k4, k5⟩ := haq
          dsimp only at k0 k1 k2 k3 k4 k5 HCM hlt2 HPE
          have C0 := fun z : Aft wr => Aft.cell k0 z
          have C1 := fun z : Aft wr => Aft.cell k1 z
          have C2 := fun z : Aft wr => Aft.cell k2 z
          have C3 := fun z : Aft wr => Aft.cell k3 z
          have C4 := fun z : Aft wr => Aft.cell k4 z
          have C5 := fun z : Aft wr => Aft.cell k5 z
          clear k0 k1 k2 k3 k4 k5
          have hk0 : (0 : Int) < (k : Int) := by omega
          have hks : wrap64 ((k : Int) - 1) = (q : Int) := by rw [wrap_ok _ ⟨by omega, by omega⟩]; omega
          have hkq : (k : Int) - 1 = (q : Int) := by omega
          have hq0 : (0 : Int) ≤ (q : Int) := by omega
          have hq1 : (q : Int) < (l.length : Int) := by omega
          unfold fCells at HCM
          by_cases hneg : c < 0
          · have HPREV : Hid (∀ h : 0 < k, ordF.lt (L[k - 1]'(Nat.lt_of_le_of_lt (Nat.sub_le _ _) HLTL.out)) (L[k]'HLTL.out) = true) := Lib.hid (fun h => by rw [HPE.out (Nat.lt_of_le_of_lt (Nat.sub_le _ _) HLTL.out), HE.out, hlt2]; exact decide_eq_true hneg)
            have hge : ¬ (0 : Int) ≤ c := by omega
            clear hlt2 hq HPE
            go_wp2
            refine wp_region_aft (by kernel_rfl) (by kernel_rfl) ?_
            repeat (first | go_big_quiet_step ((first | (go_at_call 24; with_reducible exact quiet_call (HCE.out _)) | (go_at_call 63; with_reducible exact quiet_call (HCM.out _)))) | quiet_step ((first | (go_at_call 24; with_reducible exact quiet_call (HCE.out _)) | (go_at_call 63; with_reducible exact quiet_call (HCM.out _)))))
            refine wpQuiet_nil ?_
            rintro _ ⟨d1, rfl⟩
            have hww := hxq.trans d1.ext
            go_wp2
            go_loopw [4] (fun i wr => ∃ j : Nat, j ≤ k ∧ i = .int .i64 j ∧ Hid (∀ t (h : t < L.length), t < j → L[t].id ≠ EF.id) ∧ Ext d1.w wr) (fun i _ => k - (intOf i).toNat)
            case atStart => exact ⟨0, Nat.zero_le _, rfl, Lib.hid (fun t _ h => by omega), Ext.refl _⟩
            case round =>
              obtain ⟨j, hj, rfl, hjn, hxj⟩ := hrel
              have bj5 := hbox.out wr (hww.trans hxj)
              have hlt' := HLT.out
              by_cases hjk : j < k
              · have hjl : j < l.length := by omega
                have hjL : j < L.length := by rw [HLL.out]; exact hjl
                have hX : RFcs wr (.slice (some ad) l.length xd) l := HX1.out.ext (HW3.out.trans (hww.trans hxj))
                obtain ⟨ae, c2, e2, haj⟩ := hX.at hjl
                injection e2 with e2 e2' e2''
                injection e2 with e2
                subst e2
                clear e2' e2'' hX
                have hLj := HLG.out j hjl
                have hstep : L[j].id ≠ EF.id → ∀ t (h : t < L.length), t < j + 1 → L[t].id ≠ EF.id := fun hne t h ht => by
                  by_cases e : t = j
                  · subst e; exact hne
                  · exact hjn.out t h (by omega)
                have hbad2 : L[j].id = EF.id → R = 22 := fun e => by
                  refine HBAD.out ?_
                  rw [Bool.eq_false_iff]
                  intro h
                  exact ((HIFF.out).1 h).2.2 j hjk (by rw [HE.out]; exact e)
                rw [hLj] at hstep hbad2
                have q0 := haj.c1
                have p0 := (HAX.out.ext (d1.ext.trans hxj)).c1
                dsimp only at p0
                obtain ⟨y, hyy⟩ : ∃ y, l[j].f.id = y := ⟨_, rfl⟩
                rw [hyy] at hstep hbad2 q0
                obtain ⟨z, hzz⟩ : ∃ z, EF.id = z := ⟨_, rfl⟩
                simp only [hzz] at hstep hbad2 p0 hjn ⊢
                have HZ := Lib.hid hzz
                clear hzz haj hLj hjL
                have B5 : ∀ z : Aft wr, z.w.cell? ⟨w.heap.size, 0, none⟩ = some (.slice (some ad) l.length xd) := Aft.cell bj5
                have Q0 : ∀ z : Aft wr, z.w.cell? ⟨(ad.add (j * 6)).block, (ad.add (j * 6)).off + 1, none⟩ = some (.string y) := Aft.cell q0
                have P0 : ∀ u : Aft wr, u.w.cell? ⟨(ad.add (k * 6)).block, (ad.add (k * 6)).off + 1, none⟩ = some (.string z) := Aft.cell p0
                have j0 : (0 : Int) ≤ (j : Int) := by omega
                have j1 : (j : Int) < (l.length : Int) := by omega
                have j2 : (j : Int) < (k : Int) := by omega
                clear q0 p0 hlt'
                cases hyz : (y.toList == z.toList) with
                | true =>
                  have hR := hbad2 (toList_inj (by simpa using hyz))
                  subst hR
                  clear hbad2 hstep
                  go_wp2
                  refine wp_region_aft (by kernel_rfl) (by kernel_rfl) ?_
                  repeat (first | go_big_quiet_step (fail) | quiet_step (fail))
                  refine wpQuiet_nil ?_
                  rintro _ ⟨d2, rfl⟩
                  go_wp2
                  go_ret
                  exact ⟨rfl, HW3.out.trans ((hww.trans hxj).trans d2.ext)⟩
                | false =>
                  have HST := Lib.hid (hstep (fun e => by rw [e] at hyz; simp at hyz))
                  clear hbad2 hstep
                  go_wp2
                  refine wp_region_aft (by kernel_rfl) (by kernel_rfl) ?_
                  repeat (first | go_big_quiet_step (fail) | quiet_step (fail))
                  refine wpQuiet_nil ?_
                  rintro _ ⟨d2, rfl⟩
                  go_wp2
                  go_roundw
                  case rel => exact ⟨j + 1, by omega, by go_num, HST, hxj.trans d2.ext⟩
                  case measure => simp [intOf]; omega
              · have hje : j = k := by omega
                subst hje
                have hgood : okAt okF ordF L j = true := by
                  refine (HIFF.out).2 ⟨by rw [HE.out]; exact HOK.out, HPREV.out, fun t ht => ?_⟩
                  rw [HE.out]
                  exact hjn.out t (by have := HLTL.out; omega) ht
                have HG := Lib.hid hgood
                clear hgood hlt'
                go_wp2
                go_roundw
                case rel => exact ⟨j + 1, HLT.out, by go_num, Lib.hid (fun t ht => by
                  by_cases e : t = j
                  · rw [e]; exact HG.out
                  · exact hinv.out t (by omega)), hww.trans hxj⟩
                case measure => simp [intOf]; have := HLT.out; omega
          · have hR := HBAD.out (by
              rw [Bool.eq_false_iff]
              intro h
              have h1 := ((HIFF.out).1 h).2.1 hpos
              rw [HPE.out (Nat.lt_of_le_of_lt (Nat.sub_le _ _) HLTL.out), HE.out, hlt2] at h1
              exact hneg (of_decide_eq_true h1))
            subst hR
            have hge : (0 : Int) ≤ c := by omega
            clear hlt2 hq HPE
            go_wp2
            refine wp_region_aft (by kernel_rfl) (by kernel_rfl) ?_
            repeat (first | go_big_quiet_step ((first | (go_at_call 24; with_reducible exact quiet_call (HCE.out _)) | (go_at_call 63; with_reducible exact quiet_call (HCM.out _)))) | quiet_step ((first | (go_at_call 24; with_reducible exact quiet_call (HCE.out _)) | (go_at_call 63; with_reducible exact quiet_call (HCM.out _)))))
            refine wpQuiet_nil ?_
            rintro _ ⟨d1, rfl⟩
            go_wp2
            go_ret
            exact ⟨rfl, HW3.out.trans (hxq.trans d1.ext)⟩
    · have hke : k = l.length := by omega
      subst hke
      have hR0 : R = 0 := by
        rw [← HR2.out]
        unfold okA
        rw [okLF_true (fun j hj => hinv.out j (by rw [← HLL.out]; exact hj))]
        rfl
      subst hR0
      go_wp2
      go_ret
      exact ⟨rfl, HW3.out.trans hxq⟩
end Go.Proofs.YtgecijhgonfldaaGreatDoor
