/- NormalizeIsolated: the law's contract. -/
import Derived.Test.YtgecijhgonfldaaGreatDoorM35
import Derived.Test.YtgecijhgonfldaaGreatDoorK01
import Derived.Test.YtgecijhgonfldaaGreatDoorK00
import Derived.Test.YtgecijhgonfldaaGreatDoorK06
import Derived.Test.YtgecijhgonfldaaGreatDoorArchW
namespace Go.Proofs.YtgecijhgonfldaaGreatDoor
open Go Go.RowKit
set_option linter.unusedVariables false

/-- the result, while it is written over: its row and its box are as they were, its paths and entries may be written, what was there before it is as it was -/
structure Isl (w3 wr : World) (b : Nat) (v : Value) (l : List Fc) : Prop where
  row : RFcs wr v l
  box : wr.cell? ⟨b, 0, none⟩ = some v
  wc : ∀ y ∈ l, WcF wr w3.heap.size y
  aw : ∀ y ∈ l, awayC y v.ownBlock ∧ awayC y (some b)
  ext : Ext w3 wr
theorem Isl.store {w3 wr : World} {b : Nat} {v : Value} {l : List Fc} (h : Isl w3 wr b v l) {p : Addr} (h1 : w3.heap.size ≤ p.block) (h2 : v.ownBlock ≠ some p.block) (h3 : p.block ≠ b) (x : Value) : Isl w3 (wr.setCell p x) b v l :=
  ⟨RSl.grown h.row (setCell_grown wr p x) (Or.inr h2), (World.cell?_setCell_other _ _ _ _ (fun e => h3 (congrArg Addr.block e))).trans h.box, fun y hy => (h.wc y hy).setCell p x, h.aw, Ext.setCell h.ext h1 x⟩
theorem Isl.path {w3 wr : World} {b : Nat} {v : Value} {l : List Fc} (h : Isl w3 wr b v l) {y : Fc} (hy : y ∈ l) {j : Nat} (hj : j < y.f.path.length) :
    ∃ (ad : Addr) (n c : Nat) (u : Value), y.p = .slice (some ad) n c ∧ wr.cell? (ad.add j) = some u ∧ wr.frozen? (ad.add j) = false ∧ ∀ x, Isl w3 (wr.setCell (ad.add j) x) b v l := by
  obtain ⟨ad, n, c, u, e, k1, k2, k3⟩ := (h.wc y hy).1 j hj
  have hne : y.f.path ≠ [] := fun e => by rw [e] at hj; simp at hj
  have ha := h.aw y hy
  have ob : y.p.ownBlock = some ad.block := by rw [e]; rfl
  refine ⟨ad, n, c, u, e, k2, k3, fun x => h.store ?_ ?_ ?_ x⟩
  · rw [block_of_add]; exact k1
  · rw [block_of_add]
    rcases ha.1.1 with h1 | h1
    · exact absurd h1 hne
    · rw [ob] at h1; exact fun e => h1 e.symm
  · rw [block_of_add]
    rcases ha.2.1 with h1 | h1
    · exact absurd h1 hne
    · rw [ob] at h1; exact fun e => h1 (by rw [e])
theorem Isl.ents {w3 wr : World} {b : Nat} {v : Value} {l : List Fc} (h : Isl w3 wr b v l) {y : Fc} (hy : y ∈ l) {j : Nat} (hj : j < y.f.ents.length) :
    ∃ (ad : Addr) (n c : Nat) (u : Value), y.es = .slice (some ad) n c ∧ wr.cell? (ad.add (j * 5)) = some u ∧ wr.frozen? (ad.add (j * 5)) = false ∧ ∀ x, Isl w3 (wr.setCell (ad.add (j * 5)) x) b v l := by
  obtain ⟨ad, n, c, u, e, k1, k2, k3⟩ := (h.wc y hy).2 (j * 5) (by omega)
  have hne : y.f.ents ≠ [] := fun e => by rw [e] at hj; simp at hj
  have ha := h.aw y hy
  have ob : y.es.ownBlock = some ad.block := by rw [e]; rfl
  refine ⟨ad, n, c, u, e, k2, k3, fun x => h.store ?_ ?_ ?_ x⟩
  · rw [block_of_add]; exact k1
  · rw [block_of_add]
    rcases ha.1.2 with h1 | h1
    · exact absurd h1 hne
    · rw [ob] at h1; exact fun e => h1 e.symm
  · rw [block_of_add]
    rcases ha.2.2 with h1 | h1
    · exact absurd h1 hne
    · rw [ob] at h1; exact fun e => h1 (by rw [e])
set_option maxRecDepth 100000 in
set_option maxHeartbeats 8000000 in
theorem law6_any (v : Value) (l : List Fc) (w : World) (hE : Env w) (hr : RFcs w v l) (hrd : ∀ x ∈ l, RdC w x) (hn : l.length ≤ reachBytes) (hk : ∀ x ∈ l, fwide x.f) :
    Calls Tryz.prog 8 #[v] w fun e w' => e = .returned (.bool true) ∧ Ext w w' := by
  have HAL := Lib.hid (fun (w' : World) (h : Ext w w') => alive_any w' (hE.ext h))
  have HLG := Lib.hid (large_any v l w hr hrd hn hk)
  obtain ⟨A, c, hv, -, -⟩ := hr.form
  by_cases hb : 50 < l.length ∨ 5000 < bigL (l.map Fc.f)
  · have hlb : (decide (50 < l.length) || decide (5000 < bigL (l.map Fc.f))) = true := by simpa using hb
    rw [hlb] at HLG
    subst hv
    clear hlb hb hn hk hr hrd hE
    go_enter Tryz.func8, Tryz.ntmps8
    go_wp2_with (first
      | (go_at_call 20; (have hz := HLG.out); (with_reducible refine Calls.mono hz ?_); clear hz; rintro e w1 ⟨rfl, hx1⟩)
      | (go_at_call 16; (have hz := HAL.out _ hx1); (with_reducible refine Calls.mono hz ?_); clear hz; rintro e w2 ⟨rfl, hx2⟩))
    go_ret
    exact ⟨rfl, hx1.trans hx2⟩
  · have h50 : l.length ≤ 50 := by omega
    have hbl : bigL (l.map Fc.f) ≤ 5000 := by omega
    have hlb : (decide (50 < l.length) || decide (5000 < bigL (l.map Fc.f))) = false := by simp; omega
    rw [hlb] at HLG
    have hfk := small_all hk hbl
    have hae := allE_small2 l hbl
    have hNk := normA_fokS hfk hae
    have hNl := normA_len (l.map Fc.f)
    rw [List.length_map] at hNl
    have HAR := Lib.hid (fun (w' : World) (h : Ext w w') => archiveW_any v l w' (hE.ext h) (hr.ext h) (fun x hx => (hrd x hx).ext h) (fun x hx => (hfk x hx).1) (by omega) hae)
    have HRA := Lib.hid (fun (w' : World) (h : Ext w w') => refArc_any v l w' (hE.ext h) (hr.ext h) (fun x hx => (hrd x hx).ext h) hfk (by omega) hae)
    obtain ⟨E, hEr⟩ : ∃ E, errFs (l.map Fc.f) = E := ⟨_, rfl⟩
    obtain ⟨N, hN⟩ : ∃ N, normA (l.map Fc.f) = N := ⟨_, rfl⟩
    simp only [hEr, hN] at HAR HRA
    rw [hN] at hNk hNl
    have HEQ : Hid (∀ (v1 v2 : Value) (l1 l2 : List Fc) (w' : World), RFcs w' v1 l1 → RFcs w' v2 l2 → (∀ y ∈ l1, RdC w' y) → (∀ y ∈ l2, RdC w' y) → l1.map Fc.f = N → l2.map Fc.f = N → Calls Tryz.prog 27 #[.agg #[v1], .agg #[v2]] w' fun e w'' => e = .returned (.bool true) ∧ Ext w' w'') := Lib.hid fun v1 v2 l1 l2 w' r1 r2 d1 d2 e1 e2 => by
      have hl : l1.length ≤ 50 := by
        have h1 : l1.length = N.length := by rw [← e1, List.length_map]
        omega
      have := refEqual_any v1 v2 l1 l2 w' r1 r2 d1 d2 (fun y hy => by have h3 := hNk y.f (by rw [← e1]; exact List.mem_map.2 ⟨y, hy, rfl⟩); exact ⟨by have := h3.1.2; omega, by have := h3.2.1; omega⟩) (by omega)
      rwa [decide_eq_true (by rw [e1, e2])] at this
    have HNK : Hid (∀ l2 : List Fc, l2.map Fc.f = N → l2.length ≤ 50 ∧ ∀ y ∈ l2, y.f.path.length ≤ 16777216 ∧ y.f.ents.length ≤ 16777216) := Lib.hid fun l2 e2 => by
      refine ⟨?_, fun y hy => ?_⟩
      · have h1 : l2.length = N.length := by rw [← e2, List.length_map]
        omega
      · have h3 := hNk y.f (by rw [← e2]; exact List.mem_map.2 ⟨y, hy, rfl⟩)
        exact ⟨by have := h3.1.2; omega, by have := h3.2.1; omega⟩
    subst hv
    clear hlb hb hn hk hr hrd hE hfk hae hNk hNl hEr hN hbl
    by_cases hE0 : E = 0
    · subst hE0
      have HAR2 := Lib.hid HAR.out
      go_enter Tryz.func8, Tryz.ntmps8
      go_wp2_with (first
        | (go_at_call 20; (have hz := HLG.out); (with_reducible refine Calls.mono hz ?_); clear hz; rintro e w1 ⟨rfl, hx1⟩)
        | (go_at_call 26; (have hz := HRA.out _ hx1); (with_reducible refine Calls.mono hz ?_); clear hz; rintro e w2 ⟨v1, l1, rfl, hm1, hrf1, hrd1, hx2⟩; (obtain ⟨uA, uc, hv1, -, -⟩ := hrf1.form); subst hv1; (have HM1 := Lib.hid hm1); clear hm1; (have hX2 := (hx1.trans hx2).alloc (.cells #[.slice uA l1.length uc] 46)))
        | (go_at_call 25; (have hz := HAR.out _ hX2); (with_reducible refine Calls.mono hz ?_); clear hz; rintro e w4 ⟨v2, l2, rfl, hm2, hH2, hW2, hx4⟩; clear HAR; (obtain ⟨vA, vc, hv2, -, -⟩ := hH2.row.reads.form); subst hv2; (have HM2 := Lib.hid hm2); clear hm2))
      have hst : Isl (w2.alloc (.cells #[.slice uA l1.length uc] 46)) (w4.alloc (.cells #[.slice vA l2.length vc] 46)) w4.heap.size (.slice vA l2.length vc) l2 :=
        ⟨hH2.row.reads.ext ((Ext.refl _).alloc _), (Ext.refl _).boxed 0 _ rfl, fun y hy => (hW2 y hy).ext ((Ext.refl _).alloc _), fun y hy => ⟨hH2.away y hy, awayC_new (hH2.rd y hy) (Nat.le_refl _)⟩, hx4.alloc _⟩
      have HFM : Hid (∀ y ∈ l2, ∃ (A : Option Addr) (c : Nat) (B : Option Addr) (d : Nat), y.p = .slice A y.f.path.length c ∧ y.es = .slice B y.f.ents.length d) := Lib.hid fun y hy => by
        obtain ⟨A, c, e1, -, -⟩ := (hH2.rd y hy).1.form
        obtain ⟨B, d, e2, -, -⟩ := (hH2.rd y hy).2.form
        exact ⟨A, c, B, d, e1, e2⟩
      have HX2 := Lib.hid hX2
      have HRF1 := Lib.hid hrf1
      have HRD1 := Lib.hid hrd1
      have HNK2 := Lib.hid (HNK.out l2 HM2.out)
      have hl2 : l2.length ≤ 50 := HNK2.out.1
      obtain ⟨w3, hw3⟩ : ∃ w3, w2.alloc (.cells #[.slice uA l1.length uc] 46) = w3 := ⟨_, rfl⟩
      have HW3 : Hid (∀ wr, Ext w3 wr → wr.cell? ⟨w2.heap.size, 0, none⟩ = some (.slice uA l1.length uc) ∧ Ext w2 wr) := Lib.hid fun wr h => by rw [← hw3] at h; exact ⟨h.boxed 0 _ rfl, ((Ext.refl _).alloc _).trans h⟩
      have hw3w : Ext w w3 := by rw [← hw3]; exact HX2.out
      have HWX := Lib.hid hw3w
      rw [hw3] at hst
      have HST := Lib.hid hst
      obtain ⟨b5, hb5⟩ : ∃ b5, w4.heap.size = b5 := ⟨_, rfl⟩
      obtain ⟨w5, hw5⟩ : ∃ w5, w4.alloc (.cells #[.slice vA l2.length vc] 46) = w5 := ⟨_, rfl⟩
      have k0 := hst.box
      rw [hb5, hw5] at HST
      rw [hb5, hw5] at k0
      rw [hb5, hw5]
      clear hst hw3 hw5 hb5 hH2 hW2 hx4 hX2 hx2 hx1 hrf1 hrd1 hw3w HRA
      go_wp2
      clear k0
      go_loopw [41] (fun i wr => ∃ k : Nat, k ≤ l2.length ∧ i = .int .i64 k ∧ Hid (Isl w3 wr b5 (.slice vA l2.length vc) l2)) (fun i _ => l2.length - (intOf i).toNat)
      case atStart => exact ⟨0, Nat.zero_le _, rfl, HST⟩
      case round =>
        obtain ⟨k, hk, rfl, hI⟩ := hrel
        by_cases hlt : k < l2.length
        · have hmem := List.getElem_mem hlt
          have HATF : Hid (∀ wr, Isl w3 wr b5 (.slice vA l2.length vc) l2 → ∃ ad, vA = some ad ∧ AtFc wr (ad.add (k * 6)) l2[k]) := Lib.hid fun wr h => by
            obtain ⟨ad, c1, e1, ha⟩ := h.row.at hlt
            injection e1 with e1 _ _
            exact ⟨ad, e1, ha⟩
          obtain ⟨ad, hvA, -⟩ := HATF.out wr hI.out
          subst hvA
          obtain ⟨y, hy⟩ : ∃ y, l2[k] = y := ⟨_, rfl⟩
          rw [hy] at hmem HATF
          have HAT2 : Hid (∀ wr, Isl w3 wr b5 (.slice (some ad) l2.length vc) l2 → AtFc wr (ad.add (k * 6)) y) := Lib.hid fun wr h => by
            obtain ⟨ad', e, ha⟩ := HATF.out wr h
            injection e with e
            subst e
            exact ha
          obtain ⟨pA, pc, eA, ec, hyp, hye⟩ := HFM.out y hmem
          obtain ⟨hpl, hel⟩ := HNK2.out.2 y hmem
          have HP : Hid (∀ wr, Isl w3 wr b5 (.slice (some ad) l2.length vc) l2 → ∀ j, j < y.f.path.length → ∃ a, pA = some a ∧ ∃ u, wr.cell? (a.add j) = some u ∧ wr.frozen? (a.add j) = false ∧ ∀ x, Isl w3 (wr.setCell (a.add j) x) b5 (.slice (some ad) l2.length vc) l2) := Lib.hid fun wr h j hj => by
            obtain ⟨a, n, c, u, e, h1, h2, h3⟩ := h.path hmem hj
            rw [hyp] at e
            injection e with e _ _
            exact ⟨a, e, u, h1, h2, h3⟩
          have HEN : Hid (∀ wr, Isl w3 wr b5 (.slice (some ad) l2.length vc) l2 → ∀ j, j < y.f.ents.length → ∃ a, eA = some a ∧ ∃ u, wr.cell? (a.add (j * 5)) = some u ∧ wr.frozen? (a.add (j * 5)) = false ∧ ∀ x, Isl w3 (wr.setCell (a.add (j * 5)) x) b5 (.slice (some ad) l2.length vc) l2) := Lib.hid fun wr h j hj => by
            obtain ⟨a, n, c, u, e, h1, h2, h3⟩ := h.ents hmem hj
            rw [hye] at e
            injection e with e _ _
            exact ⟨a, e, u, h1, h2, h3⟩
          have HCELLS : Hid (∀ wr, Isl w3 wr b5 (.slice (some ad) l2.length vc) l2 → wr.cell? ⟨b5, 0, none⟩ = some (.slice (some ad) l2.length vc) ∧ wr.cell? (ad.add (k * 6)) = some (.slice pA y.f.path.length pc) ∧ wr.cell? ⟨(ad.add (k * 6)).block, (ad.add (k * 6)).off + 5, none⟩ = some (.slice eA y.f.ents.length ec)) := Lib.hid fun wr h => by
            have ha := HAT2.out wr h
            exact ⟨h.box, by rw [← hyp]; exact ha.c0, by rw [← hye]; exact ha.c5⟩
          obtain ⟨P, hP⟩ : ∃ P, y.f.path.length = P := ⟨_, rfl⟩
          obtain ⟨M, hM⟩ : ∃ M, y.f.ents.length = M := ⟨_, rfl⟩
          simp only [hP, hM] at HP HEN HCELLS
          rw [hP] at hpl
          rw [hM] at hel
          have hi0' : (0 : Int) ≤ (k : Int) := by omega
          have hi1 : (k : Int) < (l2.length : Int) := by omega
          clear hy hyp hye hmem HATF HAT2 hP hM
          obtain ⟨k0, k1, k2⟩ := HCELLS.out wr hI.out
          go_wp2
          clear k0 k1 k2
          go_loopw [51] (fun i wr => ∃ j : Nat, j ≤ P ∧ i = .int .i64 j ∧ Hid (Isl w3 wr b5 (.slice (some ad) l2.length vc) l2)) (fun i _ => P - (intOf i).toNat)
          case atStart => exact ⟨0, Nat.zero_le _, rfl, hI⟩
          case round =>
            obtain ⟨j, hj, rfl, hJ⟩ := hrel
            obtain ⟨k0, k1, k2⟩ := HCELLS.out wr hJ.out
            by_cases hlj : j < P
            · obtain ⟨a, rfl, u, h1, h2, h3⟩ := HP.out wr hJ.out j hlj
              have H3 := Lib.hid h3
              have hj0 : (0 : Int) ≤ (j : Int) := by omega
              have hj1 : (j : Int) < (P : Int) := by omega
              have hx := HCELLS.out _ (h3 (.string ⟨#[63]⟩))
              clear h3 hx
              go_wp2
              go_roundw
              case rel => exact ⟨j + 1, hlj, by go_num, Lib.hid (H3.out _)⟩
              case measure => simp [intOf]; omega
            · have hje : j = P := by omega
              subst hje
              go_wp2
              clear k0 k1 k2
              go_loopw [70] (fun i wr => ∃ j : Nat, j ≤ M ∧ i = .int .i64 j ∧ Hid (Isl w3 wr b5 (.slice (some ad) l2.length vc) l2)) (fun i _ => M - (intOf i).toNat)
              case atStart => exact ⟨0, Nat.zero_le _, rfl, hJ⟩
              case round =>
                obtain ⟨m, hm, rfl, hQ⟩ := hrel
                obtain ⟨k0, k1, k2⟩ := HCELLS.out wr hQ.out
                by_cases hlm : m < M
                · obtain ⟨a, rfl, u, h1, h2, h3⟩ := HEN.out wr hQ.out m hlm
                  have H3 := Lib.hid h3
                  have hj0 : (0 : Int) ≤ (m : Int) := by omega
                  have hj1 : (m : Int) < (M : Int) := by omega
                  clear h3
                  go_wp2
                  go_roundw
                  case rel => exact ⟨m + 1, hlm, by go_num, Lib.hid (H3.out _)⟩
                  case measure => simp [intOf]; omega
                · have hme : m = M := by omega
                  subst hme
                  go_wp2
                  go_roundw
                  case rel => exact ⟨k + 1, hlt, by go_num, hQ⟩
                  case measure => simp [intOf]; omega
        · have hke : k = l2.length := by omega
          subst hke
          have hxr := hI.out.ext
          have HXR := Lib.hid hxr
          have hww := HWX.out.trans hxr
          clear hxr
          go_wp2_with (first
            | (go_at_call 25; (have hz := HAR2.out _ hww); (with_reducible refine Calls.mono hz ?_); clear hz; rintro e w6 ⟨v6, l6, rfl, hm6, hH6, -, hx6⟩; (have hrd6 := hH6.rd); (have hrf6 := hH6.row.reads); clear hH6; (obtain ⟨zA, zc, hv6, -, -⟩ := hrf6.form); subst hv6; (have HM6 := Lib.hid hm6); clear hm6; (have hX6 := hx6.alloc (.cells #[.slice zA l6.length zc] 46)))
            | (go_at_call 16; (have hz := HAL.out _ (hww.trans hX6)); (with_reducible refine Calls.mono hz ?_); clear hz; rintro e w7 ⟨rfl, hx7⟩; (obtain ⟨n0, hx27⟩ := HW3.out w7 ((HXR.out.trans hX6).trans hx7)); (have n1 := hx7.boxed 0 _ rfl); (have hx67 : Ext w6 w7 := ((Ext.refl _).alloc _).trans hx7))
            | (go_at_call 27; (have hz := HEQ.out _ _ l6 l1 w7 (hrf6.ext hx67) (HRF1.out.ext hx27) (fun y hy => (hrd6 y hy).ext hx67) (fun y hy => (HRD1.out y hy).ext hx27) HM6.out HM1.out); (with_reducible refine Calls.mono hz ?_); clear hz; rintro e w8 ⟨rfl, hx8⟩))
          go_ret
          exact ⟨rfl, ((hww.trans hX6).trans hx7).trans hx8⟩
    · have hb0 : ((E : Int) != 0) = true := by simp; omega
      clear hE0 HEQ HNK
      go_enter Tryz.func8, Tryz.ntmps8
      go_wp2_with (first
        | (go_at_call 20; (have hz := HLG.out); (with_reducible refine Calls.mono hz ?_); clear hz; rintro e w1 ⟨rfl, hx1⟩)
        | (go_at_call 26; (have hz := HRA.out _ hx1); (with_reducible refine Calls.mono hz ?_); clear hz; rintro e w2 ⟨v1, l1, rfl, hm1, hrf1, hrd1, hx2⟩; (obtain ⟨uA, uc, hv1, -, -⟩ := hrf1.form); subst hv1; clear hm1; (have hX2 := (hx1.trans hx2).alloc (.cells #[.slice uA l1.length uc] 46)))
        | (go_at_call 25; (have hz := HAR.out _ hX2); (with_reducible refine Calls.mono hz ?_); clear hz; rintro e w4 ⟨v2, l2, rfl, hm2, hH2, -, hx4⟩; clear HAR; (obtain ⟨vA, vc, hv2, -, -⟩ := hH2.row.reads.form); subst hv2; clear hm2 hH2; (have hX4 := hx4.alloc (.cells #[.slice vA l2.length vc] 46)))
        | (go_at_call 16; (have hz := HAL.out _ (hX2.trans hX4)); (with_reducible refine Calls.mono hz ?_); clear hz; rintro e w7 ⟨rfl, hx7⟩))
      go_ret
      exact ⟨rfl, (hX2.trans hX4).trans hx7⟩
end Go.Proofs.YtgecijhgonfldaaGreatDoor
