/- YtgecijhgonfldaaGreatDoor: texts Cut, NormA, put one behind the other. -/
import Derived.Test.YtgecijhgonfldaaGreatDoorM34
import Derived.Test.YtgecijhgonfldaaGreatDoorK00
import Derived.Test.YtgecijhgonfldaaGreatDoorK05
/- Parts of a row of entries; rows of one and of two feeds laid anew; sizes of what is normalized. No walk. -/
namespace Go.Proofs.YtgecijhgonfldaaGreatDoor
open Go Go.RowKit
set_option linter.unusedVariables false

theorem flatE_len (l : List Ent) : (flatE l).length = l.length * 5 := by
  induction l with
  | nil => rfl
  | cons x t ih =>
    have e : flatE (x :: t) = eCells x ++ flatE t := by unfold flatE; simp
    have e5 : (eCells x).length = 5 := rfl
    rw [e, List.length_append, ih, e5, List.length_cons]
    omega
theorem flatE_td (l : List Ent) (n : Nat) : flatE l = flatE (l.take n) ++ flatE (l.drop n) := by rw [← flatE_app, List.take_append_drop]
/-- the first entries of a row -/
theorem takeE {w : World} {A : Option Addr} {c : Nat} {l : List Ent} (n : Nat) (h : REnts w (.slice A l.length c) l) (hn : n ≤ l.length) :
    ∃ A1, (∀ wx : World, (Instr.slice 33 (.slice A l.length c) none (some (.int .i64 (n : Int))) (some (.int .i64 (n : Int)))).run Tryz.prog wx = .ok (.slice A1 n n) wx) ∧ REnts w (.slice A1 n n) (l.take n) := by
  obtain ⟨h1, A', c', e, h2, h3, h4, h5⟩ := h
  injection e with e1 e2 e3
  subst e1 e3
  clear e2
  have hlt : (l.take n).length = n := by rw [List.length_take]; omega
  refine ⟨if n = 0 then A else A.map (·.add (0 * 5)), fun wx => ?_, ?_⟩
  · rw [run_slice_hm (P := Tryz.prog) (w := wx) 33 A l.length c rowSlice .i64 .i64 (n : Int) (n : Int) (by omega) (by omega) (by omega), rowSize]
    show Result.ok (sliced A 0 ((n : Int).toNat) ((n : Int).toNat) 5) wx = _
    rw [Int.toNat_natCast]
    rfl
  · unfold REnts
    rw [hlt]
    refine ⟨by rw [flatE_len, hlt], _, n, rfl, Nat.le_refl _, by omega, fun e => ?_, fun j u hu => ?_⟩
    · by_cases h0 : n = 0
      · exact h0
      · rw [if_neg h0] at e
        have := h4 (by simpa using e)
        omega
    · have hj : (flatE l)[j]? = some u := by
        rw [flatE_td l n, List.getElem?_append_left (List.getElem?_eq_some_iff.1 hu).1]
        exact hu
      obtain ⟨ad, ha, hc⟩ := h5 j u hj
      subst ha
      refine ⟨ad, ?_, hc⟩
      by_cases h0 : n = 0
      · rw [if_pos h0]
      · rw [if_neg h0]
        show some (ad.add (0 * 5)) = some ad
        rw [Nat.zero_mul, add_zero]
/-- the entries of a row from one on -/
theorem dropE {w : World} {A : Option Addr} {c : Nat} {l : List Ent} (n : Nat) (h : REnts w (.slice A l.length c) l) (hn : n ≤ l.length) :
    ∃ A2 c2, (∀ wx : World, (Instr.slice 33 (.slice A l.length c) (some (.int .i64 (n : Int))) none none).run Tryz.prog wx = .ok (.slice A2 (l.length - n) c2) wx) ∧ REnts w (.slice A2 (l.length - n) c2) (l.drop n) := by
  obtain ⟨h1, A', c', e, h2, h3, h4, h5⟩ := h
  injection e with e1 e2 e3
  subst e1 e3
  clear e2
  have hlt : (l.drop n).length = l.length - n := List.length_drop
  refine ⟨if c = n then A else A.map (·.add (n * 5)), c - n, fun wx => ?_, ?_⟩
  · rw [run_slice_l (P := Tryz.prog) (w := wx) 33 A l.length c rowSlice .i64 (n : Int) (by omega) (by omega), rowSize]
    show Result.ok (sliced A ((n : Int).toNat) l.length c 5) wx = _
    rw [Int.toNat_natCast]
    rfl
  · unfold REnts
    rw [hlt]
    refine ⟨by rw [flatE_len, hlt], _, c - n, rfl, by omega, Nat.le_trans (Nat.sub_le _ _) h3, fun e => ?_, fun j u hu => ?_⟩
    · by_cases h0 : c = n
      · omega
      · rw [if_neg h0] at e
        have := h4 (by simpa using e)
        omega
    · have hjl : j < (flatE (l.drop n)).length := (List.getElem?_eq_some_iff.1 hu).1
      rw [flatE_len, hlt] at hjl
      have htl : (flatE (l.take n)).length = n * 5 := by rw [flatE_len, List.length_take]; congr 1; omega
      have hj : (flatE l)[n * 5 + j]? = some u := by
        rw [flatE_td l n, List.getElem?_append_right (by omega), htl, show n * 5 + j - n * 5 = j by omega]
        exact hu
      obtain ⟨ad, ha, hc⟩ := h5 _ u hj
      subst ha
      have h0 : c ≠ n := by omega
      refine ⟨ad.add (n * 5), ?_, ?_⟩
      · rw [if_neg h0]; rfl
      · rw [addr_add2]; exact hc
/-- one feed, laid anew -/
theorem one_rfc {w : World} (x : Fc) : RFcs (w.alloc (.cells (cellsC x).toArray 35)) (.slice (some ⟨w.heap.size, 0, none⟩) 1 1) [x] := by
  have h := rsl_new (w := w) (size := 6) (n := 1) (cs := cellsC x) (e := 35) rfl (by decide)
  unfold RFcs
  rw [flatC_one]
  exact h
/-- two feeds, laid anew -/
theorem two_rfc {w : World} (x y : Fc) : RFcs (w.alloc (.cells (cellsC x ++ cellsC y).toArray 35)) (.slice (some ⟨w.heap.size, 0, none⟩) 2 2) [x, y] := by
  have h := rsl_new (w := w) (size := 6) (n := 2) (cs := cellsC x ++ cellsC y) (e := 35) rfl (by decide)
  unfold RFcs flatC
  exact h
theorem zeroF_fokS : fokS zeroF := by
  refine ⟨⟨⟨by decide, by decide⟩, by decide⟩, by decide, ?_⟩
  intro e he
  exact absurd he (by simp [zeroF])
theorem norm_fokS {f : Fd} (h : fokS f) : fokS (normF f) := by
  unfold normF
  split
  · exact fokS_coll h
  · exact zeroF_fokS
theorem norm1_fokS {f : Fd} (h : fokS f) : ∀ y ∈ normA [f], fokS y := by
  intro y hy
  unfold normA at hy
  split at hy
  · rw [List.map_cons, List.map_nil, canonF_one, List.mem_singleton] at hy
    rw [hy]
    exact fokS_coll h
  · simp at hy
theorem withE_fokS {f : Fd} {l : List Ent} (h : fokS f) (hl : l.length ≤ f.ents.length) (hm : ∀ e ∈ l, e ∈ f.ents) : fokS (withE f l) :=
  ⟨h.1, Nat.le_trans hl h.2.1, fun e he => h.2.2 e (hm e he)⟩
end Go.Proofs.YtgecijhgonfldaaGreatDoor
/- Sizes of a normalized archive. No walk. -/
namespace Go.Proofs.YtgecijhgonfldaaGreatDoor
open Go Go.RowKit
set_option linter.unusedVariables false

theorem small_path {f : Fd} (h : bigF f ≤ 5000) : f.path.length ≤ 5000 := by
  have h' : bigH f + bigP f.path + bigEs f.ents ≤ 5000 := h
  have hp := bigP_small (l := f.path) (by omega)
  omega
theorem allE_small2 (l : List Fc) (h : bigL (l.map Fc.f) ≤ 5000) : allE l ≤ 1000000 := by
  have h1 := small_allE l
  have h2 := allE_len l (l.map Fc.f) rfl
  unfold allEn at h1
  rw [h2]
  omega
theorem small_all {l : List Fc} (hw : ∀ x ∈ l, fwide x.f) (h : bigL (l.map Fc.f) ≤ 5000) : ∀ x ∈ l, fokS x.f ∧ x.f.path.length ≤ 1000000 := fun x hx =>
  ⟨bigL_fokS hw h x hx, by have := small_path (f := x.f) (Nat.le_trans (bigF_mem (List.mem_map.2 ⟨x, hx, rfl⟩)) h); omega⟩
theorem normA_fokS {l : List Fc} (hk : ∀ x ∈ l, fokS x.f ∧ x.f.path.length ≤ 1000000) (hen : allE l ≤ 1000000) : ∀ y ∈ normA (l.map Fc.f), fokS y := by
  intro y hy
  unfold normA at hy
  split at hy
  · have h1 := canonF_hok (l := (l.map Fc.f).map collF) (fun z hz => by
      obtain ⟨q, hq, rfl⟩ := List.mem_map.1 hz
      obtain ⟨x, hx, rfl⟩ := List.mem_map.1 hq
      exact collF_hok (hk x hx).1 (hk x hx).2) y hy
    refine ⟨h1.1.1, ?_, h1.2⟩
    have h2 : y.ents.length ≤ sumE (ordF.canon ((l.map Fc.f).map collF)) := mem_sum (List.mem_map.2 ⟨y, hy, rfl⟩)
    have h3 := canonF_sum ((l.map Fc.f).map collF)
    have h4 : sumE ((l.map Fc.f).map collF) ≤ allE l := by rw [List.map_map]; exact sumE_coll l
    omega
  · simp at hy
theorem normA_len (L : List Fd) : (normA L).length ≤ L.length := by
  unfold normA
  split
  · have h := canon_len ordF (L.map collF)
    rwa [List.length_map] at h
  · simp
theorem okA_normA (L : List Fd) : okA (normA L) = true := by
  unfold normA
  split
  · rename_i h; exact okA_norm h
  · rfl
end Go.Proofs.YtgecijhgonfldaaGreatDoor
