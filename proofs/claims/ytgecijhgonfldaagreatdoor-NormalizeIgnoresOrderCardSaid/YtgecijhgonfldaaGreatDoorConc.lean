/- Contracts: slices.Reverse, Grow (of nil) and Concat at feeds. -/
import Derived.Test.YtgecijhgonfldaaGreatDoorM32
import Derived.Test.YtgecijhgonfldaaGreatDoorM33
import Derived.Lib.AppendZerosOnto
import Derived.Lib.SliceRun
namespace Go.Proofs.YtgecijhgonfldaaGreatDoor
open Go Go.RowKit Go.Sort
set_option linter.unusedVariables false

instance : Inhabited {x : Fc // slC x} := ⟨⟨⟨.slice none 0 0, .slice none 0 0, zeroF⟩, ⟨⟨_, _, _, rfl⟩, ⟨_, _, _, rfl⟩⟩⟩⟩
theorem flatC_ones {l : List Fc} (h : ∀ x ∈ l, slC x) : ∀ u ∈ flatC l, u.oneCell' = true := by
  intro u hu
  unfold flatC at hu
  obtain ⟨c, hc, hu⟩ := List.mem_flatten.1 hu
  obtain ⟨x, hx, rfl⟩ := List.mem_map.1 hc
  exact cellsC_one (h x hx) u hu
theorem grow_none (w : World) : grow w #[] = w := by
  unfold grow
  simp
/-- a row of the call's own, turned -/
theorem reverse_any (v : Value) (l : List Fc) (w : World) (B : Nat) (h : OFcs w B v l) (hs : ∀ x ∈ l, slC x) (hn : l.length ≤ 1000000) :
    Calls Tryz.prog 30 #[v] w fun e w' => e = .returned (.tuple #[]) ∧ OFcs w' B v l.reverse ∧ w.grownBy w' v.ownBlock := by
  rcases Nat.eq_zero_or_pos l.length with h0 | h0
  · have hl : l = [] := List.eq_nil_of_length_eq_zero h0
    subst hl
    obtain ⟨A, c, rfl, _, _⟩ := h.reads.form
    refine (Tryz.slices_Reverse_empty (α := Fc) A c w).mono ?_
    rintro e w' ⟨rfl, rfl⟩
    exact ⟨rfl, h, World.grownBy.refl _ _⟩
  · obtain ⟨g, cap, rfl, hb, hg⟩ := World.ownsRow.form h h0
    obtain ⟨L, hL⟩ : ∃ L : List {x : Fc // slC x}, L.map Subtype.val = l := ⟨l.attachWith _ hs, by simp⟩
    have hll : L.length = l.length := by rw [← hL, List.length_map]
    let enc : {x : Fc // slC x} → List Value := fun s => cellsC s.1
    have hme : ∀ M : List {x : Fc // slC x}, (M.map enc).flatten = flatC (M.map Subtype.val) := fun M => by unfold flatC; rw [List.map_map]; rfl
    have h' : w.ownsRow B 35 6 (.slice (some ⟨g, 0, none⟩) L.toArray.size cap) L.toArray.size (L.toArray.toList.map enc).flatten := by
      rw [List.toList_toArray, hme, hL, List.size_toArray, hll]
      exact h
    have hc := Tryz.slices_Reverse 6 isAggF sizeF enc (fun _ => rfl) (fun s => cellsC_one s.2) g 0 cap L.toArray w (holds_of_own enc 6 (fun _ => rfl) h') (by rw [List.size_toArray, hll]; omega)
    rw [List.size_toArray, hll] at hc
    refine hc.mono ?_
    rintro e w' ⟨rfl, n, rfl⟩
    have ho := own_of_sort enc 6 (fun _ => rfl) (m := n) (os := #[]) h' (d' := L.toArray.reverse) (by simp)
    have he : sortWorldK enc 6 w g 0 n L.toArray.reverse #[] = putRowK enc 6 (Sort.ahead w n) g 0 L.toArray.reverse := by
      unfold sortWorldK
      rw [grow_none]
    rw [he] at ho
    refine ⟨rfl, ?_, ho.2⟩
    unfold OFcs
    have h2 := ho.1
    rw [hme, List.size_toArray, hll] at h2
    rw [List.length_reverse]
    rw [show (L.toArray.reverse.toList.map Subtype.val) = l.reverse by rw [← hL]; simp] at h2
    exact h2
set_option maxRecDepth 100000 in
set_option maxHeartbeats 4000000 in
theorem grow_any (n : Nat) (w : World) (hn : n ≤ 1000000) :
    Calls Tryz.prog 64 #[.slice none 0 0, .int .i64 n] w fun e w' => ∃ (gA : Option Addr) (gc : Nat), e = .returned (.slice gA 0 gc) ∧ OFcs w' w.heap.size (.slice gA 0 gc) [] ∧ Ext w w' := by
  obtain ⟨i0, hi0, hz0, hz1, hz2⟩ := info_parts info_feed
  rcases Nat.eq_zero_or_pos n with h0 | h0
  · subst h0
    go_enter Tryz.func64, Tryz.ntmps64
    go_wp2
    go_ret
    exact ⟨none, 0, rfl, OFcs.nil _ _, Ext.refl _⟩
  · obtain ⟨G, hG⟩ : ∃ G, G = grownCap w n 0 35 := ⟨_, rfl⟩
    have hGn : n ≤ G := by rw [hG]; exact grownCap_ge w _ _ _
    have hGm : G ≤ maxLen := by rw [hG]; exact grownCap_le_maxLen w _ _ _ (by unfold maxLen; omega)
    have hrz : ∀ ty, (Builtin.append_ #[37, 3] ty #[.slice none 0 0, .int .i64 (n : Int)]).run Tryz.prog w =
        .ok (.slice (some ⟨w.heap.size, 0, none⟩) n G) (w.drew.alloc (.cells ((([] : List Value).toArray ++ Builtin.zeroCells (Value.agg #[.slice none 0 0, .string ⟨#[]⟩, .string ⟨#[]⟩, .string ⟨#[]⟩, .int .i64 0, .slice none 0 0]).cells n ++ Builtin.zeroCells (Value.agg #[.slice none 0 0, .string ⟨#[]⟩, .string ⟨#[]⟩, .string ⟨#[]⟩, .int .i64 0, .slice none 0 0]).cells (G - n))) 35)) := fun ty => by
      have h := Lib.run_append_grow_zeros w 37 3 ty 35 i0 _ .i64 .i64 Tryz.underlying37 Tryz.underlying3 hi0 hz0 none 0 0 [] (run_firstCells_none w.drew i0.size 0 0 0) n h0 (by omega) (by omega) (by omega)
        (by rw [hz2]; omega) (by rw [hz2, Nat.zero_add]; exact growslice_fits h0 (by omega))
      rw [Nat.zero_add, ← hG] at h
      exact h
    have hsl1 : ∀ wx : World, (Instr.slice 37 (.slice none 0 0) none (some (.int .i64 0)) none).run Tryz.prog wx = .ok (.slice none 0 0) wx := fun wx => by
      rw [run_slice_h (P := Tryz.prog) (w := wx) 37 none 0 0 rowSliceF .i64 0 (by omega) (by omega), rowSizeF]
      rfl
    have hsl2 : ∀ wx : World, (Instr.slice 37 (.slice (some ⟨w.heap.size, 0, none⟩) n G) none (some (.int .i64 0)) none).run Tryz.prog wx = .ok (.slice (some ⟨w.heap.size, 0, none⟩) 0 G) wx := fun wx => by
      rw [run_slice_h (P := Tryz.prog) (w := wx) 37 (some ⟨w.heap.size, 0, none⟩) n G rowSliceF .i64 0 (by omega) (by omega), rowSizeF]
      show Result.ok (sliced (some ⟨w.heap.size, 0, none⟩) 0 0 G 6) wx = _
      unfold sliced
      have : G ≠ 0 := by omega
      rw [if_neg this]
      rfl
    have hZ : (((([] : List Value).toArray ++ Builtin.zeroCells (Value.agg #[.slice none 0 0, .string ⟨#[]⟩, .string ⟨#[]⟩, .string ⟨#[]⟩, .int .i64 0, .slice none 0 0]).cells n ++ Builtin.zeroCells (Value.agg #[.slice none 0 0, .string ⟨#[]⟩, .string ⟨#[]⟩, .string ⟨#[]⟩, .int .i64 0, .slice none 0 0]).cells (G - n)))).size = G * 6 := by
      simp only [Array.size_append, List.size_toArray, List.length_nil, size_zeroCells]
      show 0 + n * 6 + (G - n) * 6 = G * 6
      omega
    obtain ⟨Z, hZe⟩ : ∃ Z, ((([] : List Value).toArray ++ Builtin.zeroCells (Value.agg #[.slice none 0 0, .string ⟨#[]⟩, .string ⟨#[]⟩, .string ⟨#[]⟩, .int .i64 0, .slice none 0 0]).cells n ++ Builtin.zeroCells (Value.agg #[.slice none 0 0, .string ⟨#[]⟩, .string ⟨#[]⟩, .string ⟨#[]⟩, .int .i64 0, .slice none 0 0]).cells (G - n))) = Z := ⟨_, rfl⟩
    simp only [hZe] at hrz
    rw [hZe] at hZ
    have HRZ := Lib.hid hrz
    have HGM := Lib.hid hGm
    have HZ := Lib.hid hZ
    have hn0 : (0 : Int) < (n : Int) := by omega
    clear hrz hZe hZ hG hGm hi0 hz0 hz1 hz2
    go_enter Tryz.func64, Tryz.ntmps64
    go_wp2_with (at_builtin; refine Lib.wpList_append_run _ rfl _ _ _ _ rfl _ _ rfl rfl _ _ (HRZ.out _) ?_)
    go_ret
    exact ⟨some ⟨w.heap.size, 0, none⟩, G, rfl, ⟨rfl, .inr ⟨w.heap.size, G, Z, rfl, Nat.le_refl _, heap_alloc_new w.drew _, Nat.zero_le _, HGM.out, HZ.out, by simp [flatC]⟩⟩, (Ext.refl w).drew.alloc _⟩
def lensP (L : List (Value × List Fc)) : Nat := (L.map fun p => p.2.length).sum
def catP (L : List (Value × List Fc)) : List Fc := (L.map Prod.snd).flatten
theorem lensP_snoc (L : List (Value × List Fc)) (p : Value × List Fc) : lensP (L ++ [p]) = lensP L + p.2.length := by unfold lensP; simp
theorem catP_snoc (L : List (Value × List Fc)) (p : Value × List Fc) : catP (L ++ [p]) = catP L ++ p.2 := by unfold catP; simp
theorem catP_len (L : List (Value × List Fc)) : (catP L).length = lensP L := by unfold catP lensP; rw [List.length_flatten, List.map_map]; rfl
theorem lensP_take (L : List (Value × List Fc)) (k : Nat) : lensP (L.take k) ≤ lensP L := by
  have h : lensP L = lensP (L.take k) + lensP (L.drop k) := by unfold lensP; rw [← List.sum_append, ← List.map_append, List.take_append_drop]
  omega
set_option maxRecDepth 100000 in
set_option maxHeartbeats 4000000 in
theorem concat_any (v : Value) (L : List (Value × List Fc)) (w : World) (hv : RSl w 1 v L.length (L.map Prod.fst)) (hp : ∀ p ∈ L, RFcs w p.1 p.2 ∧ ∀ x ∈ p.2, slC x) (hn : L.length ≤ 1000) (ht : lensP L ≤ 1000000) :
    Calls Tryz.prog 31 #[v] w fun e w' => ∃ v', e = .returned v' ∧ OFcs w' w.heap.size v' (catP L) ∧ Ext w w' := by
  obtain ⟨i0, hi0, hz0, hz1, hz2⟩ := info_parts info_feed
  obtain ⟨A, c, rfl⟩ : ∃ A c, v = .slice A L.length c := by obtain ⟨_, A, c, e, _⟩ := hv; exact ⟨A, c, e⟩
  have HV := Lib.hid hv
  have HP := Lib.hid hp
  have HT := Lib.hid (fun k => Nat.le_trans (lensP_take L k) ht)
  clear hp hv ht
  go_enter Tryz.func31, Tryz.ntmps31
  go_wp2
  go_loop [3, 11] (fun s i => ∃ k n : Nat, k ≤ L.length ∧ i = .int .i64 k ∧ s = .int .i64 n ∧ n ≤ 1000000 ∧ Hid (n = lensP (L.take k))) (fun _ i => L.length - (intOf i).toNat)
  case atStart => exact ⟨0, 0, Nat.zero_le _, rfl, rfl, Nat.zero_le _, Lib.hid rfl⟩
  case round =>
    obtain ⟨k, n, hk, rfl, rfl, hn6, hnk⟩ := hrel
    by_cases hlt : k < L.length
    · have hgk : (L.map Prod.fst)[k]? = some L[k].1 := by rw [List.getElem?_map, List.getElem?_eq_getElem hlt]; rfl
      obtain ⟨ad, e1, hc⟩ := RSl.at1 HV.out k _ hgk
      subst e1
      have htk := List.take_succ_eq_append_getElem hlt
      have hpk := HP.out _ (List.getElem_mem hlt)
      have hs := lensP_snoc (L.take k) L[k]
      rw [← htk, ← hnk.out] at hs
      have h6 := HT.out (k + 1)
      obtain ⟨pA, pc, hpf, -, -⟩ := hpk.1.form
      rw [hpf] at hc
      obtain ⟨m, hm⟩ : ∃ m, L[k].2.length = m := ⟨_, rfl⟩
      rw [hm] at hc hs
      have hq : n + m ≤ 1000000 := by omega
      have HS := Lib.hid hs
      have hi0' : (0 : Int) ≤ (k : Int) := by omega
      have hi1 : (k : Int) < (L.length : Int) := by omega
      clear hm hpf hs h6 htk hgk hpk
      go_wp2
      go_round
      case rel => exact ⟨k + 1, n + m, hlt, by go_num, by go_num, hq, Lib.hid HS.out.symm⟩
      case measure => simp [intOf]; omega
    · have hke : k = L.length := by omega
      subst hke
      have HNK := Lib.hid hnk.out
      clear hnk
      have HG := Lib.hid (grow_any n w hn6)
      go_wp2_with (first | (go_at_call 64; (have hz := HG.out); (with_reducible refine Calls.mono hz ?_); clear hz; rintro e w1 ⟨gA, gc, rfl, hown, hx1⟩))
      go_loopw [6, 27] (fun u i wr => ∃ (k : Nat) (uA : Option Addr) (uc : Nat), u = .slice uA (catP (L.take k)).length uc ∧ k ≤ L.length ∧ i = .int .i64 k ∧ OFcs wr w.heap.size u (catP (L.take k)) ∧ Ext w wr) (fun _ i _ => L.length - (intOf i).toNat)
      case atStart => exact ⟨0, gA, gc, rfl, Nat.zero_le _, rfl, hown, hx1⟩
      case round =>
        obtain ⟨k, uA, uc, rfl, hk, rfl, hownr, hxr⟩ := hrel
        by_cases hlt : k < L.length
        · have hgk : (L.map Prod.fst)[k]? = some L[k].1 := by rw [List.getElem?_map, List.getElem?_eq_getElem hlt]; rfl
          obtain ⟨ad, e1, hc⟩ := RSl.at1 (HV.out.ext hxr) k _ hgk
          subst e1
          have htk := List.take_succ_eq_append_getElem hlt
          have hpk := HP.out _ (List.getElem_mem hlt)
          have hs := catP_snoc (L.take k) L[k]
          rw [← htk] at hs
          have h6 := HT.out (k + 1)
          rw [← catP_len, hs, List.length_append] at h6
          obtain ⟨pA, pc, hpf, -, -⟩ := hpk.1.form
          rw [hpf] at hc
          obtain ⟨P, hP⟩ : ∃ P, L[k].2 = P := ⟨_, rfl⟩
          rw [hP] at hc hs h6 hpk hpf
          rw [hpf] at hpk
          obtain ⟨O, hO⟩ : ∃ O, catP (L.take k) = O := ⟨_, rfl⟩
          rw [hO] at hs h6 hownr
          simp only [hO]
          have HS := Lib.hid hs
          have HOW := Lib.hid hownr
          have HPK := Lib.hid hpk
          have HML : Hid (O.length + P.length ≤ maxLen) := Lib.hid (by unfold maxLen; omega)
          have HBY : Hid ((O.length + P.length) * 104 ≤ 140737488355328) := Lib.hid (by omega)
          have hws := hxr.size
          have hi0' : (0 : Int) ≤ (k : Int) := by omega
          have hi1 : (k : Int) < (L.length : Int) := by omega
          clear hP hpf hs h6 htk hgk hpk hO hownr
          go_wp2_with (first | (at_builtin; refine wpList_append_rsl _ rfl (.tmp 31) (.tmp 32) _ rfl w.heap.size 35 i0 _ 6 104 Tryz.underlying37 hi0 hz0 hz1 hz2 rfl (by decide) _ O.length (flatC O) rfl HOW.out _ P.length (flatC P) rfl (HPK.out.1.ext hxr) (flatC_ones HPK.out.2) HML.out HBY.out hws ?_; intro v3 w3 hown3 hg3 hat3; (have hx3 : Ext w w3 := Ext.app hxr hg3 HOW.out (Nat.le_refl _)); (obtain ⟨o3A, o3c, ho3, -, -⟩ := (RSl.of_own hown3).2); subst ho3))
          go_roundw
          case rel =>
            have hl : (catP (L.take (k + 1))).length = O.length + P.length := by rw [HS.out, List.length_append]
            refine ⟨k + 1, o3A, o3c, by rw [hl], hlt, by go_num, ?_, hx3⟩
            unfold OFcs
            rw [hl, HS.out, flatC_app]
            exact hown3
          case measure => simp [intOf]; omega
        · have hke : k = L.length := by omega
          subst hke
          have htl : L.take L.length = L := List.take_of_length_le (Nat.le_refl _)
          rw [htl] at hownr ⊢
          go_wp2
          go_ret
          exact ⟨_, rfl, hownr, hxr⟩
end Go.Proofs.YtgecijhgonfldaaGreatDoor
