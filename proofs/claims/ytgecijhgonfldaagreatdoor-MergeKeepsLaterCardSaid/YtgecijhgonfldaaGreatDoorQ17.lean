/- Parts of the proof: contracts and plain laws that the statement needs. -/
import Derived.Test.YtgecijhgonfldaaGreatDoorQ13
namespace Go.Proofs.YtgecijhgonfldaaGreatDoor
open Go Go.RowKit
set_option linter.unusedVariables false
theorem pathCmp_drop {a b : List ByteArray} {k : Nat} (ha : k < a.length) (hb : k < b.length) : pathCmp (a.drop k) (b.drop k) = if sCmp a[k] b[k] = 0 then pathCmp (a.drop (k + 1)) (b.drop (k + 1)) else sCmp a[k] b[k] := by
  rw [List.drop_eq_getElem_cons ha, List.drop_eq_getElem_cons hb]
  rfl
theorem RStrs.at {w : World} {v : Value} {l : List ByteArray} (h : RStrs w v l) {k : Nat} (hk : k < l.length) : ∃ ad c, v = .slice (some ad) l.length c ∧ w.cell? (ad.add k) = some (.string l[k]) := by
  obtain ⟨_, A, c, e, _, _, _, h5⟩ := h
  obtain ⟨ad, rfl, hc⟩ := h5 k (.string l[k]) (by rw [List.getElem?_map, List.getElem?_eq_getElem hk]; rfl)
  exact ⟨ad, c, e, hc⟩
theorem sCmp_self (a : ByteArray) : sCmp a a = 0 := sCmp_is.self a
set_option maxRecDepth 100000 in
set_option maxHeartbeats 2000000 in
theorem refCmpP_any (u v : Value) (a b : List ByteArray) (w : World) (ha : RStrs w u a) (hb : RStrs w v b) (hn : a.length ≤ 16777216) :
    Calls Tryz.prog 54 #[u, v] w fun e w' => e = .returned (.int .i64 (pathCmp a b)) ∧ Ext w w' := by
  obtain ⟨A, c, rfl, hac, hcm⟩ := ha.form
  obtain ⟨B, d, rfl, hbd, hdm⟩ := hb.form
  have HA : Hid (a.length ≤ maxLen) := Lib.hid (by omega)
  have HB : Hid (b.length ≤ maxLen) := Lib.hid (by omega)
  clear hac hcm hbd hdm
  go_enter Tryz.func54, Tryz.ntmps54
  go_wp2
  go_loopw [5] (fun i wr => ∃ k : Nat, k ≤ a.length ∧ k ≤ b.length ∧ i = .int .i64 k ∧ Hid (pathCmp a b = pathCmp (a.drop k) (b.drop k)) ∧ Ext w wr) (fun i _ => a.length - (intOf i).toNat)
  case atStart => exact ⟨0, Nat.zero_le _, Nat.zero_le _, rfl, Lib.hid rfl, Ext.refl _⟩
  case round =>
    obtain ⟨k, hka, hkb, rfl, hinv, hx⟩ := hrel
    by_cases hla : k < a.length
    · by_cases hlb : k < b.length
      · have hpd := pathCmp_drop hla hlb
        obtain ⟨ad, c1, e1, hca⟩ := (ha.ext hx).at hla
        injection e1 with e1 e2 e3
        subst e1
        obtain ⟨bd, d1, e4, hcb⟩ := (hb.ext hx).at hlb
        injection e4 with e4 e5 e6
        subst e4
        clear e2 e3 e5 e6
        obtain ⟨x, hxx⟩ : ∃ x, a[k] = x := ⟨_, rfl⟩
        obtain ⟨y, hyy⟩ : ∃ y, b[k] = y := ⟨_, rfl⟩
        rw [hxx, hyy] at hpd
        rw [hxx] at hca
        rw [hyy] at hcb
        have HPD := Lib.hid hpd
        have HC := Lib.hid (fun w' => refCompare_any x y w')
        clear hpd hxx hyy
        have hi0 : (0 : Int) ≤ (k : Int) := by omega
        have hia : (k : Int) < (a.length : Int) := by omega
        have hib : (k : Int) < (b.length : Int) := by omega
        have f0 : ∀ d : Aft wr, d.w.cell? (ad.add k) = some (.string x) := Aft.cell hca
        have f1 : ∀ d : Aft wr, d.w.cell? (bd.add k) = some (.string y) := Aft.cell hcb
        cases hxy : (x.toList == y.toList) with
        | true =>
          have hxe : x = y := toList_inj (by simpa using hxy)
          have HXE := Lib.hid hxe
          clear hxe
          go_wp2
          refine wp_region_aft (by kernel_rfl) (by kernel_rfl) ?_
          repeat (first | go_big_quiet_step (fail) | quiet_step (fail))
          refine wpQuiet_nil ?_
          rintro _ ⟨d1, rfl⟩
          have hx1 := hx.trans d1.ext
          clear f0 f1
          go_wp2
          go_roundw
          case rel =>
            refine ⟨k + 1, by omega, by omega, by go_num, Lib.hid ?_, hx1⟩
            rw [hinv.out, HPD.out, HXE.out, if_pos (sCmp_self _)]
          case measure => simp [intOf]; omega
        | false =>
          have hxe : ¬ sCmp x y = 0 := by
            intro e
            have := sCmp_eq e
            rw [this] at hxy
            simp at hxy
          have HXE := Lib.hid hxe
          clear hxe
          go_wp2
          refine wp_region_aft (by kernel_rfl) (by kernel_rfl) ?_
          repeat (first | go_big_quiet_step (fail) | quiet_step (fail))
          refine wpQuiet_nil ?_
          rintro _ ⟨d1, rfl⟩
          have hx1 := hx.trans d1.ext
          have g0 : ∀ d : Aft d1.w, d.w.cell? (ad.add k) = some (.string x) := fun d => (d1.ext.trans d.ext).cell hca
          have g1 : ∀ d : Aft d1.w, d.w.cell? (bd.add k) = some (.string y) := fun d => (d1.ext.trans d.ext).cell hcb
          clear f0 f1
          go_wp2
          refine wp_region_aft (by kernel_rfl) (by kernel_rfl) ?_
          repeat (first | go_big_quiet_step ((go_at_call 83; with_reducible exact quiet_call_same' (HC.out _))) | quiet_step ((go_at_call 83; with_reducible exact quiet_call_same' (HC.out _))))
          refine wpQuiet_nil ?_
          rintro _ ⟨d2, rfl⟩
          have hx2 := hx1.trans d2.ext
          clear g0 g1
          go_wp2
          go_ret
          have hfin : pathCmp a b = sCmp x y := by rw [hinv.out, HPD.out, if_neg HXE.out]
          exact ⟨by rw [hfin]; rfl, hx2⟩
      · have hke : k = b.length := by omega
        subst hke
        have hfin : pathCmp a b = 1 := by rw [hinv.out, List.drop_of_length_le (Nat.le_refl _), List.drop_eq_getElem_cons hla]; rfl
        have HF := Lib.hid hfin
        clear hfin hinv
        have hib : ¬ (b.length : Int) < (b.length : Int) := by omega
        have hia : (b.length : Int) < (a.length : Int) := by omega
        have hai : ¬ (a.length : Int) < (b.length : Int) := by omega
        go_wp2
        go_ret
        exact ⟨by rw [HF.out]; rfl, hx⟩
    · have hke : k = a.length := by omega
      subst hke
      by_cases hlb : a.length < b.length
      · have hfin : pathCmp a b = -1 := by rw [hinv.out, List.drop_of_length_le (Nat.le_refl a.length), List.drop_eq_getElem_cons hlb]; rfl
        have HF := Lib.hid hfin
        clear hfin hinv
        have hib : (a.length : Int) < (b.length : Int) := by omega
        go_wp2
        go_ret
        exact ⟨by rw [HF.out]; rfl, hx⟩
      · have hle : b.length = a.length := by omega
        have hfin : pathCmp a b = 0 := by rw [hinv.out, List.drop_of_length_le (Nat.le_refl a.length), List.drop_of_length_le (by omega)]; rfl
        have HF := Lib.hid hfin
        clear hfin hinv
        have hib : ¬ (a.length : Int) < (b.length : Int) := by omega
        have hai : ¬ (b.length : Int) < (a.length : Int) := by omega
        go_wp2
        go_ret
        exact ⟨by rw [HF.out]; rfl, hx⟩
end Go.Proofs.YtgecijhgonfldaaGreatDoor
namespace Go.Proofs.YtgecijhgonfldaaGreatDoor
open Go Go.RowKit
set_option linter.unusedVariables false
set_option maxRecDepth 100000 in
set_option maxHeartbeats 1000000 in
theorem refCmpF_any (p q es fs : Value) (a b : Fd) (w : World) (ha : RStrs w p a.path) (hb : RStrs w q b.path) (hn : a.path.length ≤ 16777216) :
    Calls Tryz.prog 63 #[.agg (fCells p es a).toArray, .agg (fCells q fs b).toArray] w fun e w' => e = .returned (.int .i64 (feedCmp a b)) ∧ Ext w w' := by
  have HP := Lib.hid (fun (w' : World) (h : Ext w w') => refCmpP_any p q a.path b.path w' (ha.ext h) (hb.ext h) hn)
  have HC := Lib.hid (fun w' => refCompare_any a.id b.id w')
  have hfin : feedCmp a b = if pathCmp a.path b.path = 0 then sCmp a.id b.id else pathCmp a.path b.path := rfl
  obtain ⟨c, hc⟩ : ∃ c, pathCmp a.path b.path = c := ⟨_, rfl⟩
  rw [hc] at HP hfin
  rw [hfin]
  clear hc hfin
  unfold fCells
  go_enter Tryz.func63, Tryz.ntmps63
  go_wp2_with (first
    | (go_at_call 54; refine (HP.out _ (((Ext.refl _).alloc _).alloc _)).mono ?_; rintro e w1 ⟨rfl, hx1⟩; (have s0 : w1.cell? ⟨w.heap.size, 1, none⟩ = some (.string a.id) := (((Ext.refl _).alloc _).trans hx1).boxed 1 _ rfl); (have s1 : w1.cell? ⟨w.heap.size + 1, 1, none⟩ = some (.string b.id) := by have := hx1.boxed 1 _ rfl; simpa using this))
    | (go_at_call 83; refine (HC.out _).mono ?_; rintro e w2 ⟨rfl, rfl⟩))
  all_goals go_ret
  all_goals exact ⟨by simp_all, (((Ext.refl _).alloc _).alloc _).trans hx1⟩
end Go.Proofs.YtgecijhgonfldaaGreatDoor
namespace Go.Proofs.YtgecijhgonfldaaGreatDoor
open Go Go.RowKit
set_option linter.unusedVariables false
theorem strs_rvs {w : World} {B : Nat} {v : Value} {l : List ByteArray} (h : w.ownsRow B 146 7 v l.length (l.map strCells).flatten) : RVs w v (l.map .str) (l.map strCells) := by
  refine ⟨by simp, by have := RSl.of_own h; rwa [List.length_map], 1, fun i j c hj hc => ?_⟩
  rw [List.getElem?_map] at hj hc
  cases hl : l[i]? with
  | none => rw [hl] at hj; cases hj
  | some s =>
    rw [hl] at hj hc
    cases hj
    cases hc
    exact strCells_rvn _ _
theorem key_rvs {w : World} {v : Value} {B : Nat} {ps : List JV} {cs : List Value} {a b c : ByteArray} {t : Int} (h : RV w (.arr ps) cs)
    (hown : w.ownsRow B 146 7 v 5 ((cs ++ ([a, b, c].map strCells).flatten) ++ intCells t)) :
    RVs w v [.arr ps, .str a, .str b, .str c, .int t] [cs, strCells a, strCells b, strCells c, intCells t] := by
  obtain ⟨n, h⟩ := h
  cases n with
  | zero => exact h.elim
  | succ n =>
    refine ⟨rfl, ?_, n + 1, fun i j c hj hc => ?_⟩
    · have := RSl.of_own hown
      simpa using this
    · match i with
      | 0 => simp at hj hc; subst hj hc; exact h
      | 1 | 2 | 3 => simp at hj hc; subst hj hc; exact ⟨0, rfl⟩
      | 4 => simp at hj hc; subst hj hc; exact ⟨0, rfl⟩
      | i + 5 => simp at hj
theorem heap_alloc2_new (w : World) (A B : Obj) : ((w.alloc A).alloc B).heap[w.heap.size + 1]? = some B := by
  have := heap_alloc_new (w.alloc A) B
  rwa [show (w.alloc A).heap.size = w.heap.size + 1 by show (w.heap.push A).size = _; simp] at this
theorem own_lit1 {w2 w3 : World} {O : Obj} {cs : List Value} (h7 : cs.length = 7) (hx : Ext ((w2.alloc (.cells cs.toArray 146)).alloc O) w3) :
    w3.ownsRow w2.heap.size 146 7 (.slice (some ⟨w2.heap.size, 0, none⟩) 1 1) 1 cs :=
  own_ext (own_ext (own_new (w := w2) (base := w2.heap.size) (e := 146) (size := 7) (n := 1) (cs := cs) (Nat.le_refl _) (by omega) (by decide)) ((Ext.refl _).alloc O)) hx
theorem own_lit2 {w2 w3 : World} {O : Obj} {cs : List Value} (h7 : cs.length = 7) (hx : Ext ((w2.alloc O).alloc (.cells cs.toArray 146)) w3) :
    w3.ownsRow w2.heap.size 146 7 (.slice (some ⟨w2.heap.size + 1, 0, none⟩) 1 1) 1 cs := by
  have hs : (w2.alloc O).heap.size = w2.heap.size + 1 := by show (w2.heap.push O).size = _; simp
  have := own_ext (own_new (w := w2.alloc O) (base := w2.heap.size) (e := 146) (size := 7) (n := 1) (cs := cs) (by omega) (by omega) (by decide)) hx
  rwa [hs] at this
theorem heap_alloc2_old (w : World) (A B : Obj) : ((w.alloc A).alloc B).heap[w.heap.size]? = some A := ((Ext.refl (w.alloc A)).alloc B).heap (heap_alloc_new w A)
theorem own_lit3 {w2 w3 : World} {cs : List Value} (h7 : cs.length = 7) (hx : Ext (w2.alloc (.cells cs.toArray 146)) w3) :
    w3.ownsRow w2.heap.size 146 7 (.slice (some ⟨w2.heap.size, 0, none⟩) 1 1) 1 cs :=
  own_ext (own_new (w := w2) (base := w2.heap.size) (e := 146) (size := 7) (n := 1) (cs := cs) (Nat.le_refl _) (by omega) (by decide)) hx
theorem own_lit4 {w2 w3 : World} {cs : List Value} (h7 : cs.length = 7) (hs : w2.heap.size ≤ w3.heap.size) :
    (w3.alloc (.cells cs.toArray 146)).ownsRow w2.heap.size 146 7 (.slice (some ⟨w3.heap.size, 0, none⟩) 1 1) 1 cs :=
  own_new (w := w3) (base := w2.heap.size) (e := 146) (size := 7) (n := 1) (cs := cs) hs (by omega) (by decide)
theorem strs_one (l : List ByteArray) : ∀ u ∈ (l.map strCells).flatten, u.oneCell' = true :=
  flat_one fun c hc => by
    obtain ⟨s, _, rfl⟩ := List.mem_map.1 hc
    exact vcells_one
attribute [local go_sem ↓] Go.wp_at_zero Go.wp_at_succ
set_option maxRecDepth 100000 in
set_option maxHeartbeats 8000000 in
theorem feedKey_any (p es : Value) (f : Fd) (w : World) (hE : Env w) (hok : fok f) (hp : RStrs w p f.path) :
    Calls Tryz.prog 86 #[.agg (fCells p es f).toArray] w fun x w' => x = .returned (.string (feedKey f)) ∧ Ext w w' := by
  obtain ⟨i0, hi0, hz0, hz1, hz2⟩ := info_parts_val
  have HFK : Hid (feedKey f = (jwrite (feedJ f)).1) := Lib.hid rfl
  obtain ⟨path, id, title, link, upd, ents⟩ := f
  have HP := Lib.hid (fun (w' : World) (h : Ext w w') => stringValues_any p path w' (hp.ext h) (by have := hok.2; simp at this; omega))
  have HS := Lib.hid (fun (w' : World) (v : Value) (h : RSl w' 1 v 3 [.string id, .string title, .string link]) => stringValues_any v [id, title, link] w' h (by show 3 * 96 ≤ 1407374883553; decide))
  have hjw := fun w' cs h => jwrite_any (feedJ ⟨path, id, title, link, upd, ents⟩) cs w' h
  have HJW := Lib.hid (fun w' cs h hE' => hjw w' cs h (feedJ_ok _ hok) hE' (feedJ_len _ hok))
  have hpl : path.length ≤ 16777216 := by have := hok.2; simp at this; omega
  have HPL : Hid (path.length * 96 ≤ 140737488355328) := Lib.hid (by omega)
  have HOK := Lib.hid hok
  have HPP := Lib.hid hp
  have HEE := Lib.hid hE
  clear hjw hpl hok hp hE
  unfold fCells
  dsimp only
  have HP1 := Lib.hid (HP.out ((w.alloc (.cells #[p, .string id, .string title, .string link, .int .i64 upd, es] 35)).drew) ((Ext.refl w).alloc _).drew)
  go_enter Tryz.func86, Tryz.ntmps86
  go_wp2
  go_region_held3 (fun w' => Ext w w' ∧ w'.cell? ⟨w.heap.size, 0, none⟩ = some p ∧ w'.cell? ⟨w.heap.size, 1, none⟩ = some (.string id) ∧ w'.cell? ⟨w.heap.size, 2, none⟩ = some (.string title) ∧ w'.cell? ⟨w.heap.size, 3, none⟩ = some (.string link) ∧ w'.cell? ⟨w.heap.size, 4, none⟩ = some (.int .i64 upd))
    ((go_split_ands; refine ⟨?_, ?_, ?_, ?_, ?_, ?_⟩ <;> first | assumption | ((repeat (first | exact Ext.refl _ | assumption | apply Ext.drew | apply Ext.alloc)); done) | ((refine Ext.trans ?_ (by assumption)); (repeat (first | exact Ext.refl _ | assumption | apply Ext.drew | apply Ext.alloc)); done) | ((refine Ext.cell (by assumption) ?_); first | assumption | (go_keep; done)) | (go_keep; done)))
    (first
      | (go_at_call 111; (with_reducible refine Calls.mono (HP.out _ ?_) ?_); (focus ((repeat (first | exact Ext.refl _ | assumption | exact And.left (by assumption) | apply Ext.drew | apply Ext.alloc)); done)); rintro e w1 ⟨v1, rfl, hown1, hx1⟩; (have HX1 := Lib.hid hx1))
      | (go_at_call 110; (first | refine (jArray_any _ _ _ _ (strs_rvs hown1) (by rw [List.length_map]; exact HPL.out)).mono ?_ | refine (jArray_any _ _ _ _ (strs_rvs (own_ext hown1 ((Ext.refl _).alloc _))) (by rw [List.length_map]; exact HPL.out)).mono ?_); rintro e w2 ⟨cs2, rfl, hrv2, hx2⟩; (obtain ⟨n2, hn2⟩ := hrv2); (obtain ⟨x0, x1, x2, x3, x4, x5, x6, x7, hcs2⟩ := hn2.shape); subst hcs2; (have HRV := Lib.hid (show RV _ _ _ from ⟨n2, hn2⟩)); clear hn2; (have HO1 := Lib.hid hown1); clear hown1; (first | (have HX2 := Lib.hid (HX1.out.trans hx2)) | (have HX2 := Lib.hid (HX1.out.trans (((Ext.refl w1).alloc _).trans hx2)))))
      | (go_at_call 111; (have htok := HRV); (with_reducible refine Calls.mono (HS.out _ _ ?_) ?_); (focus (exact rsl_block (e := 9) (fr := (0, 0)) (cs := [.string id, .string title, .string link]) (by first | exact heap_alloc_new _ _ | exact heap_alloc2_new _ _ _ | exact heap_alloc2_old _ _ _ | exact hx2.heap (heap_alloc_new _ _) | exact (hx2.alloc _).heap (heap_alloc_new _ _) | exact (hx1.trans hx2).heap (heap_alloc_new _ _) | exact ((hx1.trans hx2).alloc _).heap (heap_alloc_new _ _) | exact (hx1.trans hx2).heap (heap_alloc2_new _ _ _) | exact ((hx1.trans hx2).alloc _).heap (heap_alloc2_new _ _ _)) rfl (by decide))); rintro e w3 ⟨v3, rfl, hown3, hx3⟩)
      | ((have HOWN2 := Lib.hid (own_lit1 (cs := [.int .i64 x0, .bool x1, .int .i64 x2, .string x3, .slice x4 x5 x6, .slice none 0 0, .int .i64 x7]) rfl hx3)); refine step_append_rsl _ (by rfl) (.tmp 10) (.tmp 18) _ (by rfl) w2.heap.size 146 i0 _ 7 96 Tryz.underlying143 hi0 hz0 hz1 hz2 rfl (by decide) _ 1 [.int .i64 x0, .bool x1, .int .i64 x2, .string x3, .slice x4 x5 x6, .slice none 0 0, .int .i64 x7] (by rfl) HOWN2.out v3 3 (([id, title, link].map strCells).flatten) (by rfl) (RSl.of_own hown3) (strs_one _) (by decide) (by decide) ((((Ext.refl w2).alloc _).alloc _).trans hx3).size ?_; intro v4 w4 hown4 hg4 hat4; (obtain ⟨g4, cap4, hv4, _⟩ := World.ownsRow.form hown4 (by decide)); subst hv4; (have HOWN4 := Lib.hid hown4); (have hx24 : Ext w2 w4 := Ext.app ((((Ext.refl w2).alloc _).alloc _).trans hx3) hg4 HOWN2.out (Nat.le_refl _)); (have HX24 := Lib.hid hx24); clear hown4 hg4 hat4; (have hxa := HX2.out.trans hx24); (have hxw4 : Ext w w4 := Ext.trans (by first | exact ((Ext.refl w).alloc _).drew | exact (((Ext.refl w).alloc _).drew.alloc _) | exact (((Ext.refl w).alloc _).alloc _).drew) hxa); (have HXW2 : Hid (Ext w w2) := Lib.hid (Ext.trans (by first | exact ((Ext.refl w).alloc _).drew | exact (((Ext.refl w).alloc _).drew.alloc _) | exact (((Ext.refl w).alloc _).alloc _).drew) HX2.out)); (have hxb := hxa); clear hxa hx24)
      | ((have HOWN2 := Lib.hid (own_lit2 (cs := [.int .i64 x0, .bool x1, .int .i64 x2, .string x3, .slice x4 x5 x6, .slice none 0 0, .int .i64 x7]) rfl hx3)); refine step_append_rsl _ (by rfl) (.tmp 10) (.tmp 18) _ (by rfl) w2.heap.size 146 i0 _ 7 96 Tryz.underlying143 hi0 hz0 hz1 hz2 rfl (by decide) _ 1 [.int .i64 x0, .bool x1, .int .i64 x2, .string x3, .slice x4 x5 x6, .slice none 0 0, .int .i64 x7] (by rfl) HOWN2.out v3 3 (([id, title, link].map strCells).flatten) (by rfl) (RSl.of_own hown3) (strs_one _) (by decide) (by decide) ((((Ext.refl w2).alloc _).alloc _).trans hx3).size ?_; intro v4 w4 hown4 hg4 hat4; (obtain ⟨g4, cap4, hv4, _⟩ := World.ownsRow.form hown4 (by decide)); subst hv4; (have HOWN4 := Lib.hid hown4); (have hx24 : Ext w2 w4 := Ext.app ((((Ext.refl w2).alloc _).alloc _).trans hx3) hg4 HOWN2.out (Nat.le_refl _)); (have HX24 := Lib.hid hx24); clear hown4 hg4 hat4; (have hxa := HX2.out.trans hx24); (have hxw4 : Ext w w4 := Ext.trans (by first | exact ((Ext.refl w).alloc _).drew | exact (((Ext.refl w).alloc _).drew.alloc _) | exact (((Ext.refl w).alloc _).alloc _).drew) hxa); (have HXW2 : Hid (Ext w w2) := Lib.hid (Ext.trans (by first | exact ((Ext.refl w).alloc _).drew | exact (((Ext.refl w).alloc _).drew.alloc _) | exact (((Ext.refl w).alloc _).alloc _).drew) HX2.out)); (have hxb := hxa); clear hxa hx24)
      | ((have HOWN2 := Lib.hid (own_lit3 (cs := [.int .i64 x0, .bool x1, .int .i64 x2, .string x3, .slice x4 x5 x6, .slice none 0 0, .int .i64 x7]) rfl hx3)); refine step_append_rsl _ (by rfl) (.tmp 10) (.tmp 18) _ (by rfl) w2.heap.size 146 i0 _ 7 96 Tryz.underlying143 hi0 hz0 hz1 hz2 rfl (by decide) _ 1 [.int .i64 x0, .bool x1, .int .i64 x2, .string x3, .slice x4 x5 x6, .slice none 0 0, .int .i64 x7] (by rfl) HOWN2.out v3 3 (([id, title, link].map strCells).flatten) (by rfl) (RSl.of_own hown3) (strs_one _) (by decide) (by decide) (((Ext.refl w2).alloc _).trans hx3).size ?_; intro v4 w4 hown4 hg4 hat4; (obtain ⟨g4, cap4, hv4, _⟩ := World.ownsRow.form hown4 (by decide)); subst hv4; (have HOWN4 := Lib.hid hown4); (have hx24 : Ext w2 w4 := Ext.app (((Ext.refl w2).alloc _).trans hx3) hg4 HOWN2.out (Nat.le_refl _)); (have HX24 := Lib.hid hx24); clear hown4 hg4 hat4; (have hxa := HX2.out.trans hx24); (have hxw4 : Ext w w4 := Ext.trans (by first | exact ((Ext.refl w).alloc _).drew | exact (((Ext.refl w).alloc _).drew.alloc _) | exact (((Ext.refl w).alloc _).alloc _).drew) hxa); (have HXW2 : Hid (Ext w w2) := Lib.hid (Ext.trans (by first | exact ((Ext.refl w).alloc _).drew | exact (((Ext.refl w).alloc _).drew.alloc _) | exact (((Ext.refl w).alloc _).alloc _).drew) HX2.out)); (have hxb := hxa); clear hxa hx24)
      | ((have HOWN2 := Lib.hid (own_lit4 (w2 := w2) (w3 := w3) (cs := [.int .i64 x0, .bool x1, .int .i64 x2, .string x3, .slice x4 x5 x6, .slice none 0 0, .int .i64 x7]) rfl (((Ext.refl w2).alloc _).trans hx3).size)); refine step_append_rsl _ (by rfl) (.tmp 10) (.tmp 18) _ (by rfl) w2.heap.size 146 i0 _ 7 96 Tryz.underlying143 hi0 hz0 hz1 hz2 rfl (by decide) _ 1 [.int .i64 x0, .bool x1, .int .i64 x2, .string x3, .slice x4 x5 x6, .slice none 0 0, .int .i64 x7] (by rfl) HOWN2.out v3 3 (([id, title, link].map strCells).flatten) (by rfl) (RSl.of_own (own_ext hown3 ((Ext.refl _).alloc _))) (strs_one _) (by decide) (by decide) ((((Ext.refl w2).alloc _).trans hx3).alloc _).size ?_; intro v4 w4 hown4 hg4 hat4; (obtain ⟨g4, cap4, hv4, _⟩ := World.ownsRow.form hown4 (by decide)); subst hv4; (have HOWN4 := Lib.hid hown4); (have hx24 : Ext w2 w4 := Ext.app ((((Ext.refl w2).alloc _).trans hx3).alloc _) hg4 HOWN2.out (Nat.le_refl _)); (have HX24 := Lib.hid hx24); clear hown4 hg4 hat4; (have hxa := HX2.out.trans hx24); (have hxw4 : Ext w w4 := Ext.trans (by first | exact ((Ext.refl w).alloc _).drew | exact (((Ext.refl w).alloc _).drew.alloc _) | exact (((Ext.refl w).alloc _).alloc _).drew) hxa); (have HXW2 : Hid (Ext w w2) := Lib.hid (Ext.trans (by first | exact ((Ext.refl w).alloc _).drew | exact (((Ext.refl w).alloc _).drew.alloc _) | exact (((Ext.refl w).alloc _).alloc _).drew) HX2.out)); (have hxb := hxa); clear hxa hx24)
      | ((have HOWN2 := Lib.hid (own_lit4 (w2 := w2) (w3 := w3) (cs := [.int .i64 x0, .bool x1, .int .i64 x2, .string x3, .slice x4 x5 x6, .slice none 0 0, .int .i64 x7]) rfl hx3.size)); refine step_append_rsl _ (by rfl) (.tmp 10) (.tmp 18) _ (by rfl) w2.heap.size 146 i0 _ 7 96 Tryz.underlying143 hi0 hz0 hz1 hz2 rfl (by decide) _ 1 [.int .i64 x0, .bool x1, .int .i64 x2, .string x3, .slice x4 x5 x6, .slice none 0 0, .int .i64 x7] (by rfl) HOWN2.out v3 3 (([id, title, link].map strCells).flatten) (by rfl) (RSl.of_own (own_ext hown3 ((Ext.refl _).alloc _))) (strs_one _) (by decide) (by decide) (hx3.alloc _).size ?_; intro v4 w4 hown4 hg4 hat4; (obtain ⟨g4, cap4, hv4, _⟩ := World.ownsRow.form hown4 (by decide)); subst hv4; (have HOWN4 := Lib.hid hown4); (have hx24 : Ext w2 w4 := Ext.app (hx3.alloc _) hg4 HOWN2.out (Nat.le_refl _)); (have HX24 := Lib.hid hx24); clear hown4 hg4 hat4; (have hxa := HX2.out.trans hx24); (have hxw4 : Ext w w4 := Ext.trans (by first | exact ((Ext.refl w).alloc _).drew | exact (((Ext.refl w).alloc _).drew.alloc _) | exact (((Ext.refl w).alloc _).alloc _).drew) hxa); (have HXW2 : Hid (Ext w w2) := Lib.hid (Ext.trans (by first | exact ((Ext.refl w).alloc _).drew | exact (((Ext.refl w).alloc _).drew.alloc _) | exact (((Ext.refl w).alloc _).alloc _).drew) HX2.out)); (have hxb := hxa); clear hxa hx24))
  go_wp2_with (first
    | (go_at_call 113; refine (jInt_any _ _).mono ?_; rintro e w5 ⟨he, hx5⟩; (replace he : e = .returned (.agg #[.int .i64 2, .bool false, .int .i64 upd, .string ⟨#[]⟩, .slice none 0 0, .slice none 0 0, .int .i64 0]) := he); subst he)
    | (at_builtin; refine wpList_append_rsl _ rfl (.tmp 21) (.tmp 25) _ rfl w2.heap.size 146 i0 _ 7 96 Tryz.underlying143 hi0 hz0 hz1 hz2 rfl (by decide) _ (1 + 3) _ rfl (own_ext (own_ext HOWN4.out hx5) ((Ext.refl _).alloc _)) _ 1 (intCells upd) rfl (rsl_new rfl (by decide)) vcells_one (by decide) (by decide) ?_ ?_; (have := (HX24.out.trans hx5).size; simp; omega); intro v6 w6 hown6 hg6 hat6; (have hx26 := Ext.app ((HX24.out.trans hx5).alloc _) hg6 (own_ext (own_ext HOWN4.out hx5) ((Ext.refl _).alloc _)) (Nat.le_refl _)))
    | (go_at_call 110; (have hz := jArray_any _ _ _ _ (key_rvs (HRV.out.ext hx26) hown6) (by show 5 * 96 ≤ 140737488355328; decide)); (with_reducible refine Calls.mono hz ?_); clear hz; rintro e w7 ⟨cs7, rfl, hrv7, hx7⟩; (obtain ⟨n7, hn7⟩ := hrv7); (obtain ⟨y0, y1, y2, y3, y4, y5, y6, y7, hcs7⟩ := hn7.shape); subst hcs7; (have HRV7 := Lib.hid (show RV _ _ _ from ⟨n7, hn7⟩)); clear hn7)
    | (go_at_call 112; (have hz := HJW.out _ _ HRV7.out (HEE.out.ext (HXW2.out.trans (hx26.trans hx7)))); (with_reducible refine Calls.mono hz ?_); clear hz; rintro e w8 ⟨rfl, hx8⟩))
  all_goals go_ret
  all_goals exact ⟨by rw [HFK.out]; rfl, HXW2.out.trans (hx26.trans (hx7.trans hx8))⟩
end Go.Proofs.YtgecijhgonfldaaGreatDoor
