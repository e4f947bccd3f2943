/- Parts of the proof: contracts and plain laws that the statement needs. -/
import Derived.Test.YtgecijhgonfldaaGreatDoorQ04
namespace Go.Proofs.YtgecijhgonfldaaGreatDoor
open Go Go.RowKit
set_option linter.unusedVariables false
set_option maxRecDepth 100000 in
theorem jwrite_any (j : JV) (cs : List Value) (w : World) (h : RV w j cs) (hok : jok j) (hE : Env w) (hl : (jtext j).length ≤ 140737488355328) :
    Calls Tryz.prog 112 #[.agg cs.toArray] w fun e w' => e = .returned (.tuple #[.string (jwrite j).1, .int .i64 ((jwrite j).2 : Nat)]) ∧ Ext w w' := by
  have HCK := Lib.hid (fun w' (hx : Ext w w') => jcheck_any j cs w' (h.ext hx) hok (hE.ext hx))
  obtain ⟨n, h⟩ := h
  obtain ⟨x0, x1, x2, x3, x4, x5, x6, x7, hc⟩ := h.shape
  subst hc
  by_cases hv : jvalid j 1 = true
  · have hfin : jwrite j = (str (jtext j), 0) := by rw [jwrite, if_pos hv]
    have HVAL := Lib.hid (fun w0 w' (hx : Ext w w0) B b bs (hx' : Ext w0 w') h0 hB hBw hl' => value_in n j _ w0 w' B b bs 1 (h.ext hx) hok hv (hE.ext hx) hx' h0 hB hBw hl')
    rw [if_pos hv] at HCK
    have HL := Lib.hid hl
    rw [hfin]
    clear hv hfin hl h hok
    go_enter Tryz.func112, Tryz.ntmps112
    go_wp2_with (first
      | (go_at_call 148; refine (HCK.out _ ((Ext.refl w).alloc _)).mono ?_; rintro e w1 ⟨rfl, hx1⟩; (have hy0 := ((Ext.refl w1).alloc (.cells #[.pointer none, .slice none 0 0] 184)).cell (hx1.boxed 0 _ rfl)); (have hy1 := ((Ext.refl w1).alloc (.cells #[.pointer none, .slice none 0 0] 184)).cell (hx1.boxed 1 _ rfl)); (have hy2 := ((Ext.refl w1).alloc (.cells #[.pointer none, .slice none 0 0] 184)).cell (hx1.boxed 2 _ rfl)); (have hy3 := ((Ext.refl w1).alloc (.cells #[.pointer none, .slice none 0 0] 184)).cell (hx1.boxed 3 _ rfl)); (have hy4 := ((Ext.refl w1).alloc (.cells #[.pointer none, .slice none 0 0] 184)).cell (hx1.boxed 4 _ rfl)); (have hy5 := ((Ext.refl w1).alloc (.cells #[.pointer none, .slice none 0 0] 184)).cell (hx1.boxed 5 _ rfl)); (have hy6 := ((Ext.refl w1).alloc (.cells #[.pointer none, .slice none 0 0] 184)).cell (hx1.boxed 6 _ rfl)))
      | (go_at_call 149; refine (HVAL.out w1 _ (((Ext.refl w).alloc _).trans hx1) w1.heap.size w1.heap.size [] ((Ext.refl w1).alloc _) (Nat.le_refl _) (Lib.fresh_isBuilder _ _ _) ((Ext.refl w1).alloc _).size (by simpa using HL.out)).mono ?_; rintro e w2 ⟨rfl, hB2, hx2⟩)
      | (go_at_call 102; refine (builderString_t bt_writer _ _ _ _ hB2 (Nat.le_trans ((Ext.refl w1).alloc _).size hx2.size)).mono ?_; rintro e w3 ⟨rfl, hx3⟩))
    go_ret2
    exact ⟨rfl, (((Ext.refl w).alloc _).trans hx1).then (Below.mono ((((Ext.refl w1).alloc _).then hx2).then hx3) (((Ext.refl w).alloc _).trans hx1).size)⟩
  · have hfin : jwrite j = (⟨#[]⟩, 22) := by rw [jwrite, if_neg hv]
    rw [if_neg hv] at HCK
    rw [hfin]
    clear hv hfin hl h hok
    go_enter Tryz.func112, Tryz.ntmps112
    go_wp2_with (go_at_call 148; refine (HCK.out _ ((Ext.refl w).alloc _)).mono ?_; rintro e w1 ⟨rfl, hx1⟩)
    go_ret2
    exact ⟨rfl, ((Ext.refl w).alloc _).trans hx1⟩
set_option maxRecDepth 100000 in
theorem jString_any (s : ByteArray) (w : World) :
    Calls Tryz.prog 147 #[.string s] w fun e w' => e = .returned (.agg (vcells 3 false 0 s (.slice none 0 0) 0).toArray) ∧ Ext w w' := by
  go_enter Tryz.func147, Tryz.ntmps147
  go_wp2
  ((try simp only [Exit.inBlock, Exit.then]); refine bodyPost_ret (results_cell_row rfl _ _ _ _ _ _ _ rfl (heap_alloc_new _ _) Tryz.underlying146 rfl rfl) rfl ?_)
  exact ⟨rfl, (Ext.refl w).alloc _⟩
set_option maxRecDepth 100000 in
theorem jInt_any (x : Int) (w : World) :
    Calls Tryz.prog 113 #[.int .i64 x] w fun e w' => e = .returned (.agg (vcells 2 false x ⟨#[]⟩ (.slice none 0 0) 0).toArray) ∧ Ext w w' := by
  go_enter Tryz.func113, Tryz.ntmps113
  go_wp2
  ((try simp only [Exit.inBlock, Exit.then]); refine bodyPost_ret (results_cell_row rfl _ _ _ _ _ _ _ rfl (heap_alloc_new _ _) Tryz.underlying146 rfl rfl) rfl ?_)
  exact ⟨rfl, (Ext.refl w).alloc _⟩
theorem vcells_one {k : Int} {b : Bool} {n : Int} {s : ByteArray} {A : Option Addr} {m c : Nat} {a : Int} : ∀ u ∈ vcells k b n s (.slice A m c) a, u.oneCell' = true := by
  intro u hu
  simp [vcells] at hu
  rcases hu with rfl | rfl | rfl | rfl | rfl | rfl | rfl <;> rfl
theorem RVn.one {w : World} {n : Nat} {j : JV} {cs : List Value} (h : RVn n w j cs) : ∀ u ∈ cs, u.oneCell' = true := by
  obtain ⟨x0, x1, x2, x3, x4, x5, x6, x7, rfl⟩ := h.shape
  exact vcells_one (a := x7) (n := x2) (k := x0) (b := x1) (s := x3) (A := x4) (m := x5) (c := x6)
theorem flat_one {css : List (List Value)} (h : ∀ c ∈ css, ∀ u ∈ c, u.oneCell' = true) : ∀ u ∈ css.flatten, u.oneCell' = true := by
  intro u hu
  obtain ⟨c, hc, hu⟩ := List.mem_flatten.1 hu
  exact h c hc u hu
def RVs (w : World) (v : Value) (l : List JV) (css : List (List Value)) : Prop := css.length = l.length ∧ RSl w 7 v l.length css.flatten ∧ ∃ n, ∀ (i : Nat) (j : JV) (c : List Value), l[i]? = some j → css[i]? = some c → RVn n w j c
theorem RVs.ext {w w' : World} {v : Value} {l : List JV} {css : List (List Value)} (h : RVs w v l css) (hx : Ext w w') : RVs w' v l css :=
  ⟨h.1, h.2.1.ext hx, h.2.2.choose, fun i j c hj hc => (h.2.2.choose_spec i j c hj hc).ext hx⟩
theorem size_val : (Tryz.prog.info? 146).map (fun i => i.size) = some 7 := by kernel_rfl
theorem all_one {cs : List Value} (h : ∀ u ∈ cs, u.oneCell' = true) : cs.toArray.all (fun u => u.oneCell') = true := by simpa using h
set_option maxRecDepth 100000 in
theorem jArray_any (v : Value) (l : List JV) (css : List (List Value)) (w : World) (h : RVs w v l css) (hbig : l.length * 96 ≤ 140737488355328) :
    Calls Tryz.prog 110 #[v] w fun e w' => ∃ cs, e = .returned (.agg cs.toArray) ∧ RV w' (.arr l) cs ∧ Ext w w' := by
  obtain ⟨hcl, hr, n, hel⟩ := h
  have hone : ∀ u ∈ css.flatten, u.oneCell' = true := flat_one fun c hc => by
    obtain ⟨i, hi, rfl⟩ := List.mem_iff_getElem.1 hc
    exact (hel i l[i] css[i] (List.getElem?_eq_getElem (by omega)) (List.getElem?_eq_getElem hi)).one
  have HC := Lib.hid (fun w' (hx : Ext w w') => clone_val v l.length css.flatten w' (hr.ext hx) hone hbig)
  have HEL := Lib.hid hel
  clear hel hone hbig
  go_enter Tryz.func110, Tryz.ntmps110
  go_wp2_with (first
    | (go_at_call 146; refine (HC.out _ ((Ext.refl w).alloc _)).mono ?_; rintro e w1 ⟨v', rfl, hown, hx1⟩; (obtain ⟨_, A', c', rfl, _⟩ := id (RSl.of_own hown)); (have hk1 := hx1.heap (heap_alloc_new w _)))
    | (refine wpList_store_row rfl 146 (.tmp 2) (.tmp 5) rfl w.heap.size _ rfl rfl _ _ hk1 size_val rfl (all_one (vcells_one (k := 4) (b := false) (n := 0) (s := ⟨#[]⟩) (A := A') (m := l.length) (c := c') (a := 0))) ?_))
  ((try simp only [Exit.inBlock, Exit.then]); refine bodyPost_ret (results_cell_row rfl _ _ _ _ _ _ _ rfl (setRow_heap _ _ _ _ _ _ hk1) Tryz.underlying146 rfl size_val) rfl ?_)
  have hxw : Ext w (w1.setRow w.heap.size #[Value.int .i64 4, .bool false, .int .i64 0, .string ⟨#[]⟩, .slice A' l.length c', .slice none 0 0, .int .i64 0]) := (((Ext.refl w).alloc _).trans hx1).setRow (Nat.le_refl _) _
  exact ⟨vcells 4 false 0 ⟨#[]⟩ (.slice A' l.length c') 0, rfl, ⟨n + 1, 0, _, css, rfl, hcl, RSl.of_own (own_setRow hown (by show w.heap.size < (w.heap.push _).size; simp) _), fun i j c hj hc => (HEL.out i j c hj hc).ext hxw⟩, hxw⟩
theorem RVs.nil (w : World) : RVs w (.slice none 0 0) [] [] := ⟨rfl, RSl.nil w 7, 1, fun i j c hj _ => by simp at hj⟩
theorem info_parts_val : ∃ i0, Tryz.prog.info? 146 = some i0 ∧ i0.zero = some (.agg #[.int .i64 0, .bool false, .int .i64 0, .string ⟨#[]⟩, .slice none 0 0, .slice none 0 0, .int .i64 0]) ∧ i0.size = 7 ∧ i0.bytes = 96 := info_parts info_val
def strCells (s : ByteArray) : List Value := vcells 3 false 0 s (.slice none 0 0) 0
set_option maxRecDepth 100000 in
theorem stringValues_any (v : Value) (l : List ByteArray) (w : World) (h : RSl w 1 v l.length (l.map Value.string)) (hbig : l.length * 96 ≤ 1407374883553) :
    Calls Tryz.prog 111 #[v] w fun e w' => ∃ v', e = .returned v' ∧ w'.ownsRow w.heap.size 146 7 v' l.length (l.map strCells).flatten ∧ Ext w w' := by
  obtain ⟨_, A, c, rfl, hmc, hcm, _, _⟩ := id h
  obtain ⟨i0, hi0, hz0, hz1, hz2⟩ := info_parts_val
  go_enter Tryz.func111, Tryz.ntmps111
  go_wp2
  go_loopw [3, 8] (fun v i wr => ∃ k : Nat, k ≤ l.length ∧ i = .int .i64 k ∧ wr.ownsRow w.heap.size 146 7 v k ((l.take k).map strCells).flatten ∧ Ext w wr) (fun _ i _ => l.length - (intOf i).toNat)
  case atStart => exact ⟨0, Nat.zero_le _, rfl, World.ownsRow_nil _ _ _ _, Ext.refl _⟩
  case round =>
    obtain ⟨k, hk, rfl, hown, hx⟩ := hrel
    by_cases hlt : k < l.length
    · obtain ⟨ad, rfl, hcell⟩ := (h.ext hx).at1 k (.string l[k]) (by rw [List.getElem?_map, List.getElem?_eq_getElem hlt]; rfl)
      have hw1 : wrap64 ((k : Int) + 1) = ((k + 1 : Nat) : Int) := by rw [maxLen] at hcm; rw [wrap_ok _ ⟨by omega, by omega⟩]; rfl
      have hwe := congrArg (Value.int .i64) hw1
      have hms : l.length - (intOf (Value.int IntKind.i64 (wrap64 ((k : Int) + 1)))).toNat < l.length - (intOf (Value.int IntKind.i64 (k : Int))).toNat := by
        rw [hw1]
        exact Nat.sub_lt_sub_left hlt (Nat.lt_succ_self k)
      have hk1 : k + 1 ≤ l.length := hlt
      have hby : Hid ((k + 1) * 96 ≤ 140737488355328) := by unfold Hid; omega
      have hml : Hid (k + 1 ≤ maxLen) := Nat.le_trans hk1 (Nat.le_trans hmc hcm)
      have htk : ((l.take k).map strCells).flatten ++ strCells l[k] = ((l.take (k + 1)).map strCells).flatten := by
        rw [List.take_succ_eq_append_getElem hlt, List.map_append, List.flatten_append]; simp
      clear hbig
      go_wp2_with (first
        | (go_at_call 147; refine (jString_any _ _).mono ?_; rintro e w1 ⟨he, hx1⟩; (replace he : e = .returned (.agg #[.int .i64 3, .bool false, .int .i64 0, .string l[k], .slice none 0 0, .slice none 0 0, .int .i64 0]) := he); subst he; (have hown1 := own_ext hown hx1); (have hsz := Nat.le_trans hx.size hx1.size))
        | (at_builtin; refine wpList_append_rsl _ rfl (.tmp 12) (.tmp 15) _ rfl w.heap.size 146 i0 _ 7 96 Tryz.underlying143 hi0 hz0 hz1 hz2 rfl (by decide) _ _ _ rfl (hown1.alloc _) _ 1 (strCells l[k]) rfl (rsl_new rfl (by decide)) vcells_one hml.out hby.out ?cb ?_; (case cb => exact Nat.le_trans hsz ((Ext.refl w1).alloc _).size); intro v1 w2 hown2 hg2 hat2))
      have hx2 : Ext w w2 := ((hx.trans hx1).alloc _).app hg2 (hown1.alloc _) (Nat.le_refl _)
      rw [htk] at hown2
      go_roundw
      case rel => exact ⟨k + 1, hk1, hwe, hown2, hx2⟩
      case measure => exact hms
    · have hke : k = l.length := by omega
      subst hke
      rw [List.take_of_length_le (Nat.le_refl _)] at hown
      clear hbig
      go_wp2
      go_ret
      exact ⟨_, rfl, hown, hx⟩
theorem strCells_rvn (w : World) (s : ByteArray) : RVn 1 w (.str s) (strCells s) := ⟨0, rfl⟩
def intCells (x : Int) : List Value := vcells 2 false x ⟨#[]⟩ (.slice none 0 0) 0
theorem intCells_rvn (w : World) (x : Int) : RVn 1 w (.int x) (intCells x) := ⟨0, rfl⟩
end Go.Proofs.YtgecijhgonfldaaGreatDoor
namespace Go.Proofs.YtgecijhgonfldaaGreatDoor
structure Ord (α κ : Type) where
  id : α → κ
  op : α → α → α
  lt : α → α → Bool
  op_id : ∀ a b, id a = id b → id (op a b) = id b
  irrefl : ∀ a, lt a a = false
  trans : ∀ a b c, lt a b = true → lt b c = true → lt a c = true
  total : ∀ a b, id a ≠ id b → lt a b = true ∨ lt b a = true
namespace Ord
section
variable {α κ : Type} (O : Ord α κ)
def ins : List α → α → List α
  | [], e => [e]
  | x :: t, e => if O.lt e x then e :: x :: t else x :: ins t e
def sorted (S : List α) : Prop := S.Pairwise fun a b => O.lt a b = true
theorem sorted_unique : ∀ (S T : List α), O.sorted S → O.sorted T → (∀ x, x ∈ S ↔ x ∈ T) → S = T
  | [], T, _, _, h => by
    cases T with
    | nil => rfl
    | cons b u => exact absurd ((h b).2 (by simp)) (by simp)
  | a :: t, [], _, _, h => absurd ((h a).1 (by simp)) (by simp)
  | a :: t, b :: u, hS, hT, h => by
    have hS' := List.pairwise_cons.1 hS
    have hT' := List.pairwise_cons.1 hT
    have hab : a = b := by
      have h1 := (h a).1 (by simp)
      have h2 := (h b).2 (by simp)
      rcases List.mem_cons.1 h1 with h1 | h1
      · exact h1
      · rcases List.mem_cons.1 h2 with h2 | h2
        · exact h2.symm
        · have := O.trans a b a (hS'.1 b h2) (hT'.1 a h1)
          rw [O.irrefl] at this
          cases this
    subst hab
    refine congrArg (a :: ·) (sorted_unique t u hS'.2 hT'.2 fun x => ⟨fun hx => ?_, fun hx => ?_⟩)
    · rcases List.mem_cons.1 ((h x).1 (by simp [hx])) with e | e
      · subst e; have := hS'.1 x hx; rw [O.irrefl] at this; cases this
      · exact e
    · rcases List.mem_cons.1 ((h x).2 (by simp [hx])) with e | e
      · subst e; have := hT'.1 x hx; rw [O.irrefl] at this; cases this
      · exact e
theorem foldl_id : ∀ (t : List α) (x : α), (∀ y ∈ t, O.id y = O.id x) → O.id (t.foldl O.op x) = O.id x
  | [], _, _ => rfl
  | y :: t, x, h => by
    have hy := h y (by simp)
    have e : O.id (O.op x y) = O.id x := by rw [O.op_id x y hy.symm, hy]
    show O.id (t.foldl O.op (O.op x y)) = _
    rw [foldl_id t (O.op x y) (fun z hz => by rw [e]; exact h z (by simp [hz])), e]
theorem mem_ins : ∀ (l : List α) (e x : α), x ∈ O.ins l e ↔ x = e ∨ x ∈ l
  | [], e, x => by simp [ins]
  | y :: t, e, x => by
    unfold ins
    split
    · simp
    · simp only [List.mem_cons, mem_ins t e x]
      constructor
      · rintro (h | h | h) <;> simp [h]
      · rintro (h | h | h) <;> simp [h]
theorem ins_sorted : ∀ (l : List α) (e : α), O.sorted l → (∀ x ∈ l, O.id x ≠ O.id e) → O.sorted (O.ins l e)
  | [], e, _, _ => by simp [ins, sorted]
  | y :: t, e, hs, h => by
    have hs' := List.pairwise_cons.1 hs
    unfold ins
    split
    · rename_i hlt
      refine List.pairwise_cons.2 ⟨fun x hx => ?_, hs⟩
      rcases List.mem_cons.1 hx with e' | e'
      · rw [e']; exact hlt
      · exact O.trans _ _ _ hlt (hs'.1 x e')
    · rename_i hlt
      have hye : O.lt y e = true := by
        rcases O.total e y (fun e' => h y (by simp) e'.symm) with h' | h'
        · exact absurd h' hlt
        · exact h'
      refine List.pairwise_cons.2 ⟨fun x hx => ?_, ins_sorted t e hs'.2 fun x hx => h x (by simp [hx])⟩
      rcases (O.mem_ins t e x).1 hx with e' | e'
      · rw [e']; exact hye
      · exact hs'.1 x e'
end
variable {α κ : Type} [DecidableEq κ] (O : Ord α κ)
def scan : List α → α → List α × α
  | [], e => ([], e)
  | x :: t, e => if O.id x = O.id e then scan t (O.op x e) else (x :: (scan t e).1, (scan t e).2)
def put (l : List α) (e : α) : List α := O.ins (O.scan l e).1 (O.scan l e).2
def canon (l : List α) : List α := l.foldl O.put []
def fold1 : List α → Option α
  | [] => none
  | x :: t => some (t.foldl O.op x)
def got (l : List α) (k : κ) : Option α := O.fold1 (l.filter fun x => O.id x = k)
def firsts (l : List α) : List κ := l.foldl (fun acc x => if O.id x ∈ acc then acc else acc ++ [O.id x]) []
def groups (l : List α) : List (List α) := (O.firsts l).map fun k => l.filter fun x => O.id x = k
theorem got_id {l : List α} {k : κ} {x : α} (h : O.got l k = some x) : O.id x = k := by
  unfold got at h
  generalize hg : (l.filter fun x => O.id x = k) = g at h
  cases g with
  | nil => cases h
  | cons y t =>
    have hall : ∀ z ∈ y :: t, O.id z = k := by
      intro z hz
      rw [← hg] at hz
      simpa using (List.mem_filter.1 hz).2
    simp only [fold1, Option.some.injEq] at h
    rw [← h, O.foldl_id t y (fun z hz => by rw [hall z (by simp [hz]), hall y (by simp)]), hall y (by simp)]
theorem got_nil (k : κ) : O.got [] k = none := rfl
theorem got_snoc (l : List α) (e : α) (k : κ) : O.got (l ++ [e]) k = if O.id e = k then (match O.got l k with | none => some e | some y => some (O.op y e)) else O.got l k := by
  unfold got
  rw [List.filter_append]
  by_cases h : O.id e = k
  · rw [if_pos h]
    have : [e].filter (fun x => decide (O.id x = k)) = [e] := by simp [h]
    rw [this]
    cases l.filter fun x => O.id x = k with
    | nil => rfl
    | cons y t => simp [fold1, List.foldl_append]
  · rw [if_neg h]
    have : [e].filter (fun x => decide (O.id x = k)) = [] := by simp [h]
    rw [this, List.append_nil]
theorem scan_fst : ∀ (l : List α) (e : α), (O.scan l e).1 = l.filter fun x => !decide (O.id x = O.id e)
  | [], _ => rfl
  | x :: t, e => by
    unfold scan
    by_cases h : O.id x = O.id e
    · rw [if_pos h, scan_fst t (O.op x e), O.op_id x e h]
      simp [h]
    · rw [if_neg h]
      simp [h, scan_fst t e]
theorem scan_none : ∀ (l : List α) (e : α), (∀ x ∈ l, O.id x ≠ O.id e) → (O.scan l e).2 = e
  | [], _, _ => rfl
  | x :: t, e, h => by
    unfold scan
    rw [if_neg (h x (by simp))]
    exact scan_none t e fun y hy => h y (by simp [hy])
theorem scan_one : ∀ (l : List α) (e y : α), y ∈ l → O.id y = O.id e → l.Pairwise (fun a b => O.id a ≠ O.id b) → (O.scan l e).2 = O.op y e
  | [], _, _, h, _, _ => by simp at h
  | x :: t, e, y, hy, hid, hp => by
    have hp' := List.pairwise_cons.1 hp
    unfold scan
    by_cases h : O.id x = O.id e
    · have hxy : x = y := by
        rcases List.mem_cons.1 hy with e' | e'
        · exact e'.symm
        · exact absurd (h.trans hid.symm) (hp'.1 y e')
      subst hxy
      rw [if_pos h]
      exact O.scan_none t _ fun z hz => by rw [O.op_id x e h, ← h]; exact (hp'.1 z hz).symm
    · rw [if_neg h]
      have hy' : y ∈ t := by
        rcases List.mem_cons.1 hy with e' | e'
        · subst e'; exact absurd hid h
        · exact e'
      exact scan_one t e y hy' hid hp'.2
def IsCanon (l S : List α) : Prop := O.sorted S ∧ ∀ x, x ∈ S ↔ O.got l (O.id x) = some x
theorem IsCanon.unique {l S T : List α} (h : O.IsCanon l S) (k : O.IsCanon l T) : S = T :=
  O.sorted_unique S T h.1 k.1 fun x => (h.2 x).trans (k.2 x).symm
theorem IsCanon.ids {l S : List α} (h : O.IsCanon l S) : S.Pairwise fun a b => O.id a ≠ O.id b := by
  refine h.1.imp_of_mem fun {a b} ha hb hab e => ?_
  have h1 := (h.2 a).1 ha
  have h2 := (h.2 b).1 hb
  rw [e, h2] at h1
  injection h1 with h1
  rw [h1, O.irrefl] at hab
  cases hab
theorem IsCanon.put {l S : List α} (h : O.IsCanon l S) (e : α) : O.IsCanon (l ++ [e]) (O.put S e) := by
  have hids := h.ids
  have hid2 : O.id (O.scan S e).2 = O.id e ∧ O.got (l ++ [e]) (O.id e) = some (O.scan S e).2 := by
    rw [got_snoc, if_pos rfl]
    cases hg : O.got l (O.id e) with
    | none =>
      have : (O.scan S e).2 = e := O.scan_none S e fun x hx hx' => by
        have := (h.2 x).1 hx
        rw [hx', hg] at this
        cases this
      rw [this]; exact ⟨rfl, rfl⟩
    | some y =>
      have hy : O.id y = O.id e := O.got_id hg
      have hm : y ∈ S := (h.2 y).2 (by rw [hy]; exact hg)
      rw [O.scan_one S e y hm hy hids]
      exact ⟨O.op_id y e hy, rfl⟩
  have hne : ∀ x ∈ (O.scan S e).1, O.id x ≠ O.id (O.scan S e).2 := by
    intro x hx
    rw [scan_fst] at hx
    rw [hid2.1]
    simpa using (List.mem_filter.1 hx).2
  refine ⟨O.ins_sorted _ _ ?_ hne, fun x => ?_⟩
  · rw [scan_fst]; exact h.1.filter _
  · unfold Ord.put
    rw [mem_ins, scan_fst, List.mem_filter, h.2 x]
    by_cases hx : O.id x = O.id e
    · constructor
      · rintro (rfl | ⟨_, h'⟩)
        · rw [hid2.1]; exact hid2.2
        · simp [hx] at h'
      · intro h'
        rw [hx, hid2.2] at h'
        injection h' with h'
        exact Or.inl h'.symm
    · have e' : O.got (l ++ [e]) (O.id x) = O.got l (O.id x) := by rw [got_snoc, if_neg (fun e' => hx e'.symm)]
      rw [e']
      constructor
      · rintro (rfl | ⟨h', _⟩)
        · exact absurd hid2.1 hx
        · exact h'
      · intro h'
        exact Or.inr ⟨h', by simp [hx]⟩
theorem IsCanon.foldl : ∀ (t l S : List α), O.IsCanon l S → O.IsCanon (l ++ t) (t.foldl O.put S)
  | [], l, S, h => by simpa using h
  | e :: t, l, S, h => by
    have := foldl t (l ++ [e]) (O.put S e) (h.put O e)
    simpa using this
theorem isCanon_nil : O.IsCanon [] [] := ⟨List.Pairwise.nil, fun x => by simp [got_nil]⟩
theorem canon_is (l : List α) : O.IsCanon l (O.canon l) := by
  have h := IsCanon.foldl O l [] [] O.isCanon_nil
  rw [List.nil_append] at h
  exact h
theorem canon_append (l t : List α) : O.canon (l ++ t) = t.foldl O.put (O.canon l) := by unfold canon; rw [List.foldl_append]
theorem firsts_snoc (l : List α) (e : α) : O.firsts (l ++ [e]) = if O.id e ∈ O.firsts l then O.firsts l else O.firsts l ++ [O.id e] := by
  unfold firsts; rw [List.foldl_append]; rfl
theorem mem_firsts (l : List α) (k : κ) : k ∈ O.firsts l ↔ ∃ x ∈ l, O.id x = k := by
  suffices h : ∀ (n : Nat) (l : List α), l.length = n → ∀ k, k ∈ O.firsts l ↔ ∃ x ∈ l, O.id x = k from h _ l rfl k
  intro n
  induction n with
  | zero => intro l hl k; rw [List.eq_nil_of_length_eq_zero hl]; simp [firsts]
  | succ n ih =>
    intro l hl k
    obtain ⟨l', e, rfl⟩ : ∃ l' e, l = l' ++ [e] := by
      rcases List.eq_nil_or_concat l with h | ⟨l', e, h⟩
      · subst h; simp at hl
      · exact ⟨l', e, by simpa using h⟩
    have ih' := ih l' (by simpa using hl)
    rw [firsts_snoc]
    by_cases h : O.id e ∈ O.firsts l'
    · rw [if_pos h, ih' k]
      constructor
      · rintro ⟨x, hx, e'⟩; exact ⟨x, by simp [hx], e'⟩
      · rintro ⟨x, hx, e'⟩
        rcases List.mem_append.1 hx with hx | hx
        · exact ⟨x, hx, e'⟩
        · simp at hx; subst hx; obtain ⟨y, hy, hy'⟩ := (ih' (O.id x)).1 h; exact ⟨y, hy, hy'.trans e'⟩
    · rw [if_neg h, List.mem_append, ih' k]
      constructor
      · rintro (⟨x, hx, e'⟩ | hx)
        · exact ⟨x, by simp [hx], e'⟩
        · simp at hx; exact ⟨e, by simp, hx.symm⟩
      · rintro ⟨x, hx, e'⟩
        rcases List.mem_append.1 hx with hx | hx
        · exact Or.inl ⟨x, hx, e'⟩
        · simp at hx; subst hx; exact Or.inr (by simp [e'])
theorem firsts_nodup (l : List α) : (O.firsts l).Pairwise (· ≠ ·) := by
  suffices h : ∀ (n : Nat) (l : List α), l.length = n → (O.firsts l).Pairwise (· ≠ ·) from h _ l rfl
  intro n
  induction n with
  | zero => intro l hl; rw [List.eq_nil_of_length_eq_zero hl]; exact List.Pairwise.nil
  | succ n ih =>
    intro l hl
    obtain ⟨l', e, rfl⟩ : ∃ l' e, l = l' ++ [e] := by
      rcases List.eq_nil_or_concat l with h | ⟨l', e, h⟩
      · subst h; simp at hl
      · exact ⟨l', e, by simpa using h⟩
    have ih' := ih l' (by simpa using hl)
    rw [firsts_snoc]
    split
    · exact ih'
    · rename_i h
      rw [List.pairwise_append]
      exact ⟨ih', by simp, fun a ha b hb => by simp at hb; subst hb; rintro rfl; exact h ha⟩
def joined (l : List α) : List α := (O.firsts l).filterMap (O.got l)
theorem mem_joined (l : List α) (x : α) : x ∈ O.joined l ↔ O.got l (O.id x) = some x := by
  unfold joined
  rw [List.mem_filterMap]
  constructor
  · rintro ⟨k, _, h⟩
    rw [O.got_id h]; exact h
  · intro h
    refine ⟨O.id x, (O.mem_firsts l _).2 ?_, h⟩
    unfold got at h
    generalize hg : (l.filter fun y => O.id y = O.id x) = g at h
    cases g with
    | nil => cases h
    | cons y t =>
      have : y ∈ l.filter fun z => decide (O.id z = O.id x) := by rw [hg]; simp
      have := List.mem_filter.1 this
      exact ⟨y, this.1, by simpa using this.2⟩
theorem joined_ids (l : List α) : (O.joined l).Pairwise fun a b => O.id a ≠ O.id b := by
  unfold joined
  rw [List.pairwise_filterMap]
  refine (O.firsts_nodup l).imp fun {a b} hab x hx y hy => ?_
  rw [O.got_id hx, O.got_id hy]
  exact hab
theorem sorted_joined (l S : List α) (hp : S.Perm (O.joined l)) (hs : S.Pairwise fun a b => O.lt b a = false) : S = O.canon l := by
  refine IsCanon.unique O ⟨?_, fun x => by rw [hp.mem_iff]; exact O.mem_joined l x⟩ (O.canon_is l)
  have hids : S.Pairwise fun a b => O.id a ≠ O.id b := (O.joined_ids l).perm hp.symm fun h => h.symm
  refine (hs.and hids).imp fun {a b} h => ?_
  rcases O.total a b h.2 with h' | h'
  · exact h'
  · rw [h.1] at h'; cases h'
theorem got_of_mem {S : List α} (h : S.Pairwise fun a b => O.id a ≠ O.id b) {x : α} (hx : x ∈ S) : O.got S (O.id x) = some x := by
  have : (S.filter fun y => decide (O.id y = O.id x)) = [x] := by
    induction S with
    | nil => simp at hx
    | cons y t ih =>
      have h' := List.pairwise_cons.1 h
      rcases List.mem_cons.1 hx with e | e
      · subst e
        rw [List.filter_cons_of_pos (by simp), List.filter_eq_nil_iff.2]
        intro z hz
        simpa using (h'.1 z hz).symm
      · rw [List.filter_cons_of_neg (by simpa using h'.1 x e)]
        exact ih h'.2 e
  unfold got
  rw [this]
  rfl
theorem canon_self {S : List α} (hs : O.sorted S) (hi : S.Pairwise fun a b => O.id a ≠ O.id b) : O.canon S = S := by
  refine IsCanon.unique O (O.canon_is S) ⟨hs, fun x => ⟨O.got_of_mem hi, fun h => ?_⟩⟩
  have : x ∈ O.joined S := (O.mem_joined S x).2 h
  unfold got at h
  generalize hg : (S.filter fun y => O.id y = O.id x) = g at h
  cases g with
  | nil => cases h
  | cons y t =>
    have hy := List.mem_filter.1 (show y ∈ S.filter fun z => decide (O.id z = O.id x) by rw [hg]; simp)
    have hyx : O.id y = O.id x := by simpa using hy.2
    have := O.got_of_mem hi hy.1
    unfold got at this
    rw [hyx, hg, h] at this
    injection this with this
    rw [this]; exact hy.1
theorem canon_canon (l : List α) : O.canon (O.canon l) = O.canon l := O.canon_self (O.canon_is l).1 ((O.canon_is l).ids)
end Ord
end Go.Proofs.YtgecijhgonfldaaGreatDoor
