/- Parts of the proof: contracts and plain laws that the statement needs. -/
import Derived.Deep.QuietTactic
import Derived.Test.YtgecijhgonfldaaGreatDoorQ00
import Derived.Test.YtgecijhgonfldaaGreatDoorQ02
import Derived.Test.YtgecijhgonfldaaGreatDoorQ03
import Derived.Test.YtgecijhgonfldaaGreatDoorQ07
namespace Go.Proofs.YtgecijhgonfldaaGreatDoor
open Go Go.RowKit
set_option linter.unusedVariables false
theorem refCompare_any (x y : ByteArray) (w : World) :
    Calls Tryz.prog 83 #[.string x, .string y] w fun e w' => e = .returned (.int .i64 (sCmp x y)) ∧ w' = w := by
  have hfin : sCmp x y = if Op.bytesLess x.toList y.toList = true then -1 else if (Op.bytesLess x.toList y.toList || x.toList == y.toList) = true then 0 else 1 := by
    unfold sCmp
    by_cases h : Op.bytesLess x.toList y.toList = true
    · rw [if_pos h, if_pos h]
    · rw [if_neg h, if_neg h]
      simp only [Bool.not_eq_true] at h
      simp [h]
  rw [hfin]
  clear hfin
  go_enter Tryz.func83, Tryz.ntmps83
  go_wp2
  all_goals go_ret
  all_goals exact ⟨by simp_all, rfl⟩
theorem inTime_any (t : Int) (w : World) :
    Calls Tryz.prog 44 #[.int .i64 t] w fun e w' => e = .returned (.bool (inT t)) ∧ w = w' := by
  unfold inT
  go_enter Tryz.func44, Tryz.ntmps44
  go_wp2
  all_goals go_ret
  all_goals exact ⟨by simp_all <;> omega, rfl⟩
theorem refInTime_any (t : Int) (w : World) :
    Calls Tryz.prog 48 #[.int .i64 t] w fun e w' => e = .returned (.bool (inT t)) ∧ w = w' := by
  unfold inT
  go_enter Tryz.func48, Tryz.ntmps48
  go_wp2
  all_goals go_ret
  all_goals exact ⟨by simp_all <;> omega, rfl⟩
theorem refCmpE_any (a b : Ent) (w : World) :
    Calls Tryz.prog 55 #[.agg (eCells a).toArray, .agg (eCells b).toArray] w fun e w' => e = .returned (.int .i64 (entCmp a b)) ∧ Ext w w' := by
  have HC := Lib.hid (fun w' => refCompare_any a.id b.id w')
  have hfin : entCmp a b = if b.upd < a.upd then -1 else if a.upd < b.upd then 1 else sCmp a.id b.id := by
    unfold entCmp iCmp
    by_cases h : b.upd < a.upd
    · simp [h]
    · by_cases k : a.upd < b.upd
      · simp [h, k]
      · simp [h, k]
  rw [hfin]
  clear hfin
  obtain ⟨aid, atitle, alink, acontent, aupd⟩ := a
  obtain ⟨bid, btitle, blink, bcontent, bupd⟩ := b
  unfold eCells
  go_enter Tryz.func55, Tryz.ntmps55
  go_wp2_with (go_at_call 83; refine (HC.out _).mono ?_; rintro e w1 ⟨rfl, rfl⟩)
  all_goals go_ret
  all_goals exact ⟨by simp_all, ((Ext.refl _).alloc _).alloc _⟩
theorem refCheckAll_any (v : Value) (l : List ByteArray) (w : World) (h : RSl w 1 v l.length (l.map Value.string)) (hs : ∀ s ∈ l, s.size ≤ 16777216) :
    Calls Tryz.prog 45 #[v] w fun e w' => e = .returned (.int .i64 (firstErr l : Nat)) ∧ Ext w w' := by
  obtain ⟨_, A, c, rfl, hmc, hcm, _, _⟩ := id h
  have hnm : l.length ≤ 9223372036854775807 := Nat.le_trans hmc hcm
  clear hmc hcm
  obtain ⟨E, hEr⟩ : ∃ E, firstErr l = E := ⟨_, rfl⟩
  rw [hEr]
  go_enter Tryz.func45, Tryz.ntmps45
  go_wp2
  go_loopw [3] (fun i wr => ∃ k : Nat, k ≤ l.length ∧ i = .int .i64 k ∧ Hid (E = firstErr (l.drop k)) ∧ Ext w wr) (fun i _ => l.length - (intOf i).toNat)
  case atStart => exact ⟨0, Nat.zero_le _, rfl, hEr.symm, Ext.refl _⟩
  case round =>
    obtain ⟨k, hk, rfl, hf, hx⟩ := hrel
    by_cases hlt : k < l.length
    · obtain ⟨ad, rfl, hcell⟩ := (h.ext hx).at1 k (.string l[k]) (by rw [List.getElem?_map, List.getElem?_eq_getElem hlt]; rfl)
      have hfd := firstErr_drop (l := l) (k := k) hlt
      have HC := Lib.hid (refCheck_any l[k] wr (by have := hs l[k] (List.getElem_mem hlt); unfold maxLen; omega))
      obtain ⟨O, hO⟩ : ∃ O, (checkS l[k]).1 = O := ⟨_, rfl⟩
      obtain ⟨K, hK⟩ : ∃ K, (checkS l[k]).2 = K := ⟨_, rfl⟩
      obtain ⟨S, hS⟩ : ∃ S, l[k] = S := ⟨_, rfl⟩
      rw [hK] at hfd
      rw [hO, hK, hS] at HC
      rw [hS] at hcell
      have hff := hf.out.trans hfd
      clear hfd hf hO hK hS hEr
      by_cases h0 : K = 0
      · subst h0
        rw [if_pos rfl] at hff
        have HF := Lib.hid hff
        clear hff
        go_wp2_with (first | (go_at_call 75; refine (HC.out).mono ?_; rintro e w' ⟨rfl, hx'⟩))
        go_roundw
        case rel => exact ⟨k + 1, hlt, by go_num, HF.out, hx.trans hx'⟩
        case measure => simp [intOf]; omega
      · have hb : ((K : Int) != 0) = true := by simp; omega
        rw [if_neg h0] at hff
        subst hff
        clear h0
        go_wp2_with (first | (go_at_call 75; refine (HC.out).mono ?_; rintro e w' ⟨rfl, hx'⟩))
        go_ret
        exact ⟨rfl, hx.trans hx'⟩
    · have hke : k = l.length := by omega
      have hff := hf.out
      rw [List.drop_of_length_le (by omega)] at hff
      have hff' : E = 0 := hff
      subst hff'
      clear hff hf hEr
      go_wp2
      go_ret
      exact ⟨rfl, hx⟩
end Go.Proofs.YtgecijhgonfldaaGreatDoor
namespace Go.Proofs.YtgecijhgonfldaaGreatDoor
open Go Go.RowKit
structure Aft (W : World) where
  w : World
  ext : Ext W w
instance (W : World) : Nonempty (Aft W) := ⟨⟨W, Ext.refl W⟩⟩
theorem wp_region_aft {P : Program} {id : Nat} {Q : Exit → Act → World → Prop} {a : Act} {w : World} {l : List Oper} (hm : P.follows .mixedOrders = true) (hB : Region.lexB .any l.toArray = true)
    (h : wpQuiet P l.toArray (fun w' => ∃ d : Aft w, w' = d.w) (fun a' => ∀ w', (∃ d : Aft w, w' = d.w) → Q .normal a' w') l a) : (Code.region id l.toArray true).wp P Q a w :=
  wp_region_quiet (C := fun w' => ∃ d : Aft w, w' = d.w) hm hB ⟨⟨_, (Ext.refl w).drew⟩, rfl⟩ (by simpa using h)
theorem quiet_call {P : Program} {f : FuncId} {args : Array Value} {W : World} {d : Aft W} {v : Value} (h : Calls P f args d.w fun e w' => e = .returned v ∧ Ext d.w w') : Calls P f args d.w fun e w' => e = .returned v ∧ ∃ d : Aft W, w' = d.w :=
  h.mono fun _ w' ⟨he, h'⟩ => ⟨he, ⟨w', d.ext.trans h'⟩, rfl⟩
theorem quiet_call_same {P : Program} {f : FuncId} {args : Array Value} {W : World} {d : Aft W} {v : Value} (h : Calls P f args d.w fun e w' => e = .returned v ∧ d.w = w') : Calls P f args d.w fun e w' => e = .returned v ∧ ∃ d : Aft W, w' = d.w :=
  h.mono fun _ _ ⟨he, h'⟩ => ⟨he, d, h'.symm⟩
theorem quiet_call_same' {P : Program} {f : FuncId} {args : Array Value} {W : World} {d : Aft W} {v : Value} (h : Calls P f args d.w fun e w' => e = .returned v ∧ w' = d.w) : Calls P f args d.w fun e w' => e = .returned v ∧ ∃ d : Aft W, w' = d.w :=
  h.mono fun _ _ ⟨he, h'⟩ => ⟨he, d, h'⟩
theorem Aft.cell {W : World} {p : Addr} {v : Value} (hc : W.cell? p = some v) (d : Aft W) : d.w.cell? p = some v := d.ext.cell hc
theorem step_store_row {P : Program} {ops : Array Oper} {o : Oper} {a : Act} {w : World} {K : Act → World → Prop} {Q : Exit → Act → World → Prop} {E : Prop} (hgd : o.guard = none) (ty : TypeId) (x y : Operand) (ho : o.op = .store ty x y)
    (g : Nat) (cells : Array Value) (hx : a.eval x = .pointer (some ⟨g, 0, none⟩)) (hy : a.eval y = .agg cells)
    (t : TypeId) (old : Array Value) (hg : w.heap[g]? = some (.cells old t (0, 0))) (hi : (P.info? ty).map (·.size) = some cells.size)
    (hold : old.size = cells.size) (h1 : cells.all (·.oneCell') = true)
    (h : K (a.put o.dst undef) (w.setRow g cells)) : if Region.wanted o (yielded ops a.tmps) = true then Oper.wp P o a w K Q else E := by
  have hw : Region.wanted o (yielded ops a.tmps) = true := by simp [Region.wanted, hgd]
  rw [if_pos hw]
  exact wp_store_row ty x y ho g cells hx hy t old hg hi hold h1 h
theorem wpList_store_blk {P : Program} {ops : Array Oper} {rest : List Oper} {o : Oper} {a : Act} {w : World} {Q : Exit → Act → World → Prop} (hgd : o.guard = none) (ty : TypeId) (x y : Operand) (ho : o.op = .store ty x y)
    (g : Nat) (cells : Array Value) (hx : a.eval x = .pointer (some ⟨g, 0, none⟩)) (hy : a.eval y = .agg cells)
    (t : TypeId) (old : Array Value) (hg : w.heap[g]? = some (.cells old t (0, 0))) (hi : (P.info? ty).map (·.size) = some cells.size)
    (hold : old.size = cells.size) (h1 : cells.all (·.oneCell') = true)
    (h : ∀ W : World, W.heap[g]? = some (.cells cells t (0, 0)) → (∀ b : World, Ext b w → b.heap.size ≤ g → Ext b W) → (∀ k, k ≠ g → W.heap[k]? = w.heap[k]?) → wpList P ops Q rest (a.put o.dst undef) W) : wpList P ops Q (o :: rest) a w :=
  wpList_store_row hgd ty x y ho g cells hx hy t old hg hi hold h1 (h _ (setRow_heap _ _ _ _ _ _ hg) (fun b hb hs => hb.then ⟨rfl, rfl, rfl, by simp [World.setRow], fun k hk => setRow_other w g k cells (by omega)⟩) fun k hk => setRow_other w g k cells hk)
theorem blk5 {w : World} {g : Nat} {a b c d e : Value} {t : TypeId} {fr : Nat × Nat} (h : w.heap[g]? = some (.cells #[a, b, c, d, e] t fr)) :
    w.cell? ⟨g, 0, none⟩ = some a ∧ w.cell? ⟨g, 1, none⟩ = some b ∧ w.cell? ⟨g, 2, none⟩ = some c ∧ w.cell? ⟨g, 3, none⟩ = some d ∧ w.cell? ⟨g, 4, none⟩ = some e := by
  refine ⟨?_, ?_, ?_, ?_, ?_⟩ <;> (rw [cell_of_row _ _ _ _ _ _ h]; rfl)
theorem blk6 {w : World} {g : Nat} {a b c d e f : Value} {t : TypeId} {fr : Nat × Nat} (h : w.heap[g]? = some (.cells #[a, b, c, d, e, f] t fr)) :
    w.cell? ⟨g, 0, none⟩ = some a ∧ w.cell? ⟨g, 1, none⟩ = some b ∧ w.cell? ⟨g, 2, none⟩ = some c ∧ w.cell? ⟨g, 3, none⟩ = some d ∧ w.cell? ⟨g, 4, none⟩ = some e ∧ w.cell? ⟨g, 5, none⟩ = some f := by
  refine ⟨?_, ?_, ?_, ?_, ?_, ?_⟩ <;> (rw [cell_of_row _ _ _ _ _ _ h]; rfl)
end Go.Proofs.YtgecijhgonfldaaGreatDoor
namespace Go.Proofs.YtgecijhgonfldaaGreatDoor
open Go Go.RowKit
set_option linter.unusedVariables false
def eokS (e : Ent) : Prop := e.id.size ≤ 16777216 ∧ e.title.size ≤ 16777216 ∧ e.link.size ≤ 16777216 ∧ e.content.size ≤ 16777216
theorem size_alloc (w : World) (o : Obj) : (w.alloc o).heap.size = w.heap.size + 1 := by show (w.heap.push o).size = _; simp
theorem Ext.boxedF {w w' : World} {cs : Array Value} {t : TypeId} (h : Ext (w.alloc (.cells cs t)) w') (i : Nat) : w'.frozen? ⟨w.heap.size, i, none⟩ = false :=
  Lib.frozen_of_heap (h.heap (heap_alloc_new w _)) i
theorem setCell_alloc (w : World) (cs : Array Value) (t : TypeId) (fr : Nat × Nat) (i : Nat) (v : Value) (hi : i < cs.size) : (w.alloc (.cells cs t fr)).setCell ⟨w.heap.size, i, none⟩ v = w.alloc (.cells (cs.setIfInBounds i v) t fr) := by
  simp only [World.setCell, World.alloc]
  congr 1
  apply Array.ext_getElem?
  intro k
  rw [Array.getElem?_modify]
  by_cases hk : w.heap.size = k
  · subst hk; simp
  · rw [if_neg hk]
    rcases Nat.lt_or_gt_of_ne hk with h | h
    · rw [Array.getElem?_eq_none (by simp; omega), Array.getElem?_eq_none (by simp; omega)]
    · rw [Array.getElem?_push_lt h, Array.getElem?_push_lt h]
theorem setCell_alloc3 (w : World) (cs : Array Value) (t : TypeId) (fr : Nat × Nat) (B C : Obj) (i : Nat) (v : Value) (hi : i < cs.size) :
    (((w.alloc (.cells cs t fr)).alloc B).alloc C).setCell ⟨w.heap.size, i, none⟩ v = ((w.alloc (.cells (cs.setIfInBounds i v) t fr)).alloc B).alloc C := by
  have h1 : ∀ (W : World) (O : Obj) (p : Addr) (u : Value), p.block < W.heap.size → (W.alloc O).setCell p u = (W.setCell p u).alloc O := by
    intro W O p u hp
    simp only [World.setCell, World.alloc]
    congr 1
    apply Array.ext_getElem?
    intro k
    rw [Array.getElem?_modify]
    rcases Nat.lt_trichotomy k W.heap.size with h | h | h
    · rw [Array.getElem?_push_lt h, Array.getElem?_push_lt (by simpa using h)]
      simp [Array.getElem_modify]
      split <;> simp
    · subst h
      have : ¬ p.block = W.heap.size := by omega
      have e1 : (W.heap.push O)[W.heap.size]? = some O := by simp
      have e2 : ∀ f : Obj → Obj, ((W.heap.modify p.block f).push O)[W.heap.size]? = some O := by
        intro f
        have := Array.getElem?_push_size (xs := W.heap.modify p.block f) (x := O)
        rwa [Array.size_modify] at this
      rw [if_neg this, e1, e2]
    · rw [Array.getElem?_eq_none (by simp; omega), Array.getElem?_eq_none (by simp; omega)]
      split <;> rfl
  rw [h1 _ C _ _ (by simp; omega), h1 _ B _ _ (by simp), setCell_alloc _ _ _ _ _ _ hi]
theorem boxed3a {w : World} {A : Array Value} {t : TypeId} {fr : Nat × Nat} {B C : Obj} (d : Aft (((w.alloc (.cells A t fr)).alloc B).alloc C)) (i : Nat) (v : Value) (hv : A[i]? = some v) : d.w.cell? ⟨w.heap.size, i, none⟩ = some v :=
  Ext.boxed (((Ext.refl _).alloc B).alloc C |>.trans d.ext) i v hv
theorem boxed3b {w : World} {B : Array Value} {t : TypeId} {fr : Nat × Nat} {A C : Obj} (d : Aft (((w.alloc A).alloc (.cells B t fr)).alloc C)) (i : Nat) (v : Value) (hv : B[i]? = some v) : d.w.cell? ⟨w.heap.size + 1, i, none⟩ = some v := by
  have h := Ext.boxed (w := w.alloc A) (((Ext.refl _).alloc C).trans d.ext) i v hv
  rwa [size_alloc] at h
theorem setS_box4 (w : World) (a0 b0 c0 d0 a b c d : ByteArray) (x : Value) (t : TypeId) (fr : Nat × Nat) (B C : Obj) :
    setS (((w.alloc (.cells #[.string a0, .string b0, .string c0, .string d0, x] t fr)).alloc B).alloc C) [(⟨w.heap.size, 0, none⟩, a), (⟨w.heap.size, 1, none⟩, b), (⟨w.heap.size, 2, none⟩, c), (⟨w.heap.size, 3, none⟩, d)]
      = ((w.alloc (.cells #[.string a, .string b, .string c, .string d, x] t fr)).alloc B).alloc C := by
  simp only [setS]
  rw [setCell_alloc3 _ _ _ _ _ _ _ _ (by simp), setCell_alloc3 _ _ _ _ _ _ _ _ (by simp), setCell_alloc3 _ _ _ _ _ _ _ _ (by simp), setCell_alloc3 _ _ _ _ _ _ _ _ (by simp)]
  rfl
theorem results_cell_row2 {P : Program} {fn : Func} {p u : Tmp} {ty : TypeId} (h : fn.results = #[.cell p ty, .tmp u]) (tmps : Array Value) (w : World) (g : Nat) (t : TypeId) (cs : Array Value) (fr : Nat × Nat) (d : TypeDesc)
    (hp : tmps.getD p undef = .pointer (some ⟨g, 0, none⟩)) (hg : w.heap[g]? = some (.cells cs t fr))
    (hu : P.underlying ty = some d) (hd : (match d with | .struct _ | .array _ _ => true | _ => false) = true) (hi : (P.info? ty).map (·.size) = some cs.size) :
    (results fn tmps).run P w = .ok (.tuple #[.agg cs, tmps.getD u undef]) w := by
  rw [results_cell_tmp h, hp]
  simp [asAddr, run_loadVar_row w g t ty cs fr d hg hu hd hi]
theorem oneA {cs : List Value} (h : ∀ u ∈ cs, u.oneCell' = true) : cs.toArray.all (fun u => u.oneCell') = true := by simpa using h
theorem size_ent : (Tryz.prog.info? 23).map (fun i => i.size) = some 5 := by kernel_rfl
theorem eCells_one (e : Ent) : ∀ u ∈ eCells e, u.oneCell' = true := by
  intro u hu
  simp [eCells] at hu
  rcases hu with rfl | rfl | rfl | rfl | rfl <;> rfl
theorem heap3b {w w1 : World} {A B C : Obj} (hx : Ext (((w.alloc A).alloc B).alloc C) w1) : w1.heap[w.heap.size + 1]? = some B := by
  have h0 : (((w.alloc A).alloc B).alloc C).heap[w.heap.size + 1]? = some B := by
    rw [Below.heap_alloc _ _ _ (by simp)]
    have := heap_alloc_new (w.alloc A) B
    rwa [size_alloc] at this
  exact hx.heap h0
abbrev entW (w : World) (e : Ent) : World := ((w.alloc (.cells (eCells e).toArray 23)).alloc (.cells (eCells zeroE).toArray 23)).alloc (.cells #[.pointer (some ⟨w.heap.size, 0, none⟩), .pointer (some ⟨w.heap.size, 1, none⟩), .pointer (some ⟨w.heap.size, 2, none⟩), .pointer (some ⟨w.heap.size, 3, none⟩)] 76)
theorem entW_ptrs (w : World) (e : Ent) (hs : eokS e) : Ptrs (entW w e) (.slice (some ⟨w.heap.size + 1 + 1, 0, none⟩) 4 4) [(⟨w.heap.size, 0, none⟩, e.id), (⟨w.heap.size, 1, none⟩, e.title), (⟨w.heap.size, 2, none⟩, e.link), (⟨w.heap.size, 3, none⟩, e.content)] := by
  obtain ⟨s1, s2, s3, s4⟩ := hs
  refine ⟨rsl_block (e := 76) (fr := (0, 0)) (cs := [_, _, _, _]) (heap_alloc3_new w _ _ _) rfl (by decide), ?_, ?_, ?_⟩
  · have hx : Ext (w.alloc (.cells (eCells e).toArray 23)) (entW w e) := ((Ext.refl _).alloc _).alloc _
    intro p hp
    simp only [List.mem_cons, List.mem_nil_iff, or_false] at hp
    rcases hp with rfl | rfl | rfl | rfl
    · exact ⟨hx.boxed 0 _ rfl, hx.boxedF 0⟩
    · exact ⟨hx.boxed 1 _ rfl, hx.boxedF 1⟩
    · exact ⟨hx.boxed 2 _ rfl, hx.boxedF 2⟩
    · exact ⟨hx.boxed 3 _ rfl, hx.boxedF 3⟩
  · intro p hp
    simp only [List.mem_cons, List.mem_nil_iff, or_false] at hp
    rcases hp with rfl | rfl | rfl | rfl <;> assumption
  · simp
theorem entColl_bad (e : Ent) (w : World) (hE : Env w) (hs : eokS e) (h0 : firstErr (strsE e) ≠ 0) :
    Calls Tryz.prog 43 #[.slice (some ⟨w.heap.size + 1 + 1, 0, none⟩) 4 4] (entW w e) fun x w' => x = .returned (.int .i64 (firstErr (strsE e) : Nat)) ∧ Ext (entW w e) w' := by
  refine (collapseAll_any _ _ _ (((hE.alloc _).alloc _).alloc _) (entW_ptrs w e hs)).mono ?_
  rintro x w' ⟨h1, h2⟩
  refine ⟨h1, ?_⟩
  rcases h2 with h2 | h2
  · exact absurd h2.1 h0
  · exact h2.2
theorem entColl_ok (e : Ent) (w : World) (hE : Env w) (hs : eokS e) (h0 : firstErr (strsE e) = 0) :
    Calls Tryz.prog 43 #[.slice (some ⟨w.heap.size + 1 + 1, 0, none⟩) 4 4] (entW w e) fun x w' => x = .returned (.int .i64 0) ∧ Ext (entW w (collE e)) w' := by
  refine (collapseAll_any _ _ _ (((hE.alloc _).alloc _).alloc _) (entW_ptrs w e hs)).mono ?_
  rintro x w' ⟨h1, h2⟩
  have h0' : firstErr (List.map (·.2) [((⟨w.heap.size, 0, none⟩ : Addr), e.id), (⟨w.heap.size, 1, none⟩, e.title), (⟨w.heap.size, 2, none⟩, e.link), (⟨w.heap.size, 3, none⟩, e.content)]) = 0 := h0
  rw [h0'] at h1 h2
  refine ⟨h1, ?_⟩
  rcases h2 with h2 | h2
  · have h3 := h2.2
    have e1 := setS_box4 w e.id e.title e.link e.content (collapse e.id) (collapse e.title) (collapse e.link) (collapse e.content) (.int .i64 e.upd) 23 (0, 0) (.cells (eCells zeroE).toArray 23) (.cells #[.pointer (some ⟨w.heap.size, 0, none⟩), .pointer (some ⟨w.heap.size, 1, none⟩), .pointer (some ⟨w.heap.size, 2, none⟩), .pointer (some ⟨w.heap.size, 3, none⟩)] 76)
    have h4 : Below (entW w e).heap.size (entW w (collE e)) w' := by
      have h5 := h3
      simp only [List.map_cons, List.map_nil] at h5
      rw [show setS (entW w e) _ = entW w (collE e) from e1] at h5
      exact h5
    have e2 : (entW w e).heap.size = (entW w (collE e)).heap.size := by simp
    rw [e2] at h4
    exact h4
  · exact absurd rfl h2.1
theorem ne_noS {s : ByteArray} (h : s ≠ noS) : s.toList.isEmpty = false := by
  rw [List.isEmpty_eq_false_iff]
  intro e
  exact h (toList_inj (e.trans (by rw [ByteArray.toList_eq]; rfl)))
set_option maxRecDepth 100000 in
set_option maxHeartbeats 2000000 in
theorem normEntry_any (e : Ent) (w : World) (hE : Env w) (hs : eokS e) :
    Calls Tryz.prog 17 #[.agg (eCells e).toArray] w fun x w' => x = .returned (.tuple #[.agg (eCells (normE e)).toArray, .int .i64 (errE e : Nat)]) ∧ Ext w w' := by
  have hw3 : Ext w (entW w e) := (((Ext.refl w).alloc _).alloc _).alloc _
  have hw3' : Ext w (entW w (collE e)) := (((Ext.refl w).alloc _).alloc _).alloc _
  by_cases h0 : firstErr (strsE e) = 0
  · have HB := Lib.hid (entColl_ok e w hE hs h0)
    have HT := Lib.hid (fun w' => inTime_any e.upd w')
    have hf0 := errE_zero (e := e)
    by_cases h1 : collapse e.id = noS
    · have hf1 : errE e = 19 := by unfold errE; rw [if_neg (by simpa using h0), if_pos h1]
      have hf2 : normE e = zeroE := by unfold normE; rw [if_neg (by rw [hf1]; decide)]
      rw [hf1, hf2]
      unfold collE at HB hw3'
      rw [h1] at HB hw3'
      clear hf1 hf2 h0 h1 hf0 HT
      obtain ⟨id, title, link, content, upd⟩ := e
      have HT := Lib.hid (fun w' => inTime_any upd w')
      generalize collapse title = ct at *
      generalize collapse link = cl at *
      generalize collapse content = cc at *
      unfold entW eCells zeroE noS at *
      go_enter Tryz.func17, Tryz.ntmps17
      go_wp2_with (first
        | (go_at_call 43; refine (HB.out).mono ?_; rintro e w1 ⟨rfl, hx1⟩; (have hk1 := heap3b hx1); (have c0 := boxed3a ⟨_, hx1⟩ 0 _ rfl); (have c1 := boxed3a ⟨_, hx1⟩ 1 _ rfl); (have c2 := boxed3a ⟨_, hx1⟩ 2 _ rfl); (have c3 := boxed3a ⟨_, hx1⟩ 3 _ rfl); (have c4 := boxed3a ⟨_, hx1⟩ 4 _ rfl); dsimp only at c0 c1 c2 c3 c4)
        | (go_at_call 44; refine (HT.out _).mono ?_; rintro e w2 ⟨rfl, rfl⟩)
        | (refine wpList_store_row rfl 23 (.tmp 2) (.tmp 20) rfl (w.heap.size + 1) _ rfl rfl _ _ hk1 size_ent rfl (oneA (eCells_one zeroE)) ?_))
      ((try simp only [Exit.inBlock, Exit.then]); refine bodyPost_ret (results_cell_row2 rfl _ _ _ _ _ _ _ rfl (setRow_heap _ _ _ _ _ _ hk1) Tryz.underlying23 rfl size_ent) rfl ?_)
      exact ⟨rfl, (hw3'.trans hx1).setRow (by omega) _⟩
    · have hne := ne_noS h1
      cases h2 : inT e.upd with
      | false =>
        have hf1 : errE e = 3 := by unfold errE; rw [if_neg (by simpa using h0), if_neg h1, h2]; rfl
        have hf2 : normE e = zeroE := by unfold normE; rw [if_neg (by rw [hf1]; decide)]
        rw [hf1, hf2]
        rw [h2] at HT
        unfold collE at HB hw3'
        clear hf1 hf2 h0 h1 hf0 h2
        obtain ⟨id, title, link, content, upd⟩ := e
        simp only at hne HB hw3' HT
        generalize collapse id = ci at *
        generalize collapse title = ct at *
        generalize collapse link = cl at *
        generalize collapse content = cc at *
        unfold entW eCells zeroE noS at *
        go_enter Tryz.func17, Tryz.ntmps17
        go_wp2_with (first
          | (go_at_call 43; refine (HB.out).mono ?_; rintro e w1 ⟨rfl, hx1⟩; (have hk1 := heap3b hx1); (have c0 := boxed3a ⟨_, hx1⟩ 0 _ rfl); (have c1 := boxed3a ⟨_, hx1⟩ 1 _ rfl); (have c2 := boxed3a ⟨_, hx1⟩ 2 _ rfl); (have c3 := boxed3a ⟨_, hx1⟩ 3 _ rfl); (have c4 := boxed3a ⟨_, hx1⟩ 4 _ rfl); dsimp only at c0 c1 c2 c3 c4)
          | (go_at_call 44; refine (HT.out _).mono ?_; rintro e w2 ⟨rfl, rfl⟩)
          | (refine wpList_store_row rfl 23 (.tmp 2) (.tmp 26) rfl (w.heap.size + 1) _ rfl rfl _ _ hk1 size_ent rfl (oneA (eCells_one zeroE)) ?_))
        ((try simp only [Exit.inBlock, Exit.then]); refine bodyPost_ret (results_cell_row2 rfl _ _ _ _ _ _ _ rfl (setRow_heap _ _ _ _ _ _ hk1) Tryz.underlying23 rfl size_ent) rfl ?_)
        exact ⟨rfl, (hw3'.trans hx1).setRow (by omega) _⟩
      | true =>
        have hf1 : errE e = 0 := hf0.2 ⟨h0, h1, h2⟩
        have hf2 : normE e = collE e := by unfold normE; rw [if_pos hf1]
        rw [hf1, hf2]
        rw [h2] at HT
        unfold collE at HB hw3' ⊢
        clear hf1 hf2 h0 h1 hf0 h2
        obtain ⟨id, title, link, content, upd⟩ := e
        simp only at hne HB hw3' HT ⊢
        generalize collapse id = ci at *
        generalize collapse title = ct at *
        generalize collapse link = cl at *
        generalize collapse content = cc at *
        unfold entW eCells zeroE noS at *
        go_enter Tryz.func17, Tryz.ntmps17
        go_wp2_with (first
          | (go_at_call 43; refine (HB.out).mono ?_; rintro e w1 ⟨rfl, hx1⟩; (have hk1 := heap3b hx1); (have c0 := boxed3a ⟨_, hx1⟩ 0 _ rfl); (have c1 := boxed3a ⟨_, hx1⟩ 1 _ rfl); (have c2 := boxed3a ⟨_, hx1⟩ 2 _ rfl); (have c3 := boxed3a ⟨_, hx1⟩ 3 _ rfl); (have c4 := boxed3a ⟨_, hx1⟩ 4 _ rfl); dsimp only at c0 c1 c2 c3 c4)
          | (go_at_call 44; refine (HT.out _).mono ?_; rintro e w2 ⟨rfl, rfl⟩)
          | (refine wpList_store_row rfl 23 (.tmp 2) (.tmp 27) rfl (w.heap.size + 1) _ rfl rfl _ _ hk1 size_ent rfl (oneA (eCells_one ⟨ci, ct, cl, cc, upd⟩)) ?_))
        ((try simp only [Exit.inBlock, Exit.then]); refine bodyPost_ret (results_cell_row2 rfl _ _ _ _ _ _ _ rfl (setRow_heap _ _ _ _ _ _ hk1) Tryz.underlying23 rfl size_ent) rfl ?_)
        exact ⟨rfl, (hw3'.trans hx1).setRow (by omega) _⟩
  · have HA := Lib.hid (entColl_bad e w hE hs h0)
    have hf1 : errE e = firstErr (strsE e) := by unfold errE; rw [if_pos h0]
    have hf2 : normE e = zeroE := by unfold normE; rw [if_neg (by rw [hf1]; exact h0)]
    rw [hf1, hf2]
    clear hf1 hf2
    obtain ⟨E, hEr⟩ : ∃ E, firstErr (strsE e) = E := ⟨_, rfl⟩
    rw [hEr] at HA h0 ⊢
    have hb : ((E : Int) != 0) = true := by simp; omega
    clear hEr h0
    obtain ⟨id, title, link, content, upd⟩ := e
    unfold entW eCells zeroE noS at *
    go_enter Tryz.func17, Tryz.ntmps17
    go_wp2_with (first
      | (go_at_call 43; refine (HA.out).mono ?_; rintro e w1 ⟨rfl, hx1⟩; (have hk1 := heap3b hx1))
      | (refine wpList_store_row rfl 23 (.tmp 2) (.tmp 14) rfl (w.heap.size + 1) _ rfl rfl _ _ hk1 size_ent rfl (oneA (eCells_one zeroE)) ?_))
    ((try simp only [Exit.inBlock, Exit.then]); refine bodyPost_ret (results_cell_row2 rfl _ _ _ _ _ _ _ rfl (setRow_heap _ _ _ _ _ _ hk1) Tryz.underlying23 rfl size_ent) rfl ?_)
    exact ⟨rfl, (hw3.trans hx1).setRow (by omega) _⟩
end Go.Proofs.YtgecijhgonfldaaGreatDoor
