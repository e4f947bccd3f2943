/- YtgecijhgonfldaaGreatDoor: texts Dec, JvP, Jv1, Load, put one behind the other. -/
import Derived.Lib.ItoaLen
import Derived.Lib.AppendIntMem
import Derived.Test.YtgecijhgonfldaaGreatDoorM03
import Derived.Test.YtgecijhgonfldaaGreatDoorM06
import Derived.Test.YtgecijhgonfldaaGreatDoorM07
/- Contracts: decimals: the reference's Decimal, strconv.FormatInt at base 10. -/
namespace Go.Proofs.YtgecijhgonfldaaGreatDoor
open Go Go.RowKit
set_option linter.unusedVariables false
attribute [local go_sem] conv1 strOfNums_size

def i64ok (n : Int) : Prop := -9223372036854775808 ≤ n ∧ n ≤ 9223372036854775807
def itoaS (n : Int) : ByteArray := str (Lib.itoa n)
theorem digits_small (u : Nat) (h : u < 10) : Lib.decDigits u = [UInt8.ofNat (48 + u)] := by rw [Lib.decDigits, dif_pos h]
theorem digits_big (u : Nat) (h : ¬ u < 10) : Lib.decDigits u = Lib.decDigits (u / 10) ++ [UInt8.ofNat (48 + u % 10)] := by rw [Lib.decDigits, dif_neg h]
theorem digits_len (n : Int) (h : i64ok n) : (Lib.decDigits n.natAbs).length ≤ 21 := by
  have := Lib.itoa_length_le n h.1 h.2
  unfold Lib.itoa at this
  split at this
  · simp at this; omega
  · rwa [show n.toNat = n.natAbs by omega] at this

theorem cons_nums (x : Int) (d : Nat) (l : List UInt8) (h : x.toNat = d) : strOfNums [x] ++ str l = str (UInt8.ofNat d :: l) := by
  subst h; exact bytes_inj (by simp [str_nums])
theorem wrap_ok (x : Int) (h : i64ok x) : wrap64 x = x := by unfold wrap64; have := h.1; have := h.2; omega
theorem sign_nums (n : Int) (l : List UInt8) (hn : n < 0) (h : l = Lib.decDigits n.natAbs) : ({ data := #[45] } : ByteArray) ++ str l = itoaS n := by
  unfold itoaS Lib.itoa
  rw [if_pos hn, h]
  exact bytes_inj (by simp)
theorem plain_nums (n : Int) (l : List UInt8) (hn : 0 ≤ n) (h : l = Lib.decDigits n.natAbs) : str l = itoaS n := by
  unfold itoaS Lib.itoa
  rw [if_neg (by omega), h, show n.toNat = n.natAbs by omega]

set_option maxRecDepth 100000 in
set_option maxHeartbeats 1000000 in
theorem decimal_any (n : Int) (w : World) (hn : i64ok n) :
    Calls Tryz.prog 94 #[.int .i64 n] w fun e w' => e = .returned (.string (itoaS n)) ∧ Ext w w' := by
  have hdl := digits_len n hn
  obtain ⟨R, hR⟩ : ∃ R, itoaS n = R := ⟨_, rfl⟩
  rw [hR]
  have HR := Lib.hid hR
  have HDL := Lib.hid hdl
  have HN := Lib.hid hn
  clear hR hdl hn
  go_enter Tryz.func94, Tryz.ntmps94
  go_wp2
  go_loopw [3, 4, 5] (fun v m _ wr => ∃ (x : Int) (l : List UInt8), m = .int .i64 x ∧ v = .string (str l) ∧ Hid (i64ok x) ∧ Hid (Lib.decDigits x.natAbs ++ l = Lib.decDigits n.natAbs) ∧ Ext w wr) (fun _ m _ _ => (intOf m).natAbs)
  case atStart => exact ⟨n, [], rfl, rfl, HN, by show _ = _; simp, Ext.refl _⟩
  case round =>
    obtain ⟨x, l, rfl, rfl, hx64, hd, hx⟩ := hrel
    have hll : l.length ≤ 21 := by
      have h1 := congrArg List.length hd.out
      have h2 := HDL.out
      rw [List.length_append] at h1
      omega
    by_cases h10 : x.natAbs < 10
    · have hcase : x = -9 ∨ x = -8 ∨ x = -7 ∨ x = -6 ∨ x = -5 ∨ x = -4 ∨ x = -3 ∨ x = -2 ∨ x = -1 ∨ x = 0 ∨ x = 1 ∨ x = 2 ∨ x = 3 ∨ x = 4 ∨ x = 5 ∨ x = 6 ∨ x = 7 ∨ x = 8 ∨ x = 9 := by omega
      have hs : Hid ((UInt8.ofNat (48 + x.natAbs)) :: l = Lib.decDigits n.natAbs) := by
        show _ = _
        rw [← hd.out, digits_small _ h10]; rfl
      have hl2 : l.length < 100 := by omega
      clear HDL hd h10 hll HN
      by_cases hneg : n < 0
      · have HF : Hid (({ data := #[45] } : ByteArray) ++ str ((UInt8.ofNat (48 + x.natAbs)) :: l) = R) := by
          show _ = _
          rw [sign_nums n _ hneg hs.out, HR.out]
        clear HR hx64
        rcases hcase with rfl | rfl | rfl | rfl | rfl | rfl | rfl | rfl | rfl | rfl | rfl | rfl | rfl | rfl | rfl | rfl | rfl | rfl | rfl
        all_goals go_wp2
        all_goals go_ret
        all_goals exact ⟨by rw [← HF.out]; rfl, by repeat (first | exact hx | apply Ext.drew | apply Ext.alloc)⟩
      · have HF : Hid (str ((UInt8.ofNat (48 + x.natAbs)) :: l) = R) := by
          show _ = _
          rw [plain_nums n _ (by omega) hs.out, HR.out]
        clear HR hx64
        rcases hcase with rfl | rfl | rfl | rfl | rfl | rfl | rfl | rfl | rfl | rfl | rfl | rfl | rfl | rfl | rfl | rfl | rfl | rfl | rfl
        all_goals go_wp2
        all_goals go_ret
        all_goals exact ⟨by rw [← HF.out]; rfl, by repeat (first | exact hx | apply Ext.drew | apply Ext.alloc)⟩
    · have hs : Hid (Lib.decDigits (x.natAbs / 10) ++ (UInt8.ofNat (48 + x.natAbs % 10) :: l) = Lib.decDigits n.natAbs) := by
        show _ = _
        rw [← hd.out, digits_big _ h10, List.append_assoc]; rfl
      by_cases hpos : 0 ≤ x
      · obtain ⟨a, rfl⟩ := Int.eq_ofNat_of_zero_le hpos
        have hb := hx64.out.2
        have ha : 10 ≤ (a : Int) := by omega
        have ha2 : Hid ((a : Int) ≤ 9223372036854775807) := hb
        clear hb h10 hpos
        go_wp2
        have hok : i64ok ((a : Int) / 10) := by have := ha2.out; unfold i64ok; omega
        refine ⟨⟨(a : Int) / 10, UInt8.ofNat (48 + a % 10) :: l, by rw [wrap_ok _ hok], by rw [cons_nums _ (48 + a % 10) l (by omega)], hok, ?_, hx.alloc _⟩, ?_⟩
        · have h := hs.out
          rw [show ((a : Int)).natAbs = a by omega] at h
          show _ = _
          rw [show ((a : Int) / 10).natAbs = a / 10 by omega]
          exact h
        · rw [wrap_ok _ hok]; simp [intOf]; omega
      · obtain ⟨a, rfl⟩ : ∃ a : Nat, x = -(a : Int) := ⟨x.natAbs, by omega⟩
        have hb := hx64.out.1
        have ha : 10 ≤ (a : Int) := by omega
        have ha2 : Hid (-9223372036854775808 ≤ -(a : Int)) := hb
        clear hb h10 hpos
        go_wp2
        all_goals have hok : i64ok (-((a : Int) / 10)) := by have := ha2.out; unfold i64ok; omega
        all_goals refine ⟨⟨-((a : Int) / 10), UInt8.ofNat (48 + a % 10) :: l, by rw [wrap_ok _ hok], by rw [cons_nums _ (48 + a % 10) l (by omega)], hok, ?_, hx.alloc _⟩, by rw [wrap_ok _ hok]; simp [intOf]; omega⟩
        all_goals have h := hs.out
        all_goals rw [show (-(a : Int)).natAbs = a by omega] at h
        all_goals (show _ = _)
        all_goals rw [show (-((a : Int) / 10)).natAbs = a / 10 by omega]
        all_goals exact h
theorem formatInt_any (n : Int) (w : World) (hE : Env w) (hn : i64ok n) :
    Calls Tryz.prog 170 #[.int .i64 n, .int .i64 10] w fun e w' => e = .returned (.string (itoaS n)) ∧ Ext w w' := by
  refine (Tryz.strconv_FormatInt_10 n hn.1 hn.2 w hE.pow).mono ?_
  rintro e w' ⟨rfl, k, os, rfl⟩
  exact ⟨rfl, Lib.below_grow _ w (Nat.le_refl _) k os⟩
end Go.Proofs.YtgecijhgonfldaaGreatDoor
/- JSON values as plain data, their validity and their canonical text. No program in sight. -/
namespace Go.Proofs.YtgecijhgonfldaaGreatDoor
open Go

inductive JV where
  | null
  | bool (b : Bool)
  | int (n : Int)
  | str (s : ByteArray)
  | arr (l : List JV)

/-- texts, separated by commas -/
def commas : List (List UInt8) → List UInt8
  | [] => []
  | [t] => t
  | t :: u :: r => t ++ 44 :: commas (u :: r)
theorem commas_snoc : ∀ (l : List (List UInt8)) (t : List UInt8), commas (l ++ [t]) = if l = [] then t else commas l ++ 44 :: t
  | [], t => by simp [commas]
  | [u], t => by simp [commas]
  | u :: v :: r, t => by
    have ih := commas_snoc (v :: r) t
    simp only [List.cons_append] at ih ⊢
    rw [if_neg (by simp)] at ih ⊢
    simp only [commas, ih, List.append_assoc, List.cons_append]

def jtext : JV → List UInt8
  | .null => [110, 117, 108, 108]
  | .bool b => if b then [116, 114, 117, 101] else [102, 97, 108, 115, 101]
  | .int n => Lib.itoa n
  | .str s => quoteL s.data.toList
  | .arr l => 91 :: (commas (l.map jtext) ++ [93])
/-- are all strings valid UTF-8, and the values nested at most 100 deep -/
def jvalid : JV → Nat → Bool
  | .str s, depth => decide (depth ≤ 100) && Lib.validD s.data.toList
  | .arr l, depth => decide (depth ≤ 100) && (l.map fun j => jvalid j (depth + 1)).all id
  | _, depth => decide (depth ≤ 100)
/-- within the sizes that the walks ask for -/
def jok : JV → Prop
  | .int n => -9223372036854775808 ≤ n ∧ n ≤ 9223372036854775807
  | .str s => s.size ≤ 16777216
  | .arr l => ∀ j ∈ l, jok j
  | _ => True
def jwrite (j : JV) : ByteArray × Nat := if jvalid j 1 then (str (jtext j), 0) else (⟨#[]⟩, 22)
theorem jtext_arr (l : List JV) : jtext (.arr l) = 91 :: (commas (l.map jtext) ++ [93]) := by rw [jtext]
theorem jvalid_arr (d : Nat) (l : List JV) : jvalid (.arr l) d = (decide (d ≤ 100) && l.all fun j => jvalid j (d + 1)) := by rw [jvalid]; simp [List.all_map]
theorem jok_arr (l : List JV) : jok (.arr l) = ∀ j ∈ l, jok j := by rw [jok]
end Go.Proofs.YtgecijhgonfldaaGreatDoor
/- JSON values in memory; contracts: jsonwrite's unused, valid, Check. -/
namespace Go.Proofs.YtgecijhgonfldaaGreatDoor
open Go Go.RowKit
set_option linter.unusedVariables false

/-- the cells of an api.Value: kind, bool, number, string, items, members, offset -/
def vcells (k : Int) (b : Bool) (n : Int) (s : ByteArray) (its : Value) (at_ : Int) : List Value := [.int .i64 k, .bool b, .int .i64 n, .string s, its, .slice none 0 0, .int .i64 at_]
/-- seven cells that hold a JSON value, read to depth n -/
def RVn : Nat → World → JV → List Value → Prop
  | 0, _, _, _ => False
  | n + 1, w, j, cs => ∃ a : Int, match j with
    | .null => cs = vcells 0 false 0 ⟨#[]⟩ (.slice none 0 0) a
    | .bool b => cs = vcells 1 b 0 ⟨#[]⟩ (.slice none 0 0) a
    | .int x => cs = vcells 2 false x ⟨#[]⟩ (.slice none 0 0) a
    | .str s => cs = vcells 3 false 0 s (.slice none 0 0) a
    | .arr l => ∃ (v : Value) (css : List (List Value)), cs = vcells 4 false 0 ⟨#[]⟩ v a ∧ css.length = l.length ∧ RSl w 7 v l.length css.flatten ∧ ∀ (i : Nat) (j : JV) (c : List Value), l[i]? = some j → css[i]? = some c → RVn n w j c
def RV (w : World) (j : JV) (cs : List Value) : Prop := ∃ n, RVn n w j cs
theorem RVn.ext {w w' : World} (hx : Ext w w') : ∀ (n : Nat) (j : JV) (cs : List Value), RVn n w j cs → RVn n w' j cs
  | 0, _, _, h => h.elim
  | n + 1, j, cs, ⟨a, h⟩ => by
    refine ⟨a, ?_⟩
    cases j with
    | arr l =>
      obtain ⟨v, css, h1, h2, h3, h4⟩ := h
      exact ⟨v, css, h1, h2, h3.ext hx, fun i j c hj hc => RVn.ext hx n j c (h4 i j c hj hc)⟩
    | _ => exact h
theorem RVn.more {w : World} : ∀ (n m : Nat) (j : JV) (cs : List Value), n ≤ m → RVn n w j cs → RVn m w j cs
  | 0, _, _, _, _, h => h.elim
  | n + 1, 0, _, _, h, _ => by omega
  | n + 1, m + 1, j, cs, hnm, ⟨a, h⟩ => by
    refine ⟨a, ?_⟩
    cases j with
    | arr l =>
      obtain ⟨v, css, h1, h2, h3, h4⟩ := h
      exact ⟨v, css, h1, h2, h3, fun i j c hj hc => RVn.more n m j c (by omega) (h4 i j c hj hc)⟩
    | _ => exact h
theorem RV.ext {w w' : World} {j : JV} {cs : List Value} (h : RV w j cs) (hx : Ext w w') : RV w' j cs := let ⟨n, h⟩ := h; ⟨n, h.ext hx⟩
theorem RVn.len {w : World} {n : Nat} {j : JV} {cs : List Value} (h : RVn n w j cs) : cs.length = 7 := by
  cases n with
  | zero => exact h.elim
  | succ n =>
    obtain ⟨a, h⟩ := h
    cases j with
    | arr l => obtain ⟨v, css, rfl, _⟩ := h; rfl
    | _ => subst h; rfl

set_option maxRecDepth 100000 in
theorem unused_any (n : Nat) (j : JV) (cs : List Value) (w : World) (h : RVn n w j cs) :
    Calls Tryz.prog 178 #[.agg cs.toArray] w fun e w' => e = .returned (.bool true) ∧ Ext w w' := by
  cases n with
  | zero => exact h.elim
  | succ n =>
    obtain ⟨a, h⟩ := h
    cases j with
    | arr l =>
      obtain ⟨v, css, rfl, hcl, hr, _⟩ := h
      obtain ⟨_, A, c, rfl, hmc, hcm, _, _⟩ := hr
      unfold vcells
      go_enter Tryz.func178, Tryz.ntmps178
      go_wp2
      all_goals go_ret
      all_goals exact ⟨by first | rfl | (refine congrArg (fun b => Ending.returned (.bool b)) ?_; simp_all), by repeat (first | exact Ext.refl _ | apply Ext.drew | apply Ext.alloc | (refine Ext.setCell ?_ (by simp) _))⟩
    | null =>
      subst h
      unfold vcells
      go_enter Tryz.func178, Tryz.ntmps178
      go_wp2
      all_goals go_ret
      all_goals exact ⟨by first | rfl | (refine congrArg (fun b => Ending.returned (.bool b)) ?_; simp_all), by repeat (first | exact Ext.refl _ | apply Ext.drew | apply Ext.alloc | (refine Ext.setCell ?_ (by simp) _))⟩
    | bool b =>
      subst h
      unfold vcells
      go_enter Tryz.func178, Tryz.ntmps178
      go_wp2
      all_goals go_ret
      all_goals exact ⟨by first | rfl | (refine congrArg (fun b => Ending.returned (.bool b)) ?_; simp_all), by repeat (first | exact Ext.refl _ | apply Ext.drew | apply Ext.alloc | (refine Ext.setCell ?_ (by simp) _))⟩
    | int x =>
      subst h
      unfold vcells
      go_enter Tryz.func178, Tryz.ntmps178
      go_wp2
      all_goals go_ret
      all_goals exact ⟨by first | rfl | (refine congrArg (fun b => Ending.returned (.bool b)) ?_; simp_all), by repeat (first | exact Ext.refl _ | apply Ext.drew | apply Ext.alloc | (refine Ext.setCell ?_ (by simp) _))⟩
    | str t =>
      subst h
      unfold vcells
      go_enter Tryz.func178, Tryz.ntmps178
      go_wp2
      all_goals go_ret
      all_goals exact ⟨by first | rfl | (refine congrArg (fun b => Ending.returned (.bool b)) ?_; simp_all), by repeat (first | exact Ext.refl _ | apply Ext.drew | apply Ext.alloc | (refine Ext.setCell ?_ (by simp) _))⟩
end Go.Proofs.YtgecijhgonfldaaGreatDoor
/- load of a whole structure from cells that the world tells. -/
namespace Go.Proofs.YtgecijhgonfldaaGreatDoor
open Go Go.RowKit
set_option linter.unusedVariables false
section
variable {P : Program}
theorem run_loadVar_agg (w : World) (ty : TypeId) (ad : Addr) (cs : List Value) (d : TypeDesc) (hc : ∀ j v, cs[j]? = some v → w.cell? (ad.add j) = some v)
    (hu : P.underlying ty = some d) (hd : (match d with | .struct _ | .array _ _ => true | _ => false) = true) (hi : (P.info? ty).map (·.size) = some cs.length) :
    (loadVar ty ad).run P w = .ok (.agg cs.toArray) w := by
  have hl := run_loadCells_list (P := P) w ad cs hc
  cases hq : P.info? ty with
  | none => simp [hq] at hi
  | some i =>
    have hs : i.size = cs.length := by simpa [hq] using hi
    have hagg : (isAgg ty).run P w = .ok true w := by
      unfold isAgg
      rw [Sem.run_bind, run_underlying hu w]
      cases d <;> simp_all
    simp [loadVar, Sem.run_bind, hagg, sizeOf, typeInfo, hq, hs, hl]
theorem wp_load_agg {o : Oper} {a : Act} {w : World} {K : Act → World → Prop} {Q : Exit → Act → World → Prop} (ty : TypeId) (x : Operand) (ho : o.op = .load ty x)
    (ad : Addr) (hx : a.eval x = .pointer (some ad)) (cs : List Value) (d : TypeDesc) (hc : ∀ j v, cs[j]? = some v → w.cell? (ad.add j) = some v)
    (hu : P.underlying ty = some d) (hd : (match d with | .struct _ | .array _ _ => true | _ => false) = true) (hi : (P.info? ty).map (·.size) = some cs.length)
    (h : K (a.put o.dst (.agg cs.toArray)) w) : o.wp P a w K Q := by
  unfold Oper.wp execOp
  simp only [ho, hx, Instr.loadAt, Instr.sureAddr, Sem.run_bind, Sem.run_pure, Result.andThen_ok, run_loadVar_agg w ty ad cs d hc hu hd hi]
  exact h
theorem wpList_load_agg {ops : Array Oper} {rest : List Oper} {o : Oper} {a : Act} {w : World} {Q : Exit → Act → World → Prop} (hgd : o.guard = none) (ty : TypeId) (x : Operand) (ho : o.op = .load ty x)
    (ad : Addr) (hx : a.eval x = .pointer (some ad)) (cs : List Value) (d : TypeDesc) (hc : ∀ j v, cs[j]? = some v → w.cell? (ad.add j) = some v)
    (hu : P.underlying ty = some d) (hd : (match d with | .struct _ | .array _ _ => true | _ => false) = true) (hi : (P.info? ty).map (·.size) = some cs.length)
    (h : wpList P ops Q rest (a.put o.dst (.agg cs.toArray)) w) : wpList P ops Q (o :: rest) a w :=
  wpList_plain hgd fun _ hK => wp_load_agg ty x ho ad hx cs d hc hu hd hi (hK _ _ h)
theorem step_load_agg {ops : Array Oper} {o : Oper} {a : Act} {w : World} {K : Act → World → Prop} {Q : Exit → Act → World → Prop} {E : Prop} (hgd : o.guard = none) (ty : TypeId) (x : Operand) (ho : o.op = .load ty x)
    (ad : Addr) (hx : a.eval x = .pointer (some ad)) (cs : List Value) (d : TypeDesc) (hc : ∀ j v, cs[j]? = some v → w.cell? (ad.add j) = some v)
    (hu : P.underlying ty = some d) (hd : (match d with | .struct _ | .array _ _ => true | _ => false) = true) (hi : (P.info? ty).map (·.size) = some cs.length)
    (h : K (a.put o.dst (.agg cs.toArray)) w) : if Region.wanted o (yielded ops a.tmps) = true then Oper.wp P o a w K Q else E := by
  have hw : Region.wanted o (yielded ops a.tmps) = true := by simp [Region.wanted, hgd]
  rw [if_pos hw]
  exact wp_load_agg ty x ho ad hx cs d hc hu hd hi h
end

theorem Ext.setRow {a b : World} (h : Ext a b) {g : Nat} (hg : a.heap.size ≤ g) (cs : Array Value) : Ext a (b.setRow g cs) :=
  h.then ⟨rfl, rfl, rfl, by simp [World.setRow], fun k hk => setRow_other b g k cs (by omega)⟩
theorem own_setRow {w : World} {base size n : Nat} {e : TypeId} {v : Value} {xs : List Value} (h : w.ownsRow base e size v n xs) {g : Nat} (hg : g < base) (cs : Array Value) : (w.setRow g cs).ownsRow base e size v n xs := by
  refine h.kept (row := some g) ⟨rfl, rfl, rfl, by simp [World.setRow], fun k _ hk => setRow_other w g k cs (fun e => hk (by rw [e]))⟩ (Or.inr fun hv => ?_)
  have := (h.lt g hv).1
  omega
theorem heap_alloc3_new (w : World) (A B C : Obj) : (((w.alloc A).alloc B).alloc C).heap[w.heap.size + 1 + 1]? = some C := by
  have h := heap_alloc_new ((w.alloc A).alloc B) C
  have e : ((w.alloc A).alloc B).heap.size = w.heap.size + 1 + 1 := by
    show ((w.heap.push A).push B).size = _
    simp
  rwa [e] at h
/-- a block of cells reads as a list -/
theorem rsl_block {w : World} {g n size : Nat} {cs : List Value} {e : TypeId} {fr : Nat × Nat} (hg : w.heap[g]? = some (.cells cs.toArray e fr)) (h : cs.length = n * size) (hm : n ≤ maxLen) : RSl w size (.slice (some ⟨g, 0, none⟩) n n) n cs := by
  refine ⟨h, some ⟨g, 0, none⟩, n, rfl, Nat.le_refl _, hm, (fun h => by cases h), fun j u hu => ⟨_, rfl, ?_⟩⟩
  have hadd : (⟨g, 0, none⟩ : Addr).add j = ⟨g, j, none⟩ := by unfold Addr.add; split <;> simp_all
  rw [hadd, Lib.cell_of_heap hg]
  simpa using hu

theorem RSl.at1 {w : World} {size n c m : Nat} {A : Option Addr} {xs : List Value} (h : RSl w size (.slice A m c) n xs) (k : Nat) (u : Value) (hu : xs[k]? = some u) : ∃ ad, A = some ad ∧ w.cell? (ad.add k) = some u := by
  obtain ⟨_, A', c', e, _, _, _, hcell⟩ := h
  cases e
  exact hcell k u hu
theorem addr_add2 (a : Addr) (m n : Nat) : (a.add m).add n = a.add (m + n) := by
  unfold Addr.add
  by_cases hm : m = 0 <;> by_cases hn : n = 0 <;> simp_all [Nat.add_assoc]
/-- an element of k cells of a slice: its address and its cells -/
theorem RSl.elem {w : World} {k : Nat} {v : Value} {n : Nat} {css : List (List Value)} (h : RSl w k v n css.flatten) (hk : 0 < k) (hl : ∀ c ∈ css, c.length = k) (i : Nat) (c : List Value) (hc : css[i]? = some c) :
    ∃ ad cap, v = .slice (some ad) n cap ∧ ∀ j u, c[j]? = some u → w.cell? ((ad.add (k * i)).add j) = some u := by
  obtain ⟨_, A, cap, rfl, _, _, hA, hcell⟩ := h
  have key : ∀ (l : List (List Value)) (i : Nat) (c : List Value) (j : Nat) (u : Value), (∀ c ∈ l, c.length = k) → l[i]? = some c → c[j]? = some u → l.flatten[k * i + j]? = some u := by
    intro l
    induction l with
    | nil => intro i c j u _ h; simp at h
    | cons x l ih =>
      intro i c j u hl hc hu
      have hx : x.length = k := hl x (by simp)
      cases i with
      | zero =>
        simp at hc
        subst hc
        have hj : j < x.length := by
          have := (List.getElem?_eq_some_iff.mp hu).1
          exact this
        simpa [List.getElem?_append, hj] using (List.getElem?_eq_some_iff.mp hu).2
      | succ i =>
        have := ih i c j u (fun c h => hl c (by simp [h])) (by simpa using hc) hu
        simp only [List.flatten_cons]
        have e : k * (i + 1) + j = x.length + (k * i + j) := by rw [hx, Nat.mul_succ]; omega
        rw [e, List.getElem?_append_right (by omega)]
        simpa using this
  have hck : c.length = k := hl c (List.mem_of_getElem? hc)
  have h0 : 0 < c.length := by omega
  obtain ⟨ad, rfl, _⟩ := hcell _ _ (key css i c 0 c[0] hl hc (List.getElem?_eq_getElem h0))
  refine ⟨ad, cap, rfl, fun j u hu => ?_⟩
  obtain ⟨ad', h, hc'⟩ := hcell _ _ (key css i c j u hl hc hu)
  injection h with h
  subst h
  rw [addr_add2]
  exact hc'
/-- the cells of a new block, read later -/
theorem Ext.boxed {w w' : World} {cs : Array Value} {t : TypeId} {fr : Nat × Nat} (h : Ext (w.alloc (.cells cs t fr)) w') (i : Nat) (v : Value) (hv : cs[i]? = some v) : w'.cell? ⟨w.heap.size, i, none⟩ = some v :=
  h.cell (p := ⟨w.heap.size, i, none⟩) (by rw [cell_of_row _ _ _ cs t fr (heap_alloc_new w _)]; exact hv)
theorem cells2 {w : World} {ad : Addr} {c : List Value} (hl : c.length = 2) (h : ∀ j u, c[j]? = some u → w.cell? (ad.add j) = some u) :
    ∃ c0 c1, c = [c0, c1] ∧ w.cell? ad = some c0 ∧ w.cell? ⟨ad.block, ad.off + 1, none⟩ = some c1 := by
  match c, hl with
  | [c0, c1], _ => exact ⟨c0, c1, rfl, h 0 _ rfl, h 1 _ rfl⟩
theorem cells5 {w : World} {ad : Addr} {c : List Value} (hl : c.length = 5) (h : ∀ j u, c[j]? = some u → w.cell? (ad.add j) = some u) :
    ∃ c0 c1 c2 c3 c4, c = [c0, c1, c2, c3, c4] ∧ w.cell? ad = some c0 ∧ w.cell? ⟨ad.block, ad.off + 1, none⟩ = some c1 ∧ w.cell? ⟨ad.block, ad.off + 2, none⟩ = some c2 ∧ w.cell? ⟨ad.block, ad.off + 3, none⟩ = some c3 ∧ w.cell? ⟨ad.block, ad.off + 4, none⟩ = some c4 := by
  match c, hl with
  | [c0, c1, c2, c3, c4], _ => exact ⟨c0, c1, c2, c3, c4, rfl, h 0 _ rfl, h 1 _ rfl, h 2 _ rfl, h 3 _ rfl, h 4 _ rfl⟩
theorem cells6 {w : World} {ad : Addr} {c : List Value} (hl : c.length = 6) (h : ∀ j u, c[j]? = some u → w.cell? (ad.add j) = some u) :
    ∃ c0 c1 c2 c3 c4 c5, c = [c0, c1, c2, c3, c4, c5] ∧ w.cell? ad = some c0 ∧ w.cell? ⟨ad.block, ad.off + 1, none⟩ = some c1 ∧ w.cell? ⟨ad.block, ad.off + 2, none⟩ = some c2 ∧ w.cell? ⟨ad.block, ad.off + 3, none⟩ = some c3 ∧ w.cell? ⟨ad.block, ad.off + 4, none⟩ = some c4 ∧ w.cell? ⟨ad.block, ad.off + 5, none⟩ = some c5 := by
  match c, hl with
  | [c0, c1, c2, c3, c4, c5], _ => exact ⟨c0, c1, c2, c3, c4, c5, rfl, h 0 _ rfl, h 1 _ rfl, h 2 _ rfl, h 3 _ rfl, h 4 _ rfl, h 5 _ rfl⟩
theorem cells7 {w : World} {ad : Addr} {c : List Value} (hl : c.length = 7) (h : ∀ j u, c[j]? = some u → w.cell? (ad.add j) = some u) :
    ∃ c0 c1 c2 c3 c4 c5 c6, c = [c0, c1, c2, c3, c4, c5, c6] ∧ w.cell? ad = some c0 ∧ w.cell? ⟨ad.block, ad.off + 1, none⟩ = some c1 ∧ w.cell? ⟨ad.block, ad.off + 2, none⟩ = some c2 ∧ w.cell? ⟨ad.block, ad.off + 3, none⟩ = some c3 ∧ w.cell? ⟨ad.block, ad.off + 4, none⟩ = some c4 ∧ w.cell? ⟨ad.block, ad.off + 5, none⟩ = some c5 ∧ w.cell? ⟨ad.block, ad.off + 6, none⟩ = some c6 := by
  match c, hl with
  | [c0, c1, c2, c3, c4, c5, c6], _ => exact ⟨c0, c1, c2, c3, c4, c5, c6, rfl, h 0 _ rfl, h 1 _ rfl, h 2 _ rfl, h 3 _ rfl, h 4 _ rfl, h 5 _ rfl, h 6 _ rfl⟩
end Go.Proofs.YtgecijhgonfldaaGreatDoor
