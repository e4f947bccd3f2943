/- Parts of the proof: contracts and plain laws that the statement needs. -/
import Derived.Test.YtgecijhgonfldaaGreatDoorQ10
import Derived.OrdersHeld
import Derived.Test.YtgecijhgonfldaaGreatDoorQ12
import Derived.Test.YtgecijhgonfldaaGreatDoorQ13
import Derived.Test.YtgecijhgonfldaaGreatDoorQ21
import Derived.Test.YtgecijhgonfldaaGreatDoorQ17
namespace Go.Proofs.YtgecijhgonfldaaGreatDoor
open Go Go.RowKit
section
variable {P : Program} {ops : Array Oper} {md : Region.Mode} {W : World} {n x : Nat}
structure HeadX (md : Region.Mode) (ops : Array Oper) (n x : Nat) (listed : Array Bool) : Prop where
  size : listed.size = ops.size
  closed : ∀ j oj, ops[j]? = some oj → listed.getD j false = true → ∀ e ∈ oj.after, Region.binds md e = true → listed.getD e.on false = true
  tail : ∀ t, n ≤ t → t < ops.size → t ≠ x → listed.getD t true = false
  taken : listed.getD x false = true
theorem HeadX.set {i : Nat} {listed : Array Bool} (inv : HeadX md ops n x listed) (hi : i ∈ Region.ready md ops listed) (hin : i < n) : HeadX md ops n x (listed.setIfInBounds i true) := by
  obtain ⟨_, oi, hoi, hall⟩ := mem_ready.1 hi
  refine ⟨by simp [inv.size], fun j oj hj hl e he hb => ?_, fun t ht ht' hx => by rw [getD_set_ne true (by omega)]; exact inv.tail t ht ht' hx, getD_set_true inv.taken⟩
  by_cases hij : i = j
  · subst hij
    have : oj = oi := Option.some.inj (hj.symm.trans hoi)
    subst this
    exact getD_set_true (hall e he hb)
  · rw [getD_set_ne false hij] at hl
    exact getD_set_true (inv.closed j oj hj hl e he hb)
def chainX (md : Region.Mode) (ops : Array Oper) (n x : Nat) : Bool :=
  (List.range ops.size).all fun t => decide (t ≤ n) || decide (t = x) || (List.range t).any fun s => decide (n ≤ s) && decide (s ≠ x) && Region.waitsFor md ops t s
def anyC (P : Program) (md : Region.Mode) (ops : Array Oper) (W : World) (n : Nat) (L : Array Bool → Act → Prop) : Nat → Array Bool → Act → Prop
  | 0, listed, a => L listed a
  | f + 1, listed, a => Region.ready md ops listed ≠ [] ∧ ∀ i ∈ Region.ready md ops listed, i < n ∧ cOp P ops W i (anyC P md ops W n L f (listed.setIfInBounds i true)) a
def seqL (md : Region.Mode) (ops : Array Oper) : List Nat → Array Bool → Bool
  | [], listed => (Region.ready md ops listed).isEmpty
  | t :: ts, listed => decide (Region.ready md ops listed = [t]) && seqL md ops ts (listed.setIfInBounds t true)
def AtIx (l : List Oper) : List Nat → List Oper → Prop
  | [], [] => True
  | t :: ts, o :: tl => l[t]? = some o ∧ AtIx l ts tl
  | _, _ => False
theorem AtIx.nil {l : List Oper} : AtIx l [] [] := trivial
theorem AtIx.cons {l : List Oper} {t : Nat} {ts : List Nat} {o : Oper} {tl : List Oper} (h : l[t]? = some o) (r : AtIx l ts tl) : AtIx l (t :: ts) (o :: tl) := ⟨h, r⟩
theorem wpAny_of_seqL {l : List Oper} {Q' : Exit → Act → World → Prop} : ∀ (ts : List Nat) (tl : List Oper) (listed : Array Bool) (a : Act) (w : World), AtIx l ts tl →
    seqL md l.toArray ts listed = true → wpList P l.toArray Q' tl a w → wpAny P md l.toArray Q' ts.length listed a w
  | [], [], _, _, _, _, hB, h => ⟨by simpa [seqL] using hB, h⟩
  | [], _ :: _, _, _, _, hl, _, _ => hl.elim
  | _ :: _, [], _, _, _, hl, _, _ => hl.elim
  | t :: ts, o :: tl, listed, a, w, hl, hB, h => by
    simp only [seqL, Bool.and_eq_true, decide_eq_true_eq] at hB
    refine ⟨fun h1 => (by rw [hB.1] at h1; cases h1), fun i hi => ?_⟩
    rw [hB.1] at hi
    have hik : i = t := by simpa using hi
    subst hik
    have ho : l.toArray[i]? = some o := by rw [List.getElem?_toArray]; exact hl.1
    have hw : wpOp P l.toArray Q' i (wpList P l.toArray Q' tl) a w := by unfold wpOp; simp only [ho]; exact h
    exact wpOp_mono (fun a' w' h' => wpAny_of_seqL ts tl _ a' w' hl.2 hB.2 h') hw
end
end Go.Proofs.YtgecijhgonfldaaGreatDoor
namespace Go.Proofs.YtgecijhgonfldaaGreatDoor
open Go Go.RowKit
section
variable {P : Program} {ops : Array Oper} {md : Region.Mode} {Q : Exit → Act → World → Prop} {S : World → Prop} {t : Nat}
def wpAnyT (P : Program) (md : Region.Mode) (ops : Array Oper) (Q : Exit → Act → World → Prop) (S : World → Prop) (t : Nat) : Nat → Array Bool → Act → World → Prop
  | 0, listed, a, w => Region.ready md ops listed = [] ∧ Q .normal a w
  | f + 1, listed, a, w => (Region.ready md ops listed = [] → Q .normal a w) ∧
    ∀ i ∈ Region.ready md ops listed, wpOp P ops Q i (fun a' w' => ((listed.setIfInBounds i true).getD t true = false → S w') ∧ wpAnyT P md ops Q S t f (listed.setIfInBounds i true) a' w') a w
theorem wpAny_of_T : ∀ (f : Nat) (listed : Array Bool) (a : Act) (w : World), wpAnyT P md ops Q S t f listed a w → wpAny P md ops Q f listed a w
  | 0, _, _, _, h => h
  | f + 1, _, _, _, h => ⟨h.1, fun i hi => wpOp_mono (fun a' w' h' => wpAny_of_T f _ a' w' h'.2) (h.2 i hi)⟩
theorem wpAnyT_of_any : ∀ (f : Nat) (listed : Array Bool) (a : Act) (w : World), listed.getD t true = true → wpAny P md ops Q f listed a w → wpAnyT P md ops Q S t f listed a w
  | 0, _, _, _, _, h => h
  | f + 1, listed, _, _, ht, h => ⟨h.1, fun i hi => wpOp_mono (fun a' w' h' => by
      have ht' : (listed.setIfInBounds i true).getD t true = true := by
        by_cases hit : i = t
        · subst hit
          rcases Nat.lt_or_ge i listed.size with h1 | h1
          · simp [h1]
          · simp [h1]
        · rw [getD_set_ne true hit]; exact ht
      exact ⟨fun h1 => (by rw [ht'] at h1; cases h1), wpAnyT_of_any f _ a' w' ht' h'⟩) (h.2 i hi)⟩
theorem wpAny_first_load {i : Nat} {oi : Oper} {v : Value} (hi : ops[i]? = some oi) (hsel : ∀ (j : Nat) (o : Oper) cs b, ops[j]? = some o → o.op ≠ .select cs b)
    (hQ : ∀ c a w, Q (.panic c) (a.put oi.dst v) w → Q (.panic c) a w) (hit : i ≠ t) (hwt : ∀ ot, ops[t]? = some ot → ∃ e ∈ ot.after, Region.binds md e = true ∧ e.on = i) :
    ∀ (fuel : Nat) (listed : Array Bool) (a : Act) (w : World), listed.getD t true = false →
      (∀ j oj, ops[j]? = some oj → j ≠ i → listed.getD j true = false → (∀ e ∈ oj.after, Region.binds md e = true → e.on ≠ i) → oi.apart ops oj = true) →
      i ∈ Region.ready md ops listed → YieldsIf P ops S oi v a → S w →
      wpAnyT P md ops Q S t fuel (listed.setIfInBounds i true) (a.put oi.dst v) w → wpAny P md ops Q (fuel + 1) listed a w := by
  intro fuel
  induction fuel with
  | zero =>
    intro listed a w _ _ hr hy hS H
    refine ⟨fun h => (by rw [h] at hr; cases hr), fun j hj => ?_⟩
    by_cases hji : j = i
    · subst hji; exact hy.wpOp hi hS H
    · have := ready_mono hj hji
      rw [H.1] at this
      cases this
  | succ fuel ih =>
    intro listed a w htl hfree hr hy hS H
    refine ⟨fun h => (by rw [h] at hr; cases hr), fun j hj => ?_⟩
    by_cases hji : j = i
    · subst hji; exact hy.wpOp hi hS (wpAny_of_T _ _ _ _ H)
    · have h1 := H.2 j (ready_mono hj hji)
      obtain ⟨hjun, oj, hoj, hall⟩ := mem_ready.1 hj
      have hun := (mem_ready.1 hr).1
      have hnot : ∀ e ∈ oj.after, Region.binds md e = true → e.on ≠ i := fun e he hb heq => by
        have h1 := hall e he hb
        rw [heq, getD_both hun] at h1
        cases h1
      have hjt : j ≠ t := fun e => by
        subst e
        obtain ⟨e, he, hb, hon⟩ := hwt oj hoj
        exact hnot e he hb hon
      have h2 := wpOp_putIf hoj (hfree j oj hoj hji hjun hnot) (fun cs b => hsel i oi cs b hi) (fun cs b => hsel j oj cs b hoj) hQ hy h1
      have hfree' : ∀ k ok, ops[k]? = some ok → k ≠ i → (listed.setIfInBounds j true).getD k true = false →
          (∀ e ∈ ok.after, Region.binds md e = true → e.on ≠ i) → oi.apart ops ok = true := fun k ok hk hki hunk hno => by
        refine hfree k ok hk hki ?_ hno
        by_cases hjk : j = k
        · subst hjk; exact hjun
        · rw [getD_set_ne true hjk] at hunk; exact hunk
      have htl' : (listed.setIfInBounds j true).getD t true = false := by rw [getD_set_ne true hjt]; exact htl
      have htl2 : ((listed.setIfInBounds i true).setIfInBounds j true).getD t true = false := by rw [getD_set_ne true hjt, getD_set_ne true hit]; exact htl
      refine wpOp_mono (fun a' w' h3 => ih (listed.setIfInBounds j true) a' w' htl' hfree' (ready_mono hr (Ne.symm hji)) h3.1 (h3.2.1 htl2) ?_) h2
      rw [Array.setIfInBounds_comm _ _ hji]
      exact h3.2.2
theorem wpAny_takeL {l : List Oper} {i : Nat} {oi : Oper} {v : Value} {fuel : Nat} {listed : Array Bool} {a : Act} {w : World} (hi : l[i]? = some oi)
    (hB : (Region.noSelect l.toArray && Region.free md l.toArray listed i && (Region.ready md l.toArray listed).contains i) = true)
    (hQ : ∀ c a w, Q (.panic c) (a.put oi.dst v) w → Q (.panic c) a w) (hy : Yields P l.toArray oi v a)
    (h : wpAny P md l.toArray Q fuel (listed.setIfInBounds i true) (a.put oi.dst v) w) : wpAny P md l.toArray Q (fuel + 1) listed a w := by
  simp only [Bool.and_eq_true] at hB
  exact wpAny_take (by rw [List.getElem?_toArray]; exact hi) hB.1.1 hB.1.2 hB.2 hQ hy h
theorem wpAny_load {l : List Oper} {i : Nat} {oi : Oper} {v : Value} {fuel : Nat} {listed : Array Bool} {a : Act} {w : World} (S : World → Prop) (t : Nat) (hi' : l[i]? = some oi)
    (hB : (Region.noSelect l.toArray && decide (i ≠ t) && Region.waitsFor md l.toArray t i && !listed.getD t true && Region.free md l.toArray listed i && (Region.ready md l.toArray listed).contains i) = true)
    (hQ : ∀ c a w, Q (.panic c) (a.put oi.dst v) w → Q (.panic c) a w) (hy : YieldsIf P l.toArray S oi v a) (hS : S w)
    (h : wpAnyT P md l.toArray Q S t fuel (listed.setIfInBounds i true) (a.put oi.dst v) w) : wpAny P md l.toArray Q (fuel + 1) listed a w := by
  have hi : l.toArray[i]? = some oi := by rw [List.getElem?_toArray]; exact hi'
  simp only [Bool.and_eq_true, decide_eq_true_eq, Bool.not_eq_true'] at hB
  obtain ⟨⟨⟨⟨⟨b1, b2⟩, b3⟩, b4⟩, b5⟩, b6⟩ := hB
  obtain ⟨ot, hot, e, he, hb, hon⟩ := Region.waitsFor_spec b3
  exact wpAny_first_load hi (Region.noSelect_spec b1) hQ b2 (fun ot' ho' => by
    have : ot' = ot := Option.some.inj (ho'.symm.trans hot)
    subst this
    exact ⟨e, he, hb, hon⟩) fuel listed a w b4 (Region.free_spec hi b5) (by simpa using b6) hy hS h
def wpListS (P : Program) (ops : Array Oper) (Q : Exit → Act → World → Prop) (S : World → Prop) (post : List Oper) : List Oper → Act → World → Prop
  | [], a, w => wpList P ops Q post a w
  | o :: tl, a, w => if Region.wanted o (yielded ops a.tmps) then Oper.wp P o a w (fun a' w' => S w' ∧ wpListS P ops Q S post tl a' w') Q else S w ∧ wpListS P ops Q S post tl (a.put o.dst undef) w
theorem wpListS_nil {post : List Oper} {a : Act} {w : World} (h : wpList P ops Q post a w) : wpListS P ops Q S post [] a w := h
theorem wpListS_step {post tl : List Oper} {o : Oper} {a : Act} {w : World} (h : ∀ K : Act → World → Prop, (∀ a' w', S w' → wpListS P ops Q S post tl a' w' → K a' w') → if Region.wanted o (yielded ops a.tmps) then Oper.wp P o a w K Q else K (a.put o.dst undef) w) : wpListS P ops Q S post (o :: tl) a w :=
  h (fun a' w' => S w' ∧ wpListS P ops Q S post tl a' w') fun _ _ h1 h2 => ⟨h1, h2⟩
theorem wpAnyT_seqS {l : List Oper} (t : Nat) (us : List Nat) {post : List Oper} (hus : AtIx l (t :: us) post) : ∀ (ts : List Nat) (tl : List Oper) (listed : Array Bool) (a : Act) (w : World), AtIx l ts tl →
    seqL md l.toArray (ts ++ (t :: us)) listed = true → wpListS P l.toArray Q S post tl a w → wpAnyT P md l.toArray Q S t (ts.length + (us.length + 1)) listed a w
  | [], [], listed, a, w, _, hB, h => by
    match post, hus with
    | o :: post', hus =>
      simp only [List.nil_append, seqL, Bool.and_eq_true, decide_eq_true_eq] at hB
      rw [List.length_nil, Nat.zero_add]
      refine ⟨fun h1 => (by rw [hB.1] at h1; cases h1), fun i hi => ?_⟩
      rw [hB.1] at hi
      have hik : i = t := by simpa using hi
      subst hik
      have ho : l.toArray[i]? = some o := by rw [List.getElem?_toArray]; exact hus.1
      have hw : wpOp P l.toArray Q i (wpList P l.toArray Q post') a w := by unfold wpOp; simp only [ho]; exact h
      refine wpOp_mono (fun a' w' h' => ?_) hw
      have hti : (listed.setIfInBounds i true).getD i true = true := by
        rcases Nat.lt_or_ge i listed.size with h1 | h1
        · simp [h1]
        · simp [h1]
      exact ⟨fun h1 => (by rw [hti] at h1; cases h1), wpAnyT_of_any _ _ a' w' hti (wpAny_of_seqL us post' _ a' w' hus.2 hB.2 h')⟩
  | [], _ :: _, _, _, _, hl, _, _ => hl.elim
  | _ :: _, [], _, _, _, hl, _, _ => hl.elim
  | j :: ts, o :: tl, listed, a, w, hl, hB, h => by
    simp only [List.cons_append, seqL, Bool.and_eq_true, decide_eq_true_eq] at hB
    rw [List.length_cons, show ts.length + 1 + (us.length + 1) = (ts.length + (us.length + 1)) + 1 by omega]
    refine ⟨fun h1 => (by rw [hB.1] at h1; cases h1), fun i hi => ?_⟩
    rw [hB.1] at hi
    have hik : i = j := by simpa using hi
    subst hik
    have ho : l.toArray[i]? = some o := by rw [List.getElem?_toArray]; exact hl.1
    have hw : wpOp P l.toArray Q i (fun a' w' => S w' ∧ wpListS P l.toArray Q S post tl a' w') a w := by
      unfold wpOp
      simp only [ho]
      unfold wpListS at h
      split
      · rename_i hw; rw [if_pos hw] at h; exact Or.inl h
      · rename_i hw; rw [if_neg hw] at h; exact h
    exact wpOp_mono (fun a' w' h' => ⟨fun _ => h'.1, wpAnyT_seqS t us hus ts tl _ a' w' hl.2 hB.2 h'.2⟩) hw
end
end Go.Proofs.YtgecijhgonfldaaGreatDoor
namespace Go.Proofs.YtgecijhgonfldaaGreatDoor
open Go Go.RowKit
set_option linter.unusedVariables false
theorem str_oneS (l : List ByteArray) : ∀ u ∈ l.map Value.string, u.oneCell' = true := by
  intro u hu
  obtain ⟨s, _, rfl⟩ := List.mem_map.1 hu
  rfl
def toldQ (R : Act → World → Prop) : Exit → Act → World → Prop
  | .normal, a', w' => R a' w'
  | _, _, _ => False
theorem wp_told {P : Program} {c : Code} {Q : Exit → Act → World → Prop} {a : Act} {w : World} (R : Act → Act → World → Prop) (h1 : ∀ a' w', R a a' w' → Q .normal a' w') (h2 : c.wp P (toldQ (R a)) a w) : c.wp P Q a w :=
  Code.wp_mono (fun e a' w' h => by cases e <;> first | exact h1 a' w' h | exact h.elim) h2
theorem own_newC (W : World) {a b c : ByteArray} : ((W.drew.alloc (.cells #[.string a, .string b, .string c] 9)).alloc (.cells #[] 9)).ownsRow W.heap.size 9 1 (.slice (some ⟨W.heap.size + 1, 0, none⟩) 0 0) 0 [] := by
  have h := own_new (w := W.drew.alloc (.cells #[.string a, .string b, .string c] 9)) (base := W.heap.size) (e := 9) (size := 1) (n := 0) (cs := []) (by rw [size_alloc]; exact Nat.le_succ _) rfl (by decide)
  rw [size_alloc] at h
  exact h
theorem rsl_B (W : World) (a b c : ByteArray) {O : Obj} : RSl ((W.drew.alloc O).alloc (.cells #[.string a, .string b, .string c] 9)) 1 (.slice (some ⟨W.heap.size + 1, 0, none⟩) 3 3) 3 [.string a, .string b, .string c] := by
  have h := rsl_new (w := W.drew.alloc O) (size := 1) (n := 3) (e := 9) (cs := [.string a, .string b, .string c]) rfl (by decide)
  rw [size_alloc] at h
  exact h
theorem rsl_C (W : World) (a b c : ByteArray) {O : Obj} : RSl ((W.drew.alloc (.cells #[.string a, .string b, .string c] 9)).alloc O) 1 (.slice (some ⟨W.heap.size, 0, none⟩) 3 3) 3 [.string a, .string b, .string c] :=
  (rsl_new (w := W.drew) (size := 1) (n := 3) (e := 9) (cs := [.string a, .string b, .string c]) rfl (by decide)).ext ((Ext.refl _).alloc _)
theorem feedR_strs {w : World} {B : Nat} {v : Value} {path ents} {a b c : ByteArray} {u : Int} (h : w.ownsRow B 9 1 v (0 + path.length + 3) (([] ++ path.map Value.string) ++ [.string a, .string b, .string c])) :
    RSl w 1 v (path.length + 3) ((strsF ⟨path, a, b, c, u, ents⟩).map Value.string) := by
  have h := RSl.of_own h
  unfold strsF
  simpa using h
theorem isEmpty_dec (s : ByteArray) : s.toList.isEmpty = decide (s = noS) := by
  have h0 : noS.toList = [] := by rw [ByteArray.toList_eq]; rfl
  by_cases h : s = noS
  · subst h; rw [decide_eq_true rfl, h0]; rfl
  · rw [decide_eq_false h]
    cases hl : s.toList with
    | nil => exact absurd (toList_inj (by rw [hl, h0])) h
    | cons _ _ => rfl
theorem missing_dec (a : ByteArray) (l : List ByteArray) : ((collapse a).toList.isEmpty || l.any fun p => (collapse p).toList.isEmpty) = decide (collapse a = noS ∨ (l.any fun p => decide (collapse p = noS)) = true) := by
  have h : (fun p : ByteArray => (collapse p).toList.isEmpty) = fun p => decide (collapse p = noS) := funext fun p => isEmpty_dec _
  rw [h, isEmpty_dec, Bool.decide_or, Bool.decide_eq_true]
theorem head_bad {f : Fd} {n : Nat} (h : headF f = n) (hn : n ≠ 0) : errF f = n ∧ normF f = zeroF := by
  have he : errF f = n := by unfold errF; rw [h, if_neg hn]
  exact ⟨he, by unfold normF; rw [he, if_neg hn]⟩
theorem inT_false {t : Int} (h : inT t = false) : t < -62135596800 ∨ 253402300799 < t := by
  unfold inT at h
  rw [Bool.and_eq_false_iff] at h
  rcases h with h | h
  · have := of_decide_eq_false h; exact Or.inl (by omega)
  · have := of_decide_eq_false h; exact Or.inr (by omega)
theorem inT_true {t : Int} (h : inT t = true) : ¬ t < -62135596800 ∧ ¬ 253402300799 < t := by
  unfold inT at h
  rw [Bool.and_eq_true] at h
  have h1 := of_decide_eq_true h.1
  have h2 := of_decide_eq_true h.2
  exact ⟨by omega, by omega⟩
attribute [local go_sem ↓] Go.wp_at_zero Go.wp_at_succ
attribute [local go_sem] calm1
set_option maxRecDepth 100000 in
set_option maxHeartbeats 8000000 in
theorem refFeed_at (x : Fc) (w : World) (hE : Env w) (hk : fokS x.f) (hr : RdC w x) :
    Calls Tryz.prog 22 #[.agg (cellsC x).toArray] w fun e w' => ∃ y : Fc, e = .returned (.tuple #[.agg (cellsC y).toArray, .int .i64 (errF x.f : Nat)]) ∧ y.f = normF x.f ∧ RdC w' y ∧ (∀ q, q < w.heap.size → awayC y (some q)) ∧ Ext w w' := by
  obtain ⟨i0, hi0, hz0, hz1, hz2⟩ := info_parts info_str
  obtain ⟨F, hF⟩ : ∃ F, x.f = F := ⟨_, rfl⟩
  rw [hF]
  rw [hF] at hk
  obtain ⟨EF, hEF⟩ : ∃ n, errF F = n := ⟨_, rfl⟩
  obtain ⟨NF, hNF⟩ : ∃ n, normF F = n := ⟨_, rfl⟩
  simp only [hEF, hNF]
  have HEF := Lib.hid hEF
  have HNF := Lib.hid hNF
  clear hEF hNF
  have hl3 : (strsF F).length = F.path.length + 3 := by unfold strsF; simp
  have hss : ∀ s ∈ strsF F, s.size ≤ 16777216 := by
    have h2 := hk.1.2
    intro s hs
    unfold strsF at hs
    rcases List.mem_append.1 hs with hs | hs
    · have := size_le_sizes hs; omega
    · simp only [List.mem_cons, List.mem_nil_iff, or_false] at hs
      rcases hs with rfl | rfl | rfl <;> omega
  have HCK := Lib.hid (fun (w' : World) (v : Value) (h : RSl w' 1 v (F.path.length + 3) ((strsF F).map Value.string)) => refCheckAll_any v (strsF F) w' (by rw [hl3]; exact h) hss)
  have hpl : F.path.length ≤ 16777216 := by have := hk.1.2; omega
  have HML : Hid (0 + F.path.length ≤ maxLen) := Lib.hid (by unfold maxLen; omega)
  have HBY : Hid ((0 + F.path.length) * 16 ≤ 140737488355328) := Lib.hid (by omega)
  have HML2 : Hid (0 + F.path.length + 3 ≤ maxLen) := Lib.hid (by unfold maxLen; omega)
  have HBY2 : Hid ((0 + F.path.length + 3) * 16 ≤ 140737488355328) := Lib.hid (by omega)
  have hr1 := hr.1
  have hsl := hr.sl
  rw [hF] at hr1
  have HR2 := Lib.hid hr.2
  have HK := Lib.hid hk
  obtain ⟨EC, hEC⟩ : ∃ n, firstErr (strsF F) = n := ⟨_, rfl⟩
  rw [hEC] at HCK
  have HEC := Lib.hid hEC
  clear hEC hl3 hss hk hr
  obtain ⟨xp, xes, ⟨xpath, xid, xtitle, xlink, xupd, xents⟩⟩ := x
  obtain ⟨⟨xA, xn, xc, hxp⟩, ⟨xB, xm, xd, hxe⟩⟩ := hsl
  dsimp only at *
  subst hxp hxe
  have HFF := Lib.hid hF
  subst hF
  dsimp only at *
  obtain ⟨A', c', e1, -, -⟩ := hr1.form
  injection e1 with e1 e2 e3
  subst e1 e2 e3
  have HP := Lib.hid hr1
  have hr2 := HR2.out
  obtain ⟨B', d', e1, -, -⟩ := hr2.form
  injection e1 with e1 e2 e3
  subst e1 e2 e3
  have HRE := Lib.hid hr2
  clear hr2 HR2
  unfold cellsC fCells
  dsimp only
  go_enter Tryz.func22, Tryz.ntmps22
  go_wp2
  obtain ⟨W, hW⟩ : ∃ W, W = (w.alloc (.cells #[.slice xA xpath.length xc, .string xid, .string xtitle, .string xlink, .int .i64 xupd, .slice xB xents.length xd] 35)).alloc (.cells #[.slice none 0 0, .string ⟨#[]⟩, .string ⟨#[]⟩, .string ⟨#[]⟩, .int .i64 0, .slice none 0 0] 35) := ⟨_, rfl⟩
  rw [← hW]
  have hxW : Ext w W := by rw [hW]; exact ((Ext.refl w).alloc _).alloc _
  have hbW : Ext (w.alloc (.cells #[.slice xA xpath.length xc, .string xid, .string xtitle, .string xlink, .int .i64 xupd, .slice xB xents.length xd] 35)) W := by rw [hW]; exact (Ext.refl _).alloc _
  have hzW : W.heap[w.heap.size + 1]? = some (.cells #[.slice none 0 0, .string ⟨#[]⟩, .string ⟨#[]⟩, .string ⟨#[]⟩, .int .i64 0, .slice none 0 0] 35) := by rw [hW]; exact heap2_new _ _ _
  have HSW : Hid (W.heap.size = w.heap.size + 1 + 1) := Lib.hid (by rw [hW]; simp only [size_alloc])
  have HBX : Hid (∀ w', Ext W w' → w'.cell? ⟨w.heap.size, 0, none⟩ = some (.slice xA xpath.length xc) ∧ w'.cell? ⟨w.heap.size, 1, none⟩ = some (.string xid) ∧ w'.cell? ⟨w.heap.size, 2, none⟩ = some (.string xtitle) ∧ w'.cell? ⟨w.heap.size, 3, none⟩ = some (.string xlink) ∧ w'.cell? ⟨w.heap.size, 4, none⟩ = some (.int .i64 xupd) ∧ w'.cell? ⟨w.heap.size, 5, none⟩ = some (.slice xB xents.length xd)) := Lib.hid fun w' h => ⟨(hbW.trans h).boxed 0 _ rfl, (hbW.trans h).boxed 1 _ rfl, (hbW.trans h).boxed 2 _ rfl, (hbW.trans h).boxed 3 _ rfl, (hbW.trans h).boxed 4 _ rfl, (hbW.trans h).boxed 5 _ rfl⟩
  clear hW
  refine wp_told (fun a0 a' w' => Ext W w' ∧ ∃ v11 v14 v21 v22 : Value, a' = ((((((((((((((a0.put (some 11) v11).put (some 12) (.pointer (some ⟨w.heap.size, 0, none⟩))).put (some 13) (.slice xA xpath.length xc)).put (some 14) v14).put (some 15) (.pointer (some ⟨w.heap.size, 1, none⟩))).put (some 16) (.string xid)).put (some 17) (.pointer (some ⟨w.heap.size, 2, none⟩))).put (some 18) (.string xtitle)).put (some 19) (.pointer (some ⟨w.heap.size, 3, none⟩))).put (some 20) (.string xlink)).put (some 21) v21).put (some 22) v22).put (some 23) (.int .i64 EC)).put (some 4) (.int .i64 EC))) ?_ ?_
  · rintro _ w1 ⟨hx1, v11, v14, v21, v22, rfl⟩
    have hzq := hx1.heap hzW
    have HW1 := Lib.hid (hxW.trans hx1)
    by_cases hec : EC = 0
    · subst hec
      have hb1 := HBX.out w1 hx1
      obtain ⟨b0, b1, b2, b3, b4, b5⟩ := hb1
      have a1 : ∀ d : Aft w1, d.w.cell? ⟨w.heap.size, 1, none⟩ = some (.string xid) := Aft.cell b1
      have a2 : ∀ d : Aft w1, d.w.cell? ⟨w.heap.size, 2, none⟩ = some (.string xtitle) := Aft.cell b2
      have a3 : ∀ d : Aft w1, d.w.cell? ⟨w.heap.size, 3, none⟩ = some (.string xlink) := Aft.cell b3
      have a4 : ∀ d : Aft w1, d.w.cell? ⟨w.heap.size, 4, none⟩ = some (.int .i64 xupd) := Aft.cell b4
      have s1 : xid.size ≤ 16777216 := by have := HK.out.1.2; simp only at this; omega
      have s2 : xtitle.size ≤ 16777216 := by have := HK.out.1.2; simp only at this; omega
      have s3 : xlink.size ≤ 16777216 := by have := HK.out.1.2; simp only at this; omega
      clear b0 b1 b2 b3 b4 b5
      go_wp2
      refine wp_region_new 12 (.cells #[.slice none 0 0, .string ⟨#[]⟩, .string ⟨#[]⟩, .string ⟨#[]⟩, .int .i64 0, .slice none 0 0] 35) _ (by kernel_rfl) rfl (by kernel_rfl) (fun a w K h => by go_simp; exact h) ?_
      repeat (refine wpCalm_step (fun K hK => ?_); go_simp; first | (refine hK _ ?_; clear hK K) | (apply Exists.intro; refine ⟨fun _ => ?_, hK _ ?_⟩; (go_at_call 46; exact quiet_callC (refColl_sz _ _ (by assumption))); clear hK K))
      refine wpCalm_nil ?_
      intro g c hg hblk
      refine wpList_store_blk rfl 35 (.tmp 5) (.tmp 39) rfl g _ rfl rfl _ _ hblk size_fd rfl oneF ?_
      intro W3 hW3 hE3 _
      have hx3 : Ext w1 W3 := hE3 w1 c.ext hg
      have hgW : W.heap.size ≤ g := Nat.le_trans hx1.size hg
      have hgl : g < W3.heap.size := (Array.getElem?_eq_some_iff.1 hW3).1
      obtain ⟨d0, d1, d2, d3, d4, d5⟩ := blk6 hW3
      clear hblk hE3 a1 a2 a3 a4 s1 s2 s3
      have HD1 : Hid (∀ (v : Value) (wr : World), Ext (W3.setCell ⟨g, 0, none⟩ v) wr → wr.cell? ⟨g, 0, none⟩ = some v ∧ wr.frozen? ⟨g, 0, none⟩ = false ∧ Ext W wr) := Lib.hid fun v wr h =>
        ⟨h.cell (World.cell?_setCell_same _ _ _ d0), (Below.frozen h (by simp [World.setCell]; exact hgl)).trans (by rw [World.frozen?_setCell]; exact Lib.frozen_of_heap hW3 0), (Ext.setCell (hx1.trans hx3) hgW _).trans h⟩
      have HX3 := Lib.hid hx3
      have HD0 := Lib.hid d0
      have HGL := Lib.hid hgl
      have HGW := Lib.hid hgW
      have HD : Hid (W3.cell? ⟨g, 1, none⟩ = some (.string (collapse xid)) ∧ W3.cell? ⟨g, 2, none⟩ = some (.string (collapse xtitle)) ∧ W3.cell? ⟨g, 3, none⟩ = some (.string (collapse xlink)) ∧ W3.cell? ⟨g, 4, none⟩ = some (.int .i64 xupd) ∧ W3.cell? ⟨g, 5, none⟩ = some (.slice none 0 0)) := Lib.hid ⟨d1, d2, d3, d4, d5⟩
      have HBW3 := Lib.hid hW3
      obtain ⟨mb, hmb⟩ : ∃ mb, (collapse xid).toList.isEmpty = mb := ⟨_, rfl⟩
      have HMB := Lib.hid hmb
      have hne0 : g ≠ w.heap.size := by have := HSW.out; omega
      have hne1 : g ≠ w.heap.size + 1 := by have := HSW.out; omega
      clear hW3 hx3 hgl hgW
      go_wp2
      clear hmb d0 d1 d2 d3 d4 d5
      go_loopw [6, 7] (fun u i wr => ∃ (k : Nat) (v : Value), k ≤ xpath.length ∧ i = .int .i64 k ∧ u = .bool (mb || (xpath.take k).any fun p => (collapse p).toList.isEmpty) ∧ wr.ownsRow W3.heap.size 9 1 v k ((xpath.take k).map fun p => Value.string (collapse p)) ∧ Ext (W3.setCell ⟨g, 0, none⟩ v) wr) (fun _ i _ => xpath.length - (intOf i).toNat)
      case atStart => exact ⟨0, .slice none 0 0, Nat.zero_le _, rfl, by simp, World.ownsRow_nil _ _ _ _, by rw [setCell_kept _ _ _ _ HD0.out]; exact Ext.refl _⟩
      case round =>
        obtain ⟨k, v, hk, rfl, rfl, hown, hxr⟩ := hrel
        obtain ⟨vc0, vf0, hWr⟩ := HD1.out v wr hxr
        obtain ⟨b0, b1, b2, b3, b4, b5⟩ := HBX.out wr hWr
        by_cases hlt : k < xpath.length
        · obtain ⟨ad, c1, e1, hc0⟩ := HP.out.at hlt
          have hc := (hxW.trans hWr).cell hc0
          injection e1 with e1 e1' e1''
          subst e1
          clear e1' e1''
          obtain ⟨vA, vc, hv, -, -⟩ := (RSl.of_own hown).2
          subst hv
          have hsz : xpath[k].size ≤ 16777216 := by have h1 := size_le_sizes (List.getElem_mem hlt); have := HK.out.1.2; simp only at this; omega
          have htk := List.take_succ_eq_append_getElem hlt
          obtain ⟨s, hs⟩ : ∃ s, xpath[k] = s := ⟨_, rfl⟩
          rw [hs] at hc0 hc hsz htk
          obtain ⟨S, hS⟩ : ∃ S, collapse s = S := ⟨_, rfl⟩
          have HCO := Lib.hid (fun w' : World => refColl_sz s w' hsz)
          rw [hS] at HCO
          have HTK := Lib.hid htk
          have HOWN := Lib.hid hown
          have HXR := Lib.hid hxr
          have hi0' : (0 : Int) ≤ (k : Int) := by omega
          have hi1' : (k : Int) < (xpath.length : Int) := by omega
          have HML3 : Hid (k + 1 ≤ maxLen) := Lib.hid (by unfold maxLen; omega)
          have HBY3 : Hid ((k + 1) * 16 ≤ 140737488355328) := Lib.hid (by omega)
          have hbs : W3.heap.size ≤ wr.heap.size := by have := hxr.size; simpa [World.setCell] using this
          have hlk : (xpath.take k).length = k := by rw [List.length_take]; omega
          have htm : (xpath.take (k + 1)).map (fun p => Value.string (collapse p)) = (xpath.take k).map (fun p => Value.string (collapse p)) ++ [.string S] := by rw [htk, List.map_append, ← hS]; rfl
          have hgk : ((xpath.take (k + 1)).map fun p => Value.string (collapse p))[k]? = some (.string S) := by
            rw [htm, List.getElem?_append_right (by rw [List.length_map, hlk]; exact Nat.le_refl _), List.length_map, hlk, Nat.sub_self]
            rfl
          have HNEXT : Hid (∀ (w5 : World) (A5 : Option Addr) (c5 : Nat), w5.ownsRow W3.heap.size 9 1 (.slice A5 (k + 1) c5) (k + 1) ((xpath.take k).map (fun p => Value.string (collapse p)) ++ [.string S]) → Ext (W3.setCell ⟨g, 0, none⟩ (.slice vA k vc)) w5 →
              w5.cell? ⟨g, 0, none⟩ = some (.slice vA k vc) ∧ w5.frozen? ⟨g, 0, none⟩ = false ∧ ∃ b5, A5 = some b5 ∧ (w5.setCell ⟨g, 0, none⟩ (.slice (some b5) (k + 1) c5)).cell? ⟨g, 0, none⟩ = some (.slice (some b5) (k + 1) c5) ∧ (w5.setCell ⟨g, 0, none⟩ (.slice (some b5) (k + 1) c5)).cell? (b5.add k) = some (.string S) ∧
              (w5.setCell ⟨g, 0, none⟩ (.slice (some b5) (k + 1) c5)).ownsRow W3.heap.size 9 1 (.slice (some b5) (k + 1) c5) (k + 1) ((xpath.take (k + 1)).map fun p => Value.string (collapse p)) ∧ Ext (W3.setCell ⟨g, 0, none⟩ (.slice (some b5) (k + 1) c5)) (w5.setCell ⟨g, 0, none⟩ (.slice (some b5) (k + 1) c5))) := Lib.hid fun w5 A5 c5 hown5 hx5 => by
            rw [← htm] at hown5
            have hlb := hown5.lt
            obtain ⟨p0, pf, hW5⟩ := HD1.out _ w5 hx5
            obtain ⟨b5, hb5, hc5⟩ := RSl.at1 (RSl.of_own hown5) k _ hgk
            subst hb5
            have hwne : (⟨g, 0, none⟩ : Addr) ≠ b5.add k := by
              intro e
              have e1 := congrArg Addr.block e
              rw [block_of_add] at e1
              have h1 := (hlb b5.block rfl).1
              have h2 := HGL.out
              simp only at e1
              omega
            exact ⟨p0, pf, b5, rfl, World.cell?_setCell_same w5 ⟨g, 0, none⟩ (.slice (some b5) (k + 1) c5) p0, (World.cell?_setCell_other w5 ⟨g, 0, none⟩ (b5.add k) (.slice (some b5) (k + 1) c5) hwne).trans hc5, ownsRow_setCell_below hown5 (a := ⟨g, 0, none⟩) HGL.out (.slice (some b5) (k + 1) c5), ext_setCell2 (v := .slice (some b5) (k + 1) c5) hx5⟩
          have hany : (mb || (xpath.take (k + 1)).any fun p => (collapse p).toList.isEmpty) = ((mb || (xpath.take k).any fun p => (collapse p).toList.isEmpty) || S.toList.isEmpty) := by
            rw [htk, List.any_append, ← hS]
            simp [Bool.or_assoc]
          obtain ⟨M1, hM1⟩ : ∃ M1, (mb || (xpath.take (k + 1)).any fun p => (collapse p).toList.isEmpty) = M1 := ⟨_, rfl⟩
          obtain ⟨M0, hM0⟩ : ∃ M0, (mb || (xpath.take k).any fun p => (collapse p).toList.isEmpty) = M0 := ⟨_, rfl⟩
          rw [hM0] at hany
          rw [hM0]
          rw [hM1] at hany
          have HM1 := Lib.hid hM1
          have hi2' : (k : Int) < (k : Int) + 1 := by omega
          clear hs htk hsz hown b1 b2 b3 b4 b5 hc0 hlk htm hgk hM1 hM0 hS vf0 hxr
          cases hem : S.toList.isEmpty with
          | true =>
              rw [hem, Bool.or_true] at hany
              subst hany
              go_wp2
              refine wp_region_any (by kernel_rfl) ?_
              change wpAny _ _ _ _ _ _ _ (World.drew _)
              refine wpAny_takeL (i := 0) (v := .pointer (some ⟨g, 0, none⟩)) rfl (by kernel_rfl) (fun _ _ _ h => h) (Or.inl ⟨by rfl, fun w => by go_simp⟩) ?_
              refine wpAny_takeL (i := 2) (v := .pointer (some ⟨w.heap.size, 0, none⟩)) rfl (by kernel_rfl) (fun _ _ _ h => h) (Or.inl ⟨by rfl, fun w => by go_simp⟩) ?_
              refine wpAny_takeL (i := 4) (v := .int .i64 k) rfl (by kernel_rfl) (fun _ _ _ h => h) (Or.inl ⟨by rfl, fun w => by go_simp⟩) ?_
              refine wpAny_load (i := 1) (v := .slice vA k vc) (fun w' => Ext wr w') 9 rfl (by kernel_rfl) (fun _ _ _ h => h) (Or.inl ⟨by rfl, fun w' hS => by have hq := Ext.cell hS vc0; go_simp⟩) (Ext.refl wr).drew ?_
              refine wpAnyT_seqS 9 [10, 11] (AtIx.cons rfl (AtIx.cons rfl (AtIx.cons rfl AtIx.nil))) [3, 5, 6, 7, 8] _ _ _ _ (AtIx.cons rfl (AtIx.cons rfl (AtIx.cons rfl (AtIx.cons rfl (AtIx.cons rfl AtIx.nil))))) (by kernel_rfl) ?_
              have b0d := (Ext.refl wr).drew.cell b0
              have hcd := (Ext.refl wr).drew.cell hc
              have hxd := (Ext.refl wr).drew
              refine wpListS_step (fun K hK => ?_); go_simp; refine hK _ _ hxd ?_; clear hK K
              refine wpListS_step (fun K hK => ?_); go_simp; refine hK _ _ hxd ?_; clear hK K
              refine wpListS_step (fun K hK => ?_); go_simp; refine hK _ _ hxd ?_; clear hK K
              refine wpListS_step (fun K hK => ?_); go_simp; refine Calls.mono (HCO.out wr.drew) ?_; rintro e w4 ⟨rfl, hx4⟩; refine hK _ _ (hxd.trans hx4) ?_; clear hK K
              refine wpListS_step (fun K hK => ?_); go_simp; refine hK _ _ ((hxd.trans hx4).alloc _) ?_; clear hK K
              refine wpListS_nil ?_
              obtain ⟨c, hc4⟩ : ∃ c : Aft wr, c.w = w4 := ⟨⟨w4, hxd.trans hx4⟩, rfl⟩
              subst hc4
              have HOW := Lib.hid (own_ext (own_ext HOWN.out c.ext) ((Ext.refl c.w).alloc (.cells #[.string S] 9)))
              have hxc := Lib.hid (HXR.out.trans (c.ext.trans ((Ext.refl c.w).alloc (.cells #[.string S] 9))))
              have hbc : W3.heap.size ≤ c.w.heap.size := Nat.le_trans hbs c.ext.size
              clear b0d hcd hxd hx4
              go_wp2_with (first
                | (at_builtin; go_loud (refine wpList_append_rsl _ rfl (.tmp 51) (.tmp 58) _ rfl W3.heap.size 9 i0 _ 1 16 Tryz.underlying32 hi0 hz0 hz1 hz2 rfl (by decide) _ k _ rfl HOW.out _ 1 [.string S] rfl (rsl_new rfl (by decide)) (str_oneS [S]) HML3.out HBY3.out ?_ ?_; (rw [size_alloc]; omega); intro v5 w5 hown5 hg5 hat5; (obtain ⟨A5, c5, hv5, -, -⟩ := (RSl.of_own hown5).2); subst hv5; (have hxS5 := Ext.app hxc.out hg5 HOW.out (by simp [World.setCell])); (obtain ⟨p0, pf, b5, hb5, q0, q1, how6, hx6⟩ := HNEXT.out w5 A5 c5 hown5 hxS5); subst hb5)))
              go_roundw
              case rel => exact ⟨k + 1, _, hlt, by go_num, by rw [HM1.out], how6, hx6⟩
              case measure => simp [intOf]; omega
          | false =>
              rw [hem, Bool.or_false] at hany
              subst hany
              go_wp2
              refine wp_region_any (by kernel_rfl) ?_
              change wpAny _ _ _ _ _ _ _ (World.drew _)
              refine wpAny_takeL (i := 0) (v := .pointer (some ⟨g, 0, none⟩)) rfl (by kernel_rfl) (fun _ _ _ h => h) (Or.inl ⟨by rfl, fun w => by go_simp⟩) ?_
              refine wpAny_takeL (i := 2) (v := .pointer (some ⟨w.heap.size, 0, none⟩)) rfl (by kernel_rfl) (fun _ _ _ h => h) (Or.inl ⟨by rfl, fun w => by go_simp⟩) ?_
              refine wpAny_takeL (i := 4) (v := .int .i64 k) rfl (by kernel_rfl) (fun _ _ _ h => h) (Or.inl ⟨by rfl, fun w => by go_simp⟩) ?_
              refine wpAny_load (i := 1) (v := .slice vA k vc) (fun w' => Ext wr w') 9 rfl (by kernel_rfl) (fun _ _ _ h => h) (Or.inl ⟨by rfl, fun w' hS => by have hq := Ext.cell hS vc0; go_simp⟩) (Ext.refl wr).drew ?_
              refine wpAnyT_seqS 9 [10, 11] (AtIx.cons rfl (AtIx.cons rfl (AtIx.cons rfl AtIx.nil))) [3, 5, 6, 7, 8] _ _ _ _ (AtIx.cons rfl (AtIx.cons rfl (AtIx.cons rfl (AtIx.cons rfl (AtIx.cons rfl AtIx.nil))))) (by kernel_rfl) ?_
              have b0d := (Ext.refl wr).drew.cell b0
              have hcd := (Ext.refl wr).drew.cell hc
              have hxd := (Ext.refl wr).drew
              refine wpListS_step (fun K hK => ?_); go_simp; refine hK _ _ hxd ?_; clear hK K
              refine wpListS_step (fun K hK => ?_); go_simp; refine hK _ _ hxd ?_; clear hK K
              refine wpListS_step (fun K hK => ?_); go_simp; refine hK _ _ hxd ?_; clear hK K
              refine wpListS_step (fun K hK => ?_); go_simp; refine Calls.mono (HCO.out wr.drew) ?_; rintro e w4 ⟨rfl, hx4⟩; refine hK _ _ (hxd.trans hx4) ?_; clear hK K
              refine wpListS_step (fun K hK => ?_); go_simp; refine hK _ _ ((hxd.trans hx4).alloc _) ?_; clear hK K
              refine wpListS_nil ?_
              obtain ⟨c, hc4⟩ : ∃ c : Aft wr, c.w = w4 := ⟨⟨w4, hxd.trans hx4⟩, rfl⟩
              subst hc4
              have HOW := Lib.hid (own_ext (own_ext HOWN.out c.ext) ((Ext.refl c.w).alloc (.cells #[.string S] 9)))
              have hxc := Lib.hid (HXR.out.trans (c.ext.trans ((Ext.refl c.w).alloc (.cells #[.string S] 9))))
              have hbc : W3.heap.size ≤ c.w.heap.size := Nat.le_trans hbs c.ext.size
              clear b0d hcd hxd hx4
              go_wp2_with (first
                | (at_builtin; go_loud (refine wpList_append_rsl _ rfl (.tmp 51) (.tmp 58) _ rfl W3.heap.size 9 i0 _ 1 16 Tryz.underlying32 hi0 hz0 hz1 hz2 rfl (by decide) _ k _ rfl HOW.out _ 1 [.string S] rfl (rsl_new rfl (by decide)) (str_oneS [S]) HML3.out HBY3.out ?_ ?_; (rw [size_alloc]; omega); intro v5 w5 hown5 hg5 hat5; (obtain ⟨A5, c5, hv5, -, -⟩ := (RSl.of_own hown5).2); subst hv5; (have hxS5 := Ext.app hxc.out hg5 HOW.out (by simp [World.setCell])); (obtain ⟨p0, pf, b5, hb5, q0, q1, how6, hx6⟩ := HNEXT.out w5 A5 c5 hown5 hxS5); subst hb5)))
              go_roundw
              case rel => exact ⟨k + 1, _, hlt, by go_num, by rw [HM1.out], how6, hx6⟩
              case measure => simp [intOf]; omega
        · have hke : k = xpath.length := by omega
          subst hke
          have htl : xpath.take xpath.length = xpath := List.take_of_length_le (Nat.le_refl _)
          rw [htl] at hown ⊢
          have hmis := missing_dec xid xpath
          rw [HMB.out] at hmis
          rw [hmis]
          have hhead : headF ⟨xpath, xid, xtitle, xlink, xupd, xents⟩ = if collapse xid = noS ∨ (xpath.any fun p => decide (collapse p = noS)) = true then 19 else if 64 < xpath.length then 9 else if inT xupd then 0 else 3 := by
            unfold headF
            rw [HEC.out, if_neg (by decide)]
          have hzr := hWr.heap hzW
          have HWR := Lib.hid (hxW.trans hWr)
          clear htl hmis
          by_cases hm19 : collapse xid = noS ∨ (xpath.any fun p => decide (collapse p = noS)) = true
          · have hh := hhead
            rw [if_pos hm19] at hh
            rw [decide_eq_true hm19]
            clear hhead hm19
            obtain ⟨he, hn⟩ := head_bad hh (by decide)
            have heE := HEF.out.symm.trans he
            have hnE := HNF.out.symm.trans hn
            subst heE hnE
            clear he hn hh
            go_wp2_with (first
              | (refine wpList_store_row rfl 35 (.tmp 2) (.tmp 68) rfl (w.heap.size + 1) _ rfl rfl _ _ hzr size_fd rfl oneF ?_))
            ((try simp only [Exit.inBlock, Exit.then]); refine bodyPost_ret (results_cell_row2 rfl _ _ _ _ _ _ _ rfl (setRow_heap _ _ _ _ _ _ hzr) Tryz.underlying35 rfl size_fd) rfl ?_)
            exact ⟨⟨.slice none 0 0, .slice none 0 0, zeroF⟩, rfl, rfl, ⟨RSl.nil _ 1, RSl.nil _ 5⟩, fun _ _ => ⟨Or.inl rfl, Or.inl rfl⟩, HWR.out.setRow (by omega) _⟩
          · rw [if_neg hm19] at hhead
            rw [decide_eq_false hm19]
            clear hm19
            by_cases h64 : 64 < xpath.length
            · have hh := hhead
              rw [if_pos h64] at hh
              have h64' : (64 : Int) < (xpath.length : Int) := by omega
              clear hhead h64
              obtain ⟨he, hn⟩ := head_bad hh (by decide)
              have heE := HEF.out.symm.trans he
              have hnE := HNF.out.symm.trans hn
              subst heE hnE
              clear he hn hh
              go_wp2_with (first
                | (refine wpList_store_row rfl 35 (.tmp 2) (.tmp 73) rfl (w.heap.size + 1) _ rfl rfl _ _ hzr size_fd rfl oneF ?_))
              ((try simp only [Exit.inBlock, Exit.then]); refine bodyPost_ret (results_cell_row2 rfl _ _ _ _ _ _ _ rfl (setRow_heap _ _ _ _ _ _ hzr) Tryz.underlying35 rfl size_fd) rfl ?_)
              exact ⟨⟨.slice none 0 0, .slice none 0 0, zeroF⟩, rfl, rfl, ⟨RSl.nil _ 1, RSl.nil _ 5⟩, fun _ _ => ⟨Or.inl rfl, Or.inl rfl⟩, HWR.out.setRow (by omega) _⟩
            · rw [if_neg h64] at hhead
              have h64' : ¬ (64 : Int) < (xpath.length : Int) := by omega
              clear h64
              cases hti : inT xupd with
              | false =>
                have hh : headF ⟨xpath, xid, xtitle, xlink, xupd, xents⟩ = 3 := by rw [hhead, hti]; rfl
                have hsp := inT_false hti
                clear hhead hti
                rcases hsp with hsp | hsp
                · have hsq : ¬ 253402300799 < xupd := by omega
                  obtain ⟨he, hn⟩ := head_bad hh (by decide)
                  have heE := HEF.out.symm.trans he
                  have hnE := HNF.out.symm.trans hn
                  subst heE hnE
                  clear he hn hh
                  go_wp2_with (first
                    | (refine wpList_store_row rfl 35 (.tmp 2) (.tmp 82) rfl (w.heap.size + 1) _ rfl rfl _ _ hzr size_fd rfl oneF ?_))
                  ((try simp only [Exit.inBlock, Exit.then]); refine bodyPost_ret (results_cell_row2 rfl _ _ _ _ _ _ _ rfl (setRow_heap _ _ _ _ _ _ hzr) Tryz.underlying35 rfl size_fd) rfl ?_)
                  exact ⟨⟨.slice none 0 0, .slice none 0 0, zeroF⟩, rfl, rfl, ⟨RSl.nil _ 1, RSl.nil _ 5⟩, fun _ _ => ⟨Or.inl rfl, Or.inl rfl⟩, HWR.out.setRow (by omega) _⟩
                · have hsq : ¬ xupd < -62135596800 := by omega
                  obtain ⟨he, hn⟩ := head_bad hh (by decide)
                  have heE := HEF.out.symm.trans he
                  have hnE := HNF.out.symm.trans hn
                  subst heE hnE
                  clear he hn hh
                  go_wp2_with (first
                    | (refine wpList_store_row rfl 35 (.tmp 2) (.tmp 82) rfl (w.heap.size + 1) _ rfl rfl _ _ hzr size_fd rfl oneF ?_))
                  ((try simp only [Exit.inBlock, Exit.then]); refine bodyPost_ret (results_cell_row2 rfl _ _ _ _ _ _ _ rfl (setRow_heap _ _ _ _ _ _ hzr) Tryz.underlying35 rfl size_fd) rfl ?_)
                  exact ⟨⟨.slice none 0 0, .slice none 0 0, zeroF⟩, rfl, rfl, ⟨RSl.nil _ 1, RSl.nil _ 5⟩, fun _ _ => ⟨Or.inl rfl, Or.inl rfl⟩, HWR.out.setRow (by omega) _⟩
              | true =>
                have hh : headF ⟨xpath, xid, xtitle, xlink, xupd, xents⟩ = 0 := by rw [hhead, hti]; rfl
                obtain ⟨hu1, hu2⟩ := inT_true hti
                have HH := Lib.hid hh
                clear hhead hti hh
                obtain ⟨vA, vc, hv, -, -⟩ := (RSl.of_own hown).2
                subst hv
                have hsz0 := hxr.size
                have hgr : g < wr.heap.size := by
                  have h1 := HGL.out
                  simp [World.setCell] at hsz0
                  omega
                have oth : ∀ (i : Nat) (u : Value), i ≠ 0 → W3.cell? ⟨g, i, none⟩ = some u → wr.cell? ⟨g, i, none⟩ = some u := fun i u hi hu =>
                  hxr.cell ((World.cell?_setCell_other W3 ⟨g, 0, none⟩ ⟨g, i, none⟩ _ (by intro e; exact hi (congrArg Addr.off e).symm)).trans hu)
                have hf5 : wr.frozen? ⟨g, 5, none⟩ = false := (Below.frozen hxr (by simp [World.setCell]; exact HGL.out)).trans (by rw [World.frozen?_setCell]; exact Lib.frozen_of_heap HBW3.out 5)
                have c5 := oth 5 _ (by decide) HD.out.2.2.2.2
                have HC := Lib.hid (And.intro vc0 (And.intro (oth 1 _ (by decide) HD.out.1) (And.intro (oth 2 _ (by decide) HD.out.2.1) (And.intro (oth 3 _ (by decide) HD.out.2.2.1) (oth 4 _ (by decide) HD.out.2.2.2.1)))))
                have HOWP := Lib.hid hown
                have HF5 := Lib.hid hf5
                have HC5 := Lib.hid c5
                have HGR := Lib.hid hgr
                have HWW := Lib.hid hWr
                have HEK : Hid (∀ e ∈ xents, eok e) := Lib.hid fun e he => HK.out.2.2 e he
                have hel : xents.length ≤ 1000000 := HK.out.2.1
                clear oth hsz0 hf5 c5 hown vc0 vf0
                obtain ⟨wP, hwP⟩ : ∃ wP : World, wP = wr := ⟨_, rfl⟩
                subst hwP
                go_wp2
                clear b0 b1 b2 b3 b4 b5 hu1 hu2 h64' hgr hWr hzr
                go_loopw [8] (fun i wr => ∃ (j : Nat) (u : Value), j ≤ xents.length ∧ i = .int .i64 j ∧ OEnts wr wP.heap.size u (ordE.canon ((xents.take j).map collE)) ∧ Hid (∀ e ∈ xents.take j, errE e = 0) ∧ Ext (wP.setCell ⟨g, 5, none⟩ u) wr) (fun i _ => xents.length - (intOf i).toNat)
                case atStart => exact ⟨0, .slice none 0 0, Nat.zero_le _, rfl, show OEnts _ _ _ (ordE.canon []) from OEnts.nil _ _, Lib.hid (by simp), by rw [setCell_kept _ _ _ _ HC5.out]; exact Ext.refl _⟩
                case round =>
                  obtain ⟨j, u, hj, rfl, hown, herr, hxq⟩ := hrel
                  have q5 := hxq.cell (World.cell?_setCell_same _ _ _ HC5.out)
                  have hf : wr.frozen? ⟨g, 5, none⟩ = false := (Below.frozen hxq (by simp [World.setCell]; exact HGR.out)).trans (by rw [World.frozen?_setCell]; exact HF5.out)
                  have hWq : Ext W wr := (Ext.setCell HWW.out HGW.out _).trans hxq
                  obtain ⟨b0, b1, b2, b3, b4, b5⟩ := HBX.out wr hWq
                  have hws : wP.heap.size ≤ wr.heap.size := by have := hxq.size; simpa [World.setCell] using this
                  obtain ⟨uA, uc, hu, -, -⟩ := hown.reads.form
                  subst hu
                  have hgr2 : g < wr.heap.size := Nat.lt_of_lt_of_le HGR.out hws
                  by_cases hlt : j < xents.length
                  · obtain ⟨ad, c1, e1, hat⟩ := (HRE.out.ext (hxW.trans hWq)).at hlt
                    injection e1 with e1 e1' e1''
                    subst e1
                    clear e1' e1''
                    have htk := List.take_succ_eq_append_getElem hlt
                    have hbad := errEs_at xents j hlt herr.out
                    have hek := HEK.out _ (List.getElem_mem hlt)
                    obtain ⟨e, hee⟩ : ∃ e, xents[j] = e := ⟨_, rfl⟩
                    rw [hee] at hat htk hbad hek
                    have hks : eokS e := by obtain ⟨_, h⟩ := hek; exact ⟨by omega, by omega, by omega, by omega⟩
                    have HNE := Lib.hid (fun (w' : World) (h : Ext wr w') => refEntry_any e w' (hE.ext ((hxW.trans hWq).trans h)) hks)
                    have HTK := Lib.hid htk
                    have HBD := Lib.hid hbad
                    have hi0' : (0 : Int) ≤ (j : Int) := by omega
                    have hi1' : (j : Int) < (xents.length : Int) := by omega
                    have HOK : Hid (∀ x ∈ ordE.canon ((xents.take j).map collE), eok x) := Lib.hid fun x hx => by
                      obtain ⟨y, hy, rfl⟩ := List.mem_map.1 (canonE_mem hx)
                      exact eok_coll (HEK.out y (List.mem_of_mem_take hy))
                    have hol : (ordE.canon ((xents.take j).map collE)).length ≤ 1000000 := by
                      have h1 := canon_len ordE ((xents.take j).map collE)
                      rw [List.length_map, List.length_take] at h1
                      omega
                    have hcn : ordE.put (ordE.canon ((xents.take j).map collE)) (collE e) = ordE.canon ((xents.take (j + 1)).map collE) := by
                      rw [htk, List.map_append, Ord.canon_append]
                      rfl
                    have hec := eok_coll hek
                    clear htk hbad hek hks hee
                    obtain ⟨a0, a1, a2, a3, a4⟩ := hat
                    obtain ⟨E, hEr⟩ : ∃ E, errE e = E := ⟨_, rfl⟩
                    rw [hEr] at HNE HBD
                    have HER2 := Lib.hid hEr
                    obtain ⟨O, hO⟩ : ∃ O, ordE.canon ((xents.take j).map collE) = O := ⟨_, rfl⟩
                    rw [hO] at hown hcn hol HOK
                    simp only [hO] at b0 b1 b2 b3 b4 b5 q5 ⊢
                    have HCN := Lib.hid hcn
                    clear hO hcn hEr
                    obtain ⟨eid, etitle, elink, econtent, eupd⟩ := e
                    dsimp only at a0 a1 a2 a3 a4
                    unfold eCells at HNE
                    dsimp only at HNE
                    by_cases hE0 : E = 0
                    · subst hE0
                      have hNc : normE ⟨eid, etitle, elink, econtent, eupd⟩ = collE ⟨eid, etitle, elink, econtent, eupd⟩ := by unfold normE; rw [if_pos HER2.out]
                      rw [hNc] at HNE
                      have HAD := Lib.hid (fun (w' : World) (h : Ext wr w') => refAdd_any (.slice uA O.length uc) O (collE ⟨eid, etitle, elink, econtent, eupd⟩) w' ((OEnts.reads hown).ext h) HOK.out hec hol)
                      unfold eCells at HAD
                      unfold collE at HNE HAD
                      dsimp only at HNE HAD
                      obtain ⟨ni, hni⟩ : ∃ ni, collapse eid = ni := ⟨_, rfl⟩
                      obtain ⟨nt, hnt⟩ : ∃ nt, collapse etitle = nt := ⟨_, rfl⟩
                      obtain ⟨nl, hnl⟩ : ∃ nl, collapse elink = nl := ⟨_, rfl⟩
                      obtain ⟨nc, hnc⟩ : ∃ nc, collapse econtent = nc := ⟨_, rfl⟩
                      rw [hni, hnt, hnl, hnc] at HNE HAD
                      have HNN := Lib.hid (And.intro hni (And.intro hnt (And.intro hnl hnc)))
                      clear hni hnt hnl hnc hNc hown hec
                      have HXQ := Lib.hid hxq
                      go_wp2_with (first
                        | (go_at_call 18; (have hz := HNE.out wr (Ext.refl _)); (with_reducible refine Calls.mono hz ?_); clear hz; rintro e w8 ⟨rfl, hx8⟩; (have hx9 := hx8.alloc (.cells #[.string ni, .string nt, .string nl, .string nc, .int .i64 eupd] 23)); (have r5 := hx9.cell q5))
                        | (go_at_call 53; go_loud ((have hz := HAD.out _ hx9); (with_reducible refine Calls.mono hz ?_); clear hz; rintro e wA ⟨u', rfl, hownA, hxA⟩; (obtain ⟨zA, zc, hze, _, _⟩ := hownA.reads.form); subst hze; (have hxqA := hx9.trans hxA); (have s5 := hxqA.cell q5); (have sf := (Below.frozen hxqA (show g < wr.heap.size from hgr2)).trans hf))))
                      go_roundw
                      case rel =>
                        have hn : collE ⟨eid, etitle, elink, econtent, eupd⟩ = ⟨ni, nt, nl, nc, eupd⟩ := by unfold collE; rw [HNN.out.1, HNN.out.2.1, HNN.out.2.2.1, HNN.out.2.2.2]
                        have hc := HCN.out
                        rw [hn] at hc
                        refine ⟨j + 1, _, hlt, by go_num, ?_, Lib.hid fun x hx => ?_, ext_setCell2 (HXQ.out.trans hxqA)⟩
                        · rw [← hc]
                          exact ownsRow_setCell_below (OEnts.mono hownA (Nat.le_trans hws hx9.size)) (a := ⟨g, 5, none⟩) HGR.out _
                        · rw [HTK.out] at hx
                          rcases List.mem_append.1 hx with hx | hx
                          · exact herr.out x hx
                          · rw [List.mem_singleton.1 hx]; exact HER2.out
                      case measure => simp [intOf]; omega
                    · have hb : ((E : Int) != 0) = true := by simp; omega
                      have he : errF ⟨xpath, xid, xtitle, xlink, xupd, xents⟩ = E := by unfold errF; rw [HH.out, if_pos rfl]; exact HBD.out hE0
                      have hn : normF ⟨xpath, xid, xtitle, xlink, xupd, xents⟩ = zeroF := by unfold normF; rw [he, if_neg hE0]
                      have heE := HEF.out.symm.trans he
                      have hnE := HNF.out.symm.trans hn
                      have HWQ := Lib.hid hWq
                      subst heE hnE
                      clear he hn hE0 hWq
                      have hzq := HWQ.out.heap hzW
                      obtain ⟨N, hN⟩ : ∃ N, normE ⟨eid, etitle, elink, econtent, eupd⟩ = N := ⟨_, rfl⟩
                      rw [hN] at HNE
                      clear hN
                      obtain ⟨ni, nt, nl, nc, nu⟩ := N
                      dsimp only at HNE
                      go_wp2_with (first
                        | (go_at_call 18; (have hz := HNE.out wr (Ext.refl _)); (with_reducible refine Calls.mono hz ?_); clear hz; rintro e w8 ⟨rfl, hx8⟩; (have hx9 := hx8.alloc (.cells #[.string ni, .string nt, .string nl, .string nc, .int .i64 nu] 23)); (have hz9 := hx9.heap hzq))
                        | (refine wpList_store_row rfl 35 (.tmp 2) (.tmp 101) rfl (w.heap.size + 1) _ rfl rfl _ _ hz9 size_fd rfl oneF ?_))
                      ((try simp only [Exit.inBlock, Exit.then]); refine bodyPost_ret (results_cell_row2 rfl _ _ _ _ _ _ _ rfl (setRow_heap _ _ _ _ _ _ hz9) Tryz.underlying35 rfl size_fd) rfl ?_)
                      exact ⟨⟨.slice none 0 0, .slice none 0 0, zeroF⟩, rfl, rfl, ⟨RSl.nil _ 1, RSl.nil _ 5⟩, fun _ _ => ⟨Or.inl rfl, Or.inl rfl⟩, ((hxW.trans HWQ.out).trans hx9).setRow (by omega) _⟩
                  · have hje : j = xents.length := by omega
                    subst hje
                    have htl : xents.take xents.length = xents := List.take_of_length_le (Nat.le_refl _)
                    rw [htl] at hown herr
                    simp only [htl] at q5 hxq
                    have he : errF ⟨xpath, xid, xtitle, xlink, xupd, xents⟩ = 0 := by unfold errF; rw [HH.out, if_pos rfl]; exact errEs_zero.2 herr.out
                    have hn : normF ⟨xpath, xid, xtitle, xlink, xupd, xents⟩ = collF ⟨xpath, xid, xtitle, xlink, xupd, xents⟩ := by unfold normF; rw [he, if_pos rfl]
                    have heE := HEF.out.symm.trans he
                    have hnE := HNF.out.symm.trans hn
                    have HWQ := Lib.hid hWq
                    have HXQ := Lib.hid hxq
                    have HOWE := Lib.hid hown
                    subst heE hnE
                    clear he hn hWq htl hown
                    have hzq := HWQ.out.heap hzW
                    have cq : ∀ (i : Nat) (v : Value), i ≠ 5 → wP.cell? ⟨g, i, none⟩ = some v → wr.cell? ⟨g, i, none⟩ = some v := fun i v hi hv =>
                      HXQ.out.cell ((World.cell?_setCell_other wP ⟨g, 5, none⟩ ⟨g, i, none⟩ _ (by intro e; exact hi (congrArg Addr.off e).symm)).trans hv)
                    have q0 := cq 0 _ (by decide) HC.out.1
                    have q1 := cq 1 _ (by decide) HC.out.2.1
                    have q2 := cq 2 _ (by decide) HC.out.2.2.1
                    have q3 := cq 3 _ (by decide) HC.out.2.2.2.1
                    have q4 := cq 4 _ (by decide) HC.out.2.2.2.2
                    obtain ⟨O, hO⟩ : ∃ O, ordE.canon (xents.map collE) = O := ⟨_, rfl⟩
                    rw [hO] at HOWE
                    simp only [hO] at q5
                    have HO := Lib.hid hO
                    clear hO cq hxq
                    go_wp2_with (first
                      | (refine wpList_store_row rfl 35 (.tmp 2) (.tmp 108) rfl (w.heap.size + 1) _ rfl rfl _ _ hzq size_fd rfl oneF ?_))
                    ((try simp only [Exit.inBlock, Exit.then]); refine bodyPost_ret (results_cell_row2 rfl _ _ _ _ _ _ _ rfl (setRow_heap _ _ _ _ _ _ hzq) Tryz.underlying35 rfl size_fd) rfl ?_)
                    have hlb := HOWP.out.lt
                    have haw : ∀ q, q < W3.heap.size → (xpath.map collapse).map Value.string = [] ∨ (Value.slice vA xpath.length vc).ownBlock ≠ some q := fun q hq => Or.inr fun e => by have := (hlb q e).1; omega
                    have hp0 : RStrs wP (.slice vA xpath.length vc) (xpath.map collapse) := by
                      have h := RSl.of_own HOWP.out
                      unfold RStrs
                      rw [List.length_map, List.map_map]
                      exact h
                    have hg3 := HGL.out
                    have hw3 : w.heap.size + 1 < W3.heap.size := by have h1 := HSW.out; have h2 := HGW.out; omega
                    have hlb2 := HOWE.out.lt
                    refine ⟨⟨.slice vA xpath.length vc, .slice uA O.length uc, ⟨xpath.map collapse, collapse xid, collapse xtitle, collapse xlink, xupd, O⟩⟩, rfl, ?_, ⟨RSl.grown (RSl.ext (RSl.grown hp0 (setCell_grown wP ⟨g, 5, none⟩ _) (haw g hg3)) HXQ.out) (setRow_grown wr (w.heap.size + 1) _) (haw _ hw3), RSl.grown HOWE.out.reads (setRow_grown wr (w.heap.size + 1) _) (Or.inr fun e => by have h1 := (hlb2 _ e).1; have h2 := HGR.out; have h3 := HSW.out; have h4 := HGW.out; omega)⟩, fun q hq => ⟨Or.inr fun e => by have := (hlb q e).1; omega, Or.inr fun e => by have h1 := (hlb2 q e).1; have h2 := HGR.out; have h4 := HGW.out; have h3 := HSW.out; omega⟩, (hxW.trans HWQ.out).setRow (by omega) _⟩
                    rw [← HO.out]
                    rfl
    · have hb : ((EC : Int) != 0) = true := by simp; omega
      have hh : headF ⟨xpath, xid, xtitle, xlink, xupd, xents⟩ = EC := by unfold headF; rw [HEC.out, if_pos hec]
      have he : errF ⟨xpath, xid, xtitle, xlink, xupd, xents⟩ = EC := by unfold errF; rw [hh, if_neg hec]
      have hn : normF ⟨xpath, xid, xtitle, xlink, xupd, xents⟩ = zeroF := by unfold normF; rw [he, if_neg hec]
      have heE := HEF.out.symm.trans he
      have hnE := HNF.out.symm.trans hn
      subst heE hnE
      clear hh he hn hec
      go_wp2_with (first
        | (refine wpList_store_row rfl 35 (.tmp 2) (.tmp 26) rfl (w.heap.size + 1) _ rfl rfl _ _ hzq size_fd rfl oneF ?_))
      ((try simp only [Exit.inBlock, Exit.then]); refine bodyPost_ret (results_cell_row2 rfl _ _ _ _ _ _ _ rfl (setRow_heap _ _ _ _ _ _ hzq) Tryz.underlying35 rfl size_fd) rfl ?_)
      exact ⟨⟨.slice none 0 0, .slice none 0 0, zeroF⟩, rfl, rfl, ⟨RSl.nil _ 1, RSl.nil _ 5⟩, fun _ _ => ⟨Or.inl rfl, Or.inl rfl⟩, HW1.out.setRow (by omega) _⟩
  · have hp0 := (HBX.out W (Ext.refl W)).1
    have hp1 := (HBX.out W (Ext.refl W)).2.1
    have hp2 := (HBX.out W (Ext.refl W)).2.2.1
    have hp3 := (HBX.out W (Ext.refl W)).2.2.2.1
    have hpW := HP.out.ext hxW
    have hxa : Ext W W := Ext.refl W
    go_region_held3 (fun w' => Ext W w' ∧ w'.cell? ⟨w.heap.size, 0, none⟩ = some (.slice xA xpath.length xc) ∧ w'.cell? ⟨w.heap.size, 1, none⟩ = some (.string xid) ∧ w'.cell? ⟨w.heap.size, 2, none⟩ = some (.string xtitle) ∧ w'.cell? ⟨w.heap.size, 3, none⟩ = some (.string xlink))
      ((go_split_ands; refine ⟨?_, ?_, ?_, ?_, ?_⟩ <;> first | assumption | ((repeat (first | exact Ext.refl _ | assumption | apply Ext.drew | apply Ext.alloc)); done) | ((refine Ext.trans ?_ (by assumption)); (repeat (first | exact Ext.refl _ | assumption | apply Ext.drew | apply Ext.alloc)); done) | ((refine Ext.cell (by assumption) ?_); first | assumption | (go_keep; done)) | (go_keep; done)))
      (first
        | ((have HOW := Lib.hid (own_new (w := W.drew) (base := W.heap.size) (e := 9) (size := 1) (n := 0) (cs := []) (Nat.le_refl _) rfl (by decide))); refine step_append_rsl _ (by rfl) (.tmp 11) (.tmp 13) _ (by rfl) W.heap.size 9 i0 _ 1 16 Tryz.underlying32 hi0 hz0 hz1 hz2 rfl (by decide) _ 0 [] (by rfl) HOW.out (.slice xA xpath.length xc) xpath.length (xpath.map Value.string) (by rfl) (HP.out.ext (hxW.trans ((Ext.refl W).drew.alloc _))) (str_oneS _) HML.out HBY.out ((show W.heap.size ≤ _ from ((Ext.refl W).drew.alloc _).size)) ?_; intro v4 w4 hown4 hg4 hat4; (have hx4 : Ext W w4 := Ext.app ((Ext.refl W).drew.alloc _) hg4 HOW.out (Nat.le_refl _)); (have HOWN4 := Lib.hid hown4); (have HX4 := Lib.hid hx4); clear hown4 hg4 hat4; (have hxb := hx4))
        | ((have HOW := Lib.hid (own_ext (own_new (w := W.drew) (base := W.heap.size) (e := 9) (size := 1) (n := 0) (cs := []) (Nat.le_refl _) rfl (by decide)) ((Ext.refl _).alloc (.cells #[.string xid, .string xtitle, .string xlink] 9)))); refine step_append_rsl _ (by rfl) (.tmp 11) (.tmp 13) _ (by rfl) W.heap.size 9 i0 _ 1 16 Tryz.underlying32 hi0 hz0 hz1 hz2 rfl (by decide) _ 0 [] (by rfl) HOW.out (.slice xA xpath.length xc) xpath.length (xpath.map Value.string) (by rfl) (HP.out.ext (hxW.trans (((Ext.refl W).drew.alloc _).alloc _))) (str_oneS _) HML.out HBY.out ((show W.heap.size ≤ _ from (((Ext.refl W).drew.alloc _).alloc _).size)) ?_; intro v4 w4 hown4 hg4 hat4; (have hx4 : Ext W w4 := Ext.app (((Ext.refl W).drew.alloc _).alloc _) hg4 HOW.out (Nat.le_refl _)); (have HT3 : Hid (RSl w4 1 (.slice (some ⟨W.heap.size + 1, 0, none⟩) 3 3) 3 [.string xid, .string xtitle, .string xlink]) := Lib.hid (RSl.grown (rsl_B W xid xtitle xlink) hg4 (Or.inr (by intro e; injection e with e; exact absurd e (by show W.heap.size + 1 ≠ W.heap.size; omega))))); (have HOWN4 := Lib.hid hown4); (have HX4 := Lib.hid hx4); clear hown4 hg4 hat4; (have hxb := hx4))
        | ((have HOW := Lib.hid (own_newC W (a := xid) (b := xtitle) (c := xlink))); refine step_append_rsl _ (by rfl) (.tmp 11) (.tmp 13) _ (by rfl) W.heap.size 9 i0 _ 1 16 Tryz.underlying32 hi0 hz0 hz1 hz2 rfl (by decide) _ 0 [] (by rfl) HOW.out (.slice xA xpath.length xc) xpath.length (xpath.map Value.string) (by rfl) (HP.out.ext (hxW.trans (((Ext.refl W).drew.alloc _).alloc _))) (str_oneS _) HML.out HBY.out ((show W.heap.size ≤ _ from (((Ext.refl W).drew.alloc _).alloc _).size)) ?_; intro v4 w4 hown4 hg4 hat4; (have hx4 : Ext W w4 := Ext.app (((Ext.refl W).drew.alloc _).alloc _) hg4 HOW.out (Nat.le_refl _)); (have HT3 : Hid (RSl w4 1 (.slice (some ⟨W.heap.size, 0, none⟩) 3 3) 3 [.string xid, .string xtitle, .string xlink]) := Lib.hid (RSl.grown (rsl_C W xid xtitle xlink) hg4 (Or.inr (by intro e; injection e with e; exact absurd e (by show W.heap.size ≠ W.heap.size + 1; omega))))); (have HOWN4 := Lib.hid hown4); (have HX4 := Lib.hid hx4); clear hown4 hg4 hat4; (have hxb := hx4))
        | ((have HOW5 := Lib.hid (own_ext HOWN4.out ((Ext.refl w4).alloc (.cells #[.string xid, .string xtitle, .string xlink] 9)))); refine step_append_rsl _ (by rfl) (.tmp 14) (.tmp 21) _ (by rfl) W.heap.size 9 i0 _ 1 16 Tryz.underlying32 hi0 hz0 hz1 hz2 rfl (by decide) _ (0 + xpath.length) _ (by rfl) HOW5.out _ 3 [.string xid, .string xtitle, .string xlink] (by rfl) (rsl_new (w := w4) (size := 1) (n := 3) (e := 9) (cs := [.string xid, .string xtitle, .string xlink]) rfl (by decide)) (str_oneS [xid, xtitle, xlink]) HML2.out HBY2.out ((HX4.out.alloc _).size) ?_; intro v5 w5 hown5 hg5 hat5; (have hx5 : Ext W w5 := Ext.app (HX4.out.alloc _) hg5 HOW5.out (Nat.le_refl _)); (have HOWN5 := Lib.hid hown5); (have HX5 := Lib.hid hx5); clear hown5 hg5 hat5 hx4 hxb; (have hxc := hx5))
        | ((have HOW5 := Lib.hid (HOWN4.out)); refine step_append_rsl _ (by rfl) (.tmp 14) (.tmp 21) _ (by rfl) W.heap.size 9 i0 _ 1 16 Tryz.underlying32 hi0 hz0 hz1 hz2 rfl (by decide) _ (0 + xpath.length) _ (by rfl) HOW5.out _ 3 [.string xid, .string xtitle, .string xlink] (by rfl) (HT3.out) (str_oneS [xid, xtitle, xlink]) HML2.out HBY2.out (HX4.out.size) ?_; intro v5 w5 hown5 hg5 hat5; (have hx5 : Ext W w5 := Ext.app (HX4.out) hg5 HOW5.out (Nat.le_refl _)); (have HOWN5 := Lib.hid hown5); (have HX5 := Lib.hid hx5); clear hown5 hg5 hat5 hx4 hxb; (have hxc := hx5))
        | (go_at_call 45; (have hz := HCK.out w5 v5 (feedR_strs HOWN5.out)); (with_reducible refine Calls.mono hz ?_); clear hz; rintro e w6 ⟨rfl, hx6⟩; (have hxd := HX5.out.trans hx6)))
    all_goals exact ⟨hxd, _, _, _, _, rfl⟩
end Go.Proofs.YtgecijhgonfldaaGreatDoor
