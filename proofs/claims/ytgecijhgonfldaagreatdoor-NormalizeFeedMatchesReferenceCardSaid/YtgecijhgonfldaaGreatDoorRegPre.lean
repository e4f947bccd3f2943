/- A region that draws its order, in which a load may be taken first that a later operation of the same region overwrites: what the load reads must hold only until operation t, which waits for it, comes up. Then one forced order. -/
import Derived.Test.YtgecijhgonfldaaGreatDoorRegIx
import Derived.OrdersHeld
namespace Go.Proofs.YtgecijhgonfldaaGreatDoor
open Go Go.RowKit
section
variable {P : Program} {ops : Array Oper} {md : Region.Mode} {Q : Exit → Act → World → Prop} {S : World → Prop} {t : Nat}

/-- whatever order is picked; until t has come up, S holds behind each operation -/
def wpAnyT (P : Program) (md : Region.Mode) (ops : Array Oper) (Q : Exit → Act → World → Prop) (S : World → Prop) (t : Nat) : Nat → Array Bool → Act → World → Prop
  | 0, listed, a, w => Region.ready md ops listed = [] ∧ Q .normal a w
  | f + 1, listed, a, w => (Region.ready md ops listed = [] → Q .normal a w) ∧
    ∀ i ∈ Region.ready md ops listed, wpOp P ops Q i (fun a' w' => ((listed.setIfInBounds i true).getD t true = false → S w') ∧ wpAnyT P md ops Q S t f (listed.setIfInBounds i true) a' w') a w
theorem wpAny_of_T : ∀ (f : Nat) (listed : Array Bool) (a : Act) (w : World), wpAnyT P md ops Q S t f listed a w → wpAny P md ops Q f listed a w
  | 0, _, _, _, h => h
  | f + 1, _, _, _, h => ⟨h.1, fun i hi => wpOp_mono (fun a' w' h' => wpAny_of_T f _ a' w' h'.2) (h.2 i hi)⟩
theorem wpAnyT_of_any : ∀ (f : Nat) (listed : Array Bool) (a : Act) (w : World), listed.getD t true = true → wpAny P md ops Q f listed a w → wpAnyT P md ops Q S t f listed a w
  | 0, _, _, _, _, h => h
  | f + 1, listed, _, _, ht, h => ⟨h.1, fun i hi => wpOp_mono (fun a' w' h' => by
      have ht' : (listed.setIfInBounds i true).getD t true = true := by
        by_cases hit : i = t
        · subst hit
          rcases Nat.lt_or_ge i listed.size with h1 | h1
          · simp [h1]
          · simp [h1]
        · rw [getD_set_ne true hit]; exact ht
      exact ⟨fun h1 => (by rw [ht'] at h1; cases h1), wpAnyT_of_any f _ a' w' ht' h'⟩) (h.2 i hi)⟩
theorem wpAny_first_load {i : Nat} {oi : Oper} {v : Value} (hi : ops[i]? = some oi) (hsel : ∀ (j : Nat) (o : Oper) cs b, ops[j]? = some o → o.op ≠ .select cs b)
    (hQ : ∀ c a w, Q (.panic c) (a.put oi.dst v) w → Q (.panic c) a w) (hit : i ≠ t) (hwt : ∀ ot, ops[t]? = some ot → ∃ e ∈ ot.after, Region.binds md e = true ∧ e.on = i) :
    ∀ (fuel : Nat) (listed : Array Bool) (a : Act) (w : World), listed.getD t true = false →
      (∀ j oj, ops[j]? = some oj → j ≠ i → listed.getD j true = false → (∀ e ∈ oj.after, Region.binds md e = true → e.on ≠ i) → oi.apart ops oj = true) →
      i ∈ Region.ready md ops listed → YieldsIf P ops S oi v a → S w →
      wpAnyT P md ops Q S t fuel (listed.setIfInBounds i true) (a.put oi.dst v) w → wpAny P md ops Q (fuel + 1) listed a w := by
  intro fuel
  induction fuel with
  | zero =>
    intro listed a w _ _ hr hy hS H
    refine ⟨fun h => (by rw [h] at hr; cases hr), fun j hj => ?_⟩
    by_cases hji : j = i
    · subst hji; exact hy.wpOp hi hS H
    · have := ready_mono hj hji
      rw [H.1] at this
      cases this
  | succ fuel ih =>
    intro listed a w htl hfree hr hy hS H
    refine ⟨fun h => (by rw [h] at hr; cases hr), fun j hj => ?_⟩
    by_cases hji : j = i
    · subst hji; exact hy.wpOp hi hS (wpAny_of_T _ _ _ _ H)
    · have h1 := H.2 j (ready_mono hj hji)
      obtain ⟨hjun, oj, hoj, hall⟩ := mem_ready.1 hj
      have hun := (mem_ready.1 hr).1
      have hnot : ∀ e ∈ oj.after, Region.binds md e = true → e.on ≠ i := fun e he hb heq => by
        have h1 := hall e he hb
        rw [heq, getD_both hun] at h1
        cases h1
      have hjt : j ≠ t := fun e => by
        subst e
        obtain ⟨e, he, hb, hon⟩ := hwt oj hoj
        exact hnot e he hb hon
      have h2 := wpOp_putIf hoj (hfree j oj hoj hji hjun hnot) (fun cs b => hsel i oi cs b hi) (fun cs b => hsel j oj cs b hoj) hQ hy h1
      have hfree' : ∀ k ok, ops[k]? = some ok → k ≠ i → (listed.setIfInBounds j true).getD k true = false →
          (∀ e ∈ ok.after, Region.binds md e = true → e.on ≠ i) → oi.apart ops ok = true := fun k ok hk hki hunk hno => by
        refine hfree k ok hk hki ?_ hno
        by_cases hjk : j = k
        · subst hjk; exact hjun
        · rw [getD_set_ne true hjk] at hunk; exact hunk
      have htl' : (listed.setIfInBounds j true).getD t true = false := by rw [getD_set_ne true hjt]; exact htl
      have htl2 : ((listed.setIfInBounds i true).setIfInBounds j true).getD t true = false := by rw [getD_set_ne true hjt, getD_set_ne true hit]; exact htl
      refine wpOp_mono (fun a' w' h3 => ih (listed.setIfInBounds j true) a' w' htl' hfree' (ready_mono hr (Ne.symm hji)) h3.1 (h3.2.1 htl2) ?_) h2
      rw [Array.setIfInBounds_comm _ _ hji]
      exact h3.2.2
/-- take number i first: it yields in whatever world -/
theorem wpAny_takeL {l : List Oper} {i : Nat} {oi : Oper} {v : Value} {fuel : Nat} {listed : Array Bool} {a : Act} {w : World} (hi : l[i]? = some oi)
    (hB : (Region.noSelect l.toArray && Region.free md l.toArray listed i && (Region.ready md l.toArray listed).contains i) = true)
    (hQ : ∀ c a w, Q (.panic c) (a.put oi.dst v) w → Q (.panic c) a w) (hy : Yields P l.toArray oi v a)
    (h : wpAny P md l.toArray Q fuel (listed.setIfInBounds i true) (a.put oi.dst v) w) : wpAny P md l.toArray Q (fuel + 1) listed a w := by
  simp only [Bool.and_eq_true] at hB
  exact wpAny_take (by rw [List.getElem?_toArray]; exact hi) hB.1.1 hB.1.2 hB.2 hQ hy h
/-- take the load number i first; t waits for it -/
theorem wpAny_load {l : List Oper} {i : Nat} {oi : Oper} {v : Value} {fuel : Nat} {listed : Array Bool} {a : Act} {w : World} (S : World → Prop) (t : Nat) (hi' : l[i]? = some oi)
    (hB : (Region.noSelect l.toArray && decide (i ≠ t) && Region.waitsFor md l.toArray t i && !listed.getD t true && Region.free md l.toArray listed i && (Region.ready md l.toArray listed).contains i) = true)
    (hQ : ∀ c a w, Q (.panic c) (a.put oi.dst v) w → Q (.panic c) a w) (hy : YieldsIf P l.toArray S oi v a) (hS : S w)
    (h : wpAnyT P md l.toArray Q S t fuel (listed.setIfInBounds i true) (a.put oi.dst v) w) : wpAny P md l.toArray Q (fuel + 1) listed a w := by
  have hi : l.toArray[i]? = some oi := by rw [List.getElem?_toArray]; exact hi'
  simp only [Bool.and_eq_true, decide_eq_true_eq, Bool.not_eq_true'] at hB
  obtain ⟨⟨⟨⟨⟨b1, b2⟩, b3⟩, b4⟩, b5⟩, b6⟩ := hB
  obtain ⟨ot, hot, e, he, hb, hon⟩ := Region.waitsFor_spec b3
  exact wpAny_first_load hi (Region.noSelect_spec b1) hQ b2 (fun ot' ho' => by
    have : ot' = ot := Option.some.inj (ho'.symm.trans hot)
    subst this
    exact ⟨e, he, hb, hon⟩) fuel listed a w b4 (Region.free_spec hi b5) (by simpa using b6) hy hS h
/-- one forced order; S is shown behind each operation of the first part -/
def wpListS (P : Program) (ops : Array Oper) (Q : Exit → Act → World → Prop) (S : World → Prop) (post : List Oper) : List Oper → Act → World → Prop
  | [], a, w => wpList P ops Q post a w
  | o :: tl, a, w => if Region.wanted o (yielded ops a.tmps) then Oper.wp P o a w (fun a' w' => S w' ∧ wpListS P ops Q S post tl a' w') Q else S w ∧ wpListS P ops Q S post tl (a.put o.dst undef) w
theorem wpListS_nil {post : List Oper} {a : Act} {w : World} (h : wpList P ops Q post a w) : wpListS P ops Q S post [] a w := h
theorem wpListS_step {post tl : List Oper} {o : Oper} {a : Act} {w : World} (h : ∀ K : Act → World → Prop, (∀ a' w', S w' → wpListS P ops Q S post tl a' w' → K a' w') → if Region.wanted o (yielded ops a.tmps) then Oper.wp P o a w K Q else K (a.put o.dst undef) w) : wpListS P ops Q S post (o :: tl) a w :=
  h (fun a' w' => S w' ∧ wpListS P ops Q S post tl a' w') fun _ _ h1 h2 => ⟨h1, h2⟩
theorem wpAnyT_seqS {l : List Oper} (t : Nat) (us : List Nat) {post : List Oper} (hus : AtIx l (t :: us) post) : ∀ (ts : List Nat) (tl : List Oper) (listed : Array Bool) (a : Act) (w : World), AtIx l ts tl →
    seqL md l.toArray (ts ++ (t :: us)) listed = true → wpListS P l.toArray Q S post tl a w → wpAnyT P md l.toArray Q S t (ts.length + (us.length + 1)) listed a w
  | [], [], listed, a, w, _, hB, h => by
    match post, hus with
    | o :: post', hus =>
      simp only [List.nil_append, seqL, Bool.and_eq_true, decide_eq_true_eq] at hB
      rw [List.length_nil, Nat.zero_add]
      refine ⟨fun h1 => (by rw [hB.1] at h1; cases h1), fun i hi => ?_⟩
      rw [hB.1] at hi
      have hik : i = t := by simpa using hi
      subst hik
      have ho : l.toArray[i]? = some o := by rw [List.getElem?_toArray]; exact hus.1
      have hw : wpOp P l.toArray Q i (wpList P l.toArray Q post') a w := by unfold wpOp; simp only [ho]; exact h
      refine wpOp_mono (fun a' w' h' => ?_) hw
      have hti : (listed.setIfInBounds i true).getD i true = true := by
        rcases Nat.lt_or_ge i listed.size with h1 | h1
        · simp [h1]
        · simp [h1]
      exact ⟨fun h1 => (by rw [hti] at h1; cases h1), wpAnyT_of_any _ _ a' w' hti (wpAny_of_seqL us post' _ a' w' hus.2 hB.2 h')⟩
  | [], _ :: _, _, _, _, hl, _, _ => hl.elim
  | _ :: _, [], _, _, _, hl, _, _ => hl.elim
  | j :: ts, o :: tl, listed, a, w, hl, hB, h => by
    simp only [List.cons_append, seqL, Bool.and_eq_true, decide_eq_true_eq] at hB
    rw [List.length_cons, show ts.length + 1 + (us.length + 1) = (ts.length + (us.length + 1)) + 1 by omega]
    refine ⟨fun h1 => (by rw [hB.1] at h1; cases h1), fun i hi => ?_⟩
    rw [hB.1] at hi
    have hik : i = j := by simpa using hi
    subst hik
    have ho : l.toArray[i]? = some o := by rw [List.getElem?_toArray]; exact hl.1
    have hw : wpOp P l.toArray Q i (fun a' w' => S w' ∧ wpListS P l.toArray Q S post tl a' w') a w := by
      unfold wpOp
      simp only [ho]
      unfold wpListS at h
      split
      · rename_i hw; rw [if_pos hw] at h; exact Or.inl h
      · rename_i hw; rw [if_neg hw] at h; exact h
    exact wpOp_mono (fun a' w' h' => ⟨fun _ => h'.1, wpAnyT_seqS t us hus ts tl _ a' w' hl.2 hB.2 h'.2⟩) hw
end
end Go.Proofs.YtgecijhgonfldaaGreatDoor
