/- A region that draws its order: quiet operations, then a tail in one forced order, and one free operation anywhere (an address that only the tail's end wants). One walk. -/
import Derived.Test.YtgecijhgonfldaaGreatDoorM18
namespace Go.Proofs.YtgecijhgonfldaaGreatDoor
open Go Go.RowKit
section
variable {P : Program} {ops : Array Oper} {md : Region.Mode} {W : World} {n x : Nat}

/-- the listed operations: closed under what they wait for; of the tail, x alone is listed -/
structure HeadX (md : Region.Mode) (ops : Array Oper) (n x : Nat) (listed : Array Bool) : Prop where
  size : listed.size = ops.size
  closed : ∀ j oj, ops[j]? = some oj → listed.getD j false = true → ∀ e ∈ oj.after, Region.binds md e = true → listed.getD e.on false = true
  tail : ∀ t, n ≤ t → t < ops.size → t ≠ x → listed.getD t true = false
  taken : listed.getD x false = true
theorem HeadX.set {i : Nat} {listed : Array Bool} (inv : HeadX md ops n x listed) (hi : i ∈ Region.ready md ops listed) (hin : i < n) : HeadX md ops n x (listed.setIfInBounds i true) := by
  obtain ⟨_, oi, hoi, hall⟩ := mem_ready.1 hi
  refine ⟨by simp [inv.size], fun j oj hj hl e he hb => ?_, fun t ht ht' hx => by rw [getD_set_ne true (by omega)]; exact inv.tail t ht ht' hx, getD_set_true inv.taken⟩
  by_cases hij : i = j
  · subst hij
    have : oj = oi := Option.some.inj (hj.symm.trans hoi)
    subst this
    exact getD_set_true (hall e he hb)
  · rw [getD_set_ne false hij] at hl
    exact getD_set_true (inv.closed j oj hj hl e he hb)
def chainX (md : Region.Mode) (ops : Array Oper) (n x : Nat) : Bool :=
  (List.range ops.size).all fun t => decide (t ≤ n) || decide (t = x) || (List.range t).any fun s => decide (n ≤ s) && decide (s ≠ x) && Region.waitsFor md ops t s
theorem tail_waitsX {listed : Array Bool} (hs : Region.sinkB md ops n = true) (hc : chainX md ops n x = true) (hn : n < ops.size) (inv : HeadX md ops n x listed) :
    ∀ (d i : Nat), n - i = d → i < n → listed.getD i true = false → ∀ t, n ≤ t → t ∉ Region.ready md ops listed := by
  intro d
  induction d using Nat.strongRecOn with
  | _ d ih =>
    intro i hd hi hun t ht hr
    obtain ⟨htun, ot, hot, hall⟩ := mem_ready.1 hr
    have htlt : t < ops.size := (Array.getElem?_eq_some_iff.1 hot).1
    by_cases htx : t = x
    · subst htx
      have h1 := inv.taken
      rw [getD_both htun] at h1
      cases h1
    · by_cases htn : t = n
      · subst htn
        have h1 := List.all_eq_true.1 hs i (List.mem_range.2 hi)
        obtain ⟨j, hj, hj2⟩ := List.any_eq_true.1 h1
        simp only [Bool.and_eq_true, decide_eq_true_eq] at hj2
        obtain ⟨oj, hoj, e, he, hb, hon⟩ := Region.waitsFor_spec hj2.2
        have hjle : j ≤ t := by have := List.mem_range.1 hj; omega
        by_cases hjt : j = t
        · subst hjt
          have : oj = ot := Option.some.inj (hoj.symm.trans hot)
          subst this
          have h2 := hall e he hb
          rw [hon, getD_both hun] at h2
          cases h2
        · cases hl : listed.getD j false with
          | true =>
            have h2 := inv.closed j oj hoj hl e he hb
            rw [hon, getD_both hun] at h2
            cases h2
          | false =>
            have hjs : j < listed.size := by rw [inv.size]; omega
            exact ih (t - j) (by omega) j rfl (by omega) (getD_in hjs hl) t (Nat.le_refl _) hr
      · have h1 := List.all_eq_true.1 hc t (List.mem_range.2 htlt)
        simp only [Bool.or_eq_true, decide_eq_true_eq] at h1
        rcases h1 with (h1 | h1) | h1
        · omega
        · exact htx h1
        · obtain ⟨s, hs1, hs2⟩ := List.any_eq_true.1 h1
          simp only [Bool.and_eq_true, decide_eq_true_eq] at hs2
          have hst := List.mem_range.1 hs1
          obtain ⟨o', ho', e, he, hb, hon⟩ := Region.waitsFor_spec hs2.2
          have : o' = ot := Option.some.inj (ho'.symm.trans hot)
          subst this
          have h2 := hall e he hb
          rw [hon, getD_both (inv.tail s hs2.1.1 (by omega) hs2.1.2)] at h2
          cases h2

/-- whatever order is picked: quiet operations; behind f of them L -/
def anyC (P : Program) (md : Region.Mode) (ops : Array Oper) (W : World) (n : Nat) (L : Array Bool → Act → Prop) : Nat → Array Bool → Act → Prop
  | 0, listed, a => L listed a
  | f + 1, listed, a => Region.ready md ops listed ≠ [] ∧ ∀ i ∈ Region.ready md ops listed, i < n ∧ cOp P ops W i (anyC P md ops W n L f (listed.setIfInBounds i true)) a
theorem anyC_first {i : Nat} {oi : Oper} {v : Value} {L : Array Bool → Act → Prop} (hi : ops[i]? = some oi)
    (hsel : ∀ (j : Nat) (o : Oper) cs b, ops[j]? = some o → o.op ≠ .select cs b)
    (hs : Region.sinkB md ops n = true) (hc : chainX md ops n x = true) (hn : n < ops.size) (hin : i < n)
    (hdone : ∀ listed a, L listed a → ∀ j ∈ Region.ready md ops listed, n ≤ j) :
    ∀ (f : Nat) (listed : Array Bool) (a : Act), HeadX md ops n x listed →
      (∀ j oj, ops[j]? = some oj → j ≠ i → listed.getD j true = false → (∀ e ∈ oj.after, Region.binds md e = true → e.on ≠ i) → oi.apart ops oj = true) →
      i ∈ Region.ready md ops listed → YC P ops W oi v a →
      anyC P md ops W n L f (listed.setIfInBounds i true) (a.put oi.dst v) → anyC P md ops W n L (f + 1) listed a := by
  intro f
  induction f with
  | zero =>
    intro listed a inv _ hr hy H
    have hun := (mem_ready.1 hr).1
    refine ⟨fun h => (by rw [h] at hr; cases hr), fun j hj => ?_⟩
    have hjn : j < n := by
      rcases Nat.lt_or_ge j n with h | h
      · exact h
      · exact absurd hj (tail_waitsX hs hc hn inv _ i rfl hin hun j h)
    have key : j = i := by
      rcases Nat.decEq j i with h | h
      · have h1 := hdone _ _ H j (ready_mono hj h)
        omega
      · exact h
    exact ⟨hjn, by subst key; exact hy.cOp hi H⟩
  | succ f ih =>
    intro listed a inv hfree hr hy H
    have hun := (mem_ready.1 hr).1
    refine ⟨fun h => (by rw [h] at hr; cases hr), fun j hj => ?_⟩
    have hjn : j < n := by
      rcases Nat.lt_or_ge j n with h | h
      · exact h
      · exact absurd hj (tail_waitsX hs hc hn inv _ i rfl hin hun j h)
    obtain ⟨hjun, oj, hoj, hall⟩ := mem_ready.1 hj
    have hnot : ∀ e ∈ oj.after, Region.binds md e = true → e.on ≠ i := fun e he hb heq => by
      have h1 := hall e he hb
      rw [heq, getD_both hun] at h1
      cases h1
    have hfree' : ∀ k ok, ops[k]? = some ok → k ≠ i → (listed.setIfInBounds j true).getD k true = false → (∀ e ∈ ok.after, Region.binds md e = true → e.on ≠ i) → oi.apart ops ok = true := fun k ok hk hki hunk hno => by
      refine hfree k ok hk hki ?_ hno
      by_cases hjk : j = k
      · subst hjk; exact hjun
      · rw [getD_set_ne true hjk] at hunk; exact hunk
    refine ⟨hjn, ?_⟩
    by_cases hji : j = i
    · subst hji
      exact hy.cOp hi H
    · have hap := hfree j oj hoj hji hjun hnot
      have hcm : (listed.setIfInBounds i true).setIfInBounds j true = (listed.setIfInBounds j true).setIfInBounds i true := (Array.setIfInBounds_comm _ _ hji).symm
      have h1 := (H.2 j (ready_mono hj hji)).2
      have h2 := cOp_put hoj hap (fun cs b => hsel i oi cs b hi) (fun cs b => hsel j oj cs b hoj) hy h1
      refine cOp_mono (fun a' h3 => ih _ a' (inv.set hj hjn) hfree' (ready_mono hr (Ne.symm hji)) h3.1 ?_) h2
      rw [← hcm]
      exact h3.2
theorem anyC_lex {Qh : Act → Prop} {L : Array Bool → Act → Prop}
    (hsel : Region.noSelect ops = true) (hs : Region.sinkB md ops n = true) (hc : chainX md ops n x = true) (hn : n < ops.size)
    (hdone : ∀ listed a, L listed a → ∀ j ∈ Region.ready md ops listed, n ≤ j) :
    ∀ (l : List Oper) (k : Nat) (listed : Array Bool) (a : Act), (∀ j, j < l.length → l[j]? = ops[k + j]?) → k + l.length ≤ n → HeadX md ops n x listed →
    lexQ md ops l.length k listed = true → wpCalm P ops W Qh l a → (∀ a', Qh a' → L (setFrom l.length k listed) a') →
    anyC P md ops W n L l.length listed a
  | [], k, listed, a, _, _, inv, _, h, hend => hend a h
  | o :: l, k, listed, a, hl, hk, inv, hB, h, hend => by
    have h0 : ops[k]? = some o := by simpa using (hl 0 (by simp)).symm
    simp only [List.length_cons] at hk
    simp only [List.length_cons, lexQ, Bool.and_eq_true] at hB
    obtain ⟨⟨hr, hf⟩, hB'⟩ := hB
    have hr' : k ∈ Region.ready md ops listed := by simpa using hr
    have hst : cOp P ops W k (wpCalm P ops W Qh l) a := by unfold cOp; simp only [h0]; exact h
    obtain ⟨v, hy, hK⟩ := yc_of_cOp h0 hst
    rw [List.length_cons]
    exact anyC_first h0 (Region.noSelect_spec hsel) hs hc hn (by omega) hdone _ listed a inv (Region.free_spec h0 hf) hr' hy
      (anyC_lex hsel hs hc hn hdone l (k + 1) _ _ (fun j hj => by have := hl (j + 1) (by simp; omega); simpa [Nat.add_assoc, Nat.add_comm 1 j] using this) (by omega) (inv.set hr' (by omega)) hB' hK hend)
theorem wpAny_of_anyC {g : Nat} {L : Array Bool → Act → Prop} {Q' : Exit → Act → World → Prop}
    (hL : ∀ listed a w, Ext W w → L listed a → wpAny P md ops Q' g listed a w) (f : Nat) :
    ∀ (listed : Array Bool) (a : Act) (w : World), Ext W w → anyC P md ops W n L f listed a → wpAny P md ops Q' (f + g) listed a w := by
  induction f with
  | zero => intro listed a w hx h; rw [Nat.zero_add]; exact hL _ _ _ hx h
  | succ f ih =>
    intro listed a w hx h
    rw [show f + 1 + g = (f + g) + 1 by omega]
    refine ⟨fun h0 => absurd h0 h.1, fun i hi => ?_⟩
    obtain ⟨hin, h3⟩ := h.2 i hi
    unfold cOp at h3
    unfold wpOp
    cases ho : ops[i]? with
    | none => rw [ho] at h3; exact ih _ _ _ hx h3
    | some o =>
      rw [ho] at h3
      simp only at h3 ⊢
      by_cases hw : Region.wanted o (yielded ops a.tmps) = true
      · rw [if_pos hw] at h3 ⊢
        obtain ⟨v, q1, q2⟩ := h3
        left
        refine wp_of_quietAt (q1 ⟨w, hx⟩) ⟨⟨w, Ext.refl w⟩, rfl⟩ ?_
        rintro _ ⟨e, rfl⟩
        exact ih _ _ _ (hx.trans e.ext) q2
      · rw [if_neg hw] at h3 ⊢
        exact ih _ _ _ hx h3
def seqL (md : Region.Mode) (ops : Array Oper) : List Nat → Array Bool → Bool
  | [], listed => (Region.ready md ops listed).isEmpty
  | t :: ts, listed => decide (Region.ready md ops listed = [t]) && seqL md ops ts (listed.setIfInBounds t true)
/-- the operations at these numbers -/
def AtIx (l : List Oper) : List Nat → List Oper → Prop
  | [], [] => True
  | t :: ts, o :: tl => l[t]? = some o ∧ AtIx l ts tl
  | _, _ => False
theorem AtIx.nil {l : List Oper} : AtIx l [] [] := trivial
theorem AtIx.cons {l : List Oper} {t : Nat} {ts : List Nat} {o : Oper} {tl : List Oper} (h : l[t]? = some o) (r : AtIx l ts tl) : AtIx l (t :: ts) (o :: tl) := ⟨h, r⟩
theorem wpAny_of_seqL {l : List Oper} {Q' : Exit → Act → World → Prop} : ∀ (ts : List Nat) (tl : List Oper) (listed : Array Bool) (a : Act) (w : World), AtIx l ts tl →
    seqL md l.toArray ts listed = true → wpList P l.toArray Q' tl a w → wpAny P md l.toArray Q' ts.length listed a w
  | [], [], _, _, _, _, hB, h => ⟨by simpa [seqL] using hB, h⟩
  | [], _ :: _, _, _, _, hl, _, _ => hl.elim
  | _ :: _, [], _, _, _, hl, _, _ => hl.elim
  | t :: ts, o :: tl, listed, a, w, hl, hB, h => by
    simp only [seqL, Bool.and_eq_true, decide_eq_true_eq] at hB
    refine ⟨fun h1 => (by rw [hB.1] at h1; cases h1), fun i hi => ?_⟩
    rw [hB.1] at hi
    have hik : i = t := by simpa using hi
    subst hik
    have ho : l.toArray[i]? = some o := by rw [List.getElem?_toArray]; exact hl.1
    have hw : wpOp P l.toArray Q' i (wpList P l.toArray Q' tl) a w := by unfold wpOp; simp only [ho]; exact h
    exact wpOp_mono (fun a' w' h' => wpAny_of_seqL ts tl _ a' w' hl.2 hB.2 h') hw
theorem seqL_ready {ts : List Nat} {listed : Array Bool} (h : seqL md ops ts listed = true) (hts : ts.all (fun t => decide (n ≤ t)) = true) : ∀ j ∈ Region.ready md ops listed, n ≤ j := by
  cases ts with
  | nil => intro j hj; simp only [seqL, List.isEmpty_iff] at h; rw [h] at hj; cases hj
  | cons t ts =>
    intro j hj
    simp only [seqL, Bool.and_eq_true, decide_eq_true_eq] at h
    rw [h.1] at hj
    have h1 : j = t := by simpa using hj
    simp only [List.all_cons, Bool.and_eq_true, decide_eq_true_eq] at hts
    omega
/-- all quiet but a tail in one forced order; operation x, free, is taken first -/
theorem wp_region_ix {id : Nat} {Q : Exit → Act → World → Prop} {a : Act} {l : List Oper} (n x : Nat) (ts : List Nat) {tl : List Oper} {ox : Oper} {vx : Value} (hm : P.follows .mixedOrders = true)
    (hox' : l[x]? = some ox) (htl : AtIx l ts tl)
    (hB : (Region.noSelect l.toArray && decide (n < l.length) && decide (n ≤ x) && decide (x < l.length) && Region.sinkB .any l.toArray n && chainX .any l.toArray n x && (Region.ready .any l.toArray (Array.replicate l.length false)).contains x && Region.free .any l.toArray (Array.replicate l.length false) x && (match l.toArray[x]? with | some o => o.after.isEmpty | none => false) &&
      lexQ .any l.toArray n 0 ((Array.replicate l.length false).setIfInBounds x true) && ts.all (fun t => decide (n ≤ t)) && seqL .any l.toArray ts (setFrom n 0 ((Array.replicate l.length false).setIfInBounds x true)) && decide (ts.length + n + 1 = l.length)) = true)
    (hQ : ∀ c a w, Q (.panic c) (a.put ox.dst vx) w → Q (.panic c) a w) (hy : Yields P l.toArray ox vx a)
    (h : wpCalm P l.toArray W (fun a' => ∀ c : Aft W, wpList P l.toArray Q tl a' c.w) (l.take n) (a.put ox.dst vx)) : (Code.region id l.toArray true).wp P Q a W := by
  simp only [Bool.and_eq_true, decide_eq_true_eq] at hB
  obtain ⟨⟨⟨⟨⟨⟨⟨⟨⟨⟨⟨⟨b1, b2⟩, b3⟩, b4⟩, b5⟩, b6⟩, b7⟩, b8⟩, b9⟩, b10⟩, b11⟩, b12⟩, b13⟩ := hB
  have hox : l.toArray[x]? = some ox := by rw [List.getElem?_toArray]; exact hox'
  rw [hox] at b9
  have b9' : ox.after.isEmpty = true := b9
  have htk : (l.take n).length = n := by simp; omega
  have inv0 : HeadX .any l.toArray n x ((Array.replicate l.length false).setIfInBounds x true) := by
    refine ⟨by simp, fun j oj hj hl e he hb => ?_, fun t _ ht htx => ?_, ?_⟩
    · by_cases hxj : x = j
      · subst hxj
        have : oj = ox := Option.some.inj (hj.symm.trans hox)
        subst this
        rw [Array.isEmpty_iff.1 b9'] at he
        simp at he
      · rw [getD_set_ne false hxj, getD_replicate_false] at hl
        cases hl
    · rw [getD_set_ne true (Ne.symm htx)]
      exact getD_in (by simpa using ht) (getD_replicate_false _ _)
    · simp [b4]
  have hL := anyC_lex (P := P) (W := W) (md := .any) (ops := l.toArray) (n := n) (x := x)
    (Qh := fun a' => ∀ c : Aft W, wpList P l.toArray Q tl a' c.w)
    (L := fun listed a' => seqL .any l.toArray ts listed = true ∧ ∀ c : Aft W, wpList P l.toArray Q tl a' c.w)
    b1 b5 b6 (by simpa using b2) (fun listed a' hl => seqL_ready hl.1 b11) (l.take n) 0 _ (a.put ox.dst vx)
    (fun j hj => by rw [htk] at hj; simp [hj]) (by rw [htk]; omega) inv0 (by rw [htk]; exact b10) h
    (fun a' hq => ⟨by rw [htk]; exact b12, hq⟩)
  have h2 := wpAny_of_anyC (g := ts.length) (Q' := Q) (fun listed a' w' hx hl => wpAny_of_seqL ts tl listed a' w' htl hl.1 (hl.2 ⟨w', hx⟩)) _ _ _ W.drew (Ext.refl W).drew hL
  refine wp_region_any hm ?_
  have h3 := wpAny_take hox b1 b8 b7 hQ hy h2
  rw [htk, show n + ts.length + 1 = l.toArray.size by simp; omega] at h3
  simpa using h3
end
end Go.Proofs.YtgecijhgonfldaaGreatDoor
