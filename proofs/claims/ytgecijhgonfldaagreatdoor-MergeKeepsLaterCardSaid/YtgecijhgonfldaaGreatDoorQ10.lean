/- Parts of the proof: contracts and plain laws that the statement needs. -/
import Derived.StillTail
import Derived.Test.YtgecijhgonfldaaGreatDoorQ08
namespace Go.Proofs.YtgecijhgonfldaaGreatDoor
open Go Go.RowKit
section
variable {P : Program} {ops : Array Oper} {W : World}
def yields1 (P : Program) (W : World) (o : Oper) (a : Act) (v : Value) : Prop := ∀ c : Aft W, o.quietAt P a (fun w' => ∃ e : Aft c.w, w' = e.w) c.w v
def calm1 (P : Program) (W : World) (o : Oper) (a : Act) (next : Act → Prop) : Prop := ∃ v, (∀ c : Aft W, o.quietAt P a (fun w' => ∃ e : Aft c.w, w' = e.w) c.w v) ∧ next (a.put o.dst v)
theorem wp_of_quietAt {o : Oper} {a : Act} {C : World → Prop} {w : World} {v : Value} {K : Act → World → Prop} {Q' : Exit → Act → World → Prop} (h : o.quietAt P a C w v) (hw : C w) (hK : ∀ w', C w' → K (a.put o.dst v) w') : o.wp P a w K Q' := by
  unfold Oper.quietAt at h
  unfold Oper.wp
  cases hr : (execOp a.eval o).run P w with
  | halt x w' => rw [hr] at h; exact h.elim
  | ok n w' =>
    rw [hr] at h
    cases n <;> simp only [Oper.quietUpon] at h <;> simp only [Oper.upon]
    case value u => rw [h.1, h.2]; exact hK w hw
    case skip => rw [h.1, ← h.2]; exact hK w hw
    case enter f args =>
      rw [h.1]
      exact h.2.mono fun e w'' ⟨he, hc⟩ => by rw [he]; exact hK w'' hc
def wpCalm (P : Program) (ops : Array Oper) (W : World) (Q : Act → Prop) : List Oper → Act → Prop
  | [], a => Q a
  | o :: rest, a => if Region.wanted o (yielded ops a.tmps) then calm1 P W o a (wpCalm P ops W Q rest) else wpCalm P ops W Q rest (a.put o.dst undef)
theorem wpCalm_nil {Q : Act → Prop} {a : Act} (h : Q a) : wpCalm P ops W Q [] a := h
theorem wpCalm_step {Q : Act → Prop} {a : Act} {o : Oper} {rest : List Oper} (h : ∀ K : Act → Prop, (∀ a, wpCalm P ops W Q rest a → K a) → if Region.wanted o (yielded ops a.tmps) then calm1 P W o a K else K (a.put o.dst undef)) : wpCalm P ops W Q (o :: rest) a :=
  h _ fun _ h => h
def cOp (P : Program) (ops : Array Oper) (W : World) (i : Nat) (K : Act → Prop) (a : Act) : Prop :=
  match ops[i]? with
  | none => K a
  | some o => if Region.wanted o (yielded ops a.tmps) then calm1 P W o a K else K (a.put o.dst undef)
theorem cOp_mono {i : Nat} {a : Act} {K K' : Act → Prop} (h : ∀ a, K a → K' a) (hh : cOp P ops W i K a) : cOp P ops W i K' a := by
  unfold cOp at *
  cases ho : ops[i]? with
  | none => rw [ho] at hh; exact h _ hh
  | some o =>
    rw [ho] at hh
    simp only at hh ⊢
    by_cases hw : Region.wanted o (yielded ops a.tmps) = true
    · rw [if_pos hw] at hh ⊢
      obtain ⟨v, h1, h2⟩ := hh
      exact ⟨v, h1, h _ h2⟩
    · rw [if_neg hw] at hh ⊢
      exact h _ hh
def YC (P : Program) (ops : Array Oper) (W : World) (o : Oper) (v : Value) (a : Act) : Prop :=
  (Region.wanted o (yielded ops a.tmps) = true ∧ yields1 P W o a v) ∨ (Region.wanted o (yielded ops a.tmps) = false ∧ v = undef)
theorem YC.cOp {i : Nat} {o : Oper} {v : Value} {a : Act} (hi : ops[i]? = some o) (hy : YC P ops W o v a) {K : Act → Prop} (h : K (a.put o.dst v)) : cOp P ops W i K a := by
  unfold Go.Proofs.YtgecijhgonfldaaGreatDoor.cOp
  rw [hi]
  simp only
  rcases hy with ⟨hw, hv⟩ | ⟨hw, rfl⟩
  · rw [if_pos hw]; exact ⟨v, hv, h⟩
  · rw [if_neg (by simp [hw])]; exact h
theorem YC.of_same {o : Oper} {v : Value} {a a' : Act} (hy : YC P ops W o v a) (he : execOp a'.eval o = execOp a.eval o)
    (hw : Region.wanted o (yielded ops a'.tmps) = Region.wanted o (yielded ops a.tmps)) : YC P ops W o v a' := by
  unfold YC yields1 Oper.quietAt at *
  rw [he, hw]
  exact hy
theorem yc_of_cOp {i : Nat} {o : Oper} {a : Act} {K : Act → Prop} (hi : ops[i]? = some o) (h : cOp P ops W i K a) : ∃ v, YC P ops W o v a ∧ K (a.put o.dst v) := by
  unfold cOp at h
  rw [hi] at h
  simp only at h
  by_cases hw : Region.wanted o (yielded ops a.tmps) = true
  · rw [if_pos hw] at h
    obtain ⟨v, h1, h2⟩ := h
    exact ⟨v, .inl ⟨hw, h1⟩, h2⟩
  · rw [if_neg hw] at h
    exact ⟨undef, .inr ⟨by simpa using hw, rfl⟩, h⟩
theorem cOp_put {j : Nat} {oi oj : Oper} {v : Value} (hj : ops[j]? = some oj) (hap : oi.apart ops oj = true)
    (hsi : ∀ cs b, oi.op ≠ .select cs b) (hsj : ∀ cs b, oj.op ≠ .select cs b) {K : Act → Prop} {a : Act}
    (hy : YC P ops W oi v a) (h : cOp P ops W j K (a.put oi.dst v)) : cOp P ops W j (fun a' => YC P ops W oi v a' ∧ K (a'.put oi.dst v)) a := by
  obtain ⟨h1, h2, h3⟩ := Oper.apart_spec hap
  obtain ⟨u, hu, hK⟩ := yc_of_cOp hj h
  have hu' : YC P ops W oj u a := hu.of_same (execOp_put oj hsj a oi.dst v h1).symm (wanted_put oj a oi.dst v h1).symm
  refine hu'.cOp hj ⟨hy.of_same (execOp_put oi hsi a oj.dst u h3) (wanted_put oi a oj.dst u h3), ?_⟩
  rw [← Act.put_comm a v u h2]
  exact hK
end
section
variable {P : Program} {ops : Array Oper} {md : Region.Mode} {W : World} {p n : Nat} {d : Option Tmp}
def anyD (P : Program) (md : Region.Mode) (ops : Array Oper) (W : World) (p n : Nat) (d : Option Tmp) (L : Array Bool → Option Nat → Act → Prop) : Nat → Array Bool → Option Nat → Act → Prop
  | 0, listed, gs, a => L listed gs a
  | f + 1, listed, gs, a => Region.ready md ops listed ≠ [] ∧ ∀ i ∈ Region.ready md ops listed, i < n ∧
      ((i = p → ∀ g, W.heap.size ≤ g → anyD P md ops W p n d L f (listed.setIfInBounds p true) (some g) (a.put d (.pointer (some ⟨g, 0, none⟩)))) ∧
       (i ≠ p → cOp P ops W i (anyD P md ops W p n d L f (listed.setIfInBounds i true) gs) a))
def blkOf (B : Nat) (O : Obj) (w : World) : Option Nat → Prop
  | none => True
  | some g => B ≤ g ∧ w.heap[g]? = some O
theorem anyD_first {i : Nat} {oi op : Oper} {v : Value} {L : Array Bool → Option Nat → Act → Prop} (hi : ops[i]? = some oi) (hp : p < ops.size → ops[p]? = some op) (hd : p < ops.size → op.dst = d) (hip : i ≠ p)
    (hsel : ∀ (j : Nat) (o : Oper) cs b, ops[j]? = some o → o.op ≠ .select cs b)
    (hs : Region.sinkB md ops n = true) (hc : Region.chainB md ops n = true) (hn : n < ops.size) (hin : i < n)
    (hdone : ∀ listed gs a, L listed gs a → ∀ j ∈ Region.ready md ops listed, n ≤ j) :
    ∀ (f : Nat) (listed : Array Bool) (gs : Option Nat) (a : Act), HeadInv md ops n listed →
      (∀ j oj, ops[j]? = some oj → j ≠ i → listed.getD j true = false → (∀ e ∈ oj.after, Region.binds md e = true → e.on ≠ i) → oi.apart ops oj = true) →
      i ∈ Region.ready md ops listed → YC P ops W oi v a →
      anyD P md ops W p n d L f (listed.setIfInBounds i true) gs (a.put oi.dst v) → anyD P md ops W p n d L (f + 1) listed gs a := by
  intro f
  induction f with
  | zero =>
    intro listed gs a inv _ hr hy H
    have hun := (mem_ready.1 hr).1
    refine ⟨fun h => (by rw [h] at hr; cases hr), fun j hj => ?_⟩
    have hjn : j < n := by
      rcases Nat.lt_or_ge j n with h | h
      · exact h
      · exact absurd hj (tail_waits hs hc hn inv _ i rfl hin hun j h)
    have key : j = i := by
      rcases Nat.decEq j i with h | h
      · have h1 := hdone _ _ _ H j (ready_mono hj h)
        omega
      · exact h
    exact ⟨hjn, fun h => absurd (key.symm.trans h) hip, fun _ => by subst key; exact hy.cOp hi H⟩
  | succ f ih =>
    intro listed gs a inv hfree hr hy H
    have hun := (mem_ready.1 hr).1
    refine ⟨fun h => (by rw [h] at hr; cases hr), fun j hj => ?_⟩
    have hjn : j < n := by
      rcases Nat.lt_or_ge j n with h | h
      · exact h
      · exact absurd hj (tail_waits hs hc hn inv _ i rfl hin hun j h)
    obtain ⟨hjun, oj, hoj, hall⟩ := mem_ready.1 hj
    have hnot : ∀ e ∈ oj.after, Region.binds md e = true → e.on ≠ i := fun e he hb heq => by
      have h1 := hall e he hb
      rw [heq, getD_both hun] at h1
      cases h1
    have hfree' : ∀ k ok, ops[k]? = some ok → k ≠ i → (listed.setIfInBounds j true).getD k true = false → (∀ e ∈ ok.after, Region.binds md e = true → e.on ≠ i) → oi.apart ops ok = true := fun k ok hk hki hunk hno => by
      refine hfree k ok hk hki ?_ hno
      by_cases hjk : j = k
      · subst hjk; exact hjun
      · rw [getD_set_ne true hjk] at hunk; exact hunk
    by_cases hji : j = i
    · subst hji
      exact ⟨hjn, fun h => absurd h hip, fun _ => hy.cOp hi H⟩
    · have hap := hfree j oj hoj hji hjun hnot
      have hcm : (listed.setIfInBounds i true).setIfInBounds j true = (listed.setIfInBounds j true).setIfInBounds i true := (Array.setIfInBounds_comm _ _ hji).symm
      refine ⟨hjn, fun hjp => ?_, fun hjp => ?_⟩
      · subst hjp
        intro g hg
        have h1 := ((H.2 j (ready_mono hj hji)).2.1 rfl) g hg
        rw [hcm] at h1
        have hjs : j < ops.size := by omega
        have hoo : oj = op := Option.some.inj (hoj.symm.trans (hp hjs))
        obtain ⟨_, q2, q3⟩ := Oper.apart_spec hap
        rw [hoo, hd hjs] at q2 q3
        refine ih _ _ _ (inv.set hj hjn) hfree' (ready_mono hr (Ne.symm hji)) (hy.of_same (execOp_put oi (fun cs b => hsel i oi cs b hi) a d _ q3) (wanted_put oi a d _ q3)) ?_
        rw [← Act.put_comm a _ _ q2]
        exact h1
      · have h1 := (H.2 j (ready_mono hj hji)).2.2 hjp
        have h2 := cOp_put hoj hap (fun cs b => hsel i oi cs b hi) (fun cs b => hsel j oj cs b hoj) hy h1
        refine cOp_mono (fun a' h3 => ih _ _ a' (inv.set hj hjn) hfree' (ready_mono hr (Ne.symm hji)) h3.1 ?_) h2
        rw [← hcm]
        exact h3.2
def setFrom : Nat → Nat → Array Bool → Array Bool
  | 0, _, x => x
  | f + 1, k, x => setFrom f (k + 1) (x.setIfInBounds k true)
def lexQ (md : Region.Mode) (ops : Array Oper) : Nat → Nat → Array Bool → Bool
  | 0, _, _ => true
  | f + 1, k, listed => (Region.ready md ops listed).contains k && Region.free md ops listed k && lexQ md ops f (k + 1) (listed.setIfInBounds k true)
theorem anyD_lex {op : Oper} {Qh : Act → Prop} {L : Array Bool → Option Nat → Act → Prop} (hp : p < ops.size → ops[p]? = some op) (hd : p < ops.size → op.dst = d)
    (hsel : Region.noSelect ops = true) (hs : Region.sinkB md ops n = true) (hc : Region.chainB md ops n = true) (hn : n < ops.size)
    (hdone : ∀ listed gs a, L listed gs a → ∀ j ∈ Region.ready md ops listed, n ≤ j) (m : Nat) :
    ∀ (l : List Oper) (k : Nat) (listed : Array Bool) (a : Act), (∀ j, j < l.length → l[j]? = ops[k + j]?) → k + l.length ≤ n → (p < k ∨ k + l.length ≤ p) → HeadInv md ops n listed →
    lexQ md ops l.length k listed = true → wpCalm P ops W Qh l a → (∀ a', HeadInv md ops n (setFrom l.length k listed) → Qh a' → anyD P md ops W p n d L m (setFrom l.length k listed) none a') →
    anyD P md ops W p n d L (l.length + m) listed none a
  | [], k, listed, a, _, _, _, inv, _, h, hend => by
    rw [List.length_nil, Nat.zero_add]
    exact hend a inv h
  | o :: l, k, listed, a, hl, hk, hpk, inv, hB, h, hend => by
    have h0 : ops[k]? = some o := by simpa using (hl 0 (by simp)).symm
    simp only [List.length_cons] at hk hpk
    simp only [List.length_cons, lexQ, Bool.and_eq_true] at hB
    obtain ⟨⟨hr, hf⟩, hB'⟩ := hB
    have hr' : k ∈ Region.ready md ops listed := by simpa using hr
    have hst : cOp P ops W k (wpCalm P ops W Qh l) a := by unfold cOp; simp only [h0]; exact h
    obtain ⟨v, hy, hK⟩ := yc_of_cOp h0 hst
    rw [List.length_cons, show l.length + 1 + m = (l.length + m) + 1 by omega]
    exact anyD_first h0 hp hd (by omega) (Region.noSelect_spec hsel) hs hc hn (by omega) hdone _ listed none a inv (Region.free_spec h0 hf) hr' hy
      (anyD_lex hp hd hsel hs hc hn hdone m l (k + 1) _ _ (fun j hj => by have := hl (j + 1) (by simp; omega); simpa [Nat.add_assoc, Nat.add_comm 1 j] using this) (by omega) (by omega) (inv.set hr' (by omega)) hB' hK hend)
theorem wpAny_of_anyD {O : Obj} {op : Oper} {g : Nat} {L : Array Bool → Option Nat → Act → Prop} {Q' : Exit → Act → World → Prop} (hp : p < ops.size → ops[p]? = some op)
    (halloc : p < ops.size → ∀ (a : Act) (w : World) (K : Act → World → Prop), K (a.put d (.pointer (some ⟨w.heap.size, 0, none⟩))) (w.alloc O) → if Region.wanted op (yielded ops a.tmps) = true then op.wp P a w K Q' else K (a.put op.dst undef) w)
    (hL : ∀ listed gs a w, Ext W w → blkOf W.heap.size O w gs → L listed gs a → wpAny P md ops Q' g listed a w) (f : Nat) :
    ∀ (listed : Array Bool) (gs : Option Nat) (a : Act) (w : World), Ext W w → blkOf W.heap.size O w gs → anyD P md ops W p n d L f listed gs a → wpAny P md ops Q' (f + g) listed a w := by
  induction f with
  | zero => intro listed gs a w hx hb h; rw [Nat.zero_add]; exact hL _ _ _ _ hx hb h
  | succ f ih =>
    intro listed gs a w hx hb h
    rw [show f + 1 + g = (f + g) + 1 by omega]
    refine ⟨fun h0 => absurd h0 h.1, fun i hi => ?_⟩
    obtain ⟨hin, h1, h2⟩ := h.2 i hi
    by_cases hip : i = p
    · subst hip
      obtain ⟨_, oi, hoi, _⟩ := mem_ready.1 hi
      have his : i < ops.size := (Array.getElem?_eq_some_iff.1 hoi).1
      have h3 := ih _ _ _ (w.alloc O) (hx.alloc O) (show blkOf W.heap.size O (w.alloc O) (some w.heap.size) from ⟨hx.size, heap_alloc_new w O⟩) (h1 rfl w.heap.size hx.size)
      have h4 := halloc his a w (wpAny P md ops Q' (f + g) (listed.setIfInBounds i true)) h3
      unfold wpOp
      rw [hp his]
      simp only
      split at h4
      · rename_i hw; rw [if_pos hw]; exact Or.inl h4
      · rename_i hw; rw [if_neg hw]; exact h4
    · have h3 := h2 hip
      unfold cOp at h3
      unfold wpOp
      cases ho : ops[i]? with
      | none => rw [ho] at h3; exact ih _ _ _ _ hx hb h3
      | some o =>
        rw [ho] at h3
        simp only at h3 ⊢
        by_cases hw : Region.wanted o (yielded ops a.tmps) = true
        · rw [if_pos hw] at h3 ⊢
          obtain ⟨v, q1, q2⟩ := h3
          left
          have hkeep : ∀ w'', Ext w w'' → blkOf W.heap.size O w'' gs := by
            intro w'' hx''
            cases gs with
            | none => trivial
            | some g => exact ⟨hb.1, hx''.heap hb.2⟩
          refine wp_of_quietAt (q1 ⟨w, hx⟩) ⟨⟨w, Ext.refl w⟩, rfl⟩ ?_
          rintro _ ⟨e, rfl⟩
          exact ih _ _ _ _ (hx.trans e.ext) (hkeep _ e.ext) q2
        · rw [if_neg hw] at h3 ⊢
          exact ih _ _ _ _ hx hb h3
theorem quiet_callC {f : FuncId} {args : Array Value} {w : World} {v : Value} (h : Calls P f args w fun e w' => e = .returned v ∧ Ext w w') : Calls P f args w fun e w' => e = .returned v ∧ ∃ e : Aft w, w' = e.w :=
  h.mono fun _ w' ⟨he, h'⟩ => ⟨he, ⟨w', h'⟩, rfl⟩
theorem wp_region_tail {id : Nat} {Q : Exit → Act → World → Prop} {a : Act} {W : World} {l : List Oper} (n : Nat) (hm : P.follows .mixedOrders = true)
    (hB : (Region.noSelect l.toArray && decide (n < l.length) && Region.sinkB .any l.toArray n && Region.chainB .any l.toArray n && lexQ .any l.toArray n 0 (Array.replicate l.length false) && Region.seqB .any l.toArray (l.length - n) n (setFrom n 0 (Array.replicate l.length false))) = true)
    (h : wpCalm P l.toArray W (fun a' => ∀ c : Aft W, wpList P l.toArray Q (l.drop n) a' c.w) (l.take n) a) : (Code.region id l.toArray true).wp P Q a W := by
  simp only [Bool.and_eq_true, decide_eq_true_eq] at hB
  obtain ⟨⟨⟨⟨⟨b1, b2⟩, b3⟩, b4⟩, b5⟩, b6⟩ := hB
  have htl : (l.take n).length = n := by simp; omega
  have inv0 : HeadInv .any l.toArray n (Array.replicate l.length false) :=
    ⟨by simp, fun j oj _ hl => (by rw [getD_replicate_false] at hl; cases hl), fun t _ ht => getD_in (by simpa using ht) (getD_replicate_false _ _)⟩
  have hL := anyD_lex (P := P) (W := W) (md := .any) (ops := l.toArray) (p := l.length) (n := n) (d := none) (op := ⟨none, .move (.const undef), 0, "", #[], none⟩)
    (Qh := fun a' => ∀ c : Aft W, wpList P l.toArray Q (l.drop n) a' c.w)
    (L := fun listed _ a' => Region.seqB .any l.toArray (l.length - n) n listed = true ∧ ∀ c : Aft W, wpList P l.toArray Q (l.drop n) a' c.w)
    (fun h => by simp at h) (fun h => by simp at h) b1 b3 b4 (by simpa using b2) (fun listed _ a' hl => seqB_ready hl.1) 0 (l.take n) 0 _ a
    (fun j hj => by rw [htl] at hj; simp [hj]) (by rw [htl]; omega) (Or.inr (by rw [htl]; omega)) inv0 (by rw [htl]; exact b5) h
    (fun a' _ hq => ⟨by rw [htl]; exact b6, hq⟩)
  have h2 := wpAny_of_anyD (O := .cells #[] 0) (g := l.length - n) (Q' := Q) (op := ⟨none, .move (.const undef), 0, "", #[], none⟩) (fun h => by simp at h) (fun h => by simp at h)
    (fun listed gs a' w' hx _ hl => by
      have := wpAny_of_seq (P := P) (md := .any) (Q' := Q) (l.drop n) n listed a' w' (fun j => by simp [List.getElem?_drop]) (by rw [List.length_drop]; exact hl.1) (hl.2 ⟨w', hx⟩)
      rwa [List.length_drop] at this) _ _ none a W.drew (Ext.refl W).drew trivial hL
  refine wp_region_any hm ?_
  rw [htl, show n + 0 + (l.length - n) = l.toArray.size by simp; omega] at h2
  simpa using h2
theorem wp_region_new {id : Nat} {Q : Exit → Act → World → Prop} {a : Act} {W : World} {l : List Oper} (p : Nat) (O : Obj) (op : Oper) (hm : P.follows .mixedOrders = true) (hop : l[p]? = some op)
    (hB : (Region.noSelect l.toArray && decide (p + 1 < l.length) && Region.sinkB .any l.toArray (p + 1) && Region.chainB .any l.toArray (p + 1) && lexQ .any l.toArray p 0 (Array.replicate l.length false) &&
      decide (Region.ready .any l.toArray (setFrom p 0 (Array.replicate l.length false)) = [p]) && Region.seqB .any l.toArray (l.length - (p + 1)) (p + 1) ((setFrom p 0 (Array.replicate l.length false)).setIfInBounds p true)) = true)
    (halloc : ∀ (a : Act) (w : World) (K : Act → World → Prop), K (a.put op.dst (.pointer (some ⟨w.heap.size, 0, none⟩))) (w.alloc O) → if Region.wanted op (yielded l.toArray a.tmps) = true then op.wp P a w K Q else K (a.put op.dst undef) w)
    (h : wpCalm P l.toArray W (fun a' => ∀ (g : Nat) (c : Aft W), W.heap.size ≤ g → c.w.heap[g]? = some O → wpList P l.toArray Q (l.drop (p + 1)) (a'.put op.dst (.pointer (some ⟨g, 0, none⟩))) c.w) (l.take p) a) : (Code.region id l.toArray true).wp P Q a W := by
  simp only [Bool.and_eq_true, decide_eq_true_eq] at hB
  obtain ⟨⟨⟨⟨⟨⟨b1, b2⟩, b3⟩, b4⟩, b5⟩, b6⟩, b7⟩ := hB
  have htl : (l.take p).length = p := by simp; omega
  have inv0 : HeadInv .any l.toArray (p + 1) (Array.replicate l.length false) :=
    ⟨by simp, fun j oj _ hl => (by rw [getD_replicate_false] at hl; cases hl), fun t _ ht => getD_in (by simpa using ht) (getD_replicate_false _ _)⟩
  have hL := anyD_lex (P := P) (W := W) (md := .any) (ops := l.toArray) (p := p) (n := p + 1) (d := op.dst) (op := op)
    (Qh := fun a' => ∀ (g : Nat) (c : Aft W), W.heap.size ≤ g → c.w.heap[g]? = some O → wpList P l.toArray Q (l.drop (p + 1)) (a'.put op.dst (.pointer (some ⟨g, 0, none⟩))) c.w)
    (L := fun listed gs a' => Region.seqB .any l.toArray (l.length - (p + 1)) (p + 1) listed = true ∧ ∃ g, gs = some g ∧ ∀ c : Aft W, W.heap.size ≤ g → c.w.heap[g]? = some O → wpList P l.toArray Q (l.drop (p + 1)) a' c.w)
    (fun _ => by simpa using hop) (fun _ => rfl) b1 b3 b4 (by simpa using b2) (fun listed _ a' hl => seqB_ready hl.1) 1 (l.take p) 0 _ a
    (fun j hj => by rw [htl] at hj; simp [hj]) (by rw [htl]; omega) (Or.inr (by rw [htl]; omega)) inv0 (by rw [htl]; exact b5) h
    (fun a' _ hq => by
      rw [htl]
      refine ⟨by rw [b6]; simp, fun i hi => ?_⟩
      rw [b6] at hi
      have hi' : i = p := by simpa using hi
      exact ⟨by omega, fun _ g hg => ⟨b7, g, rfl, fun c h1 h2 => hq g c h1 h2⟩, fun hne => absurd hi' hne⟩)
  have h2 := wpAny_of_anyD (O := O) (g := l.length - (p + 1)) (Q' := Q) (op := op) (fun _ => by simpa using hop) (fun _ => halloc)
    (fun listed gs a' w' hx hb hl => by
      obtain ⟨hq, g, rfl, hg⟩ := hl
      have := wpAny_of_seq (P := P) (md := .any) (Q' := Q) (l.drop (p + 1)) (p + 1) listed a' w' (fun j => by simp [List.getElem?_drop]) (by rw [List.length_drop]; exact hq) (hg ⟨w', hx⟩ hb.1 hb.2)
      rwa [List.length_drop] at this) _ _ none a W.drew (Ext.refl W).drew trivial hL
  refine wp_region_any hm ?_
  rw [htl, show p + 1 + (l.length - (p + 1)) = l.toArray.size by simp; omega] at h2
  simpa using h2
end
end Go.Proofs.YtgecijhgonfldaaGreatDoor
namespace Go.Proofs.YtgecijhgonfldaaGreatDoor
open Go Go.RowKit
set_option linter.unusedVariables false
abbrev entR (w : World) (e : Ent) : World := ((w.alloc (.cells (eCells e).toArray 23)).alloc (.cells (eCells zeroE).toArray 23)).alloc (.cells #[.string e.id, .string e.title, .string e.link, .string e.content] 9)
theorem refEnt_check (e : Ent) (w : World) (hs : eokS e) :
    Calls Tryz.prog 45 #[.slice (some ⟨w.heap.size + 1 + 1, 0, none⟩) 4 4] (entR w e) fun x w' => x = .returned (.int .i64 (firstErr (strsE e) : Nat)) ∧ Ext (entR w e) w' :=
  refCheckAll_any _ (strsE e) _ (rsl_block (e := 9) (fr := (0, 0)) (cs := [_, _, _, _]) (heap_alloc3_new w _ _ _) rfl (by decide)) (by
    obtain ⟨s1, s2, s3, s4⟩ := hs
    intro s h
    simp only [strsE, List.mem_cons, List.mem_nil_iff, or_false] at h
    rcases h with rfl | rfl | rfl | rfl <;> assumption)
theorem refColl_sz (s : ByteArray) (w : World) (hs : s.size ≤ 16777216) :
    Calls Tryz.prog 46 #[.string s] w fun e w' => e = .returned (.string (collapse s)) ∧ Ext w w' := refCollapse_any s w (by omega)
attribute [local go_sem] calm1
set_option maxRecDepth 100000 in
set_option maxHeartbeats 2000000 in
theorem refEntry_any (e : Ent) (w : World) (hE : Env w) (hs : eokS e) :
    Calls Tryz.prog 18 #[.agg (eCells e).toArray] w fun x w' => x = .returned (.tuple #[.agg (eCells (normE e)).toArray, .int .i64 (errE e : Nat)]) ∧ Ext w w' := by
  have HA := Lib.hid (refEnt_check e w hs)
  have hw3 : Ext w (entR w e) := (((Ext.refl w).alloc _).alloc _).alloc _
  by_cases h0 : firstErr (strsE e) = 0
  · rw [h0] at HA
    have hf0 := errE_zero (e := e)
    have HF := Lib.hid hf0
    clear hf0
    obtain ⟨s1, s2, s3, s4⟩ := hs
    obtain ⟨id, title, link, content, upd⟩ := e
    simp only at s1 s2 s3 s4
    unfold entR eCells zeroE noS at *
    go_enter Tryz.func18, Tryz.ntmps18
    go_wp2_with (first
      | (go_at_call 45; refine (HA.out).mono ?_; rintro e w1 ⟨rfl, hx1⟩; (have hk1 := heap3b hx1); (have c0 := boxed3a ⟨_, hx1⟩ 0 _ rfl); (have c1 := boxed3a ⟨_, hx1⟩ 1 _ rfl); (have c2 := boxed3a ⟨_, hx1⟩ 2 _ rfl); (have c3 := boxed3a ⟨_, hx1⟩ 3 _ rfl); (have c4 := boxed3a ⟨_, hx1⟩ 4 _ rfl); dsimp only at c0 c1 c2 c3 c4))
    have a0 : ∀ d : Aft w1, d.w.cell? ⟨w.heap.size, 0, none⟩ = some (.string id) := Aft.cell c0
    have a1 : ∀ d : Aft w1, d.w.cell? ⟨w.heap.size, 1, none⟩ = some (.string title) := Aft.cell c1
    have a2 : ∀ d : Aft w1, d.w.cell? ⟨w.heap.size, 2, none⟩ = some (.string link) := Aft.cell c2
    have a3 : ∀ d : Aft w1, d.w.cell? ⟨w.heap.size, 3, none⟩ = some (.string content) := Aft.cell c3
    have a4 : ∀ d : Aft w1, d.w.cell? ⟨w.heap.size, 4, none⟩ = some (.int .i64 upd) := Aft.cell c4
    have hk2 : ∀ d : Aft w1, d.w.heap[w.heap.size + 1]? = some (.cells #[.string ⟨#[]⟩, .string ⟨#[]⟩, .string ⟨#[]⟩, .string ⟨#[]⟩, .int .i64 0] 23) := fun d => d.ext.heap hk1
    clear c0 c1 c2 c3 c4 hk1
    refine wp_region_new 15 (.cells #[.string ⟨#[]⟩, .string ⟨#[]⟩, .string ⟨#[]⟩, .string ⟨#[]⟩, .int .i64 0] 23) _ (by kernel_rfl) rfl (by kernel_rfl) (fun a w K h => by go_simp; exact h) ?_
    repeat (refine wpCalm_step (fun K hK => ?_); go_simp; first | (refine hK _ ?_; clear hK K) | (apply Exists.intro; refine ⟨fun _ => ?_, hK _ ?_⟩; (go_at_call 46; exact quiet_callC (refColl_sz _ _ (by assumption))); clear hK K))
    refine wpCalm_nil ?_
    intro g c hg hblk
    refine wpList_store_blk rfl 23 (.tmp 5) (.tmp 34) rfl g _ rfl rfl _ _ hblk size_ent rfl (oneA (eCells_one ⟨collapse id, collapse title, collapse link, collapse content, upd⟩)) ?_
    intro W3 hW3 hE3 _
    have hx3 : Ext w1 W3 := hE3 w1 c.ext hg
    have k3 := hk2 ⟨W3, hx3⟩
    have e4 := a4 ⟨W3, hx3⟩
    dsimp only at k3 e4
    obtain ⟨d0, d1, d2, d3, d4⟩ := blk5 hW3
    clear hblk hE3 hW3 a0 a1 a2 a3 a4 hk2
    have hnf : ∀ n, errE ⟨id, title, link, content, upd⟩ = n → n ≠ 0 → normE ⟨id, title, link, content, upd⟩ = zeroE := fun n h h' => by unfold normE; rw [h, if_neg h']
    have hef : errE ⟨id, title, link, content, upd⟩ = if collapse id = noS then 19 else if inT upd then 0 else 3 := by unfold errE; rw [if_neg (by simpa using h0)]
    have HNF := Lib.hid hnf
    have HEF := Lib.hid hef
    clear hnf hef h0 HF HA
    by_cases h1 : collapse id = noS
    · have hf1 := HEF.out
      rw [if_pos h1] at hf1
      have hf2 := HNF.out _ hf1 (by decide)
      have hne : (collapse id).toList = [] := by rw [h1, ByteArray.toList_eq]; rfl
      have HR := Lib.hid (And.intro hf1 hf2)
      clear hf1 hf2 h1 HEF HNF
      go_wp2_with (first
          | (refine wpList_store_row rfl 23 (.tmp 2) (.tmp 38) rfl (w.heap.size + 1) _ rfl rfl _ _ k3 size_ent rfl (oneA (eCells_one zeroE)) ?_))
      ((try simp only [Exit.inBlock, Exit.then]); refine bodyPost_ret (results_cell_row2 rfl _ _ _ _ _ _ _ rfl (setRow_heap _ _ _ _ _ _ k3) Tryz.underlying23 rfl size_ent) rfl ?_)
      exact ⟨by rw [HR.out.1, HR.out.2]; rfl, ((hw3.trans hx1).trans hx3).setRow (by omega) _⟩
    · have hne := ne_noS h1
      have hf1 := HEF.out
      rw [if_neg h1] at hf1
      clear HEF h1
      by_cases hlo : upd < -62135596800
      · have hf2 : errE ⟨id, title, link, content, upd⟩ = 3 := by rw [hf1, if_neg]; unfold inT; simp; omega
        have hf3 := HNF.out _ hf2 (by decide)
        have HR := Lib.hid (And.intro hf2 hf3)
        have hl := decide_eq_true hlo
        clear hf1 hf2 hf3 HNF
        go_wp2_with (first
          | (refine wpList_store_row rfl 23 (.tmp 2) (.tmp 47) rfl (w.heap.size + 1) _ rfl rfl _ _ k3 size_ent rfl (oneA (eCells_one zeroE)) ?_))
        ((try simp only [Exit.inBlock, Exit.then]); refine bodyPost_ret (results_cell_row2 rfl _ _ _ _ _ _ _ rfl (setRow_heap _ _ _ _ _ _ k3) Tryz.underlying23 rfl size_ent) rfl ?_)
        exact ⟨by rw [HR.out.1, HR.out.2]; rfl, ((hw3.trans hx1).trans hx3).setRow (by omega) _⟩
      · have hl := decide_eq_false hlo
        by_cases hhi : 253402300799 < upd
        · have hf2 : errE ⟨id, title, link, content, upd⟩ = 3 := by rw [hf1, if_neg]; unfold inT; simp; omega
          have hf3 := HNF.out _ hf2 (by decide)
          have HR := Lib.hid (And.intro hf2 hf3)
          have hh := decide_eq_true hhi
          clear hf1 hf2 hf3 HNF hlo
          go_wp2_with (first
            | (refine wpList_store_row rfl 23 (.tmp 2) (.tmp 47) rfl (w.heap.size + 1) _ rfl rfl _ _ k3 size_ent rfl (oneA (eCells_one zeroE)) ?_))
          ((try simp only [Exit.inBlock, Exit.then]); refine bodyPost_ret (results_cell_row2 rfl _ _ _ _ _ _ _ rfl (setRow_heap _ _ _ _ _ _ k3) Tryz.underlying23 rfl size_ent) rfl ?_)
          exact ⟨by rw [HR.out.1, HR.out.2]; rfl, ((hw3.trans hx1).trans hx3).setRow (by omega) _⟩
        · have hh := decide_eq_false hhi
          have hf2 : errE ⟨id, title, link, content, upd⟩ = 0 := by rw [hf1, if_pos]; unfold inT; simp; omega
          have hf3 : normE ⟨id, title, link, content, upd⟩ = ⟨collapse id, collapse title, collapse link, collapse content, upd⟩ := by unfold normE; rw [if_pos hf2]; rfl
          have HR := Lib.hid (And.intro hf2 hf3)
          clear hf1 hf2 hf3 HNF hlo hhi
          go_wp2_with (first
            | (refine wpList_store_row rfl 23 (.tmp 2) (.tmp 48) rfl (w.heap.size + 1) _ rfl rfl _ _ k3 size_ent rfl (oneA (eCells_one ⟨collapse id, collapse title, collapse link, collapse content, upd⟩)) ?_))
          ((try simp only [Exit.inBlock, Exit.then]); refine bodyPost_ret (results_cell_row2 rfl _ _ _ _ _ _ _ rfl (setRow_heap _ _ _ _ _ _ k3) Tryz.underlying23 rfl size_ent) rfl ?_)
          exact ⟨by rw [HR.out.1, HR.out.2]; rfl, ((hw3.trans hx1).trans hx3).setRow (by omega) _⟩
  · have hf1 : errE e = firstErr (strsE e) := by unfold errE; rw [if_pos h0]
    have hf2 : normE e = zeroE := by unfold normE; rw [if_neg (by rw [hf1]; exact h0)]
    rw [hf1, hf2]
    clear hf1 hf2
    obtain ⟨E, hEr⟩ : ∃ E, firstErr (strsE e) = E := ⟨_, rfl⟩
    rw [hEr] at HA h0 ⊢
    have hb : ((E : Int) != 0) = true := by simp; omega
    clear hEr h0
    obtain ⟨id, title, link, content, upd⟩ := e
    unfold entR eCells zeroE noS at *
    go_enter Tryz.func18, Tryz.ntmps18
    go_wp2_with (first
      | (go_at_call 45; refine (HA.out).mono ?_; rintro e w1 ⟨rfl, hx1⟩; (have hk1 := heap3b hx1))
      | (refine wpList_store_row rfl 23 (.tmp 2) (.tmp 18) rfl (w.heap.size + 1) _ rfl rfl _ _ hk1 size_ent rfl (oneA (eCells_one zeroE)) ?_))
    ((try simp only [Exit.inBlock, Exit.then]); refine bodyPost_ret (results_cell_row2 rfl _ _ _ _ _ _ _ rfl (setRow_heap _ _ _ _ _ _ hk1) Tryz.underlying23 rfl size_ent) rfl ?_)
    exact ⟨rfl, (hw3.trans hx1).setRow (by omega) _⟩
end Go.Proofs.YtgecijhgonfldaaGreatDoor
