/- NormalizeSplits: the law's contract. -/
import Derived.Test.YtgecijhgonfldaaGreatDoorM35
import Derived.Test.YtgecijhgonfldaaGreatDoorEqA
import Derived.Test.YtgecijhgonfldaaGreatDoorTooL
import Derived.Test.YtgecijhgonfldaaGreatDoorCut
import Derived.Deep.RegionHeld3
namespace Go.Proofs.YtgecijhgonfldaaGreatDoor
open Go Go.RowKit
set_option linter.unusedVariables false

/-- a region's post, weakened to what is told of its act and world -/
def toldR (R : Act → World → Prop) : Exit → Act → World → Prop
  | .normal, a', w' => R a' w'
  | _, _, _ => False
theorem wp_toldR {P : Program} {c : Code} {Q : Exit → Act → World → Prop} {a : Act} {w : World} (R : Act → Act → World → Prop) (h1 : ∀ a' w', R a a' w' → Q .normal a' w') (h2 : c.wp P (toldR (R a)) a w) : c.wp P Q a w :=
  Code.wp_mono (fun e a' w' h => by cases e <;> first | exact h1 a' w' h | exact h.elim) h2
abbrev fdObj (p : Value) (f : Fd) (es : Value) : Obj := .cells #[p, .string f.id, .string f.title, .string f.link, .int .i64 f.upd, es] 35
theorem rem_nat {n : Int} {M : Nat} (h0 : 0 ≤ n) : ∃ N : Nat, n % ((M : Int) + 1) = (N : Int) ∧ N ≤ M := by
  have h1 := Int.emod_nonneg n (b := (M : Int) + 1) (by omega)
  have h2 := Int.emod_lt_of_pos n (b := (M : Int) + 1) (by omega)
  exact ⟨(n % ((M : Int) + 1)).toNat, by omega, by omega⟩
attribute [local go_sem ↓] Go.wp_at_zero Go.wp_at_succ
set_option maxRecDepth 100000 in
set_option maxHeartbeats 8000000 in
theorem law5_any (x : Fc) (n : Int) (w : World) (hE : Env w) (hr : RdC w x) (hw : fwide x.f) (hn : 0 ≤ n ∧ n ≤ 255) :
    Calls Tryz.prog 7 #[.agg (cellsC x).toArray, .int .u8 n] w fun e w' => e = .returned (.bool true) ∧ Ext w w' := by
  have HAL := Lib.hid (fun (w' : World) (h : Ext w w') => alive_any w' (hE.ext h))
  have HLG := Lib.hid (fun (W : World) (h : Ext w W) => large_any _ [x] (W.alloc (.cells (cellsC x).toArray 35)) (one_rfc x) (fun y hy => by rw [List.mem_singleton.1 hy]; exact hr.ext (h.alloc _)) (show 1 ≤ reachBytes by decide) (fun y hy => by rw [List.mem_singleton.1 hy]; exact hw))
  obtain ⟨hn0, hn1⟩ := hn
  by_cases hb : 5000 < bigL [x.f]
  · have hlb : (decide (50 < [x].length) || decide (5000 < bigL ([x].map Fc.f))) = true := by simp [hb]
    simp only [hlb] at HLG
    clear hlb hb hw hE
    obtain ⟨xp, xes, xf⟩ := x
    obtain ⟨hx0, hx1⟩ := hr
    dsimp only at *
    obtain ⟨xA, xc, rfl, -, -⟩ := hx0.form
    obtain ⟨xB, xd, rfl, -, -⟩ := hx1.form
    clear hx0 hx1
    unfold cellsC fCells at *
    dsimp only at *
    go_enter Tryz.func7, Tryz.ntmps7
    go_wp2_with (first
      | (go_at_call 20; (have hz := HLG.out _ ((Ext.refl w).alloc (fdObj (.slice xA xf.path.length xc) xf (.slice xB xf.ents.length xd)))); (simp only [size_alloc] at hz); (with_reducible refine Calls.mono hz ?_); clear hz; rintro e w1 ⟨rfl, hx1⟩; (have hw1 : Ext w w1 := (((Ext.refl _).alloc _).alloc _).trans hx1))
      | (go_at_call 16; (have hz := HAL.out _ hw1); (with_reducible refine Calls.mono hz ?_); clear hz; rintro e w2 ⟨rfl, hx2⟩))
    go_ret
    exact ⟨rfl, hw1.trans hx2⟩
  · have hlb : (decide (50 < [x].length) || decide (5000 < bigL ([x].map Fc.f))) = false := by simp [hb]
    simp only [hlb] at HLG
    have hbl : bigF x.f ≤ 5000 := by unfold bigL at hb; simp at hb; exact hb
    have hk : fokS x.f := small_fok hw hbl
    have hM5 : x.f.ents.length ≤ 5000 := by
      have h1 := bigEs_len x.f.ents
      have h2 : bigF x.f = bigH x.f + bigP x.f.path + bigEs x.f.ents := rfl
      omega
    obtain ⟨N, hN, hNM⟩ := rem_nat (M := x.f.ents.length) hn0
    obtain ⟨xp, xes, xf⟩ := x
    have hsl := hr.sl
    obtain ⟨⟨xA, xn, xc, hxp⟩, ⟨xB, xm, xd, hxe⟩⟩ := hsl
    dsimp only at hxp hxe hN hNM hM5 hk
    subst hxp hxe
    obtain ⟨B', d', e1, -, -⟩ := hr.2.form
    dsimp only at e1
    injection e1 with e1 e2 e3
    subst e1 e2 e3
    have hr2 : REnts w (.slice xB xf.ents.length xd) xf.ents := hr.2
    obtain ⟨A1, hs1, ht1⟩ := takeE N hr2 hNM
    obtain ⟨A2, c2, hs2, ht2⟩ := dropE N hr2 hNM
    obtain ⟨E, hEr⟩ : ∃ E, errFs [xf] = E := ⟨_, rfl⟩
    obtain ⟨NN, hNN⟩ : ∃ NN, normA [xf] = NN := ⟨_, rfl⟩
    have hkN := norm1_fokS hk
    rw [hNN] at hkN
    have hse := split_err xf N
    have hsn := split_norm xf N
    rw [hEr] at hse
    rw [hNN] at hsn
    have HA1 : Hid (∀ W : World, Ext w W → Calls Tryz.prog 25 #[.slice (some ⟨W.heap.size, 0, none⟩) 1 1] (W.alloc (fdObj (.slice xA xn xc) xf (.slice xB xf.ents.length xd))) fun e w'' => ∃ (v' : Value) (lc : List Fc), e = .returned (.tuple #[.agg #[v'], .int .i64 E]) ∧ lc.map Fc.f = NN ∧ (∀ y ∈ lc, RdC w'' y) ∧ RFcs w'' v' lc ∧ Ext (W.alloc (fdObj (.slice xA xn xc) xf (.slice xB xf.ents.length xd))) w'') := Lib.hid fun W h => by
      refine (archive_any _ [⟨.slice xA xn xc, .slice xB xf.ents.length xd, xf⟩] _ ((hE.ext h).alloc _) (one_rfc _) (fun y hy => by rw [List.mem_singleton.1 hy]; exact hr.ext (h.alloc _)) (fun y hy => by rw [List.mem_singleton.1 hy]; exact hk) (by show 1 ≤ 1000000; decide) (by show xf.ents.length + 0 ≤ 1000000; omega)).mono ?_
      rintro e w'' ⟨v', lc, rfl, hm, hH, hxx⟩
      refine ⟨v', lc, ?_, hm.trans hNN, hH.rd, hH.row.reads, hxx⟩
      rw [← hEr]
      rfl
    have HA2 : Hid (∀ W : World, Ext w W → Calls Tryz.prog 25 #[.slice (some ⟨W.heap.size, 0, none⟩) 2 2] (W.alloc (.cells #[.slice xA xn xc, .string xf.id, .string xf.title, .string xf.link, .int .i64 xf.upd, .slice A1 N N, .slice xA xn xc, .string xf.id, .string xf.title, .string xf.link, .int .i64 xf.upd, .slice A2 (xf.ents.length - N) c2] 35)) fun e w'' => ∃ (v' : Value) (lc : List Fc), e = .returned (.tuple #[.agg #[v'], .int .i64 E]) ∧ lc.map Fc.f = NN ∧ (∀ y ∈ lc, RdC w'' y) ∧ RFcs w'' v' lc ∧ Ext (W.alloc (.cells #[.slice xA xn xc, .string xf.id, .string xf.title, .string xf.link, .int .i64 xf.upd, .slice A1 N N, .slice xA xn xc, .string xf.id, .string xf.title, .string xf.link, .int .i64 xf.upd, .slice A2 (xf.ents.length - N) c2] 35)) w'') := Lib.hid fun W h => by
      have h1 : xf.ents.length ≤ 5000 := hM5
      have hkt : ∀ m, fokS (withE xf (xf.ents.take m)) := fun m => withE_fokS hk (by rw [List.length_take]; omega) fun e he => List.mem_of_mem_take he
      have hkd : ∀ m, fokS (withE xf (xf.ents.drop m)) := fun m => withE_fokS hk (by rw [List.length_drop]; omega) fun e he => List.mem_of_mem_drop he
      have key : ∀ y ∈ [(⟨.slice xA xn xc, .slice A1 N N, withE xf (xf.ents.take N)⟩ : Fc), ⟨.slice xA xn xc, .slice A2 (xf.ents.length - N) c2, withE xf (xf.ents.drop N)⟩], RdC w y ∧ fokS y.f := by
        intro y hy
        simp only [List.mem_cons, List.mem_nil_iff, or_false] at hy
        rcases hy with rfl | rfl
        · exact ⟨⟨hr.1, ht1⟩, hkt N⟩
        · exact ⟨⟨hr.1, ht2⟩, hkd N⟩
      refine (archive_any _ [⟨.slice xA xn xc, .slice A1 N N, withE xf (xf.ents.take N)⟩, ⟨.slice xA xn xc, .slice A2 (xf.ents.length - N) c2, withE xf (xf.ents.drop N)⟩] _ ((hE.ext h).alloc _) (two_rfc _ _) (fun y hy => (key y hy).1.ext (h.alloc _)) (fun y hy => (key y hy).2) (by show 2 ≤ 1000000; decide) (by show (xf.ents.take N).length + ((xf.ents.drop N).length + 0) ≤ 1000000; rw [List.length_take, List.length_drop]; omega)).mono ?_
      rintro e w'' ⟨v', lc, rfl, hm, hH, hxx⟩
      refine ⟨v', lc, ?_, hm.trans hsn, hH.rd, hH.row.reads, hxx⟩
      rw [← hse]
      rfl
    have HEQ : Hid (∀ (v1 v2 : Value) (l1 l2 : List Fc) (w' : World), RFcs w' v1 l1 → RFcs w' v2 l2 → (∀ y ∈ l1, RdC w' y) → (∀ y ∈ l2, RdC w' y) → l1.map Fc.f = NN → l2.map Fc.f = NN → Calls Tryz.prog 27 #[.agg #[v1], .agg #[v2]] w' fun e w'' => e = .returned (.bool true) ∧ Ext w' w'') := Lib.hid fun v1 v2 l1 l2 w' r1 r2 d1 d2 e1 e2 => by
      have hl : l1.length ≤ 1 := by
        have h1 : l1.length = NN.length := by rw [← e1, List.length_map]
        rw [h1, ← hNN]
        unfold normA
        split
        · have := canon_len ordF ([xf].map collF)
          simpa using this
        · simp
      have := refEqual_any v1 v2 l1 l2 w' r1 r2 d1 d2 (fun y hy => by have h3 := hkN y.f (by rw [← e1]; exact List.mem_map.2 ⟨y, hy, rfl⟩); exact ⟨by have := h3.1.2; omega, by have := h3.2.1; omega⟩) (by omega)
      rwa [decide_eq_true (by rw [e1, e2])] at this
    have HBX : Hid (∀ w', Ext (w.alloc (fdObj (.slice xA xn xc) xf (.slice xB xf.ents.length xd))) w' → w'.cell? ⟨w.heap.size, 0, none⟩ = some (.slice xA xn xc) ∧ w'.cell? ⟨w.heap.size, 1, none⟩ = some (.string xf.id) ∧ w'.cell? ⟨w.heap.size, 2, none⟩ = some (.string xf.title) ∧ w'.cell? ⟨w.heap.size, 3, none⟩ = some (.string xf.link) ∧ w'.cell? ⟨w.heap.size, 4, none⟩ = some (.int .i64 xf.upd) ∧ w'.cell? ⟨w.heap.size, 5, none⟩ = some (.slice xB xf.ents.length xd)) := Lib.hid fun w' h => ⟨h.boxed 0 _ rfl, h.boxed 1 _ rfl, h.boxed 2 _ rfl, h.boxed 3 _ rfl, h.boxed 4 _ rfl, h.boxed 5 _ rfl⟩
    obtain ⟨M, hM⟩ : ∃ M, xf.ents.length = M := ⟨_, rfl⟩
    simp only [hM] at hs1 hs2 HA1 HA2 HBX hN hNM hM5 ⊢
    unfold cellsC fCells at HLG ⊢
    dsimp only at HLG ⊢
    simp only [hM] at HLG ⊢
    clear hlb hb hw hE hr hr2 ht1 ht2 hk hkN hse hsn hEr hNN hbl hM
    have HS1 := Lib.hid hs1
    have HS2 := Lib.hid hs2
    have hN0 : (0 : Int) ≤ (N : Int) := by omega
    have hN1 : (N : Int) ≤ (M : Int) := by omega
    clear hs1 hs2
    go_enter Tryz.func7, Tryz.ntmps7
    go_wp2_with (first
      | (go_at_call 20; (have hz := HLG.out _ ((Ext.refl w).alloc (fdObj (.slice xA xn xc) xf (.slice xB M xd)))); (simp only [size_alloc] at hz); (with_reducible refine Calls.mono hz ?_); clear hz; rintro e w1 ⟨rfl, hx1⟩; (have hb1 : Ext (w.alloc (fdObj (.slice xA xn xc) xf (.slice xB M xd))) w1 := ((Ext.refl _).alloc _).trans hx1); (obtain ⟨k0, k1, k2, k3, k4, k5⟩ := HBX.out w1 hb1)))
    rw [hN]
    refine wp_toldR (fun a0 a' w' => ∃ g h : Nat, (g = w1.heap.size ∧ h = w1.heap.size + 1 ∨ g = w1.heap.size + 1 ∧ h = w1.heap.size) ∧ w' = ((w1.alloc (fdObj (.slice xA xn xc) xf (.slice xB M xd))).alloc (fdObj (.slice xA xn xc) xf (.slice xB M xd))).drew ∧ a' = (((a0.put (some 23) (.agg #[.slice xA xn xc, .string xf.id, .string xf.title, .string xf.link, .int .i64 xf.upd, .slice xB M xd])).put (some 24) (.agg #[.slice xA xn xc, .string xf.id, .string xf.title, .string xf.link, .int .i64 xf.upd, .slice xB M xd])).put (some 6) (.pointer (some ⟨g, 0, none⟩))).put (some 7) (.pointer (some ⟨h, 0, none⟩))) ?_ ?_
    · rintro _ _ ⟨g, h, hgh, rfl, rfl⟩
      have hgne : g ≠ h := by omega
      have hge : w1.heap.size ≤ g := by omega
      have hhe : w1.heap.size ≤ h := by omega
      have e1 : ((w1.alloc (fdObj (.slice xA xn xc) xf (.slice xB M xd))).alloc (fdObj (.slice xA xn xc) xf (.slice xB M xd))).drew.heap[w1.heap.size]? = some (fdObj (.slice xA xn xc) xf (.slice xB M xd)) := (((Ext.refl _).alloc _).drew).heap (heap_alloc_new w1 (fdObj (.slice xA xn xc) xf (.slice xB M xd)))
      have e2 : ((w1.alloc (fdObj (.slice xA xn xc) xf (.slice xB M xd))).alloc (fdObj (.slice xA xn xc) xf (.slice xB M xd))).drew.heap[w1.heap.size + 1]? = some (fdObj (.slice xA xn xc) xf (.slice xB M xd)) := ((Ext.refl _).drew).heap (heap2_new w1 _ (fdObj (.slice xA xn xc) xf (.slice xB M xd)))
      have hbg : ((w1.alloc (fdObj (.slice xA xn xc) xf (.slice xB M xd))).alloc (fdObj (.slice xA xn xc) xf (.slice xB M xd))).drew.heap[g]? = some (fdObj (.slice xA xn xc) xf (.slice xB M xd)) := by rcases hgh with ⟨rfl, rfl⟩ | ⟨rfl, rfl⟩ <;> assumption
      have hbh : ((w1.alloc (fdObj (.slice xA xn xc) xf (.slice xB M xd))).alloc (fdObj (.slice xA xn xc) xf (.slice xB M xd))).drew.heap[h]? = some (fdObj (.slice xA xn xc) xf (.slice xB M xd)) := by rcases hgh with ⟨rfl, rfl⟩ | ⟨rfl, rfl⟩ <;> assumption
      have hxW : Ext w1 ((w1.alloc (fdObj (.slice xA xn xc) xf (.slice xB M xd))).alloc (fdObj (.slice xA xn xc) xf (.slice xB M xd))).drew := (((Ext.refl _).alloc _).alloc _).drew
      obtain ⟨W, hW⟩ : ∃ W, ((w1.alloc (fdObj (.slice xA xn xc) xf (.slice xB M xd))).alloc (fdObj (.slice xA xn xc) xf (.slice xB M xd))).drew = W := ⟨_, rfl⟩
      rw [hW] at hbg hbh hxW ⊢
      clear hW e1 e2 hgh k0 k1 k2 k3 k4
      have hw1 : Ext w w1 := ((Ext.refl _).alloc _).trans hb1
      have hwl : w.heap.size < w1.heap.size := by have := hb1.size; rw [size_alloc] at this; omega
      have k5' := hxW.cell k5
      obtain ⟨g0, g1, g2, g3, g4, g5⟩ := blk6 hbg
      obtain ⟨h0, h1, h2, h3, h4, h5⟩ := blk6 hbh
      have fg := Lib.frozen_of_heap hbg 5
      have fh := Lib.frozen_of_heap hbh 5
      have hne1 : g ≠ w.heap.size := by omega
      have hne2 : h ≠ w.heap.size := by omega
      have hs1 := HS1.out
      have hs2 := HS2.out
      have HXW := Lib.hid hxW
      have HB1 := Lib.hid hb1
      have hxd : Ext w W := hw1.trans hxW
      have hgw : w.heap.size ≤ g := by omega
      have hhw : w.heap.size ≤ h := by omega
      clear k5 hx1 hb1
      go_wp2
      go_region_held3 (fun w' => Ext w w' ∧ w'.cell? ⟨w.heap.size, 5, none⟩ = some (.slice xB M xd))
        ((go_split_ands; refine ⟨?_, ?_⟩ <;> first | assumption | ((repeat (first | exact hxd | apply Ext.drew | (refine Ext.setCell ?_ (by omega) _))); done) | (go_keep; done)))
        (fail)
      have dG : ∀ (i : Nat) (u : Value), i ≠ 5 → W.cell? ⟨g, i, none⟩ = some u → ((W.setCell ⟨g, 5, none⟩ (.slice A1 N N)).setCell ⟨h, 5, none⟩ (.slice A2 (M - N) c2)).drew.cell? ⟨g, i, none⟩ = some u := fun i u hi hu =>
        (Ext.refl _).drew.cell ((World.cell?_setCell_other _ ⟨h, 5, none⟩ ⟨g, i, none⟩ _ (by intro e; exact hgne (congrArg Addr.block e).symm)).trans ((World.cell?_setCell_other W ⟨g, 5, none⟩ ⟨g, i, none⟩ _ (by intro e; exact hi (congrArg Addr.off e).symm)).trans hu))
      have dH : ∀ (i : Nat) (u : Value), i ≠ 5 → W.cell? ⟨h, i, none⟩ = some u → ((W.setCell ⟨g, 5, none⟩ (.slice A1 N N)).setCell ⟨h, 5, none⟩ (.slice A2 (M - N) c2)).drew.cell? ⟨h, i, none⟩ = some u := fun i u hi hu =>
        (Ext.refl _).drew.cell ((World.cell?_setCell_other _ ⟨h, 5, none⟩ ⟨h, i, none⟩ _ (by intro e; exact hi (congrArg Addr.off e).symm)).trans ((World.cell?_setCell_other W ⟨g, 5, none⟩ ⟨h, i, none⟩ _ (by intro e; exact hgne (congrArg Addr.block e))).trans hu))
      have dG5 : ((W.setCell ⟨g, 5, none⟩ (.slice A1 N N)).setCell ⟨h, 5, none⟩ (.slice A2 (M - N) c2)).drew.cell? ⟨g, 5, none⟩ = some (.slice A1 N N) :=
        (Ext.refl _).drew.cell ((World.cell?_setCell_other _ ⟨h, 5, none⟩ ⟨g, 5, none⟩ _ (by intro e; exact hgne (congrArg Addr.block e).symm)).trans (World.cell?_setCell_same W ⟨g, 5, none⟩ _ g5))
      have dH5 : ((W.setCell ⟨g, 5, none⟩ (.slice A1 N N)).setCell ⟨h, 5, none⟩ (.slice A2 (M - N) c2)).drew.cell? ⟨h, 5, none⟩ = some (.slice A2 (M - N) c2) :=
        (Ext.refl _).drew.cell (World.cell?_setCell_same _ ⟨h, 5, none⟩ _ ((World.cell?_setCell_other W ⟨g, 5, none⟩ ⟨h, 5, none⟩ _ (by intro e; exact hgne (congrArg Addr.block e))).trans h5))
      have hbX : Ext (w.alloc (fdObj (.slice xA xn xc) xf (.slice xB M xd))) ((W.setCell ⟨g, 5, none⟩ (.slice A1 N N)).setCell ⟨h, 5, none⟩ (.slice A2 (M - N) c2)).drew :=
        (Ext.setCell (Ext.setCell (HB1.out.trans HXW.out) (by rw [size_alloc]; show w.heap.size + 1 ≤ g; omega) _) (by rw [size_alloc]; show w.heap.size + 1 ≤ h; omega) _).drew
      obtain ⟨q0, q1, q2, q3, q4, q5⟩ := And.intro (dG 0 _ (by decide) g0) (And.intro (dG 1 _ (by decide) g1) (And.intro (dG 2 _ (by decide) g2) (And.intro (dG 3 _ (by decide) g3) (And.intro (dG 4 _ (by decide) g4) dG5))))
      obtain ⟨r0, r1, r2, r3, r4, r5⟩ := And.intro (dH 0 _ (by decide) h0) (And.intro (dH 1 _ (by decide) h1) (And.intro (dH 2 _ (by decide) h2) (And.intro (dH 3 _ (by decide) h3) (And.intro (dH 4 _ (by decide) h4) dH5))))
      clear dG dH dG5 dH5 g0 g1 g2 g3 g4 g5 h0 h1 h2 h3 h4 h5 fg fh hs1 hs2 k5' hbg hbh hxd
      obtain ⟨X, hX⟩ : ∃ X, ((W.setCell ⟨g, 5, none⟩ (.slice A1 N N)).setCell ⟨h, 5, none⟩ (.slice A2 (M - N) c2)).drew = X := ⟨_, rfl⟩
      rw [hX] at q0 q1 q2 q3 q4 q5 r0 r1 r2 r3 r4 r5 hbX ⊢
      have hxX : Ext w X := ((Ext.refl _).alloc _).trans hbX
      obtain ⟨k0, k1, k2, k3, k4, k5⟩ := HBX.out X hbX
      clear hX
      go_wp2_with (first
        | (go_at_call 25; (have hz := HA1.out X hxX); (with_reducible refine Calls.mono hz ?_); clear hz; rintro e w8 ⟨v1, l1, rfl, hm1, hrd8, hrf8, hx8⟩; (obtain ⟨vA, vc, hv1, -, -⟩ := hrf8.form); subst hv1; (have HM1 := Lib.hid hm1); clear hm1; (have hX8 : Ext X (w8.alloc (.cells #[.slice vA l1.length vc] 46)) := (((Ext.refl _).alloc _).trans hx8).alloc _); clear k0 k1 k2 k3 k4 k5; (have q0 := hX8.cell q0); (have q1 := hX8.cell q1); (have q2 := hX8.cell q2); (have q3 := hX8.cell q3); (have q4 := hX8.cell q4); (have q5 := hX8.cell q5); (have r0 := hX8.cell r0); (have r1 := hX8.cell r1); (have r2 := hX8.cell r2); (have r3 := hX8.cell r3); (have r4 := hX8.cell r4); (have r5 := hX8.cell r5))
        | (go_at_call 25; (have hz := HA2.out _ (hxX.trans hX8)); (simp only [size_alloc] at hz); (with_reducible refine Calls.mono hz ?_); clear hz; rintro e w9 ⟨v2, l2, rfl, hm2, hrd9, hrf9, hx9⟩; (obtain ⟨uA, uc, hv2, -, -⟩ := hrf9.form); subst hv2; (have HM2 := Lib.hid hm2); clear hm2; (have hX9 : Ext (w8.alloc (.cells #[.slice vA l1.length vc] 46)) (w9.alloc (.cells #[.slice uA l2.length uc] 46)) := (((Ext.refl _).alloc _).trans hx9).alloc _))
        | (go_at_call 16; (have hz := HAL.out _ ((hxX.trans hX8).trans hX9)); (with_reducible refine Calls.mono hz ?_); clear hz; rintro e wA ⟨rfl, hxA⟩; (have n0 := (hX9.trans hxA).boxed 0 _ rfl); (have n1 := hxA.boxed 0 _ rfl); (have hx8A : Ext w8 wA := (((Ext.refl _).alloc _).trans hX9).trans hxA); (have hx9A : Ext w9 wA := ((Ext.refl _).alloc _).trans hxA))
        | (go_at_call 27; (have hz := HEQ.out _ _ l1 l2 wA (hrf8.ext hx8A) (hrf9.ext hx9A) (fun y hy => (hrd8 y hy).ext hx8A) (fun y hy => (hrd9 y hy).ext hx9A) HM1.out HM2.out); (with_reducible refine Calls.mono hz ?_); clear hz; rintro e wB ⟨rfl, hxB⟩))
      go_ret
      exact ⟨rfl, (((hxX.trans hX8).trans hX9).trans hxA).trans hxB⟩
    · have hxa : Ext w1 w1 := Ext.refl w1
      go_region_held3 (fun w' => Ext w1 w' ∧ w'.cell? ⟨w.heap.size, 0, none⟩ = some (.slice xA xn xc) ∧ w'.cell? ⟨w.heap.size, 1, none⟩ = some (.string xf.id) ∧ w'.cell? ⟨w.heap.size, 2, none⟩ = some (.string xf.title) ∧ w'.cell? ⟨w.heap.size, 3, none⟩ = some (.string xf.link) ∧ w'.cell? ⟨w.heap.size, 4, none⟩ = some (.int .i64 xf.upd) ∧ w'.cell? ⟨w.heap.size, 5, none⟩ = some (.slice xB M xd))
        ((go_split_ands; refine ⟨?_, ?_, ?_, ?_, ?_, ?_, ?_⟩ <;> first | assumption | ((repeat (first | exact Ext.refl _ | assumption | apply Ext.drew | apply Ext.alloc)); done) | ((refine Ext.setRow ?_ ?_ _); (repeat (first | exact Ext.refl _ | assumption | apply Ext.drew | apply Ext.alloc)); done) | (go_keep; done)))
        (fail)
      · exact ⟨_, _, Or.inl ⟨rfl, rfl⟩, rfl, rfl⟩
      · exact ⟨_, _, Or.inr ⟨rfl, rfl⟩, rfl, rfl⟩
end Go.Proofs.YtgecijhgonfldaaGreatDoor
