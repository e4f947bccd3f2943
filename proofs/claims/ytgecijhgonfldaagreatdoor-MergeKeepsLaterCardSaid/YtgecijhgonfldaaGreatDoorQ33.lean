/- Parts of the proof: contracts and plain laws that the statement needs. -/
import Derived.Test.YtgecijhgonfldaaGreatDoorQ32
import Derived.Test.YtgecijhgonfldaaGreatDoorQ28
import Derived.Test.YtgecijhgonfldaaGreatDoorQ20
import Derived.Deep.AppendLies
import Derived.Lib.SmallJoins
import Derived.Test.YtgecijhgonfldaaGreatDoorQ29
import Derived.Test.YtgecijhgonfldaaGreatDoorQ23
namespace Go.Proofs.YtgecijhgonfldaaGreatDoor
open Go Go.RowKit
set_option linter.unusedVariables false
def findC (l : List Fc) (s : ByteArray) : Option Fc := l.find? fun x => decide (x.f.id = s)
theorem findC_at {l : List Fc} {s : ByteArray} {k : Nat} (hk : k < l.length) (h : l[k].f.id = s) (hn : ∀ j (hj : j < l.length), j < k → l[j].f.id ≠ s) : findC l s = some l[k] := by
  unfold findC
  rw [List.find?_eq_some_iff_getElem]
  exact ⟨decide_eq_true h, k, hk, rfl, fun j hj => by simpa using hn j (Nat.lt_trans hj hk) hj⟩
theorem findC_none {l : List Fc} {s : ByteArray} (hn : ∀ j (hj : j < l.length), l[j].f.id ≠ s) : findC l s = none := by
  unfold findC
  rw [List.find?_eq_none]
  intro x hx
  obtain ⟨j, hj, rfl⟩ := List.mem_iff_getElem.1 hx
  simpa using hn j hj
theorem findC_mem {l : List Fc} {s : ByteArray} {y : Fc} (h : findC l s = some y) : y ∈ l := List.mem_of_find?_eq_some h
def foundF (l : List Fc) (s : ByteArray) : Fd := match findC l s with | some y => y.f | none => zeroF
theorem str_eqb {a b : ByteArray} (h : (a.toList == b.toList) = true) : a = b := toList_inj (by simpa using h)
theorem str_neb {a b : ByteArray} (h : (a.toList == b.toList) = false) : a ≠ b := fun e => by rw [e] at h; simp at h
theorem pred_any (x : Fc) (hs : slC x) (g : Nat) (s : ByteArray) (w : World) (hg : w.cell? ⟨g, 0, none⟩ = some (.string s)) :
    Calls Tryz.prog 72 #[.agg (cellsC x).toArray, .pointer (some ⟨g, 0, none⟩)] w fun e w' => e = .returned (.bool (x.f.id.toList == s.toList)) ∧ Ext w w' := by
  obtain ⟨xp, xes, xf⟩ := x
  obtain ⟨⟨xA, xn, xc, hxp⟩, ⟨xB, xm, xd, hxe⟩⟩ := hs
  dsimp only at hxp hxe
  subst hxp hxe
  unfold cellsC fCells
  dsimp only
  have hb := ((Ext.refl w).alloc (.cells #[.slice xA xn xc, .string xf.id, .string xf.title, .string xf.link, .int .i64 xf.upd, .slice xB xm xd] 35)).cell hg
  go_enter Tryz.func72, Tryz.ntmps72
  go_wp2
  go_ret
  exact ⟨rfl, (Ext.refl _).alloc _⟩
set_option maxRecDepth 100000 in
set_option maxHeartbeats 4000000 in
theorem indexF_any (u : Value) (l : List Fc) (s : ByteArray) (g : Nat) (w : World) (hu : RFcs w u l) (hl : ∀ x ∈ l, RdC w x) (hg : w.cell? ⟨g, 0, none⟩ = some (.string s)) (hn : l.length ≤ 16777216) :
    Calls Tryz.prog 71 #[u, .func (.func 72) #[] #[.pointer (some ⟨g, 0, none⟩)]] w fun e w' => ((∃ (k : Nat) (hk : k < l.length), e = .returned (.int .i64 k) ∧ findC l s = some l[k]) ∨ (e = .returned (.int .i64 (-1)) ∧ findC l s = none)) ∧ Ext w w' := by
  obtain ⟨A, c, rfl, -, -⟩ := hu.form
  have HU := Lib.hid hu
  have HL := Lib.hid hl
  have HG := Lib.hid hg
  clear hu hl hg
  go_enter Tryz.func71, Tryz.ntmps71
  go_wp2
  go_loopw [5, 8] (fun x5 i wr => ∃ k : Nat, k ≤ l.length ∧ i = .int .i64 k ∧ Hid (∀ j (h1 : j < l.length), j < k → l[j].f.id ≠ s) ∧ Ext w wr) (fun _ i _ => l.length - (intOf i).toNat)
  case atStart => exact ⟨0, Nat.zero_le _, rfl, Lib.hid (fun j _ h => by omega), Ext.refl _⟩
  case round =>
    obtain ⟨k, hk, rfl, hinv, hxr⟩ := hrel
    by_cases hlt : k < l.length
    · obtain ⟨ad, c1, e1, hax⟩ := (HU.out.ext hxr).at hlt
      injection e1 with e1 e1' e1''
      subst e1
      clear e1' e1''
      have hx := HL.out _ (List.getElem_mem hlt)
      have hhit := findC_at (s := s) hlt
      have HF : Hid (l[k].f.id = s → findC l s = some l[k]) := Lib.hid fun h => hhit h hinv.out
      have HN : Hid (l[k].f.id ≠ s → ∀ j (h1 : j < l.length), j < k + 1 → l[j].f.id ≠ s) := Lib.hid fun h j h1 h2 => by
        rcases Nat.lt_or_ge j k with h3 | h3
        · exact hinv.out j h1 h3
        · have h4 : j = k := by omega
          subst h4
          exact h
      clear hhit
      have HR : Hid (∀ R : Option Fc, R = some l[k] → ∃ (k' : Nat) (hk' : k' < l.length), (k : Int) = (k' : Int) ∧ R = some l[k']) := Lib.hid fun R h => ⟨k, hlt, rfl, h⟩
      obtain ⟨x, hxx⟩ : ∃ x, l[k] = x := ⟨_, rfl⟩
      rw [hxx] at hax hx HF HN HR
      have HLT := Lib.hid hlt
      have hsx := hx.sl
      have HP := Lib.hid (pred_any x hsx g s wr (hxr.cell HG.out))
      have hi0' : (0 : Int) ≤ (k : Int) := by omega
      have hi1 : (k : Int) < (l.length : Int) := by omega
      have HXR := Lib.hid hxr
      clear hxx hx hxr
      obtain ⟨xp, xes, ⟨xpath, xid, xtitle, xlink, xupd, xents⟩⟩ := x
      obtain ⟨⟨xA, xn, xc, hxp⟩, ⟨xB, xm, xd, hxe⟩⟩ := hsx
      dsimp only at hxp hxe
      subst hxp hxe
      obtain ⟨p0, p1, p2, p3, p4, p5⟩ := hax
      dsimp only at p0 p1 p2 p3 p4 p5
      unfold cellsC fCells at HP
      dsimp only at HP HF HN
      cases hS : (xid.toList == s.toList) with
      | true =>
        have hf := HF.out (str_eqb hS)
        have HFD := Lib.hid (HR.out _ hf)
        rw [hS] at HP
        clear hf HF HN HR
        go_wp2_with (first | (go_at_call 72; (with_reducible refine Calls.mono HP.out ?_); rintro e w2 ⟨rfl, hx2⟩))
        go_ret
        obtain ⟨k', hk', e1, e2⟩ := HFD.out
        exact ⟨Or.inl ⟨k', hk', by rw [e1]; rfl, e2⟩, HXR.out.trans hx2⟩
      | false =>
        have HNN := Lib.hid (HN.out (str_neb hS))
        rw [hS] at HP
        clear HF HN HR
        go_wp2_with (first | (go_at_call 72; (with_reducible refine Calls.mono HP.out ?_); rintro e w2 ⟨rfl, hx2⟩))
        go_roundw
        case rel => exact ⟨k + 1, HLT.out, by go_num, HNN, HXR.out.trans hx2⟩
        case measure => simp [intOf]; omega
    · have hke : k = l.length := by omega
      have HFN := Lib.hid (findC_none (l := l) (s := s) fun j hj => hinv.out j hj (by omega))
      subst hke
      go_wp2
      go_ret
      exact ⟨Or.inr ⟨rfl, HFN.out⟩, hxr⟩
theorem foundF_some {l : List Fc} {s : ByteArray} {y : Fc} (h : findC l s = some y) : foundF l s = y.f := by unfold foundF; rw [h]
theorem foundF_none {l : List Fc} {s : ByteArray} (h : findC l s = none) : foundF l s = zeroF := by unfold foundF; rw [h]
def foundC (l : List Fc) (s : ByteArray) : Fc := (findC l s).getD ⟨.slice none 0 0, .slice none 0 0, zeroF⟩
theorem foundC_f (l : List Fc) (s : ByteArray) : (foundC l s).f = foundF l s := by
  unfold foundC foundF
  cases findC l s <;> rfl
theorem foundC_rd {l : List Fc} {s : ByteArray} {w : World} (hl : ∀ x ∈ l, RdC w x) : RdC w (foundC l s) := by
  unfold foundC
  cases h : findC l s with
  | none => exact ⟨RSl.nil _ 1, RSl.nil _ 5⟩
  | some y => exact hl y (findC_mem h)
set_option maxRecDepth 100000 in
set_option maxHeartbeats 4000000 in
theorem refFind_any (u : Value) (l : List Fc) (s : ByteArray) (w : World) (hu : RFcs w u l) (hl : ∀ x ∈ l, RdC w x) (hn : l.length ≤ 16777216) :
    Calls Tryz.prog 36 #[.agg #[u], .string s] w fun e w' => e = .returned (.tuple #[.agg (cellsC (foundC l s)).toArray, .bool (findC l s).isSome]) ∧ Ext w w' := by
  obtain ⟨A, c, rfl, -, -⟩ := hu.form
  have HU := Lib.hid hu
  have HL := Lib.hid hl
  clear hu hl
  obtain ⟨W1, hW1⟩ : ∃ W1, (w.alloc (.cells #[.slice A l.length c] 46)).alloc (.cells (fCells (.slice none 0 0) (.slice none 0 0) zeroF).toArray 35) = W1 := ⟨_, rfl⟩
  have hx1 : Ext w W1 := by rw [← hW1]; exact ((Ext.refl _).alloc _).alloc _
  have b0 : W1.cell? ⟨w.heap.size, 0, none⟩ = some (.slice A l.length c) := by rw [← hW1]; exact ((Ext.refl _).alloc _).boxed 0 _ rfl
  have b1 : W1.heap[w.heap.size + 1]? = some (.cells (fCells (.slice none 0 0) (.slice none 0 0) zeroF).toArray 35) := by rw [← hW1]; exact heap2_new w _ _
  have HX1 := Lib.hid hx1
  have HB0 := Lib.hid b0
  have HB1 := Lib.hid b1
  unfold fCells zeroF noS at hW1
  dsimp only at hW1
  clear hx1 b1
  go_enter Tryz.func36, Tryz.ntmps36
  go_wp2
  clear b0
  go_loopw [6] (fun i wr => ∃ k : Nat, k ≤ l.length ∧ i = .int .i64 k ∧ Hid (∀ j (h1 : j < l.length), j < k → l[j].f.id ≠ s) ∧ wr = W1) (fun i _ => l.length - (intOf i).toNat)
  case atStart => exact ⟨0, Nat.zero_le _, rfl, Lib.hid (fun j _ h => by omega), rfl⟩
  case round =>
    obtain ⟨k, hk, rfl, hinv, rfl⟩ := hrel
    have b0 := HB0.out
    by_cases hlt : k < l.length
    · obtain ⟨ad, c1, e1, hax⟩ := (HU.out.ext HX1.out).at hlt
      injection e1 with e1 e1' e1''
      subst e1
      clear e1' e1''
      have hx := HL.out _ (List.getElem_mem hlt)
      have hhit := findC_at (s := s) hlt
      have HF : Hid (l[k].f.id = s → findC l s = some l[k]) := Lib.hid fun h => hhit h hinv.out
      have HN : Hid (l[k].f.id ≠ s → ∀ j (h1 : j < l.length), j < k + 1 → l[j].f.id ≠ s) := Lib.hid fun h j h1 h2 => by
        rcases Nat.lt_or_ge j k with h3 | h3
        · exact hinv.out j h1 h3
        · have h4 : j = k := by omega
          subst h4
          exact h
      clear hhit
      obtain ⟨x, hxx⟩ : ∃ x, l[k] = x := ⟨_, rfl⟩
      rw [hxx] at hax hx HF HN
      have HLT := Lib.hid hlt
      have hsx := hx.sl
      have HXD := Lib.hid hx
      have hi0' : (0 : Int) ≤ (k : Int) := by omega
      have hi1 : (k : Int) < (l.length : Int) := by omega
      clear hxx hx
      obtain ⟨xp, xes, ⟨xpath, xid, xtitle, xlink, xupd, xents⟩⟩ := x
      obtain ⟨⟨xA, xn, xc, hxp⟩, ⟨xB, xm, xd, hxe⟩⟩ := hsx
      dsimp only at hxp hxe
      subst hxp hxe
      obtain ⟨p0, p1, p2, p3, p4, p5⟩ := hax
      dsimp only at p0 p1 p2 p3 p4 p5 HF HN
      cases hS : (xid.toList == s.toList) with
      | true =>
        have HFD := Lib.hid (HF.out (str_eqb hS))
        have h1 := HB1.out
        clear HF HN
        go_wp2_with (first
          | (refine wpList_store_row rfl 35 (.tmp 4) (.tmp 26) rfl (w.heap.size + 1) _ rfl rfl _ _ h1 size_fd rfl oneF ?_))
        ((try simp only [Exit.inBlock, Exit.then]); refine bodyPost_ret (results_cell_row2 rfl _ _ _ _ _ _ _ rfl (setRow_heap _ _ _ _ _ _ h1) Tryz.underlying35 rfl size_fd) rfl ?_)
        exact ⟨by unfold foundC; rw [HFD.out]; rfl, HX1.out.setRow (Nat.le_succ _) _⟩
      | false =>
        have HNN := Lib.hid (HN.out (str_neb hS))
        clear HF HN
        go_wp2
        go_roundw
        case rel => exact ⟨k + 1, HLT.out, by go_num, HNN, by trivial⟩
        case measure => simp [intOf]; omega
    · have hke : k = l.length := by omega
      have HFN := Lib.hid (findC_none (l := l) (s := s) fun j hj => hinv.out j hj (by omega))
      subst hke
      have h1 := HB1.out
      go_wp2_with (first
          | (refine wpList_store_row rfl 35 (.tmp 4) (.tmp 27) rfl (w.heap.size + 1) _ rfl rfl _ _ h1 size_fd rfl oneF ?_))
      ((try simp only [Exit.inBlock, Exit.then]); refine bodyPost_ret (results_cell_row2 rfl _ _ _ _ _ _ _ rfl (setRow_heap _ _ _ _ _ _ h1) Tryz.underlying35 rfl size_fd) rfl ?_)
      exact ⟨by unfold foundC; rw [HFN.out]; rfl, HX1.out.setRow (Nat.le_succ _) _⟩
end Go.Proofs.YtgecijhgonfldaaGreatDoor
namespace Go.Proofs.YtgecijhgonfldaaGreatDoor
open Go Go.RowKit
set_option linter.unusedVariables false
def WrV (w : World) (B : Nat) (v : Value) (m : Nat) : Prop := ∀ j, j < m → ∃ (ad : Addr) (n c : Nat) (u : Value), v = .slice (some ad) n c ∧ B ≤ ad.block ∧ w.cell? (ad.add j) = some u ∧ w.frozen? (ad.add j) = false
theorem WrV.zero (w : World) (B : Nat) (v : Value) : WrV w B v 0 := fun j h => absurd h (Nat.not_lt_zero _)
theorem WrV.mono {w : World} {B B' : Nat} {v : Value} {m : Nat} (h : WrV w B v m) (hB : B' ≤ B) : WrV w B' v m := fun j hj =>
  let ⟨ad, n, c, u, e, h1, h2, h3⟩ := h j hj; ⟨ad, n, c, u, e, Nat.le_trans hB h1, h2, h3⟩
theorem WrV.ext {a b : World} {B : Nat} {v : Value} {m : Nat} (h : WrV a B v m) (hx : Ext a b) : WrV b B v m := fun j hj =>
  let ⟨ad, n, c, u, e, h1, h2, h3⟩ := h j hj
  ⟨ad, n, c, u, e, h1, hx.cell h2, (Below.frozen hx (World.block_lt_of_cell? a _ h2)).trans h3⟩
theorem WrV.grown {a b : World} {B : Nat} {v : Value} {m : Nat} {r : Option Nat} (h : WrV a B v m) (hg : a.grownBy b r) (hv : m = 0 ∨ v.ownBlock ≠ r) : WrV b B v m := fun j hj => by
  obtain ⟨ad, n, c, u, rfl, h1, h2, h3⟩ := h j hj
  have hlt := World.block_lt_of_cell? a _ h2
  have hne : some (ad.add j).block ≠ r := by
    rw [block_of_add]
    rcases hv with hv | hv
    · omega
    · exact hv
  exact ⟨ad, n, c, u, rfl, h1, (hg.cell_far _ hlt hne).trans h2, (hg.frozen_far _ hlt hne).trans h3⟩
theorem WrV.setCell {w : World} {B : Nat} {v : Value} {m : Nat} (h : WrV w B v m) (p : Addr) (x : Value) : WrV (w.setCell p x) B v m := fun j hj => by
  obtain ⟨ad, n, c, u, rfl, h1, h2, h3⟩ := h j hj
  by_cases e : p = ad.add j
  · subst e
    exact ⟨ad, n, c, x, rfl, h1, World.cell?_setCell_same _ _ _ h2, by rw [World.frozen?_setCell]; exact h3⟩
  · exact ⟨ad, n, c, u, rfl, h1, (World.cell?_setCell_other _ _ _ _ e).trans h2, by rw [World.frozen?_setCell]; exact h3⟩
theorem WrV.setS : ∀ (l : List (Addr × ByteArray)) {w : World} {B : Nat} {v : Value} {m : Nat}, WrV w B v m → WrV (setS w l) B v m
  | [], _, _, _, _, h => h
  | p :: t, _, _, _, _, h => WrV.setS t (h.setCell p.1 _)
theorem WrV.own {w : World} {B : Nat} {e : TypeId} {size n : Nat} {v : Value} {xs : List Value} (h : w.ownsRow B e size v n xs) : WrV w B v (n * size) := fun j hj => by
  have hn : 0 < n := Nat.pos_of_ne_zero fun h0 => by rw [h0, Nat.zero_mul] at hj; exact Nat.not_lt_zero _ hj
  obtain ⟨g, cap, rfl, hb, _⟩ := World.ownsRow.form h hn
  have hadd : (⟨g, 0, none⟩ : Addr).add j = ⟨g, j, none⟩ := by unfold Addr.add; split <;> simp_all
  have hl : j < xs.length := by rw [h.1]; exact hj
  exact ⟨⟨g, 0, none⟩, n, cap, xs[j], rfl, hb, by rw [hadd, h.cellAt j hj]; exact List.getElem?_eq_getElem hl, by rw [hadd]; exact h.frozenAt j⟩
def WcF (w : World) (B : Nat) (y : Fc) : Prop := WrV w B y.p y.f.path.length ∧ WrV w B y.es (y.f.ents.length * 5)
theorem WcF.ext {a b : World} {B : Nat} {y : Fc} (h : WcF a B y) (hx : Ext a b) : WcF b B y := ⟨h.1.ext hx, h.2.ext hx⟩
theorem WcF.mono {w : World} {B B' : Nat} {y : Fc} (h : WcF w B y) (hB : B' ≤ B) : WcF w B' y := ⟨h.1.mono hB, h.2.mono hB⟩
theorem away_len {α : Type} {l : List α} {P : Prop} (h : l = [] ∨ P) : l.length = 0 ∨ P := h.imp (fun e => by rw [e]; rfl) fun e => e
theorem away_len5 {α : Type} {l : List α} {P : Prop} (h : l = [] ∨ P) : l.length * 5 = 0 ∨ P := h.imp (fun e => by rw [e]; rfl) fun e => e
theorem WcF.grown {a b : World} {B : Nat} {y : Fc} {r : Option Nat} (h : WcF a B y) (hg : a.grownBy b r) (ha : awayC y r) : WcF b B y := ⟨h.1.grown hg (away_len ha.1), h.2.grown hg (away_len5 ha.2)⟩
end Go.Proofs.YtgecijhgonfldaaGreatDoor
namespace Go.Proofs.YtgecijhgonfldaaGreatDoor
open Go Go.RowKit Go.Joins
set_option linter.unusedVariables false
theorem flatE_ones (l : List Ent) : ∀ u ∈ flatE l, u.oneCell' = true := by
  intro u hu
  unfold flatE at hu
  obtain ⟨c, hc, hu⟩ := List.mem_flatten.1 hu
  obtain ⟨e, _, rfl⟩ := List.mem_map.1 hc
  exact eCells_one e u hu
def Cln (W : World) (w' : World) (size : Nat) (v : Value) (n : Nat) (xs : List Value) : Prop :=
  RSl w' size v n xs ∧ WrV w' W.heap.size v (n * size) ∧ (∀ q, v.ownBlock = some q → W.heap.size ≤ q) ∧ ∃ A c, v = .slice A n c
theorem Cln.of_own {W W' w' : World} {size n : Nat} {e : TypeId} {v : Value} {xs : List Value} (h : w'.ownsRow W'.heap.size e size v n xs) (hx : W.heap.size ≤ W'.heap.size) : Cln W w' size v n xs := by
  refine ⟨RSl.of_own h, (WrV.own h).mono hx, fun q hq => Nat.le_trans hx (h.lt q hq).1, ?_⟩
  obtain ⟨-, A, c, e, -⟩ := RSl.of_own h
  exact ⟨A, c, e⟩
theorem Cln.ext {W w' w'' : World} {size n : Nat} {v : Value} {xs : List Value} (h : Cln W w' size v n xs) (hx : Ext w' w'') : Cln W w'' size v n xs := ⟨h.1.ext hx, h.2.1.ext hx, h.2.2⟩
theorem Cln.cell {W w' : World} {size n g i : Nat} {v u : Value} {xs : List Value} (h : Cln W w' size v n xs) (hg : g < W.heap.size) : Cln W (w'.setCell ⟨g, i, none⟩ u) size v n xs :=
  ⟨h.1.grown (setCell_grown _ _ _) (Or.inr fun e => by have := h.2.2.1 g e; omega), h.2.1.setCell _ _, h.2.2⟩
theorem Cln.row {W w' : World} {size n g : Nat} {cs : Array Value} {v : Value} {xs : List Value} (h : Cln W w' size v n xs) (hg : g < W.heap.size) : Cln W (w'.setRow g cs) size v n xs :=
  ⟨h.1.grown (setRow_grown _ _ _) (Or.inr fun e => by have := h.2.2.1 g e; omega), h.2.1.grown (setRow_grown _ _ _) (Or.inr fun e => by have := h.2.2.1 g e; omega), h.2.2⟩
set_option maxRecDepth 100000 in
set_option maxHeartbeats 8000000 in
theorem find_any (u : Value) (l : List Fc) (s : ByteArray) (w : World) (hu : RFcs w u l) (hl : ∀ x ∈ l, RdC w x) (hk : ∀ x ∈ l, x.f.path.length ≤ 16777216 ∧ x.f.ents.length ≤ 16777216) (hn : l.length ≤ 16777216) :
    Calls Tryz.prog 42 #[.agg #[u], .string s] w fun e w' => ∃ y : Fc, e = .returned (.tuple #[.agg (cellsC y).toArray, .bool (findC l s).isSome]) ∧ y.f = foundF l s ∧ RdC w' y ∧ WcF w' w.heap.size y ∧ Ext w w' := by
  obtain ⟨A, c, rfl, -, -⟩ := hu.form
  obtain ⟨W1, hW1⟩ : ∃ W1, ((w.alloc (.cells #[.slice A l.length c] 46)).alloc (.cells #[.string s] 9)).alloc (.cells (fCells (.slice none 0 0) (.slice none 0 0) zeroF).toArray 35) = W1 := ⟨_, rfl⟩
  have hx1 : Ext w W1 := by rw [← hW1]; exact (((Ext.refl _).alloc _).alloc _).alloc _
  have hs1 : W1.heap.size = w.heap.size + 1 + 1 + 1 := by rw [← hW1, size_alloc, size_alloc, size_alloc]
  have b0 : W1.cell? ⟨w.heap.size, 0, none⟩ = some (.slice A l.length c) := by rw [← hW1]; exact (((Ext.refl _).alloc _).alloc _).boxed 0 _ rfl
  have bs : W1.cell? ⟨w.heap.size + 1, 0, none⟩ = some (.string s) := by
    have := ((Ext.refl ((w.alloc (.cells #[.slice A l.length c] 46)).alloc (.cells #[.string s] 9))).alloc (.cells (fCells (.slice none 0 0) (.slice none 0 0) zeroF).toArray 35)).boxed 0 (.string s) rfl
    rw [size_alloc, hW1] at this
    exact this
  have b1 : W1.heap[w.heap.size + 1 + 1]? = some (.cells (fCells (.slice none 0 0) (.slice none 0 0) zeroF).toArray 35) := by
    rw [← hW1]
    have := heap_alloc_new ((w.alloc (.cells #[.slice A l.length c] 46)).alloc (.cells #[.string s] 9)) (.cells (fCells (.slice none 0 0) (.slice none 0 0) zeroF).toArray 35)
    rwa [size_alloc, size_alloc] at this
  have HU := Lib.hid hu
  have HL := Lib.hid hl
  have HK := Lib.hid hk
  have HX1 := Lib.hid hx1
  have HB1 := Lib.hid b1
  have HS1 := Lib.hid hs1
  have HIX := Lib.hid (indexF_any (.slice A l.length c) l s (w.heap.size + 1) W1 (hu.ext hx1) (fun x hx => (hl x hx).ext hx1) bs hn)
  unfold fCells zeroF noS at hW1
  dsimp only at hW1
  clear hu hl hk hx1 hs1 b1 bs
  go_enter Tryz.func42, Tryz.ntmps42
  cases hfc : findC l s with
  | none =>
    have HIN : Hid (Calls Tryz.prog 71 #[.slice A l.length c, .func (.func 72) #[] #[.pointer (some ⟨w.heap.size + 1, 0, none⟩)]] W1 fun e w' => e = .returned (.int .i64 (-1)) ∧ Ext W1 w') := Lib.hid (HIX.out.mono fun e w' h => by
      rcases h.1 with ⟨k, hk, h1, h2⟩ | ⟨h1, h2⟩
      · rw [hfc] at h2; cases h2
      · exact ⟨h1, h.2⟩)
    clear HIX
    go_wp2_with (first
      | (go_at_call 71; (have hz := HIN.out); (with_reducible refine Calls.mono hz ?_); clear hz; rintro e w2 ⟨rfl, hx2⟩; (have h2 := hx2.heap HB1.out))
      | (refine wpList_store_row rfl 35 (.tmp 4) (.tmp 14) rfl (w.heap.size + 1 + 1) _ rfl rfl _ _ h2 size_fd rfl oneF ?_))
    ((try simp only [Exit.inBlock, Exit.then]); refine bodyPost_ret (results_cell_row2 rfl _ _ _ _ _ _ _ rfl (setRow_heap _ _ _ _ _ _ h2) Tryz.underlying35 rfl size_fd) rfl ?_)
    exact ⟨⟨.slice none 0 0, .slice none 0 0, zeroF⟩, rfl, (foundF_none hfc).symm, ⟨RSl.nil _ 1, RSl.nil _ 5⟩, ⟨WrV.zero _ _ _, WrV.zero _ _ _⟩, (HX1.out.trans hx2).setRow (by omega) _⟩
  | some x =>
    have HIN : Hid (Calls Tryz.prog 71 #[.slice A l.length c, .func (.func 72) #[] #[.pointer (some ⟨w.heap.size + 1, 0, none⟩)]] W1 fun e w' => (∃ (k : Nat) (hk : k < l.length), e = .returned (.int .i64 k) ∧ l[k] = x) ∧ Ext W1 w') := Lib.hid (HIX.out.mono fun e w' h => by
      rcases h.1 with ⟨k, hk, h1, h2⟩ | ⟨h1, h2⟩
      · rw [hfc] at h2
        exact ⟨⟨k, hk, h1, (Option.some.inj h2).symm⟩, h.2⟩
      · rw [hfc] at h2; cases h2)
    have hxm := findC_mem hfc
    have hsl := (HL.out x hxm).sl
    obtain ⟨xp, xes, xf⟩ := x
    obtain ⟨⟨xA, xn, xc, hxp⟩, ⟨xB, xm, xd, hxe⟩⟩ := hsl
    dsimp only at hxp hxe
    subst hxp hxe
    have hx := HL.out _ hxm
    have hkx := HK.out _ hxm
    dsimp only at hkx
    have HXF := Lib.hid (foundF_some hfc)
    have HCP : Hid (∀ W w' : World, Ext w W → Ext W w' → Calls Tryz.prog 50 #[.slice xA xn xc] w' fun e w'' => ∃ (A : Option Addr) (c : Nat), e = .returned (.slice A xf.path.length c) ∧ Cln W w'' 1 (.slice A xf.path.length c) xf.path.length (xf.path.map Value.string) ∧ Ext w' w'') := Lib.hid fun W w' h1 h2 => by
      refine (clone_str _ xf.path.length (xf.path.map Value.string) w' (hx.1.ext (h1.trans h2)) (fun v hv => by obtain ⟨t, _, rfl⟩ := List.mem_map.1 hv; rfl) (by omega)).mono ?_
      rintro e w'' ⟨v', rfl, hown, hxx⟩
      have hc := Cln.of_own hown h2.size
      obtain ⟨A, c, hv⟩ := hc.2.2.2
      subst hv
      exact ⟨A, c, rfl, hc, hxx⟩
    have HCE : Hid (∀ W w' : World, Ext w W → Ext W w' → Calls Tryz.prog 58 #[.slice xB xm xd] w' fun e w'' => ∃ (A : Option Addr) (c : Nat), e = .returned (.slice A xf.ents.length c) ∧ Cln W w'' 5 (.slice A xf.ents.length c) xf.ents.length (flatE xf.ents) ∧ Ext w' w'') := Lib.hid fun W w' h1 h2 => by
      refine (clone_entry _ xf.ents.length (flatE xf.ents) w' (hx.2.ext (h1.trans h2)) (flatE_ones _) (by omega)).mono ?_
      rintro e w'' ⟨v', rfl, hown, hxx⟩
      have hc := Cln.of_own hown h2.size
      obtain ⟨A, c, hv⟩ := hc.2.2.2
      subst hv
      exact ⟨A, c, rfl, hc, hxx⟩
    clear HIX hkx
    go_wp2_with (first
      | (go_at_call 71; (have hz := HIN.out); (with_reducible refine Calls.mono hz ?_); clear hz; rintro e w2 ⟨⟨k, hkl, rfl, hkx⟩, hx2⟩; (have c0 := hx2.cell b0); (have hxw2 := HX1.out.trans hx2); (obtain ⟨ad, c1, e1, hax⟩ := (HU.out.ext hxw2).at hkl); (injection e1 with e1 e1' e1''); subst e1; clear e1' e1''; rw [hkx] at hax; (obtain ⟨p0, p1, p2, p3, p4, p5⟩ := hax); dsimp only at p0 p1 p2 p3 p4 p5; (have hi0 : (0 : Int) ≤ (k : Int) := by omega); (have hi1 : (k : Int) < (l.length : Int) := by omega); (have hi2 : ¬ (k : Int) < 0 := by omega)))
    have HXW := Lib.hid hxw2
    have hb0 := heap_alloc_new w2 (.cells #[.slice xA xn xc, .string xf.id, .string xf.title, .string xf.link, .int .i64 xf.upd, .slice xB xm xd] 35)
    have hxw3 := hxw2.alloc (.cells #[.slice xA xn xc, .string xf.id, .string xf.title, .string xf.link, .int .i64 xf.upd, .slice xB xm xd] 35)
    have hb4 := ((Ext.refl w2).alloc (.cells #[.slice xA xn xc, .string xf.id, .string xf.title, .string xf.link, .int .i64 xf.upd, .slice xB xm xd] 35)).heap (hx2.heap HB1.out)
    have hlt4 : w.heap.size + 1 + 1 < w2.heap.size := (Array.getElem?_eq_some_iff.1 (hx2.heap HB1.out)).1
    have hsz3 := size_alloc w2 (.cells #[.slice xA xn xc, .string xf.id, .string xf.title, .string xf.link, .int .i64 xf.upd, .slice xB xm xd] 35)
    obtain ⟨W3, hW3⟩ : ∃ W3, w2.alloc (.cells #[.slice xA xn xc, .string xf.id, .string xf.title, .string xf.link, .int .i64 xf.upd, .slice xB xm xd] 35) = W3 := ⟨_, rfl⟩
    rw [hW3] at hb0 hxw3 hb4 hsz3 ⊢
    have n0 : W3.cell? ⟨w2.heap.size, 0, none⟩ = some (.slice xA xn xc) := by rw [Lib.cell_of_heap hb0]; rfl
    have n5 : W3.cell? ⟨w2.heap.size, 5, none⟩ = some (.slice xB xm xd) := by rw [Lib.cell_of_heap hb0]; rfl
    have HX3 := Lib.hid hxw3
    clear hW3 hxw2 p0 p1 p2 p3 p4 p5 c0 b0 hx2 hxw3
    refine wp_region_any (by kernel_rfl) ?_
    change wpAny _ _ _ _ _ _ _ (World.drew _)
    refine wpAny_takeL (i := 0) (v := .pointer (some ⟨w2.heap.size, 0, none⟩)) rfl (by kernel_rfl) (fun _ _ _ h => h) (Or.inl ⟨by rfl, fun w => by go_simp⟩) ?_
    refine wpAny_takeL (i := 3) (v := .pointer (some ⟨w2.heap.size, 5, none⟩)) rfl (by kernel_rfl) (fun _ _ _ h => h) (Or.inl ⟨by rfl, fun w => by go_simp⟩) ?_
    refine wpAny_load (i := 1) (v := .slice xA xn xc) (fun w' => Ext W3 w') 7 rfl (by kernel_rfl) (fun _ _ _ h => h) (Or.inl ⟨by rfl, fun w' hS => by have hq := Ext.cell hS n0; go_simp⟩) (Ext.refl W3).drew ?_
    refine wpAnyT_load (i := 4) (v := .slice xB xm xd) rfl (by kernel_rfl) (fun _ _ _ h => h) (Or.inl ⟨by rfl, fun w' hS => by have hq := Ext.cell hS n5; go_simp⟩) (Ext.refl W3).drew ?_
    refine wpAnyT_step (i := 2) rfl (by kernel_rfl) (fun K hK => ?_)
    have hxd := (Ext.refl W3).drew
    go_simp
    go_at_call 50
    have hz := HCP.out W3 _ HX3.out hxd
    with_reducible refine Calls.mono hz ?_
    clear hz
    rintro e w6 ⟨A6, c6, rfl, hc6, hx6⟩
    have hx63 := hxd.trans hx6
    refine hK _ _ hx63 ?_
    clear hK K
    refine wpAnyT_load (i := 6) (v := .pointer (some ⟨w2.heap.size, 0, none⟩)) rfl (by kernel_rfl) (fun _ _ _ h => h) (Or.inl ⟨by rfl, fun w' hS => by go_simp⟩) hx63 ?_
    refine wpAnyT_seqF 7 [8, 9] (AtIx.cons rfl (AtIx.cons rfl (AtIx.cons rfl AtIx.nil))) [5] (AtIx.cons rfl AtIx.nil) rfl (by kernel_rfl) ?_
    refine wpListS_step (fun K hK => ?_)
    go_simp
    go_at_call 58
    have hz := HCE.out W3 _ HX3.out hx63
    with_reducible refine Calls.mono hz ?_
    clear hz
    rintro e w7 ⟨A7, c7, rfl, hc7, hx7⟩
    have hx73 := hx63.trans hx7
    refine hK _ _ hx73 ?_
    clear hK K
    refine wpListS_nil ?_
    have hb7 := hx73.heap hb0
    have hb8 := block_setCell (i := 0) hb7 (.slice A6 xf.path.length c6)
    have hb9 := block_setCell (i := 5) hb8 (.slice A7 xf.ents.length c7)
    obtain ⟨q0, -, -, -, -, -⟩ := blk6 hb7
    have q5 : (w7.setCell ⟨w2.heap.size, 0, none⟩ (.slice A6 xf.path.length c6)).cell? ⟨w2.heap.size, 5, none⟩ = some (.slice xB xm xd) := by rw [cell_of_block hb8]; rfl
    have f0 := unfrozen_of_block hb7 0
    have f5 := unfrozen_of_block hb8 5
    have HP7 := Lib.hid ((hc6.ext hx7).cell (i := 0) (u := .slice A6 xf.path.length c6) (show w2.heap.size < W3.heap.size by omega))
    have HP9 := Lib.hid (HP7.out.cell (i := 5) (u := .slice A7 xf.ents.length c7) (show w2.heap.size < W3.heap.size by omega))
    have HE7 := Lib.hid (hc7.cell (i := 0) (u := .slice A6 xf.path.length c6) (show w2.heap.size < W3.heap.size by omega))
    have HE9 := Lib.hid (HE7.out.cell (i := 5) (u := .slice A7 xf.ents.length c7) (show w2.heap.size < W3.heap.size by omega))
    have hb49 : ((w7.setCell ⟨w2.heap.size, 0, none⟩ (.slice A6 xf.path.length c6)).setCell ⟨w2.heap.size, 5, none⟩ (.slice A7 xf.ents.length c7)).heap[w.heap.size + 1 + 1]? = some (.cells (fCells (.slice none 0 0) (.slice none 0 0) zeroF).toArray 35) :=
      ((setCell_grown _ ⟨w2.heap.size, 5, none⟩ _).block _ (by show _ < ((w7.setCell ⟨w2.heap.size, 0, none⟩ (.slice A6 xf.path.length c6)).heap).size; have := hx73.size; have := (setCell_grown w7 ⟨w2.heap.size, 0, none⟩ (.slice A6 xf.path.length c6)).size; omega) (fun e => by injection e with e; simp only at e; omega)).trans (((setCell_grown w7 ⟨w2.heap.size, 0, none⟩ _).block _ (by have := hx73.size; omega) (fun e => by injection e with e; simp only at e; omega)).trans (hx73.heap hb4))
    have HX9 : Hid (Ext w ((w7.setCell ⟨w2.heap.size, 0, none⟩ (.slice A6 xf.path.length c6)).setCell ⟨w2.heap.size, 5, none⟩ (.slice A7 xf.ents.length c7))) := Lib.hid (Ext.setCell (Ext.setCell (HX3.out.trans hx73) (by show w.heap.size ≤ w2.heap.size; omega) _) (by show w.heap.size ≤ w2.heap.size; omega) _)
    obtain ⟨r0, r1, r2, r3, r4, r5⟩ := blk6 (show ((w7.setCell ⟨w2.heap.size, 0, none⟩ (.slice A6 xf.path.length c6)).setCell ⟨w2.heap.size, 5, none⟩ (.slice A7 xf.ents.length c7)).heap[w2.heap.size]? = some (.cells #[.slice A6 xf.path.length c6, .string xf.id, .string xf.title, .string xf.link, .int .i64 xf.upd, .slice A7 xf.ents.length c7] 35) from hb9)
    clear hb7 hb8 hb9 hb0 hb4 hc6 hc7 hx63 hx7 hx6 n0 n5 hxd
    go_wp2_with (first
      | (refine wpList_store_row rfl 35 (.tmp 4) (.tmp 28) rfl (w.heap.size + 1 + 1) _ rfl rfl _ _ hb49 size_fd rfl oneF ?_))
    ((try simp only [Exit.inBlock, Exit.then]); refine bodyPost_ret (results_cell_row2 rfl _ _ _ _ _ _ _ rfl (setRow_heap _ _ _ _ _ _ hb49) Tryz.underlying35 rfl size_fd) rfl ?_)
    have hP := HP9.out.row (g := w.heap.size + 1 + 1) (cs := #[.slice A6 xf.path.length c6, .string xf.id, .string xf.title, .string xf.link, .int .i64 xf.upd, .slice A7 xf.ents.length c7]) (by omega)
    have hE := HE9.out.row (g := w.heap.size + 1 + 1) (cs := #[.slice A6 xf.path.length c6, .string xf.id, .string xf.title, .string xf.link, .int .i64 xf.upd, .slice A7 xf.ents.length c7]) (by omega)
    exact ⟨⟨.slice A6 xf.path.length c6, .slice A7 xf.ents.length c7, xf⟩, rfl, HXF.out.symm, ⟨hP.1, hE.1⟩, ⟨by have := hP.2.1.mono (show w.heap.size ≤ W3.heap.size by omega); rwa [Nat.mul_one] at this, hE.2.1.mono (show w.heap.size ≤ W3.heap.size by omega)⟩, HX9.out.setRow (by omega) _⟩
end Go.Proofs.YtgecijhgonfldaaGreatDoor
namespace Go.Proofs.YtgecijhgonfldaaGreatDoor
open Go Go.RowKit
set_option linter.unusedVariables false
theorem arcEq (p q : Arc) (w : World) (hp : ArcV w p) (hq : ArcV w q) {n : Nat} (hs : SmL p.fs n) (hn : n ≤ 1000000) :
    Calls Tryz.prog 27 #[.agg #[p.1], .agg #[q.1]] w fun e w' => e = .returned (.bool (decide (p.fs = q.fs))) ∧ Ext w w' :=
  refEqual_any p.1 q.1 p.2 q.2 w hp.row hq.row hp.rd hq.rd (fun x hx => hs.lens hn x.f (List.mem_map.2 ⟨x, hx, rfl⟩)) (by
    have := hs.len
    unfold Arc.fs at this
    rw [List.length_map] at this
    omega)
theorem arcCheck (p : Arc) (w : World) (hp : ArcV w p) {n : Nat} (hs : SmL p.fs n) (hn : n ≤ 1000000) :
    Calls Tryz.prog 28 #[.agg #[p.1]] w fun e w' => e = .returned (.int .i64 (if okA p.fs = true then 0 else 22)) ∧ Ext w w' :=
  refCheckA_any p.1 p.2 w hp.row hp.rd (fun x hx => (hs.fokS hn x.f (List.mem_map.2 ⟨x, hx, rfl⟩)).1) (by
    have := hs.len
    unfold Arc.fs at this
    rw [List.length_map] at this
    omega)
end Go.Proofs.YtgecijhgonfldaaGreatDoor
namespace Go.Proofs.YtgecijhgonfldaaGreatDoor
open Go Go.RowKit
set_option linter.unusedVariables false
set_option maxRecDepth 100000 in
set_option maxHeartbeats 4000000 in
theorem incl_any (p q : Arc) (w : World) (hE : Env w) (hp : ArcV w p) (hq : ArcV w q) {n : Nat} (hs : ∀ r ∈ [p, q], SmL r.fs n) (hn : n * 2 ≤ 1000000) :
    Calls Tryz.prog 40 #[.agg #[p.1], .agg #[q.1]] w fun e w' => e = .returned (.tuple #[.bool (inclV p.fs q.fs), .int .i64 (mErrV [p.fs, q.fs])]) ∧ Ext w w' := by
  obtain ⟨pA, pc, hpf⟩ := hp.form
  obtain ⟨qA, qc, hqf⟩ := hq.form
  obtain ⟨pv, pl⟩ := p
  obtain ⟨qv, ql⟩ := q
  dsimp only at hpf hqf
  subst hpf hqf
  have HM : Hid (∀ W : World, Ext w W → Calls Tryz.prog 34 #[.slice (some ⟨W.heap.size, 0, none⟩) 2 2] (W.alloc (.cells #[.slice pA pl.length pc, .slice qA ql.length qc] 46)) (MrgPost (W.alloc (.cells #[.slice pA pl.length pc, .slice qA ql.length qc] 46)) [pl.map Fc.f, ql.map Fc.f])) := Lib.hid fun W h =>
    merge_lit [(.slice pA pl.length pc, pl), (.slice qA ql.length qc, ql)] W (hE.ext h) (fun r hr => by
      simp only [List.mem_cons, List.mem_nil_iff, or_false] at hr
      rcases hr with rfl | rfl
      · exact hp.ext h
      · exact hq.ext h) hs hn (by show 2 ≤ 1000; decide)
  have hsp : SmL (pl.map Fc.f) n := hs (.slice pA pl.length pc, pl) (by simp)
  have hsq : SmL (ql.map Fc.f) n := hs (.slice qA ql.length qc, ql) (by simp)
  have hn2 : n ≤ 1000000 := by omega
  have hsr : SmL (mValV [pl.map Fc.f, ql.map Fc.f]) (n + n) := smL_valV (by simpa using hsp.app hsq)
  have hnn : n + n ≤ 1000000 := by omega
  have hpl : pl.length ≤ n := by have := hsp.len; rwa [List.length_map] at this
  show Calls Tryz.prog 40 #[.agg #[.slice pA pl.length pc], .agg #[.slice qA ql.length qc]] w fun e w' => e = .returned (.tuple #[.bool (inclV (pl.map Fc.f) (ql.map Fc.f)), .int .i64 (mErrV [pl.map Fc.f, ql.map Fc.f])]) ∧ Ext w w'
  obtain ⟨V, hV⟩ : ∃ V, mValV [pl.map Fc.f, ql.map Fc.f] = V := ⟨_, rfl⟩
  have HEQ : Hid (∀ (A : Option Addr) (c : Nat) (l : List Fc) (w' : World), l.map Fc.f = V → ArcV w' (.slice A l.length c, l) → Ext w w' → Calls Tryz.prog 70 #[.agg #[.slice A l.length c], .agg #[.slice pA pl.length pc]] w' fun e w'' => e = .returned (.bool (decide (V = pl.map Fc.f))) ∧ Ext w' w'') := Lib.hid fun A c l w' hl ha hx => by
    rw [← hV] at hl
    have hp' := hp.ext hx
    have hll : l.length ≤ 1000000 := by have := hsr.len; rw [← hl, List.length_map] at this; omega
    have hlk : ∀ x ∈ l, x.f.path.length ≤ 16777216 ∧ x.f.ents.length ≤ 16777216 := fun x hx => hsr.lens hnn x.f (by rw [← hl]; exact List.mem_map.2 ⟨x, hx, rfl⟩)
    have hpk : ∀ x ∈ pl, x.f.path.length ≤ 16777216 ∧ x.f.ents.length ≤ 16777216 := fun x hx => hsp.lens hn2 x.f (List.mem_map.2 ⟨x, hx, rfl⟩)
    have := mEqual_any (.slice A l.length c) (.slice pA pl.length pc) l pl w' ha.row hp'.row ha.rd hp'.rd hlk hpk (by omega)
    rwa [hl, hV] at this
  have hI : inclV (pl.map Fc.f) (ql.map Fc.f) = (okV [pl.map Fc.f, ql.map Fc.f] && decide (V = pl.map Fc.f)) := by unfold inclV; rw [hV]
  rw [hI]
  have hZ : mErrV [pl.map Fc.f, ql.map Fc.f] = if okV [pl.map Fc.f, ql.map Fc.f] = true then 0 else 22 := rfl
  unfold MrgPost at HM
  simp only [hV, hZ] at HM ⊢
  obtain ⟨D, hD⟩ : ∃ D, decide (V = pl.map Fc.f) = D := ⟨_, rfl⟩
  simp only [hD] at HEQ ⊢
  obtain ⟨B, hB⟩ : ∃ B, okV [pl.map Fc.f, ql.map Fc.f] = B := ⟨_, rfl⟩
  simp only [hB] at HM ⊢
  clear hs hsp hsq hsr hV hI hZ hD hpl hp hq hE hB
  cases B with
  | false =>
    simp only [Bool.false_eq_true, if_false, Bool.false_and] at HM ⊢
    go_enter Tryz.func40, Tryz.ntmps40
    go_wp2_with (first
      | (go_at_call 34; (have hz := HM.out _ (((Ext.refl w).alloc (.cells #[.slice pA pl.length pc] 46)).alloc (.cells #[.slice qA ql.length qc] 46))); (simp only [size_alloc] at hz); (with_reducible refine Calls.mono hz ?_); clear hz; rintro e w2 ⟨rA, rc, rl, rfl, hrv, hra, hx2⟩))
    ((try simp only [Exit.inBlock, Exit.then]); refine bodyPost_ret (results_tmp2 rfl _ _ _) rfl ?_)
    exact ⟨rfl, (((((Ext.refl w).alloc _).alloc _).alloc _).trans hx2).alloc _⟩
  | true =>
    simp only [if_true, Bool.true_and] at HM ⊢
    go_enter Tryz.func40, Tryz.ntmps40
    go_wp2_with (first
      | (go_at_call 34; (have hz := HM.out _ (((Ext.refl w).alloc (.cells #[.slice pA pl.length pc] 46)).alloc (.cells #[.slice qA ql.length qc] 46))); (simp only [size_alloc] at hz); (with_reducible refine Calls.mono hz ?_); clear hz; rintro e w2 ⟨rA, rc, rl, rfl, hrv, hra, hx2⟩; (have hx3 := hx2.alloc (.cells #[.slice rA rl.length rc] 46)); (have hxw := (((Ext.refl w).alloc (.cells #[.slice pA pl.length pc] 46)).alloc (.cells #[.slice qA ql.length qc] 46)).alloc (.cells #[.slice pA pl.length pc, .slice qA ql.length qc] 46)); (have n0 := ((((Ext.refl _).alloc _).alloc _).trans hx3).boxed 0 _ rfl); (have HXW := Lib.hid (hxw.trans hx3)))
      | (go_at_call 70; (have hz := HEQ.out rA rc rl _ hrv (hra.ext ((Ext.refl w2).alloc (.cells #[.slice rA rl.length rc] 46))) HXW.out); (with_reducible refine Calls.mono hz ?_); clear hz; rintro e w4 ⟨rfl, hx4⟩))
    ((try simp only [Exit.inBlock, Exit.then]); refine bodyPost_ret (results_tmp2 rfl _ _ _) rfl ?_)
    exact ⟨rfl, HXW.out.trans hx4⟩
set_option maxRecDepth 100000 in
set_option maxHeartbeats 4000000 in
theorem refIncl_any (p q : Arc) (w : World) (hE : Env w) (hp : ArcV w p) (hq : ArcV w q) {n : Nat} (hs : ∀ r ∈ [p, q], SmL r.fs n) (hn : n * 2 ≤ 1000000) :
    Calls Tryz.prog 41 #[.agg #[p.1], .agg #[q.1]] w fun e w' => e = .returned (.tuple #[.bool (inclV p.fs q.fs), .int .i64 (mErrV [p.fs, q.fs])]) ∧ Ext w w' := by
  obtain ⟨pA, pc, hpf⟩ := hp.form
  obtain ⟨qA, qc, hqf⟩ := hq.form
  obtain ⟨pv, pl⟩ := p
  obtain ⟨qv, ql⟩ := q
  dsimp only at hpf hqf
  subst hpf hqf
  have HM : Hid (∀ W : World, Ext w W → Calls Tryz.prog 35 #[.slice (some ⟨W.heap.size, 0, none⟩) 2 2] (W.alloc (.cells #[.slice pA pl.length pc, .slice qA ql.length qc] 46)) (MrgPost (W.alloc (.cells #[.slice pA pl.length pc, .slice qA ql.length qc] 46)) [pl.map Fc.f, ql.map Fc.f])) := Lib.hid fun W h =>
    refMerge_lit [(.slice pA pl.length pc, pl), (.slice qA ql.length qc, ql)] W (hE.ext h) (fun r hr => by
      simp only [List.mem_cons, List.mem_nil_iff, or_false] at hr
      rcases hr with rfl | rfl
      · exact hp.ext h
      · exact hq.ext h) hs hn (by show 2 ≤ 1000; decide)
  have hsp : SmL (pl.map Fc.f) n := hs (.slice pA pl.length pc, pl) (by simp)
  have hsq : SmL (ql.map Fc.f) n := hs (.slice qA ql.length qc, ql) (by simp)
  have hn2 : n ≤ 1000000 := by omega
  have hsr : SmL (mValV [pl.map Fc.f, ql.map Fc.f]) (n + n) := smL_valV (by simpa using hsp.app hsq)
  have hnn : n + n ≤ 1000000 := by omega
  have hpl : pl.length ≤ n := by have := hsp.len; rwa [List.length_map] at this
  show Calls Tryz.prog 41 #[.agg #[.slice pA pl.length pc], .agg #[.slice qA ql.length qc]] w fun e w' => e = .returned (.tuple #[.bool (inclV (pl.map Fc.f) (ql.map Fc.f)), .int .i64 (mErrV [pl.map Fc.f, ql.map Fc.f])]) ∧ Ext w w'
  obtain ⟨V, hV⟩ : ∃ V, mValV [pl.map Fc.f, ql.map Fc.f] = V := ⟨_, rfl⟩
  have HEQ : Hid (∀ (A : Option Addr) (c : Nat) (l : List Fc) (w' : World), l.map Fc.f = V → ArcV w' (.slice A l.length c, l) → Ext w w' → Calls Tryz.prog 27 #[.agg #[.slice A l.length c], .agg #[.slice pA pl.length pc]] w' fun e w'' => e = .returned (.bool (decide (V = pl.map Fc.f))) ∧ Ext w' w'') := Lib.hid fun A c l w' hl ha hx => by
    rw [← hV] at hl
    have hp' := hp.ext hx
    have hll : l.length ≤ 1000000 := by have := hsr.len; rw [← hl, List.length_map] at this; omega
    have hlk : ∀ x ∈ l, x.f.path.length ≤ 16777216 ∧ x.f.ents.length ≤ 16777216 := fun x hx => hsr.lens hnn x.f (by rw [← hl]; exact List.mem_map.2 ⟨x, hx, rfl⟩)
    have hpk : ∀ x ∈ pl, x.f.path.length ≤ 16777216 ∧ x.f.ents.length ≤ 16777216 := fun x hx => hsp.lens hn2 x.f (List.mem_map.2 ⟨x, hx, rfl⟩)
    have := refEqual_any (.slice A l.length c) (.slice pA pl.length pc) l pl w' ha.row hp'.row ha.rd hp'.rd hlk (by omega)
    rwa [hl, hV] at this
  have hI : inclV (pl.map Fc.f) (ql.map Fc.f) = (okV [pl.map Fc.f, ql.map Fc.f] && decide (V = pl.map Fc.f)) := by unfold inclV; rw [hV]
  rw [hI]
  have hZ : mErrV [pl.map Fc.f, ql.map Fc.f] = if okV [pl.map Fc.f, ql.map Fc.f] = true then 0 else 22 := rfl
  unfold MrgPost at HM
  simp only [hV, hZ] at HM ⊢
  obtain ⟨D, hD⟩ : ∃ D, decide (V = pl.map Fc.f) = D := ⟨_, rfl⟩
  simp only [hD] at HEQ ⊢
  obtain ⟨B, hB⟩ : ∃ B, okV [pl.map Fc.f, ql.map Fc.f] = B := ⟨_, rfl⟩
  simp only [hB] at HM ⊢
  clear hs hsp hsq hsr hV hI hZ hD hpl hp hq hE hB
  cases B with
  | false =>
    simp only [Bool.false_eq_true, if_false, Bool.false_and] at HM ⊢
    go_enter Tryz.func41, Tryz.ntmps41
    go_wp2_with (first
      | (go_at_call 35; (have hz := HM.out _ (((Ext.refl w).alloc (.cells #[.slice pA pl.length pc] 46)).alloc (.cells #[.slice qA ql.length qc] 46))); (simp only [size_alloc] at hz); (with_reducible refine Calls.mono hz ?_); clear hz; rintro e w2 ⟨rA, rc, rl, rfl, hrv, hra, hx2⟩))
    ((try simp only [Exit.inBlock, Exit.then]); refine bodyPost_ret (results_tmp2 rfl _ _ _) rfl ?_)
    exact ⟨rfl, (((((Ext.refl w).alloc _).alloc _).alloc _).trans hx2).alloc _⟩
  | true =>
    simp only [if_true, Bool.true_and] at HM ⊢
    go_enter Tryz.func41, Tryz.ntmps41
    go_wp2_with (first
      | (go_at_call 35; (have hz := HM.out _ (((Ext.refl w).alloc (.cells #[.slice pA pl.length pc] 46)).alloc (.cells #[.slice qA ql.length qc] 46))); (simp only [size_alloc] at hz); (with_reducible refine Calls.mono hz ?_); clear hz; rintro e w2 ⟨rA, rc, rl, rfl, hrv, hra, hx2⟩; (have hx3 := hx2.alloc (.cells #[.slice rA rl.length rc] 46)); (have hxw := (((Ext.refl w).alloc (.cells #[.slice pA pl.length pc] 46)).alloc (.cells #[.slice qA ql.length qc] 46)).alloc (.cells #[.slice pA pl.length pc, .slice qA ql.length qc] 46)); (have n0 := ((((Ext.refl _).alloc _).alloc _).trans hx3).boxed 0 _ rfl); (have HXW := Lib.hid (hxw.trans hx3)))
      | (go_at_call 27; (have hz := HEQ.out rA rc rl _ hrv (hra.ext ((Ext.refl w2).alloc (.cells #[.slice rA rl.length rc] 46))) HXW.out); (with_reducible refine Calls.mono hz ?_); clear hz; rintro e w4 ⟨rfl, hx4⟩))
    ((try simp only [Exit.inBlock, Exit.then]); refine bodyPost_ret (results_tmp2 rfl _ _ _) rfl ?_)
    exact ⟨rfl, HXW.out.trans hx4⟩
end Go.Proofs.YtgecijhgonfldaaGreatDoor
namespace Go.Proofs.YtgecijhgonfldaaGreatDoor
open Go Go.RowKit
set_option linter.unusedVariables false
def largeB (L : List Arc) : Bool := (L.any fun p => decide (5000 < bigL p.fs)) || decide (10 < L.length)
theorem largeB_false {L : List Arc} (h : largeB L = false) : L.length ≤ 10 ∧ ∀ p ∈ L, bigL p.fs ≤ 5000 := by
  unfold largeB at h
  rw [Bool.or_eq_false_iff] at h
  refine ⟨by simpa using h.2, fun p hp => ?_⟩
  have := List.any_eq_false.1 h.1 p hp
  simpa using this
theorem largeB_sm {L : List Arc} (h : largeB L = false) (hw : ∀ p ∈ L, arcWide p) : ∀ p ∈ L, SmL p.fs 5000 := fun p hp => SmL.of_big (hw p hp).2 ((largeB_false h).2 p hp)
set_option maxRecDepth 100000 in
set_option maxHeartbeats 2000000 in
theorem large15_any (u : Value) (L : List Arc) (w : World) (hu : RSl w 1 u L.length (L.map Prod.fst)) (hp : ∀ p ∈ L, ArcV w p) (hw : ∀ p ∈ L, arcWide p) (hn : L.length ≤ reachBytes) :
    Calls Tryz.prog 32 #[u] w fun e w' => e = .returned (.bool (largeB L)) ∧ Ext w w' := by
  obtain ⟨R, hR⟩ : ∃ R, largeB L = R := ⟨_, rfl⟩
  rw [hR]
  obtain ⟨A, c, rfl⟩ : ∃ A c, u = .slice A L.length c := by obtain ⟨_, A, c, e, _⟩ := hu; exact ⟨A, c, e⟩
  have hr0 : (reachBytes : Int) ≤ 9223372036854775807 := by decide
  have HR := Lib.hid hR
  have HV := Lib.hid hu
  have HT : Hid (∀ (k : Nat) (hkl : k < L.length) (w' : World), Ext w w' → Calls Tryz.prog 49 #[.agg #[L[k].1]] w' fun e w'' => e = .returned (.int .i64 (if 5000 < bigL L[k].fs then 1 else 0)) ∧ Ext w' w'') := Lib.hid fun k hkl w' hx => by
    have hm := List.getElem_mem hkl
    have h := (hp _ hm).ext hx
    exact tooLarge_any L[k].1 L[k].2 w' h.row h.rd (hw _ hm).1 (hw _ hm).2
  have HF : Hid (∀ (k : Nat) (hkl : k < L.length), ∃ pA pn pc, L[k].1 = .slice pA pn pc) := Lib.hid fun k hkl => by
    obtain ⟨pA, pc, h⟩ := (hp _ (List.getElem_mem hkl)).form
    exact ⟨pA, _, pc, h⟩
  have hn2 : L.length ≤ 9223372036854775807 := by omega
  clear hu hp hw hR hn hr0
  go_enter Tryz.func32, Tryz.ntmps32
  go_wp2
  go_loopw [7] (fun i wr => ∃ k : Nat, k ≤ L.length ∧ i = .int .i64 k ∧ Hid (∀ j (h : j < L.length), j < k → ¬ 5000 < bigL L[j].fs) ∧ Ext w wr) (fun i _ => L.length - (intOf i).toNat)
  case atStart => exact ⟨0, Nat.zero_le _, rfl, Lib.hid (fun j _ h => by omega), Ext.refl _⟩
  case round =>
    obtain ⟨k, hkk, rfl, hinv, hxr⟩ := hrel
    by_cases hlt : k < L.length
    · have hgk : (L.map Prod.fst)[k]? = some L[k].1 := by rw [List.getElem?_map, List.getElem?_eq_getElem hlt]; rfl
      obtain ⟨ad, e1, hc⟩ := RSl.at1 (HV.out.ext hxr) k _ hgk
      subst e1
      obtain ⟨pA, pn, pc, hpf⟩ := HF.out k hlt
      have HA := Lib.hid (HT.out k hlt (wr.alloc (.cells #[.slice pA pn pc] 46)) (hxr.alloc _))
      rw [hpf] at HA hc
      have hhit : 5000 < bigL L[k].fs → R = true := fun h => by
        rw [← HR.out]
        unfold largeB
        rw [Bool.or_eq_true, List.any_eq_true]
        exact Or.inl ⟨L[k], List.getElem_mem hlt, decide_eq_true h⟩
      have hmiss : ¬ 5000 < bigL L[k].fs → ∀ j (h : j < L.length), j < k + 1 → ¬ 5000 < bigL L[j].fs := fun h j hj h2 => by
        rcases Nat.lt_or_ge j k with h3 | h3
        · exact hinv.out j hj h3
        · have h4 : j = k := by omega
          subst h4
          exact h
      have hi0' : (0 : Int) ≤ (k : Int) := by omega
      have hi1 : (k : Int) < (L.length : Int) := by omega
      have HXR := Lib.hid hxr
      obtain ⟨B, hB⟩ : ∃ B, bigL L[k].fs = B := ⟨_, rfl⟩
      rw [hB] at HA hhit hmiss
      have HLT := Lib.hid hlt
      clear hpf hgk hB hinv hxr
      by_cases hb : 5000 < B
      · have hRt := hhit hb
        subst hRt
        rw [if_pos hb] at HA
        clear hhit hmiss hb
        go_wp2_with (first
          | (go_at_call 49; (have hz := HA.out); (with_reducible refine Calls.mono hz ?_); clear hz; rintro e w2 ⟨rfl, hx2⟩))
        go_ret
        exact ⟨rfl, (HXR.out.alloc _).trans hx2⟩
      · have HMS := Lib.hid (hmiss hb)
        rw [if_neg hb] at HA
        clear hhit hmiss hb
        go_wp2_with (first
          | (go_at_call 49; (have hz := HA.out); (with_reducible refine Calls.mono hz ?_); clear hz; rintro e w2 ⟨rfl, hx2⟩))
        go_roundw
        case rel => exact ⟨k + 1, HLT.out, by go_num, HMS, (HXR.out.alloc _).trans hx2⟩
        case measure => simp [intOf]; omega
    · have hke : k = L.length := by omega
      have hRv : R = decide (10 < L.length) := by
        rw [← HR.out]
        unfold largeB
        have : (L.any fun p => decide (5000 < bigL p.fs)) = false := by
          rw [List.any_eq_false]
          intro p hp
          obtain ⟨j, hj, rfl⟩ := List.mem_iff_getElem.1 hp
          simpa using hinv.out j hj (by omega)
        rw [this, Bool.false_or]
      subst hke
      by_cases h10 : 10 < L.length
      · have h10' : (10 : Int) < (L.length : Int) := by omega
        rw [decide_eq_true h10] at hRv
        subst hRv
        clear hinv h10
        go_wp2
        go_ret
        exact ⟨rfl, hxr⟩
      · have h10' : ¬ (10 : Int) < (L.length : Int) := by omega
        rw [decide_eq_false h10] at hRv
        subst hRv
        clear hinv h10
        go_wp2
        go_ret
        exact ⟨rfl, hxr⟩
end Go.Proofs.YtgecijhgonfldaaGreatDoor
namespace Go.Proofs.YtgecijhgonfldaaGreatDoor
open Go
set_option linter.unusedVariables false
theorem okA_nil : okA [] = true := rfl
theorem semi_facts {a b c : List Fd} (ha : okA a = true) (hb : okA b = true) (hc : okA c = true) :
    mValV [b, a] = mValV [a, b] ∧ mValV [mValV [a, b], c] = mValV [a, b, c] ∧ mValV [a, mValV [b, c]] = mValV [a, b, c] ∧ mValV [a, a] = a ∧ mValV [[], a] = a := by
  have hab := mrg_ok ha hb
  have hbc := mrg_ok hb hc
  rw [(mV_two ha hb).2, (mV_two hb ha).2, (mV_two hb hc).2, (mV_two hab hc).2, (mV_two ha hbc).2, (mV_three ha hb hc).2, (mV_two ha ha).2, (mV_two okA_nil ha).2]
  exact ⟨(mrg_comm ha hb).symm, mrg_left a b c, mrg_right ha hb hc, mrg_self ha, mrg_nil ha⟩
theorem semi_errs {a b c : List Fd} (ha : okA a = true) (hb : okA b = true) (hc : okA c = true) :
    mErrV [a, b] = 0 ∧ mErrV [b, a] = 0 ∧ mErrV [b, c] = 0 ∧ mErrV [mValV [a, b], c] = 0 ∧ mErrV [a, mValV [b, c]] = 0 ∧ mErrV [a, b, c] = 0 ∧ mErrV [a, a] = 0 ∧ mErrV [[], a] = 0 :=
  ⟨(mV_two ha hb).1, (mV_two hb ha).1, (mV_two hb hc).1, (mV_two (okA_valV _) hc).1, (mV_two ha (okA_valV _)).1, (mV_three ha hb hc).1, (mV_two ha ha).1, (mV_two okA_nil ha).1⟩
theorem okV_two {a b : List Fd} : okV [a, b] = true ↔ okA a = true ∧ okA b = true := by unfold okV; simp
theorem mErrV_zero {V : List (List Fd)} : mErrV V = 0 ↔ okV V = true := by
  unfold mErrV
  split <;> simp_all
theorem incl_facts {a b : List Fd} (h : mErrV [a, b] = 0) :
    mErrV [mValV [a, b], a] = 0 ∧ mErrV [mValV [a, b], b] = 0 ∧ mErrV [a, a] = 0 ∧ inclV (mValV [a, b]) a = true ∧ inclV (mValV [a, b]) b = true ∧ inclV a a = true := by
  obtain ⟨ha, hb⟩ := okV_two.1 (mErrV_zero.1 h)
  have hm := mrg_ok ha hb
  rw [(mV_two ha hb).2]
  refine ⟨(mV_two hm ha).1, (mV_two hm hb).1, (mV_two ha ha).1, ?_, ?_, ?_⟩
  · rw [inclV_ok hm ha]; exact decide_eq_true (incl_left ha hb)
  · rw [inclV_ok hm hb]; exact decide_eq_true (incl_right ha hb)
  · rw [inclV_ok ha ha]; exact decide_eq_true (mrg_self ha)
theorem order_facts {a b c : List Fd} (ha : okA a = true) (hb : okA b = true) (hc : okA c = true) :
    ((inclV a b && inclV b a) = decide (a = b)) ∧ (inclV a b = true → inclV b c = true → inclV a c = true) := by
  rw [inclV_ok ha hb, inclV_ok hb ha, inclV_ok hb hc, inclV_ok ha hc]
  refine ⟨?_, fun h1 h2 => decide_eq_true (incl_trans ha hb hc (of_decide_eq_true h1) (of_decide_eq_true h2))⟩
  rw [← Bool.decide_and]
  exact decide_eq_decide.2 (incl_anti ha hb)
theorem find_uni : ∀ {l : List Fc}, (l.map Fc.f).Pairwise (fun a b => a.id ≠ b.id) → ∀ {y : Fc}, y ∈ l → findC l y.f.id = some y
  | [], _, _, h => by simp at h
  | x :: t, hp, y, h => by
    rw [List.map_cons, List.pairwise_cons] at hp
    unfold findC
    by_cases e : x.f.id = y.f.id
    · rcases List.mem_cons.1 h with h | h
      · rw [List.find?_cons_of_pos (by simpa using e), h]
      · exact absurd e (hp.1 y.f (List.mem_map.2 ⟨y, h, rfl⟩))
    · rcases List.mem_cons.1 h with h | h
      · rw [h] at e; exact absurd rfl e
      · rw [List.find?_cons_of_neg (by simpa using e)]
        exact find_uni hp.2 h
theorem okA_uni {l : List Fd} (h : okA l = true) : l.Pairwise fun a b => a.id ≠ b.id := (okL_iff.1 h).2.2
theorem keeps_feed {a b : List Fd} (ha : okA a = true) (hb : okA b = true) {m : List Fc} (hm : m.map Fc.f = mValV [a, b]) {f : Fd} (hf : f ∈ a ++ b) :
    ∃ y ∈ m, findC m f.id = some y ∧ laterF f y.f = laterF y.f y.f := by
  rw [(mV_two ha hb).2] at hm
  have hall := app_ok (okA_all ha) (okA_all hb)
  obtain ⟨g, hg, hid, hj⟩ := find_lub hall hf
  have hg' : g ∈ m.map Fc.f := by rw [hm]; exact hg
  obtain ⟨y, hy, rfl⟩ := List.mem_map.1 hg'
  refine ⟨y, hy, ?_, later_of_join hj⟩
  rw [← hid]
  exact find_uni (by rw [hm]; exact okA_uni (mrg_ok ha hb)) hy
theorem keeps_to {a b : List Fd} (ha : okA a = true) (hb : okA b = true) {g : Fd} (hg : g ∈ mValV [a, b]) {e : Ent} (he : e ∈ entsOf g.id (a ++ b)) : ∃ y ∈ g.ents, e.id = y.id ∧ laterE e y = y := by
  rw [(mV_two ha hb).2] at hg
  exact ents_to (app_ok (okA_all ha) (okA_all hb)) hg he
theorem keeps_from {a b : List Fd} (ha : okA a = true) (hb : okA b = true) {g : Fd} (hg : g ∈ mValV [a, b]) {y : Ent} (hy : y ∈ g.ents) : y ∈ entsOf g.id (a ++ b) := by
  rw [(mV_two ha hb).2] at hg
  exact ents_from (app_ok (okA_all ha) (okA_all hb)) hg hy
end Go.Proofs.YtgecijhgonfldaaGreatDoor
namespace Go.Proofs.YtgecijhgonfldaaGreatDoor
open Go Go.ChangeShapes Go.WideShapes Go.RowKit Go.Deep
set_option linter.unusedVariables false
instance : Inhabited Arc := ⟨(.slice none 0 0, [])⟩
section
variable {H : Type} {enc : TypeId × Value → H} {w : World}
theorem open_arcs {fuel : Nat} {v : Value} {x : DataW H × List MemPlace} (h : DataW.trod enc Tryz.prog w 0 (fun _ => true) true fuel 59 [v] = some x) :
    ∃ L : List Arc, RSl w 1 v L.length (L.map Prod.fst) ∧ (∀ p ∈ L, ArcV w p) ∧ ((∀ n ∈ x.1.weights Tryz.prog 59, n ≤ reachBytes) → L.length ≤ reachBytes ∧ ∀ p ∈ L, arcWide p) := by
  rcases open_slice Tryz.underlying59 h with ⟨hv, hx⟩ | ⟨a, len, cap, m, n, D, Pl, hv, _, hl, hm, hmm, hx, hel⟩
  · injection hv with hv
    subst hv
    exact ⟨[], RSl.nil w 1, by simp, fun _ => ⟨Nat.zero_le _, by simp⟩⟩
  · injection hv with hv
    subst hv
    simp only [if_true] at hmm
    have hmm' := hmm.symm
    subst hmm'
    have hc : Tryz.prog.cellsOf 46 = 1 := by kernel_rfl
    have hby : 1 ≤ Tryz.prog.bytesOf 46 := of_decide_eq_true (by kernel_rfl)
    obtain ⟨E, hE⟩ := choose_lt (α := Arc) (n := len) (p := fun i e => (∀ j, j < 1 → w.cell? ((a.add (i * 1)).add j) = [e.1][j]?) ∧ ArcV w e ∧ ((∀ n ∈ (D i).weights Tryz.prog 46, n ≤ reachBytes) → arcWide e)) (fun i hi => by
      obtain ⟨cs', h1, h2⟩ := hel i (by omega)
      obtain ⟨u, l, rfl, hr, hrd, hw⟩ := open_arc h2
      rw [hc] at h1
      obtain ⟨_, _, hcell⟩ := World.cells?_some h1
      exact ⟨(u, l), hcell, ⟨hr, hrd⟩, hw⟩)
    refine ⟨(List.range len).map E, ?_, fun p hp => ?_, fun hw => ?_⟩
    · have := rsl_of_cells (w := w) (k := 1) (by decide) (a := a) (len := len) (cap := cap) (fun i => [(E i).1]) hl hm (fun i hi => ⟨rfl, (hE i hi).1⟩)
      rw [List.length_map, List.length_range, List.map_map]
      have e : ((List.range len).map fun i => [(E i).1]).flatten = (List.range len).map (Prod.fst ∘ E) := by
        generalize List.range len = r
        induction r with
        | nil => rfl
        | cons i t ih => simp [ih]
      rw [← e]
      exact this
    · obtain ⟨i, hi, rfl⟩ := List.mem_map.1 hp
      exact (hE i (List.mem_range.1 hi)).2.1
    · rw [hx] at hw
      simp only [DataW.weights, Tryz.underlying59, List.length_map, List.length_range] at hw
      refine ⟨?_, fun e he => ?_⟩
      · have h1 := hw _ (List.mem_cons_self ..)
        rw [List.length_map, List.length_range]
        have h2 : len + (cap - len) ≤ (len + (cap - len)) * Tryz.prog.bytesOf 46 := Nat.le_mul_of_pos_right _ hby
        omega
      · obtain ⟨i, hi, rfl⟩ := List.mem_map.1 he
        have hi := List.mem_range.1 hi
        exact (hE i hi).2.2 fun n hn => hw n (List.mem_cons_of_mem _ (List.mem_append_left _ (mem_weightsAll (List.mem_map.2 ⟨i, List.mem_range.2 hi, rfl⟩) hn)))
end
end Go.Proofs.YtgecijhgonfldaaGreatDoor
namespace Go.Proofs.YtgecijhgonfldaaGreatDoor
open Go Go.RowKit
set_option linter.unusedVariables false
def wF (s : ByteArray) : Fd := ⟨[], ⟨#[102]⟩, noS, noS, 0, [⟨s, noS, noS, noS, 0⟩]⟩
def wG : Fd := ⟨[], ⟨#[102]⟩, noS, noS, 0, [⟨⟨#[97]⟩, noS, noS, noS, 0⟩, ⟨⟨#[98]⟩, noS, noS, noS, 0⟩]⟩
theorem alive15_e : mErrV [[wF ⟨#[97]⟩], [wF ⟨#[98]⟩]] = 0 := by kernel_rfl
theorem alive15_g : joinF (wF ⟨#[97]⟩) (wF ⟨#[98]⟩) = wG := by
  unfold joinF laterF
  split <;> kernel_rfl
theorem alive15_v : mValV [[wF ⟨#[97]⟩], [wF ⟨#[98]⟩]] = [wG] := by
  unfold mValV
  rw [if_pos (mErrV_zero.1 alive15_e), show List.flatten [[wF ⟨#[97]⟩], [wF ⟨#[98]⟩]] = [wF ⟨#[97]⟩, wF ⟨#[98]⟩] from rfl, canonF_two (a := wF ⟨#[97]⟩) (b := wF ⟨#[98]⟩) rfl, alive15_g]
theorem alive15_i : inclV [wG] [wF ⟨#[98]⟩] = true := by rw [← alive15_v]; exact (incl_facts alive15_e).2.2.2.2.1
theorem alive15_j : mErrV [[wG], [wF ⟨#[98]⟩]] = 0 := by rw [← alive15_v]; exact (incl_facts alive15_e).2.1
theorem alive15_z : mErrV [[wF noS]] = 22 := by kernel_rfl
theorem wF_sm (s : ByteArray) (h : s.size ≤ 1) : SmL [wF s] 10 := by
  refine ⟨by show 1 ≤ 10; decide, by show 1 + 0 ≤ 10; decide, fun f hf => ?_⟩
  rw [List.mem_singleton.1 hf]
  refine ⟨⟨⟨by show i64ok 0; unfold i64ok; decide, by show 0 + 0 + 1 + 0 + 0 ≤ 16777216; decide⟩, by show 0 ≤ 1000000; decide⟩, fun e he => ?_⟩
  rw [List.mem_singleton.1 he]
  exact ⟨by show i64ok 0; unfold i64ok; decide, by show s.size + 0 + 0 + 0 ≤ 16777216; omega⟩
theorem wG_sm : SmL [wG] 10 := by
  refine ⟨by show 1 ≤ 10; decide, by show 2 + 0 ≤ 10; decide, fun f hf => ?_⟩
  rw [List.mem_singleton.1 hf]
  refine ⟨⟨⟨by show i64ok 0; unfold i64ok; decide, by show 0 + 0 + 1 + 0 + 0 ≤ 16777216; decide⟩, by show 0 ≤ 1000000; decide⟩, fun e he => ?_⟩
  have he' : e = ⟨⟨#[97]⟩, noS, noS, noS, 0⟩ ∨ e = ⟨⟨#[98]⟩, noS, noS, noS, 0⟩ := by simpa [wG] using he
  rcases he' with rfl | rfl
  · exact ⟨by show i64ok 0; unfold i64ok; decide, by show 1 + 0 + 0 + 0 ≤ 16777216; decide⟩
  · exact ⟨by show i64ok 0; unfold i64ok; decide, by show 1 + 0 + 0 + 0 ≤ 16777216; decide⟩
abbrev yW (b : Nat) (s : ByteArray) : Fc := ⟨.slice none 0 0, .slice (some ⟨b, 0, none⟩) 1 1, wF s⟩
theorem with_any (s : ByteArray) (w : World) :
    Calls Tryz.prog 65 #[.string s] w fun e w' => e = .returned (.agg #[.slice (some ⟨w.heap.size + 1 + 1, 0, none⟩) 1 1]) ∧ ArcV w' (.slice (some ⟨w.heap.size + 1 + 1, 0, none⟩) 1 1, [yW (w.heap.size + 1) s]) ∧ Ext w w' := by
  obtain ⟨W3, hW3⟩ : ∃ W3, ((w.alloc (.cells #[.slice none 0 0] 46)).alloc (.cells (eCells ⟨s, noS, noS, noS, 0⟩).toArray 23)).alloc (.cells (cellsC (yW (w.heap.size + 1) s)).toArray 35) = W3 := ⟨_, rfl⟩
  have hx3 : Ext w W3 := by rw [← hW3]; exact (((Ext.refl _).alloc _).alloc _).alloc _
  have h0 : W3.heap[w.heap.size]? = some (.cells #[.slice none 0 0] 46) := by rw [← hW3]; exact (((Ext.refl _).alloc _).alloc _).heap (heap_alloc_new w _)
  have h1 : W3.heap[w.heap.size + 1]? = some (.cells (eCells ⟨s, noS, noS, noS, 0⟩).toArray 23) := by rw [← hW3]; exact ((Ext.refl _).alloc _).heap (heap2_new w _ _)
  have h2 : W3.heap[w.heap.size + 1 + 1]? = some (.cells (cellsC (yW (w.heap.size + 1) s)).toArray 35) := by rw [← hW3]; exact heap_alloc3_new w _ _ _
  have hrow : RFcs W3 (.slice (some ⟨w.heap.size + 1 + 1, 0, none⟩) 1 1) [yW (w.heap.size + 1) s] := rsl_block (e := 35) (fr := (0, 0)) (size := 6) (n := 1) (cs := cellsC (yW (w.heap.size + 1) s)) h2 rfl (by decide)
  have hrd : RdC W3 (yW (w.heap.size + 1) s) := ⟨RSl.nil _ 1, rsl_block (e := 23) (fr := (0, 0)) (size := 5) (n := 1) (cs := eCells ⟨s, noS, noS, noS, 0⟩) h1 rfl (by decide)⟩
  have hfin : ArcV (W3.setRow w.heap.size #[.slice (some ⟨w.heap.size + 1 + 1, 0, none⟩) 1 1]) (.slice (some ⟨w.heap.size + 1 + 1, 0, none⟩) 1 1, [yW (w.heap.size + 1) s]) :=
    ⟨RSl.grown hrow (setRow_grown _ _ _) (Or.inr fun e => by have e : some (w.heap.size + 1 + 1) = some w.heap.size := e; injection e with e; omega), fun x hx => by
      rw [List.mem_singleton.1 hx]
      exact hrd.grown (setRow_grown _ _ _) ⟨Or.inl rfl, Or.inr fun e => by have e : some (w.heap.size + 1) = some w.heap.size := e; injection e with e; omega⟩⟩
  have HF := Lib.hid (show ArcV (W3.setRow w.heap.size #[.slice (some ⟨w.heap.size + 1 + 1, 0, none⟩) 1 1]) (.slice (some ⟨w.heap.size + 1 + 1, 0, none⟩) 1 1, [yW (w.heap.size + 1) s]) ∧ Ext w (W3.setRow w.heap.size #[.slice (some ⟨w.heap.size + 1 + 1, 0, none⟩) 1 1]) from ⟨hfin, hx3.setRow (Nat.le_refl _) _⟩)
  unfold eCells cellsC fCells yW wF noS at hW3
  dsimp only at hW3
  clear hx3 h1 h2 hrow hrd hfin
  go_enter Tryz.func65, Tryz.ntmps65
  go_wp2_with (first
    | (refine wpList_store_row rfl 46 (.tmp 2) (.tmp 8) rfl w.heap.size _ rfl rfl _ _ h0 size_arc rfl oneArc ?_))
  ((try simp only [Exit.inBlock, Exit.then]); refine bodyPost_ret (results_cell_row rfl _ _ _ _ _ _ _ rfl (setRow_heap _ _ _ _ _ _ h0) Tryz.underlying46 rfl size_arc) rfl ?_)
  exact ⟨rfl, HF.out.1, HF.out.2⟩
theorem one_of_map {l : List Fc} {f : Fd} (h : l.map Fc.f = [f]) : ∃ y, l = [y] ∧ y.f = f := by
  match l, h with
  | [y], h => exact ⟨y, rfl, by simpa using h⟩
  | [], h => simp at h
  | _ :: _ :: _, h => simp at h
theorem alive15_merge (P Q : Arc) (w : World) (hE : Env w) (hP : ArcV w P) (hQ : ArcV w Q) (h1 : P.fs = [wF ⟨#[97]⟩]) (h2 : Q.fs = [wF ⟨#[98]⟩]) :
    Calls Tryz.prog 34 #[.slice (some ⟨w.heap.size, 0, none⟩) 2 2] (w.alloc (.cells #[P.1, Q.1] 46)) fun e w' => ∃ (A : Option Addr) (c : Nat) (y : Fc), e = .returned (.tuple #[.agg #[.slice A 1 c], .int .i64 0]) ∧ y.f = wG ∧ ArcV w' (.slice A 1 c, [y]) ∧ Ext (w.alloc (.cells #[P.1, Q.1] 46)) w' := by
  have h := merge_lit [P, Q] w hE (fun z hz => by
    simp only [List.mem_cons, List.mem_nil_iff, or_false] at hz
    rcases hz with rfl | rfl
    · exact hP
    · exact hQ) (n := 10) (fun z hz => by
    simp only [List.mem_cons, List.mem_nil_iff, or_false] at hz
    rcases hz with rfl | rfl
    · rw [h1]; exact wF_sm _ (by decide)
    · rw [h2]; exact wF_sm _ (by decide)) (by show 10 * 2 ≤ 1000000; decide) (by show 2 ≤ 1000; decide)
  rw [show List.map Arc.fs [P, Q] = [[wF ⟨#[97]⟩], [wF ⟨#[98]⟩]] by rw [← h1, ← h2]; rfl] at h
  refine Calls.mono h ?_
  rintro e w' ⟨A, c, l, rfl, hl, ha, hx⟩
  rw [alive15_v] at hl
  obtain ⟨y, rfl, hy⟩ := one_of_map hl
  exact ⟨A, c, y, by rw [alive15_e]; rfl, hy, ha, hx⟩
theorem alive15_bad (P : Arc) (w : World) (hE : Env w) (hP : ArcV w P) (h1 : P.fs = [wF noS]) :
    Calls Tryz.prog 34 #[.slice (some ⟨w.heap.size, 0, none⟩) 1 1] (w.alloc (.cells #[P.1] 46)) fun e w' => ∃ (A : Option Addr) (n c : Nat), e = .returned (.tuple #[.agg #[.slice A n c], .int .i64 22]) ∧ Ext (w.alloc (.cells #[P.1] 46)) w' := by
  have h := merge_lit [P] w hE (fun z hz => by rw [List.mem_singleton.1 hz]; exact hP) (n := 10) (fun z hz => by rw [List.mem_singleton.1 hz, h1]; exact wF_sm _ (by decide)) (by show 10 * 1 ≤ 1000000; decide) (by show 1 ≤ 1000; decide)
  rw [show List.map Arc.fs [P] = [[wF noS]] by rw [← h1]; rfl] at h
  refine Calls.mono h ?_
  rintro e w' ⟨A, c, l, rfl, hl, ha, hx⟩
  exact ⟨A, _, c, by rw [alive15_z], hx⟩
theorem alive15_find (A : Option Addr) (c : Nat) (y : Fc) (w : World) (hy : y.f = wG) (ha : ArcV w (.slice A 1 c, [y])) :
    Calls Tryz.prog 42 #[.agg #[.slice A 1 c], .string ⟨#[102]⟩] w fun e w' => ∃ (pA : Option Addr) (pn pc : Nat) (ad : Addr) (c2 : Nat), e = .returned (.tuple #[.agg #[.slice pA pn pc, .string ⟨#[102]⟩, .string ⟨#[]⟩, .string ⟨#[]⟩, .int .i64 0, .slice (some ad) 2 c2], .bool true]) ∧ w'.cell? ad = some (.string ⟨#[97]⟩) ∧ w'.cell? ⟨ad.block, ad.off + 5, none⟩ = some (.string ⟨#[98]⟩) ∧ Ext w w' := by
  have hfc : findC [y] ⟨#[102]⟩ = some y := by
    unfold findC
    rw [List.find?_cons_of_pos (by rw [hy]; rfl)]
  have h := find_any (.slice A 1 c) [y] ⟨#[102]⟩ w ha.row ha.rd (fun x hx => by rw [List.mem_singleton.1 hx, hy]; exact ⟨by show 0 ≤ 16777216; decide, by show 2 ≤ 16777216; decide⟩) (by show 1 ≤ 16777216; decide)
  rw [hfc] at h
  refine Calls.mono h ?_
  rintro e w' ⟨z, rfl, hz, hrd, -, hx⟩
  have hzg : z.f = wG := by rw [hz, foundF_some hfc, hy]
  obtain ⟨zp, zes, zf⟩ := z
  dsimp only at hzg
  subst hzg
  obtain ⟨pA, pc, hp, -, -⟩ := hrd.1.form
  obtain ⟨ad, c2, he, ha0⟩ := hrd.2.at (k := 0) (by show 0 < 2; decide)
  obtain ⟨ad', c2', he', ha1⟩ := hrd.2.at (k := 1) (by show 1 < 2; decide)
  dsimp only at hp he he'
  subst hp
  rw [he] at he'
  injection he' with e1 _ _
  injection e1 with e1
  subst e1
  subst he
  have e0 : ad.add (0 * 5) = ad := by rw [Nat.zero_mul]; exact add_zero ad
  rw [e0] at ha0
  exact ⟨pA, _, pc, ad, c2, rfl, ha0.c0, ha1.c0, hx⟩
theorem alive15_incl (A B : Option Addr) (c d : Nat) (y z : Fc) (w : World) (hE : Env w) (hy : y.f = wG) (hz : z.f = wF ⟨#[98]⟩) (ha : ArcV w (.slice A 1 c, [y])) (hb : ArcV w (.slice B 1 d, [z])) :
    Calls Tryz.prog 40 #[.agg #[.slice A 1 c], .agg #[.slice B 1 d]] w fun e w' => e = .returned (.tuple #[.bool true, .int .i64 0]) ∧ Ext w w' := by
  have h := incl_any (.slice A 1 c, [y]) (.slice B 1 d, [z]) w hE ha hb (n := 10) (fun r hr => by
    simp only [List.mem_cons, List.mem_nil_iff, or_false] at hr
    rcases hr with rfl | rfl
    · show SmL [y.f] 10; rw [hy]; exact wG_sm
    · show SmL [z.f] 10; rw [hz]; exact wF_sm _ (by decide)) (by decide)
  rw [show Arc.fs (.slice A 1 c, [y]) = [wG] by rw [← hy]; rfl, show Arc.fs (.slice B 1 d, [z]) = [wF ⟨#[98]⟩] by rw [← hz]; rfl, alive15_i, alive15_j] at h
  exact h
set_option maxRecDepth 100000 in
set_option maxHeartbeats 8000000 in
theorem alive15_any (w : World) (hE : Env w) : Calls Tryz.prog 33 #[] w fun x w' => x = .returned (.bool true) ∧ Ext w w' := by
  have HW := Lib.hid with_any
  have HEW := Lib.hid hE
  clear hE
  go_enter Tryz.func33, Tryz.ntmps33
  go_wp2_with (first
    | (go_at_call 65; (have hz := HW.out ⟨#[97]⟩ w); (with_reducible refine Calls.mono hz ?_); clear hz; rintro e w1 ⟨rfl, ha1, hx1⟩)
    | (go_at_call 65; (have hz := HW.out ⟨#[98]⟩ w1); (with_reducible refine Calls.mono hz ?_); clear hz; rintro e w2 ⟨rfl, ha2, hx2⟩)
    | (go_at_call 34; (have hz := alive15_merge _ _ w2 (HEW.out.ext (hx1.trans hx2)) (ha1.ext hx2) ha2 rfl rfl); (with_reducible refine Calls.mono hz ?_); clear hz; rintro e w3 ⟨A, c, y, rfl, hy, hay, hx3⟩; clear ha1 ha2; (have HXA := Lib.hid (((hx1.trans hx2).alloc _).trans hx3)); (have hay2 := hay.ext ((Ext.refl w3).alloc (.cells #[.slice A 1 c] 46))); (have hw3 := HXA.out.alloc (.cells #[.slice A 1 c] 46)))
    | (go_at_call 42; (have hz := alive15_find A c y _ hy hay2); (with_reducible refine Calls.mono hz ?_); clear hz; rintro e w4 ⟨pA, pn, pc, ad, c2, rfl, k1, k2, hx4⟩))
  have hbx := (Ext.refl w4).alloc (.cells #[.slice pA pn pc, .string ⟨#[102]⟩, .string ⟨#[]⟩, .string ⟨#[]⟩, .int .i64 0, .slice (some ad) 2 c2] 35)
  have n1 := hbx.cell (hx4.boxed 0 (.slice A 1 c) rfl)
  have hay5 := hay2.ext (hx4.trans hbx)
  have HX5 := Lib.hid ((hw3.trans hx4).trans hbx)
  have g5 := (Ext.refl (w4.alloc (.cells #[.slice pA pn pc, .string ⟨#[102]⟩, .string ⟨#[]⟩, .string ⟨#[]⟩, .int .i64 0, .slice (some ad) 2 c2] 35))).boxed 5 _ rfl
  have k1' := hbx.cell k1
  have k2' := hbx.cell k2
  obtain ⟨W5, hW5⟩ : ∃ W5, w4.alloc (.cells #[.slice pA pn pc, .string ⟨#[102]⟩, .string ⟨#[]⟩, .string ⟨#[]⟩, .int .i64 0, .slice (some ad) 2 c2] 35) = W5 := ⟨_, rfl⟩
  rw [hW5] at n1 hay5 HX5 g5 k1' k2' ⊢
  clear hW5 hbx k1 k2 hx4 hay2 hw3 hay hx1 hx2 hx3
  refine wp_region_any (by kernel_rfl) ?_
  change wpAny _ _ _ _ _ _ _ (World.drew _)
  have hxd := (Ext.refl W5).drew
  refine wpAny_load (i := 0) (v := .agg #[.slice A 1 c]) (fun w' => Ext W5 w') 7 rfl (by kernel_rfl) (fun _ _ _ h => h) (Or.inl ⟨by rfl, fun w' hS => by have hq := Ext.cell hS n1; go_simp⟩) hxd ?_
  refine wpAnyT_step (i := 1) rfl (by kernel_rfl) (fun K hK => ?_)
  go_simp
  go_at_call 65
  have hz := HW.out ⟨#[98]⟩ W5.drew
  rw [show W5.drew.heap.size = W5.heap.size from rfl] at hz
  with_reducible refine Calls.mono hz ?_
  clear hz
  rintro e w6 ⟨rfl, ha6, hx6⟩
  have hx65 := hxd.trans hx6
  refine hK _ _ hx65 ?_
  clear hK K
  refine wpAnyT_step (i := 2) rfl (by kernel_rfl) (fun K hK => ?_)
  go_simp
  go_at_call 40
  have hz := alive15_incl A _ c 1 y _ w6 (HEW.out.ext (HX5.out.trans hx65)) hy rfl (hay5.ext hx65) ha6
  with_reducible refine Calls.mono hz ?_
  clear hz
  rintro e w7 ⟨rfl, hx7⟩
  have hx75 := hx65.trans hx7
  refine hK _ _ hx75 ?_
  clear hK K
  refine wpAnyT_load (i := 3) (v := .tuple #[.bool true, .int .i64 0]) rfl (by kernel_rfl) (fun _ _ _ h => h) (Or.inl ⟨by rfl, fun w' hS => by go_simp⟩) hx75 ?_
  refine wpAnyT_load (i := 4) (v := .bool true) rfl (by kernel_rfl) (fun _ _ _ h => h) (Or.inl ⟨by rfl, fun w' hS => by go_simp⟩) hx75 ?_
  refine wpAnyT_load (i := 5) (v := .int .i64 0) rfl (by kernel_rfl) (fun _ _ _ h => h) (Or.inl ⟨by rfl, fun w' hS => by go_simp⟩) hx75 ?_
  refine wpAnyT_seqF 7 [] (AtIx.cons rfl AtIx.nil) [6] (AtIx.cons rfl AtIx.nil) rfl (by kernel_rfl) ?_
  refine wpListS_step (fun K hK => ?_)
  go_simp
  refine hK _ _ hx75 ?_
  clear hK K
  refine wpListS_nil ?_
  have g5' := hx75.cell g5
  have l1 := hx75.cell k1'
  have l2 := hx75.cell k2'
  have HX7 := Lib.hid (HX5.out.trans hx75)
  clear g5 k1' k2' hx75 hx7 hx65 hx6 hxd ha6 n1
  go_wp2_with (first
    | (go_at_call 65; (have hz := HW.out ⟨#[]⟩ w7); (with_reducible refine Calls.mono hz ?_); clear hz; rintro e w8 ⟨rfl, ha8, hx8⟩)
    | (go_at_call 34; (have hz := alive15_bad _ w8 (HEW.out.ext (HX7.out.trans hx8)) ha8 rfl); (with_reducible refine Calls.mono hz ?_); clear hz; rintro e w9 ⟨zA, zn, zc, rfl, hx9⟩; (have hxa := (((Ext.refl w8).alloc _).trans hx9).alloc (.cells #[.slice zA zn zc] 46)); (have hxb := hx8.trans hxa); (have g5 := hxb.cell g5'); (have j1 := hxb.cell l1); (have j2 := hxb.cell l2)))
  go_ret
  exact ⟨rfl, HX7.out.trans hxb⟩
end Go.Proofs.YtgecijhgonfldaaGreatDoor
