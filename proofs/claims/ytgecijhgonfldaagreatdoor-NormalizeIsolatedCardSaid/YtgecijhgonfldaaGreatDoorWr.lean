/- Memory that may be written: rows whose cells are there, open, and behind a bound. No walk. -/
import Derived.Test.YtgecijhgonfldaaGreatDoorM33
import Derived.Deep.AppendLies
namespace Go.Proofs.YtgecijhgonfldaaGreatDoor
open Go Go.RowKit
set_option linter.unusedVariables false

/-- the first m cells of the slice's memory are there, may be written, and lie in a block from B on -/
def WrV (w : World) (B : Nat) (v : Value) (m : Nat) : Prop := ∀ j, j < m → ∃ (ad : Addr) (n c : Nat) (u : Value), v = .slice (some ad) n c ∧ B ≤ ad.block ∧ w.cell? (ad.add j) = some u ∧ w.frozen? (ad.add j) = false
theorem WrV.zero (w : World) (B : Nat) (v : Value) : WrV w B v 0 := fun j h => absurd h (Nat.not_lt_zero _)
theorem WrV.mono {w : World} {B B' : Nat} {v : Value} {m : Nat} (h : WrV w B v m) (hB : B' ≤ B) : WrV w B' v m := fun j hj =>
  let ⟨ad, n, c, u, e, h1, h2, h3⟩ := h j hj; ⟨ad, n, c, u, e, Nat.le_trans hB h1, h2, h3⟩
theorem WrV.ext {a b : World} {B : Nat} {v : Value} {m : Nat} (h : WrV a B v m) (hx : Ext a b) : WrV b B v m := fun j hj =>
  let ⟨ad, n, c, u, e, h1, h2, h3⟩ := h j hj
  ⟨ad, n, c, u, e, h1, hx.cell h2, (Below.frozen hx (World.block_lt_of_cell? a _ h2)).trans h3⟩
theorem WrV.grown {a b : World} {B : Nat} {v : Value} {m : Nat} {r : Option Nat} (h : WrV a B v m) (hg : a.grownBy b r) (hv : m = 0 ∨ v.ownBlock ≠ r) : WrV b B v m := fun j hj => by
  obtain ⟨ad, n, c, u, rfl, h1, h2, h3⟩ := h j hj
  have hlt := World.block_lt_of_cell? a _ h2
  have hne : some (ad.add j).block ≠ r := by
    rw [block_of_add]
    rcases hv with hv | hv
    · omega
    · exact hv
  exact ⟨ad, n, c, u, rfl, h1, (hg.cell_far _ hlt hne).trans h2, (hg.frozen_far _ hlt hne).trans h3⟩
theorem WrV.setCell {w : World} {B : Nat} {v : Value} {m : Nat} (h : WrV w B v m) (p : Addr) (x : Value) : WrV (w.setCell p x) B v m := fun j hj => by
  obtain ⟨ad, n, c, u, rfl, h1, h2, h3⟩ := h j hj
  by_cases e : p = ad.add j
  · subst e
    exact ⟨ad, n, c, x, rfl, h1, World.cell?_setCell_same _ _ _ h2, by rw [World.frozen?_setCell]; exact h3⟩
  · exact ⟨ad, n, c, u, rfl, h1, (World.cell?_setCell_other _ _ _ _ e).trans h2, by rw [World.frozen?_setCell]; exact h3⟩
theorem WrV.setS : ∀ (l : List (Addr × ByteArray)) {w : World} {B : Nat} {v : Value} {m : Nat}, WrV w B v m → WrV (setS w l) B v m
  | [], _, _, _, _, h => h
  | p :: t, _, _, _, _, h => WrV.setS t (h.setCell p.1 _)
theorem WrV.own {w : World} {B : Nat} {e : TypeId} {size n : Nat} {v : Value} {xs : List Value} (h : w.ownsRow B e size v n xs) : WrV w B v (n * size) := fun j hj => by
  have hn : 0 < n := Nat.pos_of_ne_zero fun h0 => by rw [h0, Nat.zero_mul] at hj; exact Nat.not_lt_zero _ hj
  obtain ⟨g, cap, rfl, hb, _⟩ := World.ownsRow.form h hn
  have hadd : (⟨g, 0, none⟩ : Addr).add j = ⟨g, j, none⟩ := by unfold Addr.add; split <;> simp_all
  have hl : j < xs.length := by rw [h.1]; exact hj
  exact ⟨⟨g, 0, none⟩, n, cap, xs[j], rfl, hb, by rw [hadd, h.cellAt j hj]; exact List.getElem?_eq_getElem hl, by rw [hadd]; exact h.frozenAt j⟩
/-- a feed whose path and entries may be written -/
def WcF (w : World) (B : Nat) (y : Fc) : Prop := WrV w B y.p y.f.path.length ∧ WrV w B y.es (y.f.ents.length * 5)
theorem WcF.ext {a b : World} {B : Nat} {y : Fc} (h : WcF a B y) (hx : Ext a b) : WcF b B y := ⟨h.1.ext hx, h.2.ext hx⟩
theorem WcF.mono {w : World} {B B' : Nat} {y : Fc} (h : WcF w B y) (hB : B' ≤ B) : WcF w B' y := ⟨h.1.mono hB, h.2.mono hB⟩
theorem away_len {α : Type} {l : List α} {P : Prop} (h : l = [] ∨ P) : l.length = 0 ∨ P := h.imp (fun e => by rw [e]; rfl) fun e => e
theorem away_len5 {α : Type} {l : List α} {P : Prop} (h : l = [] ∨ P) : l.length * 5 = 0 ∨ P := h.imp (fun e => by rw [e]; rfl) fun e => e
theorem WcF.grown {a b : World} {B : Nat} {y : Fc} {r : Option Nat} (h : WcF a B y) (hg : a.grownBy b r) (ha : awayC y r) : WcF b B y := ⟨h.1.grown hg (away_len ha.1), h.2.grown hg (away_len5 ha.2)⟩
end Go.Proofs.YtgecijhgonfldaaGreatDoor
