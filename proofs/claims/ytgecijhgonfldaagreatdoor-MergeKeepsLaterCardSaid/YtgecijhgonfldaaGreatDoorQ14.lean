/- Parts of the proof: contracts and plain laws that the statement needs. -/
import Derived.Shelf.SlSortCmp.InsertionK
import Derived.Shelf.SlSortCmp.SiftDownK
import Derived.Shelf.SlSortCmp.HeapSortK
import Derived.Shelf.SlSortCmp.MedianK
import Derived.Shelf.SlSortCmp.PivotK
import Derived.Shelf.SlSortCmp.ReverseRangeK
import Derived.Shelf.SlSortCmp.PartialInsertionK
import Derived.Shelf.SlSortCmp.PartitionEqualK
import Derived.Shelf.SlSortCmp.PartitionK
import Derived.Shelf.SlSortCmp.PdqK
import Derived.Shelf.SlSortCmp.WholeK
import Derived.Ground.SlsfProg
import Derived.Shelf.SlSortCmp.NoneTotal
import Derived.Test.YtgecijhgonfldaaGreatDoorQ00
import Derived.Test.YtgecijhgonfldaaGreatDoorQ13
namespace Go.Proofs
open Go.Shelf
def Tryz.laysSlF06_f60_ren : Go.Shelf.Ren := ⟨fun | 6 => 60 | 15 => 88 | 14 => 87 | 28 => 122 | 29 => 123 | 20 => 114 | 21 => 115 | 22 => 116 | 23 => 117 | 24 => 118 | 25 => 119 | 26 => 120 | 27 => 121 | 46 => 150 | 47 => 151 | 48 => 152 | 49 => 153 | 50 => 154 | 57 => 175 | n => n, fun | 22 => 37 | 24 => 35 | 25 => 92 | 3 => 3 | 39 => 120 | 0 => 0 | 53 => 160 | 55 => 162 | 4 => 4 | 46 => 154 | 45 => 153 | 50 => 115 | 5 => 5 | 9 => 9 | 66 => 186 | 70 => 190 | 76 => 212 | 77 => 105 | n => n, fun | n => n⟩
theorem Tryz.laysSlF06_f60 : Go.Proofs.SlLaysF0.n6 Tryz.prog Tryz.laysSlF06_f60_ren := {
  mixed := by kernel_rfl
  f6 := ⟨Tryz.f60.name, by decide, Tryz.func60.trans (congrArg some (by kernel_rfl))⟩
  f14 := ⟨Tryz.f87.name, by decide, Tryz.func87.trans (congrArg some (by kernel_rfl))⟩
  f15 := Tryz.func88.trans (congrArg some (by kernel_rfl))
  f20 := ⟨Tryz.f114.name, by decide, Tryz.func114.trans (congrArg some (by kernel_rfl))⟩
  f21 := ⟨Tryz.f115.name, by decide, Tryz.func115.trans (congrArg some (by kernel_rfl))⟩
  f22 := ⟨Tryz.f116.name, by decide, Tryz.func116.trans (congrArg some (by kernel_rfl))⟩
  f23 := ⟨Tryz.f117.name, by decide, Tryz.func117.trans (congrArg some (by kernel_rfl))⟩
  f24 := ⟨Tryz.f118.name, by decide, Tryz.func118.trans (congrArg some (by kernel_rfl))⟩
  f25 := ⟨Tryz.f119.name, by decide, Tryz.func119.trans (congrArg some (by kernel_rfl))⟩
  f26 := ⟨Tryz.f120.name, by decide, Tryz.func120.trans (congrArg some (by kernel_rfl))⟩
  f27 := ⟨Tryz.f121.name, by decide, Tryz.func121.trans (congrArg some (by kernel_rfl))⟩
  f28 := Tryz.func122.trans (congrArg some (by kernel_rfl))
  f29 := Tryz.func123.trans (congrArg some (by kernel_rfl))
  f46 := ⟨Tryz.f150.name, by decide, Tryz.func150.trans (congrArg some (by kernel_rfl))⟩
  f47 := Tryz.func151.trans (congrArg some (by kernel_rfl))
  f48 := Tryz.func152.trans (congrArg some (by kernel_rfl))
  f49 := ⟨Tryz.f153.name, by decide, Tryz.func153.trans (congrArg some (by kernel_rfl))⟩
  f50 := ⟨Tryz.f154.name, by decide, Tryz.func154.trans (congrArg some (by kernel_rfl))⟩
  f57 := ⟨Tryz.f175.name, by decide, Tryz.func175.trans (congrArg some (by kernel_rfl))⟩
  t0 := Tryz.underlying0
  a0 := Tryz.isAgg0
  z0 := Tryz.sizeOf0
  v0 := Tryz.zeroValue0
  t3 := Tryz.underlying3
  a3 := Tryz.isAgg3
  z3 := Tryz.sizeOf3
  v3 := Tryz.zeroValue3
  t4 := Tryz.underlying4
  a4 := Tryz.isAgg4
  z4 := Tryz.sizeOf4
  v4 := Tryz.zeroValue4
  t5 := Tryz.underlying5
  a5 := Tryz.isAgg5
  z5 := Tryz.sizeOf5
  v5 := Tryz.zeroValue5
  t9 := Tryz.underlying9
  a9 := Tryz.isAgg9
  z9 := Tryz.sizeOf9
  v9 := Tryz.zeroValue9
  t22 := Tryz.underlying37
  a22 := Tryz.isAgg37
  z22 := Tryz.sizeOf37
  v22 := Tryz.zeroValue37
  t25 := Tryz.underlying92
  a25 := Tryz.isAgg92
  z25 := Tryz.sizeOf92
  v25 := Tryz.zeroValue92
  t39 := Tryz.underlying120
  a39 := Tryz.isAgg120
  z39 := Tryz.sizeOf120
  v39 := Tryz.zeroValue120
  t45 := Tryz.underlying153
  a45 := Tryz.isAgg153
  z45 := Tryz.sizeOf153
  v45 := Tryz.zeroValue153
  t46 := Tryz.underlying154
  a46 := Tryz.isAgg154
  z46 := Tryz.sizeOf154
  v46 := Tryz.zeroValue154
  t50 := Tryz.underlying115
  a50 := Tryz.isAgg115
  z50 := Tryz.sizeOf115
  v50 := Tryz.zeroValue115
  t53 := Tryz.underlying160
  a53 := Tryz.isAgg160
  z53 := Tryz.sizeOf160
  v53 := Tryz.zeroValue160
  t55 := Tryz.underlying162
  a55 := Tryz.isAgg162
  z55 := Tryz.sizeOf162
  v55 := Tryz.zeroValue162
  t66 := Tryz.underlying186
  a66 := Tryz.isAgg186
  z66 := Tryz.sizeOf186
  v66 := Tryz.zeroValue186
  t70 := Tryz.underlying190
  a70 := Tryz.isAgg190
  z70 := Tryz.sizeOf190
  v70 := Tryz.zeroValue190
  t76 := Tryz.underlying212
  a76 := Tryz.isAgg212
  z76 := Tryz.sizeOf212
  v76 := Tryz.zeroValue212
  t77 := Tryz.underlying105
  a77 := Tryz.isAgg105
  z77 := Tryz.sizeOf105
  v77 := Tryz.zeroValue105 }
def Tryz.laysSlF06_f81_ren : Go.Shelf.Ren := ⟨fun | 6 => 81 | 15 => 88 | 14 => 108 | 28 => 122 | 29 => 123 | 20 => 137 | 21 => 138 | 22 => 139 | 23 => 140 | 24 => 141 | 25 => 142 | 26 => 143 | 27 => 144 | 46 => 164 | 47 => 151 | 48 => 152 | 49 => 165 | 50 => 166 | 57 => 177 | n => n, fun | 22 => 33 | 24 => 23 | 25 => 87 | 3 => 3 | 39 => 120 | 0 => 0 | 53 => 160 | 55 => 162 | 4 => 4 | 46 => 154 | 45 => 153 | 50 => 115 | 5 => 5 | 9 => 9 | 66 => 186 | 70 => 190 | 76 => 212 | 77 => 105 | n => n, fun | n => n⟩
theorem Tryz.laysSlF06_f81 : Go.Proofs.SlLaysF0.n6 Tryz.prog Tryz.laysSlF06_f81_ren := {
  mixed := by kernel_rfl
  f6 := ⟨Tryz.f81.name, by decide, Tryz.func81.trans (congrArg some (by kernel_rfl))⟩
  f14 := ⟨Tryz.f108.name, by decide, Tryz.func108.trans (congrArg some (by kernel_rfl))⟩
  f15 := Tryz.func88.trans (congrArg some (by kernel_rfl))
  f20 := ⟨Tryz.f137.name, by decide, Tryz.func137.trans (congrArg some (by kernel_rfl))⟩
  f21 := ⟨Tryz.f138.name, by decide, Tryz.func138.trans (congrArg some (by kernel_rfl))⟩
  f22 := ⟨Tryz.f139.name, by decide, Tryz.func139.trans (congrArg some (by kernel_rfl))⟩
  f23 := ⟨Tryz.f140.name, by decide, Tryz.func140.trans (congrArg some (by kernel_rfl))⟩
  f24 := ⟨Tryz.f141.name, by decide, Tryz.func141.trans (congrArg some (by kernel_rfl))⟩
  f25 := ⟨Tryz.f142.name, by decide, Tryz.func142.trans (congrArg some (by kernel_rfl))⟩
  f26 := ⟨Tryz.f143.name, by decide, Tryz.func143.trans (congrArg some (by kernel_rfl))⟩
  f27 := ⟨Tryz.f144.name, by decide, Tryz.func144.trans (congrArg some (by kernel_rfl))⟩
  f28 := Tryz.func122.trans (congrArg some (by kernel_rfl))
  f29 := Tryz.func123.trans (congrArg some (by kernel_rfl))
  f46 := ⟨Tryz.f164.name, by decide, Tryz.func164.trans (congrArg some (by kernel_rfl))⟩
  f47 := Tryz.func151.trans (congrArg some (by kernel_rfl))
  f48 := Tryz.func152.trans (congrArg some (by kernel_rfl))
  f49 := ⟨Tryz.f165.name, by decide, Tryz.func165.trans (congrArg some (by kernel_rfl))⟩
  f50 := ⟨Tryz.f166.name, by decide, Tryz.func166.trans (congrArg some (by kernel_rfl))⟩
  f57 := ⟨Tryz.f177.name, by decide, Tryz.func177.trans (congrArg some (by kernel_rfl))⟩
  t0 := Tryz.underlying0
  a0 := Tryz.isAgg0
  z0 := Tryz.sizeOf0
  v0 := Tryz.zeroValue0
  t3 := Tryz.underlying3
  a3 := Tryz.isAgg3
  z3 := Tryz.sizeOf3
  v3 := Tryz.zeroValue3
  t4 := Tryz.underlying4
  a4 := Tryz.isAgg4
  z4 := Tryz.sizeOf4
  v4 := Tryz.zeroValue4
  t5 := Tryz.underlying5
  a5 := Tryz.isAgg5
  z5 := Tryz.sizeOf5
  v5 := Tryz.zeroValue5
  t9 := Tryz.underlying9
  a9 := Tryz.isAgg9
  z9 := Tryz.sizeOf9
  v9 := Tryz.zeroValue9
  t22 := Tryz.underlying33
  a22 := Tryz.isAgg33
  z22 := Tryz.sizeOf33
  v22 := Tryz.zeroValue33
  t25 := Tryz.underlying87
  a25 := Tryz.isAgg87
  z25 := Tryz.sizeOf87
  v25 := Tryz.zeroValue87
  t39 := Tryz.underlying120
  a39 := Tryz.isAgg120
  z39 := Tryz.sizeOf120
  v39 := Tryz.zeroValue120
  t45 := Tryz.underlying153
  a45 := Tryz.isAgg153
  z45 := Tryz.sizeOf153
  v45 := Tryz.zeroValue153
  t46 := Tryz.underlying154
  a46 := Tryz.isAgg154
  z46 := Tryz.sizeOf154
  v46 := Tryz.zeroValue154
  t50 := Tryz.underlying115
  a50 := Tryz.isAgg115
  z50 := Tryz.sizeOf115
  v50 := Tryz.zeroValue115
  t53 := Tryz.underlying160
  a53 := Tryz.isAgg160
  z53 := Tryz.sizeOf160
  v53 := Tryz.zeroValue160
  t55 := Tryz.underlying162
  a55 := Tryz.isAgg162
  z55 := Tryz.sizeOf162
  v55 := Tryz.zeroValue162
  t66 := Tryz.underlying186
  a66 := Tryz.isAgg186
  z66 := Tryz.sizeOf186
  v66 := Tryz.zeroValue186
  t70 := Tryz.underlying190
  a70 := Tryz.isAgg190
  z70 := Tryz.sizeOf190
  v70 := Tryz.zeroValue190
  t76 := Tryz.underlying212
  a76 := Tryz.isAgg212
  z76 := Tryz.sizeOf212
  v76 := Tryz.zeroValue212
  t77 := Tryz.underlying105
  a77 := Tryz.isAgg105
  z77 := Tryz.sizeOf105
  v77 := Tryz.zeroValue105 }
open Go.RowKit Go.Lib Go.Sort in
theorem Tryz.slices_SortFunc_f60 {α : Type} [Inhabited α] (k : Nat) (aE : ∀ w, (isAgg 35).run Tryz.prog w = .ok true w) (zE : ∀ w, (Go.sizeOf 35).run Tryz.prog w = .ok k w) (enc : α → List Value) (hk : ∀ x, (enc x).length = k) (h1 : ∀ x, ∀ v ∈ enc x, v.oneCell' = true) (cf : α → α → Int) (hO : SWO (ltOf cf)) (g : Nat) (cb : Array Value) (blk off cap : Nat) (d : Array α) (w : World) (eg : ∀ args w, (callFunc g args).run Tryz.prog w = .ok (.enter g args) w) (hcmp : CmpLays Tryz.prog g cb enc k cf blk off d.size w) (hH : HoldsK enc k w blk off d) (hblk : blk < w.heap.size) (hsz : d.size < 4611686018427387904) :
    Calls Tryz.prog 60 #[.slice (some ⟨blk, off, none⟩) d.size cap, .func (.func g) #[] cb] w fun e w' =>
      e = .returned (.tuple #[]) ∧ ∃ d' n os, PermIn 0 d.size d d' ∧ SortedIn (ltOf cf) 0 d.size d' ∧ w' = sortWorldK enc k w blk off n d' os := AnyQ.slices_SortFunc Tryz.laysSlF06_f60 k aE zE enc hk h1 cf hO g cb blk off cap d w eg hcmp hH hblk hsz
open Go.RowKit Go.Lib Go.Sort in
theorem Tryz.slices_SortFunc_f81 {α : Type} [Inhabited α] (k : Nat) (aE : ∀ w, (isAgg 23).run Tryz.prog w = .ok true w) (zE : ∀ w, (Go.sizeOf 23).run Tryz.prog w = .ok k w) (enc : α → List Value) (hk : ∀ x, (enc x).length = k) (h1 : ∀ x, ∀ v ∈ enc x, v.oneCell' = true) (cf : α → α → Int) (hO : SWO (ltOf cf)) (g : Nat) (cb : Array Value) (blk off cap : Nat) (d : Array α) (w : World) (eg : ∀ args w, (callFunc g args).run Tryz.prog w = .ok (.enter g args) w) (hcmp : CmpLays Tryz.prog g cb enc k cf blk off d.size w) (hH : HoldsK enc k w blk off d) (hblk : blk < w.heap.size) (hsz : d.size < 4611686018427387904) :
    Calls Tryz.prog 81 #[.slice (some ⟨blk, off, none⟩) d.size cap, .func (.func g) #[] cb] w fun e w' =>
      e = .returned (.tuple #[]) ∧ ∃ d' n os, PermIn 0 d.size d d' ∧ SortedIn (ltOf cf) 0 d.size d' ∧ w' = sortWorldK enc k w blk off n d' os := AnyQ.slices_SortFunc Tryz.laysSlF06_f81 k aE zE enc hk h1 cf hO g cb blk off cap d w eg hcmp hH hblk hsz
end Go.Proofs
namespace Go.Proofs
open Go.Shelf
open Go.RowKit Go.Lib Go.Sort in
theorem Tryz.slices_SortFunc_none_f60 {α : Type} [Inhabited α] (p : Option Addr) (cap : Nat) (fv : Value) (w : World) :
    Calls Tryz.prog 60 #[.slice p 0 cap, fv] w fun e w' => e = .returned (.tuple #[]) ∧ w' = w := AnyF.slices_SortFunc_none Tryz.laysSlF06_f60 p cap fv w
open Go.RowKit Go.Lib Go.Sort in
theorem Tryz.slices_SortFunc_none_f81 {α : Type} [Inhabited α] (p : Option Addr) (cap : Nat) (fv : Value) (w : World) :
    Calls Tryz.prog 81 #[.slice p 0 cap, fv] w fun e w' => e = .returned (.tuple #[]) ∧ w' = w := AnyF.slices_SortFunc_none Tryz.laysSlF06_f81 p cap fv w
end Go.Proofs
namespace Go.Proofs.YtgecijhgonfldaaGreatDoor
open Go Go.RowKit
set_option linter.unusedVariables false
theorem setS_cell : ∀ (l : List (Addr × ByteArray)) (w : World) (p : Addr × ByteArray) (u : Value), p ∈ l → (l.Pairwise fun p q => p.1 ≠ q.1) → w.cell? p.1 = some u → (setS w l).cell? p.1 = some (.string p.2)
  | [], _, _, _, h, _, _ => by simp at h
  | q :: t, w, p, u, h, hap, hu => by
    have h1 := List.pairwise_cons.1 hap
    rcases List.mem_cons.1 h with h | h
    · subst h
      rw [setS, setS_other t _ _ fun r hr => (h1.1 r hr).symm]
      exact World.cell?_setCell_same _ _ _ hu
    · have hne : q.1 ≠ p.1 := h1.1 p h
      rw [setS]
      exact setS_cell t _ p u h h1.2 (by rw [World.cell?_setCell_other w q.1 p.1 _ hne]; exact hu)
theorem Ext.setS {a : World} : ∀ (l : List (Addr × ByteArray)) {b : World}, Ext a b → (∀ p ∈ l, a.heap.size ≤ p.1.block) → Ext a (setS b l)
  | [], _, h, _ => h
  | p :: t, b, h, hl => Ext.setS t (h.setCell (hl p (by simp)) _) fun q hq => hl q (by simp [hq])
def ptrsAt (g : Nat) : Nat → List ByteArray → List (Addr × ByteArray)
  | _, [] => []
  | i, s :: t => (⟨g, i, none⟩, s) :: ptrsAt g (i + 1) t
theorem ptrsAt_len (g : Nat) : ∀ (l : List ByteArray) (i : Nat), (ptrsAt g i l).length = l.length
  | [], _ => rfl
  | s :: t, i => by rw [ptrsAt, List.length_cons, ptrsAt_len g t, List.length_cons]
theorem ptrsAt_get (g : Nat) : ∀ (l : List ByteArray) (i k : Nat), (ptrsAt g i l)[k]? = l[k]?.map fun s => (⟨g, i + k, none⟩, s)
  | [], _, _ => by simp [ptrsAt]
  | s :: t, i, 0 => by simp [ptrsAt]
  | s :: t, i, k + 1 => by
    rw [ptrsAt, List.getElem?_cons_succ, ptrsAt_get g t, List.getElem?_cons_succ]
    rw [show i + 1 + k = i + (k + 1) by omega]
theorem ptrsAt_mem {g i : Nat} {l : List ByteArray} {p : Addr × ByteArray} (h : p ∈ ptrsAt g i l) : ∃ k s, l[k]? = some s ∧ p = (⟨g, i + k, none⟩, s) := by
  obtain ⟨k, hk⟩ := List.mem_iff_getElem?.1 h
  rw [ptrsAt_get] at hk
  cases hl : l[k]? with
  | none => rw [hl] at hk; cases hk
  | some s => rw [hl] at hk; injection hk with hk; exact ⟨k, s, hl, hk.symm⟩
theorem ptrsAt_snd (g : Nat) : ∀ (l : List ByteArray) (i : Nat), (ptrsAt g i l).map (·.2) = l
  | [], _ => rfl
  | s :: t, i => by rw [ptrsAt, List.map_cons, ptrsAt_snd g t]
theorem ptrsAt_map (g : Nat) (h : ByteArray → ByteArray) : ∀ (l : List ByteArray) (i : Nat), (ptrsAt g i l).map (fun p => (p.1, h p.2)) = ptrsAt g i (l.map h)
  | [], _ => rfl
  | s :: t, i => by rw [ptrsAt, List.map_cons, ptrsAt_map g h t, List.map_cons, ptrsAt]
theorem ptrsAt_apart (g : Nat) : ∀ (l : List ByteArray) (i : Nat), (ptrsAt g i l).Pairwise fun p q => p.1 ≠ q.1
  | [], _ => List.Pairwise.nil
  | s :: t, i => by
    rw [ptrsAt, List.pairwise_cons]
    refine ⟨fun p hp => ?_, ptrsAt_apart g t _⟩
    obtain ⟨k, s, _, rfl⟩ := ptrsAt_mem hp
    intro e
    have e' := congrArg Addr.off e
    simp only at e'
    omega
def ptrsF (g b : Nat) (l : List ByteArray) (x y z : ByteArray) : List (Addr × ByteArray) := ptrsAt g 0 l ++ [(⟨b, 1, none⟩, x), (⟨b, 2, none⟩, y), (⟨b, 3, none⟩, z)]
theorem ptrsF_len (g b : Nat) (l : List ByteArray) (x y z : ByteArray) : (ptrsF g b l x y z).length = l.length + 3 := by unfold ptrsF; rw [List.length_append, ptrsAt_len]; rfl
theorem ptrsF_snd (g b : Nat) (l : List ByteArray) (x y z : ByteArray) : (ptrsF g b l x y z).map (·.2) = l ++ [x, y, z] := by unfold ptrsF; rw [List.map_append, ptrsAt_snd]; rfl
theorem ptrsF_map (g b : Nat) (h : ByteArray → ByteArray) (l : List ByteArray) (x y z : ByteArray) : (ptrsF g b l x y z).map (fun p => (p.1, h p.2)) = ptrsF g b (l.map h) (h x) (h y) (h z) := by unfold ptrsF; rw [List.map_append, ptrsAt_map]; rfl
theorem ptrsF_apart {g b : Nat} (hgb : g ≠ b) (l : List ByteArray) (x y z : ByteArray) : (ptrsF g b l x y z).Pairwise fun p q => p.1 ≠ q.1 := by
  unfold ptrsF
  rw [List.pairwise_append]
  refine ⟨ptrsAt_apart g l 0, by simp, fun p hp q hq => ?_⟩
  obtain ⟨k, s, _, rfl⟩ := ptrsAt_mem hp
  simp only [List.mem_cons, List.mem_nil_iff, or_false] at hq
  intro e
  have e' := congrArg Addr.block e
  rcases hq with rfl | rfl | rfl <;> exact hgb e'
theorem ptrsF_mem {g b : Nat} {l : List ByteArray} {x y z : ByteArray} {p : Addr × ByteArray} (h : p ∈ ptrsF g b l x y z) : p.1.block = g ∨ p.1.block = b := by
  unfold ptrsF at h
  rcases List.mem_append.1 h with h | h
  · obtain ⟨k, s, _, rfl⟩ := ptrsAt_mem h
    exact Or.inl rfl
  · simp only [List.mem_cons, List.mem_nil_iff, or_false] at h
    rcases h with rfl | rfl | rfl <;> exact Or.inr rfl
theorem ptrsF_set {w w1 : World} {g b cap : Nat} {A : Option Addr} {l : List ByteArray} {x y z x0 y0 z0 : ByteArray} {p e t : Value} {ll : List ByteArray} (hgb : g ≠ b) (hl : ll.length = l.length)
    (hA : 0 < l.length → A = some ⟨g, 0, none⟩) (hr : RStrs w (.slice A l.length cap) ll)
    (h0 : w.cell? ⟨b, 0, none⟩ = some p) (h1 : w.cell? ⟨b, 1, none⟩ = some (.string x0)) (h2 : w.cell? ⟨b, 2, none⟩ = some (.string y0)) (h3 : w.cell? ⟨b, 3, none⟩ = some (.string z0)) (h4 : w.cell? ⟨b, 4, none⟩ = some t) (h5 : w.cell? ⟨b, 5, none⟩ = some e)
    (hx : Ext (setS w (ptrsF g b l x y z)) w1) :
    RStrs w1 (.slice A l.length cap) l ∧ w1.cell? ⟨b, 0, none⟩ = some p ∧ w1.cell? ⟨b, 1, none⟩ = some (.string x) ∧ w1.cell? ⟨b, 2, none⟩ = some (.string y) ∧ w1.cell? ⟨b, 3, none⟩ = some (.string z) ∧ w1.cell? ⟨b, 4, none⟩ = some t ∧ w1.cell? ⟨b, 5, none⟩ = some e := by
  have hap := ptrsF_apart hgb l x y z
  have oth : ∀ (i : Nat) (u : Value), (i = 0 ∨ i = 4 ∨ i = 5) → w.cell? ⟨b, i, none⟩ = some u → w1.cell? ⟨b, i, none⟩ = some u := by
    intro i u hi hu
    refine hx.cell ?_
    rw [setS_other _ _ _ fun q hq => ?_]
    · exact hu
    · unfold ptrsF at hq
      rcases List.mem_append.1 hq with hq | hq
      · obtain ⟨k, s, _, rfl⟩ := ptrsAt_mem hq
        intro e
        exact hgb (congrArg Addr.block e)
      · simp only [List.mem_cons, List.mem_nil_iff, or_false] at hq
        intro e
        have e' := congrArg Addr.off e
        rcases hq with rfl | rfl | rfl <;> simp only at e' <;> omega
  have mm : ∀ (q : Addr × ByteArray) (u : Value), q ∈ ptrsF g b l x y z → w.cell? q.1 = some u → w1.cell? q.1 = some (.string q.2) := fun q u hq hu => hx.cell (setS_cell _ _ q u hq hap hu)
  refine ⟨?_, oth 0 p (Or.inl rfl) h0, mm (⟨b, 1, none⟩, x) _ (by simp [ptrsF]) h1, mm (⟨b, 2, none⟩, y) _ (by simp [ptrsF]) h2, mm (⟨b, 3, none⟩, z) _ (by simp [ptrsF]) h3, oth 4 t (Or.inr (Or.inl rfl)) h4, oth 5 e (Or.inr (Or.inr rfl)) h5⟩
  obtain ⟨q1, A', c', e1, q2, q3, q4, q5⟩ := hr
  injection e1 with e1 e2 e3
  subst e1 e3
  refine ⟨by simp, A, cap, rfl, by omega, q3, q4, fun j u hu => ?_⟩
  rw [List.getElem?_map] at hu
  cases hlj : l[j]? with
  | none => rw [hlj] at hu; cases hu
  | some s =>
    rw [hlj] at hu
    injection hu with hu
    subst hu
    have hjl : j < l.length := (List.getElem?_eq_some_iff.1 hlj).1
    have hAA := hA (by omega)
    subst hAA
    refine ⟨_, rfl, ?_⟩
    have hjll : j < ll.length := by omega
    obtain ⟨ad, ha, hc⟩ := q5 j (.string ll[j]) (by rw [List.getElem?_map, List.getElem?_eq_getElem hjll]; rfl)
    injection ha with ha
    subst ha
    have had : (⟨g, 0, none⟩ : Addr).add j = ⟨g, j, none⟩ := by unfold Addr.add; split <;> simp_all
    rw [had] at hc ⊢
    refine mm (⟨g, j, none⟩, s) _ ?_ hc
    unfold ptrsF
    refine List.mem_append_left _ (List.mem_iff_getElem?.2 ⟨j, ?_⟩)
    rw [ptrsAt_get, hlj]
    simp
theorem setS_heap_other : ∀ (l : List (Addr × ByteArray)) (w : World) (k : Nat), (∀ p ∈ l, p.1.block ≠ k) → (setS w l).heap[k]? = w.heap[k]?
  | [], _, _, _ => rfl
  | p :: t, w, k, h => by
    rw [setS, setS_heap_other t _ k fun q hq => h q (by simp [hq])]
    simp only [World.setCell, Array.getElem?_modify]
    rw [if_neg (h p (by simp))]
theorem setCell_grown (w : World) (a : Addr) (v : Value) : w.grownBy (w.setCell a v) (some a.block) :=
  ⟨rfl, rfl, rfl, by simp [World.setCell], fun k _ hk => heap_setCell_other w a k v fun e => hk (by rw [e])⟩
theorem setRow_grown (w : World) (g : Nat) (cs : Array Value) : w.grownBy (w.setRow g cs) (some g) :=
  ⟨rfl, rfl, rfl, by simp [World.setRow], fun k _ hk => setRow_other w g k cs fun e => hk (by rw [e])⟩
theorem feedPtrs {W : World} {B g b cap : Nat} {A : Option Addr} {v : Value} {l : List ByteArray} {x y z : ByteArray} (hgb : g ≠ b) (hA : 0 < l.length → A = some ⟨g, 0, none⟩)
    (hown : W.ownsRow B 9 1 (.slice A l.length cap) l.length (l.map Value.string))
    (h1 : W.cell? ⟨b, 1, none⟩ = some (.string x)) (h2 : W.cell? ⟨b, 2, none⟩ = some (.string y)) (h3 : W.cell? ⟨b, 3, none⟩ = some (.string z)) (f1 : W.frozen? ⟨b, 1, none⟩ = false) (f2 : W.frozen? ⟨b, 2, none⟩ = false) (f3 : W.frozen? ⟨b, 3, none⟩ = false)
    (hs : ∀ s ∈ l ++ [x, y, z], s.size ≤ 16777216) (hrow : RSl W 1 v (l.length + 3) ((ptrsF g b l x y z).map fun p => Value.pointer (some p.1))) : Ptrs W v (ptrsF g b l x y z) := by
  refine ⟨by rw [ptrsF_len]; exact hrow, fun p hp => ?_, fun p hp => ?_, ptrsF_apart hgb l x y z⟩
  · unfold ptrsF at hp
    rcases List.mem_append.1 hp with hp | hp
    · obtain ⟨k, s, hk, rfl⟩ := ptrsAt_mem hp
      have hkl : k < l.length := (List.getElem?_eq_some_iff.1 hk).1
      have hAA := hA (by omega)
      subst hAA
      have hz : 0 + k = k := by omega
      simp only [hz]
      refine ⟨?_, hown.frozenAt k⟩
      rw [hown.cellAt k (by omega), List.getElem?_map, hk]
      rfl
    · simp only [List.mem_cons, List.mem_nil_iff, or_false] at hp
      rcases hp with rfl | rfl | rfl
      · exact ⟨h1, f1⟩
      · exact ⟨h2, f2⟩
      · exact ⟨h3, f3⟩
  · refine hs _ ?_
    have : p.2 ∈ (ptrsF g b l x y z).map (·.2) := List.mem_map.2 ⟨p, hp, rfl⟩
    rwa [ptrsF_snd] at this
theorem ptrsAt_snoc (g : Nat) (l : List ByteArray) (k : Nat) (hk : k < l.length) : ((ptrsAt g 0 l).take (k + 1)).map (fun p => Value.pointer (some p.1)) = ((ptrsAt g 0 l).take k).map (fun p => Value.pointer (some p.1)) ++ [.pointer (some ⟨g, k, none⟩)] := by
  have hk' : k < (ptrsAt g 0 l).length := by rw [ptrsAt_len]; exact hk
  rw [List.take_succ_eq_append_getElem hk', List.map_append]
  have e := ptrsAt_get g l 0 k
  rw [List.getElem?_eq_getElem hk', List.getElem?_eq_getElem hk] at e
  injection e with e
  rw [e]
  simp
theorem errEs_at : ∀ (l : List Ent) (k : Nat) (hk : k < l.length), (∀ e ∈ l.take k, errE e = 0) → errE l[k] ≠ 0 → errEs l = errE l[k]
  | [], k, hk, _, _ => by simp at hk
  | e :: t, 0, _, _, h => by simp only [errEs]; rw [if_neg (by simpa using h)]; rfl
  | e :: t, k + 1, hk, h, h2 => by
    simp only [errEs]
    rw [if_pos (h e (by simp)), errEs_at t k (by simpa using hk) (fun x hx => h x (by simp [hx])) (by simpa using h2)]
    rfl
theorem contains_any {w : World} {g n c : Nat} {A : Option Addr} {l : List ByteArray} (x : ByteArray) (hn : n = l.length) (hA : 0 < l.length → A = some ⟨g, 0, none⟩) (h : RStrs w (.slice A n c) l) (hb : l.length ≤ 9223372036854775807) :
    Calls Tryz.prog 51 #[.slice A n c, .string x] w fun e w' => e = .returned (.bool (l.any fun s => decide (s = x))) ∧ w' = w := by
  subst hn
  rcases Nat.eq_zero_or_pos l.length with h0 | h0
  · have hl := List.eq_nil_of_length_eq_zero h0
    subst hl
    exact Tryz.slices_Contains_string_empty A c x w
  · have hAA := hA h0
    subst hAA
    have hc : ∀ j, j < l.length → w.cell? ⟨g, 0 + j, none⟩ = some (.string (l.getD j ByteArray.empty)) := by
      intro j hj
      obtain ⟨_, A', c', e, _, _, _, q⟩ := h
      injection e with e1 e2 e3
      subst e1
      obtain ⟨ad, ha, hcl⟩ := q j (.string l[j]) (by rw [List.getElem?_map, List.getElem?_eq_getElem hj]; rfl)
      injection ha with ha
      subst ha
      have had : (⟨g, 0, none⟩ : Addr).add j = ⟨g, 0 + j, none⟩ := by unfold Addr.add; split <;> simp_all
      rw [had] at hcl
      rw [hcl, List.getD_eq_getElem?_getD, List.getElem?_eq_getElem hj]
      rfl
    refine (Tryz.slices_Contains_string g 0 l.length c l x w (Nat.le_refl _) hb hc).mono ?_
    rintro e w' ⟨rfl, rfl⟩
    refine ⟨?_, rfl⟩
    rw [List.take_of_length_le (Nat.le_refl _)]
    refine congrArg (fun b => Ending.returned (.bool b)) ?_
    rw [Bool.eq_iff_iff, Lib.containsS_iff, List.any_eq_true]
    constructor
    · intro h; exact ⟨x, h, by simp⟩
    · rintro ⟨s, hs, e⟩
      have e' : s = x := by simpa using e
      rw [← e']; exact hs
end Go.Proofs.YtgecijhgonfldaaGreatDoor
namespace Go.Proofs.YtgecijhgonfldaaGreatDoor
open Go Go.RowKit Go.Sort
set_option linter.unusedVariables false
theorem flatK_len {α : Type} (enc : α → List Value) (k : Nat) (hk : ∀ x, (enc x).length = k) : ∀ (l : List α), (l.map enc).flatten.length = l.length * k
  | [] => by simp
  | x :: l => by rw [List.map_cons, List.flatten_cons, List.length_append, hk, flatK_len enc k hk l, List.length_cons, Nat.add_mul]; omega
section
variable {α : Type} [Inhabited α] (enc : α → List Value) (k : Nat)
theorem flat_at : ∀ (l : List (List Value)) (i : Nat) (c : List Value) (j : Nat) (u : Value), (∀ c ∈ l, c.length = k) → l[i]? = some c → c[j]? = some u → l.flatten[k * i + j]? = some u
  | [], i, c, j, u, _, h, _ => by simp at h
  | x :: l, i, c, j, u, hl, hc, hu => by
    have hx : x.length = k := hl x (by simp)
    cases i with
    | zero =>
      simp at hc
      subst hc
      have hj : j < x.length := (List.getElem?_eq_some_iff.mp hu).1
      simpa [List.getElem?_append, hj] using (List.getElem?_eq_some_iff.mp hu).2
    | succ i =>
      have := flat_at l i c j u (fun c h => hl c (by simp [h])) (by simpa using hc) hu
      simp only [List.flatten_cons]
      have e : k * (i + 1) + j = x.length + (k * i + j) := by rw [hx, Nat.mul_succ]; omega
      rw [e, List.getElem?_append_right (by omega)]
      simpa using this
theorem flat_get (hk : ∀ x, (enc x).length = k) (d : Array α) (t : Nat) (h : t < d.size * k) : (d.toList.map enc).flatten[t]? = some ((flatK enc k d)[t]!) := by
  have hk0 : 0 < k := by
    rcases Nat.eq_zero_or_pos k with e | e
    · rw [e] at h; omega
    · exact e
  have hd : t / k < d.size := Nat.div_lt_of_lt_mul (by rw [Nat.mul_comm]; exact h)
  have hm : t % k < k := Nat.mod_lt _ hk0
  rw [get_flatK enc k d t h]
  have e1 : (enc d[t / k]!)[t % k]? = some (enc d[t / k]!)[t % k]! := by
    have hl : t % k < (enc d[t / k]!).length := by rw [hk]; exact hm
    rw [getElem!_pos (enc d[t / k]!) (t % k) hl, List.getElem?_eq_getElem hl]
  have e2 : (d.toList.map enc)[t / k]? = some (enc d[t / k]!) := by
    rw [List.getElem?_map, List.getElem?_eq_getElem (by simpa using hd)]
    simp [getElem!_pos d (t / k) hd]
  have := flat_at k (d.toList.map enc) (t / k) _ (t % k) _ (by intro c hc; obtain ⟨x, _, rfl⟩ := List.mem_map.1 hc; exact hk x) e2 e1
  rwa [Nat.div_add_mod] at this
theorem holds_of_own (hk : ∀ x, (enc x).length = k) {w : World} {B : Nat} {e : TypeId} {g cap : Nat} {d : Array α} (h : w.ownsRow B e k (.slice (some ⟨g, 0, none⟩) d.size cap) d.size (d.toList.map enc).flatten) : HoldsK enc k w g 0 d := by
  intro j hj
  rw [size_flatK] at hj
  rw [Nat.zero_add]
  exact ⟨by rw [h.cellAt j hj, flat_get enc k hk d j hj]; rfl, h.frozenAt j⟩
theorem own_of_sort (hk : ∀ x, (enc x).length = k) {w : World} {B : Nat} {e : TypeId} {g cap m : Nat} {d d' : Array α} {os : Array Obj} (h : w.ownsRow B e k (.slice (some ⟨g, 0, none⟩) d.size cap) d.size (d.toList.map enc).flatten) (hs : d'.size = d.size) :
    (sortWorldK enc k w g 0 m d' os).ownsRow B e k (.slice (some ⟨g, 0, none⟩) d.size cap) d.size (d'.toList.map enc).flatten ∧ w.grownBy (sortWorldK enc k w g 0 m d' os) (some g) := by
  rcases h.2 with ⟨h', _⟩ | ⟨g', cap', cur, h', hb, hg, hnc, hcm, hcs, htake⟩
  · simp at h'
  · simp only [Value.slice.injEq, Option.some.injEq, Addr.mk.injEq, and_true, true_and] at h'
    obtain ⟨rfl, rfl⟩ := h'
    have hglt : g < w.heap.size := (Array.getElem?_eq_some_iff.1 hg).1
    have hle : d.size * k ≤ cap * k := Nat.mul_le_mul_right k hnc
    have hheap : (sortWorldK enc k w g 0 m d' os).heap[g]? = some (.cells (putCells id 0 (flatK enc k d') cur) e) := by
      unfold sortWorldK putRowK putRow mapBlock grow
      rw [Array.getElem?_append_left (by simpa [Sort.ahead] using hglt), Array.getElem?_modify, if_pos rfl]
      show Option.map _ (w.heap[g]?) = _
      rw [hg]
      rfl
    refine ⟨⟨by rw [flatK_len enc k hk]; simp [hs], .inr ⟨g, cap, _, rfl, hb, hheap, hnc, hcm, by simpa [putCells] using hcs, ?_⟩⟩, ⟨rfl, rfl, rfl, size_sortWorldK_c enc k w g 0 m d' os, fun j hj hne => ?_⟩⟩
    · apply List.ext_getElem?
      intro t
      rw [List.getElem?_take]
      by_cases ht : t < d.size * k
      · rw [if_pos ht, flat_get enc k hk d' t (by rw [hs]; exact ht)]
        rw [Array.getElem?_toList]
        unfold putCells
        rw [Array.getElem?_mapIdx, Array.getElem?_eq_getElem (by omega)]
        simp [hs, ht]
      · rw [if_neg ht, List.getElem?_eq_none (by rw [flatK_len enc k hk]; simp [hs]; omega)]
    · unfold sortWorldK putRowK putRow mapBlock grow
      rw [Array.getElem?_append_left (by simpa [Sort.ahead] using hj), Array.getElem?_modify, if_neg (fun e => hne (by rw [e]))]
      rfl
end
theorem swo_of {α : Type} {c : α → α → Int} (h : IsCmp c) : SWO (ltOf c) where
  irrefl x := by unfold ltOf; rw [h.self]; rfl
  trans x y z h1 h2 := by unfold ltOf at *; simp only [decide_eq_true_eq] at *; exact h.lt_trans x y z h1 h2
  ntrans x y z h1 h2 := by
    unfold ltOf at *
    simp only [decide_eq_false_iff_not] at *
    have := h.trans z y x (by have := h.anti y z; omega) (by have := h.anti x y; omega)
    have := h.anti x z
    omega
instance : Inhabited Ent := ⟨zeroE⟩
theorem isAggE (w : World) : (isAgg 23).run Tryz.prog w = .ok true w := by kernel_rfl
theorem sizeE (w : World) : (Go.sizeOf 23).run Tryz.prog w = .ok 5 w := by kernel_rfl
theorem enterCmp (args : Array Value) (w : World) : (callFunc 82 args).run Tryz.prog w = .ok (.enter 82 args) w := enters_of Tryz.func82 (by kernel_rfl) rfl args w
attribute [local go_sem ↓] Go.wp_at_zero Go.wp_at_succ
set_option maxRecDepth 100000 in
set_option maxHeartbeats 1000000 in
theorem compareEntries_grow (a b : Ent) (w : World) :
    Calls Tryz.prog 82 #[.agg (eCells a).toArray, .agg (eCells b).toArray] w fun x w' => x = .returned (.int .i64 (entCmp a b)) ∧ ∃ q os, w' = grow (w.drewN q) os := by
  obtain ⟨aid, atitle, alink, acontent, aupd⟩ := a
  obtain ⟨bid, btitle, blink, bcontent, bupd⟩ := b
  unfold entCmp
  obtain ⟨ci, hci⟩ : ∃ ci, iCmp bupd aupd = ci := ⟨_, rfl⟩
  obtain ⟨cs, hcs⟩ : ∃ cs, sCmp aid bid = cs := ⟨_, rfl⟩
  simp only [hci, hcs]
  have HI := Lib.hid (fun w' => cmpInt_any bupd aupd w')
  have HS := Lib.hid (fun w' => cmpStr_any aid bid w')
  rw [hcs] at HS
  rw [show (if bupd < aupd then (-1 : Int) else if aupd < bupd then 1 else 0) = ci from hci] at HI
  have HO := Lib.hid (fun v w' h => cmpOr_any ci cs v w' h)
  obtain ⟨res, hres⟩ : ∃ res, (if ci = 0 then cs else ci) = res := ⟨_, rfl⟩
  rw [hres] at HO
  rw [hres]
  clear hci hcs hres
  unfold eCells
  go_enter Tryz.func82, Tryz.ntmps82
  go_wp2
  go_region_held3 (fun w' => Ext w w' ∧ w'.cell? ⟨w.heap.size, 0, none⟩ = some (.string aid) ∧ w'.cell? ⟨w.heap.size, 4, none⟩ = some (.int .i64 aupd) ∧ w'.cell? ⟨w.heap.size + 1, 0, none⟩ = some (.string bid) ∧ w'.cell? ⟨w.heap.size + 1, 4, none⟩ = some (.int .i64 bupd))
    ((go_split_ands; refine ⟨?_, ?_, ?_, ?_, ?_⟩ <;> first | assumption | ((repeat (first | exact Ext.refl _ | assumption | apply Ext.drew | apply Ext.alloc)); done) | ((refine Ext.trans ?_ (by assumption)); (repeat (first | exact Ext.refl _ | assumption | apply Ext.drew | apply Ext.alloc)); done) | ((refine Ext.cell (by assumption) ?_); first | assumption | (go_keep; done)) | (go_keep; done)))
    (first
      | (go_at_call 109; refine (HI.out _).mono ?_; rintro e w1 ⟨rfl, rfl⟩)
      | (go_at_call 91; refine (HS.out _).mono ?_; rintro e w2 ⟨rfl, rfl⟩)
      | (go_at_call 89; refine (HO.out _ _ (rsl_block (e := 3) (fr := (0, 0)) (cs := [.int .i64 ci, .int .i64 cs]) ?hg (by rfl) (by decide))).mono ?_; (case hg => exact heap_alloc3_new w _ _ _); rintro e w3 ⟨rfl, rfl⟩))
  go_wp2
  go_ret
  exact ⟨rfl, 1, _, by rw [alloc_eq_grow, alloc_eq_grow, alloc_eq_grow, grow_grow, grow_grow]; rfl⟩
theorem sortE_any (v : Value) (l : List Ent) (w : World) (B : Nat) (h : OEnts w B v l) (hn : l.length ≤ 1000000) :
    Calls Tryz.prog 81 #[v, .func (.func 82) #[] #[]] w fun e w' => e = .returned (.tuple #[]) ∧
      ∃ l' : List Ent, l'.Perm l ∧ l'.Pairwise (fun a b => ordE.lt b a = false) ∧ OEnts w' B v l' ∧ w.grownBy w' v.ownBlock := by
  rcases Nat.eq_zero_or_pos l.length with h0 | h0
  · have hl : l = [] := List.eq_nil_of_length_eq_zero h0
    subst hl
    obtain ⟨A, c, rfl, _, _⟩ := h.reads.form
    refine (Tryz.slices_SortFunc_none_f81 (α := Ent) A c _ w).mono ?_
    rintro e w' ⟨rfl, rfl⟩
    exact ⟨rfl, [], List.Perm.refl _, List.Pairwise.nil, h, World.grownBy.refl _ _⟩
  · obtain ⟨g, cap, rfl, hb, hg⟩ := World.ownsRow.form h h0
    have h' : w.ownsRow B 23 5 (.slice (some ⟨g, 0, none⟩) l.toArray.size cap) l.toArray.size (l.toArray.toList.map eCells).flatten := by simpa [OEnts, flatE] using h
    have hc := Tryz.slices_SortFunc_f81 5 isAggE sizeE eCells (fun _ => rfl) (fun x => eCells_one x) entCmp (swo_of entCmp_is) 82 #[] g 0 cap l.toArray w enterCmp
      (fun m os dk hdk x y => compareEntries_grow x y _) (holds_of_own eCells 5 (fun _ => rfl) h') hg (by simp; omega)
    refine hc.mono ?_
    rintro e w' ⟨rfl, d', n, os, hp, hs, rfl⟩
    have hsz : d'.size = l.toArray.size := hp.1
    have ho := own_of_sort eCells 5 (fun _ => rfl) (m := n) (os := os) h' hsz
    have hperm : d'.toList.Perm l := by
      have := hp.2.2
      have hl : l.length = d'.toList.length := by simpa using hsz.symm
      simp at this
      rwa [hl, List.take_of_length_le (Nat.le_refl _)] at this
    refine ⟨rfl, d'.toList, hperm, ?_, ?_, ho.2⟩
    · rw [List.pairwise_iff_getElem]
      intro i j hi hj hij
      have h1 := hs i j (Nat.zero_le _) hij (by rw [← hsz]; simpa using hj)
      rw [getElem!_pos d' j (by simpa using hj), getElem!_pos d' i (by simpa using hi)] at h1
      simpa [ltOf, ordE, ltE] using h1
    · unfold OEnts
      have e1 : d'.toList.length = l.length := hperm.length_eq
      rw [e1]
      have := ho.1
      simpa [flatE] using this
end Go.Proofs.YtgecijhgonfldaaGreatDoor
