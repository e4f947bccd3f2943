/- MergeIsSemilattice: the statement's row and its tied card: the law returns true at every input, within the reach that the form of the statement names. -/
import Derived.Test.YtgecijhgonfldaaGreatDoorRow9
import Derived.Test.YtgecijhgonfldaaGreatDoorFac9
import Derived.Test.YtgecijhgonfldaaGreatDoorFac9C
namespace Go.Proofs.YtgecijhgonfldaaGreatDoor
open Go Go.ChangeShapes Go.WideShapes Go.ChangeAt Go.RowKit

theorem and2_9 {a b : Bool} (h : a = true) (k : b = true) : (a && b) = true := by rw [h, k]; rfl
set_option maxRecDepth 100000 in
theorem law9_facts : joinedFacts Tryz.prog 11 Tryz.f11 Rows.mergeIsSemilatticeSpec Rows.mergeIsSemilatticeRow = true := by
  unfold joinedFacts
  exact and2_9 (and2_9 (and2_9 (and2_9 (and2_9 (and2_9 (and2_9 (and2_9 (and2_9 (and2_9 (and2_9 (and2_9 (and2_9 (and2_9 (and2_9 (and2_9 (and2_9 (and2_9 (and2_9 (and2_9 (and2_9 (and2_9 (and2_9 (and2_9 (and2_9 (and2_9 (and2_9 (and2_9 (and2_9 (and2_9 (and2_9 mergeIsSemilattice_k0 mergeIsSemilattice_k1) mergeIsSemilattice_k2) mergeIsSemilattice_k3) mergeIsSemilattice_k4) mergeIsSemilattice_k5) mergeIsSemilattice_k6) mergeIsSemilattice_k7) mergeIsSemilattice_k8) mergeIsSemilattice_k9) mergeIsSemilattice_k10) mergeIsSemilattice_k11) mergeIsSemilattice_k12) mergeIsSemilattice_k13) mergeIsSemilattice_k14) mergeIsSemilattice_k15) mergeIsSemilattice_k16) mergeIsSemilattice_k17) mergeIsSemilattice_k18) mergeIsSemilattice_k19) mergeIsSemilattice_k20) mergeIsSemilattice_k21) mergeIsSemilattice_k22) mergeIsSemilattice_k23) mergeIsSemilattice_k24) mergeIsSemilattice_k25) mergeIsSemilattice_k26) mergeIsSemilattice_k27) mergeIsSemilattice_k28) mergeIsSemilattice_k29) mergeIsSemilattice_k30) mergeIsSemilattice_k31
theorem law9_holds : Rows.MergeIsSemilatticeSaid :=
  OpenClaim.holds_of_wide 11 Tryz.f11 rfl rfl rfl rfl rfl rfl rfl ⟨rfl, rfl, rfl, rfl, rfl⟩ rfl rfl rfl rfl rfl law9_named Tryz.func11 law9_facts
    law9_inst law9_wrap
    (fun os started H enc _ => lifted9 os started H enc)
theorem mergeIsSemilattice_holds : Rows.MergeIsSemilatticeCardSaid :=
  Claim7.holds_tied_plain_at .later [] [.data, .data, .data, .data, .data, .pinned] true (true, "72d915ea65909ccc7aa6754f163e0fd9742e8f384d51c925c8dce0485ea4dd84") false law9_holds (fun _ h => by cases h) law9_wf (fun _ h => by cases h) mergeIsSemilattice_row_tie rfl ⟨rfl, rfl⟩ law9_main rfl
    (fun f fn hf hfn => by
      obtain rfl : f = 11 := Option.some.inj (law9_named.symm.trans hf) |>.symm
      obtain rfl : fn = Tryz.f11 := (Option.some.inj (Tryz.func11.symm.trans hfn)).symm
      exact ⟨law9_looks, fun j t ht => by
        rw [Tryz.params11] at ht
        have hm : t ∈ [46, 46, 46] := by simpa using Array.mem_of_getElem? ht
        exact (show Tryz.prog.wantsStandIn t = false by simpa using List.all_eq_true.1 law9_standIn t hm)⟩)
    law9_goes
#print axioms mergeIsSemilattice_holds
end Go.Proofs.YtgecijhgonfldaaGreatDoor
