/- MergeMatchesReference: the statement's row and its tied card: the law returns true at every input, within the reach that the form of the statement names. -/
import Derived.Test.YtgecijhgonfldaaGreatDoorRow8
import Derived.Test.YtgecijhgonfldaaGreatDoorFac8
import Derived.Test.YtgecijhgonfldaaGreatDoorFac8C
namespace Go.Proofs.YtgecijhgonfldaaGreatDoor
open Go Go.ChangeShapes Go.WideShapes Go.ChangeAt Go.RowKit

theorem and2_8 {a b : Bool} (h : a = true) (k : b = true) : (a && b) = true := by rw [h, k]; rfl
set_option maxRecDepth 100000 in
theorem law8_facts : joinedFacts Tryz.prog 10 Tryz.f10 Rows.mergeMatchesReferenceSpec Rows.mergeMatchesReferenceRow = true := by
  unfold joinedFacts
  exact and2_8 (and2_8 (and2_8 (and2_8 (and2_8 (and2_8 (and2_8 (and2_8 (and2_8 (and2_8 (and2_8 (and2_8 (and2_8 (and2_8 (and2_8 (and2_8 (and2_8 (and2_8 (and2_8 (and2_8 (and2_8 (and2_8 (and2_8 (and2_8 (and2_8 (and2_8 (and2_8 (and2_8 (and2_8 (and2_8 (and2_8 mergeMatchesReference_k0 mergeMatchesReference_k1) mergeMatchesReference_k2) mergeMatchesReference_k3) mergeMatchesReference_k4) mergeMatchesReference_k5) mergeMatchesReference_k6) mergeMatchesReference_k7) mergeMatchesReference_k8) mergeMatchesReference_k9) mergeMatchesReference_k10) mergeMatchesReference_k11) mergeMatchesReference_k12) mergeMatchesReference_k13) mergeMatchesReference_k14) mergeMatchesReference_k15) mergeMatchesReference_k16) mergeMatchesReference_k17) mergeMatchesReference_k18) mergeMatchesReference_k19) mergeMatchesReference_k20) mergeMatchesReference_k21) mergeMatchesReference_k22) mergeMatchesReference_k23) mergeMatchesReference_k24) mergeMatchesReference_k25) mergeMatchesReference_k26) mergeMatchesReference_k27) mergeMatchesReference_k28) mergeMatchesReference_k29) mergeMatchesReference_k30) mergeMatchesReference_k31
theorem law8_holds : Rows.MergeMatchesReferenceSaid :=
  OpenClaim.holds_of_wide 10 Tryz.f10 rfl rfl rfl rfl rfl rfl rfl ⟨rfl, rfl, rfl, rfl, rfl⟩ rfl rfl rfl rfl rfl law8_named Tryz.func10 law8_facts
    law8_inst law8_wrap
    (fun os started H enc _ => lifted8 os started H enc)
theorem mergeMatchesReference_holds : Rows.MergeMatchesReferenceCardSaid :=
  Claim7.holds_tied_plain_at .later [] [.data, .data, .data, .data, .data, .pinned] true (true, "72d915ea65909ccc7aa6754f163e0fd9742e8f384d51c925c8dce0485ea4dd84") false law8_holds (fun _ h => by cases h) law8_wf (fun _ h => by cases h) mergeMatchesReference_row_tie rfl ⟨rfl, rfl⟩ law8_main rfl
    (fun f fn hf hfn => by
      obtain rfl : f = 10 := Option.some.inj (law8_named.symm.trans hf) |>.symm
      obtain rfl : fn = Tryz.f10 := (Option.some.inj (Tryz.func10.symm.trans hfn)).symm
      exact ⟨law8_looks, fun j t ht => by
        rw [Tryz.params10] at ht
        have hm : t ∈ [59] := by simpa using Array.mem_of_getElem? ht
        exact (show Tryz.prog.wantsStandIn t = false by simpa using List.all_eq_true.1 law8_standIn t hm)⟩)
    law8_goes
#print axioms mergeMatchesReference_holds
end Go.Proofs.YtgecijhgonfldaaGreatDoor
