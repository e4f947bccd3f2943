/- NormalizeFeedMatchesReference: the statement's row and its tied card: the law returns true at every input, within the reach that the form of the statement names. -/
import Derived.Test.YtgecijhgonfldaaGreatDoorRow2
import Derived.Test.YtgecijhgonfldaaGreatDoorFac2
import Derived.Test.YtgecijhgonfldaaGreatDoorFac2C
namespace Go.Proofs.YtgecijhgonfldaaGreatDoor
open Go Go.ChangeShapes Go.WideShapes Go.ChangeAt Go.RowKit

theorem and2_2 {a b : Bool} (h : a = true) (k : b = true) : (a && b) = true := by rw [h, k]; rfl
set_option maxRecDepth 100000 in
theorem law2_facts : joinedFacts Tryz.prog 4 Tryz.f4 Rows.normalizeFeedMatchesReferenceSpec Rows.normalizeFeedMatchesReferenceRow = true := by
  unfold joinedFacts
  exact and2_2 (and2_2 (and2_2 (and2_2 (and2_2 (and2_2 (and2_2 (and2_2 (and2_2 (and2_2 (and2_2 (and2_2 (and2_2 (and2_2 (and2_2 (and2_2 (and2_2 (and2_2 (and2_2 (and2_2 (and2_2 (and2_2 (and2_2 (and2_2 (and2_2 (and2_2 (and2_2 (and2_2 (and2_2 (and2_2 (and2_2 normalizeFeedMatchesReference_k0 normalizeFeedMatchesReference_k1) normalizeFeedMatchesReference_k2) normalizeFeedMatchesReference_k3) normalizeFeedMatchesReference_k4) normalizeFeedMatchesReference_k5) normalizeFeedMatchesReference_k6) normalizeFeedMatchesReference_k7) normalizeFeedMatchesReference_k8) normalizeFeedMatchesReference_k9) normalizeFeedMatchesReference_k10) normalizeFeedMatchesReference_k11) normalizeFeedMatchesReference_k12) normalizeFeedMatchesReference_k13) normalizeFeedMatchesReference_k14) normalizeFeedMatchesReference_k15) normalizeFeedMatchesReference_k16) normalizeFeedMatchesReference_k17) normalizeFeedMatchesReference_k18) normalizeFeedMatchesReference_k19) normalizeFeedMatchesReference_k20) normalizeFeedMatchesReference_k21) normalizeFeedMatchesReference_k22) normalizeFeedMatchesReference_k23) normalizeFeedMatchesReference_k24) normalizeFeedMatchesReference_k25) normalizeFeedMatchesReference_k26) normalizeFeedMatchesReference_k27) normalizeFeedMatchesReference_k28) normalizeFeedMatchesReference_k29) normalizeFeedMatchesReference_k30) normalizeFeedMatchesReference_k31
theorem law2_holds : Rows.NormalizeFeedMatchesReferenceSaid :=
  OpenClaim.holds_of_wide 4 Tryz.f4 rfl rfl rfl rfl rfl rfl rfl ⟨rfl, rfl, rfl, rfl, rfl⟩ rfl rfl rfl rfl rfl law2_named Tryz.func4 law2_facts
    law2_inst law2_wrap
    (fun os started H enc _ => lifted2 os started H enc)
theorem normalizeFeedMatchesReference_holds : Rows.NormalizeFeedMatchesReferenceCardSaid :=
  Claim7.holds_tied_plain_at .later [] [.data, .data, .data, .data, .data, .pinned] true (true, "72d915ea65909ccc7aa6754f163e0fd9742e8f384d51c925c8dce0485ea4dd84") false law2_holds (fun _ h => by cases h) law2_wf (fun _ h => by cases h) normalizeFeedMatchesReference_row_tie rfl ⟨rfl, rfl⟩ law2_main rfl
    (fun f fn hf hfn => by
      obtain rfl : f = 4 := Option.some.inj (law2_named.symm.trans hf) |>.symm
      obtain rfl : fn = Tryz.f4 := (Option.some.inj (Tryz.func4.symm.trans hfn)).symm
      exact ⟨law2_looks, fun j t ht => by
        rw [Tryz.params4] at ht
        have hm : t ∈ [35] := by simpa using Array.mem_of_getElem? ht
        exact (show Tryz.prog.wantsStandIn t = false by simpa using List.all_eq_true.1 law2_standIn t hm)⟩)
    law2_goes
#print axioms normalizeFeedMatchesReference_holds
end Go.Proofs.YtgecijhgonfldaaGreatDoor
