/- NormalizeArchiveMatchesReference: the statement's row and its tied card: the law returns true at every input, within the reach that the form of the statement names. -/
import Derived.Test.YtgecijhgonfldaaGreatDoorRow3
import Derived.Test.YtgecijhgonfldaaGreatDoorFac3
import Derived.Test.YtgecijhgonfldaaGreatDoorFac3C
namespace Go.Proofs.YtgecijhgonfldaaGreatDoor
open Go Go.ChangeShapes Go.WideShapes Go.ChangeAt Go.RowKit

theorem and2_3 {a b : Bool} (h : a = true) (k : b = true) : (a && b) = true := by rw [h, k]; rfl
set_option maxRecDepth 100000 in
theorem law3_facts : joinedFacts Tryz.prog 5 Tryz.f5 Rows.normalizeArchiveMatchesReferenceSpec Rows.normalizeArchiveMatchesReferenceRow = true := by
  unfold joinedFacts
  exact and2_3 (and2_3 (and2_3 (and2_3 (and2_3 (and2_3 (and2_3 (and2_3 (and2_3 (and2_3 (and2_3 (and2_3 (and2_3 (and2_3 (and2_3 (and2_3 (and2_3 (and2_3 (and2_3 (and2_3 (and2_3 (and2_3 (and2_3 (and2_3 (and2_3 (and2_3 (and2_3 (and2_3 (and2_3 (and2_3 (and2_3 normalizeArchiveMatchesReference_k0 normalizeArchiveMatchesReference_k1) normalizeArchiveMatchesReference_k2) normalizeArchiveMatchesReference_k3) normalizeArchiveMatchesReference_k4) normalizeArchiveMatchesReference_k5) normalizeArchiveMatchesReference_k6) normalizeArchiveMatchesReference_k7) normalizeArchiveMatchesReference_k8) normalizeArchiveMatchesReference_k9) normalizeArchiveMatchesReference_k10) normalizeArchiveMatchesReference_k11) normalizeArchiveMatchesReference_k12) normalizeArchiveMatchesReference_k13) normalizeArchiveMatchesReference_k14) normalizeArchiveMatchesReference_k15) normalizeArchiveMatchesReference_k16) normalizeArchiveMatchesReference_k17) normalizeArchiveMatchesReference_k18) normalizeArchiveMatchesReference_k19) normalizeArchiveMatchesReference_k20) normalizeArchiveMatchesReference_k21) normalizeArchiveMatchesReference_k22) normalizeArchiveMatchesReference_k23) normalizeArchiveMatchesReference_k24) normalizeArchiveMatchesReference_k25) normalizeArchiveMatchesReference_k26) normalizeArchiveMatchesReference_k27) normalizeArchiveMatchesReference_k28) normalizeArchiveMatchesReference_k29) normalizeArchiveMatchesReference_k30) normalizeArchiveMatchesReference_k31
theorem law3_holds : Rows.NormalizeArchiveMatchesReferenceSaid :=
  OpenClaim.holds_of_wide 5 Tryz.f5 rfl rfl rfl rfl rfl rfl rfl ⟨rfl, rfl, rfl, rfl, rfl⟩ rfl rfl rfl rfl rfl law3_named Tryz.func5 law3_facts
    law3_inst law3_wrap
    (fun os started H enc _ => lifted3 os started H enc)
theorem normalizeArchiveMatchesReference_holds : Rows.NormalizeArchiveMatchesReferenceCardSaid :=
  Claim7.holds_tied_plain_at .later [] [.data, .data, .data, .data, .data, .pinned] true (true, "72d915ea65909ccc7aa6754f163e0fd9742e8f384d51c925c8dce0485ea4dd84") false law3_holds (fun _ h => by cases h) law3_wf (fun _ h => by cases h) normalizeArchiveMatchesReference_row_tie rfl ⟨rfl, rfl⟩ law3_main rfl
    (fun f fn hf hfn => by
      obtain rfl : f = 5 := Option.some.inj (law3_named.symm.trans hf) |>.symm
      obtain rfl : fn = Tryz.f5 := (Option.some.inj (Tryz.func5.symm.trans hfn)).symm
      exact ⟨law3_looks, fun j t ht => by
        rw [Tryz.params5] at ht
        have hm : t ∈ [37] := by simpa using Array.mem_of_getElem? ht
        exact (show Tryz.prog.wantsStandIn t = false by simpa using List.all_eq_true.1 law3_standIn t hm)⟩)
    law3_goes
#print axioms normalizeArchiveMatchesReference_holds
end Go.Proofs.YtgecijhgonfldaaGreatDoor
