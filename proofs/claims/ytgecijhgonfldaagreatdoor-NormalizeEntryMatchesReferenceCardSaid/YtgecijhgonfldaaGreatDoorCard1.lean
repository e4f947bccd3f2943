/- NormalizeEntryMatchesReference: the statement's row and its tied card. -/
import Derived.Test.YtgecijhgonfldaaGreatDoorM36
import Derived.Test.YtgecijhgonfldaaGreatDoorFac1
import Derived.Test.YtgecijhgonfldaaGreatDoorFac1C
namespace Go.Proofs.YtgecijhgonfldaaGreatDoor
open Go Go.ChangeShapes Go.WideShapes Go.ChangeAt Go.RowKit

theorem and2 {a b : Bool} (h : a = true) (k : b = true) : (a && b) = true := by rw [h, k]; rfl
set_option maxRecDepth 100000 in
theorem law1_facts : joinedFacts Tryz.prog 3 Tryz.f3 Rows.normalizeEntryMatchesReferenceSpec Rows.normalizeEntryMatchesReferenceRow = true := by
  unfold joinedFacts
  exact and2 (and2 (and2 (and2 (and2 (and2 (and2 (and2 (and2 (and2 (and2 (and2 (and2 (and2 (and2 (and2 (and2 (and2 (and2 (and2 (and2 (and2 (and2 (and2 (and2 (and2 (and2 (and2 (and2 (and2 (and2 normalizeEntryMatchesReference_k0 normalizeEntryMatchesReference_k1) normalizeEntryMatchesReference_k2) normalizeEntryMatchesReference_k3) normalizeEntryMatchesReference_k4) normalizeEntryMatchesReference_k5) normalizeEntryMatchesReference_k6) normalizeEntryMatchesReference_k7) normalizeEntryMatchesReference_k8) normalizeEntryMatchesReference_k9) normalizeEntryMatchesReference_k10) normalizeEntryMatchesReference_k11) normalizeEntryMatchesReference_k12) normalizeEntryMatchesReference_k13) normalizeEntryMatchesReference_k14) normalizeEntryMatchesReference_k15) normalizeEntryMatchesReference_k16) normalizeEntryMatchesReference_k17) normalizeEntryMatchesReference_k18) normalizeEntryMatchesReference_k19) normalizeEntryMatchesReference_k20) normalizeEntryMatchesReference_k21) normalizeEntryMatchesReference_k22) normalizeEntryMatchesReference_k23) normalizeEntryMatchesReference_k24) normalizeEntryMatchesReference_k25) normalizeEntryMatchesReference_k26) normalizeEntryMatchesReference_k27) normalizeEntryMatchesReference_k28) normalizeEntryMatchesReference_k29) normalizeEntryMatchesReference_k30) normalizeEntryMatchesReference_k31
theorem law1_holds : Rows.NormalizeEntryMatchesReferenceSaid :=
  OpenClaim.holds_of_wide 3 Tryz.f3 rfl rfl rfl rfl rfl rfl rfl ⟨rfl, rfl, rfl, rfl, rfl⟩ rfl rfl rfl rfl rfl law1_named Tryz.func3 law1_facts
    law1_inst law1_wrap
    (fun os started H enc _ => lifted1 os started H enc)
theorem normalizeEntryMatchesReference_holds : Rows.NormalizeEntryMatchesReferenceCardSaid :=
  Claim7.holds_tied_plain_at .later [] [.data, .data, .data, .data, .data, .pinned] true (true, "72d915ea65909ccc7aa6754f163e0fd9742e8f384d51c925c8dce0485ea4dd84") false law1_holds (fun _ h => by cases h) law1_wf (fun _ h => by cases h) normalizeEntryMatchesReference_row_tie rfl ⟨rfl, rfl⟩ law1_main rfl
    (fun f fn hf hfn => by
      obtain rfl : f = 3 := Option.some.inj (law1_named.symm.trans hf) |>.symm
      obtain rfl : fn = Tryz.f3 := (Option.some.inj (Tryz.func3.symm.trans hfn)).symm
      exact ⟨law1_looks, fun j t ht => by
        rw [Tryz.params3] at ht
        have hm : t ∈ [23] := by simpa using Array.mem_of_getElem? ht
        exact (show Tryz.prog.wantsStandIn t = false by simpa using List.all_eq_true.1 law1_standIn t hm)⟩)
    law1_goes
#print axioms normalizeEntryMatchesReference_holds
end Go.Proofs.YtgecijhgonfldaaGreatDoor
