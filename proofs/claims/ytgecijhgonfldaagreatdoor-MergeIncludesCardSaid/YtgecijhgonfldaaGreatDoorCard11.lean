/- MergeIncludes: the statement's row and its tied card: the law returns true at every input, within the reach that the form of the statement names. -/
import Derived.Test.YtgecijhgonfldaaGreatDoorRow11
import Derived.Test.YtgecijhgonfldaaGreatDoorFac11
import Derived.Test.YtgecijhgonfldaaGreatDoorFac11C
namespace Go.Proofs.YtgecijhgonfldaaGreatDoor
open Go Go.ChangeShapes Go.WideShapes Go.ChangeAt Go.RowKit

theorem and2_11 {a b : Bool} (h : a = true) (k : b = true) : (a && b) = true := by rw [h, k]; rfl
set_option maxRecDepth 100000 in
theorem law11_facts : joinedFacts Tryz.prog 13 Tryz.f13 Rows.mergeIncludesSpec Rows.mergeIncludesRow = true := by
  unfold joinedFacts
  exact and2_11 (and2_11 (and2_11 (and2_11 (and2_11 (and2_11 (and2_11 (and2_11 (and2_11 (and2_11 (and2_11 (and2_11 (and2_11 (and2_11 (and2_11 (and2_11 (and2_11 (and2_11 (and2_11 (and2_11 (and2_11 (and2_11 (and2_11 (and2_11 (and2_11 (and2_11 (and2_11 (and2_11 (and2_11 (and2_11 (and2_11 mergeIncludes_k0 mergeIncludes_k1) mergeIncludes_k2) mergeIncludes_k3) mergeIncludes_k4) mergeIncludes_k5) mergeIncludes_k6) mergeIncludes_k7) mergeIncludes_k8) mergeIncludes_k9) mergeIncludes_k10) mergeIncludes_k11) mergeIncludes_k12) mergeIncludes_k13) mergeIncludes_k14) mergeIncludes_k15) mergeIncludes_k16) mergeIncludes_k17) mergeIncludes_k18) mergeIncludes_k19) mergeIncludes_k20) mergeIncludes_k21) mergeIncludes_k22) mergeIncludes_k23) mergeIncludes_k24) mergeIncludes_k25) mergeIncludes_k26) mergeIncludes_k27) mergeIncludes_k28) mergeIncludes_k29) mergeIncludes_k30) mergeIncludes_k31
theorem law11_holds : Rows.MergeIncludesSaid :=
  OpenClaim.holds_of_wide 13 Tryz.f13 rfl rfl rfl rfl rfl rfl rfl ⟨rfl, rfl, rfl, rfl, rfl⟩ rfl rfl rfl rfl rfl law11_named Tryz.func13 law11_facts
    law11_inst law11_wrap
    (fun os started H enc _ => lifted11 os started H enc)
theorem mergeIncludes_holds : Rows.MergeIncludesCardSaid :=
  Claim7.holds_tied_plain_at .later [] [.data, .data, .data, .data, .data, .pinned] true (true, "72d915ea65909ccc7aa6754f163e0fd9742e8f384d51c925c8dce0485ea4dd84") false law11_holds (fun _ h => by cases h) law11_wf (fun _ h => by cases h) mergeIncludes_row_tie rfl ⟨rfl, rfl⟩ law11_main rfl
    (fun f fn hf hfn => by
      obtain rfl : f = 13 := Option.some.inj (law11_named.symm.trans hf) |>.symm
      obtain rfl : fn = Tryz.f13 := (Option.some.inj (Tryz.func13.symm.trans hfn)).symm
      exact ⟨law11_looks, fun j t ht => by
        rw [Tryz.params13] at ht
        have hm : t ∈ [46, 46] := by simpa using Array.mem_of_getElem? ht
        exact (show Tryz.prog.wantsStandIn t = false by simpa using List.all_eq_true.1 law11_standIn t hm)⟩)
    law11_goes
#print axioms mergeIncludes_holds
end Go.Proofs.YtgecijhgonfldaaGreatDoor
