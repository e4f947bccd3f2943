/- NormalizeSplits: the statement's row and its tied card: the law returns true at every input, within the reach that the form of the statement names. -/
import Derived.Test.YtgecijhgonfldaaGreatDoorRow5
import Derived.Test.YtgecijhgonfldaaGreatDoorFac5
import Derived.Test.YtgecijhgonfldaaGreatDoorFac5C
namespace Go.Proofs.YtgecijhgonfldaaGreatDoor
open Go Go.ChangeShapes Go.WideShapes Go.ChangeAt Go.RowKit

theorem and2_5 {a b : Bool} (h : a = true) (k : b = true) : (a && b) = true := by rw [h, k]; rfl
set_option maxRecDepth 100000 in
theorem law5_facts : joinedFacts Tryz.prog 7 Tryz.f7 Rows.normalizeSplitsSpec Rows.normalizeSplitsRow = true := by
  unfold joinedFacts
  exact and2_5 (and2_5 (and2_5 (and2_5 (and2_5 (and2_5 (and2_5 (and2_5 (and2_5 (and2_5 (and2_5 (and2_5 (and2_5 (and2_5 (and2_5 (and2_5 (and2_5 (and2_5 (and2_5 (and2_5 (and2_5 (and2_5 (and2_5 (and2_5 (and2_5 (and2_5 (and2_5 (and2_5 (and2_5 (and2_5 (and2_5 normalizeSplits_k0 normalizeSplits_k1) normalizeSplits_k2) normalizeSplits_k3) normalizeSplits_k4) normalizeSplits_k5) normalizeSplits_k6) normalizeSplits_k7) normalizeSplits_k8) normalizeSplits_k9) normalizeSplits_k10) normalizeSplits_k11) normalizeSplits_k12) normalizeSplits_k13) normalizeSplits_k14) normalizeSplits_k15) normalizeSplits_k16) normalizeSplits_k17) normalizeSplits_k18) normalizeSplits_k19) normalizeSplits_k20) normalizeSplits_k21) normalizeSplits_k22) normalizeSplits_k23) normalizeSplits_k24) normalizeSplits_k25) normalizeSplits_k26) normalizeSplits_k27) normalizeSplits_k28) normalizeSplits_k29) normalizeSplits_k30) normalizeSplits_k31
theorem law5_holds : Rows.NormalizeSplitsSaid :=
  OpenClaim.holds_of_wide 7 Tryz.f7 rfl rfl rfl rfl rfl rfl rfl ⟨rfl, rfl, rfl, rfl, rfl⟩ rfl rfl rfl rfl rfl law5_named Tryz.func7 law5_facts
    law5_inst law5_wrap
    (fun os started H enc _ => lifted5 os started H enc)
theorem normalizeSplits_holds : Rows.NormalizeSplitsCardSaid :=
  Claim7.holds_tied_plain_at .later [] [.data, .data, .data, .data, .data, .pinned] true (true, "72d915ea65909ccc7aa6754f163e0fd9742e8f384d51c925c8dce0485ea4dd84") false law5_holds (fun _ h => by cases h) law5_wf (fun _ h => by cases h) normalizeSplits_row_tie rfl ⟨rfl, rfl⟩ law5_main rfl
    (fun f fn hf hfn => by
      obtain rfl : f = 7 := Option.some.inj (law5_named.symm.trans hf) |>.symm
      obtain rfl : fn = Tryz.f7 := (Option.some.inj (Tryz.func7.symm.trans hfn)).symm
      exact ⟨law5_looks, fun j t ht => by
        rw [Tryz.params7] at ht
        have hm : t ∈ [35, 5] := by simpa using Array.mem_of_getElem? ht
        exact (show Tryz.prog.wantsStandIn t = false by simpa using List.all_eq_true.1 law5_standIn t hm)⟩)
    law5_goes
#print axioms normalizeSplits_holds
end Go.Proofs.YtgecijhgonfldaaGreatDoor
