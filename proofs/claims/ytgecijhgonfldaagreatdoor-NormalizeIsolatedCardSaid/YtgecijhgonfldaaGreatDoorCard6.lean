/- NormalizeIsolated: the statement's row and its tied card: the law returns true at every input, within the reach that the form of the statement names. -/
import Derived.Test.YtgecijhgonfldaaGreatDoorRow6
import Derived.Test.YtgecijhgonfldaaGreatDoorFac6
import Derived.Test.YtgecijhgonfldaaGreatDoorFac6C
namespace Go.Proofs.YtgecijhgonfldaaGreatDoor
open Go Go.ChangeShapes Go.WideShapes Go.ChangeAt Go.RowKit

theorem and2_6 {a b : Bool} (h : a = true) (k : b = true) : (a && b) = true := by rw [h, k]; rfl
set_option maxRecDepth 100000 in
theorem law6_facts : joinedFacts Tryz.prog 8 Tryz.f8 Rows.normalizeIsolatedSpec Rows.normalizeIsolatedRow = true := by
  unfold joinedFacts
  exact and2_6 (and2_6 (and2_6 (and2_6 (and2_6 (and2_6 (and2_6 (and2_6 (and2_6 (and2_6 (and2_6 (and2_6 (and2_6 (and2_6 (and2_6 (and2_6 (and2_6 (and2_6 (and2_6 (and2_6 (and2_6 (and2_6 (and2_6 (and2_6 (and2_6 (and2_6 (and2_6 (and2_6 (and2_6 (and2_6 (and2_6 normalizeIsolated_k0 normalizeIsolated_k1) normalizeIsolated_k2) normalizeIsolated_k3) normalizeIsolated_k4) normalizeIsolated_k5) normalizeIsolated_k6) normalizeIsolated_k7) normalizeIsolated_k8) normalizeIsolated_k9) normalizeIsolated_k10) normalizeIsolated_k11) normalizeIsolated_k12) normalizeIsolated_k13) normalizeIsolated_k14) normalizeIsolated_k15) normalizeIsolated_k16) normalizeIsolated_k17) normalizeIsolated_k18) normalizeIsolated_k19) normalizeIsolated_k20) normalizeIsolated_k21) normalizeIsolated_k22) normalizeIsolated_k23) normalizeIsolated_k24) normalizeIsolated_k25) normalizeIsolated_k26) normalizeIsolated_k27) normalizeIsolated_k28) normalizeIsolated_k29) normalizeIsolated_k30) normalizeIsolated_k31
theorem law6_holds : Rows.NormalizeIsolatedSaid :=
  OpenClaim.holds_of_wide 8 Tryz.f8 rfl rfl rfl rfl rfl rfl rfl ⟨rfl, rfl, rfl, rfl, rfl⟩ rfl rfl rfl rfl rfl law6_named Tryz.func8 law6_facts
    law6_inst law6_wrap
    (fun os started H enc _ => lifted6 os started H enc)
theorem normalizeIsolated_holds : Rows.NormalizeIsolatedCardSaid :=
  Claim7.holds_tied_plain_at .later [] [.data, .data, .data, .data, .data, .pinned] true (true, "72d915ea65909ccc7aa6754f163e0fd9742e8f384d51c925c8dce0485ea4dd84") false law6_holds (fun _ h => by cases h) law6_wf (fun _ h => by cases h) normalizeIsolated_row_tie rfl ⟨rfl, rfl⟩ law6_main rfl
    (fun f fn hf hfn => by
      obtain rfl : f = 8 := Option.some.inj (law6_named.symm.trans hf) |>.symm
      obtain rfl : fn = Tryz.f8 := (Option.some.inj (Tryz.func8.symm.trans hfn)).symm
      exact ⟨law6_looks, fun j t ht => by
        rw [Tryz.params8] at ht
        have hm : t ∈ [37] := by simpa using Array.mem_of_getElem? ht
        exact (show Tryz.prog.wantsStandIn t = false by simpa using List.all_eq_true.1 law6_standIn t hm)⟩)
    law6_goes
#print axioms normalizeIsolated_holds
end Go.Proofs.YtgecijhgonfldaaGreatDoor
