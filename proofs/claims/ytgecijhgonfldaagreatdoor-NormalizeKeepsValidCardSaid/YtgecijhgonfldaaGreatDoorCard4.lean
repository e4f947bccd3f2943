/- NormalizeKeepsValid: the statement's row and its tied card: the law returns true at every input, within the reach that the form of the statement names. -/
import Derived.Test.YtgecijhgonfldaaGreatDoorRow4
import Derived.Test.YtgecijhgonfldaaGreatDoorFac4
import Derived.Test.YtgecijhgonfldaaGreatDoorFac4C
namespace Go.Proofs.YtgecijhgonfldaaGreatDoor
open Go Go.ChangeShapes Go.WideShapes Go.ChangeAt Go.RowKit

theorem and2_4 {a b : Bool} (h : a = true) (k : b = true) : (a && b) = true := by rw [h, k]; rfl
set_option maxRecDepth 100000 in
theorem law4_facts : joinedFacts Tryz.prog 6 Tryz.f6 Rows.normalizeKeepsValidSpec Rows.normalizeKeepsValidRow = true := by
  unfold joinedFacts
  exact and2_4 (and2_4 (and2_4 (and2_4 (and2_4 (and2_4 (and2_4 (and2_4 (and2_4 (and2_4 (and2_4 (and2_4 (and2_4 (and2_4 (and2_4 (and2_4 (and2_4 (and2_4 (and2_4 (and2_4 (and2_4 (and2_4 (and2_4 (and2_4 (and2_4 (and2_4 (and2_4 (and2_4 (and2_4 (and2_4 (and2_4 normalizeKeepsValid_k0 normalizeKeepsValid_k1) normalizeKeepsValid_k2) normalizeKeepsValid_k3) normalizeKeepsValid_k4) normalizeKeepsValid_k5) normalizeKeepsValid_k6) normalizeKeepsValid_k7) normalizeKeepsValid_k8) normalizeKeepsValid_k9) normalizeKeepsValid_k10) normalizeKeepsValid_k11) normalizeKeepsValid_k12) normalizeKeepsValid_k13) normalizeKeepsValid_k14) normalizeKeepsValid_k15) normalizeKeepsValid_k16) normalizeKeepsValid_k17) normalizeKeepsValid_k18) normalizeKeepsValid_k19) normalizeKeepsValid_k20) normalizeKeepsValid_k21) normalizeKeepsValid_k22) normalizeKeepsValid_k23) normalizeKeepsValid_k24) normalizeKeepsValid_k25) normalizeKeepsValid_k26) normalizeKeepsValid_k27) normalizeKeepsValid_k28) normalizeKeepsValid_k29) normalizeKeepsValid_k30) normalizeKeepsValid_k31
theorem law4_holds : Rows.NormalizeKeepsValidSaid :=
  OpenClaim.holds_of_wide 6 Tryz.f6 rfl rfl rfl rfl rfl rfl rfl ⟨rfl, rfl, rfl, rfl, rfl⟩ rfl rfl rfl rfl rfl law4_named Tryz.func6 law4_facts
    law4_inst law4_wrap
    (fun os started H enc _ => lifted4 os started H enc)
theorem normalizeKeepsValid_holds : Rows.NormalizeKeepsValidCardSaid :=
  Claim7.holds_tied_plain_at .later [] [.data, .data, .data, .data, .data, .pinned] true (true, "72d915ea65909ccc7aa6754f163e0fd9742e8f384d51c925c8dce0485ea4dd84") false law4_holds (fun _ h => by cases h) law4_wf (fun _ h => by cases h) normalizeKeepsValid_row_tie rfl ⟨rfl, rfl⟩ law4_main rfl
    (fun f fn hf hfn => by
      obtain rfl : f = 6 := Option.some.inj (law4_named.symm.trans hf) |>.symm
      obtain rfl : fn = Tryz.f6 := (Option.some.inj (Tryz.func6.symm.trans hfn)).symm
      exact ⟨law4_looks, fun j t ht => by
        rw [Tryz.params6] at ht
        have hm : t ∈ [46] := by simpa using Array.mem_of_getElem? ht
        exact (show Tryz.prog.wantsStandIn t = false by simpa using List.all_eq_true.1 law4_standIn t hm)⟩)
    law4_goes
#print axioms normalizeKeepsValid_holds
end Go.Proofs.YtgecijhgonfldaaGreatDoor
