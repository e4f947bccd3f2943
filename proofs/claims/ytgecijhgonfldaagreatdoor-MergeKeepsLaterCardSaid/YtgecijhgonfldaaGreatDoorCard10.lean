/- MergeKeepsLater: the statement's row and its tied card: the law returns true at every input, within the reach that the form of the statement names. -/
import Derived.Test.YtgecijhgonfldaaGreatDoorRow10
import Derived.Test.YtgecijhgonfldaaGreatDoorFac10
import Derived.Test.YtgecijhgonfldaaGreatDoorFac10C
namespace Go.Proofs.YtgecijhgonfldaaGreatDoor
open Go Go.ChangeShapes Go.WideShapes Go.ChangeAt Go.RowKit

theorem and2_10 {a b : Bool} (h : a = true) (k : b = true) : (a && b) = true := by rw [h, k]; rfl
set_option maxRecDepth 100000 in
theorem law10_facts : joinedFacts Tryz.prog 12 Tryz.f12 Rows.mergeKeepsLaterSpec Rows.mergeKeepsLaterRow = true := by
  unfold joinedFacts
  exact and2_10 (and2_10 (and2_10 (and2_10 (and2_10 (and2_10 (and2_10 (and2_10 (and2_10 (and2_10 (and2_10 (and2_10 (and2_10 (and2_10 (and2_10 (and2_10 (and2_10 (and2_10 (and2_10 (and2_10 (and2_10 (and2_10 (and2_10 (and2_10 (and2_10 (and2_10 (and2_10 (and2_10 (and2_10 (and2_10 (and2_10 mergeKeepsLater_k0 mergeKeepsLater_k1) mergeKeepsLater_k2) mergeKeepsLater_k3) mergeKeepsLater_k4) mergeKeepsLater_k5) mergeKeepsLater_k6) mergeKeepsLater_k7) mergeKeepsLater_k8) mergeKeepsLater_k9) mergeKeepsLater_k10) mergeKeepsLater_k11) mergeKeepsLater_k12) mergeKeepsLater_k13) mergeKeepsLater_k14) mergeKeepsLater_k15) mergeKeepsLater_k16) mergeKeepsLater_k17) mergeKeepsLater_k18) mergeKeepsLater_k19) mergeKeepsLater_k20) mergeKeepsLater_k21) mergeKeepsLater_k22) mergeKeepsLater_k23) mergeKeepsLater_k24) mergeKeepsLater_k25) mergeKeepsLater_k26) mergeKeepsLater_k27) mergeKeepsLater_k28) mergeKeepsLater_k29) mergeKeepsLater_k30) mergeKeepsLater_k31
theorem law10_holds : Rows.MergeKeepsLaterSaid :=
  OpenClaim.holds_of_wide 12 Tryz.f12 rfl rfl rfl rfl rfl rfl rfl ⟨rfl, rfl, rfl, rfl, rfl⟩ rfl rfl rfl rfl rfl law10_named Tryz.func12 law10_facts
    law10_inst law10_wrap
    (fun os started H enc _ => lifted10 os started H enc)
theorem mergeKeepsLater_holds : Rows.MergeKeepsLaterCardSaid :=
  Claim7.holds_tied_plain_at .later [] [.data, .data, .data, .data, .data, .pinned] true (true, "72d915ea65909ccc7aa6754f163e0fd9742e8f384d51c925c8dce0485ea4dd84") false law10_holds (fun _ h => by cases h) law10_wf (fun _ h => by cases h) mergeKeepsLater_row_tie rfl ⟨rfl, rfl⟩ law10_main rfl
    (fun f fn hf hfn => by
      obtain rfl : f = 12 := Option.some.inj (law10_named.symm.trans hf) |>.symm
      obtain rfl : fn = Tryz.f12 := (Option.some.inj (Tryz.func12.symm.trans hfn)).symm
      exact ⟨law10_looks, fun j t ht => by
        rw [Tryz.params12] at ht
        have hm : t ∈ [46, 46] := by simpa using Array.mem_of_getElem? ht
        exact (show Tryz.prog.wantsStandIn t = false by simpa using List.all_eq_true.1 law10_standIn t hm)⟩)
    law10_goes
#print axioms mergeKeepsLater_holds
end Go.Proofs.YtgecijhgonfldaaGreatDoor
