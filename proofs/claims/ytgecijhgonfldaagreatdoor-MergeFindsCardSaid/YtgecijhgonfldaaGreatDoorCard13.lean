/- MergeFinds: the statement's row and its tied card: the law returns true at every input, within the reach that the form of the statement names. -/
import Derived.Test.YtgecijhgonfldaaGreatDoorRow13
import Derived.Test.YtgecijhgonfldaaGreatDoorFac13
import Derived.Test.YtgecijhgonfldaaGreatDoorFac13C
namespace Go.Proofs.YtgecijhgonfldaaGreatDoor
open Go Go.ChangeShapes Go.WideShapes Go.ChangeAt Go.RowKit

theorem and2_13 {a b : Bool} (h : a = true) (k : b = true) : (a && b) = true := by rw [h, k]; rfl
set_option maxRecDepth 100000 in
theorem law13_facts : joinedFacts Tryz.prog 15 Tryz.f15 Rows.mergeFindsSpec Rows.mergeFindsRow = true := by
  unfold joinedFacts
  exact and2_13 (and2_13 (and2_13 (and2_13 (and2_13 (and2_13 (and2_13 (and2_13 (and2_13 (and2_13 (and2_13 (and2_13 (and2_13 (and2_13 (and2_13 (and2_13 (and2_13 (and2_13 (and2_13 (and2_13 (and2_13 (and2_13 (and2_13 (and2_13 (and2_13 (and2_13 (and2_13 (and2_13 (and2_13 (and2_13 (and2_13 mergeFinds_k0 mergeFinds_k1) mergeFinds_k2) mergeFinds_k3) mergeFinds_k4) mergeFinds_k5) mergeFinds_k6) mergeFinds_k7) mergeFinds_k8) mergeFinds_k9) mergeFinds_k10) mergeFinds_k11) mergeFinds_k12) mergeFinds_k13) mergeFinds_k14) mergeFinds_k15) mergeFinds_k16) mergeFinds_k17) mergeFinds_k18) mergeFinds_k19) mergeFinds_k20) mergeFinds_k21) mergeFinds_k22) mergeFinds_k23) mergeFinds_k24) mergeFinds_k25) mergeFinds_k26) mergeFinds_k27) mergeFinds_k28) mergeFinds_k29) mergeFinds_k30) mergeFinds_k31
theorem law13_holds : Rows.MergeFindsSaid :=
  OpenClaim.holds_of_wide 15 Tryz.f15 rfl rfl rfl rfl rfl rfl rfl ⟨rfl, rfl, rfl, rfl, rfl⟩ rfl rfl rfl rfl rfl law13_named Tryz.func15 law13_facts
    law13_inst law13_wrap
    (fun os started H enc _ => lifted13 os started H enc)
theorem mergeFinds_holds : Rows.MergeFindsCardSaid :=
  Claim7.holds_tied_plain_at .later [] [.data, .data, .data, .data, .data, .pinned] true (true, "72d915ea65909ccc7aa6754f163e0fd9742e8f384d51c925c8dce0485ea4dd84") false law13_holds (fun _ h => by cases h) law13_wf (fun _ h => by cases h) mergeFinds_row_tie rfl ⟨rfl, rfl⟩ law13_main rfl
    (fun f fn hf hfn => by
      obtain rfl : f = 15 := Option.some.inj (law13_named.symm.trans hf) |>.symm
      obtain rfl : fn = Tryz.f15 := (Option.some.inj (Tryz.func15.symm.trans hfn)).symm
      exact ⟨law13_looks, fun j t ht => by
        rw [Tryz.params15] at ht
        have hm : t ∈ [46, 9] := by simpa using Array.mem_of_getElem? ht
        exact (show Tryz.prog.wantsStandIn t = false by simpa using List.all_eq_true.1 law13_standIn t hm)⟩)
    law13_goes
#print axioms mergeFinds_holds
end Go.Proofs.YtgecijhgonfldaaGreatDoor
