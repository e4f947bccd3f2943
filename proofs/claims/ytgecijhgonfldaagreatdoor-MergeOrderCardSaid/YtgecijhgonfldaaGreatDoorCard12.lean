/- MergeOrder: the statement's row and its tied card: the law returns true at every input, within the reach that the form of the statement names. -/
import Derived.Test.YtgecijhgonfldaaGreatDoorRow12
import Derived.Test.YtgecijhgonfldaaGreatDoorFac12
import Derived.Test.YtgecijhgonfldaaGreatDoorFac12C
namespace Go.Proofs.YtgecijhgonfldaaGreatDoor
open Go Go.ChangeShapes Go.WideShapes Go.ChangeAt Go.RowKit

theorem and2_12 {a b : Bool} (h : a = true) (k : b = true) : (a && b) = true := by rw [h, k]; rfl
set_option maxRecDepth 100000 in
theorem law12_facts : joinedFacts Tryz.prog 14 Tryz.f14 Rows.mergeOrderSpec Rows.mergeOrderRow = true := by
  unfold joinedFacts
  exact and2_12 (and2_12 (and2_12 (and2_12 (and2_12 (and2_12 (and2_12 (and2_12 (and2_12 (and2_12 (and2_12 (and2_12 (and2_12 (and2_12 (and2_12 (and2_12 (and2_12 (and2_12 (and2_12 (and2_12 (and2_12 (and2_12 (and2_12 (and2_12 (and2_12 (and2_12 (and2_12 (and2_12 (and2_12 (and2_12 (and2_12 mergeOrder_k0 mergeOrder_k1) mergeOrder_k2) mergeOrder_k3) mergeOrder_k4) mergeOrder_k5) mergeOrder_k6) mergeOrder_k7) mergeOrder_k8) mergeOrder_k9) mergeOrder_k10) mergeOrder_k11) mergeOrder_k12) mergeOrder_k13) mergeOrder_k14) mergeOrder_k15) mergeOrder_k16) mergeOrder_k17) mergeOrder_k18) mergeOrder_k19) mergeOrder_k20) mergeOrder_k21) mergeOrder_k22) mergeOrder_k23) mergeOrder_k24) mergeOrder_k25) mergeOrder_k26) mergeOrder_k27) mergeOrder_k28) mergeOrder_k29) mergeOrder_k30) mergeOrder_k31
theorem law12_holds : Rows.MergeOrderSaid :=
  OpenClaim.holds_of_wide 14 Tryz.f14 rfl rfl rfl rfl rfl rfl rfl ⟨rfl, rfl, rfl, rfl, rfl⟩ rfl rfl rfl rfl rfl law12_named Tryz.func14 law12_facts
    law12_inst law12_wrap
    (fun os started H enc _ => lifted12 os started H enc)
theorem mergeOrder_holds : Rows.MergeOrderCardSaid :=
  Claim7.holds_tied_plain_at .later [] [.data, .data, .data, .data, .data, .pinned] true (true, "72d915ea65909ccc7aa6754f163e0fd9742e8f384d51c925c8dce0485ea4dd84") false law12_holds (fun _ h => by cases h) law12_wf (fun _ h => by cases h) mergeOrder_row_tie rfl ⟨rfl, rfl⟩ law12_main rfl
    (fun f fn hf hfn => by
      obtain rfl : f = 14 := Option.some.inj (law12_named.symm.trans hf) |>.symm
      obtain rfl : fn = Tryz.f14 := (Option.some.inj (Tryz.func14.symm.trans hfn)).symm
      exact ⟨law12_looks, fun j t ht => by
        rw [Tryz.params14] at ht
        have hm : t ∈ [46, 46, 46] := by simpa using Array.mem_of_getElem? ht
        exact (show Tryz.prog.wantsStandIn t = false by simpa using List.all_eq_true.1 law12_standIn t hm)⟩)
    law12_goes
#print axioms mergeOrder_holds
end Go.Proofs.YtgecijhgonfldaaGreatDoor
