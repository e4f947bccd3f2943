/- NormalizeIgnoresOrder: the statement's row and its tied card: the law returns true at every input, within the reach that the form of the statement names. -/
import Derived.Test.YtgecijhgonfldaaGreatDoorRow7
import Derived.Test.YtgecijhgonfldaaGreatDoorFac7
import Derived.Test.YtgecijhgonfldaaGreatDoorFac7C
namespace Go.Proofs.YtgecijhgonfldaaGreatDoor
open Go Go.ChangeShapes Go.WideShapes Go.ChangeAt Go.RowKit

theorem and2_7 {a b : Bool} (h : a = true) (k : b = true) : (a && b) = true := by rw [h, k]; rfl
set_option maxRecDepth 100000 in
theorem law7_facts : joinedFacts Tryz.prog 9 Tryz.f9 Rows.normalizeIgnoresOrderSpec Rows.normalizeIgnoresOrderRow = true := by
  unfold joinedFacts
  exact and2_7 (and2_7 (and2_7 (and2_7 (and2_7 (and2_7 (and2_7 (and2_7 (and2_7 (and2_7 (and2_7 (and2_7 (and2_7 (and2_7 (and2_7 (and2_7 (and2_7 (and2_7 (and2_7 (and2_7 (and2_7 (and2_7 (and2_7 (and2_7 (and2_7 (and2_7 (and2_7 (and2_7 (and2_7 (and2_7 (and2_7 normalizeIgnoresOrder_k0 normalizeIgnoresOrder_k1) normalizeIgnoresOrder_k2) normalizeIgnoresOrder_k3) normalizeIgnoresOrder_k4) normalizeIgnoresOrder_k5) normalizeIgnoresOrder_k6) normalizeIgnoresOrder_k7) normalizeIgnoresOrder_k8) normalizeIgnoresOrder_k9) normalizeIgnoresOrder_k10) normalizeIgnoresOrder_k11) normalizeIgnoresOrder_k12) normalizeIgnoresOrder_k13) normalizeIgnoresOrder_k14) normalizeIgnoresOrder_k15) normalizeIgnoresOrder_k16) normalizeIgnoresOrder_k17) normalizeIgnoresOrder_k18) normalizeIgnoresOrder_k19) normalizeIgnoresOrder_k20) normalizeIgnoresOrder_k21) normalizeIgnoresOrder_k22) normalizeIgnoresOrder_k23) normalizeIgnoresOrder_k24) normalizeIgnoresOrder_k25) normalizeIgnoresOrder_k26) normalizeIgnoresOrder_k27) normalizeIgnoresOrder_k28) normalizeIgnoresOrder_k29) normalizeIgnoresOrder_k30) normalizeIgnoresOrder_k31
theorem law7_holds : Rows.NormalizeIgnoresOrderSaid :=
  OpenClaim.holds_of_wide 9 Tryz.f9 rfl rfl rfl rfl rfl rfl rfl ⟨rfl, rfl, rfl, rfl, rfl⟩ rfl rfl rfl rfl rfl law7_named Tryz.func9 law7_facts
    law7_inst law7_wrap
    (fun os started H enc _ => lifted7 os started H enc)
theorem normalizeIgnoresOrder_holds : Rows.NormalizeIgnoresOrderCardSaid :=
  Claim7.holds_tied_plain_at .later [] [.data, .data, .data, .data, .data, .pinned] true (true, "72d915ea65909ccc7aa6754f163e0fd9742e8f384d51c925c8dce0485ea4dd84") false law7_holds (fun _ h => by cases h) law7_wf (fun _ h => by cases h) normalizeIgnoresOrder_row_tie rfl ⟨rfl, rfl⟩ law7_main rfl
    (fun f fn hf hfn => by
      obtain rfl : f = 9 := Option.some.inj (law7_named.symm.trans hf) |>.symm
      obtain rfl : fn = Tryz.f9 := (Option.some.inj (Tryz.func9.symm.trans hfn)).symm
      exact ⟨law7_looks, fun j t ht => by
        rw [Tryz.params9] at ht
        have hm : t ∈ [37, 5] := by simpa using Array.mem_of_getElem? ht
        exact (show Tryz.prog.wantsStandIn t = false by simpa using List.all_eq_true.1 law7_standIn t hm)⟩)
    law7_goes
#print axioms normalizeIgnoresOrder_holds
end Go.Proofs.YtgecijhgonfldaaGreatDoor
