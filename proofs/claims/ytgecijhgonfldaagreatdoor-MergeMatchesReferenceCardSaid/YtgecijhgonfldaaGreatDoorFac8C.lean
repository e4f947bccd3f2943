/- The closed facts of law 8's card, one by one. -/
import Derived.Test.YtgecijhgonfldaaGreatDoorRows
import Derived.Test.YtgecijhgonfldaaGreatDoorCards
import Derived.JoinedOf
import Derived.SevenTiedAt
import Derived.KernelRfl
namespace Go.Proofs.YtgecijhgonfldaaGreatDoor
open Go
theorem law8_named : Tryz.prog.funcNamed "feedvault/feedvaultlaw15.MergeMatchesReference" = some 10 := by kernel_rfl
theorem law8_inst : Tryz.f10.isInstance Tryz.prog Rows.mergeMatchesReferenceRow.origin Rows.mergeMatchesReferenceRow.targs := of_decide_eq_true (by kernel_rfl)
theorem law8_wrap : Tryz.f10.isWrapper Tryz.prog Rows.mergeMatchesReferenceRow.wrapper Rows.mergeMatchesReferenceRow.mainSum := by unfold Func.isWrapper; first | (rw [if_pos (by decide +kernel)]; kernel_rfl) | (rw [if_neg (by decide +kernel)]; exact ⟨rfl, rfl⟩)
theorem law8_wf : Rows.mergeMatchesReferenceRow.wfByText (OpenSpec.ofChange Rows.mergeMatchesReferenceSpec) = true := by kernel_rfl
theorem law8_main : Tryz.prog.mainIs = some (true, "72d915ea65909ccc7aa6754f163e0fd9742e8f384d51c925c8dce0485ea4dd84".toList) := by kernel_rfl
theorem law8_looks : false = Tryz.prog.looks [] := by kernel_rfl
theorem law8_standIn : ([59].all fun u => !Tryz.prog.wantsStandIn u) = true := by kernel_rfl
theorem law8_goes : false = Rows.mergeMatchesReferenceRow.goesBy Tryz.prog := by kernel_rfl
end Go.Proofs.YtgecijhgonfldaaGreatDoor
