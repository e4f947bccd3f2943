/- The closed facts of law 10's card, one by one. -/
import Derived.Test.YtgecijhgonfldaaGreatDoorRows
import Derived.Test.YtgecijhgonfldaaGreatDoorCards
import Derived.JoinedOf
import Derived.SevenTiedAt
import Derived.KernelRfl
namespace Go.Proofs.YtgecijhgonfldaaGreatDoor
open Go
theorem law10_named : Tryz.prog.funcNamed "feedvault/feedvaultlaw15.MergeKeepsLater" = some 12 := by kernel_rfl
theorem law10_inst : Tryz.f12.isInstance Tryz.prog Rows.mergeKeepsLaterRow.origin Rows.mergeKeepsLaterRow.targs := of_decide_eq_true (by kernel_rfl)
theorem law10_wrap : Tryz.f12.isWrapper Tryz.prog Rows.mergeKeepsLaterRow.wrapper Rows.mergeKeepsLaterRow.mainSum := by unfold Func.isWrapper; first | (rw [if_pos (by decide +kernel)]; kernel_rfl) | (rw [if_neg (by decide +kernel)]; exact ⟨rfl, rfl⟩)
theorem law10_wf : Rows.mergeKeepsLaterRow.wfByText (OpenSpec.ofChange Rows.mergeKeepsLaterSpec) = true := by kernel_rfl
theorem law10_main : Tryz.prog.mainIs = some (true, "72d915ea65909ccc7aa6754f163e0fd9742e8f384d51c925c8dce0485ea4dd84".toList) := by kernel_rfl
theorem law10_looks : false = Tryz.prog.looks [] := by kernel_rfl
theorem law10_standIn : ([46, 46].all fun u => !Tryz.prog.wantsStandIn u) = true := by kernel_rfl
theorem law10_goes : false = Rows.mergeKeepsLaterRow.goesBy Tryz.prog := by kernel_rfl
end Go.Proofs.YtgecijhgonfldaaGreatDoor
