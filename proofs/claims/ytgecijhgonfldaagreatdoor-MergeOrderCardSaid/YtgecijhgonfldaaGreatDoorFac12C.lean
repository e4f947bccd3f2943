/- The closed facts of law 12's card, one by one. -/
import Derived.Test.YtgecijhgonfldaaGreatDoorRows
import Derived.Test.YtgecijhgonfldaaGreatDoorCards
import Derived.JoinedOf
import Derived.SevenTiedAt
import Derived.KernelRfl
namespace Go.Proofs.YtgecijhgonfldaaGreatDoor
open Go
theorem law12_named : Tryz.prog.funcNamed "feedvault/feedvaultlaw15.MergeOrder" = some 14 := by kernel_rfl
theorem law12_inst : Tryz.f14.isInstance Tryz.prog Rows.mergeOrderRow.origin Rows.mergeOrderRow.targs := of_decide_eq_true (by kernel_rfl)
theorem law12_wrap : Tryz.f14.isWrapper Tryz.prog Rows.mergeOrderRow.wrapper Rows.mergeOrderRow.mainSum := by unfold Func.isWrapper; first | (rw [if_pos (by decide +kernel)]; kernel_rfl) | (rw [if_neg (by decide +kernel)]; exact ⟨rfl, rfl⟩)
theorem law12_wf : Rows.mergeOrderRow.wfByText (OpenSpec.ofChange Rows.mergeOrderSpec) = true := by kernel_rfl
theorem law12_main : Tryz.prog.mainIs = some (true, "72d915ea65909ccc7aa6754f163e0fd9742e8f384d51c925c8dce0485ea4dd84".toList) := by kernel_rfl
theorem law12_looks : false = Tryz.prog.looks [] := by kernel_rfl
theorem law12_standIn : ([46, 46, 46].all fun u => !Tryz.prog.wantsStandIn u) = true := by kernel_rfl
theorem law12_goes : false = Rows.mergeOrderRow.goesBy Tryz.prog := by kernel_rfl
end Go.Proofs.YtgecijhgonfldaaGreatDoor
