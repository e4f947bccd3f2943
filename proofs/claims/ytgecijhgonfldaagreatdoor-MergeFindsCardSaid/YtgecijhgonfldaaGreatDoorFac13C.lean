/- The closed facts of law 13's card, one by one. -/
import Derived.Test.YtgecijhgonfldaaGreatDoorRows
import Derived.Test.YtgecijhgonfldaaGreatDoorCards
import Derived.JoinedOf
import Derived.SevenTiedAt
import Derived.KernelRfl
namespace Go.Proofs.YtgecijhgonfldaaGreatDoor
open Go
theorem law13_named : Tryz.prog.funcNamed "feedvault/feedvaultlaw15.MergeFinds" = some 15 := by kernel_rfl
theorem law13_inst : Tryz.f15.isInstance Tryz.prog Rows.mergeFindsRow.origin Rows.mergeFindsRow.targs := of_decide_eq_true (by kernel_rfl)
theorem law13_wrap : Tryz.f15.isWrapper Tryz.prog Rows.mergeFindsRow.wrapper Rows.mergeFindsRow.mainSum := by unfold Func.isWrapper; first | (rw [if_pos (by decide +kernel)]; kernel_rfl) | (rw [if_neg (by decide +kernel)]; exact ⟨rfl, rfl⟩)
theorem law13_wf : Rows.mergeFindsRow.wfByText (OpenSpec.ofChange Rows.mergeFindsSpec) = true := by kernel_rfl
theorem law13_main : Tryz.prog.mainIs = some (true, "72d915ea65909ccc7aa6754f163e0fd9742e8f384d51c925c8dce0485ea4dd84".toList) := by kernel_rfl
theorem law13_looks : false = Tryz.prog.looks [] := by kernel_rfl
theorem law13_standIn : ([46, 9].all fun u => !Tryz.prog.wantsStandIn u) = true := by kernel_rfl
theorem law13_goes : false = Rows.mergeFindsRow.goesBy Tryz.prog := by kernel_rfl
end Go.Proofs.YtgecijhgonfldaaGreatDoor
