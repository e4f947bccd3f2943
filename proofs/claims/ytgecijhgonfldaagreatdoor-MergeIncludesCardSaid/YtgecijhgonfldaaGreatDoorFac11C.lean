/- The closed facts of law 11's card, one by one. -/
import Derived.Test.YtgecijhgonfldaaGreatDoorRows
import Derived.Test.YtgecijhgonfldaaGreatDoorCards
import Derived.JoinedOf
import Derived.SevenTiedAt
import Derived.KernelRfl
namespace Go.Proofs.YtgecijhgonfldaaGreatDoor
open Go
theorem law11_named : Tryz.prog.funcNamed "feedvault/feedvaultlaw15.MergeIncludes" = some 13 := by kernel_rfl
theorem law11_inst : Tryz.f13.isInstance Tryz.prog Rows.mergeIncludesRow.origin Rows.mergeIncludesRow.targs := of_decide_eq_true (by kernel_rfl)
theorem law11_wrap : Tryz.f13.isWrapper Tryz.prog Rows.mergeIncludesRow.wrapper Rows.mergeIncludesRow.mainSum := by unfold Func.isWrapper; first | (rw [if_pos (by decide +kernel)]; kernel_rfl) | (rw [if_neg (by decide +kernel)]; exact ⟨rfl, rfl⟩)
theorem law11_wf : Rows.mergeIncludesRow.wfByText (OpenSpec.ofChange Rows.mergeIncludesSpec) = true := by kernel_rfl
theorem law11_main : Tryz.prog.mainIs = some (true, "72d915ea65909ccc7aa6754f163e0fd9742e8f384d51c925c8dce0485ea4dd84".toList) := by kernel_rfl
theorem law11_looks : false = Tryz.prog.looks [] := by kernel_rfl
theorem law11_standIn : ([46, 46].all fun u => !Tryz.prog.wantsStandIn u) = true := by kernel_rfl
theorem law11_goes : false = Rows.mergeIncludesRow.goesBy Tryz.prog := by kernel_rfl
end Go.Proofs.YtgecijhgonfldaaGreatDoor
