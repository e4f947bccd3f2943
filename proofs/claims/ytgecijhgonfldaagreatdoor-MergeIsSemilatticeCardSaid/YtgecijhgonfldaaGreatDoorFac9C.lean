/- The closed facts of law 9's card, one by one. -/
import Derived.Test.YtgecijhgonfldaaGreatDoorRows
import Derived.Test.YtgecijhgonfldaaGreatDoorCards
import Derived.JoinedOf
import Derived.SevenTiedAt
import Derived.KernelRfl
namespace Go.Proofs.YtgecijhgonfldaaGreatDoor
open Go
theorem law9_named : Tryz.prog.funcNamed "feedvault/feedvaultlaw15.MergeIsSemilattice" = some 11 := by kernel_rfl
theorem law9_inst : Tryz.f11.isInstance Tryz.prog Rows.mergeIsSemilatticeRow.origin Rows.mergeIsSemilatticeRow.targs := of_decide_eq_true (by kernel_rfl)
theorem law9_wrap : Tryz.f11.isWrapper Tryz.prog Rows.mergeIsSemilatticeRow.wrapper Rows.mergeIsSemilatticeRow.mainSum := by unfold Func.isWrapper; first | (rw [if_pos (by decide +kernel)]; kernel_rfl) | (rw [if_neg (by decide +kernel)]; exact ⟨rfl, rfl⟩)
theorem law9_wf : Rows.mergeIsSemilatticeRow.wfByText (OpenSpec.ofChange Rows.mergeIsSemilatticeSpec) = true := by kernel_rfl
theorem law9_main : Tryz.prog.mainIs = some (true, "72d915ea65909ccc7aa6754f163e0fd9742e8f384d51c925c8dce0485ea4dd84".toList) := by kernel_rfl
theorem law9_looks : false = Tryz.prog.looks [] := by kernel_rfl
theorem law9_standIn : ([46, 46, 46].all fun u => !Tryz.prog.wantsStandIn u) = true := by kernel_rfl
theorem law9_goes : false = Rows.mergeIsSemilatticeRow.goesBy Tryz.prog := by kernel_rfl
end Go.Proofs.YtgecijhgonfldaaGreatDoor
