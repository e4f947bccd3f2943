/- The closed facts of law 6's card, one by one. -/
import Derived.Test.YtgecijhgonfldaaGreatDoorRows
import Derived.Test.YtgecijhgonfldaaGreatDoorCards
import Derived.JoinedOf
import Derived.SevenTiedAt
import Derived.KernelRfl
namespace Go.Proofs.YtgecijhgonfldaaGreatDoor
open Go
theorem law6_named : Tryz.prog.funcNamed "feedvault/feedvaultlaw14.NormalizeIsolated" = some 8 := by kernel_rfl
theorem law6_inst : Tryz.f8.isInstance Tryz.prog Rows.normalizeIsolatedRow.origin Rows.normalizeIsolatedRow.targs := of_decide_eq_true (by kernel_rfl)
theorem law6_wrap : Tryz.f8.isWrapper Tryz.prog Rows.normalizeIsolatedRow.wrapper Rows.normalizeIsolatedRow.mainSum := by unfold Func.isWrapper; first | (rw [if_pos (by decide +kernel)]; kernel_rfl) | (rw [if_neg (by decide +kernel)]; exact ⟨rfl, rfl⟩)
theorem law6_wf : Rows.normalizeIsolatedRow.wfByText (OpenSpec.ofChange Rows.normalizeIsolatedSpec) = true := by kernel_rfl
theorem law6_main : Tryz.prog.mainIs = some (true, "72d915ea65909ccc7aa6754f163e0fd9742e8f384d51c925c8dce0485ea4dd84".toList) := by kernel_rfl
theorem law6_looks : false = Tryz.prog.looks [] := by kernel_rfl
theorem law6_standIn : ([37].all fun u => !Tryz.prog.wantsStandIn u) = true := by kernel_rfl
theorem law6_goes : false = Rows.normalizeIsolatedRow.goesBy Tryz.prog := by kernel_rfl
end Go.Proofs.YtgecijhgonfldaaGreatDoor
