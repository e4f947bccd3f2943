/- The closed facts of law 3's card, one by one. -/
import Derived.Test.YtgecijhgonfldaaGreatDoorRows
import Derived.Test.YtgecijhgonfldaaGreatDoorCards
import Derived.JoinedOf
import Derived.SevenTiedAt
import Derived.KernelRfl
namespace Go.Proofs.YtgecijhgonfldaaGreatDoor
open Go
theorem law3_named : Tryz.prog.funcNamed "feedvault/feedvaultlaw14.NormalizeArchiveMatchesReference" = some 5 := by kernel_rfl
theorem law3_inst : Tryz.f5.isInstance Tryz.prog Rows.normalizeArchiveMatchesReferenceRow.origin Rows.normalizeArchiveMatchesReferenceRow.targs := of_decide_eq_true (by kernel_rfl)
theorem law3_wrap : Tryz.f5.isWrapper Tryz.prog Rows.normalizeArchiveMatchesReferenceRow.wrapper Rows.normalizeArchiveMatchesReferenceRow.mainSum := by unfold Func.isWrapper; first | (rw [if_pos (by decide +kernel)]; kernel_rfl) | (rw [if_neg (by decide +kernel)]; exact ⟨rfl, rfl⟩)
theorem law3_wf : Rows.normalizeArchiveMatchesReferenceRow.wfByText (OpenSpec.ofChange Rows.normalizeArchiveMatchesReferenceSpec) = true := by kernel_rfl
theorem law3_main : Tryz.prog.mainIs = some (true, "72d915ea65909ccc7aa6754f163e0fd9742e8f384d51c925c8dce0485ea4dd84".toList) := by kernel_rfl
theorem law3_looks : false = Tryz.prog.looks [] := by kernel_rfl
theorem law3_standIn : ([37].all fun u => !Tryz.prog.wantsStandIn u) = true := by kernel_rfl
theorem law3_goes : false = Rows.normalizeArchiveMatchesReferenceRow.goesBy Tryz.prog := by kernel_rfl
end Go.Proofs.YtgecijhgonfldaaGreatDoor
