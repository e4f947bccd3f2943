/- The closed facts of law 2's card, one by one. -/
import Derived.Test.YtgecijhgonfldaaGreatDoorRows
import Derived.Test.YtgecijhgonfldaaGreatDoorCards
import Derived.JoinedOf
import Derived.SevenTiedAt
import Derived.KernelRfl
namespace Go.Proofs.YtgecijhgonfldaaGreatDoor
open Go
theorem law2_named : Tryz.prog.funcNamed "feedvault/feedvaultlaw14.NormalizeFeedMatchesReference" = some 4 := by kernel_rfl
theorem law2_inst : Tryz.f4.isInstance Tryz.prog Rows.normalizeFeedMatchesReferenceRow.origin Rows.normalizeFeedMatchesReferenceRow.targs := of_decide_eq_true (by kernel_rfl)
theorem law2_wrap : Tryz.f4.isWrapper Tryz.prog Rows.normalizeFeedMatchesReferenceRow.wrapper Rows.normalizeFeedMatchesReferenceRow.mainSum := by unfold Func.isWrapper; first | (rw [if_pos (by decide +kernel)]; kernel_rfl) | (rw [if_neg (by decide +kernel)]; exact ⟨rfl, rfl⟩)
theorem law2_wf : Rows.normalizeFeedMatchesReferenceRow.wfByText (OpenSpec.ofChange Rows.normalizeFeedMatchesReferenceSpec) = true := by kernel_rfl
theorem law2_main : Tryz.prog.mainIs = some (true, "72d915ea65909ccc7aa6754f163e0fd9742e8f384d51c925c8dce0485ea4dd84".toList) := by kernel_rfl
theorem law2_looks : false = Tryz.prog.looks [] := by kernel_rfl
theorem law2_standIn : ([35].all fun u => !Tryz.prog.wantsStandIn u) = true := by kernel_rfl
theorem law2_goes : false = Rows.normalizeFeedMatchesReferenceRow.goesBy Tryz.prog := by kernel_rfl
end Go.Proofs.YtgecijhgonfldaaGreatDoor
