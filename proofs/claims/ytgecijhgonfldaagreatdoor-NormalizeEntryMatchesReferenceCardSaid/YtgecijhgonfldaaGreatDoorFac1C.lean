/- The closed facts of the first law's card, one by one. -/
import Derived.Test.YtgecijhgonfldaaGreatDoorRows
import Derived.Test.YtgecijhgonfldaaGreatDoorCards
import Derived.JoinedOf
import Derived.SevenTiedAt
import Derived.KernelRfl
namespace Go.Proofs.YtgecijhgonfldaaGreatDoor
open Go
theorem law1_named : Tryz.prog.funcNamed "feedvault/feedvaultlaw14.NormalizeEntryMatchesReference" = some 3 := by kernel_rfl
theorem law1_inst : Tryz.f3.isInstance Tryz.prog Rows.normalizeEntryMatchesReferenceRow.origin Rows.normalizeEntryMatchesReferenceRow.targs := of_decide_eq_true (by kernel_rfl)
theorem law1_wrap : Tryz.f3.isWrapper Tryz.prog Rows.normalizeEntryMatchesReferenceRow.wrapper Rows.normalizeEntryMatchesReferenceRow.mainSum := by unfold Func.isWrapper; first | (rw [if_pos (by decide +kernel)]; kernel_rfl) | (rw [if_neg (by decide +kernel)]; exact ⟨rfl, rfl⟩)
theorem law1_wf : Rows.normalizeEntryMatchesReferenceRow.wfByText (OpenSpec.ofChange Rows.normalizeEntryMatchesReferenceSpec) = true := by kernel_rfl
theorem law1_main : Tryz.prog.mainIs = some (true, "72d915ea65909ccc7aa6754f163e0fd9742e8f384d51c925c8dce0485ea4dd84".toList) := by kernel_rfl
theorem law1_looks : false = Tryz.prog.looks [] := by kernel_rfl
theorem law1_standIn : ([23].all fun u => !Tryz.prog.wantsStandIn u) = true := by kernel_rfl
theorem law1_goes : false = Rows.normalizeEntryMatchesReferenceRow.goesBy Tryz.prog := by kernel_rfl
end Go.Proofs.YtgecijhgonfldaaGreatDoor
