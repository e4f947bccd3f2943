/- The closed facts of law 4's card, one by one. -/
import Derived.Test.YtgecijhgonfldaaGreatDoorRows
import Derived.Test.YtgecijhgonfldaaGreatDoorCards
import Derived.JoinedOf
import Derived.SevenTiedAt
import Derived.KernelRfl
namespace Go.Proofs.YtgecijhgonfldaaGreatDoor
open Go
theorem law4_named : Tryz.prog.funcNamed "feedvault/feedvaultlaw14.NormalizeKeepsValid" = some 6 := by kernel_rfl
theorem law4_inst : Tryz.f6.isInstance Tryz.prog Rows.normalizeKeepsValidRow.origin Rows.normalizeKeepsValidRow.targs := of_decide_eq_true (by kernel_rfl)
theorem law4_wrap : Tryz.f6.isWrapper Tryz.prog Rows.normalizeKeepsValidRow.wrapper Rows.normalizeKeepsValidRow.mainSum := by unfold Func.isWrapper; first | (rw [if_pos (by decide +kernel)]; kernel_rfl) | (rw [if_neg (by decide +kernel)]; exact ⟨rfl, rfl⟩)
theorem law4_wf : Rows.normalizeKeepsValidRow.wfByText (OpenSpec.ofChange Rows.normalizeKeepsValidSpec) = true := by kernel_rfl
theorem law4_main : Tryz.prog.mainIs = some (true, "72d915ea65909ccc7aa6754f163e0fd9742e8f384d51c925c8dce0485ea4dd84".toList) := by kernel_rfl
theorem law4_looks : false = Tryz.prog.looks [] := by kernel_rfl
theorem law4_standIn : ([46].all fun u => !Tryz.prog.wantsStandIn u) = true := by kernel_rfl
theorem law4_goes : false = Rows.normalizeKeepsValidRow.goesBy Tryz.prog := by kernel_rfl
end Go.Proofs.YtgecijhgonfldaaGreatDoor
