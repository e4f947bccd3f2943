/- The closed facts of law 7's card, one by one. -/
import Derived.Test.YtgecijhgonfldaaGreatDoorRows
import Derived.Test.YtgecijhgonfldaaGreatDoorCards
import Derived.JoinedOf
import Derived.SevenTiedAt
import Derived.KernelRfl
namespace Go.Proofs.YtgecijhgonfldaaGreatDoor
open Go
theorem law7_named : Tryz.prog.funcNamed "feedvault/feedvaultlaw14.NormalizeIgnoresOrder" = some 9 := by kernel_rfl
theorem law7_inst : Tryz.f9.isInstance Tryz.prog Rows.normalizeIgnoresOrderRow.origin Rows.normalizeIgnoresOrderRow.targs := of_decide_eq_true (by kernel_rfl)
theorem law7_wrap : Tryz.f9.isWrapper Tryz.prog Rows.normalizeIgnoresOrderRow.wrapper Rows.normalizeIgnoresOrderRow.mainSum := by unfold Func.isWrapper; first | (rw [if_pos (by decide +kernel)]; kernel_rfl) | (rw [if_neg (by decide +kernel)]; exact ⟨rfl, rfl⟩)
theorem law7_wf : Rows.normalizeIgnoresOrderRow.wfByText (OpenSpec.ofChange Rows.normalizeIgnoresOrderSpec) = true := by kernel_rfl
theorem law7_main : Tryz.prog.mainIs = some (true, "72d915ea65909ccc7aa6754f163e0fd9742e8f384d51c925c8dce0485ea4dd84".toList) := by kernel_rfl
theorem law7_looks : false = Tryz.prog.looks [] := by kernel_rfl
theorem law7_standIn : ([37, 5].all fun u => !Tryz.prog.wantsStandIn u) = true := by kernel_rfl
theorem law7_goes : false = Rows.normalizeIgnoresOrderRow.goesBy Tryz.prog := by kernel_rfl
end Go.Proofs.YtgecijhgonfldaaGreatDoor
