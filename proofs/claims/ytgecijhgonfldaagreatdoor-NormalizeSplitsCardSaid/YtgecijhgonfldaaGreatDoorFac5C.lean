/- The closed facts of law 5's card, one by one. -/
import Derived.Test.YtgecijhgonfldaaGreatDoorRows
import Derived.Test.YtgecijhgonfldaaGreatDoorCards
import Derived.JoinedOf
import Derived.SevenTiedAt
import Derived.KernelRfl
namespace Go.Proofs.YtgecijhgonfldaaGreatDoor
open Go
theorem law5_named : Tryz.prog.funcNamed "feedvault/feedvaultlaw14.NormalizeSplits" = some 7 := by kernel_rfl
theorem law5_inst : Tryz.f7.isInstance Tryz.prog Rows.normalizeSplitsRow.origin Rows.normalizeSplitsRow.targs := of_decide_eq_true (by kernel_rfl)
theorem law5_wrap : Tryz.f7.isWrapper Tryz.prog Rows.normalizeSplitsRow.wrapper Rows.normalizeSplitsRow.mainSum := by unfold Func.isWrapper; first | (rw [if_pos (by decide +kernel)]; kernel_rfl) | (rw [if_neg (by decide +kernel)]; exact ⟨rfl, rfl⟩)
theorem law5_wf : Rows.normalizeSplitsRow.wfByText (OpenSpec.ofChange Rows.normalizeSplitsSpec) = true := by kernel_rfl
theorem law5_main : Tryz.prog.mainIs = some (true, "72d915ea65909ccc7aa6754f163e0fd9742e8f384d51c925c8dce0485ea4dd84".toList) := by kernel_rfl
theorem law5_looks : false = Tryz.prog.looks [] := by kernel_rfl
theorem law5_standIn : ([35, 5].all fun u => !Tryz.prog.wantsStandIn u) = true := by kernel_rfl
theorem law5_goes : false = Rows.normalizeSplitsRow.goesBy Tryz.prog := by kernel_rfl
end Go.Proofs.YtgecijhgonfldaaGreatDoor
