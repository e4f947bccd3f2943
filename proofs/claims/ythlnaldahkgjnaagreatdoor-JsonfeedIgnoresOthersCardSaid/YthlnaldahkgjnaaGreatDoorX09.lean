/- Parts of the proof: contracts and plain laws. -/
import Derived.Test.YthlnaldahkgjnaaGreatDoorRows
import Derived.Test.YthlnaldahkgjnaaGreatDoorCards
import Derived.JoinedOf
import Derived.SevenTiedAt
import Derived.KernelRfl
import Derived.Test.YthlnaldahkgjnaaGreatDoorV00
namespace Go.Proofs.YthlnaldahkgjnaaGreatDoor
open Go
set_option linter.unusedVariables false
set_option linter.unusedSimpArgs false
set_option maxRecDepth 100000
set_option maxHeartbeats 16000000
theorem law28_named : Tryz.prog.funcNamed "feedvault/feedvaultlaw18.JsonfeedIgnoresOthers" = some 9 := by kernel_rfl
theorem law28_inst:Tryz.f9.isInstance Tryz.prog Rows.jsonfeedIgnoresOthersRow.origin Rows.jsonfeedIgnoresOthersRow.targs:=of_decide_eq_true (by kernel_rfl)
theorem law28_wrap:Tryz.f9.isWrapper Tryz.prog Rows.jsonfeedIgnoresOthersRow.wrapper Rows.jsonfeedIgnoresOthersRow.mainSum:=by unfold Func.isWrapper;first|(rw[if_pos (by decide+kernel)];kernel_rfl)|(rw[if_neg (by decide+kernel)];exact ⟨rfl,rfl⟩)
theorem law28_wf:Rows.jsonfeedIgnoresOthersRow.wfByText (OpenSpec.ofChange Rows.jsonfeedIgnoresOthersSpec)=true:=by kernel_rfl
theorem law28_main : Tryz.prog.mainIs = some (true, "72d53e40377b2e75c519e8ecfde5b2f4a1abcd405b7b2d3b2b04379eddf4d0b5".toList) := by kernel_rfl
theorem law28_looks:false=Tryz.prog.looks []:=by kernel_rfl
theorem law28_standIn:([9,5].all fun u=> !Tryz.prog.wantsStandIn u)=true:=by kernel_rfl
theorem law28_goes:false=Rows.jsonfeedIgnoresOthersRow.goesBy Tryz.prog:=by kernel_rfl
end Go.Proofs.YthlnaldahkgjnaaGreatDoor
