/- Parts of the proof: contracts and plain laws. -/
import Derived.Test.YthlnaldahkgjnaaGreatDoorRows
import Derived.Test.YthlnaldahkgjnaaGreatDoorCards
import Derived.Test.YthlnaldahkgjnaaGreatDoorV00
namespace Go.Proofs.YthlnaldahkgjnaaGreatDoor
open Go
set_option linter.unusedVariables false
set_option linter.unusedSimpArgs false
set_option maxRecDepth 100000
set_option maxHeartbeats 16000000
theorem law22_named : Tryz.prog.funcNamed "feedvault/feedvaultlaw18.JsonfeedIsStable" = some 7 := by kernel_rfl
theorem law22_inst:Tryz.f7.isInstance Tryz.prog Rows.jsonfeedIsStableRow.origin Rows.jsonfeedIsStableRow.targs:=of_decide_eq_true (by kernel_rfl)
theorem law22_wrap:Tryz.f7.isWrapper Tryz.prog Rows.jsonfeedIsStableRow.wrapper Rows.jsonfeedIsStableRow.mainSum:=by unfold Func.isWrapper;first|(rw[if_pos (by decide+kernel)];kernel_rfl)|(rw[if_neg (by decide+kernel)];exact ⟨rfl,rfl⟩)
theorem law22_wf:Rows.jsonfeedIsStableRow.wfByText (OpenSpec.ofChange Rows.jsonfeedIsStableSpec)=true:=by kernel_rfl
theorem law22_main : Tryz.prog.mainIs = some (true, "72d53e40377b2e75c519e8ecfde5b2f4a1abcd405b7b2d3b2b04379eddf4d0b5".toList) := by kernel_rfl
theorem law22_looks:false=Tryz.prog.looks []:=by kernel_rfl
theorem law22_standIn:([9].all fun u=> !Tryz.prog.wantsStandIn u)=true:=by kernel_rfl
theorem law22_goes:false=Rows.jsonfeedIsStableRow.goesBy Tryz.prog:=by kernel_rfl
end Go.Proofs.YthlnaldahkgjnaaGreatDoor
