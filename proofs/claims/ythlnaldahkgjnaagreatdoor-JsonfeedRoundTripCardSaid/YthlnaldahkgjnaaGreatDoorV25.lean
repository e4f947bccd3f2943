/- Parts of the proof: contracts and plain laws. -/
import Derived.Test.YthlnaldahkgjnaaGreatDoorRows
import Derived.Test.YthlnaldahkgjnaaGreatDoorCards
import Derived.Test.YthlnaldahkgjnaaGreatDoorV00
namespace Go.Proofs.YthlnaldahkgjnaaGreatDoor
open Go
set_option linter.unusedVariables false
set_option linter.unusedSimpArgs false
set_option maxRecDepth 100000
set_option maxHeartbeats 16000000
theorem law20_named : Tryz.prog.funcNamed "feedvault/feedvaultlaw18.JsonfeedRoundTrip" = some 5 := by kernel_rfl
theorem law20_inst:Tryz.f5.isInstance Tryz.prog Rows.jsonfeedRoundTripRow.origin Rows.jsonfeedRoundTripRow.targs:=of_decide_eq_true (by kernel_rfl)
theorem law20_wrap:Tryz.f5.isWrapper Tryz.prog Rows.jsonfeedRoundTripRow.wrapper Rows.jsonfeedRoundTripRow.mainSum:=by unfold Func.isWrapper;first|(rw[if_pos (by decide+kernel)];kernel_rfl)|(rw[if_neg (by decide+kernel)];exact ⟨rfl,rfl⟩)
theorem law20_wf:Rows.jsonfeedRoundTripRow.wfByText (OpenSpec.ofChange Rows.jsonfeedRoundTripSpec)=true:=by kernel_rfl
theorem law20_main : Tryz.prog.mainIs = some (true, "72d53e40377b2e75c519e8ecfde5b2f4a1abcd405b7b2d3b2b04379eddf4d0b5".toList) := by kernel_rfl
theorem law20_looks:false=Tryz.prog.looks []:=by kernel_rfl
theorem law20_standIn:([32].all fun u=> !Tryz.prog.wantsStandIn u)=true:=by kernel_rfl
theorem law20_goes:false=Rows.jsonfeedRoundTripRow.goesBy Tryz.prog:=by kernel_rfl
end Go.Proofs.YthlnaldahkgjnaaGreatDoor
