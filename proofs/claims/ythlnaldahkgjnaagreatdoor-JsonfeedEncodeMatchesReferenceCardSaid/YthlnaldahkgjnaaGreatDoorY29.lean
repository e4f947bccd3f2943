/- Parts of the proof: contracts and plain laws. -/
import Derived.Test.YthlnaldahkgjnaaGreatDoorRows
import Derived.Test.YthlnaldahkgjnaaGreatDoorCards
import Derived.Test.YthlnaldahkgjnaaGreatDoorY00
namespace Go.Proofs.YthlnaldahkgjnaaGreatDoor
open Go
set_option linter.unusedVariables false
set_option linter.unusedSimpArgs false
set_option maxRecDepth 100000
set_option maxHeartbeats 16000000
theorem law19_named : Tryz.prog.funcNamed "feedvault/feedvaultlaw18.JsonfeedEncodeMatchesReference" = some 4 := by kernel_rfl
theorem law19_inst:Tryz.f4.isInstance Tryz.prog Rows.jsonfeedEncodeMatchesReferenceRow.origin Rows.jsonfeedEncodeMatchesReferenceRow.targs:=of_decide_eq_true (by kernel_rfl)
theorem law19_wrap:Tryz.f4.isWrapper Tryz.prog Rows.jsonfeedEncodeMatchesReferenceRow.wrapper Rows.jsonfeedEncodeMatchesReferenceRow.mainSum:=by unfold Func.isWrapper;first|(rw[if_pos (by decide+kernel)];kernel_rfl)|(rw[if_neg (by decide+kernel)];exact ⟨rfl,rfl⟩)
theorem law19_wf:Rows.jsonfeedEncodeMatchesReferenceRow.wfByText (OpenSpec.ofChange Rows.jsonfeedEncodeMatchesReferenceSpec)=true:=by kernel_rfl
theorem law19_main : Tryz.prog.mainIs = some (true, "72d53e40377b2e75c519e8ecfde5b2f4a1abcd405b7b2d3b2b04379eddf4d0b5".toList) := by kernel_rfl
theorem law19_looks:false=Tryz.prog.looks []:=by kernel_rfl
theorem law19_standIn:([32].all fun u=> !Tryz.prog.wantsStandIn u)=true:=by kernel_rfl
theorem law19_goes:false=Rows.jsonfeedEncodeMatchesReferenceRow.goesBy Tryz.prog:=by kernel_rfl
end Go.Proofs.YthlnaldahkgjnaaGreatDoor
