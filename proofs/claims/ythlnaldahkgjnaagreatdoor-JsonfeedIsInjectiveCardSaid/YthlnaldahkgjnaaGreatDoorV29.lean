/- Parts of the proof: contracts and plain laws. -/
import Derived.Test.YthlnaldahkgjnaaGreatDoorRows
import Derived.Test.YthlnaldahkgjnaaGreatDoorCards
import Derived.Test.YthlnaldahkgjnaaGreatDoorV00
namespace Go.Proofs.YthlnaldahkgjnaaGreatDoor
open Go
set_option linter.unusedVariables false
set_option linter.unusedSimpArgs false
set_option maxRecDepth 100000
set_option maxHeartbeats 16000000
theorem law21_named : Tryz.prog.funcNamed "feedvault/feedvaultlaw18.JsonfeedIsInjective" = some 6 := by kernel_rfl
theorem law21_inst:Tryz.f6.isInstance Tryz.prog Rows.jsonfeedIsInjectiveRow.origin Rows.jsonfeedIsInjectiveRow.targs:=of_decide_eq_true (by kernel_rfl)
theorem law21_wrap:Tryz.f6.isWrapper Tryz.prog Rows.jsonfeedIsInjectiveRow.wrapper Rows.jsonfeedIsInjectiveRow.mainSum:=by unfold Func.isWrapper;first|(rw[if_pos (by decide+kernel)];kernel_rfl)|(rw[if_neg (by decide+kernel)];exact ⟨rfl,rfl⟩)
theorem law21_wf:Rows.jsonfeedIsInjectiveRow.wfByText (OpenSpec.ofChange Rows.jsonfeedIsInjectiveSpec)=true:=by kernel_rfl
theorem law21_main : Tryz.prog.mainIs = some (true, "72d53e40377b2e75c519e8ecfde5b2f4a1abcd405b7b2d3b2b04379eddf4d0b5".toList) := by kernel_rfl
theorem law21_looks:false=Tryz.prog.looks []:=by kernel_rfl
theorem law21_standIn:([32,32].all fun u=> !Tryz.prog.wantsStandIn u)=true:=by kernel_rfl
theorem law21_goes:false=Rows.jsonfeedIsInjectiveRow.goesBy Tryz.prog:=by kernel_rfl
end Go.Proofs.YthlnaldahkgjnaaGreatDoor
