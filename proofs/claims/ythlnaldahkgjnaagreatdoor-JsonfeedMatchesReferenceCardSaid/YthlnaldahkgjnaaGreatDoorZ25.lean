/- Parts of the proof: contracts and plain laws. -/
import Derived.Test.YthlnaldahkgjnaaGreatDoorRows
import Derived.Test.YthlnaldahkgjnaaGreatDoorCards
import Derived.Test.YthlnaldahkgjnaaGreatDoorZ00
namespace Go.Proofs.YthlnaldahkgjnaaGreatDoor
open Go _root_.Go.Proofs.Tryz
set_option linter.unusedVariables false
set_option linter.unusedSimpArgs false
set_option maxRecDepth 100000
set_option maxHeartbeats 16000000
theorem GP : prog.funcNamed "feedvault/feedvaultlaw18.JsonfeedMatchesReference" = some 3 := by kernel_rfl
theorem Zb6:f3.isInstance prog Rows.jsonfeedMatchesReferenceRow.origin Rows.jsonfeedMatchesReferenceRow.targs:=Yd (by kernel_rfl)
theorem Zb8:f3.isWrapper prog Rows.jsonfeedMatchesReferenceRow.wrapper Rows.jsonfeedMatchesReferenceRow.mainSum:=by unfold Func.isWrapper;first|(rw[Zi (by decide+kernel)];kernel_rfl)|(rw[Zf (by decide+kernel)];exact ⟨rfl,rfl⟩)
theorem Zfh:Rows.jsonfeedMatchesReferenceRow.wfByText (OpenSpec.ofChange Rows.jsonfeedMatchesReferenceSpec)=true:=by kernel_rfl
theorem Zb7 : prog.mainIs = some (true, "72d53e40377b2e75c519e8ecfde5b2f4a1abcd405b7b2d3b2b04379eddf4d0b5".toList) := by kernel_rfl
theorem Za0:false=prog.looks []:=by kernel_rfl
theorem IG:([9].all λu=> !prog.wantsStandIn u)=true:=by kernel_rfl
theorem Zb5:false=Rows.jsonfeedMatchesReferenceRow.goesBy prog:=by kernel_rfl
end Go.Proofs.YthlnaldahkgjnaaGreatDoor
