/- Parts of the proof: contracts and plain laws. -/
import Derived.Test.YtmfinhgobjbecaaGreatDoorRows
import Derived.Test.YtmfinhgobjbecaaGreatDoorCards
import Derived.Test.YtmfinhgobjbecaaGreatDoorA00
namespace Go.Proofs.YtmfinhgobjbecaaGreatDoor
open Go _root_.Go.Proofs.Tryz
set_option linter.unusedVariables false
set_option linter.unusedSimpArgs false
set_option maxRecDepth 100000
set_option maxHeartbeats 16000000
theorem ZaU : prog.funcNamed "feedvault/feedvaultlaw17.AtomRoundTrip" = some 5 := by kernel_rfl
theorem ZiV:f5.isInstance prog Rows.atomRoundTripRow.origin Rows.atomRoundTripRow.targs:=Zro (by kernel_rfl)
theorem ZiX:f5.isWrapper prog Rows.atomRoundTripRow.wrapper Rows.atomRoundTripRow.mainSum:=by unfold Func.isWrapper;first|(rw[ZqN (by decide+kernel)];kernel_rfl)|(rw[ZqH (by decide+kernel)];exact ⟨rfl,rfl⟩)
theorem Znp:Rows.atomRoundTripRow.wfByText (OpenSpec.ofChange Rows.atomRoundTripSpec)=true:=by kernel_rfl
theorem ZiW : prog.mainIs = some (true, "e07cf758d904cbc08ea01038dd117f5c210028e8b9bc04136c4d77d77a62be97".toList) := by kernel_rfl
theorem ZgP:false=prog.looks []:=by kernel_rfl
theorem Zds:([32].all λu=> !prog.wantsStandIn u)=true:=by kernel_rfl
theorem ZiU:false=Rows.atomRoundTripRow.goesBy prog:=by kernel_rfl
end Go.Proofs.YtmfinhgobjbecaaGreatDoor
