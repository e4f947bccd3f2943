/- Parts of the proof: contracts and plain laws. -/
import Derived.Test.YtmfinhgobjbecaaGreatDoorRows
import Derived.Test.YtmfinhgobjbecaaGreatDoorCards
import Derived.Test.YtmfinhgobjbecaaGreatDoorA00
namespace Go.Proofs.YtmfinhgobjbecaaGreatDoor
open Go _root_.Go.Proofs.Tryz
set_option linter.unusedVariables false
set_option linter.unusedSimpArgs false
set_option maxRecDepth 100000
set_option maxHeartbeats 16000000
theorem ZaT : prog.funcNamed "feedvault/feedvaultlaw17.AtomMatchesReference" = some 3 := by kernel_rfl
theorem ZiR:f3.isInstance prog Rows.atomMatchesReferenceRow.origin Rows.atomMatchesReferenceRow.targs:=Zro (by kernel_rfl)
theorem ZiT:f3.isWrapper prog Rows.atomMatchesReferenceRow.wrapper Rows.atomMatchesReferenceRow.mainSum:=by unfold Func.isWrapper;first|(rw[ZqN (by decide+kernel)];kernel_rfl)|(rw[ZqH (by decide+kernel)];exact ⟨rfl,rfl⟩)
theorem Zno:Rows.atomMatchesReferenceRow.wfByText (OpenSpec.ofChange Rows.atomMatchesReferenceSpec)=true:=by kernel_rfl
theorem ZiS : prog.mainIs = some (true, "e07cf758d904cbc08ea01038dd117f5c210028e8b9bc04136c4d77d77a62be97".toList) := by kernel_rfl
theorem ZgM:false=prog.looks []:=by kernel_rfl
theorem Zdr:([9].all λu=> !prog.wantsStandIn u)=true:=by kernel_rfl
theorem ZiQ:false=Rows.atomMatchesReferenceRow.goesBy prog:=by kernel_rfl
end Go.Proofs.YtmfinhgobjbecaaGreatDoor
