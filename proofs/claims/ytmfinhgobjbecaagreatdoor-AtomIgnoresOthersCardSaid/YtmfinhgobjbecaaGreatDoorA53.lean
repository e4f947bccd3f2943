/- Parts of the proof: contracts and plain laws. -/
import Derived.Test.YtmfinhgobjbecaaGreatDoorRows
import Derived.Test.YtmfinhgobjbecaaGreatDoorCards
import Derived.Test.YtmfinhgobjbecaaGreatDoorA00
namespace Go.Proofs.YtmfinhgobjbecaaGreatDoor
open Go _root_.Go.Proofs.Tryz
set_option linter.unusedVariables false
set_option linter.unusedSimpArgs false
set_option maxRecDepth 100000
set_option maxHeartbeats 16000000
theorem ZtO : prog.funcNamed "feedvault/feedvaultlaw17.AtomIgnoresOthers" = some 8 := by kernel_rfl
theorem Zuj:f8.isInstance prog Rows.atomIgnoresOthersRow.origin Rows.atomIgnoresOthersRow.targs:=Zro (by kernel_rfl)
theorem Zul:f8.isWrapper prog Rows.atomIgnoresOthersRow.wrapper Rows.atomIgnoresOthersRow.mainSum:=by unfold Func.isWrapper;first|(rw[ZqN (by decide+kernel)];kernel_rfl)|(rw[ZqH (by decide+kernel)];exact ⟨rfl,rfl⟩)
theorem ZuB:Rows.atomIgnoresOthersRow.wfByText (OpenSpec.ofChange Rows.atomIgnoresOthersSpec)=true:=by kernel_rfl
theorem Zuk : prog.mainIs = some (true, "e07cf758d904cbc08ea01038dd117f5c210028e8b9bc04136c4d77d77a62be97".toList) := by kernel_rfl
theorem Zt6:false=prog.looks []:=by kernel_rfl
theorem ZtS:([9,9].all λu=> !prog.wantsStandIn u)=true:=by kernel_rfl
theorem Zui:false=Rows.atomIgnoresOthersRow.goesBy prog:=by kernel_rfl
end Go.Proofs.YtmfinhgobjbecaaGreatDoor
