/- Parts of the proof: contracts and plain laws. -/
import Derived.Test.YtmfinhgobjbecaaGreatDoorRows
import Derived.Test.YtmfinhgobjbecaaGreatDoorCards
import Derived.Test.YtmfinhgobjbecaaGreatDoorA00
namespace Go.Proofs.YtmfinhgobjbecaaGreatDoor
open Go _root_.Go.Proofs.Tryz
set_option linter.unusedVariables false
set_option linter.unusedSimpArgs false
set_option maxRecDepth 100000
set_option maxHeartbeats 16000000
theorem ZaW : prog.funcNamed "feedvault/feedvaultlaw17.AtomIsStable" = some 7 := by kernel_rfl
theorem Zi3:f7.isInstance prog Rows.atomIsStableRow.origin Rows.atomIsStableRow.targs:=Zro (by kernel_rfl)
theorem Zi5:f7.isWrapper prog Rows.atomIsStableRow.wrapper Rows.atomIsStableRow.mainSum:=by unfold Func.isWrapper;first|(rw[ZqN (by decide+kernel)];kernel_rfl)|(rw[ZqH (by decide+kernel)];exact ⟨rfl,rfl⟩)
theorem Znr:Rows.atomIsStableRow.wfByText (OpenSpec.ofChange Rows.atomIsStableSpec)=true:=by kernel_rfl
theorem Zi4 : prog.mainIs = some (true, "e07cf758d904cbc08ea01038dd117f5c210028e8b9bc04136c4d77d77a62be97".toList) := by kernel_rfl
theorem ZgV:false=prog.looks []:=by kernel_rfl
theorem Zdu:([9].all λu=> !prog.wantsStandIn u)=true:=by kernel_rfl
theorem Zi2:false=Rows.atomIsStableRow.goesBy prog:=by kernel_rfl
end Go.Proofs.YtmfinhgobjbecaaGreatDoor
