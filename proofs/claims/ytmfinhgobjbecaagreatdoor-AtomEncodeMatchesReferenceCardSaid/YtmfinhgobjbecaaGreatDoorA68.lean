/- Parts of the proof: contracts and plain laws. -/
import Derived.Deep.MidRow
import Derived.Lib.AppendZerosOnto
import Derived.Lib.SliceRun
import Derived.Test.YtmfinhgobjbecaaGreatDoorRows
import Derived.Test.YtmfinhgobjbecaaGreatDoorCards
import Derived.Test.YtmfinhgobjbecaaGreatDoorA00
namespace Go.Proofs.YtmfinhgobjbecaaGreatDoor
open Go _root_.Go.Proofs.Tryz
set_option linter.unusedVariables false
set_option linter.unusedSimpArgs false
set_option maxRecDepth 100000
set_option maxHeartbeats 16000000
theorem ZvJ : prog.funcNamed "feedvault/feedvaultlaw17.AtomEncodeMatchesReference" = some 4 := by kernel_rfl
theorem Zwc:f4.isInstance prog Rows.atomEncodeMatchesReferenceRow.origin Rows.atomEncodeMatchesReferenceRow.targs:=Zro (by kernel_rfl)
theorem Zwe:f4.isWrapper prog Rows.atomEncodeMatchesReferenceRow.wrapper Rows.atomEncodeMatchesReferenceRow.mainSum:=by unfold Func.isWrapper;first|(rw[ZqN (by decide+kernel)];kernel_rfl)|(rw[ZqH (by decide+kernel)];exact ⟨rfl,rfl⟩)
theorem Zwv:Rows.atomEncodeMatchesReferenceRow.wfByText (OpenSpec.ofChange Rows.atomEncodeMatchesReferenceSpec)=true:=by kernel_rfl
theorem Zwd : prog.mainIs = some (true, "e07cf758d904cbc08ea01038dd117f5c210028e8b9bc04136c4d77d77a62be97".toList) := by kernel_rfl
theorem Zv4:false=prog.looks []:=by kernel_rfl
theorem ZvR:([32].all λu=> !prog.wantsStandIn u)=true:=by kernel_rfl
theorem Zwb:false=Rows.atomEncodeMatchesReferenceRow.goesBy prog:=by kernel_rfl
end Go.Proofs.YtmfinhgobjbecaaGreatDoor
