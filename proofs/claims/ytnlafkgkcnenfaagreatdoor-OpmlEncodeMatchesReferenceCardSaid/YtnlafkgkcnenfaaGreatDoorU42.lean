/- Parts of the proof: contracts and plain laws. -/
import Derived.Test.YtnlafkgkcnenfaaGreatDoorRows
import Derived.Test.YtnlafkgkcnenfaaGreatDoorCards
import Derived.Test.YtnlafkgkcnenfaaGreatDoorU00
namespace Go.Proofs.YtnlafkgkcnenfaaGreatDoor
open Go _root_.Go.Proofs.Tryz
set_option linter.unusedVariables false
set_option linter.unusedSimpArgs false
set_option maxRecDepth 100000
set_option maxHeartbeats 16000000
theorem ZrU : prog.funcNamed "feedvault/feedvaultlaw19.OpmlEncodeMatchesReference" = some 6 := by kernel_rfl
theorem Ztk:f6.isInstance prog Rows.opmlEncodeMatchesReferenceRow.origin Rows.opmlEncodeMatchesReferenceRow.targs:=YK (by kernel_rfl)
theorem Ztm:f6.isWrapper prog Rows.opmlEncodeMatchesReferenceRow.wrapper Rows.opmlEncodeMatchesReferenceRow.mainSum:=by unfold Func.isWrapper;first|(rw[Zi (by decide+kernel)];kernel_rfl)|(rw[Ze (by decide+kernel)];exact ⟨rfl,rfl⟩)
theorem Zug:Rows.opmlEncodeMatchesReferenceRow.wfByText (OpenSpec.ofChange Rows.opmlEncodeMatchesReferenceSpec)=true:=by kernel_rfl
theorem Ztl : prog.mainIs = some (true, "fc646f4ec087820d56142a8d3af391f2978304ac98ac4e0c4d0ed1d31e8fe297".toList) := by kernel_rfl
theorem ZsV:false=prog.looks []:=by kernel_rfl
theorem Zsh:([31].all λu=> !prog.wantsStandIn u)=true:=by kernel_rfl
theorem Ztj:false=Rows.opmlEncodeMatchesReferenceRow.goesBy prog:=by kernel_rfl
end Go.Proofs.YtnlafkgkcnenfaaGreatDoor
