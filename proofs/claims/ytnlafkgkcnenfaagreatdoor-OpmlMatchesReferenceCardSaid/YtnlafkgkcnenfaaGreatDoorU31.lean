/- Parts of the proof: contracts and plain laws. -/
import Derived.Test.YtnlafkgkcnenfaaGreatDoorRows
import Derived.Test.YtnlafkgkcnenfaaGreatDoorCards
import Derived.Test.YtnlafkgkcnenfaaGreatDoorU00
namespace Go.Proofs.YtnlafkgkcnenfaaGreatDoor
open Go _root_.Go.Proofs.Tryz
set_option linter.unusedVariables false
set_option linter.unusedSimpArgs false
set_option maxRecDepth 100000
set_option maxHeartbeats 16000000
theorem ZrT : prog.funcNamed "feedvault/feedvaultlaw19.OpmlMatchesReference" = some 3 := by kernel_rfl
theorem Ztg:f3.isInstance prog Rows.opmlMatchesReferenceRow.origin Rows.opmlMatchesReferenceRow.targs:=YK (by kernel_rfl)
theorem Zti:f3.isWrapper prog Rows.opmlMatchesReferenceRow.wrapper Rows.opmlMatchesReferenceRow.mainSum:=by unfold Func.isWrapper;first|(rw[Zi (by decide+kernel)];kernel_rfl)|(rw[Ze (by decide+kernel)];exact ⟨rfl,rfl⟩)
theorem Zuf:Rows.opmlMatchesReferenceRow.wfByText (OpenSpec.ofChange Rows.opmlMatchesReferenceSpec)=true:=by kernel_rfl
theorem Zth : prog.mainIs = some (true, "fc646f4ec087820d56142a8d3af391f2978304ac98ac4e0c4d0ed1d31e8fe297".toList) := by kernel_rfl
theorem ZsS:false=prog.looks []:=by kernel_rfl
theorem Zsg:([9].all λu=> !prog.wantsStandIn u)=true:=by kernel_rfl
theorem Ztf:false=Rows.opmlMatchesReferenceRow.goesBy prog:=by kernel_rfl
end Go.Proofs.YtnlafkgkcnenfaaGreatDoor
