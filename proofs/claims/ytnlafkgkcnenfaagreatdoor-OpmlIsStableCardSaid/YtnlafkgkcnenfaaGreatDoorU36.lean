/- Parts of the proof: contracts and plain laws. -/
import Derived.Test.YtnlafkgkcnenfaaGreatDoorRows
import Derived.Test.YtnlafkgkcnenfaaGreatDoorCards
import Derived.Test.YtnlafkgkcnenfaaGreatDoorU00
namespace Go.Proofs.YtnlafkgkcnenfaaGreatDoor
open Go _root_.Go.Proofs.Tryz
set_option linter.unusedVariables false
set_option linter.unusedSimpArgs false
set_option maxRecDepth 100000
set_option maxHeartbeats 16000000
theorem ZaQ : prog.funcNamed "feedvault/feedvaultlaw19.OpmlIsStable" = some 5 := by kernel_rfl
theorem Zi0:f5.isInstance prog Rows.opmlIsStableRow.origin Rows.opmlIsStableRow.targs:=YK (by kernel_rfl)
theorem Zi2:f5.isWrapper prog Rows.opmlIsStableRow.wrapper Rows.opmlIsStableRow.mainSum:=by unfold Func.isWrapper;first|(rw[Zi (by decide+kernel)];kernel_rfl)|(rw[Ze (by decide+kernel)];exact ⟨rfl,rfl⟩)
theorem Zm3:Rows.opmlIsStableRow.wfByText (OpenSpec.ofChange Rows.opmlIsStableSpec)=true:=by kernel_rfl
theorem Zi1 : prog.mainIs = some (true, "fc646f4ec087820d56142a8d3af391f2978304ac98ac4e0c4d0ed1d31e8fe297".toList) := by kernel_rfl
theorem Zg4:false=prog.looks []:=by kernel_rfl
theorem Zdm:([9].all λu=> !prog.wantsStandIn u)=true:=by kernel_rfl
theorem ZiZ:false=Rows.opmlIsStableRow.goesBy prog:=by kernel_rfl
end Go.Proofs.YtnlafkgkcnenfaaGreatDoor
