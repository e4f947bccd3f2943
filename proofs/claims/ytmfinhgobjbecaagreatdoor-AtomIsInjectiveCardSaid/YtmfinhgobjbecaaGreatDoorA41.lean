/- Parts of the proof: contracts and plain laws. -/
import Derived.Test.YtmfinhgobjbecaaGreatDoorRows
import Derived.Test.YtmfinhgobjbecaaGreatDoorCards
import Derived.Test.YtmfinhgobjbecaaGreatDoorA00
namespace Go.Proofs.YtmfinhgobjbecaaGreatDoor
open Go _root_.Go.Proofs.Tryz
set_option linter.unusedVariables false
set_option linter.unusedSimpArgs false
set_option maxRecDepth 100000
set_option maxHeartbeats 16000000
theorem ZaV : prog.funcNamed "feedvault/feedvaultlaw17.AtomIsInjective" = some 6 := by kernel_rfl
theorem ZiZ:f6.isInstance prog Rows.atomIsInjectiveRow.origin Rows.atomIsInjectiveRow.targs:=Zro (by kernel_rfl)
theorem Zi1:f6.isWrapper prog Rows.atomIsInjectiveRow.wrapper Rows.atomIsInjectiveRow.mainSum:=by unfold Func.isWrapper;first|(rw[ZqN (by decide+kernel)];kernel_rfl)|(rw[ZqH (by decide+kernel)];exact ⟨rfl,rfl⟩)
theorem Znq:Rows.atomIsInjectiveRow.wfByText (OpenSpec.ofChange Rows.atomIsInjectiveSpec)=true:=by kernel_rfl
theorem Zi0 : prog.mainIs = some (true, "e07cf758d904cbc08ea01038dd117f5c210028e8b9bc04136c4d77d77a62be97".toList) := by kernel_rfl
theorem ZgS:false=prog.looks []:=by kernel_rfl
theorem Zdt:([32,32].all λu=> !prog.wantsStandIn u)=true:=by kernel_rfl
theorem ZiY:false=Rows.atomIsInjectiveRow.goesBy prog:=by kernel_rfl
end Go.Proofs.YtmfinhgobjbecaaGreatDoor
