/- Parts of the proof: contracts and plain laws. -/
import Derived.Test.YthlnaldahkgjnaaGreatDoorRows
import Derived.Test.YthlnaldahkgjnaaGreatDoorZ00
namespace Go.Proofs.YthlnaldahkgjnaaGreatDoor
open Go _root_.Go.Proofs.Tryz
set_option linter.unusedVariables false
set_option linter.unusedSimpArgs false
set_option maxRecDepth 100000
set_option maxHeartbeats 16000000
theorem Ub:(Rows.jsonfeedMatchesReferenceRow.wf (OpenSpec.ofChange Rows.jsonfeedMatchesReferenceSpec))=true:=by kernel_rfl
theorem Uc:(laidOutB prog)=true:=by kernel_rfl
theorem Ud:(mapsRowed prog)=true:=by kernel_rfl
theorem Ue:(f3.params.all (prog.readableRec ·))=true:=by kernel_rfl
theorem Uf:(namedTie prog Rows.jsonfeedMatchesReferenceRow.named Rows.jsonfeedMatchesReferenceSpec.vars)=true:=by kernel_rfl
theorem Ug:((Rows.jsonfeedMatchesReferenceRow.stops== []))=true:=by kernel_rfl
theorem Uh:((prog.stops== []))=true:=by kernel_rfl
theorem Ui:((Rows.jsonfeedMatchesReferenceRow.knobs== []))=true:=by kernel_rfl
theorem Uj:((prog.stopKnobs== []))=true:=by kernel_rfl
theorem Uk:((Rows.jsonfeedMatchesReferenceRow.inPlace==prog.inPlace 3))=true:=by kernel_rfl
theorem JI:((Rows.jsonfeedMatchesReferenceRow.unfollowed==prog.unfollowed 3))=true:=by kernel_rfl
theorem JJ:((Rows.jsonfeedMatchesReferenceRow.recurses==prog.recurses 3))=true:=by kernel_rfl
theorem JK:((Rows.jsonfeedMatchesReferenceRow.named==prog.varsNamed 3))=true:=by kernel_rfl
theorem JL:((Rows.jsonfeedMatchesReferenceRow.maps==(f3.params.toList++Rows.jsonfeedMatchesReferenceSpec.plain.varTypes prog).any (prog.mapsRec ·)))=true:=by kernel_rfl
theorem JM:((Rows.jsonfeedMatchesReferenceRow.ifaces==(f3.params.toList++Rows.jsonfeedMatchesReferenceSpec.plain.varTypes prog).any (prog.ifacesRec ·)))=true:=by kernel_rfl
theorem JN:((Rows.jsonfeedMatchesReferenceRow.mapsOut==prog.mapsAmong f3.resultTypes.toList))=true:=by kernel_rfl
theorem JP:((Rows.jsonfeedMatchesReferenceRow.loops==(f3.params.toList++Rows.jsonfeedMatchesReferenceSpec.plain.varTypes prog).any (prog.loopsFrom ·)))=true:=by kernel_rfl
theorem JQ:((Rows.jsonfeedMatchesReferenceRow.wideKeys==(f3.params.toList++Rows.jsonfeedMatchesReferenceSpec.plain.varTypes prog++f3.resultTypes.toList).any (prog.wideKeysFrom ·)))=true:=by kernel_rfl
theorem JR:(Rows.jsonfeedMatchesReferenceSpec.vars.all (prog.varReadable ·))=true:=by kernel_rfl
theorem JS:(f3.resultTypes.all (λt=>prog.readableRec t && decide (t<prog.types.size)))=true:=by kernel_rfl
theorem JT:((Rows.jsonfeedMatchesReferenceRow.ifacesOut==f3.resultTypes.toList.any (prog.ifacesRec ·)))=true:=by kernel_rfl
theorem JU:((Rows.jsonfeedMatchesReferenceRow.loopsOut==f3.resultTypes.toList.any (prog.loopsFrom ·)))=true:=by kernel_rfl
theorem JW:((Rows.jsonfeedMatchesReferenceRow.plainKeys==prog.plainKeys))=true:=by kernel_rfl
theorem JX:(Rows.jsonfeedMatchesReferenceRow.shortTexts.isNone)=true:=by kernel_rfl
theorem JY:(prog.stopsHeard)=true:=by kernel_rfl
theorem JZ:(prog.mayEnter)=true:=by kernel_rfl
theorem J0:((Rows.jsonfeedMatchesReferenceRow.lifted==prog.liftsFinal))=true:=by kernel_rfl
theorem J1:((prog.make==some Rows.jsonfeedMatchesReferenceRow.make))=true:=by kernel_rfl
theorem J2:((Rows.jsonfeedMatchesReferenceRow.kinds==(if Rows.jsonfeedMatchesReferenceRow.domain.isEmpty then [] else f3.params.toList.map λt=>match prog.underlying t with|some (.int k)=>some k|_=>none)))=true:=by kernel_rfl
theorem J3:((Rows.jsonfeedMatchesReferenceRow.pinned==Rows.jsonfeedMatchesReferenceRow.pinnedBy))=true:=by kernel_rfl
theorem J4:((Rows.jsonfeedMatchesReferenceRow.veiled==(f3.params.toList++Rows.jsonfeedMatchesReferenceSpec.plain.varTypes prog++f3.resultTypes.toList).any (prog.veiledRec ·)))=true:=by kernel_rfl
theorem J5:(Rows.jsonfeedMatchesReferenceRow.veiledFits prog f3.params.toList (f3.params.toList++Rows.jsonfeedMatchesReferenceSpec.plain.varTypes prog++f3.resultTypes.toList))=true:=by kernel_rfl
end Go.Proofs.YthlnaldahkgjnaaGreatDoor
