/- Parts of the proof: contracts and plain laws. -/
import Derived.Test.YtmfinhgobjbecaaGreatDoorRows
import Derived.Test.YtmfinhgobjbecaaGreatDoorA00
namespace Go.Proofs.YtmfinhgobjbecaaGreatDoor
open Go _root_.Go.Proofs.Tryz
set_option linter.unusedVariables false
set_option linter.unusedSimpArgs false
set_option maxRecDepth 100000
set_option maxHeartbeats 16000000
theorem UR:(Rows.atomMatchesReferenceRow.wf (OpenSpec.ofChange Rows.atomMatchesReferenceSpec))=true:=by kernel_rfl
theorem US:(laidOutB prog)=true:=by kernel_rfl
theorem UT:(mapsRowed prog)=true:=by kernel_rfl
theorem UU:(f3.params.all (prog.readableRec ·))=true:=by kernel_rfl
theorem UV:(namedTie prog Rows.atomMatchesReferenceRow.named Rows.atomMatchesReferenceSpec.vars)=true:=by kernel_rfl
theorem UW:((Rows.atomMatchesReferenceRow.stops== []))=true:=by kernel_rfl
theorem UX:((prog.stops== []))=true:=by kernel_rfl
theorem UY:((Rows.atomMatchesReferenceRow.knobs== []))=true:=by kernel_rfl
theorem UZ:((prog.stopKnobs== []))=true:=by kernel_rfl
theorem U0:((Rows.atomMatchesReferenceRow.inPlace==prog.inPlace 3))=true:=by kernel_rfl
theorem Um:((Rows.atomMatchesReferenceRow.unfollowed==prog.unfollowed 3))=true:=by kernel_rfl
theorem Un:((Rows.atomMatchesReferenceRow.recurses==prog.recurses 3))=true:=by kernel_rfl
theorem Uo:((Rows.atomMatchesReferenceRow.named==prog.varsNamed 3))=true:=by kernel_rfl
theorem Up:((Rows.atomMatchesReferenceRow.maps==(f3.params.toList++Rows.atomMatchesReferenceSpec.plain.varTypes prog).any (prog.mapsRec ·)))=true:=by kernel_rfl
theorem Ur:((Rows.atomMatchesReferenceRow.ifaces==(f3.params.toList++Rows.atomMatchesReferenceSpec.plain.varTypes prog).any (prog.ifacesRec ·)))=true:=by kernel_rfl
theorem Us:((Rows.atomMatchesReferenceRow.mapsOut==prog.mapsAmong f3.resultTypes.toList))=true:=by kernel_rfl
theorem Ut:((Rows.atomMatchesReferenceRow.loops==(f3.params.toList++Rows.atomMatchesReferenceSpec.plain.varTypes prog).any (prog.loopsFrom ·)))=true:=by kernel_rfl
theorem Uu:((Rows.atomMatchesReferenceRow.wideKeys==(f3.params.toList++Rows.atomMatchesReferenceSpec.plain.varTypes prog++f3.resultTypes.toList).any (prog.wideKeysFrom ·)))=true:=by kernel_rfl
theorem Uv:(Rows.atomMatchesReferenceSpec.vars.all (prog.varReadable ·))=true:=by kernel_rfl
theorem Uw:(f3.resultTypes.all (λt=>prog.readableRec t && decide (t<prog.types.size)))=true:=by kernel_rfl
theorem Ux:((Rows.atomMatchesReferenceRow.ifacesOut==f3.resultTypes.toList.any (prog.ifacesRec ·)))=true:=by kernel_rfl
theorem Uy:((Rows.atomMatchesReferenceRow.loopsOut==f3.resultTypes.toList.any (prog.loopsFrom ·)))=true:=by kernel_rfl
theorem Uz:((Rows.atomMatchesReferenceRow.plainKeys==prog.plainKeys))=true:=by kernel_rfl
theorem UC:(Rows.atomMatchesReferenceRow.shortTexts.isNone)=true:=by kernel_rfl
theorem UD:(prog.stopsHeard)=true:=by kernel_rfl
theorem UE:(prog.mayEnter)=true:=by kernel_rfl
theorem UF:((Rows.atomMatchesReferenceRow.lifted==prog.liftsFinal))=true:=by kernel_rfl
theorem UG:((prog.make==some Rows.atomMatchesReferenceRow.make))=true:=by kernel_rfl
theorem UH:((Rows.atomMatchesReferenceRow.kinds==(if Rows.atomMatchesReferenceRow.domain.isEmpty then [] else f3.params.toList.map λt=>match prog.underlying t with|some (.int k)=>some k|_=>none)))=true:=by kernel_rfl
theorem UI:((Rows.atomMatchesReferenceRow.pinned==Rows.atomMatchesReferenceRow.pinnedBy))=true:=by kernel_rfl
theorem UJ:((Rows.atomMatchesReferenceRow.veiled==(f3.params.toList++Rows.atomMatchesReferenceSpec.plain.varTypes prog++f3.resultTypes.toList).any (prog.veiledRec ·)))=true:=by kernel_rfl
theorem UK:(Rows.atomMatchesReferenceRow.veiledFits prog f3.params.toList (f3.params.toList++Rows.atomMatchesReferenceSpec.plain.varTypes prog++f3.resultTypes.toList))=true:=by kernel_rfl
end Go.Proofs.YtmfinhgobjbecaaGreatDoor
