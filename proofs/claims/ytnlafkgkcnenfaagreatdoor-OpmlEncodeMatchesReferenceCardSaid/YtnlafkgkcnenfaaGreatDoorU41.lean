/- Parts of the proof: contracts and plain laws. -/
import Derived.Test.YtnlafkgkcnenfaaGreatDoorRows
import Derived.Test.YtnlafkgkcnenfaaGreatDoorU00
namespace Go.Proofs.YtnlafkgkcnenfaaGreatDoor
open Go _root_.Go.Proofs.Tryz
set_option linter.unusedVariables false
set_option linter.unusedSimpArgs false
set_option maxRecDepth 100000
set_option maxHeartbeats 16000000
theorem ZqE:(Rows.opmlEncodeMatchesReferenceRow.wf (OpenSpec.ofChange Rows.opmlEncodeMatchesReferenceSpec))=true:=by kernel_rfl
theorem ZqF:(laidOutB prog)=true:=by kernel_rfl
theorem ZqG:(mapsRowed prog)=true:=by kernel_rfl
theorem ZqH:(f6.params.all (prog.readableRec ·))=true:=by kernel_rfl
theorem ZqI:(namedTie prog Rows.opmlEncodeMatchesReferenceRow.named Rows.opmlEncodeMatchesReferenceSpec.vars)=true:=by kernel_rfl
theorem ZqJ:((Rows.opmlEncodeMatchesReferenceRow.stops== []))=true:=by kernel_rfl
theorem ZqK:((prog.stops== []))=true:=by kernel_rfl
theorem ZqL:((Rows.opmlEncodeMatchesReferenceRow.knobs== []))=true:=by kernel_rfl
theorem ZqM:((prog.stopKnobs== []))=true:=by kernel_rfl
theorem ZqN:((Rows.opmlEncodeMatchesReferenceRow.inPlace==prog.inPlace 6))=true:=by kernel_rfl
theorem Zqh:((Rows.opmlEncodeMatchesReferenceRow.unfollowed==prog.unfollowed 6))=true:=by kernel_rfl
theorem Zqi:((Rows.opmlEncodeMatchesReferenceRow.recurses==prog.recurses 6))=true:=by kernel_rfl
theorem Zqj:((Rows.opmlEncodeMatchesReferenceRow.named==prog.varsNamed 6))=true:=by kernel_rfl
theorem Zqk:((Rows.opmlEncodeMatchesReferenceRow.maps==(f6.params.toList++Rows.opmlEncodeMatchesReferenceSpec.plain.varTypes prog).any (prog.mapsRec ·)))=true:=by kernel_rfl
theorem Zql:((Rows.opmlEncodeMatchesReferenceRow.ifaces==(f6.params.toList++Rows.opmlEncodeMatchesReferenceSpec.plain.varTypes prog).any (prog.ifacesRec ·)))=true:=by kernel_rfl
theorem Zqm:((Rows.opmlEncodeMatchesReferenceRow.mapsOut==prog.mapsAmong f6.resultTypes.toList))=true:=by kernel_rfl
theorem Zqn:((Rows.opmlEncodeMatchesReferenceRow.loops==(f6.params.toList++Rows.opmlEncodeMatchesReferenceSpec.plain.varTypes prog).any (prog.loopsFrom ·)))=true:=by kernel_rfl
theorem Zqo:((Rows.opmlEncodeMatchesReferenceRow.wideKeys==(f6.params.toList++Rows.opmlEncodeMatchesReferenceSpec.plain.varTypes prog++f6.resultTypes.toList).any (prog.wideKeysFrom ·)))=true:=by kernel_rfl
theorem Zqp:(Rows.opmlEncodeMatchesReferenceSpec.vars.all (prog.varReadable ·))=true:=by kernel_rfl
theorem Zqq:(f6.resultTypes.all (λt=>prog.readableRec t && decide (t<prog.types.size)))=true:=by kernel_rfl
theorem Zqr:((Rows.opmlEncodeMatchesReferenceRow.ifacesOut==f6.resultTypes.toList.any (prog.ifacesRec ·)))=true:=by kernel_rfl
theorem Zqs:((Rows.opmlEncodeMatchesReferenceRow.loopsOut==f6.resultTypes.toList.any (prog.loopsFrom ·)))=true:=by kernel_rfl
theorem Zqt:((Rows.opmlEncodeMatchesReferenceRow.plainKeys==prog.plainKeys))=true:=by kernel_rfl
theorem Zqu:(Rows.opmlEncodeMatchesReferenceRow.shortTexts.isNone)=true:=by kernel_rfl
theorem Zqv:(prog.stopsHeard)=true:=by kernel_rfl
theorem Zqw:(prog.mayEnter)=true:=by kernel_rfl
theorem Zqx:((Rows.opmlEncodeMatchesReferenceRow.lifted==prog.liftsFinal))=true:=by kernel_rfl
theorem Zqy:((prog.make==some Rows.opmlEncodeMatchesReferenceRow.make))=true:=by kernel_rfl
theorem Zqz:((Rows.opmlEncodeMatchesReferenceRow.kinds==(if Rows.opmlEncodeMatchesReferenceRow.domain.isEmpty then [] else f6.params.toList.map λt=>match prog.underlying t with|some (.int k)=>some k|_=>none)))=true:=by kernel_rfl
theorem ZqA:((Rows.opmlEncodeMatchesReferenceRow.pinned==Rows.opmlEncodeMatchesReferenceRow.pinnedBy))=true:=by kernel_rfl
theorem ZqB:((Rows.opmlEncodeMatchesReferenceRow.veiled==(f6.params.toList++Rows.opmlEncodeMatchesReferenceSpec.plain.varTypes prog++f6.resultTypes.toList).any (prog.veiledRec ·)))=true:=by kernel_rfl
theorem ZqC:(Rows.opmlEncodeMatchesReferenceRow.veiledFits prog f6.params.toList (f6.params.toList++Rows.opmlEncodeMatchesReferenceSpec.plain.varTypes prog++f6.resultTypes.toList))=true:=by kernel_rfl
end Go.Proofs.YtnlafkgkcnenfaaGreatDoor
