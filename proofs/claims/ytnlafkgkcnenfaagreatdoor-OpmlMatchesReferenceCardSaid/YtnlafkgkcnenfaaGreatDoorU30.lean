/- Parts of the proof: contracts and plain laws. -/
import Derived.Test.YtnlafkgkcnenfaaGreatDoorRows
import Derived.Test.YtnlafkgkcnenfaaGreatDoorU00
namespace Go.Proofs.YtnlafkgkcnenfaaGreatDoor
open Go _root_.Go.Proofs.Tryz
set_option linter.unusedVariables false
set_option linter.unusedSimpArgs false
set_option maxRecDepth 100000
set_option maxHeartbeats 16000000
theorem Zrg:(Rows.opmlMatchesReferenceRow.wf (OpenSpec.ofChange Rows.opmlMatchesReferenceSpec))=true:=by kernel_rfl
theorem Zrh:(laidOutB prog)=true:=by kernel_rfl
theorem Zri:(mapsRowed prog)=true:=by kernel_rfl
theorem Zrj:(f3.params.all (prog.readableRec ·))=true:=by kernel_rfl
theorem Zrk:(namedTie prog Rows.opmlMatchesReferenceRow.named Rows.opmlMatchesReferenceSpec.vars)=true:=by kernel_rfl
theorem Zrl:((Rows.opmlMatchesReferenceRow.stops== []))=true:=by kernel_rfl
theorem Zrm:((prog.stops== []))=true:=by kernel_rfl
theorem Zrn:((Rows.opmlMatchesReferenceRow.knobs== []))=true:=by kernel_rfl
theorem Zro:((prog.stopKnobs== []))=true:=by kernel_rfl
theorem Zrp:((Rows.opmlMatchesReferenceRow.inPlace==prog.inPlace 3))=true:=by kernel_rfl
theorem ZqT:((Rows.opmlMatchesReferenceRow.unfollowed==prog.unfollowed 3))=true:=by kernel_rfl
theorem ZqU:((Rows.opmlMatchesReferenceRow.recurses==prog.recurses 3))=true:=by kernel_rfl
theorem ZqV:((Rows.opmlMatchesReferenceRow.named==prog.varsNamed 3))=true:=by kernel_rfl
theorem ZqW:((Rows.opmlMatchesReferenceRow.maps==(f3.params.toList++Rows.opmlMatchesReferenceSpec.plain.varTypes prog).any (prog.mapsRec ·)))=true:=by kernel_rfl
theorem ZqX:((Rows.opmlMatchesReferenceRow.ifaces==(f3.params.toList++Rows.opmlMatchesReferenceSpec.plain.varTypes prog).any (prog.ifacesRec ·)))=true:=by kernel_rfl
theorem ZqY:((Rows.opmlMatchesReferenceRow.mapsOut==prog.mapsAmong f3.resultTypes.toList))=true:=by kernel_rfl
theorem ZqZ:((Rows.opmlMatchesReferenceRow.loops==(f3.params.toList++Rows.opmlMatchesReferenceSpec.plain.varTypes prog).any (prog.loopsFrom ·)))=true:=by kernel_rfl
theorem Zq0:((Rows.opmlMatchesReferenceRow.wideKeys==(f3.params.toList++Rows.opmlMatchesReferenceSpec.plain.varTypes prog++f3.resultTypes.toList).any (prog.wideKeysFrom ·)))=true:=by kernel_rfl
theorem Zq1:(Rows.opmlMatchesReferenceSpec.vars.all (prog.varReadable ·))=true:=by kernel_rfl
theorem Zq2:(f3.resultTypes.all (λt=>prog.readableRec t && decide (t<prog.types.size)))=true:=by kernel_rfl
theorem Zq3:((Rows.opmlMatchesReferenceRow.ifacesOut==f3.resultTypes.toList.any (prog.ifacesRec ·)))=true:=by kernel_rfl
theorem Zq4:((Rows.opmlMatchesReferenceRow.loopsOut==f3.resultTypes.toList.any (prog.loopsFrom ·)))=true:=by kernel_rfl
theorem Zq5:((Rows.opmlMatchesReferenceRow.plainKeys==prog.plainKeys))=true:=by kernel_rfl
theorem Zq6:(Rows.opmlMatchesReferenceRow.shortTexts.isNone)=true:=by kernel_rfl
theorem Zq7:(prog.stopsHeard)=true:=by kernel_rfl
theorem Zq8:(prog.mayEnter)=true:=by kernel_rfl
theorem Zq9:((Rows.opmlMatchesReferenceRow.lifted==prog.liftsFinal))=true:=by kernel_rfl
theorem Zra:((prog.make==some Rows.opmlMatchesReferenceRow.make))=true:=by kernel_rfl
theorem Zrb:((Rows.opmlMatchesReferenceRow.kinds==(if Rows.opmlMatchesReferenceRow.domain.isEmpty then [] else f3.params.toList.map λt=>match prog.underlying t with|some (.int k)=>some k|_=>none)))=true:=by kernel_rfl
theorem Zrc:((Rows.opmlMatchesReferenceRow.pinned==Rows.opmlMatchesReferenceRow.pinnedBy))=true:=by kernel_rfl
theorem Zrd:((Rows.opmlMatchesReferenceRow.veiled==(f3.params.toList++Rows.opmlMatchesReferenceSpec.plain.varTypes prog++f3.resultTypes.toList).any (prog.veiledRec ·)))=true:=by kernel_rfl
theorem Zre:(Rows.opmlMatchesReferenceRow.veiledFits prog f3.params.toList (f3.params.toList++Rows.opmlMatchesReferenceSpec.plain.varTypes prog++f3.resultTypes.toList))=true:=by kernel_rfl
end Go.Proofs.YtnlafkgkcnenfaaGreatDoor
