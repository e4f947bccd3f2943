/- Parts of the proof: contracts and plain laws. -/
import Derived.Test.YtnlafkgkcnenfaaGreatDoorRows
import Derived.Test.YtnlafkgkcnenfaaGreatDoorU00
namespace Go.Proofs.YtnlafkgkcnenfaaGreatDoor
open Go _root_.Go.Proofs.Tryz
set_option linter.unusedVariables false
set_option linter.unusedSimpArgs false
set_option maxRecDepth 100000
set_option maxHeartbeats 16000000
theorem Zbb:(Rows.opmlIsStableRow.wf (OpenSpec.ofChange Rows.opmlIsStableSpec))=true:=by kernel_rfl
theorem Zbc:(laidOutB prog)=true:=by kernel_rfl
theorem Zbd:(mapsRowed prog)=true:=by kernel_rfl
theorem Zbe:(f5.params.all (prog.readableRec ·))=true:=by kernel_rfl
theorem Zbf:(namedTie prog Rows.opmlIsStableRow.named Rows.opmlIsStableSpec.vars)=true:=by kernel_rfl
theorem Zbg:((Rows.opmlIsStableRow.stops== []))=true:=by kernel_rfl
theorem Zbh:((prog.stops== []))=true:=by kernel_rfl
theorem Zbi:((Rows.opmlIsStableRow.knobs== []))=true:=by kernel_rfl
theorem Zbj:((prog.stopKnobs== []))=true:=by kernel_rfl
theorem Zbk:((Rows.opmlIsStableRow.inPlace==prog.inPlace 5))=true:=by kernel_rfl
theorem EO:((Rows.opmlIsStableRow.unfollowed==prog.unfollowed 5))=true:=by kernel_rfl
theorem EQ:((Rows.opmlIsStableRow.recurses==prog.recurses 5))=true:=by kernel_rfl
theorem ES:((Rows.opmlIsStableRow.named==prog.varsNamed 5))=true:=by kernel_rfl
theorem ET:((Rows.opmlIsStableRow.maps==(f5.params.toList++Rows.opmlIsStableSpec.plain.varTypes prog).any (prog.mapsRec ·)))=true:=by kernel_rfl
theorem EU:((Rows.opmlIsStableRow.ifaces==(f5.params.toList++Rows.opmlIsStableSpec.plain.varTypes prog).any (prog.ifacesRec ·)))=true:=by kernel_rfl
theorem EV:((Rows.opmlIsStableRow.mapsOut==prog.mapsAmong f5.resultTypes.toList))=true:=by kernel_rfl
theorem EW:((Rows.opmlIsStableRow.loops==(f5.params.toList++Rows.opmlIsStableSpec.plain.varTypes prog).any (prog.loopsFrom ·)))=true:=by kernel_rfl
theorem ZrN:((Rows.opmlIsStableRow.wideKeys==(f5.params.toList++Rows.opmlIsStableSpec.plain.varTypes prog++f5.resultTypes.toList).any (prog.wideKeysFrom ·)))=true:=by kernel_rfl
theorem EY:(Rows.opmlIsStableSpec.vars.all (prog.varReadable ·))=true:=by kernel_rfl
theorem EZ:(f5.resultTypes.all (λt=>prog.readableRec t && decide (t<prog.types.size)))=true:=by kernel_rfl
theorem E0:((Rows.opmlIsStableRow.ifacesOut==f5.resultTypes.toList.any (prog.ifacesRec ·)))=true:=by kernel_rfl
theorem E1:((Rows.opmlIsStableRow.loopsOut==f5.resultTypes.toList.any (prog.loopsFrom ·)))=true:=by kernel_rfl
theorem E3:((Rows.opmlIsStableRow.plainKeys==prog.plainKeys))=true:=by kernel_rfl
theorem E4:(Rows.opmlIsStableRow.shortTexts.isNone)=true:=by kernel_rfl
theorem E5:(prog.stopsHeard)=true:=by kernel_rfl
theorem E6:(prog.mayEnter)=true:=by kernel_rfl
theorem E7:((Rows.opmlIsStableRow.lifted==prog.liftsFinal))=true:=by kernel_rfl
theorem E8:((prog.make==some Rows.opmlIsStableRow.make))=true:=by kernel_rfl
theorem E9:((Rows.opmlIsStableRow.kinds==(if Rows.opmlIsStableRow.domain.isEmpty then [] else f5.params.toList.map λt=>match prog.underlying t with|some (.int k)=>some k|_=>none)))=true:=by kernel_rfl
theorem Zaa:((Rows.opmlIsStableRow.pinned==Rows.opmlIsStableRow.pinnedBy))=true:=by kernel_rfl
theorem Zab:((Rows.opmlIsStableRow.veiled==(f5.params.toList++Rows.opmlIsStableSpec.plain.varTypes prog++f5.resultTypes.toList).any (prog.veiledRec ·)))=true:=by kernel_rfl
theorem Zac:(Rows.opmlIsStableRow.veiledFits prog f5.params.toList (f5.params.toList++Rows.opmlIsStableSpec.plain.varTypes prog++f5.resultTypes.toList))=true:=by kernel_rfl
end Go.Proofs.YtnlafkgkcnenfaaGreatDoor
