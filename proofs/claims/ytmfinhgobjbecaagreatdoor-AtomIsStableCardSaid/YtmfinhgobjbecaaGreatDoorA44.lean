/- Parts of the proof: contracts and plain laws. -/
import Derived.Test.YtmfinhgobjbecaaGreatDoorRows
import Derived.Test.YtmfinhgobjbecaaGreatDoorA00
namespace Go.Proofs.YtmfinhgobjbecaaGreatDoor
open Go _root_.Go.Proofs.Tryz
set_option linter.unusedVariables false
set_option linter.unusedSimpArgs false
set_option maxRecDepth 100000
set_option maxHeartbeats 16000000
theorem Zbj:(Rows.atomIsStableRow.wf (OpenSpec.ofChange Rows.atomIsStableSpec))=true:=by kernel_rfl
theorem Zbk:(laidOutB prog)=true:=by kernel_rfl
theorem Zbl:(mapsRowed prog)=true:=by kernel_rfl
theorem Zbm:(f7.params.all (prog.readableRec ·))=true:=by kernel_rfl
theorem Zbn:(namedTie prog Rows.atomIsStableRow.named Rows.atomIsStableSpec.vars)=true:=by kernel_rfl
theorem Zbo:((Rows.atomIsStableRow.stops== []))=true:=by kernel_rfl
theorem Zbp:((prog.stops== []))=true:=by kernel_rfl
theorem Zbq:((Rows.atomIsStableRow.knobs== []))=true:=by kernel_rfl
theorem Zbr:((prog.stopKnobs== []))=true:=by kernel_rfl
theorem Zbs:((Rows.atomIsStableRow.inPlace==prog.inPlace 7))=true:=by kernel_rfl
theorem Ep:((Rows.atomIsStableRow.unfollowed==prog.unfollowed 7))=true:=by kernel_rfl
theorem Eq:((Rows.atomIsStableRow.recurses==prog.recurses 7))=true:=by kernel_rfl
theorem Er:((Rows.atomIsStableRow.named==prog.varsNamed 7))=true:=by kernel_rfl
theorem Es:((Rows.atomIsStableRow.maps==(f7.params.toList++Rows.atomIsStableSpec.plain.varTypes prog).any (prog.mapsRec ·)))=true:=by kernel_rfl
theorem Et:((Rows.atomIsStableRow.ifaces==(f7.params.toList++Rows.atomIsStableSpec.plain.varTypes prog).any (prog.ifacesRec ·)))=true:=by kernel_rfl
theorem Eu:((Rows.atomIsStableRow.mapsOut==prog.mapsAmong f7.resultTypes.toList))=true:=by kernel_rfl
theorem Ev:((Rows.atomIsStableRow.loops==(f7.params.toList++Rows.atomIsStableSpec.plain.varTypes prog).any (prog.loopsFrom ·)))=true:=by kernel_rfl
theorem Ew:((Rows.atomIsStableRow.wideKeys==(f7.params.toList++Rows.atomIsStableSpec.plain.varTypes prog++f7.resultTypes.toList).any (prog.wideKeysFrom ·)))=true:=by kernel_rfl
theorem Ex:(Rows.atomIsStableSpec.vars.all (prog.varReadable ·))=true:=by kernel_rfl
theorem Ey:(f7.resultTypes.all (λt=>prog.readableRec t && decide (t<prog.types.size)))=true:=by kernel_rfl
theorem Ez:((Rows.atomIsStableRow.ifacesOut==f7.resultTypes.toList.any (prog.ifacesRec ·)))=true:=by kernel_rfl
theorem EB:((Rows.atomIsStableRow.loopsOut==f7.resultTypes.toList.any (prog.loopsFrom ·)))=true:=by kernel_rfl
theorem ED:((Rows.atomIsStableRow.plainKeys==prog.plainKeys))=true:=by kernel_rfl
theorem EE:(Rows.atomIsStableRow.shortTexts.isNone)=true:=by kernel_rfl
theorem EG:(prog.stopsHeard)=true:=by kernel_rfl
theorem EH:(prog.mayEnter)=true:=by kernel_rfl
theorem EI:((Rows.atomIsStableRow.lifted==prog.liftsFinal))=true:=by kernel_rfl
theorem EJ:((prog.make==some Rows.atomIsStableRow.make))=true:=by kernel_rfl
theorem EK:((Rows.atomIsStableRow.kinds==(if Rows.atomIsStableRow.domain.isEmpty then [] else f7.params.toList.map λt=>match prog.underlying t with|some (.int k)=>some k|_=>none)))=true:=by kernel_rfl
theorem EL:((Rows.atomIsStableRow.pinned==Rows.atomIsStableRow.pinnedBy))=true:=by kernel_rfl
theorem EM:((Rows.atomIsStableRow.veiled==(f7.params.toList++Rows.atomIsStableSpec.plain.varTypes prog++f7.resultTypes.toList).any (prog.veiledRec ·)))=true:=by kernel_rfl
theorem EN:(Rows.atomIsStableRow.veiledFits prog f7.params.toList (f7.params.toList++Rows.atomIsStableSpec.plain.varTypes prog++f7.resultTypes.toList))=true:=by kernel_rfl
end Go.Proofs.YtmfinhgobjbecaaGreatDoor
