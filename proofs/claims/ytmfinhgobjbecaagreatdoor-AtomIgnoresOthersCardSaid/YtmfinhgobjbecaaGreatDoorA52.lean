/- Parts of the proof: contracts and plain laws. -/
import Derived.Test.YtmfinhgobjbecaaGreatDoorRows
import Derived.Test.YtmfinhgobjbecaaGreatDoorA00
namespace Go.Proofs.YtmfinhgobjbecaaGreatDoor
open Go _root_.Go.Proofs.Tryz
set_option linter.unusedVariables false
set_option linter.unusedSimpArgs false
set_option maxRecDepth 100000
set_option maxHeartbeats 16000000
theorem Zty:(Rows.atomIgnoresOthersRow.wf (OpenSpec.ofChange Rows.atomIgnoresOthersSpec))=true:=by kernel_rfl
theorem Ztz:(laidOutB prog)=true:=by kernel_rfl
theorem ZtA:(mapsRowed prog)=true:=by kernel_rfl
theorem ZtB:(f8.params.all (prog.readableRec ·))=true:=by kernel_rfl
theorem ZtC:(namedTie prog Rows.atomIgnoresOthersRow.named Rows.atomIgnoresOthersSpec.vars)=true:=by kernel_rfl
theorem ZtD:((Rows.atomIgnoresOthersRow.stops== []))=true:=by kernel_rfl
theorem ZtE:((prog.stops== []))=true:=by kernel_rfl
theorem ZtF:((Rows.atomIgnoresOthersRow.knobs== []))=true:=by kernel_rfl
theorem ZtG:((prog.stopKnobs== []))=true:=by kernel_rfl
theorem ZtH:((Rows.atomIgnoresOthersRow.inPlace==prog.inPlace 8))=true:=by kernel_rfl
theorem Ztc:((Rows.atomIgnoresOthersRow.unfollowed==prog.unfollowed 8))=true:=by kernel_rfl
theorem Ztd:((Rows.atomIgnoresOthersRow.recurses==prog.recurses 8))=true:=by kernel_rfl
theorem Zte:((Rows.atomIgnoresOthersRow.named==prog.varsNamed 8))=true:=by kernel_rfl
theorem Ztf:((Rows.atomIgnoresOthersRow.maps==(f8.params.toList++Rows.atomIgnoresOthersSpec.plain.varTypes prog).any (prog.mapsRec ·)))=true:=by kernel_rfl
theorem Ztg:((Rows.atomIgnoresOthersRow.ifaces==(f8.params.toList++Rows.atomIgnoresOthersSpec.plain.varTypes prog).any (prog.ifacesRec ·)))=true:=by kernel_rfl
theorem Zth:((Rows.atomIgnoresOthersRow.mapsOut==prog.mapsAmong f8.resultTypes.toList))=true:=by kernel_rfl
theorem Zti:((Rows.atomIgnoresOthersRow.loops==(f8.params.toList++Rows.atomIgnoresOthersSpec.plain.varTypes prog).any (prog.loopsFrom ·)))=true:=by kernel_rfl
theorem Ztj:((Rows.atomIgnoresOthersRow.wideKeys==(f8.params.toList++Rows.atomIgnoresOthersSpec.plain.varTypes prog++f8.resultTypes.toList).any (prog.wideKeysFrom ·)))=true:=by kernel_rfl
theorem Ztk:(Rows.atomIgnoresOthersSpec.vars.all (prog.varReadable ·))=true:=by kernel_rfl
theorem Ztl:(f8.resultTypes.all (λt=>prog.readableRec t && decide (t<prog.types.size)))=true:=by kernel_rfl
theorem Ztm:((Rows.atomIgnoresOthersRow.ifacesOut==f8.resultTypes.toList.any (prog.ifacesRec ·)))=true:=by kernel_rfl
theorem Ztn:((Rows.atomIgnoresOthersRow.loopsOut==f8.resultTypes.toList.any (prog.loopsFrom ·)))=true:=by kernel_rfl
theorem Zto:((Rows.atomIgnoresOthersRow.plainKeys==prog.plainKeys))=true:=by kernel_rfl
theorem Ztp:(Rows.atomIgnoresOthersRow.shortTexts.isNone)=true:=by kernel_rfl
theorem Ztq:(prog.stopsHeard)=true:=by kernel_rfl
theorem Ztr:(prog.mayEnter)=true:=by kernel_rfl
theorem Zts:((Rows.atomIgnoresOthersRow.lifted==prog.liftsFinal))=true:=by kernel_rfl
theorem Ztt:((prog.make==some Rows.atomIgnoresOthersRow.make))=true:=by kernel_rfl
theorem Ztu:((Rows.atomIgnoresOthersRow.kinds==(if Rows.atomIgnoresOthersRow.domain.isEmpty then [] else f8.params.toList.map λt=>match prog.underlying t with|some (.int k)=>some k|_=>none)))=true:=by kernel_rfl
theorem Ztv:((Rows.atomIgnoresOthersRow.pinned==Rows.atomIgnoresOthersRow.pinnedBy))=true:=by kernel_rfl
theorem Ztw:((Rows.atomIgnoresOthersRow.veiled==(f8.params.toList++Rows.atomIgnoresOthersSpec.plain.varTypes prog++f8.resultTypes.toList).any (prog.veiledRec ·)))=true:=by kernel_rfl
theorem Ztx:(Rows.atomIgnoresOthersRow.veiledFits prog f8.params.toList (f8.params.toList++Rows.atomIgnoresOthersSpec.plain.varTypes prog++f8.resultTypes.toList))=true:=by kernel_rfl
end Go.Proofs.YtmfinhgobjbecaaGreatDoor
