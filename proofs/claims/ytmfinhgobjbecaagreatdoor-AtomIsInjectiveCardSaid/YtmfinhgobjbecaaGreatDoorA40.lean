/- Parts of the proof: contracts and plain laws. -/
import Derived.Test.YtmfinhgobjbecaaGreatDoorRows
import Derived.Test.YtmfinhgobjbecaaGreatDoorA00
namespace Go.Proofs.YtmfinhgobjbecaaGreatDoor
open Go _root_.Go.Proofs.Tryz
set_option linter.unusedVariables false
set_option linter.unusedSimpArgs false
set_option maxRecDepth 100000
set_option maxHeartbeats 16000000
theorem G1:(Rows.atomIsInjectiveRow.wf (OpenSpec.ofChange Rows.atomIsInjectiveSpec))=true:=by kernel_rfl
theorem G2:(laidOutB prog)=true:=by kernel_rfl
theorem G3:(mapsRowed prog)=true:=by kernel_rfl
theorem G4:(f6.params.all (prog.readableRec ·))=true:=by kernel_rfl
theorem G5:(namedTie prog Rows.atomIsInjectiveRow.named Rows.atomIsInjectiveSpec.vars)=true:=by kernel_rfl
theorem G6:((Rows.atomIsInjectiveRow.stops== []))=true:=by kernel_rfl
theorem G7:((prog.stops== []))=true:=by kernel_rfl
theorem G8:((Rows.atomIsInjectiveRow.knobs== []))=true:=by kernel_rfl
theorem G9:((prog.stopKnobs== []))=true:=by kernel_rfl
theorem Ka:((Rows.atomIsInjectiveRow.inPlace==prog.inPlace 6))=true:=by kernel_rfl
theorem Gk:((Rows.atomIsInjectiveRow.unfollowed==prog.unfollowed 6))=true:=by kernel_rfl
theorem Gl:((Rows.atomIsInjectiveRow.recurses==prog.recurses 6))=true:=by kernel_rfl
theorem Gm:((Rows.atomIsInjectiveRow.named==prog.varsNamed 6))=true:=by kernel_rfl
theorem Gn:((Rows.atomIsInjectiveRow.maps==(f6.params.toList++Rows.atomIsInjectiveSpec.plain.varTypes prog).any (prog.mapsRec ·)))=true:=by kernel_rfl
theorem Gp:((Rows.atomIsInjectiveRow.ifaces==(f6.params.toList++Rows.atomIsInjectiveSpec.plain.varTypes prog).any (prog.ifacesRec ·)))=true:=by kernel_rfl
theorem Gq:((Rows.atomIsInjectiveRow.mapsOut==prog.mapsAmong f6.resultTypes.toList))=true:=by kernel_rfl
theorem Gr:((Rows.atomIsInjectiveRow.loops==(f6.params.toList++Rows.atomIsInjectiveSpec.plain.varTypes prog).any (prog.loopsFrom ·)))=true:=by kernel_rfl
theorem Gs:((Rows.atomIsInjectiveRow.wideKeys==(f6.params.toList++Rows.atomIsInjectiveSpec.plain.varTypes prog++f6.resultTypes.toList).any (prog.wideKeysFrom ·)))=true:=by kernel_rfl
theorem Gt:(Rows.atomIsInjectiveSpec.vars.all (prog.varReadable ·))=true:=by kernel_rfl
theorem Gu:(f6.resultTypes.all (λt=>prog.readableRec t && decide (t<prog.types.size)))=true:=by kernel_rfl
theorem Gv:((Rows.atomIsInjectiveRow.ifacesOut==f6.resultTypes.toList.any (prog.ifacesRec ·)))=true:=by kernel_rfl
theorem Gw:((Rows.atomIsInjectiveRow.loopsOut==f6.resultTypes.toList.any (prog.loopsFrom ·)))=true:=by kernel_rfl
theorem Gx:((Rows.atomIsInjectiveRow.plainKeys==prog.plainKeys))=true:=by kernel_rfl
theorem Gy:(Rows.atomIsInjectiveRow.shortTexts.isNone)=true:=by kernel_rfl
theorem Gz:(prog.stopsHeard)=true:=by kernel_rfl
theorem GA:(prog.mayEnter)=true:=by kernel_rfl
theorem GB:((Rows.atomIsInjectiveRow.lifted==prog.liftsFinal))=true:=by kernel_rfl
theorem GC:((prog.make==some Rows.atomIsInjectiveRow.make))=true:=by kernel_rfl
theorem GD:((Rows.atomIsInjectiveRow.kinds==(if Rows.atomIsInjectiveRow.domain.isEmpty then [] else f6.params.toList.map λt=>match prog.underlying t with|some (.int k)=>some k|_=>none)))=true:=by kernel_rfl
theorem GE:((Rows.atomIsInjectiveRow.pinned==Rows.atomIsInjectiveRow.pinnedBy))=true:=by kernel_rfl
theorem GF:((Rows.atomIsInjectiveRow.veiled==(f6.params.toList++Rows.atomIsInjectiveSpec.plain.varTypes prog++f6.resultTypes.toList).any (prog.veiledRec ·)))=true:=by kernel_rfl
theorem GG:(Rows.atomIsInjectiveRow.veiledFits prog f6.params.toList (f6.params.toList++Rows.atomIsInjectiveSpec.plain.varTypes prog++f6.resultTypes.toList))=true:=by kernel_rfl
end Go.Proofs.YtmfinhgobjbecaaGreatDoor
