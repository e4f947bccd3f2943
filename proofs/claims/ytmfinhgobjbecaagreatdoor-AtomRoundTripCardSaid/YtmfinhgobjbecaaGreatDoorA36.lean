/- Parts of the proof: contracts and plain laws. -/
import Derived.Test.YtmfinhgobjbecaaGreatDoorRows
import Derived.Test.YtmfinhgobjbecaaGreatDoorA00
namespace Go.Proofs.YtmfinhgobjbecaaGreatDoor
open Go _root_.Go.Proofs.Tryz
set_option linter.unusedVariables false
set_option linter.unusedSimpArgs false
set_option maxRecDepth 100000
set_option maxHeartbeats 16000000
theorem EO:(Rows.atomRoundTripRow.wf (OpenSpec.ofChange Rows.atomRoundTripSpec))=true:=by kernel_rfl
theorem EP:(laidOutB prog)=true:=by kernel_rfl
theorem EQ:(mapsRowed prog)=true:=by kernel_rfl
theorem ER:(f5.params.all (prog.readableRec ·))=true:=by kernel_rfl
theorem ES:(namedTie prog Rows.atomRoundTripRow.named Rows.atomRoundTripSpec.vars)=true:=by kernel_rfl
theorem ET:((Rows.atomRoundTripRow.stops== []))=true:=by kernel_rfl
theorem EU:((prog.stops== []))=true:=by kernel_rfl
theorem EV:((Rows.atomRoundTripRow.knobs== []))=true:=by kernel_rfl
theorem EW:((prog.stopKnobs== []))=true:=by kernel_rfl
theorem EX:((Rows.atomRoundTripRow.inPlace==prog.inPlace 5))=true:=by kernel_rfl
theorem KV:((Rows.atomRoundTripRow.unfollowed==prog.unfollowed 5))=true:=by kernel_rfl
theorem KW:((Rows.atomRoundTripRow.recurses==prog.recurses 5))=true:=by kernel_rfl
theorem KX:((Rows.atomRoundTripRow.named==prog.varsNamed 5))=true:=by kernel_rfl
theorem KY:((Rows.atomRoundTripRow.maps==(f5.params.toList++Rows.atomRoundTripSpec.plain.varTypes prog).any (prog.mapsRec ·)))=true:=by kernel_rfl
theorem KZ:((Rows.atomRoundTripRow.ifaces==(f5.params.toList++Rows.atomRoundTripSpec.plain.varTypes prog).any (prog.ifacesRec ·)))=true:=by kernel_rfl
theorem K0:((Rows.atomRoundTripRow.mapsOut==prog.mapsAmong f5.resultTypes.toList))=true:=by kernel_rfl
theorem K5:((Rows.atomRoundTripRow.loops==(f5.params.toList++Rows.atomRoundTripSpec.plain.varTypes prog).any (prog.loopsFrom ·)))=true:=by kernel_rfl
theorem K7:((Rows.atomRoundTripRow.wideKeys==(f5.params.toList++Rows.atomRoundTripSpec.plain.varTypes prog++f5.resultTypes.toList).any (prog.wideKeysFrom ·)))=true:=by kernel_rfl
theorem K8:(Rows.atomRoundTripSpec.vars.all (prog.varReadable ·))=true:=by kernel_rfl
theorem K9:(f5.resultTypes.all (λt=>prog.readableRec t && decide (t<prog.types.size)))=true:=by kernel_rfl
theorem Ia:((Rows.atomRoundTripRow.ifacesOut==f5.resultTypes.toList.any (prog.ifacesRec ·)))=true:=by kernel_rfl
theorem Ib:((Rows.atomRoundTripRow.loopsOut==f5.resultTypes.toList.any (prog.loopsFrom ·)))=true:=by kernel_rfl
theorem Ic:((Rows.atomRoundTripRow.plainKeys==prog.plainKeys))=true:=by kernel_rfl
theorem Id:(Rows.atomRoundTripRow.shortTexts.isNone)=true:=by kernel_rfl
theorem Ie:(prog.stopsHeard)=true:=by kernel_rfl
theorem If:(prog.mayEnter)=true:=by kernel_rfl
theorem Ig:((Rows.atomRoundTripRow.lifted==prog.liftsFinal))=true:=by kernel_rfl
theorem Ih:((prog.make==some Rows.atomRoundTripRow.make))=true:=by kernel_rfl
theorem Ii:((Rows.atomRoundTripRow.kinds==(if Rows.atomRoundTripRow.domain.isEmpty then [] else f5.params.toList.map λt=>match prog.underlying t with|some (.int k)=>some k|_=>none)))=true:=by kernel_rfl
theorem Ij:((Rows.atomRoundTripRow.pinned==Rows.atomRoundTripRow.pinnedBy))=true:=by kernel_rfl
theorem Ik:((Rows.atomRoundTripRow.veiled==(f5.params.toList++Rows.atomRoundTripSpec.plain.varTypes prog++f5.resultTypes.toList).any (prog.veiledRec ·)))=true:=by kernel_rfl
theorem Il:(Rows.atomRoundTripRow.veiledFits prog f5.params.toList (f5.params.toList++Rows.atomRoundTripSpec.plain.varTypes prog++f5.resultTypes.toList))=true:=by kernel_rfl
end Go.Proofs.YtmfinhgobjbecaaGreatDoor
