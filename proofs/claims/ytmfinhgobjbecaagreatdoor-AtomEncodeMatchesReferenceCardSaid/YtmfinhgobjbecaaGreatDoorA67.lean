/- Parts of the proof: contracts and plain laws. -/
import Derived.Deep.MidRow
import Derived.Lib.AppendZerosOnto
import Derived.Lib.SliceRun
import Derived.Test.YtmfinhgobjbecaaGreatDoorRows
import Derived.Test.YtmfinhgobjbecaaGreatDoorA00
namespace Go.Proofs.YtmfinhgobjbecaaGreatDoor
open Go _root_.Go.Proofs.Tryz
set_option linter.unusedVariables false
set_option linter.unusedSimpArgs false
set_option maxRecDepth 100000
set_option maxHeartbeats 16000000
theorem Zvj:(Rows.atomEncodeMatchesReferenceRow.wf (OpenSpec.ofChange Rows.atomEncodeMatchesReferenceSpec))=true:=by kernel_rfl
theorem Zvk:(laidOutB prog)=true:=by kernel_rfl
theorem Zvl:(mapsRowed prog)=true:=by kernel_rfl
theorem Zvm:(f4.params.all (prog.readableRec ·))=true:=by kernel_rfl
theorem Zvn:(namedTie prog Rows.atomEncodeMatchesReferenceRow.named Rows.atomEncodeMatchesReferenceSpec.vars)=true:=by kernel_rfl
theorem Zvo:((Rows.atomEncodeMatchesReferenceRow.stops== []))=true:=by kernel_rfl
theorem Zvp:((prog.stops== []))=true:=by kernel_rfl
theorem Zvq:((Rows.atomEncodeMatchesReferenceRow.knobs== []))=true:=by kernel_rfl
theorem Zvr:((prog.stopKnobs== []))=true:=by kernel_rfl
theorem Zvs:((Rows.atomEncodeMatchesReferenceRow.inPlace==prog.inPlace 4))=true:=by kernel_rfl
theorem ZuW:((Rows.atomEncodeMatchesReferenceRow.unfollowed==prog.unfollowed 4))=true:=by kernel_rfl
theorem ZuX:((Rows.atomEncodeMatchesReferenceRow.recurses==prog.recurses 4))=true:=by kernel_rfl
theorem ZuY:((Rows.atomEncodeMatchesReferenceRow.named==prog.varsNamed 4))=true:=by kernel_rfl
theorem ZuZ:((Rows.atomEncodeMatchesReferenceRow.maps==(f4.params.toList++Rows.atomEncodeMatchesReferenceSpec.plain.varTypes prog).any (prog.mapsRec ·)))=true:=by kernel_rfl
theorem Zu0:((Rows.atomEncodeMatchesReferenceRow.ifaces==(f4.params.toList++Rows.atomEncodeMatchesReferenceSpec.plain.varTypes prog).any (prog.ifacesRec ·)))=true:=by kernel_rfl
theorem Zu1:((Rows.atomEncodeMatchesReferenceRow.mapsOut==prog.mapsAmong f4.resultTypes.toList))=true:=by kernel_rfl
theorem Zu2:((Rows.atomEncodeMatchesReferenceRow.loops==(f4.params.toList++Rows.atomEncodeMatchesReferenceSpec.plain.varTypes prog).any (prog.loopsFrom ·)))=true:=by kernel_rfl
theorem Zu3:((Rows.atomEncodeMatchesReferenceRow.wideKeys==(f4.params.toList++Rows.atomEncodeMatchesReferenceSpec.plain.varTypes prog++f4.resultTypes.toList).any (prog.wideKeysFrom ·)))=true:=by kernel_rfl
theorem Zu4:(Rows.atomEncodeMatchesReferenceSpec.vars.all (prog.varReadable ·))=true:=by kernel_rfl
theorem Zu5:(f4.resultTypes.all (λt=>prog.readableRec t && decide (t<prog.types.size)))=true:=by kernel_rfl
theorem Zu6:((Rows.atomEncodeMatchesReferenceRow.ifacesOut==f4.resultTypes.toList.any (prog.ifacesRec ·)))=true:=by kernel_rfl
theorem Zu7:((Rows.atomEncodeMatchesReferenceRow.loopsOut==f4.resultTypes.toList.any (prog.loopsFrom ·)))=true:=by kernel_rfl
theorem Zu8:((Rows.atomEncodeMatchesReferenceRow.plainKeys==prog.plainKeys))=true:=by kernel_rfl
theorem Zu9:(Rows.atomEncodeMatchesReferenceRow.shortTexts.isNone)=true:=by kernel_rfl
theorem Zva:(prog.stopsHeard)=true:=by kernel_rfl
theorem Zvb:(prog.mayEnter)=true:=by kernel_rfl
theorem Zvc:((Rows.atomEncodeMatchesReferenceRow.lifted==prog.liftsFinal))=true:=by kernel_rfl
theorem Zvd:((prog.make==some Rows.atomEncodeMatchesReferenceRow.make))=true:=by kernel_rfl
theorem Zve:((Rows.atomEncodeMatchesReferenceRow.kinds==(if Rows.atomEncodeMatchesReferenceRow.domain.isEmpty then [] else f4.params.toList.map λt=>match prog.underlying t with|some (.int k)=>some k|_=>none)))=true:=by kernel_rfl
theorem Zvf:((Rows.atomEncodeMatchesReferenceRow.pinned==Rows.atomEncodeMatchesReferenceRow.pinnedBy))=true:=by kernel_rfl
theorem Zvg:((Rows.atomEncodeMatchesReferenceRow.veiled==(f4.params.toList++Rows.atomEncodeMatchesReferenceSpec.plain.varTypes prog++f4.resultTypes.toList).any (prog.veiledRec ·)))=true:=by kernel_rfl
theorem Zvh:(Rows.atomEncodeMatchesReferenceRow.veiledFits prog f4.params.toList (f4.params.toList++Rows.atomEncodeMatchesReferenceSpec.plain.varTypes prog++f4.resultTypes.toList))=true:=by kernel_rfl
end Go.Proofs.YtmfinhgobjbecaaGreatDoor
