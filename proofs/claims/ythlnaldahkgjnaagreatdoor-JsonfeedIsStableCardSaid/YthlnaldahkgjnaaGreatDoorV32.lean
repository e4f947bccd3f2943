/- Parts of the proof: contracts and plain laws. -/
import Derived.Test.YthlnaldahkgjnaaGreatDoorRows
import Derived.Test.YthlnaldahkgjnaaGreatDoorV00
namespace Go.Proofs.YthlnaldahkgjnaaGreatDoor
open Go
set_option linter.unusedVariables false
set_option linter.unusedSimpArgs false
set_option maxRecDepth 100000
set_option maxHeartbeats 16000000
theorem jsonfeedIsStable_k0:(Rows.jsonfeedIsStableRow.wf (OpenSpec.ofChange Rows.jsonfeedIsStableSpec))=true:=by kernel_rfl
theorem jsonfeedIsStable_k1:(laidOutB Tryz.prog)=true:=by kernel_rfl
theorem jsonfeedIsStable_k2:(mapsRowed Tryz.prog)=true:=by kernel_rfl
theorem jsonfeedIsStable_k3:(Tryz.f7.params.all (Tryz.prog.readableRec ·))=true:=by kernel_rfl
theorem jsonfeedIsStable_k4:(namedTie Tryz.prog Rows.jsonfeedIsStableRow.named Rows.jsonfeedIsStableSpec.vars)=true:=by kernel_rfl
theorem jsonfeedIsStable_k5:((Rows.jsonfeedIsStableRow.stops== []))=true:=by kernel_rfl
theorem jsonfeedIsStable_k6:((Tryz.prog.stops== []))=true:=by kernel_rfl
theorem jsonfeedIsStable_k7:((Rows.jsonfeedIsStableRow.knobs== []))=true:=by kernel_rfl
theorem jsonfeedIsStable_k8:((Tryz.prog.stopKnobs== []))=true:=by kernel_rfl
theorem jsonfeedIsStable_k9:((Rows.jsonfeedIsStableRow.inPlace==Tryz.prog.inPlace 7))=true:=by kernel_rfl
theorem jsonfeedIsStable_k10:((Rows.jsonfeedIsStableRow.unfollowed==Tryz.prog.unfollowed 7))=true:=by kernel_rfl
theorem jsonfeedIsStable_k11:((Rows.jsonfeedIsStableRow.recurses==Tryz.prog.recurses 7))=true:=by kernel_rfl
theorem jsonfeedIsStable_k12:((Rows.jsonfeedIsStableRow.named==Tryz.prog.varsNamed 7))=true:=by kernel_rfl
theorem jsonfeedIsStable_k13:((Rows.jsonfeedIsStableRow.maps==(Tryz.f7.params.toList++Rows.jsonfeedIsStableSpec.plain.varTypes Tryz.prog).any (Tryz.prog.mapsRec ·)))=true:=by kernel_rfl
theorem jsonfeedIsStable_k14:((Rows.jsonfeedIsStableRow.ifaces==(Tryz.f7.params.toList++Rows.jsonfeedIsStableSpec.plain.varTypes Tryz.prog).any (Tryz.prog.ifacesRec ·)))=true:=by kernel_rfl
theorem jsonfeedIsStable_k15:((Rows.jsonfeedIsStableRow.mapsOut==Tryz.prog.mapsAmong Tryz.f7.resultTypes.toList))=true:=by kernel_rfl
theorem jsonfeedIsStable_k16:((Rows.jsonfeedIsStableRow.loops==(Tryz.f7.params.toList++Rows.jsonfeedIsStableSpec.plain.varTypes Tryz.prog).any (Tryz.prog.loopsFrom ·)))=true:=by kernel_rfl
theorem jsonfeedIsStable_k17:((Rows.jsonfeedIsStableRow.wideKeys==(Tryz.f7.params.toList++Rows.jsonfeedIsStableSpec.plain.varTypes Tryz.prog++Tryz.f7.resultTypes.toList).any (Tryz.prog.wideKeysFrom ·)))=true:=by kernel_rfl
theorem jsonfeedIsStable_k18:(Rows.jsonfeedIsStableSpec.vars.all (Tryz.prog.varReadable ·))=true:=by kernel_rfl
theorem jsonfeedIsStable_k19:(Tryz.f7.resultTypes.all (fun t=>Tryz.prog.readableRec t && decide (t<Tryz.prog.types.size)))=true:=by kernel_rfl
theorem jsonfeedIsStable_k20:((Rows.jsonfeedIsStableRow.ifacesOut==Tryz.f7.resultTypes.toList.any (Tryz.prog.ifacesRec ·)))=true:=by kernel_rfl
theorem jsonfeedIsStable_k21:((Rows.jsonfeedIsStableRow.loopsOut==Tryz.f7.resultTypes.toList.any (Tryz.prog.loopsFrom ·)))=true:=by kernel_rfl
theorem jsonfeedIsStable_k22:((Rows.jsonfeedIsStableRow.plainKeys==Tryz.prog.plainKeys))=true:=by kernel_rfl
theorem jsonfeedIsStable_k23:(Rows.jsonfeedIsStableRow.shortTexts.isNone)=true:=by kernel_rfl
theorem jsonfeedIsStable_k24:(Tryz.prog.stopsHeard)=true:=by kernel_rfl
theorem jsonfeedIsStable_k25:(Tryz.prog.mayEnter)=true:=by kernel_rfl
theorem jsonfeedIsStable_k26:((Rows.jsonfeedIsStableRow.lifted==Tryz.prog.liftsFinal))=true:=by kernel_rfl
theorem jsonfeedIsStable_k27:((Tryz.prog.make==some Rows.jsonfeedIsStableRow.make))=true:=by kernel_rfl
theorem jsonfeedIsStable_k28:((Rows.jsonfeedIsStableRow.kinds==(if Rows.jsonfeedIsStableRow.domain.isEmpty then [] else Tryz.f7.params.toList.map fun t=>match Tryz.prog.underlying t with|some (.int k)=>some k|_=>none)))=true:=by kernel_rfl
theorem jsonfeedIsStable_k29:((Rows.jsonfeedIsStableRow.pinned==Rows.jsonfeedIsStableRow.pinnedBy))=true:=by kernel_rfl
theorem jsonfeedIsStable_k30:((Rows.jsonfeedIsStableRow.veiled==(Tryz.f7.params.toList++Rows.jsonfeedIsStableSpec.plain.varTypes Tryz.prog++Tryz.f7.resultTypes.toList).any (Tryz.prog.veiledRec ·)))=true:=by kernel_rfl
theorem jsonfeedIsStable_k31:(Rows.jsonfeedIsStableRow.veiledFits Tryz.prog Tryz.f7.params.toList (Tryz.f7.params.toList++Rows.jsonfeedIsStableSpec.plain.varTypes Tryz.prog++Tryz.f7.resultTypes.toList))=true:=by kernel_rfl
end Go.Proofs.YthlnaldahkgjnaaGreatDoor
