/- Parts of the proof: contracts and plain laws. -/
import Derived.Test.YthlnaldahkgjnaaGreatDoorRows
import Derived.Test.YthlnaldahkgjnaaGreatDoorV00
namespace Go.Proofs.YthlnaldahkgjnaaGreatDoor
open Go
set_option linter.unusedVariables false
set_option linter.unusedSimpArgs false
set_option maxRecDepth 100000
set_option maxHeartbeats 16000000
theorem jsonfeedIsInjective_k0:(Rows.jsonfeedIsInjectiveRow.wf (OpenSpec.ofChange Rows.jsonfeedIsInjectiveSpec))=true:=by kernel_rfl
theorem jsonfeedIsInjective_k1:(laidOutB Tryz.prog)=true:=by kernel_rfl
theorem jsonfeedIsInjective_k2:(mapsRowed Tryz.prog)=true:=by kernel_rfl
theorem jsonfeedIsInjective_k3:(Tryz.f6.params.all (Tryz.prog.readableRec ·))=true:=by kernel_rfl
theorem jsonfeedIsInjective_k4:(namedTie Tryz.prog Rows.jsonfeedIsInjectiveRow.named Rows.jsonfeedIsInjectiveSpec.vars)=true:=by kernel_rfl
theorem jsonfeedIsInjective_k5:((Rows.jsonfeedIsInjectiveRow.stops== []))=true:=by kernel_rfl
theorem jsonfeedIsInjective_k6:((Tryz.prog.stops== []))=true:=by kernel_rfl
theorem jsonfeedIsInjective_k7:((Rows.jsonfeedIsInjectiveRow.knobs== []))=true:=by kernel_rfl
theorem jsonfeedIsInjective_k8:((Tryz.prog.stopKnobs== []))=true:=by kernel_rfl
theorem jsonfeedIsInjective_k9:((Rows.jsonfeedIsInjectiveRow.inPlace==Tryz.prog.inPlace 6))=true:=by kernel_rfl
theorem jsonfeedIsInjective_k10:((Rows.jsonfeedIsInjectiveRow.unfollowed==Tryz.prog.unfollowed 6))=true:=by kernel_rfl
theorem jsonfeedIsInjective_k11:((Rows.jsonfeedIsInjectiveRow.recurses==Tryz.prog.recurses 6))=true:=by kernel_rfl
theorem jsonfeedIsInjective_k12:((Rows.jsonfeedIsInjectiveRow.named==Tryz.prog.varsNamed 6))=true:=by kernel_rfl
theorem jsonfeedIsInjective_k13:((Rows.jsonfeedIsInjectiveRow.maps==(Tryz.f6.params.toList++Rows.jsonfeedIsInjectiveSpec.plain.varTypes Tryz.prog).any (Tryz.prog.mapsRec ·)))=true:=by kernel_rfl
theorem jsonfeedIsInjective_k14:((Rows.jsonfeedIsInjectiveRow.ifaces==(Tryz.f6.params.toList++Rows.jsonfeedIsInjectiveSpec.plain.varTypes Tryz.prog).any (Tryz.prog.ifacesRec ·)))=true:=by kernel_rfl
theorem jsonfeedIsInjective_k15:((Rows.jsonfeedIsInjectiveRow.mapsOut==Tryz.prog.mapsAmong Tryz.f6.resultTypes.toList))=true:=by kernel_rfl
theorem jsonfeedIsInjective_k16:((Rows.jsonfeedIsInjectiveRow.loops==(Tryz.f6.params.toList++Rows.jsonfeedIsInjectiveSpec.plain.varTypes Tryz.prog).any (Tryz.prog.loopsFrom ·)))=true:=by kernel_rfl
theorem jsonfeedIsInjective_k17:((Rows.jsonfeedIsInjectiveRow.wideKeys==(Tryz.f6.params.toList++Rows.jsonfeedIsInjectiveSpec.plain.varTypes Tryz.prog++Tryz.f6.resultTypes.toList).any (Tryz.prog.wideKeysFrom ·)))=true:=by kernel_rfl
theorem jsonfeedIsInjective_k18:(Rows.jsonfeedIsInjectiveSpec.vars.all (Tryz.prog.varReadable ·))=true:=by kernel_rfl
theorem jsonfeedIsInjective_k19:(Tryz.f6.resultTypes.all (fun t=>Tryz.prog.readableRec t && decide (t<Tryz.prog.types.size)))=true:=by kernel_rfl
theorem jsonfeedIsInjective_k20:((Rows.jsonfeedIsInjectiveRow.ifacesOut==Tryz.f6.resultTypes.toList.any (Tryz.prog.ifacesRec ·)))=true:=by kernel_rfl
theorem jsonfeedIsInjective_k21:((Rows.jsonfeedIsInjectiveRow.loopsOut==Tryz.f6.resultTypes.toList.any (Tryz.prog.loopsFrom ·)))=true:=by kernel_rfl
theorem jsonfeedIsInjective_k22:((Rows.jsonfeedIsInjectiveRow.plainKeys==Tryz.prog.plainKeys))=true:=by kernel_rfl
theorem jsonfeedIsInjective_k23:(Rows.jsonfeedIsInjectiveRow.shortTexts.isNone)=true:=by kernel_rfl
theorem jsonfeedIsInjective_k24:(Tryz.prog.stopsHeard)=true:=by kernel_rfl
theorem jsonfeedIsInjective_k25:(Tryz.prog.mayEnter)=true:=by kernel_rfl
theorem jsonfeedIsInjective_k26:((Rows.jsonfeedIsInjectiveRow.lifted==Tryz.prog.liftsFinal))=true:=by kernel_rfl
theorem jsonfeedIsInjective_k27:((Tryz.prog.make==some Rows.jsonfeedIsInjectiveRow.make))=true:=by kernel_rfl
theorem jsonfeedIsInjective_k28:((Rows.jsonfeedIsInjectiveRow.kinds==(if Rows.jsonfeedIsInjectiveRow.domain.isEmpty then [] else Tryz.f6.params.toList.map fun t=>match Tryz.prog.underlying t with|some (.int k)=>some k|_=>none)))=true:=by kernel_rfl
theorem jsonfeedIsInjective_k29:((Rows.jsonfeedIsInjectiveRow.pinned==Rows.jsonfeedIsInjectiveRow.pinnedBy))=true:=by kernel_rfl
theorem jsonfeedIsInjective_k30:((Rows.jsonfeedIsInjectiveRow.veiled==(Tryz.f6.params.toList++Rows.jsonfeedIsInjectiveSpec.plain.varTypes Tryz.prog++Tryz.f6.resultTypes.toList).any (Tryz.prog.veiledRec ·)))=true:=by kernel_rfl
theorem jsonfeedIsInjective_k31:(Rows.jsonfeedIsInjectiveRow.veiledFits Tryz.prog Tryz.f6.params.toList (Tryz.f6.params.toList++Rows.jsonfeedIsInjectiveSpec.plain.varTypes Tryz.prog++Tryz.f6.resultTypes.toList))=true:=by kernel_rfl
end Go.Proofs.YthlnaldahkgjnaaGreatDoor
