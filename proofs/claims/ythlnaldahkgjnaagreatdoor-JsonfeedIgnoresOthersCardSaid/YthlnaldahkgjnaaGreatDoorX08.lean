/- Parts of the proof: contracts and plain laws. -/
import Derived.Test.YthlnaldahkgjnaaGreatDoorRows
import Derived.JoinedOf
import Derived.KernelRfl
import Derived.Test.YthlnaldahkgjnaaGreatDoorV00
namespace Go.Proofs.YthlnaldahkgjnaaGreatDoor
open Go
set_option linter.unusedVariables false
set_option linter.unusedSimpArgs false
set_option maxRecDepth 100000
set_option maxHeartbeats 16000000
theorem jsonfeedIgnoresOthers_k0:(Rows.jsonfeedIgnoresOthersRow.wf (OpenSpec.ofChange Rows.jsonfeedIgnoresOthersSpec))=true:=by kernel_rfl
theorem jsonfeedIgnoresOthers_k1:(laidOutB Tryz.prog)=true:=by kernel_rfl
theorem jsonfeedIgnoresOthers_k2:(mapsRowed Tryz.prog)=true:=by kernel_rfl
theorem jsonfeedIgnoresOthers_k3:(Tryz.f9.params.all (Tryz.prog.readableRec ·))=true:=by kernel_rfl
theorem jsonfeedIgnoresOthers_k4:(namedTie Tryz.prog Rows.jsonfeedIgnoresOthersRow.named Rows.jsonfeedIgnoresOthersSpec.vars)=true:=by kernel_rfl
theorem jsonfeedIgnoresOthers_k5:((Rows.jsonfeedIgnoresOthersRow.stops== []))=true:=by kernel_rfl
theorem jsonfeedIgnoresOthers_k6:((Tryz.prog.stops== []))=true:=by kernel_rfl
theorem jsonfeedIgnoresOthers_k7:((Rows.jsonfeedIgnoresOthersRow.knobs== []))=true:=by kernel_rfl
theorem jsonfeedIgnoresOthers_k8:((Tryz.prog.stopKnobs== []))=true:=by kernel_rfl
theorem jsonfeedIgnoresOthers_k9:((Rows.jsonfeedIgnoresOthersRow.inPlace==Tryz.prog.inPlace 9))=true:=by kernel_rfl
theorem jsonfeedIgnoresOthers_k10:((Rows.jsonfeedIgnoresOthersRow.unfollowed==Tryz.prog.unfollowed 9))=true:=by kernel_rfl
theorem jsonfeedIgnoresOthers_k11:((Rows.jsonfeedIgnoresOthersRow.recurses==Tryz.prog.recurses 9))=true:=by kernel_rfl
theorem jsonfeedIgnoresOthers_k12:((Rows.jsonfeedIgnoresOthersRow.named==Tryz.prog.varsNamed 9))=true:=by kernel_rfl
theorem jsonfeedIgnoresOthers_k13:((Rows.jsonfeedIgnoresOthersRow.maps==(Tryz.f9.params.toList++Rows.jsonfeedIgnoresOthersSpec.plain.varTypes Tryz.prog).any (Tryz.prog.mapsRec ·)))=true:=by kernel_rfl
theorem jsonfeedIgnoresOthers_k14:((Rows.jsonfeedIgnoresOthersRow.ifaces==(Tryz.f9.params.toList++Rows.jsonfeedIgnoresOthersSpec.plain.varTypes Tryz.prog).any (Tryz.prog.ifacesRec ·)))=true:=by kernel_rfl
theorem jsonfeedIgnoresOthers_k15:((Rows.jsonfeedIgnoresOthersRow.mapsOut==Tryz.prog.mapsAmong Tryz.f9.resultTypes.toList))=true:=by kernel_rfl
theorem jsonfeedIgnoresOthers_k16:((Rows.jsonfeedIgnoresOthersRow.loops==(Tryz.f9.params.toList++Rows.jsonfeedIgnoresOthersSpec.plain.varTypes Tryz.prog).any (Tryz.prog.loopsFrom ·)))=true:=by kernel_rfl
theorem jsonfeedIgnoresOthers_k17:((Rows.jsonfeedIgnoresOthersRow.wideKeys==(Tryz.f9.params.toList++Rows.jsonfeedIgnoresOthersSpec.plain.varTypes Tryz.prog++Tryz.f9.resultTypes.toList).any (Tryz.prog.wideKeysFrom ·)))=true:=by kernel_rfl
theorem jsonfeedIgnoresOthers_k18:(Rows.jsonfeedIgnoresOthersSpec.vars.all (Tryz.prog.varReadable ·))=true:=by kernel_rfl
theorem jsonfeedIgnoresOthers_k19:(Tryz.f9.resultTypes.all (fun t=>Tryz.prog.readableRec t && decide (t<Tryz.prog.types.size)))=true:=by kernel_rfl
theorem jsonfeedIgnoresOthers_k20:((Rows.jsonfeedIgnoresOthersRow.ifacesOut==Tryz.f9.resultTypes.toList.any (Tryz.prog.ifacesRec ·)))=true:=by kernel_rfl
theorem jsonfeedIgnoresOthers_k21:((Rows.jsonfeedIgnoresOthersRow.loopsOut==Tryz.f9.resultTypes.toList.any (Tryz.prog.loopsFrom ·)))=true:=by kernel_rfl
theorem jsonfeedIgnoresOthers_k22:((Rows.jsonfeedIgnoresOthersRow.plainKeys==Tryz.prog.plainKeys))=true:=by kernel_rfl
theorem jsonfeedIgnoresOthers_k23:(Rows.jsonfeedIgnoresOthersRow.shortTexts.isNone)=true:=by kernel_rfl
theorem jsonfeedIgnoresOthers_k24:(Tryz.prog.stopsHeard)=true:=by kernel_rfl
theorem jsonfeedIgnoresOthers_k25:(Tryz.prog.mayEnter)=true:=by kernel_rfl
theorem jsonfeedIgnoresOthers_k26:((Rows.jsonfeedIgnoresOthersRow.lifted==Tryz.prog.liftsFinal))=true:=by kernel_rfl
theorem jsonfeedIgnoresOthers_k27:((Tryz.prog.make==some Rows.jsonfeedIgnoresOthersRow.make))=true:=by kernel_rfl
theorem jsonfeedIgnoresOthers_k28:((Rows.jsonfeedIgnoresOthersRow.kinds==(if Rows.jsonfeedIgnoresOthersRow.domain.isEmpty then [] else Tryz.f9.params.toList.map fun t=>match Tryz.prog.underlying t with|some (.int k)=>some k|_=>none)))=true:=by kernel_rfl
theorem jsonfeedIgnoresOthers_k29:((Rows.jsonfeedIgnoresOthersRow.pinned==Rows.jsonfeedIgnoresOthersRow.pinnedBy))=true:=by kernel_rfl
theorem jsonfeedIgnoresOthers_k30:((Rows.jsonfeedIgnoresOthersRow.veiled==(Tryz.f9.params.toList++Rows.jsonfeedIgnoresOthersSpec.plain.varTypes Tryz.prog++Tryz.f9.resultTypes.toList).any (Tryz.prog.veiledRec ·)))=true:=by kernel_rfl
theorem jsonfeedIgnoresOthers_k31:(Rows.jsonfeedIgnoresOthersRow.veiledFits Tryz.prog Tryz.f9.params.toList (Tryz.f9.params.toList++Rows.jsonfeedIgnoresOthersSpec.plain.varTypes Tryz.prog++Tryz.f9.resultTypes.toList))=true:=by kernel_rfl
end Go.Proofs.YthlnaldahkgjnaaGreatDoor
