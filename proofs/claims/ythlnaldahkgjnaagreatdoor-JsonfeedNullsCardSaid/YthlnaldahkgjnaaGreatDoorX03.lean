/- Parts of the proof: contracts and plain laws. -/
import Derived.Test.YthlnaldahkgjnaaGreatDoorRows
import Derived.JoinedOf
import Derived.KernelRfl
import Derived.Test.YthlnaldahkgjnaaGreatDoorV00
namespace Go.Proofs.YthlnaldahkgjnaaGreatDoor
open Go
set_option linter.unusedVariables false
set_option linter.unusedSimpArgs false
set_option maxRecDepth 100000
set_option maxHeartbeats 16000000
theorem jsonfeedNulls_k0:(Rows.jsonfeedNullsRow.wf (OpenSpec.ofChange Rows.jsonfeedNullsSpec))=true:=by kernel_rfl
theorem jsonfeedNulls_k1:(laidOutB Tryz.prog)=true:=by kernel_rfl
theorem jsonfeedNulls_k2:(mapsRowed Tryz.prog)=true:=by kernel_rfl
theorem jsonfeedNulls_k3:(Tryz.f8.params.all (Tryz.prog.readableRec ·))=true:=by kernel_rfl
theorem jsonfeedNulls_k4:(namedTie Tryz.prog Rows.jsonfeedNullsRow.named Rows.jsonfeedNullsSpec.vars)=true:=by kernel_rfl
theorem jsonfeedNulls_k5:((Rows.jsonfeedNullsRow.stops== []))=true:=by kernel_rfl
theorem jsonfeedNulls_k6:((Tryz.prog.stops== []))=true:=by kernel_rfl
theorem jsonfeedNulls_k7:((Rows.jsonfeedNullsRow.knobs== []))=true:=by kernel_rfl
theorem jsonfeedNulls_k8:((Tryz.prog.stopKnobs== []))=true:=by kernel_rfl
theorem jsonfeedNulls_k9:((Rows.jsonfeedNullsRow.inPlace==Tryz.prog.inPlace 8))=true:=by kernel_rfl
theorem jsonfeedNulls_k10:((Rows.jsonfeedNullsRow.unfollowed==Tryz.prog.unfollowed 8))=true:=by kernel_rfl
theorem jsonfeedNulls_k11:((Rows.jsonfeedNullsRow.recurses==Tryz.prog.recurses 8))=true:=by kernel_rfl
theorem jsonfeedNulls_k12:((Rows.jsonfeedNullsRow.named==Tryz.prog.varsNamed 8))=true:=by kernel_rfl
theorem jsonfeedNulls_k13:((Rows.jsonfeedNullsRow.maps==(Tryz.f8.params.toList++Rows.jsonfeedNullsSpec.plain.varTypes Tryz.prog).any (Tryz.prog.mapsRec ·)))=true:=by kernel_rfl
theorem jsonfeedNulls_k14:((Rows.jsonfeedNullsRow.ifaces==(Tryz.f8.params.toList++Rows.jsonfeedNullsSpec.plain.varTypes Tryz.prog).any (Tryz.prog.ifacesRec ·)))=true:=by kernel_rfl
theorem jsonfeedNulls_k15:((Rows.jsonfeedNullsRow.mapsOut==Tryz.prog.mapsAmong Tryz.f8.resultTypes.toList))=true:=by kernel_rfl
theorem jsonfeedNulls_k16:((Rows.jsonfeedNullsRow.loops==(Tryz.f8.params.toList++Rows.jsonfeedNullsSpec.plain.varTypes Tryz.prog).any (Tryz.prog.loopsFrom ·)))=true:=by kernel_rfl
theorem jsonfeedNulls_k17:((Rows.jsonfeedNullsRow.wideKeys==(Tryz.f8.params.toList++Rows.jsonfeedNullsSpec.plain.varTypes Tryz.prog++Tryz.f8.resultTypes.toList).any (Tryz.prog.wideKeysFrom ·)))=true:=by kernel_rfl
theorem jsonfeedNulls_k18:(Rows.jsonfeedNullsSpec.vars.all (Tryz.prog.varReadable ·))=true:=by kernel_rfl
theorem jsonfeedNulls_k19:(Tryz.f8.resultTypes.all (fun t=>Tryz.prog.readableRec t && decide (t<Tryz.prog.types.size)))=true:=by kernel_rfl
theorem jsonfeedNulls_k20:((Rows.jsonfeedNullsRow.ifacesOut==Tryz.f8.resultTypes.toList.any (Tryz.prog.ifacesRec ·)))=true:=by kernel_rfl
theorem jsonfeedNulls_k21:((Rows.jsonfeedNullsRow.loopsOut==Tryz.f8.resultTypes.toList.any (Tryz.prog.loopsFrom ·)))=true:=by kernel_rfl
theorem jsonfeedNulls_k22:((Rows.jsonfeedNullsRow.plainKeys==Tryz.prog.plainKeys))=true:=by kernel_rfl
theorem jsonfeedNulls_k23:(Rows.jsonfeedNullsRow.shortTexts.isNone)=true:=by kernel_rfl
theorem jsonfeedNulls_k24:(Tryz.prog.stopsHeard)=true:=by kernel_rfl
theorem jsonfeedNulls_k25:(Tryz.prog.mayEnter)=true:=by kernel_rfl
theorem jsonfeedNulls_k26:((Rows.jsonfeedNullsRow.lifted==Tryz.prog.liftsFinal))=true:=by kernel_rfl
theorem jsonfeedNulls_k27:((Tryz.prog.make==some Rows.jsonfeedNullsRow.make))=true:=by kernel_rfl
theorem jsonfeedNulls_k28:((Rows.jsonfeedNullsRow.kinds==(if Rows.jsonfeedNullsRow.domain.isEmpty then [] else Tryz.f8.params.toList.map fun t=>match Tryz.prog.underlying t with|some (.int k)=>some k|_=>none)))=true:=by kernel_rfl
theorem jsonfeedNulls_k29:((Rows.jsonfeedNullsRow.pinned==Rows.jsonfeedNullsRow.pinnedBy))=true:=by kernel_rfl
theorem jsonfeedNulls_k30:((Rows.jsonfeedNullsRow.veiled==(Tryz.f8.params.toList++Rows.jsonfeedNullsSpec.plain.varTypes Tryz.prog++Tryz.f8.resultTypes.toList).any (Tryz.prog.veiledRec ·)))=true:=by kernel_rfl
theorem jsonfeedNulls_k31:(Rows.jsonfeedNullsRow.veiledFits Tryz.prog Tryz.f8.params.toList (Tryz.f8.params.toList++Rows.jsonfeedNullsSpec.plain.varTypes Tryz.prog++Tryz.f8.resultTypes.toList))=true:=by kernel_rfl
end Go.Proofs.YthlnaldahkgjnaaGreatDoor
