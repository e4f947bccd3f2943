/- Parts of the proof: contracts and plain laws. -/
import Derived.Test.YthlnaldahkgjnaaGreatDoorRows
import Derived.Test.YthlnaldahkgjnaaGreatDoorY00
namespace Go.Proofs.YthlnaldahkgjnaaGreatDoor
open Go
set_option linter.unusedVariables false
set_option linter.unusedSimpArgs false
set_option maxRecDepth 100000
set_option maxHeartbeats 16000000
theorem jsonfeedEncodeMatchesReference_k0:(Rows.jsonfeedEncodeMatchesReferenceRow.wf (OpenSpec.ofChange Rows.jsonfeedEncodeMatchesReferenceSpec))=true:=by kernel_rfl
theorem jsonfeedEncodeMatchesReference_k1:(laidOutB Tryz.prog)=true:=by kernel_rfl
theorem jsonfeedEncodeMatchesReference_k2:(mapsRowed Tryz.prog)=true:=by kernel_rfl
theorem jsonfeedEncodeMatchesReference_k3:(Tryz.f4.params.all (Tryz.prog.readableRec ·))=true:=by kernel_rfl
theorem jsonfeedEncodeMatchesReference_k4:(namedTie Tryz.prog Rows.jsonfeedEncodeMatchesReferenceRow.named Rows.jsonfeedEncodeMatchesReferenceSpec.vars)=true:=by kernel_rfl
theorem jsonfeedEncodeMatchesReference_k5:((Rows.jsonfeedEncodeMatchesReferenceRow.stops== []))=true:=by kernel_rfl
theorem jsonfeedEncodeMatchesReference_k6:((Tryz.prog.stops== []))=true:=by kernel_rfl
theorem jsonfeedEncodeMatchesReference_k7:((Rows.jsonfeedEncodeMatchesReferenceRow.knobs== []))=true:=by kernel_rfl
theorem jsonfeedEncodeMatchesReference_k8:((Tryz.prog.stopKnobs== []))=true:=by kernel_rfl
theorem jsonfeedEncodeMatchesReference_k9:((Rows.jsonfeedEncodeMatchesReferenceRow.inPlace==Tryz.prog.inPlace 4))=true:=by kernel_rfl
theorem jsonfeedEncodeMatchesReference_k10:((Rows.jsonfeedEncodeMatchesReferenceRow.unfollowed==Tryz.prog.unfollowed 4))=true:=by kernel_rfl
theorem jsonfeedEncodeMatchesReference_k11:((Rows.jsonfeedEncodeMatchesReferenceRow.recurses==Tryz.prog.recurses 4))=true:=by kernel_rfl
theorem jsonfeedEncodeMatchesReference_k12:((Rows.jsonfeedEncodeMatchesReferenceRow.named==Tryz.prog.varsNamed 4))=true:=by kernel_rfl
theorem jsonfeedEncodeMatchesReference_k13:((Rows.jsonfeedEncodeMatchesReferenceRow.maps==(Tryz.f4.params.toList++Rows.jsonfeedEncodeMatchesReferenceSpec.plain.varTypes Tryz.prog).any (Tryz.prog.mapsRec ·)))=true:=by kernel_rfl
theorem jsonfeedEncodeMatchesReference_k14:((Rows.jsonfeedEncodeMatchesReferenceRow.ifaces==(Tryz.f4.params.toList++Rows.jsonfeedEncodeMatchesReferenceSpec.plain.varTypes Tryz.prog).any (Tryz.prog.ifacesRec ·)))=true:=by kernel_rfl
theorem jsonfeedEncodeMatchesReference_k15:((Rows.jsonfeedEncodeMatchesReferenceRow.mapsOut==Tryz.prog.mapsAmong Tryz.f4.resultTypes.toList))=true:=by kernel_rfl
theorem jsonfeedEncodeMatchesReference_k16:((Rows.jsonfeedEncodeMatchesReferenceRow.loops==(Tryz.f4.params.toList++Rows.jsonfeedEncodeMatchesReferenceSpec.plain.varTypes Tryz.prog).any (Tryz.prog.loopsFrom ·)))=true:=by kernel_rfl
theorem jsonfeedEncodeMatchesReference_k17:((Rows.jsonfeedEncodeMatchesReferenceRow.wideKeys==(Tryz.f4.params.toList++Rows.jsonfeedEncodeMatchesReferenceSpec.plain.varTypes Tryz.prog++Tryz.f4.resultTypes.toList).any (Tryz.prog.wideKeysFrom ·)))=true:=by kernel_rfl
theorem jsonfeedEncodeMatchesReference_k18:(Rows.jsonfeedEncodeMatchesReferenceSpec.vars.all (Tryz.prog.varReadable ·))=true:=by kernel_rfl
theorem jsonfeedEncodeMatchesReference_k19:(Tryz.f4.resultTypes.all (fun t=>Tryz.prog.readableRec t && decide (t<Tryz.prog.types.size)))=true:=by kernel_rfl
theorem jsonfeedEncodeMatchesReference_k20:((Rows.jsonfeedEncodeMatchesReferenceRow.ifacesOut==Tryz.f4.resultTypes.toList.any (Tryz.prog.ifacesRec ·)))=true:=by kernel_rfl
theorem jsonfeedEncodeMatchesReference_k21:((Rows.jsonfeedEncodeMatchesReferenceRow.loopsOut==Tryz.f4.resultTypes.toList.any (Tryz.prog.loopsFrom ·)))=true:=by kernel_rfl
theorem jsonfeedEncodeMatchesReference_k22:((Rows.jsonfeedEncodeMatchesReferenceRow.plainKeys==Tryz.prog.plainKeys))=true:=by kernel_rfl
theorem jsonfeedEncodeMatchesReference_k23:(Rows.jsonfeedEncodeMatchesReferenceRow.shortTexts.isNone)=true:=by kernel_rfl
theorem jsonfeedEncodeMatchesReference_k24:(Tryz.prog.stopsHeard)=true:=by kernel_rfl
theorem jsonfeedEncodeMatchesReference_k25:(Tryz.prog.mayEnter)=true:=by kernel_rfl
theorem jsonfeedEncodeMatchesReference_k26:((Rows.jsonfeedEncodeMatchesReferenceRow.lifted==Tryz.prog.liftsFinal))=true:=by kernel_rfl
theorem jsonfeedEncodeMatchesReference_k27:((Tryz.prog.make==some Rows.jsonfeedEncodeMatchesReferenceRow.make))=true:=by kernel_rfl
theorem jsonfeedEncodeMatchesReference_k28:((Rows.jsonfeedEncodeMatchesReferenceRow.kinds==(if Rows.jsonfeedEncodeMatchesReferenceRow.domain.isEmpty then [] else Tryz.f4.params.toList.map fun t=>match Tryz.prog.underlying t with|some (.int k)=>some k|_=>none)))=true:=by kernel_rfl
theorem jsonfeedEncodeMatchesReference_k29:((Rows.jsonfeedEncodeMatchesReferenceRow.pinned==Rows.jsonfeedEncodeMatchesReferenceRow.pinnedBy))=true:=by kernel_rfl
theorem jsonfeedEncodeMatchesReference_k30:((Rows.jsonfeedEncodeMatchesReferenceRow.veiled==(Tryz.f4.params.toList++Rows.jsonfeedEncodeMatchesReferenceSpec.plain.varTypes Tryz.prog++Tryz.f4.resultTypes.toList).any (Tryz.prog.veiledRec ·)))=true:=by kernel_rfl
theorem jsonfeedEncodeMatchesReference_k31:(Rows.jsonfeedEncodeMatchesReferenceRow.veiledFits Tryz.prog Tryz.f4.params.toList (Tryz.f4.params.toList++Rows.jsonfeedEncodeMatchesReferenceSpec.plain.varTypes Tryz.prog++Tryz.f4.resultTypes.toList))=true:=by kernel_rfl
end Go.Proofs.YthlnaldahkgjnaaGreatDoor
