/- Parts of the proof: contracts and plain laws. -/
import Derived.Test.YthlnaldahkgjnaaGreatDoorRows
import Derived.Test.YthlnaldahkgjnaaGreatDoorV00
namespace Go.Proofs.YthlnaldahkgjnaaGreatDoor
open Go
set_option linter.unusedVariables false
set_option linter.unusedSimpArgs false
set_option maxRecDepth 100000
set_option maxHeartbeats 16000000
theorem jsonfeedRoundTrip_k0:(Rows.jsonfeedRoundTripRow.wf (OpenSpec.ofChange Rows.jsonfeedRoundTripSpec))=true:=by kernel_rfl
theorem jsonfeedRoundTrip_k1:(laidOutB Tryz.prog)=true:=by kernel_rfl
theorem jsonfeedRoundTrip_k2:(mapsRowed Tryz.prog)=true:=by kernel_rfl
theorem jsonfeedRoundTrip_k3:(Tryz.f5.params.all (Tryz.prog.readableRec ·))=true:=by kernel_rfl
theorem jsonfeedRoundTrip_k4:(namedTie Tryz.prog Rows.jsonfeedRoundTripRow.named Rows.jsonfeedRoundTripSpec.vars)=true:=by kernel_rfl
theorem jsonfeedRoundTrip_k5:((Rows.jsonfeedRoundTripRow.stops== []))=true:=by kernel_rfl
theorem jsonfeedRoundTrip_k6:((Tryz.prog.stops== []))=true:=by kernel_rfl
theorem jsonfeedRoundTrip_k7:((Rows.jsonfeedRoundTripRow.knobs== []))=true:=by kernel_rfl
theorem jsonfeedRoundTrip_k8:((Tryz.prog.stopKnobs== []))=true:=by kernel_rfl
theorem jsonfeedRoundTrip_k9:((Rows.jsonfeedRoundTripRow.inPlace==Tryz.prog.inPlace 5))=true:=by kernel_rfl
theorem jsonfeedRoundTrip_k10:((Rows.jsonfeedRoundTripRow.unfollowed==Tryz.prog.unfollowed 5))=true:=by kernel_rfl
theorem jsonfeedRoundTrip_k11:((Rows.jsonfeedRoundTripRow.recurses==Tryz.prog.recurses 5))=true:=by kernel_rfl
theorem jsonfeedRoundTrip_k12:((Rows.jsonfeedRoundTripRow.named==Tryz.prog.varsNamed 5))=true:=by kernel_rfl
theorem jsonfeedRoundTrip_k13:((Rows.jsonfeedRoundTripRow.maps==(Tryz.f5.params.toList++Rows.jsonfeedRoundTripSpec.plain.varTypes Tryz.prog).any (Tryz.prog.mapsRec ·)))=true:=by kernel_rfl
theorem jsonfeedRoundTrip_k14:((Rows.jsonfeedRoundTripRow.ifaces==(Tryz.f5.params.toList++Rows.jsonfeedRoundTripSpec.plain.varTypes Tryz.prog).any (Tryz.prog.ifacesRec ·)))=true:=by kernel_rfl
theorem jsonfeedRoundTrip_k15:((Rows.jsonfeedRoundTripRow.mapsOut==Tryz.prog.mapsAmong Tryz.f5.resultTypes.toList))=true:=by kernel_rfl
theorem jsonfeedRoundTrip_k16:((Rows.jsonfeedRoundTripRow.loops==(Tryz.f5.params.toList++Rows.jsonfeedRoundTripSpec.plain.varTypes Tryz.prog).any (Tryz.prog.loopsFrom ·)))=true:=by kernel_rfl
theorem jsonfeedRoundTrip_k17:((Rows.jsonfeedRoundTripRow.wideKeys==(Tryz.f5.params.toList++Rows.jsonfeedRoundTripSpec.plain.varTypes Tryz.prog++Tryz.f5.resultTypes.toList).any (Tryz.prog.wideKeysFrom ·)))=true:=by kernel_rfl
theorem jsonfeedRoundTrip_k18:(Rows.jsonfeedRoundTripSpec.vars.all (Tryz.prog.varReadable ·))=true:=by kernel_rfl
theorem jsonfeedRoundTrip_k19:(Tryz.f5.resultTypes.all (fun t=>Tryz.prog.readableRec t && decide (t<Tryz.prog.types.size)))=true:=by kernel_rfl
theorem jsonfeedRoundTrip_k20:((Rows.jsonfeedRoundTripRow.ifacesOut==Tryz.f5.resultTypes.toList.any (Tryz.prog.ifacesRec ·)))=true:=by kernel_rfl
theorem jsonfeedRoundTrip_k21:((Rows.jsonfeedRoundTripRow.loopsOut==Tryz.f5.resultTypes.toList.any (Tryz.prog.loopsFrom ·)))=true:=by kernel_rfl
theorem jsonfeedRoundTrip_k22:((Rows.jsonfeedRoundTripRow.plainKeys==Tryz.prog.plainKeys))=true:=by kernel_rfl
theorem jsonfeedRoundTrip_k23:(Rows.jsonfeedRoundTripRow.shortTexts.isNone)=true:=by kernel_rfl
theorem jsonfeedRoundTrip_k24:(Tryz.prog.stopsHeard)=true:=by kernel_rfl
theorem jsonfeedRoundTrip_k25:(Tryz.prog.mayEnter)=true:=by kernel_rfl
theorem jsonfeedRoundTrip_k26:((Rows.jsonfeedRoundTripRow.lifted==Tryz.prog.liftsFinal))=true:=by kernel_rfl
theorem jsonfeedRoundTrip_k27:((Tryz.prog.make==some Rows.jsonfeedRoundTripRow.make))=true:=by kernel_rfl
theorem jsonfeedRoundTrip_k28:((Rows.jsonfeedRoundTripRow.kinds==(if Rows.jsonfeedRoundTripRow.domain.isEmpty then [] else Tryz.f5.params.toList.map fun t=>match Tryz.prog.underlying t with|some (.int k)=>some k|_=>none)))=true:=by kernel_rfl
theorem jsonfeedRoundTrip_k29:((Rows.jsonfeedRoundTripRow.pinned==Rows.jsonfeedRoundTripRow.pinnedBy))=true:=by kernel_rfl
theorem jsonfeedRoundTrip_k30:((Rows.jsonfeedRoundTripRow.veiled==(Tryz.f5.params.toList++Rows.jsonfeedRoundTripSpec.plain.varTypes Tryz.prog++Tryz.f5.resultTypes.toList).any (Tryz.prog.veiledRec ·)))=true:=by kernel_rfl
theorem jsonfeedRoundTrip_k31:(Rows.jsonfeedRoundTripRow.veiledFits Tryz.prog Tryz.f5.params.toList (Tryz.f5.params.toList++Rows.jsonfeedRoundTripSpec.plain.varTypes Tryz.prog++Tryz.f5.resultTypes.toList))=true:=by kernel_rfl
end Go.Proofs.YthlnaldahkgjnaaGreatDoor
