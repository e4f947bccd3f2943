/- The closed facts of law 10's row, one by one. -/
import Derived.Test.YtgecijhgonfldaaGreatDoorRows
import Derived.JoinedOf
import Derived.KernelRfl
namespace Go.Proofs.YtgecijhgonfldaaGreatDoor
open Go
theorem mergeKeepsLater_k0 : (Rows.mergeKeepsLaterRow.wf (OpenSpec.ofChange Rows.mergeKeepsLaterSpec)) = true := by kernel_rfl
theorem mergeKeepsLater_k1 : (laidOutB Tryz.prog) = true := by kernel_rfl
theorem mergeKeepsLater_k2 : (mapsRowed Tryz.prog) = true := by kernel_rfl
theorem mergeKeepsLater_k3 : (Tryz.f12.params.all (Tryz.prog.readableRec ·)) = true := by kernel_rfl
theorem mergeKeepsLater_k4 : (namedTie Tryz.prog Rows.mergeKeepsLaterRow.named Rows.mergeKeepsLaterSpec.vars) = true := by kernel_rfl
theorem mergeKeepsLater_k5 : ((Rows.mergeKeepsLaterRow.stops == [])) = true := by kernel_rfl
theorem mergeKeepsLater_k6 : ((Tryz.prog.stops == [])) = true := by kernel_rfl
theorem mergeKeepsLater_k7 : ((Rows.mergeKeepsLaterRow.knobs == [])) = true := by kernel_rfl
theorem mergeKeepsLater_k8 : ((Tryz.prog.stopKnobs == [])) = true := by kernel_rfl
theorem mergeKeepsLater_k9 : ((Rows.mergeKeepsLaterRow.inPlace == Tryz.prog.inPlace 12)) = true := by kernel_rfl
theorem mergeKeepsLater_k10 : ((Rows.mergeKeepsLaterRow.unfollowed == Tryz.prog.unfollowed 12)) = true := by kernel_rfl
theorem mergeKeepsLater_k11 : ((Rows.mergeKeepsLaterRow.recurses == Tryz.prog.recurses 12)) = true := by kernel_rfl
theorem mergeKeepsLater_k12 : ((Rows.mergeKeepsLaterRow.named == Tryz.prog.varsNamed 12)) = true := by kernel_rfl
theorem mergeKeepsLater_k13 : ((Rows.mergeKeepsLaterRow.maps == (Tryz.f12.params.toList ++ Rows.mergeKeepsLaterSpec.plain.varTypes Tryz.prog).any (Tryz.prog.mapsRec ·))) = true := by kernel_rfl
theorem mergeKeepsLater_k14 : ((Rows.mergeKeepsLaterRow.ifaces == (Tryz.f12.params.toList ++ Rows.mergeKeepsLaterSpec.plain.varTypes Tryz.prog).any (Tryz.prog.ifacesRec ·))) = true := by kernel_rfl
theorem mergeKeepsLater_k15 : ((Rows.mergeKeepsLaterRow.mapsOut == Tryz.prog.mapsAmong Tryz.f12.resultTypes.toList)) = true := by kernel_rfl
theorem mergeKeepsLater_k16 : ((Rows.mergeKeepsLaterRow.loops == (Tryz.f12.params.toList ++ Rows.mergeKeepsLaterSpec.plain.varTypes Tryz.prog).any (Tryz.prog.loopsFrom ·))) = true := by kernel_rfl
theorem mergeKeepsLater_k17 : ((Rows.mergeKeepsLaterRow.wideKeys == (Tryz.f12.params.toList ++ Rows.mergeKeepsLaterSpec.plain.varTypes Tryz.prog ++ Tryz.f12.resultTypes.toList).any (Tryz.prog.wideKeysFrom ·))) = true := by kernel_rfl
theorem mergeKeepsLater_k18 : (Rows.mergeKeepsLaterSpec.vars.all (Tryz.prog.varReadable ·)) = true := by kernel_rfl
theorem mergeKeepsLater_k19 : (Tryz.f12.resultTypes.all (fun t => Tryz.prog.readableRec t && decide (t < Tryz.prog.types.size))) = true := by kernel_rfl
theorem mergeKeepsLater_k20 : ((Rows.mergeKeepsLaterRow.ifacesOut == Tryz.f12.resultTypes.toList.any (Tryz.prog.ifacesRec ·))) = true := by kernel_rfl
theorem mergeKeepsLater_k21 : ((Rows.mergeKeepsLaterRow.loopsOut == Tryz.f12.resultTypes.toList.any (Tryz.prog.loopsFrom ·))) = true := by kernel_rfl
theorem mergeKeepsLater_k22 : ((Rows.mergeKeepsLaterRow.plainKeys == Tryz.prog.plainKeys)) = true := by kernel_rfl
theorem mergeKeepsLater_k23 : (Rows.mergeKeepsLaterRow.shortTexts.isNone) = true := by kernel_rfl
theorem mergeKeepsLater_k24 : (Tryz.prog.stopsHeard) = true := by kernel_rfl
theorem mergeKeepsLater_k25 : (Tryz.prog.mayEnter) = true := by kernel_rfl
theorem mergeKeepsLater_k26 : ((Rows.mergeKeepsLaterRow.lifted == Tryz.prog.liftsFinal)) = true := by kernel_rfl
theorem mergeKeepsLater_k27 : ((Tryz.prog.make == some Rows.mergeKeepsLaterRow.make)) = true := by kernel_rfl
theorem mergeKeepsLater_k28 : ((Rows.mergeKeepsLaterRow.kinds == (if Rows.mergeKeepsLaterRow.domain.isEmpty then [] else Tryz.f12.params.toList.map fun t => match Tryz.prog.underlying t with | some (.int k) => some k | _ => none))) = true := by kernel_rfl
theorem mergeKeepsLater_k29 : ((Rows.mergeKeepsLaterRow.pinned == Rows.mergeKeepsLaterRow.pinnedBy)) = true := by kernel_rfl
theorem mergeKeepsLater_k30 : ((Rows.mergeKeepsLaterRow.veiled == (Tryz.f12.params.toList ++ Rows.mergeKeepsLaterSpec.plain.varTypes Tryz.prog ++ Tryz.f12.resultTypes.toList).any (Tryz.prog.veiledRec ·))) = true := by kernel_rfl
theorem mergeKeepsLater_k31 : (Rows.mergeKeepsLaterRow.veiledFits Tryz.prog Tryz.f12.params.toList (Tryz.f12.params.toList ++ Rows.mergeKeepsLaterSpec.plain.varTypes Tryz.prog ++ Tryz.f12.resultTypes.toList)) = true := by kernel_rfl
end Go.Proofs.YtgecijhgonfldaaGreatDoor
