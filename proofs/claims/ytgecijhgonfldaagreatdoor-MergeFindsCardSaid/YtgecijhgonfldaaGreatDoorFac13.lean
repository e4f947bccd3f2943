/- The closed facts of law 13's row, one by one. -/
import Derived.Test.YtgecijhgonfldaaGreatDoorRows
import Derived.JoinedOf
import Derived.KernelRfl
namespace Go.Proofs.YtgecijhgonfldaaGreatDoor
open Go
theorem mergeFinds_k0 : (Rows.mergeFindsRow.wf (OpenSpec.ofChange Rows.mergeFindsSpec)) = true := by kernel_rfl
theorem mergeFinds_k1 : (laidOutB Tryz.prog) = true := by kernel_rfl
theorem mergeFinds_k2 : (mapsRowed Tryz.prog) = true := by kernel_rfl
theorem mergeFinds_k3 : (Tryz.f15.params.all (Tryz.prog.readableRec ·)) = true := by kernel_rfl
theorem mergeFinds_k4 : (namedTie Tryz.prog Rows.mergeFindsRow.named Rows.mergeFindsSpec.vars) = true := by kernel_rfl
theorem mergeFinds_k5 : ((Rows.mergeFindsRow.stops == [])) = true := by kernel_rfl
theorem mergeFinds_k6 : ((Tryz.prog.stops == [])) = true := by kernel_rfl
theorem mergeFinds_k7 : ((Rows.mergeFindsRow.knobs == [])) = true := by kernel_rfl
theorem mergeFinds_k8 : ((Tryz.prog.stopKnobs == [])) = true := by kernel_rfl
theorem mergeFinds_k9 : ((Rows.mergeFindsRow.inPlace == Tryz.prog.inPlace 15)) = true := by kernel_rfl
theorem mergeFinds_k10 : ((Rows.mergeFindsRow.unfollowed == Tryz.prog.unfollowed 15)) = true := by kernel_rfl
theorem mergeFinds_k11 : ((Rows.mergeFindsRow.recurses == Tryz.prog.recurses 15)) = true := by kernel_rfl
theorem mergeFinds_k12 : ((Rows.mergeFindsRow.named == Tryz.prog.varsNamed 15)) = true := by kernel_rfl
theorem mergeFinds_k13 : ((Rows.mergeFindsRow.maps == (Tryz.f15.params.toList ++ Rows.mergeFindsSpec.plain.varTypes Tryz.prog).any (Tryz.prog.mapsRec ·))) = true := by kernel_rfl
theorem mergeFinds_k14 : ((Rows.mergeFindsRow.ifaces == (Tryz.f15.params.toList ++ Rows.mergeFindsSpec.plain.varTypes Tryz.prog).any (Tryz.prog.ifacesRec ·))) = true := by kernel_rfl
theorem mergeFinds_k15 : ((Rows.mergeFindsRow.mapsOut == Tryz.prog.mapsAmong Tryz.f15.resultTypes.toList)) = true := by kernel_rfl
theorem mergeFinds_k16 : ((Rows.mergeFindsRow.loops == (Tryz.f15.params.toList ++ Rows.mergeFindsSpec.plain.varTypes Tryz.prog).any (Tryz.prog.loopsFrom ·))) = true := by kernel_rfl
theorem mergeFinds_k17 : ((Rows.mergeFindsRow.wideKeys == (Tryz.f15.params.toList ++ Rows.mergeFindsSpec.plain.varTypes Tryz.prog ++ Tryz.f15.resultTypes.toList).any (Tryz.prog.wideKeysFrom ·))) = true := by kernel_rfl
theorem mergeFinds_k18 : (Rows.mergeFindsSpec.vars.all (Tryz.prog.varReadable ·)) = true := by kernel_rfl
theorem mergeFinds_k19 : (Tryz.f15.resultTypes.all (fun t => Tryz.prog.readableRec t && decide (t < Tryz.prog.types.size))) = true := by kernel_rfl
theorem mergeFinds_k20 : ((Rows.mergeFindsRow.ifacesOut == Tryz.f15.resultTypes.toList.any (Tryz.prog.ifacesRec ·))) = true := by kernel_rfl
theorem mergeFinds_k21 : ((Rows.mergeFindsRow.loopsOut == Tryz.f15.resultTypes.toList.any (Tryz.prog.loopsFrom ·))) = true := by kernel_rfl
theorem mergeFinds_k22 : ((Rows.mergeFindsRow.plainKeys == Tryz.prog.plainKeys)) = true := by kernel_rfl
theorem mergeFinds_k23 : (Rows.mergeFindsRow.shortTexts.isNone) = true := by kernel_rfl
theorem mergeFinds_k24 : (Tryz.prog.stopsHeard) = true := by kernel_rfl
theorem mergeFinds_k25 : (Tryz.prog.mayEnter) = true := by kernel_rfl
theorem mergeFinds_k26 : ((Rows.mergeFindsRow.lifted == Tryz.prog.liftsFinal)) = true := by kernel_rfl
theorem mergeFinds_k27 : ((Tryz.prog.make == some Rows.mergeFindsRow.make)) = true := by kernel_rfl
theorem mergeFinds_k28 : ((Rows.mergeFindsRow.kinds == (if Rows.mergeFindsRow.domain.isEmpty then [] else Tryz.f15.params.toList.map fun t => match Tryz.prog.underlying t with | some (.int k) => some k | _ => none))) = true := by kernel_rfl
theorem mergeFinds_k29 : ((Rows.mergeFindsRow.pinned == Rows.mergeFindsRow.pinnedBy)) = true := by kernel_rfl
theorem mergeFinds_k30 : ((Rows.mergeFindsRow.veiled == (Tryz.f15.params.toList ++ Rows.mergeFindsSpec.plain.varTypes Tryz.prog ++ Tryz.f15.resultTypes.toList).any (Tryz.prog.veiledRec ·))) = true := by kernel_rfl
theorem mergeFinds_k31 : (Rows.mergeFindsRow.veiledFits Tryz.prog Tryz.f15.params.toList (Tryz.f15.params.toList ++ Rows.mergeFindsSpec.plain.varTypes Tryz.prog ++ Tryz.f15.resultTypes.toList)) = true := by kernel_rfl
end Go.Proofs.YtgecijhgonfldaaGreatDoor
