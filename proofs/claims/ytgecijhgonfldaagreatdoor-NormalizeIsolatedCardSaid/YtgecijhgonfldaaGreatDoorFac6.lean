/- The closed facts of law 6's row, one by one. -/
import Derived.Test.YtgecijhgonfldaaGreatDoorRows
import Derived.JoinedOf
import Derived.KernelRfl
namespace Go.Proofs.YtgecijhgonfldaaGreatDoor
open Go
theorem normalizeIsolated_k0 : (Rows.normalizeIsolatedRow.wf (OpenSpec.ofChange Rows.normalizeIsolatedSpec)) = true := by kernel_rfl
theorem normalizeIsolated_k1 : (laidOutB Tryz.prog) = true := by kernel_rfl
theorem normalizeIsolated_k2 : (mapsRowed Tryz.prog) = true := by kernel_rfl
theorem normalizeIsolated_k3 : (Tryz.f8.params.all (Tryz.prog.readableRec ·)) = true := by kernel_rfl
theorem normalizeIsolated_k4 : (namedTie Tryz.prog Rows.normalizeIsolatedRow.named Rows.normalizeIsolatedSpec.vars) = true := by kernel_rfl
theorem normalizeIsolated_k5 : ((Rows.normalizeIsolatedRow.stops == [])) = true := by kernel_rfl
theorem normalizeIsolated_k6 : ((Tryz.prog.stops == [])) = true := by kernel_rfl
theorem normalizeIsolated_k7 : ((Rows.normalizeIsolatedRow.knobs == [])) = true := by kernel_rfl
theorem normalizeIsolated_k8 : ((Tryz.prog.stopKnobs == [])) = true := by kernel_rfl
theorem normalizeIsolated_k9 : ((Rows.normalizeIsolatedRow.inPlace == Tryz.prog.inPlace 8)) = true := by kernel_rfl
theorem normalizeIsolated_k10 : ((Rows.normalizeIsolatedRow.unfollowed == Tryz.prog.unfollowed 8)) = true := by kernel_rfl
theorem normalizeIsolated_k11 : ((Rows.normalizeIsolatedRow.recurses == Tryz.prog.recurses 8)) = true := by kernel_rfl
theorem normalizeIsolated_k12 : ((Rows.normalizeIsolatedRow.named == Tryz.prog.varsNamed 8)) = true := by kernel_rfl
theorem normalizeIsolated_k13 : ((Rows.normalizeIsolatedRow.maps == (Tryz.f8.params.toList ++ Rows.normalizeIsolatedSpec.plain.varTypes Tryz.prog).any (Tryz.prog.mapsRec ·))) = true := by kernel_rfl
theorem normalizeIsolated_k14 : ((Rows.normalizeIsolatedRow.ifaces == (Tryz.f8.params.toList ++ Rows.normalizeIsolatedSpec.plain.varTypes Tryz.prog).any (Tryz.prog.ifacesRec ·))) = true := by kernel_rfl
theorem normalizeIsolated_k15 : ((Rows.normalizeIsolatedRow.mapsOut == Tryz.prog.mapsAmong Tryz.f8.resultTypes.toList)) = true := by kernel_rfl
theorem normalizeIsolated_k16 : ((Rows.normalizeIsolatedRow.loops == (Tryz.f8.params.toList ++ Rows.normalizeIsolatedSpec.plain.varTypes Tryz.prog).any (Tryz.prog.loopsFrom ·))) = true := by kernel_rfl
theorem normalizeIsolated_k17 : ((Rows.normalizeIsolatedRow.wideKeys == (Tryz.f8.params.toList ++ Rows.normalizeIsolatedSpec.plain.varTypes Tryz.prog ++ Tryz.f8.resultTypes.toList).any (Tryz.prog.wideKeysFrom ·))) = true := by kernel_rfl
theorem normalizeIsolated_k18 : (Rows.normalizeIsolatedSpec.vars.all (Tryz.prog.varReadable ·)) = true := by kernel_rfl
theorem normalizeIsolated_k19 : (Tryz.f8.resultTypes.all (fun t => Tryz.prog.readableRec t && decide (t < Tryz.prog.types.size))) = true := by kernel_rfl
theorem normalizeIsolated_k20 : ((Rows.normalizeIsolatedRow.ifacesOut == Tryz.f8.resultTypes.toList.any (Tryz.prog.ifacesRec ·))) = true := by kernel_rfl
theorem normalizeIsolated_k21 : ((Rows.normalizeIsolatedRow.loopsOut == Tryz.f8.resultTypes.toList.any (Tryz.prog.loopsFrom ·))) = true := by kernel_rfl
theorem normalizeIsolated_k22 : ((Rows.normalizeIsolatedRow.plainKeys == Tryz.prog.plainKeys)) = true := by kernel_rfl
theorem normalizeIsolated_k23 : (Rows.normalizeIsolatedRow.shortTexts.isNone) = true := by kernel_rfl
theorem normalizeIsolated_k24 : (Tryz.prog.stopsHeard) = true := by kernel_rfl
theorem normalizeIsolated_k25 : (Tryz.prog.mayEnter) = true := by kernel_rfl
theorem normalizeIsolated_k26 : ((Rows.normalizeIsolatedRow.lifted == Tryz.prog.liftsFinal)) = true := by kernel_rfl
theorem normalizeIsolated_k27 : ((Tryz.prog.make == some Rows.normalizeIsolatedRow.make)) = true := by kernel_rfl
theorem normalizeIsolated_k28 : ((Rows.normalizeIsolatedRow.kinds == (if Rows.normalizeIsolatedRow.domain.isEmpty then [] else Tryz.f8.params.toList.map fun t => match Tryz.prog.underlying t with | some (.int k) => some k | _ => none))) = true := by kernel_rfl
theorem normalizeIsolated_k29 : ((Rows.normalizeIsolatedRow.pinned == Rows.normalizeIsolatedRow.pinnedBy)) = true := by kernel_rfl
theorem normalizeIsolated_k30 : ((Rows.normalizeIsolatedRow.veiled == (Tryz.f8.params.toList ++ Rows.normalizeIsolatedSpec.plain.varTypes Tryz.prog ++ Tryz.f8.resultTypes.toList).any (Tryz.prog.veiledRec ·))) = true := by kernel_rfl
theorem normalizeIsolated_k31 : (Rows.normalizeIsolatedRow.veiledFits Tryz.prog Tryz.f8.params.toList (Tryz.f8.params.toList ++ Rows.normalizeIsolatedSpec.plain.varTypes Tryz.prog ++ Tryz.f8.resultTypes.toList)) = true := by kernel_rfl
end Go.Proofs.YtgecijhgonfldaaGreatDoor
