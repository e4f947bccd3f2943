/- The closed facts of law 11's row, one by one. -/
import Derived.Test.YtgecijhgonfldaaGreatDoorRows
import Derived.JoinedOf
import Derived.KernelRfl
namespace Go.Proofs.YtgecijhgonfldaaGreatDoor
open Go
theorem mergeIncludes_k0 : (Rows.mergeIncludesRow.wf (OpenSpec.ofChange Rows.mergeIncludesSpec)) = true := by kernel_rfl
theorem mergeIncludes_k1 : (laidOutB Tryz.prog) = true := by kernel_rfl
theorem mergeIncludes_k2 : (mapsRowed Tryz.prog) = true := by kernel_rfl
theorem mergeIncludes_k3 : (Tryz.f13.params.all (Tryz.prog.readableRec ·)) = true := by kernel_rfl
theorem mergeIncludes_k4 : (namedTie Tryz.prog Rows.mergeIncludesRow.named Rows.mergeIncludesSpec.vars) = true := by kernel_rfl
theorem mergeIncludes_k5 : ((Rows.mergeIncludesRow.stops == [])) = true := by kernel_rfl
theorem mergeIncludes_k6 : ((Tryz.prog.stops == [])) = true := by kernel_rfl
theorem mergeIncludes_k7 : ((Rows.mergeIncludesRow.knobs == [])) = true := by kernel_rfl
theorem mergeIncludes_k8 : ((Tryz.prog.stopKnobs == [])) = true := by kernel_rfl
theorem mergeIncludes_k9 : ((Rows.mergeIncludesRow.inPlace == Tryz.prog.inPlace 13)) = true := by kernel_rfl
theorem mergeIncludes_k10 : ((Rows.mergeIncludesRow.unfollowed == Tryz.prog.unfollowed 13)) = true := by kernel_rfl
theorem mergeIncludes_k11 : ((Rows.mergeIncludesRow.recurses == Tryz.prog.recurses 13)) = true := by kernel_rfl
theorem mergeIncludes_k12 : ((Rows.mergeIncludesRow.named == Tryz.prog.varsNamed 13)) = true := by kernel_rfl
theorem mergeIncludes_k13 : ((Rows.mergeIncludesRow.maps == (Tryz.f13.params.toList ++ Rows.mergeIncludesSpec.plain.varTypes Tryz.prog).any (Tryz.prog.mapsRec ·))) = true := by kernel_rfl
theorem mergeIncludes_k14 : ((Rows.mergeIncludesRow.ifaces == (Tryz.f13.params.toList ++ Rows.mergeIncludesSpec.plain.varTypes Tryz.prog).any (Tryz.prog.ifacesRec ·))) = true := by kernel_rfl
theorem mergeIncludes_k15 : ((Rows.mergeIncludesRow.mapsOut == Tryz.prog.mapsAmong Tryz.f13.resultTypes.toList)) = true := by kernel_rfl
theorem mergeIncludes_k16 : ((Rows.mergeIncludesRow.loops == (Tryz.f13.params.toList ++ Rows.mergeIncludesSpec.plain.varTypes Tryz.prog).any (Tryz.prog.loopsFrom ·))) = true := by kernel_rfl
theorem mergeIncludes_k17 : ((Rows.mergeIncludesRow.wideKeys == (Tryz.f13.params.toList ++ Rows.mergeIncludesSpec.plain.varTypes Tryz.prog ++ Tryz.f13.resultTypes.toList).any (Tryz.prog.wideKeysFrom ·))) = true := by kernel_rfl
theorem mergeIncludes_k18 : (Rows.mergeIncludesSpec.vars.all (Tryz.prog.varReadable ·)) = true := by kernel_rfl
theorem mergeIncludes_k19 : (Tryz.f13.resultTypes.all (fun t => Tryz.prog.readableRec t && decide (t < Tryz.prog.types.size))) = true := by kernel_rfl
theorem mergeIncludes_k20 : ((Rows.mergeIncludesRow.ifacesOut == Tryz.f13.resultTypes.toList.any (Tryz.prog.ifacesRec ·))) = true := by kernel_rfl
theorem mergeIncludes_k21 : ((Rows.mergeIncludesRow.loopsOut == Tryz.f13.resultTypes.toList.any (Tryz.prog.loopsFrom ·))) = true := by kernel_rfl
theorem mergeIncludes_k22 : ((Rows.mergeIncludesRow.plainKeys == Tryz.prog.plainKeys)) = true := by kernel_rfl
theorem mergeIncludes_k23 : (Rows.mergeIncludesRow.shortTexts.isNone) = true := by kernel_rfl
theorem mergeIncludes_k24 : (Tryz.prog.stopsHeard) = true := by kernel_rfl
theorem mergeIncludes_k25 : (Tryz.prog.mayEnter) = true := by kernel_rfl
theorem mergeIncludes_k26 : ((Rows.mergeIncludesRow.lifted == Tryz.prog.liftsFinal)) = true := by kernel_rfl
theorem mergeIncludes_k27 : ((Tryz.prog.make == some Rows.mergeIncludesRow.make)) = true := by kernel_rfl
theorem mergeIncludes_k28 : ((Rows.mergeIncludesRow.kinds == (if Rows.mergeIncludesRow.domain.isEmpty then [] else Tryz.f13.params.toList.map fun t => match Tryz.prog.underlying t with | some (.int k) => some k | _ => none))) = true := by kernel_rfl
theorem mergeIncludes_k29 : ((Rows.mergeIncludesRow.pinned == Rows.mergeIncludesRow.pinnedBy)) = true := by kernel_rfl
theorem mergeIncludes_k30 : ((Rows.mergeIncludesRow.veiled == (Tryz.f13.params.toList ++ Rows.mergeIncludesSpec.plain.varTypes Tryz.prog ++ Tryz.f13.resultTypes.toList).any (Tryz.prog.veiledRec ·))) = true := by kernel_rfl
theorem mergeIncludes_k31 : (Rows.mergeIncludesRow.veiledFits Tryz.prog Tryz.f13.params.toList (Tryz.f13.params.toList ++ Rows.mergeIncludesSpec.plain.varTypes Tryz.prog ++ Tryz.f13.resultTypes.toList)) = true := by kernel_rfl
end Go.Proofs.YtgecijhgonfldaaGreatDoor
