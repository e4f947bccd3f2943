/- The closed facts of law 5's row, one by one. -/
import Derived.Test.YtgecijhgonfldaaGreatDoorRows
import Derived.JoinedOf
import Derived.KernelRfl
namespace Go.Proofs.YtgecijhgonfldaaGreatDoor
open Go
theorem normalizeSplits_k0 : (Rows.normalizeSplitsRow.wf (OpenSpec.ofChange Rows.normalizeSplitsSpec)) = true := by kernel_rfl
theorem normalizeSplits_k1 : (laidOutB Tryz.prog) = true := by kernel_rfl
theorem normalizeSplits_k2 : (mapsRowed Tryz.prog) = true := by kernel_rfl
theorem normalizeSplits_k3 : (Tryz.f7.params.all (Tryz.prog.readableRec ·)) = true := by kernel_rfl
theorem normalizeSplits_k4 : (namedTie Tryz.prog Rows.normalizeSplitsRow.named Rows.normalizeSplitsSpec.vars) = true := by kernel_rfl
theorem normalizeSplits_k5 : ((Rows.normalizeSplitsRow.stops == [])) = true := by kernel_rfl
theorem normalizeSplits_k6 : ((Tryz.prog.stops == [])) = true := by kernel_rfl
theorem normalizeSplits_k7 : ((Rows.normalizeSplitsRow.knobs == [])) = true := by kernel_rfl
theorem normalizeSplits_k8 : ((Tryz.prog.stopKnobs == [])) = true := by kernel_rfl
theorem normalizeSplits_k9 : ((Rows.normalizeSplitsRow.inPlace == Tryz.prog.inPlace 7)) = true := by kernel_rfl
theorem normalizeSplits_k10 : ((Rows.normalizeSplitsRow.unfollowed == Tryz.prog.unfollowed 7)) = true := by kernel_rfl
theorem normalizeSplits_k11 : ((Rows.normalizeSplitsRow.recurses == Tryz.prog.recurses 7)) = true := by kernel_rfl
theorem normalizeSplits_k12 : ((Rows.normalizeSplitsRow.named == Tryz.prog.varsNamed 7)) = true := by kernel_rfl
theorem normalizeSplits_k13 : ((Rows.normalizeSplitsRow.maps == (Tryz.f7.params.toList ++ Rows.normalizeSplitsSpec.plain.varTypes Tryz.prog).any (Tryz.prog.mapsRec ·))) = true := by kernel_rfl
theorem normalizeSplits_k14 : ((Rows.normalizeSplitsRow.ifaces == (Tryz.f7.params.toList ++ Rows.normalizeSplitsSpec.plain.varTypes Tryz.prog).any (Tryz.prog.ifacesRec ·))) = true := by kernel_rfl
theorem normalizeSplits_k15 : ((Rows.normalizeSplitsRow.mapsOut == Tryz.prog.mapsAmong Tryz.f7.resultTypes.toList)) = true := by kernel_rfl
theorem normalizeSplits_k16 : ((Rows.normalizeSplitsRow.loops == (Tryz.f7.params.toList ++ Rows.normalizeSplitsSpec.plain.varTypes Tryz.prog).any (Tryz.prog.loopsFrom ·))) = true := by kernel_rfl
theorem normalizeSplits_k17 : ((Rows.normalizeSplitsRow.wideKeys == (Tryz.f7.params.toList ++ Rows.normalizeSplitsSpec.plain.varTypes Tryz.prog ++ Tryz.f7.resultTypes.toList).any (Tryz.prog.wideKeysFrom ·))) = true := by kernel_rfl
theorem normalizeSplits_k18 : (Rows.normalizeSplitsSpec.vars.all (Tryz.prog.varReadable ·)) = true := by kernel_rfl
theorem normalizeSplits_k19 : (Tryz.f7.resultTypes.all (fun t => Tryz.prog.readableRec t && decide (t < Tryz.prog.types.size))) = true := by kernel_rfl
theorem normalizeSplits_k20 : ((Rows.normalizeSplitsRow.ifacesOut == Tryz.f7.resultTypes.toList.any (Tryz.prog.ifacesRec ·))) = true := by kernel_rfl
theorem normalizeSplits_k21 : ((Rows.normalizeSplitsRow.loopsOut == Tryz.f7.resultTypes.toList.any (Tryz.prog.loopsFrom ·))) = true := by kernel_rfl
theorem normalizeSplits_k22 : ((Rows.normalizeSplitsRow.plainKeys == Tryz.prog.plainKeys)) = true := by kernel_rfl
theorem normalizeSplits_k23 : (Rows.normalizeSplitsRow.shortTexts.isNone) = true := by kernel_rfl
theorem normalizeSplits_k24 : (Tryz.prog.stopsHeard) = true := by kernel_rfl
theorem normalizeSplits_k25 : (Tryz.prog.mayEnter) = true := by kernel_rfl
theorem normalizeSplits_k26 : ((Rows.normalizeSplitsRow.lifted == Tryz.prog.liftsFinal)) = true := by kernel_rfl
theorem normalizeSplits_k27 : ((Tryz.prog.make == some Rows.normalizeSplitsRow.make)) = true := by kernel_rfl
theorem normalizeSplits_k28 : ((Rows.normalizeSplitsRow.kinds == (if Rows.normalizeSplitsRow.domain.isEmpty then [] else Tryz.f7.params.toList.map fun t => match Tryz.prog.underlying t with | some (.int k) => some k | _ => none))) = true := by kernel_rfl
theorem normalizeSplits_k29 : ((Rows.normalizeSplitsRow.pinned == Rows.normalizeSplitsRow.pinnedBy)) = true := by kernel_rfl
theorem normalizeSplits_k30 : ((Rows.normalizeSplitsRow.veiled == (Tryz.f7.params.toList ++ Rows.normalizeSplitsSpec.plain.varTypes Tryz.prog ++ Tryz.f7.resultTypes.toList).any (Tryz.prog.veiledRec ·))) = true := by kernel_rfl
theorem normalizeSplits_k31 : (Rows.normalizeSplitsRow.veiledFits Tryz.prog Tryz.f7.params.toList (Tryz.f7.params.toList ++ Rows.normalizeSplitsSpec.plain.varTypes Tryz.prog ++ Tryz.f7.resultTypes.toList)) = true := by kernel_rfl
end Go.Proofs.YtgecijhgonfldaaGreatDoor
