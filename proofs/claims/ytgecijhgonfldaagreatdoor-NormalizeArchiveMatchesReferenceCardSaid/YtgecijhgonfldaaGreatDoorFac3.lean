/- The closed facts of law 3's row, one by one. -/
import Derived.Test.YtgecijhgonfldaaGreatDoorRows
import Derived.JoinedOf
import Derived.KernelRfl
namespace Go.Proofs.YtgecijhgonfldaaGreatDoor
open Go
theorem normalizeArchiveMatchesReference_k0 : (Rows.normalizeArchiveMatchesReferenceRow.wf (OpenSpec.ofChange Rows.normalizeArchiveMatchesReferenceSpec)) = true := by kernel_rfl
theorem normalizeArchiveMatchesReference_k1 : (laidOutB Tryz.prog) = true := by kernel_rfl
theorem normalizeArchiveMatchesReference_k2 : (mapsRowed Tryz.prog) = true := by kernel_rfl
theorem normalizeArchiveMatchesReference_k3 : (Tryz.f5.params.all (Tryz.prog.readableRec ·)) = true := by kernel_rfl
theorem normalizeArchiveMatchesReference_k4 : (namedTie Tryz.prog Rows.normalizeArchiveMatchesReferenceRow.named Rows.normalizeArchiveMatchesReferenceSpec.vars) = true := by kernel_rfl
theorem normalizeArchiveMatchesReference_k5 : ((Rows.normalizeArchiveMatchesReferenceRow.stops == [])) = true := by kernel_rfl
theorem normalizeArchiveMatchesReference_k6 : ((Tryz.prog.stops == [])) = true := by kernel_rfl
theorem normalizeArchiveMatchesReference_k7 : ((Rows.normalizeArchiveMatchesReferenceRow.knobs == [])) = true := by kernel_rfl
theorem normalizeArchiveMatchesReference_k8 : ((Tryz.prog.stopKnobs == [])) = true := by kernel_rfl
theorem normalizeArchiveMatchesReference_k9 : ((Rows.normalizeArchiveMatchesReferenceRow.inPlace == Tryz.prog.inPlace 5)) = true := by kernel_rfl
theorem normalizeArchiveMatchesReference_k10 : ((Rows.normalizeArchiveMatchesReferenceRow.unfollowed == Tryz.prog.unfollowed 5)) = true := by kernel_rfl
theorem normalizeArchiveMatchesReference_k11 : ((Rows.normalizeArchiveMatchesReferenceRow.recurses == Tryz.prog.recurses 5)) = true := by kernel_rfl
theorem normalizeArchiveMatchesReference_k12 : ((Rows.normalizeArchiveMatchesReferenceRow.named == Tryz.prog.varsNamed 5)) = true := by kernel_rfl
theorem normalizeArchiveMatchesReference_k13 : ((Rows.normalizeArchiveMatchesReferenceRow.maps == (Tryz.f5.params.toList ++ Rows.normalizeArchiveMatchesReferenceSpec.plain.varTypes Tryz.prog).any (Tryz.prog.mapsRec ·))) = true := by kernel_rfl
theorem normalizeArchiveMatchesReference_k14 : ((Rows.normalizeArchiveMatchesReferenceRow.ifaces == (Tryz.f5.params.toList ++ Rows.normalizeArchiveMatchesReferenceSpec.plain.varTypes Tryz.prog).any (Tryz.prog.ifacesRec ·))) = true := by kernel_rfl
theorem normalizeArchiveMatchesReference_k15 : ((Rows.normalizeArchiveMatchesReferenceRow.mapsOut == Tryz.prog.mapsAmong Tryz.f5.resultTypes.toList)) = true := by kernel_rfl
theorem normalizeArchiveMatchesReference_k16 : ((Rows.normalizeArchiveMatchesReferenceRow.loops == (Tryz.f5.params.toList ++ Rows.normalizeArchiveMatchesReferenceSpec.plain.varTypes Tryz.prog).any (Tryz.prog.loopsFrom ·))) = true := by kernel_rfl
theorem normalizeArchiveMatchesReference_k17 : ((Rows.normalizeArchiveMatchesReferenceRow.wideKeys == (Tryz.f5.params.toList ++ Rows.normalizeArchiveMatchesReferenceSpec.plain.varTypes Tryz.prog ++ Tryz.f5.resultTypes.toList).any (Tryz.prog.wideKeysFrom ·))) = true := by kernel_rfl
theorem normalizeArchiveMatchesReference_k18 : (Rows.normalizeArchiveMatchesReferenceSpec.vars.all (Tryz.prog.varReadable ·)) = true := by kernel_rfl
theorem normalizeArchiveMatchesReference_k19 : (Tryz.f5.resultTypes.all (fun t => Tryz.prog.readableRec t && decide (t < Tryz.prog.types.size))) = true := by kernel_rfl
theorem normalizeArchiveMatchesReference_k20 : ((Rows.normalizeArchiveMatchesReferenceRow.ifacesOut == Tryz.f5.resultTypes.toList.any (Tryz.prog.ifacesRec ·))) = true := by kernel_rfl
theorem normalizeArchiveMatchesReference_k21 : ((Rows.normalizeArchiveMatchesReferenceRow.loopsOut == Tryz.f5.resultTypes.toList.any (Tryz.prog.loopsFrom ·))) = true := by kernel_rfl
theorem normalizeArchiveMatchesReference_k22 : ((Rows.normalizeArchiveMatchesReferenceRow.plainKeys == Tryz.prog.plainKeys)) = true := by kernel_rfl
theorem normalizeArchiveMatchesReference_k23 : (Rows.normalizeArchiveMatchesReferenceRow.shortTexts.isNone) = true := by kernel_rfl
theorem normalizeArchiveMatchesReference_k24 : (Tryz.prog.stopsHeard) = true := by kernel_rfl
theorem normalizeArchiveMatchesReference_k25 : (Tryz.prog.mayEnter) = true := by kernel_rfl
theorem normalizeArchiveMatchesReference_k26 : ((Rows.normalizeArchiveMatchesReferenceRow.lifted == Tryz.prog.liftsFinal)) = true := by kernel_rfl
theorem normalizeArchiveMatchesReference_k27 : ((Tryz.prog.make == some Rows.normalizeArchiveMatchesReferenceRow.make)) = true := by kernel_rfl
theorem normalizeArchiveMatchesReference_k28 : ((Rows.normalizeArchiveMatchesReferenceRow.kinds == (if Rows.normalizeArchiveMatchesReferenceRow.domain.isEmpty then [] else Tryz.f5.params.toList.map fun t => match Tryz.prog.underlying t with | some (.int k) => some k | _ => none))) = true := by kernel_rfl
theorem normalizeArchiveMatchesReference_k29 : ((Rows.normalizeArchiveMatchesReferenceRow.pinned == Rows.normalizeArchiveMatchesReferenceRow.pinnedBy)) = true := by kernel_rfl
theorem normalizeArchiveMatchesReference_k30 : ((Rows.normalizeArchiveMatchesReferenceRow.veiled == (Tryz.f5.params.toList ++ Rows.normalizeArchiveMatchesReferenceSpec.plain.varTypes Tryz.prog ++ Tryz.f5.resultTypes.toList).any (Tryz.prog.veiledRec ·))) = true := by kernel_rfl
theorem normalizeArchiveMatchesReference_k31 : (Rows.normalizeArchiveMatchesReferenceRow.veiledFits Tryz.prog Tryz.f5.params.toList (Tryz.f5.params.toList ++ Rows.normalizeArchiveMatchesReferenceSpec.plain.varTypes Tryz.prog ++ Tryz.f5.resultTypes.toList)) = true := by kernel_rfl
end Go.Proofs.YtgecijhgonfldaaGreatDoor
