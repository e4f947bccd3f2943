/- The closed facts of the first law's row, one by one. -/
import Derived.Test.YtgecijhgonfldaaGreatDoorRows
import Derived.JoinedOf
import Derived.KernelRfl
namespace Go.Proofs.YtgecijhgonfldaaGreatDoor
open Go
theorem normalizeEntryMatchesReference_k0 : (Rows.normalizeEntryMatchesReferenceRow.wf (OpenSpec.ofChange Rows.normalizeEntryMatchesReferenceSpec)) = true := by kernel_rfl
theorem normalizeEntryMatchesReference_k1 : (laidOutB Tryz.prog) = true := by kernel_rfl
theorem normalizeEntryMatchesReference_k2 : (mapsRowed Tryz.prog) = true := by kernel_rfl
theorem normalizeEntryMatchesReference_k3 : (Tryz.f3.params.all (Tryz.prog.readableRec ·)) = true := by kernel_rfl
theorem normalizeEntryMatchesReference_k4 : (namedTie Tryz.prog Rows.normalizeEntryMatchesReferenceRow.named Rows.normalizeEntryMatchesReferenceSpec.vars) = true := by kernel_rfl
theorem normalizeEntryMatchesReference_k5 : ((Rows.normalizeEntryMatchesReferenceRow.stops == [])) = true := by kernel_rfl
theorem normalizeEntryMatchesReference_k6 : ((Tryz.prog.stops == [])) = true := by kernel_rfl
theorem normalizeEntryMatchesReference_k7 : ((Rows.normalizeEntryMatchesReferenceRow.knobs == [])) = true := by kernel_rfl
theorem normalizeEntryMatchesReference_k8 : ((Tryz.prog.stopKnobs == [])) = true := by kernel_rfl
theorem normalizeEntryMatchesReference_k9 : ((Rows.normalizeEntryMatchesReferenceRow.inPlace == Tryz.prog.inPlace 3)) = true := by kernel_rfl
theorem normalizeEntryMatchesReference_k10 : ((Rows.normalizeEntryMatchesReferenceRow.unfollowed == Tryz.prog.unfollowed 3)) = true := by kernel_rfl
theorem normalizeEntryMatchesReference_k11 : ((Rows.normalizeEntryMatchesReferenceRow.recurses == Tryz.prog.recurses 3)) = true := by kernel_rfl
theorem normalizeEntryMatchesReference_k12 : ((Rows.normalizeEntryMatchesReferenceRow.named == Tryz.prog.varsNamed 3)) = true := by kernel_rfl
theorem normalizeEntryMatchesReference_k13 : ((Rows.normalizeEntryMatchesReferenceRow.maps == (Tryz.f3.params.toList ++ Rows.normalizeEntryMatchesReferenceSpec.plain.varTypes Tryz.prog).any (Tryz.prog.mapsRec ·))) = true := by kernel_rfl
theorem normalizeEntryMatchesReference_k14 : ((Rows.normalizeEntryMatchesReferenceRow.ifaces == (Tryz.f3.params.toList ++ Rows.normalizeEntryMatchesReferenceSpec.plain.varTypes Tryz.prog).any (Tryz.prog.ifacesRec ·))) = true := by kernel_rfl
theorem normalizeEntryMatchesReference_k15 : ((Rows.normalizeEntryMatchesReferenceRow.mapsOut == Tryz.prog.mapsAmong Tryz.f3.resultTypes.toList)) = true := by kernel_rfl
theorem normalizeEntryMatchesReference_k16 : ((Rows.normalizeEntryMatchesReferenceRow.loops == (Tryz.f3.params.toList ++ Rows.normalizeEntryMatchesReferenceSpec.plain.varTypes Tryz.prog).any (Tryz.prog.loopsFrom ·))) = true := by kernel_rfl
theorem normalizeEntryMatchesReference_k17 : ((Rows.normalizeEntryMatchesReferenceRow.wideKeys == (Tryz.f3.params.toList ++ Rows.normalizeEntryMatchesReferenceSpec.plain.varTypes Tryz.prog ++ Tryz.f3.resultTypes.toList).any (Tryz.prog.wideKeysFrom ·))) = true := by kernel_rfl
theorem normalizeEntryMatchesReference_k18 : (Rows.normalizeEntryMatchesReferenceSpec.vars.all (Tryz.prog.varReadable ·)) = true := by kernel_rfl
theorem normalizeEntryMatchesReference_k19 : (Tryz.f3.resultTypes.all (fun t => Tryz.prog.readableRec t && decide (t < Tryz.prog.types.size))) = true := by kernel_rfl
theorem normalizeEntryMatchesReference_k20 : ((Rows.normalizeEntryMatchesReferenceRow.ifacesOut == Tryz.f3.resultTypes.toList.any (Tryz.prog.ifacesRec ·))) = true := by kernel_rfl
theorem normalizeEntryMatchesReference_k21 : ((Rows.normalizeEntryMatchesReferenceRow.loopsOut == Tryz.f3.resultTypes.toList.any (Tryz.prog.loopsFrom ·))) = true := by kernel_rfl
theorem normalizeEntryMatchesReference_k22 : ((Rows.normalizeEntryMatchesReferenceRow.plainKeys == Tryz.prog.plainKeys)) = true := by kernel_rfl
theorem normalizeEntryMatchesReference_k23 : (Rows.normalizeEntryMatchesReferenceRow.shortTexts.isNone) = true := by kernel_rfl
theorem normalizeEntryMatchesReference_k24 : (Tryz.prog.stopsHeard) = true := by kernel_rfl
theorem normalizeEntryMatchesReference_k25 : (Tryz.prog.mayEnter) = true := by kernel_rfl
theorem normalizeEntryMatchesReference_k26 : ((Rows.normalizeEntryMatchesReferenceRow.lifted == Tryz.prog.liftsFinal)) = true := by kernel_rfl
theorem normalizeEntryMatchesReference_k27 : ((Tryz.prog.make == some Rows.normalizeEntryMatchesReferenceRow.make)) = true := by kernel_rfl
theorem normalizeEntryMatchesReference_k28 : ((Rows.normalizeEntryMatchesReferenceRow.kinds == (if Rows.normalizeEntryMatchesReferenceRow.domain.isEmpty then [] else Tryz.f3.params.toList.map fun t => match Tryz.prog.underlying t with | some (.int k) => some k | _ => none))) = true := by kernel_rfl
theorem normalizeEntryMatchesReference_k29 : ((Rows.normalizeEntryMatchesReferenceRow.pinned == Rows.normalizeEntryMatchesReferenceRow.pinnedBy)) = true := by kernel_rfl
theorem normalizeEntryMatchesReference_k30 : ((Rows.normalizeEntryMatchesReferenceRow.veiled == (Tryz.f3.params.toList ++ Rows.normalizeEntryMatchesReferenceSpec.plain.varTypes Tryz.prog ++ Tryz.f3.resultTypes.toList).any (Tryz.prog.veiledRec ·))) = true := by kernel_rfl
theorem normalizeEntryMatchesReference_k31 : (Rows.normalizeEntryMatchesReferenceRow.veiledFits Tryz.prog Tryz.f3.params.toList (Tryz.f3.params.toList ++ Rows.normalizeEntryMatchesReferenceSpec.plain.varTypes Tryz.prog ++ Tryz.f3.resultTypes.toList)) = true := by kernel_rfl
end Go.Proofs.YtgecijhgonfldaaGreatDoor
