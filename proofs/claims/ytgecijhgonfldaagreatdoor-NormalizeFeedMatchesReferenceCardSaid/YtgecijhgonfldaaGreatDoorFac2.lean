/- The closed facts of law 2's row, one by one. -/
import Derived.Test.YtgecijhgonfldaaGreatDoorRows
import Derived.JoinedOf
import Derived.KernelRfl
namespace Go.Proofs.YtgecijhgonfldaaGreatDoor
open Go
theorem normalizeFeedMatchesReference_k0 : (Rows.normalizeFeedMatchesReferenceRow.wf (OpenSpec.ofChange Rows.normalizeFeedMatchesReferenceSpec)) = true := by kernel_rfl
theorem normalizeFeedMatchesReference_k1 : (laidOutB Tryz.prog) = true := by kernel_rfl
theorem normalizeFeedMatchesReference_k2 : (mapsRowed Tryz.prog) = true := by kernel_rfl
theorem normalizeFeedMatchesReference_k3 : (Tryz.f4.params.all (Tryz.prog.readableRec ·)) = true := by kernel_rfl
theorem normalizeFeedMatchesReference_k4 : (namedTie Tryz.prog Rows.normalizeFeedMatchesReferenceRow.named Rows.normalizeFeedMatchesReferenceSpec.vars) = true := by kernel_rfl
theorem normalizeFeedMatchesReference_k5 : ((Rows.normalizeFeedMatchesReferenceRow.stops == [])) = true := by kernel_rfl
theorem normalizeFeedMatchesReference_k6 : ((Tryz.prog.stops == [])) = true := by kernel_rfl
theorem normalizeFeedMatchesReference_k7 : ((Rows.normalizeFeedMatchesReferenceRow.knobs == [])) = true := by kernel_rfl
theorem normalizeFeedMatchesReference_k8 : ((Tryz.prog.stopKnobs == [])) = true := by kernel_rfl
theorem normalizeFeedMatchesReference_k9 : ((Rows.normalizeFeedMatchesReferenceRow.inPlace == Tryz.prog.inPlace 4)) = true := by kernel_rfl
theorem normalizeFeedMatchesReference_k10 : ((Rows.normalizeFeedMatchesReferenceRow.unfollowed == Tryz.prog.unfollowed 4)) = true := by kernel_rfl
theorem normalizeFeedMatchesReference_k11 : ((Rows.normalizeFeedMatchesReferenceRow.recurses == Tryz.prog.recurses 4)) = true := by kernel_rfl
theorem normalizeFeedMatchesReference_k12 : ((Rows.normalizeFeedMatchesReferenceRow.named == Tryz.prog.varsNamed 4)) = true := by kernel_rfl
theorem normalizeFeedMatchesReference_k13 : ((Rows.normalizeFeedMatchesReferenceRow.maps == (Tryz.f4.params.toList ++ Rows.normalizeFeedMatchesReferenceSpec.plain.varTypes Tryz.prog).any (Tryz.prog.mapsRec ·))) = true := by kernel_rfl
theorem normalizeFeedMatchesReference_k14 : ((Rows.normalizeFeedMatchesReferenceRow.ifaces == (Tryz.f4.params.toList ++ Rows.normalizeFeedMatchesReferenceSpec.plain.varTypes Tryz.prog).any (Tryz.prog.ifacesRec ·))) = true := by kernel_rfl
theorem normalizeFeedMatchesReference_k15 : ((Rows.normalizeFeedMatchesReferenceRow.mapsOut == Tryz.prog.mapsAmong Tryz.f4.resultTypes.toList)) = true := by kernel_rfl
theorem normalizeFeedMatchesReference_k16 : ((Rows.normalizeFeedMatchesReferenceRow.loops == (Tryz.f4.params.toList ++ Rows.normalizeFeedMatchesReferenceSpec.plain.varTypes Tryz.prog).any (Tryz.prog.loopsFrom ·))) = true := by kernel_rfl
theorem normalizeFeedMatchesReference_k17 : ((Rows.normalizeFeedMatchesReferenceRow.wideKeys == (Tryz.f4.params.toList ++ Rows.normalizeFeedMatchesReferenceSpec.plain.varTypes Tryz.prog ++ Tryz.f4.resultTypes.toList).any (Tryz.prog.wideKeysFrom ·))) = true := by kernel_rfl
theorem normalizeFeedMatchesReference_k18 : (Rows.normalizeFeedMatchesReferenceSpec.vars.all (Tryz.prog.varReadable ·)) = true := by kernel_rfl
theorem normalizeFeedMatchesReference_k19 : (Tryz.f4.resultTypes.all (fun t => Tryz.prog.readableRec t && decide (t < Tryz.prog.types.size))) = true := by kernel_rfl
theorem normalizeFeedMatchesReference_k20 : ((Rows.normalizeFeedMatchesReferenceRow.ifacesOut == Tryz.f4.resultTypes.toList.any (Tryz.prog.ifacesRec ·))) = true := by kernel_rfl
theorem normalizeFeedMatchesReference_k21 : ((Rows.normalizeFeedMatchesReferenceRow.loopsOut == Tryz.f4.resultTypes.toList.any (Tryz.prog.loopsFrom ·))) = true := by kernel_rfl
theorem normalizeFeedMatchesReference_k22 : ((Rows.normalizeFeedMatchesReferenceRow.plainKeys == Tryz.prog.plainKeys)) = true := by kernel_rfl
theorem normalizeFeedMatchesReference_k23 : (Rows.normalizeFeedMatchesReferenceRow.shortTexts.isNone) = true := by kernel_rfl
theorem normalizeFeedMatchesReference_k24 : (Tryz.prog.stopsHeard) = true := by kernel_rfl
theorem normalizeFeedMatchesReference_k25 : (Tryz.prog.mayEnter) = true := by kernel_rfl
theorem normalizeFeedMatchesReference_k26 : ((Rows.normalizeFeedMatchesReferenceRow.lifted == Tryz.prog.liftsFinal)) = true := by kernel_rfl
theorem normalizeFeedMatchesReference_k27 : ((Tryz.prog.make == some Rows.normalizeFeedMatchesReferenceRow.make)) = true := by kernel_rfl
theorem normalizeFeedMatchesReference_k28 : ((Rows.normalizeFeedMatchesReferenceRow.kinds == (if Rows.normalizeFeedMatchesReferenceRow.domain.isEmpty then [] else Tryz.f4.params.toList.map fun t => match Tryz.prog.underlying t with | some (.int k) => some k | _ => none))) = true := by kernel_rfl
theorem normalizeFeedMatchesReference_k29 : ((Rows.normalizeFeedMatchesReferenceRow.pinned == Rows.normalizeFeedMatchesReferenceRow.pinnedBy)) = true := by kernel_rfl
theorem normalizeFeedMatchesReference_k30 : ((Rows.normalizeFeedMatchesReferenceRow.veiled == (Tryz.f4.params.toList ++ Rows.normalizeFeedMatchesReferenceSpec.plain.varTypes Tryz.prog ++ Tryz.f4.resultTypes.toList).any (Tryz.prog.veiledRec ·))) = true := by kernel_rfl
theorem normalizeFeedMatchesReference_k31 : (Rows.normalizeFeedMatchesReferenceRow.veiledFits Tryz.prog Tryz.f4.params.toList (Tryz.f4.params.toList ++ Rows.normalizeFeedMatchesReferenceSpec.plain.varTypes Tryz.prog ++ Tryz.f4.resultTypes.toList)) = true := by kernel_rfl
end Go.Proofs.YtgecijhgonfldaaGreatDoor
