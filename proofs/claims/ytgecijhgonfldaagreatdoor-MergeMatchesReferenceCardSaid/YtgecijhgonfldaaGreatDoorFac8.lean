/- The closed facts of law 8's row, one by one. -/
import Derived.Test.YtgecijhgonfldaaGreatDoorRows
import Derived.JoinedOf
import Derived.KernelRfl
namespace Go.Proofs.YtgecijhgonfldaaGreatDoor
open Go
theorem mergeMatchesReference_k0 : (Rows.mergeMatchesReferenceRow.wf (OpenSpec.ofChange Rows.mergeMatchesReferenceSpec)) = true := by kernel_rfl
theorem mergeMatchesReference_k1 : (laidOutB Tryz.prog) = true := by kernel_rfl
theorem mergeMatchesReference_k2 : (mapsRowed Tryz.prog) = true := by kernel_rfl
theorem mergeMatchesReference_k3 : (Tryz.f10.params.all (Tryz.prog.readableRec ·)) = true := by kernel_rfl
theorem mergeMatchesReference_k4 : (namedTie Tryz.prog Rows.mergeMatchesReferenceRow.named Rows.mergeMatchesReferenceSpec.vars) = true := by kernel_rfl
theorem mergeMatchesReference_k5 : ((Rows.mergeMatchesReferenceRow.stops == [])) = true := by kernel_rfl
theorem mergeMatchesReference_k6 : ((Tryz.prog.stops == [])) = true := by kernel_rfl
theorem mergeMatchesReference_k7 : ((Rows.mergeMatchesReferenceRow.knobs == [])) = true := by kernel_rfl
theorem mergeMatchesReference_k8 : ((Tryz.prog.stopKnobs == [])) = true := by kernel_rfl
theorem mergeMatchesReference_k9 : ((Rows.mergeMatchesReferenceRow.inPlace == Tryz.prog.inPlace 10)) = true := by kernel_rfl
theorem mergeMatchesReference_k10 : ((Rows.mergeMatchesReferenceRow.unfollowed == Tryz.prog.unfollowed 10)) = true := by kernel_rfl
theorem mergeMatchesReference_k11 : ((Rows.mergeMatchesReferenceRow.recurses == Tryz.prog.recurses 10)) = true := by kernel_rfl
theorem mergeMatchesReference_k12 : ((Rows.mergeMatchesReferenceRow.named == Tryz.prog.varsNamed 10)) = true := by kernel_rfl
theorem mergeMatchesReference_k13 : ((Rows.mergeMatchesReferenceRow.maps == (Tryz.f10.params.toList ++ Rows.mergeMatchesReferenceSpec.plain.varTypes Tryz.prog).any (Tryz.prog.mapsRec ·))) = true := by kernel_rfl
theorem mergeMatchesReference_k14 : ((Rows.mergeMatchesReferenceRow.ifaces == (Tryz.f10.params.toList ++ Rows.mergeMatchesReferenceSpec.plain.varTypes Tryz.prog).any (Tryz.prog.ifacesRec ·))) = true := by kernel_rfl
theorem mergeMatchesReference_k15 : ((Rows.mergeMatchesReferenceRow.mapsOut == Tryz.prog.mapsAmong Tryz.f10.resultTypes.toList)) = true := by kernel_rfl
theorem mergeMatchesReference_k16 : ((Rows.mergeMatchesReferenceRow.loops == (Tryz.f10.params.toList ++ Rows.mergeMatchesReferenceSpec.plain.varTypes Tryz.prog).any (Tryz.prog.loopsFrom ·))) = true := by kernel_rfl
theorem mergeMatchesReference_k17 : ((Rows.mergeMatchesReferenceRow.wideKeys == (Tryz.f10.params.toList ++ Rows.mergeMatchesReferenceSpec.plain.varTypes Tryz.prog ++ Tryz.f10.resultTypes.toList).any (Tryz.prog.wideKeysFrom ·))) = true := by kernel_rfl
theorem mergeMatchesReference_k18 : (Rows.mergeMatchesReferenceSpec.vars.all (Tryz.prog.varReadable ·)) = true := by kernel_rfl
theorem mergeMatchesReference_k19 : (Tryz.f10.resultTypes.all (fun t => Tryz.prog.readableRec t && decide (t < Tryz.prog.types.size))) = true := by kernel_rfl
theorem mergeMatchesReference_k20 : ((Rows.mergeMatchesReferenceRow.ifacesOut == Tryz.f10.resultTypes.toList.any (Tryz.prog.ifacesRec ·))) = true := by kernel_rfl
theorem mergeMatchesReference_k21 : ((Rows.mergeMatchesReferenceRow.loopsOut == Tryz.f10.resultTypes.toList.any (Tryz.prog.loopsFrom ·))) = true := by kernel_rfl
theorem mergeMatchesReference_k22 : ((Rows.mergeMatchesReferenceRow.plainKeys == Tryz.prog.plainKeys)) = true := by kernel_rfl
theorem mergeMatchesReference_k23 : (Rows.mergeMatchesReferenceRow.shortTexts.isNone) = true := by kernel_rfl
theorem mergeMatchesReference_k24 : (Tryz.prog.stopsHeard) = true := by kernel_rfl
theorem mergeMatchesReference_k25 : (Tryz.prog.mayEnter) = true := by kernel_rfl
theorem mergeMatchesReference_k26 : ((Rows.mergeMatchesReferenceRow.lifted == Tryz.prog.liftsFinal)) = true := by kernel_rfl
theorem mergeMatchesReference_k27 : ((Tryz.prog.make == some Rows.mergeMatchesReferenceRow.make)) = true := by kernel_rfl
theorem mergeMatchesReference_k28 : ((Rows.mergeMatchesReferenceRow.kinds == (if Rows.mergeMatchesReferenceRow.domain.isEmpty then [] else Tryz.f10.params.toList.map fun t => match Tryz.prog.underlying t with | some (.int k) => some k | _ => none))) = true := by kernel_rfl
theorem mergeMatchesReference_k29 : ((Rows.mergeMatchesReferenceRow.pinned == Rows.mergeMatchesReferenceRow.pinnedBy)) = true := by kernel_rfl
theorem mergeMatchesReference_k30 : ((Rows.mergeMatchesReferenceRow.veiled == (Tryz.f10.params.toList ++ Rows.mergeMatchesReferenceSpec.plain.varTypes Tryz.prog ++ Tryz.f10.resultTypes.toList).any (Tryz.prog.veiledRec ·))) = true := by kernel_rfl
theorem mergeMatchesReference_k31 : (Rows.mergeMatchesReferenceRow.veiledFits Tryz.prog Tryz.f10.params.toList (Tryz.f10.params.toList ++ Rows.mergeMatchesReferenceSpec.plain.varTypes Tryz.prog ++ Tryz.f10.resultTypes.toList)) = true := by kernel_rfl
end Go.Proofs.YtgecijhgonfldaaGreatDoor
