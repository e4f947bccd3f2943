/- The closed facts of law 9's row, one by one. -/
import Derived.Test.YtgecijhgonfldaaGreatDoorRows
import Derived.JoinedOf
import Derived.KernelRfl
namespace Go.Proofs.YtgecijhgonfldaaGreatDoor
open Go
theorem mergeIsSemilattice_k0 : (Rows.mergeIsSemilatticeRow.wf (OpenSpec.ofChange Rows.mergeIsSemilatticeSpec)) = true := by kernel_rfl
theorem mergeIsSemilattice_k1 : (laidOutB Tryz.prog) = true := by kernel_rfl
theorem mergeIsSemilattice_k2 : (mapsRowed Tryz.prog) = true := by kernel_rfl
theorem mergeIsSemilattice_k3 : (Tryz.f11.params.all (Tryz.prog.readableRec ·)) = true := by kernel_rfl
theorem mergeIsSemilattice_k4 : (namedTie Tryz.prog Rows.mergeIsSemilatticeRow.named Rows.mergeIsSemilatticeSpec.vars) = true := by kernel_rfl
theorem mergeIsSemilattice_k5 : ((Rows.mergeIsSemilatticeRow.stops == [])) = true := by kernel_rfl
theorem mergeIsSemilattice_k6 : ((Tryz.prog.stops == [])) = true := by kernel_rfl
theorem mergeIsSemilattice_k7 : ((Rows.mergeIsSemilatticeRow.knobs == [])) = true := by kernel_rfl
theorem mergeIsSemilattice_k8 : ((Tryz.prog.stopKnobs == [])) = true := by kernel_rfl
theorem mergeIsSemilattice_k9 : ((Rows.mergeIsSemilatticeRow.inPlace == Tryz.prog.inPlace 11)) = true := by kernel_rfl
theorem mergeIsSemilattice_k10 : ((Rows.mergeIsSemilatticeRow.unfollowed == Tryz.prog.unfollowed 11)) = true := by kernel_rfl
theorem mergeIsSemilattice_k11 : ((Rows.mergeIsSemilatticeRow.recurses == Tryz.prog.recurses 11)) = true := by kernel_rfl
theorem mergeIsSemilattice_k12 : ((Rows.mergeIsSemilatticeRow.named == Tryz.prog.varsNamed 11)) = true := by kernel_rfl
theorem mergeIsSemilattice_k13 : ((Rows.mergeIsSemilatticeRow.maps == (Tryz.f11.params.toList ++ Rows.mergeIsSemilatticeSpec.plain.varTypes Tryz.prog).any (Tryz.prog.mapsRec ·))) = true := by kernel_rfl
theorem mergeIsSemilattice_k14 : ((Rows.mergeIsSemilatticeRow.ifaces == (Tryz.f11.params.toList ++ Rows.mergeIsSemilatticeSpec.plain.varTypes Tryz.prog).any (Tryz.prog.ifacesRec ·))) = true := by kernel_rfl
theorem mergeIsSemilattice_k15 : ((Rows.mergeIsSemilatticeRow.mapsOut == Tryz.prog.mapsAmong Tryz.f11.resultTypes.toList)) = true := by kernel_rfl
theorem mergeIsSemilattice_k16 : ((Rows.mergeIsSemilatticeRow.loops == (Tryz.f11.params.toList ++ Rows.mergeIsSemilatticeSpec.plain.varTypes Tryz.prog).any (Tryz.prog.loopsFrom ·))) = true := by kernel_rfl
theorem mergeIsSemilattice_k17 : ((Rows.mergeIsSemilatticeRow.wideKeys == (Tryz.f11.params.toList ++ Rows.mergeIsSemilatticeSpec.plain.varTypes Tryz.prog ++ Tryz.f11.resultTypes.toList).any (Tryz.prog.wideKeysFrom ·))) = true := by kernel_rfl
theorem mergeIsSemilattice_k18 : (Rows.mergeIsSemilatticeSpec.vars.all (Tryz.prog.varReadable ·)) = true := by kernel_rfl
theorem mergeIsSemilattice_k19 : (Tryz.f11.resultTypes.all (fun t => Tryz.prog.readableRec t && decide (t < Tryz.prog.types.size))) = true := by kernel_rfl
theorem mergeIsSemilattice_k20 : ((Rows.mergeIsSemilatticeRow.ifacesOut == Tryz.f11.resultTypes.toList.any (Tryz.prog.ifacesRec ·))) = true := by kernel_rfl
theorem mergeIsSemilattice_k21 : ((Rows.mergeIsSemilatticeRow.loopsOut == Tryz.f11.resultTypes.toList.any (Tryz.prog.loopsFrom ·))) = true := by kernel_rfl
theorem mergeIsSemilattice_k22 : ((Rows.mergeIsSemilatticeRow.plainKeys == Tryz.prog.plainKeys)) = true := by kernel_rfl
theorem mergeIsSemilattice_k23 : (Rows.mergeIsSemilatticeRow.shortTexts.isNone) = true := by kernel_rfl
theorem mergeIsSemilattice_k24 : (Tryz.prog.stopsHeard) = true := by kernel_rfl
theorem mergeIsSemilattice_k25 : (Tryz.prog.mayEnter) = true := by kernel_rfl
theorem mergeIsSemilattice_k26 : ((Rows.mergeIsSemilatticeRow.lifted == Tryz.prog.liftsFinal)) = true := by kernel_rfl
theorem mergeIsSemilattice_k27 : ((Tryz.prog.make == some Rows.mergeIsSemilatticeRow.make)) = true := by kernel_rfl
theorem mergeIsSemilattice_k28 : ((Rows.mergeIsSemilatticeRow.kinds == (if Rows.mergeIsSemilatticeRow.domain.isEmpty then [] else Tryz.f11.params.toList.map fun t => match Tryz.prog.underlying t with | some (.int k) => some k | _ => none))) = true := by kernel_rfl
theorem mergeIsSemilattice_k29 : ((Rows.mergeIsSemilatticeRow.pinned == Rows.mergeIsSemilatticeRow.pinnedBy)) = true := by kernel_rfl
theorem mergeIsSemilattice_k30 : ((Rows.mergeIsSemilatticeRow.veiled == (Tryz.f11.params.toList ++ Rows.mergeIsSemilatticeSpec.plain.varTypes Tryz.prog ++ Tryz.f11.resultTypes.toList).any (Tryz.prog.veiledRec ·))) = true := by kernel_rfl
theorem mergeIsSemilattice_k31 : (Rows.mergeIsSemilatticeRow.veiledFits Tryz.prog Tryz.f11.params.toList (Tryz.f11.params.toList ++ Rows.mergeIsSemilatticeSpec.plain.varTypes Tryz.prog ++ Tryz.f11.resultTypes.toList)) = true := by kernel_rfl
end Go.Proofs.YtgecijhgonfldaaGreatDoor
