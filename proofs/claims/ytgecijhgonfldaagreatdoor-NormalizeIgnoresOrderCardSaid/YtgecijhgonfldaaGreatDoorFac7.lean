/- The closed facts of law 7's row, one by one. -/
import Derived.Test.YtgecijhgonfldaaGreatDoorRows
import Derived.JoinedOf
import Derived.KernelRfl
namespace Go.Proofs.YtgecijhgonfldaaGreatDoor
open Go
theorem normalizeIgnoresOrder_k0 : (Rows.normalizeIgnoresOrderRow.wf (OpenSpec.ofChange Rows.normalizeIgnoresOrderSpec)) = true := by kernel_rfl
theorem normalizeIgnoresOrder_k1 : (laidOutB Tryz.prog) = true := by kernel_rfl
theorem normalizeIgnoresOrder_k2 : (mapsRowed Tryz.prog) = true := by kernel_rfl
theorem normalizeIgnoresOrder_k3 : (Tryz.f9.params.all (Tryz.prog.readableRec ·)) = true := by kernel_rfl
theorem normalizeIgnoresOrder_k4 : (namedTie Tryz.prog Rows.normalizeIgnoresOrderRow.named Rows.normalizeIgnoresOrderSpec.vars) = true := by kernel_rfl
theorem normalizeIgnoresOrder_k5 : ((Rows.normalizeIgnoresOrderRow.stops == [])) = true := by kernel_rfl
theorem normalizeIgnoresOrder_k6 : ((Tryz.prog.stops == [])) = true := by kernel_rfl
theorem normalizeIgnoresOrder_k7 : ((Rows.normalizeIgnoresOrderRow.knobs == [])) = true := by kernel_rfl
theorem normalizeIgnoresOrder_k8 : ((Tryz.prog.stopKnobs == [])) = true := by kernel_rfl
theorem normalizeIgnoresOrder_k9 : ((Rows.normalizeIgnoresOrderRow.inPlace == Tryz.prog.inPlace 9)) = true := by kernel_rfl
theorem normalizeIgnoresOrder_k10 : ((Rows.normalizeIgnoresOrderRow.unfollowed == Tryz.prog.unfollowed 9)) = true := by kernel_rfl
theorem normalizeIgnoresOrder_k11 : ((Rows.normalizeIgnoresOrderRow.recurses == Tryz.prog.recurses 9)) = true := by kernel_rfl
theorem normalizeIgnoresOrder_k12 : ((Rows.normalizeIgnoresOrderRow.named == Tryz.prog.varsNamed 9)) = true := by kernel_rfl
theorem normalizeIgnoresOrder_k13 : ((Rows.normalizeIgnoresOrderRow.maps == (Tryz.f9.params.toList ++ Rows.normalizeIgnoresOrderSpec.plain.varTypes Tryz.prog).any (Tryz.prog.mapsRec ·))) = true := by kernel_rfl
theorem normalizeIgnoresOrder_k14 : ((Rows.normalizeIgnoresOrderRow.ifaces == (Tryz.f9.params.toList ++ Rows.normalizeIgnoresOrderSpec.plain.varTypes Tryz.prog).any (Tryz.prog.ifacesRec ·))) = true := by kernel_rfl
theorem normalizeIgnoresOrder_k15 : ((Rows.normalizeIgnoresOrderRow.mapsOut == Tryz.prog.mapsAmong Tryz.f9.resultTypes.toList)) = true := by kernel_rfl
theorem normalizeIgnoresOrder_k16 : ((Rows.normalizeIgnoresOrderRow.loops == (Tryz.f9.params.toList ++ Rows.normalizeIgnoresOrderSpec.plain.varTypes Tryz.prog).any (Tryz.prog.loopsFrom ·))) = true := by kernel_rfl
theorem normalizeIgnoresOrder_k17 : ((Rows.normalizeIgnoresOrderRow.wideKeys == (Tryz.f9.params.toList ++ Rows.normalizeIgnoresOrderSpec.plain.varTypes Tryz.prog ++ Tryz.f9.resultTypes.toList).any (Tryz.prog.wideKeysFrom ·))) = true := by kernel_rfl
theorem normalizeIgnoresOrder_k18 : (Rows.normalizeIgnoresOrderSpec.vars.all (Tryz.prog.varReadable ·)) = true := by kernel_rfl
theorem normalizeIgnoresOrder_k19 : (Tryz.f9.resultTypes.all (fun t => Tryz.prog.readableRec t && decide (t < Tryz.prog.types.size))) = true := by kernel_rfl
theorem normalizeIgnoresOrder_k20 : ((Rows.normalizeIgnoresOrderRow.ifacesOut == Tryz.f9.resultTypes.toList.any (Tryz.prog.ifacesRec ·))) = true := by kernel_rfl
theorem normalizeIgnoresOrder_k21 : ((Rows.normalizeIgnoresOrderRow.loopsOut == Tryz.f9.resultTypes.toList.any (Tryz.prog.loopsFrom ·))) = true := by kernel_rfl
theorem normalizeIgnoresOrder_k22 : ((Rows.normalizeIgnoresOrderRow.plainKeys == Tryz.prog.plainKeys)) = true := by kernel_rfl
theorem normalizeIgnoresOrder_k23 : (Rows.normalizeIgnoresOrderRow.shortTexts.isNone) = true := by kernel_rfl
theorem normalizeIgnoresOrder_k24 : (Tryz.prog.stopsHeard) = true := by kernel_rfl
theorem normalizeIgnoresOrder_k25 : (Tryz.prog.mayEnter) = true := by kernel_rfl
theorem normalizeIgnoresOrder_k26 : ((Rows.normalizeIgnoresOrderRow.lifted == Tryz.prog.liftsFinal)) = true := by kernel_rfl
theorem normalizeIgnoresOrder_k27 : ((Tryz.prog.make == some Rows.normalizeIgnoresOrderRow.make)) = true := by kernel_rfl
theorem normalizeIgnoresOrder_k28 : ((Rows.normalizeIgnoresOrderRow.kinds == (if Rows.normalizeIgnoresOrderRow.domain.isEmpty then [] else Tryz.f9.params.toList.map fun t => match Tryz.prog.underlying t with | some (.int k) => some k | _ => none))) = true := by kernel_rfl
theorem normalizeIgnoresOrder_k29 : ((Rows.normalizeIgnoresOrderRow.pinned == Rows.normalizeIgnoresOrderRow.pinnedBy)) = true := by kernel_rfl
theorem normalizeIgnoresOrder_k30 : ((Rows.normalizeIgnoresOrderRow.veiled == (Tryz.f9.params.toList ++ Rows.normalizeIgnoresOrderSpec.plain.varTypes Tryz.prog ++ Tryz.f9.resultTypes.toList).any (Tryz.prog.veiledRec ·))) = true := by kernel_rfl
theorem normalizeIgnoresOrder_k31 : (Rows.normalizeIgnoresOrderRow.veiledFits Tryz.prog Tryz.f9.params.toList (Tryz.f9.params.toList ++ Rows.normalizeIgnoresOrderSpec.plain.varTypes Tryz.prog ++ Tryz.f9.resultTypes.toList)) = true := by kernel_rfl
end Go.Proofs.YtgecijhgonfldaaGreatDoor
