/- The closed facts of law 12's row, one by one. -/
import Derived.Test.YtgecijhgonfldaaGreatDoorRows
import Derived.JoinedOf
import Derived.KernelRfl
namespace Go.Proofs.YtgecijhgonfldaaGreatDoor
open Go
theorem mergeOrder_k0 : (Rows.mergeOrderRow.wf (OpenSpec.ofChange Rows.mergeOrderSpec)) = true := by kernel_rfl
theorem mergeOrder_k1 : (laidOutB Tryz.prog) = true := by kernel_rfl
theorem mergeOrder_k2 : (mapsRowed Tryz.prog) = true := by kernel_rfl
theorem mergeOrder_k3 : (Tryz.f14.params.all (Tryz.prog.readableRec ·)) = true := by kernel_rfl
theorem mergeOrder_k4 : (namedTie Tryz.prog Rows.mergeOrderRow.named Rows.mergeOrderSpec.vars) = true := by kernel_rfl
theorem mergeOrder_k5 : ((Rows.mergeOrderRow.stops == [])) = true := by kernel_rfl
theorem mergeOrder_k6 : ((Tryz.prog.stops == [])) = true := by kernel_rfl
theorem mergeOrder_k7 : ((Rows.mergeOrderRow.knobs == [])) = true := by kernel_rfl
theorem mergeOrder_k8 : ((Tryz.prog.stopKnobs == [])) = true := by kernel_rfl
theorem mergeOrder_k9 : ((Rows.mergeOrderRow.inPlace == Tryz.prog.inPlace 14)) = true := by kernel_rfl
theorem mergeOrder_k10 : ((Rows.mergeOrderRow.unfollowed == Tryz.prog.unfollowed 14)) = true := by kernel_rfl
theorem mergeOrder_k11 : ((Rows.mergeOrderRow.recurses == Tryz.prog.recurses 14)) = true := by kernel_rfl
theorem mergeOrder_k12 : ((Rows.mergeOrderRow.named == Tryz.prog.varsNamed 14)) = true := by kernel_rfl
theorem mergeOrder_k13 : ((Rows.mergeOrderRow.maps == (Tryz.f14.params.toList ++ Rows.mergeOrderSpec.plain.varTypes Tryz.prog).any (Tryz.prog.mapsRec ·))) = true := by kernel_rfl
theorem mergeOrder_k14 : ((Rows.mergeOrderRow.ifaces == (Tryz.f14.params.toList ++ Rows.mergeOrderSpec.plain.varTypes Tryz.prog).any (Tryz.prog.ifacesRec ·))) = true := by kernel_rfl
theorem mergeOrder_k15 : ((Rows.mergeOrderRow.mapsOut == Tryz.prog.mapsAmong Tryz.f14.resultTypes.toList)) = true := by kernel_rfl
theorem mergeOrder_k16 : ((Rows.mergeOrderRow.loops == (Tryz.f14.params.toList ++ Rows.mergeOrderSpec.plain.varTypes Tryz.prog).any (Tryz.prog.loopsFrom ·))) = true := by kernel_rfl
theorem mergeOrder_k17 : ((Rows.mergeOrderRow.wideKeys == (Tryz.f14.params.toList ++ Rows.mergeOrderSpec.plain.varTypes Tryz.prog ++ Tryz.f14.resultTypes.toList).any (Tryz.prog.wideKeysFrom ·))) = true := by kernel_rfl
theorem mergeOrder_k18 : (Rows.mergeOrderSpec.vars.all (Tryz.prog.varReadable ·)) = true := by kernel_rfl
theorem mergeOrder_k19 : (Tryz.f14.resultTypes.all (fun t => Tryz.prog.readableRec t && decide (t < Tryz.prog.types.size))) = true := by kernel_rfl
theorem mergeOrder_k20 : ((Rows.mergeOrderRow.ifacesOut == Tryz.f14.resultTypes.toList.any (Tryz.prog.ifacesRec ·))) = true := by kernel_rfl
theorem mergeOrder_k21 : ((Rows.mergeOrderRow.loopsOut == Tryz.f14.resultTypes.toList.any (Tryz.prog.loopsFrom ·))) = true := by kernel_rfl
theorem mergeOrder_k22 : ((Rows.mergeOrderRow.plainKeys == Tryz.prog.plainKeys)) = true := by kernel_rfl
theorem mergeOrder_k23 : (Rows.mergeOrderRow.shortTexts.isNone) = true := by kernel_rfl
theorem mergeOrder_k24 : (Tryz.prog.stopsHeard) = true := by kernel_rfl
theorem mergeOrder_k25 : (Tryz.prog.mayEnter) = true := by kernel_rfl
theorem mergeOrder_k26 : ((Rows.mergeOrderRow.lifted == Tryz.prog.liftsFinal)) = true := by kernel_rfl
theorem mergeOrder_k27 : ((Tryz.prog.make == some Rows.mergeOrderRow.make)) = true := by kernel_rfl
theorem mergeOrder_k28 : ((Rows.mergeOrderRow.kinds == (if Rows.mergeOrderRow.domain.isEmpty then [] else Tryz.f14.params.toList.map fun t => match Tryz.prog.underlying t with | some (.int k) => some k | _ => none))) = true := by kernel_rfl
theorem mergeOrder_k29 : ((Rows.mergeOrderRow.pinned == Rows.mergeOrderRow.pinnedBy)) = true := by kernel_rfl
theorem mergeOrder_k30 : ((Rows.mergeOrderRow.veiled == (Tryz.f14.params.toList ++ Rows.mergeOrderSpec.plain.varTypes Tryz.prog ++ Tryz.f14.resultTypes.toList).any (Tryz.prog.veiledRec ·))) = true := by kernel_rfl
theorem mergeOrder_k31 : (Rows.mergeOrderRow.veiledFits Tryz.prog Tryz.f14.params.toList (Tryz.f14.params.toList ++ Rows.mergeOrderSpec.plain.varTypes Tryz.prog ++ Tryz.f14.resultTypes.toList)) = true := by kernel_rfl
end Go.Proofs.YtgecijhgonfldaaGreatDoor
