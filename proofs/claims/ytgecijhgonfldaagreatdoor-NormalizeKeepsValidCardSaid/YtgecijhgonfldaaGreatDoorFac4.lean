/- The closed facts of law 4's row, one by one. -/
import Derived.Test.YtgecijhgonfldaaGreatDoorRows
import Derived.JoinedOf
import Derived.KernelRfl
namespace Go.Proofs.YtgecijhgonfldaaGreatDoor
open Go
theorem normalizeKeepsValid_k0 : (Rows.normalizeKeepsValidRow.wf (OpenSpec.ofChange Rows.normalizeKeepsValidSpec)) = true := by kernel_rfl
theorem normalizeKeepsValid_k1 : (laidOutB Tryz.prog) = true := by kernel_rfl
theorem normalizeKeepsValid_k2 : (mapsRowed Tryz.prog) = true := by kernel_rfl
theorem normalizeKeepsValid_k3 : (Tryz.f6.params.all (Tryz.prog.readableRec ·)) = true := by kernel_rfl
theorem normalizeKeepsValid_k4 : (namedTie Tryz.prog Rows.normalizeKeepsValidRow.named Rows.normalizeKeepsValidSpec.vars) = true := by kernel_rfl
theorem normalizeKeepsValid_k5 : ((Rows.normalizeKeepsValidRow.stops == [])) = true := by kernel_rfl
theorem normalizeKeepsValid_k6 : ((Tryz.prog.stops == [])) = true := by kernel_rfl
theorem normalizeKeepsValid_k7 : ((Rows.normalizeKeepsValidRow.knobs == [])) = true := by kernel_rfl
theorem normalizeKeepsValid_k8 : ((Tryz.prog.stopKnobs == [])) = true := by kernel_rfl
theorem normalizeKeepsValid_k9 : ((Rows.normalizeKeepsValidRow.inPlace == Tryz.prog.inPlace 6)) = true := by kernel_rfl
theorem normalizeKeepsValid_k10 : ((Rows.normalizeKeepsValidRow.unfollowed == Tryz.prog.unfollowed 6)) = true := by kernel_rfl
theorem normalizeKeepsValid_k11 : ((Rows.normalizeKeepsValidRow.recurses == Tryz.prog.recurses 6)) = true := by kernel_rfl
theorem normalizeKeepsValid_k12 : ((Rows.normalizeKeepsValidRow.named == Tryz.prog.varsNamed 6)) = true := by kernel_rfl
theorem normalizeKeepsValid_k13 : ((Rows.normalizeKeepsValidRow.maps == (Tryz.f6.params.toList ++ Rows.normalizeKeepsValidSpec.plain.varTypes Tryz.prog).any (Tryz.prog.mapsRec ·))) = true := by kernel_rfl
theorem normalizeKeepsValid_k14 : ((Rows.normalizeKeepsValidRow.ifaces == (Tryz.f6.params.toList ++ Rows.normalizeKeepsValidSpec.plain.varTypes Tryz.prog).any (Tryz.prog.ifacesRec ·))) = true := by kernel_rfl
theorem normalizeKeepsValid_k15 : ((Rows.normalizeKeepsValidRow.mapsOut == Tryz.prog.mapsAmong Tryz.f6.resultTypes.toList)) = true := by kernel_rfl
theorem normalizeKeepsValid_k16 : ((Rows.normalizeKeepsValidRow.loops == (Tryz.f6.params.toList ++ Rows.normalizeKeepsValidSpec.plain.varTypes Tryz.prog).any (Tryz.prog.loopsFrom ·))) = true := by kernel_rfl
theorem normalizeKeepsValid_k17 : ((Rows.normalizeKeepsValidRow.wideKeys == (Tryz.f6.params.toList ++ Rows.normalizeKeepsValidSpec.plain.varTypes Tryz.prog ++ Tryz.f6.resultTypes.toList).any (Tryz.prog.wideKeysFrom ·))) = true := by kernel_rfl
theorem normalizeKeepsValid_k18 : (Rows.normalizeKeepsValidSpec.vars.all (Tryz.prog.varReadable ·)) = true := by kernel_rfl
theorem normalizeKeepsValid_k19 : (Tryz.f6.resultTypes.all (fun t => Tryz.prog.readableRec t && decide (t < Tryz.prog.types.size))) = true := by kernel_rfl
theorem normalizeKeepsValid_k20 : ((Rows.normalizeKeepsValidRow.ifacesOut == Tryz.f6.resultTypes.toList.any (Tryz.prog.ifacesRec ·))) = true := by kernel_rfl
theorem normalizeKeepsValid_k21 : ((Rows.normalizeKeepsValidRow.loopsOut == Tryz.f6.resultTypes.toList.any (Tryz.prog.loopsFrom ·))) = true := by kernel_rfl
theorem normalizeKeepsValid_k22 : ((Rows.normalizeKeepsValidRow.plainKeys == Tryz.prog.plainKeys)) = true := by kernel_rfl
theorem normalizeKeepsValid_k23 : (Rows.normalizeKeepsValidRow.shortTexts.isNone) = true := by kernel_rfl
theorem normalizeKeepsValid_k24 : (Tryz.prog.stopsHeard) = true := by kernel_rfl
theorem normalizeKeepsValid_k25 : (Tryz.prog.mayEnter) = true := by kernel_rfl
theorem normalizeKeepsValid_k26 : ((Rows.normalizeKeepsValidRow.lifted == Tryz.prog.liftsFinal)) = true := by kernel_rfl
theorem normalizeKeepsValid_k27 : ((Tryz.prog.make == some Rows.normalizeKeepsValidRow.make)) = true := by kernel_rfl
theorem normalizeKeepsValid_k28 : ((Rows.normalizeKeepsValidRow.kinds == (if Rows.normalizeKeepsValidRow.domain.isEmpty then [] else Tryz.f6.params.toList.map fun t => match Tryz.prog.underlying t with | some (.int k) => some k | _ => none))) = true := by kernel_rfl
theorem normalizeKeepsValid_k29 : ((Rows.normalizeKeepsValidRow.pinned == Rows.normalizeKeepsValidRow.pinnedBy)) = true := by kernel_rfl
theorem normalizeKeepsValid_k30 : ((Rows.normalizeKeepsValidRow.veiled == (Tryz.f6.params.toList ++ Rows.normalizeKeepsValidSpec.plain.varTypes Tryz.prog ++ Tryz.f6.resultTypes.toList).any (Tryz.prog.veiledRec ·))) = true := by kernel_rfl
theorem normalizeKeepsValid_k31 : (Rows.normalizeKeepsValidRow.veiledFits Tryz.prog Tryz.f6.params.toList (Tryz.f6.params.toList ++ Rows.normalizeKeepsValidSpec.plain.varTypes Tryz.prog ++ Tryz.f6.resultTypes.toList)) = true := by kernel_rfl
end Go.Proofs.YtgecijhgonfldaaGreatDoor
