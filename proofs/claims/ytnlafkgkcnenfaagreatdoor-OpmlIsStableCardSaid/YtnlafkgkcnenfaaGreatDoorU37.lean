/- Parts of the proof: contracts and plain laws. -/
import Derived.Test.YtnlafkgkcnenfaaGreatDoorU34
import Derived.Test.YtnlafkgkcnenfaaGreatDoorU35
import Derived.Test.YtnlafkgkcnenfaaGreatDoorU36
namespace Go.Proofs.YtnlafkgkcnenfaaGreatDoor
open Go Go.ChangeShapes Go.WideShapes Go.ChangeAt Go.RowKit _root_.Go.Proofs.Tryz
set_option linter.unusedVariables false
set_option linter.unusedSimpArgs false
set_option maxRecDepth 100000
set_option maxHeartbeats 16000000
theorem YY {a b:Bool} (h:a=true) (k:b=true):(a && b)=true:=by rw[h,k];rfl
theorem Zg2:joinedFacts prog 5 f5 Rows.opmlIsStableSpec Rows.opmlIsStableRow=true:=by
 unfold joinedFacts;exact YY (YY (YY (YY (YY (YY (YY (YY (YY (YY (YY (YY (YY (YY (YY (YY (YY (YY (YY (YY (YY (YY (YY (YY (YY (YY (YY (YY (YY (YY (YY Zbb Zbc) Zbd) Zbe) Zbf) Zbg) Zbh) Zbi) Zbj) Zbk) EO) EQ) ES) ET) EU) EV) EW) ZrN) EY) EZ) E0) E1) E3) E4) E5) E6) E7) E8) E9) Zaa) Zab) Zac
theorem Zg3:Rows.OpmlIsStableSaid:=
 OpenClaim.holds_of_wide 5 f5 rfl rfl rfl rfl rfl rfl rfl ⟨rfl,rfl,rfl,rfl,rfl⟩ rfl rfl rfl rfl rfl ZaQ func5 Zg2
  Zi0 Zi2
  (λos h H enc _=>Zm6 os h H enc)
theorem opmlIsStable_holds:Rows.OpmlIsStableCardSaid:=
 Claim7.holds_tied_plain_at .later [] [.data, .data, .data, .data, .data, .data, .data, .pinned] true (true, "fc646f4ec087820d56142a8d3af391f2978304ac98ac4e0c4d0ed1d31e8fe297") false Zg3 (fun _ h => by cases h) Zm3 (fun _ h => by cases h) opmlIsStable_row_tie rfl ⟨rfl, rfl⟩ Zi1 rfl
  (λf fn hf hfn=>by
   obtain rfl:f=5:=YX (ZaQ.symm.trans hf)|>.symm
   obtain rfl:fn=f5:=(YX (func5.symm.trans hfn)).symm
   exact ⟨Zg4,λj t ht=>by
    rw[params5] at ht
    have hm:t∈ [9]:=(by simpa using Array.mem_of_getElem? ht)
    exact (show prog.wantsStandIn t=false by simpa using Z6.1 Zdm t hm)⟩)
  ZiZ
#print axioms opmlIsStable_holds
end Go.Proofs.YtnlafkgkcnenfaaGreatDoor
