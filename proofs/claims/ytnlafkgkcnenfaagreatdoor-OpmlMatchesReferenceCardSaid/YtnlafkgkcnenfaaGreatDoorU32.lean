/- Parts of the proof: contracts and plain laws. -/
import Derived.Test.YtnlafkgkcnenfaaGreatDoorU29
import Derived.Test.YtnlafkgkcnenfaaGreatDoorU30
import Derived.Test.YtnlafkgkcnenfaaGreatDoorU31
namespace Go.Proofs.YtnlafkgkcnenfaaGreatDoor
open Go Go.ChangeShapes Go.WideShapes Go.ChangeAt Go.RowKit _root_.Go.Proofs.Tryz
set_option linter.unusedVariables false
set_option linter.unusedSimpArgs false
set_option maxRecDepth 100000
set_option maxHeartbeats 16000000
theorem Zp3 {a b:Bool} (h:a=true) (k:b=true):(a && b)=true:=by rw[h,k];rfl
theorem ZsQ:joinedFacts prog 3 f3 Rows.opmlMatchesReferenceSpec Rows.opmlMatchesReferenceRow=true:=by
 unfold joinedFacts;exact Zp3 (Zp3 (Zp3 (Zp3 (Zp3 (Zp3 (Zp3 (Zp3 (Zp3 (Zp3 (Zp3 (Zp3 (Zp3 (Zp3 (Zp3 (Zp3 (Zp3 (Zp3 (Zp3 (Zp3 (Zp3 (Zp3 (Zp3 (Zp3 (Zp3 (Zp3 (Zp3 (Zp3 (Zp3 (Zp3 (Zp3 Zrg Zrh) Zri) Zrj) Zrk) Zrl) Zrm) Zrn) Zro) Zrp) ZqT) ZqU) ZqV) ZqW) ZqX) ZqY) ZqZ) Zq0) Zq1) Zq2) Zq3) Zq4) Zq5) Zq6) Zq7) Zq8) Zq9) Zra) Zrb) Zrc) Zrd) Zre
theorem ZsR:Rows.OpmlMatchesReferenceSaid:=
 OpenClaim.holds_of_wide 3 f3 rfl rfl rfl rfl rfl rfl rfl ⟨rfl,rfl,rfl,rfl,rfl⟩ rfl rfl rfl rfl rfl ZrT func3 ZsQ
  Ztg Zti
  (λos h H enc _=>Zuh os h H enc)
theorem opmlMatchesReference_holds:Rows.OpmlMatchesReferenceCardSaid:=
 Claim7.holds_tied_plain_at .later [] [.data, .data, .data, .data, .data, .data, .data, .pinned] true (true, "fc646f4ec087820d56142a8d3af391f2978304ac98ac4e0c4d0ed1d31e8fe297") false ZsR (fun _ h => by cases h) Zuf (fun _ h => by cases h) opmlMatchesReference_row_tie rfl ⟨rfl, rfl⟩ Zth rfl
  (λf fn hf hfn=>by
   obtain rfl:f=3:=YX (ZrT.symm.trans hf)|>.symm
   obtain rfl:fn=f3:=(YX (func3.symm.trans hfn)).symm
   exact ⟨ZsS,λj t ht=>by
    rw[params3] at ht
    have hm:t∈ [9]:=(by simpa using Array.mem_of_getElem? ht)
    exact (show prog.wantsStandIn t=false by simpa using Z6.1 Zsg t hm)⟩)
  Ztf
#print axioms opmlMatchesReference_holds
end Go.Proofs.YtnlafkgkcnenfaaGreatDoor
