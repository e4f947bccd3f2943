/- Parts of the proof: contracts and plain laws. -/
import Derived.Test.YtnlafkgkcnenfaaGreatDoorU40
import Derived.Test.YtnlafkgkcnenfaaGreatDoorU41
import Derived.Test.YtnlafkgkcnenfaaGreatDoorU42
namespace Go.Proofs.YtnlafkgkcnenfaaGreatDoor
open Go Go.ChangeShapes Go.WideShapes Go.ChangeAt Go.RowKit _root_.Go.Proofs.Tryz
set_option linter.unusedVariables false
set_option linter.unusedSimpArgs false
set_option maxRecDepth 100000
set_option maxHeartbeats 16000000
theorem Zp4 {a b:Bool} (h:a=true) (k:b=true):(a && b)=true:=by rw[h,k];rfl
theorem ZsT:joinedFacts prog 6 f6 Rows.opmlEncodeMatchesReferenceSpec Rows.opmlEncodeMatchesReferenceRow=true:=by
 unfold joinedFacts;exact Zp4 (Zp4 (Zp4 (Zp4 (Zp4 (Zp4 (Zp4 (Zp4 (Zp4 (Zp4 (Zp4 (Zp4 (Zp4 (Zp4 (Zp4 (Zp4 (Zp4 (Zp4 (Zp4 (Zp4 (Zp4 (Zp4 (Zp4 (Zp4 (Zp4 (Zp4 (Zp4 (Zp4 (Zp4 (Zp4 (Zp4 ZqE ZqF) ZqG) ZqH) ZqI) ZqJ) ZqK) ZqL) ZqM) ZqN) Zqh) Zqi) Zqj) Zqk) Zql) Zqm) Zqn) Zqo) Zqp) Zqq) Zqr) Zqs) Zqt) Zqu) Zqv) Zqw) Zqx) Zqy) Zqz) ZqA) ZqB) ZqC
theorem ZsU:Rows.OpmlEncodeMatchesReferenceSaid:=
 OpenClaim.holds_of_wide 6 f6 rfl rfl rfl rfl rfl rfl rfl ⟨rfl,rfl,rfl,rfl,rfl⟩ rfl rfl rfl rfl rfl ZrU func6 ZsT
  Ztk Ztm
  (λos h H enc _=>Zui os h H enc)
theorem opmlEncodeMatchesReference_holds:Rows.OpmlEncodeMatchesReferenceCardSaid:=
 Claim7.holds_tied_plain_at .later [] [.data, .data, .data, .data, .data, .data, .data, .pinned] true (true, "fc646f4ec087820d56142a8d3af391f2978304ac98ac4e0c4d0ed1d31e8fe297") false ZsU (fun _ h => by cases h) Zug (fun _ h => by cases h) opmlEncodeMatchesReference_row_tie rfl ⟨rfl, rfl⟩ Ztl rfl
  (λf fn hf hfn=>by
   obtain rfl:f=6:=YX (ZrU.symm.trans hf)|>.symm
   obtain rfl:fn=f6:=(YX (func6.symm.trans hfn)).symm
   exact ⟨ZsV,λj t ht=>by
    rw[params6] at ht
    have hm:t∈ [31]:=(by simpa using Array.mem_of_getElem? ht)
    exact (show prog.wantsStandIn t=false by simpa using Z6.1 Zsh t hm)⟩)
  Ztj
#print axioms opmlEncodeMatchesReference_holds
end Go.Proofs.YtnlafkgkcnenfaaGreatDoor
