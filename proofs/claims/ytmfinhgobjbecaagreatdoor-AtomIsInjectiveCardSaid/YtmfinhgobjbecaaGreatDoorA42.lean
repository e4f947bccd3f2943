/- Parts of the proof: contracts and plain laws. -/
import Derived.Test.YtmfinhgobjbecaaGreatDoorTie
import Derived.Test.YtmfinhgobjbecaaGreatDoorA39
import Derived.Test.YtmfinhgobjbecaaGreatDoorA40
import Derived.Test.YtmfinhgobjbecaaGreatDoorA41
namespace Go.Proofs.YtmfinhgobjbecaaGreatDoor
open Go Go.ChangeShapes Go.WideShapes Go.ChangeAt Go.RowKit _root_.Go.Proofs.Tryz
set_option linter.unusedVariables false
set_option linter.unusedSimpArgs false
set_option maxRecDepth 100000
set_option maxHeartbeats 16000000
theorem ZL {a b:Bool} (h:a=true) (k:b=true):(a && b)=true:=by rw[h,k];rfl
theorem ZgQ:joinedFacts prog 6 f6 Rows.atomIsInjectiveSpec Rows.atomIsInjectiveRow=true:=by
 unfold joinedFacts;exact ZL (ZL (ZL (ZL (ZL (ZL (ZL (ZL (ZL (ZL (ZL (ZL (ZL (ZL (ZL (ZL (ZL (ZL (ZL (ZL (ZL (ZL (ZL (ZL (ZL (ZL (ZL (ZL (ZL (ZL (ZL G1 G2) G3) G4) G5) G6) G7) G8) G9) Ka) Gk) Gl) Gm) Gn) Gp) Gq) Gr) Gs) Gt) Gu) Gv) Gw) Gx) Gy) Gz) GA) GB) GC) GD) GE) GF) GG
theorem ZgR:Rows.AtomIsInjectiveSaid:=
 OpenClaim.holds_of_wide 6 f6 rfl rfl rfl rfl rfl rfl rfl ⟨rfl,rfl,rfl,rfl,rfl⟩ rfl rfl rfl rfl rfl ZaV func6 ZgQ
  ZiZ Zi1
  (λos h H enc _=>Znv os h H enc)
theorem atomIsInjective_holds:Rows.AtomIsInjectiveCardSaid:=
 Claim7.holds_tied_plain_at .later [] [.data, .data, .data, .data, .data, .data, .data, .pinned] true (true, "e07cf758d904cbc08ea01038dd117f5c210028e8b9bc04136c4d77d77a62be97") false ZgR (fun _ h => by cases h) Znq (fun _ h => by cases h) atomIsInjective_row_tie rfl ⟨rfl, rfl⟩ Zi0 rfl
  (λf fn hf hfn=>by
   obtain rfl:f=6:=ZrI (ZaV.symm.trans hf)|>.symm
   obtain rfl:fn=f6:=(ZrI (func6.symm.trans hfn)).symm
   exact ⟨ZgS,λj t ht=>by
    rw[params6] at ht
    have hm:t∈ [32,32]:=(by simpa using Array.mem_of_getElem? ht)
    exact (show prog.wantsStandIn t=false by simpa using Zrm.1 Zdt t hm)⟩)
  ZiY
#print axioms atomIsInjective_holds
end Go.Proofs.YtmfinhgobjbecaaGreatDoor
