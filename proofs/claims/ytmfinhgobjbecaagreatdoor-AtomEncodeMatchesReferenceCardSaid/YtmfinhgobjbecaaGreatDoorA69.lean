/- Parts of the proof: contracts and plain laws. -/
import Derived.Test.YtmfinhgobjbecaaGreatDoorTie
import Derived.Test.YtmfinhgobjbecaaGreatDoorA66
import Derived.Test.YtmfinhgobjbecaaGreatDoorA67
import Derived.Test.YtmfinhgobjbecaaGreatDoorA68
namespace Go.Proofs.YtmfinhgobjbecaaGreatDoor
open Go Go.ChangeShapes Go.WideShapes Go.ChangeAt Go.RowKit _root_.Go.Proofs.Tryz
set_option linter.unusedVariables false
set_option linter.unusedSimpArgs false
set_option maxRecDepth 100000
set_option maxHeartbeats 16000000
theorem ZuU {a b:Bool} (h:a=true) (k:b=true):(a && b)=true:=by rw[h,k];rfl
theorem Zv2:joinedFacts prog 4 f4 Rows.atomEncodeMatchesReferenceSpec Rows.atomEncodeMatchesReferenceRow=true:=by
 unfold joinedFacts;exact ZuU (ZuU (ZuU (ZuU (ZuU (ZuU (ZuU (ZuU (ZuU (ZuU (ZuU (ZuU (ZuU (ZuU (ZuU (ZuU (ZuU (ZuU (ZuU (ZuU (ZuU (ZuU (ZuU (ZuU (ZuU (ZuU (ZuU (ZuU (ZuU (ZuU (ZuU Zvj Zvk) Zvl) Zvm) Zvn) Zvo) Zvp) Zvq) Zvr) Zvs) ZuW) ZuX) ZuY) ZuZ) Zu0) Zu1) Zu2) Zu3) Zu4) Zu5) Zu6) Zu7) Zu8) Zu9) Zva) Zvb) Zvc) Zvd) Zve) Zvf) Zvg) Zvh
theorem Zv3:Rows.AtomEncodeMatchesReferenceSaid:=
 OpenClaim.holds_of_wide 4 f4 rfl rfl rfl rfl rfl rfl rfl ⟨rfl,rfl,rfl,rfl,rfl⟩ rfl rfl rfl rfl rfl ZvJ func4 Zv2
  Zwc Zwe
  (λos h H enc _=>Zww os h H enc)
theorem atomEncodeMatchesReference_holds:Rows.AtomEncodeMatchesReferenceCardSaid:=
 Claim7.holds_tied_plain_at .later [] [.data, .data, .data, .data, .data, .data, .data, .pinned] true (true, "e07cf758d904cbc08ea01038dd117f5c210028e8b9bc04136c4d77d77a62be97") false Zv3 (fun _ h => by cases h) Zwv (fun _ h => by cases h) atomEncodeMatchesReference_row_tie rfl ⟨rfl, rfl⟩ Zwd rfl
  (λf fn hf hfn=>by
   obtain rfl:f=4:=ZrI (ZvJ.symm.trans hf)|>.symm
   obtain rfl:fn=f4:=(ZrI (func4.symm.trans hfn)).symm
   exact ⟨Zv4,λj t ht=>by
    rw[params4] at ht
    have hm:t∈ [32]:=(by simpa using Array.mem_of_getElem? ht)
    exact (show prog.wantsStandIn t=false by simpa using Zrm.1 ZvR t hm)⟩)
  Zwb
#print axioms atomEncodeMatchesReference_holds
end Go.Proofs.YtmfinhgobjbecaaGreatDoor
