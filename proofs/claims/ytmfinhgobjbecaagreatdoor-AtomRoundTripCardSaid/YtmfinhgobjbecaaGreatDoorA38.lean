/- Parts of the proof: contracts and plain laws. -/
import Derived.Test.YtmfinhgobjbecaaGreatDoorTie
import Derived.Test.YtmfinhgobjbecaaGreatDoorA35
import Derived.Test.YtmfinhgobjbecaaGreatDoorA36
import Derived.Test.YtmfinhgobjbecaaGreatDoorA37
namespace Go.Proofs.YtmfinhgobjbecaaGreatDoor
open Go Go.ChangeShapes Go.WideShapes Go.ChangeAt Go.RowKit _root_.Go.Proofs.Tryz
set_option linter.unusedVariables false
set_option linter.unusedSimpArgs false
set_option maxRecDepth 100000
set_option maxHeartbeats 16000000
theorem ZK {a b:Bool} (h:a=true) (k:b=true):(a && b)=true:=by rw[h,k];rfl
theorem ZgN:joinedFacts prog 5 f5 Rows.atomRoundTripSpec Rows.atomRoundTripRow=true:=by
 unfold joinedFacts;exact ZK (ZK (ZK (ZK (ZK (ZK (ZK (ZK (ZK (ZK (ZK (ZK (ZK (ZK (ZK (ZK (ZK (ZK (ZK (ZK (ZK (ZK (ZK (ZK (ZK (ZK (ZK (ZK (ZK (ZK (ZK EO EP) EQ) ER) ES) ET) EU) EV) EW) EX) KV) KW) KX) KY) KZ) K0) K5) K7) K8) K9) Ia) Ib) Ic) Id) Ie) If) Ig) Ih) Ii) Ij) Ik) Il
theorem ZgO:Rows.AtomRoundTripSaid:=
 OpenClaim.holds_of_wide 5 f5 rfl rfl rfl rfl rfl rfl rfl ⟨rfl,rfl,rfl,rfl,rfl⟩ rfl rfl rfl rfl rfl ZaU func5 ZgN
  ZiV ZiX
  (λos h H enc _=>Znu os h H enc)
theorem atomRoundTrip_holds:Rows.AtomRoundTripCardSaid:=
 Claim7.holds_tied_plain_at .later [] [.data, .data, .data, .data, .data, .data, .data, .pinned] true (true, "e07cf758d904cbc08ea01038dd117f5c210028e8b9bc04136c4d77d77a62be97") false ZgO (fun _ h => by cases h) Znp (fun _ h => by cases h) atomRoundTrip_row_tie rfl ⟨rfl, rfl⟩ ZiW rfl
  (λf fn hf hfn=>by
   obtain rfl:f=5:=ZrI (ZaU.symm.trans hf)|>.symm
   obtain rfl:fn=f5:=(ZrI (func5.symm.trans hfn)).symm
   exact ⟨ZgP,λj t ht=>by
    rw[params5] at ht
    have hm:t∈ [32]:=(by simpa using Array.mem_of_getElem? ht)
    exact (show prog.wantsStandIn t=false by simpa using Zrm.1 Zds t hm)⟩)
  ZiU
#print axioms atomRoundTrip_holds
end Go.Proofs.YtmfinhgobjbecaaGreatDoor
