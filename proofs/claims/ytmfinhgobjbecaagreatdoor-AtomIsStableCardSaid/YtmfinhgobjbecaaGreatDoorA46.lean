/- Parts of the proof: contracts and plain laws. -/
import Derived.Test.YtmfinhgobjbecaaGreatDoorTie
import Derived.Test.YtmfinhgobjbecaaGreatDoorA43
import Derived.Test.YtmfinhgobjbecaaGreatDoorA44
import Derived.Test.YtmfinhgobjbecaaGreatDoorA45
namespace Go.Proofs.YtmfinhgobjbecaaGreatDoor
open Go Go.ChangeShapes Go.WideShapes Go.ChangeAt Go.RowKit _root_.Go.Proofs.Tryz
set_option linter.unusedVariables false
set_option linter.unusedSimpArgs false
set_option maxRecDepth 100000
set_option maxHeartbeats 16000000
theorem ZM {a b:Bool} (h:a=true) (k:b=true):(a && b)=true:=by rw[h,k];rfl
theorem ZgT:joinedFacts prog 7 f7 Rows.atomIsStableSpec Rows.atomIsStableRow=true:=by
 unfold joinedFacts;exact ZM (ZM (ZM (ZM (ZM (ZM (ZM (ZM (ZM (ZM (ZM (ZM (ZM (ZM (ZM (ZM (ZM (ZM (ZM (ZM (ZM (ZM (ZM (ZM (ZM (ZM (ZM (ZM (ZM (ZM (ZM Zbj Zbk) Zbl) Zbm) Zbn) Zbo) Zbp) Zbq) Zbr) Zbs) Ep) Eq) Er) Es) Et) Eu) Ev) Ew) Ex) Ey) Ez) EB) ED) EE) EG) EH) EI) EJ) EK) EL) EM) EN
theorem ZgU:Rows.AtomIsStableSaid:=
 OpenClaim.holds_of_wide 7 f7 rfl rfl rfl rfl rfl rfl rfl ⟨rfl,rfl,rfl,rfl,rfl⟩ rfl rfl rfl rfl rfl ZaW func7 ZgT
  Zi3 Zi5
  (λos h H enc _=>Znw os h H enc)
theorem atomIsStable_holds:Rows.AtomIsStableCardSaid:=
 Claim7.holds_tied_plain_at .later [] [.data, .data, .data, .data, .data, .data, .data, .pinned] true (true, "e07cf758d904cbc08ea01038dd117f5c210028e8b9bc04136c4d77d77a62be97") false ZgU (fun _ h => by cases h) Znr (fun _ h => by cases h) atomIsStable_row_tie rfl ⟨rfl, rfl⟩ Zi4 rfl
  (λf fn hf hfn=>by
   obtain rfl:f=7:=ZrI (ZaW.symm.trans hf)|>.symm
   obtain rfl:fn=f7:=(ZrI (func7.symm.trans hfn)).symm
   exact ⟨ZgV,λj t ht=>by
    rw[params7] at ht
    have hm:t∈ [9]:=(by simpa using Array.mem_of_getElem? ht)
    exact (show prog.wantsStandIn t=false by simpa using Zrm.1 Zdu t hm)⟩)
  Zi2
#print axioms atomIsStable_holds
end Go.Proofs.YtmfinhgobjbecaaGreatDoor
