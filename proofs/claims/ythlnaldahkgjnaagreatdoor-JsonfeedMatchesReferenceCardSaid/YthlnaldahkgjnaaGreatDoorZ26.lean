/- Parts of the proof: contracts and plain laws. -/
import Derived.Test.YthlnaldahkgjnaaGreatDoorTie
import Derived.Test.YthlnaldahkgjnaaGreatDoorZ23
import Derived.Test.YthlnaldahkgjnaaGreatDoorZ24
import Derived.Test.YthlnaldahkgjnaaGreatDoorZ25
namespace Go.Proofs.YthlnaldahkgjnaaGreatDoor
open Go Go.ChangeShapes Go.WideShapes Go.ChangeAt Go.RowKit _root_.Go.Proofs.Tryz
set_option linter.unusedVariables false
set_option linter.unusedSimpArgs false
set_option maxRecDepth 100000
set_option maxHeartbeats 16000000
theorem YI {a b:Bool} (h:a=true) (k:b=true):(a && b)=true:=by rw[h,k];rfl
theorem ZaY:joinedFacts prog 3 f3 Rows.jsonfeedMatchesReferenceSpec Rows.jsonfeedMatchesReferenceRow=true:=by
 unfold joinedFacts;exact YI (YI (YI (YI (YI (YI (YI (YI (YI (YI (YI (YI (YI (YI (YI (YI (YI (YI (YI (YI (YI (YI (YI (YI (YI (YI (YI (YI (YI (YI (YI Ub Uc) Ud) Ue) Uf) Ug) Uh) Ui) Uj) Uk) JI) JJ) JK) JL) JM) JN) JP) JQ) JR) JS) JT) JU) JW) JX) JY) JZ) J0) J1) J2) J3) J4) J5
theorem ZaZ:Rows.JsonfeedMatchesReferenceSaid:=
 OpenClaim.holds_of_wide 3 f3 rfl rfl rfl rfl rfl rfl rfl ⟨rfl,rfl,rfl,rfl,rfl⟩ rfl rfl rfl rfl rfl GP func3 ZaY
  Zb6 Zb8
  (λos h H enc _=>Zfj os h H enc)
theorem jsonfeedMatchesReference_holds:Rows.JsonfeedMatchesReferenceCardSaid:=
 Claim7.holds_tied_plain_at .later [] [.data, .data, .data, .data, .data, .pinned] true (true, "72d53e40377b2e75c519e8ecfde5b2f4a1abcd405b7b2d3b2b04379eddf4d0b5") false ZaZ (fun _ h => by cases h) Zfh (fun _ h => by cases h) jsonfeedMatchesReference_row_tie rfl ⟨rfl, rfl⟩ Zb7 rfl
  (λf fn hf hfn=>by
   obtain rfl:f=3:=Ys (GP.symm.trans hf)|>.symm
   obtain rfl:fn=f3:=(Ys (func3.symm.trans hfn)).symm
   exact ⟨Za0,λj t ht=>by
    rw[params3] at ht
    have hm:t∈ [9]:=(by simpa using Array.mem_of_getElem? ht)
    exact (show prog.wantsStandIn t=false by simpa using Yn.1 IG t hm)⟩)
  Zb5
#print axioms jsonfeedMatchesReference_holds
end Go.Proofs.YthlnaldahkgjnaaGreatDoor
