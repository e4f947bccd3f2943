/- Parts of the proof: contracts and plain laws. -/
import Derived.Test.YtmfinhgobjbecaaGreatDoorTie
import Derived.Test.YtmfinhgobjbecaaGreatDoorA31
import Derived.Test.YtmfinhgobjbecaaGreatDoorA32
import Derived.Test.YtmfinhgobjbecaaGreatDoorA33
namespace Go.Proofs.YtmfinhgobjbecaaGreatDoor
open Go Go.ChangeShapes Go.WideShapes Go.ChangeAt Go.RowKit _root_.Go.Proofs.Tryz
set_option linter.unusedVariables false
set_option linter.unusedSimpArgs false
set_option maxRecDepth 100000
set_option maxHeartbeats 16000000
theorem ZJ {a b:Bool} (h:a=true) (k:b=true):(a && b)=true:=by rw[h,k];rfl
theorem ZgK:joinedFacts prog 3 f3 Rows.atomMatchesReferenceSpec Rows.atomMatchesReferenceRow=true:=by
 unfold joinedFacts;exact ZJ (ZJ (ZJ (ZJ (ZJ (ZJ (ZJ (ZJ (ZJ (ZJ (ZJ (ZJ (ZJ (ZJ (ZJ (ZJ (ZJ (ZJ (ZJ (ZJ (ZJ (ZJ (ZJ (ZJ (ZJ (ZJ (ZJ (ZJ (ZJ (ZJ (ZJ UR US) UT) UU) UV) UW) UX) UY) UZ) U0) Um) Un) Uo) Up) Ur) Us) Ut) Uu) Uv) Uw) Ux) Uy) Uz) UC) UD) UE) UF) UG) UH) UI) UJ) UK
theorem ZgL:Rows.AtomMatchesReferenceSaid:=
 OpenClaim.holds_of_wide 3 f3 rfl rfl rfl rfl rfl rfl rfl ⟨rfl,rfl,rfl,rfl,rfl⟩ rfl rfl rfl rfl rfl ZaT func3 ZgK
  ZiR ZiT
  (λos h H enc _=>Znt os h H enc)
theorem atomMatchesReference_holds:Rows.AtomMatchesReferenceCardSaid:=
 Claim7.holds_tied_plain_at .later [] [.data, .data, .data, .data, .data, .data, .data, .pinned] true (true, "e07cf758d904cbc08ea01038dd117f5c210028e8b9bc04136c4d77d77a62be97") false ZgL (fun _ h => by cases h) Zno (fun _ h => by cases h) atomMatchesReference_row_tie rfl ⟨rfl, rfl⟩ ZiS rfl
  (λf fn hf hfn=>by
   obtain rfl:f=3:=ZrI (ZaT.symm.trans hf)|>.symm
   obtain rfl:fn=f3:=(ZrI (func3.symm.trans hfn)).symm
   exact ⟨ZgM,λj t ht=>by
    rw[params3] at ht
    have hm:t∈ [9]:=(by simpa using Array.mem_of_getElem? ht)
    exact (show prog.wantsStandIn t=false by simpa using Zrm.1 Zdr t hm)⟩)
  ZiQ
#print axioms atomMatchesReference_holds
end Go.Proofs.YtmfinhgobjbecaaGreatDoor
