/- Parts of the proof: contracts and plain laws. -/
import Derived.Test.YtmfinhgobjbecaaGreatDoorTie
import Derived.Test.YtmfinhgobjbecaaGreatDoorA51
import Derived.Test.YtmfinhgobjbecaaGreatDoorA52
import Derived.Test.YtmfinhgobjbecaaGreatDoorA53
namespace Go.Proofs.YtmfinhgobjbecaaGreatDoor
open Go Go.ChangeShapes Go.WideShapes Go.ChangeAt Go.RowKit _root_.Go.Proofs.Tryz
set_option linter.unusedVariables false
set_option linter.unusedSimpArgs false
set_option maxRecDepth 100000
set_option maxHeartbeats 16000000
theorem Zs6 {a b:Bool} (h:a=true) (k:b=true):(a && b)=true:=by rw[h,k];rfl
theorem Zt4:joinedFacts prog 8 f8 Rows.atomIgnoresOthersSpec Rows.atomIgnoresOthersRow=true:=by
 unfold joinedFacts;exact Zs6 (Zs6 (Zs6 (Zs6 (Zs6 (Zs6 (Zs6 (Zs6 (Zs6 (Zs6 (Zs6 (Zs6 (Zs6 (Zs6 (Zs6 (Zs6 (Zs6 (Zs6 (Zs6 (Zs6 (Zs6 (Zs6 (Zs6 (Zs6 (Zs6 (Zs6 (Zs6 (Zs6 (Zs6 (Zs6 (Zs6 Zty Ztz) ZtA) ZtB) ZtC) ZtD) ZtE) ZtF) ZtG) ZtH) Ztc) Ztd) Zte) Ztf) Ztg) Zth) Zti) Ztj) Ztk) Ztl) Ztm) Ztn) Zto) Ztp) Ztq) Ztr) Zts) Ztt) Ztu) Ztv) Ztw) Ztx
theorem Zt5:Rows.AtomIgnoresOthersSaid:=
 OpenClaim.holds_of_wide 8 f8 rfl rfl rfl rfl rfl rfl rfl ⟨rfl,rfl,rfl,rfl,rfl⟩ rfl rfl rfl rfl rfl ZtO func8 Zt4
  Zuj Zul
  (λos h H enc _=>ZuC os h H enc)
theorem atomIgnoresOthers_holds:Rows.AtomIgnoresOthersCardSaid:=
 Claim7.holds_tied_plain_at .later [] [.data, .data, .data, .data, .data, .data, .data, .pinned] true (true, "e07cf758d904cbc08ea01038dd117f5c210028e8b9bc04136c4d77d77a62be97") false Zt5 (fun _ h => by cases h) ZuB (fun _ h => by cases h) atomIgnoresOthers_row_tie rfl ⟨rfl, rfl⟩ Zuk rfl
  (λf fn hf hfn=>by
   obtain rfl:f=8:=ZrI (ZtO.symm.trans hf)|>.symm
   obtain rfl:fn=f8:=(ZrI (func8.symm.trans hfn)).symm
   exact ⟨Zt6,λj t ht=>by
    rw[params8] at ht
    have hm:t∈ [9,9]:=(by simpa using Array.mem_of_getElem? ht)
    exact (show prog.wantsStandIn t=false by simpa using Zrm.1 ZtS t hm)⟩)
  Zui
#print axioms atomIgnoresOthers_holds
end Go.Proofs.YtmfinhgobjbecaaGreatDoor
