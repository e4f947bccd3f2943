/- Parts of the proof: contracts and plain laws. -/
import Derived.Test.YthlnaldahkgjnaaGreatDoorTie
import Derived.Test.YthlnaldahkgjnaaGreatDoorV01
import Derived.Test.YthlnaldahkgjnaaGreatDoorV02
import Derived.Test.YthlnaldahkgjnaaGreatDoorV03
import Derived.Test.YthlnaldahkgjnaaGreatDoorV04
import Derived.Test.YthlnaldahkgjnaaGreatDoorV05
import Derived.Test.YthlnaldahkgjnaaGreatDoorV06
import Derived.Test.YthlnaldahkgjnaaGreatDoorV07
import Derived.Test.YthlnaldahkgjnaaGreatDoorV08
import Derived.Test.YthlnaldahkgjnaaGreatDoorV09
import Derived.Test.YthlnaldahkgjnaaGreatDoorV10
import Derived.Test.YthlnaldahkgjnaaGreatDoorV11
import Derived.Test.YthlnaldahkgjnaaGreatDoorV12
import Derived.Test.YthlnaldahkgjnaaGreatDoorV13
import Derived.Test.YthlnaldahkgjnaaGreatDoorV14
import Derived.Test.YthlnaldahkgjnaaGreatDoorV15
import Derived.Test.YthlnaldahkgjnaaGreatDoorV16
import Derived.Test.YthlnaldahkgjnaaGreatDoorV17
import Derived.Test.YthlnaldahkgjnaaGreatDoorV18
import Derived.Test.YthlnaldahkgjnaaGreatDoorV19
import Derived.Test.YthlnaldahkgjnaaGreatDoorV20
import Derived.Test.YthlnaldahkgjnaaGreatDoorV31
import Derived.Test.YthlnaldahkgjnaaGreatDoorX01
import Derived.Test.YthlnaldahkgjnaaGreatDoorX06
import Derived.Test.YthlnaldahkgjnaaGreatDoorX07
import Derived.Test.YthlnaldahkgjnaaGreatDoorX08
import Derived.Test.YthlnaldahkgjnaaGreatDoorX09
namespace Go.Proofs.YthlnaldahkgjnaaGreatDoor
open Go Go.ChangeShapes Go.WideShapes Go.ChangeAt Go.RowKit
set_option linter.unusedVariables false
set_option linter.unusedSimpArgs false
set_option maxRecDepth 100000
set_option maxHeartbeats 16000000
theorem and2_28 {a b:Bool} (h:a=true) (k:b=true):(a && b)=true:=by rw[h,k];rfl
theorem law28_facts:joinedFacts Tryz.prog 9 Tryz.f9 Rows.jsonfeedIgnoresOthersSpec Rows.jsonfeedIgnoresOthersRow=true:=by
 unfold joinedFacts
 exact and2_28 (and2_28 (and2_28 (and2_28 (and2_28 (and2_28 (and2_28 (and2_28 (and2_28 (and2_28 (and2_28 (and2_28 (and2_28 (and2_28 (and2_28 (and2_28 (and2_28 (and2_28 (and2_28 (and2_28 (and2_28 (and2_28 (and2_28 (and2_28 (and2_28 (and2_28 (and2_28 (and2_28 (and2_28 (and2_28 (and2_28 jsonfeedIgnoresOthers_k0 jsonfeedIgnoresOthers_k1) jsonfeedIgnoresOthers_k2) jsonfeedIgnoresOthers_k3) jsonfeedIgnoresOthers_k4) jsonfeedIgnoresOthers_k5) jsonfeedIgnoresOthers_k6) jsonfeedIgnoresOthers_k7) jsonfeedIgnoresOthers_k8) jsonfeedIgnoresOthers_k9) jsonfeedIgnoresOthers_k10) jsonfeedIgnoresOthers_k11) jsonfeedIgnoresOthers_k12) jsonfeedIgnoresOthers_k13) jsonfeedIgnoresOthers_k14) jsonfeedIgnoresOthers_k15) jsonfeedIgnoresOthers_k16) jsonfeedIgnoresOthers_k17) jsonfeedIgnoresOthers_k18) jsonfeedIgnoresOthers_k19) jsonfeedIgnoresOthers_k20) jsonfeedIgnoresOthers_k21) jsonfeedIgnoresOthers_k22) jsonfeedIgnoresOthers_k23) jsonfeedIgnoresOthers_k24) jsonfeedIgnoresOthers_k25) jsonfeedIgnoresOthers_k26) jsonfeedIgnoresOthers_k27) jsonfeedIgnoresOthers_k28) jsonfeedIgnoresOthers_k29) jsonfeedIgnoresOthers_k30) jsonfeedIgnoresOthers_k31
theorem law28_holds:Rows.JsonfeedIgnoresOthersSaid:=
 OpenClaim.holds_of_wide 9 Tryz.f9 rfl rfl rfl rfl rfl rfl rfl ⟨rfl,rfl,rfl,rfl,rfl⟩ rfl rfl rfl rfl rfl law28_named Tryz.func9 law28_facts
  law28_inst law28_wrap
  (fun os started H enc _=>lifted28 os started H enc)
theorem jsonfeedIgnoresOthers_holds:Rows.JsonfeedIgnoresOthersCardSaid:=
 Claim7.holds_tied_plain_at .later [] [.data, .data, .data, .data, .data, .pinned] true (true, "72d53e40377b2e75c519e8ecfde5b2f4a1abcd405b7b2d3b2b04379eddf4d0b5") false law28_holds (fun _ h => by cases h) law28_wf (fun _ h => by cases h) jsonfeedIgnoresOthers_row_tie rfl ⟨rfl, rfl⟩ law28_main rfl
  (fun f fn hf hfn=>by
   obtain rfl:f=9:=Option.some.inj (law28_named.symm.trans hf)|>.symm
   obtain rfl:fn=Tryz.f9:=(Option.some.inj (Tryz.func9.symm.trans hfn)).symm
   exact ⟨law28_looks,fun j t ht=>by
    rw[Tryz.params9] at ht
    have hm:t∈ [9,5]:=by simpa using Array.mem_of_getElem? ht
    exact (show Tryz.prog.wantsStandIn t=false by simpa using List.all_eq_true.1 law28_standIn t hm)⟩)
  law28_goes
#print axioms jsonfeedIgnoresOthers_holds
end Go.Proofs.YthlnaldahkgjnaaGreatDoor
