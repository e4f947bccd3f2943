/- Parts of the proof: contracts and plain laws. -/
import Derived.Test.YthlnaldahkgjnaaGreatDoorTie
import Derived.Test.YthlnaldahkgjnaaGreatDoorV01
import Derived.Test.YthlnaldahkgjnaaGreatDoorV02
import Derived.Test.YthlnaldahkgjnaaGreatDoorV03
import Derived.Test.YthlnaldahkgjnaaGreatDoorV04
import Derived.Test.YthlnaldahkgjnaaGreatDoorV05
import Derived.Test.YthlnaldahkgjnaaGreatDoorV06
import Derived.Test.YthlnaldahkgjnaaGreatDoorV07
import Derived.Test.YthlnaldahkgjnaaGreatDoorV08
import Derived.Test.YthlnaldahkgjnaaGreatDoorV09
import Derived.Test.YthlnaldahkgjnaaGreatDoorV10
import Derived.Test.YthlnaldahkgjnaaGreatDoorV11
import Derived.Test.YthlnaldahkgjnaaGreatDoorV12
import Derived.Test.YthlnaldahkgjnaaGreatDoorV13
import Derived.Test.YthlnaldahkgjnaaGreatDoorV14
import Derived.Test.YthlnaldahkgjnaaGreatDoorV15
import Derived.Test.YthlnaldahkgjnaaGreatDoorV16
import Derived.Test.YthlnaldahkgjnaaGreatDoorV17
import Derived.Test.YthlnaldahkgjnaaGreatDoorV18
import Derived.Test.YthlnaldahkgjnaaGreatDoorV19
import Derived.Test.YthlnaldahkgjnaaGreatDoorV20
import Derived.Test.YthlnaldahkgjnaaGreatDoorV31
import Derived.Test.YthlnaldahkgjnaaGreatDoorX01
import Derived.Test.YthlnaldahkgjnaaGreatDoorX02
import Derived.Test.YthlnaldahkgjnaaGreatDoorX03
import Derived.Test.YthlnaldahkgjnaaGreatDoorX04
namespace Go.Proofs.YthlnaldahkgjnaaGreatDoor
open Go Go.ChangeShapes Go.WideShapes Go.ChangeAt Go.RowKit
set_option linter.unusedVariables false
set_option linter.unusedSimpArgs false
set_option maxRecDepth 100000
set_option maxHeartbeats 16000000
theorem and2_23 {a b:Bool} (h:a=true) (k:b=true):(a && b)=true:=by rw[h,k];rfl
theorem law23_facts:joinedFacts Tryz.prog 8 Tryz.f8 Rows.jsonfeedNullsSpec Rows.jsonfeedNullsRow=true:=by
 unfold joinedFacts
 exact and2_23 (and2_23 (and2_23 (and2_23 (and2_23 (and2_23 (and2_23 (and2_23 (and2_23 (and2_23 (and2_23 (and2_23 (and2_23 (and2_23 (and2_23 (and2_23 (and2_23 (and2_23 (and2_23 (and2_23 (and2_23 (and2_23 (and2_23 (and2_23 (and2_23 (and2_23 (and2_23 (and2_23 (and2_23 (and2_23 (and2_23 jsonfeedNulls_k0 jsonfeedNulls_k1) jsonfeedNulls_k2) jsonfeedNulls_k3) jsonfeedNulls_k4) jsonfeedNulls_k5) jsonfeedNulls_k6) jsonfeedNulls_k7) jsonfeedNulls_k8) jsonfeedNulls_k9) jsonfeedNulls_k10) jsonfeedNulls_k11) jsonfeedNulls_k12) jsonfeedNulls_k13) jsonfeedNulls_k14) jsonfeedNulls_k15) jsonfeedNulls_k16) jsonfeedNulls_k17) jsonfeedNulls_k18) jsonfeedNulls_k19) jsonfeedNulls_k20) jsonfeedNulls_k21) jsonfeedNulls_k22) jsonfeedNulls_k23) jsonfeedNulls_k24) jsonfeedNulls_k25) jsonfeedNulls_k26) jsonfeedNulls_k27) jsonfeedNulls_k28) jsonfeedNulls_k29) jsonfeedNulls_k30) jsonfeedNulls_k31
theorem law23_holds:Rows.JsonfeedNullsSaid:=
 OpenClaim.holds_of_wide 8 Tryz.f8 rfl rfl rfl rfl rfl rfl rfl ⟨rfl,rfl,rfl,rfl,rfl⟩ rfl rfl rfl rfl rfl law23_named Tryz.func8 law23_facts
  law23_inst law23_wrap
  (fun os started H enc _=>lifted23 os started H enc)
theorem jsonfeedNulls_holds:Rows.JsonfeedNullsCardSaid:=
 Claim7.holds_tied_plain_at .later [] [.data, .data, .data, .data, .data, .pinned] true (true, "72d53e40377b2e75c519e8ecfde5b2f4a1abcd405b7b2d3b2b04379eddf4d0b5") false law23_holds (fun _ h => by cases h) law23_wf (fun _ h => by cases h) jsonfeedNulls_row_tie rfl ⟨rfl, rfl⟩ law23_main rfl
  (fun f fn hf hfn=>by
   obtain rfl:f=8:=Option.some.inj (law23_named.symm.trans hf)|>.symm
   obtain rfl:fn=Tryz.f8:=(Option.some.inj (Tryz.func8.symm.trans hfn)).symm
   exact ⟨law23_looks,fun j t ht=>by
    rw[Tryz.params8] at ht
    have hm:t∈ [9,5]:=by simpa using Array.mem_of_getElem? ht
    exact (show Tryz.prog.wantsStandIn t=false by simpa using List.all_eq_true.1 law23_standIn t hm)⟩)
  law23_goes
#print axioms jsonfeedNulls_holds
end Go.Proofs.YthlnaldahkgjnaaGreatDoor
