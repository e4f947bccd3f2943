/- Parts of the proof: contracts and plain laws. -/
import Derived.Test.YthlnaldahkgjnaaGreatDoorTie
import Derived.Test.YthlnaldahkgjnaaGreatDoorV23
import Derived.Test.YthlnaldahkgjnaaGreatDoorV24
import Derived.Test.YthlnaldahkgjnaaGreatDoorV25
namespace Go.Proofs.YthlnaldahkgjnaaGreatDoor
open Go Go.ChangeShapes Go.WideShapes Go.ChangeAt Go.RowKit
set_option linter.unusedVariables false
set_option linter.unusedSimpArgs false
set_option maxRecDepth 100000
set_option maxHeartbeats 16000000
theorem and2_20 {a b:Bool} (h:a=true) (k:b=true):(a && b)=true:=by rw[h,k];rfl
theorem law20_facts:joinedFacts Tryz.prog 5 Tryz.f5 Rows.jsonfeedRoundTripSpec Rows.jsonfeedRoundTripRow=true:=by
 unfold joinedFacts
 exact and2_20 (and2_20 (and2_20 (and2_20 (and2_20 (and2_20 (and2_20 (and2_20 (and2_20 (and2_20 (and2_20 (and2_20 (and2_20 (and2_20 (and2_20 (and2_20 (and2_20 (and2_20 (and2_20 (and2_20 (and2_20 (and2_20 (and2_20 (and2_20 (and2_20 (and2_20 (and2_20 (and2_20 (and2_20 (and2_20 (and2_20 jsonfeedRoundTrip_k0 jsonfeedRoundTrip_k1) jsonfeedRoundTrip_k2) jsonfeedRoundTrip_k3) jsonfeedRoundTrip_k4) jsonfeedRoundTrip_k5) jsonfeedRoundTrip_k6) jsonfeedRoundTrip_k7) jsonfeedRoundTrip_k8) jsonfeedRoundTrip_k9) jsonfeedRoundTrip_k10) jsonfeedRoundTrip_k11) jsonfeedRoundTrip_k12) jsonfeedRoundTrip_k13) jsonfeedRoundTrip_k14) jsonfeedRoundTrip_k15) jsonfeedRoundTrip_k16) jsonfeedRoundTrip_k17) jsonfeedRoundTrip_k18) jsonfeedRoundTrip_k19) jsonfeedRoundTrip_k20) jsonfeedRoundTrip_k21) jsonfeedRoundTrip_k22) jsonfeedRoundTrip_k23) jsonfeedRoundTrip_k24) jsonfeedRoundTrip_k25) jsonfeedRoundTrip_k26) jsonfeedRoundTrip_k27) jsonfeedRoundTrip_k28) jsonfeedRoundTrip_k29) jsonfeedRoundTrip_k30) jsonfeedRoundTrip_k31
theorem law20_holds:Rows.JsonfeedRoundTripSaid:=
 OpenClaim.holds_of_wide 5 Tryz.f5 rfl rfl rfl rfl rfl rfl rfl ⟨rfl,rfl,rfl,rfl,rfl⟩ rfl rfl rfl rfl rfl law20_named Tryz.func5 law20_facts
  law20_inst law20_wrap
  (fun os started H enc _=>lifted20 os started H enc)
theorem jsonfeedRoundTrip_holds:Rows.JsonfeedRoundTripCardSaid:=
 Claim7.holds_tied_plain_at .later [] [.data, .data, .data, .data, .data, .pinned] true (true, "72d53e40377b2e75c519e8ecfde5b2f4a1abcd405b7b2d3b2b04379eddf4d0b5") false law20_holds (fun _ h => by cases h) law20_wf (fun _ h => by cases h) jsonfeedRoundTrip_row_tie rfl ⟨rfl, rfl⟩ law20_main rfl
  (fun f fn hf hfn=>by
   obtain rfl:f=5:=Option.some.inj (law20_named.symm.trans hf)|>.symm
   obtain rfl:fn=Tryz.f5:=(Option.some.inj (Tryz.func5.symm.trans hfn)).symm
   exact ⟨law20_looks,fun j t ht=>by
    rw[Tryz.params5] at ht
    have hm:t∈ [32]:=by simpa using Array.mem_of_getElem? ht
    exact (show Tryz.prog.wantsStandIn t=false by simpa using List.all_eq_true.1 law20_standIn t hm)⟩)
  law20_goes
#print axioms jsonfeedRoundTrip_holds
end Go.Proofs.YthlnaldahkgjnaaGreatDoor
