/- Parts of the proof: contracts and plain laws. -/
import Derived.Test.YthlnaldahkgjnaaGreatDoorTie
import Derived.Test.YthlnaldahkgjnaaGreatDoorY27
import Derived.Test.YthlnaldahkgjnaaGreatDoorY28
import Derived.Test.YthlnaldahkgjnaaGreatDoorY29
namespace Go.Proofs.YthlnaldahkgjnaaGreatDoor
open Go Go.ChangeShapes Go.WideShapes Go.ChangeAt Go.RowKit
set_option linter.unusedVariables false
set_option linter.unusedSimpArgs false
set_option maxRecDepth 100000
set_option maxHeartbeats 16000000
theorem and2_19 {a b:Bool} (h:a=true) (k:b=true):(a && b)=true:=by rw[h,k];rfl
theorem law19_facts:joinedFacts Tryz.prog 4 Tryz.f4 Rows.jsonfeedEncodeMatchesReferenceSpec Rows.jsonfeedEncodeMatchesReferenceRow=true:=by
 unfold joinedFacts
 exact and2_19 (and2_19 (and2_19 (and2_19 (and2_19 (and2_19 (and2_19 (and2_19 (and2_19 (and2_19 (and2_19 (and2_19 (and2_19 (and2_19 (and2_19 (and2_19 (and2_19 (and2_19 (and2_19 (and2_19 (and2_19 (and2_19 (and2_19 (and2_19 (and2_19 (and2_19 (and2_19 (and2_19 (and2_19 (and2_19 (and2_19 jsonfeedEncodeMatchesReference_k0 jsonfeedEncodeMatchesReference_k1) jsonfeedEncodeMatchesReference_k2) jsonfeedEncodeMatchesReference_k3) jsonfeedEncodeMatchesReference_k4) jsonfeedEncodeMatchesReference_k5) jsonfeedEncodeMatchesReference_k6) jsonfeedEncodeMatchesReference_k7) jsonfeedEncodeMatchesReference_k8) jsonfeedEncodeMatchesReference_k9) jsonfeedEncodeMatchesReference_k10) jsonfeedEncodeMatchesReference_k11) jsonfeedEncodeMatchesReference_k12) jsonfeedEncodeMatchesReference_k13) jsonfeedEncodeMatchesReference_k14) jsonfeedEncodeMatchesReference_k15) jsonfeedEncodeMatchesReference_k16) jsonfeedEncodeMatchesReference_k17) jsonfeedEncodeMatchesReference_k18) jsonfeedEncodeMatchesReference_k19) jsonfeedEncodeMatchesReference_k20) jsonfeedEncodeMatchesReference_k21) jsonfeedEncodeMatchesReference_k22) jsonfeedEncodeMatchesReference_k23) jsonfeedEncodeMatchesReference_k24) jsonfeedEncodeMatchesReference_k25) jsonfeedEncodeMatchesReference_k26) jsonfeedEncodeMatchesReference_k27) jsonfeedEncodeMatchesReference_k28) jsonfeedEncodeMatchesReference_k29) jsonfeedEncodeMatchesReference_k30) jsonfeedEncodeMatchesReference_k31
theorem law19_holds:Rows.JsonfeedEncodeMatchesReferenceSaid:=
 OpenClaim.holds_of_wide 4 Tryz.f4 rfl rfl rfl rfl rfl rfl rfl ⟨rfl,rfl,rfl,rfl,rfl⟩ rfl rfl rfl rfl rfl law19_named Tryz.func4 law19_facts
  law19_inst law19_wrap
  (fun os started H enc _=>lifted19 os started H enc)
theorem jsonfeedEncodeMatchesReference_holds:Rows.JsonfeedEncodeMatchesReferenceCardSaid:=
 Claim7.holds_tied_plain_at .later [] [.data, .data, .data, .data, .data, .pinned] true (true, "72d53e40377b2e75c519e8ecfde5b2f4a1abcd405b7b2d3b2b04379eddf4d0b5") false law19_holds (fun _ h => by cases h) law19_wf (fun _ h => by cases h) jsonfeedEncodeMatchesReference_row_tie rfl ⟨rfl, rfl⟩ law19_main rfl
  (fun f fn hf hfn=>by
   obtain rfl:f=4:=Option.some.inj (law19_named.symm.trans hf)|>.symm
   obtain rfl:fn=Tryz.f4:=(Option.some.inj (Tryz.func4.symm.trans hfn)).symm
   exact ⟨law19_looks,fun j t ht=>by
    rw[Tryz.params4] at ht
    have hm:t∈ [32]:=by simpa using Array.mem_of_getElem? ht
    exact (show Tryz.prog.wantsStandIn t=false by simpa using List.all_eq_true.1 law19_standIn t hm)⟩)
  law19_goes
#print axioms jsonfeedEncodeMatchesReference_holds
end Go.Proofs.YthlnaldahkgjnaaGreatDoor
