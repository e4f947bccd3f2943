/- Parts of the proof: contracts and plain laws. -/
import Derived.Test.YthlnaldahkgjnaaGreatDoorTie
import Derived.Test.YthlnaldahkgjnaaGreatDoorV31
import Derived.Test.YthlnaldahkgjnaaGreatDoorV32
import Derived.Test.YthlnaldahkgjnaaGreatDoorV33
namespace Go.Proofs.YthlnaldahkgjnaaGreatDoor
open Go Go.ChangeShapes Go.WideShapes Go.ChangeAt Go.RowKit
set_option linter.unusedVariables false
set_option linter.unusedSimpArgs false
set_option maxRecDepth 100000
set_option maxHeartbeats 16000000
theorem and2_22 {a b:Bool} (h:a=true) (k:b=true):(a && b)=true:=by rw[h,k];rfl
theorem law22_facts:joinedFacts Tryz.prog 7 Tryz.f7 Rows.jsonfeedIsStableSpec Rows.jsonfeedIsStableRow=true:=by
 unfold joinedFacts
 exact and2_22 (and2_22 (and2_22 (and2_22 (and2_22 (and2_22 (and2_22 (and2_22 (and2_22 (and2_22 (and2_22 (and2_22 (and2_22 (and2_22 (and2_22 (and2_22 (and2_22 (and2_22 (and2_22 (and2_22 (and2_22 (and2_22 (and2_22 (and2_22 (and2_22 (and2_22 (and2_22 (and2_22 (and2_22 (and2_22 (and2_22 jsonfeedIsStable_k0 jsonfeedIsStable_k1) jsonfeedIsStable_k2) jsonfeedIsStable_k3) jsonfeedIsStable_k4) jsonfeedIsStable_k5) jsonfeedIsStable_k6) jsonfeedIsStable_k7) jsonfeedIsStable_k8) jsonfeedIsStable_k9) jsonfeedIsStable_k10) jsonfeedIsStable_k11) jsonfeedIsStable_k12) jsonfeedIsStable_k13) jsonfeedIsStable_k14) jsonfeedIsStable_k15) jsonfeedIsStable_k16) jsonfeedIsStable_k17) jsonfeedIsStable_k18) jsonfeedIsStable_k19) jsonfeedIsStable_k20) jsonfeedIsStable_k21) jsonfeedIsStable_k22) jsonfeedIsStable_k23) jsonfeedIsStable_k24) jsonfeedIsStable_k25) jsonfeedIsStable_k26) jsonfeedIsStable_k27) jsonfeedIsStable_k28) jsonfeedIsStable_k29) jsonfeedIsStable_k30) jsonfeedIsStable_k31
theorem law22_holds:Rows.JsonfeedIsStableSaid:=
 OpenClaim.holds_of_wide 7 Tryz.f7 rfl rfl rfl rfl rfl rfl rfl ⟨rfl,rfl,rfl,rfl,rfl⟩ rfl rfl rfl rfl rfl law22_named Tryz.func7 law22_facts
  law22_inst law22_wrap
  (fun os started H enc _=>lifted22 os started H enc)
theorem jsonfeedIsStable_holds:Rows.JsonfeedIsStableCardSaid:=
 Claim7.holds_tied_plain_at .later [] [.data, .data, .data, .data, .data, .pinned] true (true, "72d53e40377b2e75c519e8ecfde5b2f4a1abcd405b7b2d3b2b04379eddf4d0b5") false law22_holds (fun _ h => by cases h) law22_wf (fun _ h => by cases h) jsonfeedIsStable_row_tie rfl ⟨rfl, rfl⟩ law22_main rfl
  (fun f fn hf hfn=>by
   obtain rfl:f=7:=Option.some.inj (law22_named.symm.trans hf)|>.symm
   obtain rfl:fn=Tryz.f7:=(Option.some.inj (Tryz.func7.symm.trans hfn)).symm
   exact ⟨law22_looks,fun j t ht=>by
    rw[Tryz.params7] at ht
    have hm:t∈ [9]:=by simpa using Array.mem_of_getElem? ht
    exact (show Tryz.prog.wantsStandIn t=false by simpa using List.all_eq_true.1 law22_standIn t hm)⟩)
  law22_goes
#print axioms jsonfeedIsStable_holds
end Go.Proofs.YthlnaldahkgjnaaGreatDoor
