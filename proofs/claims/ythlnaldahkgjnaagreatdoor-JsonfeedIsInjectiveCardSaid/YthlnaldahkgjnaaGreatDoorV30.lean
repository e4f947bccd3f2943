/- Parts of the proof: contracts and plain laws. -/
import Derived.Test.YthlnaldahkgjnaaGreatDoorTie
import Derived.Test.YthlnaldahkgjnaaGreatDoorV27
import Derived.Test.YthlnaldahkgjnaaGreatDoorV28
import Derived.Test.YthlnaldahkgjnaaGreatDoorV29
namespace Go.Proofs.YthlnaldahkgjnaaGreatDoor
open Go Go.ChangeShapes Go.WideShapes Go.ChangeAt Go.RowKit
set_option linter.unusedVariables false
set_option linter.unusedSimpArgs false
set_option maxRecDepth 100000
set_option maxHeartbeats 16000000
theorem and2_21 {a b:Bool} (h:a=true) (k:b=true):(a && b)=true:=by rw[h,k];rfl
theorem law21_facts:joinedFacts Tryz.prog 6 Tryz.f6 Rows.jsonfeedIsInjectiveSpec Rows.jsonfeedIsInjectiveRow=true:=by
 unfold joinedFacts
 exact and2_21 (and2_21 (and2_21 (and2_21 (and2_21 (and2_21 (and2_21 (and2_21 (and2_21 (and2_21 (and2_21 (and2_21 (and2_21 (and2_21 (and2_21 (and2_21 (and2_21 (and2_21 (and2_21 (and2_21 (and2_21 (and2_21 (and2_21 (and2_21 (and2_21 (and2_21 (and2_21 (and2_21 (and2_21 (and2_21 (and2_21 jsonfeedIsInjective_k0 jsonfeedIsInjective_k1) jsonfeedIsInjective_k2) jsonfeedIsInjective_k3) jsonfeedIsInjective_k4) jsonfeedIsInjective_k5) jsonfeedIsInjective_k6) jsonfeedIsInjective_k7) jsonfeedIsInjective_k8) jsonfeedIsInjective_k9) jsonfeedIsInjective_k10) jsonfeedIsInjective_k11) jsonfeedIsInjective_k12) jsonfeedIsInjective_k13) jsonfeedIsInjective_k14) jsonfeedIsInjective_k15) jsonfeedIsInjective_k16) jsonfeedIsInjective_k17) jsonfeedIsInjective_k18) jsonfeedIsInjective_k19) jsonfeedIsInjective_k20) jsonfeedIsInjective_k21) jsonfeedIsInjective_k22) jsonfeedIsInjective_k23) jsonfeedIsInjective_k24) jsonfeedIsInjective_k25) jsonfeedIsInjective_k26) jsonfeedIsInjective_k27) jsonfeedIsInjective_k28) jsonfeedIsInjective_k29) jsonfeedIsInjective_k30) jsonfeedIsInjective_k31
theorem law21_holds:Rows.JsonfeedIsInjectiveSaid:=
 OpenClaim.holds_of_wide 6 Tryz.f6 rfl rfl rfl rfl rfl rfl rfl ⟨rfl,rfl,rfl,rfl,rfl⟩ rfl rfl rfl rfl rfl law21_named Tryz.func6 law21_facts
  law21_inst law21_wrap
  (fun os started H enc _=>lifted21 os started H enc)
theorem jsonfeedIsInjective_holds:Rows.JsonfeedIsInjectiveCardSaid:=
 Claim7.holds_tied_plain_at .later [] [.data, .data, .data, .data, .data, .pinned] true (true, "72d53e40377b2e75c519e8ecfde5b2f4a1abcd405b7b2d3b2b04379eddf4d0b5") false law21_holds (fun _ h => by cases h) law21_wf (fun _ h => by cases h) jsonfeedIsInjective_row_tie rfl ⟨rfl, rfl⟩ law21_main rfl
  (fun f fn hf hfn=>by
   obtain rfl:f=6:=Option.some.inj (law21_named.symm.trans hf)|>.symm
   obtain rfl:fn=Tryz.f6:=(Option.some.inj (Tryz.func6.symm.trans hfn)).symm
   exact ⟨law21_looks,fun j t ht=>by
    rw[Tryz.params6] at ht
    have hm:t∈ [32,32]:=by simpa using Array.mem_of_getElem? ht
    exact (show Tryz.prog.wantsStandIn t=false by simpa using List.all_eq_true.1 law21_standIn t hm)⟩)
  law21_goes
#print axioms jsonfeedIsInjective_holds
end Go.Proofs.YthlnaldahkgjnaaGreatDoor
