/- NormalizeIsolated: the row, from the law's contract. -/
import Derived.Test.YtgecijhgonfldaaGreatDoorLaw6
import Derived.Test.YtgecijhgonfldaaGreatDoorK00
namespace Go.Proofs.YtgecijhgonfldaaGreatDoor
open Go Go.ChangeShapes Go.WideShapes Go.ChangeAt Go.RowKit Go.Joins Go.Deep

set_option maxRecDepth 100000 in
theorem lifted6 (os : Os) (started : os.Started) (H : Type) (enc : TypeId × Value → H) :
    ReturnsInHanded {} Tryz.checked os 8 .any (fun w args => (Rows.normalizeIsolatedSpec.pre enc Tryz.prog Tryz.f8 [] false w args ∧ laidMetH Tryz.prog laidAll w) ∧ sizedMet enc Tryz.prog Tryz.f8 (OpenSpec.ofChange Rows.normalizeIsolatedSpec) false w args)
      (Rows.normalizeIsolatedSpec.post enc Tryz.prog Tryz.f8 false true false false) := by
  refine returnsInHanded_of_change_and (C := Tryz.checked) (X := fun w _ => laidMetH Tryz.prog laidAll w) (fun _ _ _ hh h => h.of_heap hh) own1 started (by kernel_rfl) Tryz.func8
    (ChangeSpec.witness_shaped (enc := enc) (C := Tryz.checked) (os := os) (X := fun w _ => laidMetH Tryz.prog laidAll w) false (World.laidAll Tryz.prog os laidAll) #[.slice none 0 0] 8 (World.laidAll_os _ _ _)
      (World.shaped_of_ZipB (by kernel_rfl) (by kernel_rfl)) (by kernel_rfl) (by kernel_rfl) (by kernel_rfl)
      (by rw [MakeChecks.laidMetH_plain _ _ _ (by kernel_rfl)]; exact laidMet_laidAll _ (by kernel_rfl) (by kernel_rfl))) ?_
  intro W base args ds gs before hval0 hW hc hsz hL _
  have hval : ∀ (j : Nat) t v, Tryz.f8.params[j]? = some t → args[j]? = some v → Value.okWide Tryz.prog W .any base t v := hval0
  have hW' := hW
  obtain ⟨p, q, hA0, hV, rfl, _, _⟩ := hW
  have hA : DataW.TrodAll enc Tryz.prog W 0 (fun _ => true) true Tryz.f8.params.toList args.toList ds p := hA0
  rw [Tryz.params8] at hA hval
  obtain ⟨v0, d0, rfl, rfl, h0⟩ := trodAll_one hA
  obtain ⟨rfl, rfl⟩ := trodVars_none hV
  have h0k := h0
  rw [MakeChecks.laidMetH_plain _ _ _ (by kernel_rfl)] at hL
  have hE := env_of_laid hL
  have hwt : (DataW.weightsEach Tryz.prog [37] [d0]).all (· ≤ reachBytes) = true := by
    have h := hsz
    rw [Tryz.params8] at h
    exact h
  have hwa := List.all_eq_true.1 hwt
  have hw0 : ∀ n ∈ d0.weights Tryz.prog 37, n ≤ reachBytes := fun n hn => of_decide_eq_true (hwa n (by simpa only [DataW.weightsEach, List.append_nil] using hn))
  clear hsz hwt hwa
  have hlt : ∀ x ∈ p, x.block < W.heap.size := fun x hx => by simpa using hW'.lt x (List.mem_append_left _ hx)
  obtain ⟨fuel0, hf0⟩ := h0
  obtain ⟨a0, len0, cap0, rfl⟩ := okWide_slice Tryz.underlying37 (hval 0 37 v0 rfl rfl)
  obtain ⟨l0, hr0, hrd0, hwd0⟩ := open_fds (show DataW.trod enc Tryz.prog W 0 (fun _ => true) true fuel0 37 [.slice a0 len0 cap0] = some (d0, p) from hf0)
  refine (law6_any _ l0 W hE hr0 hrd0 (hwd0 hw0).1 (hwd0 hw0).2).mono fun e W' ⟨he, hx⟩ => ?_
  subst he
  have hB : Below W.heap.size W W' := hx
  refine ⟨_, rfl, _, _, _, [], p, [], hW', ?_, ?_, ?_, hB.frame _, fun h => by cases h⟩
  · exact trodAll_mk1 (shut_bool Tryz.underlying4 _)
  · exact trodAll_mk1 (Below.trod laidOut1 (by kernel_rfl) (of_decide_eq_true (by kernel_rfl)) h0k hB hlt)
  · rfl
end Go.Proofs.YtgecijhgonfldaaGreatDoor
