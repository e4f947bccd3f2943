/- NormalizeIgnoresOrder: the row, from the law's contract. -/
import Derived.Test.YtgecijhgonfldaaGreatDoorLaw7
import Derived.Test.YtgecijhgonfldaaGreatDoorK00
namespace Go.Proofs.YtgecijhgonfldaaGreatDoor
open Go Go.ChangeShapes Go.WideShapes Go.ChangeAt Go.RowKit Go.Joins Go.Deep

set_option maxRecDepth 100000 in
theorem lifted7 (os : Os) (started : os.Started) (H : Type) (enc : TypeId × Value → H) :
    ReturnsInHanded {} Tryz.checked os 9 .any (fun w args => (Rows.normalizeIgnoresOrderSpec.pre enc Tryz.prog Tryz.f9 [] false w args ∧ laidMetH Tryz.prog laidAll w) ∧ sizedMet enc Tryz.prog Tryz.f9 (OpenSpec.ofChange Rows.normalizeIgnoresOrderSpec) false w args)
      (Rows.normalizeIgnoresOrderSpec.post enc Tryz.prog Tryz.f9 false true false false) := by
  refine returnsInHanded_of_change_and (C := Tryz.checked) (X := fun w _ => laidMetH Tryz.prog laidAll w) (fun _ _ _ hh h => h.of_heap hh) own1 started (by kernel_rfl) Tryz.func9
    (ChangeSpec.witness_shaped (enc := enc) (C := Tryz.checked) (os := os) (X := fun w _ => laidMetH Tryz.prog laidAll w) false (World.laidAll Tryz.prog os laidAll) #[.slice none 0 0, .int .u8 0] 8 (World.laidAll_os _ _ _)
      (World.shaped_of_ZipB (by kernel_rfl) (by kernel_rfl)) (by kernel_rfl) (by kernel_rfl) (by kernel_rfl)
      (by rw [MakeChecks.laidMetH_plain _ _ _ (by kernel_rfl)]; exact laidMet_laidAll _ (by kernel_rfl) (by kernel_rfl))) ?_
  intro W base args ds gs before hval0 hW hc hsz hL _
  have hval : ∀ (j : Nat) t v, Tryz.f9.params[j]? = some t → args[j]? = some v → Value.okWide Tryz.prog W .any base t v := hval0
  have hW' := hW
  obtain ⟨p, q, hA0, hV, rfl, _, _⟩ := hW
  have hA : DataW.TrodAll enc Tryz.prog W 0 (fun _ => true) true Tryz.f9.params.toList args.toList ds p := hA0
  rw [Tryz.params9] at hA hval
  obtain ⟨v0, v1, d0, d1, p0, p1, rfl, rfl, rfl, h0, h1⟩ := trodAll_two hA
  obtain ⟨rfl, rfl⟩ := trodVars_none hV
  have h0k := h0
  have h1k := h1
  rw [MakeChecks.laidMetH_plain _ _ _ (by kernel_rfl)] at hL
  have hE := env_of_laid hL
  have hwt : (DataW.weightsEach Tryz.prog [37, 5] [d0, d1]).all (· ≤ reachBytes) = true := by
    have h := hsz
    rw [Tryz.params9] at h
    exact h
  have hwa := List.all_eq_true.1 hwt
  have hw0 : ∀ n ∈ d0.weights Tryz.prog 37, n ≤ reachBytes := fun n hn => of_decide_eq_true (hwa n (by simp only [DataW.weightsEach, List.append_nil, List.mem_append]; exact Or.inl hn))
  clear hsz hwt hwa
  have hlt : ∀ x ∈ (p0 ++ p1), x.block < W.heap.size := fun x hx => by simpa using hW'.lt x (List.mem_append_left _ hx)
  obtain ⟨fuel0, hf0⟩ := h0
  obtain ⟨a0, len0, cap0, rfl⟩ := okWide_slice Tryz.underlying37 (hval 0 37 v0 rfl rfl)
  obtain ⟨l0, hr0, hrd0, hwd0⟩ := open_fds (show DataW.trod enc Tryz.prog W 0 (fun _ => true) true fuel0 37 [.slice a0 len0 cap0] = some (d0, p0) from hf0)
  obtain ⟨fuel1, hf1⟩ := h1
  obtain ⟨n1, rfl⟩ := okWide_int Tryz.underlying5 (hval 1 5 v1 rfl rfl)
  obtain ⟨m1, hm1, _, hwf1⟩ := DataW.trod_int Tryz.underlying5 (show DataW.trod enc Tryz.prog W 0 (fun _ => true) true fuel1 5 [.int .u8 n1] = some (d1, p1) from hf1)
  injection hm1 with hm1 _
  injection hm1 with _ hm1
  subst hm1
  refine (law7_any _ l0 n1 W hE hr0 hrd0 (hwd0 hw0).1 (hwd0 hw0).2 (u8_of_wf hwf1)).mono fun e W' ⟨he, hx⟩ => ?_
  subst he
  have hB : Below W.heap.size W W' := hx
  refine ⟨_, rfl, _, _, _, [], (p0 ++ p1), [], hW', ?_, ?_, ?_, hB.frame _, fun h => by cases h⟩
  · exact trodAll_mk1 (shut_bool Tryz.underlying4 _)
  · exact trodAll_mk2 (Below.trod laidOut1 (by kernel_rfl) (of_decide_eq_true (by kernel_rfl)) h0k hB fun x hx => hlt x (List.mem_append_left _ hx)) (Below.trod laidOut1 (by kernel_rfl) (of_decide_eq_true (by kernel_rfl)) h1k hB fun x hx => hlt x (List.mem_append_right _ hx))
  · rfl
end Go.Proofs.YtgecijhgonfldaaGreatDoor
