/- MergeKeepsLater: the row, from the law's contract. -/
import Derived.Test.YtgecijhgonfldaaGreatDoorLaw10
import Derived.Test.YtgecijhgonfldaaGreatDoorQ23
namespace Go.Proofs.YtgecijhgonfldaaGreatDoor
open Go Go.ChangeShapes Go.WideShapes Go.ChangeAt Go.RowKit Go.Joins Go.Deep

set_option maxRecDepth 100000 in
theorem lifted10 (os : Os) (started : os.Started) (H : Type) (enc : TypeId × Value → H) :
    ReturnsInHanded {} Tryz.checked os 12 .any (fun w args => (Rows.mergeKeepsLaterSpec.pre enc Tryz.prog Tryz.f12 [] false w args ∧ laidMetH Tryz.prog laidAll w) ∧ sizedMet enc Tryz.prog Tryz.f12 (OpenSpec.ofChange Rows.mergeKeepsLaterSpec) false w args)
      (Rows.mergeKeepsLaterSpec.post enc Tryz.prog Tryz.f12 false true false false) := by
  refine returnsInHanded_of_change_and (C := Tryz.checked) (X := fun w _ => laidMetH Tryz.prog laidAll w) (fun _ _ _ hh h => h.of_heap hh) own1 started (by kernel_rfl) Tryz.func12
    (ChangeSpec.witness_shaped (enc := enc) (C := Tryz.checked) (os := os) (X := fun w _ => laidMetH Tryz.prog laidAll w) false (World.laidAll Tryz.prog os laidAll) #[.agg #[.slice none 0 0], .agg #[.slice none 0 0]] 8 (World.laidAll_os _ _ _)
      (World.shaped_of_ZipB (by kernel_rfl) (by kernel_rfl)) (by kernel_rfl) (by kernel_rfl) (by kernel_rfl)
      (by rw [MakeChecks.laidMetH_plain _ _ _ (by kernel_rfl)]; exact laidMet_laidAll _ (by kernel_rfl) (by kernel_rfl))) ?_
  intro W base args ds gs before hval0 hW hc hsz hL _
  have hval : ∀ (j : Nat) t v, Tryz.f12.params[j]? = some t → args[j]? = some v → Value.okWide Tryz.prog W .any base t v := hval0
  have hW' := hW
  obtain ⟨p, q, hA0, hV, rfl, _, _⟩ := hW
  have hA : DataW.TrodAll enc Tryz.prog W 0 (fun _ => true) true Tryz.f12.params.toList args.toList ds p := hA0
  rw [Tryz.params12] at hA hval
  obtain ⟨v0, v1, d0, d1, p0, p1, rfl, rfl, rfl, h0, h1⟩ := trodAll_two hA
  obtain ⟨rfl, rfl⟩ := trodVars_none hV
  have h0k := h0
  have h1k := h1
  rw [MakeChecks.laidMetH_plain _ _ _ (by kernel_rfl)] at hL
  have hE := env_of_laid hL
  have hwt : (DataW.weightsEach Tryz.prog [46, 46] [d0, d1]).all (· ≤ reachBytes) = true := by
    have h := hsz
    rw [Tryz.params12] at h
    exact h
  have hwa := List.all_eq_true.1 hwt
  have hw0 : ∀ n ∈ d0.weights Tryz.prog 46, n ≤ reachBytes := fun n hn => of_decide_eq_true (hwa n (by simp only [DataW.weightsEach, List.append_nil, List.mem_append]; exact Or.inl hn))
  have hw1 : ∀ n ∈ d1.weights Tryz.prog 46, n ≤ reachBytes := fun n hn => of_decide_eq_true (hwa n (by simp only [DataW.weightsEach, List.append_nil, List.mem_append]; exact Or.inr hn))
  clear hsz hwt hwa
  have hlt : ∀ x ∈ (p0 ++ p1), x.block < W.heap.size := fun x hx => by simpa using hW'.lt x (List.mem_append_left _ hx)
  obtain ⟨fuel0, hf0⟩ := h0
  obtain ⟨cs0, rfl, _⟩ := okWide_struct Tryz.underlying46 (hval 0 46 v0 rfl rfl)
  obtain ⟨u0, l0, hcs0, hr0, hrd0, hwd0⟩ := open_arc (show DataW.trod enc Tryz.prog W 0 (fun _ => true) true fuel0 46 cs0.toList = some (d0, p0) from hf0)
  have hcs0' : cs0 = #[u0] := by rw [show cs0 = cs0.toList.toArray by simp, hcs0]
  subst hcs0'
  obtain ⟨fuel1, hf1⟩ := h1
  obtain ⟨cs1, rfl, _⟩ := okWide_struct Tryz.underlying46 (hval 1 46 v1 rfl rfl)
  obtain ⟨u1, l1, hcs1, hr1, hrd1, hwd1⟩ := open_arc (show DataW.trod enc Tryz.prog W 0 (fun _ => true) true fuel1 46 cs1.toList = some (d1, p1) from hf1)
  have hcs1' : cs1 = #[u1] := by rw [show cs1 = cs1.toList.toArray by simp, hcs1]
  subst hcs1'
  refine (law10_any _ l0 _ l1 W hE hr0 hrd0 (hwd0 hw0).1 (hwd0 hw0).2 hr1 hrd1 (hwd1 hw1).1 (hwd1 hw1).2).mono fun e W' ⟨he, hx⟩ => ?_
  subst he
  have hB : Below W.heap.size W W' := hx
  refine ⟨_, rfl, _, _, _, [], (p0 ++ p1), [], hW', ?_, ?_, ?_, hB.frame _, fun h => by cases h⟩
  · exact trodAll_mk1 (shut_bool Tryz.underlying4 _)
  · exact trodAll_mk2 (Below.trod laidOut1 (by kernel_rfl) (of_decide_eq_true (by kernel_rfl)) h0k hB fun x hx => hlt x (List.mem_append_left _ hx)) (Below.trod laidOut1 (by kernel_rfl) (of_decide_eq_true (by kernel_rfl)) h1k hB fun x hx => hlt x (List.mem_append_right _ hx))
  · rfl
end Go.Proofs.YtgecijhgonfldaaGreatDoor
