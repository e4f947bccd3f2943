/- Parts of the proof: contracts and plain laws that the statement needs. -/
import Derived.Test.YtgecijhgonfldaaGreatDoorQ21
import Derived.Test.YtgecijhgonfldaaGreatDoorQ23
import Derived.Test.YtgecijhgonfldaaGreatDoorQ26
namespace Go.Proofs.YtgecijhgonfldaaGreatDoor
open Go Go.RowKit
set_option linter.unusedVariables false
end Go.Proofs.YtgecijhgonfldaaGreatDoor
namespace Go.Proofs.YtgecijhgonfldaaGreatDoor
open Go Go.RowKit
set_option linter.unusedVariables false
theorem small_path {f : Fd} (h : bigF f ≤ 5000) : f.path.length ≤ 5000 := by
  have h' : bigH f + bigP f.path + bigEs f.ents ≤ 5000 := h
  have hp := bigP_small (l := f.path) (by omega)
  omega
theorem small_all {l : List Fc} (hw : ∀ x ∈ l, fwide x.f) (h : bigL (l.map Fc.f) ≤ 5000) : ∀ x ∈ l, fokS x.f ∧ x.f.path.length ≤ 1000000 := fun x hx =>
  ⟨bigL_fokS hw h x hx, by have := small_path (f := x.f) (Nat.le_trans (bigF_mem (List.mem_map.2 ⟨x, hx, rfl⟩)) h); omega⟩
end Go.Proofs.YtgecijhgonfldaaGreatDoor
