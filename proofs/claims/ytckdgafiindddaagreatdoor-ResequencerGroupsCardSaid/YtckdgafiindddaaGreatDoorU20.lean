/- The example of layer 34 holds. -/
import Derived.Test.YtckdgafiindddaaGreatDoorU17
import Derived.Test.YtckdgafiindddaaGreatDoorU18
import Derived.Test.YtckdgafiindddaaGreatDoorU19
set_option linter.all false
namespace Go.Proofs.YtckdgafiindddaaGreatDoor
open Go.Em
set_option maxRecDepth 100000
theorem k34_r {N : Nat} {σ τ : St} (h : k34r N σ = some τ) : ∃ υ, run (callF tab ext N) 0 N (loopAt 6 0) σ = some (.norm, υ) ∧ canon 0 υ = some τ := by
  unfold k34r at h
  split at h
  · rename_i υ e; exact ⟨υ, e, h⟩
  · cases h
def k34S : Nat → St
  | 0 => k34H 0 true []
  | 1 => k34H 1 false [k34s 1 [k34m 1 2] [k34v 2]]
  | 2 => k34H 2 false [k34s 3 [] []]
  | 3 => k34H 3 false [k34s 3 [k34m 3 4] [k34v 4]]
  | _ => k34H 4 false [k34s 5 [] []]
def k34E : St := ⟨[(1, .ptr 0 0 0), (2, .sl true 1 [[num 0], [num 2], [num 0], [num 2]]), (7, .sl true 1 [[num 2], [num 1], [num 4], [num 3]]), (8, num 4), (9, nat 4), (10, boolX false)], [.var [num 0, num 0, .sl false 10 [k34s 5 [] []]]]⟩
theorem k34_loop (N : Nat) : run (callF tab ext (N + 399)) 0 (N + 399) (.loop (loopAt 6 0)) (k34H 0 true []) = some (.exit 0, k34E) := by
  refine loop_for (σ := k34S) (k := 4) (by kernel_rfl) (fun j hj => ?_) (by kernel_rfl) (by simp) (by omega)
  match j, hj with
  | 0, _ => exact k34_r (k34_0 N)
  | 1, _ => exact k34_r (k34_1 N)
  | 2, _ => exact k34_r (k34_2 N)
  | 3, _ => exact k34_r (k34_3 N)
  | j + 4, h => omega
theorem known34_at (N : Nat) : Gam.pureD (callF tab ext (N + 400)) 6 [] = some (boolX true) :=
  pure_of [] [(.exit 0, k34E)] (pf1 (k34_loop N)) (x := boolX true) (bx := []) (by kernel_rfl) rfl
end Go.Proofs.YtckdgafiindddaaGreatDoor
