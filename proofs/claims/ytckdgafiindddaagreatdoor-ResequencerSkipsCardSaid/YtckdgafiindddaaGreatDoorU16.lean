/- The example of layer 34 holds: its rounds. -/
import Derived.Test.YtckdgafiindddaaGreatDoorU10
set_option linter.all false
namespace Go.Proofs.YtckdgafiindddaaGreatDoor
open Go.Em
set_option maxRecDepth 100000

def tx (l : List UInt8) : X := .v (.string ⟨⟨l⟩⟩)
def k34v (n : Int) : List X := [num 2, num n, num 0, noText, .sl false 6 [], .sl false 7 []]
def k34m (i n : Int) : List X := [num i, .sl false 1 [[num 1]], num 1048576, .sl false 1 [[num i]], num 9, num 0, num 0, noText, .sl false 6 [], .sl false 7 [tx [103] :: k34v 0, tx [110] :: k34v n]]
def k34s (n : Int) (ms vs : List (List X)) : List X := k34v 0 ++ [num n, num 0, .sl false 10 ms, .sl false 6 vs]
def k34H (j : Nat) (t : Bool) (ss : List (List X)) : St := ⟨[(1, .ptr 0 0 0), (2, .sl true 1 [[num 0], [num 2], [num 0], [num 2]]), (7, .sl true 1 [[num 2], [num 1], [num 4], [num 3]]), (8, num 4), (9, nat j)], [.var [num 0, num 0, .sl t 10 ss]]⟩
noncomputable def k34r (N : Nat) (σ : St) : Option St := match run (callF tab ext N) 0 N (loopAt 6 0) σ with
  | some (.norm, υ) => canon 0 υ
  | _ => none
theorem k34_0 (N : Nat) : k34r (N + 399) (k34H 0 true []) = some (k34H 1 false [k34s 1 [k34m 1 2] [k34v 2]]) := by kernel_rfl
end Go.Proofs.YtckdgafiindddaaGreatDoor
