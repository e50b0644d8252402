/-
  No cell of these rows narrows 'for every input' (looked for: loops, veiled, ifaces, maps, wideKeys, modest, calm, conditions, laid).
  DERIVED. THE GIVEN ROWS OF THIS SEAT. 4 by the template 'for every input the law returns true; each argument reads behind the call as it read before'; 0 by the template 'total and deterministic' (their statements: YtjfheahakfoofaaTotals.lean).
  GIVEN WITH THE SEED: the statements are not yours to turn. If you find one false, say at which input.
  Laid BY PROGRAM, IN A SANDBOX (cutbox-rows.mjs): the forced cells as the released guide's own fill.sh prints them over the translation a99a617a04518645… (all of the seat's roots in one cut). By AI agents, Wed Nov 11 2026. No macro, syntax, notation, axiom, sorry.
-/
import Derived.Test.YtjfheahakfoofaaChecked
import GoSem.Claim
import GoSem.ClaimJoined
import GoSem.ClaimMapViews
import Derived.JoinedTies
import Derived.KernelRfl
namespace Go.Proofs.Ytjfheahakfoofaa
/- THE CELL 'sum', in the pinned program and in every row, IS THE sha256 OF THE DUMP (.gsa) THAT YtjfheahakfoofaaProg.lean LOADS. Nothing in Lean hashes anything: it is a label: what it is worth is what the hold of that sum in a sandbox is worth. -/
noncomputable def Try.pinned : Pinned := { name := "ytjfheahakfoofaa", sum := "a99a617a045186456191ae8c56026cc5283e77868eb034b226994ce38e918aaf", checked := Try.checked }
namespace Rows
def none {H : Type} : Left H := { results := [], args := [] }

/-- 'manifoldlaw36.ThrottleWindows': WHATEVER THE INPUT: true; the input reads as it did. -/
def throttleWindowsSpec : ChangeSpec := { name := "throttleWindows", fn := fun _ => fun
  | [d1, d2] => { results := [.lit (.bool true)], args := [d1, d2] }
  | _ => none }
def throttleWindowsRow : OpenClaim := { program := "ytjfheahakfoofaa", sum := "a99a617a045186456191ae8c56026cc5283e77868eb034b226994ce38e918aaf", func := "manifold/manifoldlaw36.ThrottleWindows", spec := "throttleWindows", inPlace := ["internal/bytealg.abigen_runtime_cmpstring", "slices.overlaps[manifold/api.Slot]"], unfollowed := true, recurses := true, apart := false }
def ThrottleWindowsSaid : Prop := throttleWindowsRow.holds Try.pinned (OpenSpec.ofChange throttleWindowsSpec)

/-- ITS FALSE NEIGHBOUR: 'it returns false'. Refute it at one input. -/
def throttleWindowsWrong : ChangeSpec := { name := "throttleWindows", fn := fun _ => fun
  | [d1, d2] => { results := [.lit (.bool false)], args := [d1, d2] }
  | _ => none }
def ThrottleWindowsWrongFalsely : Prop := throttleWindowsRow.holds Try.pinned (OpenSpec.ofChange throttleWindowsWrong)

/-- 'manifoldlaw36.ThrottleOrders': WHATEVER THE INPUT: true; the input reads as it did. -/
def throttleOrdersSpec : ChangeSpec := { name := "throttleOrders", fn := fun _ => fun
  | [d1, d2, d3] => { results := [.lit (.bool true)], args := [d1, d2, d3] }
  | _ => none }
def throttleOrdersRow : OpenClaim := { program := "ytjfheahakfoofaa", sum := "a99a617a045186456191ae8c56026cc5283e77868eb034b226994ce38e918aaf", func := "manifold/manifoldlaw36.ThrottleOrders", spec := "throttleOrders", inPlace := ["internal/bytealg.abigen_runtime_cmpstring", "slices.overlaps[manifold/api.Slot]"], unfollowed := true, recurses := true, apart := false }
def ThrottleOrdersSaid : Prop := throttleOrdersRow.holds Try.pinned (OpenSpec.ofChange throttleOrdersSpec)

/-- ITS FALSE NEIGHBOUR: 'it returns false'. Refute it at one input. -/
def throttleOrdersWrong : ChangeSpec := { name := "throttleOrders", fn := fun _ => fun
  | [d1, d2, d3] => { results := [.lit (.bool false)], args := [d1, d2, d3] }
  | _ => none }
def ThrottleOrdersWrongFalsely : Prop := throttleOrdersRow.holds Try.pinned (OpenSpec.ofChange throttleOrdersWrong)

/-- 'manifoldlaw36.ThrottleWaits': WHATEVER THE INPUT: true; the input reads as it did. -/
def throttleWaitsSpec : ChangeSpec := { name := "throttleWaits", fn := fun _ => fun
  | [d1, d2] => { results := [.lit (.bool true)], args := [d1, d2] }
  | _ => none }
def throttleWaitsRow : OpenClaim := { program := "ytjfheahakfoofaa", sum := "a99a617a045186456191ae8c56026cc5283e77868eb034b226994ce38e918aaf", func := "manifold/manifoldlaw36.ThrottleWaits", spec := "throttleWaits", inPlace := ["internal/bytealg.abigen_runtime_cmpstring", "slices.overlaps[manifold/api.Slot]"], unfollowed := true, recurses := true, apart := false }
def ThrottleWaitsSaid : Prop := throttleWaitsRow.holds Try.pinned (OpenSpec.ofChange throttleWaitsSpec)

/-- ITS FALSE NEIGHBOUR: 'it returns false'. Refute it at one input. -/
def throttleWaitsWrong : ChangeSpec := { name := "throttleWaits", fn := fun _ => fun
  | [d1, d2] => { results := [.lit (.bool false)], args := [d1, d2] }
  | _ => none }
def ThrottleWaitsWrongFalsely : Prop := throttleWaitsRow.holds Try.pinned (OpenSpec.ofChange throttleWaitsWrong)

/-- 'manifoldlaw36.ThrottleBegins': WHATEVER THE INPUT: true; the input reads as it did. -/
def throttleBeginsSpec : ChangeSpec := { name := "throttleBegins", fn := fun _ => fun
  | [d1, d2] => { results := [.lit (.bool true)], args := [d1, d2] }
  | _ => none }
def throttleBeginsRow : OpenClaim := { program := "ytjfheahakfoofaa", sum := "a99a617a045186456191ae8c56026cc5283e77868eb034b226994ce38e918aaf", func := "manifold/manifoldlaw36.ThrottleBegins", spec := "throttleBegins", inPlace := ["internal/bytealg.abigen_runtime_cmpstring", "slices.overlaps[manifold/api.Slot]"], unfollowed := true, recurses := true, apart := false }
def ThrottleBeginsSaid : Prop := throttleBeginsRow.holds Try.pinned (OpenSpec.ofChange throttleBeginsSpec)

/-- ITS FALSE NEIGHBOUR: 'it returns false'. Refute it at one input. -/
def throttleBeginsWrong : ChangeSpec := { name := "throttleBegins", fn := fun _ => fun
  | [d1, d2] => { results := [.lit (.bool false)], args := [d1, d2] }
  | _ => none }
def ThrottleBeginsWrongFalsely : Prop := throttleBeginsRow.holds Try.pinned (OpenSpec.ofChange throttleBeginsWrong)

/- THE SECOND FORM. 'bulk': how many values and letters a reading holds, each counted each time it is reached (what is shared counts as often as it is met; a slice's spare places count too). A statement '..UptoSaid' is the law's where the arguments, and the package variables that the reading takes, are together of bulk at most 1048576: NARROWER than '..Said'. Prove '..Said' where nothing that the law and all that it calls make is longer than what came in: it says more and counts as full. Else prove '..UptoSaid'. A law counts once. -/
mutual
def uptoBulk {H : Type} : DataW H → Nat
  | .lit (.string bytes) => bytes.length + 1
  | .lit _ => 1
  | .nil => 1
  | .ptr d => uptoBulk d + 1
  | .slice elems spare => uptoBulkAll elems + uptoBulkAll spare + 1
  | .agg parts => uptoBulkAll parts + 1
  | .iface _ d => uptoBulk d + 1
  | .map entries => uptoBulkEntries entries + 1
  | .held _ => 1
def uptoBulkAll {H : Type} : List (DataW H) → Nat
  | [] => 0
  | d :: r => uptoBulk d + uptoBulkAll r
def uptoBulkEntries {H : Type} : List (Lit × DataW H) → Nat
  | [] => 0
  | x :: r => uptoBulkEntry x + uptoBulkEntries r
def uptoBulkEntry {H : Type} : Lit × DataW H → Nat
  | (.string bytes, d) => bytes.length + uptoBulk d + 1
  | (_, d) => uptoBulk d + 1
 end
def uptoSmall : (H : Type) → List (DataW H) → Bool := fun _ ds => decide (uptoBulkAll ds ≤ 1048576)
def OpenSpec.upto (s : _root_.Go.ChangeSpec) : _root_.Go.OpenSpec := { _root_.Go.OpenSpec.ofChange s with cond := some uptoSmall }

/-- 'manifoldlaw36.ThrottleWindows', WHERE WHAT IT READS IS OF BULK AT MOST 1048576: true; the input reads as it did. -/
def throttleWindowsUptoRow : OpenClaim := { program := "ytjfheahakfoofaa", sum := "a99a617a045186456191ae8c56026cc5283e77868eb034b226994ce38e918aaf", func := "manifold/manifoldlaw36.ThrottleWindows", spec := "throttleWindows", inPlace := ["internal/bytealg.abigen_runtime_cmpstring", "slices.overlaps[manifold/api.Slot]"], unfollowed := true, recurses := true, apart := false, narrowed := true }
def ThrottleWindowsUptoSaid : Prop := throttleWindowsUptoRow.holds Try.pinned (OpenSpec.upto throttleWindowsSpec)

/-- 'manifoldlaw36.ThrottleOrders', WHERE WHAT IT READS IS OF BULK AT MOST 1048576: true; the input reads as it did. -/
def throttleOrdersUptoRow : OpenClaim := { program := "ytjfheahakfoofaa", sum := "a99a617a045186456191ae8c56026cc5283e77868eb034b226994ce38e918aaf", func := "manifold/manifoldlaw36.ThrottleOrders", spec := "throttleOrders", inPlace := ["internal/bytealg.abigen_runtime_cmpstring", "slices.overlaps[manifold/api.Slot]"], unfollowed := true, recurses := true, apart := false, narrowed := true }
def ThrottleOrdersUptoSaid : Prop := throttleOrdersUptoRow.holds Try.pinned (OpenSpec.upto throttleOrdersSpec)

/-- 'manifoldlaw36.ThrottleWaits', WHERE WHAT IT READS IS OF BULK AT MOST 1048576: true; the input reads as it did. -/
def throttleWaitsUptoRow : OpenClaim := { program := "ytjfheahakfoofaa", sum := "a99a617a045186456191ae8c56026cc5283e77868eb034b226994ce38e918aaf", func := "manifold/manifoldlaw36.ThrottleWaits", spec := "throttleWaits", inPlace := ["internal/bytealg.abigen_runtime_cmpstring", "slices.overlaps[manifold/api.Slot]"], unfollowed := true, recurses := true, apart := false, narrowed := true }
def ThrottleWaitsUptoSaid : Prop := throttleWaitsUptoRow.holds Try.pinned (OpenSpec.upto throttleWaitsSpec)

/-- 'manifoldlaw36.ThrottleBegins', WHERE WHAT IT READS IS OF BULK AT MOST 1048576: true; the input reads as it did. -/
def throttleBeginsUptoRow : OpenClaim := { program := "ytjfheahakfoofaa", sum := "a99a617a045186456191ae8c56026cc5283e77868eb034b226994ce38e918aaf", func := "manifold/manifoldlaw36.ThrottleBegins", spec := "throttleBegins", inPlace := ["internal/bytealg.abigen_runtime_cmpstring", "slices.overlaps[manifold/api.Slot]"], unfollowed := true, recurses := true, apart := false, narrowed := true }
def ThrottleBeginsUptoSaid : Prop := throttleBeginsUptoRow.holds Try.pinned (OpenSpec.upto throttleBeginsSpec)

end Rows
end Go.Proofs.Ytjfheahakfoofaa
