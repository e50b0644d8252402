/-
  NARROWER THAN 'FOR EVERY INPUT', by the rows' own cells (each row's printed sentence says how): ThrottleBalances: loops, laid · ThrottleChecks: loops, laid · ThrottleSteps: loops, laid · ThrottleDelays: loops, laid · ThrottleDue: loops, laid.
  DERIVED. THE GIVEN ROWS OF THIS SEAT. 5 by the template 'for every input the law returns true; each argument reads behind the call as it read before'; 0 by the template 'total and deterministic' (their statements: YtjfheahakfoofaaGreatDoorTotals.lean).
  GIVEN WITH THE SEED: the statements are not yours to turn. If you find one false, say at which input.
  Laid BY PROGRAM, IN A SANDBOX (cutbox-rows.mjs): the forced cells as the released guide's own fill.sh prints them over the translation ca029be26bce6035… (all of the seat's roots in one cut). By AI agents, Wed Nov 11 2026. No macro, syntax, notation, axiom, sorry.
-/
import Derived.Test.YtjfheahakfoofaaGreatDoorChecked
import GoSem.PinnedTables
import GoSem.Claim
import GoSem.ClaimJoined
import GoSem.ClaimMapViews
import Derived.JoinedTies
import Derived.KernelRfl
namespace Go.Proofs.YtjfheahakfoofaaGreatDoor
/- THE CELL 'sum', in the pinned program and in every row, IS THE sha256 OF THE DUMP (.gsa) THAT YtjfheahakfoofaaGreatDoorProg.lean LOADS. Nothing in Lean hashes anything: it is a label: what it is worth is what the hold of that sum in a sandbox is worth. -/
noncomputable def Tryz.pinned : Pinned := { name := "ytjfheahakfoofaagreatdoor", sum := "ca029be26bce6035d260f7cad1a4de0b8f4d40936479330c21a9f8e334d1a9d3", checked := Tryz.checked }
namespace Rows
def none {H : Type} : Left H := { results := [], args := [] }

/- WHAT THE LISTED PACKAGE-LEVEL VARIABLES READ AS WHEN THE CALL BEGINS. Each datum BY PROGRAM (the guide's laid-datum.mjs) off the statement by which the dump's own 'gosem.cut.vars' lays the variable. In a bare row this is a premise. The card (YtjfheahakfoofaaGreatDoorCards.lean) ties it to the program's text. -/
def laid_unicode_utf8_acceptRanges {H : Type} : DataW H := .agg [.agg [.lit (.int .u8 128), .lit (.int .u8 191)], .agg [.lit (.int .u8 160), .lit (.int .u8 191)], .agg [.lit (.int .u8 128), .lit (.int .u8 159)], .agg [.lit (.int .u8 144), .lit (.int .u8 191)], .agg [.lit (.int .u8 128), .lit (.int .u8 143)], .agg [.lit (.int .u8 0), .lit (.int .u8 0)], .agg [.lit (.int .u8 0), .lit (.int .u8 0)], .agg [.lit (.int .u8 0), .lit (.int .u8 0)], .agg [.lit (.int .u8 0), .lit (.int .u8 0)], .agg [.lit (.int .u8 0), .lit (.int .u8 0)], .agg [.lit (.int .u8 0), .lit (.int .u8 0)], .agg [.lit (.int .u8 0), .lit (.int .u8 0)], .agg [.lit (.int .u8 0), .lit (.int .u8 0)], .agg [.lit (.int .u8 0), .lit (.int .u8 0)], .agg [.lit (.int .u8 0), .lit (.int .u8 0)], .agg [.lit (.int .u8 0), .lit (.int .u8 0)]]
/-- One of Go's own tables, pinned by name: the form's constant. -/
def laid_unicode_utf8_first : DataW Unit := Go.Pinned.utf8First

/-- 'manifoldlaw36.ThrottleBalances': WHATEVER THE INPUT: true; the input reads as it did. -/
def throttleBalancesSpec : ChangeSpec := { name := "throttleBalances", fn := fun _ => fun
  | [d1, d2, d3] => { results := [.lit (.bool true)], args := [d1, d2, d3] }
  | _ => none }
def throttleBalancesRow : OpenClaim := { program := "ytjfheahakfoofaagreatdoor", sum := "ca029be26bce6035d260f7cad1a4de0b8f4d40936479330c21a9f8e334d1a9d3", func := "manifold/manifoldlaw36.ThrottleBalances", spec := "throttleBalances", inPlace := ["internal/bytealg.abigen_runtime_cmpstring", "slices.overlaps[manifold/api.Slot]"], unfollowed := true, recurses := true, named := ["unicode/utf8.first", "unicode/utf8.acceptRanges"], loops := true, apart := false, laid := [("unicode/utf8.acceptRanges", laid_unicode_utf8_acceptRanges), ("unicode/utf8.first", laid_unicode_utf8_first)] }
def ThrottleBalancesSaid : Prop := throttleBalancesRow.holds Tryz.pinned (OpenSpec.ofChange throttleBalancesSpec)

/-- ITS FALSE NEIGHBOUR: 'it returns false'. Refute it at one input. -/
def throttleBalancesWrong : ChangeSpec := { name := "throttleBalances", fn := fun _ => fun
  | [d1, d2, d3] => { results := [.lit (.bool false)], args := [d1, d2, d3] }
  | _ => none }
def ThrottleBalancesWrongFalsely : Prop := throttleBalancesRow.holds Tryz.pinned (OpenSpec.ofChange throttleBalancesWrong)

/-- 'manifoldlaw36.ThrottleChecks': WHATEVER THE INPUT: true; the input reads as it did. -/
def throttleChecksSpec : ChangeSpec := { name := "throttleChecks", fn := fun _ => fun
  | [d1, d2, d3] => { results := [.lit (.bool true)], args := [d1, d2, d3] }
  | _ => none }
def throttleChecksRow : OpenClaim := { program := "ytjfheahakfoofaagreatdoor", sum := "ca029be26bce6035d260f7cad1a4de0b8f4d40936479330c21a9f8e334d1a9d3", func := "manifold/manifoldlaw36.ThrottleChecks", spec := "throttleChecks", inPlace := ["internal/bytealg.abigen_runtime_cmpstring", "slices.overlaps[manifold/api.Slot]"], unfollowed := true, recurses := true, named := ["unicode/utf8.first", "unicode/utf8.acceptRanges"], loops := true, apart := false, laid := [("unicode/utf8.acceptRanges", laid_unicode_utf8_acceptRanges), ("unicode/utf8.first", laid_unicode_utf8_first)] }
def ThrottleChecksSaid : Prop := throttleChecksRow.holds Tryz.pinned (OpenSpec.ofChange throttleChecksSpec)

/-- ITS FALSE NEIGHBOUR: 'it returns false'. Refute it at one input. -/
def throttleChecksWrong : ChangeSpec := { name := "throttleChecks", fn := fun _ => fun
  | [d1, d2, d3] => { results := [.lit (.bool false)], args := [d1, d2, d3] }
  | _ => none }
def ThrottleChecksWrongFalsely : Prop := throttleChecksRow.holds Tryz.pinned (OpenSpec.ofChange throttleChecksWrong)

/-- 'manifoldlaw36.ThrottleSteps': WHATEVER THE INPUT: true; the input reads as it did. -/
def throttleStepsSpec : ChangeSpec := { name := "throttleSteps", fn := fun _ => fun
  | [d1, d2, d3] => { results := [.lit (.bool true)], args := [d1, d2, d3] }
  | _ => none }
def throttleStepsRow : OpenClaim := { program := "ytjfheahakfoofaagreatdoor", sum := "ca029be26bce6035d260f7cad1a4de0b8f4d40936479330c21a9f8e334d1a9d3", func := "manifold/manifoldlaw36.ThrottleSteps", spec := "throttleSteps", inPlace := ["internal/bytealg.abigen_runtime_cmpstring", "slices.overlaps[manifold/api.Slot]"], unfollowed := true, recurses := true, named := ["unicode/utf8.first", "unicode/utf8.acceptRanges"], loops := true, apart := false, laid := [("unicode/utf8.acceptRanges", laid_unicode_utf8_acceptRanges), ("unicode/utf8.first", laid_unicode_utf8_first)] }
def ThrottleStepsSaid : Prop := throttleStepsRow.holds Tryz.pinned (OpenSpec.ofChange throttleStepsSpec)

/-- ITS FALSE NEIGHBOUR: 'it returns false'. Refute it at one input. -/
def throttleStepsWrong : ChangeSpec := { name := "throttleSteps", fn := fun _ => fun
  | [d1, d2, d3] => { results := [.lit (.bool false)], args := [d1, d2, d3] }
  | _ => none }
def ThrottleStepsWrongFalsely : Prop := throttleStepsRow.holds Tryz.pinned (OpenSpec.ofChange throttleStepsWrong)

/-- 'manifoldlaw36.ThrottleDelays': WHATEVER THE INPUT: true; the input reads as it did. -/
def throttleDelaysSpec : ChangeSpec := { name := "throttleDelays", fn := fun _ => fun
  | [d1, d2, d3] => { results := [.lit (.bool true)], args := [d1, d2, d3] }
  | _ => none }
def throttleDelaysRow : OpenClaim := { program := "ytjfheahakfoofaagreatdoor", sum := "ca029be26bce6035d260f7cad1a4de0b8f4d40936479330c21a9f8e334d1a9d3", func := "manifold/manifoldlaw36.ThrottleDelays", spec := "throttleDelays", inPlace := ["internal/bytealg.abigen_runtime_cmpstring", "slices.overlaps[manifold/api.Slot]"], unfollowed := true, recurses := true, named := ["unicode/utf8.first", "unicode/utf8.acceptRanges"], loops := true, apart := false, laid := [("unicode/utf8.acceptRanges", laid_unicode_utf8_acceptRanges), ("unicode/utf8.first", laid_unicode_utf8_first)] }
def ThrottleDelaysSaid : Prop := throttleDelaysRow.holds Tryz.pinned (OpenSpec.ofChange throttleDelaysSpec)

/-- ITS FALSE NEIGHBOUR: 'it returns false'. Refute it at one input. -/
def throttleDelaysWrong : ChangeSpec := { name := "throttleDelays", fn := fun _ => fun
  | [d1, d2, d3] => { results := [.lit (.bool false)], args := [d1, d2, d3] }
  | _ => none }
def ThrottleDelaysWrongFalsely : Prop := throttleDelaysRow.holds Tryz.pinned (OpenSpec.ofChange throttleDelaysWrong)

/-- 'manifoldlaw36.ThrottleDue': WHATEVER THE INPUT: true; the input reads as it did. -/
def throttleDueSpec : ChangeSpec := { name := "throttleDue", fn := fun _ => fun
  | [d1, d2, d3] => { results := [.lit (.bool true)], args := [d1, d2, d3] }
  | _ => none }
def throttleDueRow : OpenClaim := { program := "ytjfheahakfoofaagreatdoor", sum := "ca029be26bce6035d260f7cad1a4de0b8f4d40936479330c21a9f8e334d1a9d3", func := "manifold/manifoldlaw36.ThrottleDue", spec := "throttleDue", inPlace := ["internal/bytealg.abigen_runtime_cmpstring", "slices.overlaps[manifold/api.Slot]"], unfollowed := true, recurses := true, named := ["unicode/utf8.first", "unicode/utf8.acceptRanges"], loops := true, apart := false, laid := [("unicode/utf8.acceptRanges", laid_unicode_utf8_acceptRanges), ("unicode/utf8.first", laid_unicode_utf8_first)] }
def ThrottleDueSaid : Prop := throttleDueRow.holds Tryz.pinned (OpenSpec.ofChange throttleDueSpec)

/-- ITS FALSE NEIGHBOUR: 'it returns false'. Refute it at one input. -/
def throttleDueWrong : ChangeSpec := { name := "throttleDue", fn := fun _ => fun
  | [d1, d2, d3] => { results := [.lit (.bool false)], args := [d1, d2, d3] }
  | _ => none }
def ThrottleDueWrongFalsely : Prop := throttleDueRow.holds Tryz.pinned (OpenSpec.ofChange throttleDueWrong)

/- THE SECOND FORM. 'bulk': how many values and letters a reading holds, each counted each time it is reached (what is shared counts as often as it is met; a slice's spare places count too). A statement '..UptoSaid' is the law's where the arguments, and the package variables that the reading takes, are together of bulk at most 1048576: NARROWER than '..Said'. Prove '..Said' where nothing that the law and all that it calls make is longer than what came in: it says more and counts as full. Else prove '..UptoSaid'. A law counts once. -/
mutual
def uptoBulk {H : Type} : DataW H → Nat
  | .lit (.string bytes) => bytes.length + 1
  | .lit _ => 1
  | .nil => 1
  | .ptr d => uptoBulk d + 1
  | .slice elems spare => uptoBulkAll elems + uptoBulkAll spare + 1
  | .agg parts => uptoBulkAll parts + 1
  | .iface _ d => uptoBulk d + 1
  | .map entries => uptoBulkEntries entries + 1
  | .held _ => 1
def uptoBulkAll {H : Type} : List (DataW H) → Nat
  | [] => 0
  | d :: r => uptoBulk d + uptoBulkAll r
def uptoBulkEntries {H : Type} : List (Lit × DataW H) → Nat
  | [] => 0
  | x :: r => uptoBulkEntry x + uptoBulkEntries r
def uptoBulkEntry {H : Type} : Lit × DataW H → Nat
  | (.string bytes, d) => bytes.length + uptoBulk d + 1
  | (_, d) => uptoBulk d + 1
 end
def uptoSmall : (H : Type) → List (DataW H) → Bool := fun _ ds => decide (uptoBulkAll ds ≤ 1048576)
def OpenSpec.upto (s : _root_.Go.ChangeSpec) : _root_.Go.OpenSpec := { _root_.Go.OpenSpec.ofChange s with cond := some uptoSmall }

/-- 'manifoldlaw36.ThrottleBalances', WHERE WHAT IT READS IS OF BULK AT MOST 1048576: true; the input reads as it did. -/
def throttleBalancesUptoRow : OpenClaim := { program := "ytjfheahakfoofaagreatdoor", sum := "ca029be26bce6035d260f7cad1a4de0b8f4d40936479330c21a9f8e334d1a9d3", func := "manifold/manifoldlaw36.ThrottleBalances", spec := "throttleBalances", inPlace := ["internal/bytealg.abigen_runtime_cmpstring", "slices.overlaps[manifold/api.Slot]"], unfollowed := true, recurses := true, named := ["unicode/utf8.first", "unicode/utf8.acceptRanges"], loops := true, apart := false, laid := [("unicode/utf8.acceptRanges", laid_unicode_utf8_acceptRanges), ("unicode/utf8.first", laid_unicode_utf8_first)], narrowed := true }
def ThrottleBalancesUptoSaid : Prop := throttleBalancesUptoRow.holds Tryz.pinned (OpenSpec.upto throttleBalancesSpec)

/-- 'manifoldlaw36.ThrottleChecks', WHERE WHAT IT READS IS OF BULK AT MOST 1048576: true; the input reads as it did. -/
def throttleChecksUptoRow : OpenClaim := { program := "ytjfheahakfoofaagreatdoor", sum := "ca029be26bce6035d260f7cad1a4de0b8f4d40936479330c21a9f8e334d1a9d3", func := "manifold/manifoldlaw36.ThrottleChecks", spec := "throttleChecks", inPlace := ["internal/bytealg.abigen_runtime_cmpstring", "slices.overlaps[manifold/api.Slot]"], unfollowed := true, recurses := true, named := ["unicode/utf8.first", "unicode/utf8.acceptRanges"], loops := true, apart := false, laid := [("unicode/utf8.acceptRanges", laid_unicode_utf8_acceptRanges), ("unicode/utf8.first", laid_unicode_utf8_first)], narrowed := true }
def ThrottleChecksUptoSaid : Prop := throttleChecksUptoRow.holds Tryz.pinned (OpenSpec.upto throttleChecksSpec)

/-- 'manifoldlaw36.ThrottleSteps', WHERE WHAT IT READS IS OF BULK AT MOST 1048576: true; the input reads as it did. -/
def throttleStepsUptoRow : OpenClaim := { program := "ytjfheahakfoofaagreatdoor", sum := "ca029be26bce6035d260f7cad1a4de0b8f4d40936479330c21a9f8e334d1a9d3", func := "manifold/manifoldlaw36.ThrottleSteps", spec := "throttleSteps", inPlace := ["internal/bytealg.abigen_runtime_cmpstring", "slices.overlaps[manifold/api.Slot]"], unfollowed := true, recurses := true, named := ["unicode/utf8.first", "unicode/utf8.acceptRanges"], loops := true, apart := false, laid := [("unicode/utf8.acceptRanges", laid_unicode_utf8_acceptRanges), ("unicode/utf8.first", laid_unicode_utf8_first)], narrowed := true }
def ThrottleStepsUptoSaid : Prop := throttleStepsUptoRow.holds Tryz.pinned (OpenSpec.upto throttleStepsSpec)

/-- 'manifoldlaw36.ThrottleDelays', WHERE WHAT IT READS IS OF BULK AT MOST 1048576: true; the input reads as it did. -/
def throttleDelaysUptoRow : OpenClaim := { program := "ytjfheahakfoofaagreatdoor", sum := "ca029be26bce6035d260f7cad1a4de0b8f4d40936479330c21a9f8e334d1a9d3", func := "manifold/manifoldlaw36.ThrottleDelays", spec := "throttleDelays", inPlace := ["internal/bytealg.abigen_runtime_cmpstring", "slices.overlaps[manifold/api.Slot]"], unfollowed := true, recurses := true, named := ["unicode/utf8.first", "unicode/utf8.acceptRanges"], loops := true, apart := false, laid := [("unicode/utf8.acceptRanges", laid_unicode_utf8_acceptRanges), ("unicode/utf8.first", laid_unicode_utf8_first)], narrowed := true }
def ThrottleDelaysUptoSaid : Prop := throttleDelaysUptoRow.holds Tryz.pinned (OpenSpec.upto throttleDelaysSpec)

/-- 'manifoldlaw36.ThrottleDue', WHERE WHAT IT READS IS OF BULK AT MOST 1048576: true; the input reads as it did. -/
def throttleDueUptoRow : OpenClaim := { program := "ytjfheahakfoofaagreatdoor", sum := "ca029be26bce6035d260f7cad1a4de0b8f4d40936479330c21a9f8e334d1a9d3", func := "manifold/manifoldlaw36.ThrottleDue", spec := "throttleDue", inPlace := ["internal/bytealg.abigen_runtime_cmpstring", "slices.overlaps[manifold/api.Slot]"], unfollowed := true, recurses := true, named := ["unicode/utf8.first", "unicode/utf8.acceptRanges"], loops := true, apart := false, laid := [("unicode/utf8.acceptRanges", laid_unicode_utf8_acceptRanges), ("unicode/utf8.first", laid_unicode_utf8_first)], narrowed := true }
def ThrottleDueUptoSaid : Prop := throttleDueUptoRow.holds Tryz.pinned (OpenSpec.upto throttleDueSpec)

end Rows
end Go.Proofs.YtjfheahakfoofaaGreatDoor
