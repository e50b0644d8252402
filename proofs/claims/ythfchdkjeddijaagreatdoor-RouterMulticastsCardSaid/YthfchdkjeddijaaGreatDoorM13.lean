/- The check of a slot: its items. -/
import Derived.Test.YthfchdkjeddijaaGreatDoorM12
namespace Go.Proofs.YthfchdkjeddijaaGreatDoor
open Go.Em
set_option maxRecDepth 100000

/-- The checker's boxes, and the slot: nothing appended yet, or something. -/
def ckB (f : Bool) (k v : Nat) (acc : List (List X)) (s : List X) : List Bx :=
  if f then [.var [.bs 3 0 k, nat v], .dead, .var s, .row 10 acc] else [.var [.bs 1 0 k, nat v], .row 10 acc, .var s]
def ckH (f : Bool) (items : List (List X)) (n j k v : Nat) (acc : List (List X)) (s : List X) : St :=
  ⟨[(0, .ptr 0 0 0), (3, .ptr 2 0 0), (21, .sl false 10 items), (22, nat n), (23, nat j)], ckB f k v acc s⟩
inductive BadCk : St → Prop
  | a (c : Int) (k v : Nat) (acc : List (List X)) (x y : Bx) (h : c ≠ 0) : BadCk ⟨[(4, num c)], [.var [.bs 1 0 k, nat v], .row 10 acc, x, y]⟩
  | b (c : Int) (k v : Nat) (acc : List (List X)) (x y : Bx) (h : c ≠ 0) : BadCk ⟨[(4, num c)], [.var [.bs 3 0 k, nat v], .dead, x, .row 10 acc, y]⟩
  | c (c : Int) (k v : Nat) (acc : List (List X)) (x : Bx) (h : c ≠ 0) : BadCk ⟨[(4, num c)], [.var [.bs 1 0 k, nat v], .row 10 acc, x]⟩
  | d (c : Int) (k v : Nat) (acc : List (List X)) (x : Bx) (h : c ≠ 0) : BadCk ⟨[(4, num c)], [.var [.bs 2 0 k, nat v], .dead, .row 10 acc, x]⟩
end Go.Proofs.YthfchdkjeddijaaGreatDoor

/- The check of a slot as a whole. -/
namespace Go.Proofs.YthfchdkjeddijaaGreatDoor
open Go.Em
set_option maxRecDepth 100000

def cvB (f : Bool) (k v : Nat) (acc : List (List X)) : List Bx := if f then [.var [.bs 2 0 k, nat v], .dead, .row 10 acc] else [.var [.bs 1 0 k, nat v], .row 10 acc]
def cvSt (f : Bool) (vals : List (List X)) (n j k v : Nat) (acc : List (List X)) : St := ⟨[(0, .ptr 0 0 0), (56, .sl false 6 vals), (57, nat n), (58, nat j)], cvB f k v acc⟩
def cvFin (f : Bool) (vals : List (List X)) (n j k v : Nat) (acc : List (List X)) : St := ⟨[(0, .ptr 0 0 0), (56, .sl false 6 vals), (57, nat n), (58, nat j), (59, boolX false)], cvB f k v acc⟩
end Go.Proofs.YthfchdkjeddijaaGreatDoor

/- The check of a slot: what it says, and what it leaves with the checker. -/
namespace Go.Proofs.YthfchdkjeddijaaGreatDoor
open Go.Em
set_option maxRecDepth 100000

end Go.Proofs.YthfchdkjeddijaaGreatDoor

/- The check of a state comes to an end. -/
namespace Go.Proofs.YthfchdkjeddijaaGreatDoor
open Go.Em
set_option maxRecDepth 100000

def scSt (st slots : List (List X)) (n j k v : Nat) (acc : List (List X)) (a b : Int) : St :=
  ⟨[(1, .ptr 0 0 0), (4, .ptr 1 0 0), (22, .sl false 10 slots), (23, nat n), (24, nat j)], [.var [num a, num b, .sl false 10 st], .var [.bs 2 0 k, nat v], .row 10 acc]⟩
/-- What a round of the check of a state comes to. -/
def ScRound (slots : List (List X)) (n j k v : Nat) (acc acc' : List (List X)) (a b : Int) (k' v' : Nat) : Prop :=
  (∃ r, (∃ (c : Int) (bx : List Bx), r = ⟨[(2, num c)], bx⟩) ∧ ∀ M, 190050 ≤ M → run (callF tab ext M) 0 M (loopAt 23 0) (scSt slots slots n j k v acc a b) = some (.ret, r)) ∨
  (∃ υ, canon 0 υ = some (scSt slots slots n (j + 1) k' v' acc' a b) ∧ ∀ M, 190050 ≤ M → run (callF tab ext M) 0 M (loopAt 23 0) (scSt slots slots n j k v acc a b) = some (.norm, υ))
end Go.Proofs.YthfchdkjeddijaaGreatDoor

/- The check of a state as a whole. -/
namespace Go.Proofs.YthfchdkjeddijaaGreatDoor
open Go.Em
set_option maxRecDepth 100000

/-- A state of the sizes of layer 31. -/
structure Stt.small (s : Stt) : Prop where
  slots : s.slots.length ≤ 100
  slot : ∀ x, x ∈ s.slots → x.ok ∧ x.items.length ≤ 100 ∧ x.vals.length ≤ 100
theorem Stt.small.ok {s : Stt} (h : s.small) : s.ok := ⟨by have := h.slots; omega, fun x hx => (h.slot x hx).1⟩
def accOf (l : List Slt) : List Msg := l.flatMap (·.items)
def valsOf : List Slt → Nat
  | [] => 0
  | x :: r => (cellsL x.vals).length + valsOf r
end Go.Proofs.YthfchdkjeddijaaGreatDoor

/- A loop that looks for the first round at which something holds. -/
namespace Go.Proofs.YthfchdkjeddijaaGreatDoor
open Go.Em
set_option maxRecDepth 100000

end Go.Proofs.YthfchdkjeddijaaGreatDoor

/- The checks, exactly: what they come to, told by the values alone. -/
namespace Go.Proofs.YthfchdkjeddijaaGreatDoor
open Go.Em
set_option maxRecDepth 100000

noncomputable def chkM (m : Msg) : Int := open Classical in if h : m.ok then Classical.choose (msg_comes m h) else 0
noncomputable def chkV (v : Val) : Int := open Classical in if h : v.ok then Classical.choose (val_comes v h) else 0
def chkN (x y : Int) : Int := if decide (x < -999999999999999) then 2 else if decide (999999999999999 < x) then 2 else if decide (y < 0) then 2 else if decide (17592186044416 < y) then 2 else 0
def Pck (k : Nat) (c : Int) (b : Bool) : Bool := if Int.ofNat k == 256 then false else if !(c == 0) then false else !b
def Pcv (v : Nat) (c : Int) : Bool := if Int.ofNat v == 4096 then false else if !(c == 0) then false else true

/-! ### slices.ContainsFunc of messages, exactly -/
def hasSt (l : List Msg) (m : Msg) : Bool := l.any fun o => cmpS o.st m.st == 0
end Go.Proofs.YthfchdkjeddijaaGreatDoor

/- The check of a slot, exactly: its items. -/
namespace Go.Proofs.YthfchdkjeddijaaGreatDoor
open Go.Em
set_option maxRecDepth 100000
set_option linter.unusedSimpArgs false

end Go.Proofs.YthfchdkjeddijaaGreatDoor

/- The check of a slot, exactly: its values. -/
namespace Go.Proofs.YthfchdkjeddijaaGreatDoor
open Go.Em
set_option maxRecDepth 100000

end Go.Proofs.YthfchdkjeddijaaGreatDoor

/- The check of a slot, exactly. -/
namespace Go.Proofs.YthfchdkjeddijaaGreatDoor
open Go.Em
set_option maxRecDepth 100000

/-- What the check of a slot asks, behind what was checked before. -/
def SlP (acc : List Msg) (k v : Nat) (s : Slt) : Prop :=
  chkN s.n s.t = 0 ∧ (∀ j (h : j < s.items.length), Pck (k + j) (chkM s.items[j]) (hasSt (acc ++ s.items.take j) s.items[j]) = true) ∧ (∀ j (h : j < s.vals.length), Pcv (v + j) (chkV s.vals[j]) = true)
end Go.Proofs.YthfchdkjeddijaaGreatDoor
