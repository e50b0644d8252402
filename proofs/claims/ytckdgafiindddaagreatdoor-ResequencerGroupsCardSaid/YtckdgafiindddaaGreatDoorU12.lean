/- Types and nodes are cut: it comes to an end. -/
import Derived.Test.YtckdgafiindddaaGreatDoorU11
set_option linter.all false
namespace Go.Proofs.YtckdgafiindddaaGreatDoor
open Go.Em
set_option maxRecDepth 100000
def typC (a b c d : Int) (w e f : List (List X)) : List X := [num a, num b, num c, num d, .sl false 1 w, .sl false 7 e, .sl false 11 f]
def fldC (x : Int) (t : ByteArray) (y a b c d : Int) (w e f de : List (List X)) : List X := [num x, strX t, num y, num a, num b, num c, num d, .sl false 1 w, .sl false 7 e, .sl false 11 f, .sl false 6 de]
def isTxt (c : List X) : Prop := ∃ t, c = [strX t]
/-- A type that is looked at to a depth. -/
def isTyp : Nat → List X → Prop
  | 0, c => ∃ a b c' d w e f, c = typC a b c' d w e f ∧ ∀ x, x ∈ w → isTxt x
  | n + 1, c => ∃ a b c' d w e f, c = typC a b c' d w e f ∧ (∀ x, x ∈ w → isTxt x) ∧ (∀ x, x ∈ e → isTyp n x) ∧ ∀ x, x ∈ f → ∃ p t y T de, x = num p :: strX t :: num y :: (T ++ [.sl false 6 de]) ∧ isTyp n T ∧ ∀ v, v ∈ de → isVal v

/-- A type that was cut to h levels. -/
def sT : Nat → List X → Prop
  | 0, _ => False
  | h + 1, x => ∃ a b c d w e f, x = typC a b c d w e f ∧ w.length ≤ 6 ∧ (∀ v, v ∈ w → ∃ t : ByteArray, v = [strX t] ∧ t.size ≤ 40) ∧ e.length ≤ 2 ∧ (∀ y, y ∈ e → sT h y) ∧ f.length ≤ 6 ∧ ∀ y, y ∈ f → ∃ p t q a b c d w e f de, y = fldC p t q a b c d w e f de ∧ t.size ≤ 40 ∧ sT h (typC a b c d w e f) ∧ de.length ≤ 2 ∧ ∀ v, v ∈ de → ∃ u : Val, v = (shortV 2 u).cells
section
variable (n : Nat) (a b c d : Int) (w e f : List (List X)) (acc : List (List X)) (j : Nat) (x : List X)
end
section
variable (n : Nat) (a b c d : Int) (w e f acc0 : List (List X)) (m : Nat) (acc : List (List X)) (j : Nat) (x : List X)
end
section
variable (n : Nat) (a b c d : Int) (w e f acc0 acc1 acc2 : List (List X)) (m q z : Nat) (x0 : Int) (t0 : ByteArray) (y0 p1 p2 p3 p4 : Int) (pw pe pf de : List (List X)) (acc : List (List X)) (j : Nat) (x : List X)
end
section
variable (n : Nat) (a b c d : Int) (w e f acc0 acc1 : List (List X)) (m q : Nat) (acc : List (List X)) (j : Nat) (x : List X)
end
def isCall (c : List X) : Prop := ∃ t l, c = [strX t, .sl false 6 l] ∧ ∀ x, x ∈ l → isRule x
section
variable (name text : ByteArray) (k1 k2 k3 k4 k5 k6 a b c d : Int) (w e f ty ex ru ca ne : List (List X)) (acc : List (List X)) (j : Nat) (x : List X)
end
section
variable (name text : ByteArray) (k1 k2 k3 k4 k5 k6 a b c d : Int) (w e f ty ru ca ne acc0 : List (List X)) (acc : List (List X)) (j : Nat) (x : List X)
end
section
variable (name text : ByteArray) (k1 k2 k3 k4 k5 k6 a b c d : Int) (w e f ty ru ca ne acc0 : List (List X)) (m : Nat) (acc : List (List X)) (j : Nat) (x : List X)
end
section
variable (name text : ByteArray) (k1 k2 k3 k4 k5 k6 a b c d : Int) (w e f ty ru ca ne acc0 acc1 : List (List X)) (m q : Nat) (acc : List (List X)) (j : Nat) (x : List X)
end
end Go.Proofs.YtckdgafiindddaaGreatDoor
