/- The check of a slot, exactly. -/
import Derived.Test.YtejenmhcebfnlaaGreatDoorU10
set_option linter.all false
namespace Go.Proofs.YtejenmhcebfnlaaGreatDoor
open Go.Em
set_option maxRecDepth 100000

end Go.Proofs.YtejenmhcebfnlaaGreatDoor

/- A round of the check of a state, exactly. -/
namespace Go.Proofs.YtejenmhcebfnlaaGreatDoor
open Go.Em
set_option maxRecDepth 100000

section
variable {ce cc : Int} {z : Bool} {sp : Prop}
end
end Go.Proofs.YtejenmhcebfnlaaGreatDoor

/- The check of a state, exactly. -/
namespace Go.Proofs.YtejenmhcebfnlaaGreatDoor
open Go.Em
set_option maxRecDepth 100000

end Go.Proofs.YtejenmhcebfnlaaGreatDoor

/- Values that compare as equal are one. -/
namespace Go.Proofs.YtejenmhcebfnlaaGreatDoor
open Go.Em
set_option maxRecDepth 100000

end Go.Proofs.YtejenmhcebfnlaaGreatDoor

/- The order of values: three ways, turned about, in a chain. -/
namespace Go.Proofs.YtejenmhcebfnlaaGreatDoor
open Go.Em
set_option maxRecDepth 100000

end Go.Proofs.YtejenmhcebfnlaaGreatDoor

/- What the check of a state asks, told of the keys and the messages as lists. -/
namespace Go.Proofs.YtejenmhcebfnlaaGreatDoor
open Go.Em
set_option maxRecDepth 100000

end Go.Proofs.YtejenmhcebfnlaaGreatDoor

/- How many messages a state holds. -/
namespace Go.Proofs.YtejenmhcebfnlaaGreatDoor
open Go.Em
set_option maxRecDepth 100000

def heH (l : List (List X)) (n j k : Nat) : St := ⟨[(3, nat k), (7, .sl false 10 l), (8, nat n), (9, nat j)], []⟩
theorem add_len {a b : Nat} (h : a + b < 4294967296) : IntKind.i64.wrap (Int.ofNat a + Int.ofNat b) = Int.ofNat (a + b) := by
  rw [IntKind.wrap_i64]; simp only [Int.ofNat_eq_natCast]; omega
theorem accOf_take {ss : List Slt} {j : Nat} (hj : j < ss.length) : accOf (ss.take (j + 1)) = accOf (ss.take j) ++ ss[j].items := by
  rw [List.take_succ_eq_append_getElem hj, accOf_append]
theorem held_pure (s : Stt) (hs : s.small) (N : Nat) (hN : 60020 ≤ N) : Gam.pureD (callF tab ext N) 9 [.agg s.cells] = some (nat (accOf s.slots).length) := by
  obtain ⟨M, rfl⟩ : ∃ M, N = M + 1 := ⟨N - 1, by omega⟩
  have hl := hs.slots
  have hx := hs.slot
  obtain ⟨a, b, ss⟩ := s
  dsimp only at hl hx ⊢
  have hn := sltsC_length ss
  have hloop : run (callF tab ext M) 0 M (.loop (loopAt 9 0)) ⟨(heH (sltsC ss) (sltsC ss).length 0 0).tm, [.var [num a, num b, .sl false 10 (sltsC ss)]]⟩ = some (.exit 0, ⟨[(3, nat (accOf ss).length), (7, .sl false 10 (sltsC ss)), (8, nat (sltsC ss).length), (9, nat (sltsC ss).length), (10, boolX false)], []⟩) := by
    refine loop_for (σ := fun j => heH (sltsC ss) (sltsC ss).length j (accOf (ss.take j)).length) (k := (sltsC ss).length) (by kernel_rfl) (fun j hj => ?_) ?_ (by simp) (by omega)
    · have hj' : j < ss.length := by omega
      have hg := sltsC_get hj'
      have hla := accOf_length (ss.take j) fun x hxx => (hx x (List.mem_of_mem_take hxx)).2.1
      have hlt : (ss.take j).length ≤ 100 := by rw [List.length_take]; omega
      have hi := (hx _ (List.getElem_mem hj')).2.1
      rw [accOf_take hj', List.length_append]
      generalize ss[j] = x at hg hi
      obtain ⟨⟨k0, i0, s0, t0, l0, f0⟩, n0, d0, items, vals⟩ := x
      have hm := msgsC_length items
      dsimp only at hi ⊢
      rw [← hm]
      exact ⟨⟨(heH (sltsC ss) (sltsC ss).length (j + 1) ((accOf (ss.take j)).length + (msgsC items).length)).tm, [.var (slotC k0 i0 s0 t0 (cellsL l0) (cellsF f0) n0 d0 (msgsC items) (cellsL vals))]⟩,
        run_of [(10, .b true), (11, .e (slotC k0 i0 s0 t0 (cellsL l0) (cellsF f0) n0 d0 (msgsC items) (cellsL vals))), (17, .i (Int.ofNat ((accOf (ss.take j)).length + (msgsC items).length))), (18, .i (Int.ofNat (j + 1)))] []
          (pf4 (lt_nat hj) hg (add_len (a := (accOf (ss.take j)).length) (b := (msgsC items).length) (by omega)) (next_nat (j := j) (by omega))) (lo' := []) (by kernel_rfl), by kernel_rfl⟩
    · have e : ss.take (sltsC ss).length = ss := List.take_of_length_le (by omega)
      rw [e]
      exact run_of [(10, .b false)] [] (pf1 (nlt_nat (Nat.lt_irrefl (sltsC ss).length))) (lo' := []) (by kernel_rfl)
  exact pure_of [] [(.exit 0, ⟨[(3, nat (accOf ss).length), (7, .sl false 10 (sltsC ss)), (8, nat (sltsC ss).length), (9, nat (sltsC ss).length), (10, boolX false)], []⟩)] (pf1 hloop) (x := nat (accOf ss).length) (bx := []) (by kernel_rfl) rfl
end Go.Proofs.YtejenmhcebfnlaaGreatDoor

/- The messages that wait in a state. -/
namespace Go.Proofs.YtejenmhcebfnlaaGreatDoor
open Go.Em
set_option maxRecDepth 100000

section
variable (l items acc : List (List X)) (n j k m i : Nat) (x : List X)
end
end Go.Proofs.YtejenmhcebfnlaaGreatDoor

/- Values, messages, states, inputs are cut to the sizes of layer 31. -/
namespace Go.Proofs.YtejenmhcebfnlaaGreatDoor
open Go.Em
set_option maxRecDepth 100000

def cutT (m : Nat) (t : ByteArray) : ByteArray := t.extract 0 (min t.size m)
/-- A value of n + 1 levels at most. -/
def shortV : Nat → Val → Val
  | 0, .mk k i s t _ _ => .mk k i s (cutT 40 t) [] []
  | n + 1, .mk k i s t l f => .mk k i s (cutT 40 t) ((l.take 6).map (shortV n)) ((f.take 6).map fun p => (cutT 40 p.1, shortV n p.2))

section
variable (lv k i s : Int) (t : ByteArray) (l f acc acc2 : List (List X)) (j m : Nat) (x y : List X)
end

end Go.Proofs.YtejenmhcebfnlaaGreatDoor

/- Messages, inputs, states are cut to the sizes of layer 31. -/
namespace Go.Proofs.YtejenmhcebfnlaaGreatDoor
open Go.Em
set_option maxRecDepth 100000

/-- An input. -/
structure Inp where
  kind : Int
  time : Int
  st : Stp
  m : Msg
  x : Int
  b1 : Bool
  b2 : Bool
  body : Val
def Inp.cells (i : Inp) : List X := num i.kind :: num i.time :: num i.st.e :: .sl false 1 (intsC i.st.p) :: num i.m.st.e :: .sl false 1 (intsC i.m.st.p) :: num i.m.mass :: .sl false 1 (intsC i.m.orig) :: (i.m.body.cells ++ num i.x :: boolX i.b1 :: boolX i.b2 :: i.body.cells)
section
variable (a b : Int) (l acc : List (List X)) (j : Nat) (k i s n t : Int) (tx : ByteArray) (vl vf its vs : List (List X)) (k' i' s' : Int) (tx' : ByteArray) (vl' vf' its' vs' : List (List X)) (z z2 : Nat) (x : List X)
end
section
variable (a b : Int) (l acc : List (List X)) (j : Nat) (k i s n t : Int) (tx : ByteArray) (vl vf its vs : List (List X)) (k' i' s' : Int) (tx' : ByteArray) (vl' vf' its' vs' : List (List X)) (z z2 : Nat) (x : List X)
end
/-! ### What is cut is small -/
end Go.Proofs.YtejenmhcebfnlaaGreatDoor

/- Expressions, mappings, types, nodes are cut: it comes to an end. -/
namespace Go.Proofs.YtejenmhcebfnlaaGreatDoor
open Go.Em
set_option maxRecDepth 100000

def isVal (c : List X) : Prop := ∃ v : Val, c = v.cells
/-- An expression whose arguments are looked at to a depth. -/
def isExp : Nat → List X → Prop
  | 0, c => ∃ o i t vs es, c = [num o, num i, strX t, .sl false 6 vs, .sl false 5 es] ∧ ∀ x, x ∈ vs → isVal x
  | n + 1, c => ∃ o i t vs es, c = [num o, num i, strX t, .sl false 6 vs, .sl false 5 es] ∧ (∀ x, x ∈ vs → isVal x) ∧ ∀ x, x ∈ es → isExp n x
section
variable (n : Nat) (o i : Int) (t : ByteArray) (l f : List (List X)) (acc : List (List X)) (j : Nat) (x : List X)
end
section
variable (n : Nat) (o i : Int) (t : ByteArray) (l f acc0 : List (List X)) (m : Nat) (acc : List (List X)) (j : Nat) (x : List X)
end
def isRule (c : List X) : Prop := ∃ t e, c = strX t :: e ∧ isExp 3 e
section
variable (l : List (List X)) (acc : List (List X)) (j : Nat) (x : List X)
end
end Go.Proofs.YtejenmhcebfnlaaGreatDoor
