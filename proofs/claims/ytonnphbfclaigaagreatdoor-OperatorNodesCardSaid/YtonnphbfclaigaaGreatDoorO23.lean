/- OperatorNodes (row 58), for all its arguments. -/
import Derived.Test.YtonnphbfclaigaaGreatDoorO19
set_option linter.all false
namespace Go.Proofs.YtonnphbfclaigaaGreatDoor
open Go Go.Em
set_option maxRecDepth 100000
theorem beqF {a b : Int} (h : ¬ a = b) : (a == b) = false := by simpa using h
theorem beqT {a b : Int} (h : a = b) : (a == b) = true := by simpa using h
theorem geT {a b : Int} (h : a ≥ b) : decide (a ≥ b) = true := decide_eq_true h
theorem geF {a b : Int} (h : ¬ a ≥ b) : decide (a ≥ b) = false := decide_eq_false h
theorem ports_at (nd : Nod) (N : Nat) : ∃ p : Int, Gam.pureD (callF tab ext (N + 100)) 26 [.agg nd.cells] = some (num p) ∧ Gam.pureD (callF tab ext (N + 100)) 27 [.agg nd.cells] = some (num p) := by
  by_cases h1 : nd.kind = 11
  · exact ⟨(nd.exprs.length : Nat), pure_of [(6, .b true)] [] (pf1 (beqT h1)) (x := num (nd.exprs.length : Nat)) (bx := []) (by kernel_rfl) rfl, pure_of [(6, .b true)] [] (pf1 (beqT h1)) (x := num (nd.exprs.length : Nat)) (bx := []) (by kernel_rfl) rfl⟩
  · by_cases h2 : nd.kind = 12
    · have e1 : (if true = true then if nd.number > 0 then nd.number else 0 else if nd.number < 0 then nd.number else 0) = max nd.number 0 := by
        rw [if_pos rfl]; split <;> omega
      have e2 : (if true = true then if 0 > nd.number then 0 else nd.number else if 0 < nd.number then 0 else nd.number) = max nd.number 0 := by
        rw [if_pos rfl]; split <;> omega
      exact ⟨max nd.number 0, pure_of [(6, .b false), (13, .b true), (16, .i (max nd.number 0))] [] (pf3 (beqF h1) (beqT h2) e1) (x := num (max nd.number 0)) (bx := []) (by kernel_rfl) rfl, pure_of [(6, .b false), (13, .b true), (16, .i (max nd.number 0))] [] (pf3 (beqF h1) (beqT h2) e2) (x := num (max nd.number 0)) (bx := []) (by kernel_rfl) rfl⟩
    · by_cases h3 : nd.kind = 14
      · exact ⟨0, pure_of [(6, .b false), (13, .b false), (20, .b true)] [] (pf3 (beqF h1) (beqF h2) (beqT h3)) (x := num 0) (bx := []) (by kernel_rfl) rfl, pure_of [(6, .b false), (13, .b false), (20, .b true)] [] (pf3 (beqF h1) (beqF h2) (beqT h3)) (x := num 0) (bx := []) (by kernel_rfl) rfl⟩
      · by_cases h4 : nd.kind ≥ 22
        · exact ⟨0, pure_of [(6, .b false), (13, .b false), (20, .b false), (24, .b true)] [] (pf4 (beqF h1) (beqF h2) (beqF h3) (geT h4)) (x := num 0) (bx := []) (by kernel_rfl) rfl, pure_of [(6, .b false), (13, .b false), (20, .b false), (24, .b true)] [] (pf4 (beqF h1) (beqF h2) (beqF h3) (geT h4)) (x := num 0) (bx := []) (by kernel_rfl) rfl⟩
        · exact ⟨1, pure_of [(6, .b false), (13, .b false), (20, .b false), (24, .b false)] [] (pf4 (beqF h1) (beqF h2) (beqF h3) (geF h4)) (x := num 1) (bx := []) (by kernel_rfl) rfl, pure_of [(6, .b false), (13, .b false), (20, .b false), (24, .b false)] [] (pf4 (beqF h1) (beqF h2) (beqF h3) (geF h4)) (x := num 1) (bx := []) (by kernel_rfl) rfl⟩
theorem stateless_at (nd : Nod) (N : Nat) : ∃ s : Bool, Gam.pureD (callF tab ext (N + 100)) 28 [.agg nd.cells] = some (.v (.bool s)) ∧ Gam.pureD (callF tab ext (N + 100)) 29 [num nd.kind] = some (.v (.bool s)) := by
  by_cases h1 : nd.kind = 1
  · exact ⟨true, pure_of [(6, .b true)] [] (pf1 (beqT h1)) (x := .v (.bool true)) (bx := []) (by kernel_rfl) rfl, pure_of [(4, .b true)] [] (pf1 (beqT h1)) (x := .v (.bool true)) (bx := []) (by kernel_rfl) rfl⟩
  · by_cases h2 : nd.kind = 2
    · exact ⟨true, pure_of [(6, .b false), (7, .b true)] [] (pf2 (beqF h1) (beqT h2)) (x := .v (.bool true)) (bx := []) (by kernel_rfl) rfl, pure_of [(4, .b false), (7, .b true)] [] (pf2 (beqF h1) (beqT h2)) (x := .v (.bool true)) (bx := []) (by kernel_rfl) rfl⟩
    · by_cases h3 : nd.kind = 3
      · exact ⟨true, pure_of [(6, .b false), (7, .b false), (8, .b true)] [] (pf3 (beqF h1) (beqF h2) (beqT h3)) (x := .v (.bool true)) (bx := []) (by kernel_rfl) rfl, pure_of [(4, .b false), (7, .b false), (11, .b true)] [] (pf3 (beqF h1) (beqF h2) (beqT h3)) (x := .v (.bool true)) (bx := []) (by kernel_rfl) rfl⟩
      · by_cases h4 : nd.kind = 11
        · exact ⟨true, pure_of [(6, .b false), (7, .b false), (8, .b false), (9, .b true)] [] (pf4 (beqF h1) (beqF h2) (beqF h3) (beqT h4)) (x := .v (.bool true)) (bx := []) (by kernel_rfl) rfl, pure_of [(4, .b false), (7, .b false), (11, .b false), (15, .b true)] [] (pf4 (beqF h1) (beqF h2) (beqF h3) (beqT h4)) (x := .v (.bool true)) (bx := []) (by kernel_rfl) rfl⟩
        · by_cases h5 : nd.kind = 12
          · exact ⟨true, pure_of [(6, .b false), (7, .b false), (8, .b false), (9, .b false), (10, .b true)] [] (pf5 (beqF h1) (beqF h2) (beqF h3) (beqF h4) (beqT h5)) (x := .v (.bool true)) (bx := []) (by kernel_rfl) rfl, pure_of [(4, .b false), (7, .b false), (11, .b false), (15, .b false), (19, .b true)] [] (pf5 (beqF h1) (beqF h2) (beqF h3) (beqF h4) (beqT h5)) (x := .v (.bool true)) (bx := []) (by kernel_rfl) rfl⟩
          · by_cases h6 : nd.kind = 14
            · exact ⟨true, pure_of [(6, .b false), (7, .b false), (8, .b false), (9, .b false), (10, .b false), (11, .b true)] [] (pf6 (beqF h1) (beqF h2) (beqF h3) (beqF h4) (beqF h5) (beqT h6)) (x := .v (.bool true)) (bx := []) (by kernel_rfl) rfl, pure_of [(4, .b false), (7, .b false), (11, .b false), (15, .b false), (19, .b false), (23, .b true)] [] (pf6 (beqF h1) (beqF h2) (beqF h3) (beqF h4) (beqF h5) (beqT h6)) (x := .v (.bool true)) (bx := []) (by kernel_rfl) rfl⟩
            · exact ⟨false, pure_of [(6, .b false), (7, .b false), (8, .b false), (9, .b false), (10, .b false), (11, .b false)] [] (pf6 (beqF h1) (beqF h2) (beqF h3) (beqF h4) (beqF h5) (beqF h6)) (x := .v (.bool false)) (bx := []) (by kernel_rfl) rfl, pure_of [(4, .b false), (7, .b false), (11, .b false), (15, .b false), (19, .b false), (23, .b false)] [] (pf6 (beqF h1) (beqF h2) (beqF h3) (beqF h4) (beqF h5) (beqF h6)) (x := .v (.bool false)) (bx := []) (by kernel_rfl) rfl⟩
theorem nodes_all {c : List X} (h : isNode c) (N : Nat) : Gam.pureD (callF tab ext (N + 1001)) 6 [.agg c] = some (.v (.bool true)) := by
  obtain ⟨nd, nd', rfl, h16⟩ := node_of h
  obtain ⟨p, h26, h27⟩ := ports_at nd' (N + 900)
  obtain ⟨s, h28, h29⟩ := stateless_at nd' (N + 900)
  have h19 : (if false = true then !(s == s) else s == s) = true := by cases s <;> rfl
  have h9 := pf8 (h16 (N + 1000) (by omega)) (known39 N) h26 h27 (beqT (rfl : p = p)) h28 h29 h19
  exact pure_of [(4, .p (.agg nd'.cells)), (5, .p (.v (.bool true))), (8, .p (num p)), (10, .p (num p)), (11, .b true), (15, .p (.v (.bool s))), (18, .p (.v (.bool s))), (19, .b true)] [] h9 (x := .v (.bool true)) (bx := []) (by kernel_rfl) rfl
end Go.Proofs.YtonnphbfclaigaaGreatDoor
