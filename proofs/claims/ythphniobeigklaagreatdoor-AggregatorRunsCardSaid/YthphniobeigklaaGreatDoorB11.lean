/- Comparisons: of numbers, of texts, of values, of stamps. -/
import Derived.Test.YthphniobeigklaaGreatDoorB10
set_option linter.all false
namespace Go.Proofs.YthphniobeigklaaGreatDoor
open Go.Em
set_option maxRecDepth 100000

/-- How two numbers compare. -/
def ordI (a b : Int) : Int := if a < b then -1 else if b < a then 1 else 0
/-- The first number that is not 0. -/
def orL : List Int → Int
  | [] => 0
  | x :: r => if x = 0 then orL r else x
/-- How two lists compare, by how their elements do. -/
def lexC {α β : Type} (r : α → β → Int) : List α → List β → Int
  | [], [] => 0
  | [], _ :: _ => -1
  | _ :: _, [] => 1
  | a :: la, b :: lb => if r a b = 0 then lexC r la lb else r a b

theorem ne_true {x : Int} (h : ¬ x = 0) : (!(x == 0)) = true := by grind
theorem ne_false {x : Int} (h : x = 0) : (!(x == 0)) = false := by grind
theorem ge_true {j k : Nat} (h : k ≤ j) : decide (Int.ofNat k ≤ Int.ofNat j) = true := by
  grind
theorem ge_false {j k : Nat} (h : j < k) : decide (Int.ofNat k ≤ Int.ofNat j) = false := by
  grind

theorem not_nan (N : Nat) (a : Int) : Gam.pureD (callF tab ext (N + 2)) 106 [num a] = some (boolX false) :=
  pure_of [(5, .b false)] [] (pf1 (show (!(a == a)) = false by simp)) (x := boolX false) (bx := []) (by kernel_rfl) rfl
theorem cmp_int (N : Nat) (a b : Int) : Gam.pureD (callF tab ext (N + 4)) 68 [num a, num b] = some (num (ordI a b)) := by
  unfold ordI
  by_cases h : a < b
  · rw [if_pos h]
    exact pure_of [(8, .p (boolX false)), (10, .p (boolX false)), (16, .b true)] [] (pf3 (not_nan (N + 1) a) (not_nan (N + 1) b) (decide_eq_true h)) (x := num (-1)) (bx := []) (by kernel_rfl) rfl
  · rw [if_neg h]
    by_cases h2 : b < a
    · rw [if_pos h2]
      exact pure_of [(8, .p (boolX false)), (10, .p (boolX false)), (16, .b false), (19, .b true)] [] (pf4 (not_nan (N + 1) a) (not_nan (N + 1) b) (decide_eq_false h) (decide_eq_true h2)) (x := num 1) (bx := []) (by kernel_rfl) rfl
    · rw [if_neg h2]
      exact pure_of [(8, .p (boolX false)), (10, .p (boolX false)), (16, .b false), (19, .b false)] [] (pf4 (not_nan (N + 1) a) (not_nan (N + 1) b) (decide_eq_false h) (decide_eq_false h2)) (x := num 0) (bx := []) (by kernel_rfl) rfl

def intsC (l : List Int) : List (List X) := l.map fun x => [num x]
theorem intsC_length (l : List Int) : (intsC l).length = l.length := by simp [intsC]
theorem intsC_get {l : List Int} {j : Nat} (h : j < l.length) : (intsC l)[j]? = some [num l[j]] := by grind[intsC]

def orH (l : List (List X)) (n j : Nat) : St := ⟨[(3, num 0), (6, .sl false 1 l), (7, nat n), (8, nat j)], []⟩
theorem or_canon (l : List (List X)) (n j : Nat) : canon 0 (orH l n j) = some (orH l n j) := by kernel_rfl
theorem or_loop (M : Nat) (l : List Int) (hl : l.length < 4000000) : ∀ d j F, j + d = l.length → d < F →
    (¬ orL (l.drop j) = 0 ∧ iter 0 (run (callF tab ext M) 0 M (loopAt 67 0)) F (orH (intsC l) (intsC l).length j) = some (.ret, ⟨[(2, num (orL (l.drop j)))], []⟩)) ∨
    (orL (l.drop j) = 0 ∧ iter 0 (run (callF tab ext M) 0 M (loopAt 67 0)) F (orH (intsC l) (intsC l).length j) = some (.exit 0, ⟨[(3, num 0), (6, .sl false 1 (intsC l)), (7, nat (intsC l).length), (8, nat (intsC l).length), (9, boolX false)], []⟩))
  | 0, j, F, hj, hF => by
    right
    obtain ⟨F', rfl⟩ : ∃ F', F = F' + 1 := ⟨F - 1, by omega⟩
    have hj' : j = l.length := by omega
    subst hj'
    have hn := intsC_length l
    refine ⟨by rw [List.drop_length]; rfl, iter_end (or_canon _ _ _) ?_ (by simp)⟩
    rw [hn]
    exact run_of [(9, .b false)] [] (pf1 (nlt_nat (Nat.lt_irrefl l.length))) (lo' := []) (by kernel_rfl)
  | d + 1, j, F, hj, hF => by
    obtain ⟨F', rfl⟩ : ∃ F', F = F' + 1 := ⟨F - 1, by omega⟩
    have hn := intsC_length l
    have hj' : j < l.length := by omega
    have hd : l.drop j = l[j] :: l.drop (j + 1) := by rw [← List.getElem_cons_drop hj']
    rw [hd, orL]
    by_cases h : l[j] = 0
    · rw [if_pos h]
      have hs : run (callF tab ext M) 0 M (loopAt 67 0) (orH (intsC l) (intsC l).length j) = some (.norm, orH (intsC l) (intsC l).length (j + 1)) :=
        run_of [(9, .b true), (10, .e [num l[j]]), (14, .b false), (16, .i (Int.ofNat (j + 1)))] [] (pf4 (lt_nat (j := j) (k := (intsC l).length) (by omega)) (intsC_get hj') (ne_false h) (next_nat (j := j) (by omega))) (lo' := []) (by kernel_rfl)
      rw [iter_step (or_canon _ _ _) hs rfl]
      exact or_loop M l hl d (j + 1) F' (by omega) (by omega)
    · rw [if_neg h]
      left
      refine ⟨h, iter_end (or_canon _ _ _) ?_ (by simp)⟩
      exact run_of [(9, .b true), (10, .e [num l[j]]), (14, .b true)] [] (pf3 (lt_nat (j := j) (k := (intsC l).length) (by omega)) (intsC_get hj') (ne_true h)) (lo' := []) (by kernel_rfl)
theorem or_pure (N : Nat) (l : List Int) (hl : l.length < 4000000) (hN : l.length < N) : Gam.pureD (callF tab ext (N + 1)) 67 [.sl false 1 (intsC l)] = some (num (orL l)) := by
  rcases or_loop N l hl l.length 0 N (by omega) hN with ⟨_, h⟩ | ⟨h0, h⟩
  · exact pure_of [] [(.ret, ⟨[(2, num (orL l))], []⟩)] (pf1 h) (x := num (orL l)) (bx := []) (by kernel_rfl) rfl
  · have h0' : orL l = 0 := h0
    rw [h0']
    exact pure_of [] [(.exit 0, ⟨[(3, num 0), (6, .sl false 1 (intsC l)), (7, nat (intsC l).length), (8, nat (intsC l).length), (9, boolX false)], []⟩)] (pf1 h) (x := num 0) (bx := []) (by kernel_rfl) rfl

theorem iter_canon {nIn : Nat} {f : St → Option (Ex × St)} {F : Nat} {υ σ : St} (h : canon nIn υ = some σ) (h' : canon nIn σ = some σ) : iter nIn f F υ = iter nIn f F σ := by
  cases F<;>grind[iter]

/-! ### slices.CompareFunc, 98 -/
section
variable (g : Nat) (l m : List (List X)) (n j : Nat)
def ch98 : St := ⟨[(0, .sl false 1 l), (1, .sl false 1 m), (2, .fn g []), (11, .sl false 1 l), (12, nat n), (13, nat j)], []⟩
def ce98 : St := ⟨[(0, .sl false 1 l), (1, .sl false 1 m), (2, .fn g []), (11, .sl false 1 l), (12, nat n), (13, nat j), (14, boolX false)], []⟩
theorem ch98_canon : canon 0 (ch98 g l m n j) = some (ch98 g l m n j) := by kernel_rfl
end
theorem cmp98_loop (M g : Nat) (la lb : List Int) (r : Int → Int → Int) (hr : ∀ a b, a ∈ la → b ∈ lb → Gam.pureD (callF tab ext M) g [num a, num b] = some (num (r a b))) (hl : la.length < 4000000) : ∀ d j F, j + d = la.length → d < F →
    (∃ bx, iter 0 (run (callF tab ext M) 0 M (loopAt 76 0)) F (ch98 g (intsC la) (intsC lb) (intsC la).length j) = some (.ret, ⟨[(6, num (lexC r (la.drop j) (lb.drop j)))], bx⟩)) ∨
    (lexC r (la.drop j) (lb.drop j) = (if la.length < lb.length then -1 else 0) ∧ iter 0 (run (callF tab ext M) 0 M (loopAt 76 0)) F (ch98 g (intsC la) (intsC lb) (intsC la).length j) = some (.exit 0, ce98 g (intsC la) (intsC lb) (intsC la).length (intsC la).length))
  | 0, j, F, hj, hF => by
    obtain ⟨F', rfl⟩ : ∃ F', F = F' + 1 := ⟨F - 1, by omega⟩
    have hj' : j = la.length := by omega
    subst hj'
    have hn := intsC_length la
    have h : run (callF tab ext M) 0 M (loopAt 76 0) (ch98 g (intsC la) (intsC lb) la.length la.length) = some (.exit 0, ce98 g (intsC la) (intsC lb) la.length la.length) :=
      run_of [(14, .b false)] [] (pf1 (nlt_nat (Nat.lt_irrefl la.length))) (lo' := []) (by kernel_rfl)
    right
    refine ⟨?_, by grind[iter_end,ch98_canon]⟩
    rw [List.drop_length]
    by_cases hb : la.length < lb.length
    · rw [if_pos hb, ← List.getElem_cons_drop hb]; rfl
    · rw [if_neg hb, List.drop_eq_nil_of_le (by omega)]; rfl
  | d + 1, j, F, hj, hF => by
    obtain ⟨F', rfl⟩ : ∃ F', F = F' + 1 := ⟨F - 1, by omega⟩
    have hn := intsC_length la
    have hm := intsC_length lb
    have hj' : j < la.length := by omega
    have hd : la.drop j = la[j] :: la.drop (j + 1) := by rw [← List.getElem_cons_drop hj']
    have hg := intsC_get hj'
    have hma := List.getElem_mem hj'
    rw [hd]
    generalize la[j] = a at hg hma
    skip
    by_cases hb : j < lb.length
    · have hdb : lb.drop j = lb[j] :: lb.drop (j + 1) := by rw [← List.getElem_cons_drop hb]
      have hgb := intsC_get hb
      have hmb := List.getElem_mem hb
      rw [hdb]
      generalize lb[j] = b at hgb hmb
      skip
      have hc := hr _ _ hma hmb
      rw [lexC]
      by_cases h : r a b = 0
      · rw [if_pos h]
        have hs : ∃ bx, run (callF tab ext M) 0 M (loopAt 76 0) (ch98 g (intsC la) (intsC lb) (intsC la).length j) = some (.norm, ⟨(ch98 g (intsC la) (intsC lb) (intsC la).length (j + 1)).tm, bx⟩) :=
          ⟨[], run_of [(14, .b true), (16, .e [num a]), (21, .b false), (24, .e [num b]), (29, .p (num (r a b))), (31, .b false), (33, .i (Int.ofNat (j + 1)))] []
            (pf7 (lt_nat (j := j) (k := (intsC la).length) (by omega)) hg (ge_false (j := j) (k := (intsC lb).length) (by omega)) hgb hc (ne_false h) (next_nat (j := j) (by omega))) (lo' := []) (by kernel_rfl)⟩
        obtain ⟨bx, hs⟩ := hs
        have hcn : canon 0 ⟨(ch98 g (intsC la) (intsC lb) (intsC la).length (j + 1)).tm, bx⟩ = some (ch98 g (intsC la) (intsC lb) (intsC la).length (j + 1)) := by kernel_rfl
        have := cmp98_loop M g la lb r hr hl d (j + 1) F' (by omega) (by omega)
        have hi : iter 0 (run (callF tab ext M) 0 M (loopAt 76 0)) (F' + 1) (ch98 g (intsC la) (intsC lb) (intsC la).length j) = iter 0 (run (callF tab ext M) 0 M (loopAt 76 0)) F' (ch98 g (intsC la) (intsC lb) (intsC la).length (j + 1)) :=
          (iter_step (ch98_canon _ _ _ _ _) hs rfl).trans (iter_canon hcn (ch98_canon _ _ _ _ _))
        grind
      · rw [if_neg h]
        left
        exact ⟨_, iter_end (ch98_canon _ _ _ _ _) (run_of [(14, .b true), (16, .e [num a]), (21, .b false), (24, .e [num b]), (29, .p (num (r a b))), (31, .b true)] []
            (pf6 (lt_nat (j := j) (k := (intsC la).length) (by omega)) hg (ge_false (j := j) (k := (intsC lb).length) (by omega)) hgb hc (ne_true h)) (lo' := []) (σ' := ⟨[(6, num (r a b))], []⟩) (by kernel_rfl)) (by simp)⟩
    · left
      rw [List.drop_eq_nil_of_le (by omega : lb.length ≤ j), lexC]
      exact ⟨_, iter_end (ch98_canon _ _ _ _ _) (run_of [(14, .b true), (16, .e [num a]), (21, .b true)] []
            (pf3 (lt_nat (j := j) (k := (intsC la).length) (by omega)) hg (ge_true (j := j) (k := (intsC lb).length) (by omega))) (lo' := []) (σ' := ⟨[(6, num 1)], []⟩) (by kernel_rfl)) (by simp)⟩
theorem cmp98_pure (M g : Nat) (la lb : List Int) (r : Int → Int → Int) (hr : ∀ a b, a ∈ la → b ∈ lb → Gam.pureD (callF tab ext M) g [num a, num b] = some (num (r a b))) (hl : la.length < 4000000) (hN : la.length < M) :
    Gam.pureD (callF tab ext (M + 1)) 76 [.sl false 1 (intsC la), .sl false 1 (intsC lb), .fn g []] = some (num (lexC r la lb)) := by
  have hn := intsC_length la
  have hm := intsC_length lb
  rcases cmp98_loop M g la lb r hr hl la.length 0 M (by omega) hN with ⟨bx, h⟩ | ⟨h0, h⟩
  · exact pure_of [] [(.ret, ⟨[(6, num (lexC r la lb))], bx⟩)] (pf1 h) (x := num (lexC r la lb)) (bx := []) (by kernel_rfl) rfl
  · have h0' : lexC r la lb = (if la.length < lb.length then -1 else 0) := h0
    rw [h0']
    by_cases hb : la.length < lb.length
    · rw [if_pos hb]
      exact pure_of [(38, .b true)] [(.exit 0, ce98 g (intsC la) (intsC lb) (intsC la).length (intsC la).length)] (pf2 h (lt_nat (j := (intsC la).length) (k := (intsC lb).length) (by omega))) (x := num (-1)) (bx := []) (by kernel_rfl) rfl
    · rw [if_neg hb]
      exact pure_of [(38, .b false)] [(.exit 0, ce98 g (intsC la) (intsC lb) (intsC la).length (intsC la).length)] (pf2 h (nlt_nat (j := (intsC la).length) (k := (intsC lb).length) (by omega))) (x := num 0) (bx := []) (by kernel_rfl) rfl

/-! ### slices.CompareFunc, 104 -/
section
variable (g : Nat) (l m : List (List X)) (n j : Nat)
def ch104 : St := ⟨[(0, .sl false 6 l), (1, .sl false 6 m), (2, .fn g []), (11, .sl false 6 l), (12, nat n), (13, nat j)], []⟩
def ce104 : St := ⟨[(0, .sl false 6 l), (1, .sl false 6 m), (2, .fn g []), (11, .sl false 6 l), (12, nat n), (13, nat j), (14, boolX false)], []⟩
theorem ch104_canon : canon 0 (ch104 g l m n j) = some (ch104 g l m n j) := by kernel_rfl
end
theorem cmp104_loop (M g : Nat) (la lb : List Val) (r : Val → Val → Int) (hr : ∀ a b, a ∈ la → b ∈ lb → Gam.pureD (callF tab ext M) g [.agg a.cells, .agg b.cells] = some (num (r a b))) (hl : la.length < 4000000) : ∀ d j F, j + d = la.length → d < F →
    (∃ bx, iter 0 (run (callF tab ext M) 0 M (loopAt 70 0)) F (ch104 g (cellsL la) (cellsL lb) (cellsL la).length j) = some (.ret, ⟨[(6, num (lexC r (la.drop j) (lb.drop j)))], bx⟩)) ∨
    (lexC r (la.drop j) (lb.drop j) = (if la.length < lb.length then -1 else 0) ∧ iter 0 (run (callF tab ext M) 0 M (loopAt 70 0)) F (ch104 g (cellsL la) (cellsL lb) (cellsL la).length j) = some (.exit 0, ce104 g (cellsL la) (cellsL lb) (cellsL la).length (cellsL la).length))
  | 0, j, F, hj, hF => by
    obtain ⟨F', rfl⟩ : ∃ F', F = F' + 1 := ⟨F - 1, by omega⟩
    have hj' : j = la.length := by omega
    subst hj'
    have hn := cellsL_length la
    have h : run (callF tab ext M) 0 M (loopAt 70 0) (ch104 g (cellsL la) (cellsL lb) la.length la.length) = some (.exit 0, ce104 g (cellsL la) (cellsL lb) la.length la.length) :=
      run_of [(14, .b false)] [] (pf1 (nlt_nat (Nat.lt_irrefl la.length))) (lo' := []) (by kernel_rfl)
    right
    refine ⟨?_, by grind[iter_end,ch104_canon]⟩
    rw [List.drop_length]
    by_cases hb : la.length < lb.length
    · rw [if_pos hb, ← List.getElem_cons_drop hb]; rfl
    · rw [if_neg hb, List.drop_eq_nil_of_le (by omega)]; rfl
  | d + 1, j, F, hj, hF => by
    obtain ⟨F', rfl⟩ : ∃ F', F = F' + 1 := ⟨F - 1, by omega⟩
    have hn := cellsL_length la
    have hm := cellsL_length lb
    have hj' : j < la.length := by omega
    have hd : la.drop j = la[j] :: la.drop (j + 1) := by rw [← List.getElem_cons_drop hj']
    have hg := cellsL_get hj'
    have hma := List.getElem_mem hj'
    rw [hd]
    generalize la[j] = a at hg hma
    obtain ⟨a1, a2, a3, a4, a5, a6⟩ := a
    by_cases hb : j < lb.length
    · have hdb : lb.drop j = lb[j] :: lb.drop (j + 1) := by rw [← List.getElem_cons_drop hb]
      have hgb := cellsL_get hb
      have hmb := List.getElem_mem hb
      rw [hdb]
      generalize lb[j] = b at hgb hmb
      obtain ⟨b1, b2, b3, b4, b5, b6⟩ := b
      have hc := hr _ _ hma hmb
      rw [lexC]
      by_cases h : r (Val.mk a1 a2 a3 a4 a5 a6) (Val.mk b1 b2 b3 b4 b5 b6) = 0
      · rw [if_pos h]
        have hs : ∃ bx, run (callF tab ext M) 0 M (loopAt 70 0) (ch104 g (cellsL la) (cellsL lb) (cellsL la).length j) = some (.norm, ⟨(ch104 g (cellsL la) (cellsL lb) (cellsL la).length (j + 1)).tm, bx⟩) :=
          ⟨[.var (Val.mk a1 a2 a3 a4 a5 a6).cells, .var (Val.mk b1 b2 b3 b4 b5 b6).cells], run_of [(14, .b true), (16, .e (Val.mk a1 a2 a3 a4 a5 a6).cells), (21, .b false), (24, .e (Val.mk b1 b2 b3 b4 b5 b6).cells), (29, .p (num (r (Val.mk a1 a2 a3 a4 a5 a6) (Val.mk b1 b2 b3 b4 b5 b6)))), (31, .b false), (33, .i (Int.ofNat (j + 1)))] []
            (pf7 (lt_nat (j := j) (k := (cellsL la).length) (by omega)) hg (ge_false (j := j) (k := (cellsL lb).length) (by omega)) hgb hc (ne_false h) (next_nat (j := j) (by omega))) (lo' := []) (by kernel_rfl)⟩
        obtain ⟨bx, hs⟩ := hs
        have hcn : canon 0 ⟨(ch104 g (cellsL la) (cellsL lb) (cellsL la).length (j + 1)).tm, bx⟩ = some (ch104 g (cellsL la) (cellsL lb) (cellsL la).length (j + 1)) := by kernel_rfl
        have := cmp104_loop M g la lb r hr hl d (j + 1) F' (by omega) (by omega)
        have hi : iter 0 (run (callF tab ext M) 0 M (loopAt 70 0)) (F' + 1) (ch104 g (cellsL la) (cellsL lb) (cellsL la).length j) = iter 0 (run (callF tab ext M) 0 M (loopAt 70 0)) F' (ch104 g (cellsL la) (cellsL lb) (cellsL la).length (j + 1)) :=
          (iter_step (ch104_canon _ _ _ _ _) hs rfl).trans (iter_canon hcn (ch104_canon _ _ _ _ _))
        grind
      · rw [if_neg h]
        left
        exact ⟨_, iter_end (ch104_canon _ _ _ _ _) (run_of [(14, .b true), (16, .e (Val.mk a1 a2 a3 a4 a5 a6).cells), (21, .b false), (24, .e (Val.mk b1 b2 b3 b4 b5 b6).cells), (29, .p (num (r (Val.mk a1 a2 a3 a4 a5 a6) (Val.mk b1 b2 b3 b4 b5 b6)))), (31, .b true)] []
            (pf6 (lt_nat (j := j) (k := (cellsL la).length) (by omega)) hg (ge_false (j := j) (k := (cellsL lb).length) (by omega)) hgb hc (ne_true h)) (lo' := []) (σ' := ⟨[(6, num (r (Val.mk a1 a2 a3 a4 a5 a6) (Val.mk b1 b2 b3 b4 b5 b6)))], [.var (Val.mk a1 a2 a3 a4 a5 a6).cells, .var (Val.mk b1 b2 b3 b4 b5 b6).cells]⟩) (by kernel_rfl)) (by simp)⟩
    · left
      rw [List.drop_eq_nil_of_le (by omega : lb.length ≤ j), lexC]
      exact ⟨_, iter_end (ch104_canon _ _ _ _ _) (run_of [(14, .b true), (16, .e (Val.mk a1 a2 a3 a4 a5 a6).cells), (21, .b true)] []
            (pf3 (lt_nat (j := j) (k := (cellsL la).length) (by omega)) hg (ge_true (j := j) (k := (cellsL lb).length) (by omega))) (lo' := []) (σ' := ⟨[(6, num 1)], [.var (Val.mk a1 a2 a3 a4 a5 a6).cells]⟩) (by kernel_rfl)) (by simp)⟩
theorem cmp104_pure (M g : Nat) (la lb : List Val) (r : Val → Val → Int) (hr : ∀ a b, a ∈ la → b ∈ lb → Gam.pureD (callF tab ext M) g [.agg a.cells, .agg b.cells] = some (num (r a b))) (hl : la.length < 4000000) (hN : la.length < M) :
    Gam.pureD (callF tab ext (M + 1)) 70 [.sl false 6 (cellsL la), .sl false 6 (cellsL lb), .fn g []] = some (num (lexC r la lb)) := by
  have hn := cellsL_length la
  have hm := cellsL_length lb
  rcases cmp104_loop M g la lb r hr hl la.length 0 M (by omega) hN with ⟨bx, h⟩ | ⟨h0, h⟩
  · exact pure_of [] [(.ret, ⟨[(6, num (lexC r la lb))], bx⟩)] (pf1 h) (x := num (lexC r la lb)) (bx := []) (by kernel_rfl) rfl
  · have h0' : lexC r la lb = (if la.length < lb.length then -1 else 0) := h0
    rw [h0']
    by_cases hb : la.length < lb.length
    · rw [if_pos hb]
      exact pure_of [(38, .b true)] [(.exit 0, ce104 g (cellsL la) (cellsL lb) (cellsL la).length (cellsL la).length)] (pf2 h (lt_nat (j := (cellsL la).length) (k := (cellsL lb).length) (by omega))) (x := num (-1)) (bx := []) (by kernel_rfl) rfl
    · rw [if_neg hb]
      exact pure_of [(38, .b false)] [(.exit 0, ce104 g (cellsL la) (cellsL lb) (cellsL la).length (cellsL la).length)] (pf2 h (nlt_nat (j := (cellsL la).length) (k := (cellsL lb).length) (by omega))) (x := num 0) (bx := []) (by kernel_rfl) rfl

/-! ### slices.CompareFunc, 105 -/
section
variable (g : Nat) (l m : List (List X)) (n j : Nat)
def ch105 : St := ⟨[(0, .sl false 7 l), (1, .sl false 7 m), (2, .fn g []), (11, .sl false 7 l), (12, nat n), (13, nat j)], []⟩
def ce105 : St := ⟨[(0, .sl false 7 l), (1, .sl false 7 m), (2, .fn g []), (11, .sl false 7 l), (12, nat n), (13, nat j), (14, boolX false)], []⟩
theorem ch105_canon : canon 0 (ch105 g l m n j) = some (ch105 g l m n j) := by kernel_rfl
end
theorem cmp105_loop (M g : Nat) (la lb : List (ByteArray × Val)) (r : (ByteArray × Val) → (ByteArray × Val) → Int) (hr : ∀ a b, a ∈ la → b ∈ lb → Gam.pureD (callF tab ext M) g [.agg (strX a.1 :: a.2.cells), .agg (strX b.1 :: b.2.cells)] = some (num (r a b))) (hl : la.length < 4000000) : ∀ d j F, j + d = la.length → d < F →
    (∃ bx, iter 0 (run (callF tab ext M) 0 M (loopAt 71 0)) F (ch105 g (cellsF la) (cellsF lb) (cellsF la).length j) = some (.ret, ⟨[(6, num (lexC r (la.drop j) (lb.drop j)))], bx⟩)) ∨
    (lexC r (la.drop j) (lb.drop j) = (if la.length < lb.length then -1 else 0) ∧ iter 0 (run (callF tab ext M) 0 M (loopAt 71 0)) F (ch105 g (cellsF la) (cellsF lb) (cellsF la).length j) = some (.exit 0, ce105 g (cellsF la) (cellsF lb) (cellsF la).length (cellsF la).length))
  | 0, j, F, hj, hF => by
    obtain ⟨F', rfl⟩ : ∃ F', F = F' + 1 := ⟨F - 1, by omega⟩
    have hj' : j = la.length := by omega
    subst hj'
    have hn := cellsF_length la
    have h : run (callF tab ext M) 0 M (loopAt 71 0) (ch105 g (cellsF la) (cellsF lb) la.length la.length) = some (.exit 0, ce105 g (cellsF la) (cellsF lb) la.length la.length) :=
      run_of [(14, .b false)] [] (pf1 (nlt_nat (Nat.lt_irrefl la.length))) (lo' := []) (by kernel_rfl)
    right
    refine ⟨?_, by grind[iter_end,ch105_canon]⟩
    rw [List.drop_length]
    by_cases hb : la.length < lb.length
    · rw [if_pos hb, ← List.getElem_cons_drop hb]; rfl
    · rw [if_neg hb, List.drop_eq_nil_of_le (by omega)]; rfl
  | d + 1, j, F, hj, hF => by
    obtain ⟨F', rfl⟩ : ∃ F', F = F' + 1 := ⟨F - 1, by omega⟩
    have hn := cellsF_length la
    have hm := cellsF_length lb
    have hj' : j < la.length := by omega
    have hd : la.drop j = la[j] :: la.drop (j + 1) := by rw [← List.getElem_cons_drop hj']
    have hg := cellsF_get hj'
    have hma := List.getElem_mem hj'
    rw [hd]
    generalize la[j] = a at hg hma
    obtain ⟨a0, a1, a2, a3, a4, a5, a6⟩ := a
    by_cases hb : j < lb.length
    · have hdb : lb.drop j = lb[j] :: lb.drop (j + 1) := by rw [← List.getElem_cons_drop hb]
      have hgb := cellsF_get hb
      have hmb := List.getElem_mem hb
      rw [hdb]
      generalize lb[j] = b at hgb hmb
      obtain ⟨b0, b1, b2, b3, b4, b5, b6⟩ := b
      have hc := hr _ _ hma hmb
      rw [lexC]
      by_cases h : r (a0, Val.mk a1 a2 a3 a4 a5 a6) (b0, Val.mk b1 b2 b3 b4 b5 b6) = 0
      · rw [if_pos h]
        have hs : ∃ bx, run (callF tab ext M) 0 M (loopAt 71 0) (ch105 g (cellsF la) (cellsF lb) (cellsF la).length j) = some (.norm, ⟨(ch105 g (cellsF la) (cellsF lb) (cellsF la).length (j + 1)).tm, bx⟩) :=
          ⟨[.var (strX a0 :: (Val.mk a1 a2 a3 a4 a5 a6).cells), .var (strX b0 :: (Val.mk b1 b2 b3 b4 b5 b6).cells)], run_of [(14, .b true), (16, .e (strX a0 :: (Val.mk a1 a2 a3 a4 a5 a6).cells)), (21, .b false), (24, .e (strX b0 :: (Val.mk b1 b2 b3 b4 b5 b6).cells)), (29, .p (num (r (a0, Val.mk a1 a2 a3 a4 a5 a6) (b0, Val.mk b1 b2 b3 b4 b5 b6)))), (31, .b false), (33, .i (Int.ofNat (j + 1)))] []
            (pf7 (lt_nat (j := j) (k := (cellsF la).length) (by omega)) hg (ge_false (j := j) (k := (cellsF lb).length) (by omega)) hgb hc (ne_false h) (next_nat (j := j) (by omega))) (lo' := []) (by kernel_rfl)⟩
        obtain ⟨bx, hs⟩ := hs
        have hcn : canon 0 ⟨(ch105 g (cellsF la) (cellsF lb) (cellsF la).length (j + 1)).tm, bx⟩ = some (ch105 g (cellsF la) (cellsF lb) (cellsF la).length (j + 1)) := by kernel_rfl
        have := cmp105_loop M g la lb r hr hl d (j + 1) F' (by omega) (by omega)
        have hi : iter 0 (run (callF tab ext M) 0 M (loopAt 71 0)) (F' + 1) (ch105 g (cellsF la) (cellsF lb) (cellsF la).length j) = iter 0 (run (callF tab ext M) 0 M (loopAt 71 0)) F' (ch105 g (cellsF la) (cellsF lb) (cellsF la).length (j + 1)) :=
          (iter_step (ch105_canon _ _ _ _ _) hs rfl).trans (iter_canon hcn (ch105_canon _ _ _ _ _))
        grind
      · rw [if_neg h]
        left
        exact ⟨_, iter_end (ch105_canon _ _ _ _ _) (run_of [(14, .b true), (16, .e (strX a0 :: (Val.mk a1 a2 a3 a4 a5 a6).cells)), (21, .b false), (24, .e (strX b0 :: (Val.mk b1 b2 b3 b4 b5 b6).cells)), (29, .p (num (r (a0, Val.mk a1 a2 a3 a4 a5 a6) (b0, Val.mk b1 b2 b3 b4 b5 b6)))), (31, .b true)] []
            (pf6 (lt_nat (j := j) (k := (cellsF la).length) (by omega)) hg (ge_false (j := j) (k := (cellsF lb).length) (by omega)) hgb hc (ne_true h)) (lo' := []) (σ' := ⟨[(6, num (r (a0, Val.mk a1 a2 a3 a4 a5 a6) (b0, Val.mk b1 b2 b3 b4 b5 b6)))], [.var (strX a0 :: (Val.mk a1 a2 a3 a4 a5 a6).cells), .var (strX b0 :: (Val.mk b1 b2 b3 b4 b5 b6).cells)]⟩) (by kernel_rfl)) (by simp)⟩
    · left
      rw [List.drop_eq_nil_of_le (by omega : lb.length ≤ j), lexC]
      exact ⟨_, iter_end (ch105_canon _ _ _ _ _) (run_of [(14, .b true), (16, .e (strX a0 :: (Val.mk a1 a2 a3 a4 a5 a6).cells)), (21, .b true)] []
            (pf3 (lt_nat (j := j) (k := (cellsF la).length) (by omega)) hg (ge_true (j := j) (k := (cellsF lb).length) (by omega))) (lo' := []) (σ' := ⟨[(6, num 1)], [.var (strX a0 :: (Val.mk a1 a2 a3 a4 a5 a6).cells)]⟩) (by kernel_rfl)) (by simp)⟩
theorem cmp105_pure (M g : Nat) (la lb : List (ByteArray × Val)) (r : (ByteArray × Val) → (ByteArray × Val) → Int) (hr : ∀ a b, a ∈ la → b ∈ lb → Gam.pureD (callF tab ext M) g [.agg (strX a.1 :: a.2.cells), .agg (strX b.1 :: b.2.cells)] = some (num (r a b))) (hl : la.length < 4000000) (hN : la.length < M) :
    Gam.pureD (callF tab ext (M + 1)) 71 [.sl false 7 (cellsF la), .sl false 7 (cellsF lb), .fn g []] = some (num (lexC r la lb)) := by
  have hn := cellsF_length la
  have hm := cellsF_length lb
  rcases cmp105_loop M g la lb r hr hl la.length 0 M (by omega) hN with ⟨bx, h⟩ | ⟨h0, h⟩
  · exact pure_of [] [(.ret, ⟨[(6, num (lexC r la lb))], bx⟩)] (pf1 h) (x := num (lexC r la lb)) (bx := []) (by kernel_rfl) rfl
  · have h0' : lexC r la lb = (if la.length < lb.length then -1 else 0) := h0
    rw [h0']
    by_cases hb : la.length < lb.length
    · rw [if_pos hb]
      exact pure_of [(38, .b true)] [(.exit 0, ce105 g (cellsF la) (cellsF lb) (cellsF la).length (cellsF la).length)] (pf2 h (lt_nat (j := (cellsF la).length) (k := (cellsF lb).length) (by omega))) (x := num (-1)) (bx := []) (by kernel_rfl) rfl
    · rw [if_neg hb]
      exact pure_of [(38, .b false)] [(.exit 0, ce105 g (cellsF la) (cellsF lb) (cellsF la).length (cellsF la).length)] (pf2 h (nlt_nat (j := (cellsF la).length) (k := (cellsF lb).length) (by omega))) (x := num 0) (bx := []) (by kernel_rfl) rfl
end Go.Proofs.YthphniobeigklaaGreatDoor

/- Comparisons of values and of stamps; what is equal compares as equal. -/
namespace Go.Proofs.YthphniobeigklaaGreatDoor
open Go.Em
set_option maxRecDepth 100000

def cmpB (a b : ByteArray) : Int := Lib.compareBytes a.data.toList b.data.toList
mutual
/-- How two values compare. -/
def cmpV : Val → Val → Int
  | .mk k i s t l f, .mk k' i' s' t' l' f' => orL [ordI k k', ordI i i', ordI s s', cmpB t t', cmpVL l l', cmpVF f f']
def cmpVL : List Val → List Val → Int
  | [], [] => 0
  | [], _ :: _ => -1
  | _ :: _, [] => 1
  | a :: l, b :: m => if cmpV a b = 0 then cmpVL l m else cmpV a b
def cmpVF : List (ByteArray × Val) → List (ByteArray × Val) → Int
  | [], [] => 0
  | [], _ :: _ => -1
  | _ :: _, [] => 1
  | (x, a) :: l, (y, b) :: m => if orL [cmpB x y, cmpV a b] = 0 then cmpVF l m else orL [cmpB x y, cmpV a b]
end
def cmpF (p q : ByteArray × Val) : Int := orL [cmpB p.1 q.1, cmpV p.2 q.2]
theorem cmpVL_eq : ∀ l m, cmpVL l m = lexC cmpV l m
  | [], [] => rfl
  | [], _ :: _ => rfl
  | _ :: _, [] => rfl
  | a :: l, b :: m => by simp only [cmpVL, lexC, cmpVL_eq l m]
theorem cmpVF_eq : ∀ l m, cmpVF l m = lexC cmpF l m
  | [], [] => rfl
  | [], _ :: _ => rfl
  | _ :: _, [] => rfl
  | (x, a) :: l, (y, b) :: m => by simp only [cmpVF, lexC, cmpF, cmpVF_eq l m]; rfl

theorem cmp_str (N : Nat) (a b : ByteArray) : Gam.pureD (callF tab ext (N + 3)) 69 [strX a, strX b] = some (num (cmpB a b)) := by kernel_rfl

theorem cmp_val : ∀ (n N : Nat) (v w : Val), v.size ≤ n → 3 * n + 12 ≤ N → v.size < 1000000 → Gam.pureD (callF tab ext N) 37 [.agg v.cells, .agg w.cells] = some (num (cmpV v w))
  | 0, _, .mk .., _, h, _, _ => by grind[Val.size]
  | n + 1, N, .mk k i s t l f, .mk k' i' s' t' l' f', h, hN, hs => by
    obtain ⟨M, rfl⟩ : ∃ M, N = M + 12 := ⟨N - 12, by omega⟩
    simp only [Val.size] at h hs
    have hl := sizeL_length l
    have hf := sizeF_length f
    have h1 : Gam.pureD (callF tab ext (M + 11)) 70 [.sl false 6 (cellsL l), .sl false 6 (cellsL l'), .fn 37 []] = some (num (lexC cmpV l l')) :=
      cmp104_pure (M + 10) 37 l l' cmpV (fun a b ha _ => by have := sizeL_mem ha; exact cmp_val n (M + 10) a b (by omega) (by omega) (by omega)) (by omega) (by omega)
    have h2 : Gam.pureD (callF tab ext (M + 11)) 71 [.sl false 7 (cellsF f), .sl false 7 (cellsF f'), .fn 72 []] = some (num (lexC cmpF f f')) :=
      cmp105_pure (M + 10) 72 f f' cmpF (fun a b ha _ => by
        have := sizeF_mem ha
        have hv := cmp_val n (M + 9) a.2 b.2 (by omega) (by omega) (by omega)
        obtain ⟨a0, a1, a2, a3, a4, a5, a6⟩ := a
        obtain ⟨b0, b1, b2, b3, b4, b5, b6⟩ := b
        have ho := or_pure (M + 8) [cmpB a0 b0, cmpV (Val.mk a1 a2 a3 a4 a5 a6) (Val.mk b1 b2 b3 b4 b5 b6)] (by simp) (by simp)
        exact pure_of [(9, .p (num (cmpB a0 b0))), (14, .p (num (cmpV (Val.mk a1 a2 a3 a4 a5 a6) (Val.mk b1 b2 b3 b4 b5 b6)))), (16, .p (num (orL [cmpB a0 b0, cmpV (Val.mk a1 a2 a3 a4 a5 a6) (Val.mk b1 b2 b3 b4 b5 b6)])))] []
          (pf3 (cmp_str (M + 6) a0 b0) hv ho) (x := num (orL [cmpB a0 b0, cmpV (Val.mk a1 a2 a3 a4 a5 a6) (Val.mk b1 b2 b3 b4 b5 b6)])) (bx := []) (by kernel_rfl) rfl) (by omega) (by omega)
    have ho := or_pure (M + 10) [ordI k k', ordI i i', ordI s s', cmpB t t', lexC cmpV l l', lexC cmpF f f'] (by simp) (by simp)
    rw [cmpV, cmpVL_eq, cmpVF_eq]
    exact pure_of [(9, .p (num (ordI k k'))), (14, .p (num (ordI i i'))), (19, .p (num (ordI s s'))), (24, .p (num (cmpB t t'))), (29, .p (num (lexC cmpV l l'))), (34, .p (num (lexC cmpF f f'))), (36, .p (num (orL [ordI k k', ordI i i', ordI s s', cmpB t t', lexC cmpV l l', lexC cmpF f f'])))] []
      (pf7 (cmp_int (M + 7) k k') (cmp_int (M + 7) i i') (cmp_int (M + 7) s s') (cmp_str (M + 8) t t') h1 h2 ho) (x := num (orL [ordI k k', ordI i i', ordI s s', cmpB t t', lexC cmpV l l', lexC cmpF f f'])) (bx := []) (by kernel_rfl) rfl

theorem ordI_refl (a : Int) : ordI a a = 0 := by simp [ordI]
theorem cmpB_refl (a : ByteArray) : cmpB a a = 0 := by
  unfold cmpB
  induction a.data.toList with
  | nil => rfl
  | cons x r ih => grind[Lib.compareBytes]
theorem lexC_refl {α : Type} {r : α → α → Int} : ∀ {l : List α}, (∀ a, a ∈ l → r a a = 0) → lexC r l l = 0
  | [], _ => rfl
  | a :: l, h => by rw [lexC, if_pos (h a (by simp))]; exact lexC_refl fun b hb => h b (by grind)
mutual
theorem cmpV_refl : ∀ v, cmpV v v = 0
  | .mk k i s t l f => by simp only [cmpV, orL, ordI_refl, cmpB_refl, cmpVL_refl l, cmpVF_refl f, if_true]
theorem cmpVL_refl : ∀ l, cmpVL l l = 0
  | [] => rfl
  | a :: l => by simp only [cmpVL, cmpV_refl a, cmpVL_refl l, if_true]
theorem cmpVF_refl : ∀ l, cmpVF l l = 0
  | [] => rfl
  | (x, a) :: l => by simp only [cmpVF, orL, cmpB_refl, cmpV_refl a, cmpVF_refl l, if_true]
end

theorem eq_val (N : Nat) (v w : Val) (h : 3 * v.size + 13 ≤ N) (hs : v.size < 1000000) : Gam.pureD (callF tab ext N) 16 [.agg v.cells, .agg w.cells] = some (boolX (cmpV v w == 0)) := by
  obtain ⟨M, rfl⟩ : ∃ M, N = M + 1 := ⟨N - 1, by omega⟩
  have hc := cmp_val v.size M v w (Nat.le_refl _) (by omega) hs
  obtain ⟨k, i, s, t, l, f⟩ := v
  obtain ⟨k', i', s', t', l', f'⟩ := w
  exact pure_of [(7, .p (num (cmpV (Val.mk k i s t l f) (Val.mk k' i' s' t' l' f'))))] [] (pf1 hc) (x := boolX (cmpV (Val.mk k i s t l f) (Val.mk k' i' s' t' l' f') == 0)) (bx := []) (by kernel_rfl) rfl

/-- A stamp: its entry, its path. -/
structure Stp where
  e : Int
  p : List Int
def Stp.cells (s : Stp) : List X := [num s.e, .sl false 1 (intsC s.p)]
def cmpS (a b : Stp) : Int := orL [ordI a.e b.e, lexC ordI a.p b.p]
theorem cmp_stamp (N : Nat) (a b : Stp) (h : a.p.length + 12 ≤ N) (hs : a.p.length < 1000000) : Gam.pureD (callF tab ext N) 41 [.agg a.cells, .agg b.cells] = some (num (cmpS a b)) := by
  obtain ⟨M, rfl⟩ : ∃ M, N = M + 12 := ⟨N - 12, by omega⟩
  obtain ⟨e, p⟩ := a
  obtain ⟨e', p'⟩ := b
  have h1 : Gam.pureD (callF tab ext (M + 11)) 76 [.sl false 1 (intsC p), .sl false 1 (intsC p'), .fn 77 []] = some (num (lexC ordI p p')) :=
    cmp98_pure (M + 10) 77 p p' ordI (fun x y _ _ => pure_of [(7, .p (num (ordI x y)))] [] (pf1 (cmp_int (M + 5) x y)) (x := num (ordI x y)) (bx := []) (by kernel_rfl) rfl) (by grind) (by grind)
  have ho := or_pure (M + 10) [ordI e e', lexC ordI p p'] (by simp) (by simp)
  exact pure_of [(9, .p (num (ordI e e'))), (14, .p (num (lexC ordI p p'))), (16, .p (num (cmpS ⟨e, p⟩ ⟨e', p'⟩)))] [] (pf3 (cmp_int (M + 7) e e') h1 ho) (x := num (cmpS ⟨e, p⟩ ⟨e', p'⟩)) (bx := []) (by kernel_rfl) rfl
theorem eq_stamp (N : Nat) (a b : Stp) (h : a.p.length + 13 ≤ N) (hs : a.p.length < 1000000) : Gam.pureD (callF tab ext N) 21 [.agg a.cells, .agg b.cells] = some (boolX (cmpS a b == 0)) := by
  obtain ⟨M, rfl⟩ : ∃ M, N = M + 1 := ⟨N - 1, by omega⟩
  have hc := cmp_stamp M a b (by omega) hs
  exact pure_of [(7, .p (num (cmpS a b)))] [] (pf1 hc) (x := boolX (cmpS a b == 0)) (bx := []) (by kernel_rfl) rfl
theorem cmpS_refl (a : Stp) : cmpS a a = 0 := by
  simp_all[cmpS,orL,ordI_refl,lexC_refl]
end Go.Proofs.YthphniobeigklaaGreatDoor

/- Equality of lists; messages, slots, states. -/
namespace Go.Proofs.YthphniobeigklaaGreatDoor
open Go.Em
set_option maxRecDepth 100000

/-- Are two lists equal, by their elements? -/
def eqL {α β : Type} (r : α → β → Bool) : List α → List β → Bool
  | [], [] => true
  | [], _ :: _ => false
  | _ :: _, [] => false
  | a :: la, b :: lb => r a b && eqL r la lb
theorem eqL_len {α β : Type} {r : α → β → Bool} : ∀ {la : List α} {lb : List β}, la.length ≠ lb.length → eqL r la lb = false
  | [], [], h => absurd rfl h
  | [], _ :: _, _ => rfl
  | _ :: _, [], _ => rfl
  | a :: la, b :: lb, h => by rw [eqL, eqL_len (la := la) (lb := lb) (by grind), Bool.and_false]
theorem eqL_refl {α : Type} {r : α → α → Bool} : ∀ {l : List α}, (∀ a, a ∈ l → r a a = true) → eqL r l l = true
  | [], _ => rfl
  | a :: l, h => by rw [eqL, h a (by simp), eqL_refl fun b hb => h b (by grind)]; rfl
theorem nat_ne_false {j k : Nat} (h : j = k) : (!(Int.ofNat j == Int.ofNat k)) = false := by grind
theorem nat_ne_true {j k : Nat} (h : j ≠ k) : (!(Int.ofNat j == Int.ofNat k)) = true := by
  grind

/-- A message, a slot, a state. -/
structure Msg where
  st : Stp
  mass : Int
  orig : List Int
  body : Val
def Msg.cells (m : Msg) : List X := num m.st.e :: .sl false 1 (intsC m.st.p) :: num m.mass :: .sl false 1 (intsC m.orig) :: m.body.cells
def msgsC (l : List Msg) : List (List X) := l.map Msg.cells
theorem msgsC_length (l : List Msg) : (msgsC l).length = l.length := by simp [msgsC]
theorem msgsC_get {l : List Msg} {j : Nat} (h : j < l.length) : (msgsC l)[j]? = some l[j].cells := by grind[msgsC]
structure Slt where
  key : Val
  n : Int
  t : Int
  items : List Msg
  vals : List Val
def slotC (k i s : Int) (tx : ByteArray) (l f : List (List X)) (n t : Int) (ms vs : List (List X)) : List X := [num k, num i, num s, strX tx, .sl false 6 l, .sl false 7 f, num n, num t, .sl false 10 ms, .sl false 6 vs]
def Slt.cells : Slt → List X
  | ⟨.mk k i s tx l f, n, t, ms, vs⟩ => slotC k i s tx (cellsL l) (cellsF f) n t (msgsC ms) (cellsL vs)
def sltsC (l : List Slt) : List (List X) := l.map Slt.cells
theorem sltsC_length (l : List Slt) : (sltsC l).length = l.length := by simp [sltsC]
theorem sltsC_get {l : List Slt} {j : Nat} (h : j < l.length) : (sltsC l)[j]? = some l[j].cells := by grind[sltsC]
structure Stt where
  n : Int
  t : Int
  slots : List Slt
def Stt.cells (s : Stt) : List X := [num s.n, num s.t, .sl false 10 (sltsC s.slots)]
def stpsC (l : List Stp) : List (List X) := l.map Stp.cells
theorem stpsC_length (l : List Stp) : (stpsC l).length = l.length := by simp [stpsC]
theorem stpsC_get {l : List Stp} {j : Nat} (h : j < l.length) : (stpsC l)[j]? = some l[j].cells := by grind[stpsC]

/-! ### slices.Equal of numbers -/
def eh84 (l m : List (List X)) (n j : Nat) : St := ⟨[(0, .sl false 1 l), (1, .sl false 1 m), (12, nat n), (13, nat j)], []⟩
def ee84 (l m : List (List X)) (n j : Nat) : St := ⟨[(0, .sl false 1 l), (1, .sl false 1 m), (12, nat n), (13, nat j), (14, boolX false)], []⟩
theorem eh84_canon (l m : List (List X)) (n j : Nat) : canon 0 (eh84 l m n j) = some (eh84 l m n j) := by kernel_rfl
theorem eq84_loop (M : Nat) (la lb : List Int) (hlen : la.length = lb.length) (hl : la.length < 1000000) : ∀ d j F, j + d = la.length → d < F →
    (eqL (· == ·) (la.drop j) (lb.drop j) = false ∧ ∃ bx, iter 0 (run (callF tab ext M) 0 M (loopAt 101 0)) F (eh84 (intsC la) (intsC lb) (intsC la).length j) = some (.ret, ⟨[(4, boolX false)], bx⟩)) ∨
    (eqL (· == ·) (la.drop j) (lb.drop j) = true ∧ iter 0 (run (callF tab ext M) 0 M (loopAt 101 0)) F (eh84 (intsC la) (intsC lb) (intsC la).length j) = some (.exit 0, ee84 (intsC la) (intsC lb) (intsC la).length (intsC la).length))
  | 0, j, F, hj, hF => by
    obtain ⟨F', rfl⟩ : ∃ F', F = F' + 1 := ⟨F - 1, by omega⟩
    have hj' : j = la.length := by omega
    subst hj'
    have hn := intsC_length la
    have h : run (callF tab ext M) 0 M (loopAt 101 0) (eh84 (intsC la) (intsC lb) la.length la.length) = some (.exit 0, ee84 (intsC la) (intsC lb) la.length la.length) :=
      run_of [(14, .b false)] [] (pf1 (nlt_nat (Nat.lt_irrefl la.length))) (lo' := []) (by kernel_rfl)
    right
    refine ⟨?_, by grind[iter_end,eh84_canon]⟩
    rw [List.drop_length, hlen, List.drop_length]; rfl
  | d + 1, j, F, hj, hF => by
    obtain ⟨F', rfl⟩ : ∃ F', F = F' + 1 := ⟨F - 1, by omega⟩
    have hn := intsC_length la
    have hj' : j < la.length := by omega
    have hb : j < lb.length := by omega
    have hd : la.drop j = la[j] :: la.drop (j + 1) := by rw [← List.getElem_cons_drop hj']
    have hdb : lb.drop j = lb[j] :: lb.drop (j + 1) := by rw [← List.getElem_cons_drop hb]
    have hg := intsC_get hj'
    have hgb := intsC_get hb
    rw [hd, hdb, eqL]
    generalize la[j] = a at hg
    generalize lb[j] = b at hgb
    by_cases h : a = b
    · have hs : run (callF tab ext M) 0 M (loopAt 101 0) (eh84 (intsC la) (intsC lb) (intsC la).length j) = some (.norm, eh84 (intsC la) (intsC lb) (intsC la).length (j + 1)) :=
        run_of [(14, .b true), (18, .e [num a]), (22, .e [num b]), (24, .b false), (25, .i (Int.ofNat (j + 1)))] []
          (pf5 (lt_nat (j := j) (k := (intsC la).length) (by omega)) hg hgb (show (!(a == b)) = false by grind) (next_nat (j := j) (by omega))) (lo' := []) (by kernel_rfl)
      have hab : (a == b) = true := by simp [h]
      rw [iter_step (eh84_canon _ _ _ _) hs rfl, hab, Bool.true_and]
      exact eq84_loop M la lb hlen hl d (j + 1) F' (by omega) (by omega)
    · left
      have hab : (a == b) = false := by simp [h]
      refine ⟨by grind, ?_⟩
      exact ⟨_, iter_end (eh84_canon _ _ _ _) (run_of [(14, .b true), (18, .e [num a]), (22, .e [num b]), (24, .b true)] []
          (pf4 (lt_nat (j := j) (k := (intsC la).length) (by omega)) hg hgb (show (!(a == b)) = true by grind)) (lo' := []) (σ' := ⟨[(4, boolX false)], []⟩) (by kernel_rfl)) (by simp)⟩
theorem eq84_pure (N : Nat) (la lb : List Int) (hl : la.length < 1000000) (hN : la.length < N) :
    Gam.pureD (callF tab ext (N + 1)) 101 [.sl false 1 (intsC la), .sl false 1 (intsC lb)] = some (boolX (eqL (· == ·) la lb)) := by
  have hn := intsC_length la
  have hm := intsC_length lb
  by_cases hlen : la.length = lb.length
  · rcases eq84_loop N la lb hlen hl la.length 0 N (by omega) hN with ⟨h0, bx, h⟩ | ⟨h0, h⟩
    · have h0' : eqL (· == ·) la lb = false := h0
      rw [h0']
      exact pure_of [(10, .b false)] [(.ret, ⟨[(4, boolX false)], bx⟩)] (pf2 (nat_ne_false (j := (intsC la).length) (k := (intsC lb).length) (by omega)) h) (x := boolX false) (bx := []) (by kernel_rfl) rfl
    · have h0' : eqL (· == ·) la lb = true := h0
      rw [h0']
      exact pure_of [(10, .b false)] [(.exit 0, ee84 (intsC la) (intsC lb) (intsC la).length (intsC la).length)] (pf2 (nat_ne_false (j := (intsC la).length) (k := (intsC lb).length) (by omega)) h) (x := boolX true) (bx := []) (by kernel_rfl) rfl
  · rw [eqL_len hlen]
    exact pure_of [(10, .b true)] [] (pf1 (nat_ne_true (j := (intsC la).length) (k := (intsC lb).length) (by omega))) (x := boolX false) (bx := []) (by kernel_rfl) rfl

/-! ### slices.EqualFunc, 95 -/
section
variable (g : Nat) (l m : List (List X)) (n j : Nat)
def eh95 : St := ⟨[(1, .sl false 6 m), (2, .fn g []), (15, .sl false 6 l), (16, nat n), (17, nat j)], []⟩
def ee95 : St := ⟨[(1, .sl false 6 m), (2, .fn g []), (15, .sl false 6 l), (16, nat n), (17, nat j), (18, boolX false)], []⟩
theorem eh95_canon : canon 0 (eh95 g l m n j) = some (eh95 g l m n j) := by kernel_rfl
end
/-! ### slices.EqualFunc, 114 -/
section
variable (g : Nat) (l m : List (List X)) (n j : Nat)
def eh114 : St := ⟨[(1, .sl false 2 m), (2, .fn g []), (15, .sl false 2 l), (16, nat n), (17, nat j)], []⟩
def ee114 : St := ⟨[(1, .sl false 2 m), (2, .fn g []), (15, .sl false 2 l), (16, nat n), (17, nat j), (18, boolX false)], []⟩
theorem eh114_canon : canon 0 (eh114 g l m n j) = some (eh114 g l m n j) := by kernel_rfl
end
/-! ### slices.EqualFunc, 94 -/
section
variable (g : Nat) (l m : List (List X)) (n j : Nat)
def eh94 : St := ⟨[(1, .sl false 10 m), (2, .fn g []), (15, .sl false 10 l), (16, nat n), (17, nat j)], []⟩
def ee94 : St := ⟨[(1, .sl false 10 m), (2, .fn g []), (15, .sl false 10 l), (16, nat n), (17, nat j), (18, boolX false)], []⟩
theorem eh94_canon : canon 0 (eh94 g l m n j) = some (eh94 g l m n j) := by kernel_rfl
end
/-! ### slices.EqualFunc, 60 -/
section
variable (g : Nat) (l m : List (List X)) (n j : Nat)
def eh60 : St := ⟨[(1, .sl false 10 m), (2, .fn g []), (15, .sl false 10 l), (16, nat n), (17, nat j)], []⟩
def ee60 : St := ⟨[(1, .sl false 10 m), (2, .fn g []), (15, .sl false 10 l), (16, nat n), (17, nat j), (18, boolX false)], []⟩
theorem eh60_canon : canon 0 (eh60 g l m n j) = some (eh60 g l m n j) := by kernel_rfl
end
end Go.Proofs.YthphniobeigklaaGreatDoor

/- What is equal is found equal: messages, slots, states, outcomes. -/
namespace Go.Proofs.YthphniobeigklaaGreatDoor
open Go.Em
set_option maxRecDepth 100000

/-- An output, a fate, an outcome (without requests). -/
structure Otp where
  port : Int
  m : Msg
def Otp.cells (o : Otp) : List X := num o.port :: o.m.cells
def otpsC (l : List Otp) : List (List X) := l.map Otp.cells
theorem otpsC_length (l : List Otp) : (otpsC l).length = l.length := by simp [otpsC]
theorem otpsC_get {l : List Otp} {j : Nat} (h : j < l.length) : (otpsC l)[j]? = some l[j].cells := by grind[otpsC]
structure Fte where
  st : Stp
  kind : Int
  node : ByteArray
  into : List Stp
  text : ByteArray
def Fte.cells (f : Fte) : List X := [num f.st.e, .sl false 1 (intsC f.st.p), num f.kind, strX f.node, .sl false 2 (stpsC f.into), strX f.text]
def ftesC (l : List Fte) : List (List X) := l.map Fte.cells
theorem ftesC_length (l : List Fte) : (ftesC l).length = l.length := by simp [ftesC]
theorem ftesC_get {l : List Fte} {j : Nat} (h : j < l.length) : (ftesC l)[j]? = some l[j].cells := by grind[ftesC]
/-! ### Sizes -/
def Val.ok (v : Val) : Prop := v.size ≤ 60000
structure Stp.ok (s : Stp) : Prop where
  p : s.p.length ≤ 60000
structure Msg.ok (m : Msg) : Prop where
  st : m.st.ok
  orig : m.orig.length ≤ 60000
  body : m.body.ok
structure Slt.ok (s : Slt) : Prop where
  key : s.key.ok
  items : s.items.length ≤ 60000
  item : ∀ m, m ∈ s.items → m.ok
  vals : s.vals.length ≤ 60000
  val : ∀ v, v ∈ s.vals → v.ok
structure Stt.ok (s : Stt) : Prop where
  slots : s.slots.length ≤ 60000
  slot : ∀ x, x ∈ s.slots → x.ok
structure Fte.ok (f : Fte) : Prop where
  st : f.st.ok
  len : f.into.length ≤ 60000
  into : ∀ s, s ∈ f.into → s.ok
theorem eq_self {α : Type} [BEq α] [ReflBEq α] (a : α) : (a == a) = true := BEq.rfl
theorem bytes_self (a : ByteArray) : (a.toList == a.toList) = true := by simp
theorem nne_self {k : Nat} : (!(Int.ofNat k == Int.ofNat k)) = false := by simp

theorem eqr95 (M g : Nat) (l : List Val) (hr : ∀ a, a ∈ l → Gam.pureD (callF tab ext M) g [.agg a.cells, .agg a.cells] = some (boolX true)) (hl : l.length ≤ 60000) (hN : l.length < M) :
    Gam.pureD (callF tab ext (M + 1)) 94 [.sl false 6 (cellsL l), .sl false 6 (cellsL l), .fn g []] = some (boolX true) := by
  have hn := cellsL_length l
  have h : run (callF tab ext M) 0 M (.loop (loopAt 94 0)) (eh95 g (cellsL l) (cellsL l) (cellsL l).length 0) = some (.exit 0, ee95 g (cellsL l) (cellsL l) (cellsL l).length (cellsL l).length) := by
    refine loop_for (σ := fun j => eh95 g (cellsL l) (cellsL l) (cellsL l).length j) (k := (cellsL l).length) (eh95_canon _ _ _ _ _) (fun j hj => ?_) ?_ (by simp) (by omega)
    · have hj' : j < l.length := by omega
      have hg := cellsL_get hj'
      have hc := hr _ (List.getElem_mem hj')
      generalize l[j] = a at hg hc
      obtain ⟨a1, a2, a3, a4, a5, a6⟩ := a
      exact ⟨⟨(eh95 g (cellsL l) (cellsL l) (cellsL l).length (j + 1)).tm, [.var (Val.mk a1 a2 a3 a4 a5 a6).cells, .var (Val.mk a1 a2 a3 a4 a5 a6).cells]⟩, run_of [(18, .b true), (20, .e (Val.mk a1 a2 a3 a4 a5 a6).cells), (24, .e (Val.mk a1 a2 a3 a4 a5 a6).cells), (29, .p (boolX true)), (31, .i (Int.ofNat (j + 1)))] []
          (pf5 (lt_nat (j := j) (k := (cellsL l).length) (by omega)) hg hg hc (next_nat (j := j) (by omega))) (lo' := []) (by kernel_rfl), by kernel_rfl⟩
    · exact run_of [(18, .b false)] [] (pf1 (nlt_nat (Nat.lt_irrefl (cellsL l).length))) (lo' := []) (by kernel_rfl)
  exact pure_of [(14, .b false)] [(.exit 0, ee95 g (cellsL l) (cellsL l) (cellsL l).length (cellsL l).length)] (pf2 (nne_self (k := (cellsL l).length)) h) (x := boolX true) (bx := []) (by kernel_rfl) rfl

theorem eqr114 (M g : Nat) (l : List Stp) (hr : ∀ a, a ∈ l → Gam.pureD (callF tab ext M) g [.agg a.cells, .agg a.cells] = some (boolX true)) (hl : l.length ≤ 60000) (hN : l.length < M) :
    Gam.pureD (callF tab ext (M + 1)) 102 [.sl false 2 (stpsC l), .sl false 2 (stpsC l), .fn g []] = some (boolX true) := by
  have hn := stpsC_length l
  have h : run (callF tab ext M) 0 M (.loop (loopAt 102 0)) (eh114 g (stpsC l) (stpsC l) (stpsC l).length 0) = some (.exit 0, ee114 g (stpsC l) (stpsC l) (stpsC l).length (stpsC l).length) := by
    refine loop_for (σ := fun j => eh114 g (stpsC l) (stpsC l) (stpsC l).length j) (k := (stpsC l).length) (eh114_canon _ _ _ _ _) (fun j hj => ?_) ?_ (by simp) (by omega)
    · have hj' : j < l.length := by omega
      have hg := stpsC_get hj'
      have hc := hr _ (List.getElem_mem hj')
      generalize l[j] = a at hg hc
      obtain ⟨a1, a2⟩ := a
      exact ⟨⟨(eh114 g (stpsC l) (stpsC l) (stpsC l).length (j + 1)).tm, [.var (Stp.mk a1 a2).cells, .var (Stp.mk a1 a2).cells]⟩, run_of [(18, .b true), (20, .e (Stp.mk a1 a2).cells), (24, .e (Stp.mk a1 a2).cells), (29, .p (boolX true)), (31, .i (Int.ofNat (j + 1)))] []
          (pf5 (lt_nat (j := j) (k := (stpsC l).length) (by omega)) hg hg hc (next_nat (j := j) (by omega))) (lo' := []) (by kernel_rfl), by kernel_rfl⟩
    · exact run_of [(18, .b false)] [] (pf1 (nlt_nat (Nat.lt_irrefl (stpsC l).length))) (lo' := []) (by kernel_rfl)
  exact pure_of [(14, .b false)] [(.exit 0, ee114 g (stpsC l) (stpsC l) (stpsC l).length (stpsC l).length)] (pf2 (nne_self (k := (stpsC l).length)) h) (x := boolX true) (bx := []) (by kernel_rfl) rfl

theorem eqr94 (M g : Nat) (l : List Msg) (hr : ∀ a, a ∈ l → Gam.pureD (callF tab ext M) g [.agg a.cells, .agg a.cells] = some (boolX true)) (hl : l.length ≤ 60000) (hN : l.length < M) :
    Gam.pureD (callF tab ext (M + 1)) 93 [.sl false 10 (msgsC l), .sl false 10 (msgsC l), .fn g []] = some (boolX true) := by
  have hn := msgsC_length l
  have h : run (callF tab ext M) 0 M (.loop (loopAt 93 0)) (eh94 g (msgsC l) (msgsC l) (msgsC l).length 0) = some (.exit 0, ee94 g (msgsC l) (msgsC l) (msgsC l).length (msgsC l).length) := by
    refine loop_for (σ := fun j => eh94 g (msgsC l) (msgsC l) (msgsC l).length j) (k := (msgsC l).length) (eh94_canon _ _ _ _ _) (fun j hj => ?_) ?_ (by simp) (by omega)
    · have hj' : j < l.length := by omega
      have hg := msgsC_get hj'
      have hc := hr _ (List.getElem_mem hj')
      generalize l[j] = a at hg hc
      obtain ⟨⟨a1, a2⟩, a3, a4, a5, a6, a7, a8, a9, a0⟩ := a
      exact ⟨⟨(eh94 g (msgsC l) (msgsC l) (msgsC l).length (j + 1)).tm, [.var (Msg.mk ⟨a1, a2⟩ a3 a4 (Val.mk a5 a6 a7 a8 a9 a0)).cells, .var (Msg.mk ⟨a1, a2⟩ a3 a4 (Val.mk a5 a6 a7 a8 a9 a0)).cells]⟩, run_of [(18, .b true), (20, .e (Msg.mk ⟨a1, a2⟩ a3 a4 (Val.mk a5 a6 a7 a8 a9 a0)).cells), (24, .e (Msg.mk ⟨a1, a2⟩ a3 a4 (Val.mk a5 a6 a7 a8 a9 a0)).cells), (29, .p (boolX true)), (31, .i (Int.ofNat (j + 1)))] []
          (pf5 (lt_nat (j := j) (k := (msgsC l).length) (by omega)) hg hg hc (next_nat (j := j) (by omega))) (lo' := []) (by kernel_rfl), by kernel_rfl⟩
    · exact run_of [(18, .b false)] [] (pf1 (nlt_nat (Nat.lt_irrefl (msgsC l).length))) (lo' := []) (by kernel_rfl)
  exact pure_of [(14, .b false)] [(.exit 0, ee94 g (msgsC l) (msgsC l) (msgsC l).length (msgsC l).length)] (pf2 (nne_self (k := (msgsC l).length)) h) (x := boolX true) (bx := []) (by kernel_rfl) rfl

theorem eqr60 (M g : Nat) (l : List Slt) (hr : ∀ a, a ∈ l → Gam.pureD (callF tab ext M) g [.agg a.cells, .agg a.cells] = some (boolX true)) (hl : l.length ≤ 60000) (hN : l.length < M) :
    Gam.pureD (callF tab ext (M + 1)) 51 [.sl false 10 (sltsC l), .sl false 10 (sltsC l), .fn g []] = some (boolX true) := by
  have hn := sltsC_length l
  have h : run (callF tab ext M) 0 M (.loop (loopAt 51 0)) (eh60 g (sltsC l) (sltsC l) (sltsC l).length 0) = some (.exit 0, ee60 g (sltsC l) (sltsC l) (sltsC l).length (sltsC l).length) := by
    refine loop_for (σ := fun j => eh60 g (sltsC l) (sltsC l) (sltsC l).length j) (k := (sltsC l).length) (eh60_canon _ _ _ _ _) (fun j hj => ?_) ?_ (by simp) (by omega)
    · have hj' : j < l.length := by omega
      have hg := sltsC_get hj'
      have hc := hr _ (List.getElem_mem hj')
      generalize l[j] = a at hg hc
      obtain ⟨⟨a1, a2, a3, a4, a5, a6⟩, a7, a8, a9, a0⟩ := a
      exact ⟨⟨(eh60 g (sltsC l) (sltsC l) (sltsC l).length (j + 1)).tm, [.var (Slt.mk (Val.mk a1 a2 a3 a4 a5 a6) a7 a8 a9 a0).cells, .var (Slt.mk (Val.mk a1 a2 a3 a4 a5 a6) a7 a8 a9 a0).cells]⟩, run_of [(18, .b true), (20, .e (Slt.mk (Val.mk a1 a2 a3 a4 a5 a6) a7 a8 a9 a0).cells), (24, .e (Slt.mk (Val.mk a1 a2 a3 a4 a5 a6) a7 a8 a9 a0).cells), (29, .p (boolX true)), (31, .i (Int.ofNat (j + 1)))] []
          (pf5 (lt_nat (j := j) (k := (sltsC l).length) (by omega)) hg hg hc (next_nat (j := j) (by omega))) (lo' := []) (by kernel_rfl), by kernel_rfl⟩
    · exact run_of [(18, .b false)] [] (pf1 (nlt_nat (Nat.lt_irrefl (sltsC l).length))) (lo' := []) (by kernel_rfl)
  exact pure_of [(14, .b false)] [(.exit 0, ee60 g (sltsC l) (sltsC l) (sltsC l).length (sltsC l).length)] (pf2 (nne_self (k := (sltsC l).length)) h) (x := boolX true) (bx := []) (by kernel_rfl) rfl

section
variable (l m : List (List X)) (j : Nat)
end
section
variable (l m : List (List X)) (j : Nat)
end
theorem val_refl (N : Nat) (v : Val) (h : v.ok) (hN : 190000 ≤ N) : Gam.pureD (callF tab ext N) 16 [.agg v.cells, .agg v.cells] = some (boolX true) := by
  grind[Val.ok,eq_val,cmpV_refl]
theorem stp_refl (N : Nat) (s : Stp) (h : s.ok) (hN : 190000 ≤ N) : Gam.pureD (callF tab ext N) 21 [.agg s.cells, .agg s.cells] = some (boolX true) := by
  have := h.p<;>grind[eq_stamp,cmpS_refl]
theorem ints_refl (N : Nat) (l : List Int) (h : l.length ≤ 60000) (hN : 190000 ≤ N) : Gam.pureD (callF tab ext N) 101 [.sl false 1 (intsC l), .sl false 1 (intsC l)] = some (boolX true) := by
  obtain ⟨M, rfl⟩ : ∃ M, N = M + 1 := ⟨N - 1, by omega⟩
  rw [eq84_pure M l l (by omega) (by omega), eqL_refl (by simp)]
theorem msg_refl (N : Nat) (m : Msg) (h : m.ok) (hN : 190001 ≤ N) : Gam.pureD (callF tab ext N) 63 [.agg m.cells, .agg m.cells] = some (boolX true) := by
  obtain ⟨M, rfl⟩ : ∃ M, N = M + 1 := ⟨N - 1, by omega⟩
  have h1 := stp_refl M m.st h.st (by omega)
  have h2 := ints_refl M m.orig h.orig (by omega)
  have h3 := val_refl M m.body h.body (by omega)
  obtain ⟨⟨a1, a2⟩, a3, a4, a5, a6, a7, a8, a9, a0⟩ := m
  exact pure_of [(9, .p (boolX true)), (15, .b true), (22, .p (boolX true)), (29, .p (boolX true))] [] (pf4 h1 (eq_self a3) h2 h3) (x := boolX true) (bx := []) (by kernel_rfl) rfl
theorem fte_refl (N : Nat) (f : Fte) (h : f.ok) (hN : 190002 ≤ N) : Gam.pureD (callF tab ext N) 64 [.agg f.cells, .agg f.cells] = some (boolX true) := by
  obtain ⟨M, rfl⟩ : ∃ M, N = M + 2 := ⟨N - 2, by omega⟩
  have hi := h.len
  have h1 := stp_refl (M + 1) f.st h.st (by omega)
  have h2 := eqr114 M 21 f.into (fun a ha => stp_refl M a (h.into a ha) (by omega)) (by omega) (by omega)
  obtain ⟨⟨a1, a2⟩, a3, a4, a5, a6⟩ := f
  exact pure_of [(9, .p (boolX true)), (15, .b true), (22, .b true), (29, .b true), (36, .p (boolX true))] [] (pf5 h1 (eq_self a3) (bytes_self a4) (bytes_self a6) h2) (x := boolX true) (bx := []) (by kernel_rfl) rfl
theorem slt_refl (N : Nat) (s : Slt) (h : s.ok) (hN : 190005 ≤ N) : Gam.pureD (callF tab ext N) 52 [.agg s.cells, .agg s.cells] = some (boolX true) := by
  obtain ⟨M, rfl⟩ : ∃ M, N = M + 2 := ⟨N - 2, by omega⟩
  have hi := h.items
  have hv := h.vals
  have h1 := val_refl (M + 1) s.key h.key (by omega)
  have h2 := eqr94 M 63 s.items (fun a ha => msg_refl M a (h.item a ha) (by omega)) (by omega) (by omega)
  have h3 := eqr95 M 16 s.vals (fun a ha => val_refl M a (h.val a ha) (by omega)) (by omega) (by omega)
  obtain ⟨⟨a1, a2, a3, a4, a5, a6⟩, a7, a8, a9, a0⟩ := s
  exact pure_of [(9, .p (boolX true)), (15, .b true), (22, .b true), (29, .p (boolX true)), (36, .p (boolX true))] [] (pf5 h1 (eq_self a7) (eq_self a8) h2 h3) (x := boolX true) (bx := []) (by kernel_rfl) rfl
theorem stt_refl (N : Nat) (s : Stt) (h : s.ok) (hN : 190010 ≤ N) : Gam.pureD (callF tab ext N) 28 [.agg s.cells, .agg s.cells] = some (boolX true) := by
  obtain ⟨M, rfl⟩ : ∃ M, N = M + 2 := ⟨N - 2, by omega⟩
  have hi := h.slots
  have h2 := eqr60 M 52 s.slots (fun a ha => slt_refl M a (h.slot a ha) (by omega)) (by omega) (by omega)
  obtain ⟨a1, a2, a3⟩ := s
  exact pure_of [(9, .b true), (15, .b true), (22, .p (boolX true))] [] (pf3 (eq_self a1) (eq_self a2) h2) (x := boolX true) (bx := []) (by kernel_rfl) rfl
section
variable (a : List X) (z : List (List X)) (j : Nat)
end
end Go.Proofs.YthphniobeigklaaGreatDoor

/- Copies of messages, of slots, of states. -/
namespace Go.Proofs.YthphniobeigklaaGreatDoor
open Go.Em
set_option maxRecDepth 100000

theorem intsOf_intsC : ∀ l : List Int, intsOf (intsC l) = some l
  | [] => rfl
  | x :: l => by
    have h := intsOf_intsC l
    show (match intsOf (intsC l) with
      | some l => some (x :: l)
      | none => none) = some (x :: l)
    rw [h]
theorem clone_row (N : Nat) (l : List Int) (hl : l.length ≤ 60000) : callF tab ext (N + 1) (.fn 42) [.sl false 1 (intsC l)] [] = some (.bs 0 0 l.length, [.row 1 (intsC l)]) := by
  show cloneExt [.sl false 1 (intsC l)] [] = _
  unfold cloneExt
  simp only [intsOf_intsC, if_pos (show l.length ≤ 1000000 by omega)]
  rfl
theorem clone_ints (N : Nat) (l : List Int) (hl : l.length ≤ 60000) : Gam.pureD (callF tab ext (N + 1)) 42 [.sl false 1 (intsC l)] = some (.sl false 1 (intsC l)) := by
  simp_all[Gam.pureD,clone_row,X.data,rowOf,intsC_length,List.take_of_length_le]
theorem clone_stamp (N : Nat) (s : Stp) (h : s.ok) : Gam.pureD (callF tab ext (N + 2)) 74 [.agg s.cells] = some (.agg s.cells) :=
  pure_of [(7, .p (.sl false 1 (intsC s.p)))] [] (pf1 (clone_ints N s.p h.p)) (x := .agg s.cells) (bx := []) (by kernel_rfl) rfl
theorem clone_msg (N : Nat) (m : Msg) (h : m.ok) (hN : 190001 ≤ N) : Gam.pureD (callF tab ext N) 40 [.agg m.cells] = some (.agg m.cells) := by
  obtain ⟨M, rfl⟩ : ∃ M, N = M + 3 := ⟨N - 3, by omega⟩
  have h1 := clone_stamp M m.st h.st
  have h2 := clone_ints (M + 1) m.orig h.orig
  have hb := h.body
  unfold Val.ok at hb
  have h3 := clone_val (M + 2) m.body (by omega) (by omega)
  obtain ⟨⟨a1, a2⟩, a3, a4, a5, a6, a7, a8, a9, a0⟩ := m
  exact pure_of [(5, .p (.agg (Stp.mk a1 a2).cells)), (10, .p (.sl false 1 (intsC a4))), (13, .p (.agg (Val.mk a5 a6 a7 a8 a9 a0).cells))] [] (pf3 h1 h2 h3) (x := .agg (Msg.mk ⟨a1, a2⟩ a3 a4 (Val.mk a5 a6 a7 a8 a9 a0)).cells) (bx := []) (by kernel_rfl) rfl

def zSlot : List X := [num 0, num 0, num 0, noText, .sl true 6 [], .sl true 7 [], num 0, num 0, .sl true 10 [], .sl true 6 []]
/-! ### cloneSlot -/
section
variable (s items acc vals accV : List (List X)) (n m k j : Nat)
variable (k0 i0 s0 : Int) (t0 : ByteArray) (l0 f0 : List (List X)) (n0 d0 : Int) (x : List X)
def csH : St := ⟨[(1, .ptr 0 0 0), (2, .ptr 1 0 0), (3, .bs 2 0 j), (14, .sl false 10 items), (15, nat n), (16, nat j)], [.var (slotC k0 i0 s0 t0 l0 f0 n0 d0 items vals), .var zSlot, .row 10 acc]⟩
def csH' : St := ⟨[(1, .ptr 0 0 0), (2, .ptr 1 0 0), (3, .bs 4 0 (j + 1)), (14, .sl false 10 items), (15, nat n), (16, nat (j + 1))], [.var (slotC k0 i0 s0 t0 l0 f0 n0 d0 items vals), .var zSlot, .dead, .var x, .row 10 (acc ++ [x])]⟩
def csE : St := ⟨[(1, .ptr 0 0 0), (2, .ptr 1 0 0), (3, .bs 2 0 j), (14, .sl false 10 items), (15, nat n), (16, nat j), (17, boolX false)], [.var (slotC k0 i0 s0 t0 l0 f0 n0 d0 items vals), .var zSlot, .row 10 acc]⟩
theorem cs_canon : canon 0 (csH items acc vals n j k0 i0 s0 t0 l0 f0 n0 d0) = some (csH items acc vals n j k0 i0 s0 t0 l0 f0 n0 d0) := by kernel_rfl
theorem cs_canon' : canon 0 (csH' items acc vals n j k0 i0 s0 t0 l0 f0 n0 d0 x) = some (csH items (acc ++ [x]) vals n (j + 1) k0 i0 s0 t0 l0 f0 n0 d0) := by kernel_rfl
def cvH : St := ⟨[(1, .ptr 0 0 0), (2, .ptr 1 0 0), (3, .bs 2 0 m), (6, .bs 3 0 j), (31, .sl false 6 vals), (32, nat n), (33, nat j)], [.var (slotC k0 i0 s0 t0 l0 f0 n0 d0 items vals), .var zSlot, .row 10 acc, .row 6 accV]⟩
def cvH' : St := ⟨[(1, .ptr 0 0 0), (2, .ptr 1 0 0), (3, .bs 2 0 m), (6, .bs 5 0 (j + 1)), (31, .sl false 6 vals), (32, nat n), (33, nat (j + 1))], [.var (slotC k0 i0 s0 t0 l0 f0 n0 d0 items vals), .var zSlot, .row 10 acc, .dead, .var x, .row 6 (accV ++ [x])]⟩
def cvE : St := ⟨[(1, .ptr 0 0 0), (2, .ptr 1 0 0), (3, .bs 2 0 m), (6, .bs 3 0 j), (31, .sl false 6 vals), (32, nat n), (33, nat j), (34, boolX false)], [.var (slotC k0 i0 s0 t0 l0 f0 n0 d0 items vals), .var zSlot, .row 10 acc, .row 6 accV]⟩
theorem cv_canon : canon 0 (cvH items acc vals accV n m j k0 i0 s0 t0 l0 f0 n0 d0) = some (cvH items acc vals accV n m j k0 i0 s0 t0 l0 f0 n0 d0) := by kernel_rfl
theorem cv_canon' : canon 0 (cvH' items acc vals accV n m j k0 i0 s0 t0 l0 f0 n0 d0 x) = some (cvH items acc vals (accV ++ [x]) n m (j + 1) k0 i0 s0 t0 l0 f0 n0 d0) := by kernel_rfl
end

theorem clone_slot (N : Nat) (s : Slt) (h : s.ok) (hN : 190005 ≤ N) : callF tab ext N (.fn 79) [.agg s.cells] [] = some (match s with
    | ⟨.mk k i s t l f, n, d, ms, vs⟩ => (.agg [num k, num i, num s, strX t, .sl false 6 (cellsL l), .sl false 7 (cellsF f), num n, num d, .bs 0 0 (msgsC ms).length, .bs 1 0 (cellsL vs).length], [.row 10 (msgsC ms), .row 6 (cellsL vs)])) := by
  obtain ⟨M, rfl⟩ : ∃ M, N = M + 1 := ⟨N - 1, by omega⟩
  have hi := h.items
  have hv := h.vals
  have hk := h.key
  have hit := h.item
  have hva := h.val
  obtain ⟨⟨k0, i0, s0, t0, l0, f0⟩, n0, d0, ms, vs⟩ := s
  have em := msgsC_length ms
  have ev := cellsL_length vs
  dsimp only at hi hv hk hit hva
  unfold Val.ok at hk
  have hk' := clone_val M (Val.mk k0 i0 s0 t0 l0 f0) (by omega) (by omega)
  have h1 : run (callF tab ext M) 0 M (.loop (loopAt 79 0)) (csH (msgsC ms) [] (cellsL vs) (msgsC ms).length 0 k0 i0 s0 t0 (cellsL l0) (cellsF f0) n0 d0) = some (.exit 0, csE (msgsC ms) (msgsC ms) (cellsL vs) (msgsC ms).length (msgsC ms).length k0 i0 s0 t0 (cellsL l0) (cellsF f0) n0 d0) := by
    refine loop_for (σ := fun j => csH (msgsC ms) ((msgsC ms).take j) (cellsL vs) (msgsC ms).length j k0 i0 s0 t0 (cellsL l0) (cellsF f0) n0 d0) (k := (msgsC ms).length) (cs_canon ..) (fun j hj => ?_) ?_ (by simp) (by omega)
    · have hj' : j < ms.length := by omega
      have hg := msgsC_get hj'
      have hc := clone_msg M ms[j] (hit _ (List.getElem_mem hj')) (by omega)
      have ht := take_succ_get hg
      generalize ms[j] = a at hg hc ht
      obtain ⟨⟨a1, a2⟩, a3, a4, a5, a6, a7, a8, a9, a0⟩ := a
      refine ⟨csH' (msgsC ms) ((msgsC ms).take j) (cellsL vs) (msgsC ms).length j k0 i0 s0 t0 (cellsL l0) (cellsF f0) n0 d0 (Msg.mk ⟨a1, a2⟩ a3 a4 (Val.mk a5 a6 a7 a8 a9 a0)).cells, run_of [(17, .b true), (18, .e (Msg.mk ⟨a1, a2⟩ a3 a4 (Val.mk a5 a6 a7 a8 a9 a0)).cells), (22, .p (.agg (Msg.mk ⟨a1, a2⟩ a3 a4 (Val.mk a5 a6 a7 a8 a9 a0)).cells)), (24, .app), (25, .i (Int.ofNat (j + 1)))] []
        (pf5 (lt_nat (j := j) (k := (msgsC ms).length) (by omega)) hg hc (app_ok (acc := (msgsC ms).take j) j 2 152 (by grind) (by omega) (by omega)) (next_nat (j := j) (by omega))) (lo' := []) (by kernel_rfl), ?_⟩
      grind[cs_canon']
    · rw [List.take_length]
      exact run_of [(17, .b false)] [] (pf1 (nlt_nat (Nat.lt_irrefl (msgsC ms).length))) (lo' := []) (by kernel_rfl)
  have h2 : run (callF tab ext M) 0 M (.loop (loopAt 79 1)) (cvH (msgsC ms) (msgsC ms) (cellsL vs) [] (cellsL vs).length (msgsC ms).length 0 k0 i0 s0 t0 (cellsL l0) (cellsF f0) n0 d0) = some (.exit 2, cvE (msgsC ms) (msgsC ms) (cellsL vs) (cellsL vs) (cellsL vs).length (msgsC ms).length (cellsL vs).length k0 i0 s0 t0 (cellsL l0) (cellsF f0) n0 d0) := by
    refine loop_for (σ := fun j => cvH (msgsC ms) (msgsC ms) (cellsL vs) ((cellsL vs).take j) (cellsL vs).length (msgsC ms).length j k0 i0 s0 t0 (cellsL l0) (cellsF f0) n0 d0) (k := (cellsL vs).length) (cv_canon ..) (fun j hj => ?_) ?_ (by simp) (by omega)
    · have hj' : j < vs.length := by omega
      have hg := cellsL_get hj'
      have hok := hva _ (List.getElem_mem hj')
      unfold Val.ok at hok
      have hc := clone_val M vs[j] (by omega) (by omega)
      have ht := take_succ_get hg
      generalize vs[j] = a at hg hc ht
      obtain ⟨a1, a2, a3, a4, a5, a6⟩ := a
      refine ⟨cvH' (msgsC ms) (msgsC ms) (cellsL vs) ((cellsL vs).take j) (cellsL vs).length (msgsC ms).length j k0 i0 s0 t0 (cellsL l0) (cellsF f0) n0 d0 (Val.mk a1 a2 a3 a4 a5 a6).cells, run_of [(34, .b true), (35, .e (Val.mk a1 a2 a3 a4 a5 a6).cells), (39, .p (.agg (Val.mk a1 a2 a3 a4 a5 a6).cells)), (41, .app), (42, .i (Int.ofNat (j + 1)))] []
        (pf5 (lt_nat (j := j) (k := (cellsL vs).length) (by omega)) hg hc (app_ok (acc := (cellsL vs).take j) j 3 88 (by grind) (by omega) (by omega)) (next_nat (j := j) (by omega))) (lo' := []) (by kernel_rfl), ?_⟩
      grind[cv_canon']
    · rw [List.take_length]
      exact run_of [(34, .b false)] [] (pf1 (nlt_nat (Nat.lt_irrefl (cellsL vs).length))) (lo' := []) (by kernel_rfl)
  exact callF_of [(12, .mk), (29, .mk), (45, .p (.agg (Val.mk k0 i0 s0 t0 l0 f0).cells))] [(.exit 0, csE (msgsC ms) (msgsC ms) (cellsL vs) (msgsC ms).length (msgsC ms).length k0 i0 s0 t0 (cellsL l0) (cellsF f0) n0 d0), (.exit 2, cvE (msgsC ms) (msgsC ms) (cellsL vs) (cellsL vs) (cellsL vs).length (msgsC ms).length (cellsL vs).length k0 i0 s0 t0 (cellsL l0) (cellsF f0) n0 d0)]
    (pf5 (a := 0 ≤ (msgsC ms).length ∧ roomOk (msgsC ms).length 152 = true) ⟨by omega, room_of (by omega) (by omega)⟩ h1 (c := 0 ≤ (cellsL vs).length ∧ roomOk (cellsL vs).length 88 = true) ⟨by omega, room_of (by omega) (by omega)⟩ h2 hk') (by kernel_rfl)

theorem clone_slot_pure (N : Nat) (s : Slt) (h : s.ok) (hN : 190005 ≤ N) : Gam.pureD (callF tab ext N) 79 [.agg s.cells] = some (.agg s.cells) := by
  unfold Gam.pureD
  rw [clone_slot N s h hN]
  obtain ⟨⟨k0, i0, s0, t0, l0, f0⟩, n0, d0, ms, vs⟩ := s<;>simp_all[X.data,dataL,rowOf,Slt.cells,slotC,num,strX]

def zState : List X := [num 0, num 0, .sl true 10 []]
section
variable (a b : Int) (l acc : List (List X)) (n j : Nat) (x : List X)
def stH : St := ⟨[(1, .ptr 0 0 0), (2, .ptr 1 0 0), (3, .bs 2 0 j), (11, .sl false 10 l), (12, nat n), (13, nat j)], [.var [num a, num b, .sl false 10 l], .var zState, .row 10 acc]⟩
def stH' : St := ⟨[(1, .ptr 0 0 0), (2, .ptr 1 0 0), (3, .bs 4 0 (j + 1)), (11, .sl false 10 l), (12, nat n), (13, nat (j + 1))], [.var [num a, num b, .sl false 10 l], .var zState, .dead, .var x, .row 10 (acc ++ [x])]⟩
def stE : St := ⟨[(1, .ptr 0 0 0), (2, .ptr 1 0 0), (3, .bs 2 0 j), (11, .sl false 10 l), (12, nat n), (13, nat j), (14, boolX false)], [.var [num a, num b, .sl false 10 l], .var zState, .row 10 acc]⟩
theorem st_canon : canon 0 (stH a b l acc n j) = some (stH a b l acc n j) := by kernel_rfl
theorem st_canon' : canon 0 (stH' a b l acc n j x) = some (stH a b l (acc ++ [x]) n (j + 1)) := by kernel_rfl
end
theorem clone_state (N : Nat) (s : Stt) (h : s.ok) (hN : 190010 ≤ N) : callF tab ext N (.fn 46) [.agg s.cells] [] = some (.agg [num s.n, num s.t, .bs 0 0 (sltsC s.slots).length], [.row 10 (sltsC s.slots)]) := by
  obtain ⟨M, rfl⟩ : ∃ M, N = M + 1 := ⟨N - 1, by omega⟩
  have hi := h.slots
  have hit := h.slot
  obtain ⟨a, b, ss⟩ := s
  dsimp only at hi hit
  have em := sltsC_length ss
  have h1 : run (callF tab ext M) 0 M (.loop (loopAt 46 0)) (stH a b (sltsC ss) [] (sltsC ss).length 0) = some (.exit 0, stE a b (sltsC ss) (sltsC ss) (sltsC ss).length (sltsC ss).length) := by
    refine loop_for (σ := fun j => stH a b (sltsC ss) ((sltsC ss).take j) (sltsC ss).length j) (k := (sltsC ss).length) (st_canon ..) (fun j hj => ?_) ?_ (by simp) (by omega)
    · have hj' : j < ss.length := by omega
      have hg := sltsC_get hj'
      have hc := clone_slot_pure M ss[j] (hit _ (List.getElem_mem hj')) (by omega)
      have ht := take_succ_get hg
      generalize ss[j] = q at hg hc ht
      obtain ⟨⟨a1, a2, a3, a4, a5, a6⟩, a7, a8, a9, a0⟩ := q
      refine ⟨stH' a b (sltsC ss) ((sltsC ss).take j) (sltsC ss).length j (Slt.mk (Val.mk a1 a2 a3 a4 a5 a6) a7 a8 a9 a0).cells, run_of [(14, .b true), (15, .e (Slt.mk (Val.mk a1 a2 a3 a4 a5 a6) a7 a8 a9 a0).cells), (19, .p (.agg (Slt.mk (Val.mk a1 a2 a3 a4 a5 a6) a7 a8 a9 a0).cells)), (21, .app), (22, .i (Int.ofNat (j + 1)))] []
        (pf5 (lt_nat (j := j) (k := (sltsC ss).length) (by omega)) hg hc (app_ok (acc := (sltsC ss).take j) j 2 152 (by grind) (by omega) (by omega)) (next_nat (j := j) (by omega))) (lo' := []) (by kernel_rfl), ?_⟩
      grind[st_canon']
    · rw [List.take_length]
      exact run_of [(14, .b false)] [] (pf1 (nlt_nat (Nat.lt_irrefl (sltsC ss).length))) (lo' := []) (by kernel_rfl)
  exact callF_of [(9, .mk)] [(.exit 0, stE a b (sltsC ss) (sltsC ss) (sltsC ss).length (sltsC ss).length)]
    (pf2 (a := 0 ≤ (sltsC ss).length ∧ roomOk (sltsC ss).length 152 = true) ⟨by omega, room_of (by omega) (by omega)⟩ h1) (by kernel_rfl)
theorem clone_state_pure (N : Nat) (s : Stt) (h : s.ok) (hN : 190010 ≤ N) : Gam.pureD (callF tab ext N) 46 [.agg s.cells] = some (.agg s.cells) := by
  unfold Gam.pureD
  rw [clone_state N s h hN]
  simp_all[X.data,dataL,rowOf,Stt.cells,num]
end Go.Proofs.YthphniobeigklaaGreatDoor

/- slices.Sort and slices.Compact of integers that increase: nothing changes. -/
namespace Go.Proofs.YthphniobeigklaaGreatDoor.Ag
open Go Go.Em Go.Proofs.YthphniobeigklaaGreatDoor
set_option maxRecDepth 100000

def Inc (l : List Int) : Prop := l.Pairwise (· < ·)
theorem inc_get {l : List Int} (h : Inc l) {a b : Nat} (hab : a < b) (hb : b < l.length) : l[a]'(by omega) < l[b] := List.pairwise_iff_getElem.1 h a b (by omega) hb hab
theorem inc_le {l : List Int} (h : Inc l) {a b : Nat} (hab : a ≤ b) (hb : b < l.length) : l[a]'(by omega) ≤ l[b] := by
  by_cases e : a = b
  · subst e; exact Int.le_refl _
  · have := inc_get h (show a < b by omega) hb; omega
theorem g0 {l : List Int} {a : Nat} (h : a < l.length) : (intsC l)[0 + a]? = some [num l[a]] := by rw [Nat.zero_add]; exact intsC_get h
theorem less307 (a b : Int) (N : Nat) : Gam.pureD (callF tab ext (N + 10)) 307 [num a, num b] = some (boolX (decide (a < b))) := by
  have h1 : (a != a) = false := by simp
  cases h4 : decide (a < b) with
  | true => exact pure_of [(7, .b false), (15, .b true)] [] (pf2 h1 h4) (x := boolX true) (bx := []) (by kernel_rfl) rfl
  | false => exact pure_of [(7, .b false), (15, .b false)] [] (pf2 h1 h4) (x := boolX false) (bx := []) (by kernel_rfl) rfl
theorem nless {a b : Int} (h : b ≤ a) (N : Nat) : Gam.pureD (callF tab ext (N + 10)) 307 [num a, num b] = some (boolX false) := by
  rw [less307, decide_eq_false (by omega)]
section
variable (l : List Int) (hs : Inc l)
include hs
theorem ord374 (a b : Nat) (hab : a ≤ b) (hb : b < l.length) (N : Nat) : callF tab ext (N + 11) (.fn 374) [.bs 0 0 l.length, nat a, nat b, .ptr 1 0 0] [.row 1 (intsC l), .var [nat 0]] = some (.tup [nat a, nat b], [.row 1 (intsC l), .var [nat 0]]) := by
  have h1 := g0 hb
  have h2 := g0 (l := l) (a := a) (by omega)
  have h := nless (inc_le hs hab hb) N
  have m1 : b + 1 ≤ l.length := hb
  have m2 : a + 1 ≤ l.length := by omega
  generalize l[b] = eb at *
  generalize l[a] = ea at *
  generalize intsC l = es at *
  generalize l.length = n at *
  exact callF_of [(12, .at), (13, .ld ([num eb])), (16, .at), (17, .ld ([num ea])), (18, .p (boolX false))] [] (pf5 m1 h1 m2 h2 h) (by kernel_rfl)
theorem med347 (a b c : Nat) (hab : a ≤ b) (hbc : b ≤ c) (hc : c < l.length) (N : Nat) : callF tab ext (N + 12) (.fn 347) [.bs 0 0 l.length, nat a, nat b, nat c, .ptr 1 0 0] [.row 1 (intsC l), .var [nat 0]] = some (nat b, [.row 1 (intsC l), .var [nat 0]]) := by
  have h1 := ord374 l hs a b hab (by omega) N
  have h2 := ord374 l hs b c hbc hc N
  generalize intsC l = es at *
  generalize l.length = n at *
  exact callF_of [(16, .r (.tup ([nat a, nat b])) ([.row 1 es, .var ([num 0])])), (24, .r (.tup ([nat b, nat c])) ([.row 1 es, .var ([num 0])])), (32, .r (.tup ([nat a, nat b])) ([.row 1 es, .var ([num 0])]))] [] (pf3 h1 h2 h1) (by kernel_rfl)
theorem piv304 (h8 : 8 ≤ l.length) (h50 : l.length < 50) (N : Nat) : callF tab ext (N + 13) (.fn 304) [.bs 0 0 l.length, num 0, nat l.length] [.row 1 (intsC l)] = some (.tup [nat (l.length / 4 * 2), num 1], [.row 1 (intsC l)]) := by
  have h1 := med347 l hs (l.length / 4 * 1) (l.length / 4 * 2) (l.length / 4 * 3) (by omega) (by omega) (by omega) N
  have hn : IntKind.i64.wrap (Int.ofNat l.length - Int.ofNat 0) = Int.ofNat l.length := by rw [IntKind.wrap_i64]; simp only [Int.ofNat_eq_natCast]; omega
  have q0 : IntKind.i64.wrap ((Int.ofNat l.length).tdiv 4) = Int.ofNat (l.length / 4) := by
    rw [IntKind.wrap_i64, show (Int.ofNat l.length).tdiv 4 = ((l.length / 4 : Nat) : Int) from (Int.ofNat_tdiv l.length 4).symm]; simp only [Int.ofNat_eq_natCast]; omega
  have q1 : ∀ k : Nat, k < 10 → IntKind.i64.wrap (Int.ofNat (l.length / 4) * Int.ofNat k) = Int.ofNat (l.length / 4 * k) := fun k hk => by
    have hm : l.length / 4 * k ≤ 13 * 10 := Nat.mul_le_mul (by omega) (by omega)
    rw [IntKind.wrap_i64]; simp only [Int.ofNat_eq_natCast, ← Int.natCast_mul]; omega
  have q2 : ∀ k : Nat, k < 10 → IntKind.i64.wrap (Int.ofNat 0 + Int.ofNat (l.length / 4 * k)) = Int.ofNat (l.length / 4 * k) := fun k hk => by
    have hm : l.length / 4 * k ≤ 13 * 10 := Nat.mul_le_mul (by omega) (by omega)
    rw [IntKind.wrap_i64]; simp only [Int.ofNat_eq_natCast]; omega
  have e1 := q1 1 (by omega)
  have e2 := q1 2 (by omega)
  have e3 := q1 3 (by omega)
  have f1 := q2 1 (by omega)
  have f2 := q2 2 (by omega)
  have f3 := q2 3 (by omega)
  have g8 : decide (Int.ofNat l.length ≥ 8) = true := decide_eq_true (by simp only [Int.ofNat_eq_natCast]; omega)
  have g50 : decide (Int.ofNat l.length ≥ 50) = false := decide_eq_false (by simp only [Int.ofNat_eq_natCast]; omega)
  generalize l.length / 4 * 1 = p1 at *
  generalize l.length / 4 * 2 = p2 at *
  generalize l.length / 4 * 3 = p3 at *
  generalize l.length / 4 = p at *
  clear q1 q2
  generalize intsC l = es at *
  generalize l.length = n at *
  exact callF_of [(15, .i (Int.ofNat n)), (18, .i (Int.ofNat p)), (19, .i (Int.ofNat p1)), (20, .i (Int.ofNat p1)), (23, .i (Int.ofNat p)), (24, .i (Int.ofNat p2)), (25, .i (Int.ofNat p2)), (28, .i (Int.ofNat p)), (29, .i (Int.ofNat p3)), (30, .i (Int.ofNat p3)), (32, .b true), (34, .b false), (48, .r (nat p2) ([.row 1 es, .var ([num 0])]))] []
    (pfJ hn q0 e1 f1 q0 e2 f2 (pf6 q0 e3 f3 g8 g50 h1)) (by kernel_rfl)
end
end Go.Proofs.YthphniobeigklaaGreatDoor.Ag

/- slices.Sort, slices.Compact, message.union: lists that increase. -/
namespace Go.Proofs.YthphniobeigklaaGreatDoor.Ag
open Go Go.Em Go.Proofs.YthphniobeigklaaGreatDoor
set_option maxRecDepth 100000

section
variable (es : List (List X)) (a b n : Nat) (ea eb : Int) (w : Bool) (N : Nat)
def piH : St := ⟨[(0, .bs 0 0 n), (1, num 0), (2, nat n), (7, nat a), (8, num 0)] ++ (if w then [(14, boolX true)] else []), [.row 1 es]⟩
def piE : St := ⟨[(0, .bs 0 0 n), (1, num 0), (2, nat n), (7, nat a), (8, num 0), (32, boolX false)], [.row 1 es]⟩
theorem pi_canon : canon 1 (piH es a n w) = some (piH es a n w) := by cases w <;> kernel_rfl
theorem pi_round (h : a < n) (hn : n < 1000) (ha : es[0 + a]? = some [num ea]) (hb : es[0 + b]? = some [num eb]) (hab : a = b + 1) (hlt : eb ≤ ea) :
    ∃ υ, run (callF tab ext (N + 10)) 1 (N + 10) (loopAt 306 1) (piH es a n w) = some (.norm, υ) ∧ canon 1 υ = some (piH es (a + 1) n false) := by
  have h1 := lt_nat h
  have m1 : a + 1 ≤ n := h
  have m2 : b + 1 ≤ n := by omega
  have hm : IntKind.i64.wrap (Int.ofNat a - 1) = Int.ofNat b := by rw [IntKind.wrap_i64]; simp only [Int.ofNat_eq_natCast]; omega
  have hn := next_nat (j := a) (by omega)
  have h7 := nless hlt N
  cases w with
  | true => exact rd_of [(19, .b true), (23, .at), (24, .ld ([num ea])), (27, .i (Int.ofNat b)), (28, .at), (29, .ld ([num eb])), (30, .p (boolX false)), (34, .i (Int.ofNat (a + 1)))] (pf8 h1 m1 ha hm m2 hb h7 hn) (by kernel_rfl)
  | false => exact rd_of [(19, .b true), (23, .at), (24, .ld ([num ea])), (27, .i (Int.ofNat b)), (28, .at), (29, .ld ([num eb])), (30, .p (boolX false)), (34, .i (Int.ofNat (a + 1)))] (pf8 h1 m1 ha hm m2 hb h7 hn) (by kernel_rfl)
theorem pi_end (h : ¬ a < n) : run (callF tab ext N) 1 N (loopAt 306 1) (piH es a n w) = some (.exit 2, piE es a n) := by
  cases w with
  | true => exact run_of [(19, .b false)] [] (pf1 (nlt_nat h)) (lo' := []) (by kernel_rfl)
  | false => exact run_of [(19, .b false)] [] (pf1 (nlt_nat h)) (lo' := []) (by kernel_rfl)
def poH : St := ⟨[(0, .bs 0 0 n), (1, num 0), (2, nat n), (7, num 1), (8, num 0)], [.row 1 es]⟩
theorem po_canon : canon 1 (poH es n) = some (poH es n) := by kernel_rfl
theorem po_round (hl : run (callF tab ext N) 1 N (.loop (loopAt 306 1)) (piH es 1 n true) = some (.exit 2, piE es n n)) : run (callF tab ext N) 1 N (loopAt 306 0) (poH es n) = some (.ret, ⟨[(6, boolX true)], [.row 1 es]⟩) := by
  have h1 : (Int.ofNat n == Int.ofNat n) = true := beq_self_eq_true _
  exact run_of [(37, .b true)] [(.exit 2, piE es n n)] (pf2 hl h1) (lo' := []) (by kernel_rfl)
def isH : St := ⟨[(0, .bs 0 0 n), (1, num 0), (2, nat n), (6, nat a)], [.row 1 es]⟩
def isE : St := ⟨[(0, .bs 0 0 n), (1, num 0), (2, nat n), (6, nat n), (12, boolX false)], [.row 1 es]⟩
def ijH : St := ⟨[(0, .bs 0 0 n), (1, num 0), (2, nat n), (6, nat a), (7, nat a)], [.row 1 es]⟩
def ijE : St := ⟨[(0, .bs 0 0 n), (1, num 0), (2, nat n), (6, nat a), (7, nat a), (30, boolX false)], [.row 1 es]⟩
theorem is_canon : canon 1 (isH es a n) = some (isH es a n) := by kernel_rfl
theorem ij_canon : canon 1 (ijH es a n) = some (ijH es a n) := by kernel_rfl
theorem ij_stop (h0 : 0 < a) (h : a < n) (hn : n < 1000) (ha : es[0 + a]? = some [num ea]) (hb : es[0 + b]? = some [num eb]) (hab : a = b + 1) (hlt : eb ≤ ea) :
    run (callF tab ext (N + 10)) 1 (N + 10) (.loop (loopAt 301 1)) (ijH es a n) = some (.exit 2, ijE es a n) := by
  have h1 : decide (Int.ofNat a > Int.ofNat 0) = true := decide_eq_true (by simp only [Int.ofNat_eq_natCast]; omega)
  have m1 : a + 1 ≤ n := h
  have m2 : b + 1 ≤ n := by omega
  have hm : IntKind.i64.wrap (Int.ofNat a - 1) = Int.ofNat b := by rw [IntKind.wrap_i64]; simp only [Int.ofNat_eq_natCast]; omega
  have h7 := nless hlt N
  exact iter_end (ij_canon ..) (run_of [(18, .b true), (22, .at), (23, .ld ([num ea])), (26, .i (Int.ofNat b)), (27, .at), (28, .ld ([num eb])), (29, .p (boolX false))] [] (pf7 h1 m1 ha hm m2 hb h7) (lo' := []) (by kernel_rfl)) (by simp)
theorem is_round (h : a < n) (hn : n < 1000) (hl : run (callF tab ext N) 1 N (.loop (loopAt 301 1)) (ijH es a n) = some (.exit 2, ijE es a n)) :
    ∃ υ, run (callF tab ext N) 1 N (loopAt 301 0) (isH es a n) = some (.norm, υ) ∧ canon 1 υ = some (isH es (a + 1) n) :=
  rl_of [(12, .b true), (14, .i (Int.ofNat (a + 1)))] [(.exit 2, ijE es a n)] (pf3 (lt_nat h) hl (next_nat (j := a) (by omega))) (by kernel_rfl)
theorem is_end : run (callF tab ext N) 1 N (loopAt 301 0) (isH es n n) = some (.exit 0, isE es n) :=
  run_of [(12, .b false)] [] (pf1 (nlt_nat (Nat.lt_irrefl n))) (lo' := []) (by kernel_rfl)
theorem is_end0 (h : n = 0) : run (callF tab ext N) 1 N (loopAt 301 0) (isH es 1 n) = some (.exit 0, ⟨[(0, .bs 0 0 n), (1, num 0), (2, nat n), (6, nat 1), (12, boolX false)], [.row 1 es]⟩) :=
  run_of [(12, .b false)] [] (pf1 (nlt_nat (j := 1) (k := n) (by omega))) (lo' := []) (by kernel_rfl)
def cpH : St := ⟨[(0, .bs 0 0 n), (3, nat a)], [.row 1 es]⟩
def cpE : St := ⟨[(0, .bs 0 0 n), (3, nat a), (13, boolX false)], [.row 1 es]⟩
theorem cp_canon : canon 1 (cpH es a n) = some (cpH es a n) := by kernel_rfl
theorem cp_round (h : a < n) (hn : n < 1000) (ha : es[0 + a]? = some [num ea]) (hb : es[0 + b]? = some [num eb]) (hab : a = b + 1) (hne : ea ≠ eb) :
    ∃ υ, run (callF tab ext N) 1 N (loopAt 173 0) (cpH es a n) = some (.norm, υ) ∧ canon 1 υ = some (cpH es (a + 1) n) := by
  have m1 : a + 1 ≤ n := h
  have m2 : b + 1 ≤ n := by omega
  have hm : IntKind.i64.wrap (Int.ofNat a - 1) = Int.ofNat b := by rw [IntKind.wrap_i64]; simp only [Int.ofNat_eq_natCast]; omega
  exact rd_of [(13, .b true), (18, .at), (19, .ld ([num ea])), (22, .i (Int.ofNat b)), (23, .at), (24, .ld ([num eb])), (25, .b false), (15, .i (Int.ofNat (a + 1)))] (pf8 (lt_nat h) m1 ha hm m2 hb (beq_eq_false_iff_ne.2 hne) (next_nat (j := a) (by omega))) (by kernel_rfl)
theorem cp_end : run (callF tab ext N) 1 N (loopAt 173 0) (cpH es n n) = some (.exit 0, cpE es n n) :=
  run_of [(13, .b false)] [] (pf1 (nlt_nat (Nat.lt_irrefl n))) (lo' := []) (by kernel_rfl)
end
section
variable (l : List Int) (hs : Inc l)
include hs
theorem part306 (h0 : 0 < l.length) (hl : l.length < 1000) (N : Nat) (hN : 2000 ≤ N) : callF tab ext N (.fn 306) [.bs 0 0 l.length, num 0, nat l.length] [.row 1 (intsC l)] = some (boolX true, [.row 1 (intsC l)]) := by
  obtain ⟨M, rfl⟩ : ∃ M, N = M + 11 := ⟨N - 11, by omega⟩
  have h1 : run (callF tab ext (M + 10)) 1 (M + 10) (.loop (loopAt 306 1)) (piH (intsC l) 1 l.length true) = some (.exit 2, piE (intsC l) l.length l.length) := by
    refine loop_for (σ := fun j => piH (intsC l) (j + 1) l.length (decide (j = 0))) (k := l.length - 1) (pi_canon ..) (fun j hj => ?_) ?_ (by simp) (by omega)
    · rw [show decide (j + 1 = 0) = false from decide_eq_false (by omega)]
      exact pi_round (intsC l) (j + 1) j l.length _ _ _ M (by omega) hl (g0 (by omega)) (g0 (by omega)) rfl (inc_le hs (by omega) (by omega))
    · rw [show l.length - 1 + 1 = l.length by omega]
      exact pi_end (intsC l) l.length l.length _ (M + 10) (by omega)
  have h2 := po_round (intsC l) l.length (M + 10) h1
  have h3 : run (callF tab ext (M + 10)) 1 (M + 10) (.loop (loopAt 306 0)) (poH (intsC l) l.length) = some (.ret, ⟨[(6, boolX true)], [.row 1 (intsC l)]⟩) := iter_end (po_canon ..) h2 (by simp)
  generalize intsC l = es at *
  generalize l.length = n at *
  exact callF_of [] [(.ret, ⟨[(6, boolX true)], [.row 1 es]⟩)] (pf1 h3) (by kernel_rfl)
theorem ins301 (hl : l.length < 1000) (N : Nat) (hN : 2000 ≤ N) : callF tab ext N (.fn 301) [.bs 0 0 l.length, num 0, nat l.length] [.row 1 (intsC l)] = some (.tup [], [.row 1 (intsC l)]) := by
  obtain ⟨M, rfl⟩ : ∃ M, N = M + 11 := ⟨N - 11, by omega⟩
  by_cases h0 : l.length = 0
  · have h1 : run (callF tab ext (M + 10)) 1 (M + 10) (.loop (loopAt 301 0)) (isH (intsC l) 1 l.length) = some (.exit 0, _) := iter_end (is_canon ..) (is_end0 (intsC l) l.length (M + 10) h0) (by simp)
    generalize intsC l = es at *
    generalize l.length = n at *
    exact callF_of [] [(.exit 0, ⟨[(0, .bs 0 0 n), (1, num 0), (2, nat n), (6, nat 1), (12, boolX false)], [.row 1 es]⟩)] (pf1 h1) (by kernel_rfl)
  · have h1 : run (callF tab ext (M + 10)) 1 (M + 10) (.loop (loopAt 301 0)) (isH (intsC l) 1 l.length) = some (.exit 0, isE (intsC l) l.length) := by
      refine loop_for (σ := fun j => isH (intsC l) (j + 1) l.length) (k := l.length - 1) (is_canon ..) (fun j hj => ?_) ?_ (by simp) (by omega)
      · exact is_round (intsC l) (j + 1) l.length (M + 10) (by omega) hl (ij_stop (intsC l) (j + 1) j l.length _ _ M (by omega) (by omega) hl (g0 (by omega)) (g0 (by omega)) rfl (inc_le hs (by omega) (by omega)))
      · rw [show l.length - 1 + 1 = l.length by omega]
        exact is_end (intsC l) l.length (M + 10)
    generalize intsC l = es at *
    generalize l.length = n at *
    exact callF_of [] [(.exit 0, isE es n)] (pf1 h1) (by kernel_rfl)
def pqH (es : List (List X)) (n b : Nat) : St := ⟨[(0, .bs 0 0 n), (1, num 0), (2, nat n), (3, nat b), (8, boolX true), (9, boolX true)], [.row 1 es]⟩
omit hs in
theorem pq_canon (es : List (List X)) (n b : Nat) : canon 1 (pqH es n b) = some (pqH es n b) := by kernel_rfl
theorem pdq243 (hl : l.length < 50) (b : Nat) (hb : 0 < l.length → 0 < b) (N : Nat) (hN : 2100 ≤ N) : callF tab ext N (.fn 243) [.bs 0 0 l.length, num 0, nat l.length, nat b] [.row 1 (intsC l)] = some (.tup [], [.row 1 (intsC l)]) := by
  obtain ⟨M, rfl⟩ : ∃ M, N = M + 14 := ⟨N - 14, by omega⟩
  have hn : IntKind.i64.wrap (Int.ofNat l.length - Int.ofNat 0) = Int.ofNat l.length := by rw [IntKind.wrap_i64]; simp only [Int.ofNat_eq_natCast]; omega
  by_cases h12 : l.length ≤ 12
  · have h1 : decide (Int.ofNat l.length ≤ 12) = true := decide_eq_true (by simp only [Int.ofNat_eq_natCast]; omega)
    have h2 := ins301 l hs (by omega) (M + 13) (by omega)
    have h3 : run (callF tab ext (M + 13)) 1 (M + 13) (.loop (loopAt 243 0)) (pqH (intsC l) l.length b) = some (.ret, ⟨[], [.row 1 (intsC l)]⟩) := by
      refine iter_end (pq_canon ..) ?_ (by simp)
      generalize intsC l = es at *
      generalize l.length = n at *
      exact run_of [(21, .i (Int.ofNat n)), (23, .b true), (27, .r (.tup []) ([.row 1 es]))] [] (pf3 hn h1 h2) (lo' := []) (by kernel_rfl)
    generalize intsC l = es at *
    generalize l.length = n at *
    exact callF_of [] [(.ret, ⟨[], [.row 1 es]⟩)] (pf1 h3) (by kernel_rfl)
  · have h1 : decide (Int.ofNat l.length ≤ 12) = false := decide_eq_false (by simp only [Int.ofNat_eq_natCast]; omega)
    have h2 : (Int.ofNat b == 0) = false := by simp only [Int.ofNat_eq_natCast, beq_eq_false_iff_ne, ne_eq]; have := hb (by omega); omega
    have h4 := piv304 l hs (by omega) hl M
    have h5 := part306 l hs (by omega) (by omega) (M + 13) (by omega)
    generalize l.length / 4 * 2 = p at *
    have h3 : run (callF tab ext (M + 13)) 1 (M + 13) (.loop (loopAt 243 0)) (pqH (intsC l) l.length b) = some (.ret, ⟨[(0, .bs 0 0 l.length), (1, num 0), (2, nat l.length), (3, nat b), (8, boolX true), (9, boolX true), (10, nat l.length), (11, nat p), (72, boolX true)], [.row 1 (intsC l)]⟩) := by
      refine iter_end (pq_canon ..) ?_ (by simp)
      generalize intsC l = es at *
      generalize l.length = n at *
      exact run_of [(21, .i (Int.ofNat n)), (23, .b false), (29, .b false), (46, .r (.tup ([nat p, num 1])) ([.row 1 es])), (72, .r (boolX true) ([.row 1 es]))] [] (pf5 hn h1 h2 h4 h5) (lo' := []) (by kernel_rfl)
    generalize intsC l = es at *
    generalize l.length = n at *
    exact callF_of [] [(.ret, ⟨[(0, .bs 0 0 n), (1, num 0), (2, nat n), (3, nat b), (8, boolX true), (9, boolX true), (10, nat n), (11, nat p), (72, boolX true)], [.row 1 es]⟩)] (pf1 h3) (by kernel_rfl)
theorem comp173 (hl : l.length < 1000) (N : Nat) (hN : 2000 ≤ N) : callF tab ext N (.fn 173) [.bs 0 0 l.length] [.row 1 (intsC l)] = some (.bs 0 0 l.length, [.row 1 (intsC l)]) := by
  obtain ⟨M, rfl⟩ : ∃ M, N = M + 1 := ⟨N - 1, by omega⟩
  by_cases h2 : l.length < 2
  · have h1 : decide (Int.ofNat l.length < 2) = true := decide_eq_true (by simp only [Int.ofNat_eq_natCast]; omega)
    generalize intsC l = es at *
    generalize l.length = n at *
    exact callF_of [(8, .b true)] [] (pf1 h1) (by kernel_rfl)
  · have h1 : decide (Int.ofNat l.length < 2) = false := decide_eq_false (by simp only [Int.ofNat_eq_natCast]; omega)
    have h3 : run (callF tab ext M) 1 M (.loop (loopAt 173 0)) (cpH (intsC l) 1 l.length) = some (.exit 0, cpE (intsC l) l.length l.length) := by
      refine loop_for (σ := fun j => cpH (intsC l) (j + 1) l.length) (k := l.length - 1) (cp_canon ..) (fun j hj => ?_) ?_ (by simp) (by omega)
      · exact cp_round (intsC l) (j + 1) j l.length _ _ M (by omega) hl (g0 (by omega)) (g0 (by omega)) rfl (by have := inc_get hs (show j < j + 1 by omega) (by omega); omega)
      · rw [show l.length - 1 + 1 = l.length by omega]
        exact cp_end (intsC l) l.length M
    generalize intsC l = es at *
    generalize l.length = n at *
    exact callF_of [(8, .b false)] [(.exit 0, cpE es n n)] (pf2 h1 h3) (by kernel_rfl)
end
theorem len206 (N : Nat) : ∀ n : Nat, n < 64 → ∃ b : Nat, Gam.pureD (callF tab ext (N + 20)) 206 [.v (.int .u64 (Int.ofNat n))] = some (nat b) ∧ (0 < n → 0 < b)
  | 0, _ => ⟨0, by kernel_rfl, by omega⟩
  | 1, _ => ⟨1, by kernel_rfl, by omega⟩
  | 2, _ => ⟨2, by kernel_rfl, by omega⟩
  | 3, _ => ⟨2, by kernel_rfl, by omega⟩
  | 4, _ => ⟨3, by kernel_rfl, by omega⟩
  | 5, _ => ⟨3, by kernel_rfl, by omega⟩
  | 6, _ => ⟨3, by kernel_rfl, by omega⟩
  | 7, _ => ⟨3, by kernel_rfl, by omega⟩
  | 8, _ => ⟨4, by kernel_rfl, by omega⟩
  | 9, _ => ⟨4, by kernel_rfl, by omega⟩
  | 10, _ => ⟨4, by kernel_rfl, by omega⟩
  | 11, _ => ⟨4, by kernel_rfl, by omega⟩
  | 12, _ => ⟨4, by kernel_rfl, by omega⟩
  | 13, _ => ⟨4, by kernel_rfl, by omega⟩
  | 14, _ => ⟨4, by kernel_rfl, by omega⟩
  | 15, _ => ⟨4, by kernel_rfl, by omega⟩
  | 16, _ => ⟨5, by kernel_rfl, by omega⟩
  | 17, _ => ⟨5, by kernel_rfl, by omega⟩
  | 18, _ => ⟨5, by kernel_rfl, by omega⟩
  | 19, _ => ⟨5, by kernel_rfl, by omega⟩
  | 20, _ => ⟨5, by kernel_rfl, by omega⟩
  | 21, _ => ⟨5, by kernel_rfl, by omega⟩
  | 22, _ => ⟨5, by kernel_rfl, by omega⟩
  | 23, _ => ⟨5, by kernel_rfl, by omega⟩
  | 24, _ => ⟨5, by kernel_rfl, by omega⟩
  | 25, _ => ⟨5, by kernel_rfl, by omega⟩
  | 26, _ => ⟨5, by kernel_rfl, by omega⟩
  | 27, _ => ⟨5, by kernel_rfl, by omega⟩
  | 28, _ => ⟨5, by kernel_rfl, by omega⟩
  | 29, _ => ⟨5, by kernel_rfl, by omega⟩
  | 30, _ => ⟨5, by kernel_rfl, by omega⟩
  | 31, _ => ⟨5, by kernel_rfl, by omega⟩
  | 32, _ => ⟨6, by kernel_rfl, by omega⟩
  | 33, _ => ⟨6, by kernel_rfl, by omega⟩
  | 34, _ => ⟨6, by kernel_rfl, by omega⟩
  | 35, _ => ⟨6, by kernel_rfl, by omega⟩
  | 36, _ => ⟨6, by kernel_rfl, by omega⟩
  | 37, _ => ⟨6, by kernel_rfl, by omega⟩
  | 38, _ => ⟨6, by kernel_rfl, by omega⟩
  | 39, _ => ⟨6, by kernel_rfl, by omega⟩
  | 40, _ => ⟨6, by kernel_rfl, by omega⟩
  | 41, _ => ⟨6, by kernel_rfl, by omega⟩
  | 42, _ => ⟨6, by kernel_rfl, by omega⟩
  | 43, _ => ⟨6, by kernel_rfl, by omega⟩
  | 44, _ => ⟨6, by kernel_rfl, by omega⟩
  | 45, _ => ⟨6, by kernel_rfl, by omega⟩
  | 46, _ => ⟨6, by kernel_rfl, by omega⟩
  | 47, _ => ⟨6, by kernel_rfl, by omega⟩
  | 48, _ => ⟨6, by kernel_rfl, by omega⟩
  | 49, _ => ⟨6, by kernel_rfl, by omega⟩
  | 50, _ => ⟨6, by kernel_rfl, by omega⟩
  | 51, _ => ⟨6, by kernel_rfl, by omega⟩
  | 52, _ => ⟨6, by kernel_rfl, by omega⟩
  | 53, _ => ⟨6, by kernel_rfl, by omega⟩
  | 54, _ => ⟨6, by kernel_rfl, by omega⟩
  | 55, _ => ⟨6, by kernel_rfl, by omega⟩
  | 56, _ => ⟨6, by kernel_rfl, by omega⟩
  | 57, _ => ⟨6, by kernel_rfl, by omega⟩
  | 58, _ => ⟨6, by kernel_rfl, by omega⟩
  | 59, _ => ⟨6, by kernel_rfl, by omega⟩
  | 60, _ => ⟨6, by kernel_rfl, by omega⟩
  | 61, _ => ⟨6, by kernel_rfl, by omega⟩
  | 62, _ => ⟨6, by kernel_rfl, by omega⟩
  | 63, _ => ⟨6, by kernel_rfl, by omega⟩
  | n + 64, h => absurd h (by omega)
theorem sort172 (l : List Int) (hs : Inc l) (hl : l.length < 50) (N : Nat) (hN : 2200 ≤ N) : callF tab ext N (.fn 172) [.bs 0 0 l.length] [.row 1 (intsC l)] = some (.tup [], [.row 1 (intsC l)]) := by
  obtain ⟨M, rfl⟩ : ∃ M, N = M + 21 := ⟨N - 21, by omega⟩
  obtain ⟨b, h1, hb⟩ := len206 M l.length (by omega)
  have h2 : Gam.pureD (callF tab ext (M + 20)) 206 [.v (.int .u64 (Int.ofNat (l.length % 18446744073709551616)))] = some (nat b) := by rw [Nat.mod_eq_of_lt (by omega)]; exact h1
  have h3 := pdq243 l hs hl b hb (M + 20) (by omega)
  generalize intsC l = es at *
  generalize l.length = n at *
  exact callF_of [(9, .p (nat b)), (10, .r (.tup []) [.row 1 es])] [] (pf2 h2 h3) (by kernel_rfl)
theorem union121 (l : List Int) (z : Int) (hs : Inc (l ++ [z])) (hl : l.length < 49) (N : Nat) (hN : 2300 ≤ N) : Gam.pureD (callF tab ext N) 121 [.sl false 1 (intsC l), .sl false 1 (intsC [z])] = some (.sl false 1 (intsC (l ++ [z]))) := by
  obtain ⟨M, rfl⟩ : ∃ M, N = M + 2 := ⟨N - 2, by omega⟩
  have h1 := clone_row M l (by omega)
  have h2 := sort172 (l ++ [z]) hs (by simp; omega) (M + 1) (by omega)
  have h3 := comp173 (l ++ [z]) hs (by simp; omega) (M + 1) (by omega)
  have ha := app_ok (acc := intsC l) l.length 0 8 (by rw [intsC_length]) (by omega) (by omega)
  have e : intsC (l ++ [z]) = intsC l ++ [[num z]] := by simp [intsC]
  have hlen := intsC_length l
  rw [e, List.length_append, List.length_singleton] at h2 h3
  rw [e]
  have hd : (X.bs 0 0 (l.length + 1)).data [.row 1 (intsC l ++ [[num z]])] false = some (.sl false 1 (intsC l ++ [[num z]])) := data_bs rfl (by simp [intsC_length])
  generalize intsC l = es at *
  generalize l.length = n at *
  exact pure_of [(7, .o (.bs 0 0 n) ([.row 1 es])), (9, .app), (11, .r (.tup []) ([.row 1 (es ++ [[num z]])])), (13, .r (.bs 0 0 (n + 1)) ([.row 1 (es ++ [[num z]])]))] [] (pf4 h1 ha h2 h3) (x := .bs 0 0 (n + 1)) (bx := [.row 1 (es ++ [[num z]])]) (by kernel_rfl) hd
end Go.Proofs.YthphniobeigklaaGreatDoor.Ag

/- decimal.Sum of small whole numbers. -/
namespace Go.Proofs.YthphniobeigklaaGreatDoor.Ag
open Go Go.Em Go.Proofs.YthphniobeigklaaGreatDoor
set_option maxRecDepth 100000

/-- Numbers from 0 to 3. -/
def nsC (l : List Nat) : List (List X) := l.map fun n : Nat => [nat n, num 0]
def Tiny (l : List Nat) : Prop := ∀ n, n ∈ l → n < 4
def sumN : List Nat → Nat
  | [] => 0
  | n :: r => n + sumN r
theorem sumN_app (a b : List Nat) : sumN (a ++ b) = sumN a + sumN b := by
  induction a with
  | nil => simp [sumN]
  | cons x r ih => simp only [List.cons_append, sumN, ih]; omega
theorem sumN_le {l : List Nat} (h : Tiny l) : sumN l ≤ 3 * l.length := by
  induction l with
  | nil => exact Nat.le_refl 0
  | cons x r ih =>
    have h1 := h x List.mem_cons_self
    have h2 := ih fun n hn => h n (List.mem_cons_of_mem _ hn)
    simp only [sumN, List.length_cons]
    omega
theorem nsC_len (l : List Nat) : (nsC l).length = l.length := by simp [nsC]
theorem nsC_get {l : List Nat} {j : Nat} (h : j < l.length) : (nsC l)[j]? = some [nat l[j], num 0] := by simp [nsC, h]
theorem chk266 {n : Nat} (h : n < 4) (N : Nat) : Gam.pureD (callF tab ext (N + 50)) 266 [.agg [nat n, num 0]] = some (num 0) := by
  have h4 : n = 0 ∨ n = 1 ∨ n = 2 ∨ n = 3 := by omega
  rcases h4 with rfl | rfl | rfl | rfl
  · exact (show Gam.pureD (callF tab ext (N + 50)) 266 [.agg [nat 0, num 0]] = some (num 0) from by kernel_rfl)
  · exact (show Gam.pureD (callF tab ext (N + 50)) 266 [.agg [nat 1, num 0]] = some (num 0) from by kernel_rfl)
  · exact (show Gam.pureD (callF tab ext (N + 50)) 266 [.agg [nat 2, num 0]] = some (num 0) from by kernel_rfl)
  · exact (show Gam.pureD (callF tab ext (N + 50)) 266 [.agg [nat 3, num 0]] = some (num 0) from by kernel_rfl)
theorem parts246 {n : Nat} (h : n < 4) (N : Nat) : Gam.pureD (callF tab ext (N + 50)) 246 [.agg [nat n, num 0]] = some (.tup [nat n, num 0]) := by
  have h4 : n = 0 ∨ n = 1 ∨ n = 2 ∨ n = 3 := by omega
  rcases h4 with rfl | rfl | rfl | rfl
  · exact (show Gam.pureD (callF tab ext (N + 50)) 246 [.agg [nat 0, num 0]] = some (.tup [nat 0, num 0]) from by kernel_rfl)
  · exact (show Gam.pureD (callF tab ext (N + 50)) 246 [.agg [nat 1, num 0]] = some (.tup [nat 1, num 0]) from by kernel_rfl)
  · exact (show Gam.pureD (callF tab ext (N + 50)) 246 [.agg [nat 2, num 0]] = some (.tup [nat 2, num 0]) from by kernel_rfl)
  · exact (show Gam.pureD (callF tab ext (N + 50)) 246 [.agg [nat 3, num 0]] = some (.tup [nat 3, num 0]) from by kernel_rfl)
theorem abs258 (s : Int) (h : 0 ≤ s) (h2 : s ≤ 1000000) (N : Nat) : Gam.pureD (callF tab ext (N + 1)) 258 [num s] = some (num s) := by
  have e : (if true = true then if IntKind.i64.wrap (0 - s) > s then IntKind.i64.wrap (0 - s) else s else if IntKind.i64.wrap (0 - s) < s then IntKind.i64.wrap (0 - s) else s) = s := by
    have h3 : IntKind.i64.wrap (0 - s) = -s := by rw [IntKind.wrap_i64]; omega
    rw [h3, if_pos rfl]
    split <;> omega
  have key := (pure_of (T := tab) (ext := ext) (N := N) (f := 258) (args := [num s]) [] [] pf0 (x := num (if true = true then if IntKind.i64.wrap (0 - s) > s then IntKind.i64.wrap (0 - s) else s else if IntKind.i64.wrap (0 - s) < s then IntKind.i64.wrap (0 - s) else s)) (bx := []) (by kernel_rfl) rfl)
  rw [e] at key
  exact key
theorem fit259 (s : Int) (h : 0 ≤ s) (h2 : s ≤ 1000000) (N : Nat) : Gam.pureD (callF tab ext (N + 2)) 259 [num s, num 0] = some (.tup [.agg [num s, num 0], num 0]) :=
  pure_of [(7, .p (num s)), (8, .b false)] [] (pf2 (abs258 s h h2 N) (show decide (s > 999999999999999) = false from decide_eq_false (by omega))) (x := .tup [.agg [num s, num 0], num 0]) (bx := []) (by kernel_rfl) rfl
/-! ### check -/
theorem check245 (l : List Nat) (h : Tiny l) (hl : l.length ≤ 1000) (N : Nat) (hN : 2000 ≤ N) : Gam.pureD (callF tab ext N) 245 [.sl false 2 (nsC l)] = some (num 0) := by
  obtain ⟨M, rfl⟩ : ∃ M, N = M + 51 := ⟨N - 51, by omega⟩
  have hn := nsC_len l
  have hloop : run (callF tab ext (M + 50)) 0 (M + 50) (.loop (loopAt 245 0)) ⟨[(6, .sl false 2 (nsC l)), (7, nat (nsC l).length), (8, num 0)], []⟩ = some (.exit 0, ⟨[(6, .sl false 2 (nsC l)), (7, nat (nsC l).length), (8, nat (nsC l).length), (9, boolX false)], []⟩) := by
    refine loop_for (σ := fun j => ⟨[(6, .sl false 2 (nsC l)), (7, nat (nsC l).length), (8, nat j)], []⟩) (k := (nsC l).length) (by kernel_rfl) (fun j hj => ?_) ?_ (by simp) (by omega)
    · have hj' : j < l.length := by omega
      exact rd_of [(9, .b true), (10, .e [nat l[j], num 0]), (13, .p (num 0)), (17, .i (Int.ofNat (j + 1)))] (pf4 (lt_nat hj) (nsC_get hj') (chk266 (h _ (List.getElem_mem hj')) M) (next_nat (j := j) (by omega))) (by kernel_rfl)
    · exact run_of [(9, .b false)] [] (pf1 (nlt_nat (Nat.lt_irrefl (nsC l).length))) (lo' := []) (by kernel_rfl)
  exact pure_of [] [(.exit 0, ⟨[(6, .sl false 2 (nsC l)), (7, nat (nsC l).length), (8, nat (nsC l).length), (9, boolX false)], []⟩)] (pf1 hloop) (x := num 0) (bx := []) (by kernel_rfl) rfl
/-! ### total -/
section
variable (es : List (List X)) (s n j : Nat) (N : Nat)
def toH : St := ⟨[(1, num 0), (4, .ptr 0 0 0), (6, num 1000000000000), (7, nat s), (8, num 0), (14, .sl false 2 es), (15, nat n), (16, nat j)], [.var [num 0, num 0]]⟩
def toE : St := ⟨[(1, num 0), (4, .ptr 0 0 0), (6, num 1000000000000), (7, nat s), (8, num 0), (14, .sl false 2 es), (15, nat n), (16, nat j), (17, boolX false)], [.var [num 0, num 0]]⟩
theorem to_canon : canon 0 (toH es s n j) = some (toH es s n j) := by kernel_rfl
theorem to_end (h : ¬ j < n) : run (callF tab ext N) 0 N (loopAt 256 0) (toH es s n j) = some (.exit 0, toE es s n j) :=
  run_of [(17, .b false)] [] (pf1 (nlt_nat h)) (lo' := []) (by kernel_rfl)
theorem to_round (x : Nat) (hx : x < 4) (hj : j < n) (hj2 : j < 100000) (hs : s < 100000) (he : es[j]? = some [nat x, num 0]) :
    ∃ υ, run (callF tab ext (N + 50)) 0 (N + 50) (loopAt 256 0) (toH es s n j) = some (.norm, υ) ∧ canon 0 υ = some (toH es (s + x) n (j + 1)) := by
  have h1 := lt_nat hj
  have h2 := parts246 hx N
  have h3 : IntKind.i64.wrap (Int.ofNat s + Int.ofNat x) = Int.ofNat (s + x) := by rw [IntKind.wrap_i64]; simp only [Int.ofNat_eq_natCast]; omega
  have h4 := next_nat (j := j) (by omega)
  exact rd_of [(17, .b true), (18, .e [nat x, num 0]), (22, .p (.tup [nat x, num 0])), (27, .i (Int.ofNat (s + x))), (30, .i 0), (31, .i (Int.ofNat (j + 1)))] (pf6 h1 he h2 h3 (show IntKind.i64.wrap (0 + 0) = 0 by decide) h4) (by kernel_rfl)
end
theorem total256 (l : List Nat) (h : Tiny l) (hl : l.length ≤ 1000) (N : Nat) (hN : 2000 ≤ N) : Gam.pureD (callF tab ext N) 256 [.sl false 2 (nsC l), num 0] = some (.tup [.agg [nat (sumN l), num 0], num 0]) := by
  obtain ⟨M, rfl⟩ : ∃ M, N = M + 51 := ⟨N - 51, by omega⟩
  have hn := nsC_len l
  have hsum := sumN_le h
  have hloop : run (callF tab ext (M + 50)) 0 (M + 50) (.loop (loopAt 256 0)) (toH (nsC l) 0 (nsC l).length 0) = some (.exit 0, toE (nsC l) (sumN l) (nsC l).length (nsC l).length) := by
    refine loop_for (σ := fun j => toH (nsC l) (sumN (l.take j)) (nsC l).length j) (k := (nsC l).length) (to_canon ..) (fun j hj => ?_) ?_ (by simp) (by omega)
    · have hj' : j < l.length := by omega
      have hle := sumN_le (l := l.take j) (fun n hn => h n (List.mem_of_mem_take hn))
      rw [List.length_take] at hle
      have e : sumN (l.take (j + 1)) = sumN (l.take j) + l[j] := by
        rw [List.take_succ_eq_append_getElem hj', sumN_app]
        rfl
      rw [e]
      exact to_round (nsC l) _ _ j M l[j] (h _ (List.getElem_mem hj')) hj (by omega) (by omega) (nsC_get hj')
    · rw [hn, List.take_length]
      exact to_end (nsC l) (sumN l) l.length l.length (M + 50) (Nat.lt_irrefl _)
  have a1 := abs258 (sumN l) (by omega) (by omega) (M + 49)
  have a2 := fit259 (sumN l) (by omega) (by omega) (M + 48)
  generalize sumN l = s at *
  have e1 : IntKind.i64.wrap (Int.ofNat s + 0) = Int.ofNat s := by rw [IntKind.wrap_i64]; simp only [Int.ofNat_eq_natCast]; omega
  have e2 : decide (Int.ofNat s < 0) = false := decide_eq_false (by simp only [Int.ofNat_eq_natCast]; omega)
  have e3 : decide (Int.ofNat s > 999999999999999) = false := decide_eq_false (by simp only [Int.ofNat_eq_natCast]; omega)
  have e4 : IntKind.i64.wrap (Int.ofNat s * 1) = Int.ofNat s := by rw [IntKind.wrap_i64]; simp only [Int.ofNat_eq_natCast]; omega
  cases hp : decide (Int.ofNat s > 0) with
  | true =>
    exact pure_of [(36, .i (Int.ofNat s)), (42, .b true), (54, .b false), (65, .p (nat s)), (69, .b false), (74, .i (Int.ofNat s)), (80, .i (Int.ofNat s)), (82, .p (.tup [.agg [nat s, num 0], num 0]))] [(.exit 0, toE (nsC l) s (nsC l).length (nsC l).length)]
      (pfJ hloop e1 hp e2 a1 e3 e4 (pf2 e1 a2)) (x := .tup [.agg [nat s, num 0], num 0]) (bx := []) (by kernel_rfl) rfl
  | false =>
    exact pure_of [(36, .i (Int.ofNat s)), (42, .b false), (54, .b false), (65, .p (nat s)), (69, .b false), (74, .i (Int.ofNat s)), (80, .i (Int.ofNat s)), (82, .p (.tup [.agg [nat s, num 0], num 0]))] [(.exit 0, toE (nsC l) s (nsC l).length (nsC l).length)]
      (pfJ hloop e1 hp e2 a1 e3 e4 (pf2 e1 a2)) (x := .tup [.agg [nat s, num 0], num 0]) (bx := []) (by kernel_rfl) rfl
/-! ### Sum -/
theorem sum191 (l : List Nat) (h : Tiny l) (hl : l.length ≤ 256) (N : Nat) (hN : 2001 ≤ N) : Gam.pureD (callF tab ext N) 191 [.sl false 2 (nsC l)] = some (.tup [.agg [nat (sumN l), num 0], num 0]) := by
  obtain ⟨M, rfl⟩ : ∃ M, N = M + 1 := ⟨N - 1, by omega⟩
  have hn := nsC_len l
  have h1 : decide (Int.ofNat (nsC l).length > 256) = false := decide_eq_false (by rw [hn]; simp only [Int.ofNat_eq_natCast]; omega)
  have h2 := check245 l h (by omega) M (by omega)
  have h3 := total256 l h (by omega) M (by omega)
  have hloop : run (callF tab ext M) 0 M (.loop (loopAt 191 0)) ⟨[(0, .sl false 2 (nsC l)), (2, .ptr 0 0 0), (5, num 0), (18, .sl false 2 (nsC l)), (19, nat (nsC l).length), (20, num 0)], [.var [num 0, num 0]]⟩ = some (.exit 0, ⟨[(0, .sl false 2 (nsC l)), (2, .ptr 0 0 0), (5, num 0), (18, .sl false 2 (nsC l)), (19, nat (nsC l).length), (20, nat (nsC l).length), (21, boolX false)], [.var [num 0, num 0]]⟩) := by
    refine loop_for (σ := fun j => ⟨[(0, .sl false 2 (nsC l)), (2, .ptr 0 0 0), (5, num 0), (18, .sl false 2 (nsC l)), (19, nat (nsC l).length), (20, nat j)], [.var [num 0, num 0]]⟩) (k := (nsC l).length) (by kernel_rfl) (fun j hj => ?_) ?_ (by simp) (by omega)
    · have hj' : j < l.length := by omega
      exact rd_of [(21, .b true), (22, .e [nat l[j], num 0]), (28, .i (Int.ofNat (j + 1)))] (pf3 (lt_nat hj) (nsC_get hj') (next_nat (j := j) (by omega))) (by kernel_rfl)
    · exact run_of [(21, .b false)] [] (pf1 (nlt_nat (Nat.lt_irrefl (nsC l).length))) (lo' := []) (by kernel_rfl)
  exact pure_of [(10, .b false), (13, .p (num 0)), (31, .p (.tup [.agg [nat (sumN l), num 0], num 0]))] [(.exit 0, ⟨[(0, .sl false 2 (nsC l)), (2, .ptr 0 0 0), (5, num 0), (18, .sl false 2 (nsC l)), (19, nat (nsC l).length), (20, nat (nsC l).length), (21, boolX false)], [.var [num 0, num 0]]⟩)]
    (pf4 h1 h2 hloop h3) (x := .tup [.agg [nat (sumN l), num 0], num 0]) (bx := []) (by kernel_rfl) rfl
end Go.Proofs.YthphniobeigklaaGreatDoor.Ag
