/- Comparisons: of numbers, of texts, of values, of stamps. -/
import Derived.Test.YtbfnfldmnombgaaGreatDoorQ11
namespace Go.Proofs.YtbfnfldmnombgaaGreatDoor
open Go.Em
set_option maxRecDepth 100000

/-- How two numbers compare. -/
def ordI (a b : Int) : Int := if a < b then -1 else if b < a then 1 else 0
/-- The first number that is not 0. -/
def orL : List Int → Int
  | [] => 0
  | x :: r => if x = 0 then orL r else x
/-- How two lists compare, by how their elements do. -/
def lexC {α β : Type} (r : α → β → Int) : List α → List β → Int
  | [], [] => 0
  | [], _ :: _ => -1
  | _ :: _, [] => 1
  | a :: la, b :: lb => if r a b = 0 then lexC r la lb else r a b

theorem ne_true {x : Int} (h : ¬ x = 0) : (!(x == 0)) = true := by simp [h]
theorem ne_false {x : Int} (h : x = 0) : (!(x == 0)) = false := by simp [h]
theorem ge_true {j k : Nat} (h : k ≤ j) : decide (Int.ofNat k ≤ Int.ofNat j) = true := by
  have : Int.ofNat k ≤ Int.ofNat j := by simp only [Int.ofNat_eq_natCast]; omega
  exact decide_eq_true this
theorem ge_false {j k : Nat} (h : j < k) : decide (Int.ofNat k ≤ Int.ofNat j) = false := by
  have : ¬ Int.ofNat k ≤ Int.ofNat j := by simp only [Int.ofNat_eq_natCast]; omega
  exact decide_eq_false this

theorem not_nan (N : Nat) (a : Int) : Gam.pureD (callF tab ext (N + 2)) 126 [num a] = some (boolX false) :=
  pure_of [(5, .b false)] [] (pf1 (show (!(a == a)) = false by simp)) (x := boolX false) (bx := []) (by kernel_rfl) rfl
theorem cmp_int (N : Nat) (a b : Int) : Gam.pureD (callF tab ext (N + 4)) 78 [num a, num b] = some (num (ordI a b)) := by
  unfold ordI
  by_cases h : a < b
  · rw [if_pos h]
    exact pure_of [(8, .p (boolX false)), (10, .p (boolX false)), (16, .b true)] [] (pf3 (not_nan (N + 1) a) (not_nan (N + 1) b) (decide_eq_true h)) (x := num (-1)) (bx := []) (by kernel_rfl) rfl
  · rw [if_neg h]
    by_cases h2 : b < a
    · rw [if_pos h2]
      exact pure_of [(8, .p (boolX false)), (10, .p (boolX false)), (16, .b false), (19, .b true)] [] (pf4 (not_nan (N + 1) a) (not_nan (N + 1) b) (decide_eq_false h) (decide_eq_true h2)) (x := num 1) (bx := []) (by kernel_rfl) rfl
    · rw [if_neg h2]
      exact pure_of [(8, .p (boolX false)), (10, .p (boolX false)), (16, .b false), (19, .b false)] [] (pf4 (not_nan (N + 1) a) (not_nan (N + 1) b) (decide_eq_false h) (decide_eq_false h2)) (x := num 0) (bx := []) (by kernel_rfl) rfl

def intsC (l : List Int) : List (List X) := l.map fun x => [num x]
theorem intsC_length (l : List Int) : (intsC l).length = l.length := by simp [intsC]
theorem intsC_get {l : List Int} {j : Nat} (h : j < l.length) : (intsC l)[j]? = some [num l[j]] := by simp [intsC, h]

def orH (l : List (List X)) (n j : Nat) : St := ⟨[(3, num 0), (6, .sl false 1 l), (7, nat n), (8, nat j)], []⟩
theorem or_canon (l : List (List X)) (n j : Nat) : canon 0 (orH l n j) = some (orH l n j) := by kernel_rfl
theorem or_loop (M : Nat) (l : List Int) (hl : l.length < 1000000) : ∀ d j F, j + d = l.length → d < F →
    (¬ orL (l.drop j) = 0 ∧ iter 0 (run (callF tab ext M) 0 M (loopAt 28 0)) F (orH (intsC l) (intsC l).length j) = some (.ret, ⟨[(2, num (orL (l.drop j)))], []⟩)) ∨
    (orL (l.drop j) = 0 ∧ iter 0 (run (callF tab ext M) 0 M (loopAt 28 0)) F (orH (intsC l) (intsC l).length j) = some (.exit 0, ⟨[(3, num 0), (6, .sl false 1 (intsC l)), (7, nat (intsC l).length), (8, nat (intsC l).length), (9, boolX false)], []⟩))
  | 0, j, F, hj, hF => by
    right
    obtain ⟨F', rfl⟩ : ∃ F', F = F' + 1 := ⟨F - 1, by omega⟩
    have hj' : j = l.length := by omega
    subst hj'
    have hn := intsC_length l
    refine ⟨by rw [List.drop_length]; rfl, iter_end (or_canon _ _ _) ?_ (by simp)⟩
    rw [hn]
    exact run_of [(9, .b false)] [] (pf1 (nlt_nat (Nat.lt_irrefl l.length))) (lo' := []) (by kernel_rfl)
  | d + 1, j, F, hj, hF => by
    obtain ⟨F', rfl⟩ : ∃ F', F = F' + 1 := ⟨F - 1, by omega⟩
    have hn := intsC_length l
    have hj' : j < l.length := by omega
    have hd : l.drop j = l[j] :: l.drop (j + 1) := by rw [← List.getElem_cons_drop hj']
    rw [hd, orL]
    by_cases h : l[j] = 0
    · rw [if_pos h]
      have hs : run (callF tab ext M) 0 M (loopAt 28 0) (orH (intsC l) (intsC l).length j) = some (.norm, orH (intsC l) (intsC l).length (j + 1)) :=
        run_of [(9, .b true), (10, .e [num l[j]]), (14, .b false), (16, .i (Int.ofNat (j + 1)))] [] (pf4 (lt_nat (j := j) (k := (intsC l).length) (by omega)) (intsC_get hj') (ne_false h) (next_nat (j := j) (by omega))) (lo' := []) (by kernel_rfl)
      rw [iter_step (or_canon _ _ _) hs rfl]
      exact or_loop M l hl d (j + 1) F' (by omega) (by omega)
    · rw [if_neg h]
      left
      refine ⟨h, iter_end (or_canon _ _ _) ?_ (by simp)⟩
      exact run_of [(9, .b true), (10, .e [num l[j]]), (14, .b true)] [] (pf3 (lt_nat (j := j) (k := (intsC l).length) (by omega)) (intsC_get hj') (ne_true h)) (lo' := []) (by kernel_rfl)
theorem or_pure (N : Nat) (l : List Int) (hl : l.length < 1000000) (hN : l.length < N) : Gam.pureD (callF tab ext (N + 1)) 28 [.sl false 1 (intsC l)] = some (num (orL l)) := by
  rcases or_loop N l hl l.length 0 N (by omega) hN with ⟨_, h⟩ | ⟨h0, h⟩
  · exact pure_of [] [(.ret, ⟨[(2, num (orL l))], []⟩)] (pf1 h) (x := num (orL l)) (bx := []) (by kernel_rfl) rfl
  · have h0' : orL l = 0 := h0
    rw [h0']
    exact pure_of [] [(.exit 0, ⟨[(3, num 0), (6, .sl false 1 (intsC l)), (7, nat (intsC l).length), (8, nat (intsC l).length), (9, boolX false)], []⟩)] (pf1 h) (x := num 0) (bx := []) (by kernel_rfl) rfl

theorem iter_canon {nIn : Nat} {f : St → Option (Ex × St)} {F : Nat} {υ σ : St} (h : canon nIn υ = some σ) (h' : canon nIn σ = some σ) : iter nIn f F υ = iter nIn f F σ := by
  cases F with
  | zero => rfl
  | succ F => simp only [iter, h, h']

/-! ### slices.CompareFunc, 98 -/
section
variable (g : Nat) (l m : List (List X)) (n j : Nat)
def ch98 : St := ⟨[(0, .sl false 1 l), (1, .sl false 1 m), (2, .fn g []), (11, .sl false 1 l), (12, nat n), (13, nat j)], []⟩
def ce98 : St := ⟨[(0, .sl false 1 l), (1, .sl false 1 m), (2, .fn g []), (11, .sl false 1 l), (12, nat n), (13, nat j), (14, boolX false)], []⟩
theorem ch98_canon : canon 0 (ch98 g l m n j) = some (ch98 g l m n j) := by kernel_rfl
end
theorem cmp98_loop (M g : Nat) (la lb : List Int) (r : Int → Int → Int) (hr : ∀ a b, a ∈ la → b ∈ lb → Gam.pureD (callF tab ext M) g [num a, num b] = some (num (r a b))) (hl : la.length < 1000000) : ∀ d j F, j + d = la.length → d < F →
    (∃ bx, iter 0 (run (callF tab ext M) 0 M (loopAt 79 0)) F (ch98 g (intsC la) (intsC lb) (intsC la).length j) = some (.ret, ⟨[(6, num (lexC r (la.drop j) (lb.drop j)))], bx⟩)) ∨
    (lexC r (la.drop j) (lb.drop j) = (if la.length < lb.length then -1 else 0) ∧ iter 0 (run (callF tab ext M) 0 M (loopAt 79 0)) F (ch98 g (intsC la) (intsC lb) (intsC la).length j) = some (.exit 0, ce98 g (intsC la) (intsC lb) (intsC la).length (intsC la).length))
  | 0, j, F, hj, hF => by
    obtain ⟨F', rfl⟩ : ∃ F', F = F' + 1 := ⟨F - 1, by omega⟩
    have hj' : j = la.length := by omega
    subst hj'
    have hn := intsC_length la
    have h : run (callF tab ext M) 0 M (loopAt 79 0) (ch98 g (intsC la) (intsC lb) la.length la.length) = some (.exit 0, ce98 g (intsC la) (intsC lb) la.length la.length) :=
      run_of [(14, .b false)] [] (pf1 (nlt_nat (Nat.lt_irrefl la.length))) (lo' := []) (by kernel_rfl)
    right
    refine ⟨?_, by rw [hn]; exact iter_end (ch98_canon _ _ _ _ _) h (by simp)⟩
    rw [List.drop_length]
    by_cases hb : la.length < lb.length
    · rw [if_pos hb, ← List.getElem_cons_drop hb]; rfl
    · rw [if_neg hb, List.drop_eq_nil_of_le (by omega)]; rfl
  | d + 1, j, F, hj, hF => by
    obtain ⟨F', rfl⟩ : ∃ F', F = F' + 1 := ⟨F - 1, by omega⟩
    have hn := intsC_length la
    have hm := intsC_length lb
    have hj' : j < la.length := by omega
    have hd : la.drop j = la[j] :: la.drop (j + 1) := by rw [← List.getElem_cons_drop hj']
    have hg := intsC_get hj'
    have hma : la[j] ∈ la := List.getElem_mem hj'
    rw [hd]
    generalize la[j] = a at hg hma
    skip
    by_cases hb : j < lb.length
    · have hdb : lb.drop j = lb[j] :: lb.drop (j + 1) := by rw [← List.getElem_cons_drop hb]
      have hgb := intsC_get hb
      have hmb : lb[j] ∈ lb := List.getElem_mem hb
      rw [hdb]
      generalize lb[j] = b at hgb hmb
      skip
      have hc := hr _ _ hma hmb
      rw [lexC]
      by_cases h : r a b = 0
      · rw [if_pos h]
        have hs : ∃ bx, run (callF tab ext M) 0 M (loopAt 79 0) (ch98 g (intsC la) (intsC lb) (intsC la).length j) = some (.norm, ⟨(ch98 g (intsC la) (intsC lb) (intsC la).length (j + 1)).tm, bx⟩) :=
          ⟨[], run_of [(14, .b true), (16, .e [num a]), (21, .b false), (24, .e [num b]), (29, .p (num (r a b))), (31, .b false), (33, .i (Int.ofNat (j + 1)))] []
            (pf7 (lt_nat (j := j) (k := (intsC la).length) (by omega)) hg (ge_false (j := j) (k := (intsC lb).length) (by omega)) hgb hc (ne_false h) (next_nat (j := j) (by omega))) (lo' := []) (by kernel_rfl)⟩
        obtain ⟨bx, hs⟩ := hs
        have hcn : canon 0 ⟨(ch98 g (intsC la) (intsC lb) (intsC la).length (j + 1)).tm, bx⟩ = some (ch98 g (intsC la) (intsC lb) (intsC la).length (j + 1)) := by kernel_rfl
        have := cmp98_loop M g la lb r hr hl d (j + 1) F' (by omega) (by omega)
        have hi : iter 0 (run (callF tab ext M) 0 M (loopAt 79 0)) (F' + 1) (ch98 g (intsC la) (intsC lb) (intsC la).length j) = iter 0 (run (callF tab ext M) 0 M (loopAt 79 0)) F' (ch98 g (intsC la) (intsC lb) (intsC la).length (j + 1)) :=
          (iter_step (ch98_canon _ _ _ _ _) hs rfl).trans (iter_canon hcn (ch98_canon _ _ _ _ _))
        rw [hi]
        exact this
      · rw [if_neg h]
        left
        exact ⟨_, iter_end (ch98_canon _ _ _ _ _) (run_of [(14, .b true), (16, .e [num a]), (21, .b false), (24, .e [num b]), (29, .p (num (r a b))), (31, .b true)] []
            (pf6 (lt_nat (j := j) (k := (intsC la).length) (by omega)) hg (ge_false (j := j) (k := (intsC lb).length) (by omega)) hgb hc (ne_true h)) (lo' := []) (σ' := ⟨[(6, num (r a b))], []⟩) (by kernel_rfl)) (by simp)⟩
    · left
      rw [List.drop_eq_nil_of_le (by omega : lb.length ≤ j), lexC]
      exact ⟨_, iter_end (ch98_canon _ _ _ _ _) (run_of [(14, .b true), (16, .e [num a]), (21, .b true)] []
            (pf3 (lt_nat (j := j) (k := (intsC la).length) (by omega)) hg (ge_true (j := j) (k := (intsC lb).length) (by omega))) (lo' := []) (σ' := ⟨[(6, num 1)], []⟩) (by kernel_rfl)) (by simp)⟩
theorem cmp98_pure (M g : Nat) (la lb : List Int) (r : Int → Int → Int) (hr : ∀ a b, a ∈ la → b ∈ lb → Gam.pureD (callF tab ext M) g [num a, num b] = some (num (r a b))) (hl : la.length < 1000000) (hN : la.length < M) :
    Gam.pureD (callF tab ext (M + 1)) 79 [.sl false 1 (intsC la), .sl false 1 (intsC lb), .fn g []] = some (num (lexC r la lb)) := by
  have hn := intsC_length la
  have hm := intsC_length lb
  rcases cmp98_loop M g la lb r hr hl la.length 0 M (by omega) hN with ⟨bx, h⟩ | ⟨h0, h⟩
  · exact pure_of [] [(.ret, ⟨[(6, num (lexC r la lb))], bx⟩)] (pf1 h) (x := num (lexC r la lb)) (bx := []) (by kernel_rfl) rfl
  · have h0' : lexC r la lb = (if la.length < lb.length then -1 else 0) := h0
    rw [h0']
    by_cases hb : la.length < lb.length
    · rw [if_pos hb]
      exact pure_of [(38, .b true)] [(.exit 0, ce98 g (intsC la) (intsC lb) (intsC la).length (intsC la).length)] (pf2 h (lt_nat (j := (intsC la).length) (k := (intsC lb).length) (by omega))) (x := num (-1)) (bx := []) (by kernel_rfl) rfl
    · rw [if_neg hb]
      exact pure_of [(38, .b false)] [(.exit 0, ce98 g (intsC la) (intsC lb) (intsC la).length (intsC la).length)] (pf2 h (nlt_nat (j := (intsC la).length) (k := (intsC lb).length) (by omega))) (x := num 0) (bx := []) (by kernel_rfl) rfl

/-! ### slices.CompareFunc, 104 -/
section
variable (g : Nat) (l m : List (List X)) (n j : Nat)
def ch104 : St := ⟨[(0, .sl false 6 l), (1, .sl false 6 m), (2, .fn g []), (11, .sl false 6 l), (12, nat n), (13, nat j)], []⟩
def ce104 : St := ⟨[(0, .sl false 6 l), (1, .sl false 6 m), (2, .fn g []), (11, .sl false 6 l), (12, nat n), (13, nat j), (14, boolX false)], []⟩
theorem ch104_canon : canon 0 (ch104 g l m n j) = some (ch104 g l m n j) := by kernel_rfl
end
theorem cmp104_loop (M g : Nat) (la lb : List Val) (r : Val → Val → Int) (hr : ∀ a b, a ∈ la → b ∈ lb → Gam.pureD (callF tab ext M) g [.agg a.cells, .agg b.cells] = some (num (r a b))) (hl : la.length < 1000000) : ∀ d j F, j + d = la.length → d < F →
    (∃ bx, iter 0 (run (callF tab ext M) 0 M (loopAt 84 0)) F (ch104 g (cellsL la) (cellsL lb) (cellsL la).length j) = some (.ret, ⟨[(6, num (lexC r (la.drop j) (lb.drop j)))], bx⟩)) ∨
    (lexC r (la.drop j) (lb.drop j) = (if la.length < lb.length then -1 else 0) ∧ iter 0 (run (callF tab ext M) 0 M (loopAt 84 0)) F (ch104 g (cellsL la) (cellsL lb) (cellsL la).length j) = some (.exit 0, ce104 g (cellsL la) (cellsL lb) (cellsL la).length (cellsL la).length))
  | 0, j, F, hj, hF => by
    obtain ⟨F', rfl⟩ : ∃ F', F = F' + 1 := ⟨F - 1, by omega⟩
    have hj' : j = la.length := by omega
    subst hj'
    have hn := cellsL_length la
    have h : run (callF tab ext M) 0 M (loopAt 84 0) (ch104 g (cellsL la) (cellsL lb) la.length la.length) = some (.exit 0, ce104 g (cellsL la) (cellsL lb) la.length la.length) :=
      run_of [(14, .b false)] [] (pf1 (nlt_nat (Nat.lt_irrefl la.length))) (lo' := []) (by kernel_rfl)
    right
    refine ⟨?_, by rw [hn]; exact iter_end (ch104_canon _ _ _ _ _) h (by simp)⟩
    rw [List.drop_length]
    by_cases hb : la.length < lb.length
    · rw [if_pos hb, ← List.getElem_cons_drop hb]; rfl
    · rw [if_neg hb, List.drop_eq_nil_of_le (by omega)]; rfl
  | d + 1, j, F, hj, hF => by
    obtain ⟨F', rfl⟩ : ∃ F', F = F' + 1 := ⟨F - 1, by omega⟩
    have hn := cellsL_length la
    have hm := cellsL_length lb
    have hj' : j < la.length := by omega
    have hd : la.drop j = la[j] :: la.drop (j + 1) := by rw [← List.getElem_cons_drop hj']
    have hg := cellsL_get hj'
    have hma : la[j] ∈ la := List.getElem_mem hj'
    rw [hd]
    generalize la[j] = a at hg hma
    obtain ⟨a1, a2, a3, a4, a5, a6⟩ := a
    by_cases hb : j < lb.length
    · have hdb : lb.drop j = lb[j] :: lb.drop (j + 1) := by rw [← List.getElem_cons_drop hb]
      have hgb := cellsL_get hb
      have hmb : lb[j] ∈ lb := List.getElem_mem hb
      rw [hdb]
      generalize lb[j] = b at hgb hmb
      obtain ⟨b1, b2, b3, b4, b5, b6⟩ := b
      have hc := hr _ _ hma hmb
      rw [lexC]
      by_cases h : r (Val.mk a1 a2 a3 a4 a5 a6) (Val.mk b1 b2 b3 b4 b5 b6) = 0
      · rw [if_pos h]
        have hs : ∃ bx, run (callF tab ext M) 0 M (loopAt 84 0) (ch104 g (cellsL la) (cellsL lb) (cellsL la).length j) = some (.norm, ⟨(ch104 g (cellsL la) (cellsL lb) (cellsL la).length (j + 1)).tm, bx⟩) :=
          ⟨[.var (Val.mk a1 a2 a3 a4 a5 a6).cells, .var (Val.mk b1 b2 b3 b4 b5 b6).cells], run_of [(14, .b true), (16, .e (Val.mk a1 a2 a3 a4 a5 a6).cells), (21, .b false), (24, .e (Val.mk b1 b2 b3 b4 b5 b6).cells), (29, .p (num (r (Val.mk a1 a2 a3 a4 a5 a6) (Val.mk b1 b2 b3 b4 b5 b6)))), (31, .b false), (33, .i (Int.ofNat (j + 1)))] []
            (pf7 (lt_nat (j := j) (k := (cellsL la).length) (by omega)) hg (ge_false (j := j) (k := (cellsL lb).length) (by omega)) hgb hc (ne_false h) (next_nat (j := j) (by omega))) (lo' := []) (by kernel_rfl)⟩
        obtain ⟨bx, hs⟩ := hs
        have hcn : canon 0 ⟨(ch104 g (cellsL la) (cellsL lb) (cellsL la).length (j + 1)).tm, bx⟩ = some (ch104 g (cellsL la) (cellsL lb) (cellsL la).length (j + 1)) := by kernel_rfl
        have := cmp104_loop M g la lb r hr hl d (j + 1) F' (by omega) (by omega)
        have hi : iter 0 (run (callF tab ext M) 0 M (loopAt 84 0)) (F' + 1) (ch104 g (cellsL la) (cellsL lb) (cellsL la).length j) = iter 0 (run (callF tab ext M) 0 M (loopAt 84 0)) F' (ch104 g (cellsL la) (cellsL lb) (cellsL la).length (j + 1)) :=
          (iter_step (ch104_canon _ _ _ _ _) hs rfl).trans (iter_canon hcn (ch104_canon _ _ _ _ _))
        rw [hi]
        exact this
      · rw [if_neg h]
        left
        exact ⟨_, iter_end (ch104_canon _ _ _ _ _) (run_of [(14, .b true), (16, .e (Val.mk a1 a2 a3 a4 a5 a6).cells), (21, .b false), (24, .e (Val.mk b1 b2 b3 b4 b5 b6).cells), (29, .p (num (r (Val.mk a1 a2 a3 a4 a5 a6) (Val.mk b1 b2 b3 b4 b5 b6)))), (31, .b true)] []
            (pf6 (lt_nat (j := j) (k := (cellsL la).length) (by omega)) hg (ge_false (j := j) (k := (cellsL lb).length) (by omega)) hgb hc (ne_true h)) (lo' := []) (σ' := ⟨[(6, num (r (Val.mk a1 a2 a3 a4 a5 a6) (Val.mk b1 b2 b3 b4 b5 b6)))], [.var (Val.mk a1 a2 a3 a4 a5 a6).cells, .var (Val.mk b1 b2 b3 b4 b5 b6).cells]⟩) (by kernel_rfl)) (by simp)⟩
    · left
      rw [List.drop_eq_nil_of_le (by omega : lb.length ≤ j), lexC]
      exact ⟨_, iter_end (ch104_canon _ _ _ _ _) (run_of [(14, .b true), (16, .e (Val.mk a1 a2 a3 a4 a5 a6).cells), (21, .b true)] []
            (pf3 (lt_nat (j := j) (k := (cellsL la).length) (by omega)) hg (ge_true (j := j) (k := (cellsL lb).length) (by omega))) (lo' := []) (σ' := ⟨[(6, num 1)], [.var (Val.mk a1 a2 a3 a4 a5 a6).cells]⟩) (by kernel_rfl)) (by simp)⟩
theorem cmp104_pure (M g : Nat) (la lb : List Val) (r : Val → Val → Int) (hr : ∀ a b, a ∈ la → b ∈ lb → Gam.pureD (callF tab ext M) g [.agg a.cells, .agg b.cells] = some (num (r a b))) (hl : la.length < 1000000) (hN : la.length < M) :
    Gam.pureD (callF tab ext (M + 1)) 84 [.sl false 6 (cellsL la), .sl false 6 (cellsL lb), .fn g []] = some (num (lexC r la lb)) := by
  have hn := cellsL_length la
  have hm := cellsL_length lb
  rcases cmp104_loop M g la lb r hr hl la.length 0 M (by omega) hN with ⟨bx, h⟩ | ⟨h0, h⟩
  · exact pure_of [] [(.ret, ⟨[(6, num (lexC r la lb))], bx⟩)] (pf1 h) (x := num (lexC r la lb)) (bx := []) (by kernel_rfl) rfl
  · have h0' : lexC r la lb = (if la.length < lb.length then -1 else 0) := h0
    rw [h0']
    by_cases hb : la.length < lb.length
    · rw [if_pos hb]
      exact pure_of [(38, .b true)] [(.exit 0, ce104 g (cellsL la) (cellsL lb) (cellsL la).length (cellsL la).length)] (pf2 h (lt_nat (j := (cellsL la).length) (k := (cellsL lb).length) (by omega))) (x := num (-1)) (bx := []) (by kernel_rfl) rfl
    · rw [if_neg hb]
      exact pure_of [(38, .b false)] [(.exit 0, ce104 g (cellsL la) (cellsL lb) (cellsL la).length (cellsL la).length)] (pf2 h (nlt_nat (j := (cellsL la).length) (k := (cellsL lb).length) (by omega))) (x := num 0) (bx := []) (by kernel_rfl) rfl

/-! ### slices.CompareFunc, 105 -/
section
variable (g : Nat) (l m : List (List X)) (n j : Nat)
def ch105 : St := ⟨[(0, .sl false 7 l), (1, .sl false 7 m), (2, .fn g []), (11, .sl false 7 l), (12, nat n), (13, nat j)], []⟩
def ce105 : St := ⟨[(0, .sl false 7 l), (1, .sl false 7 m), (2, .fn g []), (11, .sl false 7 l), (12, nat n), (13, nat j), (14, boolX false)], []⟩
theorem ch105_canon : canon 0 (ch105 g l m n j) = some (ch105 g l m n j) := by kernel_rfl
end
theorem cmp105_loop (M g : Nat) (la lb : List (ByteArray × Val)) (r : (ByteArray × Val) → (ByteArray × Val) → Int) (hr : ∀ a b, a ∈ la → b ∈ lb → Gam.pureD (callF tab ext M) g [.agg (strX a.1 :: a.2.cells), .agg (strX b.1 :: b.2.cells)] = some (num (r a b))) (hl : la.length < 1000000) : ∀ d j F, j + d = la.length → d < F →
    (∃ bx, iter 0 (run (callF tab ext M) 0 M (loopAt 85 0)) F (ch105 g (cellsF la) (cellsF lb) (cellsF la).length j) = some (.ret, ⟨[(6, num (lexC r (la.drop j) (lb.drop j)))], bx⟩)) ∨
    (lexC r (la.drop j) (lb.drop j) = (if la.length < lb.length then -1 else 0) ∧ iter 0 (run (callF tab ext M) 0 M (loopAt 85 0)) F (ch105 g (cellsF la) (cellsF lb) (cellsF la).length j) = some (.exit 0, ce105 g (cellsF la) (cellsF lb) (cellsF la).length (cellsF la).length))
  | 0, j, F, hj, hF => by
    obtain ⟨F', rfl⟩ : ∃ F', F = F' + 1 := ⟨F - 1, by omega⟩
    have hj' : j = la.length := by omega
    subst hj'
    have hn := cellsF_length la
    have h : run (callF tab ext M) 0 M (loopAt 85 0) (ch105 g (cellsF la) (cellsF lb) la.length la.length) = some (.exit 0, ce105 g (cellsF la) (cellsF lb) la.length la.length) :=
      run_of [(14, .b false)] [] (pf1 (nlt_nat (Nat.lt_irrefl la.length))) (lo' := []) (by kernel_rfl)
    right
    refine ⟨?_, by rw [hn]; exact iter_end (ch105_canon _ _ _ _ _) h (by simp)⟩
    rw [List.drop_length]
    by_cases hb : la.length < lb.length
    · rw [if_pos hb, ← List.getElem_cons_drop hb]; rfl
    · rw [if_neg hb, List.drop_eq_nil_of_le (by omega)]; rfl
  | d + 1, j, F, hj, hF => by
    obtain ⟨F', rfl⟩ : ∃ F', F = F' + 1 := ⟨F - 1, by omega⟩
    have hn := cellsF_length la
    have hm := cellsF_length lb
    have hj' : j < la.length := by omega
    have hd : la.drop j = la[j] :: la.drop (j + 1) := by rw [← List.getElem_cons_drop hj']
    have hg := cellsF_get hj'
    have hma : la[j] ∈ la := List.getElem_mem hj'
    rw [hd]
    generalize la[j] = a at hg hma
    obtain ⟨a0, a1, a2, a3, a4, a5, a6⟩ := a
    by_cases hb : j < lb.length
    · have hdb : lb.drop j = lb[j] :: lb.drop (j + 1) := by rw [← List.getElem_cons_drop hb]
      have hgb := cellsF_get hb
      have hmb : lb[j] ∈ lb := List.getElem_mem hb
      rw [hdb]
      generalize lb[j] = b at hgb hmb
      obtain ⟨b0, b1, b2, b3, b4, b5, b6⟩ := b
      have hc := hr _ _ hma hmb
      rw [lexC]
      by_cases h : r (a0, Val.mk a1 a2 a3 a4 a5 a6) (b0, Val.mk b1 b2 b3 b4 b5 b6) = 0
      · rw [if_pos h]
        have hs : ∃ bx, run (callF tab ext M) 0 M (loopAt 85 0) (ch105 g (cellsF la) (cellsF lb) (cellsF la).length j) = some (.norm, ⟨(ch105 g (cellsF la) (cellsF lb) (cellsF la).length (j + 1)).tm, bx⟩) :=
          ⟨[.var (strX a0 :: (Val.mk a1 a2 a3 a4 a5 a6).cells), .var (strX b0 :: (Val.mk b1 b2 b3 b4 b5 b6).cells)], run_of [(14, .b true), (16, .e (strX a0 :: (Val.mk a1 a2 a3 a4 a5 a6).cells)), (21, .b false), (24, .e (strX b0 :: (Val.mk b1 b2 b3 b4 b5 b6).cells)), (29, .p (num (r (a0, Val.mk a1 a2 a3 a4 a5 a6) (b0, Val.mk b1 b2 b3 b4 b5 b6)))), (31, .b false), (33, .i (Int.ofNat (j + 1)))] []
            (pf7 (lt_nat (j := j) (k := (cellsF la).length) (by omega)) hg (ge_false (j := j) (k := (cellsF lb).length) (by omega)) hgb hc (ne_false h) (next_nat (j := j) (by omega))) (lo' := []) (by kernel_rfl)⟩
        obtain ⟨bx, hs⟩ := hs
        have hcn : canon 0 ⟨(ch105 g (cellsF la) (cellsF lb) (cellsF la).length (j + 1)).tm, bx⟩ = some (ch105 g (cellsF la) (cellsF lb) (cellsF la).length (j + 1)) := by kernel_rfl
        have := cmp105_loop M g la lb r hr hl d (j + 1) F' (by omega) (by omega)
        have hi : iter 0 (run (callF tab ext M) 0 M (loopAt 85 0)) (F' + 1) (ch105 g (cellsF la) (cellsF lb) (cellsF la).length j) = iter 0 (run (callF tab ext M) 0 M (loopAt 85 0)) F' (ch105 g (cellsF la) (cellsF lb) (cellsF la).length (j + 1)) :=
          (iter_step (ch105_canon _ _ _ _ _) hs rfl).trans (iter_canon hcn (ch105_canon _ _ _ _ _))
        rw [hi]
        exact this
      · rw [if_neg h]
        left
        exact ⟨_, iter_end (ch105_canon _ _ _ _ _) (run_of [(14, .b true), (16, .e (strX a0 :: (Val.mk a1 a2 a3 a4 a5 a6).cells)), (21, .b false), (24, .e (strX b0 :: (Val.mk b1 b2 b3 b4 b5 b6).cells)), (29, .p (num (r (a0, Val.mk a1 a2 a3 a4 a5 a6) (b0, Val.mk b1 b2 b3 b4 b5 b6)))), (31, .b true)] []
            (pf6 (lt_nat (j := j) (k := (cellsF la).length) (by omega)) hg (ge_false (j := j) (k := (cellsF lb).length) (by omega)) hgb hc (ne_true h)) (lo' := []) (σ' := ⟨[(6, num (r (a0, Val.mk a1 a2 a3 a4 a5 a6) (b0, Val.mk b1 b2 b3 b4 b5 b6)))], [.var (strX a0 :: (Val.mk a1 a2 a3 a4 a5 a6).cells), .var (strX b0 :: (Val.mk b1 b2 b3 b4 b5 b6).cells)]⟩) (by kernel_rfl)) (by simp)⟩
    · left
      rw [List.drop_eq_nil_of_le (by omega : lb.length ≤ j), lexC]
      exact ⟨_, iter_end (ch105_canon _ _ _ _ _) (run_of [(14, .b true), (16, .e (strX a0 :: (Val.mk a1 a2 a3 a4 a5 a6).cells)), (21, .b true)] []
            (pf3 (lt_nat (j := j) (k := (cellsF la).length) (by omega)) hg (ge_true (j := j) (k := (cellsF lb).length) (by omega))) (lo' := []) (σ' := ⟨[(6, num 1)], [.var (strX a0 :: (Val.mk a1 a2 a3 a4 a5 a6).cells)]⟩) (by kernel_rfl)) (by simp)⟩
theorem cmp105_pure (M g : Nat) (la lb : List (ByteArray × Val)) (r : (ByteArray × Val) → (ByteArray × Val) → Int) (hr : ∀ a b, a ∈ la → b ∈ lb → Gam.pureD (callF tab ext M) g [.agg (strX a.1 :: a.2.cells), .agg (strX b.1 :: b.2.cells)] = some (num (r a b))) (hl : la.length < 1000000) (hN : la.length < M) :
    Gam.pureD (callF tab ext (M + 1)) 85 [.sl false 7 (cellsF la), .sl false 7 (cellsF lb), .fn g []] = some (num (lexC r la lb)) := by
  have hn := cellsF_length la
  have hm := cellsF_length lb
  rcases cmp105_loop M g la lb r hr hl la.length 0 M (by omega) hN with ⟨bx, h⟩ | ⟨h0, h⟩
  · exact pure_of [] [(.ret, ⟨[(6, num (lexC r la lb))], bx⟩)] (pf1 h) (x := num (lexC r la lb)) (bx := []) (by kernel_rfl) rfl
  · have h0' : lexC r la lb = (if la.length < lb.length then -1 else 0) := h0
    rw [h0']
    by_cases hb : la.length < lb.length
    · rw [if_pos hb]
      exact pure_of [(38, .b true)] [(.exit 0, ce105 g (cellsF la) (cellsF lb) (cellsF la).length (cellsF la).length)] (pf2 h (lt_nat (j := (cellsF la).length) (k := (cellsF lb).length) (by omega))) (x := num (-1)) (bx := []) (by kernel_rfl) rfl
    · rw [if_neg hb]
      exact pure_of [(38, .b false)] [(.exit 0, ce105 g (cellsF la) (cellsF lb) (cellsF la).length (cellsF la).length)] (pf2 h (nlt_nat (j := (cellsF la).length) (k := (cellsF lb).length) (by omega))) (x := num 0) (bx := []) (by kernel_rfl) rfl
end Go.Proofs.YtbfnfldmnombgaaGreatDoor

/- Comparisons of values and of stamps; what is equal compares as equal. -/
namespace Go.Proofs.YtbfnfldmnombgaaGreatDoor
open Go.Em
set_option maxRecDepth 100000

def cmpB (a b : ByteArray) : Int := Lib.compareBytes a.data.toList b.data.toList
mutual
/-- How two values compare. -/
def cmpV : Val → Val → Int
  | .mk k i s t l f, .mk k' i' s' t' l' f' => orL [ordI k k', ordI i i', ordI s s', cmpB t t', cmpVL l l', cmpVF f f']
def cmpVL : List Val → List Val → Int
  | [], [] => 0
  | [], _ :: _ => -1
  | _ :: _, [] => 1
  | a :: l, b :: m => if cmpV a b = 0 then cmpVL l m else cmpV a b
def cmpVF : List (ByteArray × Val) → List (ByteArray × Val) → Int
  | [], [] => 0
  | [], _ :: _ => -1
  | _ :: _, [] => 1
  | (x, a) :: l, (y, b) :: m => if orL [cmpB x y, cmpV a b] = 0 then cmpVF l m else orL [cmpB x y, cmpV a b]
end
def cmpF (p q : ByteArray × Val) : Int := orL [cmpB p.1 q.1, cmpV p.2 q.2]
theorem cmpVL_eq : ∀ l m, cmpVL l m = lexC cmpV l m
  | [], [] => rfl
  | [], _ :: _ => rfl
  | _ :: _, [] => rfl
  | a :: l, b :: m => by simp only [cmpVL, lexC, cmpVL_eq l m]
theorem cmpVF_eq : ∀ l m, cmpVF l m = lexC cmpF l m
  | [], [] => rfl
  | [], _ :: _ => rfl
  | _ :: _, [] => rfl
  | (x, a) :: l, (y, b) :: m => by simp only [cmpVF, lexC, cmpF, cmpVF_eq l m]; rfl

theorem cmp_str (N : Nat) (a b : ByteArray) : Gam.pureD (callF tab ext (N + 3)) 75 [strX a, strX b] = some (num (cmpB a b)) := by kernel_rfl

theorem cmp_val : ∀ (n N : Nat) (v w : Val), v.size ≤ n → 3 * n + 12 ≤ N → v.size < 1000000 → Gam.pureD (callF tab ext N) 49 [.agg v.cells, .agg w.cells] = some (num (cmpV v w))
  | 0, _, .mk .., _, h, _, _ => by simp [Val.size] at h
  | n + 1, N, .mk k i s t l f, .mk k' i' s' t' l' f', h, hN, hs => by
    obtain ⟨M, rfl⟩ : ∃ M, N = M + 12 := ⟨N - 12, by omega⟩
    simp only [Val.size] at h hs
    have hl := sizeL_length l
    have hf := sizeF_length f
    have h1 : Gam.pureD (callF tab ext (M + 11)) 84 [.sl false 6 (cellsL l), .sl false 6 (cellsL l'), .fn 49 []] = some (num (lexC cmpV l l')) :=
      cmp104_pure (M + 10) 49 l l' cmpV (fun a b ha _ => by have := sizeL_mem ha; exact cmp_val n (M + 10) a b (by omega) (by omega) (by omega)) (by omega) (by omega)
    have h2 : Gam.pureD (callF tab ext (M + 11)) 85 [.sl false 7 (cellsF f), .sl false 7 (cellsF f'), .fn 86 []] = some (num (lexC cmpF f f')) :=
      cmp105_pure (M + 10) 86 f f' cmpF (fun a b ha _ => by
        have := sizeF_mem ha
        have hv : Gam.pureD (callF tab ext (M + 9)) 49 [.agg a.2.cells, .agg b.2.cells] = some (num (cmpV a.2 b.2)) := cmp_val n (M + 9) a.2 b.2 (by omega) (by omega) (by omega)
        obtain ⟨a0, a1, a2, a3, a4, a5, a6⟩ := a
        obtain ⟨b0, b1, b2, b3, b4, b5, b6⟩ := b
        have ho := or_pure (M + 8) [cmpB a0 b0, cmpV (Val.mk a1 a2 a3 a4 a5 a6) (Val.mk b1 b2 b3 b4 b5 b6)] (by simp) (by simp)
        exact pure_of [(9, .p (num (cmpB a0 b0))), (14, .p (num (cmpV (Val.mk a1 a2 a3 a4 a5 a6) (Val.mk b1 b2 b3 b4 b5 b6)))), (16, .p (num (orL [cmpB a0 b0, cmpV (Val.mk a1 a2 a3 a4 a5 a6) (Val.mk b1 b2 b3 b4 b5 b6)])))] []
          (pf3 (cmp_str (M + 6) a0 b0) hv ho) (x := num (orL [cmpB a0 b0, cmpV (Val.mk a1 a2 a3 a4 a5 a6) (Val.mk b1 b2 b3 b4 b5 b6)])) (bx := []) (by kernel_rfl) rfl) (by omega) (by omega)
    have ho := or_pure (M + 10) [ordI k k', ordI i i', ordI s s', cmpB t t', lexC cmpV l l', lexC cmpF f f'] (by simp) (by simp)
    rw [cmpV, cmpVL_eq, cmpVF_eq]
    exact pure_of [(9, .p (num (ordI k k'))), (14, .p (num (ordI i i'))), (19, .p (num (ordI s s'))), (24, .p (num (cmpB t t'))), (29, .p (num (lexC cmpV l l'))), (34, .p (num (lexC cmpF f f'))), (36, .p (num (orL [ordI k k', ordI i i', ordI s s', cmpB t t', lexC cmpV l l', lexC cmpF f f'])))] []
      (pf7 (cmp_int (M + 7) k k') (cmp_int (M + 7) i i') (cmp_int (M + 7) s s') (cmp_str (M + 8) t t') h1 h2 ho) (x := num (orL [ordI k k', ordI i i', ordI s s', cmpB t t', lexC cmpV l l', lexC cmpF f f'])) (bx := []) (by kernel_rfl) rfl

theorem ordI_refl (a : Int) : ordI a a = 0 := by simp [ordI]
theorem cmpB_refl (a : ByteArray) : cmpB a a = 0 := by
  unfold cmpB
  induction a.data.toList with
  | nil => rfl
  | cons x r ih => simp [Lib.compareBytes, ih]
theorem lexC_refl {α : Type} {r : α → α → Int} : ∀ {l : List α}, (∀ a, a ∈ l → r a a = 0) → lexC r l l = 0
  | [], _ => rfl
  | a :: l, h => by rw [lexC, if_pos (h a (by simp))]; exact lexC_refl fun b hb => h b (by simp [hb])
mutual
theorem cmpV_refl : ∀ v, cmpV v v = 0
  | .mk k i s t l f => by simp only [cmpV, orL, ordI_refl, cmpB_refl, cmpVL_refl l, cmpVF_refl f, if_true]
theorem cmpVL_refl : ∀ l, cmpVL l l = 0
  | [] => rfl
  | a :: l => by simp only [cmpVL, cmpV_refl a, cmpVL_refl l, if_true]
theorem cmpVF_refl : ∀ l, cmpVF l l = 0
  | [] => rfl
  | (x, a) :: l => by simp only [cmpVF, orL, cmpB_refl, cmpV_refl a, cmpVF_refl l, if_true]
end

theorem eq_val (N : Nat) (v w : Val) (h : 3 * v.size + 13 ≤ N) (hs : v.size < 1000000) : Gam.pureD (callF tab ext N) 57 [.agg v.cells, .agg w.cells] = some (boolX (cmpV v w == 0)) := by
  obtain ⟨M, rfl⟩ : ∃ M, N = M + 1 := ⟨N - 1, by omega⟩
  have hc := cmp_val v.size M v w (Nat.le_refl _) (by omega) hs
  obtain ⟨k, i, s, t, l, f⟩ := v
  obtain ⟨k', i', s', t', l', f'⟩ := w
  exact pure_of [(7, .p (num (cmpV (Val.mk k i s t l f) (Val.mk k' i' s' t' l' f'))))] [] (pf1 hc) (x := boolX (cmpV (Val.mk k i s t l f) (Val.mk k' i' s' t' l' f') == 0)) (bx := []) (by kernel_rfl) rfl

/-- A stamp: its entry, its path. -/
structure Stp where
  e : Int
  p : List Int
def Stp.cells (s : Stp) : List X := [num s.e, .sl false 1 (intsC s.p)]
def cmpS (a b : Stp) : Int := orL [ordI a.e b.e, lexC ordI a.p b.p]
theorem cmp_stamp (N : Nat) (a b : Stp) (h : a.p.length + 12 ≤ N) (hs : a.p.length < 1000000) : Gam.pureD (callF tab ext N) 45 [.agg a.cells, .agg b.cells] = some (num (cmpS a b)) := by
  obtain ⟨M, rfl⟩ : ∃ M, N = M + 12 := ⟨N - 12, by omega⟩
  obtain ⟨e, p⟩ := a
  obtain ⟨e', p'⟩ := b
  have h1 : Gam.pureD (callF tab ext (M + 11)) 79 [.sl false 1 (intsC p), .sl false 1 (intsC p'), .fn 80 []] = some (num (lexC ordI p p')) :=
    cmp98_pure (M + 10) 80 p p' ordI (fun x y _ _ => pure_of [(7, .p (num (ordI x y)))] [] (pf1 (cmp_int (M + 5) x y)) (x := num (ordI x y)) (bx := []) (by kernel_rfl) rfl) (by omega) (by simp only at h; omega)
  have ho := or_pure (M + 10) [ordI e e', lexC ordI p p'] (by simp) (by simp)
  exact pure_of [(9, .p (num (ordI e e'))), (14, .p (num (lexC ordI p p'))), (16, .p (num (cmpS ⟨e, p⟩ ⟨e', p'⟩)))] [] (pf3 (cmp_int (M + 7) e e') h1 ho) (x := num (cmpS ⟨e, p⟩ ⟨e', p'⟩)) (bx := []) (by kernel_rfl) rfl
theorem eq_stamp (N : Nat) (a b : Stp) (h : a.p.length + 13 ≤ N) (hs : a.p.length < 1000000) : Gam.pureD (callF tab ext N) 25 [.agg a.cells, .agg b.cells] = some (boolX (cmpS a b == 0)) := by
  obtain ⟨M, rfl⟩ : ∃ M, N = M + 1 := ⟨N - 1, by omega⟩
  have hc := cmp_stamp M a b (by omega) hs
  exact pure_of [(7, .p (num (cmpS a b)))] [] (pf1 hc) (x := boolX (cmpS a b == 0)) (bx := []) (by kernel_rfl) rfl
theorem cmpS_refl (a : Stp) : cmpS a a = 0 := by
  simp only [cmpS, orL, ordI_refl, lexC_refl (fun x _ => ordI_refl x), if_true]
end Go.Proofs.YtbfnfldmnombgaaGreatDoor

/- Equality of lists; messages, slots, states. -/
namespace Go.Proofs.YtbfnfldmnombgaaGreatDoor
open Go.Em
set_option maxRecDepth 100000

/-- Are two lists equal, by their elements? -/
def eqL {α β : Type} (r : α → β → Bool) : List α → List β → Bool
  | [], [] => true
  | [], _ :: _ => false
  | _ :: _, [] => false
  | a :: la, b :: lb => r a b && eqL r la lb
theorem eqL_len {α β : Type} {r : α → β → Bool} : ∀ {la : List α} {lb : List β}, la.length ≠ lb.length → eqL r la lb = false
  | [], [], h => absurd rfl h
  | [], _ :: _, _ => rfl
  | _ :: _, [], _ => rfl
  | a :: la, b :: lb, h => by rw [eqL, eqL_len (la := la) (lb := lb) (by simpa using h), Bool.and_false]
theorem eqL_refl {α : Type} {r : α → α → Bool} : ∀ {l : List α}, (∀ a, a ∈ l → r a a = true) → eqL r l l = true
  | [], _ => rfl
  | a :: l, h => by rw [eqL, h a (by simp), eqL_refl fun b hb => h b (by simp [hb])]; rfl
theorem nat_ne_false {j k : Nat} (h : j = k) : (!(Int.ofNat j == Int.ofNat k)) = false := by simp [h]
theorem nat_ne_true {j k : Nat} (h : j ≠ k) : (!(Int.ofNat j == Int.ofNat k)) = true := by
  simp only [Int.ofNat_eq_natCast, Bool.not_eq_true', beq_eq_false_iff_ne, ne_eq]; omega

/-- A message, a slot, a state. -/
structure Msg where
  st : Stp
  mass : Int
  orig : List Int
  body : Val
def Msg.cells (m : Msg) : List X := num m.st.e :: .sl false 1 (intsC m.st.p) :: num m.mass :: .sl false 1 (intsC m.orig) :: m.body.cells
def msgsC (l : List Msg) : List (List X) := l.map Msg.cells
theorem msgsC_length (l : List Msg) : (msgsC l).length = l.length := by simp [msgsC]
theorem msgsC_get {l : List Msg} {j : Nat} (h : j < l.length) : (msgsC l)[j]? = some l[j].cells := by simp [msgsC, h]
structure Slt where
  key : Val
  n : Int
  t : Int
  items : List Msg
  vals : List Val
def slotC (k i s : Int) (tx : ByteArray) (l f : List (List X)) (n t : Int) (ms vs : List (List X)) : List X := [num k, num i, num s, strX tx, .sl false 6 l, .sl false 7 f, num n, num t, .sl false 10 ms, .sl false 6 vs]
def Slt.cells : Slt → List X
  | ⟨.mk k i s tx l f, n, t, ms, vs⟩ => slotC k i s tx (cellsL l) (cellsF f) n t (msgsC ms) (cellsL vs)
def sltsC (l : List Slt) : List (List X) := l.map Slt.cells
theorem sltsC_length (l : List Slt) : (sltsC l).length = l.length := by simp [sltsC]
theorem sltsC_get {l : List Slt} {j : Nat} (h : j < l.length) : (sltsC l)[j]? = some l[j].cells := by simp [sltsC, h]
structure Stt where
  n : Int
  t : Int
  slots : List Slt
def Stt.cells (s : Stt) : List X := [num s.n, num s.t, .sl false 10 (sltsC s.slots)]
def stpsC (l : List Stp) : List (List X) := l.map Stp.cells
theorem stpsC_length (l : List Stp) : (stpsC l).length = l.length := by simp [stpsC]
theorem stpsC_get {l : List Stp} {j : Nat} (h : j < l.length) : (stpsC l)[j]? = some l[j].cells := by simp [stpsC, h]

/-! ### slices.Equal of numbers -/
def eh84 (l m : List (List X)) (n j : Nat) : St := ⟨[(0, .sl false 1 l), (1, .sl false 1 m), (12, nat n), (13, nat j)], []⟩
def ee84 (l m : List (List X)) (n j : Nat) : St := ⟨[(0, .sl false 1 l), (1, .sl false 1 m), (12, nat n), (13, nat j), (14, boolX false)], []⟩
theorem eh84_canon (l m : List (List X)) (n j : Nat) : canon 0 (eh84 l m n j) = some (eh84 l m n j) := by kernel_rfl
theorem eq84_loop (M : Nat) (la lb : List Int) (hlen : la.length = lb.length) (hl : la.length < 1000000) : ∀ d j F, j + d = la.length → d < F →
    (eqL (· == ·) (la.drop j) (lb.drop j) = false ∧ ∃ bx, iter 0 (run (callF tab ext M) 0 M (loopAt 56 0)) F (eh84 (intsC la) (intsC lb) (intsC la).length j) = some (.ret, ⟨[(4, boolX false)], bx⟩)) ∨
    (eqL (· == ·) (la.drop j) (lb.drop j) = true ∧ iter 0 (run (callF tab ext M) 0 M (loopAt 56 0)) F (eh84 (intsC la) (intsC lb) (intsC la).length j) = some (.exit 0, ee84 (intsC la) (intsC lb) (intsC la).length (intsC la).length))
  | 0, j, F, hj, hF => by
    obtain ⟨F', rfl⟩ : ∃ F', F = F' + 1 := ⟨F - 1, by omega⟩
    have hj' : j = la.length := by omega
    subst hj'
    have hn := intsC_length la
    have h : run (callF tab ext M) 0 M (loopAt 56 0) (eh84 (intsC la) (intsC lb) la.length la.length) = some (.exit 0, ee84 (intsC la) (intsC lb) la.length la.length) :=
      run_of [(14, .b false)] [] (pf1 (nlt_nat (Nat.lt_irrefl la.length))) (lo' := []) (by kernel_rfl)
    right
    refine ⟨?_, by rw [hn]; exact iter_end (eh84_canon _ _ _ _) h (by simp)⟩
    rw [List.drop_length, hlen, List.drop_length]; rfl
  | d + 1, j, F, hj, hF => by
    obtain ⟨F', rfl⟩ : ∃ F', F = F' + 1 := ⟨F - 1, by omega⟩
    have hn := intsC_length la
    have hj' : j < la.length := by omega
    have hb : j < lb.length := by omega
    have hd : la.drop j = la[j] :: la.drop (j + 1) := by rw [← List.getElem_cons_drop hj']
    have hdb : lb.drop j = lb[j] :: lb.drop (j + 1) := by rw [← List.getElem_cons_drop hb]
    have hg := intsC_get hj'
    have hgb := intsC_get hb
    rw [hd, hdb, eqL]
    generalize la[j] = a at hg
    generalize lb[j] = b at hgb
    by_cases h : a = b
    · have hs : run (callF tab ext M) 0 M (loopAt 56 0) (eh84 (intsC la) (intsC lb) (intsC la).length j) = some (.norm, eh84 (intsC la) (intsC lb) (intsC la).length (j + 1)) :=
        run_of [(14, .b true), (18, .e [num a]), (22, .e [num b]), (24, .b false), (25, .i (Int.ofNat (j + 1)))] []
          (pf5 (lt_nat (j := j) (k := (intsC la).length) (by omega)) hg hgb (show (!(a == b)) = false by simp [h]) (next_nat (j := j) (by omega))) (lo' := []) (by kernel_rfl)
      have hab : (a == b) = true := by simp [h]
      rw [iter_step (eh84_canon _ _ _ _) hs rfl, hab, Bool.true_and]
      exact eq84_loop M la lb hlen hl d (j + 1) F' (by omega) (by omega)
    · left
      have hab : (a == b) = false := by simp [h]
      refine ⟨by rw [hab, Bool.false_and], ?_⟩
      exact ⟨_, iter_end (eh84_canon _ _ _ _) (run_of [(14, .b true), (18, .e [num a]), (22, .e [num b]), (24, .b true)] []
          (pf4 (lt_nat (j := j) (k := (intsC la).length) (by omega)) hg hgb (show (!(a == b)) = true by simp [h])) (lo' := []) (σ' := ⟨[(4, boolX false)], []⟩) (by kernel_rfl)) (by simp)⟩
theorem eq84_pure (N : Nat) (la lb : List Int) (hl : la.length < 1000000) (hN : la.length < N) :
    Gam.pureD (callF tab ext (N + 1)) 56 [.sl false 1 (intsC la), .sl false 1 (intsC lb)] = some (boolX (eqL (· == ·) la lb)) := by
  have hn := intsC_length la
  have hm := intsC_length lb
  by_cases hlen : la.length = lb.length
  · rcases eq84_loop N la lb hlen hl la.length 0 N (by omega) hN with ⟨h0, bx, h⟩ | ⟨h0, h⟩
    · have h0' : eqL (· == ·) la lb = false := h0
      rw [h0']
      exact pure_of [(10, .b false)] [(.ret, ⟨[(4, boolX false)], bx⟩)] (pf2 (nat_ne_false (j := (intsC la).length) (k := (intsC lb).length) (by omega)) h) (x := boolX false) (bx := []) (by kernel_rfl) rfl
    · have h0' : eqL (· == ·) la lb = true := h0
      rw [h0']
      exact pure_of [(10, .b false)] [(.exit 0, ee84 (intsC la) (intsC lb) (intsC la).length (intsC la).length)] (pf2 (nat_ne_false (j := (intsC la).length) (k := (intsC lb).length) (by omega)) h) (x := boolX true) (bx := []) (by kernel_rfl) rfl
  · rw [eqL_len hlen]
    exact pure_of [(10, .b true)] [] (pf1 (nat_ne_true (j := (intsC la).length) (k := (intsC lb).length) (by omega))) (x := boolX false) (bx := []) (by kernel_rfl) rfl

/-! ### slices.EqualFunc, 95 -/
section
variable (g : Nat) (l m : List (List X)) (n j : Nat)
def eh95 : St := ⟨[(1, .sl false 6 m), (2, .fn g []), (15, .sl false 6 l), (16, nat n), (17, nat j)], []⟩
def ee95 : St := ⟨[(1, .sl false 6 m), (2, .fn g []), (15, .sl false 6 l), (16, nat n), (17, nat j), (18, boolX false)], []⟩
theorem eh95_canon : canon 0 (eh95 g l m n j) = some (eh95 g l m n j) := by kernel_rfl
end
/-! ### slices.EqualFunc, 114 -/
section
variable (g : Nat) (l m : List (List X)) (n j : Nat)
def eh114 : St := ⟨[(1, .sl false 2 m), (2, .fn g []), (15, .sl false 2 l), (16, nat n), (17, nat j)], []⟩
def ee114 : St := ⟨[(1, .sl false 2 m), (2, .fn g []), (15, .sl false 2 l), (16, nat n), (17, nat j), (18, boolX false)], []⟩
theorem eh114_canon : canon 0 (eh114 g l m n j) = some (eh114 g l m n j) := by kernel_rfl
end
/-! ### slices.EqualFunc, 94 -/
section
variable (g : Nat) (l m : List (List X)) (n j : Nat)
def eh94 : St := ⟨[(1, .sl false 10 m), (2, .fn g []), (15, .sl false 10 l), (16, nat n), (17, nat j)], []⟩
def ee94 : St := ⟨[(1, .sl false 10 m), (2, .fn g []), (15, .sl false 10 l), (16, nat n), (17, nat j), (18, boolX false)], []⟩
theorem eh94_canon : canon 0 (eh94 g l m n j) = some (eh94 g l m n j) := by kernel_rfl
end
/-! ### slices.EqualFunc, 60 -/
section
variable (g : Nat) (l m : List (List X)) (n j : Nat)
def eh60 : St := ⟨[(1, .sl false 10 m), (2, .fn g []), (15, .sl false 10 l), (16, nat n), (17, nat j)], []⟩
def ee60 : St := ⟨[(1, .sl false 10 m), (2, .fn g []), (15, .sl false 10 l), (16, nat n), (17, nat j), (18, boolX false)], []⟩
theorem eh60_canon : canon 0 (eh60 g l m n j) = some (eh60 g l m n j) := by kernel_rfl
end
end Go.Proofs.YtbfnfldmnombgaaGreatDoor

/- What is equal is found equal: messages, slots, states, outcomes. -/
namespace Go.Proofs.YtbfnfldmnombgaaGreatDoor
open Go.Em
set_option maxRecDepth 100000

/-- An output, a fate, an outcome (without requests). -/
structure Otp where
  port : Int
  m : Msg
def Otp.cells (o : Otp) : List X := num o.port :: o.m.cells
def otpsC (l : List Otp) : List (List X) := l.map Otp.cells
theorem otpsC_length (l : List Otp) : (otpsC l).length = l.length := by simp [otpsC]
theorem otpsC_get {l : List Otp} {j : Nat} (h : j < l.length) : (otpsC l)[j]? = some l[j].cells := by simp [otpsC, h]
structure Fte where
  st : Stp
  kind : Int
  node : ByteArray
  into : List Stp
  text : ByteArray
def Fte.cells (f : Fte) : List X := [num f.st.e, .sl false 1 (intsC f.st.p), num f.kind, strX f.node, .sl false 2 (stpsC f.into), strX f.text]
def ftesC (l : List Fte) : List (List X) := l.map Fte.cells
theorem ftesC_length (l : List Fte) : (ftesC l).length = l.length := by simp [ftesC]
theorem ftesC_get {l : List Fte} {j : Nat} (h : j < l.length) : (ftesC l)[j]? = some l[j].cells := by simp [ftesC, h]
structure Ocm where
  s : Stt
  outs : List Otp
  fates : List Fte
  letters : List Msg
def Ocm.cells (o : Ocm) : List X := [num o.s.n, num o.s.t, .sl false 10 (sltsC o.s.slots), .sl false 11 (otpsC o.outs), .sl false 11 [], .sl false 6 (ftesC o.fates), .sl false 10 (msgsC o.letters)]

/-! ### Sizes -/
def Val.ok (v : Val) : Prop := v.size ≤ 60000
structure Stp.ok (s : Stp) : Prop where
  p : s.p.length ≤ 60000
structure Msg.ok (m : Msg) : Prop where
  st : m.st.ok
  orig : m.orig.length ≤ 60000
  body : m.body.ok
structure Slt.ok (s : Slt) : Prop where
  key : s.key.ok
  items : s.items.length ≤ 60000
  item : ∀ m, m ∈ s.items → m.ok
  vals : s.vals.length ≤ 60000
  val : ∀ v, v ∈ s.vals → v.ok
structure Stt.ok (s : Stt) : Prop where
  slots : s.slots.length ≤ 60000
  slot : ∀ x, x ∈ s.slots → x.ok
structure Fte.ok (f : Fte) : Prop where
  st : f.st.ok
  len : f.into.length ≤ 60000
  into : ∀ s, s ∈ f.into → s.ok
structure Ocm.ok (o : Ocm) : Prop where
  s : o.s.ok
  nouts : o.outs.length ≤ 60000
  outs : ∀ x, x ∈ o.outs → x.m.ok
  nfates : o.fates.length ≤ 60000
  fates : ∀ x, x ∈ o.fates → x.ok
  nletters : o.letters.length ≤ 60000
  letters : ∀ x, x ∈ o.letters → x.ok
theorem eq_self {α : Type} [BEq α] [ReflBEq α] (a : α) : (a == a) = true := BEq.rfl
theorem bytes_self (a : ByteArray) : (a.toList == a.toList) = true := by simp
theorem ne_self {x : Int} : (!(x == x)) = false := by simp
theorem nne_self {k : Nat} : (!(Int.ofNat k == Int.ofNat k)) = false := by simp

theorem eqr95 (M g : Nat) (l : List Val) (hr : ∀ a, a ∈ l → Gam.pureD (callF tab ext M) g [.agg a.cells, .agg a.cells] = some (boolX true)) (hl : l.length ≤ 60000) (hN : l.length < M) :
    Gam.pureD (callF tab ext (M + 1)) 93 [.sl false 6 (cellsL l), .sl false 6 (cellsL l), .fn g []] = some (boolX true) := by
  have hn := cellsL_length l
  have h : run (callF tab ext M) 0 M (.loop (loopAt 93 0)) (eh95 g (cellsL l) (cellsL l) (cellsL l).length 0) = some (.exit 0, ee95 g (cellsL l) (cellsL l) (cellsL l).length (cellsL l).length) := by
    refine loop_for (σ := fun j => eh95 g (cellsL l) (cellsL l) (cellsL l).length j) (k := (cellsL l).length) (eh95_canon _ _ _ _ _) (fun j hj => ?_) ?_ (by simp) (by omega)
    · have hj' : j < l.length := by omega
      have hg := cellsL_get hj'
      have hc := hr _ (List.getElem_mem hj')
      generalize l[j] = a at hg hc
      obtain ⟨a1, a2, a3, a4, a5, a6⟩ := a
      exact ⟨⟨(eh95 g (cellsL l) (cellsL l) (cellsL l).length (j + 1)).tm, [.var (Val.mk a1 a2 a3 a4 a5 a6).cells, .var (Val.mk a1 a2 a3 a4 a5 a6).cells]⟩, run_of [(18, .b true), (20, .e (Val.mk a1 a2 a3 a4 a5 a6).cells), (24, .e (Val.mk a1 a2 a3 a4 a5 a6).cells), (29, .p (boolX true)), (31, .i (Int.ofNat (j + 1)))] []
          (pf5 (lt_nat (j := j) (k := (cellsL l).length) (by omega)) hg hg hc (next_nat (j := j) (by omega))) (lo' := []) (by kernel_rfl), by kernel_rfl⟩
    · exact run_of [(18, .b false)] [] (pf1 (nlt_nat (Nat.lt_irrefl (cellsL l).length))) (lo' := []) (by kernel_rfl)
  exact pure_of [(14, .b false)] [(.exit 0, ee95 g (cellsL l) (cellsL l) (cellsL l).length (cellsL l).length)] (pf2 (nne_self (k := (cellsL l).length)) h) (x := boolX true) (bx := []) (by kernel_rfl) rfl

theorem eqr114 (M g : Nat) (l : List Stp) (hr : ∀ a, a ∈ l → Gam.pureD (callF tab ext M) g [.agg a.cells, .agg a.cells] = some (boolX true)) (hl : l.length ≤ 60000) (hN : l.length < M) :
    Gam.pureD (callF tab ext (M + 1)) 94 [.sl false 2 (stpsC l), .sl false 2 (stpsC l), .fn g []] = some (boolX true) := by
  have hn := stpsC_length l
  have h : run (callF tab ext M) 0 M (.loop (loopAt 94 0)) (eh114 g (stpsC l) (stpsC l) (stpsC l).length 0) = some (.exit 0, ee114 g (stpsC l) (stpsC l) (stpsC l).length (stpsC l).length) := by
    refine loop_for (σ := fun j => eh114 g (stpsC l) (stpsC l) (stpsC l).length j) (k := (stpsC l).length) (eh114_canon _ _ _ _ _) (fun j hj => ?_) ?_ (by simp) (by omega)
    · have hj' : j < l.length := by omega
      have hg := stpsC_get hj'
      have hc := hr _ (List.getElem_mem hj')
      generalize l[j] = a at hg hc
      obtain ⟨a1, a2⟩ := a
      exact ⟨⟨(eh114 g (stpsC l) (stpsC l) (stpsC l).length (j + 1)).tm, [.var (Stp.mk a1 a2).cells, .var (Stp.mk a1 a2).cells]⟩, run_of [(18, .b true), (20, .e (Stp.mk a1 a2).cells), (24, .e (Stp.mk a1 a2).cells), (29, .p (boolX true)), (31, .i (Int.ofNat (j + 1)))] []
          (pf5 (lt_nat (j := j) (k := (stpsC l).length) (by omega)) hg hg hc (next_nat (j := j) (by omega))) (lo' := []) (by kernel_rfl), by kernel_rfl⟩
    · exact run_of [(18, .b false)] [] (pf1 (nlt_nat (Nat.lt_irrefl (stpsC l).length))) (lo' := []) (by kernel_rfl)
  exact pure_of [(14, .b false)] [(.exit 0, ee114 g (stpsC l) (stpsC l) (stpsC l).length (stpsC l).length)] (pf2 (nne_self (k := (stpsC l).length)) h) (x := boolX true) (bx := []) (by kernel_rfl) rfl

theorem eqr94 (M g : Nat) (l : List Msg) (hr : ∀ a, a ∈ l → Gam.pureD (callF tab ext M) g [.agg a.cells, .agg a.cells] = some (boolX true)) (hl : l.length ≤ 60000) (hN : l.length < M) :
    Gam.pureD (callF tab ext (M + 1)) 92 [.sl false 10 (msgsC l), .sl false 10 (msgsC l), .fn g []] = some (boolX true) := by
  have hn := msgsC_length l
  have h : run (callF tab ext M) 0 M (.loop (loopAt 92 0)) (eh94 g (msgsC l) (msgsC l) (msgsC l).length 0) = some (.exit 0, ee94 g (msgsC l) (msgsC l) (msgsC l).length (msgsC l).length) := by
    refine loop_for (σ := fun j => eh94 g (msgsC l) (msgsC l) (msgsC l).length j) (k := (msgsC l).length) (eh94_canon _ _ _ _ _) (fun j hj => ?_) ?_ (by simp) (by omega)
    · have hj' : j < l.length := by omega
      have hg := msgsC_get hj'
      have hc := hr _ (List.getElem_mem hj')
      generalize l[j] = a at hg hc
      obtain ⟨⟨a1, a2⟩, a3, a4, a5, a6, a7, a8, a9, a0⟩ := a
      exact ⟨⟨(eh94 g (msgsC l) (msgsC l) (msgsC l).length (j + 1)).tm, [.var (Msg.mk ⟨a1, a2⟩ a3 a4 (Val.mk a5 a6 a7 a8 a9 a0)).cells, .var (Msg.mk ⟨a1, a2⟩ a3 a4 (Val.mk a5 a6 a7 a8 a9 a0)).cells]⟩, run_of [(18, .b true), (20, .e (Msg.mk ⟨a1, a2⟩ a3 a4 (Val.mk a5 a6 a7 a8 a9 a0)).cells), (24, .e (Msg.mk ⟨a1, a2⟩ a3 a4 (Val.mk a5 a6 a7 a8 a9 a0)).cells), (29, .p (boolX true)), (31, .i (Int.ofNat (j + 1)))] []
          (pf5 (lt_nat (j := j) (k := (msgsC l).length) (by omega)) hg hg hc (next_nat (j := j) (by omega))) (lo' := []) (by kernel_rfl), by kernel_rfl⟩
    · exact run_of [(18, .b false)] [] (pf1 (nlt_nat (Nat.lt_irrefl (msgsC l).length))) (lo' := []) (by kernel_rfl)
  exact pure_of [(14, .b false)] [(.exit 0, ee94 g (msgsC l) (msgsC l) (msgsC l).length (msgsC l).length)] (pf2 (nne_self (k := (msgsC l).length)) h) (x := boolX true) (bx := []) (by kernel_rfl) rfl

theorem eqr60 (M g : Nat) (l : List Slt) (hr : ∀ a, a ∈ l → Gam.pureD (callF tab ext M) g [.agg a.cells, .agg a.cells] = some (boolX true)) (hl : l.length ≤ 60000) (hN : l.length < M) :
    Gam.pureD (callF tab ext (M + 1)) 54 [.sl false 10 (sltsC l), .sl false 10 (sltsC l), .fn g []] = some (boolX true) := by
  have hn := sltsC_length l
  have h : run (callF tab ext M) 0 M (.loop (loopAt 54 0)) (eh60 g (sltsC l) (sltsC l) (sltsC l).length 0) = some (.exit 0, ee60 g (sltsC l) (sltsC l) (sltsC l).length (sltsC l).length) := by
    refine loop_for (σ := fun j => eh60 g (sltsC l) (sltsC l) (sltsC l).length j) (k := (sltsC l).length) (eh60_canon _ _ _ _ _) (fun j hj => ?_) ?_ (by simp) (by omega)
    · have hj' : j < l.length := by omega
      have hg := sltsC_get hj'
      have hc := hr _ (List.getElem_mem hj')
      generalize l[j] = a at hg hc
      obtain ⟨⟨a1, a2, a3, a4, a5, a6⟩, a7, a8, a9, a0⟩ := a
      exact ⟨⟨(eh60 g (sltsC l) (sltsC l) (sltsC l).length (j + 1)).tm, [.var (Slt.mk (Val.mk a1 a2 a3 a4 a5 a6) a7 a8 a9 a0).cells, .var (Slt.mk (Val.mk a1 a2 a3 a4 a5 a6) a7 a8 a9 a0).cells]⟩, run_of [(18, .b true), (20, .e (Slt.mk (Val.mk a1 a2 a3 a4 a5 a6) a7 a8 a9 a0).cells), (24, .e (Slt.mk (Val.mk a1 a2 a3 a4 a5 a6) a7 a8 a9 a0).cells), (29, .p (boolX true)), (31, .i (Int.ofNat (j + 1)))] []
          (pf5 (lt_nat (j := j) (k := (sltsC l).length) (by omega)) hg hg hc (next_nat (j := j) (by omega))) (lo' := []) (by kernel_rfl), by kernel_rfl⟩
    · exact run_of [(18, .b false)] [] (pf1 (nlt_nat (Nat.lt_irrefl (sltsC l).length))) (lo' := []) (by kernel_rfl)
  exact pure_of [(14, .b false)] [(.exit 0, ee60 g (sltsC l) (sltsC l) (sltsC l).length (sltsC l).length)] (pf2 (nne_self (k := (sltsC l).length)) h) (x := boolX true) (bx := []) (by kernel_rfl) rfl

section
variable (l m : List (List X)) (j : Nat)
def sh43 : St := ⟨[(0, .sl false 10 l), (1, .sl false 10 m), (5, nat j)], []⟩
theorem sh43_canon : canon 0 (sh43 l m j) = some (sh43 l m j) := by kernel_rfl
end
theorem same43 (M : Nat) (l : List Msg) (hr : ∀ a, a ∈ l → Gam.pureD (callF tab ext M) 35 [.agg a.cells, .agg a.cells] = some (boolX true)) (hl : l.length ≤ 60000) (hN : l.length < M) :
    Gam.pureD (callF tab ext (M + 1)) 38 [.sl false 10 (msgsC l), .sl false 10 (msgsC l)] = some (boolX true) := by
  have hn := msgsC_length l
  have h : run (callF tab ext M) 0 M (.loop (loopAt 38 0)) (sh43 (msgsC l) (msgsC l) 0) = some (.exit 0, ⟨[(0, .sl false 10 (msgsC l)), (1, .sl false 10 (msgsC l)), (5, nat (msgsC l).length), (14, boolX false)], []⟩) := by
    refine loop_for (σ := fun j => sh43 (msgsC l) (msgsC l) j) (k := (msgsC l).length) (sh43_canon _ _ _) (fun j hj => ?_) ?_ (by simp) (by omega)
    · have hj' : j < l.length := by omega
      have hg := msgsC_get hj'
      have hc := hr _ (List.getElem_mem hj')
      generalize l[j] = a at hg hc
      obtain ⟨⟨a1, a2⟩, a3, a4, a5, a6, a7, a8, a9, a0⟩ := a
      exact ⟨sh43 (msgsC l) (msgsC l) (j + 1), run_of [(14, .b true), (19, .e (Msg.mk ⟨a1, a2⟩ a3 a4 (Val.mk a5 a6 a7 a8 a9 a0)).cells), (23, .e (Msg.mk ⟨a1, a2⟩ a3 a4 (Val.mk a5 a6 a7 a8 a9 a0)).cells), (25, .p (boolX true)), (16, .i (Int.ofNat (j + 1)))] []
          (pf5 (lt_nat (j := j) (k := (msgsC l).length) (by omega)) hg hg hc (next_nat (j := j) (by omega))) (lo' := []) (by kernel_rfl), by kernel_rfl⟩
    · exact run_of [(14, .b false)] [] (pf1 (nlt_nat (Nat.lt_irrefl (msgsC l).length))) (lo' := []) (by kernel_rfl)
  exact pure_of [(10, .b false)] [(.exit 0, ⟨[(0, .sl false 10 (msgsC l)), (1, .sl false 10 (msgsC l)), (5, nat (msgsC l).length), (14, boolX false)], []⟩)] (pf2 (nne_self (k := (msgsC l).length)) h) (x := boolX true) (bx := []) (by kernel_rfl) rfl

section
variable (l m : List (List X)) (j : Nat)
def sh42 : St := ⟨[(0, .sl false 6 l), (1, .sl false 6 m), (5, nat j)], []⟩
theorem sh42_canon : canon 0 (sh42 l m j) = some (sh42 l m j) := by kernel_rfl
end
theorem same42 (M : Nat) (l : List Fte) (hr : ∀ a, a ∈ l → Gam.pureD (callF tab ext M) 58 [.agg a.cells, .agg a.cells] = some (boolX true)) (hl : l.length ≤ 60000) (hN : l.length < M) :
    Gam.pureD (callF tab ext (M + 1)) 37 [.sl false 6 (ftesC l), .sl false 6 (ftesC l)] = some (boolX true) := by
  have hn := ftesC_length l
  have h : run (callF tab ext M) 0 M (.loop (loopAt 37 0)) (sh42 (ftesC l) (ftesC l) 0) = some (.exit 0, ⟨[(0, .sl false 6 (ftesC l)), (1, .sl false 6 (ftesC l)), (5, nat (ftesC l).length), (14, boolX false)], []⟩) := by
    refine loop_for (σ := fun j => sh42 (ftesC l) (ftesC l) j) (k := (ftesC l).length) (sh42_canon _ _ _) (fun j hj => ?_) ?_ (by simp) (by omega)
    · have hj' : j < l.length := by omega
      have hg := ftesC_get hj'
      have hc := hr _ (List.getElem_mem hj')
      generalize l[j] = a at hg hc
      obtain ⟨⟨a1, a2⟩, a3, a4, a5, a6⟩ := a
      exact ⟨sh42 (ftesC l) (ftesC l) (j + 1), run_of [(14, .b true), (19, .e (Fte.mk ⟨a1, a2⟩ a3 a4 a5 a6).cells), (23, .e (Fte.mk ⟨a1, a2⟩ a3 a4 a5 a6).cells), (25, .p (boolX true)), (16, .i (Int.ofNat (j + 1)))] []
          (pf5 (lt_nat (j := j) (k := (ftesC l).length) (by omega)) hg hg hc (next_nat (j := j) (by omega))) (lo' := []) (by kernel_rfl), by kernel_rfl⟩
    · exact run_of [(14, .b false)] [] (pf1 (nlt_nat (Nat.lt_irrefl (ftesC l).length))) (lo' := []) (by kernel_rfl)
  exact pure_of [(10, .b false)] [(.exit 0, ⟨[(0, .sl false 6 (ftesC l)), (1, .sl false 6 (ftesC l)), (5, nat (ftesC l).length), (14, boolX false)], []⟩)] (pf2 (nne_self (k := (ftesC l).length)) h) (x := boolX true) (bx := []) (by kernel_rfl) rfl

theorem val_refl (N : Nat) (v : Val) (h : v.ok) (hN : 190000 ≤ N) : Gam.pureD (callF tab ext N) 57 [.agg v.cells, .agg v.cells] = some (boolX true) := by
  unfold Val.ok at h
  have := eq_val N v v (by omega) (by omega)
  rw [this, cmpV_refl]; rfl
theorem stp_refl (N : Nat) (s : Stp) (h : s.ok) (hN : 190000 ≤ N) : Gam.pureD (callF tab ext N) 25 [.agg s.cells, .agg s.cells] = some (boolX true) := by
  have := h.p
  have := eq_stamp N s s (by omega) (by omega)
  rw [this, cmpS_refl]; rfl
theorem ints_refl (N : Nat) (l : List Int) (h : l.length ≤ 60000) (hN : 190000 ≤ N) : Gam.pureD (callF tab ext N) 56 [.sl false 1 (intsC l), .sl false 1 (intsC l)] = some (boolX true) := by
  obtain ⟨M, rfl⟩ : ∃ M, N = M + 1 := ⟨N - 1, by omega⟩
  rw [eq84_pure M l l (by omega) (by omega), eqL_refl (by simp)]
theorem msg_refl (N : Nat) (m : Msg) (h : m.ok) (hN : 190001 ≤ N) : Gam.pureD (callF tab ext N) 35 [.agg m.cells, .agg m.cells] = some (boolX true) := by
  obtain ⟨M, rfl⟩ : ∃ M, N = M + 1 := ⟨N - 1, by omega⟩
  have h1 := stp_refl M m.st h.st (by omega)
  have h2 := ints_refl M m.orig h.orig (by omega)
  have h3 := val_refl M m.body h.body (by omega)
  obtain ⟨⟨a1, a2⟩, a3, a4, a5, a6, a7, a8, a9, a0⟩ := m
  exact pure_of [(9, .p (boolX true)), (15, .b true), (22, .p (boolX true)), (29, .p (boolX true))] [] (pf4 h1 (eq_self a3) h2 h3) (x := boolX true) (bx := []) (by kernel_rfl) rfl
theorem fte_refl (N : Nat) (f : Fte) (h : f.ok) (hN : 190002 ≤ N) : Gam.pureD (callF tab ext N) 58 [.agg f.cells, .agg f.cells] = some (boolX true) := by
  obtain ⟨M, rfl⟩ : ∃ M, N = M + 2 := ⟨N - 2, by omega⟩
  have hi := h.len
  have h1 := stp_refl (M + 1) f.st h.st (by omega)
  have h2 := eqr114 M 25 f.into (fun a ha => stp_refl M a (h.into a ha) (by omega)) (by omega) (by omega)
  obtain ⟨⟨a1, a2⟩, a3, a4, a5, a6⟩ := f
  exact pure_of [(9, .p (boolX true)), (15, .b true), (22, .b true), (29, .b true), (36, .p (boolX true))] [] (pf5 h1 (eq_self a3) (bytes_self a4) (bytes_self a6) h2) (x := boolX true) (bx := []) (by kernel_rfl) rfl
theorem slt_refl (N : Nat) (s : Slt) (h : s.ok) (hN : 190005 ≤ N) : Gam.pureD (callF tab ext N) 55 [.agg s.cells, .agg s.cells] = some (boolX true) := by
  obtain ⟨M, rfl⟩ : ∃ M, N = M + 2 := ⟨N - 2, by omega⟩
  have hi := h.items
  have hv := h.vals
  have h1 := val_refl (M + 1) s.key h.key (by omega)
  have h2 := eqr94 M 35 s.items (fun a ha => msg_refl M a (h.item a ha) (by omega)) (by omega) (by omega)
  have h3 := eqr95 M 57 s.vals (fun a ha => val_refl M a (h.val a ha) (by omega)) (by omega) (by omega)
  obtain ⟨⟨a1, a2, a3, a4, a5, a6⟩, a7, a8, a9, a0⟩ := s
  exact pure_of [(9, .p (boolX true)), (15, .b true), (22, .b true), (29, .p (boolX true)), (36, .p (boolX true))] [] (pf5 h1 (eq_self a7) (eq_self a8) h2 h3) (x := boolX true) (bx := []) (by kernel_rfl) rfl
theorem stt_refl (N : Nat) (s : Stt) (h : s.ok) (hN : 190010 ≤ N) : Gam.pureD (callF tab ext N) 34 [.agg s.cells, .agg s.cells] = some (boolX true) := by
  obtain ⟨M, rfl⟩ : ∃ M, N = M + 2 := ⟨N - 2, by omega⟩
  have hi := h.slots
  have h2 := eqr60 M 55 s.slots (fun a ha => slt_refl M a (h.slot a ha) (by omega)) (by omega) (by omega)
  obtain ⟨a1, a2, a3⟩ := s
  exact pure_of [(9, .b true), (15, .b true), (22, .p (boolX true))] [] (pf3 (eq_self a1) (eq_self a2) h2) (x := boolX true) (bx := []) (by kernel_rfl) rfl
theorem reqs_refl (N : Nat) : Gam.pureD (callF tab ext (N + 3)) 36 [.sl false 11 [], .sl false 11 []] = some (boolX true) := by kernel_rfl

section
variable (a : List X) (z : List (List X)) (j : Nat)
def ohH : St := ⟨[(2, .ptr 0 0 0), (3, .ptr 1 0 0), (5, nat j)], [.var a, .var a]⟩
end
theorem ocm_refl (N : Nat) (o : Ocm) (h : o.ok) (hN : 190020 ≤ N) : Gam.pureD (callF tab ext N) 16 [.agg o.cells, .agg o.cells] = some (boolX true) := by
  obtain ⟨M, rfl⟩ : ∃ M, N = M + 2 := ⟨N - 2, by omega⟩
  have hi := h.nouts
  have hf := h.nfates
  have hl := h.nletters
  have h1 := stt_refl (M + 1) o.s h.s (by omega)
  have h2 := same42 M o.fates (fun a ha => fte_refl M a (h.fates a ha) (by omega)) (by omega) (by omega)
  have h3 := same43 M o.letters (fun a ha => msg_refl M a (h.letters a ha) (by omega)) (by omega) (by omega)
  have h4 := reqs_refl (M - 2)
  have e4 : M - 2 + 3 = M + 1 := by omega
  rw [e4] at h4
  have ho := h.outs
  obtain ⟨⟨a1, a2, a3⟩, l, a5, a6⟩ := o
  have hn := otpsC_length l
  have hloop : run (callF tab ext (M + 1)) 0 (M + 1) (.loop (loopAt 16 0)) (ohH (Ocm.mk ⟨a1, a2, a3⟩ l a5 a6).cells 0) = some (.exit 0, ⟨[(2, .ptr 0 0 0), (3, .ptr 1 0 0), (5, nat (otpsC l).length), (25, boolX false)], [.var (Ocm.mk ⟨a1, a2, a3⟩ l a5 a6).cells, .var (Ocm.mk ⟨a1, a2, a3⟩ l a5 a6).cells]⟩) := by
    refine loop_for (σ := fun j => ohH (Ocm.mk ⟨a1, a2, a3⟩ l a5 a6).cells j) (k := (otpsC l).length) (by kernel_rfl) (fun j hj => ?_) ?_ (by simp) (by dsimp only at hi; omega)
    · have hj' : j < l.length := by omega
      have hg := otpsC_get hj'
      have hc := msg_refl (M + 1) l[j].m (ho _ (List.getElem_mem hj')) (by omega)
      generalize l[j] = a at hg hc
      obtain ⟨b1, ⟨c1, c2⟩, c3, c4, c5, c6, c7, c8, c9, c0⟩ := a
      dsimp only at hi
      exact ⟨ohH (Ocm.mk ⟨a1, a2, a3⟩ l a5 a6).cells (j + 1), run_of [(25, .b true), (31, .e (Otp.mk b1 (Msg.mk ⟨c1, c2⟩ c3 c4 (Val.mk c5 c6 c7 c8 c9 c0))).cells), (37, .e (Otp.mk b1 (Msg.mk ⟨c1, c2⟩ c3 c4 (Val.mk c5 c6 c7 c8 c9 c0))).cells), (40, .b false), (45, .e (Otp.mk b1 (Msg.mk ⟨c1, c2⟩ c3 c4 (Val.mk c5 c6 c7 c8 c9 c0))).cells), (51, .e (Otp.mk b1 (Msg.mk ⟨c1, c2⟩ c3 c4 (Val.mk c5 c6 c7 c8 c9 c0))).cells), (54, .p (boolX true)), (27, .i (Int.ofNat (j + 1)))] []
          (pf8 (lt_nat (j := j) (k := (otpsC l).length) (by omega)) hg hg (ne_self (x := b1)) hg hg hc (next_nat (j := j) (by omega))) (lo' := []) (by kernel_rfl), by kernel_rfl⟩
    · exact run_of [(25, .b false)] [] (pf1 (nlt_nat (Nat.lt_irrefl (otpsC l).length))) (lo' := []) (by kernel_rfl)
  exact pure_of [(10, .p (boolX true)), (19, .b false), (61, .p (boolX true)), (67, .p (boolX true)), (74, .p (boolX true))] [(.exit 0, ⟨[(2, .ptr 0 0 0), (3, .ptr 1 0 0), (5, nat (otpsC l).length), (25, boolX false)], [.var (Ocm.mk ⟨a1, a2, a3⟩ l a5 a6).cells, .var (Ocm.mk ⟨a1, a2, a3⟩ l a5 a6).cells]⟩)]
    (pf6 h1 (nne_self (k := (otpsC l).length)) hloop h4 h2 h3) (x := boolX true) (bx := []) (by kernel_rfl) rfl
end Go.Proofs.YtbfnfldmnombgaaGreatDoor

/- Copies of messages, of slots, of states. -/
namespace Go.Proofs.YtbfnfldmnombgaaGreatDoor
open Go.Em
set_option maxRecDepth 100000

theorem intsOf_intsC : ∀ l : List Int, intsOf (intsC l) = some l
  | [] => rfl
  | x :: l => by
    have h := intsOf_intsC l
    show (match intsOf (intsC l) with
      | some l => some (x :: l)
      | none => none) = some (x :: l)
    rw [h]
theorem clone_row (N : Nat) (l : List Int) (hl : l.length ≤ 60000) : callF tab ext (N + 1) (.fn 108) [.sl false 1 (intsC l)] [] = some (.bs 0 0 l.length, [.row 1 (intsC l)]) := by
  show cloneExt [.sl false 1 (intsC l)] [] = _
  unfold cloneExt
  simp only [intsOf_intsC, if_pos (show l.length ≤ 1000000 by omega)]
  rfl
theorem clone_ints (N : Nat) (l : List Int) (hl : l.length ≤ 60000) : Gam.pureD (callF tab ext (N + 1)) 108 [.sl false 1 (intsC l)] = some (.sl false 1 (intsC l)) := by
  unfold Gam.pureD
  rw [clone_row N l hl]
  simp only [X.data, rowOf, List.getElem?_cons_zero, Nat.zero_add, intsC_length, Nat.le_refl, if_true, Option.map_some, List.drop_zero]
  rw [List.take_of_length_le (by rw [intsC_length]; exact Nat.le_refl _)]
theorem clone_stamp (N : Nat) (s : Stp) (h : s.ok) : Gam.pureD (callF tab ext (N + 2)) 107 [.agg s.cells] = some (.agg s.cells) :=
  pure_of [(7, .p (.sl false 1 (intsC s.p)))] [] (pf1 (clone_ints N s.p h.p)) (x := .agg s.cells) (bx := []) (by kernel_rfl) rfl
theorem clone_msg (N : Nat) (m : Msg) (h : m.ok) (hN : 190001 ≤ N) : Gam.pureD (callF tab ext N) 64 [.agg m.cells] = some (.agg m.cells) := by
  obtain ⟨M, rfl⟩ : ∃ M, N = M + 3 := ⟨N - 3, by omega⟩
  have h1 := clone_stamp M m.st h.st
  have h2 := clone_ints (M + 1) m.orig h.orig
  have hb := h.body
  unfold Val.ok at hb
  have h3 := clone_val (M + 2) m.body (by omega) (by omega)
  obtain ⟨⟨a1, a2⟩, a3, a4, a5, a6, a7, a8, a9, a0⟩ := m
  exact pure_of [(5, .p (.agg (Stp.mk a1 a2).cells)), (10, .p (.sl false 1 (intsC a4))), (13, .p (.agg (Val.mk a5 a6 a7 a8 a9 a0).cells))] [] (pf3 h1 h2 h3) (x := .agg (Msg.mk ⟨a1, a2⟩ a3 a4 (Val.mk a5 a6 a7 a8 a9 a0)).cells) (bx := []) (by kernel_rfl) rfl

def zSlot : List X := [num 0, num 0, num 0, noText, .sl true 6 [], .sl true 7 [], num 0, num 0, .sl true 10 [], .sl true 6 []]
/-! ### cloneSlot -/
section
variable (s items acc vals accV : List (List X)) (n m k j : Nat)
variable (k0 i0 s0 : Int) (t0 : ByteArray) (l0 f0 : List (List X)) (n0 d0 : Int) (x : List X)
def csH : St := ⟨[(1, .ptr 0 0 0), (2, .ptr 1 0 0), (3, .bs 2 0 j), (14, .sl false 10 items), (15, nat n), (16, nat j)], [.var (slotC k0 i0 s0 t0 l0 f0 n0 d0 items vals), .var zSlot, .row 10 acc]⟩
def csH' : St := ⟨[(1, .ptr 0 0 0), (2, .ptr 1 0 0), (3, .bs 4 0 (j + 1)), (14, .sl false 10 items), (15, nat n), (16, nat (j + 1))], [.var (slotC k0 i0 s0 t0 l0 f0 n0 d0 items vals), .var zSlot, .dead, .var x, .row 10 (acc ++ [x])]⟩
def csE : St := ⟨[(1, .ptr 0 0 0), (2, .ptr 1 0 0), (3, .bs 2 0 j), (14, .sl false 10 items), (15, nat n), (16, nat j), (17, boolX false)], [.var (slotC k0 i0 s0 t0 l0 f0 n0 d0 items vals), .var zSlot, .row 10 acc]⟩
theorem cs_canon : canon 0 (csH items acc vals n j k0 i0 s0 t0 l0 f0 n0 d0) = some (csH items acc vals n j k0 i0 s0 t0 l0 f0 n0 d0) := by kernel_rfl
theorem cs_canon' : canon 0 (csH' items acc vals n j k0 i0 s0 t0 l0 f0 n0 d0 x) = some (csH items (acc ++ [x]) vals n (j + 1) k0 i0 s0 t0 l0 f0 n0 d0) := by kernel_rfl
def cvH : St := ⟨[(1, .ptr 0 0 0), (2, .ptr 1 0 0), (3, .bs 2 0 m), (6, .bs 3 0 j), (31, .sl false 6 vals), (32, nat n), (33, nat j)], [.var (slotC k0 i0 s0 t0 l0 f0 n0 d0 items vals), .var zSlot, .row 10 acc, .row 6 accV]⟩
def cvH' : St := ⟨[(1, .ptr 0 0 0), (2, .ptr 1 0 0), (3, .bs 2 0 m), (6, .bs 5 0 (j + 1)), (31, .sl false 6 vals), (32, nat n), (33, nat (j + 1))], [.var (slotC k0 i0 s0 t0 l0 f0 n0 d0 items vals), .var zSlot, .row 10 acc, .dead, .var x, .row 6 (accV ++ [x])]⟩
def cvE : St := ⟨[(1, .ptr 0 0 0), (2, .ptr 1 0 0), (3, .bs 2 0 m), (6, .bs 3 0 j), (31, .sl false 6 vals), (32, nat n), (33, nat j), (34, boolX false)], [.var (slotC k0 i0 s0 t0 l0 f0 n0 d0 items vals), .var zSlot, .row 10 acc, .row 6 accV]⟩
theorem cv_canon : canon 0 (cvH items acc vals accV n m j k0 i0 s0 t0 l0 f0 n0 d0) = some (cvH items acc vals accV n m j k0 i0 s0 t0 l0 f0 n0 d0) := by kernel_rfl
theorem cv_canon' : canon 0 (cvH' items acc vals accV n m j k0 i0 s0 t0 l0 f0 n0 d0 x) = some (cvH items acc vals (accV ++ [x]) n m (j + 1) k0 i0 s0 t0 l0 f0 n0 d0) := by kernel_rfl
end

theorem clone_slot (N : Nat) (s : Slt) (h : s.ok) (hN : 190005 ≤ N) : callF tab ext N (.fn 53) [.agg s.cells] [] = some (match s with
    | ⟨.mk k i s t l f, n, d, ms, vs⟩ => (.agg [num k, num i, num s, strX t, .sl false 6 (cellsL l), .sl false 7 (cellsF f), num n, num d, .bs 0 0 (msgsC ms).length, .bs 1 0 (cellsL vs).length], [.row 10 (msgsC ms), .row 6 (cellsL vs)])) := by
  obtain ⟨M, rfl⟩ : ∃ M, N = M + 1 := ⟨N - 1, by omega⟩
  have hi := h.items
  have hv := h.vals
  have hk := h.key
  have hit := h.item
  have hva := h.val
  obtain ⟨⟨k0, i0, s0, t0, l0, f0⟩, n0, d0, ms, vs⟩ := s
  have em := msgsC_length ms
  have ev := cellsL_length vs
  dsimp only at hi hv hk hit hva
  unfold Val.ok at hk
  have hk' := clone_val M (Val.mk k0 i0 s0 t0 l0 f0) (by omega) (by omega)
  have h1 : run (callF tab ext M) 0 M (.loop (loopAt 53 0)) (csH (msgsC ms) [] (cellsL vs) (msgsC ms).length 0 k0 i0 s0 t0 (cellsL l0) (cellsF f0) n0 d0) = some (.exit 0, csE (msgsC ms) (msgsC ms) (cellsL vs) (msgsC ms).length (msgsC ms).length k0 i0 s0 t0 (cellsL l0) (cellsF f0) n0 d0) := by
    refine loop_for (σ := fun j => csH (msgsC ms) ((msgsC ms).take j) (cellsL vs) (msgsC ms).length j k0 i0 s0 t0 (cellsL l0) (cellsF f0) n0 d0) (k := (msgsC ms).length) (cs_canon ..) (fun j hj => ?_) ?_ (by simp) (by omega)
    · have hj' : j < ms.length := by omega
      have hg := msgsC_get hj'
      have hc := clone_msg M ms[j] (hit _ (List.getElem_mem hj')) (by omega)
      have ht := take_succ_get hg
      generalize ms[j] = a at hg hc ht
      obtain ⟨⟨a1, a2⟩, a3, a4, a5, a6, a7, a8, a9, a0⟩ := a
      refine ⟨csH' (msgsC ms) ((msgsC ms).take j) (cellsL vs) (msgsC ms).length j k0 i0 s0 t0 (cellsL l0) (cellsF f0) n0 d0 (Msg.mk ⟨a1, a2⟩ a3 a4 (Val.mk a5 a6 a7 a8 a9 a0)).cells, run_of [(17, .b true), (18, .e (Msg.mk ⟨a1, a2⟩ a3 a4 (Val.mk a5 a6 a7 a8 a9 a0)).cells), (22, .p (.agg (Msg.mk ⟨a1, a2⟩ a3 a4 (Val.mk a5 a6 a7 a8 a9 a0)).cells)), (24, .app), (25, .i (Int.ofNat (j + 1)))] []
        (pf5 (lt_nat (j := j) (k := (msgsC ms).length) (by omega)) hg hc (app_ok (acc := (msgsC ms).take j) j 2 152 (by rw [List.length_take]; omega) (by omega) (by omega)) (next_nat (j := j) (by omega))) (lo' := []) (by kernel_rfl), ?_⟩
      rw [cs_canon', ht]
    · rw [List.take_length]
      exact run_of [(17, .b false)] [] (pf1 (nlt_nat (Nat.lt_irrefl (msgsC ms).length))) (lo' := []) (by kernel_rfl)
  have h2 : run (callF tab ext M) 0 M (.loop (loopAt 53 1)) (cvH (msgsC ms) (msgsC ms) (cellsL vs) [] (cellsL vs).length (msgsC ms).length 0 k0 i0 s0 t0 (cellsL l0) (cellsF f0) n0 d0) = some (.exit 2, cvE (msgsC ms) (msgsC ms) (cellsL vs) (cellsL vs) (cellsL vs).length (msgsC ms).length (cellsL vs).length k0 i0 s0 t0 (cellsL l0) (cellsF f0) n0 d0) := by
    refine loop_for (σ := fun j => cvH (msgsC ms) (msgsC ms) (cellsL vs) ((cellsL vs).take j) (cellsL vs).length (msgsC ms).length j k0 i0 s0 t0 (cellsL l0) (cellsF f0) n0 d0) (k := (cellsL vs).length) (cv_canon ..) (fun j hj => ?_) ?_ (by simp) (by omega)
    · have hj' : j < vs.length := by omega
      have hg := cellsL_get hj'
      have hok := hva _ (List.getElem_mem hj')
      unfold Val.ok at hok
      have hc := clone_val M vs[j] (by omega) (by omega)
      have ht := take_succ_get hg
      generalize vs[j] = a at hg hc ht
      obtain ⟨a1, a2, a3, a4, a5, a6⟩ := a
      refine ⟨cvH' (msgsC ms) (msgsC ms) (cellsL vs) ((cellsL vs).take j) (cellsL vs).length (msgsC ms).length j k0 i0 s0 t0 (cellsL l0) (cellsF f0) n0 d0 (Val.mk a1 a2 a3 a4 a5 a6).cells, run_of [(34, .b true), (35, .e (Val.mk a1 a2 a3 a4 a5 a6).cells), (39, .p (.agg (Val.mk a1 a2 a3 a4 a5 a6).cells)), (41, .app), (42, .i (Int.ofNat (j + 1)))] []
        (pf5 (lt_nat (j := j) (k := (cellsL vs).length) (by omega)) hg hc (app_ok (acc := (cellsL vs).take j) j 3 88 (by rw [List.length_take]; omega) (by omega) (by omega)) (next_nat (j := j) (by omega))) (lo' := []) (by kernel_rfl), ?_⟩
      rw [cv_canon', ht]
    · rw [List.take_length]
      exact run_of [(34, .b false)] [] (pf1 (nlt_nat (Nat.lt_irrefl (cellsL vs).length))) (lo' := []) (by kernel_rfl)
  exact callF_of [(12, .mk), (29, .mk), (45, .p (.agg (Val.mk k0 i0 s0 t0 l0 f0).cells))] [(.exit 0, csE (msgsC ms) (msgsC ms) (cellsL vs) (msgsC ms).length (msgsC ms).length k0 i0 s0 t0 (cellsL l0) (cellsF f0) n0 d0), (.exit 2, cvE (msgsC ms) (msgsC ms) (cellsL vs) (cellsL vs) (cellsL vs).length (msgsC ms).length (cellsL vs).length k0 i0 s0 t0 (cellsL l0) (cellsF f0) n0 d0)]
    (pf5 (a := 0 ≤ (msgsC ms).length ∧ roomOk (msgsC ms).length 152 = true) ⟨by omega, room_of (by omega) (by omega)⟩ h1 (c := 0 ≤ (cellsL vs).length ∧ roomOk (cellsL vs).length 88 = true) ⟨by omega, room_of (by omega) (by omega)⟩ h2 hk') (by kernel_rfl)

theorem clone_slot_pure (N : Nat) (s : Slt) (h : s.ok) (hN : 190005 ≤ N) : Gam.pureD (callF tab ext N) 53 [.agg s.cells] = some (.agg s.cells) := by
  unfold Gam.pureD
  rw [clone_slot N s h hN]
  obtain ⟨⟨k0, i0, s0, t0, l0, f0⟩, n0, d0, ms, vs⟩ := s
  simp [X.data, dataL, rowOf, Slt.cells, slotC, num, strX]

def zState : List X := [num 0, num 0, .sl true 10 []]
section
variable (a b : Int) (l acc : List (List X)) (n j : Nat) (x : List X)
def stH : St := ⟨[(1, .ptr 0 0 0), (2, .ptr 1 0 0), (3, .bs 2 0 j), (11, .sl false 10 l), (12, nat n), (13, nat j)], [.var [num a, num b, .sl false 10 l], .var zState, .row 10 acc]⟩
def stH' : St := ⟨[(1, .ptr 0 0 0), (2, .ptr 1 0 0), (3, .bs 4 0 (j + 1)), (11, .sl false 10 l), (12, nat n), (13, nat (j + 1))], [.var [num a, num b, .sl false 10 l], .var zState, .dead, .var x, .row 10 (acc ++ [x])]⟩
def stE : St := ⟨[(1, .ptr 0 0 0), (2, .ptr 1 0 0), (3, .bs 2 0 j), (11, .sl false 10 l), (12, nat n), (13, nat j), (14, boolX false)], [.var [num a, num b, .sl false 10 l], .var zState, .row 10 acc]⟩
theorem st_canon : canon 0 (stH a b l acc n j) = some (stH a b l acc n j) := by kernel_rfl
theorem st_canon' : canon 0 (stH' a b l acc n j x) = some (stH a b l (acc ++ [x]) n (j + 1)) := by kernel_rfl
end
theorem clone_state (N : Nat) (s : Stt) (h : s.ok) (hN : 190010 ≤ N) : callF tab ext N (.fn 41) [.agg s.cells] [] = some (.agg [num s.n, num s.t, .bs 0 0 (sltsC s.slots).length], [.row 10 (sltsC s.slots)]) := by
  obtain ⟨M, rfl⟩ : ∃ M, N = M + 1 := ⟨N - 1, by omega⟩
  have hi := h.slots
  have hit := h.slot
  obtain ⟨a, b, ss⟩ := s
  dsimp only at hi hit
  have em := sltsC_length ss
  have h1 : run (callF tab ext M) 0 M (.loop (loopAt 41 0)) (stH a b (sltsC ss) [] (sltsC ss).length 0) = some (.exit 0, stE a b (sltsC ss) (sltsC ss) (sltsC ss).length (sltsC ss).length) := by
    refine loop_for (σ := fun j => stH a b (sltsC ss) ((sltsC ss).take j) (sltsC ss).length j) (k := (sltsC ss).length) (st_canon ..) (fun j hj => ?_) ?_ (by simp) (by omega)
    · have hj' : j < ss.length := by omega
      have hg := sltsC_get hj'
      have hc := clone_slot_pure M ss[j] (hit _ (List.getElem_mem hj')) (by omega)
      have ht := take_succ_get hg
      generalize ss[j] = q at hg hc ht
      obtain ⟨⟨a1, a2, a3, a4, a5, a6⟩, a7, a8, a9, a0⟩ := q
      refine ⟨stH' a b (sltsC ss) ((sltsC ss).take j) (sltsC ss).length j (Slt.mk (Val.mk a1 a2 a3 a4 a5 a6) a7 a8 a9 a0).cells, run_of [(14, .b true), (15, .e (Slt.mk (Val.mk a1 a2 a3 a4 a5 a6) a7 a8 a9 a0).cells), (19, .p (.agg (Slt.mk (Val.mk a1 a2 a3 a4 a5 a6) a7 a8 a9 a0).cells)), (21, .app), (22, .i (Int.ofNat (j + 1)))] []
        (pf5 (lt_nat (j := j) (k := (sltsC ss).length) (by omega)) hg hc (app_ok (acc := (sltsC ss).take j) j 2 152 (by rw [List.length_take]; omega) (by omega) (by omega)) (next_nat (j := j) (by omega))) (lo' := []) (by kernel_rfl), ?_⟩
      rw [st_canon', ht]
    · rw [List.take_length]
      exact run_of [(14, .b false)] [] (pf1 (nlt_nat (Nat.lt_irrefl (sltsC ss).length))) (lo' := []) (by kernel_rfl)
  exact callF_of [(9, .mk)] [(.exit 0, stE a b (sltsC ss) (sltsC ss) (sltsC ss).length (sltsC ss).length)]
    (pf2 (a := 0 ≤ (sltsC ss).length ∧ roomOk (sltsC ss).length 152 = true) ⟨by omega, room_of (by omega) (by omega)⟩ h1) (by kernel_rfl)
theorem clone_state_pure (N : Nat) (s : Stt) (h : s.ok) (hN : 190010 ≤ N) : Gam.pureD (callF tab ext N) 41 [.agg s.cells] = some (.agg s.cells) := by
  unfold Gam.pureD
  rw [clone_state N s h hN]
  simp [X.data, dataL, rowOf, Stt.cells, num]
end Go.Proofs.YtbfnfldmnombgaaGreatDoor

/- The checks of stamps and of messages come to an end. -/
namespace Go.Proofs.YtbfnfldmnombgaaGreatDoor
open Go.Em
set_option maxRecDepth 100000

theorem bad_index (x : Int) : ∃ b : Bool, ∀ N, Gam.pureD (callF tab ext (N + 2)) 177 [num x] = some (boolX b) := by
  cases h1 : decide (x < 0) with
  | true =>
    exact ⟨true, fun N => pure_of [(4, .b true)] [] (pf1 h1) (x := boolX true) (bx := []) (by kernel_rfl) rfl⟩
  | false =>
    cases h2 : decide (65535 < x) with
    | true =>
      exact ⟨true, fun N => pure_of [(4, .b false), (7, .b true)] [] (pf2 h1 h2) (x := boolX true) (bx := []) (by kernel_rfl) rfl⟩
    | false =>
      exact ⟨false, fun N => pure_of [(4, .b false), (7, .b false)] [] (pf2 h1 h2) (x := boolX false) (bx := []) (by kernel_rfl) rfl⟩
theorem heavy_ok (x : Int) : ∃ b : Bool, ∀ N, Gam.pureD (callF tab ext (N + 2)) 145 [num x] = some (boolX b) := by
  cases h1 : decide (x < 0) with
  | true =>
    exact ⟨true, fun N => pure_of [(4, .b true)] [] (pf1 h1) (x := boolX true) (bx := []) (by kernel_rfl) rfl⟩
  | false =>
    cases h2 : decide (1099511627776 < x) with
    | true =>
      exact ⟨true, fun N => pure_of [(4, .b false), (7, .b true)] [] (pf2 h1 h2) (x := boolX true) (bx := []) (by kernel_rfl) rfl⟩
    | false =>
      exact ⟨false, fun N => pure_of [(4, .b false), (7, .b false)] [] (pf2 h1 h2) (x := boolX false) (bx := []) (by kernel_rfl) rfl⟩
theorem entry_ok (x : Int) : ∃ b : Bool, ∀ N, Gam.pureD (callF tab ext (N + 2)) 146 [num x] = some (boolX b) := by
  cases h1 : decide (1 ≤ x) with
  | true =>
    cases h2 : decide (x ≤ 1048576) with
    | true =>
      exact ⟨true, fun N => pure_of [(4, .b true), (7, .b true)] [] (pf2 h1 h2) (x := boolX true) (bx := []) (by kernel_rfl) rfl⟩
    | false =>
      exact ⟨false, fun N => pure_of [(4, .b true), (7, .b false)] [] (pf2 h1 h2) (x := boolX false) (bx := []) (by kernel_rfl) rfl⟩
  | false =>
    exact ⟨false, fun N => pure_of [(4, .b false)] [] (pf1 h1) (x := boolX false) (bx := []) (by kernel_rfl) rfl⟩

/-! ### slices.IndexFunc, slices.ContainsFunc of numbers -/
def ixH (l : List (List X)) (n j : Nat) : St := ⟨[(0, .sl false 1 l), (1, .fn 177 []), (7, nat n), (8, nat j)], []⟩
theorem ix_canon (l : List (List X)) (n j : Nat) : canon 0 (ixH l n j) = some (ixH l n j) := by kernel_rfl
theorem index_loop (l : List Int) (hl : l.length ≤ 60000) : ∀ d j, j + d = l.length → ∃ (e : Ex) (fin : St), e ≠ .norm ∧ ((∃ k : Nat, e = .ret ∧ fin = ⟨[(4, nat k)], []⟩) ∨ (e = .exit 0 ∧ fin = ⟨[(0, .sl false 1 (intsC l)), (1, .fn 177 []), (7, nat (intsC l).length), (8, nat (intsC l).length), (9, boolX false)], []⟩)) ∧
    ∀ M F, d < F → iter 0 (run (callF tab ext (M + 2)) 0 (M + 2) (loopAt 206 0)) F (ixH (intsC l) (intsC l).length j) = some (e, fin)
  | 0, j, hj => by
    have hn := intsC_length l
    have hj' : j = (intsC l).length := by omega
    subst hj'
    refine ⟨.exit 0, _, by simp, .inr ⟨rfl, rfl⟩, fun M F hF => ?_⟩
    obtain ⟨F', rfl⟩ : ∃ F', F = F' + 1 := ⟨F - 1, by omega⟩
    exact iter_end (ix_canon _ _ _) (run_of [(9, .b false)] [] (pf1 (nlt_nat (Nat.lt_irrefl (intsC l).length))) (lo' := []) (by kernel_rfl)) (by simp)
  | d + 1, j, hj => by
    have hn := intsC_length l
    have hj' : j < l.length := by omega
    have hg := intsC_get hj'
    generalize l[j] = x at hg
    obtain ⟨b, hb⟩ := bad_index x
    cases b with
    | true =>
      refine ⟨.ret, ⟨[(4, nat j)], []⟩, by simp, .inl ⟨j, rfl, rfl⟩, fun M F hF => ?_⟩
      obtain ⟨F', rfl⟩ : ∃ F', F = F' + 1 := ⟨F - 1, by omega⟩
      exact iter_end (ix_canon _ _ _) (run_of [(9, .b true), (14, .e [num x]), (16, .p (boolX true))] [] (pf3 (lt_nat (j := j) (k := (intsC l).length) (by omega)) hg (hb M)) (lo' := []) (by kernel_rfl)) (by simp)
    | false =>
      obtain ⟨e, fin, hne, hc, h⟩ := index_loop l hl d (j + 1) (by omega)
      refine ⟨e, fin, hne, hc, fun M F hF => ?_⟩
      obtain ⟨F', rfl⟩ : ∃ F', F = F' + 1 := ⟨F - 1, by omega⟩
      have hs : run (callF tab ext (M + 2)) 0 (M + 2) (loopAt 206 0) (ixH (intsC l) (intsC l).length j) = some (.norm, ixH (intsC l) (intsC l).length (j + 1)) :=
        run_of [(9, .b true), (14, .e [num x]), (16, .p (boolX false)), (18, .i (Int.ofNat (j + 1)))] [] (pf4 (lt_nat (j := j) (k := (intsC l).length) (by omega)) hg (hb M) (next_nat (j := j) (by omega))) (lo' := []) (by kernel_rfl)
      rw [iter_step (ix_canon _ _ _) hs rfl]
      exact h M F' (by omega)
theorem index_ok (l : List Int) (hl : l.length ≤ 60000) : ∃ c : Int, ∀ M, l.length < M → Gam.pureD (callF tab ext (M + 3)) 206 [.sl false 1 (intsC l), .fn 177 []] = some (num c) := by
  obtain ⟨e, fin, hne, hc, h⟩ := index_loop l hl l.length 0 (by omega)
  rcases hc with ⟨k, rfl, rfl⟩ | ⟨rfl, rfl⟩
  · exact ⟨Int.ofNat k, fun M hM => pure_of [] [(.ret, ⟨[(4, nat k)], []⟩)] (pf1 (h M (M + 2) (by omega))) (x := nat k) (bx := []) (by kernel_rfl) rfl⟩
  · exact ⟨-1, fun M hM => pure_of [] [(.exit 0, ⟨[(0, .sl false 1 (intsC l)), (1, .fn 177 []), (7, nat (intsC l).length), (8, nat (intsC l).length), (9, boolX false)], []⟩)] (pf1 (h M (M + 2) (by omega))) (x := num (-1)) (bx := []) (by kernel_rfl) rfl⟩
theorem contains_ok (l : List Int) (hl : l.length ≤ 60000) : ∃ b : Bool, ∀ M, l.length < M → Gam.pureD (callF tab ext (M + 4)) 176 [.sl false 1 (intsC l), .fn 177 []] = some (boolX b) := by
  obtain ⟨c, h⟩ := index_ok l hl
  exact ⟨decide (0 ≤ c), fun M hM => pure_of [(7, .p (num c))] [] (pf1 (h M hM)) (x := boolX (decide (0 ≤ c))) (bx := []) (by kernel_rfl) rfl⟩

theorem first_int {p : List Int} (h : (Int.ofNat (intsC p).length == 0) = false) : ∃ x : Int, (intsC p)[0]? = some [num x] := by
  cases p with
  | nil => simp [intsC] at h
  | cons x r => exact ⟨x, rfl⟩
theorem second_int {p : List Int} (h : (Int.ofNat (intsC p).length == 0) = false) (h' : (Int.ofNat (intsC p).length == 1) = false) : ∃ x : Int, (intsC p)[1]? = some [num x] := by
  match p, h, h' with
  | [], h, _ => simp [intsC] at h
  | [_], _, h' => simp [intsC] at h'
  | _ :: y :: r, _, _ => exact ⟨y, rfl⟩
/-- What a function of data comes to, whatever the level. -/
def Comes (B : Nat) (f : FuncId) (args : List X) : Prop := ∃ c : Int, ∀ N, B ≤ N → Gam.pureD (callF tab ext N) f args = some (num c)
def ComesB (B : Nat) (f : FuncId) (args : List X) : Prop := ∃ c : Bool, ∀ N, B ≤ N → Gam.pureD (callF tab ext N) f args = some (boolX c)
theorem comes_succ {B : Nat} {f : FuncId} {args : List X} (h : ∃ c : Int, ∀ N, B ≤ N → Gam.pureD (callF tab ext (N + 1)) f args = some (num c)) : Comes (B + 1) f args := by
  obtain ⟨c, h⟩ := h
  refine ⟨c, fun N hN => ?_⟩
  obtain ⟨M, rfl⟩ : ∃ M, N = M + 1 := ⟨N - 1, by omega⟩
  exact h M (by omega)
theorem comesB_succ {B : Nat} {f : FuncId} {args : List X} (h : ∃ c : Bool, ∀ N, B ≤ N → Gam.pureD (callF tab ext (N + 1)) f args = some (boolX c)) : ComesB (B + 1) f args := by
  obtain ⟨c, h⟩ := h
  refine ⟨c, fun N hN => ?_⟩
  obtain ⟨M, rfl⟩ : ∃ M, N = M + 1 := ⟨N - 1, by omega⟩
  exact h M (by omega)
theorem contains_comes (l : List Int) (hl : l.length ≤ 60000) : ComesB 60005 176 [.sl false 1 (intsC l), .fn 177 []] := by
  obtain ⟨b, hb⟩ := contains_ok l hl
  refine ⟨b, fun N hN => ?_⟩
  obtain ⟨M, rfl⟩ : ∃ M, N = M + 4 := ⟨N - 4, by omega⟩
  exact hb M (by omega)
theorem heavy_comes (x : Int) : ComesB 2 145 [num x] := by
  obtain ⟨b, hb⟩ := heavy_ok x
  refine ⟨b, fun N hN => ?_⟩
  obtain ⟨M, rfl⟩ : ∃ M, N = M + 2 := ⟨N - 2, by omega⟩
  exact hb M
theorem entry_comes (x : Int) : ComesB 2 146 [num x] := by
  obtain ⟨b, hb⟩ := entry_ok x
  refine ⟨b, fun N hN => ?_⟩
  obtain ⟨M, rfl⟩ : ∃ M, N = M + 2 := ⟨N - 2, by omega⟩
  exact hb M

theorem stamp_comes (s : Stp) (h : s.ok) : Comes 60006 144 [.agg s.cells] := by
  obtain ⟨b, hb⟩ := contains_comes s.p h.p
  have hp := h.p
  obtain ⟨e, p⟩ := s
  dsimp only at hp hb
  apply comes_succ
  cases h1 : decide (e < 1) with
  | true =>
    exact ⟨2, fun N hN => pure_of [(6, .b true)] [] (pf1 h1) (x := num 2) (bx := []) (by kernel_rfl) rfl⟩
  | false =>
    cases h2 : decide (1048576 < e) with
    | true =>
      exact ⟨2, fun N hN => pure_of [(6, .b false), (10, .b true)] [] (pf2 h1 h2) (x := num 2) (bx := []) (by kernel_rfl) rfl⟩
    | false =>
      cases h3 : (Int.ofNat (intsC p).length == 0) with
      | true =>
        exact ⟨4, fun N hN => pure_of [(6, .b false), (10, .b false), (16, .b true)] [] (pf3 h1 h2 h3) (x := num 4) (bx := []) (by kernel_rfl) rfl⟩
      | false =>
        cases h4 : decide (512 < Int.ofNat (intsC p).length) with
        | true =>
          exact ⟨9, fun N hN => pure_of [(6, .b false), (10, .b false), (16, .b false), (21, .b true)] [] (pf4 h1 h2 h3 h4) (x := num 9) (bx := []) (by kernel_rfl) rfl⟩
        | false =>
          cases b with
          | true =>
            exact ⟨2, fun N hN => pure_of [(6, .b false), (10, .b false), (16, .b false), (21, .b false), (25, .p (boolX true))] [] (pf5 h1 h2 h3 h4 (hb N hN)) (x := num 2) (bx := []) (by kernel_rfl) rfl⟩
          | false =>
            obtain ⟨x, hx⟩ := first_int h3
            cases h5 : decide (1 < x) with
            | true =>
              exact ⟨11, fun N hN => pure_of [(6, .b false), (10, .b false), (16, .b false), (21, .b false), (25, .p (boolX false)), (29, .e [num x]), (31, .b true)] [] (pf7 h1 h2 h3 h4 (hb N hN) hx h5) (x := num 11) (bx := []) (by kernel_rfl) rfl⟩
            | false =>
              cases h6 : (x == 1) with
              | true =>
                exact ⟨0, fun N hN => pure_of [(6, .b false), (10, .b false), (16, .b false), (21, .b false), (25, .p (boolX false)), (29, .e [num x]), (31, .b false), (35, .e [num x]), (37, .b true)] [] (pf9 h1 h2 h3 h4 (hb N hN) hx h5 hx h6) (x := num 0) (bx := []) (by kernel_rfl) rfl⟩
              | false =>
                cases h7 : (Int.ofNat (intsC p).length == 1) with
                | true =>
                  exact ⟨4, fun N hN => pure_of [(6, .b false), (10, .b false), (16, .b false), (21, .b false), (25, .p (boolX false)), (29, .e [num x]), (31, .b false), (35, .e [num x]), (37, .b false), (42, .b true)] [] (pf10 h1 h2 h3 h4 (hb N hN) hx h5 hx h6 h7) (x := num 4) (bx := []) (by kernel_rfl) rfl⟩
                | false =>
                  obtain ⟨y, hy⟩ := second_int h3 (p := p) (by assumption)
                  cases h8 : decide (128 ≤ y) with
                  | true =>
                    exact ⟨2, fun N hN => pure_of [(6, .b false), (10, .b false), (16, .b false), (21, .b false), (25, .p (boolX false)), (29, .e [num x]), (31, .b false), (35, .e [num x]), (37, .b false), (42, .b false), (46, .e [num y]), (48, .b true)] [] (pf12 h1 h2 h3 h4 (hb N hN) hx h5 hx h6 h7 hy h8) (x := num 2) (bx := []) (by kernel_rfl) rfl⟩
                  | false =>
                    exact ⟨0, fun N hN => pure_of [(6, .b false), (10, .b false), (16, .b false), (21, .b false), (25, .p (boolX false)), (29, .e [num x]), (31, .b false), (35, .e [num x]), (37, .b false), (42, .b false), (46, .e [num y]), (48, .b false)] [] (pf12 h1 h2 h3 h4 (hb N hN) hx h5 hx h6 h7 hy h8) (x := num 0) (bx := []) (by kernel_rfl) rfl⟩
end Go.Proofs.YtbfnfldmnombgaaGreatDoor
