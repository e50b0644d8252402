/- DedupChecks: the parts of the two checks. -/
import Derived.Test.YthfchdkjeddijaaGreatDoorK11
import Derived.Test.YthfchdkjeddijaaGreatDoorK13
import Derived.Test.YthfchdkjeddijaaGreatDoorK14
import Derived.Test.YthfchdkjeddijaaGreatDoorK15
import Derived.Test.YthfchdkjeddijaaGreatDoorK17
namespace Go.Proofs.YthfchdkjeddijaaGreatDoor
open Go.Em
set_option maxRecDepth 100000

/-! ### What is looked for -/
def otherS (x : Slt) : Bool := (!(x.t == 0)) || decide (0 < x.items.length + x.vals.length)
def nAt (ss : List Slt) (j : Nat) : Int := (ss[j]?.map Slt.n).getD 0
def oAt (ss : List Slt) (j : Nat) : Bool := (ss[j]?.map otherS).getD false
theorem nAt_get {ss : List Slt} {j : Nat} (h : j < ss.length) : nAt ss j = ss[j].n := by simp [nAt, h]
theorem oAt_get {ss : List Slt} {j : Nat} (h : j < ss.length) : oAt ss j = otherS ss[j] := by simp [oAt, h]
def badR (a : Int) (ss : List Slt) (j : Nat) : Bool := decide (nAt ss j < 1) || decide (nAt ss j > a)
def dupB (ss : List Slt) (j : Nat) : Bool := (List.range j).any fun k => nAt ss k == nAt ss j
def badB (a : Int) (ss : List Slt) (j : Nat) : Bool := badR a ss j || dupB ss j
def errB (a : Int) (ss : List Slt) (j : Nat) : Int := if badR a ss j then 2 else 7

/-! ### The map of numbers seen -/
def ents (l : List Int) : List (Value × X) := l.map fun z => (.int .i64 z, boolX true)
theorem find_ents (z : Int) : ∀ (l : List Int) (i : Nat), (z ∈ l → ∃ k, mapFind (.int .i64 z) (ents l) i = some (some (k, boolX true))) ∧ (z ∉ l → mapFind (.int .i64 z) (ents l) i = some none)
  | [], i => ⟨fun h => (by cases h), fun _ => rfl⟩
  | a :: l, i => by
    have ih := find_ents z l (i + 1)
    have e : mapFind (.int .i64 z) (ents (a :: l)) i = if (z == a) then some (some (i, boolX true)) else mapFind (.int .i64 z) (ents l) (i + 1) := by
      simp only [ents, List.map_cons, mapFind, keySame, if_true]
      cases h : (z == a) <;> rfl
    rw [e]
    cases h : (z == a) with
    | true =>
      refine ⟨fun _ => ⟨i, rfl⟩, fun hn => ?_⟩
      exact absurd (by rw [eq_of_beq h]; simp) hn
    | false =>
      have hne : z ≠ a := ne_of_beq_false h
      refine ⟨fun hm => ?_, fun hn => ?_⟩
      · rcases List.mem_cons.1 hm with h1 | h1
        · exact absurd h1 hne
        · exact ih.1 h1
      · exact ih.2 fun h1 => hn (List.mem_cons_of_mem _ h1)
theorem get_ents (z : Int) (l : List Int) (d : Bool) (hd : d = decide (z ∈ l)) : mapGet false (boolX false) (.int .i64 z) (ents l) = some (boolX d) := by
  subst hd
  unfold mapGet
  by_cases h : z ∈ l
  · obtain ⟨k, hk⟩ := (find_ents z l 0).1 h
    rw [hk, decide_eq_true h]; rfl
  · rw [(find_ents z l 0).2 h, decide_eq_false h]; rfl
theorem put_ents (z : Int) (l : List Int) (h : z ∉ l) : mapPut (.int .i64 z) (boolX true) (ents l) = some (ents (l ++ [z])) := by
  unfold mapPut
  rw [(find_ents z l 0).2 h]
  simp [ents]
/-- The numbers of the first j slots. -/
def numsT (ss : List Slt) (j : Nat) : List Int := (List.range j).map (nAt ss)
theorem numsT_succ (ss : List Slt) (j : Nat) : numsT ss (j + 1) = numsT ss j ++ [nAt ss j] := by
  simp [numsT, List.range_succ]
theorem dup_mem (ss : List Slt) (j : Nat) : dupB ss j = decide (nAt ss j ∈ numsT ss j) := by
  unfold dupB numsT
  by_cases h : nAt ss j ∈ (List.range j).map (nAt ss)
  · rw [decide_eq_true h]
    obtain ⟨k, hk, e⟩ := List.mem_map.1 h
    exact List.any_eq_true.2 ⟨k, hk, by rw [e]; exact BEq.rfl⟩
  · rw [decide_eq_false h]
    refine Bool.eq_false_iff.2 fun h1 => h ?_
    obtain ⟨k, hk, e⟩ := List.any_eq_true.1 h1
    exact List.mem_map.2 ⟨k, hk, eq_of_beq e⟩

/-! ### The rounds -/
section
variable (cs : List (List X)) (a b : Int) (n j : Nat) (m : List (Value × X))
def cH : St := ⟨[(3, .ptr 0 0 0), (7, .mp 1), (43, .sl false 10 cs), (44, nat n), (45, nat j)], [.var [num a, num b, .sl false 10 cs], .map m]⟩
def iH : St := ⟨[(0, .sl false 10 cs), (1, .fn 53 []), (7, nat n), (8, nat j)], []⟩
def mH : St := ⟨[(3, .ptr 0 0 0), (6, nat j)], [.var [num a, num b, .sl false 10 cs]]⟩
def kH : St := ⟨[(3, .ptr 0 0 0), (8, nat j)], [.var [num a, num b, .sl false 10 cs]]⟩
def qH (k : Nat) : St := ⟨[(3, .ptr 0 0 0), (8, nat j), (9, nat k)], [.var [num a, num b, .sl false 10 cs]]⟩
end
end Go.Proofs.YthfchdkjeddijaaGreatDoor

/- DedupChecks: the loops of the two checks. -/
namespace Go.Proofs.YthfchdkjeddijaaGreatDoor
open Go.Em
set_option maxRecDepth 100000

def cAt (ss : List Slt) (j : Nat) : List X := (ss[j]?.map Slt.cells).getD []
theorem cAt_get {ss : List Slt} {j : Nat} (h : j < ss.length) : cAt ss j = ss[j].cells := by simp [cAt, h]
def sc (ss : List Slt) (a b : Int) : List X := [num a, num b, .sl false 10 (sltsC ss)]
theorem cH_canon (cs : List (List X)) (a b : Int) (n j : Nat) (m : List (Value × X)) (x : List X) : canon 0 ⟨[(3, .ptr 0 0 0), (7, .mp 1), (43, .sl false 10 cs), (44, nat n), (45, nat (j + 1))], [.var [num a, num b, .sl false 10 cs], .map m, .var x]⟩ = some (cH cs a b n (j + 1) m) := by kernel_rfl

theorem c43_loop (ss : List Slt) (a b : Int) (hl : ss.length ≤ 1000) (nc : List X) :
    (∃ j, j < (sltsC ss).length ∧ badB a ss j = true ∧ (∀ i, i < j → badB a ss i = false) ∧ ∀ M, 1 ≤ M → (sltsC ss).length < M → run (callF tab ext M) 0 M (.loop (loopAt 20 0)) ⟨[(3, .ptr 1 0 0), (7, .mp 2), (43, .sl false 10 (sltsC ss)), (44, nat (sltsC ss).length), (45, num 0)], [.var nc, .var (sc ss a b), .map []]⟩ = some (.ret, ⟨[(4, num (errB a ss j))], [.var (sc ss a b), .map (ents (numsT ss j)), .var (cAt ss j)]⟩)) ∨
    ((∀ j, j < (sltsC ss).length → badB a ss j = false) ∧ ∀ M, 1 ≤ M → (sltsC ss).length < M → run (callF tab ext M) 0 M (.loop (loopAt 20 0)) ⟨[(3, .ptr 1 0 0), (7, .mp 2), (43, .sl false 10 (sltsC ss)), (44, nat (sltsC ss).length), (45, num 0)], [.var nc, .var (sc ss a b), .map []]⟩ = some (.exit 1, ⟨[(3, .ptr 0 0 0), (7, .mp 1), (43, .sl false 10 (sltsC ss)), (44, nat (sltsC ss).length), (45, nat (sltsC ss).length), (46, boolX false)], [.var (sc ss a b), .map (ents (numsT ss (sltsC ss).length))]⟩)) := by
  have hn := sltsC_length ss
  refine scanP (H := fun j => cH (sltsC ss) a b (sltsC ss).length j (ents (numsT ss j))) (P := badB a ss) (r := fun j => ⟨[(4, num (errB a ss j))], [.var (sc ss a b), .map (ents (numsT ss j)), .var (cAt ss j)]⟩)
    (υ := fun j => ⟨[(3, .ptr 0 0 0), (7, .mp 1), (43, .sl false 10 (sltsC ss)), (44, nat (sltsC ss).length), (45, nat (j + 1))], [.var (sc ss a b), .map (ents (numsT ss (j + 1))), .var (cAt ss j)]⟩) (by kernel_rfl) (fun j hj hP M hM => ?_) (fun j hj hP => ⟨cH_canon .., fun M hM => ?_⟩) (fun M hM => ?_) (by simp)
  · have hj' : j < ss.length := by omega
    have hg := sltsC_get hj'
    have hx := nAt_get hj'
    have hd := get_ents (nAt ss j) (numsT ss j) _ (dup_mem ss j)
    unfold badB at hP
    generalize dupB ss j = d at hP hd
    rw [cAt_get hj']
    unfold errB
    generalize hb : badR a ss j = bb at hP
    unfold badR at hb
    generalize ents (numsT ss j) = m at hd ⊢
    generalize nAt ss j = z at hx hb hd
    generalize ss[j] = x at hg hx
    obtain ⟨⟨x1, x2, x3, x4, x5, x6⟩, n, t, ms, vs⟩ := x
    subst hx
    cases h1 : decide (z < 1) with
    | true =>
      rw [h1] at hb; subst hb
      exact run_of [(46, .b true), (47, .e (Slt.mk ⟨x1, x2, x3, x4, x5, x6⟩ z t ms vs).cells), (52, .b true)] [] (pf3 (lt_nat hj) hg h1) (lo' := []) (by kernel_rfl)
    | false =>
      cases h2 : decide (z > a) with
      | true =>
        rw [h1, h2] at hb; subst hb
        exact run_of [(46, .b true), (47, .e (Slt.mk ⟨x1, x2, x3, x4, x5, x6⟩ z t ms vs).cells), (52, .b false), (58, .b true)] [] (pf4 (lt_nat hj) hg h1 h2) (lo' := []) (by kernel_rfl)
      | false =>
        rw [h1, h2] at hb; subst hb
        have hd1 : d = true := by simpa using hP
        subst hd1
        exact run_of [(46, .b true), (47, .e (Slt.mk ⟨x1, x2, x3, x4, x5, x6⟩ z t ms vs).cells), (52, .b false), (58, .b false), (64, .g (boolX true))] [] (pf5 (lt_nat hj) hg h1 h2 hd) (lo' := []) (by kernel_rfl)
  · have hj' : j < ss.length := by omega
    have hg := sltsC_get hj'
    have hx := nAt_get hj'
    have hd := get_ents (nAt ss j) (numsT ss j) _ (dup_mem ss j)
    have hnx := next_nat (j := j) (by omega)
    unfold badB at hP
    rw [Bool.or_eq_false_iff] at hP
    obtain ⟨hb, hdu⟩ := hP
    rw [hdu] at hd
    have hp := put_ents (nAt ss j) (numsT ss j) (by
      rw [dup_mem] at hdu; exact of_decide_eq_false hdu)
    rw [← numsT_succ] at hp
    unfold badR at hb
    rw [Bool.or_eq_false_iff] at hb
    obtain ⟨h1, h2⟩ := hb
    rw [cAt_get hj']
    generalize ents (numsT ss (j + 1)) = m' at hp ⊢
    generalize ents (numsT ss j) = m at hd hp ⊢
    generalize nAt ss j = z at hx h1 h2 hd hp
    generalize ss[j] = x at hg hx
    obtain ⟨⟨x1, x2, x3, x4, x5, x6⟩, n, t, ms, vs⟩ := x
    subst hx
    exact run_of [(46, .b true), (47, .e (Slt.mk ⟨x1, x2, x3, x4, x5, x6⟩ z t ms vs).cells), (52, .b false), (58, .b false), (64, .g (boolX false)), (1000065, .pm m'), (68, .i (Int.ofNat (j + 1)))] [] (pf7 (lt_nat hj) hg h1 h2 hd hp hnx) (lo' := []) (by kernel_rfl)
  · exact run_of [(46, .b false)] [] (pf1 (nlt_nat (Nat.lt_irrefl (sltsC ss).length))) (lo' := []) (by kernel_rfl)
end Go.Proofs.YthfchdkjeddijaaGreatDoor

/- DedupChecks: the loops of the document's check. -/
namespace Go.Proofs.YthfchdkjeddijaaGreatDoor
open Go.Em
set_option maxRecDepth 100000

theorem q44_loop (ss : List Slt) (a b : Int) (hl : ss.length ≤ 1000) (j : Nat) (hj : j < ss.length) :
    (dupB ss j = true ∧ ∀ M, 1 ≤ M → j < M → run (callF tab ext M) 0 M (.loop (loopAt 21 2)) ⟨[(3, .ptr 0 0 0), (8, nat j), (9, num 0)], [.var (sc ss a b)]⟩ = some (.ret, ⟨[(4, num 7)], [.var (sc ss a b)]⟩)) ∨
    (dupB ss j = false ∧ ∀ M, 1 ≤ M → j < M → run (callF tab ext M) 0 M (.loop (loopAt 21 2)) ⟨[(3, .ptr 0 0 0), (8, nat j), (9, num 0)], [.var (sc ss a b)]⟩ = some (.exit 4, ⟨[(3, .ptr 0 0 0), (8, nat j), (9, nat j), (87, boolX false)], [.var (sc ss a b)]⟩)) := by
  have hn := sltsC_length ss
  have key := scanP (H := fun k => qH (sltsC ss) a b j k) (n := j) (B := 1) (b := loopAt 21 2) (nIn := 0) (e := .exit 4) (τ := ⟨[(3, .ptr 0 0 0), (8, nat j), (9, num 0)], [.var (sc ss a b)]⟩) (fin := ⟨[(3, .ptr 0 0 0), (8, nat j), (9, nat j), (87, boolX false)], [.var (sc ss a b)]⟩) (fun k => nAt ss k == nAt ss j) (fun _ => ⟨[(4, num 7)], [.var (sc ss a b)]⟩) (fun k => qH (sltsC ss) a b j (k + 1)) (by kernel_rfl)
    (fun k hk hP M hM => by
      have hk' : k < ss.length := by omega
      have hg := sltsC_get hj
      have hg2 := sltsC_get hk'
      have hx := nAt_get hj
      have hx2 := nAt_get hk'
      generalize nAt ss j = z at hx hP
      generalize nAt ss k = z2 at hx2 hP
      generalize ss[j] = x at hg hx
      generalize ss[k] = y at hg2 hx2
      obtain ⟨⟨x1, x2, x3, x4, x5, x6⟩, n, t, ms, vs⟩ := x
      obtain ⟨⟨y1, y2, y3, y4, y5, y6⟩, n2, t2, ms2, vs2⟩ := y
      subst hx
      subst hx2
      exact run_of [(87, .b true), (93, .e (Slt.mk ⟨y1, y2, y3, y4, y5, y6⟩ z2 t2 ms2 vs2).cells), (99, .e (Slt.mk ⟨x1, x2, x3, x4, x5, x6⟩ z t ms vs).cells), (102, .b true)] [] (pf4 (lt_nat hk) hg2 hg hP) (lo' := []) (by kernel_rfl))
    (fun k hk hP => ⟨by kernel_rfl, fun M hM => by
      have hk' : k < ss.length := by omega
      have hg := sltsC_get hj
      have hg2 := sltsC_get hk'
      have hx := nAt_get hj
      have hx2 := nAt_get hk'
      have hnx := next_nat (j := k) (by omega)
      generalize nAt ss j = z at hx hP
      generalize nAt ss k = z2 at hx2 hP
      generalize ss[j] = x at hg hx
      generalize ss[k] = y at hg2 hx2
      obtain ⟨⟨x1, x2, x3, x4, x5, x6⟩, n, t, ms, vs⟩ := x
      obtain ⟨⟨y1, y2, y3, y4, y5, y6⟩, n2, t2, ms2, vs2⟩ := y
      subst hx
      subst hx2
      exact run_of [(87, .b true), (93, .e (Slt.mk ⟨y1, y2, y3, y4, y5, y6⟩ z2 t2 ms2 vs2).cells), (99, .e (Slt.mk ⟨x1, x2, x3, x4, x5, x6⟩ z t ms vs).cells), (102, .b false), (89, .i (Int.ofNat (k + 1)))] [] (pf5 (lt_nat hk) hg2 hg hP hnx) (lo' := []) (by kernel_rfl)⟩)
    (fun M hM => run_of [(87, .b false)] [] (pf1 (nlt_nat (Nat.lt_irrefl j))) (lo' := []) (by kernel_rfl)) (by simp)
  rcases key with ⟨k, hk, hP, _, h⟩ | ⟨hall, h⟩
  · exact .inl ⟨List.any_eq_true.2 ⟨k, List.mem_range.2 hk, hP⟩, h⟩
  · refine .inr ⟨Bool.eq_false_iff.2 fun h1 => ?_, h⟩
    obtain ⟨k, hk, e⟩ := List.any_eq_true.1 h1
    rw [hall k (List.mem_range.1 hk)] at e
    cases e

theorem k44_loop (ss : List Slt) (a b : Int) (hl : ss.length ≤ 1000) :
    (∃ j, j < (sltsC ss).length ∧ badB a ss j = true ∧ (∀ i, i < j → badB a ss i = false) ∧ ∀ M, 1001 ≤ M → (sltsC ss).length < M → run (callF tab ext M) 0 M (.loop (loopAt 21 1)) ⟨[(3, .ptr 0 0 0), (8, num 0)], [.var (sc ss a b)]⟩ = some (.ret, ⟨[(4, num (errB a ss j))], [.var (sc ss a b)]⟩)) ∨
    ((∀ j, j < (sltsC ss).length → badB a ss j = false) ∧ ∀ M, 1001 ≤ M → (sltsC ss).length < M → run (callF tab ext M) 0 M (.loop (loopAt 21 1)) ⟨[(3, .ptr 0 0 0), (8, num 0)], [.var (sc ss a b)]⟩ = some (.exit 2, ⟨[(3, .ptr 0 0 0), (8, nat (sltsC ss).length), (64, boolX false)], [.var (sc ss a b)]⟩)) := by
  have hn := sltsC_length ss
  refine scanP (H := fun j => kH (sltsC ss) a b j) (P := badB a ss) (r := fun j => ⟨[(4, num (errB a ss j))], [.var (sc ss a b)]⟩)
    (υ := fun j => kH (sltsC ss) a b (j + 1)) (by kernel_rfl) (fun j hj hP M hM => ?_) (fun j hj hP => ⟨by kernel_rfl, fun M hM => ?_⟩) (fun M hM => ?_) (by simp)
  · have hj' : j < ss.length := by omega
    have hg := sltsC_get hj'
    have hx := nAt_get hj'
    have hq := q44_loop ss a b hl j hj'
    unfold badB at hP
    generalize dupB ss j = d at hP hq
    unfold errB
    generalize hb : badR a ss j = bb at hP
    unfold badR at hb
    generalize nAt ss j = z at hx hb
    generalize ss[j] = x at hg hx
    obtain ⟨⟨x1, x2, x3, x4, x5, x6⟩, n, t, ms, vs⟩ := x
    subst hx
    cases h1 : decide (z < 1) with
    | true =>
      rw [h1] at hb; subst hb
      exact run_of [(64, .b true), (70, .e (Slt.mk ⟨x1, x2, x3, x4, x5, x6⟩ z t ms vs).cells), (73, .b true)] [] (pf3 (lt_nat hj) hg h1) (lo' := []) (by kernel_rfl)
    | false =>
      cases h2 : decide (z > a) with
      | true =>
        rw [h1, h2] at hb; subst hb
        exact run_of [(64, .b true), (70, .e (Slt.mk ⟨x1, x2, x3, x4, x5, x6⟩ z t ms vs).cells), (73, .b false), (78, .e (Slt.mk ⟨x1, x2, x3, x4, x5, x6⟩ z t ms vs).cells), (83, .b true)] [] (pf5 (lt_nat hj) hg h1 hg h2) (lo' := []) (by kernel_rfl)
      | false =>
        rw [h1, h2] at hb; subst hb
        have hd1 : d = true := by simpa using hP
        subst hd1
        rcases hq with ⟨_, hq⟩ | ⟨h, _⟩
        · have hq := hq M (by omega) (by omega)
          exact run_of [(64, .b true), (70, .e (Slt.mk ⟨x1, x2, x3, x4, x5, x6⟩ z t ms vs).cells), (73, .b false), (78, .e (Slt.mk ⟨x1, x2, x3, x4, x5, x6⟩ z t ms vs).cells), (83, .b false)] [(.ret, ⟨[(4, num 7)], [.var (sc ss a b)]⟩)] (pf6 (lt_nat hj) hg h1 hg h2 hq) (lo' := []) (by kernel_rfl)
        · cases h
  · have hj' : j < ss.length := by omega
    have hg := sltsC_get hj'
    have hx := nAt_get hj'
    have hq := q44_loop ss a b hl j hj'
    have hnx := next_nat (j := j) (by omega)
    unfold badB at hP
    rw [Bool.or_eq_false_iff] at hP
    obtain ⟨hb, hdu⟩ := hP
    rw [hdu] at hq
    unfold badR at hb
    rw [Bool.or_eq_false_iff] at hb
    obtain ⟨h1, h2⟩ := hb
    generalize nAt ss j = z at hx h1 h2
    generalize ss[j] = x at hg hx
    obtain ⟨⟨x1, x2, x3, x4, x5, x6⟩, n, t, ms, vs⟩ := x
    subst hx
    rcases hq with ⟨h, _⟩ | ⟨_, hq⟩
    · cases h
    · have hq := hq M (by omega) (by omega)
      exact run_of [(64, .b true), (70, .e (Slt.mk ⟨x1, x2, x3, x4, x5, x6⟩ z t ms vs).cells), (73, .b false), (78, .e (Slt.mk ⟨x1, x2, x3, x4, x5, x6⟩ z t ms vs).cells), (83, .b false), (66, .i (Int.ofNat (j + 1)))] [(.exit 4, ⟨[(3, .ptr 0 0 0), (8, nat j), (9, nat j), (87, boolX false)], [.var (sc ss a b)]⟩)] (pf7 (lt_nat hj) hg h1 hg h2 hq hnx) (lo' := []) (by kernel_rfl)
  · exact run_of [(64, .b false)] [] (pf1 (nlt_nat (Nat.lt_irrefl (sltsC ss).length))) (lo' := []) (by kernel_rfl)

/-! ### The parts that a dedup's slot must not have -/
theorem otherS_eq (x : Slt) : otherS x = ((!(x.t == 0)) || (decide (Int.ofNat (msgsC x.items).length > 0) || decide (Int.ofNat (cellsL x.vals).length > 0))) := by
  unfold otherS
  rw [msgsC_length, cellsL_eq, List.length_map]
  congr 1
  cases h1 : x.items with
  | nil => cases h2 : x.vals with
    | nil => rfl
    | cons c l => simp
  | cons c l => simp; omega
theorem m44_loop (ss : List Slt) (a b : Int) (hl : ss.length ≤ 1000) (nc : List X) :
    (∃ j, j < (sltsC ss).length ∧ oAt ss j = true ∧ (∀ i, i < j → oAt ss i = false) ∧ ∀ M, 1 ≤ M → (sltsC ss).length < M → run (callF tab ext M) 0 M (.loop (loopAt 21 0)) ⟨[(3, .ptr 1 0 0), (6, num 0)], [.var nc, .var (sc ss a b)]⟩ = some (.ret, ⟨[(4, num 10)], [.var (sc ss a b), .var (cAt ss j)]⟩)) ∨
    ((∀ j, j < (sltsC ss).length → oAt ss j = false) ∧ ∀ M, 1 ≤ M → (sltsC ss).length < M → run (callF tab ext M) 0 M (.loop (loopAt 21 0)) ⟨[(3, .ptr 1 0 0), (6, num 0)], [.var nc, .var (sc ss a b)]⟩ = some (.exit 0, ⟨[(3, .ptr 0 0 0), (6, nat (sltsC ss).length), (33, boolX false)], [.var (sc ss a b)]⟩)) := by
  have hn := sltsC_length ss
  refine scanP (H := fun j => mH (sltsC ss) a b j) (P := oAt ss) (r := fun j => ⟨[(4, num 10)], [.var (sc ss a b), .var (cAt ss j)]⟩)
    (υ := fun j => ⟨[(3, .ptr 0 0 0), (6, nat (j + 1))], [.var (sc ss a b), .var (cAt ss j)]⟩) (by kernel_rfl) (fun j hj hP M hM => ?_) (fun j hj hP => ⟨by kernel_rfl, fun M hM => ?_⟩) (fun M hM => ?_) (by simp)
  · have hj' : j < ss.length := by omega
    have hg := sltsC_get hj'
    rw [oAt_get hj', otherS_eq] at hP
    rw [cAt_get hj']
    generalize ss[j] = x at hg hP
    obtain ⟨⟨x1, x2, x3, x4, x5, x6⟩, n, t, ms, vs⟩ := x
    dsimp only at hP
    cases h1 : (!(t == 0)) with
    | true => exact run_of [(33, .b true), (39, .e (Slt.mk ⟨x1, x2, x3, x4, x5, x6⟩ n t ms vs).cells), (43, .b true)] [] (pf3 (lt_nat hj) hg h1) (lo' := []) (by kernel_rfl)
    | false =>
      cases h2 : decide (Int.ofNat (msgsC ms).length > 0) with
      | true => exact run_of [(33, .b true), (39, .e (Slt.mk ⟨x1, x2, x3, x4, x5, x6⟩ n t ms vs).cells), (43, .b false), (48, .b true)] [] (pf4 (lt_nat hj) hg h1 h2) (lo' := []) (by kernel_rfl)
      | false =>
        rw [h1, h2] at hP
        have h3 : decide (Int.ofNat (cellsL vs).length > 0) = true := by simpa using hP
        exact run_of [(33, .b true), (39, .e (Slt.mk ⟨x1, x2, x3, x4, x5, x6⟩ n t ms vs).cells), (43, .b false), (48, .b false), (54, .b true)] [] (pf5 (lt_nat hj) hg h1 h2 h3) (lo' := []) (by kernel_rfl)
  · have hj' : j < ss.length := by omega
    have hg := sltsC_get hj'
    have hnx := next_nat (j := j) (by omega)
    rw [oAt_get hj', otherS_eq] at hP
    rw [cAt_get hj']
    generalize ss[j] = x at hg hP
    obtain ⟨⟨x1, x2, x3, x4, x5, x6⟩, n, t, ms, vs⟩ := x
    dsimp only at hP
    rw [Bool.or_eq_false_iff, Bool.or_eq_false_iff] at hP
    obtain ⟨h1, h2, h3⟩ := hP
    exact run_of [(33, .b true), (39, .e (Slt.mk ⟨x1, x2, x3, x4, x5, x6⟩ n t ms vs).cells), (43, .b false), (48, .b false), (54, .b false), (35, .i (Int.ofNat (j + 1)))] [] (pf6 (lt_nat hj) hg h1 h2 h3 hnx) (lo' := []) (by kernel_rfl)
  · exact run_of [(33, .b false)] [] (pf1 (nlt_nat (Nat.lt_irrefl (sltsC ss).length))) (lo' := []) (by kernel_rfl)
end Go.Proofs.YthfchdkjeddijaaGreatDoor

/- DedupChecks comes to true. -/
namespace Go.Proofs.YthfchdkjeddijaaGreatDoor
open Go.Em
set_option maxRecDepth 100000

theorem other_pure (N : Nat) (x : Slt) (h : x.ok) : Gam.pureD (callF tab ext (N + 1)) 53 [.agg x.cells] = some (boolX (otherS x)) := by
  have hi := h.items
  have hv := h.vals
  have e1 := msgsC_length x.items
  have e2 : (cellsL x.vals).length = x.vals.length := by rw [cellsL_eq, List.length_map]
  have hd : decide (IntKind.i64.wrap (Int.ofNat (msgsC x.items).length + Int.ofNat (cellsL x.vals).length) > 0) = decide (0 < x.items.length + x.vals.length) := by
    have : IntKind.i64.wrap (Int.ofNat (msgsC x.items).length + Int.ofNat (cellsL x.vals).length) = Int.ofNat (x.items.length + x.vals.length) := by
      rw [IntKind.wrap_i64, e1, e2]
      simp only [Int.ofNat_eq_natCast]
      omega
    rw [this]
    simp only [Int.ofNat_eq_natCast, gt_iff_lt]
    congr 1
    exact propext (by omega)
  unfold otherS
  obtain ⟨⟨x1, x2, x3, x4, x5, x6⟩, n, t, ms, vs⟩ := x
  dsimp only at hd ⊢
  generalize decide (0 < ms.length + vs.length) = d at hd ⊢
  cases h1 : (!(t == 0)) with
  | true => exact pure_of [(5, .b true)] [] (pf1 h1) (x := boolX true) (bx := []) (by kernel_rfl) rfl
  | false => exact pure_of [(5, .b false), (14, .b d)] [] (pf2 h1 hd) (x := boolX d) (bx := []) (by kernel_rfl) rfl

theorem i178_loop (ss : List Slt) (hs : ∀ x, x ∈ ss → x.ok) (hl : ss.length ≤ 1000) :
    (∃ j, j < (sltsC ss).length ∧ oAt ss j = true ∧ (∀ i, i < j → oAt ss i = false) ∧ ∀ M, 1 ≤ M → (sltsC ss).length < M → run (callF tab ext M) 0 M (.loop (loopAt 99 0)) ⟨[(0, .sl false 10 (sltsC ss)), (1, .fn 53 []), (7, nat (sltsC ss).length), (8, num 0)], []⟩ = some (.ret, ⟨[(4, nat j)], []⟩)) ∨
    ((∀ j, j < (sltsC ss).length → oAt ss j = false) ∧ ∀ M, 1 ≤ M → (sltsC ss).length < M → run (callF tab ext M) 0 M (.loop (loopAt 99 0)) ⟨[(0, .sl false 10 (sltsC ss)), (1, .fn 53 []), (7, nat (sltsC ss).length), (8, num 0)], []⟩ = some (.exit 0, ⟨[(0, .sl false 10 (sltsC ss)), (1, .fn 53 []), (7, nat (sltsC ss).length), (8, nat (sltsC ss).length), (9, boolX false)], []⟩)) := by
  have hn := sltsC_length ss
  refine scanP (H := fun j => iH (sltsC ss) (sltsC ss).length j) (P := oAt ss) (r := fun j => ⟨[(4, nat j)], []⟩)
    (υ := fun j => iH (sltsC ss) (sltsC ss).length (j + 1)) (by kernel_rfl) (fun j hj hP M hM => ?_) (fun j hj hP => ⟨by kernel_rfl, fun M hM => ?_⟩) (fun M hM => ?_) (by simp)
  · have hj' : j < ss.length := by omega
    have hg := sltsC_get hj'
    obtain ⟨K, rfl⟩ : ∃ K, M = K + 1 := ⟨M - 1, by omega⟩
    have ho := other_pure K ss[j] (hs _ (List.getElem_mem hj'))
    rw [← oAt_get hj', hP] at ho
    generalize ss[j] = x at hg ho
    obtain ⟨⟨x1, x2, x3, x4, x5, x6⟩, n, t, ms, vs⟩ := x
    exact run_of [(9, .b true), (14, .e (Slt.mk ⟨x1, x2, x3, x4, x5, x6⟩ n t ms vs).cells), (16, .p (boolX true))] [] (pf3 (lt_nat hj) hg ho) (lo' := []) (by kernel_rfl)
  · have hj' : j < ss.length := by omega
    have hg := sltsC_get hj'
    obtain ⟨K, rfl⟩ : ∃ K, M = K + 1 := ⟨M - 1, by omega⟩
    have ho := other_pure K ss[j] (hs _ (List.getElem_mem hj'))
    have hnx := next_nat (j := j) (by omega)
    rw [← oAt_get hj', hP] at ho
    generalize ss[j] = x at hg ho
    obtain ⟨⟨x1, x2, x3, x4, x5, x6⟩, n, t, ms, vs⟩ := x
    exact run_of [(9, .b true), (14, .e (Slt.mk ⟨x1, x2, x3, x4, x5, x6⟩ n t ms vs).cells), (16, .p (boolX false)), (18, .i (Int.ofNat (j + 1)))] [] (pf4 (lt_nat hj) hg ho hnx) (lo' := []) (by kernel_rfl)
  · exact run_of [(9, .b false)] [] (pf1 (nlt_nat (Nat.lt_irrefl (sltsC ss).length))) (lo' := []) (by kernel_rfl)
theorem contains_pure (ss : List Slt) (hs : ∀ x, x ∈ ss → x.ok) (hl : ss.length ≤ 1000) (N : Nat) (hN : 1010 ≤ N) :
    ((∃ j, j < (sltsC ss).length ∧ oAt ss j = true) ∧ Gam.pureD (callF tab ext N) 54 [.sl false 10 (sltsC ss), .fn 53 []] = some (boolX true)) ∨ ((∀ j, j < (sltsC ss).length → oAt ss j = false) ∧ Gam.pureD (callF tab ext N) 54 [.sl false 10 (sltsC ss), .fn 53 []] = some (boolX false)) := by
  obtain ⟨M, rfl⟩ : ∃ M, N = M + 2 := ⟨N - 2, by omega⟩
  have hn := sltsC_length ss
  rcases i178_loop ss hs hl with ⟨j, hj, hP, _, h⟩ | ⟨hall, h⟩
  · have h := h M (by omega) (by omega)
    have h1 : Gam.pureD (callF tab ext (M + 1)) 99 [.sl false 10 (sltsC ss), .fn 53 []] = some (nat j) :=
      pure_of [] [(.ret, ⟨[(4, nat j)], []⟩)] (pf1 h) (x := nat j) (bx := []) (by kernel_rfl) rfl
    have hge : decide (Int.ofNat j ≥ 0) = true := decide_eq_true (Int.natCast_nonneg j)
    exact .inl ⟨⟨j, hj, hP⟩, pure_of [(7, .p (nat j)), (8, .b true)] [] (pf2 h1 hge) (x := boolX true) (bx := []) (by kernel_rfl) rfl⟩
  · have h := h M (by omega) (by omega)
    have h1 : Gam.pureD (callF tab ext (M + 1)) 99 [.sl false 10 (sltsC ss), .fn 53 []] = some (num (-1)) :=
      pure_of [] [(.exit 0, ⟨[(0, .sl false 10 (sltsC ss)), (1, .fn 53 []), (7, nat (sltsC ss).length), (8, nat (sltsC ss).length), (9, boolX false)], []⟩)] (pf1 h) (x := num (-1)) (bx := []) (by kernel_rfl) rfl
    exact .inr ⟨hall, pure_of [(7, .p (num (-1)))] [] (pf1 h1) (x := boolX false) (bx := []) (by kernel_rfl) rfl⟩
end Go.Proofs.YthfchdkjeddijaaGreatDoor

/- DedupChecks comes to true. -/
namespace Go.Proofs.YthfchdkjeddijaaGreatDoor
open Go.Em
set_option maxRecDepth 100000


theorem both_checks (n : Nod) (s : Stt) (hs : s.small) : ∃ c : Int, ∀ N, 190080 ≤ N → Gam.pureD (callF tab ext N) 20 [.agg n.cells, .agg s.cells] = some (num c) ∧ Gam.pureD (callF tab ext N) 21 [.agg n.cells, .agg s.cells] = some (num c) := by
  obtain ⟨f, _, hf⟩ := state_ex s hs
  have hsl := hs.slots
  have hso := hs.ok.slot
  obtain ⟨a, b, ss⟩ := s
  dsimp only at hsl hso
  have hn := sltsC_length ss
  have h256 : decide (Int.ofNat (sltsC ss).length > 256) = false := decide_eq_false (by simp only [Int.ofNat_eq_natCast]; omega)
  cases h1 : (!(n.kind == 6)) with
  | true =>
    refine ⟨11, fun N hN => ?_⟩
    obtain ⟨M, rfl⟩ : ∃ M, N = M + 1 := ⟨N - 1, by omega⟩
    exact ⟨pure_of [(12, .b true)] [] (pf1 h1) (x := num 11) (bx := []) (by kernel_rfl) rfl, pure_of [(12, .b true)] [] (pf1 h1) (x := num 11) (bx := []) (by kernel_rfl) rfl⟩
  | false =>
  cases h2 : (!(f == 0)) with
  | true =>
    refine ⟨f, fun N hN => ?_⟩
    obtain ⟨M, rfl⟩ : ∃ M, N = M + 1 := ⟨N - 1, by omega⟩
    have hf := hf M (by omega)
    exact ⟨pure_of [(12, .b false), (14, .p (num f)), (16, .b true)] [] (pf3 h1 hf h2) (x := num f) (bx := []) (by kernel_rfl) rfl, pure_of [(12, .b false), (14, .p (num f)), (16, .b true)] [] (pf3 h1 hf h2) (x := num f) (bx := []) (by kernel_rfl) rfl⟩
  | false =>
  cases h3 : decide (a < 0) with
  | true =>
    refine ⟨2, fun N hN => ?_⟩
    obtain ⟨M, rfl⟩ : ∃ M, N = M + 1 := ⟨N - 1, by omega⟩
    have hf := hf M (by omega)
    exact ⟨pure_of [(12, .b false), (14, .p (num f)), (16, .b false), (20, .b true)] [] (pf4 h1 hf h2 h3) (x := num 2) (bx := []) (by kernel_rfl) rfl, pure_of [(12, .b false), (14, .p (num f)), (16, .b false), (20, .b true)] [] (pf4 h1 hf h2 h3) (x := num 2) (bx := []) (by kernel_rfl) rfl⟩
  | false =>
  cases h4 : decide (a > 1099511627776) with
  | true =>
    refine ⟨2, fun N hN => ?_⟩
    obtain ⟨M, rfl⟩ : ∃ M, N = M + 1 := ⟨N - 1, by omega⟩
    have hf := hf M (by omega)
    exact ⟨pure_of [(12, .b false), (14, .p (num f)), (16, .b false), (20, .b false), (24, .b true)] [] (pf5 h1 hf h2 h3 h4) (x := num 2) (bx := []) (by kernel_rfl) rfl, pure_of [(12, .b false), (14, .p (num f)), (16, .b false), (20, .b false), (24, .b true)] [] (pf5 h1 hf h2 h3 h4) (x := num 2) (bx := []) (by kernel_rfl) rfl⟩
  | false =>
  cases h5 : (!(b == 0)) with
  | true =>
    refine ⟨10, fun N hN => ?_⟩
    obtain ⟨M, rfl⟩ : ∃ M, N = M + 1 := ⟨N - 1, by omega⟩
    have hf := hf M (by omega)
    exact ⟨pure_of [(12, .b false), (14, .p (num f)), (16, .b false), (20, .b false), (24, .b false), (29, .b true)] [] (pf6 h1 hf h2 h3 h4 h5) (x := num 10) (bx := []) (by kernel_rfl) rfl, pure_of [(12, .b false), (14, .p (num f)), (16, .b false), (20, .b false), (24, .b false), (28, .b true)] [] (pf6 h1 hf h2 h3 h4 h5) (x := num 10) (bx := []) (by kernel_rfl) rfl⟩
  | false =>
  rcases m44_loop ss a b (by omega) n.cells with ⟨j, hj, hP, _, hm⟩ | ⟨hall, hm⟩
  · refine ⟨10, fun N hN => ?_⟩
    obtain ⟨M, rfl⟩ : ∃ M, N = M + 1 := ⟨N - 1, by omega⟩
    have hf := hf M (by omega)
    have hm := hm M (by omega) (by omega)
    have hc : Gam.pureD (callF tab ext M) 54 [.sl false 10 (sltsC ss), .fn 53 []] = some (boolX true) := by
      rcases contains_pure ss hso (by omega) M (by omega) with ⟨_, h⟩ | ⟨h, _⟩
      · exact h
      · rw [h j hj] at hP; cases hP
    generalize cAt ss j = cx at hm
    exact ⟨pure_of [(12, .b false), (14, .p (num f)), (16, .b false), (20, .b false), (24, .b false), (29, .b false), (34, .p (boolX true))] [] (pf7 h1 hf h2 h3 h4 h5 hc) (x := num 10) (bx := []) (by kernel_rfl) rfl,
      pure_of [(12, .b false), (14, .p (num f)), (16, .b false), (20, .b false), (24, .b false), (28, .b false)] [(.ret, ⟨[(4, num 10)], [.var (sc ss a b), .var cx]⟩)] (pf7 h1 hf h2 h3 h4 h5 hm) (x := num 10) (bx := []) (by kernel_rfl) rfl⟩
  · have hcn : ∀ M, 1010 ≤ M → Gam.pureD (callF tab ext M) 54 [.sl false 10 (sltsC ss), .fn 53 []] = some (boolX false) := fun M hM => by
      rcases contains_pure ss hso (by omega) M hM with ⟨⟨j, hj, hP⟩, _⟩ | ⟨_, h⟩
      · rw [hall j hj] at hP; cases hP
      · exact h
    rcases c43_loop ss a b (by omega) n.cells with ⟨j, hj, hP, hlt, hc4⟩ | ⟨hB, hc4⟩
    · refine ⟨errB a ss j, fun N hN => ?_⟩
      obtain ⟨M, rfl⟩ : ∃ M, N = M + 1 := ⟨N - 1, by omega⟩
      have hf := hf M (by omega)
      have hm := hm M (by omega) (by omega)
      have hc := hcn M (by omega)
      have hc4 := hc4 M (by omega) (by omega)
      have hk : run (callF tab ext M) 0 M (.loop (loopAt 21 1)) ⟨[(3, .ptr 0 0 0), (8, num 0)], [.var (sc ss a b)]⟩ = some (.ret, ⟨[(4, num (errB a ss j))], [.var (sc ss a b)]⟩) := by
        rcases k44_loop ss a b (by omega) with ⟨j', hj', hP', hlt', hk⟩ | ⟨hB, _⟩
        · have e : j' = j := by
            rcases Nat.lt_trichotomy j' j with h | h | h
            · rw [hlt j' h] at hP'; cases hP'
            · exact h
            · rw [hlt' j h] at hP; cases hP
          subst e
          exact hk M (by omega) (by omega)
        · rw [hB j hj] at hP; cases hP
      generalize cAt ss j = cx at hc4
      generalize ents (numsT ss j) = m at hc4
      generalize errB a ss j = er at hc4 hk ⊢
      exact ⟨pure_of [(12, .b false), (14, .p (num f)), (16, .b false), (20, .b false), (24, .b false), (29, .b false), (34, .p (boolX false)), (40, .b false)] [(.ret, ⟨[(4, num er)], [.var (sc ss a b), .map m, .var cx]⟩)] (pf9 h1 hf h2 h3 h4 h5 hc h256 hc4) (x := num er) (bx := []) (by kernel_rfl) rfl,
        pure_of [(12, .b false), (14, .p (num f)), (16, .b false), (20, .b false), (24, .b false), (28, .b false), (59, .b false)] [(.exit 0, ⟨[(3, .ptr 0 0 0), (6, nat (sltsC ss).length), (33, boolX false)], [.var (sc ss a b)]⟩), (.ret, ⟨[(4, num er)], [.var (sc ss a b)]⟩)] (pf9 h1 hf h2 h3 h4 h5 hm h256 hk) (x := num er) (bx := []) (by kernel_rfl) rfl⟩
    · refine ⟨0, fun N hN => ?_⟩
      obtain ⟨M, rfl⟩ : ∃ M, N = M + 1 := ⟨N - 1, by omega⟩
      have hf := hf M (by omega)
      have hm := hm M (by omega) (by omega)
      have hc := hcn M (by omega)
      have hc4 := hc4 M (by omega) (by omega)
      have hk : run (callF tab ext M) 0 M (.loop (loopAt 21 1)) ⟨[(3, .ptr 0 0 0), (8, num 0)], [.var (sc ss a b)]⟩ = some (.exit 2, ⟨[(3, .ptr 0 0 0), (8, nat (sltsC ss).length), (64, boolX false)], [.var (sc ss a b)]⟩) := by
        rcases k44_loop ss a b (by omega) with ⟨j', hj', hP', _, _⟩ | ⟨_, hk⟩
        · rw [hB j' hj'] at hP'; cases hP'
        · exact hk M (by omega) (by omega)
      generalize ents (numsT ss (sltsC ss).length) = m at hc4
      exact ⟨pure_of [(12, .b false), (14, .p (num f)), (16, .b false), (20, .b false), (24, .b false), (29, .b false), (34, .p (boolX false)), (40, .b false)] [(.exit 1, ⟨[(3, .ptr 0 0 0), (7, .mp 1), (43, .sl false 10 (sltsC ss)), (44, nat (sltsC ss).length), (45, nat (sltsC ss).length), (46, boolX false)], [.var (sc ss a b), .map m]⟩)] (pf9 h1 hf h2 h3 h4 h5 hc h256 hc4) (x := num 0) (bx := []) (by kernel_rfl) rfl,
        pure_of [(12, .b false), (14, .p (num f)), (16, .b false), (20, .b false), (24, .b false), (28, .b false), (59, .b false)] [(.exit 0, ⟨[(3, .ptr 0 0 0), (6, nat (sltsC ss).length), (33, boolX false)], [.var (sc ss a b)]⟩), (.exit 2, ⟨[(3, .ptr 0 0 0), (8, nat (sltsC ss).length), (64, boolX false)], [.var (sc ss a b)]⟩)] (pf9 h1 hf h2 h3 h4 h5 hm h256 hk) (x := num 0) (bx := []) (by kernel_rfl) rfl⟩

theorem dchecks_all (cn : List X) (hcn : isNode cn) (s : Stt) : callF tab ext 190301 (.fn 5) [.agg cn, .agg s.cells] [] = some (.v (.bool true), []) := by
  obtain ⟨nd, nd', rfl, hn⟩ := node_of hcn
  have h1 := hn 190300 (by omega)
  have h2 := short_state s 190300 (by omega)
  have hsm := shortS_small s
  generalize shortS s = s' at h2 hsm
  have h3 := known35_at 189900
  obtain ⟨c, hc⟩ := both_checks nd' s' hsm
  obtain ⟨h4, h5⟩ := hc 190300 (by omega)
  have h6 : (c == c) = true := BEq.rfl
  exact callF_of [(6, .p (.agg nd'.cells)), (8, .p (.agg s'.cells)), (9, .p (boolX true)), (13, .p (num c)), (16, .p (num c)), (17, .b true)] [] (pf6 h1 h2 h3 h4 h5 h6) (by kernel_rfl)
end Go.Proofs.YthfchdkjeddijaaGreatDoor
