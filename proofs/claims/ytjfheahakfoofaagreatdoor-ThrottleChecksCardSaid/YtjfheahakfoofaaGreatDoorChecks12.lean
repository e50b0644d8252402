/- The check of a value comes to an end. -/
import Derived.Test.YtjfheahakfoofaaGreatDoorChecks11
namespace Go.Proofs.YtjfheahakfoofaaGreatDoor
open Go.Em

/-- The values of which a value consists directly. -/
def partsV : Val → List Val
  | .mk k _ _ _ l f => if k = 8 ∨ k = 10 then l else if k = 9 then f.map (·.2) else []
def paH (f acc : List (List X)) (n j : Nat) : St := ⟨[(3, .bs 0 0 j), (16, .sl false 7 f), (17, nat n), (18, nat j)], [.row 6 acc]⟩
def paH' (f acc : List (List X)) (n j : Nat) (x y : List X) : St := ⟨[(3, .bs 2 0 (j + 1)), (16, .sl false 7 f), (17, nat n), (18, nat (j + 1))], [.dead, .var x, .row 6 (acc ++ [y])]⟩
theorem pa_canon' (f acc : List (List X)) (n j : Nat) (x y : List X) : canon 0 (paH' f acc n j x y) = some (paH f (acc ++ [y]) n (j + 1)) := by kernel_rfl
theorem parts_pure (N : Nat) (v : Val) (hv : v.ok) (hN : 60002 ≤ N) : Gam.pureD (callF tab ext N) 146 [.agg v.cells] = some (.sl false 6 (cellsL (partsV v))) := by
  obtain ⟨M, rfl⟩ : ∃ M, N = M + 1 := ⟨N - 1, by omega⟩
  obtain ⟨k, i, s, t, l, f⟩ := v
  unfold Val.ok at hv
  simp only [Val.size] at hv
  have hf := sizeF_length f
  have hn := cellsF_length f
  simp only [partsV]
  cases h1 : (k == 8) with
  | true =>
    have : k = 8 := by simpa using h1
    rw [if_pos (Or.inl this)]
    exact pure_of [(9, .b true)] [] (pf1 h1) (x := .sl false 6 (cellsL l)) (bx := []) (by kernel_rfl) rfl
  | false =>
    have n8 : k ≠ 8 := by simpa using h1
    cases h2 : (k == 10) with
    | true =>
      have : k = 10 := by simpa using h2
      rw [if_pos (Or.inr this)]
      exact pure_of [(9, .b false), (10, .b true)] [] (pf2 h1 h2) (x := .sl false 6 (cellsL l)) (bx := []) (by kernel_rfl) rfl
    | false =>
      have n10 : k ≠ 10 := by simpa using h2
      rw [if_neg (by rintro (h | h); exact n8 h; exact n10 h)]
      cases h3 : (k == 9) with
      | false =>
        have n9 : k ≠ 9 := by simpa using h3
        rw [if_neg n9]
        exact pure_of [(9, .b false), (10, .b false), (14, .b false)] [] (pf3 h1 h2 h3) (x := .sl true 6 []) (bx := []) (by kernel_rfl) rfl
      | true =>
        have : k = 9 := by simpa using h3
        rw [if_pos this]
        have hloop : run (callF tab ext M) 0 M (.loop (loopAt 146 0)) ⟨[(3, .bs 1 0 0), (16, .sl false 7 (cellsF f)), (17, nat (cellsF f).length), (18, nat 0)], [.var (Val.mk k i s t l f).cells, .row 6 []]⟩ = some (.exit 1, ⟨[(3, .bs 0 0 (cellsF f).length), (16, .sl false 7 (cellsF f)), (17, nat (cellsF f).length), (18, nat (cellsF f).length), (19, boolX false)], [.row 6 (cellsL (f.map (·.2)))]⟩) := by
          refine loop_for (σ := fun j => paH (cellsF f) ((cellsL (f.map (·.2))).take j) (cellsF f).length j) (k := (cellsF f).length) (by kernel_rfl) (fun j hj => ?_) ?_ (by simp) (by omega)
          · have hj' : j < f.length := by omega
            have hg := cellsF_get hj'
            have hg2 : (cellsL (f.map (·.2)))[j]? = some f[j].2.cells := by rw [cellsL_eq]; simp [hj']
            have ht := take_succ_get hg2
            have hlen : j = ((cellsL (f.map (·.2))).take j).length := by rw [List.length_take, cellsL_length, List.length_map]; omega
            generalize f[j] = p at hg ht
            obtain ⟨p0, p1, p2, p3, p4, p5, p6⟩ := p
            refine ⟨paH' (cellsF f) ((cellsL (f.map (·.2))).take j) (cellsF f).length j (strX p0 :: (Val.mk p1 p2 p3 p4 p5 p6).cells) (Val.mk p1 p2 p3 p4 p5 p6).cells, run_of [(19, .b true), (20, .e (strX p0 :: (Val.mk p1 p2 p3 p4 p5 p6).cells)), (26, .app), (27, .i (Int.ofNat (j + 1)))] []
              (pf4 (lt_nat (j := j) (k := (cellsF f).length) (by omega)) hg (app_ok (acc := (cellsL (f.map (·.2))).take j) j 0 88 hlen (by omega) (by omega)) (next_nat (j := j) (by omega))) (lo' := []) (by kernel_rfl), ?_⟩
            rw [pa_canon']
            rw [← ht]
          · have ht : (cellsL (f.map (·.2))).take (cellsF f).length = cellsL (f.map (·.2)) := List.take_of_length_le (by rw [cellsL_length, List.length_map]; omega)
            rw [ht]
            exact run_of [(19, .b false)] [] (pf1 (nlt_nat (Nat.lt_irrefl (cellsF f).length))) (lo' := []) (by kernel_rfl)
        have hd : (X.bs 0 0 (cellsF f).length).data [.row 6 (cellsL (f.map (·.2)))] false = some (.sl false 6 (cellsL (f.map (·.2)))) := by
          have hl : (cellsL (f.map (·.2))).length = (cellsF f).length := by rw [cellsL_length, List.length_map, hn]
          simp only [X.data, rowOf, List.getElem?_cons_zero, Nat.zero_add, hl, Nat.le_refl, if_true, Option.map_some, List.drop_zero]
          rw [List.take_of_length_le (by omega)]
        exact pure_of [(9, .b false), (10, .b false), (14, .b true)] [(.exit 1, ⟨[(3, .bs 0 0 (cellsF f).length), (16, .sl false 7 (cellsF f)), (17, nat (cellsF f).length), (18, nat (cellsF f).length), (19, boolX false)], [.row 6 (cellsL (f.map (·.2)))]⟩)]
          (pf4 h1 h2 h3 hloop) (bx := [.row 6 (cellsL (f.map (·.2)))]) (by kernel_rfl) hd

/-! ### A round of the check -/
def rfsOf : C → List (C × C)
  | .seq a b | .cond _ a b => rfsOf a ++ rfsOf b
  | .block _ b | .loop b => rfsOf b
  | .rf _ _ _ a b => (a, b) :: (rfsOf a ++ rfsOf b)
  | _ => []
noncomputable def rfAt (f : Nat) : C × C := match tab f with
  | some fd => (rfsOf fd.body).getD 0 (.skip, .skip)
  | none => (.skip, .skip)
noncomputable def recC (st : LoopState) (p : Option Ex) : Bx := .loop st p [(2, .ptr 1 0 0), (3, .ptr 2 0 0), (4, .ptr 3 0 0)] [11, 12] (rfAt 65).1 (rfAt 65).2
def rulesX : List X := [.v .nilFunc, .fn 120 [], .fn 122 [], .fn 123 [], .fn 125 [], .fn 128 [], .fn 129 [], .fn 130 [], .fn 131 [], .fn 132 [], .fn 134 []]
noncomputable def goC (n : Nat) : List Bx := [recC .ready none, .var [num 0], .var rulesX, .var [nat n]]
noncomputable def endC (c : Int) (n : Nat) : List Bx := [recC .done (some .ret), .var [num c], .var rulesX, .var [nat n]]
def Round (v : Val) (lev : Int) (n : Nat) : Prop :=
  (∃ c : Int, ∀ N, 60010 ≤ N → callF tab ext N .yl [.yl 0, num lev, .agg v.cells] (goC n) = some (boolX false, endC c (n + 1))) ∨
  (n ≤ 4096 ∧ ∀ N, 60010 ≤ N → callF tab ext N .yl [.yl 0, num lev, .agg v.cells] (goC n) = some (boolX true, goC (n + 1)))
theorem round_succ {v : Val} {lev : Int} {n : Nat} (h : (∃ c : Int, ∀ N, 60009 ≤ N → callF tab ext (N + 1) .yl [.yl 0, num lev, .agg v.cells] (goC n) = some (boolX false, endC c (n + 1))) ∨
  (n ≤ 4096 ∧ ∀ N, 60009 ≤ N → callF tab ext (N + 1) .yl [.yl 0, num lev, .agg v.cells] (goC n) = some (boolX true, goC (n + 1)))) : Round v lev n := by
  rcases h with ⟨c, h⟩ | ⟨hn, h⟩
  · refine .inl ⟨c, fun N hN => ?_⟩
    obtain ⟨M, rfl⟩ : ∃ M, N = M + 1 := ⟨N - 1, by omega⟩
    exact h M (by omega)
  · refine .inr ⟨hn, fun N hN => ?_⟩
    obtain ⟨M, rfl⟩ : ∃ M, N = M + 1 := ⟨N - 1, by omega⟩
    exact h M (by omega)
theorem null_at (v : Val) (N : Nat) (hN : 60009 ≤ N) : Gam.pureD (callF tab ext N) 28 [.agg v.cells] = some (boolX (nullV v)) := by
  obtain ⟨M, rfl⟩ : ∃ M, N = M + 1 := ⟨N - 1, by omega⟩
  exact null_val M v
theorem small_of {n : Nat} (h : decide (4096 < Int.ofNat (n + 1)) = false) : n ≤ 4096 := by
  have := of_decide_eq_false h
  simp only [Int.ofNat_eq_natCast] at this
  omega
theorem round1 (i s : Int) (t : ByteArray) (l : List Val) (f : List (ByteArray × Val)) (lev : Int) (n : Nat) (hn : n < 4294967296) : Round (Val.mk 1 i s t l f) lev n := by
  obtain ⟨b, hb⟩ := uses1 i s t l f
  obtain ⟨c, hc⟩ := rule120 (Val.mk 1 i s t l f)
  apply round_succ
  cases h1 : decide (4096 < Int.ofNat (n + 1)) with
  | true =>
    exact .inl ⟨9, fun N hN => yield_of [(14, .i (Int.ofNat (n + 1))), (17, .b true)] (pf2 (next_nat (j := n) hn) h1) (by kernel_rfl)⟩
  | false =>
    cases h2 : decide (8 < lev) with
    | true =>
      exact .inl ⟨23, fun N hN => yield_of [(14, .i (Int.ofNat (n + 1))), (17, .b false), (20, .b true)] (pf3 (next_nat (j := n) hn) h1 h2) (by kernel_rfl)⟩
    | false =>
      have hz := null_at (Val.mk 1 i s t l f)
      generalize nullV (Val.mk 1 i s t l f) = z at hz
      cases z with
      | true =>
        exact .inl ⟨19, fun N hN => yield_of [(14, .i (Int.ofNat (n + 1))), (17, .b false), (20, .b false), (23, .p (boolX true))] (pf4 (next_nat (j := n) hn) h1 h2 (hz N hN)) (by kernel_rfl)⟩
      | false =>
        cases b with
        | true =>
          cases h3 : (!(c == 0)) with
          | true =>
            exact .inl ⟨c, fun N hN => yield_of [(14, .i (Int.ofNat (n + 1))), (17, .b false), (20, .b false), (23, .p (boolX false)), (35, .p (boolX true)), (42, .p (num c)), (44, .b true)] (pf7 (next_nat (j := n) hn) h1 h2 (hz N hN) (hb N (by omega)) (hc N (by omega)) h3) (by kernel_rfl)⟩
          | false =>
            exact .inr ⟨small_of h1, fun N hN => yield_of [(14, .i (Int.ofNat (n + 1))), (17, .b false), (20, .b false), (23, .p (boolX false)), (35, .p (boolX true)), (42, .p (num c)), (44, .b false)] (pf7 (next_nat (j := n) hn) h1 h2 (hz N hN) (hb N (by omega)) (hc N (by omega)) h3) (by kernel_rfl)⟩
        | false =>
          exact .inl ⟨3, fun N hN => yield_of [(14, .i (Int.ofNat (n + 1))), (17, .b false), (20, .b false), (23, .p (boolX false)), (35, .p (boolX false))] (pf5 (next_nat (j := n) hn) h1 h2 (hz N hN) (hb N (by omega))) (by kernel_rfl)⟩
theorem round2 (i s : Int) (t : ByteArray) (l : List Val) (f : List (ByteArray × Val)) (lev : Int) (n : Nat) (hn : n < 4294967296) : Round (Val.mk 2 i s t l f) lev n := by
  obtain ⟨b, hb⟩ := uses2 i s t l f
  obtain ⟨c, hc⟩ := rule122 (Val.mk 2 i s t l f)
  apply round_succ
  cases h1 : decide (4096 < Int.ofNat (n + 1)) with
  | true =>
    exact .inl ⟨9, fun N hN => yield_of [(14, .i (Int.ofNat (n + 1))), (17, .b true)] (pf2 (next_nat (j := n) hn) h1) (by kernel_rfl)⟩
  | false =>
    cases h2 : decide (8 < lev) with
    | true =>
      exact .inl ⟨23, fun N hN => yield_of [(14, .i (Int.ofNat (n + 1))), (17, .b false), (20, .b true)] (pf3 (next_nat (j := n) hn) h1 h2) (by kernel_rfl)⟩
    | false =>
      have hz := null_at (Val.mk 2 i s t l f)
      generalize nullV (Val.mk 2 i s t l f) = z at hz
      cases z with
      | true =>
        exact .inl ⟨19, fun N hN => yield_of [(14, .i (Int.ofNat (n + 1))), (17, .b false), (20, .b false), (23, .p (boolX true))] (pf4 (next_nat (j := n) hn) h1 h2 (hz N hN)) (by kernel_rfl)⟩
      | false =>
        cases b with
        | true =>
          cases h3 : (!(c == 0)) with
          | true =>
            exact .inl ⟨c, fun N hN => yield_of [(14, .i (Int.ofNat (n + 1))), (17, .b false), (20, .b false), (23, .p (boolX false)), (35, .p (boolX true)), (42, .p (num c)), (44, .b true)] (pf7 (next_nat (j := n) hn) h1 h2 (hz N hN) (hb N (by omega)) (hc N (by omega)) h3) (by kernel_rfl)⟩
          | false =>
            exact .inr ⟨small_of h1, fun N hN => yield_of [(14, .i (Int.ofNat (n + 1))), (17, .b false), (20, .b false), (23, .p (boolX false)), (35, .p (boolX true)), (42, .p (num c)), (44, .b false)] (pf7 (next_nat (j := n) hn) h1 h2 (hz N hN) (hb N (by omega)) (hc N (by omega)) h3) (by kernel_rfl)⟩
        | false =>
          exact .inl ⟨3, fun N hN => yield_of [(14, .i (Int.ofNat (n + 1))), (17, .b false), (20, .b false), (23, .p (boolX false)), (35, .p (boolX false))] (pf5 (next_nat (j := n) hn) h1 h2 (hz N hN) (hb N (by omega))) (by kernel_rfl)⟩
theorem round3 (i s : Int) (t : ByteArray) (l : List Val) (f : List (ByteArray × Val)) (lev : Int) (n : Nat) (hn : n < 4294967296) : Round (Val.mk 3 i s t l f) lev n := by
  obtain ⟨b, hb⟩ := uses3 i s t l f
  obtain ⟨c, hc⟩ := rule123 (Val.mk 3 i s t l f)
  apply round_succ
  cases h1 : decide (4096 < Int.ofNat (n + 1)) with
  | true =>
    exact .inl ⟨9, fun N hN => yield_of [(14, .i (Int.ofNat (n + 1))), (17, .b true)] (pf2 (next_nat (j := n) hn) h1) (by kernel_rfl)⟩
  | false =>
    cases h2 : decide (8 < lev) with
    | true =>
      exact .inl ⟨23, fun N hN => yield_of [(14, .i (Int.ofNat (n + 1))), (17, .b false), (20, .b true)] (pf3 (next_nat (j := n) hn) h1 h2) (by kernel_rfl)⟩
    | false =>
      have hz := null_at (Val.mk 3 i s t l f)
      generalize nullV (Val.mk 3 i s t l f) = z at hz
      cases z with
      | true =>
        exact .inl ⟨19, fun N hN => yield_of [(14, .i (Int.ofNat (n + 1))), (17, .b false), (20, .b false), (23, .p (boolX true))] (pf4 (next_nat (j := n) hn) h1 h2 (hz N hN)) (by kernel_rfl)⟩
      | false =>
        cases b with
        | true =>
          cases h3 : (!(c == 0)) with
          | true =>
            exact .inl ⟨c, fun N hN => yield_of [(14, .i (Int.ofNat (n + 1))), (17, .b false), (20, .b false), (23, .p (boolX false)), (35, .p (boolX true)), (42, .p (num c)), (44, .b true)] (pf7 (next_nat (j := n) hn) h1 h2 (hz N hN) (hb N (by omega)) (hc N (by omega)) h3) (by kernel_rfl)⟩
          | false =>
            exact .inr ⟨small_of h1, fun N hN => yield_of [(14, .i (Int.ofNat (n + 1))), (17, .b false), (20, .b false), (23, .p (boolX false)), (35, .p (boolX true)), (42, .p (num c)), (44, .b false)] (pf7 (next_nat (j := n) hn) h1 h2 (hz N hN) (hb N (by omega)) (hc N (by omega)) h3) (by kernel_rfl)⟩
        | false =>
          exact .inl ⟨3, fun N hN => yield_of [(14, .i (Int.ofNat (n + 1))), (17, .b false), (20, .b false), (23, .p (boolX false)), (35, .p (boolX false))] (pf5 (next_nat (j := n) hn) h1 h2 (hz N hN) (hb N (by omega))) (by kernel_rfl)⟩
theorem round4 (i s : Int) (t : ByteArray) (l : List Val) (f : List (ByteArray × Val)) (lev : Int) (n : Nat) (hn : n < 4294967296) : Round (Val.mk 4 i s t l f) lev n := by
  obtain ⟨b, hb⟩ := uses4 i s t l f
  obtain ⟨c, hc⟩ := rule125 (Val.mk 4 i s t l f)
  apply round_succ
  cases h1 : decide (4096 < Int.ofNat (n + 1)) with
  | true =>
    exact .inl ⟨9, fun N hN => yield_of [(14, .i (Int.ofNat (n + 1))), (17, .b true)] (pf2 (next_nat (j := n) hn) h1) (by kernel_rfl)⟩
  | false =>
    cases h2 : decide (8 < lev) with
    | true =>
      exact .inl ⟨23, fun N hN => yield_of [(14, .i (Int.ofNat (n + 1))), (17, .b false), (20, .b true)] (pf3 (next_nat (j := n) hn) h1 h2) (by kernel_rfl)⟩
    | false =>
      have hz := null_at (Val.mk 4 i s t l f)
      generalize nullV (Val.mk 4 i s t l f) = z at hz
      cases z with
      | true =>
        exact .inl ⟨19, fun N hN => yield_of [(14, .i (Int.ofNat (n + 1))), (17, .b false), (20, .b false), (23, .p (boolX true))] (pf4 (next_nat (j := n) hn) h1 h2 (hz N hN)) (by kernel_rfl)⟩
      | false =>
        cases b with
        | true =>
          cases h3 : (!(c == 0)) with
          | true =>
            exact .inl ⟨c, fun N hN => yield_of [(14, .i (Int.ofNat (n + 1))), (17, .b false), (20, .b false), (23, .p (boolX false)), (35, .p (boolX true)), (42, .p (num c)), (44, .b true)] (pf7 (next_nat (j := n) hn) h1 h2 (hz N hN) (hb N (by omega)) (hc N (by omega)) h3) (by kernel_rfl)⟩
          | false =>
            exact .inr ⟨small_of h1, fun N hN => yield_of [(14, .i (Int.ofNat (n + 1))), (17, .b false), (20, .b false), (23, .p (boolX false)), (35, .p (boolX true)), (42, .p (num c)), (44, .b false)] (pf7 (next_nat (j := n) hn) h1 h2 (hz N hN) (hb N (by omega)) (hc N (by omega)) h3) (by kernel_rfl)⟩
        | false =>
          exact .inl ⟨3, fun N hN => yield_of [(14, .i (Int.ofNat (n + 1))), (17, .b false), (20, .b false), (23, .p (boolX false)), (35, .p (boolX false))] (pf5 (next_nat (j := n) hn) h1 h2 (hz N hN) (hb N (by omega))) (by kernel_rfl)⟩
theorem round5 (i s : Int) (t : ByteArray) (l : List Val) (f : List (ByteArray × Val)) (lev : Int) (n : Nat) (hn : n < 4294967296) : Round (Val.mk 5 i s t l f) lev n := by
  obtain ⟨b, hb⟩ := uses5 i s t l f
  obtain ⟨c, hc⟩ := rule128 (Val.mk 5 i s t l f)
  apply round_succ
  cases h1 : decide (4096 < Int.ofNat (n + 1)) with
  | true =>
    exact .inl ⟨9, fun N hN => yield_of [(14, .i (Int.ofNat (n + 1))), (17, .b true)] (pf2 (next_nat (j := n) hn) h1) (by kernel_rfl)⟩
  | false =>
    cases h2 : decide (8 < lev) with
    | true =>
      exact .inl ⟨23, fun N hN => yield_of [(14, .i (Int.ofNat (n + 1))), (17, .b false), (20, .b true)] (pf3 (next_nat (j := n) hn) h1 h2) (by kernel_rfl)⟩
    | false =>
      have hz := null_at (Val.mk 5 i s t l f)
      generalize nullV (Val.mk 5 i s t l f) = z at hz
      cases z with
      | true =>
        exact .inl ⟨19, fun N hN => yield_of [(14, .i (Int.ofNat (n + 1))), (17, .b false), (20, .b false), (23, .p (boolX true))] (pf4 (next_nat (j := n) hn) h1 h2 (hz N hN)) (by kernel_rfl)⟩
      | false =>
        cases b with
        | true =>
          cases h3 : (!(c == 0)) with
          | true =>
            exact .inl ⟨c, fun N hN => yield_of [(14, .i (Int.ofNat (n + 1))), (17, .b false), (20, .b false), (23, .p (boolX false)), (35, .p (boolX true)), (42, .p (num c)), (44, .b true)] (pf7 (next_nat (j := n) hn) h1 h2 (hz N hN) (hb N (by omega)) (hc N (by omega)) h3) (by kernel_rfl)⟩
          | false =>
            exact .inr ⟨small_of h1, fun N hN => yield_of [(14, .i (Int.ofNat (n + 1))), (17, .b false), (20, .b false), (23, .p (boolX false)), (35, .p (boolX true)), (42, .p (num c)), (44, .b false)] (pf7 (next_nat (j := n) hn) h1 h2 (hz N hN) (hb N (by omega)) (hc N (by omega)) h3) (by kernel_rfl)⟩
        | false =>
          exact .inl ⟨3, fun N hN => yield_of [(14, .i (Int.ofNat (n + 1))), (17, .b false), (20, .b false), (23, .p (boolX false)), (35, .p (boolX false))] (pf5 (next_nat (j := n) hn) h1 h2 (hz N hN) (hb N (by omega))) (by kernel_rfl)⟩
theorem round6 (i s : Int) (t : ByteArray) (l : List Val) (f : List (ByteArray × Val)) (lev : Int) (n : Nat) (hn : n < 4294967296) : Round (Val.mk 6 i s t l f) lev n := by
  obtain ⟨b, hb⟩ := uses6 i s t l f
  obtain ⟨c, hc⟩ := rule129 (Val.mk 6 i s t l f)
  apply round_succ
  cases h1 : decide (4096 < Int.ofNat (n + 1)) with
  | true =>
    exact .inl ⟨9, fun N hN => yield_of [(14, .i (Int.ofNat (n + 1))), (17, .b true)] (pf2 (next_nat (j := n) hn) h1) (by kernel_rfl)⟩
  | false =>
    cases h2 : decide (8 < lev) with
    | true =>
      exact .inl ⟨23, fun N hN => yield_of [(14, .i (Int.ofNat (n + 1))), (17, .b false), (20, .b true)] (pf3 (next_nat (j := n) hn) h1 h2) (by kernel_rfl)⟩
    | false =>
      have hz := null_at (Val.mk 6 i s t l f)
      generalize nullV (Val.mk 6 i s t l f) = z at hz
      cases z with
      | true =>
        exact .inl ⟨19, fun N hN => yield_of [(14, .i (Int.ofNat (n + 1))), (17, .b false), (20, .b false), (23, .p (boolX true))] (pf4 (next_nat (j := n) hn) h1 h2 (hz N hN)) (by kernel_rfl)⟩
      | false =>
        cases b with
        | true =>
          cases h3 : (!(c == 0)) with
          | true =>
            exact .inl ⟨c, fun N hN => yield_of [(14, .i (Int.ofNat (n + 1))), (17, .b false), (20, .b false), (23, .p (boolX false)), (35, .p (boolX true)), (42, .p (num c)), (44, .b true)] (pf7 (next_nat (j := n) hn) h1 h2 (hz N hN) (hb N (by omega)) (hc N (by omega)) h3) (by kernel_rfl)⟩
          | false =>
            exact .inr ⟨small_of h1, fun N hN => yield_of [(14, .i (Int.ofNat (n + 1))), (17, .b false), (20, .b false), (23, .p (boolX false)), (35, .p (boolX true)), (42, .p (num c)), (44, .b false)] (pf7 (next_nat (j := n) hn) h1 h2 (hz N hN) (hb N (by omega)) (hc N (by omega)) h3) (by kernel_rfl)⟩
        | false =>
          exact .inl ⟨3, fun N hN => yield_of [(14, .i (Int.ofNat (n + 1))), (17, .b false), (20, .b false), (23, .p (boolX false)), (35, .p (boolX false))] (pf5 (next_nat (j := n) hn) h1 h2 (hz N hN) (hb N (by omega))) (by kernel_rfl)⟩
theorem round7 (i s : Int) (t : ByteArray) (l : List Val) (f : List (ByteArray × Val)) (lev : Int) (n : Nat) (hn : n < 4294967296) : Round (Val.mk 7 i s t l f) lev n := by
  obtain ⟨b, hb⟩ := uses7 i s t l f
  obtain ⟨c, hc⟩ := rule130 (Val.mk 7 i s t l f)
  apply round_succ
  cases h1 : decide (4096 < Int.ofNat (n + 1)) with
  | true =>
    exact .inl ⟨9, fun N hN => yield_of [(14, .i (Int.ofNat (n + 1))), (17, .b true)] (pf2 (next_nat (j := n) hn) h1) (by kernel_rfl)⟩
  | false =>
    cases h2 : decide (8 < lev) with
    | true =>
      exact .inl ⟨23, fun N hN => yield_of [(14, .i (Int.ofNat (n + 1))), (17, .b false), (20, .b true)] (pf3 (next_nat (j := n) hn) h1 h2) (by kernel_rfl)⟩
    | false =>
      have hz := null_at (Val.mk 7 i s t l f)
      generalize nullV (Val.mk 7 i s t l f) = z at hz
      cases z with
      | true =>
        exact .inl ⟨19, fun N hN => yield_of [(14, .i (Int.ofNat (n + 1))), (17, .b false), (20, .b false), (23, .p (boolX true))] (pf4 (next_nat (j := n) hn) h1 h2 (hz N hN)) (by kernel_rfl)⟩
      | false =>
        cases b with
        | true =>
          cases h3 : (!(c == 0)) with
          | true =>
            exact .inl ⟨c, fun N hN => yield_of [(14, .i (Int.ofNat (n + 1))), (17, .b false), (20, .b false), (23, .p (boolX false)), (35, .p (boolX true)), (42, .p (num c)), (44, .b true)] (pf7 (next_nat (j := n) hn) h1 h2 (hz N hN) (hb N (by omega)) (hc N (by omega)) h3) (by kernel_rfl)⟩
          | false =>
            exact .inr ⟨small_of h1, fun N hN => yield_of [(14, .i (Int.ofNat (n + 1))), (17, .b false), (20, .b false), (23, .p (boolX false)), (35, .p (boolX true)), (42, .p (num c)), (44, .b false)] (pf7 (next_nat (j := n) hn) h1 h2 (hz N hN) (hb N (by omega)) (hc N (by omega)) h3) (by kernel_rfl)⟩
        | false =>
          exact .inl ⟨3, fun N hN => yield_of [(14, .i (Int.ofNat (n + 1))), (17, .b false), (20, .b false), (23, .p (boolX false)), (35, .p (boolX false))] (pf5 (next_nat (j := n) hn) h1 h2 (hz N hN) (hb N (by omega))) (by kernel_rfl)⟩
theorem round8 (i s : Int) (t : ByteArray) (l : List Val) (f : List (ByteArray × Val)) (lev : Int) (n : Nat) (hn : n < 4294967296) : Round (Val.mk 8 i s t l f) lev n := by
  obtain ⟨b, hb⟩ := uses8 i s t l f
  obtain ⟨c, hc⟩ := rule131 (Val.mk 8 i s t l f)
  apply round_succ
  cases h1 : decide (4096 < Int.ofNat (n + 1)) with
  | true =>
    exact .inl ⟨9, fun N hN => yield_of [(14, .i (Int.ofNat (n + 1))), (17, .b true)] (pf2 (next_nat (j := n) hn) h1) (by kernel_rfl)⟩
  | false =>
    cases h2 : decide (8 < lev) with
    | true =>
      exact .inl ⟨23, fun N hN => yield_of [(14, .i (Int.ofNat (n + 1))), (17, .b false), (20, .b true)] (pf3 (next_nat (j := n) hn) h1 h2) (by kernel_rfl)⟩
    | false =>
      have hz := null_at (Val.mk 8 i s t l f)
      generalize nullV (Val.mk 8 i s t l f) = z at hz
      cases z with
      | true =>
        exact .inl ⟨19, fun N hN => yield_of [(14, .i (Int.ofNat (n + 1))), (17, .b false), (20, .b false), (23, .p (boolX true))] (pf4 (next_nat (j := n) hn) h1 h2 (hz N hN)) (by kernel_rfl)⟩
      | false =>
        cases b with
        | true =>
          cases h3 : (!(c == 0)) with
          | true =>
            exact .inl ⟨c, fun N hN => yield_of [(14, .i (Int.ofNat (n + 1))), (17, .b false), (20, .b false), (23, .p (boolX false)), (35, .p (boolX true)), (42, .p (num c)), (44, .b true)] (pf7 (next_nat (j := n) hn) h1 h2 (hz N hN) (hb N (by omega)) (hc N (by omega)) h3) (by kernel_rfl)⟩
          | false =>
            exact .inr ⟨small_of h1, fun N hN => yield_of [(14, .i (Int.ofNat (n + 1))), (17, .b false), (20, .b false), (23, .p (boolX false)), (35, .p (boolX true)), (42, .p (num c)), (44, .b false)] (pf7 (next_nat (j := n) hn) h1 h2 (hz N hN) (hb N (by omega)) (hc N (by omega)) h3) (by kernel_rfl)⟩
        | false =>
          exact .inl ⟨3, fun N hN => yield_of [(14, .i (Int.ofNat (n + 1))), (17, .b false), (20, .b false), (23, .p (boolX false)), (35, .p (boolX false))] (pf5 (next_nat (j := n) hn) h1 h2 (hz N hN) (hb N (by omega))) (by kernel_rfl)⟩
theorem round9 (i s : Int) (t : ByteArray) (l : List Val) (f : List (ByteArray × Val)) (lev : Int) (n : Nat) (hn : n < 4294967296) (hv : (Val.mk 9 i s t l f).ok) : Round (Val.mk 9 i s t l f) lev n := by
  obtain ⟨b, hb⟩ := uses9 i s t l f
  obtain ⟨c, hc⟩ := rule132 (Val.mk 9 i s t l f) hv
  apply round_succ
  cases h1 : decide (4096 < Int.ofNat (n + 1)) with
  | true =>
    exact .inl ⟨9, fun N hN => yield_of [(14, .i (Int.ofNat (n + 1))), (17, .b true)] (pf2 (next_nat (j := n) hn) h1) (by kernel_rfl)⟩
  | false =>
    cases h2 : decide (8 < lev) with
    | true =>
      exact .inl ⟨23, fun N hN => yield_of [(14, .i (Int.ofNat (n + 1))), (17, .b false), (20, .b true)] (pf3 (next_nat (j := n) hn) h1 h2) (by kernel_rfl)⟩
    | false =>
      have hz := null_at (Val.mk 9 i s t l f)
      generalize nullV (Val.mk 9 i s t l f) = z at hz
      cases z with
      | true =>
        exact .inl ⟨19, fun N hN => yield_of [(14, .i (Int.ofNat (n + 1))), (17, .b false), (20, .b false), (23, .p (boolX true))] (pf4 (next_nat (j := n) hn) h1 h2 (hz N hN)) (by kernel_rfl)⟩
      | false =>
        cases b with
        | true =>
          cases h3 : (!(c == 0)) with
          | true =>
            exact .inl ⟨c, fun N hN => yield_of [(14, .i (Int.ofNat (n + 1))), (17, .b false), (20, .b false), (23, .p (boolX false)), (35, .p (boolX true)), (42, .p (num c)), (44, .b true)] (pf7 (next_nat (j := n) hn) h1 h2 (hz N hN) (hb N (by omega)) (hc N (by omega)) h3) (by kernel_rfl)⟩
          | false =>
            exact .inr ⟨small_of h1, fun N hN => yield_of [(14, .i (Int.ofNat (n + 1))), (17, .b false), (20, .b false), (23, .p (boolX false)), (35, .p (boolX true)), (42, .p (num c)), (44, .b false)] (pf7 (next_nat (j := n) hn) h1 h2 (hz N hN) (hb N (by omega)) (hc N (by omega)) h3) (by kernel_rfl)⟩
        | false =>
          exact .inl ⟨3, fun N hN => yield_of [(14, .i (Int.ofNat (n + 1))), (17, .b false), (20, .b false), (23, .p (boolX false)), (35, .p (boolX false))] (pf5 (next_nat (j := n) hn) h1 h2 (hz N hN) (hb N (by omega))) (by kernel_rfl)⟩
theorem round10 (i s : Int) (t : ByteArray) (l : List Val) (f : List (ByteArray × Val)) (lev : Int) (n : Nat) (hn : n < 4294967296) : Round (Val.mk 10 i s t l f) lev n := by
  obtain ⟨b, hb⟩ := uses10 i s t l f
  obtain ⟨c, hc⟩ := rule134 (Val.mk 10 i s t l f)
  apply round_succ
  cases h1 : decide (4096 < Int.ofNat (n + 1)) with
  | true =>
    exact .inl ⟨9, fun N hN => yield_of [(14, .i (Int.ofNat (n + 1))), (17, .b true)] (pf2 (next_nat (j := n) hn) h1) (by kernel_rfl)⟩
  | false =>
    cases h2 : decide (8 < lev) with
    | true =>
      exact .inl ⟨23, fun N hN => yield_of [(14, .i (Int.ofNat (n + 1))), (17, .b false), (20, .b true)] (pf3 (next_nat (j := n) hn) h1 h2) (by kernel_rfl)⟩
    | false =>
      have hz := null_at (Val.mk 10 i s t l f)
      generalize nullV (Val.mk 10 i s t l f) = z at hz
      cases z with
      | true =>
        exact .inl ⟨19, fun N hN => yield_of [(14, .i (Int.ofNat (n + 1))), (17, .b false), (20, .b false), (23, .p (boolX true))] (pf4 (next_nat (j := n) hn) h1 h2 (hz N hN)) (by kernel_rfl)⟩
      | false =>
        cases b with
        | true =>
          cases h3 : (!(c == 0)) with
          | true =>
            exact .inl ⟨c, fun N hN => yield_of [(14, .i (Int.ofNat (n + 1))), (17, .b false), (20, .b false), (23, .p (boolX false)), (35, .p (boolX true)), (42, .p (num c)), (44, .b true)] (pf7 (next_nat (j := n) hn) h1 h2 (hz N hN) (hb N (by omega)) (hc N (by omega)) h3) (by kernel_rfl)⟩
          | false =>
            exact .inr ⟨small_of h1, fun N hN => yield_of [(14, .i (Int.ofNat (n + 1))), (17, .b false), (20, .b false), (23, .p (boolX false)), (35, .p (boolX true)), (42, .p (num c)), (44, .b false)] (pf7 (next_nat (j := n) hn) h1 h2 (hz N hN) (hb N (by omega)) (hc N (by omega)) h3) (by kernel_rfl)⟩
        | false =>
          exact .inl ⟨3, fun N hN => yield_of [(14, .i (Int.ofNat (n + 1))), (17, .b false), (20, .b false), (23, .p (boolX false)), (35, .p (boolX false))] (pf5 (next_nat (j := n) hn) h1 h2 (hz N hN) (hb N (by omega))) (by kernel_rfl)⟩
theorem round_comes (v : Val) (hv : v.ok) (lev : Int) (n : Nat) (hn : n < 4294967296) : Round v lev n := by
  obtain ⟨k, i, s, t, l, f⟩ := v
  by_cases h : 1 ≤ k ∧ k ≤ 10
  · have : k = 1 ∨ k = 2 ∨ k = 3 ∨ k = 4 ∨ k = 5 ∨ k = 6 ∨ k = 7 ∨ k = 8 ∨ k = 9 ∨ k = 10 := by omega
    rcases this with rfl | rfl | rfl | rfl | rfl | rfl | rfl | rfl | rfl | rfl
    · exact round1 i s t l f lev n hn
    · exact round2 i s t l f lev n hn
    · exact round3 i s t l f lev n hn
    · exact round4 i s t l f lev n hn
    · exact round5 i s t l f lev n hn
    · exact round6 i s t l f lev n hn
    · exact round7 i s t l f lev n hn
    · exact round8 i s t l f lev n hn
    · exact round9 i s t l f lev n hn hv
    · exact round10 i s t l f lev n hn
  · apply round_succ
    cases h1 : decide (4096 < Int.ofNat (n + 1)) with
    | true =>
      exact .inl ⟨9, fun N hN => yield_of [(14, .i (Int.ofNat (n + 1))), (17, .b true)] (pf2 (next_nat (j := n) hn) h1) (by kernel_rfl)⟩
    | false =>
      cases h2 : decide (8 < lev) with
      | true =>
        exact .inl ⟨23, fun N hN => yield_of [(14, .i (Int.ofNat (n + 1))), (17, .b false), (20, .b true)] (pf3 (next_nat (j := n) hn) h1 h2) (by kernel_rfl)⟩
      | false =>
        have hz := null_at (Val.mk k i s t l f)
        generalize nullV (Val.mk k i s t l f) = z at hz
        cases z with
        | true =>
          exact .inl ⟨19, fun N hN => yield_of [(14, .i (Int.ofNat (n + 1))), (17, .b false), (20, .b false), (23, .p (boolX true))] (pf4 (next_nat (j := n) hn) h1 h2 (hz N hN)) (by kernel_rfl)⟩
        | false =>
          cases h3 : decide (k < 1) with
          | true =>
            exact .inl ⟨11, fun N hN => yield_of [(14, .i (Int.ofNat (n + 1))), (17, .b false), (20, .b false), (23, .p (boolX false)), (27, .b true)] (pf5 (next_nat (j := n) hn) h1 h2 (hz N hN) h3) (by kernel_rfl)⟩
          | false =>
            cases h4 : decide (10 < k) with
            | true =>
              exact .inl ⟨11, fun N hN => yield_of [(14, .i (Int.ofNat (n + 1))), (17, .b false), (20, .b false), (23, .p (boolX false)), (27, .b false), (31, .b true)] (pf6 (next_nat (j := n) hn) h1 h2 (hz N hN) h3 h4) (by kernel_rfl)⟩
            | false =>
              have e1 := of_decide_eq_false h3
              have e2 := of_decide_eq_false h4
              exact absurd ⟨by omega, by omega⟩ h
end Go.Proofs.YtjfheahakfoofaaGreatDoor

/- The visits of a value come to an end; so does its check. -/
namespace Go.Proofs.YtjfheahakfoofaaGreatDoor
open Go.Em

def Visit (v : Val) (lev n : Nat) : Prop :=
  (∃ (c : Int) (m : Nat), ∀ N, 60020 + v.size ≤ N → callF tab ext N (.fn 136) [.agg v.cells, nat lev, .yl 0] (goC n) = some (boolX false, endC c m)) ∨
  (∃ m : Nat, m ≤ 4097 ∧ ∀ N, 60020 + v.size ≤ N → callF tab ext N (.fn 136) [.agg v.cells, nat lev, .yl 0] (goC n) = some (boolX true, goC m))

section
variable (ps : List (List X)) (lev len j n m : Nat) (c : Int) (u : List X)
noncomputable def viH : St := ⟨[(1, nat lev), (2, .yl 0), (15, .sl false 6 ps), (16, nat len), (17, nat j)], goC n⟩
noncomputable def viH' : St := ⟨[(1, nat lev), (2, .yl 0), (15, .sl false 6 ps), (16, nat len), (17, nat j)], goC n ++ [.var u]⟩
noncomputable def viE : St := ⟨[(1, nat lev), (2, .yl 0), (15, .sl false 6 ps), (16, nat len), (17, nat j), (18, boolX false)], goC n⟩
theorem vi_canon : canon 4 (viH ps lev len j n) = some (viH ps lev len j n) := by kernel_rfl
theorem vi_canon' : canon 4 (viH' ps lev len j n u) = some (viH ps lev len j n) := by kernel_rfl
end

theorem visit_loop {B : Nat} (ps : List Val) (lev : Nat) (hlev : lev ≤ 100000) (hl : ps.length ≤ 60000) (hv : ∀ u, u ∈ ps → 60020 + u.size ≤ B ∧ ∀ n, n ≤ 4097 → Visit u (lev + 1) n) : ∀ d j n, j + d = ps.length → n ≤ 4097 →
    (∃ (c : Int) (m : Nat) (u : List X), ∀ M F, B ≤ M → d < F → iter 4 (run (callF tab ext M) 4 M (loopAt 136 0)) F (viH (cellsL ps) lev (cellsL ps).length j n) = some (.ret, ⟨[(6, boolX false)], endC c m ++ [.var u]⟩)) ∨
    (∃ m : Nat, m ≤ 4097 ∧ ∀ M F, B ≤ M → d < F → iter 4 (run (callF tab ext M) 4 M (loopAt 136 0)) F (viH (cellsL ps) lev (cellsL ps).length j n) = some (.exit 0, viE (cellsL ps) lev (cellsL ps).length (cellsL ps).length m))
  | 0, j, n, hj, hn => by
    have hc := cellsL_length ps
    have hj' : j = (cellsL ps).length := by omega
    subst hj'
    right
    refine ⟨n, hn, fun M F _ hF => ?_⟩
    obtain ⟨F', rfl⟩ : ∃ F', F = F' + 1 := ⟨F - 1, by omega⟩
    exact iter_end (vi_canon ..) (run_of [(18, .b false)] [] (pf1 (nlt_nat (Nat.lt_irrefl (cellsL ps).length))) (lo' := []) (by kernel_rfl)) (by simp)
  | d + 1, j, n, hj, hn => by
    have hc := cellsL_length ps
    have hj' : j < ps.length := by omega
    have hg := cellsL_get hj'
    obtain ⟨hB, hu⟩ := hv _ (List.getElem_mem hj')
    have hu := hu n hn
    generalize ps[j] = u at hg hB hu
    obtain ⟨u1, u2, u3, u4, u5, u6⟩ := u
    have hlt := lt_nat (j := j) (k := (cellsL ps).length) (by omega)
    have hnx := next_nat (j := lev) (by omega)
    rcases hu with ⟨c, m, h⟩ | ⟨m, hm, h⟩
    · left
      refine ⟨c, m, (Val.mk u1 u2 u3 u4 u5 u6).cells, fun M F hM hF => ?_⟩
      obtain ⟨F', rfl⟩ : ∃ F', F = F' + 1 := ⟨F - 1, by omega⟩
      exact iter_end (vi_canon ..) (run_of [(18, .b true), (19, .e (Val.mk u1 u2 u3 u4 u5 u6).cells), (23, .i (Int.ofNat (lev + 1))), (25, .r (boolX false) (endC c m))] [] (pf4 hlt hg hnx (h M (by omega))) (lo' := []) (by kernel_rfl)) (by simp)
    · have hs : ∀ M, B ≤ M → run (callF tab ext M) 4 M (loopAt 136 0) (viH (cellsL ps) lev (cellsL ps).length j n) = some (.norm, viH' (cellsL ps) lev (cellsL ps).length (j + 1) m (Val.mk u1 u2 u3 u4 u5 u6).cells) := fun M hM =>
        run_of [(18, .b true), (19, .e (Val.mk u1 u2 u3 u4 u5 u6).cells), (23, .i (Int.ofNat (lev + 1))), (25, .r (boolX true) (goC m)), (27, .i (Int.ofNat (j + 1)))] [] (pf5 hlt hg hnx (h M (by omega)) (next_nat (j := j) (by omega))) (lo' := []) (by kernel_rfl)
      rcases visit_loop ps lev hlev hl hv d (j + 1) m (by omega) hm with ⟨c, m', x, h'⟩ | ⟨m', hm', h'⟩
      · left
        refine ⟨c, m', x, fun M F hM hF => ?_⟩
        obtain ⟨F', rfl⟩ : ∃ F', F = F' + 1 := ⟨F - 1, by omega⟩
        rw [(iter_step (vi_canon ..) (hs M hM) rfl).trans (iter_canon (vi_canon' ..) (vi_canon ..))]
        exact h' M F' hM (by omega)
      · right
        refine ⟨m', hm', fun M F hM hF => ?_⟩
        obtain ⟨F', rfl⟩ : ∃ F', F = F' + 1 := ⟨F - 1, by omega⟩
        rw [(iter_step (vi_canon ..) (hs M hM) rfl).trans (iter_canon (vi_canon' ..) (vi_canon ..))]
        exact h' M F' hM (by omega)

theorem partsV_size (v : Val) : ∀ u, u ∈ partsV v → u.size < v.size := by
  obtain ⟨k, i, s, t, l, f⟩ := v
  intro u hu
  simp only [partsV] at hu
  simp only [Val.size]
  split at hu
  · have := sizeL_mem hu; omega
  · split at hu
    · obtain ⟨p, hp, rfl⟩ := List.mem_map.1 hu
      have := sizeF_mem hp; omega
    · cases hu
theorem partsV_length (v : Val) : (partsV v).length < v.size := by
  obtain ⟨k, i, s, t, l, f⟩ := v
  simp only [partsV, Val.size]
  have := sizeL_length l
  have := sizeF_length f
  split
  · omega
  · split
    · rw [List.length_map]; omega
    · simp

theorem visit_comes : ∀ (sz : Nat) (v : Val), v.size ≤ sz → v.ok → ∀ (lev n : Nat), lev + v.size ≤ 100000 → n ≤ 4097 → Visit v lev n
  | 0, .mk .., h, _, _, _, _, _ => by simp [Val.size] at h
  | sz + 1, v, h, hv, lev, n, hlev, hn => by
    have hr := round_comes v hv (Int.ofNat lev) n (by omega)
    have hp : ∀ M, 60019 + v.size ≤ M → Gam.pureD (callF tab ext M) 146 [.agg v.cells] = some (.sl false 6 (cellsL (partsV v))) := fun M hM => parts_pure M v hv (by omega)
    have hlen := partsV_length v
    unfold Val.ok at hv
    have hloop : ∀ n, n ≤ 4097 → _ := fun n hn => visit_loop (B := 60019 + v.size) (partsV v) lev (by omega) (by omega) (fun u hu => by
      have := partsV_size v u hu
      exact ⟨by omega, fun n hn => visit_comes sz u (by omega) (by unfold Val.ok; omega) (lev + 1) n (by omega) hn⟩) (partsV v).length 0 n (by omega) hn
    generalize partsV v = ps at hp hlen hloop
    obtain ⟨k, i, s, t, l, f⟩ := v
    rcases hr with ⟨c, h⟩ | ⟨hn', h⟩
    · refine .inl ⟨c, n + 1, fun N hN => ?_⟩
      obtain ⟨M, rfl⟩ : ∃ M, N = M + 1 := ⟨N - 1, by omega⟩
      exact callF_of [(12, .r (boolX false) (endC c (n + 1)))] [] (pf1 (h M (by omega))) (by kernel_rfl)
    · rcases hloop (n + 1) (by omega) with ⟨c, m, u, h'⟩ | ⟨m, hm, h'⟩
      · refine .inl ⟨c, m, fun N hN => ?_⟩
        obtain ⟨M, rfl⟩ : ∃ M, N = M + 1 := ⟨N - 1, by omega⟩
        have hl : run (callF tab ext M) 4 M (.loop (loopAt 136 0)) (viH' (cellsL ps) lev (cellsL ps).length 0 (n + 1) (Val.mk k i s t l f).cells) = some (.ret, ⟨[(6, boolX false)], endC c m ++ [.var u]⟩) := by
          simp only [run]
          rw [iter_canon (vi_canon' ..) (vi_canon ..)]
          exact h' M M (by omega) (by omega)
        exact callF_of [(12, .r (boolX true) (goC (n + 1))), (15, .p (.sl false 6 (cellsL ps)))] [(.ret, ⟨[(6, boolX false)], endC c m ++ [.var u]⟩)] (pf3 (h M (by omega)) (hp M (by omega)) hl) (by kernel_rfl)
      · refine .inr ⟨m, hm, fun N hN => ?_⟩
        obtain ⟨M, rfl⟩ : ∃ M, N = M + 1 := ⟨N - 1, by omega⟩
        have hl : run (callF tab ext M) 4 M (.loop (loopAt 136 0)) (viH' (cellsL ps) lev (cellsL ps).length 0 (n + 1) (Val.mk k i s t l f).cells) = some (.exit 0, viE (cellsL ps) lev (cellsL ps).length (cellsL ps).length m) := by
          simp only [run]
          rw [iter_canon (vi_canon' ..) (vi_canon ..)]
          exact h' M M (by omega) (by omega)
        exact callF_of [(12, .r (boolX true) (goC (n + 1))), (15, .p (.sl false 6 (cellsL ps)))] [(.exit 0, viE (cellsL ps) lev (cellsL ps).length (cellsL ps).length m)] (pf3 (h M (by omega)) (hp M (by omega)) hl) (by kernel_rfl)

noncomputable def rfSt (v : List X) : St := ⟨[(2, .ptr 1 0 0), (3, .ptr 2 0 0), (4, .ptr 3 0 0), (10, .fn 135 [.dp v])], [.var v, .var [num 0], .var rulesX, .var [num 0]]⟩
noncomputable def rfFin (v : List X) (c : Int) (m : Nat) : St := ⟨(rfSt v).tm, [.var v, .var [num c], .var rulesX, .var [nat m], .dead]⟩
theorem val_comes (v : Val) (hv : v.ok) : Comes (60025 + v.size) 65 [.agg v.cells] := by
  have hok := hv
  unfold Val.ok at hok
  have hvis := visit_comes v.size v (Nat.le_refl _) hv 1 0 (by omega) (by omega)
  obtain ⟨k, i, s, t, l, f⟩ := v
  generalize hsz : (Val.mk k i s t l f).size = sz at hvis hok
  have hpre : ∀ N, 3 ≤ N → Gam.pureD (callF tab ext N) 101 [.agg (Val.mk k i s t l f).cells] = some (.fn 135 [.dp (Val.mk k i s t l f).cells]) := fun N hN => by
    obtain ⟨M, rfl⟩ : ∃ M, N = M + 1 := ⟨N - 1, by omega⟩
    exact pure_of [] [] pf0 (x := .fn 135 [.dp (Val.mk k i s t l f).cells]) (bx := []) (by kernel_rfl) rfl
  have hrul : ∀ N, 3 ≤ N → Gam.pureD (callF tab ext N) 100 [] = some (.agg rulesX) := fun N hN => by
    obtain ⟨M, rfl⟩ : ∃ M, N = M + 1 := ⟨N - 1, by omega⟩
    exact pure_of [] [] pf0 (x := .agg rulesX) (bx := []) (by kernel_rfl) rfl
  unfold Visit at hvis
  rw [hsz] at hvis
  rcases hvis with ⟨c, m, h⟩ | ⟨m, _, h⟩
  · refine ⟨c, fun N hN => ?_⟩
    obtain ⟨M, rfl⟩ : ∃ M, N = M + 2 := ⟨N - 2, by omega⟩
    have h5 : callF tab ext (M + 1) (.fn 135) [.yl 0, .dp (Val.mk k i s t l f).cells] (goC 0) = some (.tup [], endC c m) :=
      callF_of [(5, .r (boolX false) (endC c m))] [] (pf1 (h M (by omega))) (by kernel_rfl)
    have hrf : run (callF tab ext (M + 1)) 0 (M + 1) (.rf (.t 10) [11, 12] [2, 3, 4] (rfAt 65).1 (rfAt 65).2) (rfSt (Val.mk k i s t l f).cells) = some (.ret, rfFin (Val.mk k i s t l f).cells c m) :=
      rf_of (g := 135) (caps := [.dp (Val.mk k i s t l f).cells]) (y := .tup []) (outb := endC c m)
        (q := (.tup [], [.var (Val.mk k i s t l f).cells, .var [num c], .var rulesX, .var [nat m], recC .done (some .ret)], [4, 1, 2, 3])) h5 (by kernel_rfl) (by kernel_rfl) (by kernel_rfl)
    exact pure_of [(8, .p (.agg rulesX)), (10, .p (.fn 135 [.dp (Val.mk k i s t l f).cells]))] [(.ret, rfFin (Val.mk k i s t l f).cells c m)] (pf3 (hrul (M + 1) (by omega)) (hpre (M + 1) (by omega)) hrf) (x := num c) (bx := []) (by kernel_rfl) rfl
  · refine ⟨0, fun N hN => ?_⟩
    obtain ⟨M, rfl⟩ : ∃ M, N = M + 2 := ⟨N - 2, by omega⟩
    have h5 : callF tab ext (M + 1) (.fn 135) [.yl 0, .dp (Val.mk k i s t l f).cells] (goC 0) = some (.tup [], goC m) :=
      callF_of [(5, .r (boolX true) (goC m))] [] (pf1 (h M (by omega))) (by kernel_rfl)
    have hrf : run (callF tab ext (M + 1)) 0 (M + 1) (.rf (.t 10) [11, 12] [2, 3, 4] (rfAt 65).1 (rfAt 65).2) (rfSt (Val.mk k i s t l f).cells) = some (.norm, rfFin (Val.mk k i s t l f).cells 0 m) :=
      rf_of (g := 135) (caps := [.dp (Val.mk k i s t l f).cells]) (y := .tup []) (outb := goC m)
        (q := (.tup [], [.var (Val.mk k i s t l f).cells, .var [num 0], .var rulesX, .var [nat m], recC .ready none], [4, 1, 2, 3])) h5 (by kernel_rfl) (by kernel_rfl) (by kernel_rfl)
    exact pure_of [(8, .p (.agg rulesX)), (10, .p (.fn 135 [.dp (Val.mk k i s t l f).cells]))] [(.norm, rfFin (Val.mk k i s t l f).cells 0 m)] (pf3 (hrul (M + 1) (by omega)) (hpre (M + 1) (by omega)) hrf) (x := num 0) (bx := []) (by kernel_rfl) rfl
end Go.Proofs.YtjfheahakfoofaaGreatDoor

/- The check of a message comes to an end. -/
namespace Go.Proofs.YtjfheahakfoofaaGreatDoor
open Go.Em

theorem Comes.mono {B B' : Nat} {f : FuncId} {args : List X} (h : Comes B f args) (hB : B ≤ B') : Comes B' f args := by
  obtain ⟨c, h⟩ := h
  exact ⟨c, fun N hN => h N (by omega)⟩
theorem body_comes (v : Val) (hv : v.ok) : Comes 120030 38 [.agg v.cells] := by
  have hok := hv
  unfold Val.ok at hok
  obtain ⟨c, hc⟩ := (val_comes v hv).mono (show 60025 + v.size ≤ 120029 by omega)
  have hz : ∀ N, 120029 ≤ N → Gam.pureD (callF tab ext N) 28 [.agg v.cells] = some (boolX (nullV v)) := fun N hN => null_at v N (by omega)
  generalize nullV v = z at hz
  obtain ⟨k, i, s, t, l, f⟩ := v
  apply comes_succ
  cases z with
  | true =>
    exact ⟨0, fun N hN => pure_of [(5, .p (boolX true))] [] (pf1 (hz N hN)) (x := num (0)) (bx := []) (by kernel_rfl) rfl⟩
  | false =>
    cases h1 : (!(k == 9)) with
    | true =>
      exact ⟨18, fun N hN => pure_of [(5, .p (boolX false)), (9, .b true)] [] (pf2 (hz N hN) h1) (x := num (18)) (bx := []) (by kernel_rfl) rfl⟩
    | false =>
      exact ⟨c, fun N hN => pure_of [(5, .p (boolX false)), (9, .b false), (11, .p (num c))] [] (pf3 (hz N hN) h1 (hc N hN)) (x := num (c)) (bx := []) (by kernel_rfl) rfl⟩

section
variable (m : List X) (o : List (List X)) (n j : Nat)
def mcH : St := ⟨[(1, .ptr 0 0 0), (27, .sl false 1 o), (28, nat n), (29, nat j)], [.var m]⟩
def mcE : St := ⟨[(1, .ptr 0 0 0), (27, .sl false 1 o), (28, nat n), (29, nat j), (30, boolX false)], [.var m]⟩
end
theorem orig_round (e mass : Int) (p : List Int) (o : List Int) (k i s : Int) (t : ByteArray) (l : List Val) (f : List (ByteArray × Val)) (j : Nat) (hl : o.length ≤ 60000) (hj : j < o.length) :
    (∃ r, (∃ c : Int, r = ⟨[(2, num c)], [.var (Msg.mk ⟨e, p⟩ mass o (Val.mk k i s t l f)).cells]⟩) ∧ ∀ M, 2 ≤ M → run (callF tab ext M) 0 M (loopAt 15 0) (mcH (Msg.mk ⟨e, p⟩ mass o (Val.mk k i s t l f)).cells (intsC o) (intsC o).length j) = some (.ret, r)) ∨
    (∃ υ, canon 0 υ = some (mcH (Msg.mk ⟨e, p⟩ mass o (Val.mk k i s t l f)).cells (intsC o) (intsC o).length (j + 1)) ∧ ∀ M, 2 ≤ M → run (callF tab ext M) 0 M (loopAt 15 0) (mcH (Msg.mk ⟨e, p⟩ mass o (Val.mk k i s t l f)).cells (intsC o) (intsC o).length j) = some (.norm, υ)) := by
  have hn := intsC_length o
  have hg := intsC_get hj
  generalize o[j] = x at hg
  obtain ⟨b, hb⟩ := entry_comes x
  have hlt := lt_nat (j := j) (k := (intsC o).length) (by omega)
  cases b with
  | false =>
    exact .inl ⟨_, ⟨2, rfl⟩, fun M hM => run_of [(30, .b true), (32, .e [num x]), (36, .p (boolX false))] [] (pf3 hlt hg (hb M hM)) (lo' := []) (by kernel_rfl)⟩
  | true =>
    cases j with
    | zero =>
      exact .inr ⟨mcH (Msg.mk ⟨e, p⟩ mass o (Val.mk k i s t l f)).cells (intsC o) (intsC o).length (0 + 1), by kernel_rfl, fun M hM => run_of [(30, .b true), (32, .e [num x]), (36, .p (boolX true)), (40, .b false), (51, .i (Int.ofNat (0 + 1)))] [] (pf5 hlt hg (hb M hM) zero_nat (next_nat (j := 0) (by omega))) (lo' := []) (by kernel_rfl)⟩
    | succ j =>
      have hj' : j < o.length := by omega
      have hq := intsC_get hj'
      generalize o[j] = y at hq
      cases h1 : decide (x ≤ y) with
      | true =>
        exact .inl ⟨_, ⟨24, rfl⟩, fun M hM => run_of [(30, .b true), (32, .e [num x]), (36, .p (boolX true)), (40, .b true), (46, .i (Int.ofNat j)), (47, .e [num y]), (49, .b true)] [] (pf7 hlt hg (hb M hM) (pos_nat (j := j)) (pred_nat (j := j) (by omega)) hq h1) (lo' := []) (by kernel_rfl)⟩
      | false =>
        exact .inr ⟨mcH (Msg.mk ⟨e, p⟩ mass o (Val.mk k i s t l f)).cells (intsC o) (intsC o).length ((j + 1) + 1), by kernel_rfl, fun M hM => run_of [(30, .b true), (32, .e [num x]), (36, .p (boolX true)), (40, .b true), (46, .i (Int.ofNat j)), (47, .e [num y]), (49, .b false), (51, .i (Int.ofNat ((j + 1) + 1)))] [] (pf8 hlt hg (hb M hM) (pos_nat (j := j)) (pred_nat (j := j) (by omega)) hq h1 (next_nat (j := (j + 1)) (by omega))) (lo' := []) (by kernel_rfl)⟩
theorem msg_comes (m : Msg) (hm : m.ok) : Comes 120040 15 [.agg m.cells] := by
  obtain ⟨c1, hst⟩ := stamp_comes m.st hm.st
  obtain ⟨b, hb⟩ := heavy_comes m.mass
  obtain ⟨c3, hbd⟩ := body_comes m.body hm.body
  have ho := hm.orig
  obtain ⟨⟨e, p⟩, mass, o, k, i, s, t, l, f⟩ := m
  dsimp only at hst hb hbd ho
  have hn := intsC_length o
  have := scan (B := 2) (b := loopAt 15 0) (H := fun j => mcH (Msg.mk ⟨e, p⟩ mass o (Val.mk k i s t l f)).cells (intsC o) (intsC o).length j) (τ := mcH (Msg.mk ⟨e, p⟩ mass o (Val.mk k i s t l f)).cells (intsC o) (intsC o).length 0) (n := (intsC o).length) (e := .exit 1) (fin := mcE (Msg.mk ⟨e, p⟩ mass o (Val.mk k i s t l f)).cells (intsC o) (intsC o).length (intsC o).length)
    (fun r => ∃ c : Int, r = ⟨[(2, num c)], [.var (Msg.mk ⟨e, p⟩ mass o (Val.mk k i s t l f)).cells]⟩) (by kernel_rfl) (fun j hj => orig_round e mass p o k i s t l f j ho (by omega))
    (fun M _ => run_of [(30, .b false)] [] (pf1 (nlt_nat (Nat.lt_irrefl (intsC o).length))) (lo' := []) (by kernel_rfl)) (by simp)
  apply comes_succ
  cases h1 : (!(c1 == 0)) with
  | true =>
    exact ⟨c1, fun N hN => pure_of [(8, .p (num c1)), (10, .b true)] [] (pf2 (hst N (by omega)) h1) (x := num (c1)) (bx := []) (by kernel_rfl) rfl⟩
  | false =>
    cases b with
    | true =>
      exact ⟨38, fun N hN => pure_of [(8, .p (num c1)), (10, .b false), (15, .p (boolX true))] [] (pf3 (hst N (by omega)) h1 (hb N (by omega))) (x := num (38)) (bx := []) (by kernel_rfl) rfl⟩
    | false =>
      cases h2 : (Int.ofNat (intsC o).length == 0) with
      | true =>
        exact ⟨4, fun N hN => pure_of [(8, .p (num c1)), (10, .b false), (15, .p (boolX false)), (20, .b true)] [] (pf4 (hst N (by omega)) h1 (hb N (by omega)) h2) (x := num (4)) (bx := []) (by kernel_rfl) rfl⟩
      | false =>
        cases h3 : decide (4096 < Int.ofNat (intsC o).length) with
        | true =>
          exact ⟨9, fun N hN => pure_of [(8, .p (num c1)), (10, .b false), (15, .p (boolX false)), (20, .b false), (25, .b true)] [] (pf5 (hst N (by omega)) h1 (hb N (by omega)) h2 h3) (x := num (9)) (bx := []) (by kernel_rfl) rfl⟩
        | false =>
          rcases this with ⟨r, ⟨c, rfl⟩, h⟩ | h
          · exact ⟨c, fun N hN => pure_of [(8, .p (num c1)), (10, .b false), (15, .p (boolX false)), (20, .b false), (25, .b false)] [(.ret, ⟨[(2, num c)], [.var (Msg.mk ⟨e, p⟩ mass o (Val.mk k i s t l f)).cells]⟩)] (pf6 (hst N (by omega)) h1 (hb N (by omega)) h2 h3 (h N (by omega) (by omega))) (x := num c) (bx := []) (by kernel_rfl) rfl⟩
          · exact ⟨c3, fun N hN => pure_of [(8, .p (num c1)), (10, .b false), (15, .p (boolX false)), (20, .b false), (25, .b false), (54, .p (num c3))] [(.exit 1, mcE (Msg.mk ⟨e, p⟩ mass o (Val.mk k i s t l f)).cells (intsC o) (intsC o).length (intsC o).length)] (pf7 (hst N (by omega)) h1 (hb N (by omega)) h2 h3 (h N (by omega) (by omega)) (hbd N (by omega))) (x := num c3) (bx := []) (by kernel_rfl) rfl⟩
end Go.Proofs.YtjfheahakfoofaaGreatDoor

/- The check of a slot comes to an end. -/
namespace Go.Proofs.YtjfheahakfoofaaGreatDoor
open Go.Em

/-! ### slices.ContainsFunc of messages -/
def imH (l : List (List X)) (g : X) (n j : Nat) : St := ⟨[(0, .sl false 10 l), (1, g), (7, nat n), (8, nat j)], []⟩
end Go.Proofs.YtjfheahakfoofaaGreatDoor

/- The check of a slot: its items. -/
namespace Go.Proofs.YtjfheahakfoofaaGreatDoor
open Go.Em

/-- As 'scan', with boxes that came in. -/
theorem scanN {nIn : Nat} {b : C} {H : Nat → St} {e : Ex} {fin τ : St} {n B : Nat} (good : St → Prop) (h0 : canon nIn τ = some (H 0))
    (hstep : ∀ j, j < n → (∃ r, good r ∧ ∀ M, B ≤ M → run (callF tab ext M) nIn M b (H j) = some (.ret, r)) ∨ (∃ υ, canon nIn υ = some (H (j + 1)) ∧ ∀ M, B ≤ M → run (callF tab ext M) nIn M b (H j) = some (.norm, υ)))
    (hend : ∀ M, B ≤ M → run (callF tab ext M) nIn M b (H n) = some (e, fin)) (hne : e ≠ .norm) :
    (∃ r, good r ∧ ∀ M, B ≤ M → n < M → run (callF tab ext M) nIn M (.loop b) τ = some (.ret, r)) ∨ (∀ M, B ≤ M → n < M → run (callF tab ext M) nIn M (.loop b) τ = some (e, fin)) := by
  have key : ∀ d j, j + d = n → (∃ r, good r ∧ ∀ M F υ, B ≤ M → d < F → canon nIn υ = some (H j) → iter nIn (run (callF tab ext M) nIn M b) F υ = some (.ret, r)) ∨ (∀ M F υ, B ≤ M → d < F → canon nIn υ = some (H j) → iter nIn (run (callF tab ext M) nIn M b) F υ = some (e, fin)) := by
    intro d
    induction d with
    | zero =>
      intro j hj
      have hjn : j = n := by omega
      subst hjn
      right
      intro M F υ hM hF hc
      obtain ⟨F', rfl⟩ : ∃ F', F = F' + 1 := ⟨F - 1, by omega⟩
      exact iter_end hc (hend M hM) hne
    | succ d ih =>
      intro j hj
      rcases hstep j (by omega) with ⟨r, hr, h⟩ | ⟨ω, hω, h⟩
      · left
        refine ⟨r, hr, fun M F υ hM hF hc => ?_⟩
        obtain ⟨F', rfl⟩ : ∃ F', F = F' + 1 := ⟨F - 1, by omega⟩
        exact iter_end hc (h M hM) (by simp)
      · rcases ih (j + 1) (by omega) with ⟨r, hr, h'⟩ | h'
        · left
          refine ⟨r, hr, fun M F υ hM hF hc => ?_⟩
          obtain ⟨F', rfl⟩ : ∃ F', F = F' + 1 := ⟨F - 1, by omega⟩
          exact iter_step hc (h M hM) (h' M F' ω hM (by omega) hω)
        · right
          intro M F υ hM hF hc
          obtain ⟨F', rfl⟩ : ∃ F', F = F' + 1 := ⟨F - 1, by omega⟩
          exact iter_step hc (h M hM) (h' M F' ω hM (by omega) hω)
  simp only [run]
  rcases key n 0 (by omega) with ⟨r, hr, h⟩ | h
  · exact .inl ⟨r, hr, fun M hM hn => h M M τ hM hn h0⟩
  · exact .inr fun M hM hn => h M M τ hM hn h0

/-- The checker's boxes, and the slot: nothing appended yet, or something. -/
def ckB (f : Bool) (k v : Nat) (acc : List (List X)) (s : List X) : List Bx :=
  if f then [.var [.bs 3 0 k, nat v], .dead, .var s, .row 10 acc] else [.var [.bs 1 0 k, nat v], .row 10 acc, .var s]
def ckH (f : Bool) (items : List (List X)) (n j k v : Nat) (acc : List (List X)) (s : List X) : St :=
  ⟨[(0, .ptr 0 0 0), (3, .ptr 2 0 0), (21, .sl false 10 items), (22, nat n), (23, nat j)], ckB f k v acc s⟩
inductive BadCk : St → Prop
  | a (c : Int) (k v : Nat) (acc : List (List X)) (x y : Bx) (h : c ≠ 0) : BadCk ⟨[(4, num c)], [.var [.bs 1 0 k, nat v], .row 10 acc, x, y]⟩
  | b (c : Int) (k v : Nat) (acc : List (List X)) (x y : Bx) (h : c ≠ 0) : BadCk ⟨[(4, num c)], [.var [.bs 3 0 k, nat v], .dead, x, .row 10 acc, y]⟩
  | c (c : Int) (k v : Nat) (acc : List (List X)) (x : Bx) (h : c ≠ 0) : BadCk ⟨[(4, num c)], [.var [.bs 1 0 k, nat v], .row 10 acc, x]⟩
  | d (c : Int) (k v : Nat) (acc : List (List X)) (x : Bx) (h : c ≠ 0) : BadCk ⟨[(4, num c)], [.var [.bs 2 0 k, nat v], .dead, .row 10 acc, x]⟩
theorem data_row (acc : List Msg) (k i : Nat) (g : X) (bx : List Bx) (hb : bx[i]? = some (.row 10 (msgsC acc))) (hk : k = acc.length) (hg : g.data bx false = some g) : dataL bx false [.bs i 0 k, g] = some [.sl false 10 (msgsC acc), g] := by
  subst hk
  have hl := msgsC_length acc
  simp only [dataL, X.data, rowOf, hb, Nat.zero_add, hl, Nat.le_refl, if_true, Option.map_some, List.drop_zero, hg]
  rw [List.take_of_length_le (by omega)]
theorem ck_end (k0 i0 s0 : Int) (t0 : ByteArray) (l0 f0 : List (List X)) (n0 d0 : Int) (items vals : List (List X)) (n k v : Nat) (acc : List (List X)) (f : Bool) (M : Nat) :
    run (callF tab ext M) 2 M (loopAt 67 0) (ckH f items n n k v acc (slotC k0 i0 s0 t0 l0 f0 n0 d0 items vals)) = some (.exit 0, ⟨[(0, .ptr 0 0 0), (3, .ptr 2 0 0), (21, .sl false 10 items), (22, nat n), (23, nat n), (24, boolX false)], ckB f k v acc (slotC k0 i0 s0 t0 l0 f0 n0 d0 items vals)⟩) := by
  cases f with
  | true => exact run_of [(24, .b false)] [] (pf1 (nlt_nat (Nat.lt_irrefl n))) (lo' := []) (by kernel_rfl)
  | false => exact run_of [(24, .b false)] [] (pf1 (nlt_nat (Nat.lt_irrefl n))) (lo' := []) (by kernel_rfl)
end Go.Proofs.YtjfheahakfoofaaGreatDoor

/- The check of a slot as a whole. -/
namespace Go.Proofs.YtjfheahakfoofaaGreatDoor
open Go.Em

def cvB (f : Bool) (k v : Nat) (acc : List (List X)) : List Bx := if f then [.var [.bs 2 0 k, nat v], .dead, .row 10 acc] else [.var [.bs 1 0 k, nat v], .row 10 acc]
def cvSt (f : Bool) (vals : List (List X)) (n j k v : Nat) (acc : List (List X)) : St := ⟨[(0, .ptr 0 0 0), (56, .sl false 6 vals), (57, nat n), (58, nat j)], cvB f k v acc⟩
def cvFin (f : Bool) (vals : List (List X)) (n j k v : Nat) (acc : List (List X)) : St := ⟨[(0, .ptr 0 0 0), (56, .sl false 6 vals), (57, nat n), (58, nat j), (59, boolX false)], cvB f k v acc⟩
end Go.Proofs.YtjfheahakfoofaaGreatDoor

/- The check of a slot: what it says, and what it leaves with the checker. -/
namespace Go.Proofs.YtjfheahakfoofaaGreatDoor
open Go.Em

end Go.Proofs.YtjfheahakfoofaaGreatDoor

/- The check of a state comes to an end. -/
namespace Go.Proofs.YtjfheahakfoofaaGreatDoor
open Go.Em

def scSt (st slots : List (List X)) (n j k v : Nat) (acc : List (List X)) (a b : Int) : St :=
  ⟨[(1, .ptr 0 0 0), (4, .ptr 1 0 0), (22, .sl false 10 slots), (23, nat n), (24, nat j)], [.var [num a, num b, .sl false 10 st], .var [.bs 2 0 k, nat v], .row 10 acc]⟩
/-- What a round of the check of a state comes to. -/
def ScRound (slots : List (List X)) (n j k v : Nat) (acc acc' : List (List X)) (a b : Int) (k' v' : Nat) : Prop :=
  (∃ r, (∃ (c : Int) (bx : List Bx), r = ⟨[(2, num c)], bx⟩) ∧ ∀ M, 190050 ≤ M → run (callF tab ext M) 0 M (loopAt 27 0) (scSt slots slots n j k v acc a b) = some (.ret, r)) ∨
  (∃ υ, canon 0 υ = some (scSt slots slots n (j + 1) k' v' acc' a b) ∧ ∀ M, 190050 ≤ M → run (callF tab ext M) 0 M (loopAt 27 0) (scSt slots slots n j k v acc a b) = some (.norm, υ))
end Go.Proofs.YtjfheahakfoofaaGreatDoor
