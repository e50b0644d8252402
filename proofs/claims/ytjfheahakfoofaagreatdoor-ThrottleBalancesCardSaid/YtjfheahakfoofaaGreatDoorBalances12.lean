/- The check of a value comes to an end. -/
import Derived.Test.YtjfheahakfoofaaGreatDoorBalances11
namespace Go.Proofs.YtjfheahakfoofaaGreatDoor
open Go.Em

/-- The values of which a value consists directly. -/
def partsV : Val → List Val
  | .mk k _ _ _ l f => if k = 8 ∨ k = 10 then l else if k = 9 then f.map (·.2) else []
def paH (f acc : List (List X)) (n j : Nat) : St := ⟨[(3, .bs 0 0 j), (16, .sl false 7 f), (17, nat n), (18, nat j)], [.row 6 acc]⟩
def paH' (f acc : List (List X)) (n j : Nat) (x y : List X) : St := ⟨[(3, .bs 2 0 (j + 1)), (16, .sl false 7 f), (17, nat n), (18, nat (j + 1))], [.dead, .var x, .row 6 (acc ++ [y])]⟩
theorem pa_canon (f acc : List (List X)) (n j : Nat) : canon 0 (paH f acc n j) = some (paH f acc n j) := by kernel_rfl
theorem pa_canon' (f acc : List (List X)) (n j : Nat) (x y : List X) : canon 0 (paH' f acc n j x y) = some (paH f (acc ++ [y]) n (j + 1)) := by kernel_rfl
theorem parts_pure (N : Nat) (v : Val) (hv : v.ok) (hN : 60002 ≤ N) : Gam.pureD (callF tab ext N) 146 [.agg v.cells] = some (.sl false 6 (cellsL (partsV v))) := by
  obtain ⟨M, rfl⟩ : ∃ M, N = M + 1 := ⟨N - 1, by omega⟩
  obtain ⟨k, i, s, t, l, f⟩ := v
  unfold Val.ok at hv
  simp only [Val.size] at hv
  have hf := sizeF_length f
  have hn := cellsF_length f
  simp only [partsV]
  cases h1 : (k == 8) with
  | true =>
    have : k = 8 := by simpa using h1
    rw [if_pos (Or.inl this)]
    exact pure_of [(9, .b true)] [] (pf1 h1) (x := .sl false 6 (cellsL l)) (bx := []) (by kernel_rfl) rfl
  | false =>
    have n8 : k ≠ 8 := by simpa using h1
    cases h2 : (k == 10) with
    | true =>
      have : k = 10 := by simpa using h2
      rw [if_pos (Or.inr this)]
      exact pure_of [(9, .b false), (10, .b true)] [] (pf2 h1 h2) (x := .sl false 6 (cellsL l)) (bx := []) (by kernel_rfl) rfl
    | false =>
      have n10 : k ≠ 10 := by simpa using h2
      rw [if_neg (by rintro (h | h); exact n8 h; exact n10 h)]
      cases h3 : (k == 9) with
      | false =>
        have n9 : k ≠ 9 := by simpa using h3
        rw [if_neg n9]
        exact pure_of [(9, .b false), (10, .b false), (14, .b false)] [] (pf3 h1 h2 h3) (x := .sl true 6 []) (bx := []) (by kernel_rfl) rfl
      | true =>
        have : k = 9 := by simpa using h3
        rw [if_pos this]
        have hloop : run (callF tab ext M) 0 M (.loop (loopAt 146 0)) ⟨[(3, .bs 1 0 0), (16, .sl false 7 (cellsF f)), (17, nat (cellsF f).length), (18, nat 0)], [.var (Val.mk k i s t l f).cells, .row 6 []]⟩ = some (.exit 1, ⟨[(3, .bs 0 0 (cellsF f).length), (16, .sl false 7 (cellsF f)), (17, nat (cellsF f).length), (18, nat (cellsF f).length), (19, boolX false)], [.row 6 (cellsL (f.map (·.2)))]⟩) := by
          refine loop_for (σ := fun j => paH (cellsF f) ((cellsL (f.map (·.2))).take j) (cellsF f).length j) (k := (cellsF f).length) (by kernel_rfl) (fun j hj => ?_) ?_ (by simp) (by omega)
          · have hj' : j < f.length := by omega
            have hg := cellsF_get hj'
            have hg2 : (cellsL (f.map (·.2)))[j]? = some f[j].2.cells := by rw [cellsL_eq]; simp [hj']
            have ht := take_succ_get hg2
            have hlen : j = ((cellsL (f.map (·.2))).take j).length := by rw [List.length_take, cellsL_length, List.length_map]; omega
            generalize f[j] = p at hg ht
            obtain ⟨p0, p1, p2, p3, p4, p5, p6⟩ := p
            refine ⟨paH' (cellsF f) ((cellsL (f.map (·.2))).take j) (cellsF f).length j (strX p0 :: (Val.mk p1 p2 p3 p4 p5 p6).cells) (Val.mk p1 p2 p3 p4 p5 p6).cells, run_of [(19, .b true), (20, .e (strX p0 :: (Val.mk p1 p2 p3 p4 p5 p6).cells)), (26, .app), (27, .i (Int.ofNat (j + 1)))] []
              (pf4 (lt_nat (j := j) (k := (cellsF f).length) (by omega)) hg (app_ok (acc := (cellsL (f.map (·.2))).take j) j 0 88 hlen (by omega) (by omega)) (next_nat (j := j) (by omega))) (lo' := []) (by kernel_rfl), ?_⟩
            rw [pa_canon']
            rw [← ht]
          · have ht : (cellsL (f.map (·.2))).take (cellsF f).length = cellsL (f.map (·.2)) := List.take_of_length_le (by rw [cellsL_length, List.length_map]; omega)
            rw [ht]
            exact run_of [(19, .b false)] [] (pf1 (nlt_nat (Nat.lt_irrefl (cellsF f).length))) (lo' := []) (by kernel_rfl)
        have hd : (X.bs 0 0 (cellsF f).length).data [.row 6 (cellsL (f.map (·.2)))] false = some (.sl false 6 (cellsL (f.map (·.2)))) := by
          have hl : (cellsL (f.map (·.2))).length = (cellsF f).length := by rw [cellsL_length, List.length_map, hn]
          simp only [X.data, rowOf, List.getElem?_cons_zero, Nat.zero_add, hl, Nat.le_refl, if_true, Option.map_some, List.drop_zero]
          rw [List.take_of_length_le (by omega)]
        exact pure_of [(9, .b false), (10, .b false), (14, .b true)] [(.exit 1, ⟨[(3, .bs 0 0 (cellsF f).length), (16, .sl false 7 (cellsF f)), (17, nat (cellsF f).length), (18, nat (cellsF f).length), (19, boolX false)], [.row 6 (cellsL (f.map (·.2)))]⟩)]
          (pf4 h1 h2 h3 hloop) (bx := [.row 6 (cellsL (f.map (·.2)))]) (by kernel_rfl) hd

/-! ### A round of the check -/
def rfsOf : C → List (C × C)
  | .seq a b | .cond _ a b => rfsOf a ++ rfsOf b
  | .block _ b | .loop b => rfsOf b
  | .rf _ _ _ a b => (a, b) :: (rfsOf a ++ rfsOf b)
  | _ => []
noncomputable def rfAt (f : Nat) : C × C := match tab f with
  | some fd => (rfsOf fd.body).getD 0 (.skip, .skip)
  | none => (.skip, .skip)
noncomputable def recC (st : LoopState) (p : Option Ex) : Bx := .loop st p [(2, .ptr 1 0 0), (3, .ptr 2 0 0), (4, .ptr 3 0 0)] [11, 12] (rfAt 65).1 (rfAt 65).2
def rulesX : List X := [.v .nilFunc, .fn 120 [], .fn 122 [], .fn 123 [], .fn 125 [], .fn 128 [], .fn 129 [], .fn 130 [], .fn 131 [], .fn 132 [], .fn 134 []]
noncomputable def goC (n : Nat) : List Bx := [recC .ready none, .var [num 0], .var rulesX, .var [nat n]]
noncomputable def endC (c : Int) (n : Nat) : List Bx := [recC .done (some .ret), .var [num c], .var rulesX, .var [nat n]]
def Round (v : Val) (lev : Int) (n : Nat) : Prop :=
  (∃ c : Int, ∀ N, 60010 ≤ N → callF tab ext N .yl [.yl 0, num lev, .agg v.cells] (goC n) = some (boolX false, endC c (n + 1))) ∨
  (n ≤ 4096 ∧ ∀ N, 60010 ≤ N → callF tab ext N .yl [.yl 0, num lev, .agg v.cells] (goC n) = some (boolX true, goC (n + 1)))
theorem round_succ {v : Val} {lev : Int} {n : Nat} (h : (∃ c : Int, ∀ N, 60009 ≤ N → callF tab ext (N + 1) .yl [.yl 0, num lev, .agg v.cells] (goC n) = some (boolX false, endC c (n + 1))) ∨
  (n ≤ 4096 ∧ ∀ N, 60009 ≤ N → callF tab ext (N + 1) .yl [.yl 0, num lev, .agg v.cells] (goC n) = some (boolX true, goC (n + 1)))) : Round v lev n := by
  rcases h with ⟨c, h⟩ | ⟨hn, h⟩
  · refine .inl ⟨c, fun N hN => ?_⟩
    obtain ⟨M, rfl⟩ : ∃ M, N = M + 1 := ⟨N - 1, by omega⟩
    exact h M (by omega)
  · refine .inr ⟨hn, fun N hN => ?_⟩
    obtain ⟨M, rfl⟩ : ∃ M, N = M + 1 := ⟨N - 1, by omega⟩
    exact h M (by omega)
theorem null_at (v : Val) (N : Nat) (hN : 60009 ≤ N) : Gam.pureD (callF tab ext N) 28 [.agg v.cells] = some (boolX (nullV v)) := by
  obtain ⟨M, rfl⟩ : ∃ M, N = M + 1 := ⟨N - 1, by omega⟩
  exact null_val M v
theorem small_of {n : Nat} (h : decide (4096 < Int.ofNat (n + 1)) = false) : n ≤ 4096 := by
  have := of_decide_eq_false h
  simp only [Int.ofNat_eq_natCast] at this
  omega
theorem round1 (i s : Int) (t : ByteArray) (l : List Val) (f : List (ByteArray × Val)) (lev : Int) (n : Nat) (hn : n < 4294967296) : Round (Val.mk 1 i s t l f) lev n := by
  obtain ⟨b, hb⟩ := uses1 i s t l f
  obtain ⟨c, hc⟩ := rule120 (Val.mk 1 i s t l f)
  apply round_succ
  cases h1 : decide (4096 < Int.ofNat (n + 1)) with
  | true =>
    exact .inl ⟨9, fun N hN => yield_of [(14, .i (Int.ofNat (n + 1))), (17, .b true)] (pf2 (next_nat (j := n) hn) h1) (by kernel_rfl)⟩
  | false =>
    cases h2 : decide (8 < lev) with
    | true =>
      exact .inl ⟨23, fun N hN => yield_of [(14, .i (Int.ofNat (n + 1))), (17, .b false), (20, .b true)] (pf3 (next_nat (j := n) hn) h1 h2) (by kernel_rfl)⟩
    | false =>
      have hz := null_at (Val.mk 1 i s t l f)
      generalize nullV (Val.mk 1 i s t l f) = z at hz
      cases z with
      | true =>
        exact .inl ⟨19, fun N hN => yield_of [(14, .i (Int.ofNat (n + 1))), (17, .b false), (20, .b false), (23, .p (boolX true))] (pf4 (next_nat (j := n) hn) h1 h2 (hz N hN)) (by kernel_rfl)⟩
      | false =>
        cases b with
        | true =>
          cases h3 : (!(c == 0)) with
          | true =>
            exact .inl ⟨c, fun N hN => yield_of [(14, .i (Int.ofNat (n + 1))), (17, .b false), (20, .b false), (23, .p (boolX false)), (35, .p (boolX true)), (42, .p (num c)), (44, .b true)] (pf7 (next_nat (j := n) hn) h1 h2 (hz N hN) (hb N (by omega)) (hc N (by omega)) h3) (by kernel_rfl)⟩
          | false =>
            exact .inr ⟨small_of h1, fun N hN => yield_of [(14, .i (Int.ofNat (n + 1))), (17, .b false), (20, .b false), (23, .p (boolX false)), (35, .p (boolX true)), (42, .p (num c)), (44, .b false)] (pf7 (next_nat (j := n) hn) h1 h2 (hz N hN) (hb N (by omega)) (hc N (by omega)) h3) (by kernel_rfl)⟩
        | false =>
          exact .inl ⟨3, fun N hN => yield_of [(14, .i (Int.ofNat (n + 1))), (17, .b false), (20, .b false), (23, .p (boolX false)), (35, .p (boolX false))] (pf5 (next_nat (j := n) hn) h1 h2 (hz N hN) (hb N (by omega))) (by kernel_rfl)⟩
theorem round2 (i s : Int) (t : ByteArray) (l : List Val) (f : List (ByteArray × Val)) (lev : Int) (n : Nat) (hn : n < 4294967296) : Round (Val.mk 2 i s t l f) lev n := by
  obtain ⟨b, hb⟩ := uses2 i s t l f
  obtain ⟨c, hc⟩ := rule122 (Val.mk 2 i s t l f)
  apply round_succ
  cases h1 : decide (4096 < Int.ofNat (n + 1)) with
  | true =>
    exact .inl ⟨9, fun N hN => yield_of [(14, .i (Int.ofNat (n + 1))), (17, .b true)] (pf2 (next_nat (j := n) hn) h1) (by kernel_rfl)⟩
  | false =>
    cases h2 : decide (8 < lev) with
    | true =>
      exact .inl ⟨23, fun N hN => yield_of [(14, .i (Int.ofNat (n + 1))), (17, .b false), (20, .b true)] (pf3 (next_nat (j := n) hn) h1 h2) (by kernel_rfl)⟩
    | false =>
      have hz := null_at (Val.mk 2 i s t l f)
      generalize nullV (Val.mk 2 i s t l f) = z at hz
      cases z with
      | true =>
        exact .inl ⟨19, fun N hN => yield_of [(14, .i (Int.ofNat (n + 1))), (17, .b false), (20, .b false), (23, .p (boolX true))] (pf4 (next_nat (j := n) hn) h1 h2 (hz N hN)) (by kernel_rfl)⟩
      | false =>
        cases b with
        | true =>
          cases h3 : (!(c == 0)) with
          | true =>
            exact .inl ⟨c, fun N hN => yield_of [(14, .i (Int.ofNat (n + 1))), (17, .b false), (20, .b false), (23, .p (boolX false)), (35, .p (boolX true)), (42, .p (num c)), (44, .b true)] (pf7 (next_nat (j := n) hn) h1 h2 (hz N hN) (hb N (by omega)) (hc N (by omega)) h3) (by kernel_rfl)⟩
          | false =>
            exact .inr ⟨small_of h1, fun N hN => yield_of [(14, .i (Int.ofNat (n + 1))), (17, .b false), (20, .b false), (23, .p (boolX false)), (35, .p (boolX true)), (42, .p (num c)), (44, .b false)] (pf7 (next_nat (j := n) hn) h1 h2 (hz N hN) (hb N (by omega)) (hc N (by omega)) h3) (by kernel_rfl)⟩
        | false =>
          exact .inl ⟨3, fun N hN => yield_of [(14, .i (Int.ofNat (n + 1))), (17, .b false), (20, .b false), (23, .p (boolX false)), (35, .p (boolX false))] (pf5 (next_nat (j := n) hn) h1 h2 (hz N hN) (hb N (by omega))) (by kernel_rfl)⟩
theorem round3 (i s : Int) (t : ByteArray) (l : List Val) (f : List (ByteArray × Val)) (lev : Int) (n : Nat) (hn : n < 4294967296) : Round (Val.mk 3 i s t l f) lev n := by
  obtain ⟨b, hb⟩ := uses3 i s t l f
  obtain ⟨c, hc⟩ := rule123 (Val.mk 3 i s t l f)
  apply round_succ
  cases h1 : decide (4096 < Int.ofNat (n + 1)) with
  | true =>
    exact .inl ⟨9, fun N hN => yield_of [(14, .i (Int.ofNat (n + 1))), (17, .b true)] (pf2 (next_nat (j := n) hn) h1) (by kernel_rfl)⟩
  | false =>
    cases h2 : decide (8 < lev) with
    | true =>
      exact .inl ⟨23, fun N hN => yield_of [(14, .i (Int.ofNat (n + 1))), (17, .b false), (20, .b true)] (pf3 (next_nat (j := n) hn) h1 h2) (by kernel_rfl)⟩
    | false =>
      have hz := null_at (Val.mk 3 i s t l f)
      generalize nullV (Val.mk 3 i s t l f) = z at hz
      cases z with
      | true =>
        exact .inl ⟨19, fun N hN => yield_of [(14, .i (Int.ofNat (n + 1))), (17, .b false), (20, .b false), (23, .p (boolX true))] (pf4 (next_nat (j := n) hn) h1 h2 (hz N hN)) (by kernel_rfl)⟩
      | false =>
        cases b with
        | true =>
          cases h3 : (!(c == 0)) with
          | true =>
            exact .inl ⟨c, fun N hN => yield_of [(14, .i (Int.ofNat (n + 1))), (17, .b false), (20, .b false), (23, .p (boolX false)), (35, .p (boolX true)), (42, .p (num c)), (44, .b true)] (pf7 (next_nat (j := n) hn) h1 h2 (hz N hN) (hb N (by omega)) (hc N (by omega)) h3) (by kernel_rfl)⟩
          | false =>
            exact .inr ⟨small_of h1, fun N hN => yield_of [(14, .i (Int.ofNat (n + 1))), (17, .b false), (20, .b false), (23, .p (boolX false)), (35, .p (boolX true)), (42, .p (num c)), (44, .b false)] (pf7 (next_nat (j := n) hn) h1 h2 (hz N hN) (hb N (by omega)) (hc N (by omega)) h3) (by kernel_rfl)⟩
        | false =>
          exact .inl ⟨3, fun N hN => yield_of [(14, .i (Int.ofNat (n + 1))), (17, .b false), (20, .b false), (23, .p (boolX false)), (35, .p (boolX false))] (pf5 (next_nat (j := n) hn) h1 h2 (hz N hN) (hb N (by omega))) (by kernel_rfl)⟩
theorem round4 (i s : Int) (t : ByteArray) (l : List Val) (f : List (ByteArray × Val)) (lev : Int) (n : Nat) (hn : n < 4294967296) : Round (Val.mk 4 i s t l f) lev n := by
  obtain ⟨b, hb⟩ := uses4 i s t l f
  obtain ⟨c, hc⟩ := rule125 (Val.mk 4 i s t l f)
  apply round_succ
  cases h1 : decide (4096 < Int.ofNat (n + 1)) with
  | true =>
    exact .inl ⟨9, fun N hN => yield_of [(14, .i (Int.ofNat (n + 1))), (17, .b true)] (pf2 (next_nat (j := n) hn) h1) (by kernel_rfl)⟩
  | false =>
    cases h2 : decide (8 < lev) with
    | true =>
      exact .inl ⟨23, fun N hN => yield_of [(14, .i (Int.ofNat (n + 1))), (17, .b false), (20, .b true)] (pf3 (next_nat (j := n) hn) h1 h2) (by kernel_rfl)⟩
    | false =>
      have hz := null_at (Val.mk 4 i s t l f)
      generalize nullV (Val.mk 4 i s t l f) = z at hz
      cases z with
      | true =>
        exact .inl ⟨19, fun N hN => yield_of [(14, .i (Int.ofNat (n + 1))), (17, .b false), (20, .b false), (23, .p (boolX true))] (pf4 (next_nat (j := n) hn) h1 h2 (hz N hN)) (by kernel_rfl)⟩
      | false =>
        cases b with
        | true =>
          cases h3 : (!(c == 0)) with
          | true =>
            exact .inl ⟨c, fun N hN => yield_of [(14, .i (Int.ofNat (n + 1))), (17, .b false), (20, .b false), (23, .p (boolX false)), (35, .p (boolX true)), (42, .p (num c)), (44, .b true)] (pf7 (next_nat (j := n) hn) h1 h2 (hz N hN) (hb N (by omega)) (hc N (by omega)) h3) (by kernel_rfl)⟩
          | false =>
            exact .inr ⟨small_of h1, fun N hN => yield_of [(14, .i (Int.ofNat (n + 1))), (17, .b false), (20, .b false), (23, .p (boolX false)), (35, .p (boolX true)), (42, .p (num c)), (44, .b false)] (pf7 (next_nat (j := n) hn) h1 h2 (hz N hN) (hb N (by omega)) (hc N (by omega)) h3) (by kernel_rfl)⟩
        | false =>
          exact .inl ⟨3, fun N hN => yield_of [(14, .i (Int.ofNat (n + 1))), (17, .b false), (20, .b false), (23, .p (boolX false)), (35, .p (boolX false))] (pf5 (next_nat (j := n) hn) h1 h2 (hz N hN) (hb N (by omega))) (by kernel_rfl)⟩
theorem round5 (i s : Int) (t : ByteArray) (l : List Val) (f : List (ByteArray × Val)) (lev : Int) (n : Nat) (hn : n < 4294967296) : Round (Val.mk 5 i s t l f) lev n := by
  obtain ⟨b, hb⟩ := uses5 i s t l f
  obtain ⟨c, hc⟩ := rule128 (Val.mk 5 i s t l f)
  apply round_succ
  cases h1 : decide (4096 < Int.ofNat (n + 1)) with
  | true =>
    exact .inl ⟨9, fun N hN => yield_of [(14, .i (Int.ofNat (n + 1))), (17, .b true)] (pf2 (next_nat (j := n) hn) h1) (by kernel_rfl)⟩
  | false =>
    cases h2 : decide (8 < lev) with
    | true =>
      exact .inl ⟨23, fun N hN => yield_of [(14, .i (Int.ofNat (n + 1))), (17, .b false), (20, .b true)] (pf3 (next_nat (j := n) hn) h1 h2) (by kernel_rfl)⟩
    | false =>
      have hz := null_at (Val.mk 5 i s t l f)
      generalize nullV (Val.mk 5 i s t l f) = z at hz
      cases z with
      | true =>
        exact .inl ⟨19, fun N hN => yield_of [(14, .i (Int.ofNat (n + 1))), (17, .b false), (20, .b false), (23, .p (boolX true))] (pf4 (next_nat (j := n) hn) h1 h2 (hz N hN)) (by kernel_rfl)⟩
      | false =>
        cases b with
        | true =>
          cases h3 : (!(c == 0)) with
          | true =>
            exact .inl ⟨c, fun N hN => yield_of [(14, .i (Int.ofNat (n + 1))), (17, .b false), (20, .b false), (23, .p (boolX false)), (35, .p (boolX true)), (42, .p (num c)), (44, .b true)] (pf7 (next_nat (j := n) hn) h1 h2 (hz N hN) (hb N (by omega)) (hc N (by omega)) h3) (by kernel_rfl)⟩
          | false =>
            exact .inr ⟨small_of h1, fun N hN => yield_of [(14, .i (Int.ofNat (n + 1))), (17, .b false), (20, .b false), (23, .p (boolX false)), (35, .p (boolX true)), (42, .p (num c)), (44, .b false)] (pf7 (next_nat (j := n) hn) h1 h2 (hz N hN) (hb N (by omega)) (hc N (by omega)) h3) (by kernel_rfl)⟩
        | false =>
          exact .inl ⟨3, fun N hN => yield_of [(14, .i (Int.ofNat (n + 1))), (17, .b false), (20, .b false), (23, .p (boolX false)), (35, .p (boolX false))] (pf5 (next_nat (j := n) hn) h1 h2 (hz N hN) (hb N (by omega))) (by kernel_rfl)⟩
theorem round6 (i s : Int) (t : ByteArray) (l : List Val) (f : List (ByteArray × Val)) (lev : Int) (n : Nat) (hn : n < 4294967296) : Round (Val.mk 6 i s t l f) lev n := by
  obtain ⟨b, hb⟩ := uses6 i s t l f
  obtain ⟨c, hc⟩ := rule129 (Val.mk 6 i s t l f)
  apply round_succ
  cases h1 : decide (4096 < Int.ofNat (n + 1)) with
  | true =>
    exact .inl ⟨9, fun N hN => yield_of [(14, .i (Int.ofNat (n + 1))), (17, .b true)] (pf2 (next_nat (j := n) hn) h1) (by kernel_rfl)⟩
  | false =>
    cases h2 : decide (8 < lev) with
    | true =>
      exact .inl ⟨23, fun N hN => yield_of [(14, .i (Int.ofNat (n + 1))), (17, .b false), (20, .b true)] (pf3 (next_nat (j := n) hn) h1 h2) (by kernel_rfl)⟩
    | false =>
      have hz := null_at (Val.mk 6 i s t l f)
      generalize nullV (Val.mk 6 i s t l f) = z at hz
      cases z with
      | true =>
        exact .inl ⟨19, fun N hN => yield_of [(14, .i (Int.ofNat (n + 1))), (17, .b false), (20, .b false), (23, .p (boolX true))] (pf4 (next_nat (j := n) hn) h1 h2 (hz N hN)) (by kernel_rfl)⟩
      | false =>
        cases b with
        | true =>
          cases h3 : (!(c == 0)) with
          | true =>
            exact .inl ⟨c, fun N hN => yield_of [(14, .i (Int.ofNat (n + 1))), (17, .b false), (20, .b false), (23, .p (boolX false)), (35, .p (boolX true)), (42, .p (num c)), (44, .b true)] (pf7 (next_nat (j := n) hn) h1 h2 (hz N hN) (hb N (by omega)) (hc N (by omega)) h3) (by kernel_rfl)⟩
          | false =>
            exact .inr ⟨small_of h1, fun N hN => yield_of [(14, .i (Int.ofNat (n + 1))), (17, .b false), (20, .b false), (23, .p (boolX false)), (35, .p (boolX true)), (42, .p (num c)), (44, .b false)] (pf7 (next_nat (j := n) hn) h1 h2 (hz N hN) (hb N (by omega)) (hc N (by omega)) h3) (by kernel_rfl)⟩
        | false =>
          exact .inl ⟨3, fun N hN => yield_of [(14, .i (Int.ofNat (n + 1))), (17, .b false), (20, .b false), (23, .p (boolX false)), (35, .p (boolX false))] (pf5 (next_nat (j := n) hn) h1 h2 (hz N hN) (hb N (by omega))) (by kernel_rfl)⟩
theorem round7 (i s : Int) (t : ByteArray) (l : List Val) (f : List (ByteArray × Val)) (lev : Int) (n : Nat) (hn : n < 4294967296) : Round (Val.mk 7 i s t l f) lev n := by
  obtain ⟨b, hb⟩ := uses7 i s t l f
  obtain ⟨c, hc⟩ := rule130 (Val.mk 7 i s t l f)
  apply round_succ
  cases h1 : decide (4096 < Int.ofNat (n + 1)) with
  | true =>
    exact .inl ⟨9, fun N hN => yield_of [(14, .i (Int.ofNat (n + 1))), (17, .b true)] (pf2 (next_nat (j := n) hn) h1) (by kernel_rfl)⟩
  | false =>
    cases h2 : decide (8 < lev) with
    | true =>
      exact .inl ⟨23, fun N hN => yield_of [(14, .i (Int.ofNat (n + 1))), (17, .b false), (20, .b true)] (pf3 (next_nat (j := n) hn) h1 h2) (by kernel_rfl)⟩
    | false =>
      have hz := null_at (Val.mk 7 i s t l f)
      generalize nullV (Val.mk 7 i s t l f) = z at hz
      cases z with
      | true =>
        exact .inl ⟨19, fun N hN => yield_of [(14, .i (Int.ofNat (n + 1))), (17, .b false), (20, .b false), (23, .p (boolX true))] (pf4 (next_nat (j := n) hn) h1 h2 (hz N hN)) (by kernel_rfl)⟩
      | false =>
        cases b with
        | true =>
          cases h3 : (!(c == 0)) with
          | true =>
            exact .inl ⟨c, fun N hN => yield_of [(14, .i (Int.ofNat (n + 1))), (17, .b false), (20, .b false), (23, .p (boolX false)), (35, .p (boolX true)), (42, .p (num c)), (44, .b true)] (pf7 (next_nat (j := n) hn) h1 h2 (hz N hN) (hb N (by omega)) (hc N (by omega)) h3) (by kernel_rfl)⟩
          | false =>
            exact .inr ⟨small_of h1, fun N hN => yield_of [(14, .i (Int.ofNat (n + 1))), (17, .b false), (20, .b false), (23, .p (boolX false)), (35, .p (boolX true)), (42, .p (num c)), (44, .b false)] (pf7 (next_nat (j := n) hn) h1 h2 (hz N hN) (hb N (by omega)) (hc N (by omega)) h3) (by kernel_rfl)⟩
        | false =>
          exact .inl ⟨3, fun N hN => yield_of [(14, .i (Int.ofNat (n + 1))), (17, .b false), (20, .b false), (23, .p (boolX false)), (35, .p (boolX false))] (pf5 (next_nat (j := n) hn) h1 h2 (hz N hN) (hb N (by omega))) (by kernel_rfl)⟩
theorem round8 (i s : Int) (t : ByteArray) (l : List Val) (f : List (ByteArray × Val)) (lev : Int) (n : Nat) (hn : n < 4294967296) : Round (Val.mk 8 i s t l f) lev n := by
  obtain ⟨b, hb⟩ := uses8 i s t l f
  obtain ⟨c, hc⟩ := rule131 (Val.mk 8 i s t l f)
  apply round_succ
  cases h1 : decide (4096 < Int.ofNat (n + 1)) with
  | true =>
    exact .inl ⟨9, fun N hN => yield_of [(14, .i (Int.ofNat (n + 1))), (17, .b true)] (pf2 (next_nat (j := n) hn) h1) (by kernel_rfl)⟩
  | false =>
    cases h2 : decide (8 < lev) with
    | true =>
      exact .inl ⟨23, fun N hN => yield_of [(14, .i (Int.ofNat (n + 1))), (17, .b false), (20, .b true)] (pf3 (next_nat (j := n) hn) h1 h2) (by kernel_rfl)⟩
    | false =>
      have hz := null_at (Val.mk 8 i s t l f)
      generalize nullV (Val.mk 8 i s t l f) = z at hz
      cases z with
      | true =>
        exact .inl ⟨19, fun N hN => yield_of [(14, .i (Int.ofNat (n + 1))), (17, .b false), (20, .b false), (23, .p (boolX true))] (pf4 (next_nat (j := n) hn) h1 h2 (hz N hN)) (by kernel_rfl)⟩
      | false =>
        cases b with
        | true =>
          cases h3 : (!(c == 0)) with
          | true =>
            exact .inl ⟨c, fun N hN => yield_of [(14, .i (Int.ofNat (n + 1))), (17, .b false), (20, .b false), (23, .p (boolX false)), (35, .p (boolX true)), (42, .p (num c)), (44, .b true)] (pf7 (next_nat (j := n) hn) h1 h2 (hz N hN) (hb N (by omega)) (hc N (by omega)) h3) (by kernel_rfl)⟩
          | false =>
            exact .inr ⟨small_of h1, fun N hN => yield_of [(14, .i (Int.ofNat (n + 1))), (17, .b false), (20, .b false), (23, .p (boolX false)), (35, .p (boolX true)), (42, .p (num c)), (44, .b false)] (pf7 (next_nat (j := n) hn) h1 h2 (hz N hN) (hb N (by omega)) (hc N (by omega)) h3) (by kernel_rfl)⟩
        | false =>
          exact .inl ⟨3, fun N hN => yield_of [(14, .i (Int.ofNat (n + 1))), (17, .b false), (20, .b false), (23, .p (boolX false)), (35, .p (boolX false))] (pf5 (next_nat (j := n) hn) h1 h2 (hz N hN) (hb N (by omega))) (by kernel_rfl)⟩
theorem round9 (i s : Int) (t : ByteArray) (l : List Val) (f : List (ByteArray × Val)) (lev : Int) (n : Nat) (hn : n < 4294967296) (hv : (Val.mk 9 i s t l f).ok) : Round (Val.mk 9 i s t l f) lev n := by
  obtain ⟨b, hb⟩ := uses9 i s t l f
  obtain ⟨c, hc⟩ := rule132 (Val.mk 9 i s t l f) hv
  apply round_succ
  cases h1 : decide (4096 < Int.ofNat (n + 1)) with
  | true =>
    exact .inl ⟨9, fun N hN => yield_of [(14, .i (Int.ofNat (n + 1))), (17, .b true)] (pf2 (next_nat (j := n) hn) h1) (by kernel_rfl)⟩
  | false =>
    cases h2 : decide (8 < lev) with
    | true =>
      exact .inl ⟨23, fun N hN => yield_of [(14, .i (Int.ofNat (n + 1))), (17, .b false), (20, .b true)] (pf3 (next_nat (j := n) hn) h1 h2) (by kernel_rfl)⟩
    | false =>
      have hz := null_at (Val.mk 9 i s t l f)
      generalize nullV (Val.mk 9 i s t l f) = z at hz
      cases z with
      | true =>
        exact .inl ⟨19, fun N hN => yield_of [(14, .i (Int.ofNat (n + 1))), (17, .b false), (20, .b false), (23, .p (boolX true))] (pf4 (next_nat (j := n) hn) h1 h2 (hz N hN)) (by kernel_rfl)⟩
      | false =>
        cases b with
        | true =>
          cases h3 : (!(c == 0)) with
          | true =>
            exact .inl ⟨c, fun N hN => yield_of [(14, .i (Int.ofNat (n + 1))), (17, .b false), (20, .b false), (23, .p (boolX false)), (35, .p (boolX true)), (42, .p (num c)), (44, .b true)] (pf7 (next_nat (j := n) hn) h1 h2 (hz N hN) (hb N (by omega)) (hc N (by omega)) h3) (by kernel_rfl)⟩
          | false =>
            exact .inr ⟨small_of h1, fun N hN => yield_of [(14, .i (Int.ofNat (n + 1))), (17, .b false), (20, .b false), (23, .p (boolX false)), (35, .p (boolX true)), (42, .p (num c)), (44, .b false)] (pf7 (next_nat (j := n) hn) h1 h2 (hz N hN) (hb N (by omega)) (hc N (by omega)) h3) (by kernel_rfl)⟩
        | false =>
          exact .inl ⟨3, fun N hN => yield_of [(14, .i (Int.ofNat (n + 1))), (17, .b false), (20, .b false), (23, .p (boolX false)), (35, .p (boolX false))] (pf5 (next_nat (j := n) hn) h1 h2 (hz N hN) (hb N (by omega))) (by kernel_rfl)⟩
theorem round10 (i s : Int) (t : ByteArray) (l : List Val) (f : List (ByteArray × Val)) (lev : Int) (n : Nat) (hn : n < 4294967296) : Round (Val.mk 10 i s t l f) lev n := by
  obtain ⟨b, hb⟩ := uses10 i s t l f
  obtain ⟨c, hc⟩ := rule134 (Val.mk 10 i s t l f)
  apply round_succ
  cases h1 : decide (4096 < Int.ofNat (n + 1)) with
  | true =>
    exact .inl ⟨9, fun N hN => yield_of [(14, .i (Int.ofNat (n + 1))), (17, .b true)] (pf2 (next_nat (j := n) hn) h1) (by kernel_rfl)⟩
  | false =>
    cases h2 : decide (8 < lev) with
    | true =>
      exact .inl ⟨23, fun N hN => yield_of [(14, .i (Int.ofNat (n + 1))), (17, .b false), (20, .b true)] (pf3 (next_nat (j := n) hn) h1 h2) (by kernel_rfl)⟩
    | false =>
      have hz := null_at (Val.mk 10 i s t l f)
      generalize nullV (Val.mk 10 i s t l f) = z at hz
      cases z with
      | true =>
        exact .inl ⟨19, fun N hN => yield_of [(14, .i (Int.ofNat (n + 1))), (17, .b false), (20, .b false), (23, .p (boolX true))] (pf4 (next_nat (j := n) hn) h1 h2 (hz N hN)) (by kernel_rfl)⟩
      | false =>
        cases b with
        | true =>
          cases h3 : (!(c == 0)) with
          | true =>
            exact .inl ⟨c, fun N hN => yield_of [(14, .i (Int.ofNat (n + 1))), (17, .b false), (20, .b false), (23, .p (boolX false)), (35, .p (boolX true)), (42, .p (num c)), (44, .b true)] (pf7 (next_nat (j := n) hn) h1 h2 (hz N hN) (hb N (by omega)) (hc N (by omega)) h3) (by kernel_rfl)⟩
          | false =>
            exact .inr ⟨small_of h1, fun N hN => yield_of [(14, .i (Int.ofNat (n + 1))), (17, .b false), (20, .b false), (23, .p (boolX false)), (35, .p (boolX true)), (42, .p (num c)), (44, .b false)] (pf7 (next_nat (j := n) hn) h1 h2 (hz N hN) (hb N (by omega)) (hc N (by omega)) h3) (by kernel_rfl)⟩
        | false =>
          exact .inl ⟨3, fun N hN => yield_of [(14, .i (Int.ofNat (n + 1))), (17, .b false), (20, .b false), (23, .p (boolX false)), (35, .p (boolX false))] (pf5 (next_nat (j := n) hn) h1 h2 (hz N hN) (hb N (by omega))) (by kernel_rfl)⟩
theorem round_comes (v : Val) (hv : v.ok) (lev : Int) (n : Nat) (hn : n < 4294967296) : Round v lev n := by
  obtain ⟨k, i, s, t, l, f⟩ := v
  by_cases h : 1 ≤ k ∧ k ≤ 10
  · have : k = 1 ∨ k = 2 ∨ k = 3 ∨ k = 4 ∨ k = 5 ∨ k = 6 ∨ k = 7 ∨ k = 8 ∨ k = 9 ∨ k = 10 := by omega
    rcases this with rfl | rfl | rfl | rfl | rfl | rfl | rfl | rfl | rfl | rfl
    · exact round1 i s t l f lev n hn
    · exact round2 i s t l f lev n hn
    · exact round3 i s t l f lev n hn
    · exact round4 i s t l f lev n hn
    · exact round5 i s t l f lev n hn
    · exact round6 i s t l f lev n hn
    · exact round7 i s t l f lev n hn
    · exact round8 i s t l f lev n hn
    · exact round9 i s t l f lev n hn hv
    · exact round10 i s t l f lev n hn
  · apply round_succ
    cases h1 : decide (4096 < Int.ofNat (n + 1)) with
    | true =>
      exact .inl ⟨9, fun N hN => yield_of [(14, .i (Int.ofNat (n + 1))), (17, .b true)] (pf2 (next_nat (j := n) hn) h1) (by kernel_rfl)⟩
    | false =>
      cases h2 : decide (8 < lev) with
      | true =>
        exact .inl ⟨23, fun N hN => yield_of [(14, .i (Int.ofNat (n + 1))), (17, .b false), (20, .b true)] (pf3 (next_nat (j := n) hn) h1 h2) (by kernel_rfl)⟩
      | false =>
        have hz := null_at (Val.mk k i s t l f)
        generalize nullV (Val.mk k i s t l f) = z at hz
        cases z with
        | true =>
          exact .inl ⟨19, fun N hN => yield_of [(14, .i (Int.ofNat (n + 1))), (17, .b false), (20, .b false), (23, .p (boolX true))] (pf4 (next_nat (j := n) hn) h1 h2 (hz N hN)) (by kernel_rfl)⟩
        | false =>
          cases h3 : decide (k < 1) with
          | true =>
            exact .inl ⟨11, fun N hN => yield_of [(14, .i (Int.ofNat (n + 1))), (17, .b false), (20, .b false), (23, .p (boolX false)), (27, .b true)] (pf5 (next_nat (j := n) hn) h1 h2 (hz N hN) h3) (by kernel_rfl)⟩
          | false =>
            cases h4 : decide (10 < k) with
            | true =>
              exact .inl ⟨11, fun N hN => yield_of [(14, .i (Int.ofNat (n + 1))), (17, .b false), (20, .b false), (23, .p (boolX false)), (27, .b false), (31, .b true)] (pf6 (next_nat (j := n) hn) h1 h2 (hz N hN) h3 h4) (by kernel_rfl)⟩
            | false =>
              have e1 := of_decide_eq_false h3
              have e2 := of_decide_eq_false h4
              exact absurd ⟨by omega, by omega⟩ h
end Go.Proofs.YtjfheahakfoofaaGreatDoor

/- The visits of a value come to an end; so does its check. -/
namespace Go.Proofs.YtjfheahakfoofaaGreatDoor
open Go.Em

def Visit (v : Val) (lev n : Nat) : Prop :=
  (∃ (c : Int) (m : Nat), ∀ N, 60020 + v.size ≤ N → callF tab ext N (.fn 136) [.agg v.cells, nat lev, .yl 0] (goC n) = some (boolX false, endC c m)) ∨
  (∃ m : Nat, m ≤ 4097 ∧ ∀ N, 60020 + v.size ≤ N → callF tab ext N (.fn 136) [.agg v.cells, nat lev, .yl 0] (goC n) = some (boolX true, goC m))

section
variable (ps : List (List X)) (lev len j n m : Nat) (c : Int) (u : List X)
noncomputable def viH : St := ⟨[(1, nat lev), (2, .yl 0), (15, .sl false 6 ps), (16, nat len), (17, nat j)], goC n⟩
noncomputable def viH' : St := ⟨[(1, nat lev), (2, .yl 0), (15, .sl false 6 ps), (16, nat len), (17, nat j)], goC n ++ [.var u]⟩
noncomputable def viE : St := ⟨[(1, nat lev), (2, .yl 0), (15, .sl false 6 ps), (16, nat len), (17, nat j), (18, boolX false)], goC n⟩
theorem vi_canon : canon 4 (viH ps lev len j n) = some (viH ps lev len j n) := by kernel_rfl
theorem vi_canon' : canon 4 (viH' ps lev len j n u) = some (viH ps lev len j n) := by kernel_rfl
end

theorem visit_loop {B : Nat} (ps : List Val) (lev : Nat) (hlev : lev ≤ 100000) (hl : ps.length ≤ 60000) (hv : ∀ u, u ∈ ps → 60020 + u.size ≤ B ∧ ∀ n, n ≤ 4097 → Visit u (lev + 1) n) : ∀ d j n, j + d = ps.length → n ≤ 4097 →
    (∃ (c : Int) (m : Nat) (u : List X), ∀ M F, B ≤ M → d < F → iter 4 (run (callF tab ext M) 4 M (loopAt 136 0)) F (viH (cellsL ps) lev (cellsL ps).length j n) = some (.ret, ⟨[(6, boolX false)], endC c m ++ [.var u]⟩)) ∨
    (∃ m : Nat, m ≤ 4097 ∧ ∀ M F, B ≤ M → d < F → iter 4 (run (callF tab ext M) 4 M (loopAt 136 0)) F (viH (cellsL ps) lev (cellsL ps).length j n) = some (.exit 0, viE (cellsL ps) lev (cellsL ps).length (cellsL ps).length m))
  | 0, j, n, hj, hn => by
    have hc := cellsL_length ps
    have hj' : j = (cellsL ps).length := by omega
    subst hj'
    right
    refine ⟨n, hn, fun M F _ hF => ?_⟩
    obtain ⟨F', rfl⟩ : ∃ F', F = F' + 1 := ⟨F - 1, by omega⟩
    exact iter_end (vi_canon ..) (run_of [(18, .b false)] [] (pf1 (nlt_nat (Nat.lt_irrefl (cellsL ps).length))) (lo' := []) (by kernel_rfl)) (by simp)
  | d + 1, j, n, hj, hn => by
    have hc := cellsL_length ps
    have hj' : j < ps.length := by omega
    have hg := cellsL_get hj'
    obtain ⟨hB, hu⟩ := hv _ (List.getElem_mem hj')
    have hu := hu n hn
    generalize ps[j] = u at hg hB hu
    obtain ⟨u1, u2, u3, u4, u5, u6⟩ := u
    have hlt := lt_nat (j := j) (k := (cellsL ps).length) (by omega)
    have hnx := next_nat (j := lev) (by omega)
    rcases hu with ⟨c, m, h⟩ | ⟨m, hm, h⟩
    · left
      refine ⟨c, m, (Val.mk u1 u2 u3 u4 u5 u6).cells, fun M F hM hF => ?_⟩
      obtain ⟨F', rfl⟩ : ∃ F', F = F' + 1 := ⟨F - 1, by omega⟩
      exact iter_end (vi_canon ..) (run_of [(18, .b true), (19, .e (Val.mk u1 u2 u3 u4 u5 u6).cells), (23, .i (Int.ofNat (lev + 1))), (25, .r (boolX false) (endC c m))] [] (pf4 hlt hg hnx (h M (by omega))) (lo' := []) (by kernel_rfl)) (by simp)
    · have hs : ∀ M, B ≤ M → run (callF tab ext M) 4 M (loopAt 136 0) (viH (cellsL ps) lev (cellsL ps).length j n) = some (.norm, viH' (cellsL ps) lev (cellsL ps).length (j + 1) m (Val.mk u1 u2 u3 u4 u5 u6).cells) := fun M hM =>
        run_of [(18, .b true), (19, .e (Val.mk u1 u2 u3 u4 u5 u6).cells), (23, .i (Int.ofNat (lev + 1))), (25, .r (boolX true) (goC m)), (27, .i (Int.ofNat (j + 1)))] [] (pf5 hlt hg hnx (h M (by omega)) (next_nat (j := j) (by omega))) (lo' := []) (by kernel_rfl)
      rcases visit_loop ps lev hlev hl hv d (j + 1) m (by omega) hm with ⟨c, m', x, h'⟩ | ⟨m', hm', h'⟩
      · left
        refine ⟨c, m', x, fun M F hM hF => ?_⟩
        obtain ⟨F', rfl⟩ : ∃ F', F = F' + 1 := ⟨F - 1, by omega⟩
        rw [(iter_step (vi_canon ..) (hs M hM) rfl).trans (iter_canon (vi_canon' ..) (vi_canon ..))]
        exact h' M F' hM (by omega)
      · right
        refine ⟨m', hm', fun M F hM hF => ?_⟩
        obtain ⟨F', rfl⟩ : ∃ F', F = F' + 1 := ⟨F - 1, by omega⟩
        rw [(iter_step (vi_canon ..) (hs M hM) rfl).trans (iter_canon (vi_canon' ..) (vi_canon ..))]
        exact h' M F' hM (by omega)

theorem partsV_size (v : Val) : ∀ u, u ∈ partsV v → u.size < v.size := by
  obtain ⟨k, i, s, t, l, f⟩ := v
  intro u hu
  simp only [partsV] at hu
  simp only [Val.size]
  split at hu
  · have := sizeL_mem hu; omega
  · split at hu
    · obtain ⟨p, hp, rfl⟩ := List.mem_map.1 hu
      have := sizeF_mem hp; omega
    · cases hu
theorem partsV_length (v : Val) : (partsV v).length < v.size := by
  obtain ⟨k, i, s, t, l, f⟩ := v
  simp only [partsV, Val.size]
  have := sizeL_length l
  have := sizeF_length f
  split
  · omega
  · split
    · rw [List.length_map]; omega
    · simp

theorem visit_comes : ∀ (sz : Nat) (v : Val), v.size ≤ sz → v.ok → ∀ (lev n : Nat), lev + v.size ≤ 100000 → n ≤ 4097 → Visit v lev n
  | 0, .mk .., h, _, _, _, _, _ => by simp [Val.size] at h
  | sz + 1, v, h, hv, lev, n, hlev, hn => by
    have hr := round_comes v hv (Int.ofNat lev) n (by omega)
    have hp : ∀ M, 60019 + v.size ≤ M → Gam.pureD (callF tab ext M) 146 [.agg v.cells] = some (.sl false 6 (cellsL (partsV v))) := fun M hM => parts_pure M v hv (by omega)
    have hlen := partsV_length v
    unfold Val.ok at hv
    have hloop : ∀ n, n ≤ 4097 → _ := fun n hn => visit_loop (B := 60019 + v.size) (partsV v) lev (by omega) (by omega) (fun u hu => by
      have := partsV_size v u hu
      exact ⟨by omega, fun n hn => visit_comes sz u (by omega) (by unfold Val.ok; omega) (lev + 1) n (by omega) hn⟩) (partsV v).length 0 n (by omega) hn
    generalize partsV v = ps at hp hlen hloop
    obtain ⟨k, i, s, t, l, f⟩ := v
    rcases hr with ⟨c, h⟩ | ⟨hn', h⟩
    · refine .inl ⟨c, n + 1, fun N hN => ?_⟩
      obtain ⟨M, rfl⟩ : ∃ M, N = M + 1 := ⟨N - 1, by omega⟩
      exact callF_of [(12, .r (boolX false) (endC c (n + 1)))] [] (pf1 (h M (by omega))) (by kernel_rfl)
    · rcases hloop (n + 1) (by omega) with ⟨c, m, u, h'⟩ | ⟨m, hm, h'⟩
      · refine .inl ⟨c, m, fun N hN => ?_⟩
        obtain ⟨M, rfl⟩ : ∃ M, N = M + 1 := ⟨N - 1, by omega⟩
        have hl : run (callF tab ext M) 4 M (.loop (loopAt 136 0)) (viH' (cellsL ps) lev (cellsL ps).length 0 (n + 1) (Val.mk k i s t l f).cells) = some (.ret, ⟨[(6, boolX false)], endC c m ++ [.var u]⟩) := by
          simp only [run]
          rw [iter_canon (vi_canon' ..) (vi_canon ..)]
          exact h' M M (by omega) (by omega)
        exact callF_of [(12, .r (boolX true) (goC (n + 1))), (15, .p (.sl false 6 (cellsL ps)))] [(.ret, ⟨[(6, boolX false)], endC c m ++ [.var u]⟩)] (pf3 (h M (by omega)) (hp M (by omega)) hl) (by kernel_rfl)
      · refine .inr ⟨m, hm, fun N hN => ?_⟩
        obtain ⟨M, rfl⟩ : ∃ M, N = M + 1 := ⟨N - 1, by omega⟩
        have hl : run (callF tab ext M) 4 M (.loop (loopAt 136 0)) (viH' (cellsL ps) lev (cellsL ps).length 0 (n + 1) (Val.mk k i s t l f).cells) = some (.exit 0, viE (cellsL ps) lev (cellsL ps).length (cellsL ps).length m) := by
          simp only [run]
          rw [iter_canon (vi_canon' ..) (vi_canon ..)]
          exact h' M M (by omega) (by omega)
        exact callF_of [(12, .r (boolX true) (goC (n + 1))), (15, .p (.sl false 6 (cellsL ps)))] [(.exit 0, viE (cellsL ps) lev (cellsL ps).length (cellsL ps).length m)] (pf3 (h M (by omega)) (hp M (by omega)) hl) (by kernel_rfl)

noncomputable def rfSt (v : List X) : St := ⟨[(2, .ptr 1 0 0), (3, .ptr 2 0 0), (4, .ptr 3 0 0), (10, .fn 135 [.dp v])], [.var v, .var [num 0], .var rulesX, .var [num 0]]⟩
noncomputable def rfFin (v : List X) (c : Int) (m : Nat) : St := ⟨(rfSt v).tm, [.var v, .var [num c], .var rulesX, .var [nat m], .dead]⟩
theorem val_comes (v : Val) (hv : v.ok) : Comes (60025 + v.size) 65 [.agg v.cells] := by
  have hok := hv
  unfold Val.ok at hok
  have hvis := visit_comes v.size v (Nat.le_refl _) hv 1 0 (by omega) (by omega)
  obtain ⟨k, i, s, t, l, f⟩ := v
  generalize hsz : (Val.mk k i s t l f).size = sz at hvis hok
  have hpre : ∀ N, 3 ≤ N → Gam.pureD (callF tab ext N) 101 [.agg (Val.mk k i s t l f).cells] = some (.fn 135 [.dp (Val.mk k i s t l f).cells]) := fun N hN => by
    obtain ⟨M, rfl⟩ : ∃ M, N = M + 1 := ⟨N - 1, by omega⟩
    exact pure_of [] [] pf0 (x := .fn 135 [.dp (Val.mk k i s t l f).cells]) (bx := []) (by kernel_rfl) rfl
  have hrul : ∀ N, 3 ≤ N → Gam.pureD (callF tab ext N) 100 [] = some (.agg rulesX) := fun N hN => by
    obtain ⟨M, rfl⟩ : ∃ M, N = M + 1 := ⟨N - 1, by omega⟩
    exact pure_of [] [] pf0 (x := .agg rulesX) (bx := []) (by kernel_rfl) rfl
  unfold Visit at hvis
  rw [hsz] at hvis
  rcases hvis with ⟨c, m, h⟩ | ⟨m, _, h⟩
  · refine ⟨c, fun N hN => ?_⟩
    obtain ⟨M, rfl⟩ : ∃ M, N = M + 2 := ⟨N - 2, by omega⟩
    have h5 : callF tab ext (M + 1) (.fn 135) [.yl 0, .dp (Val.mk k i s t l f).cells] (goC 0) = some (.tup [], endC c m) :=
      callF_of [(5, .r (boolX false) (endC c m))] [] (pf1 (h M (by omega))) (by kernel_rfl)
    have hrf : run (callF tab ext (M + 1)) 0 (M + 1) (.rf (.t 10) [11, 12] [2, 3, 4] (rfAt 65).1 (rfAt 65).2) (rfSt (Val.mk k i s t l f).cells) = some (.ret, rfFin (Val.mk k i s t l f).cells c m) :=
      rf_of (g := 135) (caps := [.dp (Val.mk k i s t l f).cells]) (y := .tup []) (outb := endC c m)
        (q := (.tup [], [.var (Val.mk k i s t l f).cells, .var [num c], .var rulesX, .var [nat m], recC .done (some .ret)], [4, 1, 2, 3])) h5 (by kernel_rfl) (by kernel_rfl) (by kernel_rfl)
    exact pure_of [(8, .p (.agg rulesX)), (10, .p (.fn 135 [.dp (Val.mk k i s t l f).cells]))] [(.ret, rfFin (Val.mk k i s t l f).cells c m)] (pf3 (hrul (M + 1) (by omega)) (hpre (M + 1) (by omega)) hrf) (x := num c) (bx := []) (by kernel_rfl) rfl
  · refine ⟨0, fun N hN => ?_⟩
    obtain ⟨M, rfl⟩ : ∃ M, N = M + 2 := ⟨N - 2, by omega⟩
    have h5 : callF tab ext (M + 1) (.fn 135) [.yl 0, .dp (Val.mk k i s t l f).cells] (goC 0) = some (.tup [], goC m) :=
      callF_of [(5, .r (boolX true) (goC m))] [] (pf1 (h M (by omega))) (by kernel_rfl)
    have hrf : run (callF tab ext (M + 1)) 0 (M + 1) (.rf (.t 10) [11, 12] [2, 3, 4] (rfAt 65).1 (rfAt 65).2) (rfSt (Val.mk k i s t l f).cells) = some (.norm, rfFin (Val.mk k i s t l f).cells 0 m) :=
      rf_of (g := 135) (caps := [.dp (Val.mk k i s t l f).cells]) (y := .tup []) (outb := goC m)
        (q := (.tup [], [.var (Val.mk k i s t l f).cells, .var [num 0], .var rulesX, .var [nat m], recC .ready none], [4, 1, 2, 3])) h5 (by kernel_rfl) (by kernel_rfl) (by kernel_rfl)
    exact pure_of [(8, .p (.agg rulesX)), (10, .p (.fn 135 [.dp (Val.mk k i s t l f).cells]))] [(.norm, rfFin (Val.mk k i s t l f).cells 0 m)] (pf3 (hrul (M + 1) (by omega)) (hpre (M + 1) (by omega)) hrf) (x := num 0) (bx := []) (by kernel_rfl) rfl
end Go.Proofs.YtjfheahakfoofaaGreatDoor

/- The check of a message comes to an end. -/
namespace Go.Proofs.YtjfheahakfoofaaGreatDoor
open Go.Em

theorem Comes.mono {B B' : Nat} {f : FuncId} {args : List X} (h : Comes B f args) (hB : B ≤ B') : Comes B' f args := by
  obtain ⟨c, h⟩ := h
  exact ⟨c, fun N hN => h N (by omega)⟩
theorem body_comes (v : Val) (hv : v.ok) : Comes 120030 38 [.agg v.cells] := by
  have hok := hv
  unfold Val.ok at hok
  obtain ⟨c, hc⟩ := (val_comes v hv).mono (show 60025 + v.size ≤ 120029 by omega)
  have hz : ∀ N, 120029 ≤ N → Gam.pureD (callF tab ext N) 28 [.agg v.cells] = some (boolX (nullV v)) := fun N hN => null_at v N (by omega)
  generalize nullV v = z at hz
  obtain ⟨k, i, s, t, l, f⟩ := v
  apply comes_succ
  cases z with
  | true =>
    exact ⟨0, fun N hN => pure_of [(5, .p (boolX true))] [] (pf1 (hz N hN)) (x := num (0)) (bx := []) (by kernel_rfl) rfl⟩
  | false =>
    cases h1 : (!(k == 9)) with
    | true =>
      exact ⟨18, fun N hN => pure_of [(5, .p (boolX false)), (9, .b true)] [] (pf2 (hz N hN) h1) (x := num (18)) (bx := []) (by kernel_rfl) rfl⟩
    | false =>
      exact ⟨c, fun N hN => pure_of [(5, .p (boolX false)), (9, .b false), (11, .p (num c))] [] (pf3 (hz N hN) h1 (hc N hN)) (x := num (c)) (bx := []) (by kernel_rfl) rfl⟩

section
variable (m : List X) (o : List (List X)) (n j : Nat)
def mcH : St := ⟨[(1, .ptr 0 0 0), (27, .sl false 1 o), (28, nat n), (29, nat j)], [.var m]⟩
def mcE : St := ⟨[(1, .ptr 0 0 0), (27, .sl false 1 o), (28, nat n), (29, nat j), (30, boolX false)], [.var m]⟩
end
theorem orig_round (e mass : Int) (p : List Int) (o : List Int) (k i s : Int) (t : ByteArray) (l : List Val) (f : List (ByteArray × Val)) (j : Nat) (hl : o.length ≤ 60000) (hj : j < o.length) :
    (∃ r, (∃ c : Int, r = ⟨[(2, num c)], [.var (Msg.mk ⟨e, p⟩ mass o (Val.mk k i s t l f)).cells]⟩) ∧ ∀ M, 2 ≤ M → run (callF tab ext M) 0 M (loopAt 15 0) (mcH (Msg.mk ⟨e, p⟩ mass o (Val.mk k i s t l f)).cells (intsC o) (intsC o).length j) = some (.ret, r)) ∨
    (∃ υ, canon 0 υ = some (mcH (Msg.mk ⟨e, p⟩ mass o (Val.mk k i s t l f)).cells (intsC o) (intsC o).length (j + 1)) ∧ ∀ M, 2 ≤ M → run (callF tab ext M) 0 M (loopAt 15 0) (mcH (Msg.mk ⟨e, p⟩ mass o (Val.mk k i s t l f)).cells (intsC o) (intsC o).length j) = some (.norm, υ)) := by
  have hn := intsC_length o
  have hg := intsC_get hj
  generalize o[j] = x at hg
  obtain ⟨b, hb⟩ := entry_comes x
  have hlt := lt_nat (j := j) (k := (intsC o).length) (by omega)
  cases b with
  | false =>
    exact .inl ⟨_, ⟨2, rfl⟩, fun M hM => run_of [(30, .b true), (32, .e [num x]), (36, .p (boolX false))] [] (pf3 hlt hg (hb M hM)) (lo' := []) (by kernel_rfl)⟩
  | true =>
    cases j with
    | zero =>
      exact .inr ⟨mcH (Msg.mk ⟨e, p⟩ mass o (Val.mk k i s t l f)).cells (intsC o) (intsC o).length (0 + 1), by kernel_rfl, fun M hM => run_of [(30, .b true), (32, .e [num x]), (36, .p (boolX true)), (40, .b false), (51, .i (Int.ofNat (0 + 1)))] [] (pf5 hlt hg (hb M hM) zero_nat (next_nat (j := 0) (by omega))) (lo' := []) (by kernel_rfl)⟩
    | succ j =>
      have hj' : j < o.length := by omega
      have hq := intsC_get hj'
      generalize o[j] = y at hq
      cases h1 : decide (x ≤ y) with
      | true =>
        exact .inl ⟨_, ⟨24, rfl⟩, fun M hM => run_of [(30, .b true), (32, .e [num x]), (36, .p (boolX true)), (40, .b true), (46, .i (Int.ofNat j)), (47, .e [num y]), (49, .b true)] [] (pf7 hlt hg (hb M hM) (pos_nat (j := j)) (pred_nat (j := j) (by omega)) hq h1) (lo' := []) (by kernel_rfl)⟩
      | false =>
        exact .inr ⟨mcH (Msg.mk ⟨e, p⟩ mass o (Val.mk k i s t l f)).cells (intsC o) (intsC o).length ((j + 1) + 1), by kernel_rfl, fun M hM => run_of [(30, .b true), (32, .e [num x]), (36, .p (boolX true)), (40, .b true), (46, .i (Int.ofNat j)), (47, .e [num y]), (49, .b false), (51, .i (Int.ofNat ((j + 1) + 1)))] [] (pf8 hlt hg (hb M hM) (pos_nat (j := j)) (pred_nat (j := j) (by omega)) hq h1 (next_nat (j := (j + 1)) (by omega))) (lo' := []) (by kernel_rfl)⟩
theorem msg_comes (m : Msg) (hm : m.ok) : Comes 120040 15 [.agg m.cells] := by
  obtain ⟨c1, hst⟩ := stamp_comes m.st hm.st
  obtain ⟨b, hb⟩ := heavy_comes m.mass
  obtain ⟨c3, hbd⟩ := body_comes m.body hm.body
  have ho := hm.orig
  obtain ⟨⟨e, p⟩, mass, o, k, i, s, t, l, f⟩ := m
  dsimp only at hst hb hbd ho
  have hn := intsC_length o
  have := scan (B := 2) (b := loopAt 15 0) (H := fun j => mcH (Msg.mk ⟨e, p⟩ mass o (Val.mk k i s t l f)).cells (intsC o) (intsC o).length j) (τ := mcH (Msg.mk ⟨e, p⟩ mass o (Val.mk k i s t l f)).cells (intsC o) (intsC o).length 0) (n := (intsC o).length) (e := .exit 1) (fin := mcE (Msg.mk ⟨e, p⟩ mass o (Val.mk k i s t l f)).cells (intsC o) (intsC o).length (intsC o).length)
    (fun r => ∃ c : Int, r = ⟨[(2, num c)], [.var (Msg.mk ⟨e, p⟩ mass o (Val.mk k i s t l f)).cells]⟩) (by kernel_rfl) (fun j hj => orig_round e mass p o k i s t l f j ho (by omega))
    (fun M _ => run_of [(30, .b false)] [] (pf1 (nlt_nat (Nat.lt_irrefl (intsC o).length))) (lo' := []) (by kernel_rfl)) (by simp)
  apply comes_succ
  cases h1 : (!(c1 == 0)) with
  | true =>
    exact ⟨c1, fun N hN => pure_of [(8, .p (num c1)), (10, .b true)] [] (pf2 (hst N (by omega)) h1) (x := num (c1)) (bx := []) (by kernel_rfl) rfl⟩
  | false =>
    cases b with
    | true =>
      exact ⟨38, fun N hN => pure_of [(8, .p (num c1)), (10, .b false), (15, .p (boolX true))] [] (pf3 (hst N (by omega)) h1 (hb N (by omega))) (x := num (38)) (bx := []) (by kernel_rfl) rfl⟩
    | false =>
      cases h2 : (Int.ofNat (intsC o).length == 0) with
      | true =>
        exact ⟨4, fun N hN => pure_of [(8, .p (num c1)), (10, .b false), (15, .p (boolX false)), (20, .b true)] [] (pf4 (hst N (by omega)) h1 (hb N (by omega)) h2) (x := num (4)) (bx := []) (by kernel_rfl) rfl⟩
      | false =>
        cases h3 : decide (4096 < Int.ofNat (intsC o).length) with
        | true =>
          exact ⟨9, fun N hN => pure_of [(8, .p (num c1)), (10, .b false), (15, .p (boolX false)), (20, .b false), (25, .b true)] [] (pf5 (hst N (by omega)) h1 (hb N (by omega)) h2 h3) (x := num (9)) (bx := []) (by kernel_rfl) rfl⟩
        | false =>
          rcases this with ⟨r, ⟨c, rfl⟩, h⟩ | h
          · exact ⟨c, fun N hN => pure_of [(8, .p (num c1)), (10, .b false), (15, .p (boolX false)), (20, .b false), (25, .b false)] [(.ret, ⟨[(2, num c)], [.var (Msg.mk ⟨e, p⟩ mass o (Val.mk k i s t l f)).cells]⟩)] (pf6 (hst N (by omega)) h1 (hb N (by omega)) h2 h3 (h N (by omega) (by omega))) (x := num c) (bx := []) (by kernel_rfl) rfl⟩
          · exact ⟨c3, fun N hN => pure_of [(8, .p (num c1)), (10, .b false), (15, .p (boolX false)), (20, .b false), (25, .b false), (54, .p (num c3))] [(.exit 1, mcE (Msg.mk ⟨e, p⟩ mass o (Val.mk k i s t l f)).cells (intsC o) (intsC o).length (intsC o).length)] (pf7 (hst N (by omega)) h1 (hb N (by omega)) h2 h3 (h N (by omega) (by omega)) (hbd N (by omega))) (x := num c3) (bx := []) (by kernel_rfl) rfl⟩
end Go.Proofs.YtjfheahakfoofaaGreatDoor

/- The check of a slot comes to an end. -/
namespace Go.Proofs.YtjfheahakfoofaaGreatDoor
open Go.Em

theorem numbers_comes (x y : Int) : Comes 2 64 [num x, num y] := by
  apply comes_succ
  cases h1 : decide (x < -999999999999999) with
  | true =>
    exact ⟨2, fun N hN => pure_of [(6, .b true)] [] (pf1 h1) (x := num (2)) (bx := []) (by kernel_rfl) rfl⟩
  | false =>
    cases h2 : decide (999999999999999 < x) with
    | true =>
      exact ⟨2, fun N hN => pure_of [(6, .b false), (9, .b true)] [] (pf2 h1 h2) (x := num (2)) (bx := []) (by kernel_rfl) rfl⟩
    | false =>
      cases h3 : decide (y < 0) with
      | true =>
        exact ⟨2, fun N hN => pure_of [(6, .b false), (9, .b false), (13, .b true)] [] (pf3 h1 h2 h3) (x := num (2)) (bx := []) (by kernel_rfl) rfl⟩
      | false =>
        cases h4 : decide (17592186044416 < y) with
        | true =>
          exact ⟨2, fun N hN => pure_of [(6, .b false), (9, .b false), (13, .b false), (17, .b true)] [] (pf4 h1 h2 h3 h4) (x := num (2)) (bx := []) (by kernel_rfl) rfl⟩
        | false =>
          exact ⟨0, fun N hN => pure_of [(6, .b false), (9, .b false), (13, .b false), (17, .b false)] [] (pf4 h1 h2 h3 h4) (x := num (0)) (bx := []) (by kernel_rfl) rfl⟩

/-! ### slices.ContainsFunc of messages -/
theorem same_stamp (m : Msg) (o : Msg) (ho : o.ok) : ComesB 60015 107 [.agg o.cells, .dp m.cells] := by
  have h : ∀ N, 60014 ≤ N → Gam.pureD (callF tab ext N) 26 [.agg o.st.cells, .agg m.st.cells] = some (boolX (cmpS o.st m.st == 0)) := fun N hN => eq_stamp N o.st m.st (by have := ho.st.p; omega) (by have := ho.st.p; omega)
  generalize (cmpS o.st m.st == 0) = b at h
  obtain ⟨⟨a1, a2⟩, a3, a4, a5, a6, a7, a8, a9, a0⟩ := o
  obtain ⟨⟨b1, b2⟩, b3, b4, b5, b6, b7, b8, b9, b0⟩ := m
  apply comesB_succ
  exact ⟨b, fun N hN => pure_of [(8, .p (boolX b))] [] (pf1 (h N hN)) (x := boolX b) (bx := []) (by kernel_rfl) rfl⟩
def imH (l : List (List X)) (g : X) (n j : Nat) : St := ⟨[(0, .sl false 10 l), (1, g), (7, nat n), (8, nat j)], []⟩
theorem contains_msg (m : Msg) (l : List Msg) (hl : l.length ≤ 60000) (hok : ∀ o, o ∈ l → o.ok) : ComesB 60018 77 [.sl false 10 (msgsC l), .fn 107 [.dp m.cells]] := by
  have hn := msgsC_length l
  have hs := scan (B := 60015) (b := loopAt 112 0) (H := fun j => imH (msgsC l) (.fn 107 [.dp m.cells]) (msgsC l).length j) (τ := imH (msgsC l) (.fn 107 [.dp m.cells]) (msgsC l).length 0) (n := (msgsC l).length) (e := .exit 0)
    (fin := ⟨[(0, .sl false 10 (msgsC l)), (1, .fn 107 [.dp m.cells]), (7, nat (msgsC l).length), (8, nat (msgsC l).length), (9, boolX false)], []⟩) (fun r => ∃ k : Nat, r = ⟨[(4, nat k)], []⟩) (by cases m; kernel_rfl) (fun j hj => by
      have hj' : j < l.length := by omega
      have hg := msgsC_get hj'
      obtain ⟨b, hb⟩ := same_stamp m l[j] (hok _ (List.getElem_mem hj'))
      generalize l[j] = o at hg hb
      obtain ⟨⟨a1, a2⟩, a3, a4, a5, a6, a7, a8, a9, a0⟩ := o
      obtain ⟨⟨b1, b2⟩, b3, b4, b5, b6, b7, b8, b9, b0⟩ := m
      cases b with
      | true => exact .inl ⟨⟨[(4, nat j)], []⟩, ⟨j, rfl⟩, fun M hM => run_of [(9, .b true), (14, .e (Msg.mk ⟨a1, a2⟩ a3 a4 (Val.mk a5 a6 a7 a8 a9 a0)).cells), (16, .p (boolX true))] [] (pf3 (lt_nat (j := j) (k := (msgsC l).length) (by omega)) hg (hb M hM)) (lo' := []) (by kernel_rfl)⟩
      | false => exact .inr ⟨imH (msgsC l) (.fn 107 [.dp (Msg.mk ⟨b1, b2⟩ b3 b4 (Val.mk b5 b6 b7 b8 b9 b0)).cells]) (msgsC l).length (j + 1), by kernel_rfl, fun M hM => run_of [(9, .b true), (14, .e (Msg.mk ⟨a1, a2⟩ a3 a4 (Val.mk a5 a6 a7 a8 a9 a0)).cells), (16, .p (boolX false)), (18, .i (Int.ofNat (j + 1)))] [] (pf4 (lt_nat (j := j) (k := (msgsC l).length) (by omega)) hg (hb M hM) (next_nat (j := j) (by omega))) (lo' := []) (by kernel_rfl)⟩)
    (fun M _ => run_of [(9, .b false)] [] (pf1 (nlt_nat (Nat.lt_irrefl (msgsC l).length))) (lo' := []) (by kernel_rfl)) (by simp)
  have hi : ∃ c : Int, ∀ N, 60017 ≤ N → Gam.pureD (callF tab ext N) 112 [.sl false 10 (msgsC l), .fn 107 [.dp m.cells]] = some (num c) := by
    have : Comes (60016 + 1) 112 [.sl false 10 (msgsC l), .fn 107 [.dp m.cells]] := by
      apply comes_succ
      obtain ⟨⟨b1, b2⟩, b3, b4, b5, b6, b7, b8, b9, b0⟩ := m
      rcases hs with ⟨r, ⟨k, rfl⟩, h⟩ | h
      · exact ⟨Int.ofNat k, fun N hN => pure_of [] [(.ret, ⟨[(4, nat k)], []⟩)] (pf1 (h N (by omega) (by omega))) (x := nat k) (bx := []) (by kernel_rfl) rfl⟩
      · exact ⟨-1, fun N hN => pure_of [] [(.exit 0, ⟨[(0, .sl false 10 (msgsC l)), (1, .fn 107 [.dp (Msg.mk ⟨b1, b2⟩ b3 b4 (Val.mk b5 b6 b7 b8 b9 b0)).cells]), (7, nat (msgsC l).length), (8, nat (msgsC l).length), (9, boolX false)], []⟩)] (pf1 (h N (by omega) (by omega))) (x := num (-1)) (bx := []) (by kernel_rfl) rfl⟩
    exact this
  obtain ⟨c, h⟩ := hi
  obtain ⟨⟨b1, b2⟩, b3, b4, b5, b6, b7, b8, b9, b0⟩ := m
  apply comesB_succ
  exact ⟨decide (0 ≤ c), fun N hN => pure_of [(7, .p (num c))] [] (pf1 (h N hN)) (x := boolX (decide (0 ≤ c))) (bx := []) (by kernel_rfl) rfl⟩
end Go.Proofs.YtjfheahakfoofaaGreatDoor

/- The check of a slot: its items. -/
namespace Go.Proofs.YtjfheahakfoofaaGreatDoor
open Go.Em

/-- As 'scan', with boxes that came in. -/
theorem scanN {nIn : Nat} {b : C} {H : Nat → St} {e : Ex} {fin τ : St} {n B : Nat} (good : St → Prop) (h0 : canon nIn τ = some (H 0))
    (hstep : ∀ j, j < n → (∃ r, good r ∧ ∀ M, B ≤ M → run (callF tab ext M) nIn M b (H j) = some (.ret, r)) ∨ (∃ υ, canon nIn υ = some (H (j + 1)) ∧ ∀ M, B ≤ M → run (callF tab ext M) nIn M b (H j) = some (.norm, υ)))
    (hend : ∀ M, B ≤ M → run (callF tab ext M) nIn M b (H n) = some (e, fin)) (hne : e ≠ .norm) :
    (∃ r, good r ∧ ∀ M, B ≤ M → n < M → run (callF tab ext M) nIn M (.loop b) τ = some (.ret, r)) ∨ (∀ M, B ≤ M → n < M → run (callF tab ext M) nIn M (.loop b) τ = some (e, fin)) := by
  have key : ∀ d j, j + d = n → (∃ r, good r ∧ ∀ M F υ, B ≤ M → d < F → canon nIn υ = some (H j) → iter nIn (run (callF tab ext M) nIn M b) F υ = some (.ret, r)) ∨ (∀ M F υ, B ≤ M → d < F → canon nIn υ = some (H j) → iter nIn (run (callF tab ext M) nIn M b) F υ = some (e, fin)) := by
    intro d
    induction d with
    | zero =>
      intro j hj
      have hjn : j = n := by omega
      subst hjn
      right
      intro M F υ hM hF hc
      obtain ⟨F', rfl⟩ : ∃ F', F = F' + 1 := ⟨F - 1, by omega⟩
      exact iter_end hc (hend M hM) hne
    | succ d ih =>
      intro j hj
      rcases hstep j (by omega) with ⟨r, hr, h⟩ | ⟨ω, hω, h⟩
      · left
        refine ⟨r, hr, fun M F υ hM hF hc => ?_⟩
        obtain ⟨F', rfl⟩ : ∃ F', F = F' + 1 := ⟨F - 1, by omega⟩
        exact iter_end hc (h M hM) (by simp)
      · rcases ih (j + 1) (by omega) with ⟨r, hr, h'⟩ | h'
        · left
          refine ⟨r, hr, fun M F υ hM hF hc => ?_⟩
          obtain ⟨F', rfl⟩ : ∃ F', F = F' + 1 := ⟨F - 1, by omega⟩
          exact iter_step hc (h M hM) (h' M F' ω hM (by omega) hω)
        · right
          intro M F υ hM hF hc
          obtain ⟨F', rfl⟩ : ∃ F', F = F' + 1 := ⟨F - 1, by omega⟩
          exact iter_step hc (h M hM) (h' M F' ω hM (by omega) hω)
  simp only [run]
  rcases key n 0 (by omega) with ⟨r, hr, h⟩ | h
  · exact .inl ⟨r, hr, fun M hM hn => h M M τ hM hn h0⟩
  · exact .inr fun M hM hn => h M M τ hM hn h0

/-- The checker's boxes, and the slot: nothing appended yet, or something. -/
def ckB (f : Bool) (k v : Nat) (acc : List (List X)) (s : List X) : List Bx :=
  if f then [.var [.bs 3 0 k, nat v], .dead, .var s, .row 10 acc] else [.var [.bs 1 0 k, nat v], .row 10 acc, .var s]
def ckH (f : Bool) (items : List (List X)) (n j k v : Nat) (acc : List (List X)) (s : List X) : St :=
  ⟨[(0, .ptr 0 0 0), (3, .ptr 2 0 0), (21, .sl false 10 items), (22, nat n), (23, nat j)], ckB f k v acc s⟩
inductive BadCk : St → Prop
  | a (c : Int) (k v : Nat) (acc : List (List X)) (x y : Bx) (h : c ≠ 0) : BadCk ⟨[(4, num c)], [.var [.bs 1 0 k, nat v], .row 10 acc, x, y]⟩
  | b (c : Int) (k v : Nat) (acc : List (List X)) (x y : Bx) (h : c ≠ 0) : BadCk ⟨[(4, num c)], [.var [.bs 3 0 k, nat v], .dead, x, .row 10 acc, y]⟩
  | c (c : Int) (k v : Nat) (acc : List (List X)) (x : Bx) (h : c ≠ 0) : BadCk ⟨[(4, num c)], [.var [.bs 1 0 k, nat v], .row 10 acc, x]⟩
  | d (c : Int) (k v : Nat) (acc : List (List X)) (x : Bx) (h : c ≠ 0) : BadCk ⟨[(4, num c)], [.var [.bs 2 0 k, nat v], .dead, .row 10 acc, x]⟩
theorem data_row (acc : List Msg) (k i : Nat) (g : X) (bx : List Bx) (hb : bx[i]? = some (.row 10 (msgsC acc))) (hk : k = acc.length) (hg : g.data bx false = some g) : dataL bx false [.bs i 0 k, g] = some [.sl false 10 (msgsC acc), g] := by
  subst hk
  have hl := msgsC_length acc
  simp only [dataL, X.data, rowOf, hb, Nat.zero_add, hl, Nat.le_refl, if_true, Option.map_some, List.drop_zero, hg]
  rw [List.take_of_length_le (by omega)]
theorem ck_round_false (k0 i0 s0 : Int) (t0 : ByteArray) (l0 f0 : List (List X)) (n0 d0 : Int) (items vals : List (List X)) (n j k v : Nat) (acc : List Msg) (m : Msg) (hm : m.ok) (hacc : ∀ o, o ∈ acc → o.ok) (hk : k = acc.length) (hkl : acc.length ≤ 60000) (hj : j < n) (hn : n ≤ 60000) (hg : items[j]? = some m.cells) :
    (∃ r, BadCk r ∧ ∀ M, 120040 ≤ M → run (callF tab ext M) 2 M (loopAt 67 0) (ckH false items n j k v (msgsC acc) (slotC k0 i0 s0 t0 l0 f0 n0 d0 items vals)) = some (.ret, r)) ∨
    (∃ υ, canon 2 υ = some (ckH true items n (j + 1) (k + 1) v (msgsC acc ++ [m.cells]) (slotC k0 i0 s0 t0 l0 f0 n0 d0 items vals)) ∧ ∀ M, 120040 ≤ M → run (callF tab ext M) 2 M (loopAt 67 0) (ckH false items n j k v (msgsC acc) (slotC k0 i0 s0 t0 l0 f0 n0 d0 items vals)) = some (.norm, υ)) := by
  obtain ⟨c, hc⟩ := msg_comes m hm
  obtain ⟨b, hb⟩ := contains_msg m acc hkl hacc
  have hlt := lt_nat hj
  have hal := msgsC_length acc
  obtain ⟨⟨a1, a2⟩, a3, a4, a5, a6, a7, a8, a9, a0⟩ := m
  cases h1 : (Int.ofNat k == 256) with
  | true =>
    exact .inl ⟨⟨[(4, num 9)], [.var [.bs 1 0 k, nat v], .row 10 (msgsC acc), .var (slotC k0 i0 s0 t0 l0 f0 n0 d0 items vals), .var (Msg.mk ⟨a1, a2⟩ a3 a4 (Val.mk a5 a6 a7 a8 a9 a0)).cells]⟩, .a _ _ _ _ _ _ (by decide), fun M hM => run_of [(24, .b true), (25, .e (Msg.mk ⟨a1, a2⟩ a3 a4 (Val.mk a5 a6 a7 a8 a9 a0)).cells), (32, .b true)] [] (pf3 hlt hg h1) (lo' := []) (by kernel_rfl)⟩
  | false =>
    cases h2 : (!(c == 0)) with
    | true =>
      exact .inl ⟨⟨[(4, num c)], [.var [.bs 1 0 k, nat v], .row 10 (msgsC acc), .var (slotC k0 i0 s0 t0 l0 f0 n0 d0 items vals), .var (Msg.mk ⟨a1, a2⟩ a3 a4 (Val.mk a5 a6 a7 a8 a9 a0)).cells]⟩, .a _ _ _ _ _ _ (by intro h0; rw [h0] at h2; cases h2), fun M hM => run_of [(24, .b true), (25, .e (Msg.mk ⟨a1, a2⟩ a3 a4 (Val.mk a5 a6 a7 a8 a9 a0)).cells), (32, .b false), (34, .p (num c)), (36, .b true)] [] (pf5 hlt hg h1 (hc M (by omega)) h2) (lo' := []) (by kernel_rfl)⟩
    | false =>
      cases b with
      | true =>
        exact .inl ⟨⟨[(4, num 7)], [.var [.bs 1 0 k, nat v], .row 10 (msgsC acc), .var (slotC k0 i0 s0 t0 l0 f0 n0 d0 items vals), .dead]⟩, .a _ _ _ _ _ _ (by decide), fun M hM => run_of [(24, .b true), (25, .e (Msg.mk ⟨a1, a2⟩ a3 a4 (Val.mk a5 a6 a7 a8 a9 a0)).cells), (32, .b false), (34, .p (num c)), (36, .b false), (43, .d [.sl false 10 (msgsC acc), .fn 107 [.dp (Msg.mk ⟨a1, a2⟩ a3 a4 (Val.mk a5 a6 a7 a8 a9 a0)).cells]] (boolX true))] [] (pf6 hlt hg h1 (hc M (by omega)) h2 (⟨(data_row acc k 1 (.fn 107 [.dp (Msg.mk ⟨a1, a2⟩ a3 a4 (Val.mk a5 a6 a7 a8 a9 a0)).cells]) [.var [.bs 1 0 k, nat v], .row 10 (msgsC acc), .var (slotC k0 i0 s0 t0 l0 f0 n0 d0 items vals), .dead] rfl hk (by kernel_rfl)), hb M (by omega)⟩ : _ ∧ _)) (lo' := []) (by kernel_rfl)⟩
      | false =>
        exact .inr ⟨⟨[(0, .ptr 0 0 0), (3, .ptr 2 0 0), (21, .sl false 10 items), (22, nat n), (23, nat (j + 1))], [.var [.bs 4 0 (k + 1), nat v], .dead, .var (slotC k0 i0 s0 t0 l0 f0 n0 d0 items vals), .dead, .row 10 (msgsC acc ++ [(Msg.mk ⟨a1, a2⟩ a3 a4 (Val.mk a5 a6 a7 a8 a9 a0)).cells])]⟩, by kernel_rfl, fun M hM => run_of [(24, .b true), (25, .e (Msg.mk ⟨a1, a2⟩ a3 a4 (Val.mk a5 a6 a7 a8 a9 a0)).cells), (32, .b false), (34, .p (num c)), (36, .b false), (43, .d [.sl false 10 (msgsC acc), .fn 107 [.dp (Msg.mk ⟨a1, a2⟩ a3 a4 (Val.mk a5 a6 a7 a8 a9 a0)).cells]] (boolX false)), (51, .app), (54, .i (Int.ofNat (j + 1)))] [] (pf8 hlt hg h1 (hc M (by omega)) h2 (⟨(data_row acc k 1 (.fn 107 [.dp (Msg.mk ⟨a1, a2⟩ a3 a4 (Val.mk a5 a6 a7 a8 a9 a0)).cells]) [.var [.bs 1 0 k, nat v], .row 10 (msgsC acc), .var (slotC k0 i0 s0 t0 l0 f0 n0 d0 items vals), .dead] rfl hk (by kernel_rfl)), hb M (by omega)⟩ : _ ∧ _) (app_ok (acc := msgsC acc) k 1 152 (by omega) (by omega) (by omega)) (next_nat (j := j) (by omega))) (lo' := []) (by kernel_rfl)⟩
theorem ck_round_true (k0 i0 s0 : Int) (t0 : ByteArray) (l0 f0 : List (List X)) (n0 d0 : Int) (items vals : List (List X)) (n j k v : Nat) (acc : List Msg) (m : Msg) (hm : m.ok) (hacc : ∀ o, o ∈ acc → o.ok) (hk : k = acc.length) (hkl : acc.length ≤ 60000) (hj : j < n) (hn : n ≤ 60000) (hg : items[j]? = some m.cells) :
    (∃ r, BadCk r ∧ ∀ M, 120040 ≤ M → run (callF tab ext M) 2 M (loopAt 67 0) (ckH true items n j k v (msgsC acc) (slotC k0 i0 s0 t0 l0 f0 n0 d0 items vals)) = some (.ret, r)) ∨
    (∃ υ, canon 2 υ = some (ckH true items n (j + 1) (k + 1) v (msgsC acc ++ [m.cells]) (slotC k0 i0 s0 t0 l0 f0 n0 d0 items vals)) ∧ ∀ M, 120040 ≤ M → run (callF tab ext M) 2 M (loopAt 67 0) (ckH true items n j k v (msgsC acc) (slotC k0 i0 s0 t0 l0 f0 n0 d0 items vals)) = some (.norm, υ)) := by
  obtain ⟨c, hc⟩ := msg_comes m hm
  obtain ⟨b, hb⟩ := contains_msg m acc hkl hacc
  have hlt := lt_nat hj
  have hal := msgsC_length acc
  obtain ⟨⟨a1, a2⟩, a3, a4, a5, a6, a7, a8, a9, a0⟩ := m
  cases h1 : (Int.ofNat k == 256) with
  | true =>
    exact .inl ⟨⟨[(4, num 9)], [.var [.bs 3 0 k, nat v], .dead, .var (slotC k0 i0 s0 t0 l0 f0 n0 d0 items vals), .row 10 (msgsC acc), .var (Msg.mk ⟨a1, a2⟩ a3 a4 (Val.mk a5 a6 a7 a8 a9 a0)).cells]⟩, .b _ _ _ _ _ _ (by decide), fun M hM => run_of [(24, .b true), (25, .e (Msg.mk ⟨a1, a2⟩ a3 a4 (Val.mk a5 a6 a7 a8 a9 a0)).cells), (32, .b true)] [] (pf3 hlt hg h1) (lo' := []) (by kernel_rfl)⟩
  | false =>
    cases h2 : (!(c == 0)) with
    | true =>
      exact .inl ⟨⟨[(4, num c)], [.var [.bs 3 0 k, nat v], .dead, .var (slotC k0 i0 s0 t0 l0 f0 n0 d0 items vals), .row 10 (msgsC acc), .var (Msg.mk ⟨a1, a2⟩ a3 a4 (Val.mk a5 a6 a7 a8 a9 a0)).cells]⟩, .b _ _ _ _ _ _ (by intro h0; rw [h0] at h2; cases h2), fun M hM => run_of [(24, .b true), (25, .e (Msg.mk ⟨a1, a2⟩ a3 a4 (Val.mk a5 a6 a7 a8 a9 a0)).cells), (32, .b false), (34, .p (num c)), (36, .b true)] [] (pf5 hlt hg h1 (hc M (by omega)) h2) (lo' := []) (by kernel_rfl)⟩
    | false =>
      cases b with
      | true =>
        exact .inl ⟨⟨[(4, num 7)], [.var [.bs 3 0 k, nat v], .dead, .var (slotC k0 i0 s0 t0 l0 f0 n0 d0 items vals), .row 10 (msgsC acc), .dead]⟩, .b _ _ _ _ _ _ (by decide), fun M hM => run_of [(24, .b true), (25, .e (Msg.mk ⟨a1, a2⟩ a3 a4 (Val.mk a5 a6 a7 a8 a9 a0)).cells), (32, .b false), (34, .p (num c)), (36, .b false), (43, .d [.sl false 10 (msgsC acc), .fn 107 [.dp (Msg.mk ⟨a1, a2⟩ a3 a4 (Val.mk a5 a6 a7 a8 a9 a0)).cells]] (boolX true))] [] (pf6 hlt hg h1 (hc M (by omega)) h2 (⟨(data_row acc k 3 (.fn 107 [.dp (Msg.mk ⟨a1, a2⟩ a3 a4 (Val.mk a5 a6 a7 a8 a9 a0)).cells]) [.var [.bs 3 0 k, nat v], .dead, .var (slotC k0 i0 s0 t0 l0 f0 n0 d0 items vals), .row 10 (msgsC acc), .dead] rfl hk (by kernel_rfl)), hb M (by omega)⟩ : _ ∧ _)) (lo' := []) (by kernel_rfl)⟩
      | false =>
        exact .inr ⟨⟨[(0, .ptr 0 0 0), (3, .ptr 2 0 0), (21, .sl false 10 items), (22, nat n), (23, nat (j + 1))], [.var [.bs 5 0 (k + 1), nat v], .dead, .var (slotC k0 i0 s0 t0 l0 f0 n0 d0 items vals), .dead, .dead, .row 10 (msgsC acc ++ [(Msg.mk ⟨a1, a2⟩ a3 a4 (Val.mk a5 a6 a7 a8 a9 a0)).cells])]⟩, by kernel_rfl, fun M hM => run_of [(24, .b true), (25, .e (Msg.mk ⟨a1, a2⟩ a3 a4 (Val.mk a5 a6 a7 a8 a9 a0)).cells), (32, .b false), (34, .p (num c)), (36, .b false), (43, .d [.sl false 10 (msgsC acc), .fn 107 [.dp (Msg.mk ⟨a1, a2⟩ a3 a4 (Val.mk a5 a6 a7 a8 a9 a0)).cells]] (boolX false)), (51, .app), (54, .i (Int.ofNat (j + 1)))] [] (pf8 hlt hg h1 (hc M (by omega)) h2 (⟨(data_row acc k 3 (.fn 107 [.dp (Msg.mk ⟨a1, a2⟩ a3 a4 (Val.mk a5 a6 a7 a8 a9 a0)).cells]) [.var [.bs 3 0 k, nat v], .dead, .var (slotC k0 i0 s0 t0 l0 f0 n0 d0 items vals), .row 10 (msgsC acc), .dead] rfl hk (by kernel_rfl)), hb M (by omega)⟩ : _ ∧ _) (app_ok (acc := msgsC acc) k 3 152 (by omega) (by omega) (by omega)) (next_nat (j := j) (by omega))) (lo' := []) (by kernel_rfl)⟩
theorem ck_end (k0 i0 s0 : Int) (t0 : ByteArray) (l0 f0 : List (List X)) (n0 d0 : Int) (items vals : List (List X)) (n k v : Nat) (acc : List (List X)) (f : Bool) (M : Nat) :
    run (callF tab ext M) 2 M (loopAt 67 0) (ckH f items n n k v acc (slotC k0 i0 s0 t0 l0 f0 n0 d0 items vals)) = some (.exit 0, ⟨[(0, .ptr 0 0 0), (3, .ptr 2 0 0), (21, .sl false 10 items), (22, nat n), (23, nat n), (24, boolX false)], ckB f k v acc (slotC k0 i0 s0 t0 l0 f0 n0 d0 items vals)⟩) := by
  cases f with
  | true => exact run_of [(24, .b false)] [] (pf1 (nlt_nat (Nat.lt_irrefl n))) (lo' := []) (by kernel_rfl)
  | false => exact run_of [(24, .b false)] [] (pf1 (nlt_nat (Nat.lt_irrefl n))) (lo' := []) (by kernel_rfl)
theorem ck_items (k0 i0 s0 : Int) (t0 : ByteArray) (l0 f0 : List (List X)) (n0 d0 : Int) (items : List Msg) (vals : List (List X)) (k v : Nat) (acc : List Msg) (hit : ∀ m, m ∈ items → m.ok) (hacc : ∀ o, o ∈ acc → o.ok) (hk : k = acc.length) (hl : acc.length + items.length ≤ 60000) :
    (∃ r, BadCk r ∧ ∀ M, 120040 ≤ M → run (callF tab ext M) 2 M (.loop (loopAt 67 0)) (ckH false (msgsC items) (msgsC items).length 0 k v (msgsC acc) (slotC k0 i0 s0 t0 l0 f0 n0 d0 (msgsC items) vals)) = some (.ret, r)) ∨
    (∀ M, 120040 ≤ M → run (callF tab ext M) 2 M (.loop (loopAt 67 0)) (ckH false (msgsC items) (msgsC items).length 0 k v (msgsC acc) (slotC k0 i0 s0 t0 l0 f0 n0 d0 (msgsC items) vals)) = some (.exit 0, ⟨[(0, .ptr 0 0 0), (3, .ptr 2 0 0), (21, .sl false 10 (msgsC items)), (22, nat (msgsC items).length), (23, nat (msgsC items).length), (24, boolX false)], ckB (decide (0 < items.length)) (k + items.length) v (msgsC (acc ++ items)) (slotC k0 i0 s0 t0 l0 f0 n0 d0 (msgsC items) vals)⟩)) := by
  have hn := msgsC_length items
  have hap : ∀ j (h : j < items.length), msgsC (acc ++ items.take j) ++ [items[j].cells] = msgsC (acc ++ items.take (j + 1)) := fun j h => by
    rw [List.take_succ_eq_append_getElem h, ← List.append_assoc]
    simp only [msgsC, List.map_append, List.map_cons, List.map_nil]
  have := scanN (nIn := 2) (B := 120040) (b := loopAt 67 0) (H := fun j => ckH (decide (0 < j)) (msgsC items) (msgsC items).length j (k + j) v (msgsC (acc ++ items.take j)) (slotC k0 i0 s0 t0 l0 f0 n0 d0 (msgsC items) vals))
    (τ := ckH false (msgsC items) (msgsC items).length 0 k v (msgsC acc) (slotC k0 i0 s0 t0 l0 f0 n0 d0 (msgsC items) vals)) (n := items.length) (e := .exit 0) (fin := ⟨[(0, .ptr 0 0 0), (3, .ptr 2 0 0), (21, .sl false 10 (msgsC items)), (22, nat (msgsC items).length), (23, nat (msgsC items).length), (24, boolX false)], ckB (decide (0 < items.length)) (k + items.length) v (msgsC (acc ++ items)) (slotC k0 i0 s0 t0 l0 f0 n0 d0 (msgsC items) vals)⟩) BadCk (by rw [List.take_zero, List.append_nil]; kernel_rfl) (fun j hj => by
      have hg := msgsC_get hj
      have hm := hit _ (List.getElem_mem hj)
      have hacc' : ∀ o, o ∈ acc ++ items.take j → o.ok := fun o ho => by
        rcases List.mem_append.1 ho with h | h
        · exact hacc o h
        · exact hit o (List.mem_of_mem_take h)
      have hlen : k + j = (acc ++ items.take j).length := by rw [List.length_append, List.length_take]; omega
      have e1 : decide (0 < j + 1) = true := by simp
      rw [← hap j hj, e1, show k + (j + 1) = k + j + 1 from rfl]
      cases j with
      | zero => exact ck_round_false _ _ _ _ _ _ _ _ _ _ _ _ _ _ _ _ hm hacc' hlen (by omega) (by omega) (by omega) hg
      | succ j => exact ck_round_true _ _ _ _ _ _ _ _ _ _ _ _ _ _ _ _ hm hacc' hlen (by omega) (by omega) (by omega) hg)
    (fun M _ => by
      have := ck_end k0 i0 s0 t0 l0 f0 n0 d0 (msgsC items) vals items.length (k + items.length) v (msgsC (acc ++ items)) (decide (0 < items.length)) M
      rw [List.take_length, hn]
      exact this) (by simp)
  rcases this with ⟨r, hr, h⟩ | h
  · exact .inl ⟨r, hr, fun M hM => h M hM (by omega)⟩
  · exact .inr fun M hM => h M hM (by omega)
end Go.Proofs.YtjfheahakfoofaaGreatDoor

/- The check of a slot as a whole. -/
namespace Go.Proofs.YtjfheahakfoofaaGreatDoor
open Go.Em

def cvB (f : Bool) (k v : Nat) (acc : List (List X)) : List Bx := if f then [.var [.bs 2 0 k, nat v], .dead, .row 10 acc] else [.var [.bs 1 0 k, nat v], .row 10 acc]
def cvSt (f : Bool) (vals : List (List X)) (n j k v : Nat) (acc : List (List X)) : St := ⟨[(0, .ptr 0 0 0), (56, .sl false 6 vals), (57, nat n), (58, nat j)], cvB f k v acc⟩
def cvFin (f : Bool) (vals : List (List X)) (n j k v : Nat) (acc : List (List X)) : St := ⟨[(0, .ptr 0 0 0), (56, .sl false 6 vals), (57, nat n), (58, nat j), (59, boolX false)], cvB f k v acc⟩
theorem cv_round_false (vals : List (List X)) (n j k v : Nat) (acc : List (List X)) (x : Val) (hx : x.ok) (hj : j < n) (hn : n ≤ 60000) (hv : v ≤ 1000000) (hg : vals[j]? = some x.cells) :
    (∃ r, BadCk r ∧ ∀ M, 120040 ≤ M → run (callF tab ext M) 2 M (loopAt 67 1) (cvSt false vals n j k v acc) = some (.ret, r)) ∨
    (∃ υ, canon 2 υ = some (cvSt false vals n (j + 1) k (v + 1) acc) ∧ ∀ M, 120040 ≤ M → run (callF tab ext M) 2 M (loopAt 67 1) (cvSt false vals n j k v acc) = some (.norm, υ)) := by
  have hok := hx
  unfold Val.ok at hok
  obtain ⟨c, hc⟩ := (val_comes x hx).mono (show 60025 + x.size ≤ 120040 by omega)
  have hlt := lt_nat hj
  obtain ⟨a1, a2, a3, a4, a5, a6⟩ := x
  cases h1 : (Int.ofNat v == 4096) with
  | true =>
    exact .inl ⟨⟨[(4, num 9)], [.var [.bs 1 0 k, nat v], .row 10 acc, .var (Val.mk a1 a2 a3 a4 a5 a6).cells]⟩, .c _ _ _ _ _ (by decide), fun M hM => run_of [(59, .b true), (60, .e (Val.mk a1 a2 a3 a4 a5 a6).cells), (66, .b true)] [] (pf3 hlt hg h1) (lo' := []) (by kernel_rfl)⟩
  | false =>
    cases h2 : (!(c == 0)) with
    | true =>
      exact .inl ⟨⟨[(4, num c)], [.var [.bs 1 0 k, nat v], .row 10 acc, .var (Val.mk a1 a2 a3 a4 a5 a6).cells]⟩, .c _ _ _ _ _ (by intro h0; rw [h0] at h2; cases h2), fun M hM => run_of [(59, .b true), (60, .e (Val.mk a1 a2 a3 a4 a5 a6).cells), (66, .b false), (68, .p (num c)), (70, .b true)] [] (pf5 hlt hg h1 (hc M hM) h2) (lo' := []) (by kernel_rfl)⟩
    | false =>
      exact .inr ⟨⟨[(0, .ptr 0 0 0), (56, .sl false 6 vals), (57, nat n), (58, nat (j + 1))], [.var [.bs 1 0 k, nat (v + 1)], .row 10 acc, .var (Val.mk a1 a2 a3 a4 a5 a6).cells]⟩, by kernel_rfl, fun M hM => run_of [(59, .b true), (60, .e (Val.mk a1 a2 a3 a4 a5 a6).cells), (66, .b false), (68, .p (num c)), (70, .b false), (76, .i (Int.ofNat (v + 1))), (79, .i (Int.ofNat (j + 1)))] [] (pf7 hlt hg h1 (hc M hM) h2 (next_nat (j := v) (by omega)) (next_nat (j := j) (by omega))) (lo' := []) (by kernel_rfl)⟩
theorem cv_round_true (vals : List (List X)) (n j k v : Nat) (acc : List (List X)) (x : Val) (hx : x.ok) (hj : j < n) (hn : n ≤ 60000) (hv : v ≤ 1000000) (hg : vals[j]? = some x.cells) :
    (∃ r, BadCk r ∧ ∀ M, 120040 ≤ M → run (callF tab ext M) 2 M (loopAt 67 1) (cvSt true vals n j k v acc) = some (.ret, r)) ∨
    (∃ υ, canon 2 υ = some (cvSt true vals n (j + 1) k (v + 1) acc) ∧ ∀ M, 120040 ≤ M → run (callF tab ext M) 2 M (loopAt 67 1) (cvSt true vals n j k v acc) = some (.norm, υ)) := by
  have hok := hx
  unfold Val.ok at hok
  obtain ⟨c, hc⟩ := (val_comes x hx).mono (show 60025 + x.size ≤ 120040 by omega)
  have hlt := lt_nat hj
  obtain ⟨a1, a2, a3, a4, a5, a6⟩ := x
  cases h1 : (Int.ofNat v == 4096) with
  | true =>
    exact .inl ⟨⟨[(4, num 9)], [.var [.bs 2 0 k, nat v], .dead, .row 10 acc, .var (Val.mk a1 a2 a3 a4 a5 a6).cells]⟩, .d _ _ _ _ _ (by decide), fun M hM => run_of [(59, .b true), (60, .e (Val.mk a1 a2 a3 a4 a5 a6).cells), (66, .b true)] [] (pf3 hlt hg h1) (lo' := []) (by kernel_rfl)⟩
  | false =>
    cases h2 : (!(c == 0)) with
    | true =>
      exact .inl ⟨⟨[(4, num c)], [.var [.bs 2 0 k, nat v], .dead, .row 10 acc, .var (Val.mk a1 a2 a3 a4 a5 a6).cells]⟩, .d _ _ _ _ _ (by intro h0; rw [h0] at h2; cases h2), fun M hM => run_of [(59, .b true), (60, .e (Val.mk a1 a2 a3 a4 a5 a6).cells), (66, .b false), (68, .p (num c)), (70, .b true)] [] (pf5 hlt hg h1 (hc M hM) h2) (lo' := []) (by kernel_rfl)⟩
    | false =>
      exact .inr ⟨⟨[(0, .ptr 0 0 0), (56, .sl false 6 vals), (57, nat n), (58, nat (j + 1))], [.var [.bs 2 0 k, nat (v + 1)], .dead, .row 10 acc, .var (Val.mk a1 a2 a3 a4 a5 a6).cells]⟩, by kernel_rfl, fun M hM => run_of [(59, .b true), (60, .e (Val.mk a1 a2 a3 a4 a5 a6).cells), (66, .b false), (68, .p (num c)), (70, .b false), (76, .i (Int.ofNat (v + 1))), (79, .i (Int.ofNat (j + 1)))] [] (pf7 hlt hg h1 (hc M hM) h2 (next_nat (j := v) (by omega)) (next_nat (j := j) (by omega))) (lo' := []) (by kernel_rfl)⟩
theorem cv_loop (vs : List Val) (k v : Nat) (acc : List (List X)) (f : Bool) (hok : ∀ x, x ∈ vs → x.ok) (hl : vs.length ≤ 60000) (hv : v ≤ 900000) {τ : St} (hτ : canon 2 τ = some (cvSt f (cellsL vs) (cellsL vs).length 0 k v acc)) :
    (∃ r, BadCk r ∧ ∀ M, 120040 ≤ M → run (callF tab ext M) 2 M (.loop (loopAt 67 1)) τ = some (.ret, r)) ∨
    (∀ M, 120040 ≤ M → run (callF tab ext M) 2 M (.loop (loopAt 67 1)) τ = some (.exit 2, cvFin f (cellsL vs) (cellsL vs).length (cellsL vs).length k (v + (cellsL vs).length) acc)) := by
  have hn := cellsL_length vs
  have := scanN (nIn := 2) (B := 120040) (b := loopAt 67 1) (H := fun j => cvSt f (cellsL vs) (cellsL vs).length j k (v + j) acc) (τ := τ) (n := (cellsL vs).length) (e := .exit 2) (fin := cvFin f (cellsL vs) (cellsL vs).length (cellsL vs).length k (v + (cellsL vs).length) acc) BadCk hτ (fun j hj => by
      have hj' : j < vs.length := by omega
      have hg := cellsL_get hj'
      have hx := hok _ (List.getElem_mem hj')
      rw [show v + (j + 1) = v + j + 1 from rfl]
      cases f with
      | false => exact cv_round_false _ _ _ _ _ _ _ hx hj (by omega) (by omega) hg
      | true => exact cv_round_true _ _ _ _ _ _ _ hx hj (by omega) (by omega) hg)
    (fun M _ => by
      cases f with
      | false => exact run_of [(59, .b false)] [] (pf1 (nlt_nat (Nat.lt_irrefl (cellsL vs).length))) (lo' := []) (by kernel_rfl)
      | true => exact run_of [(59, .b false)] [] (pf1 (nlt_nat (Nat.lt_irrefl (cellsL vs).length))) (lo' := []) (by kernel_rfl)) (by simp)
  rcases this with ⟨r, hr, h⟩ | h
  · exact .inl ⟨r, hr, fun M hM => h M hM (by omega)⟩
  · exact .inr fun M hM => h M hM (by omega)

theorem bad_pack {r : St} (h : BadCk r) : ∃ (c : Int) (bx : List Bx), c ≠ 0 ∧ lk r.tm 4 = some (num c) ∧ pack 2 (num c) r.bx = some (num c, bx) := by
  cases h with
  | a c k v acc x y h => exact ⟨c, [.var [.bs 1 0 k, nat v], .row 10 acc], h, rfl, by kernel_rfl⟩
  | b c k v acc x y h => exact ⟨c, [.var [.bs 2 0 k, nat v], .dead, .row 10 acc], h, rfl, by kernel_rfl⟩
  | c c k v acc x h => exact ⟨c, [.var [.bs 1 0 k, nat v], .row 10 acc], h, rfl, by kernel_rfl⟩
  | d c k v acc x h => exact ⟨c, [.var [.bs 2 0 k, nat v], .dead, .row 10 acc], h, rfl, by kernel_rfl⟩
end Go.Proofs.YtjfheahakfoofaaGreatDoor

/- The check of a slot: what it says, and what it leaves with the checker. -/
namespace Go.Proofs.YtjfheahakfoofaaGreatDoor
open Go.Em

theorem slot_comes (s : Slt) (hs : s.ok) (acc : List Msg) (k v : Nat) (hacc : ∀ o, o ∈ acc → o.ok) (hk : k = acc.length) (hl : acc.length + s.items.length ≤ 60000) (hv : v ≤ 900000) :
    (∃ (c : Int) (f : Bool) (k1 v1 : Nat) (acc1 : List (List X)), c ≠ 0 ∧ ∀ N, 120050 ≤ N → callF tab ext N (.fn 67) [.ptr 0 0 0, .agg s.cells] [.var [.bs 1 0 k, nat v], .row 10 (msgsC acc)] = some (num c, cvB f k1 v1 acc1)) ∨
    (∀ N, 120050 ≤ N → callF tab ext N (.fn 67) [.ptr 0 0 0, .agg s.cells] [.var [.bs 1 0 k, nat v], .row 10 (msgsC acc)] = some (num 0, cvB (decide (0 < s.items.length)) (k + s.items.length) (v + (cellsL s.vals).length) (msgsC (acc ++ s.items)))) := by
  obtain ⟨c0, hc0⟩ := numbers_comes s.n s.t
  have hit := hs.item
  have hval := hs.val
  have hvl := hs.vals
  obtain ⟨⟨k0, i0, s0, t0, l0, f0⟩, n0, d0, items, vals⟩ := s
  dsimp only at hc0 hit hval hvl hl ⊢
  have hn := msgsC_length items
  cases h0 : (!(c0 == 0)) with
  | true =>
    left
    refine ⟨c0, false, k, v, msgsC acc, (by intro h; rw [h] at h0; cases h0), fun N hN => ?_⟩
    obtain ⟨M, rfl⟩ : ∃ M, N = M + 1 := ⟨N - 1, by omega⟩
    exact callF_of [(16, .p (num c0)), (18, .b true)] [] (pf2 (hc0 M (by omega)) h0) (by kernel_rfl)
  | false =>
    have hA := ck_items k0 i0 s0 t0 (cellsL l0) (cellsF f0) n0 d0 items (cellsL vals) k v acc hit hacc hk hl
    have hB : ∀ f, canon 2 ⟨[(0, .ptr 0 0 0), (56, .sl false 6 (cellsL vals)), (57, nat (cellsL vals).length), (58, nat 0)], ckB f (k + items.length) v (msgsC (acc ++ items)) (slotC k0 i0 s0 t0 (cellsL l0) (cellsF f0) n0 d0 (msgsC items) (cellsL vals))⟩ = some (cvSt f (cellsL vals) (cellsL vals).length 0 (k + items.length) v (msgsC (acc ++ items))) := fun f => by
      cases f <;> kernel_rfl
    have hC := cv_loop vals (k + items.length) v (msgsC (acc ++ items)) (decide (0 < items.length)) hval hvl hv (hB _)
    generalize decide (0 < items.length) = f at hA hC
    rcases hA with ⟨r, hr, hA⟩ | hA
    · cases hr with
      | a c k1 v1 acc1 x y h =>
        refine .inl ⟨c, false, k1, v1, acc1, h, fun N hN => ?_⟩
        obtain ⟨M, rfl⟩ : ∃ M, N = M + 1 := ⟨N - 1, by omega⟩
        exact callF_of [(16, .p (num c0)), (18, .b false)] [(.ret, ⟨[(4, num c)], [.var [.bs 1 0 k1, nat v1], .row 10 acc1, x, y]⟩)] (pf3 (hc0 M (by omega)) h0 (hA M (by omega))) (by kernel_rfl)
      | b c k1 v1 acc1 x y h =>
        refine .inl ⟨c, true, k1, v1, acc1, h, fun N hN => ?_⟩
        obtain ⟨M, rfl⟩ : ∃ M, N = M + 1 := ⟨N - 1, by omega⟩
        exact callF_of [(16, .p (num c0)), (18, .b false)] [(.ret, ⟨[(4, num c)], [.var [.bs 3 0 k1, nat v1], .dead, x, .row 10 acc1, y]⟩)] (pf3 (hc0 M (by omega)) h0 (hA M (by omega))) (by kernel_rfl)
      | c c k1 v1 acc1 x h =>
        refine .inl ⟨c, false, k1, v1, acc1, h, fun N hN => ?_⟩
        obtain ⟨M, rfl⟩ : ∃ M, N = M + 1 := ⟨N - 1, by omega⟩
        exact callF_of [(16, .p (num c0)), (18, .b false)] [(.ret, ⟨[(4, num c)], [.var [.bs 1 0 k1, nat v1], .row 10 acc1, x]⟩)] (pf3 (hc0 M (by omega)) h0 (hA M (by omega))) (by kernel_rfl)
      | d c k1 v1 acc1 x h =>
        refine .inl ⟨c, true, k1, v1, acc1, h, fun N hN => ?_⟩
        obtain ⟨M, rfl⟩ : ∃ M, N = M + 1 := ⟨N - 1, by omega⟩
        exact callF_of [(16, .p (num c0)), (18, .b false)] [(.ret, ⟨[(4, num c)], [.var [.bs 2 0 k1, nat v1], .dead, .row 10 acc1, x]⟩)] (pf3 (hc0 M (by omega)) h0 (hA M (by omega))) (by kernel_rfl)
    · rcases hC with ⟨r, hr, hC⟩ | hC
      · cases hr with
        | a c k1 v1 acc1 x y h =>
          refine .inl ⟨c, false, k1, v1, acc1, h, fun N hN => ?_⟩
          obtain ⟨M, rfl⟩ : ∃ M, N = M + 1 := ⟨N - 1, by omega⟩
          cases f with
          | false => exact callF_of [(16, .p (num c0)), (18, .b false)] [(.exit 0, ⟨[(0, .ptr 0 0 0), (3, .ptr 2 0 0), (21, .sl false 10 (msgsC items)), (22, nat (msgsC items).length), (23, nat (msgsC items).length), (24, boolX false)], ckB false (k + items.length) v (msgsC (acc ++ items)) (slotC k0 i0 s0 t0 (cellsL l0) (cellsF f0) n0 d0 (msgsC items) (cellsL vals))⟩), (.ret, ⟨[(4, num c)], [.var [.bs 1 0 k1, nat v1], .row 10 acc1, x, y]⟩)] (pf4 (hc0 M (by omega)) h0 (hA M (by omega)) (hC M (by omega))) (by kernel_rfl)
          | true => exact callF_of [(16, .p (num c0)), (18, .b false)] [(.exit 0, ⟨[(0, .ptr 0 0 0), (3, .ptr 2 0 0), (21, .sl false 10 (msgsC items)), (22, nat (msgsC items).length), (23, nat (msgsC items).length), (24, boolX false)], ckB true (k + items.length) v (msgsC (acc ++ items)) (slotC k0 i0 s0 t0 (cellsL l0) (cellsF f0) n0 d0 (msgsC items) (cellsL vals))⟩), (.ret, ⟨[(4, num c)], [.var [.bs 1 0 k1, nat v1], .row 10 acc1, x, y]⟩)] (pf4 (hc0 M (by omega)) h0 (hA M (by omega)) (hC M (by omega))) (by kernel_rfl)
        | b c k1 v1 acc1 x y h =>
          refine .inl ⟨c, true, k1, v1, acc1, h, fun N hN => ?_⟩
          obtain ⟨M, rfl⟩ : ∃ M, N = M + 1 := ⟨N - 1, by omega⟩
          cases f with
          | false => exact callF_of [(16, .p (num c0)), (18, .b false)] [(.exit 0, ⟨[(0, .ptr 0 0 0), (3, .ptr 2 0 0), (21, .sl false 10 (msgsC items)), (22, nat (msgsC items).length), (23, nat (msgsC items).length), (24, boolX false)], ckB false (k + items.length) v (msgsC (acc ++ items)) (slotC k0 i0 s0 t0 (cellsL l0) (cellsF f0) n0 d0 (msgsC items) (cellsL vals))⟩), (.ret, ⟨[(4, num c)], [.var [.bs 3 0 k1, nat v1], .dead, x, .row 10 acc1, y]⟩)] (pf4 (hc0 M (by omega)) h0 (hA M (by omega)) (hC M (by omega))) (by kernel_rfl)
          | true => exact callF_of [(16, .p (num c0)), (18, .b false)] [(.exit 0, ⟨[(0, .ptr 0 0 0), (3, .ptr 2 0 0), (21, .sl false 10 (msgsC items)), (22, nat (msgsC items).length), (23, nat (msgsC items).length), (24, boolX false)], ckB true (k + items.length) v (msgsC (acc ++ items)) (slotC k0 i0 s0 t0 (cellsL l0) (cellsF f0) n0 d0 (msgsC items) (cellsL vals))⟩), (.ret, ⟨[(4, num c)], [.var [.bs 3 0 k1, nat v1], .dead, x, .row 10 acc1, y]⟩)] (pf4 (hc0 M (by omega)) h0 (hA M (by omega)) (hC M (by omega))) (by kernel_rfl)
        | c c k1 v1 acc1 x h =>
          refine .inl ⟨c, false, k1, v1, acc1, h, fun N hN => ?_⟩
          obtain ⟨M, rfl⟩ : ∃ M, N = M + 1 := ⟨N - 1, by omega⟩
          cases f with
          | false => exact callF_of [(16, .p (num c0)), (18, .b false)] [(.exit 0, ⟨[(0, .ptr 0 0 0), (3, .ptr 2 0 0), (21, .sl false 10 (msgsC items)), (22, nat (msgsC items).length), (23, nat (msgsC items).length), (24, boolX false)], ckB false (k + items.length) v (msgsC (acc ++ items)) (slotC k0 i0 s0 t0 (cellsL l0) (cellsF f0) n0 d0 (msgsC items) (cellsL vals))⟩), (.ret, ⟨[(4, num c)], [.var [.bs 1 0 k1, nat v1], .row 10 acc1, x]⟩)] (pf4 (hc0 M (by omega)) h0 (hA M (by omega)) (hC M (by omega))) (by kernel_rfl)
          | true => exact callF_of [(16, .p (num c0)), (18, .b false)] [(.exit 0, ⟨[(0, .ptr 0 0 0), (3, .ptr 2 0 0), (21, .sl false 10 (msgsC items)), (22, nat (msgsC items).length), (23, nat (msgsC items).length), (24, boolX false)], ckB true (k + items.length) v (msgsC (acc ++ items)) (slotC k0 i0 s0 t0 (cellsL l0) (cellsF f0) n0 d0 (msgsC items) (cellsL vals))⟩), (.ret, ⟨[(4, num c)], [.var [.bs 1 0 k1, nat v1], .row 10 acc1, x]⟩)] (pf4 (hc0 M (by omega)) h0 (hA M (by omega)) (hC M (by omega))) (by kernel_rfl)
        | d c k1 v1 acc1 x h =>
          refine .inl ⟨c, true, k1, v1, acc1, h, fun N hN => ?_⟩
          obtain ⟨M, rfl⟩ : ∃ M, N = M + 1 := ⟨N - 1, by omega⟩
          cases f with
          | false => exact callF_of [(16, .p (num c0)), (18, .b false)] [(.exit 0, ⟨[(0, .ptr 0 0 0), (3, .ptr 2 0 0), (21, .sl false 10 (msgsC items)), (22, nat (msgsC items).length), (23, nat (msgsC items).length), (24, boolX false)], ckB false (k + items.length) v (msgsC (acc ++ items)) (slotC k0 i0 s0 t0 (cellsL l0) (cellsF f0) n0 d0 (msgsC items) (cellsL vals))⟩), (.ret, ⟨[(4, num c)], [.var [.bs 2 0 k1, nat v1], .dead, .row 10 acc1, x]⟩)] (pf4 (hc0 M (by omega)) h0 (hA M (by omega)) (hC M (by omega))) (by kernel_rfl)
          | true => exact callF_of [(16, .p (num c0)), (18, .b false)] [(.exit 0, ⟨[(0, .ptr 0 0 0), (3, .ptr 2 0 0), (21, .sl false 10 (msgsC items)), (22, nat (msgsC items).length), (23, nat (msgsC items).length), (24, boolX false)], ckB true (k + items.length) v (msgsC (acc ++ items)) (slotC k0 i0 s0 t0 (cellsL l0) (cellsF f0) n0 d0 (msgsC items) (cellsL vals))⟩), (.ret, ⟨[(4, num c)], [.var [.bs 2 0 k1, nat v1], .dead, .row 10 acc1, x]⟩)] (pf4 (hc0 M (by omega)) h0 (hA M (by omega)) (hC M (by omega))) (by kernel_rfl)
      · right
        intro N hN
        obtain ⟨M, rfl⟩ : ∃ M, N = M + 1 := ⟨N - 1, by omega⟩
        cases f with
        | false => exact callF_of [(16, .p (num c0)), (18, .b false)] [(.exit 0, ⟨[(0, .ptr 0 0 0), (3, .ptr 2 0 0), (21, .sl false 10 (msgsC items)), (22, nat (msgsC items).length), (23, nat (msgsC items).length), (24, boolX false)], ckB false (k + items.length) v (msgsC (acc ++ items)) (slotC k0 i0 s0 t0 (cellsL l0) (cellsF f0) n0 d0 (msgsC items) (cellsL vals))⟩), (.exit 2, cvFin false (cellsL vals) (cellsL vals).length (cellsL vals).length (k + items.length) (v + (cellsL vals).length) (msgsC (acc ++ items)))] (pf4 (hc0 M (by omega)) h0 (hA M (by omega)) (hC M (by omega))) (by kernel_rfl)
        | true => exact callF_of [(16, .p (num c0)), (18, .b false)] [(.exit 0, ⟨[(0, .ptr 0 0 0), (3, .ptr 2 0 0), (21, .sl false 10 (msgsC items)), (22, nat (msgsC items).length), (23, nat (msgsC items).length), (24, boolX false)], ckB true (k + items.length) v (msgsC (acc ++ items)) (slotC k0 i0 s0 t0 (cellsL l0) (cellsF f0) n0 d0 (msgsC items) (cellsL vals))⟩), (.exit 2, cvFin true (cellsL vals) (cellsL vals).length (cellsL vals).length (k + items.length) (v + (cellsL vals).length) (msgsC (acc ++ items)))] (pf4 (hc0 M (by omega)) h0 (hA M (by omega)) (hC M (by omega))) (by kernel_rfl)
end Go.Proofs.YtjfheahakfoofaaGreatDoor

/- The check of a state comes to an end. -/
namespace Go.Proofs.YtjfheahakfoofaaGreatDoor
open Go.Em

def scSt (st slots : List (List X)) (n j k v : Nat) (acc : List (List X)) (a b : Int) : St :=
  ⟨[(1, .ptr 0 0 0), (4, .ptr 1 0 0), (22, .sl false 10 slots), (23, nat n), (24, nat j)], [.var [num a, num b, .sl false 10 st], .var [.bs 2 0 k, nat v], .row 10 acc]⟩
/-- What a round of the check of a state comes to. -/
def ScRound (slots : List (List X)) (n j k v : Nat) (acc acc' : List (List X)) (a b : Int) (k' v' : Nat) : Prop :=
  (∃ r, (∃ (c : Int) (bx : List Bx), r = ⟨[(2, num c)], bx⟩) ∧ ∀ M, 190050 ≤ M → run (callF tab ext M) 0 M (loopAt 27 0) (scSt slots slots n j k v acc a b) = some (.ret, r)) ∨
  (∃ υ, canon 0 υ = some (scSt slots slots n (j + 1) k' v' acc' a b) ∧ ∀ M, 190050 ≤ M → run (callF tab ext M) 0 M (loopAt 27 0) (scSt slots slots n j k v acc a b) = some (.norm, υ))
theorem sc_round (slots : List (List X)) (n j k v : Nat) (acc : List Msg) (a b : Int) (x : Slt) (hx : x.ok) (hacc : ∀ o, o ∈ acc → o.ok) (hk : k = acc.length) (hl : acc.length + x.items.length ≤ 60000) (hv : v ≤ 900000) (hj : j < n) (hn : n ≤ 60000) (hg : slots[j]? = some x.cells)
    (hprev : ∀ i, j = i + 1 → ∃ p : Slt, p.ok ∧ slots[i]? = some p.cells) :
    ScRound slots n j k v (msgsC acc) (msgsC (acc ++ x.items)) a b (k + x.items.length) (v + (cellsL x.vals).length) := by
  obtain ⟨ce, hce⟩ := (val_comes x.key hx.key).mono (show 60025 + x.key.size ≤ 120040 by have := hx.key; unfold Val.ok at this; omega)
  have hz : ∀ N, 120040 ≤ N → Gam.pureD (callF tab ext N) 28 [.agg x.key.cells] = some (boolX (nullV x.key)) := fun N hN => null_at x.key N (by omega)
  have hcmp : ∀ (p : Slt) N, 190050 ≤ N → Gam.pureD (callF tab ext N) 66 [.agg x.key.cells, .agg p.key.cells] = some (num (cmpV x.key p.key)) := fun p N hN => cmp_val x.key.size N x.key p.key (Nat.le_refl _) (by have := hx.key; unfold Val.ok at this; omega) (by have := hx.key; unfold Val.ok at this; omega)
  have hs := slot_comes x hx acc k v hacc hk hl hv
  have hlt := lt_nat hj
  generalize nullV x.key = z at hz
  obtain ⟨⟨k0, i0, s0, t0, l0, f0⟩, n0, d0, items, vals⟩ := x
  dsimp only at hce hz hcmp hs hl ⊢
  unfold ScRound
  cases j with
  | zero =>
    cases h1 : (!(ce == 0)) with
    | true =>
      cases z with
      | true =>
        rcases hs with ⟨c, f, k1, v1, acc1, hc, hs⟩ | hs
        · have hne := ne_true hc
          cases f with
          | false => exact .inl ⟨⟨[(2, num c)], [.var [num a, num b, .sl false 10 slots], .var [.bs 2 0 k1, nat v1], .row 10 acc1, .var (slotC k0 i0 s0 t0 (cellsL l0) (cellsF f0) n0 d0 (msgsC items) (cellsL vals))]⟩, ⟨_, _, rfl⟩, fun M hM => run_of [(25, .b true), (27, .e (slotC k0 i0 s0 t0 (cellsL l0) (cellsF f0) n0 d0 (msgsC items) (cellsL vals))), (31, .p (num ce)), (33, .b true), (37, .p (boolX true)), (42, .b false), (58, .r (num c) (cvB false k1 v1 acc1)), (60, .b true)] [] (pf8 hlt hg (hce M (by omega)) h1 (hz M (by omega)) zero_nat (hs M (by omega)) hne) (lo' := []) (by kernel_rfl)⟩
          | true => exact .inl ⟨⟨[(2, num c)], [.var [num a, num b, .sl false 10 slots], .var [.bs 4 0 k1, nat v1], .dead, .var (slotC k0 i0 s0 t0 (cellsL l0) (cellsF f0) n0 d0 (msgsC items) (cellsL vals)), .row 10 acc1]⟩, ⟨_, _, rfl⟩, fun M hM => run_of [(25, .b true), (27, .e (slotC k0 i0 s0 t0 (cellsL l0) (cellsF f0) n0 d0 (msgsC items) (cellsL vals))), (31, .p (num ce)), (33, .b true), (37, .p (boolX true)), (42, .b false), (58, .r (num c) (cvB true k1 v1 acc1)), (60, .b true)] [] (pf8 hlt hg (hce M (by omega)) h1 (hz M (by omega)) zero_nat (hs M (by omega)) hne) (lo' := []) (by kernel_rfl)⟩
        · generalize hf : decide (0 < items.length) = f at hs
          cases f with
          | false =>
            exact .inr ⟨⟨[(1, .ptr 0 0 0), (4, .ptr 1 0 0), (22, .sl false 10 slots), (23, nat n), (24, nat (0 + 1))], [.var [num a, num b, .sl false 10 slots], .var [.bs 2 0 (k + items.length), nat (v + (cellsL vals).length)], .row 10 (msgsC (acc ++ items)), .var (slotC k0 i0 s0 t0 (cellsL l0) (cellsF f0) n0 d0 (msgsC items) (cellsL vals))]⟩, by kernel_rfl, fun M hM => run_of [(25, .b true), (27, .e (slotC k0 i0 s0 t0 (cellsL l0) (cellsF f0) n0 d0 (msgsC items) (cellsL vals))), (31, .p (num ce)), (33, .b true), (37, .p (boolX true)), (42, .b false), (58, .r (num 0) (cvB false (k + items.length) (v + (cellsL vals).length) (msgsC (acc ++ items)))), (62, .i (Int.ofNat (0 + 1)))] [] (pf8 hlt hg (hce M (by omega)) h1 (hz M (by omega)) zero_nat (hs M (by omega)) (next_nat (j := 0) (by omega))) (lo' := []) (by kernel_rfl)⟩
          | true =>
            exact .inr ⟨⟨[(1, .ptr 0 0 0), (4, .ptr 1 0 0), (22, .sl false 10 slots), (23, nat n), (24, nat (0 + 1))], [.var [num a, num b, .sl false 10 slots], .var [.bs 4 0 (k + items.length), nat (v + (cellsL vals).length)], .dead, .var (slotC k0 i0 s0 t0 (cellsL l0) (cellsF f0) n0 d0 (msgsC items) (cellsL vals)), .row 10 (msgsC (acc ++ items))]⟩, by kernel_rfl, fun M hM => run_of [(25, .b true), (27, .e (slotC k0 i0 s0 t0 (cellsL l0) (cellsF f0) n0 d0 (msgsC items) (cellsL vals))), (31, .p (num ce)), (33, .b true), (37, .p (boolX true)), (42, .b false), (58, .r (num 0) (cvB true (k + items.length) (v + (cellsL vals).length) (msgsC (acc ++ items)))), (62, .i (Int.ofNat (0 + 1)))] [] (pf8 hlt hg (hce M (by omega)) h1 (hz M (by omega)) zero_nat (hs M (by omega)) (next_nat (j := 0) (by omega))) (lo' := []) (by kernel_rfl)⟩
      | false =>
        exact .inl ⟨⟨[(2, num ce)], [.var [num a, num b, .sl false 10 slots], .var [.bs 2 0 k, nat v], .row 10 (msgsC acc), .var (slotC k0 i0 s0 t0 (cellsL l0) (cellsF f0) n0 d0 (msgsC items) (cellsL vals))]⟩, ⟨_, _, rfl⟩, fun M hM => run_of [(25, .b true), (27, .e (slotC k0 i0 s0 t0 (cellsL l0) (cellsF f0) n0 d0 (msgsC items) (cellsL vals))), (31, .p (num ce)), (33, .b true), (37, .p (boolX false))] [] (pf5 hlt hg (hce M (by omega)) h1 (hz M (by omega))) (lo' := []) (by kernel_rfl)⟩
    | false =>
      rcases hs with ⟨c, f, k1, v1, acc1, hc, hs⟩ | hs
      · have hne := ne_true hc
        cases f with
        | false => exact .inl ⟨⟨[(2, num c)], [.var [num a, num b, .sl false 10 slots], .var [.bs 2 0 k1, nat v1], .row 10 acc1, .var (slotC k0 i0 s0 t0 (cellsL l0) (cellsF f0) n0 d0 (msgsC items) (cellsL vals))]⟩, ⟨_, _, rfl⟩, fun M hM => run_of [(25, .b true), (27, .e (slotC k0 i0 s0 t0 (cellsL l0) (cellsF f0) n0 d0 (msgsC items) (cellsL vals))), (31, .p (num ce)), (33, .b false), (42, .b false), (58, .r (num c) (cvB false k1 v1 acc1)), (60, .b true)] [] (pf7 hlt hg (hce M (by omega)) h1 zero_nat (hs M (by omega)) hne) (lo' := []) (by kernel_rfl)⟩
        | true => exact .inl ⟨⟨[(2, num c)], [.var [num a, num b, .sl false 10 slots], .var [.bs 4 0 k1, nat v1], .dead, .var (slotC k0 i0 s0 t0 (cellsL l0) (cellsF f0) n0 d0 (msgsC items) (cellsL vals)), .row 10 acc1]⟩, ⟨_, _, rfl⟩, fun M hM => run_of [(25, .b true), (27, .e (slotC k0 i0 s0 t0 (cellsL l0) (cellsF f0) n0 d0 (msgsC items) (cellsL vals))), (31, .p (num ce)), (33, .b false), (42, .b false), (58, .r (num c) (cvB true k1 v1 acc1)), (60, .b true)] [] (pf7 hlt hg (hce M (by omega)) h1 zero_nat (hs M (by omega)) hne) (lo' := []) (by kernel_rfl)⟩
      · generalize hf : decide (0 < items.length) = f at hs
        cases f with
        | false =>
          exact .inr ⟨⟨[(1, .ptr 0 0 0), (4, .ptr 1 0 0), (22, .sl false 10 slots), (23, nat n), (24, nat (0 + 1))], [.var [num a, num b, .sl false 10 slots], .var [.bs 2 0 (k + items.length), nat (v + (cellsL vals).length)], .row 10 (msgsC (acc ++ items)), .var (slotC k0 i0 s0 t0 (cellsL l0) (cellsF f0) n0 d0 (msgsC items) (cellsL vals))]⟩, by kernel_rfl, fun M hM => run_of [(25, .b true), (27, .e (slotC k0 i0 s0 t0 (cellsL l0) (cellsF f0) n0 d0 (msgsC items) (cellsL vals))), (31, .p (num ce)), (33, .b false), (42, .b false), (58, .r (num 0) (cvB false (k + items.length) (v + (cellsL vals).length) (msgsC (acc ++ items)))), (62, .i (Int.ofNat (0 + 1)))] [] (pf7 hlt hg (hce M (by omega)) h1 zero_nat (hs M (by omega)) (next_nat (j := 0) (by omega))) (lo' := []) (by kernel_rfl)⟩
        | true =>
          exact .inr ⟨⟨[(1, .ptr 0 0 0), (4, .ptr 1 0 0), (22, .sl false 10 slots), (23, nat n), (24, nat (0 + 1))], [.var [num a, num b, .sl false 10 slots], .var [.bs 4 0 (k + items.length), nat (v + (cellsL vals).length)], .dead, .var (slotC k0 i0 s0 t0 (cellsL l0) (cellsF f0) n0 d0 (msgsC items) (cellsL vals)), .row 10 (msgsC (acc ++ items))]⟩, by kernel_rfl, fun M hM => run_of [(25, .b true), (27, .e (slotC k0 i0 s0 t0 (cellsL l0) (cellsF f0) n0 d0 (msgsC items) (cellsL vals))), (31, .p (num ce)), (33, .b false), (42, .b false), (58, .r (num 0) (cvB true (k + items.length) (v + (cellsL vals).length) (msgsC (acc ++ items)))), (62, .i (Int.ofNat (0 + 1)))] [] (pf7 hlt hg (hce M (by omega)) h1 zero_nat (hs M (by omega)) (next_nat (j := 0) (by omega))) (lo' := []) (by kernel_rfl)⟩
  | succ j =>
    obtain ⟨p, hpo, hp⟩ := hprev j rfl
    have hcc := hcmp p
    generalize cmpV (Val.mk k0 i0 s0 t0 l0 f0) p.key = cc at hcc
    obtain ⟨⟨p0, p1, p2, p3, p4, p5⟩, p6, p7, p8, p9⟩ := p
    cases h1 : (!(ce == 0)) with
    | true =>
      cases z with
      | true =>
        cases h2 : (cc == 0) with
        | true =>
          exact .inl ⟨⟨[(2, num 7)], [.var [num a, num b, .sl false 10 slots], .var [.bs 2 0 k, nat v], .row 10 (msgsC acc), .var (slotC k0 i0 s0 t0 (cellsL l0) (cellsF f0) n0 d0 (msgsC items) (cellsL vals))]⟩, ⟨_, _, rfl⟩, fun M hM => run_of [(25, .b true), (27, .e (slotC k0 i0 s0 t0 (cellsL l0) (cellsF f0) n0 d0 (msgsC items) (cellsL vals))), (31, .p (num ce)), (33, .b true), (37, .p (boolX true)), (42, .b true), (48, .i (Int.ofNat j)), (49, .e (slotC p0 p1 p2 p3 (cellsL p4) (cellsF p5) p6 p7 (msgsC p8) (cellsL p9))), (52, .p (num cc)), (54, .b true)] [] (pf10 hlt hg (hce M (by omega)) h1 (hz M (by omega)) (pos_nat (j := j)) (pred_nat (j := j) (by omega)) hp (hcc M hM) h2) (lo' := []) (by kernel_rfl)⟩
        | false =>
          cases h3 : (cc == -1) with
          | true =>
            exact .inl ⟨⟨[(2, num 24)], [.var [num a, num b, .sl false 10 slots], .var [.bs 2 0 k, nat v], .row 10 (msgsC acc), .var (slotC k0 i0 s0 t0 (cellsL l0) (cellsF f0) n0 d0 (msgsC items) (cellsL vals))]⟩, ⟨_, _, rfl⟩, fun M hM => run_of [(25, .b true), (27, .e (slotC k0 i0 s0 t0 (cellsL l0) (cellsF f0) n0 d0 (msgsC items) (cellsL vals))), (31, .p (num ce)), (33, .b true), (37, .p (boolX true)), (42, .b true), (48, .i (Int.ofNat j)), (49, .e (slotC p0 p1 p2 p3 (cellsL p4) (cellsF p5) p6 p7 (msgsC p8) (cellsL p9))), (52, .p (num cc)), (54, .b false), (56, .b true)] [] (pf11 hlt hg (hce M (by omega)) h1 (hz M (by omega)) (pos_nat (j := j)) (pred_nat (j := j) (by omega)) hp (hcc M hM) h2 h3) (lo' := []) (by kernel_rfl)⟩
          | false =>
            rcases hs with ⟨c, f, k1, v1, acc1, hc, hs⟩ | hs
            · have hne := ne_true hc
              cases f with
              | false => exact .inl ⟨⟨[(2, num c)], [.var [num a, num b, .sl false 10 slots], .var [.bs 2 0 k1, nat v1], .row 10 acc1, .var (slotC k0 i0 s0 t0 (cellsL l0) (cellsF f0) n0 d0 (msgsC items) (cellsL vals))]⟩, ⟨_, _, rfl⟩, fun M hM => run_of [(25, .b true), (27, .e (slotC k0 i0 s0 t0 (cellsL l0) (cellsF f0) n0 d0 (msgsC items) (cellsL vals))), (31, .p (num ce)), (33, .b true), (37, .p (boolX true)), (42, .b true), (48, .i (Int.ofNat j)), (49, .e (slotC p0 p1 p2 p3 (cellsL p4) (cellsF p5) p6 p7 (msgsC p8) (cellsL p9))), (52, .p (num cc)), (54, .b false), (56, .b false), (58, .r (num c) (cvB false k1 v1 acc1)), (60, .b true)] [] (pf13 hlt hg (hce M (by omega)) h1 (hz M (by omega)) (pos_nat (j := j)) (pred_nat (j := j) (by omega)) hp (hcc M hM) h2 h3 (hs M (by omega)) hne) (lo' := []) (by kernel_rfl)⟩
              | true => exact .inl ⟨⟨[(2, num c)], [.var [num a, num b, .sl false 10 slots], .var [.bs 4 0 k1, nat v1], .dead, .var (slotC k0 i0 s0 t0 (cellsL l0) (cellsF f0) n0 d0 (msgsC items) (cellsL vals)), .row 10 acc1]⟩, ⟨_, _, rfl⟩, fun M hM => run_of [(25, .b true), (27, .e (slotC k0 i0 s0 t0 (cellsL l0) (cellsF f0) n0 d0 (msgsC items) (cellsL vals))), (31, .p (num ce)), (33, .b true), (37, .p (boolX true)), (42, .b true), (48, .i (Int.ofNat j)), (49, .e (slotC p0 p1 p2 p3 (cellsL p4) (cellsF p5) p6 p7 (msgsC p8) (cellsL p9))), (52, .p (num cc)), (54, .b false), (56, .b false), (58, .r (num c) (cvB true k1 v1 acc1)), (60, .b true)] [] (pf13 hlt hg (hce M (by omega)) h1 (hz M (by omega)) (pos_nat (j := j)) (pred_nat (j := j) (by omega)) hp (hcc M hM) h2 h3 (hs M (by omega)) hne) (lo' := []) (by kernel_rfl)⟩
            · generalize hf : decide (0 < items.length) = f at hs
              cases f with
              | false =>
                exact .inr ⟨⟨[(1, .ptr 0 0 0), (4, .ptr 1 0 0), (22, .sl false 10 slots), (23, nat n), (24, nat ((j + 1) + 1))], [.var [num a, num b, .sl false 10 slots], .var [.bs 2 0 (k + items.length), nat (v + (cellsL vals).length)], .row 10 (msgsC (acc ++ items)), .var (slotC k0 i0 s0 t0 (cellsL l0) (cellsF f0) n0 d0 (msgsC items) (cellsL vals))]⟩, by kernel_rfl, fun M hM => run_of [(25, .b true), (27, .e (slotC k0 i0 s0 t0 (cellsL l0) (cellsF f0) n0 d0 (msgsC items) (cellsL vals))), (31, .p (num ce)), (33, .b true), (37, .p (boolX true)), (42, .b true), (48, .i (Int.ofNat j)), (49, .e (slotC p0 p1 p2 p3 (cellsL p4) (cellsF p5) p6 p7 (msgsC p8) (cellsL p9))), (52, .p (num cc)), (54, .b false), (56, .b false), (58, .r (num 0) (cvB false (k + items.length) (v + (cellsL vals).length) (msgsC (acc ++ items)))), (62, .i (Int.ofNat ((j + 1) + 1)))] [] (pf13 hlt hg (hce M (by omega)) h1 (hz M (by omega)) (pos_nat (j := j)) (pred_nat (j := j) (by omega)) hp (hcc M hM) h2 h3 (hs M (by omega)) (next_nat (j := (j + 1)) (by omega))) (lo' := []) (by kernel_rfl)⟩
              | true =>
                exact .inr ⟨⟨[(1, .ptr 0 0 0), (4, .ptr 1 0 0), (22, .sl false 10 slots), (23, nat n), (24, nat ((j + 1) + 1))], [.var [num a, num b, .sl false 10 slots], .var [.bs 4 0 (k + items.length), nat (v + (cellsL vals).length)], .dead, .var (slotC k0 i0 s0 t0 (cellsL l0) (cellsF f0) n0 d0 (msgsC items) (cellsL vals)), .row 10 (msgsC (acc ++ items))]⟩, by kernel_rfl, fun M hM => run_of [(25, .b true), (27, .e (slotC k0 i0 s0 t0 (cellsL l0) (cellsF f0) n0 d0 (msgsC items) (cellsL vals))), (31, .p (num ce)), (33, .b true), (37, .p (boolX true)), (42, .b true), (48, .i (Int.ofNat j)), (49, .e (slotC p0 p1 p2 p3 (cellsL p4) (cellsF p5) p6 p7 (msgsC p8) (cellsL p9))), (52, .p (num cc)), (54, .b false), (56, .b false), (58, .r (num 0) (cvB true (k + items.length) (v + (cellsL vals).length) (msgsC (acc ++ items)))), (62, .i (Int.ofNat ((j + 1) + 1)))] [] (pf13 hlt hg (hce M (by omega)) h1 (hz M (by omega)) (pos_nat (j := j)) (pred_nat (j := j) (by omega)) hp (hcc M hM) h2 h3 (hs M (by omega)) (next_nat (j := (j + 1)) (by omega))) (lo' := []) (by kernel_rfl)⟩
      | false =>
        exact .inl ⟨⟨[(2, num ce)], [.var [num a, num b, .sl false 10 slots], .var [.bs 2 0 k, nat v], .row 10 (msgsC acc), .var (slotC k0 i0 s0 t0 (cellsL l0) (cellsF f0) n0 d0 (msgsC items) (cellsL vals))]⟩, ⟨_, _, rfl⟩, fun M hM => run_of [(25, .b true), (27, .e (slotC k0 i0 s0 t0 (cellsL l0) (cellsF f0) n0 d0 (msgsC items) (cellsL vals))), (31, .p (num ce)), (33, .b true), (37, .p (boolX false))] [] (pf5 hlt hg (hce M (by omega)) h1 (hz M (by omega))) (lo' := []) (by kernel_rfl)⟩
    | false =>
      cases h4 : (cc == 0) with
      | true =>
        exact .inl ⟨⟨[(2, num 7)], [.var [num a, num b, .sl false 10 slots], .var [.bs 2 0 k, nat v], .row 10 (msgsC acc), .var (slotC k0 i0 s0 t0 (cellsL l0) (cellsF f0) n0 d0 (msgsC items) (cellsL vals))]⟩, ⟨_, _, rfl⟩, fun M hM => run_of [(25, .b true), (27, .e (slotC k0 i0 s0 t0 (cellsL l0) (cellsF f0) n0 d0 (msgsC items) (cellsL vals))), (31, .p (num ce)), (33, .b false), (42, .b true), (48, .i (Int.ofNat j)), (49, .e (slotC p0 p1 p2 p3 (cellsL p4) (cellsF p5) p6 p7 (msgsC p8) (cellsL p9))), (52, .p (num cc)), (54, .b true)] [] (pf9 hlt hg (hce M (by omega)) h1 (pos_nat (j := j)) (pred_nat (j := j) (by omega)) hp (hcc M hM) h4) (lo' := []) (by kernel_rfl)⟩
      | false =>
        cases h5 : (cc == -1) with
        | true =>
          exact .inl ⟨⟨[(2, num 24)], [.var [num a, num b, .sl false 10 slots], .var [.bs 2 0 k, nat v], .row 10 (msgsC acc), .var (slotC k0 i0 s0 t0 (cellsL l0) (cellsF f0) n0 d0 (msgsC items) (cellsL vals))]⟩, ⟨_, _, rfl⟩, fun M hM => run_of [(25, .b true), (27, .e (slotC k0 i0 s0 t0 (cellsL l0) (cellsF f0) n0 d0 (msgsC items) (cellsL vals))), (31, .p (num ce)), (33, .b false), (42, .b true), (48, .i (Int.ofNat j)), (49, .e (slotC p0 p1 p2 p3 (cellsL p4) (cellsF p5) p6 p7 (msgsC p8) (cellsL p9))), (52, .p (num cc)), (54, .b false), (56, .b true)] [] (pf10 hlt hg (hce M (by omega)) h1 (pos_nat (j := j)) (pred_nat (j := j) (by omega)) hp (hcc M hM) h4 h5) (lo' := []) (by kernel_rfl)⟩
        | false =>
          rcases hs with ⟨c, f, k1, v1, acc1, hc, hs⟩ | hs
          · have hne := ne_true hc
            cases f with
            | false => exact .inl ⟨⟨[(2, num c)], [.var [num a, num b, .sl false 10 slots], .var [.bs 2 0 k1, nat v1], .row 10 acc1, .var (slotC k0 i0 s0 t0 (cellsL l0) (cellsF f0) n0 d0 (msgsC items) (cellsL vals))]⟩, ⟨_, _, rfl⟩, fun M hM => run_of [(25, .b true), (27, .e (slotC k0 i0 s0 t0 (cellsL l0) (cellsF f0) n0 d0 (msgsC items) (cellsL vals))), (31, .p (num ce)), (33, .b false), (42, .b true), (48, .i (Int.ofNat j)), (49, .e (slotC p0 p1 p2 p3 (cellsL p4) (cellsF p5) p6 p7 (msgsC p8) (cellsL p9))), (52, .p (num cc)), (54, .b false), (56, .b false), (58, .r (num c) (cvB false k1 v1 acc1)), (60, .b true)] [] (pf12 hlt hg (hce M (by omega)) h1 (pos_nat (j := j)) (pred_nat (j := j) (by omega)) hp (hcc M hM) h4 h5 (hs M (by omega)) hne) (lo' := []) (by kernel_rfl)⟩
            | true => exact .inl ⟨⟨[(2, num c)], [.var [num a, num b, .sl false 10 slots], .var [.bs 4 0 k1, nat v1], .dead, .var (slotC k0 i0 s0 t0 (cellsL l0) (cellsF f0) n0 d0 (msgsC items) (cellsL vals)), .row 10 acc1]⟩, ⟨_, _, rfl⟩, fun M hM => run_of [(25, .b true), (27, .e (slotC k0 i0 s0 t0 (cellsL l0) (cellsF f0) n0 d0 (msgsC items) (cellsL vals))), (31, .p (num ce)), (33, .b false), (42, .b true), (48, .i (Int.ofNat j)), (49, .e (slotC p0 p1 p2 p3 (cellsL p4) (cellsF p5) p6 p7 (msgsC p8) (cellsL p9))), (52, .p (num cc)), (54, .b false), (56, .b false), (58, .r (num c) (cvB true k1 v1 acc1)), (60, .b true)] [] (pf12 hlt hg (hce M (by omega)) h1 (pos_nat (j := j)) (pred_nat (j := j) (by omega)) hp (hcc M hM) h4 h5 (hs M (by omega)) hne) (lo' := []) (by kernel_rfl)⟩
          · generalize hf : decide (0 < items.length) = f at hs
            cases f with
            | false =>
              exact .inr ⟨⟨[(1, .ptr 0 0 0), (4, .ptr 1 0 0), (22, .sl false 10 slots), (23, nat n), (24, nat ((j + 1) + 1))], [.var [num a, num b, .sl false 10 slots], .var [.bs 2 0 (k + items.length), nat (v + (cellsL vals).length)], .row 10 (msgsC (acc ++ items)), .var (slotC k0 i0 s0 t0 (cellsL l0) (cellsF f0) n0 d0 (msgsC items) (cellsL vals))]⟩, by kernel_rfl, fun M hM => run_of [(25, .b true), (27, .e (slotC k0 i0 s0 t0 (cellsL l0) (cellsF f0) n0 d0 (msgsC items) (cellsL vals))), (31, .p (num ce)), (33, .b false), (42, .b true), (48, .i (Int.ofNat j)), (49, .e (slotC p0 p1 p2 p3 (cellsL p4) (cellsF p5) p6 p7 (msgsC p8) (cellsL p9))), (52, .p (num cc)), (54, .b false), (56, .b false), (58, .r (num 0) (cvB false (k + items.length) (v + (cellsL vals).length) (msgsC (acc ++ items)))), (62, .i (Int.ofNat ((j + 1) + 1)))] [] (pf12 hlt hg (hce M (by omega)) h1 (pos_nat (j := j)) (pred_nat (j := j) (by omega)) hp (hcc M hM) h4 h5 (hs M (by omega)) (next_nat (j := (j + 1)) (by omega))) (lo' := []) (by kernel_rfl)⟩
            | true =>
              exact .inr ⟨⟨[(1, .ptr 0 0 0), (4, .ptr 1 0 0), (22, .sl false 10 slots), (23, nat n), (24, nat ((j + 1) + 1))], [.var [num a, num b, .sl false 10 slots], .var [.bs 4 0 (k + items.length), nat (v + (cellsL vals).length)], .dead, .var (slotC k0 i0 s0 t0 (cellsL l0) (cellsF f0) n0 d0 (msgsC items) (cellsL vals)), .row 10 (msgsC (acc ++ items))]⟩, by kernel_rfl, fun M hM => run_of [(25, .b true), (27, .e (slotC k0 i0 s0 t0 (cellsL l0) (cellsF f0) n0 d0 (msgsC items) (cellsL vals))), (31, .p (num ce)), (33, .b false), (42, .b true), (48, .i (Int.ofNat j)), (49, .e (slotC p0 p1 p2 p3 (cellsL p4) (cellsF p5) p6 p7 (msgsC p8) (cellsL p9))), (52, .p (num cc)), (54, .b false), (56, .b false), (58, .r (num 0) (cvB true (k + items.length) (v + (cellsL vals).length) (msgsC (acc ++ items)))), (62, .i (Int.ofNat ((j + 1) + 1)))] [] (pf12 hlt hg (hce M (by omega)) h1 (pos_nat (j := j)) (pred_nat (j := j) (by omega)) hp (hcc M hM) h4 h5 (hs M (by omega)) (next_nat (j := (j + 1)) (by omega))) (lo' := []) (by kernel_rfl)⟩
end Go.Proofs.YtjfheahakfoofaaGreatDoor
