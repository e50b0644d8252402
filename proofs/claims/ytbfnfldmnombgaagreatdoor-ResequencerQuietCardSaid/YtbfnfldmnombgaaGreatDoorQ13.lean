/- The rules of the kinds of values come to an end. -/
import Derived.Test.YtbfnfldmnombgaaGreatDoorQ12
namespace Go.Proofs.YtbfnfldmnombgaaGreatDoor
open Go.Em
set_option maxRecDepth 100000

/-- A loop that looks for something: it returns at some round, or comes to its end. -/
theorem scan {b : C} {H : Nat → St} {e : Ex} {fin τ : St} {n B : Nat} (good : St → Prop) (h0 : canon 0 τ = some (H 0))
    (hstep : ∀ j, j < n → (∃ r, good r ∧ ∀ M, B ≤ M → run (callF tab ext M) 0 M b (H j) = some (.ret, r)) ∨ (∃ υ, canon 0 υ = some (H (j + 1)) ∧ ∀ M, B ≤ M → run (callF tab ext M) 0 M b (H j) = some (.norm, υ)))
    (hend : ∀ M, B ≤ M → run (callF tab ext M) 0 M b (H n) = some (e, fin)) (hne : e ≠ .norm) :
    (∃ r, good r ∧ ∀ M, B ≤ M → n < M → run (callF tab ext M) 0 M (.loop b) τ = some (.ret, r)) ∨ (∀ M, B ≤ M → n < M → run (callF tab ext M) 0 M (.loop b) τ = some (e, fin)) := by
  have key : ∀ d j, j + d = n → (∃ r, good r ∧ ∀ M F υ, B ≤ M → d < F → canon 0 υ = some (H j) → iter 0 (run (callF tab ext M) 0 M b) F υ = some (.ret, r)) ∨ (∀ M F υ, B ≤ M → d < F → canon 0 υ = some (H j) → iter 0 (run (callF tab ext M) 0 M b) F υ = some (e, fin)) := by
    intro d
    induction d with
    | zero =>
      intro j hj
      have hjn : j = n := by omega
      subst hjn
      right
      intro M F υ hM hF hc
      obtain ⟨F', rfl⟩ : ∃ F', F = F' + 1 := ⟨F - 1, by omega⟩
      exact iter_end hc (hend M hM) hne
    | succ d ih =>
      intro j hj
      rcases hstep j (by omega) with ⟨r, hr, h⟩ | ⟨ω, hω, h⟩
      · left
        refine ⟨r, hr, fun M F υ hM hF hc => ?_⟩
        obtain ⟨F', rfl⟩ : ∃ F', F = F' + 1 := ⟨F - 1, by omega⟩
        exact iter_end hc (h M hM) (by simp)
      · rcases ih (j + 1) (by omega) with ⟨r, hr, h'⟩ | h'
        · left
          refine ⟨r, hr, fun M F υ hM hF hc => ?_⟩
          obtain ⟨F', rfl⟩ : ∃ F', F = F' + 1 := ⟨F - 1, by omega⟩
          exact iter_step hc (h M hM) (h' M F' ω hM (by omega) hω)
        · right
          intro M F υ hM hF hc
          obtain ⟨F', rfl⟩ : ∃ F', F = F' + 1 := ⟨F - 1, by omega⟩
          exact iter_step hc (h M hM) (h' M F' ω hM (by omega) hω)
  simp only [run]
  rcases key n 0 (by omega) with ⟨r, hr, h⟩ | h
  · exact .inl ⟨r, hr, fun M hM hn => h M M τ hM hn h0⟩
  · exact .inr fun M hM hn => h M M τ hM hn h0

def nullV : Val → Bool
  | .mk k i s t l f => (k == 0) && ((i == 0) && ((s == 0) && ((t.toList == (⟨#[]⟩ : ByteArray).toList) && ((Int.ofNat (cellsL l).length == 0) && (Int.ofNat (cellsF f).length == 0)))))
theorem null_val (N : Nat) (v : Val) : Gam.pureD (callF tab ext (N + 1)) 48 [.agg v.cells] = some (boolX (nullV v)) := by
  obtain ⟨k, i, s, t, l, f⟩ := v
  cases h1 : (k == 0) with
  | true =>
    cases h2 : (i == 0) with
    | true =>
      cases h3 : (s == 0) with
      | true =>
        cases h4 : (t.toList == (⟨#[]⟩ : ByteArray).toList) with
        | true =>
          cases h5 : (Int.ofNat (cellsL l).length == 0) with
          | true =>
            cases h6 : (Int.ofNat (cellsF f).length == 0) with
            | true =>
              rw [show nullV (Val.mk k i s t l f) = true from by simp only [nullV, h1, h2, h3, h4, h5, h6]; rfl]
              exact pure_of [(5, .b true), (9, .b true), (14, .b true), (19, .b true), (25, .b true), (31, .b true)] [] (pf6 h1 h2 h3 h4 h5 h6) (x := boolX true) (bx := []) (by kernel_rfl) rfl
            | false =>
              rw [show nullV (Val.mk k i s t l f) = false from by simp only [nullV, h1, h2, h3, h4, h5, h6]; rfl]
              exact pure_of [(5, .b true), (9, .b true), (14, .b true), (19, .b true), (25, .b true), (31, .b false)] [] (pf6 h1 h2 h3 h4 h5 h6) (x := boolX false) (bx := []) (by kernel_rfl) rfl
          | false =>
            rw [show nullV (Val.mk k i s t l f) = false from by simp only [nullV, h1, h2, h3, h4, h5]; rfl]
            exact pure_of [(5, .b true), (9, .b true), (14, .b true), (19, .b true), (25, .b false)] [] (pf5 h1 h2 h3 h4 h5) (x := boolX false) (bx := []) (by kernel_rfl) rfl
        | false =>
          rw [show nullV (Val.mk k i s t l f) = false from by simp only [nullV, h1, h2, h3, h4]; rfl]
          exact pure_of [(5, .b true), (9, .b true), (14, .b true), (19, .b false)] [] (pf4 h1 h2 h3 h4) (x := boolX false) (bx := []) (by kernel_rfl) rfl
      | false =>
        rw [show nullV (Val.mk k i s t l f) = false from by simp only [nullV, h1, h2, h3]; rfl]
        exact pure_of [(5, .b true), (9, .b true), (14, .b false)] [] (pf3 h1 h2 h3) (x := boolX false) (bx := []) (by kernel_rfl) rfl
    | false =>
      rw [show nullV (Val.mk k i s t l f) = false from by simp only [nullV, h1, h2]; rfl]
      exact pure_of [(5, .b true), (9, .b false)] [] (pf2 h1 h2) (x := boolX false) (bx := []) (by kernel_rfl) rfl
  | false =>
    rw [show nullV (Val.mk k i s t l f) = false from by simp only [nullV, h1]; rfl]
    exact pure_of [(5, .b false)] [] (pf1 h1) (x := boolX false) (bx := []) (by kernel_rfl) rfl
theorem uses1 (i s : Int) (t : ByteArray) (l : List Val) (f : List (ByteArray × Val)) : ComesB 2 83 [.agg (Val.mk 1 i s t l f).cells] := by
  apply comesB_succ
  cases h1 : (s == 0) with
  | true =>
    cases h2 : (t.toList == (⟨#[]⟩ : ByteArray).toList) with
    | true =>
      cases h3 : (Int.ofNat (cellsL l).length == 0) with
      | true =>
        cases h4 : (Int.ofNat (cellsF f).length == 0) with
        | true =>
          exact ⟨true, fun N hN => pure_of [(63, .b true), (71, .b true), (80, .b true), (91, .b true)] [] (pf4 h1 h2 h3 h4) (x := boolX true) (bx := []) (by kernel_rfl) rfl⟩
        | false =>
          exact ⟨false, fun N hN => pure_of [(63, .b true), (71, .b true), (80, .b true), (91, .b false)] [] (pf4 h1 h2 h3 h4) (x := boolX false) (bx := []) (by kernel_rfl) rfl⟩
      | false =>
        exact ⟨false, fun N hN => pure_of [(63, .b true), (71, .b true), (80, .b false)] [] (pf3 h1 h2 h3) (x := boolX false) (bx := []) (by kernel_rfl) rfl⟩
    | false =>
      exact ⟨false, fun N hN => pure_of [(63, .b true), (71, .b false)] [] (pf2 h1 h2) (x := boolX false) (bx := []) (by kernel_rfl) rfl⟩
  | false =>
    exact ⟨false, fun N hN => pure_of [(63, .b false)] [] (pf1 h1) (x := boolX false) (bx := []) (by kernel_rfl) rfl⟩
theorem uses2 (i s : Int) (t : ByteArray) (l : List Val) (f : List (ByteArray × Val)) : ComesB 2 83 [.agg (Val.mk 2 i s t l f).cells] := by
  apply comesB_succ
  cases h1 : (s == 0) with
  | true =>
    cases h2 : (t.toList == (⟨#[]⟩ : ByteArray).toList) with
    | true =>
      cases h3 : (Int.ofNat (cellsL l).length == 0) with
      | true =>
        cases h4 : (Int.ofNat (cellsF f).length == 0) with
        | true =>
          exact ⟨true, fun N hN => pure_of [(63, .b true), (71, .b true), (80, .b true), (91, .b true)] [] (pf4 h1 h2 h3 h4) (x := boolX true) (bx := []) (by kernel_rfl) rfl⟩
        | false =>
          exact ⟨false, fun N hN => pure_of [(63, .b true), (71, .b true), (80, .b true), (91, .b false)] [] (pf4 h1 h2 h3 h4) (x := boolX false) (bx := []) (by kernel_rfl) rfl⟩
      | false =>
        exact ⟨false, fun N hN => pure_of [(63, .b true), (71, .b true), (80, .b false)] [] (pf3 h1 h2 h3) (x := boolX false) (bx := []) (by kernel_rfl) rfl⟩
    | false =>
      exact ⟨false, fun N hN => pure_of [(63, .b true), (71, .b false)] [] (pf2 h1 h2) (x := boolX false) (bx := []) (by kernel_rfl) rfl⟩
  | false =>
    exact ⟨false, fun N hN => pure_of [(63, .b false)] [] (pf1 h1) (x := boolX false) (bx := []) (by kernel_rfl) rfl⟩
theorem uses3 (i s : Int) (t : ByteArray) (l : List Val) (f : List (ByteArray × Val)) : ComesB 2 83 [.agg (Val.mk 3 i s t l f).cells] := by
  apply comesB_succ
  cases h1 : (t.toList == (⟨#[]⟩ : ByteArray).toList) with
  | true =>
    cases h2 : (Int.ofNat (cellsL l).length == 0) with
    | true =>
      cases h3 : (Int.ofNat (cellsF f).length == 0) with
      | true =>
        exact ⟨true, fun N hN => pure_of [(71, .b true), (80, .b true), (91, .b true)] [] (pf3 h1 h2 h3) (x := boolX true) (bx := []) (by kernel_rfl) rfl⟩
      | false =>
        exact ⟨false, fun N hN => pure_of [(71, .b true), (80, .b true), (91, .b false)] [] (pf3 h1 h2 h3) (x := boolX false) (bx := []) (by kernel_rfl) rfl⟩
    | false =>
      exact ⟨false, fun N hN => pure_of [(71, .b true), (80, .b false)] [] (pf2 h1 h2) (x := boolX false) (bx := []) (by kernel_rfl) rfl⟩
  | false =>
    exact ⟨false, fun N hN => pure_of [(71, .b false)] [] (pf1 h1) (x := boolX false) (bx := []) (by kernel_rfl) rfl⟩
theorem uses4 (i s : Int) (t : ByteArray) (l : List Val) (f : List (ByteArray × Val)) : ComesB 2 83 [.agg (Val.mk 4 i s t l f).cells] := by
  apply comesB_succ
  cases h1 : (i == 0) with
  | true =>
    cases h2 : (s == 0) with
    | true =>
      cases h3 : (Int.ofNat (cellsL l).length == 0) with
      | true =>
        cases h4 : (Int.ofNat (cellsF f).length == 0) with
        | true =>
          exact ⟨true, fun N hN => pure_of [(54, .b true), (63, .b true), (80, .b true), (91, .b true)] [] (pf4 h1 h2 h3 h4) (x := boolX true) (bx := []) (by kernel_rfl) rfl⟩
        | false =>
          exact ⟨false, fun N hN => pure_of [(54, .b true), (63, .b true), (80, .b true), (91, .b false)] [] (pf4 h1 h2 h3 h4) (x := boolX false) (bx := []) (by kernel_rfl) rfl⟩
      | false =>
        exact ⟨false, fun N hN => pure_of [(54, .b true), (63, .b true), (80, .b false)] [] (pf3 h1 h2 h3) (x := boolX false) (bx := []) (by kernel_rfl) rfl⟩
    | false =>
      exact ⟨false, fun N hN => pure_of [(54, .b true), (63, .b false)] [] (pf2 h1 h2) (x := boolX false) (bx := []) (by kernel_rfl) rfl⟩
  | false =>
    exact ⟨false, fun N hN => pure_of [(54, .b false)] [] (pf1 h1) (x := boolX false) (bx := []) (by kernel_rfl) rfl⟩
theorem uses5 (i s : Int) (t : ByteArray) (l : List Val) (f : List (ByteArray × Val)) : ComesB 2 83 [.agg (Val.mk 5 i s t l f).cells] := by
  apply comesB_succ
  cases h1 : (i == 0) with
  | true =>
    cases h2 : (s == 0) with
    | true =>
      cases h3 : (Int.ofNat (cellsL l).length == 0) with
      | true =>
        cases h4 : (Int.ofNat (cellsF f).length == 0) with
        | true =>
          exact ⟨true, fun N hN => pure_of [(54, .b true), (63, .b true), (80, .b true), (91, .b true)] [] (pf4 h1 h2 h3 h4) (x := boolX true) (bx := []) (by kernel_rfl) rfl⟩
        | false =>
          exact ⟨false, fun N hN => pure_of [(54, .b true), (63, .b true), (80, .b true), (91, .b false)] [] (pf4 h1 h2 h3 h4) (x := boolX false) (bx := []) (by kernel_rfl) rfl⟩
      | false =>
        exact ⟨false, fun N hN => pure_of [(54, .b true), (63, .b true), (80, .b false)] [] (pf3 h1 h2 h3) (x := boolX false) (bx := []) (by kernel_rfl) rfl⟩
    | false =>
      exact ⟨false, fun N hN => pure_of [(54, .b true), (63, .b false)] [] (pf2 h1 h2) (x := boolX false) (bx := []) (by kernel_rfl) rfl⟩
  | false =>
    exact ⟨false, fun N hN => pure_of [(54, .b false)] [] (pf1 h1) (x := boolX false) (bx := []) (by kernel_rfl) rfl⟩
theorem uses6 (i s : Int) (t : ByteArray) (l : List Val) (f : List (ByteArray × Val)) : ComesB 2 83 [.agg (Val.mk 6 i s t l f).cells] := by
  apply comesB_succ
  cases h1 : (s == 0) with
  | true =>
    cases h2 : (t.toList == (⟨#[]⟩ : ByteArray).toList) with
    | true =>
      cases h3 : (Int.ofNat (cellsL l).length == 0) with
      | true =>
        cases h4 : (Int.ofNat (cellsF f).length == 0) with
        | true =>
          exact ⟨true, fun N hN => pure_of [(63, .b true), (71, .b true), (80, .b true), (91, .b true)] [] (pf4 h1 h2 h3 h4) (x := boolX true) (bx := []) (by kernel_rfl) rfl⟩
        | false =>
          exact ⟨false, fun N hN => pure_of [(63, .b true), (71, .b true), (80, .b true), (91, .b false)] [] (pf4 h1 h2 h3 h4) (x := boolX false) (bx := []) (by kernel_rfl) rfl⟩
      | false =>
        exact ⟨false, fun N hN => pure_of [(63, .b true), (71, .b true), (80, .b false)] [] (pf3 h1 h2 h3) (x := boolX false) (bx := []) (by kernel_rfl) rfl⟩
    | false =>
      exact ⟨false, fun N hN => pure_of [(63, .b true), (71, .b false)] [] (pf2 h1 h2) (x := boolX false) (bx := []) (by kernel_rfl) rfl⟩
  | false =>
    exact ⟨false, fun N hN => pure_of [(63, .b false)] [] (pf1 h1) (x := boolX false) (bx := []) (by kernel_rfl) rfl⟩
theorem uses7 (i s : Int) (t : ByteArray) (l : List Val) (f : List (ByteArray × Val)) : ComesB 2 83 [.agg (Val.mk 7 i s t l f).cells] := by
  apply comesB_succ
  cases h1 : (s == 0) with
  | true =>
    cases h2 : (t.toList == (⟨#[]⟩ : ByteArray).toList) with
    | true =>
      cases h3 : (Int.ofNat (cellsL l).length == 0) with
      | true =>
        cases h4 : (Int.ofNat (cellsF f).length == 0) with
        | true =>
          exact ⟨true, fun N hN => pure_of [(63, .b true), (71, .b true), (80, .b true), (91, .b true)] [] (pf4 h1 h2 h3 h4) (x := boolX true) (bx := []) (by kernel_rfl) rfl⟩
        | false =>
          exact ⟨false, fun N hN => pure_of [(63, .b true), (71, .b true), (80, .b true), (91, .b false)] [] (pf4 h1 h2 h3 h4) (x := boolX false) (bx := []) (by kernel_rfl) rfl⟩
      | false =>
        exact ⟨false, fun N hN => pure_of [(63, .b true), (71, .b true), (80, .b false)] [] (pf3 h1 h2 h3) (x := boolX false) (bx := []) (by kernel_rfl) rfl⟩
    | false =>
      exact ⟨false, fun N hN => pure_of [(63, .b true), (71, .b false)] [] (pf2 h1 h2) (x := boolX false) (bx := []) (by kernel_rfl) rfl⟩
  | false =>
    exact ⟨false, fun N hN => pure_of [(63, .b false)] [] (pf1 h1) (x := boolX false) (bx := []) (by kernel_rfl) rfl⟩
theorem uses8 (i s : Int) (t : ByteArray) (l : List Val) (f : List (ByteArray × Val)) : ComesB 2 83 [.agg (Val.mk 8 i s t l f).cells] := by
  apply comesB_succ
  cases h1 : (i == 0) with
  | true =>
    cases h2 : (s == 0) with
    | true =>
      cases h3 : (t.toList == (⟨#[]⟩ : ByteArray).toList) with
      | true =>
        cases h4 : (Int.ofNat (cellsF f).length == 0) with
        | true =>
          exact ⟨true, fun N hN => pure_of [(54, .b true), (63, .b true), (71, .b true), (91, .b true)] [] (pf4 h1 h2 h3 h4) (x := boolX true) (bx := []) (by kernel_rfl) rfl⟩
        | false =>
          exact ⟨false, fun N hN => pure_of [(54, .b true), (63, .b true), (71, .b true), (91, .b false)] [] (pf4 h1 h2 h3 h4) (x := boolX false) (bx := []) (by kernel_rfl) rfl⟩
      | false =>
        exact ⟨false, fun N hN => pure_of [(54, .b true), (63, .b true), (71, .b false)] [] (pf3 h1 h2 h3) (x := boolX false) (bx := []) (by kernel_rfl) rfl⟩
    | false =>
      exact ⟨false, fun N hN => pure_of [(54, .b true), (63, .b false)] [] (pf2 h1 h2) (x := boolX false) (bx := []) (by kernel_rfl) rfl⟩
  | false =>
    exact ⟨false, fun N hN => pure_of [(54, .b false)] [] (pf1 h1) (x := boolX false) (bx := []) (by kernel_rfl) rfl⟩
theorem uses9 (i s : Int) (t : ByteArray) (l : List Val) (f : List (ByteArray × Val)) : ComesB 2 83 [.agg (Val.mk 9 i s t l f).cells] := by
  apply comesB_succ
  cases h1 : (i == 0) with
  | true =>
    cases h2 : (s == 0) with
    | true =>
      cases h3 : (t.toList == (⟨#[]⟩ : ByteArray).toList) with
      | true =>
        cases h4 : (Int.ofNat (cellsL l).length == 0) with
        | true =>
          exact ⟨true, fun N hN => pure_of [(54, .b true), (63, .b true), (71, .b true), (80, .b true)] [] (pf4 h1 h2 h3 h4) (x := boolX true) (bx := []) (by kernel_rfl) rfl⟩
        | false =>
          exact ⟨false, fun N hN => pure_of [(54, .b true), (63, .b true), (71, .b true), (80, .b false)] [] (pf4 h1 h2 h3 h4) (x := boolX false) (bx := []) (by kernel_rfl) rfl⟩
      | false =>
        exact ⟨false, fun N hN => pure_of [(54, .b true), (63, .b true), (71, .b false)] [] (pf3 h1 h2 h3) (x := boolX false) (bx := []) (by kernel_rfl) rfl⟩
    | false =>
      exact ⟨false, fun N hN => pure_of [(54, .b true), (63, .b false)] [] (pf2 h1 h2) (x := boolX false) (bx := []) (by kernel_rfl) rfl⟩
  | false =>
    exact ⟨false, fun N hN => pure_of [(54, .b false)] [] (pf1 h1) (x := boolX false) (bx := []) (by kernel_rfl) rfl⟩
theorem uses10 (i s : Int) (t : ByteArray) (l : List Val) (f : List (ByteArray × Val)) : ComesB 2 83 [.agg (Val.mk 10 i s t l f).cells] := by
  apply comesB_succ
  cases h1 : (i == 0) with
  | true =>
    cases h2 : (s == 0) with
    | true =>
      cases h3 : (Int.ofNat (cellsF f).length == 0) with
      | true =>
        exact ⟨true, fun N hN => pure_of [(54, .b true), (63, .b true), (91, .b true)] [] (pf3 h1 h2 h3) (x := boolX true) (bx := []) (by kernel_rfl) rfl⟩
      | false =>
        exact ⟨false, fun N hN => pure_of [(54, .b true), (63, .b true), (91, .b false)] [] (pf3 h1 h2 h3) (x := boolX false) (bx := []) (by kernel_rfl) rfl⟩
    | false =>
      exact ⟨false, fun N hN => pure_of [(54, .b true), (63, .b false)] [] (pf2 h1 h2) (x := boolX false) (bx := []) (by kernel_rfl) rfl⟩
  | false =>
    exact ⟨false, fun N hN => pure_of [(54, .b false)] [] (pf1 h1) (x := boolX false) (bx := []) (by kernel_rfl) rfl⟩
theorem between_comes (x a b : Int) : Comes 2 128 [num x, num a, num b] := by
  apply comes_succ
  cases h1 : decide (x < a) with
  | true =>
    exact ⟨2, fun N hN => pure_of [(9, .b true)] [] (pf1 h1) (x := num (2)) (bx := []) (by kernel_rfl) rfl⟩
  | false =>
    cases h2 : decide (b < x) with
    | true =>
      exact ⟨2, fun N hN => pure_of [(9, .b false), (13, .b true)] [] (pf2 h1 h2) (x := num (2)) (bx := []) (by kernel_rfl) rfl⟩
    | false =>
      exact ⟨0, fun N hN => pure_of [(9, .b false), (13, .b false)] [] (pf2 h1 h2) (x := num (0)) (bx := []) (by kernel_rfl) rfl⟩
theorem size_comes (x a e : Int) : Comes 2 133 [num x, num a, num e] := by
  apply comes_succ
  cases h1 : decide (a < x) with
  | true =>
    exact ⟨e, fun N hN => pure_of [(9, .b true)] [] (pf1 h1) (x := num (e)) (bx := []) (by kernel_rfl) rfl⟩
  | false =>
    exact ⟨0, fun N hN => pure_of [(9, .b false)] [] (pf1 h1) (x := num (0)) (bx := []) (by kernel_rfl) rfl⟩
theorem rule120 (v : Val) : Comes 3 127 [.agg v.cells] := by
  obtain ⟨k, i, s, t, l, f⟩ := v
  obtain ⟨c, hc⟩ := between_comes i 0 1
  exact comes_succ ⟨c, fun N hN => pure_of [(5, .p (num c))] [] (pf1 (hc N hN)) (x := num c) (bx := []) (by kernel_rfl) rfl⟩
theorem rule122 (v : Val) : Comes 3 129 [.agg v.cells] := by
  obtain ⟨k, i, s, t, l, f⟩ := v
  obtain ⟨c, hc⟩ := between_comes i (-999999999999999) 999999999999999
  exact comes_succ ⟨c, fun N hN => pure_of [(5, .p (num c))] [] (pf1 (hc N hN)) (x := num c) (bx := []) (by kernel_rfl) rfl⟩
theorem rule129 (v : Val) : Comes 3 136 [.agg v.cells] := by
  obtain ⟨k, i, s, t, l, f⟩ := v
  obtain ⟨c, hc⟩ := between_comes i (-719162) 2932896
  exact comes_succ ⟨c, fun N hN => pure_of [(5, .p (num c))] [] (pf1 (hc N hN)) (x := num c) (bx := []) (by kernel_rfl) rfl⟩
theorem rule130 (v : Val) : Comes 3 137 [.agg v.cells] := by
  obtain ⟨k, i, s, t, l, f⟩ := v
  obtain ⟨c, hc⟩ := between_comes i (-62135596800000) 253402300799999
  exact comes_succ ⟨c, fun N hN => pure_of [(5, .p (num c))] [] (pf1 (hc N hN)) (x := num c) (bx := []) (by kernel_rfl) rfl⟩
theorem rule128 (v : Val) : Comes 3 135 [.agg v.cells] := by
  obtain ⟨k, i, s, t, l, f⟩ := v
  obtain ⟨c, hc⟩ := size_comes (Int.ofNat t.size) 1024 5
  exact comes_succ ⟨c, fun N hN => pure_of [(6, .p (num c))] [] (pf1 (hc N hN)) (x := num c) (bx := []) (by kernel_rfl) rfl⟩
theorem rule131 (v : Val) : Comes 3 138 [.agg v.cells] := by
  obtain ⟨k, i, s, t, l, f⟩ := v
  obtain ⟨c, hc⟩ := size_comes (Int.ofNat (cellsL l).length) 256 9
  exact comes_succ ⟨c, fun N hN => pure_of [(6, .p (num c))] [] (pf1 (hc N hN)) (x := num c) (bx := []) (by kernel_rfl) rfl⟩

/-! ### first -/
def fiH (l : List (List X)) (n j : Nat) : St := ⟨[(5, .sl false 1 l), (6, nat n), (7, nat j)], []⟩
theorem first_comes (l : List Int) (hl : l.length ≤ 60000) : Comes 60002 131 [.sl false 1 (intsC l)] := by
  have hn := intsC_length l
  have := scan (B := 0) (b := loopAt 131 0) (H := fun j => fiH (intsC l) (intsC l).length j) (τ := fiH (intsC l) (intsC l).length 0) (n := (intsC l).length) (e := .exit 0) (fin := ⟨[(5, .sl false 1 (intsC l)), (6, nat (intsC l).length), (7, nat (intsC l).length), (8, boolX false)], []⟩) (fun r => ∃ x : Int, r = ⟨[(2, num x)], []⟩) (by kernel_rfl) (fun j hj => by
    have hj' : j < l.length := by omega
    have hg := intsC_get hj'
    generalize l[j] = x at hg
    cases h : (!(x == 0)) with
    | true =>
      left
      exact ⟨⟨[(2, num x)], []⟩, ⟨x, rfl⟩, fun M _ => run_of [(8, .b true), (9, .e [num x]), (12, .b true)] [] (pf3 (lt_nat (j := j) (k := (intsC l).length) (by omega)) hg h) (lo' := []) (by kernel_rfl)⟩
    | false =>
      right
      exact ⟨fiH (intsC l) (intsC l).length (j + 1), by kernel_rfl, fun M _ => run_of [(8, .b true), (9, .e [num x]), (12, .b false), (14, .i (Int.ofNat (j + 1)))] [] (pf4 (lt_nat (j := j) (k := (intsC l).length) (by omega)) hg h (next_nat (j := j) (by omega))) (lo' := []) (by kernel_rfl)⟩)
    (fun M _ => run_of [(8, .b false)] [] (pf1 (nlt_nat (Nat.lt_irrefl (intsC l).length))) (lo' := []) (σ' := ⟨[(5, .sl false 1 (intsC l)), (6, nat (intsC l).length), (7, nat (intsC l).length), (8, boolX false)], []⟩) (by kernel_rfl)) (by simp)
  apply comes_succ
  rcases this with ⟨r, ⟨x, rfl⟩, h⟩ | h
  · exact ⟨x, fun N hN => pure_of [] [(.ret, ⟨[(2, num x)], []⟩)] (pf1 (h N (by omega) (by omega))) (x := num x) (bx := []) (by kernel_rfl) rfl⟩
  · exact ⟨0, fun N hN => pure_of [] [(.exit 0, ⟨[(5, .sl false 1 (intsC l)), (6, nat (intsC l).length), (7, nat (intsC l).length), (8, boolX false)], []⟩)] (pf1 (h N (by omega) (by omega))) (x := num 0) (bx := []) (by kernel_rfl) rfl⟩
theorem rule123 (v : Val) : Comes 60003 130 [.agg v.cells] := by
  obtain ⟨k, i, s, t, l, f⟩ := v
  obtain ⟨c, hc⟩ := between_comes i (-999999999999999) 999999999999999
  obtain ⟨d, hd⟩ := between_comes s 0 12
  obtain ⟨e, he⟩ := first_comes [c, d] (by simp)
  exact comes_succ ⟨e, fun N hN => pure_of [(5, .p (num c)), (8, .p (num d)), (10, .p (num e))] [] (pf3 (hc N (by omega)) (hd N (by omega)) (he N (by omega))) (x := num e) (bx := []) (by kernel_rfl) rfl⟩
theorem valid_ext (N : Nat) (t : ByteArray) (h : t.size ≤ 9223372036854775807) : Gam.pureD (callF tab ext (N + 1)) 134 [strX t] = some (boolX (Lib.validD t.data.toList)) := by
  have e : callF tab ext (N + 1) (.fn 134) [strX t] [] = some (boolX (Lib.validD t.data.toList), []) := by
    show validExt [strX t] [] = _
    unfold validExt strX
    simp only [if_pos h]
    rfl
  unfold Gam.pureD
  rw [e]; rfl
theorem rule125 (v : Val) : Comes 4 132 [.agg v.cells] := by
  obtain ⟨k, i, s, t, l, f⟩ := v
  apply comes_succ
  cases h0 : decide (1024 < Int.ofNat t.size) with
  | true =>
    have hc : ∀ N, 2 ≤ N → Gam.pureD (callF tab ext N) 133 [num (Int.ofNat t.size), num 1024, num 5] = some (num 5) := fun N hN => by
      obtain ⟨M, rfl⟩ : ∃ M, N = M + 1 := ⟨N - 1, by omega⟩
      exact pure_of [(9, .b true)] [] (pf1 h0) (x := num 5) (bx := []) (by kernel_rfl) rfl
    exact ⟨5, fun N hN => pure_of [(7, .p (num 5))] [] (pf1 (hc N (by omega))) (x := num 5) (bx := []) (by kernel_rfl) rfl⟩
  | false =>
    have hsz : t.size ≤ 9223372036854775807 := by
      have := of_decide_eq_false h0
      simp only [Int.ofNat_eq_natCast] at this; omega
    have hc : ∀ N, 2 ≤ N → Gam.pureD (callF tab ext N) 133 [num (Int.ofNat t.size), num 1024, num 5] = some (num 0) := fun N hN => by
      obtain ⟨M, rfl⟩ : ∃ M, N = M + 1 := ⟨N - 1, by omega⟩
      exact pure_of [(9, .b false)] [] (pf1 h0) (x := num 0) (bx := []) (by kernel_rfl) rfl
    have hv : ∀ N, 3 ≤ N → Gam.pureD (callF tab ext N) 134 [strX t] = some (boolX (Lib.validD t.data.toList)) := fun N hN => by
      obtain ⟨M, rfl⟩ : ∃ M, N = M + 1 := ⟨N - 1, by omega⟩
      exact valid_ext M t hsz
    generalize Lib.validD t.data.toList = b at hv
    cases b with
    | true => exact ⟨0, fun N hN => pure_of [(7, .p (num 0)), (13, .p (boolX true))] [] (pf2 (hc N (by omega)) (hv N hN)) (x := num 0) (bx := []) (by kernel_rfl) rfl⟩
    | false => exact ⟨16, fun N hN => pure_of [(7, .p (num 0)), (13, .p (boolX false))] [] (pf2 (hc N (by omega)) (hv N hN)) (x := num 16) (bx := []) (by kernel_rfl) rfl⟩

theorem byteRow_get {s : ByteArray} {j : Nat} (h : j < (byteRow s).length) : ∃ u : Int, (byteRow s)[j]? = some [.v (.int .u8 u)] := by
  unfold byteRow at h ⊢
  rw [List.length_map] at h
  exact ⟨_, by rw [List.getElem?_map, List.getElem?_eq_getElem h]; rfl⟩
def naH (s : ByteArray) (n j : Nat) : St := ⟨[(23, .sl false 1 (byteRow s)), (24, nat n), (25, nat j)], []⟩
theorem name_round (s : ByteArray) (u : Int) (n j : Nat) (hj : j < n) (hn : n < 1000000) (hg : (byteRow s)[j]? = some [.v (.int .u8 u)]) :
    (∃ r, r = ⟨[(2, boolX false)], []⟩ ∧ ∀ M, 0 ≤ M → run (callF tab ext M) 0 M (loopAt 140 0) (naH s n j) = some (.ret, r)) ∨ (∃ υ, canon 0 υ = some (naH s n (j + 1)) ∧ ∀ M, 0 ≤ M → run (callF tab ext M) 0 M (loopAt 140 0) (naH s n j) = some (.norm, υ)) := by
  cases h1 : decide (u < 97) with
  | true =>
    cases h2 : decide (u < 48) with
    | true =>
      cases h3 : (!(u == 95)) with
      | true =>
        exact .inl ⟨_, rfl, fun M _ => run_of [(26, .b true), (27, .e [.v (.int .u8 u)]), (30, .b true), (37, .b true), (45, .b true)] [] (pf5 (lt_nat (j := j) (k := n) hj) hg h1 h2 h3) (lo' := []) (by kernel_rfl)⟩
      | false =>
        exact .inr ⟨naH s n (j + 1), by kernel_rfl, fun M _ => run_of [(26, .b true), (27, .e [.v (.int .u8 u)]), (30, .b true), (37, .b true), (45, .b false), (47, .i (Int.ofNat (j + 1)))] [] (pf6 (lt_nat (j := j) (k := n) hj) hg h1 h2 h3 (next_nat (j := j) (by omega))) (lo' := []) (by kernel_rfl)⟩
    | false =>
      cases h4 : decide (57 < u) with
      | true =>
        cases h5 : (!(u == 95)) with
        | true =>
          exact .inl ⟨_, rfl, fun M _ => run_of [(26, .b true), (27, .e [.v (.int .u8 u)]), (30, .b true), (37, .b false), (40, .b true), (45, .b true)] [] (pf6 (lt_nat (j := j) (k := n) hj) hg h1 h2 h4 h5) (lo' := []) (by kernel_rfl)⟩
        | false =>
          exact .inr ⟨naH s n (j + 1), by kernel_rfl, fun M _ => run_of [(26, .b true), (27, .e [.v (.int .u8 u)]), (30, .b true), (37, .b false), (40, .b true), (45, .b false), (47, .i (Int.ofNat (j + 1)))] [] (pf7 (lt_nat (j := j) (k := n) hj) hg h1 h2 h4 h5 (next_nat (j := j) (by omega))) (lo' := []) (by kernel_rfl)⟩
      | false =>
        exact .inr ⟨naH s n (j + 1), by kernel_rfl, fun M _ => run_of [(26, .b true), (27, .e [.v (.int .u8 u)]), (30, .b true), (37, .b false), (40, .b false), (47, .i (Int.ofNat (j + 1)))] [] (pf6 (lt_nat (j := j) (k := n) hj) hg h1 h2 h4 (next_nat (j := j) (by omega))) (lo' := []) (by kernel_rfl)⟩
  | false =>
    cases h6 : decide (122 < u) with
    | true =>
      cases h7 : decide (u < 48) with
      | true =>
        cases h8 : (!(u == 95)) with
        | true =>
          exact .inl ⟨_, rfl, fun M _ => run_of [(26, .b true), (27, .e [.v (.int .u8 u)]), (30, .b false), (33, .b true), (37, .b true), (45, .b true)] [] (pf6 (lt_nat (j := j) (k := n) hj) hg h1 h6 h7 h8) (lo' := []) (by kernel_rfl)⟩
        | false =>
          exact .inr ⟨naH s n (j + 1), by kernel_rfl, fun M _ => run_of [(26, .b true), (27, .e [.v (.int .u8 u)]), (30, .b false), (33, .b true), (37, .b true), (45, .b false), (47, .i (Int.ofNat (j + 1)))] [] (pf7 (lt_nat (j := j) (k := n) hj) hg h1 h6 h7 h8 (next_nat (j := j) (by omega))) (lo' := []) (by kernel_rfl)⟩
      | false =>
        cases h9 : decide (57 < u) with
        | true =>
          cases h10 : (!(u == 95)) with
          | true =>
            exact .inl ⟨_, rfl, fun M _ => run_of [(26, .b true), (27, .e [.v (.int .u8 u)]), (30, .b false), (33, .b true), (37, .b false), (40, .b true), (45, .b true)] [] (pf7 (lt_nat (j := j) (k := n) hj) hg h1 h6 h7 h9 h10) (lo' := []) (by kernel_rfl)⟩
          | false =>
            exact .inr ⟨naH s n (j + 1), by kernel_rfl, fun M _ => run_of [(26, .b true), (27, .e [.v (.int .u8 u)]), (30, .b false), (33, .b true), (37, .b false), (40, .b true), (45, .b false), (47, .i (Int.ofNat (j + 1)))] [] (pf8 (lt_nat (j := j) (k := n) hj) hg h1 h6 h7 h9 h10 (next_nat (j := j) (by omega))) (lo' := []) (by kernel_rfl)⟩
        | false =>
          exact .inr ⟨naH s n (j + 1), by kernel_rfl, fun M _ => run_of [(26, .b true), (27, .e [.v (.int .u8 u)]), (30, .b false), (33, .b true), (37, .b false), (40, .b false), (47, .i (Int.ofNat (j + 1)))] [] (pf7 (lt_nat (j := j) (k := n) hj) hg h1 h6 h7 h9 (next_nat (j := j) (by omega))) (lo' := []) (by kernel_rfl)⟩
    | false =>
      exact .inr ⟨naH s n (j + 1), by kernel_rfl, fun M _ => run_of [(26, .b true), (27, .e [.v (.int .u8 u)]), (30, .b false), (33, .b false), (47, .i (Int.ofNat (j + 1)))] [] (pf5 (lt_nat (j := j) (k := n) hj) hg h1 h6 (next_nat (j := j) (by omega))) (lo' := []) (by kernel_rfl)⟩
theorem size_pos {s : ByteArray} (h : (s.toList == (⟨#[]⟩ : ByteArray).toList) = false) : 0 < s.size := by
  rcases Nat.eq_zero_or_pos s.size with h0 | h0
  · exfalso
    have : s = ⟨#[]⟩ := by
      cases s with
      | mk d => congr 1; exact Array.eq_empty_of_size_eq_zero h0
    rw [this] at h
    simp at h
  · exact h0
theorem name_short (s : ByteArray) (hs : s.size ≤ 60000) : ComesB 60002 140 [strX s] := by
  have hl : (byteRow s).length = s.size := by
    unfold byteRow
    rw [List.length_map, Array.length_toList]
    rfl
  have := scan (B := 0) (b := loopAt 140 0) (H := fun j => naH s (byteRow s).length j) (τ := naH s (byteRow s).length 0) (n := (byteRow s).length) (e := .exit 0) (fin := ⟨[(23, .sl false 1 (byteRow s)), (24, nat (byteRow s).length), (25, nat (byteRow s).length), (26, boolX false)], []⟩) (fun r => r = ⟨[(2, boolX false)], []⟩) (by kernel_rfl) (fun j hj => by
    obtain ⟨u, hu⟩ := byteRow_get hj
    exact name_round s u _ j hj (by omega) hu)
    (fun M _ => run_of [(26, .b false)] [] (pf1 (nlt_nat (Nat.lt_irrefl (byteRow s).length))) (lo' := []) (by kernel_rfl)) (by simp)
  apply comesB_succ
  cases h1 : (s.toList == (⟨#[]⟩ : ByteArray).toList) with
  | true =>
    exact ⟨false, fun N hN => pure_of [(6, .b true)] [] (pf1 h1) (x := boolX false) (bx := []) (by kernel_rfl) rfl⟩
  | false =>
    cases h2 : decide (32 < Int.ofNat s.size) with
    | true =>
      exact ⟨false, fun N hN => pure_of [(6, .b false), (10, .b true)] [] (pf2 h1 h2) (x := boolX false) (bx := []) (by kernel_rfl) rfl⟩
    | false =>
      have hpos := size_pos h1
      cases h3 : decide ((((s[0]?).getD 0).toNat : Int) < 97) with
      | true =>
        exact ⟨false, fun N hN => pure_of [(6, .b false), (10, .b false), (14, .at), (15, .b true)] [] (pf4 h1 h2 hpos h3) (x := boolX false) (bx := []) (by kernel_rfl) rfl⟩
      | false =>
        cases h4 : decide (122 < (((s[0]?).getD 0).toNat : Int)) with
        | true =>
          exact ⟨false, fun N hN => pure_of [(6, .b false), (10, .b false), (14, .at), (15, .b false), (19, .at), (20, .b true)] [] (pf6 h1 h2 hpos h3 hpos h4) (x := boolX false) (bx := []) (by kernel_rfl) rfl⟩
        | false =>
          rcases this with ⟨r, rfl, h⟩ | h
          · exact ⟨false, fun N hN => pure_of [(6, .b false), (10, .b false), (14, .at), (15, .b false), (19, .at), (20, .b false)] [(.ret, ⟨[(2, boolX false)], []⟩)] (pf7 h1 h2 hpos h3 hpos h4 (h N (by omega) (by omega))) (x := boolX false) (bx := []) (by kernel_rfl) rfl⟩
          · exact ⟨true, fun N hN => pure_of [(6, .b false), (10, .b false), (14, .at), (15, .b false), (19, .at), (20, .b false)] [(.exit 0, ⟨[(23, .sl false 1 (byteRow s)), (24, nat (byteRow s).length), (25, nat (byteRow s).length), (26, boolX false)], []⟩)] (pf7 h1 h2 hpos h3 hpos h4 (h N (by omega) (by omega))) (x := boolX true) (bx := []) (by kernel_rfl) rfl⟩
theorem name_comes (s : ByteArray) : ComesB 60002 140 [strX s] := by
  by_cases hs : s.size ≤ 60000
  · exact name_short s hs
  · apply comesB_succ
    have h2 : decide (32 < Int.ofNat s.size) = true := by simp only [Int.ofNat_eq_natCast, decide_eq_true_eq]; omega
    cases h1 : (s.toList == (⟨#[]⟩ : ByteArray).toList) with
    | true => exact ⟨false, fun N hN => pure_of [(6, .b true)] [] (pf1 h1) (x := boolX false) (bx := []) (by kernel_rfl) rfl⟩
    | false => exact ⟨false, fun N hN => pure_of [(6, .b false), (10, .b true)] [] (pf2 h1 h2) (x := boolX false) (bx := []) (by kernel_rfl) rfl⟩
theorem rule134 (v : Val) : Comes 60003 141 [.agg v.cells] := by
  obtain ⟨k, i, s, t, l, f⟩ := v
  obtain ⟨b, hb⟩ := name_comes t
  obtain ⟨c, hc⟩ := size_comes (Int.ofNat (cellsL l).length) 1 3
  apply comes_succ
  cases b with
  | true =>
    cases h1 : (Int.ofNat (cellsL l).length == 0) with
    | true =>
      exact ⟨4, fun N hN => pure_of [(6, .p (boolX true)), (12, .b true)] [] (pf2 (hb N (by omega)) h1) (x := num (4)) (bx := []) (by kernel_rfl) rfl⟩
    | false =>
      exact ⟨c, fun N hN => pure_of [(6, .p (boolX true)), (12, .b false), (16, .p (num c))] [] (pf3 (hb N (by omega)) h1 (hc N (by omega))) (x := num (c)) (bx := []) (by kernel_rfl) rfl⟩
  | false =>
    exact ⟨12, fun N hN => pure_of [(6, .p (boolX false))] [] (pf1 (hb N (by omega))) (x := num (12)) (bx := []) (by kernel_rfl) rfl⟩
end Go.Proofs.YtbfnfldmnombgaaGreatDoor

/- The rule of records comes to an end. -/
namespace Go.Proofs.YtbfnfldmnombgaaGreatDoor
open Go.Em
set_option maxRecDepth 100000

section
variable (k i s : Int) (t : ByteArray) (l f : List (List X)) (n j : Nat)
def reH : St := ⟨[(1, .ptr 0 0 0), (14, .sl false 7 f), (15, nat n), (16, nat j)], [.var [num k, num i, num s, strX t, .sl false 6 l, .sl false 7 f]]⟩
end
theorem pred_nat {j : Nat} (h : j < 4294967296) : IntKind.i64.wrap (Int.ofNat (j + 1) - 1) = Int.ofNat j := by
  rw [IntKind.wrap_i64]; simp only [Int.ofNat_eq_natCast]; omega
theorem pos_nat {j : Nat} : decide (0 < Int.ofNat (j + 1)) = true := by simp only [Int.ofNat_eq_natCast, decide_eq_true_eq]; omega
theorem zero_nat : decide (0 < Int.ofNat 0) = false := rfl
theorem rec_round (k i s : Int) (t : ByteArray) (l : List (List X)) (f : List (ByteArray × Val)) (j : Nat) (hl : f.length ≤ 60000) (hj : j < f.length) :
    (∃ r, (∃ c : Int, ∃ bx, r = ⟨[(2, num c)], bx⟩) ∧ ∀ M, 60002 ≤ M → run (callF tab ext M) 0 M (loopAt 139 0) (reH k i s t l (cellsF f) (cellsF f).length j) = some (.ret, r)) ∨ (∃ υ, canon 0 υ = some (reH k i s t l (cellsF f) (cellsF f).length (j + 1)) ∧ ∀ M, 60002 ≤ M → run (callF tab ext M) 0 M (loopAt 139 0) (reH k i s t l (cellsF f) (cellsF f).length j) = some (.norm, υ)) := by
  have hn := cellsF_length f
  have hg := cellsF_get hj
  obtain ⟨b, hb⟩ := name_comes f[j].1
  generalize f[j] = p at hg hb
  obtain ⟨p0, p1, p2, p3, p4, p5, p6⟩ := p
  have hlt := lt_nat (j := j) (k := (cellsF f).length) (by omega)
  cases b with
  | false =>
    exact .inl ⟨⟨[(2, num 12)], [.var [num k, num i, num s, strX t, .sl false 6 l, .sl false 7 (cellsF f)], .var (strX p0 :: (Val.mk p1 p2 p3 p4 p5 p6).cells)]⟩, ⟨12, _, rfl⟩, fun M hM => run_of [(17, .b true), (19, .e (strX p0 :: (Val.mk p1 p2 p3 p4 p5 p6).cells)), (24, .p (boolX false))] [] (pf3 hlt hg (hb M hM)) (lo' := []) (by kernel_rfl)⟩
  | true =>
    cases j with
    | zero =>
      exact .inr ⟨⟨[(1, .ptr 0 0 0), (14, .sl false 7 (cellsF f)), (15, nat (cellsF f).length), (16, nat (0 + 1))], [.var [num k, num i, num s, strX t, .sl false 6 l, .sl false 7 (cellsF f)], .var (strX p0 :: (Val.mk p1 p2 p3 p4 p5 p6).cells)]⟩, by kernel_rfl, fun M hM => run_of [(17, .b true), (19, .e (strX p0 :: (Val.mk p1 p2 p3 p4 p5 p6).cells)), (24, .p (boolX true)), (28, .b false), (43, .b false), (56, .i (Int.ofNat (0 + 1)))] [] (pf6 hlt hg (hb M hM) zero_nat zero_nat (next_nat (j := 0) (by omega))) (lo' := []) (by kernel_rfl)⟩
    | succ j =>
      have hj' : j < f.length := by omega
      have hq := cellsF_get hj'
      generalize f[j] = q at hq
      obtain ⟨q0, q1, q2, q3, q4, q5, q6⟩ := q
      cases h1 : (p0.toList == q0.toList) with
      | true =>
        exact .inl ⟨⟨[(2, num 7)], [.var [num k, num i, num s, strX t, .sl false 6 l, .sl false 7 (cellsF f)], .var (strX p0 :: (Val.mk p1 p2 p3 p4 p5 p6).cells)]⟩, ⟨7, _, rfl⟩, fun M hM => run_of [(17, .b true), (19, .e (strX p0 :: (Val.mk p1 p2 p3 p4 p5 p6).cells)), (24, .p (boolX true)), (28, .b true), (35, .i (Int.ofNat j)), (36, .e (strX q0 :: (Val.mk q1 q2 q3 q4 q5 q6).cells)), (39, .b true)] [] (pf7 hlt hg (hb M hM) (pos_nat (j := j)) (pred_nat (j := j) (by omega)) hq h1) (lo' := []) (by kernel_rfl)⟩
      | false =>
        cases h2 : Op.bytesLess p0.toList q0.toList with
        | true =>
          exact .inl ⟨⟨[(2, num 24)], [.var [num k, num i, num s, strX t, .sl false 6 l, .sl false 7 (cellsF f)], .var (strX p0 :: (Val.mk p1 p2 p3 p4 p5 p6).cells)]⟩, ⟨24, _, rfl⟩, fun M hM => run_of [(17, .b true), (19, .e (strX p0 :: (Val.mk p1 p2 p3 p4 p5 p6).cells)), (24, .p (boolX true)), (28, .b true), (35, .i (Int.ofNat j)), (36, .e (strX q0 :: (Val.mk q1 q2 q3 q4 q5 q6).cells)), (39, .b false), (43, .b true), (50, .i (Int.ofNat j)), (51, .e (strX q0 :: (Val.mk q1 q2 q3 q4 q5 q6).cells)), (54, .b true)] [] (pf11 hlt hg (hb M hM) (pos_nat (j := j)) (pred_nat (j := j) (by omega)) hq h1 (pos_nat (j := j)) (pred_nat (j := j) (by omega)) hq h2) (lo' := []) (by kernel_rfl)⟩
        | false =>
          exact .inr ⟨⟨[(1, .ptr 0 0 0), (14, .sl false 7 (cellsF f)), (15, nat (cellsF f).length), (16, nat ((j + 1) + 1))], [.var [num k, num i, num s, strX t, .sl false 6 l, .sl false 7 (cellsF f)], .var (strX p0 :: (Val.mk p1 p2 p3 p4 p5 p6).cells)]⟩, by kernel_rfl, fun M hM => run_of [(17, .b true), (19, .e (strX p0 :: (Val.mk p1 p2 p3 p4 p5 p6).cells)), (24, .p (boolX true)), (28, .b true), (35, .i (Int.ofNat j)), (36, .e (strX q0 :: (Val.mk q1 q2 q3 q4 q5 q6).cells)), (39, .b false), (43, .b true), (50, .i (Int.ofNat j)), (51, .e (strX q0 :: (Val.mk q1 q2 q3 q4 q5 q6).cells)), (54, .b false), (56, .i (Int.ofNat ((j + 1) + 1)))] [] (pf12 hlt hg (hb M hM) (pos_nat (j := j)) (pred_nat (j := j) (by omega)) hq h1 (pos_nat (j := j)) (pred_nat (j := j) (by omega)) hq h2 (next_nat (j := (j + 1)) (by omega))) (lo' := []) (by kernel_rfl)⟩
theorem rule132 (v : Val) (hv : v.ok) : Comes 60003 139 [.agg v.cells] := by
  obtain ⟨k, i, s, t, l, f⟩ := v
  unfold Val.ok at hv
  simp only [Val.size] at hv
  have hf := sizeF_length f
  have hn := cellsF_length f
  obtain ⟨c, hc⟩ := size_comes (Int.ofNat (cellsF f).length) 64 9
  have := scan (B := 60002) (b := loopAt 139 0) (H := fun j => reH k i s t (cellsL l) (cellsF f) (cellsF f).length j) (τ := reH k i s t (cellsL l) (cellsF f) (cellsF f).length 0) (n := (cellsF f).length) (e := .exit 0) (fin := ⟨[(1, .ptr 0 0 0), (14, .sl false 7 (cellsF f)), (15, nat (cellsF f).length), (16, nat (cellsF f).length), (17, boolX false)], [.var [num k, num i, num s, strX t, .sl false 6 (cellsL l), .sl false 7 (cellsF f)]]⟩) (fun r => ∃ c : Int, ∃ bx, r = ⟨[(2, num c)], bx⟩) (by kernel_rfl)
    (fun j hj => rec_round k i s t (cellsL l) f j (by omega) (by omega))
    (fun M _ => run_of [(17, .b false)] [] (pf1 (nlt_nat (Nat.lt_irrefl (cellsF f).length))) (lo' := []) (by kernel_rfl)) (by simp)
  apply comes_succ
  cases h : (!(c == 0)) with
  | true => exact ⟨c, fun N hN => pure_of [(9, .p (num c)), (11, .b true)] [] (pf2 (hc N (by omega)) h) (x := num c) (bx := []) (by kernel_rfl) rfl⟩
  | false =>
    rcases this with ⟨r, ⟨d, bx, rfl⟩, hr⟩ | hr
    · exact ⟨d, fun N hN => pure_of [(9, .p (num c)), (11, .b false)] [(.ret, ⟨[(2, num d)], bx⟩)] (pf3 (hc N (by omega)) h (hr N (by omega) (by omega))) (x := num d) (bx := []) (by kernel_rfl) rfl⟩
    · exact ⟨0, fun N hN => pure_of [(9, .p (num c)), (11, .b false)] [(.exit 0, ⟨[(1, .ptr 0 0 0), (14, .sl false 7 (cellsF f)), (15, nat (cellsF f).length), (16, nat (cellsF f).length), (17, boolX false)], [.var [num k, num i, num s, strX t, .sl false 6 (cellsL l), .sl false 7 (cellsF f)]]⟩)] (pf3 (hc N (by omega)) h (hr N (by omega) (by omega))) (x := num 0) (bx := []) (by kernel_rfl) rfl⟩
end Go.Proofs.YtbfnfldmnombgaaGreatDoor

/- The check of a value comes to an end. -/
namespace Go.Proofs.YtbfnfldmnombgaaGreatDoor
open Go.Em
set_option maxRecDepth 100000

/-- The values of which a value consists directly. -/
def partsV : Val → List Val
  | .mk k _ _ _ l f => if k = 8 ∨ k = 10 then l else if k = 9 then f.map (·.2) else []
def paH (f acc : List (List X)) (n j : Nat) : St := ⟨[(3, .bs 0 0 j), (16, .sl false 7 f), (17, nat n), (18, nat j)], [.row 6 acc]⟩
def paH' (f acc : List (List X)) (n j : Nat) (x y : List X) : St := ⟨[(3, .bs 2 0 (j + 1)), (16, .sl false 7 f), (17, nat n), (18, nat (j + 1))], [.dead, .var x, .row 6 (acc ++ [y])]⟩
theorem pa_canon' (f acc : List (List X)) (n j : Nat) (x y : List X) : canon 0 (paH' f acc n j x y) = some (paH f (acc ++ [y]) n (j + 1)) := by kernel_rfl
theorem parts_pure (N : Nat) (v : Val) (hv : v.ok) (hN : 60002 ≤ N) : Gam.pureD (callF tab ext N) 175 [.agg v.cells] = some (.sl false 6 (cellsL (partsV v))) := by
  obtain ⟨M, rfl⟩ : ∃ M, N = M + 1 := ⟨N - 1, by omega⟩
  obtain ⟨k, i, s, t, l, f⟩ := v
  unfold Val.ok at hv
  simp only [Val.size] at hv
  have hf := sizeF_length f
  have hn := cellsF_length f
  simp only [partsV]
  cases h1 : (k == 8) with
  | true =>
    have : k = 8 := by simpa using h1
    rw [if_pos (Or.inl this)]
    exact pure_of [(9, .b true)] [] (pf1 h1) (x := .sl false 6 (cellsL l)) (bx := []) (by kernel_rfl) rfl
  | false =>
    have n8 : k ≠ 8 := by simpa using h1
    cases h2 : (k == 10) with
    | true =>
      have : k = 10 := by simpa using h2
      rw [if_pos (Or.inr this)]
      exact pure_of [(9, .b false), (10, .b true)] [] (pf2 h1 h2) (x := .sl false 6 (cellsL l)) (bx := []) (by kernel_rfl) rfl
    | false =>
      have n10 : k ≠ 10 := by simpa using h2
      rw [if_neg (by rintro (h | h); exact n8 h; exact n10 h)]
      cases h3 : (k == 9) with
      | false =>
        have n9 : k ≠ 9 := by simpa using h3
        rw [if_neg n9]
        exact pure_of [(9, .b false), (10, .b false), (14, .b false)] [] (pf3 h1 h2 h3) (x := .sl true 6 []) (bx := []) (by kernel_rfl) rfl
      | true =>
        have : k = 9 := by simpa using h3
        rw [if_pos this]
        have hloop : run (callF tab ext M) 0 M (.loop (loopAt 175 0)) ⟨[(3, .bs 1 0 0), (16, .sl false 7 (cellsF f)), (17, nat (cellsF f).length), (18, nat 0)], [.var (Val.mk k i s t l f).cells, .row 6 []]⟩ = some (.exit 1, ⟨[(3, .bs 0 0 (cellsF f).length), (16, .sl false 7 (cellsF f)), (17, nat (cellsF f).length), (18, nat (cellsF f).length), (19, boolX false)], [.row 6 (cellsL (f.map (·.2)))]⟩) := by
          refine loop_for (σ := fun j => paH (cellsF f) ((cellsL (f.map (·.2))).take j) (cellsF f).length j) (k := (cellsF f).length) (by kernel_rfl) (fun j hj => ?_) ?_ (by simp) (by omega)
          · have hj' : j < f.length := by omega
            have hg := cellsF_get hj'
            have hg2 : (cellsL (f.map (·.2)))[j]? = some f[j].2.cells := by rw [cellsL_eq]; simp [hj']
            have ht := take_succ_get hg2
            have hlen : j = ((cellsL (f.map (·.2))).take j).length := by rw [List.length_take, cellsL_length, List.length_map]; omega
            generalize f[j] = p at hg ht
            obtain ⟨p0, p1, p2, p3, p4, p5, p6⟩ := p
            refine ⟨paH' (cellsF f) ((cellsL (f.map (·.2))).take j) (cellsF f).length j (strX p0 :: (Val.mk p1 p2 p3 p4 p5 p6).cells) (Val.mk p1 p2 p3 p4 p5 p6).cells, run_of [(19, .b true), (20, .e (strX p0 :: (Val.mk p1 p2 p3 p4 p5 p6).cells)), (26, .app), (27, .i (Int.ofNat (j + 1)))] []
              (pf4 (lt_nat (j := j) (k := (cellsF f).length) (by omega)) hg (app_ok (acc := (cellsL (f.map (·.2))).take j) j 0 88 hlen (by omega) (by omega)) (next_nat (j := j) (by omega))) (lo' := []) (by kernel_rfl), ?_⟩
            rw [pa_canon']
            rw [← ht]
          · have ht : (cellsL (f.map (·.2))).take (cellsF f).length = cellsL (f.map (·.2)) := List.take_of_length_le (by rw [cellsL_length, List.length_map]; omega)
            rw [ht]
            exact run_of [(19, .b false)] [] (pf1 (nlt_nat (Nat.lt_irrefl (cellsF f).length))) (lo' := []) (by kernel_rfl)
        have hd : (X.bs 0 0 (cellsF f).length).data [.row 6 (cellsL (f.map (·.2)))] false = some (.sl false 6 (cellsL (f.map (·.2)))) := by
          have hl : (cellsL (f.map (·.2))).length = (cellsF f).length := by rw [cellsL_length, List.length_map, hn]
          simp only [X.data, rowOf, List.getElem?_cons_zero, Nat.zero_add, hl, Nat.le_refl, if_true, Option.map_some, List.drop_zero]
          rw [List.take_of_length_le (by omega)]
        exact pure_of [(9, .b false), (10, .b false), (14, .b true)] [(.exit 1, ⟨[(3, .bs 0 0 (cellsF f).length), (16, .sl false 7 (cellsF f)), (17, nat (cellsF f).length), (18, nat (cellsF f).length), (19, boolX false)], [.row 6 (cellsL (f.map (·.2)))]⟩)]
          (pf4 h1 h2 h3 hloop) (bx := [.row 6 (cellsL (f.map (·.2)))]) (by kernel_rfl) hd

/-! ### A round of the check -/
def rfsOf : C → List (C × C)
  | .seq a b | .cond _ a b => rfsOf a ++ rfsOf b
  | .block _ b | .loop b => rfsOf b
  | .rf _ _ _ a b => (a, b) :: (rfsOf a ++ rfsOf b)
  | _ => []
noncomputable def rfAt (f : Nat) : C × C := match tab f with
  | some fd => (rfsOf fd.body).getD 0 (.skip, .skip)
  | none => (.skip, .skip)
noncomputable def recC (st : LoopState) (p : Option Ex) : Bx := .loop st p [(2, .ptr 1 0 0), (3, .ptr 2 0 0), (4, .ptr 3 0 0)] [11, 12] (rfAt 47).1 (rfAt 47).2
def rulesX : List X := [.v .nilFunc, .fn 127 [], .fn 129 [], .fn 130 [], .fn 132 [], .fn 135 [], .fn 136 [], .fn 137 [], .fn 138 [], .fn 139 [], .fn 141 []]
noncomputable def goC (n : Nat) : List Bx := [recC .ready none, .var [num 0], .var rulesX, .var [nat n]]
noncomputable def endC (c : Int) (n : Nat) : List Bx := [recC .done (some .ret), .var [num c], .var rulesX, .var [nat n]]
def Round (v : Val) (lev : Int) (n : Nat) : Prop :=
  (∃ c : Int, ∀ N, 60010 ≤ N → callF tab ext N .yl [.yl 0, num lev, .agg v.cells] (goC n) = some (boolX false, endC c (n + 1))) ∨
  (n ≤ 4096 ∧ ∀ N, 60010 ≤ N → callF tab ext N .yl [.yl 0, num lev, .agg v.cells] (goC n) = some (boolX true, goC (n + 1)))
theorem round_succ {v : Val} {lev : Int} {n : Nat} (h : (∃ c : Int, ∀ N, 60009 ≤ N → callF tab ext (N + 1) .yl [.yl 0, num lev, .agg v.cells] (goC n) = some (boolX false, endC c (n + 1))) ∨
  (n ≤ 4096 ∧ ∀ N, 60009 ≤ N → callF tab ext (N + 1) .yl [.yl 0, num lev, .agg v.cells] (goC n) = some (boolX true, goC (n + 1)))) : Round v lev n := by
  rcases h with ⟨c, h⟩ | ⟨hn, h⟩
  · refine .inl ⟨c, fun N hN => ?_⟩
    obtain ⟨M, rfl⟩ : ∃ M, N = M + 1 := ⟨N - 1, by omega⟩
    exact h M (by omega)
  · refine .inr ⟨hn, fun N hN => ?_⟩
    obtain ⟨M, rfl⟩ : ∃ M, N = M + 1 := ⟨N - 1, by omega⟩
    exact h M (by omega)
theorem null_at (v : Val) (N : Nat) (hN : 60009 ≤ N) : Gam.pureD (callF tab ext N) 48 [.agg v.cells] = some (boolX (nullV v)) := by
  obtain ⟨M, rfl⟩ : ∃ M, N = M + 1 := ⟨N - 1, by omega⟩
  exact null_val M v
theorem small_of {n : Nat} (h : decide (4096 < Int.ofNat (n + 1)) = false) : n ≤ 4096 := by
  have := of_decide_eq_false h
  simp only [Int.ofNat_eq_natCast] at this
  omega
theorem round1 (i s : Int) (t : ByteArray) (l : List Val) (f : List (ByteArray × Val)) (lev : Int) (n : Nat) (hn : n < 4294967296) : Round (Val.mk 1 i s t l f) lev n := by
  obtain ⟨b, hb⟩ := uses1 i s t l f
  obtain ⟨c, hc⟩ := rule120 (Val.mk 1 i s t l f)
  apply round_succ
  cases h1 : decide (4096 < Int.ofNat (n + 1)) with
  | true =>
    exact .inl ⟨9, fun N hN => yield_of [(14, .i (Int.ofNat (n + 1))), (17, .b true)] (pf2 (next_nat (j := n) hn) h1) (by kernel_rfl)⟩
  | false =>
    cases h2 : decide (8 < lev) with
    | true =>
      exact .inl ⟨23, fun N hN => yield_of [(14, .i (Int.ofNat (n + 1))), (17, .b false), (20, .b true)] (pf3 (next_nat (j := n) hn) h1 h2) (by kernel_rfl)⟩
    | false =>
      have hz := null_at (Val.mk 1 i s t l f)
      generalize nullV (Val.mk 1 i s t l f) = z at hz
      cases z with
      | true =>
        exact .inl ⟨19, fun N hN => yield_of [(14, .i (Int.ofNat (n + 1))), (17, .b false), (20, .b false), (23, .p (boolX true))] (pf4 (next_nat (j := n) hn) h1 h2 (hz N hN)) (by kernel_rfl)⟩
      | false =>
        cases b with
        | true =>
          cases h3 : (!(c == 0)) with
          | true =>
            exact .inl ⟨c, fun N hN => yield_of [(14, .i (Int.ofNat (n + 1))), (17, .b false), (20, .b false), (23, .p (boolX false)), (35, .p (boolX true)), (42, .p (num c)), (44, .b true)] (pf7 (next_nat (j := n) hn) h1 h2 (hz N hN) (hb N (by omega)) (hc N (by omega)) h3) (by kernel_rfl)⟩
          | false =>
            exact .inr ⟨small_of h1, fun N hN => yield_of [(14, .i (Int.ofNat (n + 1))), (17, .b false), (20, .b false), (23, .p (boolX false)), (35, .p (boolX true)), (42, .p (num c)), (44, .b false)] (pf7 (next_nat (j := n) hn) h1 h2 (hz N hN) (hb N (by omega)) (hc N (by omega)) h3) (by kernel_rfl)⟩
        | false =>
          exact .inl ⟨3, fun N hN => yield_of [(14, .i (Int.ofNat (n + 1))), (17, .b false), (20, .b false), (23, .p (boolX false)), (35, .p (boolX false))] (pf5 (next_nat (j := n) hn) h1 h2 (hz N hN) (hb N (by omega))) (by kernel_rfl)⟩
theorem round2 (i s : Int) (t : ByteArray) (l : List Val) (f : List (ByteArray × Val)) (lev : Int) (n : Nat) (hn : n < 4294967296) : Round (Val.mk 2 i s t l f) lev n := by
  obtain ⟨b, hb⟩ := uses2 i s t l f
  obtain ⟨c, hc⟩ := rule122 (Val.mk 2 i s t l f)
  apply round_succ
  cases h1 : decide (4096 < Int.ofNat (n + 1)) with
  | true =>
    exact .inl ⟨9, fun N hN => yield_of [(14, .i (Int.ofNat (n + 1))), (17, .b true)] (pf2 (next_nat (j := n) hn) h1) (by kernel_rfl)⟩
  | false =>
    cases h2 : decide (8 < lev) with
    | true =>
      exact .inl ⟨23, fun N hN => yield_of [(14, .i (Int.ofNat (n + 1))), (17, .b false), (20, .b true)] (pf3 (next_nat (j := n) hn) h1 h2) (by kernel_rfl)⟩
    | false =>
      have hz := null_at (Val.mk 2 i s t l f)
      generalize nullV (Val.mk 2 i s t l f) = z at hz
      cases z with
      | true =>
        exact .inl ⟨19, fun N hN => yield_of [(14, .i (Int.ofNat (n + 1))), (17, .b false), (20, .b false), (23, .p (boolX true))] (pf4 (next_nat (j := n) hn) h1 h2 (hz N hN)) (by kernel_rfl)⟩
      | false =>
        cases b with
        | true =>
          cases h3 : (!(c == 0)) with
          | true =>
            exact .inl ⟨c, fun N hN => yield_of [(14, .i (Int.ofNat (n + 1))), (17, .b false), (20, .b false), (23, .p (boolX false)), (35, .p (boolX true)), (42, .p (num c)), (44, .b true)] (pf7 (next_nat (j := n) hn) h1 h2 (hz N hN) (hb N (by omega)) (hc N (by omega)) h3) (by kernel_rfl)⟩
          | false =>
            exact .inr ⟨small_of h1, fun N hN => yield_of [(14, .i (Int.ofNat (n + 1))), (17, .b false), (20, .b false), (23, .p (boolX false)), (35, .p (boolX true)), (42, .p (num c)), (44, .b false)] (pf7 (next_nat (j := n) hn) h1 h2 (hz N hN) (hb N (by omega)) (hc N (by omega)) h3) (by kernel_rfl)⟩
        | false =>
          exact .inl ⟨3, fun N hN => yield_of [(14, .i (Int.ofNat (n + 1))), (17, .b false), (20, .b false), (23, .p (boolX false)), (35, .p (boolX false))] (pf5 (next_nat (j := n) hn) h1 h2 (hz N hN) (hb N (by omega))) (by kernel_rfl)⟩
theorem round3 (i s : Int) (t : ByteArray) (l : List Val) (f : List (ByteArray × Val)) (lev : Int) (n : Nat) (hn : n < 4294967296) : Round (Val.mk 3 i s t l f) lev n := by
  obtain ⟨b, hb⟩ := uses3 i s t l f
  obtain ⟨c, hc⟩ := rule123 (Val.mk 3 i s t l f)
  apply round_succ
  cases h1 : decide (4096 < Int.ofNat (n + 1)) with
  | true =>
    exact .inl ⟨9, fun N hN => yield_of [(14, .i (Int.ofNat (n + 1))), (17, .b true)] (pf2 (next_nat (j := n) hn) h1) (by kernel_rfl)⟩
  | false =>
    cases h2 : decide (8 < lev) with
    | true =>
      exact .inl ⟨23, fun N hN => yield_of [(14, .i (Int.ofNat (n + 1))), (17, .b false), (20, .b true)] (pf3 (next_nat (j := n) hn) h1 h2) (by kernel_rfl)⟩
    | false =>
      have hz := null_at (Val.mk 3 i s t l f)
      generalize nullV (Val.mk 3 i s t l f) = z at hz
      cases z with
      | true =>
        exact .inl ⟨19, fun N hN => yield_of [(14, .i (Int.ofNat (n + 1))), (17, .b false), (20, .b false), (23, .p (boolX true))] (pf4 (next_nat (j := n) hn) h1 h2 (hz N hN)) (by kernel_rfl)⟩
      | false =>
        cases b with
        | true =>
          cases h3 : (!(c == 0)) with
          | true =>
            exact .inl ⟨c, fun N hN => yield_of [(14, .i (Int.ofNat (n + 1))), (17, .b false), (20, .b false), (23, .p (boolX false)), (35, .p (boolX true)), (42, .p (num c)), (44, .b true)] (pf7 (next_nat (j := n) hn) h1 h2 (hz N hN) (hb N (by omega)) (hc N (by omega)) h3) (by kernel_rfl)⟩
          | false =>
            exact .inr ⟨small_of h1, fun N hN => yield_of [(14, .i (Int.ofNat (n + 1))), (17, .b false), (20, .b false), (23, .p (boolX false)), (35, .p (boolX true)), (42, .p (num c)), (44, .b false)] (pf7 (next_nat (j := n) hn) h1 h2 (hz N hN) (hb N (by omega)) (hc N (by omega)) h3) (by kernel_rfl)⟩
        | false =>
          exact .inl ⟨3, fun N hN => yield_of [(14, .i (Int.ofNat (n + 1))), (17, .b false), (20, .b false), (23, .p (boolX false)), (35, .p (boolX false))] (pf5 (next_nat (j := n) hn) h1 h2 (hz N hN) (hb N (by omega))) (by kernel_rfl)⟩
theorem round4 (i s : Int) (t : ByteArray) (l : List Val) (f : List (ByteArray × Val)) (lev : Int) (n : Nat) (hn : n < 4294967296) : Round (Val.mk 4 i s t l f) lev n := by
  obtain ⟨b, hb⟩ := uses4 i s t l f
  obtain ⟨c, hc⟩ := rule125 (Val.mk 4 i s t l f)
  apply round_succ
  cases h1 : decide (4096 < Int.ofNat (n + 1)) with
  | true =>
    exact .inl ⟨9, fun N hN => yield_of [(14, .i (Int.ofNat (n + 1))), (17, .b true)] (pf2 (next_nat (j := n) hn) h1) (by kernel_rfl)⟩
  | false =>
    cases h2 : decide (8 < lev) with
    | true =>
      exact .inl ⟨23, fun N hN => yield_of [(14, .i (Int.ofNat (n + 1))), (17, .b false), (20, .b true)] (pf3 (next_nat (j := n) hn) h1 h2) (by kernel_rfl)⟩
    | false =>
      have hz := null_at (Val.mk 4 i s t l f)
      generalize nullV (Val.mk 4 i s t l f) = z at hz
      cases z with
      | true =>
        exact .inl ⟨19, fun N hN => yield_of [(14, .i (Int.ofNat (n + 1))), (17, .b false), (20, .b false), (23, .p (boolX true))] (pf4 (next_nat (j := n) hn) h1 h2 (hz N hN)) (by kernel_rfl)⟩
      | false =>
        cases b with
        | true =>
          cases h3 : (!(c == 0)) with
          | true =>
            exact .inl ⟨c, fun N hN => yield_of [(14, .i (Int.ofNat (n + 1))), (17, .b false), (20, .b false), (23, .p (boolX false)), (35, .p (boolX true)), (42, .p (num c)), (44, .b true)] (pf7 (next_nat (j := n) hn) h1 h2 (hz N hN) (hb N (by omega)) (hc N (by omega)) h3) (by kernel_rfl)⟩
          | false =>
            exact .inr ⟨small_of h1, fun N hN => yield_of [(14, .i (Int.ofNat (n + 1))), (17, .b false), (20, .b false), (23, .p (boolX false)), (35, .p (boolX true)), (42, .p (num c)), (44, .b false)] (pf7 (next_nat (j := n) hn) h1 h2 (hz N hN) (hb N (by omega)) (hc N (by omega)) h3) (by kernel_rfl)⟩
        | false =>
          exact .inl ⟨3, fun N hN => yield_of [(14, .i (Int.ofNat (n + 1))), (17, .b false), (20, .b false), (23, .p (boolX false)), (35, .p (boolX false))] (pf5 (next_nat (j := n) hn) h1 h2 (hz N hN) (hb N (by omega))) (by kernel_rfl)⟩
theorem round5 (i s : Int) (t : ByteArray) (l : List Val) (f : List (ByteArray × Val)) (lev : Int) (n : Nat) (hn : n < 4294967296) : Round (Val.mk 5 i s t l f) lev n := by
  obtain ⟨b, hb⟩ := uses5 i s t l f
  obtain ⟨c, hc⟩ := rule128 (Val.mk 5 i s t l f)
  apply round_succ
  cases h1 : decide (4096 < Int.ofNat (n + 1)) with
  | true =>
    exact .inl ⟨9, fun N hN => yield_of [(14, .i (Int.ofNat (n + 1))), (17, .b true)] (pf2 (next_nat (j := n) hn) h1) (by kernel_rfl)⟩
  | false =>
    cases h2 : decide (8 < lev) with
    | true =>
      exact .inl ⟨23, fun N hN => yield_of [(14, .i (Int.ofNat (n + 1))), (17, .b false), (20, .b true)] (pf3 (next_nat (j := n) hn) h1 h2) (by kernel_rfl)⟩
    | false =>
      have hz := null_at (Val.mk 5 i s t l f)
      generalize nullV (Val.mk 5 i s t l f) = z at hz
      cases z with
      | true =>
        exact .inl ⟨19, fun N hN => yield_of [(14, .i (Int.ofNat (n + 1))), (17, .b false), (20, .b false), (23, .p (boolX true))] (pf4 (next_nat (j := n) hn) h1 h2 (hz N hN)) (by kernel_rfl)⟩
      | false =>
        cases b with
        | true =>
          cases h3 : (!(c == 0)) with
          | true =>
            exact .inl ⟨c, fun N hN => yield_of [(14, .i (Int.ofNat (n + 1))), (17, .b false), (20, .b false), (23, .p (boolX false)), (35, .p (boolX true)), (42, .p (num c)), (44, .b true)] (pf7 (next_nat (j := n) hn) h1 h2 (hz N hN) (hb N (by omega)) (hc N (by omega)) h3) (by kernel_rfl)⟩
          | false =>
            exact .inr ⟨small_of h1, fun N hN => yield_of [(14, .i (Int.ofNat (n + 1))), (17, .b false), (20, .b false), (23, .p (boolX false)), (35, .p (boolX true)), (42, .p (num c)), (44, .b false)] (pf7 (next_nat (j := n) hn) h1 h2 (hz N hN) (hb N (by omega)) (hc N (by omega)) h3) (by kernel_rfl)⟩
        | false =>
          exact .inl ⟨3, fun N hN => yield_of [(14, .i (Int.ofNat (n + 1))), (17, .b false), (20, .b false), (23, .p (boolX false)), (35, .p (boolX false))] (pf5 (next_nat (j := n) hn) h1 h2 (hz N hN) (hb N (by omega))) (by kernel_rfl)⟩
theorem round6 (i s : Int) (t : ByteArray) (l : List Val) (f : List (ByteArray × Val)) (lev : Int) (n : Nat) (hn : n < 4294967296) : Round (Val.mk 6 i s t l f) lev n := by
  obtain ⟨b, hb⟩ := uses6 i s t l f
  obtain ⟨c, hc⟩ := rule129 (Val.mk 6 i s t l f)
  apply round_succ
  cases h1 : decide (4096 < Int.ofNat (n + 1)) with
  | true =>
    exact .inl ⟨9, fun N hN => yield_of [(14, .i (Int.ofNat (n + 1))), (17, .b true)] (pf2 (next_nat (j := n) hn) h1) (by kernel_rfl)⟩
  | false =>
    cases h2 : decide (8 < lev) with
    | true =>
      exact .inl ⟨23, fun N hN => yield_of [(14, .i (Int.ofNat (n + 1))), (17, .b false), (20, .b true)] (pf3 (next_nat (j := n) hn) h1 h2) (by kernel_rfl)⟩
    | false =>
      have hz := null_at (Val.mk 6 i s t l f)
      generalize nullV (Val.mk 6 i s t l f) = z at hz
      cases z with
      | true =>
        exact .inl ⟨19, fun N hN => yield_of [(14, .i (Int.ofNat (n + 1))), (17, .b false), (20, .b false), (23, .p (boolX true))] (pf4 (next_nat (j := n) hn) h1 h2 (hz N hN)) (by kernel_rfl)⟩
      | false =>
        cases b with
        | true =>
          cases h3 : (!(c == 0)) with
          | true =>
            exact .inl ⟨c, fun N hN => yield_of [(14, .i (Int.ofNat (n + 1))), (17, .b false), (20, .b false), (23, .p (boolX false)), (35, .p (boolX true)), (42, .p (num c)), (44, .b true)] (pf7 (next_nat (j := n) hn) h1 h2 (hz N hN) (hb N (by omega)) (hc N (by omega)) h3) (by kernel_rfl)⟩
          | false =>
            exact .inr ⟨small_of h1, fun N hN => yield_of [(14, .i (Int.ofNat (n + 1))), (17, .b false), (20, .b false), (23, .p (boolX false)), (35, .p (boolX true)), (42, .p (num c)), (44, .b false)] (pf7 (next_nat (j := n) hn) h1 h2 (hz N hN) (hb N (by omega)) (hc N (by omega)) h3) (by kernel_rfl)⟩
        | false =>
          exact .inl ⟨3, fun N hN => yield_of [(14, .i (Int.ofNat (n + 1))), (17, .b false), (20, .b false), (23, .p (boolX false)), (35, .p (boolX false))] (pf5 (next_nat (j := n) hn) h1 h2 (hz N hN) (hb N (by omega))) (by kernel_rfl)⟩
theorem round7 (i s : Int) (t : ByteArray) (l : List Val) (f : List (ByteArray × Val)) (lev : Int) (n : Nat) (hn : n < 4294967296) : Round (Val.mk 7 i s t l f) lev n := by
  obtain ⟨b, hb⟩ := uses7 i s t l f
  obtain ⟨c, hc⟩ := rule130 (Val.mk 7 i s t l f)
  apply round_succ
  cases h1 : decide (4096 < Int.ofNat (n + 1)) with
  | true =>
    exact .inl ⟨9, fun N hN => yield_of [(14, .i (Int.ofNat (n + 1))), (17, .b true)] (pf2 (next_nat (j := n) hn) h1) (by kernel_rfl)⟩
  | false =>
    cases h2 : decide (8 < lev) with
    | true =>
      exact .inl ⟨23, fun N hN => yield_of [(14, .i (Int.ofNat (n + 1))), (17, .b false), (20, .b true)] (pf3 (next_nat (j := n) hn) h1 h2) (by kernel_rfl)⟩
    | false =>
      have hz := null_at (Val.mk 7 i s t l f)
      generalize nullV (Val.mk 7 i s t l f) = z at hz
      cases z with
      | true =>
        exact .inl ⟨19, fun N hN => yield_of [(14, .i (Int.ofNat (n + 1))), (17, .b false), (20, .b false), (23, .p (boolX true))] (pf4 (next_nat (j := n) hn) h1 h2 (hz N hN)) (by kernel_rfl)⟩
      | false =>
        cases b with
        | true =>
          cases h3 : (!(c == 0)) with
          | true =>
            exact .inl ⟨c, fun N hN => yield_of [(14, .i (Int.ofNat (n + 1))), (17, .b false), (20, .b false), (23, .p (boolX false)), (35, .p (boolX true)), (42, .p (num c)), (44, .b true)] (pf7 (next_nat (j := n) hn) h1 h2 (hz N hN) (hb N (by omega)) (hc N (by omega)) h3) (by kernel_rfl)⟩
          | false =>
            exact .inr ⟨small_of h1, fun N hN => yield_of [(14, .i (Int.ofNat (n + 1))), (17, .b false), (20, .b false), (23, .p (boolX false)), (35, .p (boolX true)), (42, .p (num c)), (44, .b false)] (pf7 (next_nat (j := n) hn) h1 h2 (hz N hN) (hb N (by omega)) (hc N (by omega)) h3) (by kernel_rfl)⟩
        | false =>
          exact .inl ⟨3, fun N hN => yield_of [(14, .i (Int.ofNat (n + 1))), (17, .b false), (20, .b false), (23, .p (boolX false)), (35, .p (boolX false))] (pf5 (next_nat (j := n) hn) h1 h2 (hz N hN) (hb N (by omega))) (by kernel_rfl)⟩
theorem round8 (i s : Int) (t : ByteArray) (l : List Val) (f : List (ByteArray × Val)) (lev : Int) (n : Nat) (hn : n < 4294967296) : Round (Val.mk 8 i s t l f) lev n := by
  obtain ⟨b, hb⟩ := uses8 i s t l f
  obtain ⟨c, hc⟩ := rule131 (Val.mk 8 i s t l f)
  apply round_succ
  cases h1 : decide (4096 < Int.ofNat (n + 1)) with
  | true =>
    exact .inl ⟨9, fun N hN => yield_of [(14, .i (Int.ofNat (n + 1))), (17, .b true)] (pf2 (next_nat (j := n) hn) h1) (by kernel_rfl)⟩
  | false =>
    cases h2 : decide (8 < lev) with
    | true =>
      exact .inl ⟨23, fun N hN => yield_of [(14, .i (Int.ofNat (n + 1))), (17, .b false), (20, .b true)] (pf3 (next_nat (j := n) hn) h1 h2) (by kernel_rfl)⟩
    | false =>
      have hz := null_at (Val.mk 8 i s t l f)
      generalize nullV (Val.mk 8 i s t l f) = z at hz
      cases z with
      | true =>
        exact .inl ⟨19, fun N hN => yield_of [(14, .i (Int.ofNat (n + 1))), (17, .b false), (20, .b false), (23, .p (boolX true))] (pf4 (next_nat (j := n) hn) h1 h2 (hz N hN)) (by kernel_rfl)⟩
      | false =>
        cases b with
        | true =>
          cases h3 : (!(c == 0)) with
          | true =>
            exact .inl ⟨c, fun N hN => yield_of [(14, .i (Int.ofNat (n + 1))), (17, .b false), (20, .b false), (23, .p (boolX false)), (35, .p (boolX true)), (42, .p (num c)), (44, .b true)] (pf7 (next_nat (j := n) hn) h1 h2 (hz N hN) (hb N (by omega)) (hc N (by omega)) h3) (by kernel_rfl)⟩
          | false =>
            exact .inr ⟨small_of h1, fun N hN => yield_of [(14, .i (Int.ofNat (n + 1))), (17, .b false), (20, .b false), (23, .p (boolX false)), (35, .p (boolX true)), (42, .p (num c)), (44, .b false)] (pf7 (next_nat (j := n) hn) h1 h2 (hz N hN) (hb N (by omega)) (hc N (by omega)) h3) (by kernel_rfl)⟩
        | false =>
          exact .inl ⟨3, fun N hN => yield_of [(14, .i (Int.ofNat (n + 1))), (17, .b false), (20, .b false), (23, .p (boolX false)), (35, .p (boolX false))] (pf5 (next_nat (j := n) hn) h1 h2 (hz N hN) (hb N (by omega))) (by kernel_rfl)⟩
theorem round9 (i s : Int) (t : ByteArray) (l : List Val) (f : List (ByteArray × Val)) (lev : Int) (n : Nat) (hn : n < 4294967296) (hv : (Val.mk 9 i s t l f).ok) : Round (Val.mk 9 i s t l f) lev n := by
  obtain ⟨b, hb⟩ := uses9 i s t l f
  obtain ⟨c, hc⟩ := rule132 (Val.mk 9 i s t l f) hv
  apply round_succ
  cases h1 : decide (4096 < Int.ofNat (n + 1)) with
  | true =>
    exact .inl ⟨9, fun N hN => yield_of [(14, .i (Int.ofNat (n + 1))), (17, .b true)] (pf2 (next_nat (j := n) hn) h1) (by kernel_rfl)⟩
  | false =>
    cases h2 : decide (8 < lev) with
    | true =>
      exact .inl ⟨23, fun N hN => yield_of [(14, .i (Int.ofNat (n + 1))), (17, .b false), (20, .b true)] (pf3 (next_nat (j := n) hn) h1 h2) (by kernel_rfl)⟩
    | false =>
      have hz := null_at (Val.mk 9 i s t l f)
      generalize nullV (Val.mk 9 i s t l f) = z at hz
      cases z with
      | true =>
        exact .inl ⟨19, fun N hN => yield_of [(14, .i (Int.ofNat (n + 1))), (17, .b false), (20, .b false), (23, .p (boolX true))] (pf4 (next_nat (j := n) hn) h1 h2 (hz N hN)) (by kernel_rfl)⟩
      | false =>
        cases b with
        | true =>
          cases h3 : (!(c == 0)) with
          | true =>
            exact .inl ⟨c, fun N hN => yield_of [(14, .i (Int.ofNat (n + 1))), (17, .b false), (20, .b false), (23, .p (boolX false)), (35, .p (boolX true)), (42, .p (num c)), (44, .b true)] (pf7 (next_nat (j := n) hn) h1 h2 (hz N hN) (hb N (by omega)) (hc N (by omega)) h3) (by kernel_rfl)⟩
          | false =>
            exact .inr ⟨small_of h1, fun N hN => yield_of [(14, .i (Int.ofNat (n + 1))), (17, .b false), (20, .b false), (23, .p (boolX false)), (35, .p (boolX true)), (42, .p (num c)), (44, .b false)] (pf7 (next_nat (j := n) hn) h1 h2 (hz N hN) (hb N (by omega)) (hc N (by omega)) h3) (by kernel_rfl)⟩
        | false =>
          exact .inl ⟨3, fun N hN => yield_of [(14, .i (Int.ofNat (n + 1))), (17, .b false), (20, .b false), (23, .p (boolX false)), (35, .p (boolX false))] (pf5 (next_nat (j := n) hn) h1 h2 (hz N hN) (hb N (by omega))) (by kernel_rfl)⟩
theorem round10 (i s : Int) (t : ByteArray) (l : List Val) (f : List (ByteArray × Val)) (lev : Int) (n : Nat) (hn : n < 4294967296) : Round (Val.mk 10 i s t l f) lev n := by
  obtain ⟨b, hb⟩ := uses10 i s t l f
  obtain ⟨c, hc⟩ := rule134 (Val.mk 10 i s t l f)
  apply round_succ
  cases h1 : decide (4096 < Int.ofNat (n + 1)) with
  | true =>
    exact .inl ⟨9, fun N hN => yield_of [(14, .i (Int.ofNat (n + 1))), (17, .b true)] (pf2 (next_nat (j := n) hn) h1) (by kernel_rfl)⟩
  | false =>
    cases h2 : decide (8 < lev) with
    | true =>
      exact .inl ⟨23, fun N hN => yield_of [(14, .i (Int.ofNat (n + 1))), (17, .b false), (20, .b true)] (pf3 (next_nat (j := n) hn) h1 h2) (by kernel_rfl)⟩
    | false =>
      have hz := null_at (Val.mk 10 i s t l f)
      generalize nullV (Val.mk 10 i s t l f) = z at hz
      cases z with
      | true =>
        exact .inl ⟨19, fun N hN => yield_of [(14, .i (Int.ofNat (n + 1))), (17, .b false), (20, .b false), (23, .p (boolX true))] (pf4 (next_nat (j := n) hn) h1 h2 (hz N hN)) (by kernel_rfl)⟩
      | false =>
        cases b with
        | true =>
          cases h3 : (!(c == 0)) with
          | true =>
            exact .inl ⟨c, fun N hN => yield_of [(14, .i (Int.ofNat (n + 1))), (17, .b false), (20, .b false), (23, .p (boolX false)), (35, .p (boolX true)), (42, .p (num c)), (44, .b true)] (pf7 (next_nat (j := n) hn) h1 h2 (hz N hN) (hb N (by omega)) (hc N (by omega)) h3) (by kernel_rfl)⟩
          | false =>
            exact .inr ⟨small_of h1, fun N hN => yield_of [(14, .i (Int.ofNat (n + 1))), (17, .b false), (20, .b false), (23, .p (boolX false)), (35, .p (boolX true)), (42, .p (num c)), (44, .b false)] (pf7 (next_nat (j := n) hn) h1 h2 (hz N hN) (hb N (by omega)) (hc N (by omega)) h3) (by kernel_rfl)⟩
        | false =>
          exact .inl ⟨3, fun N hN => yield_of [(14, .i (Int.ofNat (n + 1))), (17, .b false), (20, .b false), (23, .p (boolX false)), (35, .p (boolX false))] (pf5 (next_nat (j := n) hn) h1 h2 (hz N hN) (hb N (by omega))) (by kernel_rfl)⟩
theorem round_comes (v : Val) (hv : v.ok) (lev : Int) (n : Nat) (hn : n < 4294967296) : Round v lev n := by
  obtain ⟨k, i, s, t, l, f⟩ := v
  by_cases h : 1 ≤ k ∧ k ≤ 10
  · have : k = 1 ∨ k = 2 ∨ k = 3 ∨ k = 4 ∨ k = 5 ∨ k = 6 ∨ k = 7 ∨ k = 8 ∨ k = 9 ∨ k = 10 := by omega
    rcases this with rfl | rfl | rfl | rfl | rfl | rfl | rfl | rfl | rfl | rfl
    · exact round1 i s t l f lev n hn
    · exact round2 i s t l f lev n hn
    · exact round3 i s t l f lev n hn
    · exact round4 i s t l f lev n hn
    · exact round5 i s t l f lev n hn
    · exact round6 i s t l f lev n hn
    · exact round7 i s t l f lev n hn
    · exact round8 i s t l f lev n hn
    · exact round9 i s t l f lev n hn hv
    · exact round10 i s t l f lev n hn
  · apply round_succ
    cases h1 : decide (4096 < Int.ofNat (n + 1)) with
    | true =>
      exact .inl ⟨9, fun N hN => yield_of [(14, .i (Int.ofNat (n + 1))), (17, .b true)] (pf2 (next_nat (j := n) hn) h1) (by kernel_rfl)⟩
    | false =>
      cases h2 : decide (8 < lev) with
      | true =>
        exact .inl ⟨23, fun N hN => yield_of [(14, .i (Int.ofNat (n + 1))), (17, .b false), (20, .b true)] (pf3 (next_nat (j := n) hn) h1 h2) (by kernel_rfl)⟩
      | false =>
        have hz := null_at (Val.mk k i s t l f)
        generalize nullV (Val.mk k i s t l f) = z at hz
        cases z with
        | true =>
          exact .inl ⟨19, fun N hN => yield_of [(14, .i (Int.ofNat (n + 1))), (17, .b false), (20, .b false), (23, .p (boolX true))] (pf4 (next_nat (j := n) hn) h1 h2 (hz N hN)) (by kernel_rfl)⟩
        | false =>
          cases h3 : decide (k < 1) with
          | true =>
            exact .inl ⟨11, fun N hN => yield_of [(14, .i (Int.ofNat (n + 1))), (17, .b false), (20, .b false), (23, .p (boolX false)), (27, .b true)] (pf5 (next_nat (j := n) hn) h1 h2 (hz N hN) h3) (by kernel_rfl)⟩
          | false =>
            cases h4 : decide (10 < k) with
            | true =>
              exact .inl ⟨11, fun N hN => yield_of [(14, .i (Int.ofNat (n + 1))), (17, .b false), (20, .b false), (23, .p (boolX false)), (27, .b false), (31, .b true)] (pf6 (next_nat (j := n) hn) h1 h2 (hz N hN) h3 h4) (by kernel_rfl)⟩
            | false =>
              have e1 := of_decide_eq_false h3
              have e2 := of_decide_eq_false h4
              exact absurd ⟨by omega, by omega⟩ h
end Go.Proofs.YtbfnfldmnombgaaGreatDoor

/- The visits of a value come to an end; so does its check. -/
namespace Go.Proofs.YtbfnfldmnombgaaGreatDoor
open Go.Em
set_option maxRecDepth 100000

def Visit (v : Val) (lev n : Nat) : Prop :=
  (∃ (c : Int) (m : Nat), ∀ N, 60020 + v.size ≤ N → callF tab ext N (.fn 143) [.agg v.cells, nat lev, .yl 0] (goC n) = some (boolX false, endC c m)) ∨
  (∃ m : Nat, m ≤ 4097 ∧ ∀ N, 60020 + v.size ≤ N → callF tab ext N (.fn 143) [.agg v.cells, nat lev, .yl 0] (goC n) = some (boolX true, goC m))

section
variable (ps : List (List X)) (lev len j n m : Nat) (c : Int) (u : List X)
noncomputable def viH : St := ⟨[(1, nat lev), (2, .yl 0), (15, .sl false 6 ps), (16, nat len), (17, nat j)], goC n⟩
noncomputable def viH' : St := ⟨[(1, nat lev), (2, .yl 0), (15, .sl false 6 ps), (16, nat len), (17, nat j)], goC n ++ [.var u]⟩
noncomputable def viE : St := ⟨[(1, nat lev), (2, .yl 0), (15, .sl false 6 ps), (16, nat len), (17, nat j), (18, boolX false)], goC n⟩
theorem vi_canon : canon 4 (viH ps lev len j n) = some (viH ps lev len j n) := by kernel_rfl
theorem vi_canon' : canon 4 (viH' ps lev len j n u) = some (viH ps lev len j n) := by kernel_rfl
end

theorem visit_loop {B : Nat} (ps : List Val) (lev : Nat) (hlev : lev ≤ 100000) (hl : ps.length ≤ 60000) (hv : ∀ u, u ∈ ps → 60020 + u.size ≤ B ∧ ∀ n, n ≤ 4097 → Visit u (lev + 1) n) : ∀ d j n, j + d = ps.length → n ≤ 4097 →
    (∃ (c : Int) (m : Nat) (u : List X), ∀ M F, B ≤ M → d < F → iter 4 (run (callF tab ext M) 4 M (loopAt 143 0)) F (viH (cellsL ps) lev (cellsL ps).length j n) = some (.ret, ⟨[(6, boolX false)], endC c m ++ [.var u]⟩)) ∨
    (∃ m : Nat, m ≤ 4097 ∧ ∀ M F, B ≤ M → d < F → iter 4 (run (callF tab ext M) 4 M (loopAt 143 0)) F (viH (cellsL ps) lev (cellsL ps).length j n) = some (.exit 0, viE (cellsL ps) lev (cellsL ps).length (cellsL ps).length m))
  | 0, j, n, hj, hn => by
    have hc := cellsL_length ps
    have hj' : j = (cellsL ps).length := by omega
    subst hj'
    right
    refine ⟨n, hn, fun M F _ hF => ?_⟩
    obtain ⟨F', rfl⟩ : ∃ F', F = F' + 1 := ⟨F - 1, by omega⟩
    exact iter_end (vi_canon ..) (run_of [(18, .b false)] [] (pf1 (nlt_nat (Nat.lt_irrefl (cellsL ps).length))) (lo' := []) (by kernel_rfl)) (by simp)
  | d + 1, j, n, hj, hn => by
    have hc := cellsL_length ps
    have hj' : j < ps.length := by omega
    have hg := cellsL_get hj'
    obtain ⟨hB, hu⟩ := hv _ (List.getElem_mem hj')
    have hu := hu n hn
    generalize ps[j] = u at hg hB hu
    obtain ⟨u1, u2, u3, u4, u5, u6⟩ := u
    have hlt := lt_nat (j := j) (k := (cellsL ps).length) (by omega)
    have hnx := next_nat (j := lev) (by omega)
    rcases hu with ⟨c, m, h⟩ | ⟨m, hm, h⟩
    · left
      refine ⟨c, m, (Val.mk u1 u2 u3 u4 u5 u6).cells, fun M F hM hF => ?_⟩
      obtain ⟨F', rfl⟩ : ∃ F', F = F' + 1 := ⟨F - 1, by omega⟩
      exact iter_end (vi_canon ..) (run_of [(18, .b true), (19, .e (Val.mk u1 u2 u3 u4 u5 u6).cells), (23, .i (Int.ofNat (lev + 1))), (25, .r (boolX false) (endC c m))] [] (pf4 hlt hg hnx (h M (by omega))) (lo' := []) (by kernel_rfl)) (by simp)
    · have hs : ∀ M, B ≤ M → run (callF tab ext M) 4 M (loopAt 143 0) (viH (cellsL ps) lev (cellsL ps).length j n) = some (.norm, viH' (cellsL ps) lev (cellsL ps).length (j + 1) m (Val.mk u1 u2 u3 u4 u5 u6).cells) := fun M hM =>
        run_of [(18, .b true), (19, .e (Val.mk u1 u2 u3 u4 u5 u6).cells), (23, .i (Int.ofNat (lev + 1))), (25, .r (boolX true) (goC m)), (27, .i (Int.ofNat (j + 1)))] [] (pf5 hlt hg hnx (h M (by omega)) (next_nat (j := j) (by omega))) (lo' := []) (by kernel_rfl)
      rcases visit_loop ps lev hlev hl hv d (j + 1) m (by omega) hm with ⟨c, m', x, h'⟩ | ⟨m', hm', h'⟩
      · left
        refine ⟨c, m', x, fun M F hM hF => ?_⟩
        obtain ⟨F', rfl⟩ : ∃ F', F = F' + 1 := ⟨F - 1, by omega⟩
        rw [(iter_step (vi_canon ..) (hs M hM) rfl).trans (iter_canon (vi_canon' ..) (vi_canon ..))]
        exact h' M F' hM (by omega)
      · right
        refine ⟨m', hm', fun M F hM hF => ?_⟩
        obtain ⟨F', rfl⟩ : ∃ F', F = F' + 1 := ⟨F - 1, by omega⟩
        rw [(iter_step (vi_canon ..) (hs M hM) rfl).trans (iter_canon (vi_canon' ..) (vi_canon ..))]
        exact h' M F' hM (by omega)

theorem partsV_size (v : Val) : ∀ u, u ∈ partsV v → u.size < v.size := by
  obtain ⟨k, i, s, t, l, f⟩ := v
  intro u hu
  simp only [partsV] at hu
  simp only [Val.size]
  split at hu
  · have := sizeL_mem hu; omega
  · split at hu
    · obtain ⟨p, hp, rfl⟩ := List.mem_map.1 hu
      have := sizeF_mem hp; omega
    · cases hu
theorem partsV_length (v : Val) : (partsV v).length < v.size := by
  obtain ⟨k, i, s, t, l, f⟩ := v
  simp only [partsV, Val.size]
  have := sizeL_length l
  have := sizeF_length f
  split
  · omega
  · split
    · rw [List.length_map]; omega
    · simp

theorem visit_comes : ∀ (sz : Nat) (v : Val), v.size ≤ sz → v.ok → ∀ (lev n : Nat), lev + v.size ≤ 100000 → n ≤ 4097 → Visit v lev n
  | 0, .mk .., h, _, _, _, _, _ => by simp [Val.size] at h
  | sz + 1, v, h, hv, lev, n, hlev, hn => by
    have hr := round_comes v hv (Int.ofNat lev) n (by omega)
    have hp : ∀ M, 60019 + v.size ≤ M → Gam.pureD (callF tab ext M) 175 [.agg v.cells] = some (.sl false 6 (cellsL (partsV v))) := fun M hM => parts_pure M v hv (by omega)
    have hlen := partsV_length v
    unfold Val.ok at hv
    have hloop : ∀ n, n ≤ 4097 → _ := fun n hn => visit_loop (B := 60019 + v.size) (partsV v) lev (by omega) (by omega) (fun u hu => by
      have := partsV_size v u hu
      exact ⟨by omega, fun n hn => visit_comes sz u (by omega) (by unfold Val.ok; omega) (lev + 1) n (by omega) hn⟩) (partsV v).length 0 n (by omega) hn
    generalize partsV v = ps at hp hlen hloop
    obtain ⟨k, i, s, t, l, f⟩ := v
    rcases hr with ⟨c, h⟩ | ⟨hn', h⟩
    · refine .inl ⟨c, n + 1, fun N hN => ?_⟩
      obtain ⟨M, rfl⟩ : ∃ M, N = M + 1 := ⟨N - 1, by omega⟩
      exact callF_of [(12, .r (boolX false) (endC c (n + 1)))] [] (pf1 (h M (by omega))) (by kernel_rfl)
    · rcases hloop (n + 1) (by omega) with ⟨c, m, u, h'⟩ | ⟨m, hm, h'⟩
      · refine .inl ⟨c, m, fun N hN => ?_⟩
        obtain ⟨M, rfl⟩ : ∃ M, N = M + 1 := ⟨N - 1, by omega⟩
        have hl : run (callF tab ext M) 4 M (.loop (loopAt 143 0)) (viH' (cellsL ps) lev (cellsL ps).length 0 (n + 1) (Val.mk k i s t l f).cells) = some (.ret, ⟨[(6, boolX false)], endC c m ++ [.var u]⟩) := by
          simp only [run]
          rw [iter_canon (vi_canon' ..) (vi_canon ..)]
          exact h' M M (by omega) (by omega)
        exact callF_of [(12, .r (boolX true) (goC (n + 1))), (15, .p (.sl false 6 (cellsL ps)))] [(.ret, ⟨[(6, boolX false)], endC c m ++ [.var u]⟩)] (pf3 (h M (by omega)) (hp M (by omega)) hl) (by kernel_rfl)
      · refine .inr ⟨m, hm, fun N hN => ?_⟩
        obtain ⟨M, rfl⟩ : ∃ M, N = M + 1 := ⟨N - 1, by omega⟩
        have hl : run (callF tab ext M) 4 M (.loop (loopAt 143 0)) (viH' (cellsL ps) lev (cellsL ps).length 0 (n + 1) (Val.mk k i s t l f).cells) = some (.exit 0, viE (cellsL ps) lev (cellsL ps).length (cellsL ps).length m) := by
          simp only [run]
          rw [iter_canon (vi_canon' ..) (vi_canon ..)]
          exact h' M M (by omega) (by omega)
        exact callF_of [(12, .r (boolX true) (goC (n + 1))), (15, .p (.sl false 6 (cellsL ps)))] [(.exit 0, viE (cellsL ps) lev (cellsL ps).length (cellsL ps).length m)] (pf3 (h M (by omega)) (hp M (by omega)) hl) (by kernel_rfl)

noncomputable def rfSt (v : List X) : St := ⟨[(2, .ptr 1 0 0), (3, .ptr 2 0 0), (4, .ptr 3 0 0), (10, .fn 142 [.dp v])], [.var v, .var [num 0], .var rulesX, .var [num 0]]⟩
noncomputable def rfFin (v : List X) (c : Int) (m : Nat) : St := ⟨(rfSt v).tm, [.var v, .var [num c], .var rulesX, .var [nat m], .dead]⟩
theorem val_comes (v : Val) (hv : v.ok) : Comes (60025 + v.size) 47 [.agg v.cells] := by
  have hok := hv
  unfold Val.ok at hok
  have hvis := visit_comes v.size v (Nat.le_refl _) hv 1 0 (by omega) (by omega)
  obtain ⟨k, i, s, t, l, f⟩ := v
  generalize hsz : (Val.mk k i s t l f).size = sz at hvis hok
  have hpre : ∀ N, 3 ≤ N → Gam.pureD (callF tab ext N) 82 [.agg (Val.mk k i s t l f).cells] = some (.fn 142 [.dp (Val.mk k i s t l f).cells]) := fun N hN => by
    obtain ⟨M, rfl⟩ : ∃ M, N = M + 1 := ⟨N - 1, by omega⟩
    exact pure_of [] [] pf0 (x := .fn 142 [.dp (Val.mk k i s t l f).cells]) (bx := []) (by kernel_rfl) rfl
  have hrul : ∀ N, 3 ≤ N → Gam.pureD (callF tab ext N) 81 [] = some (.agg rulesX) := fun N hN => by
    obtain ⟨M, rfl⟩ : ∃ M, N = M + 1 := ⟨N - 1, by omega⟩
    exact pure_of [] [] pf0 (x := .agg rulesX) (bx := []) (by kernel_rfl) rfl
  unfold Visit at hvis
  rw [hsz] at hvis
  rcases hvis with ⟨c, m, h⟩ | ⟨m, _, h⟩
  · refine ⟨c, fun N hN => ?_⟩
    obtain ⟨M, rfl⟩ : ∃ M, N = M + 2 := ⟨N - 2, by omega⟩
    have h5 : callF tab ext (M + 1) (.fn 142) [.yl 0, .dp (Val.mk k i s t l f).cells] (goC 0) = some (.tup [], endC c m) :=
      callF_of [(5, .r (boolX false) (endC c m))] [] (pf1 (h M (by omega))) (by kernel_rfl)
    have hrf : run (callF tab ext (M + 1)) 0 (M + 1) (.rf (.t 10) [11, 12] [2, 3, 4] (rfAt 47).1 (rfAt 47).2) (rfSt (Val.mk k i s t l f).cells) = some (.ret, rfFin (Val.mk k i s t l f).cells c m) :=
      rf_of (g := 142) (caps := [.dp (Val.mk k i s t l f).cells]) (y := .tup []) (outb := endC c m)
        (q := (.tup [], [.var (Val.mk k i s t l f).cells, .var [num c], .var rulesX, .var [nat m], recC .done (some .ret)], [4, 1, 2, 3])) h5 (by kernel_rfl) (by kernel_rfl) (by kernel_rfl)
    exact pure_of [(8, .p (.agg rulesX)), (10, .p (.fn 142 [.dp (Val.mk k i s t l f).cells]))] [(.ret, rfFin (Val.mk k i s t l f).cells c m)] (pf3 (hrul (M + 1) (by omega)) (hpre (M + 1) (by omega)) hrf) (x := num c) (bx := []) (by kernel_rfl) rfl
  · refine ⟨0, fun N hN => ?_⟩
    obtain ⟨M, rfl⟩ : ∃ M, N = M + 2 := ⟨N - 2, by omega⟩
    have h5 : callF tab ext (M + 1) (.fn 142) [.yl 0, .dp (Val.mk k i s t l f).cells] (goC 0) = some (.tup [], goC m) :=
      callF_of [(5, .r (boolX true) (goC m))] [] (pf1 (h M (by omega))) (by kernel_rfl)
    have hrf : run (callF tab ext (M + 1)) 0 (M + 1) (.rf (.t 10) [11, 12] [2, 3, 4] (rfAt 47).1 (rfAt 47).2) (rfSt (Val.mk k i s t l f).cells) = some (.norm, rfFin (Val.mk k i s t l f).cells 0 m) :=
      rf_of (g := 142) (caps := [.dp (Val.mk k i s t l f).cells]) (y := .tup []) (outb := goC m)
        (q := (.tup [], [.var (Val.mk k i s t l f).cells, .var [num 0], .var rulesX, .var [nat m], recC .ready none], [4, 1, 2, 3])) h5 (by kernel_rfl) (by kernel_rfl) (by kernel_rfl)
    exact pure_of [(8, .p (.agg rulesX)), (10, .p (.fn 142 [.dp (Val.mk k i s t l f).cells]))] [(.norm, rfFin (Val.mk k i s t l f).cells 0 m)] (pf3 (hrul (M + 1) (by omega)) (hpre (M + 1) (by omega)) hrf) (x := num 0) (bx := []) (by kernel_rfl) rfl
end Go.Proofs.YtbfnfldmnombgaaGreatDoor

/- The check of a message comes to an end. -/
namespace Go.Proofs.YtbfnfldmnombgaaGreatDoor
open Go.Em
set_option maxRecDepth 100000

theorem Comes.mono {B B' : Nat} {f : FuncId} {args : List X} (h : Comes B f args) (hB : B ≤ B') : Comes B' f args := by
  obtain ⟨c, h⟩ := h
  exact ⟨c, fun N hN => h N (by omega)⟩
theorem body_comes (v : Val) (hv : v.ok) : Comes 120030 147 [.agg v.cells] := by
  have hok := hv
  unfold Val.ok at hok
  obtain ⟨c, hc⟩ := (val_comes v hv).mono (show 60025 + v.size ≤ 120029 by omega)
  have hz : ∀ N, 120029 ≤ N → Gam.pureD (callF tab ext N) 48 [.agg v.cells] = some (boolX (nullV v)) := fun N hN => null_at v N (by omega)
  generalize nullV v = z at hz
  obtain ⟨k, i, s, t, l, f⟩ := v
  apply comes_succ
  cases z with
  | true =>
    exact ⟨0, fun N hN => pure_of [(5, .p (boolX true))] [] (pf1 (hz N hN)) (x := num (0)) (bx := []) (by kernel_rfl) rfl⟩
  | false =>
    cases h1 : (!(k == 9)) with
    | true =>
      exact ⟨18, fun N hN => pure_of [(5, .p (boolX false)), (9, .b true)] [] (pf2 (hz N hN) h1) (x := num (18)) (bx := []) (by kernel_rfl) rfl⟩
    | false =>
      exact ⟨c, fun N hN => pure_of [(5, .p (boolX false)), (9, .b false), (11, .p (num c))] [] (pf3 (hz N hN) h1 (hc N hN)) (x := num (c)) (bx := []) (by kernel_rfl) rfl⟩

section
variable (m : List X) (o : List (List X)) (n j : Nat)
def mcH : St := ⟨[(1, .ptr 0 0 0), (27, .sl false 1 o), (28, nat n), (29, nat j)], [.var m]⟩
def mcE : St := ⟨[(1, .ptr 0 0 0), (27, .sl false 1 o), (28, nat n), (29, nat j), (30, boolX false)], [.var m]⟩
end
theorem orig_round (e mass : Int) (p : List Int) (o : List Int) (k i s : Int) (t : ByteArray) (l : List Val) (f : List (ByteArray × Val)) (j : Nat) (hl : o.length ≤ 60000) (hj : j < o.length) :
    (∃ r, (∃ c : Int, r = ⟨[(2, num c)], [.var (Msg.mk ⟨e, p⟩ mass o (Val.mk k i s t l f)).cells]⟩) ∧ ∀ M, 2 ≤ M → run (callF tab ext M) 0 M (loopAt 87 0) (mcH (Msg.mk ⟨e, p⟩ mass o (Val.mk k i s t l f)).cells (intsC o) (intsC o).length j) = some (.ret, r)) ∨
    (∃ υ, canon 0 υ = some (mcH (Msg.mk ⟨e, p⟩ mass o (Val.mk k i s t l f)).cells (intsC o) (intsC o).length (j + 1)) ∧ ∀ M, 2 ≤ M → run (callF tab ext M) 0 M (loopAt 87 0) (mcH (Msg.mk ⟨e, p⟩ mass o (Val.mk k i s t l f)).cells (intsC o) (intsC o).length j) = some (.norm, υ)) := by
  have hn := intsC_length o
  have hg := intsC_get hj
  generalize o[j] = x at hg
  obtain ⟨b, hb⟩ := entry_comes x
  have hlt := lt_nat (j := j) (k := (intsC o).length) (by omega)
  cases b with
  | false =>
    exact .inl ⟨_, ⟨2, rfl⟩, fun M hM => run_of [(30, .b true), (32, .e [num x]), (36, .p (boolX false))] [] (pf3 hlt hg (hb M hM)) (lo' := []) (by kernel_rfl)⟩
  | true =>
    cases j with
    | zero =>
      exact .inr ⟨mcH (Msg.mk ⟨e, p⟩ mass o (Val.mk k i s t l f)).cells (intsC o) (intsC o).length (0 + 1), by kernel_rfl, fun M hM => run_of [(30, .b true), (32, .e [num x]), (36, .p (boolX true)), (40, .b false), (51, .i (Int.ofNat (0 + 1)))] [] (pf5 hlt hg (hb M hM) zero_nat (next_nat (j := 0) (by omega))) (lo' := []) (by kernel_rfl)⟩
    | succ j =>
      have hj' : j < o.length := by omega
      have hq := intsC_get hj'
      generalize o[j] = y at hq
      cases h1 : decide (x ≤ y) with
      | true =>
        exact .inl ⟨_, ⟨24, rfl⟩, fun M hM => run_of [(30, .b true), (32, .e [num x]), (36, .p (boolX true)), (40, .b true), (46, .i (Int.ofNat j)), (47, .e [num y]), (49, .b true)] [] (pf7 hlt hg (hb M hM) (pos_nat (j := j)) (pred_nat (j := j) (by omega)) hq h1) (lo' := []) (by kernel_rfl)⟩
      | false =>
        exact .inr ⟨mcH (Msg.mk ⟨e, p⟩ mass o (Val.mk k i s t l f)).cells (intsC o) (intsC o).length ((j + 1) + 1), by kernel_rfl, fun M hM => run_of [(30, .b true), (32, .e [num x]), (36, .p (boolX true)), (40, .b true), (46, .i (Int.ofNat j)), (47, .e [num y]), (49, .b false), (51, .i (Int.ofNat ((j + 1) + 1)))] [] (pf8 hlt hg (hb M hM) (pos_nat (j := j)) (pred_nat (j := j) (by omega)) hq h1 (next_nat (j := (j + 1)) (by omega))) (lo' := []) (by kernel_rfl)⟩
theorem msg_comes (m : Msg) (hm : m.ok) : Comes 120040 87 [.agg m.cells] := by
  obtain ⟨c1, hst⟩ := stamp_comes m.st hm.st
  obtain ⟨b, hb⟩ := heavy_comes m.mass
  obtain ⟨c3, hbd⟩ := body_comes m.body hm.body
  have ho := hm.orig
  obtain ⟨⟨e, p⟩, mass, o, k, i, s, t, l, f⟩ := m
  dsimp only at hst hb hbd ho
  have hn := intsC_length o
  have := scan (B := 2) (b := loopAt 87 0) (H := fun j => mcH (Msg.mk ⟨e, p⟩ mass o (Val.mk k i s t l f)).cells (intsC o) (intsC o).length j) (τ := mcH (Msg.mk ⟨e, p⟩ mass o (Val.mk k i s t l f)).cells (intsC o) (intsC o).length 0) (n := (intsC o).length) (e := .exit 1) (fin := mcE (Msg.mk ⟨e, p⟩ mass o (Val.mk k i s t l f)).cells (intsC o) (intsC o).length (intsC o).length)
    (fun r => ∃ c : Int, r = ⟨[(2, num c)], [.var (Msg.mk ⟨e, p⟩ mass o (Val.mk k i s t l f)).cells]⟩) (by kernel_rfl) (fun j hj => orig_round e mass p o k i s t l f j ho (by omega))
    (fun M _ => run_of [(30, .b false)] [] (pf1 (nlt_nat (Nat.lt_irrefl (intsC o).length))) (lo' := []) (by kernel_rfl)) (by simp)
  apply comes_succ
  cases h1 : (!(c1 == 0)) with
  | true =>
    exact ⟨c1, fun N hN => pure_of [(8, .p (num c1)), (10, .b true)] [] (pf2 (hst N (by omega)) h1) (x := num (c1)) (bx := []) (by kernel_rfl) rfl⟩
  | false =>
    cases b with
    | true =>
      exact ⟨38, fun N hN => pure_of [(8, .p (num c1)), (10, .b false), (15, .p (boolX true))] [] (pf3 (hst N (by omega)) h1 (hb N (by omega))) (x := num (38)) (bx := []) (by kernel_rfl) rfl⟩
    | false =>
      cases h2 : (Int.ofNat (intsC o).length == 0) with
      | true =>
        exact ⟨4, fun N hN => pure_of [(8, .p (num c1)), (10, .b false), (15, .p (boolX false)), (20, .b true)] [] (pf4 (hst N (by omega)) h1 (hb N (by omega)) h2) (x := num (4)) (bx := []) (by kernel_rfl) rfl⟩
      | false =>
        cases h3 : decide (4096 < Int.ofNat (intsC o).length) with
        | true =>
          exact ⟨9, fun N hN => pure_of [(8, .p (num c1)), (10, .b false), (15, .p (boolX false)), (20, .b false), (25, .b true)] [] (pf5 (hst N (by omega)) h1 (hb N (by omega)) h2 h3) (x := num (9)) (bx := []) (by kernel_rfl) rfl⟩
        | false =>
          rcases this with ⟨r, ⟨c, rfl⟩, h⟩ | h
          · exact ⟨c, fun N hN => pure_of [(8, .p (num c1)), (10, .b false), (15, .p (boolX false)), (20, .b false), (25, .b false)] [(.ret, ⟨[(2, num c)], [.var (Msg.mk ⟨e, p⟩ mass o (Val.mk k i s t l f)).cells]⟩)] (pf6 (hst N (by omega)) h1 (hb N (by omega)) h2 h3 (h N (by omega) (by omega))) (x := num c) (bx := []) (by kernel_rfl) rfl⟩
          · exact ⟨c3, fun N hN => pure_of [(8, .p (num c1)), (10, .b false), (15, .p (boolX false)), (20, .b false), (25, .b false), (54, .p (num c3))] [(.exit 1, mcE (Msg.mk ⟨e, p⟩ mass o (Val.mk k i s t l f)).cells (intsC o) (intsC o).length (intsC o).length)] (pf7 (hst N (by omega)) h1 (hb N (by omega)) h2 h3 (h N (by omega) (by omega)) (hbd N (by omega))) (x := num c3) (bx := []) (by kernel_rfl) rfl⟩
end Go.Proofs.YtbfnfldmnombgaaGreatDoor

/- The check of a slot comes to an end. -/
namespace Go.Proofs.YtbfnfldmnombgaaGreatDoor
open Go.Em
set_option maxRecDepth 100000

/-! ### slices.ContainsFunc of messages -/
def imH (l : List (List X)) (g : X) (n j : Nat) : St := ⟨[(0, .sl false 10 l), (1, g), (7, nat n), (8, nat j)], []⟩
end Go.Proofs.YtbfnfldmnombgaaGreatDoor
