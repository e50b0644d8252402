/- Types and nodes are cut: it comes to an end. -/
import Derived.Test.YthfchdkjeddijaaGreatDoorEmM8
import Derived.Test.YthfchdkjeddijaaGreatDoorM10
import Derived.Test.YthfchdkjeddijaaGreatDoorM11
import Derived.Test.YthfchdkjeddijaaGreatDoorM12
import Derived.Test.YthfchdkjeddijaaGreatDoorM14
namespace Go.Proofs.YthfchdkjeddijaaGreatDoor
open Go.Em
set_option maxRecDepth 100000
def typC (a b c d : Int) (w e f : List (List X)) : List X := [num a, num b, num c, num d, .sl false 1 w, .sl false 7 e, .sl false 11 f]
def zTyp : List X := [num 0, num 0, num 0, num 0, .sl true 1 [], .sl true 7 [], .sl true 11 []]
def fldC (x : Int) (t : ByteArray) (y a b c d : Int) (w e f de : List (List X)) : List X := [num x, strX t, num y, num a, num b, num c, num d, .sl false 1 w, .sl false 7 e, .sl false 11 f, .sl false 6 de]
def isTxt (c : List X) : Prop := ∃ t, c = [strX t]
/-- A type that is looked at to a depth. -/
def isTyp : Nat → List X → Prop
  | 0, c => ∃ a b c' d w e f, c = typC a b c' d w e f ∧ ∀ x, x ∈ w → isTxt x
  | n + 1, c => ∃ a b c' d w e f, c = typC a b c' d w e f ∧ (∀ x, x ∈ w → isTxt x) ∧ (∀ x, x ∈ e → isTyp n x) ∧ ∀ x, x ∈ f → ∃ p t y T de, x = num p :: strX t :: num y :: (T ++ [.sl false 6 de]) ∧ isTyp n T ∧ ∀ v, v ∈ de → isVal v

section
variable (n : Nat) (a b c d : Int) (w e f : List (List X)) (acc : List (List X)) (j : Nat) (x : List X)
def twH : St := ⟨[(1, num (Int.ofNat (n + 1))), (2, .ptr 0 0 0), (4, .ptr 1 0 0), (5, .bs 2 0 j), (6, .sl true 7 []), (7, .sl true 11 []), (8, nat j)], [.var (typC a b c d w e f), .var zTyp, .row 1 acc]⟩
def twN : St := ⟨[(1, num (Int.ofNat (n + 1))), (2, .ptr 0 0 0), (4, .ptr 1 0 0), (5, .bs 3 0 (j + 1)), (6, .sl true 7 []), (7, .sl true 11 []), (8, nat (j + 1))], [.var (typC a b c d w e f), .var zTyp, .dead, .row 1 (acc ++ [x])]⟩
def twE : St := ⟨[(1, num (Int.ofNat (n + 1))), (2, .ptr 0 0 0), (4, .ptr 1 0 0), (5, .bs 2 0 j), (6, .sl true 7 []), (7, .sl true 11 []), (8, nat j), (22, boolX false)], [.var (typC a b c d w e f), .var zTyp, .row 1 acc]⟩
theorem tw_canon : canon 0 (twN n a b c d w e f acc j x) = some (twH n a b c d w e f (acc ++ [x]) (j + 1)) := by kernel_rfl
end
theorem tw_loop (n : Nat) (a b c d : Int) (w e f : List (List X)) (hl : ∀ x, x ∈ w → isTxt x) {τ : St} (hτ : canon 0 τ = some (twH n a b c d w e f [] 0)) : ∃ acc, acc.length = min w.length 6 ∧ (∀ x, x ∈ acc → (fun _ => True) x) ∧ ∀ M, 40 ≤ M → run (callF tab ext M) 0 M (.loop (loopAt 50 0)) τ = some (.exit 0, twE n a b c d w e f acc (min w.length 6)) := by
  have hK : min w.length 6 ≤ 6 := by exact Nat.min_le_right _ _
  have key : ∃ acc : List (List X), acc.length = min w.length 6 ∧ (∀ x, x ∈ acc → (fun _ => True) x) ∧ ∀ M, 40 ≤ M → min w.length 6 < M → run (callF tab ext M) 0 M (.loop (loopAt 50 0)) τ = some (.exit 0, twE n a b c d w e f acc (min w.length 6)) := ?_
  · obtain ⟨acc, h1, hq, h2⟩ := key
    exact ⟨acc, h1, hq, fun M hM => h2 M hM (by omega)⟩
  refine loop_acc (nIn := 0) (b := loopAt 50 0) (B := 40) (H := fun j acc => twH n a b c d w e f acc j) (k := min w.length 6) (e := .exit 0) (E := fun acc => twE n a b c d w e f acc (min w.length 6)) (fun _ => True) hτ (fun j acc hj hacc => ?_) (fun acc hacc M hM => ?_) (by simp)
  · have hj1 : j < w.length := by omega
    have hj2 : j < 6 := by omega
    obtain ⟨v, hv⟩ := hl _ (List.getElem_mem hj1)
    have hg : w[j]? = some [strX v] := by rw [List.getElem?_eq_getElem hj1, hv]
    exact ⟨[strX (cutT 40 v)], twN n a b c d w e f acc j ([strX (cutT 40 v)]), trivial, tw_canon .., fun M hM => run_of [(18, .b true), (21, .b true), (29, .e [strX v]), (34, .e [strX v]), (37, .i (Int.ofNat (min v.size 40))), (38, .cut), (40, .app), (24, .i (Int.ofNat (j + 1)))] [] (pf8 (lt_nat (j := j) (k := w.length) hj1) (lt_lit hj2) hg hg (min_int v.size 40) (cut_ok v.size 40) (app_ok (acc := acc) j 2 16 hacc.symm (by omega) (by omega)) (next_nat (j := j) (by omega))) (lo' := []) (by kernel_rfl)⟩
  · generalize hq : min w.length 6 = q
    by_cases h6 : q < w.length
    · exact run_of [(18, .b true), (21, .b false)] [] (pf2 (lt_nat (j := q) (k := w.length) h6) (nlt_nat (j := q) (k := 6) (by omega))) (lo' := []) (by kernel_rfl)
    · exact run_of [(18, .b false)] [] (pf1 (nlt_nat (j := q) (k := w.length) h6)) (lo' := []) (by kernel_rfl)
section
variable (n : Nat) (a b c d : Int) (w e f acc0 : List (List X)) (m : Nat) (acc : List (List X)) (j : Nat) (x : List X)
def teH : St := ⟨[(1, num (Int.ofNat (n + 1))), (2, .ptr 0 0 0), (4, .ptr 1 0 0), (5, .bs 2 0 m), (6, .bs 3 0 j), (7, .sl true 11 []), (9, nat j)], [.var (typC a b c d w e f), .var zTyp, .row 1 acc0, .row 7 acc]⟩
def teN : St := ⟨[(1, num (Int.ofNat (n + 1))), (2, .ptr 0 0 0), (4, .ptr 1 0 0), (5, .bs 2 0 m), (6, .bs 4 0 (j + 1)), (7, .sl true 11 []), (9, nat (j + 1))], [.var (typC a b c d w e f), .var zTyp, .row 1 acc0, .dead, .row 7 (acc ++ [x])]⟩
def teE : St := ⟨[(1, num (Int.ofNat (n + 1))), (2, .ptr 0 0 0), (4, .ptr 1 0 0), (5, .bs 2 0 m), (6, .bs 3 0 j), (7, .sl true 11 []), (9, nat j), (53, boolX false)], [.var (typC a b c d w e f), .var zTyp, .row 1 acc0, .row 7 acc]⟩
theorem te_canon : canon 0 (teN n a b c d w e f acc0 m acc j x) = some (teH n a b c d w e f acc0 m (acc ++ [x]) (j + 1)) := by kernel_rfl
end
theorem te_loop (n : Nat) (a b c d : Int) (w e f acc0 : List (List X)) (m : Nat) (hn : n < 1000) (h54 : ∀ m, n = m + 1 → ∀ x, x ∈ e → ∃ a b c d w e f a' b' c' d' w' e' f', x = typC a b c d w e f ∧ ∀ N, 200 + n ≤ N → Gam.pureD (callF tab ext N) 50 [.agg (typC a b c d w e f), nat (m + 1)] = some (.agg (typC a' b' c' d' w' e' f'))) {τ : St} (hτ : canon 0 τ = some (teH n a b c d w e f acc0 m [] 0)) : ∃ acc, acc.length = kOf n e.length 2 ∧ (∀ x, x ∈ acc → (fun _ => True) x) ∧ ∀ M, (200 + n) ≤ M → run (callF tab ext M) 0 M (.loop (loopAt 50 1)) τ = some (.exit 2, teE n a b c d w e f acc0 m acc (kOf n e.length 2)) := by
  have hkk : kOf n e.length 2 ≤ e.length ∧ kOf n e.length 2 ≤ 2 := kOf_le ..
  have hK : kOf n e.length 2 ≤ 2 := by omega
  have key : ∃ acc : List (List X), acc.length = kOf n e.length 2 ∧ (∀ x, x ∈ acc → (fun _ => True) x) ∧ ∀ M, (200 + n) ≤ M → kOf n e.length 2 < M → run (callF tab ext M) 0 M (.loop (loopAt 50 1)) τ = some (.exit 2, teE n a b c d w e f acc0 m acc (kOf n e.length 2)) := ?_
  · obtain ⟨acc, h1, hq, h2⟩ := key
    exact ⟨acc, h1, hq, fun M hM => h2 M hM (by omega)⟩
  refine loop_acc (nIn := 0) (b := loopAt 50 1) (B := (200 + n)) (H := fun j acc => teH n a b c d w e f acc0 m acc j) (k := kOf n e.length 2) (e := .exit 2) (E := fun acc => teE n a b c d w e f acc0 m acc (kOf n e.length 2)) (fun _ => True) hτ (fun j acc hj hacc => ?_) (fun acc hacc M hM => ?_) (by simp)
  · have hj1 : j < e.length := by omega
    have hj2 : j < 2 := by omega
    obtain ⟨n, rfl⟩ : ∃ m, n = m + 1 := by
      cases n with
      | zero => simp [kOf] at hj
      | succ m => exact ⟨m, rfl⟩
    obtain ⟨a1, b1, c1, d1, w1, e1, f1, a2, b2, c2, d2, w2, e2, f2, hv, hc⟩ := h54 n rfl _ (List.getElem_mem hj1)
    have hg : e[j]? = some (typC a1 b1 c1 d1 w1 e1 f1) := by rw [List.getElem?_eq_getElem hj1, hv]
    exact ⟨(typC a2 b2 c2 d2 w2 e2 f2), teN (n + 1) a b c d w e f acc0 m acc j ((typC a2 b2 c2 d2 w2 e2 f2)), trivial, te_canon .., fun M hM => run_of [(45, .b true), (48, .b true), (52, .b true), (60, .e (typC a1 b1 c1 d1 w1 e1 f1)), (63, .i (Int.ofNat (n + 1))), (64, .p (.agg (typC a2 b2 c2 d2 w2 e2 f2))), (66, .app), (55, .i (Int.ofNat (j + 1)))] [] (pf8 (lt_nat (j := j) (k := e.length) hj1) (lt_lit hj2) (gt_one n) hg (dec_nat (j := n + 1) (by omega)) (hc M (by omega)) (app_ok (acc := acc) j 3 104 hacc.symm (by omega) (by omega)) (next_nat (j := j) (by omega))) (lo' := []) (by kernel_rfl)⟩
  · cases n with
    | zero =>
      have e0 : kOf 0 e.length 2 = 0 := rfl
      rw [e0]
      cases h1 : decide (Int.ofNat 0 < Int.ofNat e.length) with
      | true => exact run_of [(45, .b true)] [] (pf1 h1) (lo' := []) (by kernel_rfl)
      | false => exact run_of [(45, .b false)] [] (pf1 h1) (lo' := []) (by kernel_rfl)
    | succ n =>
      have e1 : kOf (n + 1) e.length 2 = min e.length 2 := rfl
      rw [e1]
      generalize hq : min e.length 2 = q
      by_cases h6 : q < e.length
      · exact run_of [(45, .b true), (48, .b false)] [] (pf2 (lt_nat (j := q) (k := e.length) h6) (nlt_nat (j := q) (k := 2) (by omega))) (lo' := []) (by kernel_rfl)
      · exact run_of [(45, .b false)] [] (pf1 (nlt_nat (j := q) (k := e.length) h6)) (lo' := []) (by kernel_rfl)
section
variable (n : Nat) (a b c d : Int) (w e f acc0 acc1 acc2 : List (List X)) (m q z : Nat) (x0 : Int) (t0 : ByteArray) (y0 p1 p2 p3 p4 : Int) (pw pe pf de : List (List X)) (acc : List (List X)) (j : Nat) (x : List X)
def tdH : St := ⟨[(1, num (Int.ofNat (n + 1))), (2, .ptr 0 0 0), (4, .ptr 1 0 0), (5, .bs 2 0 m), (6, .bs 3 0 q), (7, .bs 4 0 z), (10, nat z), (11, .ptr 5 0 0), (12, .bs 6 0 j), (13, nat j)], [.var (typC a b c d w e f), .var zTyp, .row 1 acc0, .row 7 acc1, .row 11 acc2, .var (fldC x0 t0 y0 p1 p2 p3 p4 pw pe pf de), .row 6 acc]⟩
def tdN : St := ⟨[(1, num (Int.ofNat (n + 1))), (2, .ptr 0 0 0), (4, .ptr 1 0 0), (5, .bs 2 0 m), (6, .bs 3 0 q), (7, .bs 4 0 z), (10, nat z), (11, .ptr 5 0 0), (12, .bs 7 0 (j + 1)), (13, nat (j + 1))], [.var (typC a b c d w e f), .var zTyp, .row 1 acc0, .row 7 acc1, .row 11 acc2, .var (fldC x0 t0 y0 p1 p2 p3 p4 pw pe pf de), .dead, .row 6 (acc ++ [x])]⟩
def tdE : St := ⟨[(1, num (Int.ofNat (n + 1))), (2, .ptr 0 0 0), (4, .ptr 1 0 0), (5, .bs 2 0 m), (6, .bs 3 0 q), (7, .bs 4 0 z), (10, nat z), (11, .ptr 5 0 0), (12, .bs 6 0 j), (13, nat j), (95, boolX false)], [.var (typC a b c d w e f), .var zTyp, .row 1 acc0, .row 7 acc1, .row 11 acc2, .var (fldC x0 t0 y0 p1 p2 p3 p4 pw pe pf de), .row 6 acc]⟩
theorem td_canon : canon 0 (tdN n a b c d w e f acc0 acc1 acc2 m q z x0 t0 y0 p1 p2 p3 p4 pw pe pf de acc j x) = some (tdH n a b c d w e f acc0 acc1 acc2 m q z x0 t0 y0 p1 p2 p3 p4 pw pe pf de (acc ++ [x]) (j + 1)) := by kernel_rfl
end
theorem td_loop (n : Nat) (a b c d : Int) (w e f acc0 acc1 acc2 : List (List X)) (m q z : Nat) (x0 : Int) (t0 : ByteArray) (y0 p1 p2 p3 p4 : Int) (pw pe pf de : List (List X)) (hl : ∀ x, x ∈ de → isVal x) {τ : St} (hτ : canon 0 τ = some (tdH n a b c d w e f acc0 acc1 acc2 m q z x0 t0 y0 p1 p2 p3 p4 pw pe pf de [] 0)) : ∃ acc, acc.length = min de.length 2 ∧ (∀ x, x ∈ acc → (fun _ => True) x) ∧ ∀ M, 40 ≤ M → run (callF tab ext M) 0 M (.loop (loopAt 50 3)) τ = some (.exit 6, tdE n a b c d w e f acc0 acc1 acc2 m q z x0 t0 y0 p1 p2 p3 p4 pw pe pf de acc (min de.length 2)) := by
  have hK : min de.length 2 ≤ 2 := by exact Nat.min_le_right _ _
  have key : ∃ acc : List (List X), acc.length = min de.length 2 ∧ (∀ x, x ∈ acc → (fun _ => True) x) ∧ ∀ M, 40 ≤ M → min de.length 2 < M → run (callF tab ext M) 0 M (.loop (loopAt 50 3)) τ = some (.exit 6, tdE n a b c d w e f acc0 acc1 acc2 m q z x0 t0 y0 p1 p2 p3 p4 pw pe pf de acc (min de.length 2)) := ?_
  · obtain ⟨acc, h1, hq, h2⟩ := key
    exact ⟨acc, h1, hq, fun M hM => h2 M hM (by omega)⟩
  refine loop_acc (nIn := 0) (b := loopAt 50 3) (B := 40) (H := fun j acc => tdH n a b c d w e f acc0 acc1 acc2 m q z x0 t0 y0 p1 p2 p3 p4 pw pe pf de acc j) (k := min de.length 2) (e := .exit 6) (E := fun acc => tdE n a b c d w e f acc0 acc1 acc2 m q z x0 t0 y0 p1 p2 p3 p4 pw pe pf de acc (min de.length 2)) (fun _ => True) hτ (fun j acc hj hacc => ?_) (fun acc hacc M hM => ?_) (by simp)
  · have hj1 : j < de.length := by omega
    have hj2 : j < 2 := by omega
    obtain ⟨v, hv⟩ := hl _ (List.getElem_mem hj1)
    have hg : de[j]? = some v.cells := by rw [List.getElem?_eq_getElem hj1, hv]
    have hc := short_val 2 v
    generalize shortV 2 v = w1 at hc
    obtain ⟨a1, a2, a3, a4, a5, a6⟩ := v
    obtain ⟨b1, b2, b3, b4, b5, b6⟩ := w1
    exact ⟨(Val.mk b1 b2 b3 b4 b5 b6).cells, tdN n a b c d w e f acc0 acc1 acc2 m q z x0 t0 y0 p1 p2 p3 p4 pw pe pf de acc j ((Val.mk b1 b2 b3 b4 b5 b6).cells), trivial, td_canon .., fun M hM => run_of [(91, .b true), (94, .b true), (102, .e (Val.mk a1 a2 a3 a4 a5 a6).cells), (104, .p (.agg (Val.mk b1 b2 b3 b4 b5 b6).cells)), (106, .app), (97, .i (Int.ofNat (j + 1)))] [] (pf6 (lt_nat (j := j) (k := de.length) hj1) (lt_lit hj2) hg (hc M (by omega) (by omega)) (app_ok (acc := acc) j 6 88 hacc.symm (by omega) (by omega)) (next_nat (j := j) (by omega))) (lo' := []) (by kernel_rfl)⟩
  · generalize hq : min de.length 2 = q
    by_cases h6 : q < de.length
    · exact run_of [(91, .b true), (94, .b false)] [] (pf2 (lt_nat (j := q) (k := de.length) h6) (nlt_nat (j := q) (k := 2) (by omega))) (lo' := []) (by kernel_rfl)
    · exact run_of [(91, .b false)] [] (pf1 (nlt_nat (j := q) (k := de.length) h6)) (lo' := []) (by kernel_rfl)
section
variable (n : Nat) (a b c d : Int) (w e f acc0 acc1 : List (List X)) (m q : Nat) (acc : List (List X)) (j : Nat) (x : List X)
def tfH : St := ⟨[(1, num (Int.ofNat (n + 1))), (2, .ptr 0 0 0), (4, .ptr 1 0 0), (5, .bs 2 0 m), (6, .bs 3 0 q), (7, .bs 4 0 j), (10, nat j)], [.var (typC a b c d w e f), .var zTyp, .row 1 acc0, .row 7 acc1, .row 11 acc]⟩
def tfN : St := ⟨[(1, num (Int.ofNat (n + 1))), (2, .ptr 0 0 0), (4, .ptr 1 0 0), (5, .bs 2 0 m), (6, .bs 3 0 q), (7, .bs 7 0 (j + 1)), (10, nat (j + 1))], [.var (typC a b c d w e f), .var zTyp, .row 1 acc0, .row 7 acc1, .dead, .var x, .dead, .row 11 (acc ++ [x])]⟩
def tfE : St := ⟨[(1, num (Int.ofNat (n + 1))), (2, .ptr 0 0 0), (4, .ptr 1 0 0), (5, .bs 2 0 m), (6, .bs 3 0 q), (7, .bs 4 0 j), (10, nat j), (79, boolX false)], [.var (typC a b c d w e f), .var zTyp, .row 1 acc0, .row 7 acc1, .row 11 acc]⟩
theorem tf_canon : canon 0 (tfN n a b c d w e f acc0 acc1 m q acc j x) = some (tfH n a b c d w e f acc0 acc1 m q (acc ++ [x]) (j + 1)) := by kernel_rfl
end
theorem tf_loop (n : Nat) (a b c d : Int) (w e f acc0 acc1 : List (List X)) (m q : Nat) (hn : n < 1000) (h54 : ∀ m, n = m + 1 → ∀ x, x ∈ f → ∃ p t y T de, x = num p :: strX t :: num y :: (T ++ [.sl false 6 de]) ∧ (∀ v, v ∈ de → isVal v) ∧ ∃ a b c d w e f a' b' c' d' w' e' f', T = typC a b c d w e f ∧ ∀ N, 200 + n ≤ N → Gam.pureD (callF tab ext N) 50 [.agg (typC a b c d w e f), nat (m + 1)] = some (.agg (typC a' b' c' d' w' e' f'))) {τ : St} (hτ : canon 0 τ = some (tfH n a b c d w e f acc0 acc1 m q [] 0)) : ∃ acc, acc.length = kOf n f.length 6 ∧ (∀ x, x ∈ acc → (fun _ => True) x) ∧ ∀ M, (200 + n) ≤ M → run (callF tab ext M) 0 M (.loop (loopAt 50 2)) τ = some (.exit 4, tfE n a b c d w e f acc0 acc1 m q acc (kOf n f.length 6)) := by
  have hkk : kOf n f.length 6 ≤ f.length ∧ kOf n f.length 6 ≤ 6 := kOf_le ..
  have hK : kOf n f.length 6 ≤ 6 := by omega
  have key : ∃ acc : List (List X), acc.length = kOf n f.length 6 ∧ (∀ x, x ∈ acc → (fun _ => True) x) ∧ ∀ M, (200 + n) ≤ M → kOf n f.length 6 < M → run (callF tab ext M) 0 M (.loop (loopAt 50 2)) τ = some (.exit 4, tfE n a b c d w e f acc0 acc1 m q acc (kOf n f.length 6)) := ?_
  · obtain ⟨acc, h1, hq, h2⟩ := key
    exact ⟨acc, h1, hq, fun M hM => h2 M hM (by omega)⟩
  refine loop_acc (nIn := 0) (b := loopAt 50 2) (B := (200 + n)) (H := fun j acc => tfH n a b c d w e f acc0 acc1 m q acc j) (k := kOf n f.length 6) (e := .exit 4) (E := fun acc => tfE n a b c d w e f acc0 acc1 m q acc (kOf n f.length 6)) (fun _ => True) hτ (fun j acc hj hacc => ?_) (fun acc hacc M hM => ?_) (by simp)
  · have hj1 : j < f.length := by omega
    have hj2 : j < 6 := by omega
    obtain ⟨n, rfl⟩ : ∃ m, n = m + 1 := by
      cases n with
      | zero => simp [kOf] at hj
      | succ m => exact ⟨m, rfl⟩
    obtain ⟨x0, t0, y0, T0, de, hv, hde, a1, b1, c1, d1, w1, e1, f1, a2, b2, c2, d2, w2, e2, f2, rfl, hc⟩ := h54 n rfl _ (List.getElem_mem hj1)
    have hg : f[j]? = some (fldC x0 t0 y0 a1 b1 c1 d1 w1 e1 f1 de) := by rw [List.getElem?_eq_getElem hj1, hv]; rfl
    obtain ⟨acc4, i1, _, i2⟩ := td_loop (n + 1) a b c d w e f acc0 acc1 acc m q j x0 t0 y0 a1 b1 c1 d1 w1 e1 f1 de hde (τ := ⟨[(1, num (Int.ofNat (n + 1 + 1))), (2, .ptr 0 0 0), (4, .ptr 1 0 0), (5, .bs 2 0 m), (6, .bs 3 0 q), (7, .bs 4 0 j), (10, nat j), (11, .ptr 5 0 0), (12, .bs 6 0 0), (13, nat 0)], [.var (typC a b c d w e f), .var zTyp, .row 1 acc0, .row 7 acc1, .row 11 acc, .var (fldC x0 t0 y0 a1 b1 c1 d1 w1 e1 f1 de), .row 6 []]⟩) (by kernel_rfl)
    generalize min de.length 2 = z at i1 i2
    exact ⟨(fldC x0 (cutT 40 t0) y0 a2 b2 c2 d2 w2 e2 f2 (acc4.take z)), tfN (n + 1) a b c d w e f acc0 acc1 m q acc j ((fldC x0 (cutT 40 t0) y0 a2 b2 c2 d2 w2 e2 f2 (acc4.take z))), trivial, tf_canon .., fun M hM => run_of [(71, .b true), (74, .b true), (78, .b true), (85, .e (fldC x0 t0 y0 a1 b1 c1 d1 w1 e1 f1 de)), (112, .i (Int.ofNat (min t0.size 40))), (113, .cut), (117, .i (Int.ofNat (n + 1))), (118, .p (.agg (typC a2 b2 c2 d2 w2 e2 f2))), (126, .app), (81, .i (Int.ofNat (j + 1)))] [(.exit 6, tdE (n + 1) a b c d w e f acc0 acc1 acc m q j x0 t0 y0 a1 b1 c1 d1 w1 e1 f1 de acc4 z)] (pf12 (lt_nat (j := j) (k := f.length) hj1) (lt_lit hj2) (gt_one n) hg (i2 M (by omega)) (min_int t0.size 40) (cut_ok t0.size 40) (dec_nat (j := n + 1) (by omega)) (hc M (by omega)) (show 0 + z ≤ acc4.length by omega) (app_ok (acc := acc) j 4 160 hacc.symm (by omega) (by omega)) (next_nat (j := j) (by omega))) (lo' := []) (by kernel_rfl)⟩
  · cases n with
    | zero =>
      have e0 : kOf 0 f.length 6 = 0 := rfl
      rw [e0]
      cases h1 : decide (Int.ofNat 0 < Int.ofNat f.length) with
      | true => exact run_of [(71, .b true)] [] (pf1 h1) (lo' := []) (by kernel_rfl)
      | false => exact run_of [(71, .b false)] [] (pf1 h1) (lo' := []) (by kernel_rfl)
    | succ n =>
      have e1 : kOf (n + 1) f.length 6 = min f.length 6 := rfl
      rw [e1]
      generalize hq : min f.length 6 = q
      by_cases h6 : q < f.length
      · exact run_of [(71, .b true), (74, .b false)] [] (pf2 (lt_nat (j := q) (k := f.length) h6) (nlt_nat (j := q) (k := 6) (by omega))) (lo' := []) (by kernel_rfl)
      · exact run_of [(71, .b false)] [] (pf1 (nlt_nat (j := q) (k := f.length) h6)) (lo' := []) (by kernel_rfl)
theorem typ_fin (n : Nat) (a b c d : Int) (w e f acc acc1 acc2 : List (List X)) (m q z : Nat) (h1 : acc.length = m) (h2 : acc1.length = q) (h3 : acc2.length = z) (M : Nat)
    (g1 : run (callF tab ext M) 0 M (.loop (loopAt 50 0)) (twH n a b c d w e f [] 0) = some (.exit 0, twE n a b c d w e f acc m)) (g2 : run (callF tab ext M) 0 M (.loop (loopAt 50 1)) (teH n a b c d w e f acc m [] 0) = some (.exit 2, teE n a b c d w e f acc m acc1 q))
    (g3 : run (callF tab ext M) 0 M (.loop (loopAt 50 2)) (tfH n a b c d w e f acc acc1 m q [] 0) = some (.exit 4, tfE n a b c d w e f acc acc1 m q acc2 z)) :
    Gam.pureD (callF tab ext (M + 1)) 50 [.agg (typC a b c d w e f), nat (n + 1)] = some (.agg (typC a b c d acc acc1 acc2)) := by
  have hd : (X.agg [num a, num b, num c, num d, .bs 0 0 m, .bs 1 0 q, .bs 2 0 z]).data [.row 1 acc, .row 7 acc1, .row 11 acc2] false = some (.agg (typC a b c d acc acc1 acc2)) := by
    subst h1 h2 h3; simp [X.data, dataL, rowOf, num, typC]
  exact pure_of [] [(.exit 0, twE n a b c d w e f acc m), (.exit 2, teE n a b c d w e f acc m acc1 q), (.exit 4, tfE n a b c d w e f acc acc1 m q acc2 z)] (pf3 g1 g2 g3) (x := .agg [num a, num b, num c, num d, .bs 0 0 m, .bs 1 0 q, .bs 2 0 z]) (bx := [.row 1 acc, .row 7 acc1, .row 11 acc2]) (by kernel_rfl) hd
theorem short_typ : ∀ (n : Nat) (c : List X), n < 1000 → isTyp n c → ∃ a b c' d w e f a' b' c'' d' w' e' f', c = typC a b c' d w e f ∧ ∀ N, 200 + (n + 1) ≤ N → Gam.pureD (callF tab ext N) 50 [.agg (typC a b c' d w e f), nat (n + 1)] = some (.agg (typC a' b' c'' d' w' e' f')) := by
  intro n
  induction n with
  | zero =>
    rintro _ hn ⟨a, b, c, d, w, e, f, rfl, hw⟩
    obtain ⟨acc, h1, _, g1⟩ := tw_loop 0 a b c d w e f hw (τ := twH 0 a b c d w e f [] 0) (by kernel_rfl)
    generalize min w.length 6 = m at h1 g1
    obtain ⟨acc1, h2, _, g2⟩ := te_loop 0 a b c d w e f acc m (by omega) (fun m hm => by omega) (τ := teH 0 a b c d w e f acc m [] 0) (by kernel_rfl)
    generalize kOf 0 e.length 2 = q at h2 g2
    obtain ⟨acc2, h3, _, g3⟩ := tf_loop 0 a b c d w e f acc acc1 m q (by omega) (fun m hm => by omega) (τ := tfH 0 a b c d w e f acc acc1 m q [] 0) (by kernel_rfl)
    generalize kOf 0 f.length 6 = z at h3 g3
    refine ⟨a, b, c, d, w, e, f, a, b, c, d, acc, acc1, acc2, rfl, fun N hN => ?_⟩
    obtain ⟨M, rfl⟩ : ∃ M, N = M + 1 := ⟨N - 1, by omega⟩
    exact typ_fin 0 a b c d w e f acc acc1 acc2 m q z h1 h2 h3 M (g1 M (by omega)) (g2 M (by omega)) (g3 M (by omega))
  | succ n ih =>
    rintro _ hn ⟨a, b, c, d, w, e, f, rfl, hw, he, hf⟩
    obtain ⟨acc, h1, _, g1⟩ := tw_loop (n + 1) a b c d w e f hw (τ := twH (n + 1) a b c d w e f [] 0) (by kernel_rfl)
    generalize min w.length 6 = m at h1 g1
    obtain ⟨acc1, h2, _, g2⟩ := te_loop (n + 1) a b c d w e f acc m (by omega) (fun m hm x hx => by
      obtain rfl : n = m := by omega
      exact ih x (by omega) (he x hx)) (τ := teH (n + 1) a b c d w e f acc m [] 0) (by kernel_rfl)
    generalize kOf (n + 1) e.length 2 = q at h2 g2
    obtain ⟨acc2, h3, _, g3⟩ := tf_loop (n + 1) a b c d w e f acc acc1 m q (by omega) (fun m hm x hx => by
      obtain rfl : n = m := by omega
      obtain ⟨p, t, y, T, de, h1, h2, h3⟩ := hf x hx
      exact ⟨p, t, y, T, de, h1, h3, ih T (by omega) h2⟩) (τ := tfH (n + 1) a b c d w e f acc acc1 m q [] 0) (by kernel_rfl)
    generalize kOf (n + 1) f.length 6 = z at h3 g3
    refine ⟨a, b, c, d, w, e, f, a, b, c, d, acc, acc1, acc2, rfl, fun N hN => ?_⟩
    obtain ⟨M, rfl⟩ : ∃ M, N = M + 1 := ⟨N - 1, by omega⟩
    exact typ_fin (n + 1) a b c d w e f acc acc1 acc2 m q z h1 h2 h3 M (g1 M (by omega)) (g2 M (by omega)) (g3 M (by omega))

def nodC (name text : ByteArray) (k1 k2 k3 k4 k5 k6 a b c d : Int) (w e f ty ex ru ca ne : List (List X)) : List X := [strX name, num k1, num k2, num k3, num k4, num k5, num k6, strX text, num a, num b, num c, num d, .sl false 1 w, .sl false 7 e, .sl false 11 f, .sl false 7 ty, .sl false 5 ex, .sl false 6 ru, .sl false 2 ca, .sl false 1 ne]
def nodB (name text : ByteArray) (k1 k2 k3 k4 k5 k6 a b c d : Int) (w e f ty ru ca ne : List (List X)) (i m : Nat) : List X := [strX name, num k1, num k2, num k3, num k4, num k5, num k6, strX text, num a, num b, num c, num d, .sl false 1 w, .sl false 7 e, .sl false 11 f, .sl false 7 ty, .bs i 0 m, .sl false 6 ru, .sl false 2 ca, .sl false 1 ne]
def zNod : List X := [noText, num 0, num 0, num 0, num 0, num 0, num 0, noText, num 0, num 0, num 0, num 0, .sl true 1 [], .sl true 7 [], .sl true 11 [], .sl true 7 [], .sl true 5 [], .sl true 6 [], .sl true 2 [], .sl true 1 []]
def isCall (c : List X) : Prop := ∃ t l, c = [strX t, .sl false 6 l] ∧ ∀ x, x ∈ l → isRule x
section
variable (name text : ByteArray) (k1 k2 k3 k4 k5 k6 a b c d : Int) (w e f ty ex ru ca ne : List (List X)) (acc : List (List X)) (j : Nat) (x : List X)
def qaH : St := ⟨[(1, .ptr 0 0 0), (2, .ptr 1 0 0), (3, .ptr 2 0 0), (4, nat j)], [.var (nodC name text k1 k2 k3 k4 k5 k6 a b c d w e f ty ex ru ca ne), .var zNod, .var [.bs 3 0 j], .row 6 acc]⟩
def qaN : St := ⟨[(1, .ptr 0 0 0), (2, .ptr 1 0 0), (3, .ptr 2 0 0), (4, nat (j + 1))], [.var (nodC name text k1 k2 k3 k4 k5 k6 a b c d w e f ty ex ru ca ne), .var zNod, .var [.bs 4 0 (j + 1)], .dead, .row 6 (acc ++ [x])]⟩
def qaE : St := ⟨[(1, .ptr 0 0 0), (2, .ptr 1 0 0), (3, .ptr 2 0 0), (4, nat j), (18, boolX false)], [.var (nodC name text k1 k2 k3 k4 k5 k6 a b c d w e f ty ex ru ca ne), .var zNod, .var [.bs 3 0 j], .row 6 acc]⟩
theorem qa_canon : canon 0 (qaN name text k1 k2 k3 k4 k5 k6 a b c d w e f ty ex ru ca ne acc j x) = some (qaH name text k1 k2 k3 k4 k5 k6 a b c d w e f ty ex ru ca ne (acc ++ [x]) (j + 1)) := by kernel_rfl
end
theorem qa_loop (name text : ByteArray) (k1 k2 k3 k4 k5 k6 a b c d : Int) (w e f ty ex ru ca ne : List (List X)) (hl : ∀ x, x ∈ ex → isExp 3 x) {τ : St} (hτ : canon 0 τ = some (qaH name text k1 k2 k3 k4 k5 k6 a b c d w e f ty ex ru ca ne [] 0)) : ∃ acc, acc.length = min ex.length 4 ∧ (∀ x, x ∈ acc → (isRule) x) ∧ ∀ M, 40 ≤ M → run (callF tab ext M) 0 M (.loop (loopAt 18 0)) τ = some (.exit 0, qaE name text k1 k2 k3 k4 k5 k6 a b c d w e f ty ex ru ca ne acc (min ex.length 4)) := by
  have hK : min ex.length 4 ≤ 4 := by exact Nat.min_le_right _ _
  have key : ∃ acc : List (List X), acc.length = min ex.length 4 ∧ (∀ x, x ∈ acc → (isRule) x) ∧ ∀ M, 40 ≤ M → min ex.length 4 < M → run (callF tab ext M) 0 M (.loop (loopAt 18 0)) τ = some (.exit 0, qaE name text k1 k2 k3 k4 k5 k6 a b c d w e f ty ex ru ca ne acc (min ex.length 4)) := ?_
  · obtain ⟨acc, h1, hq, h2⟩ := key
    exact ⟨acc, h1, hq, fun M hM => h2 M hM (by omega)⟩
  refine loop_acc (nIn := 0) (b := loopAt 18 0) (B := 40) (H := fun j acc => qaH name text k1 k2 k3 k4 k5 k6 a b c d w e f ty ex ru ca ne acc j) (k := min ex.length 4) (e := .exit 0) (E := fun acc => qaE name text k1 k2 k3 k4 k5 k6 a b c d w e f ty ex ru ca ne acc (min ex.length 4)) (isRule) hτ (fun j acc hj hacc => ?_) (fun acc hacc M hM => ?_) (by simp)
  · have hj1 : j < ex.length := by omega
    have hj2 : j < 4 := by omega
    have he := hl _ (List.getElem_mem hj1)
    obtain ⟨o1, i1, t1, v1, e1, hv, _⟩ := isExp_zero he
    rw [hv] at he
    have hg : ex[j]? = some (expC o1 i1 t1 v1 e1) := by rw [List.getElem?_eq_getElem hj1, hv]; rfl
    exact ⟨(noText :: expC o1 i1 t1 v1 e1), qaN name text k1 k2 k3 k4 k5 k6 a b c d w e f ty ex ru ca ne acc j ((noText :: expC o1 i1 t1 v1 e1)), ⟨⟨#[]⟩, _, rfl, he⟩, qa_canon .., fun M hM => run_of [(14, .b true), (17, .b true), (26, .e (expC o1 i1 t1 v1 e1)), (30, .app), (20, .i (Int.ofNat (j + 1)))] [] (pf5 (lt_nat (j := j) (k := ex.length) hj1) (lt_lit hj2) hg (app_ok (acc := acc) j 3 96 hacc.symm (by omega) (by omega)) (next_nat (j := j) (by omega))) (lo' := []) (by kernel_rfl)⟩
  · generalize hq : min ex.length 4 = q
    by_cases h6 : q < ex.length
    · exact run_of [(14, .b true), (17, .b false)] [] (pf2 (lt_nat (j := q) (k := ex.length) h6) (nlt_nat (j := q) (k := 4) (by omega))) (lo' := []) (by kernel_rfl)
    · exact run_of [(14, .b false)] [] (pf1 (nlt_nat (j := q) (k := ex.length) h6)) (lo' := []) (by kernel_rfl)
section
variable (name text : ByteArray) (k1 k2 k3 k4 k5 k6 a b c d : Int) (w e f ty ru ca ne acc0 : List (List X)) (acc : List (List X)) (j : Nat) (x : List X)
def qbH : St := ⟨[(1, .ptr 0 0 0), (2, .ptr 1 0 0), (3, .ptr 2 0 0), (5, nat j)], [.var (nodB name text k1 k2 k3 k4 k5 k6 a b c d w e f ty ru ca ne 3 j), .var zNod, .var [.sl false 6 acc0], .row 5 acc]⟩
def qbN : St := ⟨[(1, .ptr 0 0 0), (2, .ptr 1 0 0), (3, .ptr 2 0 0), (5, nat (j + 1))], [.var (nodB name text k1 k2 k3 k4 k5 k6 a b c d w e f ty ru ca ne 4 (j + 1)), .var zNod, .var [.sl false 6 acc0], .dead, .row 5 (acc ++ [x])]⟩
def qbE : St := ⟨[(1, .ptr 0 0 0), (2, .ptr 1 0 0), (3, .ptr 2 0 0), (5, nat j), (39, boolX false)], [.var (nodB name text k1 k2 k3 k4 k5 k6 a b c d w e f ty ru ca ne 3 j), .var zNod, .var [.sl false 6 acc0], .row 5 acc]⟩
theorem qb_canon : canon 0 (qbN name text k1 k2 k3 k4 k5 k6 a b c d w e f ty ru ca ne acc0 acc j x) = some (qbH name text k1 k2 k3 k4 k5 k6 a b c d w e f ty ru ca ne acc0 (acc ++ [x]) (j + 1)) := by kernel_rfl
end
theorem qb_loop (name text : ByteArray) (k1 k2 k3 k4 k5 k6 a b c d : Int) (w e f ty ru ca ne acc0 : List (List X)) (hl8 : acc0.length ≤ 8) (hl : ∀ x, x ∈ acc0 → isRul0 x) {τ : St} (hτ : canon 0 τ = some (qbH name text k1 k2 k3 k4 k5 k6 a b c d w e f ty ru ca ne acc0 [] 0)) : ∃ acc, acc.length = min acc0.length 8 ∧ (∀ x, x ∈ acc → (fun _ => True) x) ∧ ∀ M, 40 ≤ M → run (callF tab ext M) 0 M (.loop (loopAt 18 1)) τ = some (.exit 2, qbE name text k1 k2 k3 k4 k5 k6 a b c d w e f ty ru ca ne acc0 acc (min acc0.length 8)) := by
  have hK : min acc0.length 8 ≤ 8 := by exact Nat.min_le_right _ _
  have key : ∃ acc : List (List X), acc.length = min acc0.length 8 ∧ (∀ x, x ∈ acc → (fun _ => True) x) ∧ ∀ M, 40 ≤ M → min acc0.length 8 < M → run (callF tab ext M) 0 M (.loop (loopAt 18 1)) τ = some (.exit 2, qbE name text k1 k2 k3 k4 k5 k6 a b c d w e f ty ru ca ne acc0 acc (min acc0.length 8)) := ?_
  · obtain ⟨acc, h1, hq, h2⟩ := key
    exact ⟨acc, h1, hq, fun M hM => h2 M hM (by omega)⟩
  refine loop_acc (nIn := 0) (b := loopAt 18 1) (B := 40) (H := fun j acc => qbH name text k1 k2 k3 k4 k5 k6 a b c d w e f ty ru ca ne acc0 acc j) (k := min acc0.length 8) (e := .exit 2) (E := fun acc => qbE name text k1 k2 k3 k4 k5 k6 a b c d w e f ty ru ca ne acc0 acc (min acc0.length 8)) (fun _ => True) hτ (fun j acc hj hacc => ?_) (fun acc hacc M hM => ?_) (by simp)
  · have hj1 : j < acc0.length := by omega
    have hj2 : j < 8 := by omega
    obtain ⟨s0, o1, i1, t1, v1, e1, hv⟩ := hl _ (List.getElem_mem hj1)
    have hg : acc0[j]? = some (ruleC s0 o1 i1 t1 v1 e1) := by rw [List.getElem?_eq_getElem hj1, hv]; rfl
    exact ⟨(expC o1 i1 t1 v1 e1), qbN name text k1 k2 k3 k4 k5 k6 a b c d w e f ty ru ca ne acc0 acc j ((expC o1 i1 t1 v1 e1)), trivial, qb_canon .., fun M hM => run_of [(39, .b true), (47, .e (ruleC s0 o1 i1 t1 v1 e1)), (51, .app), (41, .i (Int.ofNat (j + 1)))] [] (pf4 (lt_nat (j := j) (k := acc0.length) hj1) hg (app_ok (acc := acc) j 3 80 hacc.symm (by omega) (by omega)) (next_nat (j := j) (by omega))) (lo' := []) (by kernel_rfl)⟩
  · generalize hq : min acc0.length 8 = q
    exact run_of [(39, .b false)] [] (pf1 (nlt_nat (j := q) (k := acc0.length) (by omega))) (lo' := []) (by kernel_rfl)
section
variable (name text : ByteArray) (k1 k2 k3 k4 k5 k6 a b c d : Int) (w e f ty ru ca ne acc0 : List (List X)) (m : Nat) (acc : List (List X)) (j : Nat) (x : List X)
def qcH : St := ⟨[(1, .ptr 0 0 0), (2, .ptr 1 0 0), (6, .bs 2 0 j), (7, nat j)], [.var (nodB name text k1 k2 k3 k4 k5 k6 a b c d w e f ty ru ca ne 3 m), .var zNod, .row 2 acc, .row 5 acc0]⟩
def qcN : St := ⟨[(1, .ptr 0 0 0), (2, .ptr 1 0 0), (6, .bs 4 0 (j + 1)), (7, nat (j + 1))], [.var (nodB name text k1 k2 k3 k4 k5 k6 a b c d w e f ty ru ca ne 3 m), .var zNod, .dead, .row 5 acc0, .row 2 (acc ++ [x])]⟩
def qcE : St := ⟨[(1, .ptr 0 0 0), (2, .ptr 1 0 0), (6, .bs 2 0 j), (7, nat j), (61, boolX false)], [.var (nodB name text k1 k2 k3 k4 k5 k6 a b c d w e f ty ru ca ne 3 m), .var zNod, .row 2 acc, .row 5 acc0]⟩
theorem qc_canon : canon 0 (qcN name text k1 k2 k3 k4 k5 k6 a b c d w e f ty ru ca ne acc0 m acc j x) = some (qcH name text k1 k2 k3 k4 k5 k6 a b c d w e f ty ru ca ne acc0 m (acc ++ [x]) (j + 1)) := by kernel_rfl
end
theorem qc_loop (name text : ByteArray) (k1 k2 k3 k4 k5 k6 a b c d : Int) (w e f ty ru ca ne acc0 : List (List X)) (m : Nat) (hl : ∀ x, x ∈ ca → isCall x) {τ : St} (hτ : canon 0 τ = some (qcH name text k1 k2 k3 k4 k5 k6 a b c d w e f ty ru ca ne acc0 m [] 0)) : ∃ acc, acc.length = min ca.length 4 ∧ (∀ x, x ∈ acc → (fun _ => True) x) ∧ ∀ M, 110 ≤ M → run (callF tab ext M) 0 M (.loop (loopAt 18 2)) τ = some (.exit 4, qcE name text k1 k2 k3 k4 k5 k6 a b c d w e f ty ru ca ne acc0 m acc (min ca.length 4)) := by
  have hK : min ca.length 4 ≤ 4 := by exact Nat.min_le_right _ _
  have key : ∃ acc : List (List X), acc.length = min ca.length 4 ∧ (∀ x, x ∈ acc → (fun _ => True) x) ∧ ∀ M, 110 ≤ M → min ca.length 4 < M → run (callF tab ext M) 0 M (.loop (loopAt 18 2)) τ = some (.exit 4, qcE name text k1 k2 k3 k4 k5 k6 a b c d w e f ty ru ca ne acc0 m acc (min ca.length 4)) := ?_
  · obtain ⟨acc, h1, hq, h2⟩ := key
    exact ⟨acc, h1, hq, fun M hM => h2 M hM (by omega)⟩
  refine loop_acc (nIn := 0) (b := loopAt 18 2) (B := 110) (H := fun j acc => qcH name text k1 k2 k3 k4 k5 k6 a b c d w e f ty ru ca ne acc0 m acc j) (k := min ca.length 4) (e := .exit 4) (E := fun acc => qcE name text k1 k2 k3 k4 k5 k6 a b c d w e f ty ru ca ne acc0 m acc (min ca.length 4)) (fun _ => True) hτ (fun j acc hj hacc => ?_) (fun acc hacc M hM => ?_) (by simp)
  · have hj1 : j < ca.length := by omega
    have hj2 : j < 4 := by omega
    obtain ⟨s0, l0, hv, hl0⟩ := hl _ (List.getElem_mem hj1)
    obtain ⟨l1, _, _, hc⟩ := short_map l0 hl0
    have hg : ca[j]? = some [strX s0, .sl false 6 l0] := by rw [List.getElem?_eq_getElem hj1, hv]
    exact ⟨[strX (cutT 60 s0), .sl false 6 l1], qcN name text k1 k2 k3 k4 k5 k6 a b c d w e f ty ru ca ne acc0 m acc j ([strX (cutT 60 s0), .sl false 6 l1]), trivial, qc_canon .., fun M hM => run_of [(57, .b true), (60, .b true), (68, .e [strX s0, .sl false 6 l0]), (74, .e [strX s0, .sl false 6 l0]), (78, .i (Int.ofNat (min s0.size 60))), (79, .cut), (83, .e [strX s0, .sl false 6 l0]), (86, .p (.agg [.sl false 6 l1])), (89, .app), (63, .i (Int.ofNat (j + 1)))] [] (pf10 (lt_nat (j := j) (k := ca.length) hj1) (lt_lit hj2) hg hg (min_int s0.size 60) (cut_ok s0.size 60) hg (hc M (by omega)) (app_ok (acc := acc) j 2 40 hacc.symm (by omega) (by omega)) (next_nat (j := j) (by omega))) (lo' := []) (by kernel_rfl)⟩
  · generalize hq : min ca.length 4 = q
    by_cases h6 : q < ca.length
    · exact run_of [(57, .b true), (60, .b false)] [] (pf2 (lt_nat (j := q) (k := ca.length) h6) (nlt_nat (j := q) (k := 4) (by omega))) (lo' := []) (by kernel_rfl)
    · exact run_of [(57, .b false)] [] (pf1 (nlt_nat (j := q) (k := ca.length) h6)) (lo' := []) (by kernel_rfl)
section
variable (name text : ByteArray) (k1 k2 k3 k4 k5 k6 a b c d : Int) (w e f ty ru ca ne acc0 acc1 : List (List X)) (m q : Nat) (acc : List (List X)) (j : Nat) (x : List X)
def qdH : St := ⟨[(1, .ptr 0 0 0), (2, .ptr 1 0 0), (6, .bs 2 0 q), (8, .bs 3 0 j), (9, nat j)], [.var (nodB name text k1 k2 k3 k4 k5 k6 a b c d w e f ty ru ca ne 4 m), .var zNod, .row 2 acc1, .row 7 acc, .row 5 acc0]⟩
def qdN : St := ⟨[(1, .ptr 0 0 0), (2, .ptr 1 0 0), (6, .bs 2 0 q), (8, .bs 5 0 (j + 1)), (9, nat (j + 1))], [.var (nodB name text k1 k2 k3 k4 k5 k6 a b c d w e f ty ru ca ne 4 m), .var zNod, .row 2 acc1, .dead, .row 5 acc0, .row 7 (acc ++ [x])]⟩
def qdE : St := ⟨[(1, .ptr 0 0 0), (2, .ptr 1 0 0), (6, .bs 2 0 q), (8, .bs 3 0 j), (9, nat j), (98, boolX false)], [.var (nodB name text k1 k2 k3 k4 k5 k6 a b c d w e f ty ru ca ne 4 m), .var zNod, .row 2 acc1, .row 7 acc, .row 5 acc0]⟩
theorem qd_canon : canon 0 (qdN name text k1 k2 k3 k4 k5 k6 a b c d w e f ty ru ca ne acc0 acc1 m q acc j x) = some (qdH name text k1 k2 k3 k4 k5 k6 a b c d w e f ty ru ca ne acc0 acc1 m q (acc ++ [x]) (j + 1)) := by kernel_rfl
end
theorem qd_loop (name text : ByteArray) (k1 k2 k3 k4 k5 k6 a b c d : Int) (w e f ty ru ca ne acc0 acc1 : List (List X)) (m q : Nat) (hl : ∀ x, x ∈ ty → isTyp 3 x) {τ : St} (hτ : canon 0 τ = some (qdH name text k1 k2 k3 k4 k5 k6 a b c d w e f ty ru ca ne acc0 acc1 m q [] 0)) : ∃ acc, acc.length = min ty.length 8 ∧ (∀ x, x ∈ acc → (fun _ => True) x) ∧ ∀ M, 210 ≤ M → run (callF tab ext M) 0 M (.loop (loopAt 18 3)) τ = some (.exit 6, qdE name text k1 k2 k3 k4 k5 k6 a b c d w e f ty ru ca ne acc0 acc1 m q acc (min ty.length 8)) := by
  have hK : min ty.length 8 ≤ 8 := by exact Nat.min_le_right _ _
  have key : ∃ acc : List (List X), acc.length = min ty.length 8 ∧ (∀ x, x ∈ acc → (fun _ => True) x) ∧ ∀ M, 210 ≤ M → min ty.length 8 < M → run (callF tab ext M) 0 M (.loop (loopAt 18 3)) τ = some (.exit 6, qdE name text k1 k2 k3 k4 k5 k6 a b c d w e f ty ru ca ne acc0 acc1 m q acc (min ty.length 8)) := ?_
  · obtain ⟨acc, h1, hq, h2⟩ := key
    exact ⟨acc, h1, hq, fun M hM => h2 M hM (by omega)⟩
  refine loop_acc (nIn := 0) (b := loopAt 18 3) (B := 210) (H := fun j acc => qdH name text k1 k2 k3 k4 k5 k6 a b c d w e f ty ru ca ne acc0 acc1 m q acc j) (k := min ty.length 8) (e := .exit 6) (E := fun acc => qdE name text k1 k2 k3 k4 k5 k6 a b c d w e f ty ru ca ne acc0 acc1 m q acc (min ty.length 8)) (fun _ => True) hτ (fun j acc hj hacc => ?_) (fun acc hacc M hM => ?_) (by simp)
  · have hj1 : j < ty.length := by omega
    have hj2 : j < 8 := by omega
    obtain ⟨a1, b1, c1, d1, w1, e1, f1, a2, b2, c2, d2, w2, e2, f2, hv, hc⟩ := short_typ 3 _ (by omega) (hl _ (List.getElem_mem hj1))
    have hg : ty[j]? = some (typC a1 b1 c1 d1 w1 e1 f1) := by rw [List.getElem?_eq_getElem hj1, hv]
    exact ⟨(typC a2 b2 c2 d2 w2 e2 f2), qdN name text k1 k2 k3 k4 k5 k6 a b c d w e f ty ru ca ne acc0 acc1 m q acc j ((typC a2 b2 c2 d2 w2 e2 f2)), trivial, qd_canon .., fun M hM => run_of [(94, .b true), (97, .b true), (105, .e (typC a1 b1 c1 d1 w1 e1 f1)), (107, .p (.agg (typC a2 b2 c2 d2 w2 e2 f2))), (109, .app), (100, .i (Int.ofNat (j + 1)))] [] (pf6 (lt_nat (j := j) (k := ty.length) hj1) (lt_lit hj2) hg (hc M (by omega)) (app_ok (acc := acc) j 3 104 hacc.symm (by omega) (by omega)) (next_nat (j := j) (by omega))) (lo' := []) (by kernel_rfl)⟩
  · generalize hq : min ty.length 8 = q
    by_cases h6 : q < ty.length
    · exact run_of [(94, .b true), (97, .b false)] [] (pf2 (lt_nat (j := q) (k := ty.length) h6) (nlt_nat (j := q) (k := 8) (by omega))) (lo' := []) (by kernel_rfl)
    · exact run_of [(94, .b false)] [] (pf1 (nlt_nat (j := q) (k := ty.length) h6)) (lo' := []) (by kernel_rfl)
theorem short_node (name text : ByteArray) (k1 k2 k3 k4 k5 k6 : Int) (T : List X) (ty ex ru ca ne : List (List X)) (hT : isTyp 3 T) (hty : ∀ x, x ∈ ty → isTyp 3 x) (hex : ∀ x, x ∈ ex → isExp 3 x) (hru : ∀ x, x ∈ ru → isRule x) (hca : ∀ x, x ∈ ca → isCall x) :
    ∃ a b c d w e f a' b' c' d' w' e' f' ty' ex' ru' ca' ne', T = typC a b c d w e f ∧ ∀ N, 220 ≤ N → Gam.pureD (callF tab ext N) 18 [.agg (nodC name text k1 k2 k3 k4 k5 k6 a b c d w e f ty ex ru ca ne)] = some (.agg (nodC (cutT 60 name) (cutT 60 text) k1 k2 k3 k4 k5 k6 a' b' c' d' w' e' f' ty' ex' ru' ca' ne')) := by
  obtain ⟨a, b, c, d, w, e, f, a', b', c', d', w', e', f', rfl, hc⟩ := short_typ 3 T (by omega) hT
  obtain ⟨acc, h1, hr, g1⟩ := qa_loop name text k1 k2 k3 k4 k5 k6 a b c d w e f ty ex ru ca ne hex (τ := qaH name text k1 k2 k3 k4 k5 k6 a b c d w e f ty ex ru ca ne [] 0) (by kernel_rfl)
  generalize min ex.length 4 = m0 at h1 g1
  obtain ⟨r1, hl8, hr1, hc1⟩ := short_map acc hr
  obtain ⟨r2, _, _, hc2⟩ := short_map ru hru
  obtain ⟨acc1, h2, _, g2⟩ := qb_loop name text k1 k2 k3 k4 k5 k6 a b c d w e f ty ru ca ne r1 hl8 hr1 (τ := ⟨[(1, .ptr 0 0 0), (2, .ptr 1 0 0), (3, .ptr 2 0 0), (5, num 0)], [.var (nodB name text k1 k2 k3 k4 k5 k6 a b c d w e f ty ru ca ne 4 0), .var zNod, .var [.sl false 6 r1], .dead, .row 5 []]⟩) (by kernel_rfl)
  generalize min r1.length 8 = m1 at h2 g2
  obtain ⟨acc2, h3, _, g3⟩ := qc_loop name text k1 k2 k3 k4 k5 k6 a b c d w e f ty ru ca ne acc1 m1 hca (τ := ⟨[(1, .ptr 0 0 0), (2, .ptr 1 0 0), (6, .bs 4 0 0), (7, num 0)], [.var (nodB name text k1 k2 k3 k4 k5 k6 a b c d w e f ty ru ca ne 3 m1), .var zNod, .var [.sl false 6 r1], .row 5 acc1, .row 2 []]⟩) (by kernel_rfl)
  generalize min ca.length 4 = m2 at h3 g3
  obtain ⟨acc3, h4, _, g4⟩ := qd_loop name text k1 k2 k3 k4 k5 k6 a b c d w e f ty ru ca ne acc1 acc2 m1 m2 hty (τ := ⟨[(1, .ptr 0 0 0), (2, .ptr 1 0 0), (6, .bs 2 0 m2), (8, .bs 4 0 0), (9, num 0)], [.var (nodB name text k1 k2 k3 k4 k5 k6 a b c d w e f ty ru ca ne 3 m1), .var zNod, .row 2 acc2, .row 5 acc1, .row 7 []]⟩) (by kernel_rfl)
  generalize min ty.length 8 = m3 at h4 g4
  refine ⟨a, b, c, d, w, e, f, a', b', c', d', w', e', f', acc3, acc1, r2, acc2, ne.take (min ne.length 70), rfl, fun N hN => ?_⟩
  obtain ⟨M, rfl⟩ : ∃ M, N = M + 1 := ⟨N - 1, by omega⟩
  have hd : (X.agg [strX (cutT 60 name), num k1, num k2, num k3, num k4, num k5, num k6, strX (cutT 60 text), num a', num b', num c', num d', .sl false 1 w', .sl false 7 e', .sl false 11 f', .bs 0 0 m3, .bs 1 0 m1, .sl false 6 r2, .bs 2 0 m2, .sl false 1 (ne.take (min ne.length 70))]).data [.row 7 acc3, .row 5 acc1, .row 2 acc2] false
      = some (.agg (nodC (cutT 60 name) (cutT 60 text) k1 k2 k3 k4 k5 k6 a' b' c' d' w' e' f' acc3 acc1 r2 acc2 (ne.take (min ne.length 70)))) := by
    subst h2 h3 h4; simp [X.data, dataL, rowOf, num, strX, nodC]
  exact pure_of [(33, .p (.agg [.sl false 6 r1])), (114, .p (.agg [.sl false 6 r2])), (117, .p (.agg (typC a' b' c' d' w' e' f'))), (127, .i (Int.ofNat (min name.size 60))), (128, .cut), (134, .i (Int.ofNat (min text.size 60))), (135, .cut), (141, .i (Int.ofNat (min ne.length 70))), (142, .cut)]
    [(.exit 0, qaE name text k1 k2 k3 k4 k5 k6 a b c d w e f ty ex ru ca ne acc m0), (.exit 2, qbE name text k1 k2 k3 k4 k5 k6 a b c d w e f ty ru ca ne r1 acc1 m1), (.exit 4, qcE name text k1 k2 k3 k4 k5 k6 a b c d w e f ty ru ca ne acc1 m1 acc2 m2), (.exit 6, qdE name text k1 k2 k3 k4 k5 k6 a b c d w e f ty ru ca ne acc1 acc2 m1 m2 acc3 m3)]
    (pf14 (g1 M (by omega)) (show 0 + m0 ≤ acc.length by omega) (show Gam.pureD (callF tab ext M) 49 [.agg [.sl false 6 (acc.take m0)]] = some (.agg [.sl false 6 r1]) by rw [List.take_of_length_le (by omega)]; exact hc1 M (by omega)) (g2 M (by omega)) (g3 M (by omega)) (g4 M (by omega)) (hc2 M (by omega)) (hc M (by omega)) (min_int name.size 60) (cut_ok name.size 60) (min_int text.size 60) (cut_ok text.size 60) (min_int ne.length 70) (cut_ok ne.length 70))
    (x := .agg [strX (cutT 60 name), num k1, num k2, num k3, num k4, num k5, num k6, strX (cutT 60 text), num a', num b', num c', num d', .sl false 1 w', .sl false 7 e', .sl false 11 f', .bs 0 0 m3, .bs 1 0 m1, .sl false 6 r2, .bs 2 0 m2, .sl false 1 (ne.take (min ne.length 70))]) (bx := [.row 7 acc3, .row 5 acc1, .row 2 acc2]) (by kernel_rfl) hd

end Go.Proofs.YthfchdkjeddijaaGreatDoor

/- Nodes, cut to their sizes. -/
namespace Go.Proofs.YthfchdkjeddijaaGreatDoor
open Go.Em
set_option maxRecDepth 100000

/-- A node: its numbers and texts; what the rest holds stays as it is. -/
structure Nod where
  name : ByteArray
  kind : Int
  schema : Int
  result : Int
  number : Int
  time : Int
  limit : Int
  text : ByteArray
  ty : Int × Int × Int × Int
  words : List (List X)
  elem : List (List X)
  fields : List (List X)
  types : List (List X)
  exprs : List (List X)
  calls : List (List X)
  rules : List (List X)
  next : List (List X)
def Nod.cells (n : Nod) : List X := [strX n.name, num n.kind, num n.schema, num n.result, num n.number, num n.time, num n.limit, strX n.text, num n.ty.1, num n.ty.2.1, num n.ty.2.2.1, num n.ty.2.2.2, .sl false 1 n.words, .sl false 7 n.elem, .sl false 11 n.fields, .sl false 7 n.types, .sl false 5 n.exprs, .sl false 6 n.rules, .sl false 2 n.calls, .sl false 1 n.next]
def isNode (c : List X) : Prop := ∃ (name : ByteArray) (k1 k2 k3 k4 k5 k6 : Int) (text : ByteArray) (T : List X) (ty ex ru ca ne : List (List X)), c = [strX name, num k1, num k2, num k3, num k4, num k5, num k6, strX text] ++ (T ++ [.sl false 7 ty, .sl false 5 ex, .sl false 6 ru, .sl false 2 ca, .sl false 1 ne]) ∧ isTyp 3 T ∧ (∀ x, x ∈ ty → isTyp 3 x) ∧ (∀ x, x ∈ ex → isExp 3 x) ∧ (∀ x, x ∈ ru → isRule x) ∧ ∀ x, x ∈ ca → isCall x
theorem node_of {c : List X} (h : isNode c) : ∃ nd nd' : Nod, c = nd.cells ∧ ∀ N, 220 ≤ N → Gam.pureD (callF tab ext N) 18 [.agg nd.cells] = some (.agg nd'.cells) := by
  obtain ⟨name, k1, k2, k3, k4, k5, k6, text, T, ty, ex, ru, ca, ne, rfl, hT, hty, hex, hru, hca⟩ := h
  obtain ⟨a, b, c, d, w, e, f, a', b', c', d', w', e', f', ty', ex', ru', ca', ne', rfl, hc⟩ := short_node name text k1 k2 k3 k4 k5 k6 T ty ex ru ca ne hT hty hex hru hca
  exact ⟨⟨name, k1, k2, k3, k4, k5, k6, text, (a, b, c, d), w, e, f, ty, ex, ca, ru, ne⟩, ⟨cutT 60 name, k1, k2, k3, k4, k5, k6, cutT 60 text, (a', b', c', d'), w', e', f', ty', ex', ca', ru', ne'⟩, rfl, hc⟩
end Go.Proofs.YthfchdkjeddijaaGreatDoor

/- The arguments of the laws: what reads as data of their types is a node, a state, an input. -/
namespace Go.Proofs.YthfchdkjeddijaaGreatDoor
open Go.Em Go.RowKit
set_option maxRecDepth 100000

theorem Tryz.own : ownKnob Tryz.prog.godebug = none := by kernel_rfl
theorem Tryz.laidOut : laidOutB Tryz.prog = true := by kernel_rfl
theorem Tryz.rowed : mapsRowed Tryz.prog = true := by kernel_rfl
def tys : List TypeId := [3, 4, 9, 23, 25, 29, 33, 34, 35, 37, 38, 39, 41, 42, 43, 45, 48, 49, 50, 52, 54, 56, 100, 108, 111, 114, 117, 137]
theorem tys_ok : dataTys Tryz.prog tys = true := by kernel_rfl
theorem tys_size : tys.all (fun t => decide (t < Tryz.prog.types.size)) = true := by kernel_rfl
theorem tys_lt {t : TypeId} (h : t ∈ tys) : t < Tryz.prog.types.size := of_decide_eq_true (List.all_eq_true.1 tys_size t h)
theorem tys_kids : Kids Tryz.prog (fun t => t ∈ tys ∧ t < Tryz.prog.types.size) := kids_data (kids_rows Tryz.laidOut Tryz.rowed) tys_ok
def fieldsOf (P : Program) (t : TypeId) : Array Field := match P.underlying t with
  | some (.struct fs) => fs
  | _ => #[]
theorem under3 : Tryz.prog.underlying 3 = some (.int .i64) := by kernel_rfl
theorem under4 : Tryz.prog.underlying 4 = some .bool := by kernel_rfl
theorem under9 : Tryz.prog.underlying 9 = some .string := by kernel_rfl
theorem under25 : Tryz.prog.underlying 25 = some (.struct (fieldsOf Tryz.prog 25)) := by kernel_rfl
theorem fields25 : (fieldsOf Tryz.prog 25).toList.map (·.type) = [3, 3, 23] := by kernel_rfl
theorem under37 : Tryz.prog.underlying 37 = some (.struct (fieldsOf Tryz.prog 37)) := by kernel_rfl
theorem fields37 : (fieldsOf Tryz.prog 37).toList.map (·.type) = [3, 3, 3, 3, 33, 34, 35] := by kernel_rfl
theorem under41 : Tryz.prog.underlying 41 = some (.struct (fieldsOf Tryz.prog 41)) := by kernel_rfl
theorem fields41 : (fieldsOf Tryz.prog 41).toList.map (·.type) = [39] := by kernel_rfl
theorem under45 : Tryz.prog.underlying 45 = some (.struct (fieldsOf Tryz.prog 45)) := by kernel_rfl
theorem fields45 : (fieldsOf Tryz.prog 45).toList.map (·.type) = [9, 3, 3, 3, 3, 3, 3, 9, 37, 34, 38, 41, 42, 43] := by kernel_rfl
theorem under48 : Tryz.prog.underlying 48 = some (.struct (fieldsOf Tryz.prog 48)) := by kernel_rfl
theorem fields48 : (fieldsOf Tryz.prog 48).toList.map (·.type) = [3, 43] := by kernel_rfl
theorem under52 : Tryz.prog.underlying 52 = some (.struct (fieldsOf Tryz.prog 52)) := by kernel_rfl
theorem fields52 : (fieldsOf Tryz.prog 52).toList.map (·.type) = [3, 3, 3, 9, 49, 50] := by kernel_rfl
theorem under54 : Tryz.prog.underlying 54 = some (.struct (fieldsOf Tryz.prog 54)) := by kernel_rfl
theorem fields54 : (fieldsOf Tryz.prog 54).toList.map (·.type) = [48, 3, 43, 52] := by kernel_rfl
theorem under56 : Tryz.prog.underlying 56 = some (.struct (fieldsOf Tryz.prog 56)) := by kernel_rfl
theorem fields56 : (fieldsOf Tryz.prog 56).toList.map (·.type) = [3, 3, 48, 54, 3, 4, 4, 52] := by kernel_rfl
theorem under100 : Tryz.prog.underlying 100 = some (.struct (fieldsOf Tryz.prog 100)) := by kernel_rfl
theorem fields100 : (fieldsOf Tryz.prog 100).toList.map (·.type) = [52, 3, 3, 29, 49] := by kernel_rfl
theorem under108 : Tryz.prog.underlying 108 = some (.struct (fieldsOf Tryz.prog 108)) := by kernel_rfl
theorem fields108 : (fieldsOf Tryz.prog 108).toList.map (·.type) = [3, 3, 9, 49, 38] := by kernel_rfl
theorem under111 : Tryz.prog.underlying 111 = some (.struct (fieldsOf Tryz.prog 111)) := by kernel_rfl
theorem fields111 : (fieldsOf Tryz.prog 111).toList.map (·.type) = [9, 52] := by kernel_rfl
theorem under114 : Tryz.prog.underlying 114 = some (.struct (fieldsOf Tryz.prog 114)) := by kernel_rfl
theorem fields114 : (fieldsOf Tryz.prog 114).toList.map (·.type) = [9, 108] := by kernel_rfl
theorem under117 : Tryz.prog.underlying 117 = some (.struct (fieldsOf Tryz.prog 117)) := by kernel_rfl
theorem fields117 : (fieldsOf Tryz.prog 117).toList.map (·.type) = [9, 41] := by kernel_rfl
theorem under137 : Tryz.prog.underlying 137 = some (.struct (fieldsOf Tryz.prog 137)) := by kernel_rfl
theorem fields137 : (fieldsOf Tryz.prog 137).toList.map (·.type) = [3, 9, 3, 37, 49] := by kernel_rfl
theorem under23 : Tryz.prog.underlying 23 = some (.slice 100) := by kernel_rfl
theorem under29 : Tryz.prog.underlying 29 = some (.slice 54) := by kernel_rfl
theorem under33 : Tryz.prog.underlying 33 = some (.slice 9) := by kernel_rfl
theorem under34 : Tryz.prog.underlying 34 = some (.slice 37) := by kernel_rfl
theorem under35 : Tryz.prog.underlying 35 = some (.slice 137) := by kernel_rfl
theorem under38 : Tryz.prog.underlying 38 = some (.slice 108) := by kernel_rfl
theorem under39 : Tryz.prog.underlying 39 = some (.slice 114) := by kernel_rfl
theorem under42 : Tryz.prog.underlying 42 = some (.slice 117) := by kernel_rfl
theorem under43 : Tryz.prog.underlying 43 = some (.slice 3) := by kernel_rfl
theorem under49 : Tryz.prog.underlying 49 = some (.slice 52) := by kernel_rfl
theorem under50 : Tryz.prog.underlying 50 = some (.slice 111) := by kernel_rfl
theorem cells3 : Tryz.prog.cellsOf 3 = 1 := by kernel_rfl
theorem cells9 : Tryz.prog.cellsOf 9 = 1 := by kernel_rfl
theorem cells37 : Tryz.prog.cellsOf 37 = 7 := by kernel_rfl
theorem cells52 : Tryz.prog.cellsOf 52 = 6 := by kernel_rfl
theorem cells54 : Tryz.prog.cellsOf 54 = 10 := by kernel_rfl
theorem cells100 : Tryz.prog.cellsOf 100 = 10 := by kernel_rfl
theorem cells108 : Tryz.prog.cellsOf 108 = 5 := by kernel_rfl
theorem cells111 : Tryz.prog.cellsOf 111 = 7 := by kernel_rfl
theorem cells114 : Tryz.prog.cellsOf 114 = 6 := by kernel_rfl
theorem cells117 : Tryz.prog.cellsOf 117 = 2 := by kernel_rfl
theorem cells137 : Tryz.prog.cellsOf 137 = 11 := by kernel_rfl

variable {n : Nat} {xs : List X}
theorem shape_num (h : Shape Tryz.prog n 3 xs) : ∃ z, xs = [num z] := by
  obtain ⟨v, rfl, _⟩ := shape_int under3 h
  exact ⟨v, rfl⟩
theorem shape_text (h : Shape Tryz.prog n 9 xs) : ∃ s, xs = [strX s] := by
  obtain ⟨v, rfl, _⟩ := shape_string under9 h
  exact ⟨v, rfl⟩
theorem shape_flag (h : Shape Tryz.prog n 4 xs) : ∃ b, xs = [boolX b] := shape_bool under4 h
theorem shape_sl23 (h : Shape Tryz.prog n 23 xs) : ∃ es, xs = [.sl false 10 es] ∧ ∃ m, m < n ∧ ∀ c, c ∈ es → Shape Tryz.prog m 100 c := by
  obtain ⟨es, rfl, _, h⟩ := shape_slice under23 h
  rw [cells100]
  exact ⟨es, rfl, h⟩
theorem shape_sl29 (h : Shape Tryz.prog n 29 xs) : ∃ es, xs = [.sl false 10 es] ∧ ∃ m, m < n ∧ ∀ c, c ∈ es → Shape Tryz.prog m 54 c := by
  obtain ⟨es, rfl, _, h⟩ := shape_slice under29 h
  rw [cells54]
  exact ⟨es, rfl, h⟩
theorem shape_sl33 (h : Shape Tryz.prog n 33 xs) : ∃ es, xs = [.sl false 1 es] ∧ ∃ m, m < n ∧ ∀ c, c ∈ es → Shape Tryz.prog m 9 c := by
  obtain ⟨es, rfl, _, h⟩ := shape_slice under33 h
  rw [cells9]
  exact ⟨es, rfl, h⟩
theorem shape_sl34 (h : Shape Tryz.prog n 34 xs) : ∃ es, xs = [.sl false 7 es] ∧ ∃ m, m < n ∧ ∀ c, c ∈ es → Shape Tryz.prog m 37 c := by
  obtain ⟨es, rfl, _, h⟩ := shape_slice under34 h
  rw [cells37]
  exact ⟨es, rfl, h⟩
theorem shape_sl35 (h : Shape Tryz.prog n 35 xs) : ∃ es, xs = [.sl false 11 es] ∧ ∃ m, m < n ∧ ∀ c, c ∈ es → Shape Tryz.prog m 137 c := by
  obtain ⟨es, rfl, _, h⟩ := shape_slice under35 h
  rw [cells137]
  exact ⟨es, rfl, h⟩
theorem shape_sl38 (h : Shape Tryz.prog n 38 xs) : ∃ es, xs = [.sl false 5 es] ∧ ∃ m, m < n ∧ ∀ c, c ∈ es → Shape Tryz.prog m 108 c := by
  obtain ⟨es, rfl, _, h⟩ := shape_slice under38 h
  rw [cells108]
  exact ⟨es, rfl, h⟩
theorem shape_sl39 (h : Shape Tryz.prog n 39 xs) : ∃ es, xs = [.sl false 6 es] ∧ ∃ m, m < n ∧ ∀ c, c ∈ es → Shape Tryz.prog m 114 c := by
  obtain ⟨es, rfl, _, h⟩ := shape_slice under39 h
  rw [cells114]
  exact ⟨es, rfl, h⟩
theorem shape_sl42 (h : Shape Tryz.prog n 42 xs) : ∃ es, xs = [.sl false 2 es] ∧ ∃ m, m < n ∧ ∀ c, c ∈ es → Shape Tryz.prog m 117 c := by
  obtain ⟨es, rfl, _, h⟩ := shape_slice under42 h
  rw [cells117]
  exact ⟨es, rfl, h⟩
theorem shape_sl43 (h : Shape Tryz.prog n 43 xs) : ∃ es, xs = [.sl false 1 es] ∧ ∃ m, m < n ∧ ∀ c, c ∈ es → Shape Tryz.prog m 3 c := by
  obtain ⟨es, rfl, _, h⟩ := shape_slice under43 h
  rw [cells3]
  exact ⟨es, rfl, h⟩
theorem shape_sl49 (h : Shape Tryz.prog n 49 xs) : ∃ es, xs = [.sl false 6 es] ∧ ∃ m, m < n ∧ ∀ c, c ∈ es → Shape Tryz.prog m 52 c := by
  obtain ⟨es, rfl, _, h⟩ := shape_slice under49 h
  rw [cells52]
  exact ⟨es, rfl, h⟩
theorem shape_sl50 (h : Shape Tryz.prog n 50 xs) : ∃ es, xs = [.sl false 7 es] ∧ ∃ m, m < n ∧ ∀ c, c ∈ es → Shape Tryz.prog m 111 c := by
  obtain ⟨es, rfl, _, h⟩ := shape_slice under50 h
  rw [cells111]
  exact ⟨es, rfl, h⟩
theorem shape_st25 (h : Shape Tryz.prog n 25 xs) : ∃ m, m < n ∧ ∃ x0 x1 x2, xs = x0 ++ (x1 ++ (x2 ++ [])) ∧ Shape Tryz.prog m 3 x0 ∧ Shape Tryz.prog m 3 x1 ∧ Shape Tryz.prog m 23 x2 := by
  obtain ⟨m, hm, hk⟩ := shape_struct under25 h
  rw [fields25] at hk
  obtain ⟨x0, r0, rfl, h0, hk⟩ := hk
  obtain ⟨x1, r1, rfl, h1, hk⟩ := hk
  obtain ⟨x2, r2, rfl, h2, hk⟩ := hk
  have hk : r2 = [] := hk
  subst hk
  exact ⟨m, hm, x0, x1, x2, rfl, h0, h1, h2⟩
theorem shape_st37 (h : Shape Tryz.prog n 37 xs) : ∃ m, m < n ∧ ∃ x0 x1 x2 x3 x4 x5 x6, xs = x0 ++ (x1 ++ (x2 ++ (x3 ++ (x4 ++ (x5 ++ (x6 ++ [])))))) ∧ Shape Tryz.prog m 3 x0 ∧ Shape Tryz.prog m 3 x1 ∧ Shape Tryz.prog m 3 x2 ∧ Shape Tryz.prog m 3 x3 ∧ Shape Tryz.prog m 33 x4 ∧ Shape Tryz.prog m 34 x5 ∧ Shape Tryz.prog m 35 x6 := by
  obtain ⟨m, hm, hk⟩ := shape_struct under37 h
  rw [fields37] at hk
  obtain ⟨x0, r0, rfl, h0, hk⟩ := hk
  obtain ⟨x1, r1, rfl, h1, hk⟩ := hk
  obtain ⟨x2, r2, rfl, h2, hk⟩ := hk
  obtain ⟨x3, r3, rfl, h3, hk⟩ := hk
  obtain ⟨x4, r4, rfl, h4, hk⟩ := hk
  obtain ⟨x5, r5, rfl, h5, hk⟩ := hk
  obtain ⟨x6, r6, rfl, h6, hk⟩ := hk
  have hk : r6 = [] := hk
  subst hk
  exact ⟨m, hm, x0, x1, x2, x3, x4, x5, x6, rfl, h0, h1, h2, h3, h4, h5, h6⟩
theorem shape_st41 (h : Shape Tryz.prog n 41 xs) : ∃ m, m < n ∧ ∃ x0, xs = x0 ++ [] ∧ Shape Tryz.prog m 39 x0 := by
  obtain ⟨m, hm, hk⟩ := shape_struct under41 h
  rw [fields41] at hk
  obtain ⟨x0, r0, rfl, h0, hk⟩ := hk
  have hk : r0 = [] := hk
  subst hk
  exact ⟨m, hm, x0, rfl, h0⟩
theorem shape_st45 (h : Shape Tryz.prog n 45 xs) : ∃ m, m < n ∧ ∃ x0 x1 x2 x3 x4 x5 x6 x7 x8 x9 x10 x11 x12 x13, xs = x0 ++ (x1 ++ (x2 ++ (x3 ++ (x4 ++ (x5 ++ (x6 ++ (x7 ++ (x8 ++ (x9 ++ (x10 ++ (x11 ++ (x12 ++ (x13 ++ []))))))))))))) ∧ Shape Tryz.prog m 9 x0 ∧ Shape Tryz.prog m 3 x1 ∧ Shape Tryz.prog m 3 x2 ∧ Shape Tryz.prog m 3 x3 ∧ Shape Tryz.prog m 3 x4 ∧ Shape Tryz.prog m 3 x5 ∧ Shape Tryz.prog m 3 x6 ∧ Shape Tryz.prog m 9 x7 ∧ Shape Tryz.prog m 37 x8 ∧ Shape Tryz.prog m 34 x9 ∧ Shape Tryz.prog m 38 x10 ∧ Shape Tryz.prog m 41 x11 ∧ Shape Tryz.prog m 42 x12 ∧ Shape Tryz.prog m 43 x13 := by
  obtain ⟨m, hm, hk⟩ := shape_struct under45 h
  rw [fields45] at hk
  obtain ⟨x0, r0, rfl, h0, hk⟩ := hk
  obtain ⟨x1, r1, rfl, h1, hk⟩ := hk
  obtain ⟨x2, r2, rfl, h2, hk⟩ := hk
  obtain ⟨x3, r3, rfl, h3, hk⟩ := hk
  obtain ⟨x4, r4, rfl, h4, hk⟩ := hk
  obtain ⟨x5, r5, rfl, h5, hk⟩ := hk
  obtain ⟨x6, r6, rfl, h6, hk⟩ := hk
  obtain ⟨x7, r7, rfl, h7, hk⟩ := hk
  obtain ⟨x8, r8, rfl, h8, hk⟩ := hk
  obtain ⟨x9, r9, rfl, h9, hk⟩ := hk
  obtain ⟨x10, r10, rfl, h10, hk⟩ := hk
  obtain ⟨x11, r11, rfl, h11, hk⟩ := hk
  obtain ⟨x12, r12, rfl, h12, hk⟩ := hk
  obtain ⟨x13, r13, rfl, h13, hk⟩ := hk
  have hk : r13 = [] := hk
  subst hk
  exact ⟨m, hm, x0, x1, x2, x3, x4, x5, x6, x7, x8, x9, x10, x11, x12, x13, rfl, h0, h1, h2, h3, h4, h5, h6, h7, h8, h9, h10, h11, h12, h13⟩
theorem shape_st48 (h : Shape Tryz.prog n 48 xs) : ∃ m, m < n ∧ ∃ x0 x1, xs = x0 ++ (x1 ++ []) ∧ Shape Tryz.prog m 3 x0 ∧ Shape Tryz.prog m 43 x1 := by
  obtain ⟨m, hm, hk⟩ := shape_struct under48 h
  rw [fields48] at hk
  obtain ⟨x0, r0, rfl, h0, hk⟩ := hk
  obtain ⟨x1, r1, rfl, h1, hk⟩ := hk
  have hk : r1 = [] := hk
  subst hk
  exact ⟨m, hm, x0, x1, rfl, h0, h1⟩
theorem shape_st52 (h : Shape Tryz.prog n 52 xs) : ∃ m, m < n ∧ ∃ x0 x1 x2 x3 x4 x5, xs = x0 ++ (x1 ++ (x2 ++ (x3 ++ (x4 ++ (x5 ++ []))))) ∧ Shape Tryz.prog m 3 x0 ∧ Shape Tryz.prog m 3 x1 ∧ Shape Tryz.prog m 3 x2 ∧ Shape Tryz.prog m 9 x3 ∧ Shape Tryz.prog m 49 x4 ∧ Shape Tryz.prog m 50 x5 := by
  obtain ⟨m, hm, hk⟩ := shape_struct under52 h
  rw [fields52] at hk
  obtain ⟨x0, r0, rfl, h0, hk⟩ := hk
  obtain ⟨x1, r1, rfl, h1, hk⟩ := hk
  obtain ⟨x2, r2, rfl, h2, hk⟩ := hk
  obtain ⟨x3, r3, rfl, h3, hk⟩ := hk
  obtain ⟨x4, r4, rfl, h4, hk⟩ := hk
  obtain ⟨x5, r5, rfl, h5, hk⟩ := hk
  have hk : r5 = [] := hk
  subst hk
  exact ⟨m, hm, x0, x1, x2, x3, x4, x5, rfl, h0, h1, h2, h3, h4, h5⟩
theorem shape_st54 (h : Shape Tryz.prog n 54 xs) : ∃ m, m < n ∧ ∃ x0 x1 x2 x3, xs = x0 ++ (x1 ++ (x2 ++ (x3 ++ []))) ∧ Shape Tryz.prog m 48 x0 ∧ Shape Tryz.prog m 3 x1 ∧ Shape Tryz.prog m 43 x2 ∧ Shape Tryz.prog m 52 x3 := by
  obtain ⟨m, hm, hk⟩ := shape_struct under54 h
  rw [fields54] at hk
  obtain ⟨x0, r0, rfl, h0, hk⟩ := hk
  obtain ⟨x1, r1, rfl, h1, hk⟩ := hk
  obtain ⟨x2, r2, rfl, h2, hk⟩ := hk
  obtain ⟨x3, r3, rfl, h3, hk⟩ := hk
  have hk : r3 = [] := hk
  subst hk
  exact ⟨m, hm, x0, x1, x2, x3, rfl, h0, h1, h2, h3⟩
theorem shape_st56 (h : Shape Tryz.prog n 56 xs) : ∃ m, m < n ∧ ∃ x0 x1 x2 x3 x4 x5 x6 x7, xs = x0 ++ (x1 ++ (x2 ++ (x3 ++ (x4 ++ (x5 ++ (x6 ++ (x7 ++ []))))))) ∧ Shape Tryz.prog m 3 x0 ∧ Shape Tryz.prog m 3 x1 ∧ Shape Tryz.prog m 48 x2 ∧ Shape Tryz.prog m 54 x3 ∧ Shape Tryz.prog m 3 x4 ∧ Shape Tryz.prog m 4 x5 ∧ Shape Tryz.prog m 4 x6 ∧ Shape Tryz.prog m 52 x7 := by
  obtain ⟨m, hm, hk⟩ := shape_struct under56 h
  rw [fields56] at hk
  obtain ⟨x0, r0, rfl, h0, hk⟩ := hk
  obtain ⟨x1, r1, rfl, h1, hk⟩ := hk
  obtain ⟨x2, r2, rfl, h2, hk⟩ := hk
  obtain ⟨x3, r3, rfl, h3, hk⟩ := hk
  obtain ⟨x4, r4, rfl, h4, hk⟩ := hk
  obtain ⟨x5, r5, rfl, h5, hk⟩ := hk
  obtain ⟨x6, r6, rfl, h6, hk⟩ := hk
  obtain ⟨x7, r7, rfl, h7, hk⟩ := hk
  have hk : r7 = [] := hk
  subst hk
  exact ⟨m, hm, x0, x1, x2, x3, x4, x5, x6, x7, rfl, h0, h1, h2, h3, h4, h5, h6, h7⟩
theorem shape_st100 (h : Shape Tryz.prog n 100 xs) : ∃ m, m < n ∧ ∃ x0 x1 x2 x3 x4, xs = x0 ++ (x1 ++ (x2 ++ (x3 ++ (x4 ++ [])))) ∧ Shape Tryz.prog m 52 x0 ∧ Shape Tryz.prog m 3 x1 ∧ Shape Tryz.prog m 3 x2 ∧ Shape Tryz.prog m 29 x3 ∧ Shape Tryz.prog m 49 x4 := by
  obtain ⟨m, hm, hk⟩ := shape_struct under100 h
  rw [fields100] at hk
  obtain ⟨x0, r0, rfl, h0, hk⟩ := hk
  obtain ⟨x1, r1, rfl, h1, hk⟩ := hk
  obtain ⟨x2, r2, rfl, h2, hk⟩ := hk
  obtain ⟨x3, r3, rfl, h3, hk⟩ := hk
  obtain ⟨x4, r4, rfl, h4, hk⟩ := hk
  have hk : r4 = [] := hk
  subst hk
  exact ⟨m, hm, x0, x1, x2, x3, x4, rfl, h0, h1, h2, h3, h4⟩
theorem shape_st108 (h : Shape Tryz.prog n 108 xs) : ∃ m, m < n ∧ ∃ x0 x1 x2 x3 x4, xs = x0 ++ (x1 ++ (x2 ++ (x3 ++ (x4 ++ [])))) ∧ Shape Tryz.prog m 3 x0 ∧ Shape Tryz.prog m 3 x1 ∧ Shape Tryz.prog m 9 x2 ∧ Shape Tryz.prog m 49 x3 ∧ Shape Tryz.prog m 38 x4 := by
  obtain ⟨m, hm, hk⟩ := shape_struct under108 h
  rw [fields108] at hk
  obtain ⟨x0, r0, rfl, h0, hk⟩ := hk
  obtain ⟨x1, r1, rfl, h1, hk⟩ := hk
  obtain ⟨x2, r2, rfl, h2, hk⟩ := hk
  obtain ⟨x3, r3, rfl, h3, hk⟩ := hk
  obtain ⟨x4, r4, rfl, h4, hk⟩ := hk
  have hk : r4 = [] := hk
  subst hk
  exact ⟨m, hm, x0, x1, x2, x3, x4, rfl, h0, h1, h2, h3, h4⟩
theorem shape_st111 (h : Shape Tryz.prog n 111 xs) : ∃ m, m < n ∧ ∃ x0 x1, xs = x0 ++ (x1 ++ []) ∧ Shape Tryz.prog m 9 x0 ∧ Shape Tryz.prog m 52 x1 := by
  obtain ⟨m, hm, hk⟩ := shape_struct under111 h
  rw [fields111] at hk
  obtain ⟨x0, r0, rfl, h0, hk⟩ := hk
  obtain ⟨x1, r1, rfl, h1, hk⟩ := hk
  have hk : r1 = [] := hk
  subst hk
  exact ⟨m, hm, x0, x1, rfl, h0, h1⟩
theorem shape_st114 (h : Shape Tryz.prog n 114 xs) : ∃ m, m < n ∧ ∃ x0 x1, xs = x0 ++ (x1 ++ []) ∧ Shape Tryz.prog m 9 x0 ∧ Shape Tryz.prog m 108 x1 := by
  obtain ⟨m, hm, hk⟩ := shape_struct under114 h
  rw [fields114] at hk
  obtain ⟨x0, r0, rfl, h0, hk⟩ := hk
  obtain ⟨x1, r1, rfl, h1, hk⟩ := hk
  have hk : r1 = [] := hk
  subst hk
  exact ⟨m, hm, x0, x1, rfl, h0, h1⟩
theorem shape_st117 (h : Shape Tryz.prog n 117 xs) : ∃ m, m < n ∧ ∃ x0 x1, xs = x0 ++ (x1 ++ []) ∧ Shape Tryz.prog m 9 x0 ∧ Shape Tryz.prog m 41 x1 := by
  obtain ⟨m, hm, hk⟩ := shape_struct under117 h
  rw [fields117] at hk
  obtain ⟨x0, r0, rfl, h0, hk⟩ := hk
  obtain ⟨x1, r1, rfl, h1, hk⟩ := hk
  have hk : r1 = [] := hk
  subst hk
  exact ⟨m, hm, x0, x1, rfl, h0, h1⟩
theorem shape_st137 (h : Shape Tryz.prog n 137 xs) : ∃ m, m < n ∧ ∃ x0 x1 x2 x3 x4, xs = x0 ++ (x1 ++ (x2 ++ (x3 ++ (x4 ++ [])))) ∧ Shape Tryz.prog m 3 x0 ∧ Shape Tryz.prog m 9 x1 ∧ Shape Tryz.prog m 3 x2 ∧ Shape Tryz.prog m 37 x3 ∧ Shape Tryz.prog m 49 x4 := by
  obtain ⟨m, hm, hk⟩ := shape_struct under137 h
  rw [fields137] at hk
  obtain ⟨x0, r0, rfl, h0, hk⟩ := hk
  obtain ⟨x1, r1, rfl, h1, hk⟩ := hk
  obtain ⟨x2, r2, rfl, h2, hk⟩ := hk
  obtain ⟨x3, r3, rfl, h3, hk⟩ := hk
  obtain ⟨x4, r4, rfl, h4, hk⟩ := hk
  have hk : r4 = [] := hk
  subst hk
  exact ⟨m, hm, x0, x1, x2, x3, x4, rfl, h0, h1, h2, h3, h4⟩

theorem shape_val : ∀ (n : Nat) (xs : List X), Shape Tryz.prog n 52 xs → ∃ v : Val, xs = v.cells := by
  intro n
  induction n using Nat.strongRecOn with
  | _ n ih =>
    intro xs h
    obtain ⟨m, hm, x0, x1, x2, x3, x4, x5, rfl, h0, h1, h2, h3, h4, h5⟩ := shape_st52 h
    obtain ⟨k, rfl⟩ := shape_num h0
    obtain ⟨i, rfl⟩ := shape_num h1
    obtain ⟨s, rfl⟩ := shape_num h2
    obtain ⟨t, rfl⟩ := shape_text h3
    obtain ⟨es, rfl, m1, hm1, he⟩ := shape_sl49 h4
    obtain ⟨fs, rfl, m2, hm2, hf⟩ := shape_sl50 h5
    obtain ⟨l, rfl⟩ := list_of Val.cells fun c hc => ih m1 (by omega) c (he c hc)
    obtain ⟨f, rfl⟩ := list_of (fun p : ByteArray × Val => strX p.1 :: p.2.cells) (es := fs) fun c hc => by
      obtain ⟨m3, hm3, y0, y1, rfl, g0, g1⟩ := shape_st111 (hf c hc)
      obtain ⟨nm, rfl⟩ := shape_text g0
      obtain ⟨v, rfl⟩ := ih m3 (by omega) y1 g1
      exact ⟨(nm, v), by simp⟩
    exact ⟨.mk k i s t l f, by rw [Val.cells, cellsL_eq, cellsF_eq]; rfl⟩
theorem shape_vals (h : Shape Tryz.prog n 49 xs) : ∃ l : List Val, xs = [.sl false 6 (cellsL l)] := by
  obtain ⟨es, rfl, m, _, he⟩ := shape_sl49 h
  obtain ⟨l, rfl⟩ := list_of Val.cells fun c hc => shape_val m c (he c hc)
  exact ⟨l, by rw [cellsL_eq]⟩
theorem shape_isVals {es : List (List X)} {m : Nat} (h : ∀ c, c ∈ es → Shape Tryz.prog m 52 c) : ∀ c, c ∈ es → isVal c := fun c hc => shape_val m c (h c hc)
theorem shape_ints (h : Shape Tryz.prog n 43 xs) : ∃ l : List Int, xs = [.sl false 1 (intsC l)] := by
  obtain ⟨es, rfl, m, _, he⟩ := shape_sl43 h
  obtain ⟨l, rfl⟩ := list_of (fun z : Int => [num z]) fun c hc => shape_num (he c hc)
  exact ⟨l, rfl⟩
theorem shape_stp (h : Shape Tryz.prog n 48 xs) : ∃ s : Stp, xs = s.cells := by
  obtain ⟨m, hm, x0, x1, rfl, h0, h1⟩ := shape_st48 h
  obtain ⟨e, rfl⟩ := shape_num h0
  obtain ⟨p, rfl⟩ := shape_ints h1
  exact ⟨⟨e, p⟩, rfl⟩
theorem shape_msg (h : Shape Tryz.prog n 54 xs) : ∃ s : Msg, xs = s.cells := by
  obtain ⟨m, hm, x0, x1, x2, x3, rfl, h0, h1, h2, h3⟩ := shape_st54 h
  obtain ⟨s, rfl⟩ := shape_stp h0
  obtain ⟨k, rfl⟩ := shape_num h1
  obtain ⟨p, rfl⟩ := shape_ints h2
  obtain ⟨v, rfl⟩ := shape_val _ _ h3
  exact ⟨⟨s, k, p, v⟩, by simp [Msg.cells, Stp.cells]⟩
theorem shape_msgs (h : Shape Tryz.prog n 29 xs) : ∃ l : List Msg, xs = [.sl false 10 (msgsC l)] := by
  obtain ⟨es, rfl, m, _, he⟩ := shape_sl29 h
  obtain ⟨l, rfl⟩ := list_of Msg.cells fun c hc => shape_msg (he c hc)
  exact ⟨l, rfl⟩
theorem shape_slt (h : Shape Tryz.prog n 100 xs) : ∃ s : Slt, xs = s.cells := by
  obtain ⟨m, hm, x0, x1, x2, x3, x4, rfl, h0, h1, h2, h3, h4⟩ := shape_st100 h
  obtain ⟨⟨k, i, s, t, l, f⟩, rfl⟩ := shape_val _ _ h0
  obtain ⟨a, rfl⟩ := shape_num h1
  obtain ⟨b, rfl⟩ := shape_num h2
  obtain ⟨ms, rfl⟩ := shape_msgs h3
  obtain ⟨vs, rfl⟩ := shape_vals h4
  exact ⟨⟨.mk k i s t l f, a, b, ms, vs⟩, rfl⟩
theorem shape_stt (h : Shape Tryz.prog n 25 xs) : ∃ s : Stt, xs = s.cells := by
  obtain ⟨m, hm, x0, x1, x2, rfl, h0, h1, h2⟩ := shape_st25 h
  obtain ⟨a, rfl⟩ := shape_num h0
  obtain ⟨b, rfl⟩ := shape_num h1
  obtain ⟨es, rfl, m', _, he⟩ := shape_sl23 h2
  obtain ⟨l, rfl⟩ := list_of Slt.cells fun c hc => shape_slt (he c hc)
  exact ⟨⟨a, b, l⟩, rfl⟩
theorem shape_inp (h : Shape Tryz.prog n 56 xs) : ∃ i : Inp, xs = i.cells := by
  obtain ⟨m, hm, x0, x1, x2, x3, x4, x5, x6, x7, rfl, h0, h1, h2, h3, h4, h5, h6, h7⟩ := shape_st56 h
  obtain ⟨a, rfl⟩ := shape_num h0
  obtain ⟨b, rfl⟩ := shape_num h1
  obtain ⟨s, rfl⟩ := shape_stp h2
  obtain ⟨g, rfl⟩ := shape_msg h3
  obtain ⟨x, rfl⟩ := shape_num h4
  obtain ⟨b1, rfl⟩ := shape_flag h5
  obtain ⟨b2, rfl⟩ := shape_flag h6
  obtain ⟨v, rfl⟩ := shape_val _ _ h7
  exact ⟨⟨a, b, s, g, x, b1, b2, v⟩, by simp [Inp.cells, Msg.cells, Stp.cells]⟩
theorem shape_exp : ∀ (k : Nat) {n : Nat} {xs : List X}, Shape Tryz.prog n 108 xs → isExp k xs
  | 0, n, xs, h => by
    obtain ⟨m, hm, x0, x1, x2, x3, x4, rfl, h0, h1, h2, h3, h4⟩ := shape_st108 h
    obtain ⟨o, rfl⟩ := shape_num h0
    obtain ⟨i, rfl⟩ := shape_num h1
    obtain ⟨t, rfl⟩ := shape_text h2
    obtain ⟨vs, rfl, m1, _, hv⟩ := shape_sl49 h3
    obtain ⟨es, rfl, m2, _, he⟩ := shape_sl38 h4
    exact ⟨o, i, t, vs, es, rfl, shape_isVals hv⟩
  | k + 1, n, xs, h => by
    obtain ⟨m, hm, x0, x1, x2, x3, x4, rfl, h0, h1, h2, h3, h4⟩ := shape_st108 h
    obtain ⟨o, rfl⟩ := shape_num h0
    obtain ⟨i, rfl⟩ := shape_num h1
    obtain ⟨t, rfl⟩ := shape_text h2
    obtain ⟨vs, rfl, m1, _, hv⟩ := shape_sl49 h3
    obtain ⟨es, rfl, m2, _, he⟩ := shape_sl38 h4
    exact ⟨o, i, t, vs, es, rfl, shape_isVals hv, fun x hx => shape_exp k (he x hx)⟩
theorem shape_typ : ∀ (k : Nat) {n : Nat} {xs : List X}, Shape Tryz.prog n 37 xs → isTyp k xs
  | 0, n, xs, h => by
    obtain ⟨m, hm, x0, x1, x2, x3, x4, x5, x6, rfl, h0, h1, h2, h3, h4, h5, h6⟩ := shape_st37 h
    obtain ⟨a, rfl⟩ := shape_num h0
    obtain ⟨b, rfl⟩ := shape_num h1
    obtain ⟨c, rfl⟩ := shape_num h2
    obtain ⟨d, rfl⟩ := shape_num h3
    obtain ⟨w, rfl, m1, _, hw⟩ := shape_sl33 h4
    obtain ⟨e, rfl, m2, _, he⟩ := shape_sl34 h5
    obtain ⟨f, rfl, m3, _, hf⟩ := shape_sl35 h6
    exact ⟨a, b, c, d, w, e, f, rfl, fun x hx => shape_text (hw x hx)⟩
  | k + 1, n, xs, h => by
    obtain ⟨m, hm, x0, x1, x2, x3, x4, x5, x6, rfl, h0, h1, h2, h3, h4, h5, h6⟩ := shape_st37 h
    obtain ⟨a, rfl⟩ := shape_num h0
    obtain ⟨b, rfl⟩ := shape_num h1
    obtain ⟨c, rfl⟩ := shape_num h2
    obtain ⟨d, rfl⟩ := shape_num h3
    obtain ⟨w, rfl, m1, _, hw⟩ := shape_sl33 h4
    obtain ⟨e, rfl, m2, _, he⟩ := shape_sl34 h5
    obtain ⟨f, rfl, m3, _, hf⟩ := shape_sl35 h6
    refine ⟨a, b, c, d, w, e, f, rfl, fun x hx => shape_text (hw x hx), fun x hx => shape_typ k (he x hx), fun x hx => ?_⟩
    obtain ⟨m4, _, y0, y1, y2, T, y4, rfl, g0, g1, g2, g3, g4⟩ := shape_st137 (hf x hx)
    obtain ⟨p, rfl⟩ := shape_num g0
    obtain ⟨t, rfl⟩ := shape_text g1
    obtain ⟨y, rfl⟩ := shape_num g2
    obtain ⟨de, rfl, m5, _, hd⟩ := shape_sl49 g4
    exact ⟨p, t, y, T, de, by simp, shape_typ k g3, shape_isVals hd⟩
theorem shape_rule (h : Shape Tryz.prog n 114 xs) : isRule xs := by
  obtain ⟨m, hm, x0, x1, rfl, h0, h1⟩ := shape_st114 h
  obtain ⟨t, rfl⟩ := shape_text h0
  exact ⟨t, x1, by simp, shape_exp 3 h1⟩
theorem shape_rules (h : Shape Tryz.prog n 41 xs) : ∃ es, xs = [.sl false 6 es] ∧ ∀ x, x ∈ es → isRule x := by
  obtain ⟨m, hm, x0, rfl, h0⟩ := shape_st41 h
  obtain ⟨es, rfl, m1, _, he⟩ := shape_sl39 h0
  exact ⟨es, rfl, fun x hx => shape_rule (he x hx)⟩
theorem shape_call (h : Shape Tryz.prog n 117 xs) : isCall xs := by
  obtain ⟨m, hm, x0, x1, rfl, h0, h1⟩ := shape_st117 h
  obtain ⟨t, rfl⟩ := shape_text h0
  obtain ⟨es, rfl, he⟩ := shape_rules h1
  exact ⟨t, es, rfl, he⟩
theorem shape_node (h : Shape Tryz.prog n 45 xs) : isNode xs := by
  obtain ⟨m, hm, x0, x1, x2, x3, x4, x5, x6, x7, T, x9, x10, x11, x12, x13, rfl, h0, h1, h2, h3, h4, h5, h6, h7, h8, h9, h10, h11, h12, h13⟩ := shape_st45 h
  obtain ⟨name, rfl⟩ := shape_text h0
  obtain ⟨k1, rfl⟩ := shape_num h1
  obtain ⟨k2, rfl⟩ := shape_num h2
  obtain ⟨k3, rfl⟩ := shape_num h3
  obtain ⟨k4, rfl⟩ := shape_num h4
  obtain ⟨k5, rfl⟩ := shape_num h5
  obtain ⟨k6, rfl⟩ := shape_num h6
  obtain ⟨text, rfl⟩ := shape_text h7
  obtain ⟨ty, rfl, _, _, hty⟩ := shape_sl34 h9
  obtain ⟨ex, rfl, _, _, hex⟩ := shape_sl38 h10
  obtain ⟨ru, rfl, hru⟩ := shape_rules h11
  obtain ⟨ca, rfl, _, _, hca⟩ := shape_sl42 h12
  obtain ⟨ne, rfl, _, _, hne⟩ := shape_sl43 h13
  exact ⟨name, k1, k2, k3, k4, k5, k6, text, T, ty, ex, ru, ca, ne, by simp, shape_typ 3 h8, fun x hx => shape_typ 3 (hty x hx), fun x hx => shape_exp 3 (hex x hx), hru, fun x hx => shape_call (hca x hx)⟩
end Go.Proofs.YthfchdkjeddijaaGreatDoor

/- A message's fate, and its environment. -/
namespace Go.Proofs.YthfchdkjeddijaaGreatDoor
open Go.Em
set_option maxRecDepth 100000

theorem fate_pure (m : Msg) (hm : m.ok) (name r : ByteArray) (N : Nat) (hN : 300 ≤ N) : Gam.pureD (callF tab ext N) 145 [.agg m.cells, strX name, num 4, .sl false 1 [[.fn 146 [.dp [strX r]]]]] = some (.agg (Fte.mk m.st 4 name [] r).cells) := by
  obtain ⟨M, rfl⟩ : ∃ M, N = M + 101 := ⟨N - 101, by omega⟩
  have h1 := clone_stamp (M + 98) m.st hm.st
  obtain ⟨⟨e, p⟩, ms, o, ⟨a1, a2, a3, a4, a5, a6⟩⟩ := m
  exact pure_of [(14, .p (.agg (Stp.mk e p).cells))] [] (pf1 h1) (x := .agg [num e, .sl false 1 (intsC p), num 4, strX name, .sl true 2 [], strX r]) (bx := []) (by kernel_rfl) rfl
/-- message.Rejected. -/
theorem rejected_pure (m : Msg) (hm : m.ok) (name r : ByteArray) (N : Nat) (hN : 310 ≤ N) : Gam.pureD (callF tab ext N) 82 [.agg m.cells, strX name, strX r] = some (.agg (Fte.mk m.st 4 name [] r).cells) := by
  obtain ⟨M, rfl⟩ : ∃ M, N = M + 1 := ⟨N - 1, by omega⟩
  have h1 := fate_pure m hm name r M (by omega)
  obtain ⟨⟨e, p⟩, ms, o, ⟨a1, a2, a3, a4, a5, a6⟩⟩ := m
  exact pure_of [(11, .p (.agg (Fte.mk ⟨e, p⟩ 4 name [] r).cells))] [] (pf1 h1) (x := .agg (Fte.mk ⟨e, p⟩ 4 name [] r).cells) (bx := []) (by kernel_rfl) rfl
/-- A record of one field, which is left out if it is Null. -/
def rec1 (nm : ByteArray) (b : Val) : Val := .mk 9 0 0 ⟨#[]⟩ [] (if nullV b then [] else [(nm, b)])
theorem rec1_size (nm : ByteArray) (b : Val) : (rec1 nm b).size ≤ b.size + 2 := by
  unfold rec1
  split
  · simp [Val.size, sizeL, sizeF]
  · simp [Val.size, sizeL, sizeF]
theorem rec1_pure (nm : ByteArray) (b : Val) (hb : b.size < 100000) (N : Nat) (hN : 200400 ≤ N) : Gam.pureD (callF tab ext N) 48 [.sl false 7 [strX nm :: b.cells]] = some (.agg (rec1 nm b).cells) := by
  obtain ⟨M, rfl⟩ : ∃ M, N = M + 301 := ⟨N - 301, by omega⟩
  have hs := rec1_size nm b
  have h1 := clone_val (M + 300) (rec1 nm b) (by omega) (by omega)
  have h2 := null_val (M + 299) b
  unfold rec1 at h1 ⊢
  obtain ⟨k, i, s, t, l, f⟩ := b
  cases h : nullV (.mk k i s t l f) with
  | true =>
    rw [h] at h1 h2
    exact pure_of [(23, .p (boolX true)), (40, .p (.agg (Val.mk 9 0 0 ⟨#[]⟩ [] []).cells))] [] (pf3 h2 (Nat.le_refl 0) h1) (x := .agg (Val.mk 9 0 0 ⟨#[]⟩ [] []).cells) (bx := []) (by kernel_rfl) rfl
  | false =>
    rw [h] at h1 h2
    exact pure_of [(23, .p (boolX false)), (40, .p (.agg (Val.mk 9 0 0 ⟨#[]⟩ [] [(nm, .mk k i s t l f)]).cells))] [] (pf3 h2 (Nat.le_refl 1) h1) (x := .agg (Val.mk 9 0 0 ⟨#[]⟩ [] [(nm, .mk k i s t l f)]).cells) (bx := []) (by kernel_rfl) rfl
def envV (b : Val) : Val := rec1 ⟨#[98, 111, 100, 121]⟩ b
/-- message.Env. -/
theorem env_pure (b : Val) (hb : b.ok) (N : Nat) (hN : 200410 ≤ N) : Gam.pureD (callF tab ext N) 92 [.agg b.cells] = some (.agg (envV b).cells) := by
  obtain ⟨M, rfl⟩ : ∃ M, N = M + 1 := ⟨N - 1, by omega⟩
  have h1 := clone_val M b (by unfold Val.ok at hb; omega) (by unfold Val.ok at hb; omega)
  have h2 := rec1_pure ⟨#[98, 111, 100, 121]⟩ b (by unfold Val.ok at hb; omega) M (by omega)
  unfold envV
  generalize rec1 ⟨#[98, 111, 100, 121]⟩ b = r at h2 ⊢
  obtain ⟨k, i, s, t, l, f⟩ := b
  obtain ⟨k', i', s', t', l', f'⟩ := r
  exact pure_of [(4, .p (.agg (Val.mk k i s t l f).cells)), (7, .p (.agg (Val.mk k' i' s' t' l' f').cells))] [] (pf2 h1 h2) (x := .agg (Val.mk k' i' s' t' l' f').cells) (bx := []) (by kernel_rfl) rfl
end Go.Proofs.YthfchdkjeddijaaGreatDoor

/- Copies of a value, a message with another body, a stamp with one more number. -/
namespace Go.Proofs.YthfchdkjeddijaaGreatDoor
open Go.Em
set_option maxRecDepth 100000
theorem rep_pure0 (N : Nat) (v : Val) (n : Nat) (h1 : 1 ≤ n) (h2 : n ≤ 16) : Gam.pureD (callF tab ext (N + 500)) 205 [.agg v.cells, nat n] = some (.sl false 6 (List.replicate n v.cells)) := by
  obtain ⟨k, i, s, t, l, f⟩ := v
  have h : n = 1 ∨ n = 2 ∨ n = 3 ∨ n = 4 ∨ n = 5 ∨ n = 6 ∨ n = 7 ∨ n = 8 ∨ n = 9 ∨ n = 10 ∨ n = 11 ∨ n = 12 ∨ n = 13 ∨ n = 14 ∨ n = 15 ∨ n = 16 := by omega
  rcases h with rfl | rfl | rfl | rfl | rfl | rfl | rfl | rfl | rfl | rfl | rfl | rfl | rfl | rfl | rfl | rfl
  all_goals (show _ = _; kernel_rfl)
theorem rep_pure1 (N : Nat) (v : Val) (n : Nat) (h1 : 17 ≤ n) (h2 : n ≤ 32) : Gam.pureD (callF tab ext (N + 500)) 205 [.agg v.cells, nat n] = some (.sl false 6 (List.replicate n v.cells)) := by
  obtain ⟨k, i, s, t, l, f⟩ := v
  have h : n = 17 ∨ n = 18 ∨ n = 19 ∨ n = 20 ∨ n = 21 ∨ n = 22 ∨ n = 23 ∨ n = 24 ∨ n = 25 ∨ n = 26 ∨ n = 27 ∨ n = 28 ∨ n = 29 ∨ n = 30 ∨ n = 31 ∨ n = 32 := by omega
  rcases h with rfl | rfl | rfl | rfl | rfl | rfl | rfl | rfl | rfl | rfl | rfl | rfl | rfl | rfl | rfl | rfl
  all_goals (show _ = _; kernel_rfl)
theorem rep_pure2 (N : Nat) (v : Val) (n : Nat) (h1 : 33 ≤ n) (h2 : n ≤ 48) : Gam.pureD (callF tab ext (N + 500)) 205 [.agg v.cells, nat n] = some (.sl false 6 (List.replicate n v.cells)) := by
  obtain ⟨k, i, s, t, l, f⟩ := v
  have h : n = 33 ∨ n = 34 ∨ n = 35 ∨ n = 36 ∨ n = 37 ∨ n = 38 ∨ n = 39 ∨ n = 40 ∨ n = 41 ∨ n = 42 ∨ n = 43 ∨ n = 44 ∨ n = 45 ∨ n = 46 ∨ n = 47 ∨ n = 48 := by omega
  rcases h with rfl | rfl | rfl | rfl | rfl | rfl | rfl | rfl | rfl | rfl | rfl | rfl | rfl | rfl | rfl | rfl
  all_goals (show _ = _; kernel_rfl)
theorem rep_pure3 (N : Nat) (v : Val) (n : Nat) (h1 : 49 ≤ n) (h2 : n ≤ 64) : Gam.pureD (callF tab ext (N + 500)) 205 [.agg v.cells, nat n] = some (.sl false 6 (List.replicate n v.cells)) := by
  obtain ⟨k, i, s, t, l, f⟩ := v
  have h : n = 49 ∨ n = 50 ∨ n = 51 ∨ n = 52 ∨ n = 53 ∨ n = 54 ∨ n = 55 ∨ n = 56 ∨ n = 57 ∨ n = 58 ∨ n = 59 ∨ n = 60 ∨ n = 61 ∨ n = 62 ∨ n = 63 ∨ n = 64 := by omega
  rcases h with rfl | rfl | rfl | rfl | rfl | rfl | rfl | rfl | rfl | rfl | rfl | rfl | rfl | rfl | rfl | rfl
  all_goals (show _ = _; kernel_rfl)
/-- repeated. -/
theorem rep_pure (v : Val) (n : Nat) (h1 : 1 ≤ n) (h2 : n ≤ 64) (N : Nat) (hN : 500 ≤ N) : Gam.pureD (callF tab ext N) 205 [.agg v.cells, nat n] = some (.sl false 6 (List.replicate n v.cells)) := by
  obtain ⟨M, rfl⟩ : ∃ M, N = M + 500 := ⟨N - 500, by omega⟩
  rcases Nat.lt_or_ge n 17 with h | h
  · exact rep_pure0 M v n h1 (by omega)
  rcases Nat.lt_or_ge n 33 with h' | h'
  · exact rep_pure1 M v n h (by omega)
  rcases Nat.lt_or_ge n 49 with h'' | h''
  · exact rep_pure2 M v n h' (by omega)
  · exact rep_pure3 M v n h'' h2
/-- message.With. -/
theorem with_pure (m : Msg) (hm : m.ok) (v : Val) (hv : v.ok) (N : Nat) (hN : 190010 ≤ N) : Gam.pureD (callF tab ext N) 201 [.agg m.cells, .agg v.cells] = some (.agg ({ m with body := v } : Msg).cells) := by
  obtain ⟨M, rfl⟩ : ∃ M, N = M + 1 := ⟨N - 1, by omega⟩
  have h1 := clone_msg M m hm (by omega)
  have h2 := clone_val M v (by unfold Val.ok at hv; omega) (by unfold Val.ok at hv; omega)
  obtain ⟨⟨e, p⟩, ms, o, ⟨a1, a2, a3, a4, a5, a6⟩⟩ := m
  obtain ⟨k, i, s, t, l, f⟩ := v
  exact pure_of [(6, .p (.agg (Msg.mk ⟨e, p⟩ ms o (.mk a1 a2 a3 a4 a5 a6)).cells)), (8, .p (.agg (Val.mk k i s t l f).cells))] [] (pf2 h1 h2) (x := .agg (Msg.mk ⟨e, p⟩ ms o (.mk k i s t l f)).cells) (bx := []) (by kernel_rfl) rfl
theorem intsC_snoc (p : List Int) (k : Int) : intsC p ++ [[num k]] = intsC (p ++ [k]) := by
  induction p with
  | nil => rfl
  | cons a r ih => exact congrArg (([num a]) :: ·) ih
theorem under_l (M : Nat) (e k : Int) (l : List (List X)) (n : Nat) (h1 : callF tab ext (M + 1) (.fn 90) [.sl false 1 l] [] = some (.bs 0 0 n, [.row 1 l])) (hn : n = l.length) (hb : n < 1000000) : Gam.pureD (callF tab ext (M + 2)) 202 [.agg [num e, .sl false 1 l], num k] = some (X.agg [num e, .sl false 1 (l ++ [[num k]])]) := by
  refine pure_of [(9, .o (.bs 0 0 n) [.row 1 l]), (12, .app)] [] (pf2 h1 (app_ok n 0 8 hn hb (by omega))) (x := .agg [num e, .bs 0 0 (n + 1)]) (bx := [.row 1 (l ++ [[num k]])]) (by kernel_rfl) ?_
  have h2 : rowOf [.row 1 (l ++ [[num k]])] 0 0 (n + 1) = some (1, l ++ [[num k]]) := rowOf_all rfl (by rw [List.length_append]; simp [hn])
  unfold num at h2 ⊢
  simp [X.data, dataL, h2]
/-- message.Under. -/
theorem under_pure (s : Stp) (hs : s.ok) (k : Int) (N : Nat) (hN : 10 ≤ N) : Gam.pureD (callF tab ext N) 202 [.agg s.cells, num k] = some (.agg (Stp.mk s.e (s.p ++ [k])).cells) := by
  obtain ⟨M, rfl⟩ : ∃ M, N = M + 2 := ⟨N - 2, by omega⟩
  have h := under_l M s.e k (intsC s.p) s.p.length (clone_row M s.p hs.p) (intsC_length s.p).symm (by have := hs.p; omega)
  rw [intsC_snoc] at h
  exact h
end Go.Proofs.YthfchdkjeddijaaGreatDoor

/- message.Parts: the parts of a message, for any list of bodies. -/
namespace Go.Proofs.YthfchdkjeddijaaGreatDoor
open Go.Em
set_option maxRecDepth 100000

/-- The ranges over functions in a code: what assigns, and the body. -/
def rlsOf : C → List (C × C)
  | .seq a b | .cond _ a b => rlsOf a ++ rlsOf b
  | .block _ b | .loop b => rlsOf b
  | .rf _ _ _ a b => (a, b) :: (rlsOf a ++ rlsOf b)
  | _ => []
noncomputable def paA : C := ((rlsOf (bodyOf tab 133)).getD 0 (.skip, .skip)).1
noncomputable def paB : C := ((rlsOf (bodyOf tab 133)).getD 0 (.skip, .skip)).2
noncomputable def paRec : Bx := .loop .ready none [(2, .ptr 1 0 0), (3, .ptr 2 0 0), (5, .ptr 3 0 0)] [14, 15] paA paB
def shareM (ms : Int) (n j : Nat) : Int := if Int.ofNat j < ms.tmod (Int.ofNat n) then IntKind.i64.wrap (IntKind.i64.wrap (ms.tdiv (Int.ofNat n)) + 1) else IntKind.i64.wrap (ms.tdiv (Int.ofNat n))
def partM (m : Msg) (b : Val) (n j : Nat) : Msg := ⟨⟨m.st.e, m.st.p ++ [Int.ofNat j]⟩, shareM m.mass n j, m.orig, b⟩
def dVal : Val := .mk 0 0 0 ⟨#[]⟩ [] []
def partsM (m : Msg) (bs : List Val) (k : Nat) : List Msg := (List.range k).map fun j => partM m (bs.getD j dVal) bs.length j
theorem partsM_length (m : Msg) (bs : List Val) (k : Nat) : (msgsC (partsM m bs k)).length = k := by simp [partsM, msgsC]
theorem partsM_succ (m : Msg) (bs : List Val) (k : Nat) : msgsC (partsM m bs (k + 1)) = msgsC (partsM m bs k) ++ [(partM m (bs.getD k dVal) bs.length k).cells] := by simp [partsM, msgsC, List.range_succ]
theorem shares_pure (N : Nat) (a b : Int) : Gam.pureD (callF tab ext (N + 2)) 200 [num a, num b] = some (.fn 261 [.dp [num b], .dp [num a]]) := by kernel_rfl

section
variable (mc : List X) (vs : List (List X)) (j : Nat) (outs : List (List X))
noncomputable def paS : List Bx := [paRec, .var mc, .var [.sl false 6 vs], .var [.bs 4 0 j], .row 10 outs]
noncomputable def paI : List Bx := [paRec, .var mc, .var [.sl false 6 vs], .var [.bs 5 0 j], .dead, .row 10 outs]
noncomputable def paO : List Bx := [paRec, .var mc, .var [.sl false 6 vs], .var [.bs 6 0 j], .dead, .dead, .row 10 outs]
end

theorem pa_yield (N : Nat) (hN : 190010 ≤ N) (m : Msg) (hm : m.ok) (b : Val) (hb : b.ok) (vs outs : List (List X)) (sh : Int) (j : Nat) (hv : vs[j]? = some b.cells) (hj : j < 4000) (ho : j = outs.length) :
    callF tab ext (N + 1) .yl [.yl 0, nat j, num sh] (paS m.cells vs j outs) = some (.v (.bool true), paI m.cells vs (j + 1) (outs ++ [(Msg.mk ⟨m.st.e, m.st.p ++ [Int.ofNat j]⟩ sh m.orig b).cells])) := by
  have h1 := with_pure m hm b hb N hN
  have h2 := under_pure m.st hm.st (Int.ofNat j) N (by omega)
  obtain ⟨⟨e, p⟩, ms, o, ⟨a1, a2, a3, a4, a5, a6⟩⟩ := m
  obtain ⟨b1, b2, b3, b4, b5, b6⟩ := b
  dsimp only at h2 ⊢
  generalize p ++ [Int.ofNat j] = sp at h2 ⊢
  exact yield_of [(19, .e (Val.mk b1 b2 b3 b4 b5 b6).cells), (21, .p (.agg (Msg.mk ⟨e, p⟩ ms o (.mk b1 b2 b3 b4 b5 b6)).cells)), (25, .p (.agg (Stp.mk e sp).cells)), (32, .app)]
    (pf4 hv h1 h2 (app_ok j 4 152 ho (by omega) (by omega))) (by kernel_rfl)
def shTm (n : Nat) (ms : Int) (j : Nat) : List (Nat × X) := [(0, .yl 0), (1, .dp [nat n]), (2, .dp [num ms]), (6, nat n), (7, nat j)]
def mX (e : Int) (p : List (List X)) (ms : Int) (o : List (List X)) (a1 a2 a3 : Int) (a4 : ByteArray) (a5 a6 : List (List X)) : List X := [num e, .sl false 1 p, num ms, .sl false 1 o, num a1, num a2, num a3, strX a4, .sl false 6 a5, .sl false 7 a6]
section
variable (e : Int) (p : List (List X)) (q : Int) (o : List (List X)) (a1 a2 a3 : Int) (a4 : ByteArray) (a5 a6 : List (List X)) (vs : List (List X)) (n k : Nat) (ms : Int) (j : Nat) (outs : List (List X))
noncomputable def sh0 : St := ⟨shTm n ms 0, paS (mX e p q o a1 a2 a3 a4 a5 a6) vs 0 []⟩
noncomputable def shH : St := ⟨shTm n ms j, paI (mX e p q o a1 a2 a3 a4 a5 a6) vs j outs⟩
noncomputable def shH' : St := ⟨shTm n ms j, paO (mX e p q o a1 a2 a3 a4 a5 a6) vs j outs⟩
theorem sh_canon0 : canon 5 (sh0 e p q o a1 a2 a3 a4 a5 a6 vs n ms) = some (sh0 e p q o a1 a2 a3 a4 a5 a6 vs n ms) := by kernel_rfl
theorem sh_canon : canon 5 (shH e p q o a1 a2 a3 a4 a5 a6 vs n ms j outs) = some (shH e p q o a1 a2 a3 a4 a5 a6 vs n ms j outs) := by kernel_rfl
theorem sh_canon' : canon 5 (shH' e p q o a1 a2 a3 a4 a5 a6 vs n ms j outs) = some (shH e p q o a1 a2 a3 a4 a5 a6 vs n ms j outs) := by kernel_rfl
theorem sh_stepX (N : Nat) (x : List X) (hk : j < k + 1) (hj : j < 4000) (hy : callF tab ext N .yl [.yl 0, nat j, num (shareM ms (k + 1) j)] (paS (mX e p q o a1 a2 a3 a4 a5 a6) vs j outs) = some (.v (.bool true), paI (mX e p q o a1 a2 a3 a4 a5 a6) vs (j + 1) (outs ++ [x]))) :
    run (callF tab ext N) 5 N (loopAt 261 0) (shH e p q o a1 a2 a3 a4 a5 a6 vs (k + 1) ms j outs) = some (.norm, shH' e p q o a1 a2 a3 a4 a5 a6 vs (k + 1) ms (j + 1) (outs ++ [x])) := by
  unfold shareM at hy
  generalize outs ++ [x] = o1 at hy ⊢
  cases h : decide (Int.ofNat j < ms.tmod (Int.ofNat (k + 1))) with
  | true =>
    rw [if_pos (of_decide_eq_true h)] at hy
    exact run_of [(8, .b true), (17, .b true), (23, .r (.v (.bool true)) (paI (mX e p q o a1 a2 a3 a4 a5 a6) vs (j + 1) o1)), (25, .i (Int.ofNat (j + 1)))] [] (pf4 (lt_nat hk) h hy (next_nat (j := j) (by omega))) (lo' := []) (by kernel_rfl)
  | false =>
    rw [if_neg (of_decide_eq_false h)] at hy
    exact run_of [(8, .b true), (17, .b false), (23, .r (.v (.bool true)) (paI (mX e p q o a1 a2 a3 a4 a5 a6) vs (j + 1) o1)), (25, .i (Int.ofNat (j + 1)))] [] (pf4 (lt_nat hk) h hy (next_nat (j := j) (by omega))) (lo' := []) (by kernel_rfl)
theorem sh_stepX0 (N : Nat) (x : List X) (hy : callF tab ext N .yl [.yl 0, nat 0, num (shareM ms (k + 1) 0)] (paS (mX e p q o a1 a2 a3 a4 a5 a6) vs 0 []) = some (.v (.bool true), paI (mX e p q o a1 a2 a3 a4 a5 a6) vs 1 [x])) :
    run (callF tab ext N) 5 N (loopAt 261 0) (sh0 e p q o a1 a2 a3 a4 a5 a6 vs (k + 1) ms) = some (.norm, shH e p q o a1 a2 a3 a4 a5 a6 vs (k + 1) ms 1 [x]) := by
  unfold shareM at hy
  cases h : decide (Int.ofNat 0 < ms.tmod (Int.ofNat (k + 1))) with
  | true =>
    rw [if_pos (of_decide_eq_true h)] at hy
    exact run_of [(8, .b true), (17, .b true), (23, .r (.v (.bool true)) (paI (mX e p q o a1 a2 a3 a4 a5 a6) vs 1 [x])), (25, .i (Int.ofNat 1))] [] (pf4 (lt_nat (j := 0) (k := k + 1) (by omega)) h hy (next_nat (j := 0) (by omega))) (lo' := []) (by kernel_rfl)
  | false =>
    rw [if_neg (of_decide_eq_false h)] at hy
    exact run_of [(8, .b true), (17, .b false), (23, .r (.v (.bool true)) (paI (mX e p q o a1 a2 a3 a4 a5 a6) vs 1 [x])), (25, .i (Int.ofNat 1))] [] (pf4 (lt_nat (j := 0) (k := k + 1) (by omega)) h hy (next_nat (j := 0) (by omega))) (lo' := []) (by kernel_rfl)
theorem sh_end (N : Nat) : run (callF tab ext N) 5 N (loopAt 261 0) (shH e p q o a1 a2 a3 a4 a5 a6 vs (k + 1) ms (k + 1) outs) = some (.exit 0, ⟨shTm (k + 1) ms (k + 1) ++ [(8, .v (.bool false))], paI (mX e p q o a1 a2 a3 a4 a5 a6) vs (k + 1) outs⟩) :=
  run_of [(8, .b false)] [] (pf1 (nlt_nat (j := k + 1) (k := k + 1) (by omega))) (lo' := []) (by kernel_rfl)
end
theorem cells_mX (m : Msg) : ∃ a1 a2 a3 a4 a5 a6, m.cells = mX m.st.e (intsC m.st.p) m.mass (intsC m.orig) a1 a2 a3 a4 a5 a6 := by
  obtain ⟨⟨e, p⟩, ms, o, ⟨a1, a2, a3, a4, a5, a6⟩⟩ := m
  exact ⟨a1, a2, a3, a4, cellsL a5, cellsF a6, rfl⟩
theorem vals_getD {bs : List Val} {j : Nat} (h : j < bs.length) : (cellsL bs)[j]? = some (bs.getD j dVal).cells := by rw [cellsL_get h]; simp [List.getD, h]
theorem vgetD_mem {bs : List Val} {j : Nat} (h : j < bs.length) : bs.getD j dVal ∈ bs := by simp [List.getD, h]
/-- What the iterator yields. -/
theorem pa_yields (N : Nat) (hN : 190020 ≤ N) (m : Msg) (hm : m.ok) (bs : List Val) (hb : ∀ b, b ∈ bs → b.ok) (k : Nat) (hk : bs.length = k + 1) (hk2 : k < 3000) :
    callF tab ext (N + 1) (.fn 261) [.yl 0, .dp [nat (k + 1)], .dp [num m.mass]] (paS m.cells (cellsL bs) 0 []) = some (.tup [], paI m.cells (cellsL bs) (k + 1) (msgsC (partsM m bs (k + 1)))) := by
  obtain ⟨M, rfl⟩ : ∃ M, N = M + 1 := ⟨N - 1, by omega⟩
  have hy : ∀ j, j < k + 1 → callF tab ext (M + 1) .yl [.yl 0, nat j, num (shareM m.mass (k + 1) j)] (paS m.cells (cellsL bs) j (msgsC (partsM m bs j))) = some (.v (.bool true), paI m.cells (cellsL bs) (j + 1) (msgsC (partsM m bs (j + 1)))) := by
    intro j hj
    have h := pa_yield M (by omega) m hm (bs.getD j dVal) (hb _ (vgetD_mem (by omega))) (cellsL bs) (msgsC (partsM m bs j)) (shareM m.mass (k + 1) j) j (vals_getD (by omega)) (by omega) (partsM_length _ _ _).symm
    rw [partsM_succ, hk]
    exact h
  have h0 : msgsC (partsM m bs 0) = [] := rfl
  obtain ⟨a1, a2, a3, a4, a5, a6, hc⟩ := cells_mX m
  rw [hc] at hy ⊢
  have hs : ∀ j, msgsC (partsM m bs (j + 1)) = msgsC (partsM m bs j) ++ [(partM m (bs.getD j dVal) bs.length j).cells] := partsM_succ m bs
  generalize m.mass = ms at hy ⊢
  generalize m.st.e = e at hy ⊢
  generalize intsC m.st.p = p at hy ⊢
  generalize intsC m.orig = o at hy ⊢
  have hrun : run (callF tab ext (M + 1)) 5 (M + 1) (.loop (loopAt 261 0)) (sh0 e p ms o a1 a2 a3 a4 a5 a6 (cellsL bs) (k + 1) ms) = some (.exit 0, ⟨shTm (k + 1) ms (k + 1) ++ [(8, .v (.bool false))], paI (mX e p ms o a1 a2 a3 a4 a5 a6) (cellsL bs) (k + 1) (msgsC (partsM m bs (k + 1)))⟩) := by
    refine loop_for (σ := fun j => match j with
      | 0 => sh0 e p ms o a1 a2 a3 a4 a5 a6 (cellsL bs) (k + 1) ms
      | j + 1 => shH e p ms o a1 a2 a3 a4 a5 a6 (cellsL bs) (k + 1) ms (j + 1) (msgsC (partsM m bs (j + 1)))) (k := k + 1) (sh_canon0 ..) (fun j hj => ?_) (sh_end ..) (by simp) (by omega)
    match j with
    | 0 =>
      have h := hy 0 (by omega)
      rw [h0, hs 0, h0] at h
      refine ⟨_, sh_stepX0 (hy := h) .., ?_⟩
      show canon 5 _ = some (shH e p ms o a1 a2 a3 a4 a5 a6 (cellsL bs) (k + 1) ms (0 + 1) (msgsC (partsM m bs (0 + 1))))
      rw [hs 0, h0]
      exact sh_canon ..
    | j + 1 =>
      have h := hy (j + 1) hj
      rw [hs (j + 1)] at h
      refine ⟨_, sh_stepX (hk := hj) (hj := by omega) (hy := h) .., ?_⟩
      show canon 5 _ = some (shH e p ms o a1 a2 a3 a4 a5 a6 (cellsL bs) (k + 1) ms (j + 1 + 1) (msgsC (partsM m bs (j + 1 + 1))))
      rw [hs (j + 1)]
      exact sh_canon' ..
  generalize msgsC (partsM m bs (k + 1)) = o1 at hrun ⊢
  exact callF_of [] [(.exit 0, ⟨shTm (k + 1) ms (k + 1) ++ [(8, .v (.bool false))], paI (mX e p ms o a1 a2 a3 a4 a5 a6) (cellsL bs) (k + 1) o1⟩)] (pf1 hrun) (by kernel_rfl)

section
variable (e : Int) (p : List (List X)) (q : Int) (o : List (List X)) (a1 a2 a3 : Int) (a4 : ByteArray) (a5 a6 : List (List X)) (vs : List (List X)) (n : Nat) (ms : Int) (outs : List (List X))
noncomputable def paBx : Bx := .loop .ready none [(2, .ptr 0 0 0), (3, .ptr 1 0 0), (5, .ptr 2 0 0)] [14, 15] paA paB
def paTm : List (Nat × X) := [(2, .ptr 0 0 0), (3, .ptr 1 0 0), (5, .ptr 2 0 0), (13, .fn 261 [.dp [nat n], .dp [num ms]])]
def paSt : St := ⟨paTm n ms, [.var (mX e p q o a1 a2 a3 a4 a5 a6), .var [.sl false 6 vs], .var [.bs 3 0 0], .row 10 []]⟩
def paStM : St := ⟨paTm n ms, [.var (mX e p q o a1 a2 a3 a4 a5 a6), .var [.sl false 6 vs], .var [.bs 5 0 n], .dead, .dead, .row 10 outs]⟩
theorem pa_rf (N : Nat) (hy : callF tab ext N (.fn 261) [.yl 0, .dp [nat n], .dp [num ms]] (paS (mX e p q o a1 a2 a3 a4 a5 a6) vs 0 []) = some (.tup [], paI (mX e p q o a1 a2 a3 a4 a5 a6) vs n outs)) :
    run (callF tab ext N) 0 N (.rf (.t 13) [14, 15] [2, 3, 5] paA paB) (paSt e p q o a1 a2 a3 a4 a5 a6 vs n ms) = some (.norm, paStM e p q o a1 a2 a3 a4 a5 a6 vs n ms outs) :=
  rf_of (g := 261) (caps := [.dp [nat n], .dp [num ms]]) (y := .tup []) (outb := paI (mX e p q o a1 a2 a3 a4 a5 a6) vs n outs)
    (q := (.tup [], [.var (mX e p q o a1 a2 a3 a4 a5 a6), .var [.sl false 6 vs], .var [.bs 5 0 n], .dead, paBx, .row 10 outs], [4, 0, 1, 2, 3])) hy (by kernel_rfl) (by kernel_rfl) (by kernel_rfl)
theorem pa_call (N : Nat) (hl : vs.length = n) (h1 : Gam.pureD (callF tab ext N) 200 [num q, nat vs.length] = some (.fn 261 [.dp [nat vs.length], .dp [num q]])) (hrf : run (callF tab ext N) 0 N (.rf (.t 13) [14, 15] [2, 3, 5] paA paB) (paSt e p q o a1 a2 a3 a4 a5 a6 vs n q) = some (.norm, paStM e p q o a1 a2 a3 a4 a5 a6 vs n q outs)) (ho : outs.length = n) :
    Gam.pureD (callF tab ext (N + 1)) 133 [.agg (mX e p q o a1 a2 a3 a4 a5 a6), .sl false 6 vs] = some (.sl false 10 outs) := by
  subst hl
  refine pure_of [(13, .p (.fn 261 [.dp [nat vs.length], .dp [num q]]))] [(.norm, paStM e p q o a1 a2 a3 a4 a5 a6 vs vs.length q outs)] (pf2 h1 hrf) (x := .bs 0 0 vs.length) (bx := [.row 10 outs]) (by kernel_rfl) ?_
  simp [X.data, rowOf_all (bx := [.row 10 outs]) (i := 0) (n := vs.length) rfl ho.symm]
end
/-- message.Parts. -/
theorem mparts_pure (N : Nat) (hN : 190030 ≤ N) (m : Msg) (hm : m.ok) (bs : List Val) (hb : ∀ b, b ∈ bs → b.ok) (h0 : 0 < bs.length) (h1 : bs.length < 3000) :
    Gam.pureD (callF tab ext N) 133 [.agg m.cells, .sl false 6 (cellsL bs)] = some (.sl false 10 (msgsC (partsM m bs bs.length))) := by
  obtain ⟨M, rfl⟩ : ∃ M, N = M + 2 := ⟨N - 2, by omega⟩
  obtain ⟨k, hk⟩ : ∃ k, bs.length = k + 1 := ⟨bs.length - 1, by omega⟩
  have hy := pa_yields M (by omega) m hm bs hb k hk (by omega)
  have hl := cellsL_length bs
  have ho := partsM_length m bs bs.length
  rw [← hk] at hy
  obtain ⟨K, rfl⟩ : ∃ K, M = K + 1 := ⟨M - 1, by omega⟩
  have hs := shares_pure K m.mass (nat (cellsL bs).length |> fun _ => Int.ofNat (cellsL bs).length)
  obtain ⟨a1, a2, a3, a4, a5, a6, hc⟩ := cells_mX m
  rw [hc] at hy ⊢
  exact pa_call _ _ _ _ _ _ _ _ _ _ _ _ _ _ hl hs (pa_rf _ _ _ _ _ _ _ _ _ _ _ _ _ _ _ hy) ho
end Go.Proofs.YthfchdkjeddijaaGreatDoor

/- The example of layer 31 holds. -/
namespace Go.Proofs.YthfchdkjeddijaaGreatDoor
open Go.Em
set_option maxRecDepth 100000
theorem known31_at (N : Nat) : Gam.pureD (callF tab ext (N + 400)) 33 [] = some (boolX true) := by kernel_rfl
end Go.Proofs.YthfchdkjeddijaaGreatDoor

/- RouterRejects comes to true. -/
namespace Go.Proofs.YthfchdkjeddijaaGreatDoor
open Go.Em
set_option maxRecDepth 100000

theorem given_pure (nd nd' : Nod) (hn : ∀ N, 220 ≤ N → Gam.pureD (callF tab ext N) 18 [.agg nd.cells] = some (.agg nd'.cells)) (s : Stt) (i : Inp) (k : Int) (N : Nat) (hN : 230 ≤ N) :
    Gam.pureD (callF tab ext N) 36 [.agg nd.cells, .agg s.cells, .agg i.cells, num k] = some (.tup [.agg ({ nd' with kind := k } : Nod).cells, .agg (shortS s).cells, .agg (shortN i).cells]) := by
  obtain ⟨M, rfl⟩ : ∃ M, N = M + 1 := ⟨N - 1, by omega⟩
  have h1 := hn M (by omega)
  have h2 := short_state s M (by omega)
  have h3 := short_inp i M (by omega)
  generalize shortS s = s' at h2 ⊢
  generalize shortN i = i' at h3 ⊢
  obtain ⟨kd, tm, ⟨se, sp⟩, ⟨⟨e, p⟩, ms, o, ⟨a1, a2, a3, a4, a5, a6⟩⟩, x, b1, b2, ⟨c1, c2, c3, c4, c5, c6⟩⟩ := i
  obtain ⟨kd', tm', ⟨se', sp'⟩, ⟨⟨e', p'⟩, ms', o', ⟨g1, g2, g3, g4, g5, g6⟩⟩, x', d1, d2, ⟨f1, f2, f3, f4, f5, f6⟩⟩ := i'
  generalize hi' : Inp.cells _ = ci' at h3 ⊢
  subst hi'
  exact pure_of [(12, .p (.agg nd'.cells)), (14, .p (.agg s'.cells)), (16, .p (.agg (Inp.mk kd' tm' ⟨se', sp'⟩ ⟨⟨e', p'⟩, ms', o', ⟨g1, g2, g3, g4, g5, g6⟩⟩ x' d1 d2 ⟨f1, f2, f3, f4, f5, f6⟩).cells))] [] (pf3 h1 h2 h3)
    (x := .tup [.agg ({ nd' with kind := k } : Nod).cells, .agg s'.cells, .agg (Inp.mk kd' tm' ⟨se', sp'⟩ ⟨⟨e', p'⟩, ms', o', ⟨g1, g2, g3, g4, g5, g6⟩⟩ x' d1 d2 ⟨f1, f2, f3, f4, f5, f6⟩).cells]) (bx := []) (by kernel_rfl) rfl

/-! ### A message that is rejected -/
def fteC (t : Bool) (f : Fte) : List X := [num f.st.e, .sl false 1 (intsC f.st.p), num f.kind, strX f.node, .sl t 2 [], strX f.text]
/-- The outcome in which a message is rejected; 't': how the document has the fate's list. -/
def rejC (t : Bool) (s : Stt) (m : Msg) (name r : ByteArray) : List X := [num s.n, num s.t, .sl false 10 (sltsC s.slots), .sl false 11 [], .sl false 11 [], .sl false 6 [fteC t (Fte.mk m.st 4 name [] r)], .sl false 10 [m.cells]]
theorem beq_bytes (a : ByteArray) : (a.toList == a.toList) = true := bytes_self a
theorem fate_same (m : Msg) (hm : m.ok) (t u : Bool) (name r : ByteArray) (N : Nat) (hN : 190200 ≤ N) : Gam.pureD (callF tab ext N) 122 [.agg (fteC t (Fte.mk m.st 4 name [] r)), .agg (fteC u (Fte.mk m.st 4 name [] r))] = some (boolX true) := by
  obtain ⟨M, rfl⟩ : ∃ M, N = M + 101 := ⟨N - 101, by omega⟩
  have h1 := stp_refl (M + 100) m.st hm.st (by omega)
  have h2 := beq_bytes name
  have h3 := beq_bytes r
  have h4 : Gam.pureD (callF tab ext (M + 100)) 184 [.sl false 2 [], .sl false 2 [], .fn 71 []] = some (boolX true) := by kernel_rfl
  obtain ⟨⟨e, p⟩, ms, o, ⟨a1, a2, a3, a4, a5, a6⟩⟩ := m
  cases t <;> cases u <;> exact pure_of [(9, .p (boolX true)), (22, .b true), (29, .b true), (36, .p (boolX true))] [] (pf4 h1 h2 h3 h4) (x := boolX true) (bx := []) (by kernel_rfl) rfl
theorem rej_same (s : Stt) (hs : s.ok) (m : Msg) (hm : m.ok) (t u : Bool) (name r : ByteArray) (N : Nat) (hN : 190400 ≤ N) : Gam.pureD (callF tab ext N) 24 [.agg (rejC t s m name r), .agg (rejC u s m name r)] = some (boolX true) := by
  obtain ⟨M, rfl⟩ : ∃ M, N = M + 101 := ⟨N - 101, by omega⟩
  have h1 := stt_refl (M + 100) s hs (by omega)
  have h2 : Gam.pureD (callF tab ext (M + 100)) 64 [.sl false 6 [fteC t (Fte.mk m.st 4 name [] r)], .sl false 6 [fteC u (Fte.mk m.st 4 name [] r)]] = some (boolX true) := by
    have h := fate_same m hm false false name r (M + 99) (by omega)
    obtain ⟨⟨e, p⟩, ms, o, ⟨a1, a2, a3, a4, a5, a6⟩⟩ := m
    exact pure_of [(25, .p (boolX true))] [] (pf1 h) (x := boolX true) (bx := []) (by kernel_rfl) rfl
  have h3 : Gam.pureD (callF tab ext (M + 100)) 65 [.sl false 10 [m.cells], .sl false 10 [m.cells]] = some (boolX true) := by
    have h := msg_refl (M + 99) m hm (by omega)
    obtain ⟨⟨e, p⟩, ms, o, ⟨a1, a2, a3, a4, a5, a6⟩⟩ := m
    exact pure_of [(25, .p (boolX true))] [] (pf1 h) (x := boolX true) (bx := []) (by kernel_rfl) rfl
  obtain ⟨a, b, ss⟩ := s
  exact pure_of [(10, .p (boolX true)), (67, .p (boolX true)), (74, .p (boolX true))] [] (pf3 h1 h2 h3) (x := boolX true) (bx := []) (by kernel_rfl) rfl

def ocC (n t : Int) (ss outs fates letters : List (List X)) : List X := [num n, num t, .sl false 10 ss, .sl false 11 outs, .sl false 11 [], .sl false 6 fates, .sl false 10 letters]
/-- Step and the document agree, if their outcomes are the same. -/
theorem agrees_of (nd nd' : Nod) (hn : ∀ N, 220 ≤ N → Gam.pureD (callF tab ext N) 18 [.agg nd.cells] = some (.agg nd'.cells)) (s : Stt) (i : Inp) (k : Int) (N : Nat) (hN : 200900 ≤ N) (n t n' t' : Int) (ss outs fates letters ss' outs' fates' letters' : List (List X))
    (ha : Gam.pureD (callF tab ext (N - 1)) 37 [.agg ({ nd' with kind := k } : Nod).cells, .agg (shortS s).cells, .agg ({ shortN i with kind := 1 } : Inp).cells] = some (.agg (ocC n t ss outs fates letters))) (hb : Gam.pureD (callF tab ext (N - 1)) 79 [.agg ({ nd' with kind := k } : Nod).cells, .agg (shortS s).cells, .agg ({ shortN i with kind := 1 } : Inp).cells] = some (.agg (ocC n' t' ss' outs' fates' letters')))
    (hab : Gam.pureD (callF tab ext (N - 1)) 24 [.agg (ocC n t ss outs fates letters), .agg (ocC n' t' ss' outs' fates' letters')] = some (boolX true)) : Gam.pureD (callF tab ext N) 35 [.agg nd.cells, .agg s.cells, .agg i.cells, num k] = some (boolX true) := by
  obtain ⟨M, rfl⟩ : ∃ M, N = M + 1 := ⟨N - 1, by omega⟩
  have h1 := given_pure nd nd' hn s i k M (by omega)
  have h2 : Gam.pureD (callF tab ext M) 33 [] = some (boolX true) := by
    obtain ⟨K, rfl⟩ : ∃ K, M = K + 400 := ⟨M - 400, by omega⟩
    exact known31_at K
  have ha : Gam.pureD (callF tab ext M) 37 [.agg ({ nd' with kind := k } : Nod).cells, .agg (shortS s).cells, .agg ({ shortN i with kind := 1 } : Inp).cells] = some (.agg (ocC n t ss outs fates letters)) := ha
  have hb : Gam.pureD (callF tab ext M) 79 [.agg ({ nd' with kind := k } : Nod).cells, .agg (shortS s).cells, .agg ({ shortN i with kind := 1 } : Inp).cells] = some (.agg (ocC n' t' ss' outs' fates' letters')) := hb
  have hab : Gam.pureD (callF tab ext M) 24 [.agg (ocC n t ss outs fates letters), .agg (ocC n' t' ss' outs' fates' letters')] = some (boolX true) := hab
  generalize shortN i = i' at h1 ha hb
  generalize shortS s = s' at h1 ha hb
  obtain ⟨kd, tm, ⟨se, sp⟩, ⟨⟨e, p⟩, ms, o, ⟨a1, a2, a3, a4, a5, a6⟩⟩, x, b1, b2, ⟨c1, c2, c3, c4, c5, c6⟩⟩ := i
  obtain ⟨kd', tm', ⟨se', sp'⟩, ⟨⟨e', p'⟩, ms', o', ⟨g1, g2, g3, g4, g5, g6⟩⟩, x', d1, d2, ⟨f1, f2, f3, f4, f5, f6⟩⟩ := i'
  exact pure_of [(14, .p (.tup [.agg ({ nd' with kind := k } : Nod).cells, .agg s'.cells, .agg (Inp.mk kd' tm' ⟨se', sp'⟩ ⟨⟨e', p'⟩, ms', o', ⟨g1, g2, g3, g4, g5, g6⟩⟩ x' d1 d2 ⟨f1, f2, f3, f4, f5, f6⟩).cells])), (19, .p (boolX true)), (24, .p (.agg (ocC n t ss outs fates letters))), (28, .p (.agg (ocC n' t' ss' outs' fates' letters'))), (29, .p (boolX true))] [] (pf5 h1 h2 ha hb hab) (x := boolX true) (bx := []) (by kernel_rfl) rfl
theorem shortN_m (i : Inp) : (shortN i).m = shortM i.m := rfl
end Go.Proofs.YthfchdkjeddijaaGreatDoor
