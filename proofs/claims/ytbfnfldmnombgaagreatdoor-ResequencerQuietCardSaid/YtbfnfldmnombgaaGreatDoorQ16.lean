/- Types and nodes are cut: it comes to an end. -/
import Derived.Test.YtbfnfldmnombgaaGreatDoorEmQ8
import Derived.Test.YtbfnfldmnombgaaGreatDoorQ14
import Derived.Test.YtbfnfldmnombgaaGreatDoorQ15
namespace Go.Proofs.YtbfnfldmnombgaaGreatDoor
open Go.Em
set_option maxRecDepth 100000
def typC (a b c d : Int) (w e f : List (List X)) : List X := [num a, num b, num c, num d, .sl false 1 w, .sl false 7 e, .sl false 11 f]
def zTyp : List X := [num 0, num 0, num 0, num 0, .sl true 1 [], .sl true 7 [], .sl true 11 []]
def fldC (x : Int) (t : ByteArray) (y a b c d : Int) (w e f de : List (List X)) : List X := [num x, strX t, num y, num a, num b, num c, num d, .sl false 1 w, .sl false 7 e, .sl false 11 f, .sl false 6 de]
def isTxt (c : List X) : Prop := ∃ t, c = [strX t]
/-- A type that is looked at to a depth. -/
def isTyp : Nat → List X → Prop
  | 0, c => ∃ a b c' d w e f, c = typC a b c' d w e f ∧ ∀ x, x ∈ w → isTxt x
  | n + 1, c => ∃ a b c' d w e f, c = typC a b c' d w e f ∧ (∀ x, x ∈ w → isTxt x) ∧ (∀ x, x ∈ e → isTyp n x) ∧ ∀ x, x ∈ f → ∃ p t y T de, x = num p :: strX t :: num y :: (T ++ [.sl false 6 de]) ∧ isTyp n T ∧ ∀ v, v ∈ de → isVal v

section
variable (n : Nat) (a b c d : Int) (w e f : List (List X)) (acc : List (List X)) (j : Nat) (x : List X)
def twH : St := ⟨[(1, num (Int.ofNat (n + 1))), (2, .ptr 0 0 0), (4, .ptr 1 0 0), (5, .bs 2 0 j), (6, .sl true 7 []), (7, .sl true 11 []), (8, nat j)], [.var (typC a b c d w e f), .var zTyp, .row 1 acc]⟩
def twN : St := ⟨[(1, num (Int.ofNat (n + 1))), (2, .ptr 0 0 0), (4, .ptr 1 0 0), (5, .bs 3 0 (j + 1)), (6, .sl true 7 []), (7, .sl true 11 []), (8, nat (j + 1))], [.var (typC a b c d w e f), .var zTyp, .dead, .row 1 (acc ++ [x])]⟩
def twE : St := ⟨[(1, num (Int.ofNat (n + 1))), (2, .ptr 0 0 0), (4, .ptr 1 0 0), (5, .bs 2 0 j), (6, .sl true 7 []), (7, .sl true 11 []), (8, nat j), (22, boolX false)], [.var (typC a b c d w e f), .var zTyp, .row 1 acc]⟩
theorem tw_canon : canon 0 (twN n a b c d w e f acc j x) = some (twH n a b c d w e f (acc ++ [x]) (j + 1)) := by kernel_rfl
end
theorem tw_loop (n : Nat) (a b c d : Int) (w e f : List (List X)) (hl : ∀ x, x ∈ w → isTxt x) {τ : St} (hτ : canon 0 τ = some (twH n a b c d w e f [] 0)) : ∃ acc, acc.length = min w.length 6 ∧ (∀ x, x ∈ acc → (fun _ => True) x) ∧ ∀ M, 40 ≤ M → run (callF tab ext M) 0 M (.loop (loopAt 19 0)) τ = some (.exit 0, twE n a b c d w e f acc (min w.length 6)) := by
  have hK : min w.length 6 ≤ 6 := by exact Nat.min_le_right _ _
  have key : ∃ acc : List (List X), acc.length = min w.length 6 ∧ (∀ x, x ∈ acc → (fun _ => True) x) ∧ ∀ M, 40 ≤ M → min w.length 6 < M → run (callF tab ext M) 0 M (.loop (loopAt 19 0)) τ = some (.exit 0, twE n a b c d w e f acc (min w.length 6)) := ?_
  · obtain ⟨acc, h1, hq, h2⟩ := key
    exact ⟨acc, h1, hq, fun M hM => h2 M hM (by omega)⟩
  refine loop_acc (nIn := 0) (b := loopAt 19 0) (B := 40) (H := fun j acc => twH n a b c d w e f acc j) (k := min w.length 6) (e := .exit 0) (E := fun acc => twE n a b c d w e f acc (min w.length 6)) (fun _ => True) hτ (fun j acc hj hacc => ?_) (fun acc hacc M hM => ?_) (by simp)
  · have hj1 : j < w.length := by omega
    have hj2 : j < 6 := by omega
    obtain ⟨v, hv⟩ := hl _ (List.getElem_mem hj1)
    have hg : w[j]? = some [strX v] := by rw [List.getElem?_eq_getElem hj1, hv]
    exact ⟨[strX (cutT 40 v)], twN n a b c d w e f acc j ([strX (cutT 40 v)]), trivial, tw_canon .., fun M hM => run_of [(18, .b true), (21, .b true), (29, .e [strX v]), (34, .e [strX v]), (37, .i (Int.ofNat (min v.size 40))), (38, .cut), (40, .app), (24, .i (Int.ofNat (j + 1)))] [] (pf8 (lt_nat (j := j) (k := w.length) hj1) (lt_lit hj2) hg hg (min_int v.size 40) (cut_ok v.size 40) (app_ok (acc := acc) j 2 16 hacc.symm (by omega) (by omega)) (next_nat (j := j) (by omega))) (lo' := []) (by kernel_rfl)⟩
  · generalize hq : min w.length 6 = q
    by_cases h6 : q < w.length
    · exact run_of [(18, .b true), (21, .b false)] [] (pf2 (lt_nat (j := q) (k := w.length) h6) (nlt_nat (j := q) (k := 6) (by omega))) (lo' := []) (by kernel_rfl)
    · exact run_of [(18, .b false)] [] (pf1 (nlt_nat (j := q) (k := w.length) h6)) (lo' := []) (by kernel_rfl)
section
variable (n : Nat) (a b c d : Int) (w e f acc0 : List (List X)) (m : Nat) (acc : List (List X)) (j : Nat) (x : List X)
def teH : St := ⟨[(1, num (Int.ofNat (n + 1))), (2, .ptr 0 0 0), (4, .ptr 1 0 0), (5, .bs 2 0 m), (6, .bs 3 0 j), (7, .sl true 11 []), (9, nat j)], [.var (typC a b c d w e f), .var zTyp, .row 1 acc0, .row 7 acc]⟩
def teN : St := ⟨[(1, num (Int.ofNat (n + 1))), (2, .ptr 0 0 0), (4, .ptr 1 0 0), (5, .bs 2 0 m), (6, .bs 4 0 (j + 1)), (7, .sl true 11 []), (9, nat (j + 1))], [.var (typC a b c d w e f), .var zTyp, .row 1 acc0, .dead, .row 7 (acc ++ [x])]⟩
def teE : St := ⟨[(1, num (Int.ofNat (n + 1))), (2, .ptr 0 0 0), (4, .ptr 1 0 0), (5, .bs 2 0 m), (6, .bs 3 0 j), (7, .sl true 11 []), (9, nat j), (53, boolX false)], [.var (typC a b c d w e f), .var zTyp, .row 1 acc0, .row 7 acc]⟩
theorem te_canon : canon 0 (teN n a b c d w e f acc0 m acc j x) = some (teH n a b c d w e f acc0 m (acc ++ [x]) (j + 1)) := by kernel_rfl
end
theorem te_loop (n : Nat) (a b c d : Int) (w e f acc0 : List (List X)) (m : Nat) (hn : n < 1000) (h54 : ∀ m, n = m + 1 → ∀ x, x ∈ e → ∃ a b c d w e f a' b' c' d' w' e' f', x = typC a b c d w e f ∧ ∀ N, 200 + n ≤ N → Gam.pureD (callF tab ext N) 19 [.agg (typC a b c d w e f), nat (m + 1)] = some (.agg (typC a' b' c' d' w' e' f'))) {τ : St} (hτ : canon 0 τ = some (teH n a b c d w e f acc0 m [] 0)) : ∃ acc, acc.length = kOf n e.length 2 ∧ (∀ x, x ∈ acc → (fun _ => True) x) ∧ ∀ M, (200 + n) ≤ M → run (callF tab ext M) 0 M (.loop (loopAt 19 1)) τ = some (.exit 2, teE n a b c d w e f acc0 m acc (kOf n e.length 2)) := by
  have hkk : kOf n e.length 2 ≤ e.length ∧ kOf n e.length 2 ≤ 2 := kOf_le ..
  have hK : kOf n e.length 2 ≤ 2 := by omega
  have key : ∃ acc : List (List X), acc.length = kOf n e.length 2 ∧ (∀ x, x ∈ acc → (fun _ => True) x) ∧ ∀ M, (200 + n) ≤ M → kOf n e.length 2 < M → run (callF tab ext M) 0 M (.loop (loopAt 19 1)) τ = some (.exit 2, teE n a b c d w e f acc0 m acc (kOf n e.length 2)) := ?_
  · obtain ⟨acc, h1, hq, h2⟩ := key
    exact ⟨acc, h1, hq, fun M hM => h2 M hM (by omega)⟩
  refine loop_acc (nIn := 0) (b := loopAt 19 1) (B := (200 + n)) (H := fun j acc => teH n a b c d w e f acc0 m acc j) (k := kOf n e.length 2) (e := .exit 2) (E := fun acc => teE n a b c d w e f acc0 m acc (kOf n e.length 2)) (fun _ => True) hτ (fun j acc hj hacc => ?_) (fun acc hacc M hM => ?_) (by simp)
  · have hj1 : j < e.length := by omega
    have hj2 : j < 2 := by omega
    obtain ⟨n, rfl⟩ : ∃ m, n = m + 1 := by
      cases n with
      | zero => simp [kOf] at hj
      | succ m => exact ⟨m, rfl⟩
    obtain ⟨a1, b1, c1, d1, w1, e1, f1, a2, b2, c2, d2, w2, e2, f2, hv, hc⟩ := h54 n rfl _ (List.getElem_mem hj1)
    have hg : e[j]? = some (typC a1 b1 c1 d1 w1 e1 f1) := by rw [List.getElem?_eq_getElem hj1, hv]
    exact ⟨(typC a2 b2 c2 d2 w2 e2 f2), teN (n + 1) a b c d w e f acc0 m acc j ((typC a2 b2 c2 d2 w2 e2 f2)), trivial, te_canon .., fun M hM => run_of [(45, .b true), (48, .b true), (52, .b true), (60, .e (typC a1 b1 c1 d1 w1 e1 f1)), (63, .i (Int.ofNat (n + 1))), (64, .p (.agg (typC a2 b2 c2 d2 w2 e2 f2))), (66, .app), (55, .i (Int.ofNat (j + 1)))] [] (pf8 (lt_nat (j := j) (k := e.length) hj1) (lt_lit hj2) (gt_one n) hg (dec_nat (j := n + 1) (by omega)) (hc M (by omega)) (app_ok (acc := acc) j 3 104 hacc.symm (by omega) (by omega)) (next_nat (j := j) (by omega))) (lo' := []) (by kernel_rfl)⟩
  · cases n with
    | zero =>
      have e0 : kOf 0 e.length 2 = 0 := rfl
      rw [e0]
      cases h1 : decide (Int.ofNat 0 < Int.ofNat e.length) with
      | true => exact run_of [(45, .b true)] [] (pf1 h1) (lo' := []) (by kernel_rfl)
      | false => exact run_of [(45, .b false)] [] (pf1 h1) (lo' := []) (by kernel_rfl)
    | succ n =>
      have e1 : kOf (n + 1) e.length 2 = min e.length 2 := rfl
      rw [e1]
      generalize hq : min e.length 2 = q
      by_cases h6 : q < e.length
      · exact run_of [(45, .b true), (48, .b false)] [] (pf2 (lt_nat (j := q) (k := e.length) h6) (nlt_nat (j := q) (k := 2) (by omega))) (lo' := []) (by kernel_rfl)
      · exact run_of [(45, .b false)] [] (pf1 (nlt_nat (j := q) (k := e.length) h6)) (lo' := []) (by kernel_rfl)
section
variable (n : Nat) (a b c d : Int) (w e f acc0 acc1 acc2 : List (List X)) (m q z : Nat) (x0 : Int) (t0 : ByteArray) (y0 p1 p2 p3 p4 : Int) (pw pe pf de : List (List X)) (acc : List (List X)) (j : Nat) (x : List X)
def tdH : St := ⟨[(1, num (Int.ofNat (n + 1))), (2, .ptr 0 0 0), (4, .ptr 1 0 0), (5, .bs 2 0 m), (6, .bs 3 0 q), (7, .bs 4 0 z), (10, nat z), (11, .ptr 5 0 0), (12, .bs 6 0 j), (13, nat j)], [.var (typC a b c d w e f), .var zTyp, .row 1 acc0, .row 7 acc1, .row 11 acc2, .var (fldC x0 t0 y0 p1 p2 p3 p4 pw pe pf de), .row 6 acc]⟩
def tdN : St := ⟨[(1, num (Int.ofNat (n + 1))), (2, .ptr 0 0 0), (4, .ptr 1 0 0), (5, .bs 2 0 m), (6, .bs 3 0 q), (7, .bs 4 0 z), (10, nat z), (11, .ptr 5 0 0), (12, .bs 7 0 (j + 1)), (13, nat (j + 1))], [.var (typC a b c d w e f), .var zTyp, .row 1 acc0, .row 7 acc1, .row 11 acc2, .var (fldC x0 t0 y0 p1 p2 p3 p4 pw pe pf de), .dead, .row 6 (acc ++ [x])]⟩
def tdE : St := ⟨[(1, num (Int.ofNat (n + 1))), (2, .ptr 0 0 0), (4, .ptr 1 0 0), (5, .bs 2 0 m), (6, .bs 3 0 q), (7, .bs 4 0 z), (10, nat z), (11, .ptr 5 0 0), (12, .bs 6 0 j), (13, nat j), (95, boolX false)], [.var (typC a b c d w e f), .var zTyp, .row 1 acc0, .row 7 acc1, .row 11 acc2, .var (fldC x0 t0 y0 p1 p2 p3 p4 pw pe pf de), .row 6 acc]⟩
theorem td_canon : canon 0 (tdN n a b c d w e f acc0 acc1 acc2 m q z x0 t0 y0 p1 p2 p3 p4 pw pe pf de acc j x) = some (tdH n a b c d w e f acc0 acc1 acc2 m q z x0 t0 y0 p1 p2 p3 p4 pw pe pf de (acc ++ [x]) (j + 1)) := by kernel_rfl
end
theorem td_loop (n : Nat) (a b c d : Int) (w e f acc0 acc1 acc2 : List (List X)) (m q z : Nat) (x0 : Int) (t0 : ByteArray) (y0 p1 p2 p3 p4 : Int) (pw pe pf de : List (List X)) (hl : ∀ x, x ∈ de → isVal x) {τ : St} (hτ : canon 0 τ = some (tdH n a b c d w e f acc0 acc1 acc2 m q z x0 t0 y0 p1 p2 p3 p4 pw pe pf de [] 0)) : ∃ acc, acc.length = min de.length 2 ∧ (∀ x, x ∈ acc → (fun _ => True) x) ∧ ∀ M, 40 ≤ M → run (callF tab ext M) 0 M (.loop (loopAt 19 3)) τ = some (.exit 6, tdE n a b c d w e f acc0 acc1 acc2 m q z x0 t0 y0 p1 p2 p3 p4 pw pe pf de acc (min de.length 2)) := by
  have hK : min de.length 2 ≤ 2 := by exact Nat.min_le_right _ _
  have key : ∃ acc : List (List X), acc.length = min de.length 2 ∧ (∀ x, x ∈ acc → (fun _ => True) x) ∧ ∀ M, 40 ≤ M → min de.length 2 < M → run (callF tab ext M) 0 M (.loop (loopAt 19 3)) τ = some (.exit 6, tdE n a b c d w e f acc0 acc1 acc2 m q z x0 t0 y0 p1 p2 p3 p4 pw pe pf de acc (min de.length 2)) := ?_
  · obtain ⟨acc, h1, hq, h2⟩ := key
    exact ⟨acc, h1, hq, fun M hM => h2 M hM (by omega)⟩
  refine loop_acc (nIn := 0) (b := loopAt 19 3) (B := 40) (H := fun j acc => tdH n a b c d w e f acc0 acc1 acc2 m q z x0 t0 y0 p1 p2 p3 p4 pw pe pf de acc j) (k := min de.length 2) (e := .exit 6) (E := fun acc => tdE n a b c d w e f acc0 acc1 acc2 m q z x0 t0 y0 p1 p2 p3 p4 pw pe pf de acc (min de.length 2)) (fun _ => True) hτ (fun j acc hj hacc => ?_) (fun acc hacc M hM => ?_) (by simp)
  · have hj1 : j < de.length := by omega
    have hj2 : j < 2 := by omega
    obtain ⟨v, hv⟩ := hl _ (List.getElem_mem hj1)
    have hg : de[j]? = some v.cells := by rw [List.getElem?_eq_getElem hj1, hv]
    have hc := short_val 2 v
    generalize shortV 2 v = w1 at hc
    obtain ⟨a1, a2, a3, a4, a5, a6⟩ := v
    obtain ⟨b1, b2, b3, b4, b5, b6⟩ := w1
    exact ⟨(Val.mk b1 b2 b3 b4 b5 b6).cells, tdN n a b c d w e f acc0 acc1 acc2 m q z x0 t0 y0 p1 p2 p3 p4 pw pe pf de acc j ((Val.mk b1 b2 b3 b4 b5 b6).cells), trivial, td_canon .., fun M hM => run_of [(91, .b true), (94, .b true), (102, .e (Val.mk a1 a2 a3 a4 a5 a6).cells), (104, .p (.agg (Val.mk b1 b2 b3 b4 b5 b6).cells)), (106, .app), (97, .i (Int.ofNat (j + 1)))] [] (pf6 (lt_nat (j := j) (k := de.length) hj1) (lt_lit hj2) hg (hc M (by omega) (by omega)) (app_ok (acc := acc) j 6 88 hacc.symm (by omega) (by omega)) (next_nat (j := j) (by omega))) (lo' := []) (by kernel_rfl)⟩
  · generalize hq : min de.length 2 = q
    by_cases h6 : q < de.length
    · exact run_of [(91, .b true), (94, .b false)] [] (pf2 (lt_nat (j := q) (k := de.length) h6) (nlt_nat (j := q) (k := 2) (by omega))) (lo' := []) (by kernel_rfl)
    · exact run_of [(91, .b false)] [] (pf1 (nlt_nat (j := q) (k := de.length) h6)) (lo' := []) (by kernel_rfl)
section
variable (n : Nat) (a b c d : Int) (w e f acc0 acc1 : List (List X)) (m q : Nat) (acc : List (List X)) (j : Nat) (x : List X)
def tfH : St := ⟨[(1, num (Int.ofNat (n + 1))), (2, .ptr 0 0 0), (4, .ptr 1 0 0), (5, .bs 2 0 m), (6, .bs 3 0 q), (7, .bs 4 0 j), (10, nat j)], [.var (typC a b c d w e f), .var zTyp, .row 1 acc0, .row 7 acc1, .row 11 acc]⟩
def tfN : St := ⟨[(1, num (Int.ofNat (n + 1))), (2, .ptr 0 0 0), (4, .ptr 1 0 0), (5, .bs 2 0 m), (6, .bs 3 0 q), (7, .bs 7 0 (j + 1)), (10, nat (j + 1))], [.var (typC a b c d w e f), .var zTyp, .row 1 acc0, .row 7 acc1, .dead, .var x, .dead, .row 11 (acc ++ [x])]⟩
def tfE : St := ⟨[(1, num (Int.ofNat (n + 1))), (2, .ptr 0 0 0), (4, .ptr 1 0 0), (5, .bs 2 0 m), (6, .bs 3 0 q), (7, .bs 4 0 j), (10, nat j), (79, boolX false)], [.var (typC a b c d w e f), .var zTyp, .row 1 acc0, .row 7 acc1, .row 11 acc]⟩
theorem tf_canon : canon 0 (tfN n a b c d w e f acc0 acc1 m q acc j x) = some (tfH n a b c d w e f acc0 acc1 m q (acc ++ [x]) (j + 1)) := by kernel_rfl
end
theorem tf_loop (n : Nat) (a b c d : Int) (w e f acc0 acc1 : List (List X)) (m q : Nat) (hn : n < 1000) (h54 : ∀ m, n = m + 1 → ∀ x, x ∈ f → ∃ p t y T de, x = num p :: strX t :: num y :: (T ++ [.sl false 6 de]) ∧ (∀ v, v ∈ de → isVal v) ∧ ∃ a b c d w e f a' b' c' d' w' e' f', T = typC a b c d w e f ∧ ∀ N, 200 + n ≤ N → Gam.pureD (callF tab ext N) 19 [.agg (typC a b c d w e f), nat (m + 1)] = some (.agg (typC a' b' c' d' w' e' f'))) {τ : St} (hτ : canon 0 τ = some (tfH n a b c d w e f acc0 acc1 m q [] 0)) : ∃ acc, acc.length = kOf n f.length 6 ∧ (∀ x, x ∈ acc → (fun _ => True) x) ∧ ∀ M, (200 + n) ≤ M → run (callF tab ext M) 0 M (.loop (loopAt 19 2)) τ = some (.exit 4, tfE n a b c d w e f acc0 acc1 m q acc (kOf n f.length 6)) := by
  have hkk : kOf n f.length 6 ≤ f.length ∧ kOf n f.length 6 ≤ 6 := kOf_le ..
  have hK : kOf n f.length 6 ≤ 6 := by omega
  have key : ∃ acc : List (List X), acc.length = kOf n f.length 6 ∧ (∀ x, x ∈ acc → (fun _ => True) x) ∧ ∀ M, (200 + n) ≤ M → kOf n f.length 6 < M → run (callF tab ext M) 0 M (.loop (loopAt 19 2)) τ = some (.exit 4, tfE n a b c d w e f acc0 acc1 m q acc (kOf n f.length 6)) := ?_
  · obtain ⟨acc, h1, hq, h2⟩ := key
    exact ⟨acc, h1, hq, fun M hM => h2 M hM (by omega)⟩
  refine loop_acc (nIn := 0) (b := loopAt 19 2) (B := (200 + n)) (H := fun j acc => tfH n a b c d w e f acc0 acc1 m q acc j) (k := kOf n f.length 6) (e := .exit 4) (E := fun acc => tfE n a b c d w e f acc0 acc1 m q acc (kOf n f.length 6)) (fun _ => True) hτ (fun j acc hj hacc => ?_) (fun acc hacc M hM => ?_) (by simp)
  · have hj1 : j < f.length := by omega
    have hj2 : j < 6 := by omega
    obtain ⟨n, rfl⟩ : ∃ m, n = m + 1 := by
      cases n with
      | zero => simp [kOf] at hj
      | succ m => exact ⟨m, rfl⟩
    obtain ⟨x0, t0, y0, T0, de, hv, hde, a1, b1, c1, d1, w1, e1, f1, a2, b2, c2, d2, w2, e2, f2, rfl, hc⟩ := h54 n rfl _ (List.getElem_mem hj1)
    have hg : f[j]? = some (fldC x0 t0 y0 a1 b1 c1 d1 w1 e1 f1 de) := by rw [List.getElem?_eq_getElem hj1, hv]; rfl
    obtain ⟨acc4, i1, _, i2⟩ := td_loop (n + 1) a b c d w e f acc0 acc1 acc m q j x0 t0 y0 a1 b1 c1 d1 w1 e1 f1 de hde (τ := ⟨[(1, num (Int.ofNat (n + 1 + 1))), (2, .ptr 0 0 0), (4, .ptr 1 0 0), (5, .bs 2 0 m), (6, .bs 3 0 q), (7, .bs 4 0 j), (10, nat j), (11, .ptr 5 0 0), (12, .bs 6 0 0), (13, nat 0)], [.var (typC a b c d w e f), .var zTyp, .row 1 acc0, .row 7 acc1, .row 11 acc, .var (fldC x0 t0 y0 a1 b1 c1 d1 w1 e1 f1 de), .row 6 []]⟩) (by kernel_rfl)
    generalize min de.length 2 = z at i1 i2
    exact ⟨(fldC x0 (cutT 40 t0) y0 a2 b2 c2 d2 w2 e2 f2 (acc4.take z)), tfN (n + 1) a b c d w e f acc0 acc1 m q acc j ((fldC x0 (cutT 40 t0) y0 a2 b2 c2 d2 w2 e2 f2 (acc4.take z))), trivial, tf_canon .., fun M hM => run_of [(71, .b true), (74, .b true), (78, .b true), (85, .e (fldC x0 t0 y0 a1 b1 c1 d1 w1 e1 f1 de)), (112, .i (Int.ofNat (min t0.size 40))), (113, .cut), (117, .i (Int.ofNat (n + 1))), (118, .p (.agg (typC a2 b2 c2 d2 w2 e2 f2))), (126, .app), (81, .i (Int.ofNat (j + 1)))] [(.exit 6, tdE (n + 1) a b c d w e f acc0 acc1 acc m q j x0 t0 y0 a1 b1 c1 d1 w1 e1 f1 de acc4 z)] (pf12 (lt_nat (j := j) (k := f.length) hj1) (lt_lit hj2) (gt_one n) hg (i2 M (by omega)) (min_int t0.size 40) (cut_ok t0.size 40) (dec_nat (j := n + 1) (by omega)) (hc M (by omega)) (show 0 + z ≤ acc4.length by omega) (app_ok (acc := acc) j 4 160 hacc.symm (by omega) (by omega)) (next_nat (j := j) (by omega))) (lo' := []) (by kernel_rfl)⟩
  · cases n with
    | zero =>
      have e0 : kOf 0 f.length 6 = 0 := rfl
      rw [e0]
      cases h1 : decide (Int.ofNat 0 < Int.ofNat f.length) with
      | true => exact run_of [(71, .b true)] [] (pf1 h1) (lo' := []) (by kernel_rfl)
      | false => exact run_of [(71, .b false)] [] (pf1 h1) (lo' := []) (by kernel_rfl)
    | succ n =>
      have e1 : kOf (n + 1) f.length 6 = min f.length 6 := rfl
      rw [e1]
      generalize hq : min f.length 6 = q
      by_cases h6 : q < f.length
      · exact run_of [(71, .b true), (74, .b false)] [] (pf2 (lt_nat (j := q) (k := f.length) h6) (nlt_nat (j := q) (k := 6) (by omega))) (lo' := []) (by kernel_rfl)
      · exact run_of [(71, .b false)] [] (pf1 (nlt_nat (j := q) (k := f.length) h6)) (lo' := []) (by kernel_rfl)
theorem typ_fin (n : Nat) (a b c d : Int) (w e f acc acc1 acc2 : List (List X)) (m q z : Nat) (h1 : acc.length = m) (h2 : acc1.length = q) (h3 : acc2.length = z) (M : Nat)
    (g1 : run (callF tab ext M) 0 M (.loop (loopAt 19 0)) (twH n a b c d w e f [] 0) = some (.exit 0, twE n a b c d w e f acc m)) (g2 : run (callF tab ext M) 0 M (.loop (loopAt 19 1)) (teH n a b c d w e f acc m [] 0) = some (.exit 2, teE n a b c d w e f acc m acc1 q))
    (g3 : run (callF tab ext M) 0 M (.loop (loopAt 19 2)) (tfH n a b c d w e f acc acc1 m q [] 0) = some (.exit 4, tfE n a b c d w e f acc acc1 m q acc2 z)) :
    Gam.pureD (callF tab ext (M + 1)) 19 [.agg (typC a b c d w e f), nat (n + 1)] = some (.agg (typC a b c d acc acc1 acc2)) := by
  have hd : (X.agg [num a, num b, num c, num d, .bs 0 0 m, .bs 1 0 q, .bs 2 0 z]).data [.row 1 acc, .row 7 acc1, .row 11 acc2] false = some (.agg (typC a b c d acc acc1 acc2)) := by
    subst h1 h2 h3; simp [X.data, dataL, rowOf, num, typC]
  exact pure_of [] [(.exit 0, twE n a b c d w e f acc m), (.exit 2, teE n a b c d w e f acc m acc1 q), (.exit 4, tfE n a b c d w e f acc acc1 m q acc2 z)] (pf3 g1 g2 g3) (x := .agg [num a, num b, num c, num d, .bs 0 0 m, .bs 1 0 q, .bs 2 0 z]) (bx := [.row 1 acc, .row 7 acc1, .row 11 acc2]) (by kernel_rfl) hd
theorem short_typ : ∀ (n : Nat) (c : List X), n < 1000 → isTyp n c → ∃ a b c' d w e f a' b' c'' d' w' e' f', c = typC a b c' d w e f ∧ ∀ N, 200 + (n + 1) ≤ N → Gam.pureD (callF tab ext N) 19 [.agg (typC a b c' d w e f), nat (n + 1)] = some (.agg (typC a' b' c'' d' w' e' f')) := by
  intro n
  induction n with
  | zero =>
    rintro _ hn ⟨a, b, c, d, w, e, f, rfl, hw⟩
    obtain ⟨acc, h1, _, g1⟩ := tw_loop 0 a b c d w e f hw (τ := twH 0 a b c d w e f [] 0) (by kernel_rfl)
    generalize min w.length 6 = m at h1 g1
    obtain ⟨acc1, h2, _, g2⟩ := te_loop 0 a b c d w e f acc m (by omega) (fun m hm => by omega) (τ := teH 0 a b c d w e f acc m [] 0) (by kernel_rfl)
    generalize kOf 0 e.length 2 = q at h2 g2
    obtain ⟨acc2, h3, _, g3⟩ := tf_loop 0 a b c d w e f acc acc1 m q (by omega) (fun m hm => by omega) (τ := tfH 0 a b c d w e f acc acc1 m q [] 0) (by kernel_rfl)
    generalize kOf 0 f.length 6 = z at h3 g3
    refine ⟨a, b, c, d, w, e, f, a, b, c, d, acc, acc1, acc2, rfl, fun N hN => ?_⟩
    obtain ⟨M, rfl⟩ : ∃ M, N = M + 1 := ⟨N - 1, by omega⟩
    exact typ_fin 0 a b c d w e f acc acc1 acc2 m q z h1 h2 h3 M (g1 M (by omega)) (g2 M (by omega)) (g3 M (by omega))
  | succ n ih =>
    rintro _ hn ⟨a, b, c, d, w, e, f, rfl, hw, he, hf⟩
    obtain ⟨acc, h1, _, g1⟩ := tw_loop (n + 1) a b c d w e f hw (τ := twH (n + 1) a b c d w e f [] 0) (by kernel_rfl)
    generalize min w.length 6 = m at h1 g1
    obtain ⟨acc1, h2, _, g2⟩ := te_loop (n + 1) a b c d w e f acc m (by omega) (fun m hm x hx => by
      obtain rfl : n = m := by omega
      exact ih x (by omega) (he x hx)) (τ := teH (n + 1) a b c d w e f acc m [] 0) (by kernel_rfl)
    generalize kOf (n + 1) e.length 2 = q at h2 g2
    obtain ⟨acc2, h3, _, g3⟩ := tf_loop (n + 1) a b c d w e f acc acc1 m q (by omega) (fun m hm x hx => by
      obtain rfl : n = m := by omega
      obtain ⟨p, t, y, T, de, h1, h2, h3⟩ := hf x hx
      exact ⟨p, t, y, T, de, h1, h3, ih T (by omega) h2⟩) (τ := tfH (n + 1) a b c d w e f acc acc1 m q [] 0) (by kernel_rfl)
    generalize kOf (n + 1) f.length 6 = z at h3 g3
    refine ⟨a, b, c, d, w, e, f, a, b, c, d, acc, acc1, acc2, rfl, fun N hN => ?_⟩
    obtain ⟨M, rfl⟩ : ∃ M, N = M + 1 := ⟨N - 1, by omega⟩
    exact typ_fin (n + 1) a b c d w e f acc acc1 acc2 m q z h1 h2 h3 M (g1 M (by omega)) (g2 M (by omega)) (g3 M (by omega))

def nodC (name text : ByteArray) (k1 k2 k3 k4 k5 k6 a b c d : Int) (w e f ty ex ru ca ne : List (List X)) : List X := [strX name, num k1, num k2, num k3, num k4, num k5, num k6, strX text, num a, num b, num c, num d, .sl false 1 w, .sl false 7 e, .sl false 11 f, .sl false 7 ty, .sl false 5 ex, .sl false 6 ru, .sl false 2 ca, .sl false 1 ne]
def nodB (name text : ByteArray) (k1 k2 k3 k4 k5 k6 a b c d : Int) (w e f ty ru ca ne : List (List X)) (i m : Nat) : List X := [strX name, num k1, num k2, num k3, num k4, num k5, num k6, strX text, num a, num b, num c, num d, .sl false 1 w, .sl false 7 e, .sl false 11 f, .sl false 7 ty, .bs i 0 m, .sl false 6 ru, .sl false 2 ca, .sl false 1 ne]
def zNod : List X := [noText, num 0, num 0, num 0, num 0, num 0, num 0, noText, num 0, num 0, num 0, num 0, .sl true 1 [], .sl true 7 [], .sl true 11 [], .sl true 7 [], .sl true 5 [], .sl true 6 [], .sl true 2 [], .sl true 1 []]
def isCall (c : List X) : Prop := ∃ t l, c = [strX t, .sl false 6 l] ∧ ∀ x, x ∈ l → isRule x
section
variable (name text : ByteArray) (k1 k2 k3 k4 k5 k6 a b c d : Int) (w e f ty ex ru ca ne : List (List X)) (acc : List (List X)) (j : Nat) (x : List X)
def qaH : St := ⟨[(1, .ptr 0 0 0), (2, .ptr 1 0 0), (3, .ptr 2 0 0), (4, nat j)], [.var (nodC name text k1 k2 k3 k4 k5 k6 a b c d w e f ty ex ru ca ne), .var zNod, .var [.bs 3 0 j], .row 6 acc]⟩
def qaN : St := ⟨[(1, .ptr 0 0 0), (2, .ptr 1 0 0), (3, .ptr 2 0 0), (4, nat (j + 1))], [.var (nodC name text k1 k2 k3 k4 k5 k6 a b c d w e f ty ex ru ca ne), .var zNod, .var [.bs 4 0 (j + 1)], .dead, .row 6 (acc ++ [x])]⟩
def qaE : St := ⟨[(1, .ptr 0 0 0), (2, .ptr 1 0 0), (3, .ptr 2 0 0), (4, nat j), (18, boolX false)], [.var (nodC name text k1 k2 k3 k4 k5 k6 a b c d w e f ty ex ru ca ne), .var zNod, .var [.bs 3 0 j], .row 6 acc]⟩
theorem qa_canon : canon 0 (qaN name text k1 k2 k3 k4 k5 k6 a b c d w e f ty ex ru ca ne acc j x) = some (qaH name text k1 k2 k3 k4 k5 k6 a b c d w e f ty ex ru ca ne (acc ++ [x]) (j + 1)) := by kernel_rfl
end
theorem qa_loop (name text : ByteArray) (k1 k2 k3 k4 k5 k6 a b c d : Int) (w e f ty ex ru ca ne : List (List X)) (hl : ∀ x, x ∈ ex → isExp 3 x) {τ : St} (hτ : canon 0 τ = some (qaH name text k1 k2 k3 k4 k5 k6 a b c d w e f ty ex ru ca ne [] 0)) : ∃ acc, acc.length = min ex.length 4 ∧ (∀ x, x ∈ acc → (isRule) x) ∧ ∀ M, 40 ≤ M → run (callF tab ext M) 0 M (.loop (loopAt 6 0)) τ = some (.exit 0, qaE name text k1 k2 k3 k4 k5 k6 a b c d w e f ty ex ru ca ne acc (min ex.length 4)) := by
  have hK : min ex.length 4 ≤ 4 := by exact Nat.min_le_right _ _
  have key : ∃ acc : List (List X), acc.length = min ex.length 4 ∧ (∀ x, x ∈ acc → (isRule) x) ∧ ∀ M, 40 ≤ M → min ex.length 4 < M → run (callF tab ext M) 0 M (.loop (loopAt 6 0)) τ = some (.exit 0, qaE name text k1 k2 k3 k4 k5 k6 a b c d w e f ty ex ru ca ne acc (min ex.length 4)) := ?_
  · obtain ⟨acc, h1, hq, h2⟩ := key
    exact ⟨acc, h1, hq, fun M hM => h2 M hM (by omega)⟩
  refine loop_acc (nIn := 0) (b := loopAt 6 0) (B := 40) (H := fun j acc => qaH name text k1 k2 k3 k4 k5 k6 a b c d w e f ty ex ru ca ne acc j) (k := min ex.length 4) (e := .exit 0) (E := fun acc => qaE name text k1 k2 k3 k4 k5 k6 a b c d w e f ty ex ru ca ne acc (min ex.length 4)) (isRule) hτ (fun j acc hj hacc => ?_) (fun acc hacc M hM => ?_) (by simp)
  · have hj1 : j < ex.length := by omega
    have hj2 : j < 4 := by omega
    have he := hl _ (List.getElem_mem hj1)
    obtain ⟨o1, i1, t1, v1, e1, hv, _⟩ := isExp_zero he
    rw [hv] at he
    have hg : ex[j]? = some (expC o1 i1 t1 v1 e1) := by rw [List.getElem?_eq_getElem hj1, hv]; rfl
    exact ⟨(noText :: expC o1 i1 t1 v1 e1), qaN name text k1 k2 k3 k4 k5 k6 a b c d w e f ty ex ru ca ne acc j ((noText :: expC o1 i1 t1 v1 e1)), ⟨⟨#[]⟩, _, rfl, he⟩, qa_canon .., fun M hM => run_of [(14, .b true), (17, .b true), (26, .e (expC o1 i1 t1 v1 e1)), (30, .app), (20, .i (Int.ofNat (j + 1)))] [] (pf5 (lt_nat (j := j) (k := ex.length) hj1) (lt_lit hj2) hg (app_ok (acc := acc) j 3 96 hacc.symm (by omega) (by omega)) (next_nat (j := j) (by omega))) (lo' := []) (by kernel_rfl)⟩
  · generalize hq : min ex.length 4 = q
    by_cases h6 : q < ex.length
    · exact run_of [(14, .b true), (17, .b false)] [] (pf2 (lt_nat (j := q) (k := ex.length) h6) (nlt_nat (j := q) (k := 4) (by omega))) (lo' := []) (by kernel_rfl)
    · exact run_of [(14, .b false)] [] (pf1 (nlt_nat (j := q) (k := ex.length) h6)) (lo' := []) (by kernel_rfl)
section
variable (name text : ByteArray) (k1 k2 k3 k4 k5 k6 a b c d : Int) (w e f ty ru ca ne acc0 : List (List X)) (acc : List (List X)) (j : Nat) (x : List X)
def qbH : St := ⟨[(1, .ptr 0 0 0), (2, .ptr 1 0 0), (3, .ptr 2 0 0), (5, nat j)], [.var (nodB name text k1 k2 k3 k4 k5 k6 a b c d w e f ty ru ca ne 3 j), .var zNod, .var [.sl false 6 acc0], .row 5 acc]⟩
def qbN : St := ⟨[(1, .ptr 0 0 0), (2, .ptr 1 0 0), (3, .ptr 2 0 0), (5, nat (j + 1))], [.var (nodB name text k1 k2 k3 k4 k5 k6 a b c d w e f ty ru ca ne 4 (j + 1)), .var zNod, .var [.sl false 6 acc0], .dead, .row 5 (acc ++ [x])]⟩
def qbE : St := ⟨[(1, .ptr 0 0 0), (2, .ptr 1 0 0), (3, .ptr 2 0 0), (5, nat j), (39, boolX false)], [.var (nodB name text k1 k2 k3 k4 k5 k6 a b c d w e f ty ru ca ne 3 j), .var zNod, .var [.sl false 6 acc0], .row 5 acc]⟩
theorem qb_canon : canon 0 (qbN name text k1 k2 k3 k4 k5 k6 a b c d w e f ty ru ca ne acc0 acc j x) = some (qbH name text k1 k2 k3 k4 k5 k6 a b c d w e f ty ru ca ne acc0 (acc ++ [x]) (j + 1)) := by kernel_rfl
end
theorem qb_loop (name text : ByteArray) (k1 k2 k3 k4 k5 k6 a b c d : Int) (w e f ty ru ca ne acc0 : List (List X)) (hl8 : acc0.length ≤ 8) (hl : ∀ x, x ∈ acc0 → isRul0 x) {τ : St} (hτ : canon 0 τ = some (qbH name text k1 k2 k3 k4 k5 k6 a b c d w e f ty ru ca ne acc0 [] 0)) : ∃ acc, acc.length = min acc0.length 8 ∧ (∀ x, x ∈ acc → (fun _ => True) x) ∧ ∀ M, 40 ≤ M → run (callF tab ext M) 0 M (.loop (loopAt 6 1)) τ = some (.exit 2, qbE name text k1 k2 k3 k4 k5 k6 a b c d w e f ty ru ca ne acc0 acc (min acc0.length 8)) := by
  have hK : min acc0.length 8 ≤ 8 := by exact Nat.min_le_right _ _
  have key : ∃ acc : List (List X), acc.length = min acc0.length 8 ∧ (∀ x, x ∈ acc → (fun _ => True) x) ∧ ∀ M, 40 ≤ M → min acc0.length 8 < M → run (callF tab ext M) 0 M (.loop (loopAt 6 1)) τ = some (.exit 2, qbE name text k1 k2 k3 k4 k5 k6 a b c d w e f ty ru ca ne acc0 acc (min acc0.length 8)) := ?_
  · obtain ⟨acc, h1, hq, h2⟩ := key
    exact ⟨acc, h1, hq, fun M hM => h2 M hM (by omega)⟩
  refine loop_acc (nIn := 0) (b := loopAt 6 1) (B := 40) (H := fun j acc => qbH name text k1 k2 k3 k4 k5 k6 a b c d w e f ty ru ca ne acc0 acc j) (k := min acc0.length 8) (e := .exit 2) (E := fun acc => qbE name text k1 k2 k3 k4 k5 k6 a b c d w e f ty ru ca ne acc0 acc (min acc0.length 8)) (fun _ => True) hτ (fun j acc hj hacc => ?_) (fun acc hacc M hM => ?_) (by simp)
  · have hj1 : j < acc0.length := by omega
    have hj2 : j < 8 := by omega
    obtain ⟨s0, o1, i1, t1, v1, e1, hv⟩ := hl _ (List.getElem_mem hj1)
    have hg : acc0[j]? = some (ruleC s0 o1 i1 t1 v1 e1) := by rw [List.getElem?_eq_getElem hj1, hv]; rfl
    exact ⟨(expC o1 i1 t1 v1 e1), qbN name text k1 k2 k3 k4 k5 k6 a b c d w e f ty ru ca ne acc0 acc j ((expC o1 i1 t1 v1 e1)), trivial, qb_canon .., fun M hM => run_of [(39, .b true), (47, .e (ruleC s0 o1 i1 t1 v1 e1)), (51, .app), (41, .i (Int.ofNat (j + 1)))] [] (pf4 (lt_nat (j := j) (k := acc0.length) hj1) hg (app_ok (acc := acc) j 3 80 hacc.symm (by omega) (by omega)) (next_nat (j := j) (by omega))) (lo' := []) (by kernel_rfl)⟩
  · generalize hq : min acc0.length 8 = q
    exact run_of [(39, .b false)] [] (pf1 (nlt_nat (j := q) (k := acc0.length) (by omega))) (lo' := []) (by kernel_rfl)
section
variable (name text : ByteArray) (k1 k2 k3 k4 k5 k6 a b c d : Int) (w e f ty ru ca ne acc0 : List (List X)) (m : Nat) (acc : List (List X)) (j : Nat) (x : List X)
def qcH : St := ⟨[(1, .ptr 0 0 0), (2, .ptr 1 0 0), (6, .bs 2 0 j), (7, nat j)], [.var (nodB name text k1 k2 k3 k4 k5 k6 a b c d w e f ty ru ca ne 3 m), .var zNod, .row 2 acc, .row 5 acc0]⟩
def qcN : St := ⟨[(1, .ptr 0 0 0), (2, .ptr 1 0 0), (6, .bs 4 0 (j + 1)), (7, nat (j + 1))], [.var (nodB name text k1 k2 k3 k4 k5 k6 a b c d w e f ty ru ca ne 3 m), .var zNod, .dead, .row 5 acc0, .row 2 (acc ++ [x])]⟩
def qcE : St := ⟨[(1, .ptr 0 0 0), (2, .ptr 1 0 0), (6, .bs 2 0 j), (7, nat j), (61, boolX false)], [.var (nodB name text k1 k2 k3 k4 k5 k6 a b c d w e f ty ru ca ne 3 m), .var zNod, .row 2 acc, .row 5 acc0]⟩
theorem qc_canon : canon 0 (qcN name text k1 k2 k3 k4 k5 k6 a b c d w e f ty ru ca ne acc0 m acc j x) = some (qcH name text k1 k2 k3 k4 k5 k6 a b c d w e f ty ru ca ne acc0 m (acc ++ [x]) (j + 1)) := by kernel_rfl
end
theorem qc_loop (name text : ByteArray) (k1 k2 k3 k4 k5 k6 a b c d : Int) (w e f ty ru ca ne acc0 : List (List X)) (m : Nat) (hl : ∀ x, x ∈ ca → isCall x) {τ : St} (hτ : canon 0 τ = some (qcH name text k1 k2 k3 k4 k5 k6 a b c d w e f ty ru ca ne acc0 m [] 0)) : ∃ acc, acc.length = min ca.length 4 ∧ (∀ x, x ∈ acc → (fun _ => True) x) ∧ ∀ M, 110 ≤ M → run (callF tab ext M) 0 M (.loop (loopAt 6 2)) τ = some (.exit 4, qcE name text k1 k2 k3 k4 k5 k6 a b c d w e f ty ru ca ne acc0 m acc (min ca.length 4)) := by
  have hK : min ca.length 4 ≤ 4 := by exact Nat.min_le_right _ _
  have key : ∃ acc : List (List X), acc.length = min ca.length 4 ∧ (∀ x, x ∈ acc → (fun _ => True) x) ∧ ∀ M, 110 ≤ M → min ca.length 4 < M → run (callF tab ext M) 0 M (.loop (loopAt 6 2)) τ = some (.exit 4, qcE name text k1 k2 k3 k4 k5 k6 a b c d w e f ty ru ca ne acc0 m acc (min ca.length 4)) := ?_
  · obtain ⟨acc, h1, hq, h2⟩ := key
    exact ⟨acc, h1, hq, fun M hM => h2 M hM (by omega)⟩
  refine loop_acc (nIn := 0) (b := loopAt 6 2) (B := 110) (H := fun j acc => qcH name text k1 k2 k3 k4 k5 k6 a b c d w e f ty ru ca ne acc0 m acc j) (k := min ca.length 4) (e := .exit 4) (E := fun acc => qcE name text k1 k2 k3 k4 k5 k6 a b c d w e f ty ru ca ne acc0 m acc (min ca.length 4)) (fun _ => True) hτ (fun j acc hj hacc => ?_) (fun acc hacc M hM => ?_) (by simp)
  · have hj1 : j < ca.length := by omega
    have hj2 : j < 4 := by omega
    obtain ⟨s0, l0, hv, hl0⟩ := hl _ (List.getElem_mem hj1)
    obtain ⟨l1, _, _, hc⟩ := short_map l0 hl0
    have hg : ca[j]? = some [strX s0, .sl false 6 l0] := by rw [List.getElem?_eq_getElem hj1, hv]
    exact ⟨[strX (cutT 60 s0), .sl false 6 l1], qcN name text k1 k2 k3 k4 k5 k6 a b c d w e f ty ru ca ne acc0 m acc j ([strX (cutT 60 s0), .sl false 6 l1]), trivial, qc_canon .., fun M hM => run_of [(57, .b true), (60, .b true), (68, .e [strX s0, .sl false 6 l0]), (74, .e [strX s0, .sl false 6 l0]), (78, .i (Int.ofNat (min s0.size 60))), (79, .cut), (83, .e [strX s0, .sl false 6 l0]), (86, .p (.agg [.sl false 6 l1])), (89, .app), (63, .i (Int.ofNat (j + 1)))] [] (pf10 (lt_nat (j := j) (k := ca.length) hj1) (lt_lit hj2) hg hg (min_int s0.size 60) (cut_ok s0.size 60) hg (hc M (by omega)) (app_ok (acc := acc) j 2 40 hacc.symm (by omega) (by omega)) (next_nat (j := j) (by omega))) (lo' := []) (by kernel_rfl)⟩
  · generalize hq : min ca.length 4 = q
    by_cases h6 : q < ca.length
    · exact run_of [(57, .b true), (60, .b false)] [] (pf2 (lt_nat (j := q) (k := ca.length) h6) (nlt_nat (j := q) (k := 4) (by omega))) (lo' := []) (by kernel_rfl)
    · exact run_of [(57, .b false)] [] (pf1 (nlt_nat (j := q) (k := ca.length) h6)) (lo' := []) (by kernel_rfl)
section
variable (name text : ByteArray) (k1 k2 k3 k4 k5 k6 a b c d : Int) (w e f ty ru ca ne acc0 acc1 : List (List X)) (m q : Nat) (acc : List (List X)) (j : Nat) (x : List X)
def qdH : St := ⟨[(1, .ptr 0 0 0), (2, .ptr 1 0 0), (6, .bs 2 0 q), (8, .bs 3 0 j), (9, nat j)], [.var (nodB name text k1 k2 k3 k4 k5 k6 a b c d w e f ty ru ca ne 4 m), .var zNod, .row 2 acc1, .row 7 acc, .row 5 acc0]⟩
def qdN : St := ⟨[(1, .ptr 0 0 0), (2, .ptr 1 0 0), (6, .bs 2 0 q), (8, .bs 5 0 (j + 1)), (9, nat (j + 1))], [.var (nodB name text k1 k2 k3 k4 k5 k6 a b c d w e f ty ru ca ne 4 m), .var zNod, .row 2 acc1, .dead, .row 5 acc0, .row 7 (acc ++ [x])]⟩
def qdE : St := ⟨[(1, .ptr 0 0 0), (2, .ptr 1 0 0), (6, .bs 2 0 q), (8, .bs 3 0 j), (9, nat j), (98, boolX false)], [.var (nodB name text k1 k2 k3 k4 k5 k6 a b c d w e f ty ru ca ne 4 m), .var zNod, .row 2 acc1, .row 7 acc, .row 5 acc0]⟩
theorem qd_canon : canon 0 (qdN name text k1 k2 k3 k4 k5 k6 a b c d w e f ty ru ca ne acc0 acc1 m q acc j x) = some (qdH name text k1 k2 k3 k4 k5 k6 a b c d w e f ty ru ca ne acc0 acc1 m q (acc ++ [x]) (j + 1)) := by kernel_rfl
end
theorem qd_loop (name text : ByteArray) (k1 k2 k3 k4 k5 k6 a b c d : Int) (w e f ty ru ca ne acc0 acc1 : List (List X)) (m q : Nat) (hl : ∀ x, x ∈ ty → isTyp 3 x) {τ : St} (hτ : canon 0 τ = some (qdH name text k1 k2 k3 k4 k5 k6 a b c d w e f ty ru ca ne acc0 acc1 m q [] 0)) : ∃ acc, acc.length = min ty.length 8 ∧ (∀ x, x ∈ acc → (fun _ => True) x) ∧ ∀ M, 210 ≤ M → run (callF tab ext M) 0 M (.loop (loopAt 6 3)) τ = some (.exit 6, qdE name text k1 k2 k3 k4 k5 k6 a b c d w e f ty ru ca ne acc0 acc1 m q acc (min ty.length 8)) := by
  have hK : min ty.length 8 ≤ 8 := by exact Nat.min_le_right _ _
  have key : ∃ acc : List (List X), acc.length = min ty.length 8 ∧ (∀ x, x ∈ acc → (fun _ => True) x) ∧ ∀ M, 210 ≤ M → min ty.length 8 < M → run (callF tab ext M) 0 M (.loop (loopAt 6 3)) τ = some (.exit 6, qdE name text k1 k2 k3 k4 k5 k6 a b c d w e f ty ru ca ne acc0 acc1 m q acc (min ty.length 8)) := ?_
  · obtain ⟨acc, h1, hq, h2⟩ := key
    exact ⟨acc, h1, hq, fun M hM => h2 M hM (by omega)⟩
  refine loop_acc (nIn := 0) (b := loopAt 6 3) (B := 210) (H := fun j acc => qdH name text k1 k2 k3 k4 k5 k6 a b c d w e f ty ru ca ne acc0 acc1 m q acc j) (k := min ty.length 8) (e := .exit 6) (E := fun acc => qdE name text k1 k2 k3 k4 k5 k6 a b c d w e f ty ru ca ne acc0 acc1 m q acc (min ty.length 8)) (fun _ => True) hτ (fun j acc hj hacc => ?_) (fun acc hacc M hM => ?_) (by simp)
  · have hj1 : j < ty.length := by omega
    have hj2 : j < 8 := by omega
    obtain ⟨a1, b1, c1, d1, w1, e1, f1, a2, b2, c2, d2, w2, e2, f2, hv, hc⟩ := short_typ 3 _ (by omega) (hl _ (List.getElem_mem hj1))
    have hg : ty[j]? = some (typC a1 b1 c1 d1 w1 e1 f1) := by rw [List.getElem?_eq_getElem hj1, hv]
    exact ⟨(typC a2 b2 c2 d2 w2 e2 f2), qdN name text k1 k2 k3 k4 k5 k6 a b c d w e f ty ru ca ne acc0 acc1 m q acc j ((typC a2 b2 c2 d2 w2 e2 f2)), trivial, qd_canon .., fun M hM => run_of [(94, .b true), (97, .b true), (105, .e (typC a1 b1 c1 d1 w1 e1 f1)), (107, .p (.agg (typC a2 b2 c2 d2 w2 e2 f2))), (109, .app), (100, .i (Int.ofNat (j + 1)))] [] (pf6 (lt_nat (j := j) (k := ty.length) hj1) (lt_lit hj2) hg (hc M (by omega)) (app_ok (acc := acc) j 3 104 hacc.symm (by omega) (by omega)) (next_nat (j := j) (by omega))) (lo' := []) (by kernel_rfl)⟩
  · generalize hq : min ty.length 8 = q
    by_cases h6 : q < ty.length
    · exact run_of [(94, .b true), (97, .b false)] [] (pf2 (lt_nat (j := q) (k := ty.length) h6) (nlt_nat (j := q) (k := 8) (by omega))) (lo' := []) (by kernel_rfl)
    · exact run_of [(94, .b false)] [] (pf1 (nlt_nat (j := q) (k := ty.length) h6)) (lo' := []) (by kernel_rfl)
theorem short_node (name text : ByteArray) (k1 k2 k3 k4 k5 k6 : Int) (T : List X) (ty ex ru ca ne : List (List X)) (hT : isTyp 3 T) (hty : ∀ x, x ∈ ty → isTyp 3 x) (hex : ∀ x, x ∈ ex → isExp 3 x) (hru : ∀ x, x ∈ ru → isRule x) (hca : ∀ x, x ∈ ca → isCall x) :
    ∃ a b c d w e f a' b' c' d' w' e' f' ty' ex' ru' ca' ne', T = typC a b c d w e f ∧ ∀ N, 220 ≤ N → Gam.pureD (callF tab ext N) 6 [.agg (nodC name text k1 k2 k3 k4 k5 k6 a b c d w e f ty ex ru ca ne)] = some (.agg (nodC (cutT 60 name) (cutT 60 text) k1 k2 k3 k4 k5 k6 a' b' c' d' w' e' f' ty' ex' ru' ca' ne')) := by
  obtain ⟨a, b, c, d, w, e, f, a', b', c', d', w', e', f', rfl, hc⟩ := short_typ 3 T (by omega) hT
  obtain ⟨acc, h1, hr, g1⟩ := qa_loop name text k1 k2 k3 k4 k5 k6 a b c d w e f ty ex ru ca ne hex (τ := qaH name text k1 k2 k3 k4 k5 k6 a b c d w e f ty ex ru ca ne [] 0) (by kernel_rfl)
  generalize min ex.length 4 = m0 at h1 g1
  obtain ⟨r1, hl8, hr1, hc1⟩ := short_map acc hr
  obtain ⟨r2, _, _, hc2⟩ := short_map ru hru
  obtain ⟨acc1, h2, _, g2⟩ := qb_loop name text k1 k2 k3 k4 k5 k6 a b c d w e f ty ru ca ne r1 hl8 hr1 (τ := ⟨[(1, .ptr 0 0 0), (2, .ptr 1 0 0), (3, .ptr 2 0 0), (5, num 0)], [.var (nodB name text k1 k2 k3 k4 k5 k6 a b c d w e f ty ru ca ne 4 0), .var zNod, .var [.sl false 6 r1], .dead, .row 5 []]⟩) (by kernel_rfl)
  generalize min r1.length 8 = m1 at h2 g2
  obtain ⟨acc2, h3, _, g3⟩ := qc_loop name text k1 k2 k3 k4 k5 k6 a b c d w e f ty ru ca ne acc1 m1 hca (τ := ⟨[(1, .ptr 0 0 0), (2, .ptr 1 0 0), (6, .bs 4 0 0), (7, num 0)], [.var (nodB name text k1 k2 k3 k4 k5 k6 a b c d w e f ty ru ca ne 3 m1), .var zNod, .var [.sl false 6 r1], .row 5 acc1, .row 2 []]⟩) (by kernel_rfl)
  generalize min ca.length 4 = m2 at h3 g3
  obtain ⟨acc3, h4, _, g4⟩ := qd_loop name text k1 k2 k3 k4 k5 k6 a b c d w e f ty ru ca ne acc1 acc2 m1 m2 hty (τ := ⟨[(1, .ptr 0 0 0), (2, .ptr 1 0 0), (6, .bs 2 0 m2), (8, .bs 4 0 0), (9, num 0)], [.var (nodB name text k1 k2 k3 k4 k5 k6 a b c d w e f ty ru ca ne 3 m1), .var zNod, .row 2 acc2, .row 5 acc1, .row 7 []]⟩) (by kernel_rfl)
  generalize min ty.length 8 = m3 at h4 g4
  refine ⟨a, b, c, d, w, e, f, a', b', c', d', w', e', f', acc3, acc1, r2, acc2, ne.take (min ne.length 70), rfl, fun N hN => ?_⟩
  obtain ⟨M, rfl⟩ : ∃ M, N = M + 1 := ⟨N - 1, by omega⟩
  have hd : (X.agg [strX (cutT 60 name), num k1, num k2, num k3, num k4, num k5, num k6, strX (cutT 60 text), num a', num b', num c', num d', .sl false 1 w', .sl false 7 e', .sl false 11 f', .bs 0 0 m3, .bs 1 0 m1, .sl false 6 r2, .bs 2 0 m2, .sl false 1 (ne.take (min ne.length 70))]).data [.row 7 acc3, .row 5 acc1, .row 2 acc2] false
      = some (.agg (nodC (cutT 60 name) (cutT 60 text) k1 k2 k3 k4 k5 k6 a' b' c' d' w' e' f' acc3 acc1 r2 acc2 (ne.take (min ne.length 70)))) := by
    subst h2 h3 h4; simp [X.data, dataL, rowOf, num, strX, nodC]
  exact pure_of [(33, .p (.agg [.sl false 6 r1])), (114, .p (.agg [.sl false 6 r2])), (117, .p (.agg (typC a' b' c' d' w' e' f'))), (127, .i (Int.ofNat (min name.size 60))), (128, .cut), (134, .i (Int.ofNat (min text.size 60))), (135, .cut), (141, .i (Int.ofNat (min ne.length 70))), (142, .cut)]
    [(.exit 0, qaE name text k1 k2 k3 k4 k5 k6 a b c d w e f ty ex ru ca ne acc m0), (.exit 2, qbE name text k1 k2 k3 k4 k5 k6 a b c d w e f ty ru ca ne r1 acc1 m1), (.exit 4, qcE name text k1 k2 k3 k4 k5 k6 a b c d w e f ty ru ca ne acc1 m1 acc2 m2), (.exit 6, qdE name text k1 k2 k3 k4 k5 k6 a b c d w e f ty ru ca ne acc1 acc2 m1 m2 acc3 m3)]
    (pf14 (g1 M (by omega)) (show 0 + m0 ≤ acc.length by omega) (show Gam.pureD (callF tab ext M) 18 [.agg [.sl false 6 (acc.take m0)]] = some (.agg [.sl false 6 r1]) by rw [List.take_of_length_le (by omega)]; exact hc1 M (by omega)) (g2 M (by omega)) (g3 M (by omega)) (g4 M (by omega)) (hc2 M (by omega)) (hc M (by omega)) (min_int name.size 60) (cut_ok name.size 60) (min_int text.size 60) (cut_ok text.size 60) (min_int ne.length 70) (cut_ok ne.length 70))
    (x := .agg [strX (cutT 60 name), num k1, num k2, num k3, num k4, num k5, num k6, strX (cutT 60 text), num a', num b', num c', num d', .sl false 1 w', .sl false 7 e', .sl false 11 f', .bs 0 0 m3, .bs 1 0 m1, .sl false 6 r2, .bs 2 0 m2, .sl false 1 (ne.take (min ne.length 70))]) (bx := [.row 7 acc3, .row 5 acc1, .row 2 acc2]) (by kernel_rfl) hd

end Go.Proofs.YtbfnfldmnombgaaGreatDoor

/- Nodes, cut to their sizes. -/
namespace Go.Proofs.YtbfnfldmnombgaaGreatDoor
open Go.Em
set_option maxRecDepth 100000

/-- A node: its numbers and texts; what the rest holds stays as it is. -/
structure Nod where
  name : ByteArray
  kind : Int
  schema : Int
  result : Int
  number : Int
  time : Int
  limit : Int
  text : ByteArray
  ty : Int × Int × Int × Int
  words : List (List X)
  elem : List (List X)
  fields : List (List X)
  types : List (List X)
  exprs : List (List X)
  calls : List (List X)
  rules : List (List X)
  next : List (List X)
def Nod.cells (n : Nod) : List X := [strX n.name, num n.kind, num n.schema, num n.result, num n.number, num n.time, num n.limit, strX n.text, num n.ty.1, num n.ty.2.1, num n.ty.2.2.1, num n.ty.2.2.2, .sl false 1 n.words, .sl false 7 n.elem, .sl false 11 n.fields, .sl false 7 n.types, .sl false 5 n.exprs, .sl false 6 n.rules, .sl false 2 n.calls, .sl false 1 n.next]
def isNode (c : List X) : Prop := ∃ (name : ByteArray) (k1 k2 k3 k4 k5 k6 : Int) (text : ByteArray) (T : List X) (ty ex ru ca ne : List (List X)), c = [strX name, num k1, num k2, num k3, num k4, num k5, num k6, strX text] ++ (T ++ [.sl false 7 ty, .sl false 5 ex, .sl false 6 ru, .sl false 2 ca, .sl false 1 ne]) ∧ isTyp 3 T ∧ (∀ x, x ∈ ty → isTyp 3 x) ∧ (∀ x, x ∈ ex → isExp 3 x) ∧ (∀ x, x ∈ ru → isRule x) ∧ ∀ x, x ∈ ca → isCall x
theorem node_of {c : List X} (h : isNode c) : ∃ nd nd' : Nod, c = nd.cells ∧ ∀ N, 220 ≤ N → Gam.pureD (callF tab ext N) 6 [.agg nd.cells] = some (.agg nd'.cells) := by
  obtain ⟨name, k1, k2, k3, k4, k5, k6, text, T, ty, ex, ru, ca, ne, rfl, hT, hty, hex, hru, hca⟩ := h
  obtain ⟨a, b, c, d, w, e, f, a', b', c', d', w', e', f', ty', ex', ru', ca', ne', rfl, hc⟩ := short_node name text k1 k2 k3 k4 k5 k6 T ty ex ru ca ne hT hty hex hru hca
  exact ⟨⟨name, k1, k2, k3, k4, k5, k6, text, (a, b, c, d), w, e, f, ty, ex, ca, ru, ne⟩, ⟨cutT 60 name, k1, k2, k3, k4, k5, k6, cutT 60 text, (a', b', c', d'), w', e', f', ty', ex', ca', ru', ne'⟩, rfl, hc⟩
end Go.Proofs.YtbfnfldmnombgaaGreatDoor

/- The arguments of the laws: what reads as data of their types is a node, a state, an input. -/
namespace Go.Proofs.YtbfnfldmnombgaaGreatDoor
open Go.Em Go.RowKit
set_option maxRecDepth 100000

theorem Tryz.own : ownKnob Tryz.prog.godebug = none := by kernel_rfl
theorem Tryz.laidOut : laidOutB Tryz.prog = true := by kernel_rfl
theorem Tryz.rowed : mapsRowed Tryz.prog = true := by kernel_rfl
def tys : List TypeId := [3, 4, 9, 35, 37, 56, 22, 23, 24, 26, 27, 28, 30, 31, 32, 34, 49, 44, 45, 47, 51, 53, 58, 75, 107, 77, 80, 105]
theorem tys_ok : dataTys Tryz.prog tys = true := by kernel_rfl
theorem tys_size : tys.all (fun t => decide (t < Tryz.prog.types.size)) = true := by kernel_rfl
theorem tys_lt {t : TypeId} (h : t ∈ tys) : t < Tryz.prog.types.size := of_decide_eq_true (List.all_eq_true.1 tys_size t h)
theorem tys_kids : Kids Tryz.prog (fun t => t ∈ tys ∧ t < Tryz.prog.types.size) := kids_data (kids_rows Tryz.laidOut Tryz.rowed) tys_ok
def fieldsOf (P : Program) (t : TypeId) : Array Field := match P.underlying t with
  | some (.struct fs) => fs
  | _ => #[]
theorem under3 : Tryz.prog.underlying 3 = some (.int .i64) := by kernel_rfl
theorem under4 : Tryz.prog.underlying 4 = some .bool := by kernel_rfl
theorem under9 : Tryz.prog.underlying 9 = some .string := by kernel_rfl
theorem under37 : Tryz.prog.underlying 37 = some (.struct (fieldsOf Tryz.prog 37)) := by kernel_rfl
theorem fields37 : (fieldsOf Tryz.prog 37).toList.map (·.type) = [3, 3, 35] := by kernel_rfl
theorem under26 : Tryz.prog.underlying 26 = some (.struct (fieldsOf Tryz.prog 26)) := by kernel_rfl
theorem fields26 : (fieldsOf Tryz.prog 26).toList.map (·.type) = [3, 3, 3, 3, 22, 23, 24] := by kernel_rfl
theorem under30 : Tryz.prog.underlying 30 = some (.struct (fieldsOf Tryz.prog 30)) := by kernel_rfl
theorem fields30 : (fieldsOf Tryz.prog 30).toList.map (·.type) = [28] := by kernel_rfl
theorem under34 : Tryz.prog.underlying 34 = some (.struct (fieldsOf Tryz.prog 34)) := by kernel_rfl
theorem fields34 : (fieldsOf Tryz.prog 34).toList.map (·.type) = [9, 3, 3, 3, 3, 3, 3, 9, 26, 23, 27, 30, 31, 32] := by kernel_rfl
theorem under49 : Tryz.prog.underlying 49 = some (.struct (fieldsOf Tryz.prog 49)) := by kernel_rfl
theorem fields49 : (fieldsOf Tryz.prog 49).toList.map (·.type) = [3, 32] := by kernel_rfl
theorem under47 : Tryz.prog.underlying 47 = some (.struct (fieldsOf Tryz.prog 47)) := by kernel_rfl
theorem fields47 : (fieldsOf Tryz.prog 47).toList.map (·.type) = [3, 3, 3, 9, 44, 45] := by kernel_rfl
theorem under51 : Tryz.prog.underlying 51 = some (.struct (fieldsOf Tryz.prog 51)) := by kernel_rfl
theorem fields51 : (fieldsOf Tryz.prog 51).toList.map (·.type) = [49, 3, 32, 47] := by kernel_rfl
theorem under53 : Tryz.prog.underlying 53 = some (.struct (fieldsOf Tryz.prog 53)) := by kernel_rfl
theorem fields53 : (fieldsOf Tryz.prog 53).toList.map (·.type) = [3, 3, 49, 51, 3, 4, 4, 47] := by kernel_rfl
theorem under58 : Tryz.prog.underlying 58 = some (.struct (fieldsOf Tryz.prog 58)) := by kernel_rfl
theorem fields58 : (fieldsOf Tryz.prog 58).toList.map (·.type) = [47, 3, 3, 56, 44] := by kernel_rfl
theorem under75 : Tryz.prog.underlying 75 = some (.struct (fieldsOf Tryz.prog 75)) := by kernel_rfl
theorem fields75 : (fieldsOf Tryz.prog 75).toList.map (·.type) = [3, 3, 9, 44, 27] := by kernel_rfl
theorem under107 : Tryz.prog.underlying 107 = some (.struct (fieldsOf Tryz.prog 107)) := by kernel_rfl
theorem fields107 : (fieldsOf Tryz.prog 107).toList.map (·.type) = [9, 47] := by kernel_rfl
theorem under77 : Tryz.prog.underlying 77 = some (.struct (fieldsOf Tryz.prog 77)) := by kernel_rfl
theorem fields77 : (fieldsOf Tryz.prog 77).toList.map (·.type) = [9, 75] := by kernel_rfl
theorem under80 : Tryz.prog.underlying 80 = some (.struct (fieldsOf Tryz.prog 80)) := by kernel_rfl
theorem fields80 : (fieldsOf Tryz.prog 80).toList.map (·.type) = [9, 30] := by kernel_rfl
theorem under105 : Tryz.prog.underlying 105 = some (.struct (fieldsOf Tryz.prog 105)) := by kernel_rfl
theorem fields105 : (fieldsOf Tryz.prog 105).toList.map (·.type) = [3, 9, 3, 26, 44] := by kernel_rfl
theorem under35 : Tryz.prog.underlying 35 = some (.slice 58) := by kernel_rfl
theorem under56 : Tryz.prog.underlying 56 = some (.slice 51) := by kernel_rfl
theorem under22 : Tryz.prog.underlying 22 = some (.slice 9) := by kernel_rfl
theorem under23 : Tryz.prog.underlying 23 = some (.slice 26) := by kernel_rfl
theorem under24 : Tryz.prog.underlying 24 = some (.slice 105) := by kernel_rfl
theorem under27 : Tryz.prog.underlying 27 = some (.slice 75) := by kernel_rfl
theorem under28 : Tryz.prog.underlying 28 = some (.slice 77) := by kernel_rfl
theorem under31 : Tryz.prog.underlying 31 = some (.slice 80) := by kernel_rfl
theorem under32 : Tryz.prog.underlying 32 = some (.slice 3) := by kernel_rfl
theorem under44 : Tryz.prog.underlying 44 = some (.slice 47) := by kernel_rfl
theorem under45 : Tryz.prog.underlying 45 = some (.slice 107) := by kernel_rfl
theorem cells3 : Tryz.prog.cellsOf 3 = 1 := by kernel_rfl
theorem cells9 : Tryz.prog.cellsOf 9 = 1 := by kernel_rfl
theorem cells26 : Tryz.prog.cellsOf 26 = 7 := by kernel_rfl
theorem cells47 : Tryz.prog.cellsOf 47 = 6 := by kernel_rfl
theorem cells51 : Tryz.prog.cellsOf 51 = 10 := by kernel_rfl
theorem cells58 : Tryz.prog.cellsOf 58 = 10 := by kernel_rfl
theorem cells75 : Tryz.prog.cellsOf 75 = 5 := by kernel_rfl
theorem cells107 : Tryz.prog.cellsOf 107 = 7 := by kernel_rfl
theorem cells77 : Tryz.prog.cellsOf 77 = 6 := by kernel_rfl
theorem cells80 : Tryz.prog.cellsOf 80 = 2 := by kernel_rfl
theorem cells105 : Tryz.prog.cellsOf 105 = 11 := by kernel_rfl

variable {n : Nat} {xs : List X}
theorem shape_num (h : Shape Tryz.prog n 3 xs) : ∃ z, xs = [num z] := by
  obtain ⟨v, rfl, _⟩ := shape_int under3 h
  exact ⟨v, rfl⟩
theorem shape_text (h : Shape Tryz.prog n 9 xs) : ∃ s, xs = [strX s] := by
  obtain ⟨v, rfl, _⟩ := shape_string under9 h
  exact ⟨v, rfl⟩
theorem shape_flag (h : Shape Tryz.prog n 4 xs) : ∃ b, xs = [boolX b] := shape_bool under4 h
theorem shape_sl35 (h : Shape Tryz.prog n 35 xs) : ∃ es, xs = [.sl false 10 es] ∧ ∃ m, m < n ∧ ∀ c, c ∈ es → Shape Tryz.prog m 58 c := by
  obtain ⟨es, rfl, _, h⟩ := shape_slice under35 h
  rw [cells58]
  exact ⟨es, rfl, h⟩
theorem shape_sl56 (h : Shape Tryz.prog n 56 xs) : ∃ es, xs = [.sl false 10 es] ∧ ∃ m, m < n ∧ ∀ c, c ∈ es → Shape Tryz.prog m 51 c := by
  obtain ⟨es, rfl, _, h⟩ := shape_slice under56 h
  rw [cells51]
  exact ⟨es, rfl, h⟩
theorem shape_sl22 (h : Shape Tryz.prog n 22 xs) : ∃ es, xs = [.sl false 1 es] ∧ ∃ m, m < n ∧ ∀ c, c ∈ es → Shape Tryz.prog m 9 c := by
  obtain ⟨es, rfl, _, h⟩ := shape_slice under22 h
  rw [cells9]
  exact ⟨es, rfl, h⟩
theorem shape_sl23 (h : Shape Tryz.prog n 23 xs) : ∃ es, xs = [.sl false 7 es] ∧ ∃ m, m < n ∧ ∀ c, c ∈ es → Shape Tryz.prog m 26 c := by
  obtain ⟨es, rfl, _, h⟩ := shape_slice under23 h
  rw [cells26]
  exact ⟨es, rfl, h⟩
theorem shape_sl24 (h : Shape Tryz.prog n 24 xs) : ∃ es, xs = [.sl false 11 es] ∧ ∃ m, m < n ∧ ∀ c, c ∈ es → Shape Tryz.prog m 105 c := by
  obtain ⟨es, rfl, _, h⟩ := shape_slice under24 h
  rw [cells105]
  exact ⟨es, rfl, h⟩
theorem shape_sl27 (h : Shape Tryz.prog n 27 xs) : ∃ es, xs = [.sl false 5 es] ∧ ∃ m, m < n ∧ ∀ c, c ∈ es → Shape Tryz.prog m 75 c := by
  obtain ⟨es, rfl, _, h⟩ := shape_slice under27 h
  rw [cells75]
  exact ⟨es, rfl, h⟩
theorem shape_sl28 (h : Shape Tryz.prog n 28 xs) : ∃ es, xs = [.sl false 6 es] ∧ ∃ m, m < n ∧ ∀ c, c ∈ es → Shape Tryz.prog m 77 c := by
  obtain ⟨es, rfl, _, h⟩ := shape_slice under28 h
  rw [cells77]
  exact ⟨es, rfl, h⟩
theorem shape_sl31 (h : Shape Tryz.prog n 31 xs) : ∃ es, xs = [.sl false 2 es] ∧ ∃ m, m < n ∧ ∀ c, c ∈ es → Shape Tryz.prog m 80 c := by
  obtain ⟨es, rfl, _, h⟩ := shape_slice under31 h
  rw [cells80]
  exact ⟨es, rfl, h⟩
theorem shape_sl32 (h : Shape Tryz.prog n 32 xs) : ∃ es, xs = [.sl false 1 es] ∧ ∃ m, m < n ∧ ∀ c, c ∈ es → Shape Tryz.prog m 3 c := by
  obtain ⟨es, rfl, _, h⟩ := shape_slice under32 h
  rw [cells3]
  exact ⟨es, rfl, h⟩
theorem shape_sl44 (h : Shape Tryz.prog n 44 xs) : ∃ es, xs = [.sl false 6 es] ∧ ∃ m, m < n ∧ ∀ c, c ∈ es → Shape Tryz.prog m 47 c := by
  obtain ⟨es, rfl, _, h⟩ := shape_slice under44 h
  rw [cells47]
  exact ⟨es, rfl, h⟩
theorem shape_sl45 (h : Shape Tryz.prog n 45 xs) : ∃ es, xs = [.sl false 7 es] ∧ ∃ m, m < n ∧ ∀ c, c ∈ es → Shape Tryz.prog m 107 c := by
  obtain ⟨es, rfl, _, h⟩ := shape_slice under45 h
  rw [cells107]
  exact ⟨es, rfl, h⟩
theorem shape_st37 (h : Shape Tryz.prog n 37 xs) : ∃ m, m < n ∧ ∃ x0 x1 x2, xs = x0 ++ (x1 ++ (x2 ++ [])) ∧ Shape Tryz.prog m 3 x0 ∧ Shape Tryz.prog m 3 x1 ∧ Shape Tryz.prog m 35 x2 := by
  obtain ⟨m, hm, hk⟩ := shape_struct under37 h
  rw [fields37] at hk
  obtain ⟨x0, r0, rfl, h0, hk⟩ := hk
  obtain ⟨x1, r1, rfl, h1, hk⟩ := hk
  obtain ⟨x2, r2, rfl, h2, hk⟩ := hk
  have hk : r2 = [] := hk
  subst hk
  exact ⟨m, hm, x0, x1, x2, rfl, h0, h1, h2⟩
theorem shape_st26 (h : Shape Tryz.prog n 26 xs) : ∃ m, m < n ∧ ∃ x0 x1 x2 x3 x4 x5 x6, xs = x0 ++ (x1 ++ (x2 ++ (x3 ++ (x4 ++ (x5 ++ (x6 ++ [])))))) ∧ Shape Tryz.prog m 3 x0 ∧ Shape Tryz.prog m 3 x1 ∧ Shape Tryz.prog m 3 x2 ∧ Shape Tryz.prog m 3 x3 ∧ Shape Tryz.prog m 22 x4 ∧ Shape Tryz.prog m 23 x5 ∧ Shape Tryz.prog m 24 x6 := by
  obtain ⟨m, hm, hk⟩ := shape_struct under26 h
  rw [fields26] at hk
  obtain ⟨x0, r0, rfl, h0, hk⟩ := hk
  obtain ⟨x1, r1, rfl, h1, hk⟩ := hk
  obtain ⟨x2, r2, rfl, h2, hk⟩ := hk
  obtain ⟨x3, r3, rfl, h3, hk⟩ := hk
  obtain ⟨x4, r4, rfl, h4, hk⟩ := hk
  obtain ⟨x5, r5, rfl, h5, hk⟩ := hk
  obtain ⟨x6, r6, rfl, h6, hk⟩ := hk
  have hk : r6 = [] := hk
  subst hk
  exact ⟨m, hm, x0, x1, x2, x3, x4, x5, x6, rfl, h0, h1, h2, h3, h4, h5, h6⟩
theorem shape_st30 (h : Shape Tryz.prog n 30 xs) : ∃ m, m < n ∧ ∃ x0, xs = x0 ++ [] ∧ Shape Tryz.prog m 28 x0 := by
  obtain ⟨m, hm, hk⟩ := shape_struct under30 h
  rw [fields30] at hk
  obtain ⟨x0, r0, rfl, h0, hk⟩ := hk
  have hk : r0 = [] := hk
  subst hk
  exact ⟨m, hm, x0, rfl, h0⟩
theorem shape_st34 (h : Shape Tryz.prog n 34 xs) : ∃ m, m < n ∧ ∃ x0 x1 x2 x3 x4 x5 x6 x7 x8 x9 x10 x11 x12 x13, xs = x0 ++ (x1 ++ (x2 ++ (x3 ++ (x4 ++ (x5 ++ (x6 ++ (x7 ++ (x8 ++ (x9 ++ (x10 ++ (x11 ++ (x12 ++ (x13 ++ []))))))))))))) ∧ Shape Tryz.prog m 9 x0 ∧ Shape Tryz.prog m 3 x1 ∧ Shape Tryz.prog m 3 x2 ∧ Shape Tryz.prog m 3 x3 ∧ Shape Tryz.prog m 3 x4 ∧ Shape Tryz.prog m 3 x5 ∧ Shape Tryz.prog m 3 x6 ∧ Shape Tryz.prog m 9 x7 ∧ Shape Tryz.prog m 26 x8 ∧ Shape Tryz.prog m 23 x9 ∧ Shape Tryz.prog m 27 x10 ∧ Shape Tryz.prog m 30 x11 ∧ Shape Tryz.prog m 31 x12 ∧ Shape Tryz.prog m 32 x13 := by
  obtain ⟨m, hm, hk⟩ := shape_struct under34 h
  rw [fields34] at hk
  obtain ⟨x0, r0, rfl, h0, hk⟩ := hk
  obtain ⟨x1, r1, rfl, h1, hk⟩ := hk
  obtain ⟨x2, r2, rfl, h2, hk⟩ := hk
  obtain ⟨x3, r3, rfl, h3, hk⟩ := hk
  obtain ⟨x4, r4, rfl, h4, hk⟩ := hk
  obtain ⟨x5, r5, rfl, h5, hk⟩ := hk
  obtain ⟨x6, r6, rfl, h6, hk⟩ := hk
  obtain ⟨x7, r7, rfl, h7, hk⟩ := hk
  obtain ⟨x8, r8, rfl, h8, hk⟩ := hk
  obtain ⟨x9, r9, rfl, h9, hk⟩ := hk
  obtain ⟨x10, r10, rfl, h10, hk⟩ := hk
  obtain ⟨x11, r11, rfl, h11, hk⟩ := hk
  obtain ⟨x12, r12, rfl, h12, hk⟩ := hk
  obtain ⟨x13, r13, rfl, h13, hk⟩ := hk
  have hk : r13 = [] := hk
  subst hk
  exact ⟨m, hm, x0, x1, x2, x3, x4, x5, x6, x7, x8, x9, x10, x11, x12, x13, rfl, h0, h1, h2, h3, h4, h5, h6, h7, h8, h9, h10, h11, h12, h13⟩
theorem shape_st49 (h : Shape Tryz.prog n 49 xs) : ∃ m, m < n ∧ ∃ x0 x1, xs = x0 ++ (x1 ++ []) ∧ Shape Tryz.prog m 3 x0 ∧ Shape Tryz.prog m 32 x1 := by
  obtain ⟨m, hm, hk⟩ := shape_struct under49 h
  rw [fields49] at hk
  obtain ⟨x0, r0, rfl, h0, hk⟩ := hk
  obtain ⟨x1, r1, rfl, h1, hk⟩ := hk
  have hk : r1 = [] := hk
  subst hk
  exact ⟨m, hm, x0, x1, rfl, h0, h1⟩
theorem shape_st47 (h : Shape Tryz.prog n 47 xs) : ∃ m, m < n ∧ ∃ x0 x1 x2 x3 x4 x5, xs = x0 ++ (x1 ++ (x2 ++ (x3 ++ (x4 ++ (x5 ++ []))))) ∧ Shape Tryz.prog m 3 x0 ∧ Shape Tryz.prog m 3 x1 ∧ Shape Tryz.prog m 3 x2 ∧ Shape Tryz.prog m 9 x3 ∧ Shape Tryz.prog m 44 x4 ∧ Shape Tryz.prog m 45 x5 := by
  obtain ⟨m, hm, hk⟩ := shape_struct under47 h
  rw [fields47] at hk
  obtain ⟨x0, r0, rfl, h0, hk⟩ := hk
  obtain ⟨x1, r1, rfl, h1, hk⟩ := hk
  obtain ⟨x2, r2, rfl, h2, hk⟩ := hk
  obtain ⟨x3, r3, rfl, h3, hk⟩ := hk
  obtain ⟨x4, r4, rfl, h4, hk⟩ := hk
  obtain ⟨x5, r5, rfl, h5, hk⟩ := hk
  have hk : r5 = [] := hk
  subst hk
  exact ⟨m, hm, x0, x1, x2, x3, x4, x5, rfl, h0, h1, h2, h3, h4, h5⟩
theorem shape_st51 (h : Shape Tryz.prog n 51 xs) : ∃ m, m < n ∧ ∃ x0 x1 x2 x3, xs = x0 ++ (x1 ++ (x2 ++ (x3 ++ []))) ∧ Shape Tryz.prog m 49 x0 ∧ Shape Tryz.prog m 3 x1 ∧ Shape Tryz.prog m 32 x2 ∧ Shape Tryz.prog m 47 x3 := by
  obtain ⟨m, hm, hk⟩ := shape_struct under51 h
  rw [fields51] at hk
  obtain ⟨x0, r0, rfl, h0, hk⟩ := hk
  obtain ⟨x1, r1, rfl, h1, hk⟩ := hk
  obtain ⟨x2, r2, rfl, h2, hk⟩ := hk
  obtain ⟨x3, r3, rfl, h3, hk⟩ := hk
  have hk : r3 = [] := hk
  subst hk
  exact ⟨m, hm, x0, x1, x2, x3, rfl, h0, h1, h2, h3⟩
theorem shape_st53 (h : Shape Tryz.prog n 53 xs) : ∃ m, m < n ∧ ∃ x0 x1 x2 x3 x4 x5 x6 x7, xs = x0 ++ (x1 ++ (x2 ++ (x3 ++ (x4 ++ (x5 ++ (x6 ++ (x7 ++ []))))))) ∧ Shape Tryz.prog m 3 x0 ∧ Shape Tryz.prog m 3 x1 ∧ Shape Tryz.prog m 49 x2 ∧ Shape Tryz.prog m 51 x3 ∧ Shape Tryz.prog m 3 x4 ∧ Shape Tryz.prog m 4 x5 ∧ Shape Tryz.prog m 4 x6 ∧ Shape Tryz.prog m 47 x7 := by
  obtain ⟨m, hm, hk⟩ := shape_struct under53 h
  rw [fields53] at hk
  obtain ⟨x0, r0, rfl, h0, hk⟩ := hk
  obtain ⟨x1, r1, rfl, h1, hk⟩ := hk
  obtain ⟨x2, r2, rfl, h2, hk⟩ := hk
  obtain ⟨x3, r3, rfl, h3, hk⟩ := hk
  obtain ⟨x4, r4, rfl, h4, hk⟩ := hk
  obtain ⟨x5, r5, rfl, h5, hk⟩ := hk
  obtain ⟨x6, r6, rfl, h6, hk⟩ := hk
  obtain ⟨x7, r7, rfl, h7, hk⟩ := hk
  have hk : r7 = [] := hk
  subst hk
  exact ⟨m, hm, x0, x1, x2, x3, x4, x5, x6, x7, rfl, h0, h1, h2, h3, h4, h5, h6, h7⟩
theorem shape_st58 (h : Shape Tryz.prog n 58 xs) : ∃ m, m < n ∧ ∃ x0 x1 x2 x3 x4, xs = x0 ++ (x1 ++ (x2 ++ (x3 ++ (x4 ++ [])))) ∧ Shape Tryz.prog m 47 x0 ∧ Shape Tryz.prog m 3 x1 ∧ Shape Tryz.prog m 3 x2 ∧ Shape Tryz.prog m 56 x3 ∧ Shape Tryz.prog m 44 x4 := by
  obtain ⟨m, hm, hk⟩ := shape_struct under58 h
  rw [fields58] at hk
  obtain ⟨x0, r0, rfl, h0, hk⟩ := hk
  obtain ⟨x1, r1, rfl, h1, hk⟩ := hk
  obtain ⟨x2, r2, rfl, h2, hk⟩ := hk
  obtain ⟨x3, r3, rfl, h3, hk⟩ := hk
  obtain ⟨x4, r4, rfl, h4, hk⟩ := hk
  have hk : r4 = [] := hk
  subst hk
  exact ⟨m, hm, x0, x1, x2, x3, x4, rfl, h0, h1, h2, h3, h4⟩
theorem shape_st75 (h : Shape Tryz.prog n 75 xs) : ∃ m, m < n ∧ ∃ x0 x1 x2 x3 x4, xs = x0 ++ (x1 ++ (x2 ++ (x3 ++ (x4 ++ [])))) ∧ Shape Tryz.prog m 3 x0 ∧ Shape Tryz.prog m 3 x1 ∧ Shape Tryz.prog m 9 x2 ∧ Shape Tryz.prog m 44 x3 ∧ Shape Tryz.prog m 27 x4 := by
  obtain ⟨m, hm, hk⟩ := shape_struct under75 h
  rw [fields75] at hk
  obtain ⟨x0, r0, rfl, h0, hk⟩ := hk
  obtain ⟨x1, r1, rfl, h1, hk⟩ := hk
  obtain ⟨x2, r2, rfl, h2, hk⟩ := hk
  obtain ⟨x3, r3, rfl, h3, hk⟩ := hk
  obtain ⟨x4, r4, rfl, h4, hk⟩ := hk
  have hk : r4 = [] := hk
  subst hk
  exact ⟨m, hm, x0, x1, x2, x3, x4, rfl, h0, h1, h2, h3, h4⟩
theorem shape_st107 (h : Shape Tryz.prog n 107 xs) : ∃ m, m < n ∧ ∃ x0 x1, xs = x0 ++ (x1 ++ []) ∧ Shape Tryz.prog m 9 x0 ∧ Shape Tryz.prog m 47 x1 := by
  obtain ⟨m, hm, hk⟩ := shape_struct under107 h
  rw [fields107] at hk
  obtain ⟨x0, r0, rfl, h0, hk⟩ := hk
  obtain ⟨x1, r1, rfl, h1, hk⟩ := hk
  have hk : r1 = [] := hk
  subst hk
  exact ⟨m, hm, x0, x1, rfl, h0, h1⟩
theorem shape_st77 (h : Shape Tryz.prog n 77 xs) : ∃ m, m < n ∧ ∃ x0 x1, xs = x0 ++ (x1 ++ []) ∧ Shape Tryz.prog m 9 x0 ∧ Shape Tryz.prog m 75 x1 := by
  obtain ⟨m, hm, hk⟩ := shape_struct under77 h
  rw [fields77] at hk
  obtain ⟨x0, r0, rfl, h0, hk⟩ := hk
  obtain ⟨x1, r1, rfl, h1, hk⟩ := hk
  have hk : r1 = [] := hk
  subst hk
  exact ⟨m, hm, x0, x1, rfl, h0, h1⟩
theorem shape_st80 (h : Shape Tryz.prog n 80 xs) : ∃ m, m < n ∧ ∃ x0 x1, xs = x0 ++ (x1 ++ []) ∧ Shape Tryz.prog m 9 x0 ∧ Shape Tryz.prog m 30 x1 := by
  obtain ⟨m, hm, hk⟩ := shape_struct under80 h
  rw [fields80] at hk
  obtain ⟨x0, r0, rfl, h0, hk⟩ := hk
  obtain ⟨x1, r1, rfl, h1, hk⟩ := hk
  have hk : r1 = [] := hk
  subst hk
  exact ⟨m, hm, x0, x1, rfl, h0, h1⟩
theorem shape_st105 (h : Shape Tryz.prog n 105 xs) : ∃ m, m < n ∧ ∃ x0 x1 x2 x3 x4, xs = x0 ++ (x1 ++ (x2 ++ (x3 ++ (x4 ++ [])))) ∧ Shape Tryz.prog m 3 x0 ∧ Shape Tryz.prog m 9 x1 ∧ Shape Tryz.prog m 3 x2 ∧ Shape Tryz.prog m 26 x3 ∧ Shape Tryz.prog m 44 x4 := by
  obtain ⟨m, hm, hk⟩ := shape_struct under105 h
  rw [fields105] at hk
  obtain ⟨x0, r0, rfl, h0, hk⟩ := hk
  obtain ⟨x1, r1, rfl, h1, hk⟩ := hk
  obtain ⟨x2, r2, rfl, h2, hk⟩ := hk
  obtain ⟨x3, r3, rfl, h3, hk⟩ := hk
  obtain ⟨x4, r4, rfl, h4, hk⟩ := hk
  have hk : r4 = [] := hk
  subst hk
  exact ⟨m, hm, x0, x1, x2, x3, x4, rfl, h0, h1, h2, h3, h4⟩

theorem shape_val : ∀ (n : Nat) (xs : List X), Shape Tryz.prog n 47 xs → ∃ v : Val, xs = v.cells := by
  intro n
  induction n using Nat.strongRecOn with
  | _ n ih =>
    intro xs h
    obtain ⟨m, hm, x0, x1, x2, x3, x4, x5, rfl, h0, h1, h2, h3, h4, h5⟩ := shape_st47 h
    obtain ⟨k, rfl⟩ := shape_num h0
    obtain ⟨i, rfl⟩ := shape_num h1
    obtain ⟨s, rfl⟩ := shape_num h2
    obtain ⟨t, rfl⟩ := shape_text h3
    obtain ⟨es, rfl, m1, hm1, he⟩ := shape_sl44 h4
    obtain ⟨fs, rfl, m2, hm2, hf⟩ := shape_sl45 h5
    obtain ⟨l, rfl⟩ := list_of Val.cells fun c hc => ih m1 (by omega) c (he c hc)
    obtain ⟨f, rfl⟩ := list_of (fun p : ByteArray × Val => strX p.1 :: p.2.cells) (es := fs) fun c hc => by
      obtain ⟨m3, hm3, y0, y1, rfl, g0, g1⟩ := shape_st107 (hf c hc)
      obtain ⟨nm, rfl⟩ := shape_text g0
      obtain ⟨v, rfl⟩ := ih m3 (by omega) y1 g1
      exact ⟨(nm, v), by simp⟩
    exact ⟨.mk k i s t l f, by rw [Val.cells, cellsL_eq, cellsF_eq]; rfl⟩
theorem shape_vals (h : Shape Tryz.prog n 44 xs) : ∃ l : List Val, xs = [.sl false 6 (cellsL l)] := by
  obtain ⟨es, rfl, m, _, he⟩ := shape_sl44 h
  obtain ⟨l, rfl⟩ := list_of Val.cells fun c hc => shape_val m c (he c hc)
  exact ⟨l, by rw [cellsL_eq]⟩
theorem shape_isVals {es : List (List X)} {m : Nat} (h : ∀ c, c ∈ es → Shape Tryz.prog m 47 c) : ∀ c, c ∈ es → isVal c := fun c hc => shape_val m c (h c hc)
theorem shape_ints (h : Shape Tryz.prog n 32 xs) : ∃ l : List Int, xs = [.sl false 1 (intsC l)] := by
  obtain ⟨es, rfl, m, _, he⟩ := shape_sl32 h
  obtain ⟨l, rfl⟩ := list_of (fun z : Int => [num z]) fun c hc => shape_num (he c hc)
  exact ⟨l, rfl⟩
theorem shape_stp (h : Shape Tryz.prog n 49 xs) : ∃ s : Stp, xs = s.cells := by
  obtain ⟨m, hm, x0, x1, rfl, h0, h1⟩ := shape_st49 h
  obtain ⟨e, rfl⟩ := shape_num h0
  obtain ⟨p, rfl⟩ := shape_ints h1
  exact ⟨⟨e, p⟩, rfl⟩
theorem shape_msg (h : Shape Tryz.prog n 51 xs) : ∃ s : Msg, xs = s.cells := by
  obtain ⟨m, hm, x0, x1, x2, x3, rfl, h0, h1, h2, h3⟩ := shape_st51 h
  obtain ⟨s, rfl⟩ := shape_stp h0
  obtain ⟨k, rfl⟩ := shape_num h1
  obtain ⟨p, rfl⟩ := shape_ints h2
  obtain ⟨v, rfl⟩ := shape_val _ _ h3
  exact ⟨⟨s, k, p, v⟩, by simp [Msg.cells, Stp.cells]⟩
theorem shape_msgs (h : Shape Tryz.prog n 56 xs) : ∃ l : List Msg, xs = [.sl false 10 (msgsC l)] := by
  obtain ⟨es, rfl, m, _, he⟩ := shape_sl56 h
  obtain ⟨l, rfl⟩ := list_of Msg.cells fun c hc => shape_msg (he c hc)
  exact ⟨l, rfl⟩
theorem shape_slt (h : Shape Tryz.prog n 58 xs) : ∃ s : Slt, xs = s.cells := by
  obtain ⟨m, hm, x0, x1, x2, x3, x4, rfl, h0, h1, h2, h3, h4⟩ := shape_st58 h
  obtain ⟨⟨k, i, s, t, l, f⟩, rfl⟩ := shape_val _ _ h0
  obtain ⟨a, rfl⟩ := shape_num h1
  obtain ⟨b, rfl⟩ := shape_num h2
  obtain ⟨ms, rfl⟩ := shape_msgs h3
  obtain ⟨vs, rfl⟩ := shape_vals h4
  exact ⟨⟨.mk k i s t l f, a, b, ms, vs⟩, rfl⟩
theorem shape_stt (h : Shape Tryz.prog n 37 xs) : ∃ s : Stt, xs = s.cells := by
  obtain ⟨m, hm, x0, x1, x2, rfl, h0, h1, h2⟩ := shape_st37 h
  obtain ⟨a, rfl⟩ := shape_num h0
  obtain ⟨b, rfl⟩ := shape_num h1
  obtain ⟨es, rfl, m', _, he⟩ := shape_sl35 h2
  obtain ⟨l, rfl⟩ := list_of Slt.cells fun c hc => shape_slt (he c hc)
  exact ⟨⟨a, b, l⟩, rfl⟩
theorem shape_inp (h : Shape Tryz.prog n 53 xs) : ∃ i : Inp, xs = i.cells := by
  obtain ⟨m, hm, x0, x1, x2, x3, x4, x5, x6, x7, rfl, h0, h1, h2, h3, h4, h5, h6, h7⟩ := shape_st53 h
  obtain ⟨a, rfl⟩ := shape_num h0
  obtain ⟨b, rfl⟩ := shape_num h1
  obtain ⟨s, rfl⟩ := shape_stp h2
  obtain ⟨g, rfl⟩ := shape_msg h3
  obtain ⟨x, rfl⟩ := shape_num h4
  obtain ⟨b1, rfl⟩ := shape_flag h5
  obtain ⟨b2, rfl⟩ := shape_flag h6
  obtain ⟨v, rfl⟩ := shape_val _ _ h7
  exact ⟨⟨a, b, s, g, x, b1, b2, v⟩, by simp [Inp.cells, Msg.cells, Stp.cells]⟩
theorem shape_exp : ∀ (k : Nat) {n : Nat} {xs : List X}, Shape Tryz.prog n 75 xs → isExp k xs
  | 0, n, xs, h => by
    obtain ⟨m, hm, x0, x1, x2, x3, x4, rfl, h0, h1, h2, h3, h4⟩ := shape_st75 h
    obtain ⟨o, rfl⟩ := shape_num h0
    obtain ⟨i, rfl⟩ := shape_num h1
    obtain ⟨t, rfl⟩ := shape_text h2
    obtain ⟨vs, rfl, m1, _, hv⟩ := shape_sl44 h3
    obtain ⟨es, rfl, m2, _, he⟩ := shape_sl27 h4
    exact ⟨o, i, t, vs, es, rfl, shape_isVals hv⟩
  | k + 1, n, xs, h => by
    obtain ⟨m, hm, x0, x1, x2, x3, x4, rfl, h0, h1, h2, h3, h4⟩ := shape_st75 h
    obtain ⟨o, rfl⟩ := shape_num h0
    obtain ⟨i, rfl⟩ := shape_num h1
    obtain ⟨t, rfl⟩ := shape_text h2
    obtain ⟨vs, rfl, m1, _, hv⟩ := shape_sl44 h3
    obtain ⟨es, rfl, m2, _, he⟩ := shape_sl27 h4
    exact ⟨o, i, t, vs, es, rfl, shape_isVals hv, fun x hx => shape_exp k (he x hx)⟩
theorem shape_typ : ∀ (k : Nat) {n : Nat} {xs : List X}, Shape Tryz.prog n 26 xs → isTyp k xs
  | 0, n, xs, h => by
    obtain ⟨m, hm, x0, x1, x2, x3, x4, x5, x6, rfl, h0, h1, h2, h3, h4, h5, h6⟩ := shape_st26 h
    obtain ⟨a, rfl⟩ := shape_num h0
    obtain ⟨b, rfl⟩ := shape_num h1
    obtain ⟨c, rfl⟩ := shape_num h2
    obtain ⟨d, rfl⟩ := shape_num h3
    obtain ⟨w, rfl, m1, _, hw⟩ := shape_sl22 h4
    obtain ⟨e, rfl, m2, _, he⟩ := shape_sl23 h5
    obtain ⟨f, rfl, m3, _, hf⟩ := shape_sl24 h6
    exact ⟨a, b, c, d, w, e, f, rfl, fun x hx => shape_text (hw x hx)⟩
  | k + 1, n, xs, h => by
    obtain ⟨m, hm, x0, x1, x2, x3, x4, x5, x6, rfl, h0, h1, h2, h3, h4, h5, h6⟩ := shape_st26 h
    obtain ⟨a, rfl⟩ := shape_num h0
    obtain ⟨b, rfl⟩ := shape_num h1
    obtain ⟨c, rfl⟩ := shape_num h2
    obtain ⟨d, rfl⟩ := shape_num h3
    obtain ⟨w, rfl, m1, _, hw⟩ := shape_sl22 h4
    obtain ⟨e, rfl, m2, _, he⟩ := shape_sl23 h5
    obtain ⟨f, rfl, m3, _, hf⟩ := shape_sl24 h6
    refine ⟨a, b, c, d, w, e, f, rfl, fun x hx => shape_text (hw x hx), fun x hx => shape_typ k (he x hx), fun x hx => ?_⟩
    obtain ⟨m4, _, y0, y1, y2, T, y4, rfl, g0, g1, g2, g3, g4⟩ := shape_st105 (hf x hx)
    obtain ⟨p, rfl⟩ := shape_num g0
    obtain ⟨t, rfl⟩ := shape_text g1
    obtain ⟨y, rfl⟩ := shape_num g2
    obtain ⟨de, rfl, m5, _, hd⟩ := shape_sl44 g4
    exact ⟨p, t, y, T, de, by simp, shape_typ k g3, shape_isVals hd⟩
theorem shape_rule (h : Shape Tryz.prog n 77 xs) : isRule xs := by
  obtain ⟨m, hm, x0, x1, rfl, h0, h1⟩ := shape_st77 h
  obtain ⟨t, rfl⟩ := shape_text h0
  exact ⟨t, x1, by simp, shape_exp 3 h1⟩
theorem shape_rules (h : Shape Tryz.prog n 30 xs) : ∃ es, xs = [.sl false 6 es] ∧ ∀ x, x ∈ es → isRule x := by
  obtain ⟨m, hm, x0, rfl, h0⟩ := shape_st30 h
  obtain ⟨es, rfl, m1, _, he⟩ := shape_sl28 h0
  exact ⟨es, rfl, fun x hx => shape_rule (he x hx)⟩
theorem shape_call (h : Shape Tryz.prog n 80 xs) : isCall xs := by
  obtain ⟨m, hm, x0, x1, rfl, h0, h1⟩ := shape_st80 h
  obtain ⟨t, rfl⟩ := shape_text h0
  obtain ⟨es, rfl, he⟩ := shape_rules h1
  exact ⟨t, es, rfl, he⟩
theorem shape_node (h : Shape Tryz.prog n 34 xs) : isNode xs := by
  obtain ⟨m, hm, x0, x1, x2, x3, x4, x5, x6, x7, T, x9, x10, x11, x12, x13, rfl, h0, h1, h2, h3, h4, h5, h6, h7, h8, h9, h10, h11, h12, h13⟩ := shape_st34 h
  obtain ⟨name, rfl⟩ := shape_text h0
  obtain ⟨k1, rfl⟩ := shape_num h1
  obtain ⟨k2, rfl⟩ := shape_num h2
  obtain ⟨k3, rfl⟩ := shape_num h3
  obtain ⟨k4, rfl⟩ := shape_num h4
  obtain ⟨k5, rfl⟩ := shape_num h5
  obtain ⟨k6, rfl⟩ := shape_num h6
  obtain ⟨text, rfl⟩ := shape_text h7
  obtain ⟨ty, rfl, _, _, hty⟩ := shape_sl23 h9
  obtain ⟨ex, rfl, _, _, hex⟩ := shape_sl27 h10
  obtain ⟨ru, rfl, hru⟩ := shape_rules h11
  obtain ⟨ca, rfl, _, _, hca⟩ := shape_sl31 h12
  obtain ⟨ne, rfl, _, _, hne⟩ := shape_sl32 h13
  exact ⟨name, k1, k2, k3, k4, k5, k6, text, T, ty, ex, ru, ca, ne, by simp, shape_typ 3 h8, fun x hx => shape_typ 3 (hty x hx), fun x hx => shape_exp 3 (hex x hx), hru, fun x hx => shape_call (hca x hx)⟩
end Go.Proofs.YtbfnfldmnombgaaGreatDoor

/- resequencer.Check, and the definition of it. -/
namespace Go.Proofs.YtbfnfldmnombgaaGreatDoor
open Go.Em
set_option maxRecDepth 100000

def Val.kindOf : Val → Int
  | .mk k _ _ _ _ _ => k
def Val.intOf : Val → Int
  | .mk _ i _ _ _ _ => i
def nilV : Val := .mk 0 0 0 ⟨#[]⟩ [] []
/-- A number that does not follow the one before it. -/
def badV (l : Int) (v : Val) : Bool := (v.kindOf != 2) || (decide (v.intOf ≤ l) || decide (v.intOf > 999999999999998))
def lastAt (n : Int) (vs : List Val) : Nat → Int
  | 0 => n
  | j + 1 => (vs.getD j nilV).intOf
def badAt (n : Int) (vs : List Val) (j : Nat) : Bool := badV (lastAt n vs j) (vs.getD j nilV)
theorem getD_of {α : Type} {l : List α} {j : Nat} {d : α} (h : j < l.length) : l.getD j d = l[j] := by
  rw [List.getD_eq_getElem?_getD, List.getElem?_eq_getElem h]; rfl
/-- A slot that is not a resequencer's. -/
def Wrong (x : Slt) : Prop := x.n < 1 ∨ x.vals.length ≠ x.items.length ∨ (x.t ≠ 0 ∧ x.items.length = 0) ∨ ∃ j, j < x.vals.length ∧ badAt x.n x.vals j = true

section
variable (vs : List (List X)) (n : Nat) (l : Int) (j : Nat)
def wrH : St := ⟨[(3, num l), (32, .sl false 6 vs), (33, nat n), (34, nat j)], []⟩
end
theorem wr_loop (n : Int) (vs : List Val) (hl : vs.length ≤ 60000) (vc : List X) :
    (∃ j, j < (cellsL vs).length ∧ badAt n vs j = true ∧ (∀ i, i < j → badAt n vs i = false) ∧ ∀ M, 1 ≤ M → (cellsL vs).length < M → run (callF tab ext M) 0 M (.loop (loopAt 30 0)) ⟨[(3, num n), (32, .sl false 6 (cellsL vs)), (33, nat (cellsL vs).length), (34, num 0)], [.var vc]⟩ = some (.ret, ⟨[(2, boolX true)], [.var (vs.getD j nilV).cells]⟩)) ∨
    ((∀ j, j < (cellsL vs).length → badAt n vs j = false) ∧ ∀ M, 1 ≤ M → (cellsL vs).length < M → run (callF tab ext M) 0 M (.loop (loopAt 30 0)) ⟨[(3, num n), (32, .sl false 6 (cellsL vs)), (33, nat (cellsL vs).length), (34, num 0)], [.var vc]⟩ = some (.exit 0, ⟨[(3, num (lastAt n vs (cellsL vs).length)), (32, .sl false 6 (cellsL vs)), (33, nat (cellsL vs).length), (34, nat (cellsL vs).length), (35, boolX false)], []⟩)) := by
  have hn := cellsL_length vs
  refine scanP (H := fun j => wrH (cellsL vs) (cellsL vs).length (lastAt n vs j) j) (P := badAt n vs) (r := fun j => ⟨[(2, boolX true)], [.var (vs.getD j nilV).cells]⟩)
    (υ := fun j => ⟨[(3, num (vs.getD j nilV).intOf), (32, .sl false 6 (cellsL vs)), (33, nat (cellsL vs).length), (34, nat (j + 1))], [.var (vs.getD j nilV).cells]⟩) (by kernel_rfl) (fun j hj hP M hM => ?_) (fun j hj hP => ⟨?_, fun M hM => ?_⟩) (fun M hM => ?_) (by simp)
  · have hj' : j < vs.length := by omega
    have hi := cellsL_get hj'
    unfold badAt at hP
    rw [getD_of hj'] at hP ⊢
    generalize lastAt n vs j = l at hP ⊢
    generalize vs[j] = x at hi hP ⊢
    obtain ⟨k, i, s, t, ll, ff⟩ := x
    unfold badV at hP
    dsimp only [Val.kindOf, Val.intOf] at hP
    cases h1 : (k != 2) with
    | true => exact run_of [(35, .b true), (36, .e (Val.mk k i s t ll ff).cells), (40, .b true)] [] (pf3 (lt_nat hj) hi h1) (lo' := []) (by kernel_rfl)
    | false =>
      cases h2 : (decide (i ≤ l)) with
      | true => exact run_of [(35, .b true), (36, .e (Val.mk k i s t ll ff).cells), (40, .b false), (45, .b true)] [] (pf4 (lt_nat hj) hi h1 h2) (lo' := []) (by kernel_rfl)
      | false =>
        simp only [Bool.or_eq_true] at hP
        have h3 : decide (i > 999999999999998) = true := by
          rcases hP with h | h | h
          · rw [h1] at h; cases h
          · exact absurd (of_decide_eq_true h) (of_decide_eq_false h2)
          · exact h
        exact run_of [(35, .b true), (36, .e (Val.mk k i s t ll ff).cells), (40, .b false), (45, .b false), (50, .b true)] [] (pf5 (lt_nat hj) hi h1 h2 h3) (lo' := []) (by kernel_rfl)
  · have hj' : j < vs.length := by omega
    change canon 0 ⟨[(3, num (vs.getD j nilV).intOf), (32, .sl false 6 (cellsL vs)), (33, nat (cellsL vs).length), (34, nat (j + 1))], [.var (vs.getD j nilV).cells]⟩ = some (wrH (cellsL vs) (cellsL vs).length (vs.getD j nilV).intOf (j + 1))
    generalize vs.getD j nilV = x
    obtain ⟨k, i, s, t, ll, ff⟩ := x
    kernel_rfl
  · have hj' : j < vs.length := by omega
    have hi := cellsL_get hj'
    have hnx := next_nat (j := j) (by omega)
    unfold badAt at hP
    rw [getD_of hj'] at hP ⊢
    generalize lastAt n vs j = l at hP ⊢
    generalize vs[j] = x at hi hP ⊢
    obtain ⟨k, i, s, t, ll, ff⟩ := x
    unfold badV at hP
    dsimp only [Val.kindOf, Val.intOf] at hP
    simp only [Bool.or_eq_false_iff] at hP
    exact run_of [(35, .b true), (36, .e (Val.mk k i s t ll ff).cells), (40, .b false), (45, .b false), (50, .b false), (54, .i (Int.ofNat (j + 1)))] [] (pf6 (lt_nat hj) hi hP.1 hP.2.1 hP.2.2 hnx) (lo' := []) (by kernel_rfl)
  · exact run_of [(35, .b false)] [] (pf1 (nlt_nat (Nat.lt_irrefl (cellsL vs).length))) (lo' := []) (by kernel_rfl)

theorem bne_nat {a b : Nat} (h : a ≠ b) : (Int.ofNat a != Int.ofNat b) = true := by
  simp only [bne_iff_ne, ne_eq, Int.ofNat_eq_natCast]; omega
theorem bne_nat' {a b : Nat} (h : a = b) : (Int.ofNat a != Int.ofNat b) = false := by
  subst h; simp
theorem wrong_ex (x : Slt) (h : x.ok) : ∃ w : Bool, (w = true ↔ Wrong x) ∧ ∀ N, 60010 ≤ N → Gam.pureD (callF tab ext N) 30 [.agg x.cells] = some (boolX w) := by
  have e1 := msgsC_length x.items
  have e2 := cellsL_length x.vals
  have hv := h.vals
  unfold Wrong
  obtain ⟨⟨x1, x2, x3, x4, x5, x6⟩, n, t, ms, vs⟩ := x
  dsimp only at e1 e2 hv ⊢
  cases h1 : (decide (n < 1)) with
  | true =>
    refine ⟨true, ⟨fun _ => .inl (of_decide_eq_true h1), fun _ => rfl⟩, fun N hN => ?_⟩
    obtain ⟨M, rfl⟩ : ∃ M, N = M + 1 := ⟨N - 1, by omega⟩
    exact pure_of [(8, .b true)] [] (pf1 h1) (x := boolX true) (bx := []) (by kernel_rfl) rfl
  | false =>
    have g1 := of_decide_eq_false h1
    by_cases h2 : (cellsL vs).length = (msgsC ms).length
    · have h2' := bne_nat' h2
      have key : (t != 0) = false ∨ ((t != 0) = true ∧ (Int.ofNat (msgsC ms).length == 0) = false) ∨ ((t != 0) = true ∧ (Int.ofNat (msgsC ms).length == 0) = true) := by
        cases (t != 0) <;> cases (Int.ofNat (msgsC ms).length == 0) <;> simp
      rcases key with h3 | ⟨h3, h4⟩ | ⟨h3, h4⟩
      · have g3 : t = 0 := by simpa using h3
        rcases wr_loop n vs hv [num x1, num x2, num x3, strX x4, .sl false 6 (cellsL x5), .sl false 7 (cellsF x6), num n, num t, .sl false 10 (msgsC ms), .sl false 6 (cellsL vs)] with ⟨j, hj, hP, _, hl⟩ | ⟨hall, hl⟩
        · refine ⟨true, ⟨fun _ => .inr (.inr (.inr ⟨j, by omega, hP⟩)), fun _ => rfl⟩, fun N hN => ?_⟩
          obtain ⟨M, rfl⟩ : ∃ M, N = M + 1 := ⟨N - 1, by omega⟩
          have hl := hl M (by omega) (by omega)
          generalize vs.getD j nilV = y at hl
          obtain ⟨y1, y2, y3, y4, y5, y6⟩ := y
          exact pure_of [(8, .b false), (16, .b false), (21, .b false)] [(.ret, ⟨[(2, boolX true)], [.var (Val.mk y1 y2 y3 y4 y5 y6).cells]⟩)] (pf4 h1 h2' h3 hl) (x := boolX true) (bx := []) (by kernel_rfl) rfl
        · refine ⟨false, ⟨fun e => (by cases e), ?_⟩, fun N hN => ?_⟩
          · rintro (h | h | h | ⟨j, h, h'⟩)
            · exact absurd h g1
            · omega
            · exact absurd g3 h.1
            · rw [hall j (by omega)] at h'; exact h'
          · obtain ⟨M, rfl⟩ : ∃ M, N = M + 1 := ⟨N - 1, by omega⟩
            have hl := hl M (by omega) (by omega)
            generalize lastAt n vs (cellsL vs).length = la at hl
            exact pure_of [(8, .b false), (16, .b false), (21, .b false)] [(.exit 0, ⟨[(3, num la), (32, .sl false 6 (cellsL vs)), (33, nat (cellsL vs).length), (34, nat (cellsL vs).length), (35, boolX false)], []⟩)] (pf4 h1 h2' h3 hl) (x := boolX false) (bx := []) (by kernel_rfl) rfl
      · have g4 : (msgsC ms).length ≠ 0 := by
          have := ne_of_beq_false h4
          simp only [Int.ofNat_eq_natCast] at this; omega
        rcases wr_loop n vs hv [num x1, num x2, num x3, strX x4, .sl false 6 (cellsL x5), .sl false 7 (cellsF x6), num n, num t, .sl false 10 (msgsC ms), .sl false 6 (cellsL vs)] with ⟨j, hj, hP, _, hl⟩ | ⟨hall, hl⟩
        · refine ⟨true, ⟨fun _ => .inr (.inr (.inr ⟨j, by omega, hP⟩)), fun _ => rfl⟩, fun N hN => ?_⟩
          obtain ⟨M, rfl⟩ : ∃ M, N = M + 1 := ⟨N - 1, by omega⟩
          have hl := hl M (by omega) (by omega)
          generalize vs.getD j nilV = y at hl
          obtain ⟨y1, y2, y3, y4, y5, y6⟩ := y
          exact pure_of [(8, .b false), (16, .b false), (21, .b true), (26, .b false)] [(.ret, ⟨[(2, boolX true)], [.var (Val.mk y1 y2 y3 y4 y5 y6).cells]⟩)] (pf5 h1 h2' h3 h4 hl) (x := boolX true) (bx := []) (by kernel_rfl) rfl
        · refine ⟨false, ⟨fun e => (by cases e), ?_⟩, fun N hN => ?_⟩
          · rintro (h | h | h | ⟨j, h, h'⟩)
            · exact absurd h g1
            · omega
            · omega
            · rw [hall j (by omega)] at h'; exact h'
          · obtain ⟨M, rfl⟩ : ∃ M, N = M + 1 := ⟨N - 1, by omega⟩
            have hl := hl M (by omega) (by omega)
            generalize lastAt n vs (cellsL vs).length = la at hl
            exact pure_of [(8, .b false), (16, .b false), (21, .b true), (26, .b false)] [(.exit 0, ⟨[(3, num la), (32, .sl false 6 (cellsL vs)), (33, nat (cellsL vs).length), (34, nat (cellsL vs).length), (35, boolX false)], []⟩)] (pf5 h1 h2' h3 h4 hl) (x := boolX false) (bx := []) (by kernel_rfl) rfl
      · refine ⟨true, ⟨fun _ => .inr (.inr (.inl ⟨by simpa using h3, ?_⟩)), fun _ => rfl⟩, fun N hN => ?_⟩
        · have := eq_of_beq h4
          simp only [Int.ofNat_eq_natCast] at this; omega
        · obtain ⟨M, rfl⟩ : ∃ M, N = M + 1 := ⟨N - 1, by omega⟩
          exact pure_of [(8, .b false), (16, .b false), (21, .b true), (26, .b true)] [] (pf4 h1 h2' h3 h4) (x := boolX true) (bx := []) (by kernel_rfl) rfl
    · have h2' := bne_nat h2
      refine ⟨true, ⟨fun _ => .inr (.inl (by omega)), fun _ => rfl⟩, fun N hN => ?_⟩
      obtain ⟨M, rfl⟩ : ∃ M, N = M + 1 := ⟨N - 1, by omega⟩
      exact pure_of [(8, .b false), (16, .b true)] [] (pf2 h1 h2') (x := boolX true) (bx := []) (by kernel_rfl) rfl
end Go.Proofs.YtbfnfldmnombgaaGreatDoor
