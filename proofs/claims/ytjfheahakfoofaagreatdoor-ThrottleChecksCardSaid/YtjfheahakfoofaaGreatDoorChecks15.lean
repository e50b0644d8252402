/- Types and nodes are cut: it comes to an end. -/
import Derived.Test.YtjfheahakfoofaaGreatDoorChecks14
namespace Go.Proofs.YtjfheahakfoofaaGreatDoor
open Go.Em
def typC (a b c d : Int) (w e f : List (List X)) : List X := [num a, num b, num c, num d, .sl false 1 w, .sl false 7 e, .sl false 11 f]
def zTyp : List X := [num 0, num 0, num 0, num 0, .sl true 1 [], .sl true 7 [], .sl true 11 []]
def fldC (x : Int) (t : ByteArray) (y a b c d : Int) (w e f de : List (List X)) : List X := [num x, strX t, num y, num a, num b, num c, num d, .sl false 1 w, .sl false 7 e, .sl false 11 f, .sl false 6 de]
def isTxt (c : List X) : Prop := ∃ t, c = [strX t]
/-- A type that is looked at to a depth. -/
def isTyp : Nat → List X → Prop
  | 0, c => ∃ a b c' d w e f, c = typC a b c' d w e f ∧ ∀ x, x ∈ w → isTxt x
  | n + 1, c => ∃ a b c' d w e f, c = typC a b c' d w e f ∧ (∀ x, x ∈ w → isTxt x) ∧ (∀ x, x ∈ e → isTyp n x) ∧ ∀ x, x ∈ f → ∃ p t y T de, x = num p :: strX t :: num y :: (T ++ [.sl false 6 de]) ∧ isTyp n T ∧ ∀ v, v ∈ de → isVal v

section
variable (n : Nat) (a b c d : Int) (w e f : List (List X)) (acc : List (List X)) (j : Nat) (x : List X)
def twH : St := ⟨[(1, num (Int.ofNat (n + 1))), (2, .ptr 0 0 0), (4, .ptr 1 0 0), (5, .bs 2 0 j), (6, .sl true 7 []), (7, .sl true 11 []), (8, nat j)], [.var (typC a b c d w e f), .var zTyp, .row 1 acc]⟩
def twN : St := ⟨[(1, num (Int.ofNat (n + 1))), (2, .ptr 0 0 0), (4, .ptr 1 0 0), (5, .bs 3 0 (j + 1)), (6, .sl true 7 []), (7, .sl true 11 []), (8, nat (j + 1))], [.var (typC a b c d w e f), .var zTyp, .dead, .row 1 (acc ++ [x])]⟩
def twE : St := ⟨[(1, num (Int.ofNat (n + 1))), (2, .ptr 0 0 0), (4, .ptr 1 0 0), (5, .bs 2 0 j), (6, .sl true 7 []), (7, .sl true 11 []), (8, nat j), (22, boolX false)], [.var (typC a b c d w e f), .var zTyp, .row 1 acc]⟩
theorem tw_canon : canon 0 (twN n a b c d w e f acc j x) = some (twH n a b c d w e f (acc ++ [x]) (j + 1)) := by kernel_rfl
end
theorem tw_loop (n : Nat) (a b c d : Int) (w e f : List (List X)) (hl : ∀ x, x ∈ w → isTxt x) {τ : St} (hτ : canon 0 τ = some (twH n a b c d w e f [] 0)) : ∃ acc, acc.length = min w.length 6 ∧ (∀ x, x ∈ acc → (fun _ => True) x) ∧ ∀ M, 40 ≤ M → run (callF tab ext M) 0 M (.loop (loopAt 54 0)) τ = some (.exit 0, twE n a b c d w e f acc (min w.length 6)) := by
  have hK : min w.length 6 ≤ 6 := by exact Nat.min_le_right _ _
  have key : ∃ acc : List (List X), acc.length = min w.length 6 ∧ (∀ x, x ∈ acc → (fun _ => True) x) ∧ ∀ M, 40 ≤ M → min w.length 6 < M → run (callF tab ext M) 0 M (.loop (loopAt 54 0)) τ = some (.exit 0, twE n a b c d w e f acc (min w.length 6)) := ?_
  · obtain ⟨acc, h1, hq, h2⟩ := key
    exact ⟨acc, h1, hq, fun M hM => h2 M hM (by omega)⟩
  refine loop_acc (nIn := 0) (b := loopAt 54 0) (B := 40) (H := fun j acc => twH n a b c d w e f acc j) (k := min w.length 6) (e := .exit 0) (E := fun acc => twE n a b c d w e f acc (min w.length 6)) (fun _ => True) hτ (fun j acc hj hacc => ?_) (fun acc hacc M hM => ?_) (by simp)
  · have hj1 : j < w.length := by omega
    have hj2 : j < 6 := by omega
    obtain ⟨v, hv⟩ := hl _ (List.getElem_mem hj1)
    have hg : w[j]? = some [strX v] := by rw [List.getElem?_eq_getElem hj1, hv]
    exact ⟨[strX (cutT 40 v)], twN n a b c d w e f acc j ([strX (cutT 40 v)]), trivial, tw_canon .., fun M hM => run_of [(18, .b true), (21, .b true), (29, .e [strX v]), (34, .e [strX v]), (37, .i (Int.ofNat (min v.size 40))), (38, .cut), (40, .app), (24, .i (Int.ofNat (j + 1)))] [] (pf8 (lt_nat (j := j) (k := w.length) hj1) (lt_lit hj2) hg hg (min_int v.size 40) (cut_ok v.size 40) (app_ok (acc := acc) j 2 16 hacc.symm (by omega) (by omega)) (next_nat (j := j) (by omega))) (lo' := []) (by kernel_rfl)⟩
  · generalize hq : min w.length 6 = q
    by_cases h6 : q < w.length
    · exact run_of [(18, .b true), (21, .b false)] [] (pf2 (lt_nat (j := q) (k := w.length) h6) (nlt_nat (j := q) (k := 6) (by omega))) (lo' := []) (by kernel_rfl)
    · exact run_of [(18, .b false)] [] (pf1 (nlt_nat (j := q) (k := w.length) h6)) (lo' := []) (by kernel_rfl)
section
variable (n : Nat) (a b c d : Int) (w e f acc0 : List (List X)) (m : Nat) (acc : List (List X)) (j : Nat) (x : List X)
def teH : St := ⟨[(1, num (Int.ofNat (n + 1))), (2, .ptr 0 0 0), (4, .ptr 1 0 0), (5, .bs 2 0 m), (6, .bs 3 0 j), (7, .sl true 11 []), (9, nat j)], [.var (typC a b c d w e f), .var zTyp, .row 1 acc0, .row 7 acc]⟩
def teN : St := ⟨[(1, num (Int.ofNat (n + 1))), (2, .ptr 0 0 0), (4, .ptr 1 0 0), (5, .bs 2 0 m), (6, .bs 4 0 (j + 1)), (7, .sl true 11 []), (9, nat (j + 1))], [.var (typC a b c d w e f), .var zTyp, .row 1 acc0, .dead, .row 7 (acc ++ [x])]⟩
def teE : St := ⟨[(1, num (Int.ofNat (n + 1))), (2, .ptr 0 0 0), (4, .ptr 1 0 0), (5, .bs 2 0 m), (6, .bs 3 0 j), (7, .sl true 11 []), (9, nat j), (53, boolX false)], [.var (typC a b c d w e f), .var zTyp, .row 1 acc0, .row 7 acc]⟩
theorem te_canon : canon 0 (teN n a b c d w e f acc0 m acc j x) = some (teH n a b c d w e f acc0 m (acc ++ [x]) (j + 1)) := by kernel_rfl
end
theorem te_loop (n : Nat) (a b c d : Int) (w e f acc0 : List (List X)) (m : Nat) (hn : n < 1000) (h54 : ∀ m, n = m + 1 → ∀ x, x ∈ e → ∃ a b c d w e f a' b' c' d' w' e' f', x = typC a b c d w e f ∧ ∀ N, 200 + n ≤ N → Gam.pureD (callF tab ext N) 54 [.agg (typC a b c d w e f), nat (m + 1)] = some (.agg (typC a' b' c' d' w' e' f'))) {τ : St} (hτ : canon 0 τ = some (teH n a b c d w e f acc0 m [] 0)) : ∃ acc, acc.length = kOf n e.length 2 ∧ (∀ x, x ∈ acc → (fun _ => True) x) ∧ ∀ M, (200 + n) ≤ M → run (callF tab ext M) 0 M (.loop (loopAt 54 1)) τ = some (.exit 2, teE n a b c d w e f acc0 m acc (kOf n e.length 2)) := by
  have hkk : kOf n e.length 2 ≤ e.length ∧ kOf n e.length 2 ≤ 2 := kOf_le ..
  have hK : kOf n e.length 2 ≤ 2 := by omega
  have key : ∃ acc : List (List X), acc.length = kOf n e.length 2 ∧ (∀ x, x ∈ acc → (fun _ => True) x) ∧ ∀ M, (200 + n) ≤ M → kOf n e.length 2 < M → run (callF tab ext M) 0 M (.loop (loopAt 54 1)) τ = some (.exit 2, teE n a b c d w e f acc0 m acc (kOf n e.length 2)) := ?_
  · obtain ⟨acc, h1, hq, h2⟩ := key
    exact ⟨acc, h1, hq, fun M hM => h2 M hM (by omega)⟩
  refine loop_acc (nIn := 0) (b := loopAt 54 1) (B := (200 + n)) (H := fun j acc => teH n a b c d w e f acc0 m acc j) (k := kOf n e.length 2) (e := .exit 2) (E := fun acc => teE n a b c d w e f acc0 m acc (kOf n e.length 2)) (fun _ => True) hτ (fun j acc hj hacc => ?_) (fun acc hacc M hM => ?_) (by simp)
  · have hj1 : j < e.length := by omega
    have hj2 : j < 2 := by omega
    obtain ⟨n, rfl⟩ : ∃ m, n = m + 1 := by
      cases n with
      | zero => simp [kOf] at hj
      | succ m => exact ⟨m, rfl⟩
    obtain ⟨a1, b1, c1, d1, w1, e1, f1, a2, b2, c2, d2, w2, e2, f2, hv, hc⟩ := h54 n rfl _ (List.getElem_mem hj1)
    have hg : e[j]? = some (typC a1 b1 c1 d1 w1 e1 f1) := by rw [List.getElem?_eq_getElem hj1, hv]
    exact ⟨(typC a2 b2 c2 d2 w2 e2 f2), teN (n + 1) a b c d w e f acc0 m acc j ((typC a2 b2 c2 d2 w2 e2 f2)), trivial, te_canon .., fun M hM => run_of [(45, .b true), (48, .b true), (52, .b true), (60, .e (typC a1 b1 c1 d1 w1 e1 f1)), (63, .i (Int.ofNat (n + 1))), (64, .p (.agg (typC a2 b2 c2 d2 w2 e2 f2))), (66, .app), (55, .i (Int.ofNat (j + 1)))] [] (pf8 (lt_nat (j := j) (k := e.length) hj1) (lt_lit hj2) (gt_one n) hg (dec_nat (j := n + 1) (by omega)) (hc M (by omega)) (app_ok (acc := acc) j 3 104 hacc.symm (by omega) (by omega)) (next_nat (j := j) (by omega))) (lo' := []) (by kernel_rfl)⟩
  · cases n with
    | zero =>
      have e0 : kOf 0 e.length 2 = 0 := rfl
      rw [e0]
      cases h1 : decide (Int.ofNat 0 < Int.ofNat e.length) with
      | true => exact run_of [(45, .b true)] [] (pf1 h1) (lo' := []) (by kernel_rfl)
      | false => exact run_of [(45, .b false)] [] (pf1 h1) (lo' := []) (by kernel_rfl)
    | succ n =>
      have e1 : kOf (n + 1) e.length 2 = min e.length 2 := rfl
      rw [e1]
      generalize hq : min e.length 2 = q
      by_cases h6 : q < e.length
      · exact run_of [(45, .b true), (48, .b false)] [] (pf2 (lt_nat (j := q) (k := e.length) h6) (nlt_nat (j := q) (k := 2) (by omega))) (lo' := []) (by kernel_rfl)
      · exact run_of [(45, .b false)] [] (pf1 (nlt_nat (j := q) (k := e.length) h6)) (lo' := []) (by kernel_rfl)
section
variable (n : Nat) (a b c d : Int) (w e f acc0 acc1 acc2 : List (List X)) (m q z : Nat) (x0 : Int) (t0 : ByteArray) (y0 p1 p2 p3 p4 : Int) (pw pe pf de : List (List X)) (acc : List (List X)) (j : Nat) (x : List X)
def tdH : St := ⟨[(1, num (Int.ofNat (n + 1))), (2, .ptr 0 0 0), (4, .ptr 1 0 0), (5, .bs 2 0 m), (6, .bs 3 0 q), (7, .bs 4 0 z), (10, nat z), (11, .ptr 5 0 0), (12, .bs 6 0 j), (13, nat j)], [.var (typC a b c d w e f), .var zTyp, .row 1 acc0, .row 7 acc1, .row 11 acc2, .var (fldC x0 t0 y0 p1 p2 p3 p4 pw pe pf de), .row 6 acc]⟩
def tdN : St := ⟨[(1, num (Int.ofNat (n + 1))), (2, .ptr 0 0 0), (4, .ptr 1 0 0), (5, .bs 2 0 m), (6, .bs 3 0 q), (7, .bs 4 0 z), (10, nat z), (11, .ptr 5 0 0), (12, .bs 7 0 (j + 1)), (13, nat (j + 1))], [.var (typC a b c d w e f), .var zTyp, .row 1 acc0, .row 7 acc1, .row 11 acc2, .var (fldC x0 t0 y0 p1 p2 p3 p4 pw pe pf de), .dead, .row 6 (acc ++ [x])]⟩
def tdE : St := ⟨[(1, num (Int.ofNat (n + 1))), (2, .ptr 0 0 0), (4, .ptr 1 0 0), (5, .bs 2 0 m), (6, .bs 3 0 q), (7, .bs 4 0 z), (10, nat z), (11, .ptr 5 0 0), (12, .bs 6 0 j), (13, nat j), (95, boolX false)], [.var (typC a b c d w e f), .var zTyp, .row 1 acc0, .row 7 acc1, .row 11 acc2, .var (fldC x0 t0 y0 p1 p2 p3 p4 pw pe pf de), .row 6 acc]⟩
theorem td_canon : canon 0 (tdN n a b c d w e f acc0 acc1 acc2 m q z x0 t0 y0 p1 p2 p3 p4 pw pe pf de acc j x) = some (tdH n a b c d w e f acc0 acc1 acc2 m q z x0 t0 y0 p1 p2 p3 p4 pw pe pf de (acc ++ [x]) (j + 1)) := by kernel_rfl
end
theorem td_loop (n : Nat) (a b c d : Int) (w e f acc0 acc1 acc2 : List (List X)) (m q z : Nat) (x0 : Int) (t0 : ByteArray) (y0 p1 p2 p3 p4 : Int) (pw pe pf de : List (List X)) (hl : ∀ x, x ∈ de → isVal x) {τ : St} (hτ : canon 0 τ = some (tdH n a b c d w e f acc0 acc1 acc2 m q z x0 t0 y0 p1 p2 p3 p4 pw pe pf de [] 0)) : ∃ acc, acc.length = min de.length 2 ∧ (∀ x, x ∈ acc → (fun _ => True) x) ∧ ∀ M, 40 ≤ M → run (callF tab ext M) 0 M (.loop (loopAt 54 3)) τ = some (.exit 6, tdE n a b c d w e f acc0 acc1 acc2 m q z x0 t0 y0 p1 p2 p3 p4 pw pe pf de acc (min de.length 2)) := by
  have hK : min de.length 2 ≤ 2 := by exact Nat.min_le_right _ _
  have key : ∃ acc : List (List X), acc.length = min de.length 2 ∧ (∀ x, x ∈ acc → (fun _ => True) x) ∧ ∀ M, 40 ≤ M → min de.length 2 < M → run (callF tab ext M) 0 M (.loop (loopAt 54 3)) τ = some (.exit 6, tdE n a b c d w e f acc0 acc1 acc2 m q z x0 t0 y0 p1 p2 p3 p4 pw pe pf de acc (min de.length 2)) := ?_
  · obtain ⟨acc, h1, hq, h2⟩ := key
    exact ⟨acc, h1, hq, fun M hM => h2 M hM (by omega)⟩
  refine loop_acc (nIn := 0) (b := loopAt 54 3) (B := 40) (H := fun j acc => tdH n a b c d w e f acc0 acc1 acc2 m q z x0 t0 y0 p1 p2 p3 p4 pw pe pf de acc j) (k := min de.length 2) (e := .exit 6) (E := fun acc => tdE n a b c d w e f acc0 acc1 acc2 m q z x0 t0 y0 p1 p2 p3 p4 pw pe pf de acc (min de.length 2)) (fun _ => True) hτ (fun j acc hj hacc => ?_) (fun acc hacc M hM => ?_) (by simp)
  · have hj1 : j < de.length := by omega
    have hj2 : j < 2 := by omega
    obtain ⟨v, hv⟩ := hl _ (List.getElem_mem hj1)
    have hg : de[j]? = some v.cells := by rw [List.getElem?_eq_getElem hj1, hv]
    have hc := short_val 2 v
    generalize shortV 2 v = w1 at hc
    obtain ⟨a1, a2, a3, a4, a5, a6⟩ := v
    obtain ⟨b1, b2, b3, b4, b5, b6⟩ := w1
    exact ⟨(Val.mk b1 b2 b3 b4 b5 b6).cells, tdN n a b c d w e f acc0 acc1 acc2 m q z x0 t0 y0 p1 p2 p3 p4 pw pe pf de acc j ((Val.mk b1 b2 b3 b4 b5 b6).cells), trivial, td_canon .., fun M hM => run_of [(91, .b true), (94, .b true), (102, .e (Val.mk a1 a2 a3 a4 a5 a6).cells), (104, .p (.agg (Val.mk b1 b2 b3 b4 b5 b6).cells)), (106, .app), (97, .i (Int.ofNat (j + 1)))] [] (pf6 (lt_nat (j := j) (k := de.length) hj1) (lt_lit hj2) hg (hc M (by omega) (by omega)) (app_ok (acc := acc) j 6 88 hacc.symm (by omega) (by omega)) (next_nat (j := j) (by omega))) (lo' := []) (by kernel_rfl)⟩
  · generalize hq : min de.length 2 = q
    by_cases h6 : q < de.length
    · exact run_of [(91, .b true), (94, .b false)] [] (pf2 (lt_nat (j := q) (k := de.length) h6) (nlt_nat (j := q) (k := 2) (by omega))) (lo' := []) (by kernel_rfl)
    · exact run_of [(91, .b false)] [] (pf1 (nlt_nat (j := q) (k := de.length) h6)) (lo' := []) (by kernel_rfl)
section
variable (n : Nat) (a b c d : Int) (w e f acc0 acc1 : List (List X)) (m q : Nat) (acc : List (List X)) (j : Nat) (x : List X)
def tfH : St := ⟨[(1, num (Int.ofNat (n + 1))), (2, .ptr 0 0 0), (4, .ptr 1 0 0), (5, .bs 2 0 m), (6, .bs 3 0 q), (7, .bs 4 0 j), (10, nat j)], [.var (typC a b c d w e f), .var zTyp, .row 1 acc0, .row 7 acc1, .row 11 acc]⟩
def tfN : St := ⟨[(1, num (Int.ofNat (n + 1))), (2, .ptr 0 0 0), (4, .ptr 1 0 0), (5, .bs 2 0 m), (6, .bs 3 0 q), (7, .bs 7 0 (j + 1)), (10, nat (j + 1))], [.var (typC a b c d w e f), .var zTyp, .row 1 acc0, .row 7 acc1, .dead, .var x, .dead, .row 11 (acc ++ [x])]⟩
def tfE : St := ⟨[(1, num (Int.ofNat (n + 1))), (2, .ptr 0 0 0), (4, .ptr 1 0 0), (5, .bs 2 0 m), (6, .bs 3 0 q), (7, .bs 4 0 j), (10, nat j), (79, boolX false)], [.var (typC a b c d w e f), .var zTyp, .row 1 acc0, .row 7 acc1, .row 11 acc]⟩
theorem tf_canon : canon 0 (tfN n a b c d w e f acc0 acc1 m q acc j x) = some (tfH n a b c d w e f acc0 acc1 m q (acc ++ [x]) (j + 1)) := by kernel_rfl
end
theorem tf_loop (n : Nat) (a b c d : Int) (w e f acc0 acc1 : List (List X)) (m q : Nat) (hn : n < 1000) (h54 : ∀ m, n = m + 1 → ∀ x, x ∈ f → ∃ p t y T de, x = num p :: strX t :: num y :: (T ++ [.sl false 6 de]) ∧ (∀ v, v ∈ de → isVal v) ∧ ∃ a b c d w e f a' b' c' d' w' e' f', T = typC a b c d w e f ∧ ∀ N, 200 + n ≤ N → Gam.pureD (callF tab ext N) 54 [.agg (typC a b c d w e f), nat (m + 1)] = some (.agg (typC a' b' c' d' w' e' f'))) {τ : St} (hτ : canon 0 τ = some (tfH n a b c d w e f acc0 acc1 m q [] 0)) : ∃ acc, acc.length = kOf n f.length 6 ∧ (∀ x, x ∈ acc → (fun _ => True) x) ∧ ∀ M, (200 + n) ≤ M → run (callF tab ext M) 0 M (.loop (loopAt 54 2)) τ = some (.exit 4, tfE n a b c d w e f acc0 acc1 m q acc (kOf n f.length 6)) := by
  have hkk : kOf n f.length 6 ≤ f.length ∧ kOf n f.length 6 ≤ 6 := kOf_le ..
  have hK : kOf n f.length 6 ≤ 6 := by omega
  have key : ∃ acc : List (List X), acc.length = kOf n f.length 6 ∧ (∀ x, x ∈ acc → (fun _ => True) x) ∧ ∀ M, (200 + n) ≤ M → kOf n f.length 6 < M → run (callF tab ext M) 0 M (.loop (loopAt 54 2)) τ = some (.exit 4, tfE n a b c d w e f acc0 acc1 m q acc (kOf n f.length 6)) := ?_
  · obtain ⟨acc, h1, hq, h2⟩ := key
    exact ⟨acc, h1, hq, fun M hM => h2 M hM (by omega)⟩
  refine loop_acc (nIn := 0) (b := loopAt 54 2) (B := (200 + n)) (H := fun j acc => tfH n a b c d w e f acc0 acc1 m q acc j) (k := kOf n f.length 6) (e := .exit 4) (E := fun acc => tfE n a b c d w e f acc0 acc1 m q acc (kOf n f.length 6)) (fun _ => True) hτ (fun j acc hj hacc => ?_) (fun acc hacc M hM => ?_) (by simp)
  · have hj1 : j < f.length := by omega
    have hj2 : j < 6 := by omega
    obtain ⟨n, rfl⟩ : ∃ m, n = m + 1 := by
      cases n with
      | zero => simp [kOf] at hj
      | succ m => exact ⟨m, rfl⟩
    obtain ⟨x0, t0, y0, T0, de, hv, hde, a1, b1, c1, d1, w1, e1, f1, a2, b2, c2, d2, w2, e2, f2, rfl, hc⟩ := h54 n rfl _ (List.getElem_mem hj1)
    have hg : f[j]? = some (fldC x0 t0 y0 a1 b1 c1 d1 w1 e1 f1 de) := by rw [List.getElem?_eq_getElem hj1, hv]; rfl
    obtain ⟨acc4, i1, _, i2⟩ := td_loop (n + 1) a b c d w e f acc0 acc1 acc m q j x0 t0 y0 a1 b1 c1 d1 w1 e1 f1 de hde (τ := ⟨[(1, num (Int.ofNat (n + 1 + 1))), (2, .ptr 0 0 0), (4, .ptr 1 0 0), (5, .bs 2 0 m), (6, .bs 3 0 q), (7, .bs 4 0 j), (10, nat j), (11, .ptr 5 0 0), (12, .bs 6 0 0), (13, nat 0)], [.var (typC a b c d w e f), .var zTyp, .row 1 acc0, .row 7 acc1, .row 11 acc, .var (fldC x0 t0 y0 a1 b1 c1 d1 w1 e1 f1 de), .row 6 []]⟩) (by kernel_rfl)
    generalize min de.length 2 = z at i1 i2
    exact ⟨(fldC x0 (cutT 40 t0) y0 a2 b2 c2 d2 w2 e2 f2 (acc4.take z)), tfN (n + 1) a b c d w e f acc0 acc1 m q acc j ((fldC x0 (cutT 40 t0) y0 a2 b2 c2 d2 w2 e2 f2 (acc4.take z))), trivial, tf_canon .., fun M hM => run_of [(71, .b true), (74, .b true), (78, .b true), (85, .e (fldC x0 t0 y0 a1 b1 c1 d1 w1 e1 f1 de)), (112, .i (Int.ofNat (min t0.size 40))), (113, .cut), (117, .i (Int.ofNat (n + 1))), (118, .p (.agg (typC a2 b2 c2 d2 w2 e2 f2))), (126, .app), (81, .i (Int.ofNat (j + 1)))] [(.exit 6, tdE (n + 1) a b c d w e f acc0 acc1 acc m q j x0 t0 y0 a1 b1 c1 d1 w1 e1 f1 de acc4 z)] (pf12 (lt_nat (j := j) (k := f.length) hj1) (lt_lit hj2) (gt_one n) hg (i2 M (by omega)) (min_int t0.size 40) (cut_ok t0.size 40) (dec_nat (j := n + 1) (by omega)) (hc M (by omega)) (show 0 + z ≤ acc4.length by omega) (app_ok (acc := acc) j 4 160 hacc.symm (by omega) (by omega)) (next_nat (j := j) (by omega))) (lo' := []) (by kernel_rfl)⟩
  · cases n with
    | zero =>
      have e0 : kOf 0 f.length 6 = 0 := rfl
      rw [e0]
      cases h1 : decide (Int.ofNat 0 < Int.ofNat f.length) with
      | true => exact run_of [(71, .b true)] [] (pf1 h1) (lo' := []) (by kernel_rfl)
      | false => exact run_of [(71, .b false)] [] (pf1 h1) (lo' := []) (by kernel_rfl)
    | succ n =>
      have e1 : kOf (n + 1) f.length 6 = min f.length 6 := rfl
      rw [e1]
      generalize hq : min f.length 6 = q
      by_cases h6 : q < f.length
      · exact run_of [(71, .b true), (74, .b false)] [] (pf2 (lt_nat (j := q) (k := f.length) h6) (nlt_nat (j := q) (k := 6) (by omega))) (lo' := []) (by kernel_rfl)
      · exact run_of [(71, .b false)] [] (pf1 (nlt_nat (j := q) (k := f.length) h6)) (lo' := []) (by kernel_rfl)
theorem typ_fin (n : Nat) (a b c d : Int) (w e f acc acc1 acc2 : List (List X)) (m q z : Nat) (h1 : acc.length = m) (h2 : acc1.length = q) (h3 : acc2.length = z) (M : Nat)
    (g1 : run (callF tab ext M) 0 M (.loop (loopAt 54 0)) (twH n a b c d w e f [] 0) = some (.exit 0, twE n a b c d w e f acc m)) (g2 : run (callF tab ext M) 0 M (.loop (loopAt 54 1)) (teH n a b c d w e f acc m [] 0) = some (.exit 2, teE n a b c d w e f acc m acc1 q))
    (g3 : run (callF tab ext M) 0 M (.loop (loopAt 54 2)) (tfH n a b c d w e f acc acc1 m q [] 0) = some (.exit 4, tfE n a b c d w e f acc acc1 m q acc2 z)) :
    Gam.pureD (callF tab ext (M + 1)) 54 [.agg (typC a b c d w e f), nat (n + 1)] = some (.agg (typC a b c d acc acc1 acc2)) := by
  have hd : (X.agg [num a, num b, num c, num d, .bs 0 0 m, .bs 1 0 q, .bs 2 0 z]).data [.row 1 acc, .row 7 acc1, .row 11 acc2] false = some (.agg (typC a b c d acc acc1 acc2)) := by
    subst h1 h2 h3; simp [X.data, dataL, rowOf, num, typC]
  exact pure_of [] [(.exit 0, twE n a b c d w e f acc m), (.exit 2, teE n a b c d w e f acc m acc1 q), (.exit 4, tfE n a b c d w e f acc acc1 m q acc2 z)] (pf3 g1 g2 g3) (x := .agg [num a, num b, num c, num d, .bs 0 0 m, .bs 1 0 q, .bs 2 0 z]) (bx := [.row 1 acc, .row 7 acc1, .row 11 acc2]) (by kernel_rfl) hd
theorem short_typ : ∀ (n : Nat) (c : List X), n < 1000 → isTyp n c → ∃ a b c' d w e f a' b' c'' d' w' e' f', c = typC a b c' d w e f ∧ ∀ N, 200 + (n + 1) ≤ N → Gam.pureD (callF tab ext N) 54 [.agg (typC a b c' d w e f), nat (n + 1)] = some (.agg (typC a' b' c'' d' w' e' f')) := by
  intro n
  induction n with
  | zero =>
    rintro _ hn ⟨a, b, c, d, w, e, f, rfl, hw⟩
    obtain ⟨acc, h1, _, g1⟩ := tw_loop 0 a b c d w e f hw (τ := twH 0 a b c d w e f [] 0) (by kernel_rfl)
    generalize min w.length 6 = m at h1 g1
    obtain ⟨acc1, h2, _, g2⟩ := te_loop 0 a b c d w e f acc m (by omega) (fun m hm => by omega) (τ := teH 0 a b c d w e f acc m [] 0) (by kernel_rfl)
    generalize kOf 0 e.length 2 = q at h2 g2
    obtain ⟨acc2, h3, _, g3⟩ := tf_loop 0 a b c d w e f acc acc1 m q (by omega) (fun m hm => by omega) (τ := tfH 0 a b c d w e f acc acc1 m q [] 0) (by kernel_rfl)
    generalize kOf 0 f.length 6 = z at h3 g3
    refine ⟨a, b, c, d, w, e, f, a, b, c, d, acc, acc1, acc2, rfl, fun N hN => ?_⟩
    obtain ⟨M, rfl⟩ : ∃ M, N = M + 1 := ⟨N - 1, by omega⟩
    exact typ_fin 0 a b c d w e f acc acc1 acc2 m q z h1 h2 h3 M (g1 M (by omega)) (g2 M (by omega)) (g3 M (by omega))
  | succ n ih =>
    rintro _ hn ⟨a, b, c, d, w, e, f, rfl, hw, he, hf⟩
    obtain ⟨acc, h1, _, g1⟩ := tw_loop (n + 1) a b c d w e f hw (τ := twH (n + 1) a b c d w e f [] 0) (by kernel_rfl)
    generalize min w.length 6 = m at h1 g1
    obtain ⟨acc1, h2, _, g2⟩ := te_loop (n + 1) a b c d w e f acc m (by omega) (fun m hm x hx => by
      obtain rfl : n = m := by omega
      exact ih x (by omega) (he x hx)) (τ := teH (n + 1) a b c d w e f acc m [] 0) (by kernel_rfl)
    generalize kOf (n + 1) e.length 2 = q at h2 g2
    obtain ⟨acc2, h3, _, g3⟩ := tf_loop (n + 1) a b c d w e f acc acc1 m q (by omega) (fun m hm x hx => by
      obtain rfl : n = m := by omega
      obtain ⟨p, t, y, T, de, h1, h2, h3⟩ := hf x hx
      exact ⟨p, t, y, T, de, h1, h3, ih T (by omega) h2⟩) (τ := tfH (n + 1) a b c d w e f acc acc1 m q [] 0) (by kernel_rfl)
    generalize kOf (n + 1) f.length 6 = z at h3 g3
    refine ⟨a, b, c, d, w, e, f, a, b, c, d, acc, acc1, acc2, rfl, fun N hN => ?_⟩
    obtain ⟨M, rfl⟩ : ∃ M, N = M + 1 := ⟨N - 1, by omega⟩
    exact typ_fin (n + 1) a b c d w e f acc acc1 acc2 m q z h1 h2 h3 M (g1 M (by omega)) (g2 M (by omega)) (g3 M (by omega))

def nodC (name text : ByteArray) (k1 k2 k3 k4 k5 k6 a b c d : Int) (w e f ty ex ru ca ne : List (List X)) : List X := [strX name, num k1, num k2, num k3, num k4, num k5, num k6, strX text, num a, num b, num c, num d, .sl false 1 w, .sl false 7 e, .sl false 11 f, .sl false 7 ty, .sl false 5 ex, .sl false 6 ru, .sl false 2 ca, .sl false 1 ne]
def nodB (name text : ByteArray) (k1 k2 k3 k4 k5 k6 a b c d : Int) (w e f ty ru ca ne : List (List X)) (i m : Nat) : List X := [strX name, num k1, num k2, num k3, num k4, num k5, num k6, strX text, num a, num b, num c, num d, .sl false 1 w, .sl false 7 e, .sl false 11 f, .sl false 7 ty, .bs i 0 m, .sl false 6 ru, .sl false 2 ca, .sl false 1 ne]
def zNod : List X := [noText, num 0, num 0, num 0, num 0, num 0, num 0, noText, num 0, num 0, num 0, num 0, .sl true 1 [], .sl true 7 [], .sl true 11 [], .sl true 7 [], .sl true 5 [], .sl true 6 [], .sl true 2 [], .sl true 1 []]
def isCall (c : List X) : Prop := ∃ t l, c = [strX t, .sl false 6 l] ∧ ∀ x, x ∈ l → isRule x
section
variable (name text : ByteArray) (k1 k2 k3 k4 k5 k6 a b c d : Int) (w e f ty ex ru ca ne : List (List X)) (acc : List (List X)) (j : Nat) (x : List X)
def qaH : St := ⟨[(1, .ptr 0 0 0), (2, .ptr 1 0 0), (3, .ptr 2 0 0), (4, nat j)], [.var (nodC name text k1 k2 k3 k4 k5 k6 a b c d w e f ty ex ru ca ne), .var zNod, .var [.bs 3 0 j], .row 6 acc]⟩
def qaN : St := ⟨[(1, .ptr 0 0 0), (2, .ptr 1 0 0), (3, .ptr 2 0 0), (4, nat (j + 1))], [.var (nodC name text k1 k2 k3 k4 k5 k6 a b c d w e f ty ex ru ca ne), .var zNod, .var [.bs 4 0 (j + 1)], .dead, .row 6 (acc ++ [x])]⟩
def qaE : St := ⟨[(1, .ptr 0 0 0), (2, .ptr 1 0 0), (3, .ptr 2 0 0), (4, nat j), (18, boolX false)], [.var (nodC name text k1 k2 k3 k4 k5 k6 a b c d w e f ty ex ru ca ne), .var zNod, .var [.bs 3 0 j], .row 6 acc]⟩
theorem qa_canon : canon 0 (qaN name text k1 k2 k3 k4 k5 k6 a b c d w e f ty ex ru ca ne acc j x) = some (qaH name text k1 k2 k3 k4 k5 k6 a b c d w e f ty ex ru ca ne (acc ++ [x]) (j + 1)) := by kernel_rfl
end
theorem qa_loop (name text : ByteArray) (k1 k2 k3 k4 k5 k6 a b c d : Int) (w e f ty ex ru ca ne : List (List X)) (hl : ∀ x, x ∈ ex → isExp 3 x) {τ : St} (hτ : canon 0 τ = some (qaH name text k1 k2 k3 k4 k5 k6 a b c d w e f ty ex ru ca ne [] 0)) : ∃ acc, acc.length = min ex.length 4 ∧ (∀ x, x ∈ acc → (isRule) x) ∧ ∀ M, 40 ≤ M → run (callF tab ext M) 0 M (.loop (loopAt 19 0)) τ = some (.exit 0, qaE name text k1 k2 k3 k4 k5 k6 a b c d w e f ty ex ru ca ne acc (min ex.length 4)) := by
  have hK : min ex.length 4 ≤ 4 := by exact Nat.min_le_right _ _
  have key : ∃ acc : List (List X), acc.length = min ex.length 4 ∧ (∀ x, x ∈ acc → (isRule) x) ∧ ∀ M, 40 ≤ M → min ex.length 4 < M → run (callF tab ext M) 0 M (.loop (loopAt 19 0)) τ = some (.exit 0, qaE name text k1 k2 k3 k4 k5 k6 a b c d w e f ty ex ru ca ne acc (min ex.length 4)) := ?_
  · obtain ⟨acc, h1, hq, h2⟩ := key
    exact ⟨acc, h1, hq, fun M hM => h2 M hM (by omega)⟩
  refine loop_acc (nIn := 0) (b := loopAt 19 0) (B := 40) (H := fun j acc => qaH name text k1 k2 k3 k4 k5 k6 a b c d w e f ty ex ru ca ne acc j) (k := min ex.length 4) (e := .exit 0) (E := fun acc => qaE name text k1 k2 k3 k4 k5 k6 a b c d w e f ty ex ru ca ne acc (min ex.length 4)) (isRule) hτ (fun j acc hj hacc => ?_) (fun acc hacc M hM => ?_) (by simp)
  · have hj1 : j < ex.length := by omega
    have hj2 : j < 4 := by omega
    have he := hl _ (List.getElem_mem hj1)
    obtain ⟨o1, i1, t1, v1, e1, hv, _⟩ := isExp_zero he
    rw [hv] at he
    have hg : ex[j]? = some (expC o1 i1 t1 v1 e1) := by rw [List.getElem?_eq_getElem hj1, hv]; rfl
    exact ⟨(noText :: expC o1 i1 t1 v1 e1), qaN name text k1 k2 k3 k4 k5 k6 a b c d w e f ty ex ru ca ne acc j ((noText :: expC o1 i1 t1 v1 e1)), ⟨⟨#[]⟩, _, rfl, he⟩, qa_canon .., fun M hM => run_of [(14, .b true), (17, .b true), (26, .e (expC o1 i1 t1 v1 e1)), (30, .app), (20, .i (Int.ofNat (j + 1)))] [] (pf5 (lt_nat (j := j) (k := ex.length) hj1) (lt_lit hj2) hg (app_ok (acc := acc) j 3 96 hacc.symm (by omega) (by omega)) (next_nat (j := j) (by omega))) (lo' := []) (by kernel_rfl)⟩
  · generalize hq : min ex.length 4 = q
    by_cases h6 : q < ex.length
    · exact run_of [(14, .b true), (17, .b false)] [] (pf2 (lt_nat (j := q) (k := ex.length) h6) (nlt_nat (j := q) (k := 4) (by omega))) (lo' := []) (by kernel_rfl)
    · exact run_of [(14, .b false)] [] (pf1 (nlt_nat (j := q) (k := ex.length) h6)) (lo' := []) (by kernel_rfl)
section
variable (name text : ByteArray) (k1 k2 k3 k4 k5 k6 a b c d : Int) (w e f ty ru ca ne acc0 : List (List X)) (acc : List (List X)) (j : Nat) (x : List X)
def qbH : St := ⟨[(1, .ptr 0 0 0), (2, .ptr 1 0 0), (3, .ptr 2 0 0), (5, nat j)], [.var (nodB name text k1 k2 k3 k4 k5 k6 a b c d w e f ty ru ca ne 3 j), .var zNod, .var [.sl false 6 acc0], .row 5 acc]⟩
def qbN : St := ⟨[(1, .ptr 0 0 0), (2, .ptr 1 0 0), (3, .ptr 2 0 0), (5, nat (j + 1))], [.var (nodB name text k1 k2 k3 k4 k5 k6 a b c d w e f ty ru ca ne 4 (j + 1)), .var zNod, .var [.sl false 6 acc0], .dead, .row 5 (acc ++ [x])]⟩
def qbE : St := ⟨[(1, .ptr 0 0 0), (2, .ptr 1 0 0), (3, .ptr 2 0 0), (5, nat j), (39, boolX false)], [.var (nodB name text k1 k2 k3 k4 k5 k6 a b c d w e f ty ru ca ne 3 j), .var zNod, .var [.sl false 6 acc0], .row 5 acc]⟩
theorem qb_canon : canon 0 (qbN name text k1 k2 k3 k4 k5 k6 a b c d w e f ty ru ca ne acc0 acc j x) = some (qbH name text k1 k2 k3 k4 k5 k6 a b c d w e f ty ru ca ne acc0 (acc ++ [x]) (j + 1)) := by kernel_rfl
end
theorem qb_loop (name text : ByteArray) (k1 k2 k3 k4 k5 k6 a b c d : Int) (w e f ty ru ca ne acc0 : List (List X)) (hl8 : acc0.length ≤ 8) (hl : ∀ x, x ∈ acc0 → isRul0 x) {τ : St} (hτ : canon 0 τ = some (qbH name text k1 k2 k3 k4 k5 k6 a b c d w e f ty ru ca ne acc0 [] 0)) : ∃ acc, acc.length = min acc0.length 8 ∧ (∀ x, x ∈ acc → (fun _ => True) x) ∧ ∀ M, 40 ≤ M → run (callF tab ext M) 0 M (.loop (loopAt 19 1)) τ = some (.exit 2, qbE name text k1 k2 k3 k4 k5 k6 a b c d w e f ty ru ca ne acc0 acc (min acc0.length 8)) := by
  have hK : min acc0.length 8 ≤ 8 := by exact Nat.min_le_right _ _
  have key : ∃ acc : List (List X), acc.length = min acc0.length 8 ∧ (∀ x, x ∈ acc → (fun _ => True) x) ∧ ∀ M, 40 ≤ M → min acc0.length 8 < M → run (callF tab ext M) 0 M (.loop (loopAt 19 1)) τ = some (.exit 2, qbE name text k1 k2 k3 k4 k5 k6 a b c d w e f ty ru ca ne acc0 acc (min acc0.length 8)) := ?_
  · obtain ⟨acc, h1, hq, h2⟩ := key
    exact ⟨acc, h1, hq, fun M hM => h2 M hM (by omega)⟩
  refine loop_acc (nIn := 0) (b := loopAt 19 1) (B := 40) (H := fun j acc => qbH name text k1 k2 k3 k4 k5 k6 a b c d w e f ty ru ca ne acc0 acc j) (k := min acc0.length 8) (e := .exit 2) (E := fun acc => qbE name text k1 k2 k3 k4 k5 k6 a b c d w e f ty ru ca ne acc0 acc (min acc0.length 8)) (fun _ => True) hτ (fun j acc hj hacc => ?_) (fun acc hacc M hM => ?_) (by simp)
  · have hj1 : j < acc0.length := by omega
    have hj2 : j < 8 := by omega
    obtain ⟨s0, o1, i1, t1, v1, e1, hv⟩ := hl _ (List.getElem_mem hj1)
    have hg : acc0[j]? = some (ruleC s0 o1 i1 t1 v1 e1) := by rw [List.getElem?_eq_getElem hj1, hv]; rfl
    exact ⟨(expC o1 i1 t1 v1 e1), qbN name text k1 k2 k3 k4 k5 k6 a b c d w e f ty ru ca ne acc0 acc j ((expC o1 i1 t1 v1 e1)), trivial, qb_canon .., fun M hM => run_of [(39, .b true), (47, .e (ruleC s0 o1 i1 t1 v1 e1)), (51, .app), (41, .i (Int.ofNat (j + 1)))] [] (pf4 (lt_nat (j := j) (k := acc0.length) hj1) hg (app_ok (acc := acc) j 3 80 hacc.symm (by omega) (by omega)) (next_nat (j := j) (by omega))) (lo' := []) (by kernel_rfl)⟩
  · generalize hq : min acc0.length 8 = q
    exact run_of [(39, .b false)] [] (pf1 (nlt_nat (j := q) (k := acc0.length) (by omega))) (lo' := []) (by kernel_rfl)
section
variable (name text : ByteArray) (k1 k2 k3 k4 k5 k6 a b c d : Int) (w e f ty ru ca ne acc0 : List (List X)) (m : Nat) (acc : List (List X)) (j : Nat) (x : List X)
def qcH : St := ⟨[(1, .ptr 0 0 0), (2, .ptr 1 0 0), (6, .bs 2 0 j), (7, nat j)], [.var (nodB name text k1 k2 k3 k4 k5 k6 a b c d w e f ty ru ca ne 3 m), .var zNod, .row 2 acc, .row 5 acc0]⟩
def qcN : St := ⟨[(1, .ptr 0 0 0), (2, .ptr 1 0 0), (6, .bs 4 0 (j + 1)), (7, nat (j + 1))], [.var (nodB name text k1 k2 k3 k4 k5 k6 a b c d w e f ty ru ca ne 3 m), .var zNod, .dead, .row 5 acc0, .row 2 (acc ++ [x])]⟩
def qcE : St := ⟨[(1, .ptr 0 0 0), (2, .ptr 1 0 0), (6, .bs 2 0 j), (7, nat j), (61, boolX false)], [.var (nodB name text k1 k2 k3 k4 k5 k6 a b c d w e f ty ru ca ne 3 m), .var zNod, .row 2 acc, .row 5 acc0]⟩
theorem qc_canon : canon 0 (qcN name text k1 k2 k3 k4 k5 k6 a b c d w e f ty ru ca ne acc0 m acc j x) = some (qcH name text k1 k2 k3 k4 k5 k6 a b c d w e f ty ru ca ne acc0 m (acc ++ [x]) (j + 1)) := by kernel_rfl
end
theorem qc_loop (name text : ByteArray) (k1 k2 k3 k4 k5 k6 a b c d : Int) (w e f ty ru ca ne acc0 : List (List X)) (m : Nat) (hl : ∀ x, x ∈ ca → isCall x) {τ : St} (hτ : canon 0 τ = some (qcH name text k1 k2 k3 k4 k5 k6 a b c d w e f ty ru ca ne acc0 m [] 0)) : ∃ acc, acc.length = min ca.length 4 ∧ (∀ x, x ∈ acc → (fun _ => True) x) ∧ ∀ M, 110 ≤ M → run (callF tab ext M) 0 M (.loop (loopAt 19 2)) τ = some (.exit 4, qcE name text k1 k2 k3 k4 k5 k6 a b c d w e f ty ru ca ne acc0 m acc (min ca.length 4)) := by
  have hK : min ca.length 4 ≤ 4 := by exact Nat.min_le_right _ _
  have key : ∃ acc : List (List X), acc.length = min ca.length 4 ∧ (∀ x, x ∈ acc → (fun _ => True) x) ∧ ∀ M, 110 ≤ M → min ca.length 4 < M → run (callF tab ext M) 0 M (.loop (loopAt 19 2)) τ = some (.exit 4, qcE name text k1 k2 k3 k4 k5 k6 a b c d w e f ty ru ca ne acc0 m acc (min ca.length 4)) := ?_
  · obtain ⟨acc, h1, hq, h2⟩ := key
    exact ⟨acc, h1, hq, fun M hM => h2 M hM (by omega)⟩
  refine loop_acc (nIn := 0) (b := loopAt 19 2) (B := 110) (H := fun j acc => qcH name text k1 k2 k3 k4 k5 k6 a b c d w e f ty ru ca ne acc0 m acc j) (k := min ca.length 4) (e := .exit 4) (E := fun acc => qcE name text k1 k2 k3 k4 k5 k6 a b c d w e f ty ru ca ne acc0 m acc (min ca.length 4)) (fun _ => True) hτ (fun j acc hj hacc => ?_) (fun acc hacc M hM => ?_) (by simp)
  · have hj1 : j < ca.length := by omega
    have hj2 : j < 4 := by omega
    obtain ⟨s0, l0, hv, hl0⟩ := hl _ (List.getElem_mem hj1)
    obtain ⟨l1, _, _, hc⟩ := short_map l0 hl0
    have hg : ca[j]? = some [strX s0, .sl false 6 l0] := by rw [List.getElem?_eq_getElem hj1, hv]
    exact ⟨[strX (cutT 60 s0), .sl false 6 l1], qcN name text k1 k2 k3 k4 k5 k6 a b c d w e f ty ru ca ne acc0 m acc j ([strX (cutT 60 s0), .sl false 6 l1]), trivial, qc_canon .., fun M hM => run_of [(57, .b true), (60, .b true), (68, .e [strX s0, .sl false 6 l0]), (74, .e [strX s0, .sl false 6 l0]), (78, .i (Int.ofNat (min s0.size 60))), (79, .cut), (83, .e [strX s0, .sl false 6 l0]), (86, .p (.agg [.sl false 6 l1])), (89, .app), (63, .i (Int.ofNat (j + 1)))] [] (pf10 (lt_nat (j := j) (k := ca.length) hj1) (lt_lit hj2) hg hg (min_int s0.size 60) (cut_ok s0.size 60) hg (hc M (by omega)) (app_ok (acc := acc) j 2 40 hacc.symm (by omega) (by omega)) (next_nat (j := j) (by omega))) (lo' := []) (by kernel_rfl)⟩
  · generalize hq : min ca.length 4 = q
    by_cases h6 : q < ca.length
    · exact run_of [(57, .b true), (60, .b false)] [] (pf2 (lt_nat (j := q) (k := ca.length) h6) (nlt_nat (j := q) (k := 4) (by omega))) (lo' := []) (by kernel_rfl)
    · exact run_of [(57, .b false)] [] (pf1 (nlt_nat (j := q) (k := ca.length) h6)) (lo' := []) (by kernel_rfl)
section
variable (name text : ByteArray) (k1 k2 k3 k4 k5 k6 a b c d : Int) (w e f ty ru ca ne acc0 acc1 : List (List X)) (m q : Nat) (acc : List (List X)) (j : Nat) (x : List X)
def qdH : St := ⟨[(1, .ptr 0 0 0), (2, .ptr 1 0 0), (6, .bs 2 0 q), (8, .bs 3 0 j), (9, nat j)], [.var (nodB name text k1 k2 k3 k4 k5 k6 a b c d w e f ty ru ca ne 4 m), .var zNod, .row 2 acc1, .row 7 acc, .row 5 acc0]⟩
def qdN : St := ⟨[(1, .ptr 0 0 0), (2, .ptr 1 0 0), (6, .bs 2 0 q), (8, .bs 5 0 (j + 1)), (9, nat (j + 1))], [.var (nodB name text k1 k2 k3 k4 k5 k6 a b c d w e f ty ru ca ne 4 m), .var zNod, .row 2 acc1, .dead, .row 5 acc0, .row 7 (acc ++ [x])]⟩
def qdE : St := ⟨[(1, .ptr 0 0 0), (2, .ptr 1 0 0), (6, .bs 2 0 q), (8, .bs 3 0 j), (9, nat j), (98, boolX false)], [.var (nodB name text k1 k2 k3 k4 k5 k6 a b c d w e f ty ru ca ne 4 m), .var zNod, .row 2 acc1, .row 7 acc, .row 5 acc0]⟩
theorem qd_canon : canon 0 (qdN name text k1 k2 k3 k4 k5 k6 a b c d w e f ty ru ca ne acc0 acc1 m q acc j x) = some (qdH name text k1 k2 k3 k4 k5 k6 a b c d w e f ty ru ca ne acc0 acc1 m q (acc ++ [x]) (j + 1)) := by kernel_rfl
end
theorem qd_loop (name text : ByteArray) (k1 k2 k3 k4 k5 k6 a b c d : Int) (w e f ty ru ca ne acc0 acc1 : List (List X)) (m q : Nat) (hl : ∀ x, x ∈ ty → isTyp 3 x) {τ : St} (hτ : canon 0 τ = some (qdH name text k1 k2 k3 k4 k5 k6 a b c d w e f ty ru ca ne acc0 acc1 m q [] 0)) : ∃ acc, acc.length = min ty.length 8 ∧ (∀ x, x ∈ acc → (fun _ => True) x) ∧ ∀ M, 210 ≤ M → run (callF tab ext M) 0 M (.loop (loopAt 19 3)) τ = some (.exit 6, qdE name text k1 k2 k3 k4 k5 k6 a b c d w e f ty ru ca ne acc0 acc1 m q acc (min ty.length 8)) := by
  have hK : min ty.length 8 ≤ 8 := by exact Nat.min_le_right _ _
  have key : ∃ acc : List (List X), acc.length = min ty.length 8 ∧ (∀ x, x ∈ acc → (fun _ => True) x) ∧ ∀ M, 210 ≤ M → min ty.length 8 < M → run (callF tab ext M) 0 M (.loop (loopAt 19 3)) τ = some (.exit 6, qdE name text k1 k2 k3 k4 k5 k6 a b c d w e f ty ru ca ne acc0 acc1 m q acc (min ty.length 8)) := ?_
  · obtain ⟨acc, h1, hq, h2⟩ := key
    exact ⟨acc, h1, hq, fun M hM => h2 M hM (by omega)⟩
  refine loop_acc (nIn := 0) (b := loopAt 19 3) (B := 210) (H := fun j acc => qdH name text k1 k2 k3 k4 k5 k6 a b c d w e f ty ru ca ne acc0 acc1 m q acc j) (k := min ty.length 8) (e := .exit 6) (E := fun acc => qdE name text k1 k2 k3 k4 k5 k6 a b c d w e f ty ru ca ne acc0 acc1 m q acc (min ty.length 8)) (fun _ => True) hτ (fun j acc hj hacc => ?_) (fun acc hacc M hM => ?_) (by simp)
  · have hj1 : j < ty.length := by omega
    have hj2 : j < 8 := by omega
    obtain ⟨a1, b1, c1, d1, w1, e1, f1, a2, b2, c2, d2, w2, e2, f2, hv, hc⟩ := short_typ 3 _ (by omega) (hl _ (List.getElem_mem hj1))
    have hg : ty[j]? = some (typC a1 b1 c1 d1 w1 e1 f1) := by rw [List.getElem?_eq_getElem hj1, hv]
    exact ⟨(typC a2 b2 c2 d2 w2 e2 f2), qdN name text k1 k2 k3 k4 k5 k6 a b c d w e f ty ru ca ne acc0 acc1 m q acc j ((typC a2 b2 c2 d2 w2 e2 f2)), trivial, qd_canon .., fun M hM => run_of [(94, .b true), (97, .b true), (105, .e (typC a1 b1 c1 d1 w1 e1 f1)), (107, .p (.agg (typC a2 b2 c2 d2 w2 e2 f2))), (109, .app), (100, .i (Int.ofNat (j + 1)))] [] (pf6 (lt_nat (j := j) (k := ty.length) hj1) (lt_lit hj2) hg (hc M (by omega)) (app_ok (acc := acc) j 3 104 hacc.symm (by omega) (by omega)) (next_nat (j := j) (by omega))) (lo' := []) (by kernel_rfl)⟩
  · generalize hq : min ty.length 8 = q
    by_cases h6 : q < ty.length
    · exact run_of [(94, .b true), (97, .b false)] [] (pf2 (lt_nat (j := q) (k := ty.length) h6) (nlt_nat (j := q) (k := 8) (by omega))) (lo' := []) (by kernel_rfl)
    · exact run_of [(94, .b false)] [] (pf1 (nlt_nat (j := q) (k := ty.length) h6)) (lo' := []) (by kernel_rfl)
theorem short_node (name text : ByteArray) (k1 k2 k3 k4 k5 k6 : Int) (T : List X) (ty ex ru ca ne : List (List X)) (hT : isTyp 3 T) (hty : ∀ x, x ∈ ty → isTyp 3 x) (hex : ∀ x, x ∈ ex → isExp 3 x) (hru : ∀ x, x ∈ ru → isRule x) (hca : ∀ x, x ∈ ca → isCall x) :
    ∃ a b c d w e f a' b' c' d' w' e' f' ty' ex' ru' ca' ne', T = typC a b c d w e f ∧ ∀ N, 220 ≤ N → Gam.pureD (callF tab ext N) 19 [.agg (nodC name text k1 k2 k3 k4 k5 k6 a b c d w e f ty ex ru ca ne)] = some (.agg (nodC (cutT 60 name) (cutT 60 text) k1 k2 k3 k4 k5 k6 a' b' c' d' w' e' f' ty' ex' ru' ca' ne')) := by
  obtain ⟨a, b, c, d, w, e, f, a', b', c', d', w', e', f', rfl, hc⟩ := short_typ 3 T (by omega) hT
  obtain ⟨acc, h1, hr, g1⟩ := qa_loop name text k1 k2 k3 k4 k5 k6 a b c d w e f ty ex ru ca ne hex (τ := qaH name text k1 k2 k3 k4 k5 k6 a b c d w e f ty ex ru ca ne [] 0) (by kernel_rfl)
  generalize min ex.length 4 = m0 at h1 g1
  obtain ⟨r1, hl8, hr1, hc1⟩ := short_map acc hr
  obtain ⟨r2, _, _, hc2⟩ := short_map ru hru
  obtain ⟨acc1, h2, _, g2⟩ := qb_loop name text k1 k2 k3 k4 k5 k6 a b c d w e f ty ru ca ne r1 hl8 hr1 (τ := ⟨[(1, .ptr 0 0 0), (2, .ptr 1 0 0), (3, .ptr 2 0 0), (5, num 0)], [.var (nodB name text k1 k2 k3 k4 k5 k6 a b c d w e f ty ru ca ne 4 0), .var zNod, .var [.sl false 6 r1], .dead, .row 5 []]⟩) (by kernel_rfl)
  generalize min r1.length 8 = m1 at h2 g2
  obtain ⟨acc2, h3, _, g3⟩ := qc_loop name text k1 k2 k3 k4 k5 k6 a b c d w e f ty ru ca ne acc1 m1 hca (τ := ⟨[(1, .ptr 0 0 0), (2, .ptr 1 0 0), (6, .bs 4 0 0), (7, num 0)], [.var (nodB name text k1 k2 k3 k4 k5 k6 a b c d w e f ty ru ca ne 3 m1), .var zNod, .var [.sl false 6 r1], .row 5 acc1, .row 2 []]⟩) (by kernel_rfl)
  generalize min ca.length 4 = m2 at h3 g3
  obtain ⟨acc3, h4, _, g4⟩ := qd_loop name text k1 k2 k3 k4 k5 k6 a b c d w e f ty ru ca ne acc1 acc2 m1 m2 hty (τ := ⟨[(1, .ptr 0 0 0), (2, .ptr 1 0 0), (6, .bs 2 0 m2), (8, .bs 4 0 0), (9, num 0)], [.var (nodB name text k1 k2 k3 k4 k5 k6 a b c d w e f ty ru ca ne 3 m1), .var zNod, .row 2 acc2, .row 5 acc1, .row 7 []]⟩) (by kernel_rfl)
  generalize min ty.length 8 = m3 at h4 g4
  refine ⟨a, b, c, d, w, e, f, a', b', c', d', w', e', f', acc3, acc1, r2, acc2, ne.take (min ne.length 70), rfl, fun N hN => ?_⟩
  obtain ⟨M, rfl⟩ : ∃ M, N = M + 1 := ⟨N - 1, by omega⟩
  have hd : (X.agg [strX (cutT 60 name), num k1, num k2, num k3, num k4, num k5, num k6, strX (cutT 60 text), num a', num b', num c', num d', .sl false 1 w', .sl false 7 e', .sl false 11 f', .bs 0 0 m3, .bs 1 0 m1, .sl false 6 r2, .bs 2 0 m2, .sl false 1 (ne.take (min ne.length 70))]).data [.row 7 acc3, .row 5 acc1, .row 2 acc2] false
      = some (.agg (nodC (cutT 60 name) (cutT 60 text) k1 k2 k3 k4 k5 k6 a' b' c' d' w' e' f' acc3 acc1 r2 acc2 (ne.take (min ne.length 70)))) := by
    subst h2 h3 h4; simp [X.data, dataL, rowOf, num, strX, nodC]
  exact pure_of [(33, .p (.agg [.sl false 6 r1])), (114, .p (.agg [.sl false 6 r2])), (117, .p (.agg (typC a' b' c' d' w' e' f'))), (127, .i (Int.ofNat (min name.size 60))), (128, .cut), (134, .i (Int.ofNat (min text.size 60))), (135, .cut), (141, .i (Int.ofNat (min ne.length 70))), (142, .cut)]
    [(.exit 0, qaE name text k1 k2 k3 k4 k5 k6 a b c d w e f ty ex ru ca ne acc m0), (.exit 2, qbE name text k1 k2 k3 k4 k5 k6 a b c d w e f ty ru ca ne r1 acc1 m1), (.exit 4, qcE name text k1 k2 k3 k4 k5 k6 a b c d w e f ty ru ca ne acc1 m1 acc2 m2), (.exit 6, qdE name text k1 k2 k3 k4 k5 k6 a b c d w e f ty ru ca ne acc1 acc2 m1 m2 acc3 m3)]
    (pf14 (g1 M (by omega)) (show 0 + m0 ≤ acc.length by omega) (show Gam.pureD (callF tab ext M) 53 [.agg [.sl false 6 (acc.take m0)]] = some (.agg [.sl false 6 r1]) by rw [List.take_of_length_le (by omega)]; exact hc1 M (by omega)) (g2 M (by omega)) (g3 M (by omega)) (g4 M (by omega)) (hc2 M (by omega)) (hc M (by omega)) (min_int name.size 60) (cut_ok name.size 60) (min_int text.size 60) (cut_ok text.size 60) (min_int ne.length 70) (cut_ok ne.length 70))
    (x := .agg [strX (cutT 60 name), num k1, num k2, num k3, num k4, num k5, num k6, strX (cutT 60 text), num a', num b', num c', num d', .sl false 1 w', .sl false 7 e', .sl false 11 f', .bs 0 0 m3, .bs 1 0 m1, .sl false 6 r2, .bs 2 0 m2, .sl false 1 (ne.take (min ne.length 70))]) (bx := [.row 7 acc3, .row 5 acc1, .row 2 acc2]) (by kernel_rfl) hd

end Go.Proofs.YtjfheahakfoofaaGreatDoor

/- The bounds of a node, windows, counts: the program's and the document's. -/
namespace Go.Proofs.YtjfheahakfoofaaGreatDoor
open Go.Em

def maxTime : Int := 17592186044416
def numF (k : Int) : Int := if k > 0 then k else 0
def minI (a b : Int) : Int := if b < a then b else a
def maxI (a b : Int) : Int := if b > a then b else a
theorem minI_comm (a b : Int) : minI a b = minI b a := by unfold minI; split <;> split <;> omega
def clampF (x lo hi : Int) : Int := maxI lo (minI hi x)
/-- The period of a node is one more than this. -/
def perF (k : Int) : Nat := (clampF k 1 maxTime - 1).toNat
def limF (k : Int) : Int := clampF k 0 256
theorem perF_eq (k : Int) : clampF k 1 maxTime = Int.ofNat (perF k + 1) := by
  unfold perF clampF maxI minI maxTime
  simp only [Int.ofNat_eq_natCast]
  split <;> split <;> omega
theorem perF_le (k : Int) : perF k + 1 ≤ 17592186044416 := by
  unfold perF clampF maxI minI maxTime
  split <;> split <;> omega
theorem clamp_pure (N : Nat) (x a b : Int) : Gam.pureD (callF tab ext (N + 1)) 69 [num x, num a, num b] = some (num (clampF x a b)) := by kernel_rfl
theorem number_pure (N : Nat) (n : Nod) : Gam.pureD (callF tab ext (N + 1)) 57 [.agg n.cells] = some (num (numF n.number)) := by kernel_rfl
theorem period_pure (N : Nat) (n : Nod) : Gam.pureD (callF tab ext (N + 2)) 59 [.agg n.cells] = some (nat (perF n.time + 1)) := by
  have h := clamp_pure N n.time 1 maxTime
  rw [perF_eq] at h
  exact pure_of [(5, .p (nat (perF n.time + 1)))] [] (pf1 h) (x := nat (perF n.time + 1)) (bx := []) (by kernel_rfl) rfl
theorem limit_pure (N : Nat) (n : Nod) : Gam.pureD (callF tab ext (N + 2)) 70 [.agg n.cells] = some (num (limF n.limit)) :=
  pure_of [(5, .p (num (limF n.limit)))] [] (pf1 (clamp_pure N n.limit 0 256)) (x := num (limF n.limit)) (bx := []) (by kernel_rfl) rfl
/-- The window that contains a time. -/
def winF (p : Nat) (t : Int) : Int := if t < 0 then 0 else Go.IntKind.i64.wrap (t - t.tmod (Int.ofNat (p + 1)))
theorem window_pure (N : Nat) (n : Nod) (t : Int) : Gam.pureD (callF tab ext (N + 3)) 58 [.agg n.cells, num t] = some (num (winF (perF n.time) t)) := by
  cases h1 : decide (t < 0) with
  | true =>
    rw [winF, if_pos (of_decide_eq_true h1)]
    exact pure_of [(6, .b true)] [] (pf1 h1) (x := num 0) (bx := []) (by kernel_rfl) rfl
  | false =>
    rw [winF, if_neg (of_decide_eq_false h1)]
    exact pure_of [(6, .b false), (10, .p (nat (perF n.time + 1)))] [] (pf2 h1 (period_pure N n)) (x := num (Go.IntKind.i64.wrap (t - t.tmod (Int.ofNat (perF n.time + 1))))) (bx := []) (by kernel_rfl) rfl
/-- How many have left in the window. -/
def cntF (p : Nat) (c t a : Int) : Int := if winF p a > t then 0 else numF c
theorem count_pure (N : Nat) (n : Nod) (s : Stt) (a : Int) : Gam.pureD (callF tab ext (N + 4)) 74 [.agg n.cells, .agg s.cells, num a] = some (num (cntF (perF n.time) s.n s.t a)) := by
  have hw := window_pure N n a
  unfold cntF
  generalize winF (perF n.time) a = w at hw
  cases h1 : decide (w > s.t) with
  | true =>
    rw [if_pos (of_decide_eq_true h1)]
    exact pure_of [(9, .p (num w)), (12, .b true)] [] (pf2 hw h1) (x := num 0) (bx := []) (by kernel_rfl) rfl
  | false =>
    rw [if_neg (of_decide_eq_false h1)]
    exact pure_of [(9, .p (num w)), (12, .b false)] [] (pf2 hw h1) (x := num (numF s.n)) (bx := []) (by kernel_rfl) rfl
/-- The state behind messages that have left. -/
def leftF (p : Nat) (s : Stt) (a k : Int) : Stt := ⟨Go.IntKind.i64.wrap (cntF p s.n s.t a + k), maxI s.t (winF p a), s.slots⟩
theorem left_pure (N : Nat) (n : Nod) (s : Stt) (a k : Int) : Gam.pureD (callF tab ext (N + 5)) 75 [.agg n.cells, .agg s.cells, num a, num k] = some (.agg (leftF (perF n.time) s a k).cells) := by
  have hw := window_pure (N + 1) n a
  have hc := count_pure N n s a
  unfold leftF
  generalize winF (perF n.time) a = w at hw
  generalize cntF (perF n.time) s.n s.t a = c at hc
  exact pure_of [(12, .p (num c)), (20, .p (num w))] [] (pf2 hc hw) (x := .agg (Stt.mk (Go.IntKind.i64.wrap (c + k)) (maxI s.t w) s.slots).cells) (bx := []) (by kernel_rfl) rfl

/-! ### The document's -/
theorem mperiod_pure (N : Nat) (n : Nod) : Gam.pureD (callF tab ext (N + 1)) 44 [.agg n.cells] = some (nat (perF n.time + 1)) := by
  have h : Gam.pureD (callF tab ext (N + 1)) 44 [.agg n.cells] = some (num (maxI 1 (minI n.time 17592186044416))) := by kernel_rfl
  rw [h, show maxI 1 (minI n.time 17592186044416) = clampF n.time 1 maxTime from by rw [minI_comm]; rfl, perF_eq]
  rfl
theorem mlimit_pure (N : Nat) (n : Nod) : Gam.pureD (callF tab ext (N + 1)) 46 [.agg n.cells] = some (num (limF n.limit)) := by
  have h : Gam.pureD (callF tab ext (N + 1)) 46 [.agg n.cells] = some (num (maxI 0 (minI n.limit 256))) := by kernel_rfl
  rw [h, show maxI 0 (minI n.limit 256) = limF n.limit from by rw [minI_comm]; rfl]
/-! ### Fates, moves -/
theorem rejected_pure (N : Nat) (m : Msg) (h : m.st.ok) (nm tx : ByteArray) : Gam.pureD (callF tab ext (N + 12)) 108 [.agg m.cells, strX nm, strX tx] = some (.agg (Fte.mk m.st 4 nm [] tx).cells) := by
  have hst := clone_stamp (N + 8) m.st h
  obtain ⟨⟨e, p⟩, ms, o, ⟨a1, a2, a3, a4, a5, a6⟩⟩ := m
  have h1 : Gam.pureD (callF tab ext (N + 11)) 138 [.agg (Msg.mk ⟨e, p⟩ ms o (Val.mk a1 a2 a3 a4 a5 a6)).cells, strX nm, num 4, .sl false 1 [[.fn 139 [.dp [strX tx]]]]] = some (.agg (Fte.mk ⟨e, p⟩ 4 nm [] tx).cells) :=
    pure_of [(14, .p (.agg (Stp.mk e p).cells))] [] (pf1 hst) (x := .agg [num e, .sl false 1 (intsC p), num 4, strX nm, .sl true 2 [], strX tx]) (bx := []) (by kernel_rfl) rfl
  exact pure_of [(11, .p (.agg (Fte.mk ⟨e, p⟩ 4 nm [] tx).cells))] [] (pf1 h1) (x := .agg (Fte.mk ⟨e, p⟩ 4 nm [] tx).cells) (bx := []) (by kernel_rfl) rfl
theorem replaced_pure (N : Nat) (m : Msg) (h : m.st.ok) (nm : ByteArray) (s : Stp) (hs : s.ok) : Gam.pureD (callF tab ext (N + 14)) 111 [.agg m.cells, strX nm, .sl false 2 [s.cells]] = some (.agg (Fte.mk m.st 1 nm [s] ⟨#[]⟩).cells) := by
  have hst := clone_stamp (N + 10) m.st h
  have hs2 := clone_stamp (N + 9) s hs
  obtain ⟨⟨e, p⟩, ms, o, ⟨a1, a2, a3, a4, a5, a6⟩⟩ := m
  obtain ⟨se, sp⟩ := s
  have h0 : callF tab ext (N + 12) (.fn 148) [.ptr 0 0 0, .dp [.sl false 2 [(Stp.mk se sp).cells]]] [.var [num e, .sl false 1 (intsC p), num 1, strX nm, .sl true 2 [], noText]] = some (.tup [], [.var [num e, .sl false 1 (intsC p), num 1, strX nm, .sl false 2 [(Stp.mk se sp).cells], noText]]) :=
    callF_of [(17, .p (.agg (Stp.mk se sp).cells))] [] (pf1 hs2) (by kernel_rfl)
  have h1 : Gam.pureD (callF tab ext (N + 13)) 138 [.agg (Msg.mk ⟨e, p⟩ ms o (Val.mk a1 a2 a3 a4 a5 a6)).cells, strX nm, num 1, .sl false 1 [[.fn 148 [.dp [.sl false 2 [(Stp.mk se sp).cells]]]]]] = some (.agg (Fte.mk ⟨e, p⟩ 1 nm [⟨se, sp⟩] ⟨#[]⟩).cells) :=
    pure_of [(14, .p (.agg (Stp.mk e p).cells)), (25, .r (.tup []) [.var [num e, .sl false 1 (intsC p), num 1, strX nm, .sl false 2 [(Stp.mk se sp).cells], noText]])] [] (pf2 hst h0) (x := .agg [num e, .sl false 1 (intsC p), num 1, strX nm, .sl false 2 [(Stp.mk se sp).cells], noText]) (bx := []) (by kernel_rfl) rfl
  exact pure_of [(12, .p (.agg (Fte.mk ⟨e, p⟩ 1 nm [⟨se, sp⟩] ⟨#[]⟩).cells))] [] (pf1 h1) (x := .agg (Fte.mk ⟨e, p⟩ 1 nm [⟨se, sp⟩] ⟨#[]⟩).cells) (bx := []) (by kernel_rfl) rfl
/-- The stamp of a child. -/
def childF (s : Stp) (k : Nat) : Stp := ⟨s.e, s.p ++ [Int.ofNat k]⟩
theorem intsC_snoc (l : List Int) (x : Int) : intsC (l ++ [x]) = intsC l ++ [[num x]] := by simp [intsC]
theorem under_pure (N : Nat) (s : Stp) (h : s.ok) (k : Nat) : Gam.pureD (callF tab ext (N + 4)) 141 [.agg s.cells, nat k] = some (.agg (childF s k).cells) := by
  have hr := clone_row (N + 2) s.p h.p
  have hl := h.p
  obtain ⟨e, p⟩ := s
  dsimp only at hl hr
  have hn := intsC_length p
  have hd : (X.agg [num e, .bs 0 0 ((intsC p).length + 1)]).data [.row 1 (intsC p ++ [[nat k]])] false = some (.agg (childF ⟨e, p⟩ k).cells) := by
    simp only [X.data, dataL, rowOf, num, childF, Stp.cells, intsC_snoc, nat, List.getElem?_cons_zero, List.length_append, List.length_cons, List.length_nil, Nat.zero_add, Nat.le_refl, if_true, List.drop_zero, Option.map_some]
    rw [List.take_of_length_le (by simp)]
  rw [← hn] at hr
  exact pure_of [(9, .o (.bs 0 0 (intsC p).length) [.row 1 (intsC p)]), (12, .app)] [] (pf2 hr (app_ok (acc := intsC p) (intsC p).length 2 8 rfl (by omega) (by omega))) (x := .agg [num e, .bs 0 0 ((intsC p).length + 1)]) (bx := [.row 1 (intsC p ++ [[nat k]])]) (by kernel_rfl) hd
def moveF (m : Msg) (s : Stp) : Msg := { m with st := s }
theorem move_pure (N : Nat) (m : Msg) (h : m.ok) (s : Stp) (hs : s.ok) (hN : 190001 ≤ N) : Gam.pureD (callF tab ext (N + 1)) 89 [.agg m.cells, .agg s.cells] = some (.agg (moveF m s).cells) := by
  have hcl := clone_msg N m h hN
  obtain ⟨M, rfl⟩ : ∃ M, N = M + 2 := ⟨N - 2, by omega⟩
  have hst := clone_stamp M s hs
  obtain ⟨⟨e, p⟩, ms, o, ⟨a1, a2, a3, a4, a5, a6⟩⟩ := m
  obtain ⟨se, sp⟩ := s
  exact pure_of [(6, .p (.agg (Msg.mk ⟨e, p⟩ ms o (Val.mk a1 a2 a3 a4 a5 a6)).cells)), (8, .p (.agg (Stp.mk se sp).cells))] [] (pf2 hcl hst) (x := .agg (Msg.mk ⟨se, sp⟩ ms o (Val.mk a1 a2 a3 a4 a5 a6)).cells) (bx := []) (by kernel_rfl) rfl
/-! ### Fates as the document makes them -/
def Fte.cellsB (b : Bool) (f : Fte) : List X := [num f.st.e, .sl false 1 (intsC f.st.p), num f.kind, strX f.node, .sl b 2 (stpsC f.into), strX f.text]
def ftesB (b : Bool) (l : List Fte) : List (List X) := l.map (Fte.cellsB b)
def Ocm.cellsB (b : Bool) (o : Ocm) : List X := [num o.s.n, num o.s.t, .sl false 10 (sltsC o.s.slots), .sl false 11 (otpsC o.outs), .sl false 11 [], .sl false 6 (ftesB b o.fates), .sl false 10 (msgsC o.letters)]
def ohB (a b : List X) (j : Nat) : St := ⟨[(2, .ptr 0 0 0), (3, .ptr 1 0 0), (5, nat j)], [.var a, .var b]⟩
/-- The outcome of a rejection. -/
def fullT : ByteArray := ⟨#[102, 117, 108, 108]⟩
def rejF (n : Nod) (s : Stt) (m : Msg) : Ocm := ⟨s, [], [⟨m.st, 4, n.name, [], fullT⟩], [m]⟩
theorem reject_pure (N : Nat) (n : Nod) (s : Stt) (m : Msg) (h : m.ok) (hN : 190020 ≤ N) : Gam.pureD (callF tab ext (N + 1)) 71 [.agg n.cells, .agg s.cells, .agg m.cells] = some (.agg (rejF n s m).cells) := by
  have hcl := clone_msg N m h (by omega)
  obtain ⟨M, rfl⟩ : ∃ M, N = M + 12 := ⟨N - 12, by omega⟩
  have hrj := rejected_pure M m h.st n.name fullT
  obtain ⟨⟨e, p⟩, ms, o, ⟨a1, a2, a3, a4, a5, a6⟩⟩ := m
  exact pure_of [(11, .p (.agg (Fte.mk ⟨e, p⟩ 4 n.name [] fullT).cells)), (14, .p (.agg (Msg.mk ⟨e, p⟩ ms o (Val.mk a1 a2 a3 a4 a5 a6)).cells))] [] (pf2 hrj hcl) (x := .agg [num s.n, num s.t, .sl false 10 (sltsC s.slots), .sl true 11 [], .sl true 11 [], .sl true 6 [(Fte.mk ⟨e, p⟩ 4 n.name [] fullT).cells], .sl true 10 [(Msg.mk ⟨e, p⟩ ms o (Val.mk a1 a2 a3 a4 a5 a6)).cells]]) (bx := []) (by kernel_rfl) rfl
theorem full_pure (N : Nat) (n : Nod) (s : Stt) (m : Msg) : Gam.pureD (callF tab ext (N + 1)) 47 [.agg n.cells, .agg s.cells, .agg m.cells] = some (.agg ((rejF n s m).cellsB true)) := by
  obtain ⟨⟨e, p⟩, ms, o, ⟨a1, a2, a3, a4, a5, a6⟩⟩ := m
  exact pure_of [] [] pf0 (x := .agg [num s.n, num s.t, .sl false 10 (sltsC s.slots), .sl true 11 [], .sl true 11 [], .sl true 6 [(Fte.mk ⟨e, p⟩ 4 n.name [] fullT).cellsB true], .sl true 10 [(Msg.mk ⟨e, p⟩ ms o (Val.mk a1 a2 a3 a4 a5 a6)).cells]]) (bx := []) (by kernel_rfl) rfl
end Go.Proofs.YtjfheahakfoofaaGreatDoor

/- The release of messages: the rounds, the loop that yields, and the call as a whole. -/
namespace Go.Proofs.YtjfheahakfoofaaGreatDoor
open Go.Em

/-- The ranges over functions in a code: what assigns, and the body. -/
def rlsOf : C → List (C × C)
  | .seq a b | .cond _ a b => rlsOf a ++ rlsOf b
  | .block _ b | .loop b => rlsOf b
  | .rf _ _ _ a b => (a, b) :: (rlsOf a ++ rlsOf b)
  | _ => []
noncomputable def rlA : C := ((rlsOf (bodyOf tab 73)).getD 0 (.skip, .skip)).1
noncomputable def rlB : C := ((rlsOf (bodyOf tab 73)).getD 0 (.skip, .skip)).2
noncomputable def rlRec : Bx := .loop .ready none [(5, .ptr 1 0 0), (6, .ptr 2 0 0), (11, .ptr 3 0 0)] [18, 19] rlA rlB
def dM : Msg := ⟨⟨0, []⟩, 0, [], .mk 0 0 0 ⟨#[]⟩ [] []⟩
/-- What leaves; the fates. -/
def outM (b : Stp) (m : Msg) (i : Nat) : Otp := ⟨0, moveF m (childF b i)⟩
def fateM (nm : ByteArray) (b : Stp) (m : Msg) (i : Nat) : Fte := ⟨m.st, 1, nm, [childF b i], ⟨#[]⟩⟩
def outsF (b : Stp) (ms : List Msg) (m : Nat) : List Otp := (List.range m).map fun i => outM b (ms.getD i dM) i
def fatesF (nm : ByteArray) (b : Stp) (ms : List Msg) (m : Nat) : List Fte := (List.range m).map fun i => fateM nm b (ms.getD i dM) i
theorem outsF_length (b : Stp) (ms : List Msg) (m : Nat) : (otpsC (outsF b ms m)).length = m := by simp [outsF, otpsC]
theorem fatesF_length (nm : ByteArray) (b : Stp) (ms : List Msg) (m : Nat) : (ftesC (fatesF nm b ms m)).length = m := by simp [fatesF, ftesC]
theorem outsF_succ (b : Stp) (ms : List Msg) (m : Nat) : otpsC (outsF b ms (m + 1)) = otpsC (outsF b ms m) ++ [(outM b (ms.getD m dM) m).cells] := by simp [outsF, otpsC, List.range_succ]
theorem fatesF_succ (nm : ByteArray) (b : Stp) (ms : List Msg) (m : Nat) : ftesC (fatesF nm b ms (m + 1)) = ftesC (fatesF nm b ms m) ++ [(fateM nm b (ms.getD m dM) m).cells] := by simp [fatesF, ftesC, List.range_succ]

section
variable (n : Nod) (x y : Int) (tt : Bool) (rest : List (List X))
def out0 : List X := [num x, num y, .sl tt 10 rest, .sl true 11 [], .sl true 11 [], .sl true 6 [], .sl true 10 []]
def outJ (a b j : Nat) : List X := [num x, num y, .sl tt 10 rest, .bs a 0 j, .sl true 11 [], .bs b 0 j, .sl true 10 []]
noncomputable def inb0 : List Bx := [rlRec, .var [.ptr 4 0 0], .var n.cells, .var [nat 0], .var (out0 x y tt rest)]
noncomputable def inbS (j : Nat) (outs fates : List (List X)) : List Bx :=
  [rlRec, .var [.ptr 4 0 0], .var n.cells, .var [nat j], .var (outJ x y tt rest 5 6 j), .row 11 outs, .row 6 fates]
noncomputable def outS (j : Nat) (outs fates : List (List X)) : List Bx :=
  [rlRec, .var [.ptr 4 0 0], .var n.cells, .var [nat j], .var (outJ x y tt rest 7 8 j), .dead, .dead, .row 11 outs, .row 6 fates]
end
theorem app_c {j len bytes i : Nat} (h : j = len) (hj : j < 4096) (hb : bytes ≤ 4096) : (0 + j = len ∧ roomOk (j + 1) bytes = true ∧ memN i [] = false) := by
  refine ⟨by omega, room_of ?_ (by omega), rfl⟩
  have : (j + 1) * bytes ≤ 4096 * 4096 := Nat.mul_le_mul (by omega) hb
  omega

theorem round_more (N : Nat) (n : Nod) (x y : Int) (tt : Bool) (rest : List (List X)) (j i : Nat) (b : Stp) (hb : (childF b i).ok) (m : Msg) (hm : m.ok) (outs fates : List (List X)) (hj : j < 4000) (h1 : j = outs.length) (h2 : j = fates.length) :
    callF tab ext (N + 15) .yl [.yl 0, .agg m.cells, .agg (moveF m (childF b i)).cells] (inbS n x y tt rest j outs fates) = some (.v (.bool true), outS n x y tt rest (j + 1) (outs ++ [(outM b m i).cells]) (fates ++ [(fateM n.name b m i).cells])) := by
  have hr := replaced_pure N m hm.st n.name (childF b i) hb
  unfold outM fateM moveF
  generalize childF b i = c at hr
  obtain ⟨⟨e, p⟩, ms, o, ⟨a1, a2, a3, a4, a5, a6⟩⟩ := m
  obtain ⟨ce, cp⟩ := c
  exact yield_of [(28, .app), (42, .p (.agg (Fte.mk ⟨e, p⟩ 1 n.name [⟨ce, cp⟩] ⟨#[]⟩).cells)), (44, .app), (48, .i (Int.ofNat (j + 1)))]
    (pf4 (app_c (i := 5) (bytes := 160) h1 (by omega) (by omega)) hr (app_c (i := 6) (bytes := 96) h2 (by omega) (by omega)) (next_nat (j := j) (by omega))) (by kernel_rfl)

theorem round_first (N : Nat) (n : Nod) (x y : Int) (tt : Bool) (rest : List (List X)) (b : Stp) (i : Nat) (hb : (childF b i).ok) (m : Msg) (hm : m.ok) :
    callF tab ext (N + 15) .yl [.yl 0, .agg m.cells, .agg (moveF m (childF b i)).cells] (inb0 n x y tt rest) = some (.v (.bool true), inbS n x y tt rest 1 [(outM b m i).cells] [(fateM n.name b m i).cells]) := by
  have hr := replaced_pure N m hm.st n.name (childF b i) hb
  unfold outM fateM moveF
  generalize childF b i = c at hr
  obtain ⟨⟨e, p⟩, ms, o, ⟨a1, a2, a3, a4, a5, a6⟩⟩ := m
  obtain ⟨ce, cp⟩ := c
  exact yield_of [(42, .p (.agg (Fte.mk ⟨e, p⟩ 1 n.name [⟨ce, cp⟩] ⟨#[]⟩).cells)), (48, .i (Int.ofNat 1))] (pf2 hr (next_nat (j := 0) (by omega))) (by kernel_rfl)

def relTm (l : List (List X)) (most : Int) (b : List X) (k j : Nat) : List (Nat × X) :=
  [(0, .yl 0), (2, .dp [num most]), (3, .dp b), (7, .sl false 10 l), (8, nat k), (9, nat j)]

section
variable (n : Nod) (x y : Int) (tt : Bool) (rest : List (List X)) (l : List (List X)) (most : Int) (be : Int) (bp : List (List X)) (k j : Nat) (outs fates : List (List X)) (m : List X)
noncomputable def relH : St := ⟨relTm l most [num be, .sl false 1 bp] k j, inbS n x y tt rest j outs fates⟩
noncomputable def relH' : St :=
  ⟨relTm l most [num be, .sl false 1 bp] k (j + 1), [rlRec, .var [.ptr 4 0 0], .var n.cells, .var [nat (j + 1)], .var (outJ x y tt rest 8 9 (j + 1)), .dead, .dead, .var m, .row 11 outs, .row 6 fates]⟩
noncomputable def relH0 : St := ⟨relTm l most [num be, .sl false 1 bp] k 0, inb0 n x y tt rest⟩
noncomputable def relH0' : St :=
  ⟨relTm l most [num be, .sl false 1 bp] k 1, [rlRec, .var [.ptr 4 0 0], .var n.cells, .var [nat 1], .var (outJ x y tt rest 6 7 1), .var m, .row 11 outs, .row 6 fates]⟩
theorem rel_canon0 : canon 5 (relH0 n x y tt rest l most be bp k) = some (relH0 n x y tt rest l most be bp k) := by kernel_rfl
end
section
variable (n : Nod) (x y : Int) (tt : Bool) (rest : List (List X)) (l : List (List X)) (most : Int) (be : Int) (bp : List (List X)) (k j : Nat) (outs fates : List (List X)) (e : Int) (p : List (List X)) (ms : Int) (o : List (List X)) (a1 a2 a3 : Int) (a4 : ByteArray) (a5 a6 : List (List X))
theorem rel_canon' : canon 5 (relH' n x y tt rest l most be bp k j outs fates [num e, .sl false 1 p, num ms, .sl false 1 o, num a1, num a2, num a3, strX a4, .sl false 6 a5, .sl false 7 a6]) = some (relH n x y tt rest l most be bp k (j + 1) outs fates) := by kernel_rfl
theorem rel_canon0' : canon 5 (relH0' n x y tt rest l most be bp k outs fates [num e, .sl false 1 p, num ms, .sl false 1 o, num a1, num a2, num a3, strX a4, .sl false 6 a5, .sl false 7 a6]) = some (relH n x y tt rest l most be bp k 1 outs fates) := by kernel_rfl
end

theorem rel_step (N : Nat) (hN : 190020 ≤ N) (n : Nod) (x y : Int) (tt : Bool) (rest : List (List X)) (l : List (List X)) (most : Int) (b : Stp) (hb : b.p.length ≤ 50000) (k j : Nat) (outs fates : List (List X)) (m : Msg) (hm : m.ok) (hi : l[j]? = some m.cells) (hj : j < k) (hk : k < 4000) (hmo : ¬ Int.ofNat j ≥ most) (h1 : j = outs.length) (h2 : j = fates.length) :
    run (callF tab ext N) 5 N (loopAt 140 0) (relH n x y tt rest l most b.e (intsC b.p) k j outs fates) = some (.norm, relH' n x y tt rest l most b.e (intsC b.p) k j (outs ++ [(outM b m j).cells]) (fates ++ [(fateM n.name b m j).cells]) m.cells) := by
  have hc : (childF b j).ok := ⟨by show (b.p ++ [Int.ofNat j]).length ≤ 60000; simp; omega⟩
  obtain ⟨M, rfl⟩ : ∃ M, N = M + 15 := ⟨N - 15, by omega⟩
  have hu := under_pure (M + 11) b ⟨by omega⟩ j
  have hv := move_pure (M + 14) m hm (childF b j) hc (by omega)
  have hr := round_more M n x y tt rest j j b hc m hm outs fates (by omega) h1 h2
  obtain ⟨be, bp⟩ := b
  unfold outM fateM moveF at hr ⊢
  unfold moveF at hv
  generalize childF ⟨be, bp⟩ j = c at hu hv hr
  obtain ⟨⟨e, p⟩, ms, o, ⟨a1, a2, a3, a4, a5, a6⟩⟩ := m
  obtain ⟨ce, cp⟩ := c
  exact run_of [(10, .b true), (12, .e (Msg.mk ⟨e, p⟩ ms o (Val.mk a1 a2 a3 a4 a5 a6)).cells), (16, .b false), (23, .p (.agg (Stp.mk ce cp).cells)), (24, .p (.agg (Msg.mk ⟨ce, cp⟩ ms o (Val.mk a1 a2 a3 a4 a5 a6)).cells)),
      (25, .r (.v (.bool true)) (outS n x y tt rest (j + 1) (outs ++ [(Otp.mk 0 ⟨⟨ce, cp⟩, ms, o, .mk a1 a2 a3 a4 a5 a6⟩).cells]) (fates ++ [(Fte.mk ⟨e, p⟩ 1 n.name [⟨ce, cp⟩] ⟨#[]⟩).cells]))), (28, .i (Int.ofNat (j + 1)))] []
    (pf7 (lt_nat hj) hi (decide_eq_false hmo) hu hv hr (next_nat (j := j) (by omega))) (lo' := []) (by kernel_rfl)
theorem rel_step0 (N : Nat) (hN : 190020 ≤ N) (n : Nod) (x y : Int) (tt : Bool) (rest : List (List X)) (l : List (List X)) (most : Int) (b : Stp) (hb : b.p.length ≤ 50000) (k : Nat) (m : Msg) (hm : m.ok) (hi : l[0]? = some m.cells) (hj : 0 < k) (hmo : ¬ Int.ofNat 0 ≥ most) :
    run (callF tab ext N) 5 N (loopAt 140 0) (relH0 n x y tt rest l most b.e (intsC b.p) k) = some (.norm, relH0' n x y tt rest l most b.e (intsC b.p) k [(outM b m 0).cells] [(fateM n.name b m 0).cells] m.cells) := by
  have hc : (childF b 0).ok := ⟨by show (b.p ++ [Int.ofNat 0]).length ≤ 60000; simp; omega⟩
  obtain ⟨M, rfl⟩ : ∃ M, N = M + 15 := ⟨N - 15, by omega⟩
  have hu := under_pure (M + 11) b ⟨by omega⟩ 0
  have hv := move_pure (M + 14) m hm (childF b 0) hc (by omega)
  have hr := round_first M n x y tt rest b 0 hc m hm
  obtain ⟨be, bp⟩ := b
  unfold outM fateM moveF at hr ⊢
  unfold moveF at hv
  generalize childF ⟨be, bp⟩ 0 = c at hu hv hr
  obtain ⟨⟨e, p⟩, ms, o, ⟨a1, a2, a3, a4, a5, a6⟩⟩ := m
  obtain ⟨ce, cp⟩ := c
  exact run_of [(10, .b true), (12, .e (Msg.mk ⟨e, p⟩ ms o (Val.mk a1 a2 a3 a4 a5 a6)).cells), (16, .b false), (23, .p (.agg (Stp.mk ce cp).cells)), (24, .p (.agg (Msg.mk ⟨ce, cp⟩ ms o (Val.mk a1 a2 a3 a4 a5 a6)).cells)),
      (25, .r (.v (.bool true)) (inbS n x y tt rest 1 [(Otp.mk 0 ⟨⟨ce, cp⟩, ms, o, .mk a1 a2 a3 a4 a5 a6⟩).cells] [(Fte.mk ⟨e, p⟩ 1 n.name [⟨ce, cp⟩] ⟨#[]⟩).cells])), (28, .i (Int.ofNat 1))] []
    (pf7 (lt_nat hj) hi (decide_eq_false hmo) hu hv hr (next_nat (j := 0) (by omega))) (lo' := []) (by kernel_rfl)
section
variable (N : Nat) (n : Nod) (x y : Int) (tt : Bool) (rest : List (List X)) (l : List (List X)) (most : Int) (be : Int) (bp : List (List X)) (k j : Nat) (outs fates : List (List X)) (e : Int) (p : List (List X)) (ms : Int) (o : List (List X)) (a1 a2 a3 : Int) (a4 : ByteArray) (a5 a6 : List (List X))
theorem rel_end : run (callF tab ext N) 5 N (loopAt 140 0) (relH n x y tt rest l most be bp k k outs fates) = some (.exit 0, ⟨relTm l most [num be, .sl false 1 bp] k k ++ [(10, .v (.bool false))], inbS n x y tt rest k outs fates⟩) :=
  run_of [(10, .b false)] [] (pf1 (nlt_nat (j := k) (k := k) (by omega))) (lo' := []) (by kernel_rfl)
theorem rel_end0 : run (callF tab ext N) 5 N (loopAt 140 0) (relH0 n x y tt rest l most be bp 0) = some (.exit 0, ⟨relTm l most [num be, .sl false 1 bp] 0 0 ++ [(10, .v (.bool false))], inb0 n x y tt rest⟩) :=
  run_of [(10, .b false)] [] (pf1 (nlt_nat (j := 0) (k := 0) (by omega))) (lo' := []) (by kernel_rfl)
theorem rel_stop (hi : l[j]? = some [num e, .sl false 1 p, num ms, .sl false 1 o, num a1, num a2, num a3, strX a4, .sl false 6 a5, .sl false 7 a6]) (hj : j < k) (hm : Int.ofNat j ≥ most) :
    run (callF tab ext N) 5 N (loopAt 140 0) (relH n x y tt rest l most be bp k j outs fates) = some (.ret, ⟨relTm l most [num be, .sl false 1 bp] k j ++ [(27, .v (.bool true))], inbS n x y tt rest j outs fates ++ [.var [num e, .sl false 1 p, num ms, .sl false 1 o, num a1, num a2, num a3, strX a4, .sl false 6 a5, .sl false 7 a6]]⟩) :=
  run_of [(10, .b true), (12, .e [num e, .sl false 1 p, num ms, .sl false 1 o, num a1, num a2, num a3, strX a4, .sl false 6 a5, .sl false 7 a6]), (16, .b true)] [] (pf3 (lt_nat hj) hi (decide_eq_true hm)) (lo' := []) (by kernel_rfl)
theorem rel_stop0 (hi : l[0]? = some [num e, .sl false 1 p, num ms, .sl false 1 o, num a1, num a2, num a3, strX a4, .sl false 6 a5, .sl false 7 a6]) (hj : 0 < k) (hm : Int.ofNat 0 ≥ most) :
    run (callF tab ext N) 5 N (loopAt 140 0) (relH0 n x y tt rest l most be bp k) = some (.ret, ⟨relTm l most [num be, .sl false 1 bp] k 0 ++ [(27, .v (.bool true))], inb0 n x y tt rest ++ [.var [num e, .sl false 1 p, num ms, .sl false 1 o, num a1, num a2, num a3, strX a4, .sl false 6 a5, .sl false 7 a6]]⟩) :=
  run_of [(10, .b true), (12, .e [num e, .sl false 1 p, num ms, .sl false 1 o, num a1, num a2, num a3, strX a4, .sl false 6 a5, .sl false 7 a6]), (16, .b true)] [] (pf3 (lt_nat hj) hi (decide_eq_true hm)) (lo' := []) (by kernel_rfl)
end
theorem msgs_getD {ms : List Msg} {j : Nat} (h : j < ms.length) : (msgsC ms)[j]? = some (ms.getD j dM).cells := by rw [msgsC_get h]; simp [List.getD, h]
theorem getD_mem {ms : List Msg} {j : Nat} (h : j < ms.length) : ms.getD j dM ∈ ms := by simp [List.getD, h]

section
variable (N : Nat) (n : Nod) (x y : Int) (tt : Bool) (rest : List (List X)) (ms : List Msg) (most : Int) (b : Stp)
/-- How many leave. -/
def relN (ms : List Msg) (most : Int) : Nat := min ms.length most.toNat
/-- The rounds of the loop, up to the m-th. -/
theorem rel_rounds (hN : 190020 ≤ N) (hb : b.p.length ≤ 50000) (hok : ∀ m, m ∈ ms → m.ok) {e : Ex} {fin : St} (hl : ms.length < 4000) (m : Nat) (hm : m = relN ms most) (h0 : 0 < m) (he : e ≠ .norm)
    (hend : run (callF tab ext N) 5 N (loopAt 140 0) (relH n x y tt rest (msgsC ms) most b.e (intsC b.p) (msgsC ms).length m (otpsC (outsF b ms m)) (ftesC (fatesF n.name b ms m))) = some (e, fin)) :
    run (callF tab ext N) 5 N (.loop (loopAt 140 0)) (relH0 n x y tt rest (msgsC ms) most b.e (intsC b.p) (msgsC ms).length) = some (e, fin) := by
  have hlen := msgsC_length ms
  have hmk : m ≤ ms.length := by rw [hm]; exact Nat.min_le_left _ _
  have hmost : ∀ j, j < m → ¬ Int.ofNat j ≥ most := by
    intro j hj hge
    have : m ≤ most.toNat := by rw [hm]; exact Nat.min_le_right _ _
    simp only [Int.ofNat_eq_natCast] at hge
    omega
  refine loop_for (σ := fun j => match j with
    | 0 => relH0 n x y tt rest (msgsC ms) most b.e (intsC b.p) (msgsC ms).length
    | j + 1 => relH n x y tt rest (msgsC ms) most b.e (intsC b.p) (msgsC ms).length (j + 1) (otpsC (outsF b ms (j + 1))) (ftesC (fatesF n.name b ms (j + 1)))) (k := m) (rel_canon0 ..) (fun j hj => ?_) ?_ he (by omega)
  · match j with
    | 0 =>
      have h := rel_step0 N hN n x y tt rest (msgsC ms) most b hb (msgsC ms).length (ms.getD 0 dM) (hok _ (getD_mem (by omega))) (msgs_getD (by omega)) (by omega) (hmost 0 hj)
      have e1 : otpsC (outsF b ms 1) = [(outM b (ms.getD 0 dM) 0).cells] := rfl
      have e2 : ftesC (fatesF n.name b ms 1) = [(fateM n.name b (ms.getD 0 dM) 0).cells] := rfl
      refine ⟨_, h, ?_⟩
      show canon 5 _ = some (relH n x y tt rest (msgsC ms) most b.e (intsC b.p) (msgsC ms).length 1 (otpsC (outsF b ms 1)) (ftesC (fatesF n.name b ms 1)))
      rw [e1, e2]
      generalize (outM b (ms.getD 0 dM) 0).cells = o1
      generalize (fateM n.name b (ms.getD 0 dM) 0).cells = f1
      generalize ms.getD 0 dM = q
      obtain ⟨⟨a1, a2⟩, a3, a4, ⟨a5, a6, a7, a8, a9, a0⟩⟩ := q
      exact rel_canon0' ..
    | j + 1 =>
      have h := rel_step N hN n x y tt rest (msgsC ms) most b hb (msgsC ms).length (j + 1) (otpsC (outsF b ms (j + 1))) (ftesC (fatesF n.name b ms (j + 1))) (ms.getD (j + 1) dM) (hok _ (getD_mem (by omega))) (msgs_getD (by omega)) (by omega) (by omega) (hmost _ hj) (outsF_length _ _ _).symm (fatesF_length _ _ _ _).symm
      refine ⟨_, h, ?_⟩
      show canon 5 _ = some (relH n x y tt rest (msgsC ms) most b.e (intsC b.p) (msgsC ms).length (j + 1 + 1) (otpsC (outsF b ms (j + 1 + 1))) (ftesC (fatesF n.name b ms (j + 1 + 1))))
      rw [outsF_succ b ms (j + 1), fatesF_succ n.name b ms (j + 1)]
      generalize otpsC (outsF b ms (j + 1)) ++ [(outM b (ms.getD (j + 1) dM) (j + 1)).cells] = o1
      generalize ftesC (fatesF n.name b ms (j + 1)) ++ [(fateM n.name b (ms.getD (j + 1) dM) (j + 1)).cells] = f1
      generalize ms.getD (j + 1) dM = q
      obtain ⟨⟨a1, a2⟩, a3, a4, ⟨a5, a6, a7, a8, a9, a0⟩⟩ := q
      exact rel_canon' ..
  · cases m with
    | zero => exact absurd h0 (Nat.lt_irrefl 0)
    | succ m => exact hend

/-- What the iterator yields. -/
theorem yields (hN : 190020 ≤ N) (hb : b.p.length ≤ 50000) (hok : ∀ m, m ∈ ms → m.ok) (hl : ms.length < 4000) :
    callF tab ext (N + 1) (.fn 140) [.yl 0, .dp [.sl false 10 (msgsC ms)], .dp [num most], .dp [num b.e, .sl false 1 (intsC b.p)]] (inb0 n x y tt rest)
      = some (.tup [], if relN ms most = 0 then inb0 n x y tt rest else inbS n x y tt rest (relN ms most) (otpsC (outsF b ms (relN ms most))) (ftesC (fatesF n.name b ms (relN ms most)))) := by
  have hlen := msgsC_length ms
  by_cases h0 : relN ms most = 0
  · rw [if_pos h0]
    by_cases he : ms.length = 0
    · obtain rfl : ms = [] := List.length_eq_zero_iff.1 he
      have hrun : run (callF tab ext N) 5 N (.loop (loopAt 140 0)) (relH0 n x y tt rest [] most b.e (intsC b.p) 0) = some (.exit 0, ⟨relTm [] most [num b.e, .sl false 1 (intsC b.p)] 0 0 ++ [(10, .v (.bool false))], inb0 n x y tt rest⟩) := by
        refine loop_for (σ := fun _ => relH0 n x y tt rest [] most b.e (intsC b.p) 0) (k := 0) (rel_canon0 ..) (fun j hj => by omega) (rel_end0 ..) (by simp) (by omega)
      exact callF_of [] [(.exit 0, ⟨relTm [] most [num b.e, .sl false 1 (intsC b.p)] 0 0 ++ [(10, .v (.bool false))], inb0 n x y tt rest⟩)] (pf1 hrun) (by kernel_rfl)
    · have hm : Int.ofNat 0 ≥ most := by simp only [relN] at h0; simp only [Int.ofNat_eq_natCast]; omega
      have hg := msgs_getD (ms := ms) (j := 0) (by omega)
      generalize ms.getD 0 dM = q at hg
      obtain ⟨⟨a1, a2⟩, a3, a4, ⟨a5, a6, a7, a8, a9, a0⟩⟩ := q
      have hrun : run (callF tab ext N) 5 N (.loop (loopAt 140 0)) (relH0 n x y tt rest (msgsC ms) most b.e (intsC b.p) (msgsC ms).length) = some (.ret, ⟨relTm (msgsC ms) most [num b.e, .sl false 1 (intsC b.p)] (msgsC ms).length 0 ++ [(27, .v (.bool true))], inb0 n x y tt rest ++ [.var (Msg.mk ⟨a1, a2⟩ a3 a4 (Val.mk a5 a6 a7 a8 a9 a0)).cells]⟩) := by
        refine loop_for (σ := fun _ => relH0 n x y tt rest (msgsC ms) most b.e (intsC b.p) (msgsC ms).length) (k := 0) (rel_canon0 ..) (fun j hj => by omega) (rel_stop0 (hi := hg) (hj := by omega) (hm := hm) ..) (by simp) (by omega)
      exact callF_of [] [(.ret, ⟨relTm (msgsC ms) most [num b.e, .sl false 1 (intsC b.p)] (msgsC ms).length 0 ++ [(27, .v (.bool true))], inb0 n x y tt rest ++ [.var (Msg.mk ⟨a1, a2⟩ a3 a4 (Val.mk a5 a6 a7 a8 a9 a0)).cells]⟩)] (pf1 hrun) (by kernel_rfl)
  · rw [if_neg h0]
    by_cases hm : relN ms most = ms.length
    · have hrun := rel_rounds N n x y tt rest ms most b hN hb hok hl (relN ms most) rfl (by omega) (e := .exit 0) (by simp) (by rw [hm, hlen]; exact rel_end ..)
      rw [hm]
      rw [← hlen] at hrun ⊢
      generalize otpsC (outsF b ms (msgsC ms).length) = o1 at hrun ⊢
      generalize ftesC (fatesF n.name b ms (msgsC ms).length) = f1 at hrun ⊢
      exact callF_of [] [(.exit 0, ⟨relTm (msgsC ms) most [num b.e, .sl false 1 (intsC b.p)] (msgsC ms).length (msgsC ms).length ++ [(10, .v (.bool false))], inbS n x y tt rest (msgsC ms).length o1 f1⟩)] (pf1 hrun) (by kernel_rfl)
    · have hle : relN ms most ≤ ms.length := Nat.min_le_left _ _
      have hge : Int.ofNat (relN ms most) ≥ most := by simp only [relN] at hm h0 ⊢; simp only [Int.ofNat_eq_natCast]; omega
      have hg := msgs_getD (ms := ms) (j := relN ms most) (by omega)
      generalize ms.getD (relN ms most) dM = q at hg
      obtain ⟨⟨a1, a2⟩, a3, a4, ⟨a5, a6, a7, a8, a9, a0⟩⟩ := q
      have hrun := rel_rounds N n x y tt rest ms most b hN hb hok hl (relN ms most) rfl (by omega) (e := .ret) (by simp) (rel_stop (hi := hg) (hj := by omega) (hm := hge) ..)
      generalize relN ms most = q at hrun ⊢
      generalize otpsC (outsF b ms q) = o1 at hrun ⊢
      generalize ftesC (fatesF n.name b ms q) = f1 at hrun ⊢
      exact callF_of [] [(.ret, ⟨relTm (msgsC ms) most [num b.e, .sl false 1 (intsC b.p)] (msgsC ms).length q ++ [(27, .v (.bool true))], inbS n x y tt rest q o1 f1 ++ [.var (Msg.mk ⟨a1, a2⟩ a3 a4 (Val.mk a5 a6 a7 a8 a9 a0)).cells]⟩)] (pf1 hrun) (by kernel_rfl)
end

section
variable (N : Nat) (n : Nod) (x y : Int) (tt : Bool) (rest : List (List X)) (ms : List Msg) (most : Int) (b : Stp)
noncomputable def rlBx : Bx := .loop .ready none [(5, .ptr 1 0 0), (6, .ptr 2 0 0), (11, .ptr 4 0 0)] [18, 19] rlA rlB
noncomputable def rlSt : St := ⟨[(5, .ptr 1 0 0), (6, .ptr 2 0 0), (11, .ptr 4 0 0), (17, .fn 140 [.dp [.sl false 10 (msgsC ms)], .dp [num most], .dp [num b.e, .sl false 1 (intsC b.p)]])],
  [.var (out0 x y tt rest), .var [.ptr 0 0 0], .var n.cells, .var [num b.e, .sl false 1 (intsC b.p)], .var [nat 0]]⟩
noncomputable def rlSt0 : St := ⟨(rlSt n x y tt rest ms most b).tm, [.var (out0 x y tt rest), .var [.ptr 0 0 0], .var n.cells, .var [num b.e, .sl false 1 (intsC b.p)], .var [nat 0], .dead]⟩
noncomputable def rlStM (m : Nat) (outs fates : List (List X)) : St := ⟨(rlSt n x y tt rest ms most b).tm, [.var (outJ x y tt rest 6 7 m), .var [.ptr 0 0 0], .var n.cells, .var [num b.e, .sl false 1 (intsC b.p)], .var [nat m], .dead, .row 11 outs, .row 6 fates]⟩

theorem release_zero (hN : 190020 ≤ N) (hb : b.p.length ≤ 50000) (hok : ∀ m, m ∈ ms → m.ok) (hl : ms.length < 4000) (h0 : relN ms most = 0) :
    callF tab ext (N + 2) (.fn 73) [.ptr 0 0 0, .agg n.cells, .sl false 10 (msgsC ms), .agg b.cells, num most] [.var (out0 x y tt rest)] = some (nat 0, [.var (out0 x y tt rest)]) := by
  have hy := yields N n x y tt rest ms most b hN hb hok hl
  rw [if_pos h0] at hy
  have hrf : run (callF tab ext (N + 1)) 1 (N + 1) (.rf (.t 17) [18, 19] [5, 6, 11] rlA rlB) (rlSt n x y tt rest ms most b) = some (.norm, rlSt0 n x y tt rest ms most b) :=
    rf_of (g := 140) (caps := [.dp [.sl false 10 (msgsC ms)], .dp [num most], .dp [num b.e, .sl false 1 (intsC b.p)]]) (y := .tup []) (outb := inb0 n x y tt rest) (q := (.tup [], (rlSt n x y tt rest ms most b).bx ++ [rlBx], [5, 1, 2, 4, 0])) hy (by kernel_rfl) (by kernel_rfl) (by kernel_rfl)
  exact callF_of [] [(.norm, rlSt0 n x y tt rest ms most b)] (pf1 hrf) (by kernel_rfl)

theorem release_some (hN : 190020 ≤ N) (hb : b.p.length ≤ 50000) (hok : ∀ m, m ∈ ms → m.ok) (hl : ms.length < 4000) (h0 : relN ms most ≠ 0) :
    callF tab ext (N + 2) (.fn 73) [.ptr 0 0 0, .agg n.cells, .sl false 10 (msgsC ms), .agg b.cells, num most] [.var (out0 x y tt rest)]
      = some (nat (relN ms most), [.var (outJ x y tt rest 1 2 (relN ms most)), .row 11 (otpsC (outsF b ms (relN ms most))), .row 6 (ftesC (fatesF n.name b ms (relN ms most)))]) := by
  have hy := yields N n x y tt rest ms most b hN hb hok hl
  rw [if_neg h0] at hy
  generalize relN ms most = m at hy ⊢
  generalize otpsC (outsF b ms m) = o1 at hy ⊢
  generalize ftesC (fatesF n.name b ms m) = f1 at hy ⊢
  have hrf : run (callF tab ext (N + 1)) 1 (N + 1) (.rf (.t 17) [18, 19] [5, 6, 11] rlA rlB) (rlSt n x y tt rest ms most b) = some (.norm, rlStM n x y tt rest ms most b m o1 f1) :=
    rf_of (g := 140) (caps := [.dp [.sl false 10 (msgsC ms)], .dp [num most], .dp [num b.e, .sl false 1 (intsC b.p)]]) (y := .tup []) (outb := inbS n x y tt rest m o1 f1)
      (q := (.tup [], [.var (outJ x y tt rest 6 7 m), .var [.ptr 0 0 0], .var n.cells, .var [num b.e, .sl false 1 (intsC b.p)], .var [nat m], rlBx, .row 11 o1, .row 6 f1], [5, 1, 2, 4, 0])) hy (by kernel_rfl) (by kernel_rfl) (by kernel_rfl)
  exact callF_of [] [(.norm, rlStM n x y tt rest ms most b m o1 f1)] (pf1 hrf) (by kernel_rfl)
end
end Go.Proofs.YtjfheahakfoofaaGreatDoor

/- A throttle: what is held, what is added, what is taken away. -/
namespace Go.Proofs.YtjfheahakfoofaaGreatDoor
open Go.Em

def nulV : Val := .mk 0 0 0 ⟨#[]⟩ [] []
def zK : List X := [num 0, num 0, num 0, noText, .sl false 6 [], .sl false 7 []]
theorem bytes_loop (bs : ByteArray) : ∀ (d i : Nat) (r : List UInt8), bs.size - i = d → (ByteArray.toList.loop bs i r).length = r.length + d
  | 0, i, r, h => by
    rw [ByteArray.toList.loop.eq_1, if_neg (by omega)]; simp
  | d + 1, i, r, h => by
    rw [ByteArray.toList.loop.eq_1, if_pos (by omega), bytes_loop bs d (i + 1) _ (by omega), List.length_cons]; omega
theorem bytes_length (bs : ByteArray) : bs.toList.length = bs.size := by
  have := bytes_loop bs bs.size 0 [] (by omega)
  simpa [ByteArray.toList.eq_1] using this
theorem nullV_eq {v : Val} (h : nullV v = true) : v = nulV := by
  obtain ⟨k, i, s, t, l, f⟩ := v
  simp only [nullV, Bool.and_eq_true, beq_iff_eq] at h
  obtain ⟨h1, h2, h3, h4, h5, h6⟩ := h
  have e5 : l = [] := by
    have := cellsL_length l
    simp only [Int.ofNat_eq_natCast] at h5
    exact List.length_eq_zero_iff.1 (by omega)
  have e6 : f = [] := by
    have := cellsF_length f
    simp only [Int.ofNat_eq_natCast] at h6
    exact List.length_eq_zero_iff.1 (by omega)
  have e4 : t = ⟨#[]⟩ := by
    have h7 : t.size = 0 := by
      have := congrArg List.length h4
      rw [bytes_length, bytes_length] at this
      exact this
    exact ByteArray.size_eq_zero_iff.1 h7
  subst h1 h2 h3 e4 e5 e6
  rfl
/-- The states of a throttle that holds nothing, or has one slot. -/
inductive Thr : Stt → Prop
  | none (a b : Int) : Thr ⟨a, b, []⟩
  | one (a b : Int) (items : List Msg) (vals : List Val) (h : items ≠ []) : Thr ⟨a, b, [⟨nulV, 0, 0, items, vals⟩]⟩
theorem thr_of {s : Stt} (h : rightS s = true) : Thr s := by
  obtain ⟨a, b, ss⟩ := s
  simp only [rightS, Bool.and_eq_true, Bool.not_eq_true'] at h
  obtain ⟨_, h2, h3⟩ := h
  have hn := sltsC_length ss
  match ss, hn, h2, h3 with
  | [], _, _, _ => exact .none a b
  | [x], _, _, h3 =>
    obtain ⟨key, n, t, items, vals⟩ := x
    simp only [List.all_cons, List.all_nil, Bool.and_true, badT, Bool.not_or, Bool.and_eq_true, Bool.not_not, Bool.not_eq_true', beq_eq_false_iff_ne, ne_eq, beq_iff_eq] at h3
    obtain ⟨g1, g2, g3, g4, _⟩ := h3
    have := msgsC_length items
    rw [nullV_eq g1, g3, g4]
    refine .one a b items vals fun e => g2 ?_
    subst e; rfl
  | x :: y :: r, hn, h2, _ =>
    exfalso
    have : decide (1 < Int.ofNat (sltsC (x :: y :: r)).length) = true := by
      rw [hn, decide_eq_true_eq]; simp only [List.length_cons, Int.ofNat_eq_natCast]; omega
    rw [this] at h2; cases h2

/-! ### The document's number of messages -/
def hmH (a b : Int) (l : List (List X)) (j k : Nat) : St := ⟨[(1, .ptr 0 0 0), (3, nat k), (4, nat j)], [.var [num a, num b, .sl false 10 l]]⟩
theorem mheld_pure (s : Stt) (hs : s.small) (N : Nat) (hN : 60020 ≤ N) : Gam.pureD (callF tab ext N) 45 [.agg s.cells] = some (nat (accOf s.slots).length) := by
  obtain ⟨M, rfl⟩ : ∃ M, N = M + 1 := ⟨N - 1, by omega⟩
  have hl := hs.slots
  have hx := hs.slot
  obtain ⟨a, b, ss⟩ := s
  dsimp only at hl hx ⊢
  have hn := sltsC_length ss
  have hloop : run (callF tab ext M) 0 M (.loop (loopAt 45 0)) (hmH a b (sltsC ss) 0 0) = some (.exit 0, ⟨[(1, .ptr 0 0 0), (3, nat (accOf ss).length), (4, nat (sltsC ss).length), (9, boolX false)], [.var [num a, num b, .sl false 10 (sltsC ss)]]⟩) := by
    refine loop_for (σ := fun j => hmH a b (sltsC ss) j (accOf (ss.take j)).length) (k := (sltsC ss).length) (by kernel_rfl) (fun j hj => ?_) ?_ (by simp) (by omega)
    · have hj' : j < ss.length := by omega
      have hg := sltsC_get hj'
      have hla := accOf_length (ss.take j) fun x hxx => (hx x (List.mem_of_mem_take hxx)).2.1
      have hlt : (ss.take j).length ≤ 100 := by rw [List.length_take]; omega
      have hi := (hx _ (List.getElem_mem hj')).2.1
      rw [accOf_take hj', List.length_append]
      generalize ss[j] = x at hg hi
      obtain ⟨⟨k0, i0, s0, t0, l0, f0⟩, n0, d0, items, vals⟩ := x
      have hm := msgsC_length items
      dsimp only at hi ⊢
      rw [← hm]
      exact ⟨hmH a b (sltsC ss) (j + 1) ((accOf (ss.take j)).length + (msgsC items).length),
        run_of [(9, .b true), (16, .e (slotC k0 i0 s0 t0 (cellsL l0) (cellsF f0) n0 d0 (msgsC items) (cellsL vals))), (20, .i (Int.ofNat ((accOf (ss.take j)).length + (msgsC items).length))), (11, .i (Int.ofNat (j + 1)))] []
          (pf4 (lt_nat hj) hg (add_len (a := (accOf (ss.take j)).length) (b := (msgsC items).length) (by omega)) (next_nat (j := j) (by omega))) (lo' := []) (by kernel_rfl), by kernel_rfl⟩
    · have e : ss.take (sltsC ss).length = ss := List.take_of_length_le (by omega)
      rw [e]
      exact run_of [(9, .b false)] [] (pf1 (nlt_nat (Nat.lt_irrefl (sltsC ss).length))) (lo' := []) (by kernel_rfl)
  exact pure_of [] [(.exit 0, ⟨[(1, .ptr 0 0 0), (3, nat (accOf ss).length), (4, nat (sltsC ss).length), (9, boolX false)], [.var [num a, num b, .sl false 10 (sltsC ss)]]⟩)] (pf1 hloop) (x := nat (accOf ss).length) (bx := []) (by kernel_rfl) rfl

/-! ### Slots are found, and put -/
def addF (s : Stt) (m : Msg) : Stt := match s.slots with
  | [] => ⟨s.n, s.t, [⟨nulV, 0, 0, [m], []⟩]⟩
  | x :: _ => ⟨s.n, s.t, [{ x with items := x.items ++ [m] }]⟩
theorem get_none (N : Nat) (a b : Int) : callF tab ext (N + 100) (.fn 109) [.agg [num a, num b, .sl false 10 []], .agg zK] [] = some (.tup [.agg zSlot, boolX false], []) := by kernel_rfl
theorem get_one (N : Nat) (hN : 190010 ≤ N) (a b : Int) (items : List Msg) (vals : List Val) (h : (Slt.mk nulV 0 0 items vals).ok) : callF tab ext N (.fn 109) [.agg (Stt.mk a b [⟨nulV, 0, 0, items, vals⟩]).cells, .agg zK] []
      = some (.tup [.agg [num 0, num 0, num 0, noText, .sl false 6 [], .sl false 7 [], num 0, num 0, .bs 0 0 (msgsC items).length, .bs 1 0 (cellsL vals).length], boolX true], [.row 10 (msgsC items), .row 6 (cellsL vals)]) := by
  obtain ⟨M, rfl⟩ : ∃ M, N = M + 101 := ⟨N - 101, by omega⟩
  have hcl := clone_slot (M + 100) _ h (by omega)
  exact callF_of [(22, .o (.agg [num 0, num 0, num 0, noText, .sl false 6 [], .sl false 7 [], num 0, num 0, .bs 0 0 (msgsC items).length, .bs 1 0 (cellsL vals).length]) [.row 10 (msgsC items), .row 6 (cellsL vals)])] [] (pf1 hcl) (by kernel_rfl)
theorem put_none (N : Nat) (hN : 190010 ≤ N) (a b : Int) (x : Slt) (hk : x.key = nulV) (h : x.ok) : Gam.pureD (callF tab ext N) 88 [.agg (Stt.mk a b []).cells, .agg x.cells] = some (.tup [.agg (Stt.mk a b [x]).cells, num 0]) := by
  obtain ⟨M, rfl⟩ : ∃ M, N = M + 101 := ⟨N - 101, by omega⟩
  have hcl := clone_slot_pure (M + 100) _ h (by omega)
  obtain ⟨key, n, t, items, vals⟩ := x
  dsimp only at hk; subst hk
  exact pure_of [(38, .p (.agg (Slt.mk nulV n t items vals).cells))] [] (pf1 hcl) (x := .tup [.agg [num a, num b, .bs 0 0 1], num 0]) (bx := [.row 10 [(Slt.mk nulV n t items vals).cells]]) (by kernel_rfl) rfl
theorem put_one (N : Nat) (hN : 190020 ≤ N) (a b : Int) (y x : Slt) (hky : y.key = nulV) (hk : x.key = nulV) (hy : y.ok) (h : x.ok) : Gam.pureD (callF tab ext N) 88 [.agg (Stt.mk a b [y]).cells, .agg x.cells] = some (.tup [.agg (Stt.mk a b [x]).cells, num 0]) := by
  obtain ⟨M, rfl⟩ : ∃ M, N = M + 101 := ⟨N - 101, by omega⟩
  have hcl := clone_slot_pure (M + 100) _ h (by omega)
  have hst := clone_state (M + 100) (Stt.mk a b [y]) ⟨by simp, fun z hz => by rw [List.mem_singleton.1 hz]; exact hy⟩ (by omega)
  obtain ⟨key, n, t, items, vals⟩ := x
  obtain ⟨key2, n2, t2, items2, vals2⟩ := y
  dsimp only at hk hky; subst hk hky
  exact pure_of [(26, .o (.agg [num a, num b, .bs 0 0 1]) [.row 10 [(Slt.mk nulV n2 t2 items2 vals2).cells]]), (32, .p (.agg (Slt.mk nulV n t items vals).cells))] [] (pf2 hst hcl) (x := .tup [.agg [num a, num b, .bs 0 0 1], num 0]) (bx := [.row 10 [(Slt.mk nulV n t items vals).cells]]) (by kernel_rfl) rfl
theorem thr_add (N : Nat) (hN : 190030 ≤ N) (s : Stt) (ht : Thr s) (hs : s.small) (m : Msg) (hm : m.ok) : Gam.pureD (callF tab ext N) 72 [.agg s.cells, .agg zSlot, .agg m.cells] = some (.agg (addF s m).cells) := by
  obtain ⟨M, rfl⟩ : ∃ M, N = M + 101 := ⟨N - 101, by omega⟩
  have hcl := clone_msg (M + 100) m hm (by omega)
  cases ht with
  | none a b =>
    have hp := put_none (M + 100) (by omega) a b ⟨nulV, 0, 0, [m], []⟩ rfl ⟨by unfold Val.ok nulV; simp [Val.size, sizeL, sizeF], by simp, fun z hz => by rw [List.mem_singleton.1 hz]; exact hm, by simp, fun z hz => by cases hz⟩
    obtain ⟨⟨e, p⟩, ms, o, ⟨a1, a2, a3, a4, a5, a6⟩⟩ := m
    exact pure_of [(15, .o (.tup [.agg zSlot, boolX false]) []), (23, .p (.agg (Msg.mk ⟨e, p⟩ ms o (.mk a1 a2 a3 a4 a5 a6)).cells)), (30, .p (.tup [.agg (Stt.mk a b [⟨nulV, 0, 0, [⟨⟨e, p⟩, ms, o, .mk a1 a2 a3 a4 a5 a6⟩], []⟩]).cells, num 0]))] []
      (pf4 (get_none M a b) hcl (Nat.le_refl 1) hp) (x := .agg (Stt.mk a b [⟨nulV, 0, 0, [⟨⟨e, p⟩, ms, o, .mk a1 a2 a3 a4 a5 a6⟩], []⟩]).cells) (bx := []) (by kernel_rfl) rfl
  | one a b items vals h =>
    obtain ⟨hx, hi, hv⟩ := hs.slot ⟨nulV, 0, 0, items, vals⟩ (by simp)
    dsimp only at hi hv
    have hg := get_one (M + 100) (by omega) a b items vals hx
    have hok2 : (Slt.mk nulV 0 0 (items ++ [m]) vals).ok := ⟨hx.key, by show (items ++ [m]).length ≤ 60000; simp; omega, fun z hz => by
      rcases List.mem_append.1 hz with hz | hz
      · exact hx.item z hz
      · rw [List.mem_singleton.1 hz]; exact hm, hx.vals, hx.val⟩
    have hp := put_one (M + 100) (by omega) a b ⟨nulV, 0, 0, items, vals⟩ ⟨nulV, 0, 0, items ++ [m], vals⟩ rfl rfl hx hok2
    have e1 : (Slt.mk nulV 0 0 (items ++ [m]) vals).cells = slotC 0 0 0 ⟨#[]⟩ [] [] 0 0 ((msgsC items ++ [m.cells]).take ((msgsC items).length + 1)) ((cellsL vals).take (cellsL vals).length) := by
      rw [List.take_of_length_le (by simp), List.take_of_length_le (Nat.le_refl _), ← msgsC_snoc]; rfl
    rw [e1] at hp
    have e2 : (addF ⟨a, b, [⟨nulV, 0, 0, items, vals⟩]⟩ m).cells = (Stt.mk a b [⟨nulV, 0, 0, items ++ [m], vals⟩]).cells := rfl
    rw [e2]
    have hn := msgsC_length items
    obtain ⟨⟨e, p⟩, ms, o, ⟨a1, a2, a3, a4, a5, a6⟩⟩ := m
    generalize (Stt.mk a b [⟨nulV, 0, 0, items ++ [⟨⟨e, p⟩, ms, o, .mk a1 a2 a3 a4 a5 a6⟩], vals⟩]) = s' at hp
    exact pure_of [(15, .o (.tup [.agg [num 0, num 0, num 0, noText, .sl false 6 [], .sl false 7 [], num 0, num 0, .bs 0 0 (msgsC items).length, .bs 1 0 (cellsL vals).length], boolX true]) [.row 10 (msgsC items), .row 6 (cellsL vals)]), (23, .p (.agg (Msg.mk ⟨e, p⟩ ms o (.mk a1 a2 a3 a4 a5 a6)).cells)), (25, .app), (30, .p (.tup [.agg s'.cells, num 0]))] []
      (pf7 hg hcl (app_c (i := 4) (bytes := 152) (rfl : (msgsC items).length = (msgsC items).length) (by omega) (by omega)) (show 0 + ((msgsC items).length + 1) ≤ (msgsC items ++ [(Msg.mk ⟨e, p⟩ ms o (.mk a1 a2 a3 a4 a5 a6)).cells]).length by simp) (show 0 + (cellsL vals).length ≤ (cellsL vals).length by omega) (show 0 + (cellsL vals).length ≤ (cellsL vals).length by omega) hp)
      (x := .agg s'.cells) (bx := []) (by kernel_rfl) rfl

/-! ### Without the first messages -/
theorem sub_nat {a b : Nat} (h : b ≤ a) (ha : a < 4294967296) : Go.IntKind.i64.wrap (Int.ofNat a - Int.ofNat b) = Int.ofNat (a - b) := by
  rw [IntKind.wrap_i64]; simp only [Int.ofNat_eq_natCast]; omega
theorem gt_nat {j k : Nat} (h : k < j) : decide (Int.ofNat j > Int.ofNat k) = true := lt_nat h
theorem ngt_nat {j k : Nat} (h : ¬ k < j) : decide (Int.ofNat j > Int.ofNat k) = false := nlt_nat h
theorem ne_zero {k : Nat} (h : k ≠ 0) : (Int.ofNat k == 0) = false := by
  have : Int.ofNat k ≠ 0 := by simp only [Int.ofNat_eq_natCast]; omega
  simpa using this
/-- The slots of a throttle behind k messages that left, k > 0. -/
def restF (s : Stt) (k : Nat) : Stt := match s.slots with
  | [] => s
  | x :: _ => if k < x.items.length then ⟨s.n, s.t, [{ x with items := x.items.drop k }]⟩ else ⟨s.n, s.t, []⟩
theorem without_pure (N : Nat) (a b : Int) (items : List Msg) (vals : List Val) (k : Nat) (h0 : 0 < k) (hk : k ≤ items.length) (hb : items.length < 4000) :
    Gam.pureD (callF tab ext (N + 101)) 76 [.agg (Stt.mk a b [⟨nulV, 0, 0, items, vals⟩]).cells, nat k] = some (.agg (restF ⟨a, b, [⟨nulV, 0, 0, items, vals⟩]⟩ k).cells) := by
  have hn := msgsC_length items
  have hq : (if Int.ofNat (msgsC items).length < Int.ofNat k then Int.ofNat (msgsC items).length else Int.ofNat k) = Int.ofNat k := by
    have h := min_int k (msgsC items).length
    rw [h, show min k (msgsC items).length = k by omega]
  have hd : Go.IntKind.i64.wrap (Int.ofNat k - Int.ofNat k) = Int.ofNat 0 := by rw [sub_nat (by omega) (by omega), Nat.sub_self]
  unfold restF
  dsimp only
  by_cases hlt : k < items.length
  · rw [if_pos hlt]
    have e : (Stt.mk a b [⟨nulV, 0, 0, items.drop k, vals⟩]).cells = [num a, num b, .sl false 10 [slotC 0 0 0 ⟨#[]⟩ [] [] 0 0 (((msgsC items).take (msgsC items).length).drop k) (cellsL vals)]] := by
      rw [List.take_length]
      show [num a, num b, X.sl false 10 [slotC 0 0 0 ⟨#[]⟩ [] [] 0 0 (msgsC (items.drop k)) (cellsL vals)]] = _
      simp [msgsC]
    rw [e]
    exact pure_of [(23, .i (Int.ofNat k)), (26, .i (Int.ofNat 0)), (31, .b true), (39, .cut)] [] (pf4 hq hd (gt_nat (j := (msgsC items).length) (k := k) (by rw [hn]; exact hlt)) (show k ≤ (msgsC items).length ∧ (msgsC items).length ≤ (msgsC items).length from ⟨by rw [hn]; exact hk, Nat.le_refl _⟩))
      (x := .agg [num a, num b, .bs 0 0 1]) (bx := [.row 10 [slotC 0 0 0 ⟨#[]⟩ [] [] 0 0 (((msgsC items).take (msgsC items).length).drop k) (cellsL vals)]]) (by kernel_rfl) rfl
  · rw [if_neg hlt]
    exact pure_of [(23, .i (Int.ofNat k)), (26, .i (Int.ofNat 0)), (31, .b false), (34, .b false), (39, .cut)] [] (pf5 hq hd (ngt_nat (j := (msgsC items).length) (k := k) (by rw [hn]; exact hlt)) (ne_zero (k := k) (by omega)) (show k ≤ (msgsC items).length ∧ (msgsC items).length ≤ (msgsC items).length from ⟨by rw [hn]; exact hk, Nat.le_refl _⟩))
      (x := .agg [num a, num b, .bs 0 0 0]) (bx := [.row 10 []]) (by kernel_rfl) rfl
end Go.Proofs.YtjfheahakfoofaaGreatDoor
