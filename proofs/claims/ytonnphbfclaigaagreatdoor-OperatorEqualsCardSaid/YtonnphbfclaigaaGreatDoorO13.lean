/- Expressions, mappings, types, nodes are cut: it comes to an end. -/
import Derived.Test.YtonnphbfclaigaaGreatDoorO12
set_option linter.all false
namespace Go.Proofs.YtonnphbfclaigaaGreatDoor
open Go.Em
set_option maxRecDepth 100000

/-- A loop that collects elements. -/
theorem loop_acc {nIn : Nat} {b : C} {B : Nat} {H : Nat → List (List X) → St} {k : Nat} {e : Ex} {E : List (List X) → St} {τ : St} (Q : List X → Prop) (hτ : canon nIn τ = some (H 0 []))
    (hstep : ∀ j acc, j < k → acc.length = j → ∃ x υ, Q x ∧ canon nIn υ = some (H (j + 1) (acc ++ [x])) ∧ ∀ M, B ≤ M → run (callF tab ext M) nIn M b (H j acc) = some (.norm, υ))
    (hend : ∀ acc, acc.length = k → ∀ M, B ≤ M → run (callF tab ext M) nIn M b (H k acc) = some (e, E acc)) (hne : e ≠ .norm) :
    ∃ acc : List (List X), acc.length = k ∧ (∀ x, x ∈ acc → Q x) ∧ ∀ M, B ≤ M → k < M → run (callF tab ext M) nIn M (.loop b) τ = some (e, E acc) := by
  have key : ∀ d j acc, j + d = k → acc.length = j → (∀ x, x ∈ acc → Q x) → ∃ fin : List (List X), fin.length = k ∧ (∀ x, x ∈ fin → Q x) ∧ ∀ M F υ, B ≤ M → d < F → canon nIn υ = some (H j acc) → iter nIn (run (callF tab ext M) nIn M b) F υ = some (e, E fin) := by
    intro d
    induction d with
    | zero =>
      intro j acc hj hacc hq
      have hjk : j = k := by omega
      subst hjk
      refine ⟨acc, hacc, hq, fun M F υ hM hF hc => ?_⟩
      obtain ⟨F', rfl⟩ : ∃ F', F = F' + 1 := ⟨F - 1, by omega⟩
      grind[iter_end]
    | succ d ih =>
      intro j acc hj hacc hq
      obtain ⟨x, υ, hx, hc, hs⟩ := hstep j acc (by omega) hacc
      obtain ⟨fin, hf, hfq, h⟩ := ih (j + 1) (acc ++ [x]) (by omega) (by grind) (fun y hy => by
        grind)
      refine ⟨fin, hf, hfq, fun M F ω hM hF hω => ?_⟩
      obtain ⟨F', rfl⟩ : ∃ F', F = F' + 1 := ⟨F - 1, by omega⟩<;>simp_all[iter_step]
  obtain ⟨fin, hf, hfq, h⟩ := key k 0 [] (by omega) rfl (fun x hx => by grind)
  grind[run]
def kOf (n len K : Nat) : Nat := if n = 0 then 0 else min len K
theorem kOf_le (n len K : Nat) : kOf n len K ≤ len ∧ kOf n len K ≤ K := by grind[kOf]
def isVal (c : List X) : Prop := ∃ v : Val, c = v.cells
/-- An expression whose arguments are looked at to a depth. -/
def isExp : Nat → List X → Prop
  | 0, c => ∃ o i t vs es, c = [num o, num i, strX t, .sl false 6 vs, .sl false 5 es] ∧ ∀ x, x ∈ vs → isVal x
  | n + 1, c => ∃ o i t vs es, c = [num o, num i, strX t, .sl false 6 vs, .sl false 5 es] ∧ (∀ x, x ∈ vs → isVal x) ∧ ∀ x, x ∈ es → isExp n x
theorem isExp_zero : ∀ {n : Nat} {c : List X}, isExp n c → isExp 0 c
  | 0, _, h => h
  | _ + 1, _, ⟨o, i, t, vs, es, h1, h2, _⟩ => ⟨o, i, t, vs, es, h1, h2⟩
def zExp : List X := [num 0, num 0, noText, .sl true 6 [], .sl true 5 []]
def expC (o i : Int) (t : ByteArray) (vs es : List (List X)) : List X := [num o, num i, strX t, .sl false 6 vs, .sl false 5 es]
/-- An expression that was cut to h levels. -/
def sE : Nat → List X → Prop
  | 0, _ => False
  | h + 1, x => ∃ o i t vs es, x = expC o i t vs es ∧ t.size ≤ 60 ∧ vs.length ≤ 2 ∧ (∀ v, v ∈ vs → ∃ w : Val, v = (shortV 1 w).cells) ∧ es.length ≤ 4 ∧ ∀ e, e ∈ es → sE h e
theorem cutT_le (n : Nat) (t : ByteArray) : (cutT n t).size ≤ n := by
  grind[cutT,ByteArray.size_extract]

section
variable (n : Nat) (o i : Int) (t : ByteArray) (l f : List (List X)) (acc : List (List X)) (j : Nat) (x : List X)
def xvH : St := ⟨[(1, num (Int.ofNat (n + 1))), (2, .ptr 0 0 0), (4, .ptr 1 0 0), (5, .bs 2 0 j), (6, nat j)], [.var (expC o i t l f), .var zExp, .row 6 acc]⟩
def xvN : St := ⟨[(1, num (Int.ofNat (n + 1))), (2, .ptr 0 0 0), (4, .ptr 1 0 0), (5, .bs 3 0 (j + 1)), (6, nat (j + 1))], [.var (expC o i t l f), .var zExp, .dead, .row 6 (acc ++ [x])]⟩
def xvE : St := ⟨[(1, num (Int.ofNat (n + 1))), (2, .ptr 0 0 0), (4, .ptr 1 0 0), (5, .bs 2 0 j), (6, nat j), (25, boolX false)], [.var (expC o i t l f), .var zExp, .row 6 acc]⟩
theorem xv_canon : canon 0 (xvN n o i t l f acc j x) = some (xvH n o i t l f (acc ++ [x]) (j + 1)) := by kernel_rfl
end
theorem xv_loop (n : Nat) (o i : Int) (t : ByteArray) (l f : List (List X)) (hl : ∀ x, x ∈ l → isVal x) {τ : St} (hτ : canon 0 τ = some (xvH n o i t l f [] 0)) : ∃ acc, acc.length = min l.length 2 ∧ (∀ x, x ∈ acc → (fun x => ∃ w : Val, x = (shortV 1 w).cells) x) ∧ ∀ M, 40 ≤ M → run (callF tab ext M) 0 M (.loop (loopAt 87 0)) τ = some (.exit 0, xvE n o i t l f acc (min l.length 2)) := by
  have hK : min l.length 2 ≤ 2 := by exact Nat.min_le_right _ _
  have key : ∃ acc : List (List X), acc.length = min l.length 2 ∧ (∀ x, x ∈ acc → (fun x => ∃ w : Val, x = (shortV 1 w).cells) x) ∧ ∀ M, 40 ≤ M → min l.length 2 < M → run (callF tab ext M) 0 M (.loop (loopAt 87 0)) τ = some (.exit 0, xvE n o i t l f acc (min l.length 2)) := ?_
  · grind
  refine loop_acc (nIn := 0) (b := loopAt 87 0) (B := 40) (H := fun j acc => xvH n o i t l f acc j) (k := min l.length 2) (e := .exit 0) (E := fun acc => xvE n o i t l f acc (min l.length 2)) (fun x => ∃ w : Val, x = (shortV 1 w).cells) hτ (fun j acc hj hacc => ?_) (fun acc hacc M hM => ?_) (by simp)
  · have hj1 : j < l.length := by omega
    have hj2 : j < 2 := by omega
    obtain ⟨v, hv⟩ := hl _ (List.getElem_mem hj1)
    have hg : l[j]? = some v.cells := by rw [List.getElem?_eq_getElem hj1, hv]
    have hc := short_val 1 v
    generalize hw : shortV 1 v = w at hc
    obtain ⟨a1, a2, a3, a4, a5, a6⟩ := v
    obtain ⟨b1, b2, b3, b4, b5, b6⟩ := w
    exact ⟨(Val.mk b1 b2 b3 b4 b5 b6).cells, xvN n o i t l f acc j ((Val.mk b1 b2 b3 b4 b5 b6).cells), ⟨_, by rw [hw]⟩, xv_canon .., fun M hM => run_of [(21, .b true), (24, .b true), (32, .e (Val.mk a1 a2 a3 a4 a5 a6).cells), (34, .p (.agg (Val.mk b1 b2 b3 b4 b5 b6).cells)), (36, .app), (27, .i (Int.ofNat (j + 1)))] [] (pf6 (lt_nat (j := j) (k := l.length) hj1) (lt_lit hj2) hg (hc M (by omega) (by omega)) (app_ok (acc := acc) j 2 88 hacc.symm (by omega) (by omega)) (next_nat (j := j) (by omega))) (lo' := []) (by kernel_rfl)⟩
  · generalize hq : min l.length 2 = q
    by_cases h6 : q < l.length
    · exact run_of [(21, .b true), (24, .b false)] [] (pf2 (lt_nat (j := q) (k := l.length) h6) (nlt_nat (j := q) (k := 2) (by omega))) (lo' := []) (by kernel_rfl)
    · exact run_of [(21, .b false)] [] (pf1 (nlt_nat (j := q) (k := l.length) h6)) (lo' := []) (by kernel_rfl)
section
variable (n : Nat) (o i : Int) (t : ByteArray) (l f acc0 : List (List X)) (m : Nat) (acc : List (List X)) (j : Nat) (x : List X)
def xaH : St := ⟨[(1, num (Int.ofNat (n + 1))), (2, .ptr 0 0 0), (4, .ptr 1 0 0), (5, .bs 2 0 m), (7, .bs 3 0 j), (8, nat j)], [.var (expC o i t l f), .var zExp, .row 6 acc0, .row 5 acc]⟩
def xaN : St := ⟨[(1, num (Int.ofNat (n + 1))), (2, .ptr 0 0 0), (4, .ptr 1 0 0), (5, .bs 2 0 m), (7, .bs 4 0 (j + 1)), (8, nat (j + 1))], [.var (expC o i t l f), .var zExp, .row 6 acc0, .dead, .row 5 (acc ++ [x])]⟩
def xaE : St := ⟨[(1, num (Int.ofNat (n + 1))), (2, .ptr 0 0 0), (4, .ptr 1 0 0), (5, .bs 2 0 m), (7, .bs 3 0 j), (8, nat j), (49, boolX false)], [.var (expC o i t l f), .var zExp, .row 6 acc0, .row 5 acc]⟩
theorem xa_canon : canon 0 (xaN n o i t l f acc0 m acc j x) = some (xaH n o i t l f acc0 m (acc ++ [x]) (j + 1)) := by kernel_rfl
end
theorem xa_loop (n : Nat) (o i : Int) (t : ByteArray) (l f acc0 : List (List X)) (m : Nat) (hn : n < 1000) (hf : ∀ m, n = m + 1 → ∀ x, x ∈ f → ∃ o i t vs es o' i' t' vs' es', x = expC o i t vs es ∧ sE n (expC o' i' t' vs' es') ∧ ∀ N, 50 + n ≤ N → Gam.pureD (callF tab ext N) 87 [.agg (expC o i t vs es), nat (m + 1)] = some (.agg (expC o' i' t' vs' es'))) {τ : St} (hτ : canon 0 τ = some (xaH n o i t l f acc0 m [] 0)) : ∃ acc, acc.length = kOf n f.length 4 ∧ (∀ x, x ∈ acc → (sE n) x) ∧ ∀ M, (50 + n) ≤ M → run (callF tab ext M) 0 M (.loop (loopAt 87 1)) τ = some (.exit 2, xaE n o i t l f acc0 m acc (kOf n f.length 4)) := by
  have hkk : kOf n f.length 4 ≤ f.length ∧ kOf n f.length 4 ≤ 4 := kOf_le ..
  have hK : kOf n f.length 4 ≤ 4 := by omega
  have key : ∃ acc : List (List X), acc.length = kOf n f.length 4 ∧ (∀ x, x ∈ acc → (sE n) x) ∧ ∀ M, (50 + n) ≤ M → kOf n f.length 4 < M → run (callF tab ext M) 0 M (.loop (loopAt 87 1)) τ = some (.exit 2, xaE n o i t l f acc0 m acc (kOf n f.length 4)) := ?_
  · grind
  refine loop_acc (nIn := 0) (b := loopAt 87 1) (B := (50 + n)) (H := fun j acc => xaH n o i t l f acc0 m acc j) (k := kOf n f.length 4) (e := .exit 2) (E := fun acc => xaE n o i t l f acc0 m acc (kOf n f.length 4)) (sE n) hτ (fun j acc hj hacc => ?_) (fun acc hacc M hM => ?_) (by simp)
  · have hj1 : j < f.length := by omega
    have hj2 : j < 4 := by omega
    obtain ⟨n, rfl⟩ : ∃ m, n = m + 1 := by
      cases n with
      | zero => grind[kOf]
      | succ m => grind
    obtain ⟨o1, i1, t1, v1, e1, o2, i2, t2, v2, e2, hv, hs, hc⟩ := hf n rfl _ (List.getElem_mem hj1)
    have hg : f[j]? = some (expC o1 i1 t1 v1 e1) := by rw [List.getElem?_eq_getElem hj1, hv]
    exact ⟨(expC o2 i2 t2 v2 e2), xaN (n + 1) o i t l f acc0 m acc j ((expC o2 i2 t2 v2 e2)), hs, xa_canon .., fun M hM => run_of [(41, .b true), (44, .b true), (48, .b true), (56, .e (expC o1 i1 t1 v1 e1)), (59, .i (Int.ofNat (n + 1))), (60, .p (.agg (expC o2 i2 t2 v2 e2))), (62, .app), (51, .i (Int.ofNat (j + 1)))] [] (pf8 (lt_nat (j := j) (k := f.length) hj1) (lt_lit hj2) (gt_one n) hg (dec_nat (j := n + 1) (by omega)) (hc M (by omega)) (app_ok (acc := acc) j 3 80 hacc.symm (by omega) (by omega)) (next_nat (j := j) (by omega))) (lo' := []) (by kernel_rfl)⟩
  · cases n with
    | zero =>
      have e0 : kOf 0 f.length 4 = 0 := rfl
      rw [e0]
      cases h1 : decide (Int.ofNat 0 < Int.ofNat f.length) with
      | true => exact run_of [(41, .b true)] [] (pf1 h1) (lo' := []) (by kernel_rfl)
      | false => exact run_of [(41, .b false)] [] (pf1 h1) (lo' := []) (by kernel_rfl)
    | succ n =>
      have e1 : kOf (n + 1) f.length 4 = min f.length 4 := rfl
      rw [e1]
      generalize hq : min f.length 4 = q
      by_cases h6 : q < f.length
      · exact run_of [(41, .b true), (44, .b false)] [] (pf2 (lt_nat (j := q) (k := f.length) h6) (nlt_nat (j := q) (k := 4) (by omega))) (lo' := []) (by kernel_rfl)
      · exact run_of [(41, .b false)] [] (pf1 (nlt_nat (j := q) (k := f.length) h6)) (lo' := []) (by kernel_rfl)
theorem short_exp : ∀ (n : Nat) (c : List X), n < 1000 → isExp n c → ∃ o i t vs es o' i' t' vs' es', c = expC o i t vs es ∧ sE (n + 1) (expC o' i' t' vs' es') ∧ ∀ N, 50 + (n + 1) ≤ N → Gam.pureD (callF tab ext N) 87 [.agg (expC o i t vs es), nat (n + 1)] = some (.agg (expC o' i' t' vs' es')) := by
  intro n
  induction n with
  | zero =>
    rintro c hn ⟨o, i, t, l, f, rfl, hl⟩
    obtain ⟨acc, h1, p1, h2⟩ := xv_loop 0 o i (cutT 60 t) l f hl (τ := ⟨[(1, num (Int.ofNat (0 + 1))), (2, .ptr 0 0 0), (4, .ptr 1 0 0), (5, .bs 2 0 0), (6, nat 0)], [.var (expC o i (cutT 60 t) l f), .var zExp, .row 6 []]⟩) (by kernel_rfl)
    have q1 : min l.length 2 ≤ 2 := Nat.min_le_right _ _
    generalize min l.length 2 = m at h1 h2 q1
    obtain ⟨acc2, h3, p2, h4⟩ := xa_loop 0 o i (cutT 60 t) l f acc m (by omega) (fun m hm => by omega) (τ := ⟨[(1, num (Int.ofNat (0 + 1))), (2, .ptr 0 0 0), (4, .ptr 1 0 0), (5, .bs 2 0 m), (7, .bs 3 0 0), (8, nat 0)], [.var (expC o i (cutT 60 t) l f), .var zExp, .row 6 acc, .row 5 []]⟩) (by kernel_rfl)
    have q2 := (kOf_le 0 f.length 4).2
    generalize kOf 0 f.length 4 = q at h3 h4 q2
    refine ⟨o, i, t, l, f, o, i, cutT 60 t, acc, acc2, rfl, ⟨o, i, cutT 60 t, acc, acc2, rfl, cutT_le 60 t, by omega, p1, by omega, p2⟩, fun N hN => ?_⟩
    obtain ⟨M, rfl⟩ : ∃ M, N = M + 1 := ⟨N - 1, by omega⟩
    have hd : (X.agg [num o, num i, strX (cutT 60 t), .bs 0 0 m, .bs 1 0 q]).data [.row 6 acc, .row 5 acc2] false = some (.agg (expC o i (cutT 60 t) acc acc2)) := by
      subst h1 h3; simp [X.data, dataL, rowOf, num, strX, expC]
    exact pure_of [(14, .i (Int.ofNat (min t.size 60))), (15, .cut)] [(.exit 0, xvE 0 o i (cutT 60 t) l f acc m), (.exit 2, xaE 0 o i (cutT 60 t) l f acc m acc2 q)] (pf4 (min_int t.size 60) (cut_ok t.size 60) (h2 M (by omega)) (h4 M (by omega)))
      (x := .agg [num o, num i, strX (cutT 60 t), .bs 0 0 m, .bs 1 0 q]) (bx := [.row 6 acc, .row 5 acc2]) (by kernel_rfl) hd
  | succ n ih =>
    rintro c hn ⟨o, i, t, l, f, rfl, hl, hf⟩
    obtain ⟨acc, h1, p1, h2⟩ := xv_loop (n + 1) o i (cutT 60 t) l f hl (τ := ⟨[(1, num (Int.ofNat (n + 1 + 1))), (2, .ptr 0 0 0), (4, .ptr 1 0 0), (5, .bs 2 0 0), (6, nat 0)], [.var (expC o i (cutT 60 t) l f), .var zExp, .row 6 []]⟩) (by kernel_rfl)
    have q1 : min l.length 2 ≤ 2 := Nat.min_le_right _ _
    generalize min l.length 2 = m at h1 h2 q1
    obtain ⟨acc2, h3, p2, h4⟩ := xa_loop (n + 1) o i (cutT 60 t) l f acc m (by omega) (fun m hm x hx => by
      grind) (τ := ⟨[(1, num (Int.ofNat (n + 1 + 1))), (2, .ptr 0 0 0), (4, .ptr 1 0 0), (5, .bs 2 0 m), (7, .bs 3 0 0), (8, nat 0)], [.var (expC o i (cutT 60 t) l f), .var zExp, .row 6 acc, .row 5 []]⟩) (by kernel_rfl)
    have q2 := (kOf_le (n + 1) f.length 4).2
    generalize kOf (n + 1) f.length 4 = q at h3 h4 q2
    refine ⟨o, i, t, l, f, o, i, cutT 60 t, acc, acc2, rfl, ⟨o, i, cutT 60 t, acc, acc2, rfl, cutT_le 60 t, by omega, p1, by omega, p2⟩, fun N hN => ?_⟩
    obtain ⟨M, rfl⟩ : ∃ M, N = M + 1 := ⟨N - 1, by omega⟩
    have hd : (X.agg [num o, num i, strX (cutT 60 t), .bs 0 0 m, .bs 1 0 q]).data [.row 6 acc, .row 5 acc2] false = some (.agg (expC o i (cutT 60 t) acc acc2)) := by
      subst h1 h3; simp [X.data, dataL, rowOf, num, strX, expC]
    exact pure_of [(14, .i (Int.ofNat (min t.size 60))), (15, .cut)] [(.exit 0, xvE (n + 1) o i (cutT 60 t) l f acc m), (.exit 2, xaE (n + 1) o i (cutT 60 t) l f acc m acc2 q)] (pf4 (min_int t.size 60) (cut_ok t.size 60) (h2 M (by omega)) (h4 M (by omega)))
      (x := .agg [num o, num i, strX (cutT 60 t), .bs 0 0 m, .bs 1 0 q]) (bx := [.row 6 acc, .row 5 acc2]) (by kernel_rfl) hd

def isRule (c : List X) : Prop := ∃ t e, c = strX t :: e ∧ isExp 3 e
def isRul0 (c : List X) : Prop := ∃ s o i t vs es, c = [strX s, num o, num i, strX t, .sl false 6 vs, .sl false 5 es] ∧ s.size ≤ 60 ∧ sE 4 (expC o i t vs es)
def ruleC (s : ByteArray) (o i : Int) (t : ByteArray) (vs es : List (List X)) : List X := [strX s, num o, num i, strX t, .sl false 6 vs, .sl false 5 es]

section
variable (l : List (List X)) (acc : List (List X)) (j : Nat) (x : List X)
def ruH : St := ⟨[(1, .ptr 0 0 0), (2, .ptr 1 0 0), (3, .ptr 2 0 0), (4, nat j)], [.var [.sl false 6 l], .var [.sl true 6 []], .var [.bs 3 0 j], .row 6 acc]⟩
def ruN : St := ⟨[(1, .ptr 0 0 0), (2, .ptr 1 0 0), (3, .ptr 2 0 0), (4, nat (j + 1))], [.var [.sl false 6 l], .var [.sl true 6 []], .var [.bs 4 0 (j + 1)], .dead, .row 6 (acc ++ [x])]⟩
def ruE : St := ⟨[(1, .ptr 0 0 0), (2, .ptr 1 0 0), (3, .ptr 2 0 0), (4, nat j), (13, boolX false)], [.var [.sl false 6 l], .var [.sl true 6 []], .var [.bs 3 0 j], .row 6 acc]⟩
theorem ru_canon : canon 0 (ruN l acc j x) = some (ruH l (acc ++ [x]) (j + 1)) := by kernel_rfl
end
theorem ru_loop (l : List (List X)) (hl : ∀ x, x ∈ l → isRule x) {τ : St} (hτ : canon 0 τ = some (ruH l [] 0)) : ∃ acc, acc.length = min l.length 8 ∧ (∀ x, x ∈ acc → (isRul0) x) ∧ ∀ M, 100 ≤ M → run (callF tab ext M) 0 M (.loop (loopAt 48 0)) τ = some (.exit 0, ruE l acc (min l.length 8)) := by
  have hK : min l.length 8 ≤ 8 := by exact Nat.min_le_right _ _
  have key : ∃ acc : List (List X), acc.length = min l.length 8 ∧ (∀ x, x ∈ acc → (isRul0) x) ∧ ∀ M, 100 ≤ M → min l.length 8 < M → run (callF tab ext M) 0 M (.loop (loopAt 48 0)) τ = some (.exit 0, ruE l acc (min l.length 8)) := ?_
  · grind
  refine loop_acc (nIn := 0) (b := loopAt 48 0) (B := 100) (H := fun j acc => ruH l acc j) (k := min l.length 8) (e := .exit 0) (E := fun acc => ruE l acc (min l.length 8)) (isRul0) hτ (fun j acc hj hacc => ?_) (fun acc hacc M hM => ?_) (by simp)
  · have hj1 : j < l.length := by omega
    have hj2 : j < 8 := by omega
    obtain ⟨s, e, hv, he⟩ := hl _ (List.getElem_mem hj1)
    obtain ⟨o1, i1, t1, v1, e1, o2, i2, t2, v2, e2, rfl, hs, hc⟩ := short_exp 3 e (by omega) he
    have hg : l[j]? = some (ruleC s o1 i1 t1 v1 e1) := by rw [List.getElem?_eq_getElem hj1, hv]; rfl
    exact ⟨(ruleC (cutT 60 s) o2 i2 t2 v2 e2), ruN l acc j ((ruleC (cutT 60 s) o2 i2 t2 v2 e2)), ⟨cutT 60 s, o2, i2, t2, v2, e2, rfl, cutT_le 60 s, hs⟩, ru_canon .., fun M hM => run_of [(9, .b true), (12, .b true), (21, .e (ruleC s o1 i1 t1 v1 e1)), (27, .e (ruleC s o1 i1 t1 v1 e1)), (31, .i (Int.ofNat (min s.size 60))), (32, .cut), (36, .e (ruleC s o1 i1 t1 v1 e1)), (39, .p (.agg (expC o2 i2 t2 v2 e2))), (42, .app), (15, .i (Int.ofNat (j + 1)))] [] (pf10 (lt_nat (j := j) (k := l.length) hj1) (lt_lit hj2) hg hg (min_int s.size 60) (cut_ok s.size 60) hg (hc M (by omega)) (app_ok (acc := acc) j 3 96 hacc.symm (by omega) (by omega)) (next_nat (j := j) (by omega))) (lo' := []) (by kernel_rfl)⟩
  · generalize hq : min l.length 8 = q
    by_cases h6 : q < l.length
    · exact run_of [(9, .b true), (12, .b false)] [] (pf2 (lt_nat (j := q) (k := l.length) h6) (nlt_nat (j := q) (k := 8) (by omega))) (lo' := []) (by kernel_rfl)
    · exact run_of [(9, .b false)] [] (pf1 (nlt_nat (j := q) (k := l.length) h6)) (lo' := []) (by kernel_rfl)
theorem short_map (l : List (List X)) (hl : ∀ x, x ∈ l → isRule x) : ∃ l', l'.length ≤ 8 ∧ (∀ x, x ∈ l' → isRul0 x) ∧ ∀ N, 110 ≤ N → Gam.pureD (callF tab ext N) 48 [.agg [.sl false 6 l]] = some (.agg [.sl false 6 l']) := by
  obtain ⟨acc, h1, hq, h2⟩ := ru_loop l hl (τ := ⟨[(1, .ptr 0 0 0), (2, .ptr 1 0 0), (3, .ptr 2 0 0), (4, nat 0)], [.var [.sl false 6 l], .var [.sl true 6 []], .var [.bs 3 0 0], .row 6 []]⟩) (by kernel_rfl)
  have hk : min l.length 8 ≤ 8 := Nat.min_le_right _ _
  generalize min l.length 8 = m at h1 h2 hk
  refine ⟨acc, by omega, hq, fun N hN => ?_⟩
  obtain ⟨M, rfl⟩ : ∃ M, N = M + 1 := ⟨N - 1, by omega⟩
  have hd : (X.agg [.bs 0 0 m]).data [.row 6 acc] false = some (.agg [.sl false 6 acc]) := by
    subst h1; simp [X.data, dataL, rowOf]
  exact pure_of [] [(.exit 0, ruE l acc m)] (pf1 (h2 M (by omega))) (x := .agg [.bs 0 0 m]) (bx := [.row 6 acc]) (by kernel_rfl) hd

end Go.Proofs.YtonnphbfclaigaaGreatDoor
