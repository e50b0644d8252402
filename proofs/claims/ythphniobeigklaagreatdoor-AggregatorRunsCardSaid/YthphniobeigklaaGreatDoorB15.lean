/- The inputs that events describe. -/
import Derived.Shelf.LaysC
import Derived.Shelf.LaysM
import Derived.Shelf.Lays
import Derived.Shelf.Strconv.Itoa1
import Derived.Shelf.Strconv.Itoa2
import Derived.Lib.Walk
import Derived.Lib.ItoaMem
import Derived.WalkKit
import Derived.BigCall
import Derived.BigGuard
import Derived.Test.YthphniobeigklaaGreatDoorB14
set_option linter.all false
namespace Go.Proofs.YthphniobeigklaaGreatDoor.Ag
open Go Go.Em Go.Proofs.YthphniobeigklaaGreatDoor
set_option maxRecDepth 100000

/-- An event: what, key, number, time. -/
structure Ev where
  a : Nat
  k : Nat
  n : Nat
  d : Nat
def Ev.ok (e : Ev) : Prop := e.a < 256 ∧ e.k < 256 ∧ e.n < 256 ∧ e.d < 256
def evC (l : List Ev) : List (List X) := l.map fun e => [u8X e.a, u8X e.k, u8X e.n, u8X e.d]
theorem evC_len (l : List Ev) : (evC l).length = l.length := by simp [evC]
theorem evC_get {l : List Ev} {j : Nat} (h : j < l.length) : (evC l)[j]? = some [u8X l[j].a, u8X l[j].k, u8X l[j].n, u8X l[j].d] := by simp [evC, h]
def evV (e : Ev) : Ei := if 6 ≤ e.a % 8 then .c else .m (if e.k % 5 = 4 then none else some ((e.k % 5 : Nat) : Int)) (e.n % 4)
/-- The inputs from the i-th event on. -/
def inL : Nat → Nat → List Ev → List Iv
  | _, _, [] => []
  | i, now, e :: r => ⟨i, ((now + e.d % 8 : Nat) : Int), evV e⟩ :: inL (i + 1) (now + e.d % 8) r
def nwL : Nat → List Ev → Nat
  | now, [] => now
  | now, e :: r => nwL (now + e.d % 8) r
theorem inL_len : ∀ (l : List Ev) (i now : Nat), (inL i now l).length = l.length
  | [], _, _ => rfl
  | e :: r, i, now => congrArg (· + 1) (inL_len r (i + 1) (now + e.d % 8))
theorem nwL_snoc (e : Ev) : ∀ (l : List Ev) (now : Nat), nwL now (l ++ [e]) = nwL now l + e.d % 8
  | [], _ => rfl
  | x :: r, now => nwL_snoc e r (now + x.d % 8)
theorem inL_snoc (e : Ev) : ∀ (l : List Ev) (i now : Nat), inL i now (l ++ [e]) = inL i now l ++ [⟨i + l.length, ((nwL now l + e.d % 8 : Nat) : Int), evV e⟩]
  | [], _, _ => rfl
  | x :: r, i, now => by
    show _ :: inL (i + 1) (now + x.d % 8) (r ++ [e]) = _
    rw [inL_snoc e r (i + 1) (now + x.d % 8)]
    show _ = _ :: (_ ++ [_])
    rw [List.length_cons, show i + (r.length + 1) = i + 1 + r.length by omega]
    rfl
theorem nwL_le : ∀ (l : List Ev) (now : Nat), nwL now l ≤ now + 8 * l.length
  | [], _ => by simp [nwL]
  | x :: r, now => by
    have := nwL_le r (now + x.d % 8)
    simp only [nwL, List.length_cons]
    omega
theorem inL_take (l : List Ev) (i now j : Nat) (h : j < l.length) : inL i now (l.take (j + 1)) = inL i now (l.take j) ++ [⟨i + j, ((nwL now (l.take j) + l[j].d % 8 : Nat) : Int), evV l[j]⟩] := by
  rw [List.take_succ_eq_append_getElem h, inL_snoc, List.length_take, Nat.min_eq_left (by omega)]
theorem inL_get : ∀ (l : List Ev) (i now j : Nat) (h : j < l.length), (inL i now l)[j]'(by rw [inL_len]; exact h) = ⟨i + j, ((nwL now (l.take j) + l[j].d % 8 : Nat) : Int), evV l[j]⟩
  | e :: r, i, now, 0, _ => rfl
  | e :: r, i, now, j + 1, h => by
    show (inL (i + 1) (now + e.d % 8) r)[j]'_ = _
    rw [inL_get r (i + 1) (now + e.d % 8) j (by simpa using h)]
    simp only [Iv.mk.injEq]
    refine ⟨by omega, rfl, rfl⟩
section
variable (es acc : List (List X)) (now j : Nat) (N : Nat)
def ivH : St := ⟨[(0, .sl false 4 es), (3, .bs 0 0 j), (4, nat now), (5, nat j)], [.row 23 acc]⟩
def ivE : St := ⟨[(0, .sl false 4 es), (3, .bs 0 0 j), (4, nat now), (5, nat j), (17, boolX false)], [.row 23 acc]⟩
theorem iv_canon : canon 0 (ivH es acc now j) = some (ivH es acc now j) := by kernel_rfl
theorem iv_end (h : ¬ (j < es.length ∧ j < 40)) : run (callF tab ext N) 0 N (loopAt 13 0) (ivH es acc now j) = some (.exit 0, ivE es acc now j) := by
  by_cases h1 : j < es.length
  · have h2 : decide (Int.ofNat j < 40) = false := decide_eq_false (by simp only [Int.ofNat_eq_natCast]; omega)
    exact run_of [(13, .b true), (16, .b false)] [] (pf2 (lt_nat h1) h2) (lo' := []) (by kernel_rfl)
  · exact run_of [(13, .b false)] [] (pf1 (nlt_nat h1)) (lo' := []) (by kernel_rfl)
theorem iv_round (e : Ev) (he : es[j]? = some [u8X e.a, u8X e.k, u8X e.n, u8X e.d]) (hj : j < es.length) (hj2 : j < 40) (hn : now ≤ 1000) (ha : j = acc.length) :
    ∃ υ, run (callF tab ext (N + 300)) 0 (N + 300) (loopAt 13 0) (ivH es acc now j) = some (.norm, υ) ∧ canon 0 υ = some (ivH es (acc ++ [Iv.row true ⟨j, ((now + e.d % 8 : Nat) : Int), evV e⟩]) (now + e.d % 8) (j + 1)) := by
  have h1 := lt_nat hj
  have h2 : decide (Int.ofNat j < 40) = true := decide_eq_true (by simp only [Int.ofNat_eq_natCast]; omega)
  have h3 := next_nat (j := j) (by omega)
  have h4 := app_ok (acc := acc) j 0 304 ha (by omega) (by omega)
  have rem : ∀ (a b : Nat), b < 100 → 0 < b → IntKind.i64.wrap ((a : Int).tmod (Int.ofNat b)) = Int.ofNat (a % b) := fun a b hb h0 => by
    have hm := Nat.mod_lt a h0
    rw [Int.tmod_eq_emod_of_nonneg (Int.natCast_nonneg a), IntKind.wrap_i64, Int.ofNat_eq_natCast, ← Int.natCast_emod]
    simp only [Int.ofNat_eq_natCast]
    omega
  have hd := rem e.d 8 (by omega) (by omega)
  have hnow : IntKind.i64.wrap (Int.ofNat now + Int.ofNat (e.d % 8)) = Int.ofNat (now + e.d % 8) := by
    rw [IntKind.wrap_i64]; simp only [Int.ofNat_eq_natCast]; omega
  have hta : ∀ (a b : Nat), (a : Int).tmod (Int.ofNat b) = ((a % b : Nat) : Int) := fun a b => by
    rw [Int.tmod_eq_emod_of_nonneg (Int.natCast_nonneg a)]; rfl
  have hmass : IntKind.i64.wrap (100 + Int.ofNat j) = Int.ofNat (100 + j) := by rw [IntKind.wrap_i64]; simp only [Int.ofNat_eq_natCast]; omega
  unfold evV
  by_cases hc : 6 ≤ e.a % 8
  · have h6 : decide ((e.a : Int).tmod 8 ≥ 6) = true := decide_eq_true (by have := hta e.a 8; simp only [Int.ofNat_eq_natCast] at this; rw [show ((8 : Nat) : Int) = 8 from rfl] at this; rw [this]; omega)
    rw [if_pos hc]
    generalize now + e.d % 8 = now2 at *
    generalize e.d % 8 = dd at *
    exact rd_of [(13, .b true), (16, .b true), (22, .e [u8X e.a, u8X e.k, u8X e.n, u8X e.d]), (28, .i (Int.ofNat dd)), (29, .i (Int.ofNat now2)), (33, .b true), (37, .i (Int.ofNat (j + 1))), (42, .app), (19, .i (Int.ofNat (j + 1)))] (pfJ h1 h2 he hd hnow h6 h3 (pf2 h4 h3)) (by kernel_rfl)
  · have h6 : decide ((e.a : Int).tmod 8 ≥ 6) = false := decide_eq_false (by have := hta e.a 8; simp only [Int.ofNat_eq_natCast] at this; rw [show ((8 : Nat) : Int) = 8 from rfl] at this; rw [this]; omega)
    have hk := rem e.k 5 (by omega) (by omega)
    have hnn := rem e.n 4 (by omega) (by omega)
    rw [if_neg hc]
    by_cases hq : e.k % 5 = 4
    · have h60 : ((e.k : Int).tmod 5 == 4) = true := beq_iff_eq.2 (by have := hta e.k 5; simp only [Int.ofNat_eq_natCast] at this; rw [show ((5 : Nat) : Int) = 5 from rfl] at this; rw [this, hq]; rfl)
      rw [if_pos hq]
      generalize now + e.d % 8 = now2 at *
      generalize e.d % 8 = dd at *
      generalize e.n % 4 = nn at *
      exact rd_of [(13, .b true), (16, .b true), (22, .e [u8X e.a, u8X e.k, u8X e.n, u8X e.d]), (28, .i (Int.ofNat dd)), (29, .i (Int.ofNat now2)), (33, .b false), (52, .i (Int.ofNat nn)), (60, .b true), (66, .i (Int.ofNat (j + 1))), (71, .i (Int.ofNat (100 + j))), (73, .i (Int.ofNat (j + 1))), (83, .app), (19, .i (Int.ofNat (j + 1)))] (pf13 h1 h2 he hd hnow h6 hnn h60 h3 hmass h3 h4 h3) (by kernel_rfl)
    · have h60 : ((e.k : Int).tmod 5 == 4) = false := beq_eq_false_iff_ne.2 (by have := hta e.k 5; simp only [Int.ofNat_eq_natCast] at this; rw [show ((5 : Nat) : Int) = 5 from rfl] at this; rw [this]; omega)
      rw [if_neg hq]
      generalize now + e.d % 8 = now2 at *
      generalize e.d % 8 = dd at *
      generalize e.n % 4 = nn at *
      generalize e.k % 5 = kk at *
      exact rd_of [(13, .b true), (16, .b true), (22, .e [u8X e.a, u8X e.k, u8X e.n, u8X e.d]), (28, .i (Int.ofNat dd)), (29, .i (Int.ofNat now2)), (33, .b false), (46, .i (Int.ofNat kk)), (52, .i (Int.ofNat nn)), (60, .b false), (66, .i (Int.ofNat (j + 1))), (71, .i (Int.ofNat (100 + j))), (73, .i (Int.ofNat (j + 1))), (83, .app), (19, .i (Int.ofNat (j + 1)))] (pf14 h1 h2 he hd hnow h6 hk hnn h60 h3 hmass h3 h4 h3) (by kernel_rfl)
end
/-- The inputs of at most 40 events. -/
theorem inputs13 (l : List Ev) (N : Nat) (hN : 500 ≤ N) : Gam.pureD (callF tab ext N) 13 [.sl false 4 (evC l)] = some (.sl false 23 (insC (inL 0 0 (l.take 40)))) := by
  obtain ⟨M, rfl⟩ : ∃ M, N = M + 301 := ⟨N - 301, by omega⟩
  have hn := evC_len l
  have hk : (l.take 40).length = min 40 l.length := List.length_take ..
  have h1 : run (callF tab ext (M + 300)) 0 (M + 300) (.loop (loopAt 13 0)) (ivH (evC l) [] 0 0) = some (.exit 0, ivE (evC l) (insC (inL 0 0 (l.take 40))) (nwL 0 (l.take 40)) (l.take 40).length) := by
    refine loop_for (σ := fun j => ivH (evC l) (insC (inL 0 0 ((l.take 40).take j))) (nwL 0 ((l.take 40).take j)) j) (k := (l.take 40).length) (iv_canon ..) (fun j hj => ?_) ?_ (by simp) (by omega)
    · have hj' : j < l.length := by omega
      rw [inL_take _ 0 0 j hj, List.take_succ_eq_append_getElem hj, nwL_snoc, Nat.zero_add]
      have e1 : (l.take 40)[j] = l[j] := List.getElem_take
      have hle := nwL_le ((l.take 40).take j) 0
      rw [List.length_take] at hle
      have e2 : insC (inL 0 0 ((l.take 40).take j) ++ [⟨j, ((nwL 0 ((l.take 40).take j) + (l.take 40)[j].d % 8 : Nat) : Int), evV (l.take 40)[j]⟩]) = insC (inL 0 0 ((l.take 40).take j)) ++ [Iv.row true ⟨j, ((nwL 0 ((l.take 40).take j) + (l.take 40)[j].d % 8 : Nat) : Int), evV (l.take 40)[j]⟩] := by simp [insC]
      rw [e2, e1]
      exact iv_round (evC l) _ _ j M l[j] (evC_get hj') (by omega) (by omega) (by omega) (by rw [insC_len, inL_len, List.length_take]; omega)
    · rw [List.take_length]
      exact iv_end (evC l) _ _ _ (M + 300) (by omega)
  have hlen : (l.take 40).length = (insC (inL 0 0 (l.take 40))).length := by rw [insC_len, inL_len]
  generalize nwL 0 (l.take 40) = nw at *
  generalize insC (inL 0 0 (l.take 40)) = I at *
  generalize (l.take 40).length = k at *
  generalize evC l = E at *
  exact pure_of [] [(.exit 0, ivE E I nw k)] (pf1 h1) (x := .bs 0 0 k) (bx := [.row 23 I]) (by kernel_rfl) (data_bs rfl hlen)
end Go.Proofs.YthphniobeigklaaGreatDoor.Ag

/- The example of layer 33: its inputs. -/
namespace Go.Proofs.YthphniobeigklaaGreatDoor.Ag
open Go Go.Em Go.Proofs.YthphniobeigklaaGreatDoor
set_option maxRecDepth 100000

/-- An input with a message: its number, a key, a number. -/
def inX (i q n : Nat) : List X := [num 1, num 0, nat (i + 1), .sl true 1 [[num 1]], nat (i + 1), .sl true 1 [[num 1]], nat (100 + i), .sl true 1 [[nat (i + 1)]]] ++ bodyG true (some (q : Int)) n ++ [num 0, boolX false, boolX false, num 0, num 0, num 0, strX ⟨#[]⟩, .sl true 6 [], .sl true 7 []]
def kIns : List (List X) := [inX 0 1 0, inX 1 2 0, inX 2 1 3]
def kEvs : X := .sl false 4 [[u8X 0, u8X 1, u8X 0, u8X 0], [u8X 0, u8X 2, u8X 0, u8X 0], [u8X 0, u8X 1, u8X 3, u8X 0]]
theorem kn13 (N : Nat) : Gam.pureD (callF tab ext (N + 300)) 13 [kEvs] = some (.sl false 23 kIns) := by kernel_rfl
end Go.Proofs.YthphniobeigklaaGreatDoor.Ag

/- The first example of the chapter: known() of layer 33. -/
namespace Go.Proofs.YthphniobeigklaaGreatDoor.Ag
open Go Go.Em Go.Proofs.YthphniobeigklaaGreatDoor
set_option maxRecDepth 100000

def xs3 : List Iv := [⟨0, 0, .m (some 1) 0⟩, ⟨1, 0, .m (some 2) 0⟩, ⟨2, 0, .m (some 1) 3⟩]
/-- Steps of the example's node at messages. -/
def S3 (gs : List Ga) (x : Iv) : Rs := match x.v with
  | .m (some q) n => stpM 2 0 4 999999999999999 0 gs q x.now (x.i, n)
  | _ => ⟨gs, [], [], []⟩

def gk1 : List Ga := [⟨1, 0, [(0, 0)]⟩]
def gk2 : List Ga := [⟨1, 0, [(0, 0)]⟩, ⟨2, 0, [(1, 0)]⟩]
theorem g0_I : GsI [] 0 := ⟨.nil, by simp, by simp, by simp, by simp, by simp, by simp⟩
theorem g1_I : GsI gk1 1 := ⟨by simp [gk1, SrtG], by simp [gk1], by simp [gk1], by simp [gk1], by simp [gk1], by simp [gk1], by simp [gk1]⟩
theorem g2_I : GsI gk2 2 := ⟨by simp [gk2, SrtG], by simp [gk2], by simp [gk2], by simp [gk2], by simp [gk2], by simp [gk2], by simp [gk2]⟩
theorem ek1 : stL S3 [] (xs3.take 1) = gk1 := by rfl
theorem ek2 : stL S3 [] (xs3.take 2) = gk2 := by rfl
theorem kn_run (N : Nat) (hN : 193000 ≤ N) : Gam.pureD (callF tab ext (N + 1)) 14 [.agg (nodX 2 0 4 (exN 0) (tyX 999999999999999) ruX), .sl false 23 (insC xs3)] = some (.sl false 7 (rssC (rnL S3 [] xs3))) := by
  refine run14 S3 2 0 4 999999999999999 (exN 0) xs3 (by decide) N (by omega) fun j hj => ?_
  match j, hj with
  | 0, _ => exact step_msg 2 0 4 999999999999999 0 [] 1 0 0 0 (by decide) g0_I (by decide) (by decide) (by decide) (by decide) (by decide) (by decide) N hN
  | 1, _ =>
    rw [ek1]
    exact step_msg 2 0 4 999999999999999 0 gk1 2 0 1 0 (by decide) g1_I (by decide) (by decide) (by decide) (by decide) (by decide) (by decide) N hN
  | 2, _ =>
    rw [ek2]
    exact step_msg 2 0 4 999999999999999 0 gk2 1 0 2 3 (by decide) g2_I (by decide) (by decide) (by decide) (by decide) (by decide) (by decide) N hN
  | j + 3, h => exact absurd h (by simp [xs3])
theorem kn_node (N : Nat) : Gam.pureD (callF tab ext (N + 300)) 12 [.agg [.v (.int .u8 2), .v (.int .u8 0), .v (.int .u8 3), .v (.int .u8 0), .v (.int .u8 0)]] = some (.agg (nodX 2 0 4 (exN 0) (tyX 999999999999999) ruX)) := node12 2 0 3 0 0 N
theorem known11 (N : Nat) (hN : 193400 ≤ N) : Gam.pureD (callF tab ext N) 11 [] = some (boolX true) := by
  obtain ⟨K, rfl⟩ : ∃ K, N = K + 301 := ⟨N - 301, by omega⟩
  have h8 := kn13 K
  have h10 := kn_node K
  have h12 := kn_run (K + 299) (by omega)
  exact pure_of [(8, .p (.sl false 23 (insC xs3))), (10, .p (.agg (nodX 2 0 4 (exN 0) (tyX 999999999999999) ruX))), (12, .p (.sl false 7 (rssC (rnL S3 [] xs3))))] [] (pf3 h8 h10 h12) (x := boolX true) (bx := []) (by kernel_rfl) rfl
end Go.Proofs.YthphniobeigklaaGreatDoor.Ag

/- AggregatorCompletes, where the first example of the chapter is known. -/
namespace Go.Proofs.YthphniobeigklaaGreatDoor.Ag
open Go Go.Em Go.Proofs.YthphniobeigklaaGreatDoor
set_option maxRecDepth 100000

section
variable (nC vC es acc : List (List X)) (nd kc : List X) (m i : Nat) (N : Nat)
def csH : St := ⟨[(2, .sl false 1 es), (7, .ptr 0 0 0), (8, .ptr 1 0 0), (9, .bs 2 0 m), (10, nat i)], [.var nd, .var kc, .row 6 acc]⟩
def csE : St := ⟨[(2, .sl false 1 es), (7, .ptr 0 0 0), (8, .ptr 1 0 0), (9, .bs 2 0 m), (10, nat i), (32, boolX false)], [.var nd, .var kc, .row 6 acc]⟩
end
section
variable (nu ti li k : Int) (ty ru es acc : List (List X)) (cd m i : Nat) (N : Nat)
theorem cs_canon : canon 0 (csH es acc (nodX nu ti li (exN cd) ty ru) (kv k).cells m i) = some (csH es acc (nodX nu ti li (exN cd) ty ru) (kv k).cells m i) := by kernel_rfl
theorem cs_end (h : ¬ i < es.length) : run (callF tab ext N) 0 N (loopAt 5 0) (csH es acc (nodX nu ti li (exN cd) ty ru) (kv k).cells m i) = some (.exit 0, csE es acc (nodX nu ti li (exN cd) ty ru) (kv k).cells m i) :=
  run_of [(32, .b false)] [] (pf1 (nlt_nat h)) (lo' := []) (by kernel_rfl)
theorem cs_round (q : Int) (x : Nat) (hq : IntKind.i64.wrap (q.tmod 4) = Int.ofNat x) (hi : i < es.length) (hi2 : i < 100000) (hm : m = acc.length) (hm2 : m < 100000) (he : es[i]? = some [u8X q]) :
    ∃ υ, run (callF tab ext (N + 300)) 0 (N + 300) (loopAt 5 0) (csH es acc (nodX nu ti li (exN cd) ty ru) (kv k).cells m i) = some (.norm, υ) ∧ canon 0 υ = some (csH es (acc ++ [bodyG true none x]) (nodX nu ti li (exN cd) ty ru) (kv k).cells (m + 1) (i + 1)) := by
  have h1 := lt_nat hi
  have h2 := next_nat (j := i) (by omega)
  have h3 := app_ok (acc := acc) m 2 88 (by omega) (by omega) (by omega)
  exact rd_of [(32, .b true), (38, .e [u8X q]), (41, .i (Int.ofNat x)), (47, .app), (34, .i (Int.ofNat (i + 1)))] (pf5 h1 he hq h3 h2) (by kernel_rfl)
end
/-- The numbers of the bodies. -/
def bdsOf (qs : List Int) : List Bd := qs.map fun q => (none, q.toNat % 4)
def u8C (qs : List Int) : List (List X) := qs.map fun q => [u8X q]
theorem u8C_len (qs : List Int) : (u8C qs).length = qs.length := by simp [u8C]
theorem bdsOf_len (qs : List Int) : (bdsOf qs).length = qs.length := by simp [bdsOf]
theorem bdsOf_tiny (qs : List Int) : Tiny (nsOf (bdsOf qs)) := by
  intro x hx
  simp only [nsOf, bdsOf, List.map_map, List.mem_map, Function.comp_apply] at hx
  obtain ⟨q, _, rfl⟩ := hx
  omega
theorem rem4 (q : Int) (h : 0 ≤ q ∧ q < 256) : IntKind.i64.wrap (q.tmod 4) = Int.ofNat (q.toNat % 4) := by
  obtain ⟨n, rfl⟩ := Int.eq_ofNat_of_zero_le h.1
  rw [Int.tmod_eq_emod_of_nonneg (Int.natCast_nonneg n), IntKind.wrap_i64]
  simp only [Int.ofNat_eq_natCast, Int.toNat_natCast]
  omega
section
variable (nu ti li k : Int) (ty ru : List (List X)) (cd : Nat) (qs : List Int) (hr : ∀ q ∈ qs, 0 ≤ q ∧ q < 256) (hl : qs.length ≤ 300)
include hr hl
theorem cs_loop (N : Nat) (hN : 1000 ≤ N) : run (callF tab ext N) 0 N (.loop (loopAt 5 0)) (csH (u8C qs) [] (nodX nu ti li (exN cd) ty ru) (kv k).cells 0 0) = some (.exit 0, csE (u8C qs) (bdG true (bdsOf qs)) (nodX nu ti li (exN cd) ty ru) (kv k).cells qs.length qs.length) := by
  obtain ⟨M, rfl⟩ : ∃ M, N = M + 300 := ⟨N - 300, by omega⟩
  have hn := u8C_len qs
  refine loop_for (σ := fun i => csH (u8C qs) (bdG true (bdsOf (qs.take i))) (nodX nu ti li (exN cd) ty ru) (kv k).cells i i) (k := qs.length) (cs_canon ..) (fun i hi => ?_) ?_ (by simp) (by omega)
  · have e : bdG true (bdsOf (qs.take (i + 1))) = bdG true (bdsOf (qs.take i)) ++ [bodyG true none (qs[i].toNat % 4)] := by
      unfold bdG bdsOf
      rw [List.take_succ_eq_append_getElem hi, List.map_append, List.map_append]
      rfl
    rw [e]
    exact cs_round nu ti li k ty ru (u8C qs) (bdG true (bdsOf (qs.take i))) cd i i M qs[i] _ (rem4 _ (hr _ (List.getElem_mem hi))) (by omega) (by omega) (by rw [bdG_len, bdsOf_len, List.length_take]; omega) (by omega) (by simp [u8C, hi])
  · rw [List.take_length]
    exact cs_end nu ti li k ty ru (u8C qs) (bdG true (bdsOf qs)) cd qs.length qs.length (M + 300) (by omega)
end
section
variable (a b c d e k : Int) (qs : List Int) (hr : ∀ q ∈ qs, 0 ≤ q ∧ q < 256) (N : Nat)
include hr
omit hr in
theorem law_big (hk : Gam.pureD (callF tab ext (N + 20000)) 11 [] = some (boolX true)) (hl : 300 < qs.length) :
    Gam.pureD (callF tab ext (N + 20001)) 5 [skX a b c d e, u8X k, .sl false 1 (u8C qs)] = some (boolX true) := by
  have h1 : decide (Int.ofNat (u8C qs).length > 300) = true := decide_eq_true (by rw [u8C_len]; simp only [Int.ofNat_eq_natCast]; omega)
  generalize u8C qs = es at *
  exact pure_of [(15, .p (boolX true)), (20, .b true), (22, .p (boolX true))] [] (pf3 hk h1 hk) (x := boolX true) (bx := []) (by kernel_rfl) rfl
end
theorem law_core (a b c d e k kk nu ti li most : Int) (cd : Nat) (es acc : List (List X)) (m : Nat) (x1 x2 : Bool) (e1 e2 : Int) (N : Nat)
    (hkk : IntKind.i64.wrap (k.tmod 10) = kk)
    (hk : Gam.pureD (callF tab ext (N + 20000)) 11 [] = some (boolX true)) (h0 : decide (Int.ofNat es.length > 300) = false)
    (h12 : Gam.pureD (callF tab ext (N + 20000)) 12 [skX a b c d e] = some (.agg (nodX nu ti li (exN cd) (tyX most) ruX)))
    (hlo : run (callF tab ext (N + 20000)) 0 (N + 20000) (.loop (loopAt 5 0)) (csH es [] (nodX nu ti li (exN cd) (tyX most) ruX) (kv kk).cells 0 0) = some (.exit 0, csE es acc (nodX nu ti li (exN cd) (tyX most) ruX) (kv kk).cells m m))
    (hm : m = acc.length)
    (h18 : Gam.pureD (callF tab ext (N + 20000)) 18 [.agg (nodX nu ti li (exN cd) (tyX most) ruX), .agg (kv kk).cells, .sl false 6 acc] = some (.tup [boolX x1, num e1]))
    (h19 : 0 < m → m ≤ 256 → Gam.pureD (callF tab ext (N + 20000)) 19 [.agg (nodX nu ti li (exN cd) (tyX most) ruX), .agg (kv kk).cells, .sl false 6 acc] = some (.tup [boolX x2, num e2]))
    (hA : m = 0 → x1 = false ∧ e1 = 4) (hB : 256 < m → x1 = false ∧ e1 = 9) (hC : 0 < m → m ≤ 256 → x1 = x2 ∧ e1 = e2) :
    Gam.pureD (callF tab ext (N + 20001)) 5 [skX a b c d e, u8X k, .sl false 1 es] = some (boolX true) := by
  have hd : dataL [.var (nodX nu ti li (exN cd) (tyX most) ruX), .var (kv kk).cells, .row 6 acc] false [.agg (nodX nu ti li (exN cd) (tyX most) ruX), .agg (kv kk).cells, .bs 2 0 m] = some [.agg (nodX nu ti li (exN cd) (tyX most) ruX), .agg (kv kk).cells, .sl false 6 acc] :=
    dataL_cons rfl (dataL_cons rfl (dataL_cons (data_bs rfl hm) rfl))
  have hlo' : run (callF tab ext (N + 20000)) 0 (N + 20000) (.loop (loopAt 5 0)) ⟨[(2, .sl false 1 es), (7, .ptr 1 0 0), (8, .ptr 2 0 0), (9, .bs 3 0 0), (10, num 0)], [.var [u8X a, u8X b, u8X c, u8X d, u8X e], .var (nodX nu ti li (exN cd) (tyX most) ruX), .var (kv (IntKind.i64.wrap (k.tmod 10))).cells, .row 6 []]⟩ = some (.exit 0, csE es acc (nodX nu ti li (exN cd) (tyX most) ruX) (kv kk).cells m m) := by
    rw [hkk, ← hlo]
    exact loop_canon (by kernel_rfl) (cs_canon ..)
  by_cases h1 : m = 0
  · obtain ⟨rfl, rfl⟩ := hA h1
    have g1 : (Int.ofNat m == 0) = true := by rw [h1]; rfl
    exact pure_of [(15, .p (boolX true)), (20, .b false), (24, .p (.agg (nodX nu ti li (exN cd) (tyX most) ruX))), (52, .d [.agg (nodX nu ti li (exN cd) (tyX most) ruX), .agg (kv kk).cells, .sl false 6 acc] (.tup [boolX false, num 4])), (57, .b true)] [(.exit 0, csE es acc (nodX nu ti li (exN cd) (tyX most) ruX) (kv kk).cells m m)]
      (pf6 hk h0 h12 hlo' (And.intro hd h18) g1) (x := boolX true) (bx := []) (by kernel_rfl) rfl
  · have g1 : (Int.ofNat m == 0) = false := by simp only [Int.ofNat_eq_natCast, beq_eq_false_iff_ne, ne_eq]; omega
    by_cases h2 : 256 < m
    · obtain ⟨rfl, rfl⟩ := hB h2
      have g2 : decide (Int.ofNat m > 256) = true := decide_eq_true (by simp only [Int.ofNat_eq_natCast]; omega)
      exact pure_of [(15, .p (boolX true)), (20, .b false), (24, .p (.agg (nodX nu ti li (exN cd) (tyX most) ruX))), (52, .d [.agg (nodX nu ti li (exN cd) (tyX most) ruX), .agg (kv kk).cells, .sl false 6 acc] (.tup [boolX false, num 9])), (57, .b false), (66, .b true)] [(.exit 0, csE es acc (nodX nu ti li (exN cd) (tyX most) ruX) (kv kk).cells m m)]
        (pfJ hk h0 h12 hlo' (And.intro hd h18) g1 g2 pf0) (x := boolX true) (bx := []) (by kernel_rfl) rfl
    · have g2 : decide (Int.ofNat m > 256) = false := decide_eq_false (by simp only [Int.ofNat_eq_natCast]; omega)
      obtain ⟨rfl, rfl⟩ := hC (by omega) (by omega)
      have h19 := h19 (by omega) (by omega)
      have g3 : (e1 == e1) = true := beq_self_eq_true e1
      cases x1 with
      | true =>
        exact pure_of [(15, .p (boolX true)), (20, .b false), (24, .p (.agg (nodX nu ti li (exN cd) (tyX most) ruX))), (52, .d [.agg (nodX nu ti li (exN cd) (tyX most) ruX), .agg (kv kk).cells, .sl false 6 acc] (.tup [boolX true, num e1])), (57, .b false), (66, .b false), (77, .d [.agg (nodX nu ti li (exN cd) (tyX most) ruX), .agg (kv kk).cells, .sl false 6 acc] (.tup [boolX true, num e1])), (86, .b true)] [(.exit 0, csE es acc (nodX nu ti li (exN cd) (tyX most) ruX) (kv kk).cells m m)]
          (pfJ hk h0 h12 hlo' (And.intro hd h18) g1 g2 (pf2 (And.intro hd h19) g3)) (x := boolX true) (bx := []) (by kernel_rfl) rfl
      | false =>
        exact pure_of [(15, .p (boolX true)), (20, .b false), (24, .p (.agg (nodX nu ti li (exN cd) (tyX most) ruX))), (52, .d [.agg (nodX nu ti li (exN cd) (tyX most) ruX), .agg (kv kk).cells, .sl false 6 acc] (.tup [boolX false, num e1])), (57, .b false), (66, .b false), (77, .d [.agg (nodX nu ti li (exN cd) (tyX most) ruX), .agg (kv kk).cells, .sl false 6 acc] (.tup [boolX false, num e1])), (86, .b true)] [(.exit 0, csE es acc (nodX nu ti li (exN cd) (tyX most) ruX) (kv kk).cells m m)]
          (pfJ hk h0 h12 hlo' (And.intro hd h18) g1 g2 (pf2 (And.intro hd h19) g3)) (x := boolX true) (bx := []) (by kernel_rfl) rfl
/-- AggregatorCompletes is true wherever the first example of the chapter is known. -/
theorem completes_at (a b c d e k : Int) (qs : List Int) (hr : ∀ q ∈ qs, 0 ≤ q ∧ q < 256) (N : Nat) (hk : Gam.pureD (callF tab ext (N + 20000)) 11 [] = some (boolX true)) :
    Gam.pureD (callF tab ext (N + 20001)) 5 [skX a b c d e, u8X k, .sl false 1 (u8C qs)] = some (boolX true) := by
  by_cases hl : 300 < qs.length
  · exact law_big a b c d e k qs N hk hl
  have h0 : decide (Int.ofNat (u8C qs).length > 300) = false := decide_eq_false (by rw [u8C_len]; simp only [Int.ofNat_eq_natCast]; omega)
  have h12 := node12 a b c d e (N + 19700)
  have hcd : cdOf d < 4 := by unfold cdOf; split <;> (try split) <;> omega
  have hlo := cs_loop (nuOf a) (tiOf b) (liOf c) (IntKind.i64.wrap (k.tmod 10)) (tyX (mostOf e)) ruX (cdOf d) qs hr (by omega) (N + 20000) (by omega)
  have hlen : (bdG true (bdsOf qs)).length = qs.length := by rw [bdG_len, bdsOf_len]
  by_cases hz : qs.length = 0
  · have h18 := complete18_0 (nuOf a) (tiOf b) (liOf c) (tyX (mostOf e)) ruX (IntKind.i64.wrap (k.tmod 10)) (cdOf d) (bdG true (bdsOf qs)) (by omega) (N + 19990)
    exact law_core a b c d e k _ _ _ _ _ _ _ _ qs.length false false 4 4 N rfl hk h0 h12 hlo hlen.symm h18 (fun h => by omega) (fun _ => ⟨rfl, rfl⟩) (fun h => by omega) (fun h => by omega)
  · by_cases hb : 256 < qs.length
    · have h18 := complete18_m (nuOf a) (tiOf b) (liOf c) (tyX (mostOf e)) ruX (IntKind.i64.wrap (k.tmod 10)) (cdOf d) (bdG true (bdsOf qs)) (by omega) (N + 19990)
      exact law_core a b c d e k _ _ _ _ _ _ _ _ qs.length false false 9 9 N rfl hk h0 h12 hlo hlen.symm h18 (fun _ h => by omega) (fun h => absurd h hz) (fun _ => ⟨rfl, rfl⟩) (fun _ h => by omega)
    · have hbl := bdsOf_len qs
      have hlast : (bdsOf qs)[(bdsOf qs).length - 1]? = some (bdsOf qs)[(bdsOf qs).length - 1] := List.getElem?_eq_getElem (by omega)
      have h18 := complete18 (nuOf a) (tiOf b) (liOf c) (tyX (mostOf e)) ruX (bdsOf qs) _ (IntKind.i64.wrap (k.tmod 10)) true (cdOf d) hcd (bdsOf_tiny qs) (by omega) (by omega) hlast (N + 20000) (by omega)
      have h19 := model19 (nuOf a) (tiOf b) (liOf c) (tyX (mostOf e)) ruX (bdsOf qs) _ (IntKind.i64.wrap (k.tmod 10)) true (cdOf d) hcd (bdsOf_tiny qs) (by omega) (by omega) hlast (N + 20000) (by omega)
      exact law_core a b c d e k _ _ _ _ _ _ _ _ qs.length _ _ _ _ N rfl hk h0 h12 hlo hlen.symm h18 (fun _ _ => h19) (fun h => absurd h hz) (fun h => absurd h hb) (fun _ _ => ⟨rfl, rfl⟩)
end Go.Proofs.YthphniobeigklaaGreatDoor.Ag

/- Arguments of the laws of layer 33, read as data. -/
namespace Go.Proofs.YthphniobeigklaaGreatDoor
open Go Go.Em Go.RowKit
theorem Tryz.own : ownKnob Tryz.prog.godebug = none := by kernel_rfl
theorem Tryz.laidOut : laidOutB Tryz.prog = true := by kernel_rfl
theorem Tryz.rowed : mapsRowed Tryz.prog = true := by kernel_rfl
def fieldsOf (P : Program) (t : TypeId) : Array Field := match P.underlying t with
  | some (.struct fs) => fs
  | _ => #[]
namespace Ag
open Go Go.Em Go.ChangeShapes Go.WideShapes Go.ChangeAt Go.RowKit Go.Proofs.YthphniobeigklaaGreatDoor
set_option maxRecDepth 100000

def tysA : List TypeId := [4, 5, 22, 38, 56, 74]
theorem tysA_ok : dataTys Tryz.prog tysA = true := by kernel_rfl
theorem tysA_size : tysA.all (fun t => decide (t < Tryz.prog.types.size)) = true := by kernel_rfl
theorem tysA_lt {t : TypeId} (h : t ∈ tysA) : t < Tryz.prog.types.size := of_decide_eq_true (List.all_eq_true.1 tysA_size t h)
theorem tysA_kids : Kids Tryz.prog (fun t => t ∈ tysA ∧ t < Tryz.prog.types.size) := kids_data (kids_rows Tryz.laidOut Tryz.rowed) tysA_ok
theorem underA4 : Tryz.prog.underlying 4 = some .bool := by kernel_rfl
theorem underA5 : Tryz.prog.underlying 5 = some (.int .u8) := by kernel_rfl
theorem underA22 : Tryz.prog.underlying 22 = some (.slice 56) := by kernel_rfl
theorem underA74 : Tryz.prog.underlying 74 = some (.slice 5) := by kernel_rfl
theorem underA38 : Tryz.prog.underlying 38 = some (.struct (fieldsOf Tryz.prog 38)) := by kernel_rfl
theorem underA56 : Tryz.prog.underlying 56 = some (.struct (fieldsOf Tryz.prog 56)) := by kernel_rfl
theorem fieldsA38 : (fieldsOf Tryz.prog 38).toList.map (·.type) = [5, 5, 5, 5, 5] := by kernel_rfl
theorem fieldsA56 : (fieldsOf Tryz.prog 56).toList.map (·.type) = [5, 5, 5, 5] := by kernel_rfl
theorem cellsA5 : Tryz.prog.cellsOf 5 = 1 := by kernel_rfl
theorem cellsA56 : Tryz.prog.cellsOf 56 = 4 := by kernel_rfl
theorem shape_u8 {n : Nat} {xs : List X} (h : Shape Tryz.prog n 5 xs) : ∃ z : Int, (0 ≤ z ∧ z < 256) ∧ xs = [u8X z] := by
  obtain ⟨z, rfl, hz⟩ := shape_int underA5 h
  have h2 : IntKind.u8.min ≤ z ∧ z ≤ IntKind.u8.max := by simpa [Lit.wf] using hz
  have e1 : IntKind.u8.min = 0 := by decide
  have e2 : IntKind.u8.max = 255 := by decide
  exact ⟨z, by omega, rfl⟩
theorem shape_sk {n : Nat} {xs : List X} (h : Shape Tryz.prog n 38 xs) : ∃ a b c d e : Int, (0 ≤ a ∧ a < 256) ∧ (0 ≤ b ∧ b < 256) ∧ (0 ≤ c ∧ c < 256) ∧ (0 ≤ d ∧ d < 256) ∧ (0 ≤ e ∧ e < 256) ∧ xs = [u8X a, u8X b, u8X c, u8X d, u8X e] := by
  obtain ⟨m, hm, hk⟩ := shape_struct underA38 h
  rw [fieldsA38] at hk
  obtain ⟨x0, r0, rfl, h0, hk⟩ := hk
  obtain ⟨x1, r1, rfl, h1, hk⟩ := hk
  obtain ⟨x2, r2, rfl, h2, hk⟩ := hk
  obtain ⟨x3, r3, rfl, h3, hk⟩ := hk
  obtain ⟨x4, r4, rfl, h4, hk⟩ := hk
  have hk : r4 = [] := hk
  subst hk
  obtain ⟨a, ha, rfl⟩ := shape_u8 h0
  obtain ⟨b, hb, rfl⟩ := shape_u8 h1
  obtain ⟨c, hc, rfl⟩ := shape_u8 h2
  obtain ⟨d, hd, rfl⟩ := shape_u8 h3
  obtain ⟨e, he, rfl⟩ := shape_u8 h4
  exact ⟨a, b, c, d, e, ha, hb, hc, hd, he, rfl⟩
theorem shape_ev {n : Nat} {xs : List X} (h : Shape Tryz.prog n 56 xs) : ∃ e : Ev, e.ok ∧ xs = [u8X e.a, u8X e.k, u8X e.n, u8X e.d] := by
  obtain ⟨m, hm, hk⟩ := shape_struct underA56 h
  rw [fieldsA56] at hk
  obtain ⟨x0, r0, rfl, h0, hk⟩ := hk
  obtain ⟨x1, r1, rfl, h1, hk⟩ := hk
  obtain ⟨x2, r2, rfl, h2, hk⟩ := hk
  obtain ⟨x3, r3, rfl, h3, hk⟩ := hk
  have hk : r3 = [] := hk
  subst hk
  obtain ⟨a, ha, rfl⟩ := shape_u8 h0
  obtain ⟨b, hb, rfl⟩ := shape_u8 h1
  obtain ⟨c, hc, rfl⟩ := shape_u8 h2
  obtain ⟨d, hd, rfl⟩ := shape_u8 h3
  refine ⟨⟨a.toNat, b.toNat, c.toNat, d.toNat⟩, ⟨by dsimp only; omega, by dsimp only; omega, by dsimp only; omega, by dsimp only; omega⟩, ?_⟩
  dsimp only
  rw [Int.toNat_of_nonneg ha.1, Int.toNat_of_nonneg hb.1, Int.toNat_of_nonneg hc.1, Int.toNat_of_nonneg hd.1]
  rfl
theorem shape_evs {n : Nat} {xs : List X} (h : Shape Tryz.prog n 22 xs) : ∃ l : List Ev, (∀ e, e ∈ l → e.ok) ∧ xs = [.sl false 4 (evC l)] := by
  obtain ⟨es, rfl, _, m, _, hes⟩ := shape_slice underA22 h
  rw [cellsA56]
  have : ∀ es : List (List X), (∀ c, c ∈ es → Shape Tryz.prog m 56 c) → ∃ l : List Ev, (∀ e, e ∈ l → e.ok) ∧ es = evC l := by
    intro es
    induction es with
    | nil => intro _; exact ⟨[], (fun k h => by cases h), rfl⟩
    | cons c r ih =>
      intro h
      obtain ⟨k, hk, rfl⟩ := shape_ev (h c (List.mem_cons_self ..))
      obtain ⟨l, hl, rfl⟩ := ih (fun c hc => h c (List.mem_cons_of_mem _ hc))
      refine ⟨k :: l, fun j hj => ?_, rfl⟩
      rcases List.mem_cons.1 hj with rfl | hj
      · exact hk
      · exact hl j hj
  obtain ⟨l, hl, rfl⟩ := this es hes
  exact ⟨l, hl, rfl⟩
theorem shape_u8s {n : Nat} {xs : List X} (h : Shape Tryz.prog n 74 xs) : ∃ l : List Int, (∀ q, q ∈ l → 0 ≤ q ∧ q < 256) ∧ xs = [.sl false 1 (u8C l)] := by
  obtain ⟨es, rfl, _, m, _, hes⟩ := shape_slice underA74 h
  rw [cellsA5]
  have : ∀ es : List (List X), (∀ c, c ∈ es → Shape Tryz.prog m 5 c) → ∃ l : List Int, (∀ q, q ∈ l → 0 ≤ q ∧ q < 256) ∧ es = u8C l := by
    intro es
    induction es with
    | nil => intro _; exact ⟨[], (fun k h => by cases h), rfl⟩
    | cons c r ih =>
      intro h
      obtain ⟨k, hk, rfl⟩ := shape_u8 (h c (List.mem_cons_self ..))
      obtain ⟨l, hl, rfl⟩ := ih (fun c hc => h c (List.mem_cons_of_mem _ hc))
      refine ⟨k :: l, fun j hj => ?_, rfl⟩
      rcases List.mem_cons.1 hj with rfl | hj
      · exact hk
      · exact hl j hj
  obtain ⟨l, hl, rfl⟩ := this es hes
  exact ⟨l, hl, rfl⟩
/-- AggregatorCompletes, for all its arguments. -/
theorem completes_all (a b c d e k : Int) (qs : List Int) (hr : ∀ q ∈ qs, 0 ≤ q ∧ q < 256) : Gam.pureD (callF tab ext 200001) 5 [skX a b c d e, u8X k, .sl false 1 (u8C qs)] = some (boolX true) :=
  completes_at a b c d e k qs hr 180000 (known11 200000 (by omega))
end Ag
end Go.Proofs.YthphniobeigklaaGreatDoor

namespace Go.Proofs
open Go.Shelf
def Tryz.laysItoa_ren : Go.Shelf.Ren := ⟨fun | 171 => 99 | 243 => 145 | 246 => 207 | 283 => 283 | 284 => 284 | 285 => 285 | 286 => 286 | 129 => 282 | 317 => 335 | 318 => 336 | 319 => 337 | 320 => 338 | 337 => 371 | 338 => 372 | n => n, fun | 3 => 3 | 9 => 9 | 2 => 2 | 4 => 4 | 171 => 348 | 0 => 0 | 53 => 347 | 37 => 74 | 5 => 5 | 173 => 350 | 212 => 397 | 51 => 345 | 20 => 20 | 213 => 398 | 46 => 238 | 232 => 438 | 233 => 439 | n => n, fun | 17 => 3 | 18 => 6 | 19 => 7 | n => n⟩
theorem Tryz.laysItoa : Go.Proofs.LaysM.n171 Tryz.prog Tryz.laysItoa_ren := {
  mixed := by kernel_rfl
  f129 := Tryz.func282.trans (congrArg some (by kernel_rfl))
  f171 := Tryz.func99.trans (congrArg some (by kernel_rfl))
  f243 := Tryz.func145.trans (congrArg some (by kernel_rfl))
  f246 := Tryz.func207.trans (congrArg some (by kernel_rfl))
  f283 := Tryz.func283.trans (congrArg some (by kernel_rfl))
  f284 := Tryz.func284.trans (congrArg some (by kernel_rfl))
  f285 := Tryz.func285.trans (congrArg some (by kernel_rfl))
  f286 := Tryz.func286.trans (congrArg some (by kernel_rfl))
  f317 := Tryz.func335.trans (congrArg some (by kernel_rfl))
  f318 := Tryz.func336.trans (congrArg some (by kernel_rfl))
  f319 := Tryz.func337.trans (congrArg some (by kernel_rfl))
  f320 := Tryz.func338.trans (congrArg some (by kernel_rfl))
  f337 := Tryz.func371.trans (congrArg some (by kernel_rfl))
  f338 := Tryz.func372.trans (congrArg some (by kernel_rfl))
  t0 := Tryz.underlying0
  a0 := Tryz.isAgg0
  z0 := Tryz.sizeOf0
  v0 := Tryz.zeroValue0
  t2 := Tryz.underlying2
  a2 := Tryz.isAgg2
  z2 := Tryz.sizeOf2
  v2 := Tryz.zeroValue2
  t3 := Tryz.underlying3
  a3 := Tryz.isAgg3
  z3 := Tryz.sizeOf3
  v3 := Tryz.zeroValue3
  t4 := Tryz.underlying4
  a4 := Tryz.isAgg4
  z4 := Tryz.sizeOf4
  v4 := Tryz.zeroValue4
  t5 := Tryz.underlying5
  a5 := Tryz.isAgg5
  z5 := Tryz.sizeOf5
  v5 := Tryz.zeroValue5
  t9 := Tryz.underlying9
  a9 := Tryz.isAgg9
  z9 := Tryz.sizeOf9
  v9 := Tryz.zeroValue9
  t20 := Tryz.underlying20
  a20 := Tryz.isAgg20
  z20 := Tryz.sizeOf20
  v20 := Tryz.zeroValue20
  t37 := Tryz.underlying74
  a37 := Tryz.isAgg74
  z37 := Tryz.sizeOf74
  v37 := Tryz.zeroValue74
  t46 := Tryz.underlying238
  a46 := Tryz.isAgg238
  z46 := Tryz.sizeOf238
  v46 := Tryz.zeroValue238
  t51 := Tryz.underlying345
  a51 := Tryz.isAgg345
  z51 := Tryz.sizeOf345
  v51 := Tryz.zeroValue345
  t53 := Tryz.underlying347
  a53 := Tryz.isAgg347
  z53 := Tryz.sizeOf347
  v53 := Tryz.zeroValue347
  t171 := Tryz.underlying348
  a171 := Tryz.isAgg348
  z171 := Tryz.sizeOf348
  v171 := Tryz.zeroValue348
  t173 := Tryz.underlying350
  a173 := Tryz.isAgg350
  z173 := Tryz.sizeOf350
  v173 := Tryz.zeroValue350
  t212 := Tryz.underlying397
  a212 := Tryz.isAgg397
  z212 := Tryz.sizeOf397
  v212 := Tryz.zeroValue397
  t213 := Tryz.underlying398
  a213 := Tryz.isAgg398
  z213 := Tryz.sizeOf398
  t232 := Tryz.underlying438
  a232 := Tryz.isAgg438
  z232 := Tryz.sizeOf438
  v232 := Tryz.zeroValue438
  t233 := Tryz.underlying439
  a233 := Tryz.isAgg439
  z233 := Tryz.sizeOf439
  v233 := Tryz.zeroValue439
  g17 := by kernel_rfl
  g18 := by kernel_rfl
  g19 := by kernel_rfl
  i0 := by kernel_rfl
  i2 := by kernel_rfl
  i3 := by kernel_rfl
  i4 := by kernel_rfl
  i5 := by kernel_rfl
  i9 := by kernel_rfl
  i20 := by kernel_rfl
  i37 := by kernel_rfl
  i46 := by kernel_rfl
  i51 := by kernel_rfl
  i53 := by kernel_rfl
  i171 := by kernel_rfl
  i173 := by kernel_rfl
  i212 := by kernel_rfl
  i232 := by kernel_rfl
  i233 := by kernel_rfl
  m17 := by kernel_rfl
  m18 := by kernel_rfl
  m19 := by kernel_rfl }
def Tryz.laysDec_ren : Go.Shelf.Ren := ⟨fun | 197 => 322 | 260 => 360 | n => n, fun | 9 => 9 | 21 => 21 | 3 => 3 | 4 => 4 | 5 => 5 | 105 => 380 | 119 => 355 | 0 => 0 | 46 => 238 | 139 => 358 | 138 => 357 | n => n, fun | 3 => 1 | 4 => 2 | n => n⟩
theorem Tryz.laysDec : Go.Proofs.Lays.n197 Tryz.prog Tryz.laysDec_ren := {
  mixed := by kernel_rfl
  f197 := Tryz.func322.trans (congrArg some (by kernel_rfl))
  f260 := Tryz.func360.trans (congrArg some (by kernel_rfl))
  t0 := Tryz.underlying0
  a0 := Tryz.isAgg0
  z0 := Tryz.sizeOf0
  v0 := Tryz.zeroValue0
  t3 := Tryz.underlying3
  a3 := Tryz.isAgg3
  z3 := Tryz.sizeOf3
  v3 := Tryz.zeroValue3
  t4 := Tryz.underlying4
  a4 := Tryz.isAgg4
  z4 := Tryz.sizeOf4
  v4 := Tryz.zeroValue4
  t5 := Tryz.underlying5
  a5 := Tryz.isAgg5
  z5 := Tryz.sizeOf5
  v5 := Tryz.zeroValue5
  t9 := Tryz.underlying9
  a9 := Tryz.isAgg9
  z9 := Tryz.sizeOf9
  v9 := Tryz.zeroValue9
  t21 := Tryz.underlying21
  a21 := Tryz.isAgg21
  z21 := Tryz.sizeOf21
  v21 := Tryz.zeroValue21
  t46 := Tryz.underlying238
  a46 := Tryz.isAgg238
  z46 := Tryz.sizeOf238
  v46 := Tryz.zeroValue238
  t105 := Tryz.underlying380
  a105 := Tryz.isAgg380
  z105 := Tryz.sizeOf380
  v105 := Tryz.zeroValue380
  t119 := Tryz.underlying355
  a119 := Tryz.isAgg355
  z119 := Tryz.sizeOf355
  t138 := Tryz.underlying357
  a138 := Tryz.isAgg357
  z138 := Tryz.sizeOf357
  v138 := Tryz.zeroValue357
  t139 := Tryz.underlying358
  a139 := Tryz.isAgg358
  z139 := Tryz.sizeOf358
  v139 := Tryz.zeroValue358
  g3 := by kernel_rfl
  g4 := by kernel_rfl }
def Tryz.laysRep_ren : Go.Shelf.Ren := ⟨fun | 105 => 326 | 212 => 363 | 99 => 249 | 165 => 364 | 166 => 365 | 170 => 366 | 169 => 265 | 263 => 380 | 264 => 381 | 206 => 315 | 240 => 323 | 241 => 382 | 276 => 361 | 277 => 388 | n => n, fun | 9 => 9 | 3 => 3 | 4 => 4 | 20 => 20 | 0 => 0 | 46 => 238 | 109 => 419 | 5 => 5 | 72 => 328 | 76 => 315 | 51 => 345 | 146 => 433 | 53 => 347 | 148 => 435 | 70 => 326 | 37 => 74 | 75 => 314 | 127 => 383 | 164 => 417 | 80 => 330 | n => n, fun | n => n⟩
theorem Tryz.laysRep : Go.Proofs.Lays.n105 Tryz.prog Tryz.laysRep_ren := {
  mixed := by kernel_rfl
  f99 := Tryz.func249.trans (congrArg some (by kernel_rfl))
  f105 := Tryz.func326.trans (congrArg some (by kernel_rfl))
  f165 := Tryz.func364.trans (congrArg some (by kernel_rfl))
  f166 := Tryz.func365.trans (congrArg some (by kernel_rfl))
  f169 := Tryz.func265.trans (congrArg some (by kernel_rfl))
  f170 := Tryz.func366.trans (congrArg some (by kernel_rfl))
  f206 := Tryz.func315.trans (congrArg some (by kernel_rfl))
  f212 := Tryz.func363.trans (congrArg some (by kernel_rfl))
  f240 := Tryz.func323.trans (congrArg some (by kernel_rfl))
  f241 := Tryz.func382.trans (congrArg some (by kernel_rfl))
  f263 := Tryz.func380.trans (congrArg some (by kernel_rfl))
  f264 := Tryz.func381.trans (congrArg some (by kernel_rfl))
  f276 := Tryz.func361.trans (congrArg some (by kernel_rfl))
  f277 := Tryz.func388.trans (congrArg some (by kernel_rfl))
  t0 := Tryz.underlying0
  a0 := Tryz.isAgg0
  z0 := Tryz.sizeOf0
  v0 := Tryz.zeroValue0
  t3 := Tryz.underlying3
  a3 := Tryz.isAgg3
  z3 := Tryz.sizeOf3
  v3 := Tryz.zeroValue3
  t4 := Tryz.underlying4
  a4 := Tryz.isAgg4
  z4 := Tryz.sizeOf4
  v4 := Tryz.zeroValue4
  t5 := Tryz.underlying5
  a5 := Tryz.isAgg5
  z5 := Tryz.sizeOf5
  v5 := Tryz.zeroValue5
  t9 := Tryz.underlying9
  a9 := Tryz.isAgg9
  z9 := Tryz.sizeOf9
  v9 := Tryz.zeroValue9
  t20 := Tryz.underlying20
  a20 := Tryz.isAgg20
  z20 := Tryz.sizeOf20
  v20 := Tryz.zeroValue20
  t37 := Tryz.underlying74
  a37 := Tryz.isAgg74
  z37 := Tryz.sizeOf74
  v37 := Tryz.zeroValue74
  t46 := Tryz.underlying238
  a46 := Tryz.isAgg238
  z46 := Tryz.sizeOf238
  v46 := Tryz.zeroValue238
  t51 := Tryz.underlying345
  a51 := Tryz.isAgg345
  z51 := Tryz.sizeOf345
  v51 := Tryz.zeroValue345
  t53 := Tryz.underlying347
  a53 := Tryz.isAgg347
  z53 := Tryz.sizeOf347
  v53 := Tryz.zeroValue347
  t70 := Tryz.underlying326
  a70 := Tryz.isAgg326
  z70 := Tryz.sizeOf326
  v70 := Tryz.zeroValue326
  t72 := Tryz.underlying328
  a72 := Tryz.isAgg328
  z72 := Tryz.sizeOf328
  v72 := Tryz.zeroValue328
  t75 := Tryz.underlying314
  a75 := Tryz.isAgg314
  z75 := Tryz.sizeOf314
  v75 := Tryz.zeroValue314
  t76 := Tryz.underlying315
  a76 := Tryz.isAgg315
  z76 := Tryz.sizeOf315
  v76 := Tryz.zeroValue315
  t109 := Tryz.underlying419
  a109 := Tryz.isAgg419
  z109 := Tryz.sizeOf419
  v109 := Tryz.zeroValue419
  t127 := Tryz.underlying383
  a127 := Tryz.isAgg383
  z127 := Tryz.sizeOf383
  v127 := Tryz.zeroValue383
  t146 := Tryz.underlying433
  a146 := Tryz.isAgg433
  z146 := Tryz.sizeOf433
  v146 := Tryz.zeroValue433
  t148 := Tryz.underlying435
  a148 := Tryz.isAgg435
  z148 := Tryz.sizeOf435
  v148 := Tryz.zeroValue435
  t164 := Tryz.underlying417
  a164 := Tryz.isAgg417
  z164 := Tryz.sizeOf417
  v164 := Tryz.zeroValue417 }
def Tryz.laysBS_ren : Go.Shelf.Ren := ⟨fun | 169 => 265 | n => n, fun | 70 => 326 | 9 => 9 | 0 => 0 | 72 => 328 | 37 => 74 | 127 => 383 | 3 => 3 | 5 => 5 | n => n, fun | n => n⟩
theorem Tryz.laysBS : Go.Proofs.Lays.n169 Tryz.prog Tryz.laysBS_ren := {
  mixed := by kernel_rfl
  f169 := Tryz.func265.trans (congrArg some (by kernel_rfl))
  t0 := Tryz.underlying0
  a0 := Tryz.isAgg0
  z0 := Tryz.sizeOf0
  v0 := Tryz.zeroValue0
  t3 := Tryz.underlying3
  a3 := Tryz.isAgg3
  z3 := Tryz.sizeOf3
  v3 := Tryz.zeroValue3
  t9 := Tryz.underlying9
  a9 := Tryz.isAgg9
  z9 := Tryz.sizeOf9
  v9 := Tryz.zeroValue9
  t37 := Tryz.underlying74
  a37 := Tryz.isAgg74
  z37 := Tryz.sizeOf74
  v37 := Tryz.zeroValue74
  t70 := Tryz.underlying326
  a70 := Tryz.isAgg326
  z70 := Tryz.sizeOf326
  v70 := Tryz.zeroValue326
  t72 := Tryz.underlying328
  a72 := Tryz.isAgg328
  z72 := Tryz.sizeOf328
  v72 := Tryz.zeroValue328
  t127 := Tryz.underlying383
  a127 := Tryz.isAgg383
  z127 := Tryz.sizeOf383
  v127 := Tryz.zeroValue383 }
def Tryz.laysAtoi_ren : Go.Shelf.Ren := ⟨fun | 172 => 251 | 244 => 317 | 245 => 318 | 247 => 354 | 279 => 355 | 280 => 356 | 281 => 357 | 282 => 358 | 287 => 377 | 316 => 378 | 171 => 99 | 205 => 379 | 321 => 386 | 322 => 387 | 243 => 145 | 246 => 207 | 283 => 283 | 284 => 284 | 285 => 285 | 286 => 286 | 129 => 282 | 317 => 335 | 318 => 336 | 319 => 337 | 320 => 338 | 337 => 371 | 338 => 372 | n => n, fun | 9 => 9 | 3 => 3 | 75 => 314 | 76 => 315 | 4 => 4 | 5 => 5 | 167 => 411 | 37 => 74 | 0 => 0 | 85 => 412 | 2 => 2 | 168 => 414 | 53 => 347 | 175 => 428 | 46 => 238 | 210 => 431 | 127 => 383 | 145 => 444 | 143 => 442 | 21 => 21 | 171 => 348 | 173 => 350 | 212 => 397 | 51 => 345 | 20 => 20 | 213 => 398 | 232 => 438 | 233 => 439 | 80 => 330 | n => n, fun | 15 => 4 | 16 => 5 | 17 => 3 | 18 => 6 | 19 => 7 | n => n⟩
theorem Tryz.laysAtoi : Go.Proofs.LaysC.n172 Tryz.prog Tryz.laysAtoi_ren := {
  mixed := by kernel_rfl
  f129 := Tryz.func282.trans (congrArg some (by kernel_rfl))
  f171 := Tryz.func99.trans (congrArg some (by kernel_rfl))
  f172 := Tryz.func251.trans (congrArg some (by kernel_rfl))
  f205 := Tryz.func379.trans (congrArg some (by kernel_rfl))
  f243 := Tryz.func145.trans (congrArg some (by kernel_rfl))
  f244 := Tryz.func317.trans (congrArg some (by kernel_rfl))
  f245 := Tryz.func318.trans (congrArg some (by kernel_rfl))
  f246 := Tryz.func207.trans (congrArg some (by kernel_rfl))
  f247 := Tryz.func354.trans (congrArg some (by kernel_rfl))
  f279 := Tryz.func355.trans (congrArg some (by kernel_rfl))
  f280 := Tryz.func356.trans (congrArg some (by kernel_rfl))
  f281 := Tryz.func357.trans (congrArg some (by kernel_rfl))
  f282 := Tryz.func358.trans (congrArg some (by kernel_rfl))
  f283 := Tryz.func283.trans (congrArg some (by kernel_rfl))
  f284 := Tryz.func284.trans (congrArg some (by kernel_rfl))
  f285 := Tryz.func285.trans (congrArg some (by kernel_rfl))
  f286 := Tryz.func286.trans (congrArg some (by kernel_rfl))
  f287 := Tryz.func377.trans (congrArg some (by kernel_rfl))
  f316 := Tryz.func378.trans (congrArg some (by kernel_rfl))
  f317 := Tryz.func335.trans (congrArg some (by kernel_rfl))
  f318 := Tryz.func336.trans (congrArg some (by kernel_rfl))
  f319 := Tryz.func337.trans (congrArg some (by kernel_rfl))
  f320 := Tryz.func338.trans (congrArg some (by kernel_rfl))
  f321 := Tryz.func386.trans (congrArg some (by kernel_rfl))
  f322 := Tryz.func387.trans (congrArg some (by kernel_rfl))
  f337 := Tryz.func371.trans (congrArg some (by kernel_rfl))
  f338 := Tryz.func372.trans (congrArg some (by kernel_rfl))
  t0 := Tryz.underlying0
  a0 := Tryz.isAgg0
  z0 := Tryz.sizeOf0
  v0 := Tryz.zeroValue0
  t2 := Tryz.underlying2
  a2 := Tryz.isAgg2
  z2 := Tryz.sizeOf2
  v2 := Tryz.zeroValue2
  t3 := Tryz.underlying3
  a3 := Tryz.isAgg3
  z3 := Tryz.sizeOf3
  v3 := Tryz.zeroValue3
  t4 := Tryz.underlying4
  a4 := Tryz.isAgg4
  z4 := Tryz.sizeOf4
  v4 := Tryz.zeroValue4
  t5 := Tryz.underlying5
  a5 := Tryz.isAgg5
  z5 := Tryz.sizeOf5
  v5 := Tryz.zeroValue5
  t9 := Tryz.underlying9
  a9 := Tryz.isAgg9
  z9 := Tryz.sizeOf9
  v9 := Tryz.zeroValue9
  t20 := Tryz.underlying20
  a20 := Tryz.isAgg20
  z20 := Tryz.sizeOf20
  v20 := Tryz.zeroValue20
  t21 := Tryz.underlying21
  a21 := Tryz.isAgg21
  z21 := Tryz.sizeOf21
  v21 := Tryz.zeroValue21
  t37 := Tryz.underlying74
  a37 := Tryz.isAgg74
  z37 := Tryz.sizeOf74
  v37 := Tryz.zeroValue74
  t46 := Tryz.underlying238
  a46 := Tryz.isAgg238
  z46 := Tryz.sizeOf238
  v46 := Tryz.zeroValue238
  t51 := Tryz.underlying345
  a51 := Tryz.isAgg345
  z51 := Tryz.sizeOf345
  v51 := Tryz.zeroValue345
  t53 := Tryz.underlying347
  a53 := Tryz.isAgg347
  z53 := Tryz.sizeOf347
  v53 := Tryz.zeroValue347
  t75 := Tryz.underlying314
  a75 := Tryz.isAgg314
  z75 := Tryz.sizeOf314
  v75 := Tryz.zeroValue314
  t76 := Tryz.underlying315
  a76 := Tryz.isAgg315
  z76 := Tryz.sizeOf315
  v76 := Tryz.zeroValue315
  t85 := Tryz.underlying412
  a85 := Tryz.isAgg412
  z85 := Tryz.sizeOf412
  v85 := Tryz.zeroValue412
  t127 := Tryz.underlying383
  a127 := Tryz.isAgg383
  z127 := Tryz.sizeOf383
  v127 := Tryz.zeroValue383
  t143 := Tryz.underlying442
  a143 := Tryz.isAgg442
  z143 := Tryz.sizeOf442
  v143 := Tryz.zeroValue442
  t145 := Tryz.underlying444
  a145 := Tryz.isAgg444
  z145 := Tryz.sizeOf444
  v145 := Tryz.zeroValue444
  t167 := Tryz.underlying411
  a167 := Tryz.isAgg411
  z167 := Tryz.sizeOf411
  v167 := Tryz.zeroValue411
  t168 := Tryz.underlying414
  a168 := Tryz.isAgg414
  z168 := Tryz.sizeOf414
  v168 := Tryz.zeroValue414
  t171 := Tryz.underlying348
  a171 := Tryz.isAgg348
  z171 := Tryz.sizeOf348
  v171 := Tryz.zeroValue348
  t173 := Tryz.underlying350
  a173 := Tryz.isAgg350
  z173 := Tryz.sizeOf350
  v173 := Tryz.zeroValue350
  t175 := Tryz.underlying428
  a175 := Tryz.isAgg428
  z175 := Tryz.sizeOf428
  v175 := Tryz.zeroValue428
  t210 := Tryz.underlying431
  a210 := Tryz.isAgg431
  z210 := Tryz.sizeOf431
  v210 := Tryz.zeroValue431
  t212 := Tryz.underlying397
  a212 := Tryz.isAgg397
  z212 := Tryz.sizeOf397
  v212 := Tryz.zeroValue397
  t213 := Tryz.underlying398
  a213 := Tryz.isAgg398
  z213 := Tryz.sizeOf398
  t232 := Tryz.underlying438
  a232 := Tryz.isAgg438
  z232 := Tryz.sizeOf438
  v232 := Tryz.zeroValue438
  t233 := Tryz.underlying439
  a233 := Tryz.isAgg439
  z233 := Tryz.sizeOf439
  v233 := Tryz.zeroValue439
  g15 := by kernel_rfl
  g16 := by kernel_rfl
  g17 := by kernel_rfl
  g18 := by kernel_rfl
  g19 := by kernel_rfl
  t80 := Tryz.underlying330
  a80 := Tryz.isAgg330
  z80 := Tryz.sizeOf330
  v80 := Tryz.zeroValue330
  i0 := by kernel_rfl
  i2 := by kernel_rfl
  i3 := by kernel_rfl
  i4 := by kernel_rfl
  i5 := by kernel_rfl
  i9 := by kernel_rfl
  i20 := by kernel_rfl
  i21 := by kernel_rfl
  i37 := by kernel_rfl
  i46 := by kernel_rfl
  i51 := by kernel_rfl
  i53 := by kernel_rfl
  i75 := by kernel_rfl
  i76 := by kernel_rfl
  i80 := by kernel_rfl
  i85 := by kernel_rfl
  i127 := by kernel_rfl
  i143 := by kernel_rfl
  i145 := by kernel_rfl
  i167 := by kernel_rfl
  i168 := by kernel_rfl
  i171 := by kernel_rfl
  i173 := by kernel_rfl
  i175 := by kernel_rfl
  i210 := by kernel_rfl
  i212 := by kernel_rfl
  i232 := by kernel_rfl
  i233 := by kernel_rfl
  m15 := by kernel_rfl
  m16 := by kernel_rfl
  m17 := by kernel_rfl
  m18 := by kernel_rfl
  m19 := by kernel_rfl
  c0 := by kernel_rfl
  c2 := by kernel_rfl
  c3 := by kernel_rfl
  c4 := by kernel_rfl
  c5 := by kernel_rfl
  c9 := by kernel_rfl
  c20 := by kernel_rfl
  c21 := by kernel_rfl
  c37 := by kernel_rfl
  c46 := by kernel_rfl
  c51 := by kernel_rfl
  c53 := by kernel_rfl
  c75 := by kernel_rfl
  c76 := by kernel_rfl
  c80 := by kernel_rfl
  c85 := by kernel_rfl
  c127 := by kernel_rfl
  c143 := by kernel_rfl
  c145 := by kernel_rfl
  c167 := by kernel_rfl
  c168 := by kernel_rfl
  c171 := by kernel_rfl
  c173 := by kernel_rfl
  c175 := by kernel_rfl
  c210 := by kernel_rfl
  c212 := by kernel_rfl
  c213 := by kernel_rfl
  c232 := by kernel_rfl
  c233 := by kernel_rfl }
def Tryz.laysWR_ren : Go.Shelf.Ren := ⟨fun | 168 => 264 | 240 => 323 | 242 => 324 | 276 => 361 | 278 => 362 | n => n, fun | 70 => 326 | 21 => 21 | 3 => 3 | 75 => 314 | 0 => 0 | 72 => 328 | 37 => 74 | 4 => 4 | 164 => 417 | 51 => 345 | 5 => 5 | 46 => 238 | 80 => 330 | 9 => 9 | n => n, fun | n => n⟩
theorem Tryz.laysWR : Go.Proofs.Lays.n168 Tryz.prog Tryz.laysWR_ren := {
  mixed := by kernel_rfl
  f168 := Tryz.func264.trans (congrArg some (by kernel_rfl))
  f240 := Tryz.func323.trans (congrArg some (by kernel_rfl))
  f242 := Tryz.func324.trans (congrArg some (by kernel_rfl))
  f276 := Tryz.func361.trans (congrArg some (by kernel_rfl))
  f278 := Tryz.func362.trans (congrArg some (by kernel_rfl))
  t0 := Tryz.underlying0
  a0 := Tryz.isAgg0
  z0 := Tryz.sizeOf0
  v0 := Tryz.zeroValue0
  t3 := Tryz.underlying3
  a3 := Tryz.isAgg3
  z3 := Tryz.sizeOf3
  v3 := Tryz.zeroValue3
  t4 := Tryz.underlying4
  a4 := Tryz.isAgg4
  z4 := Tryz.sizeOf4
  v4 := Tryz.zeroValue4
  t5 := Tryz.underlying5
  a5 := Tryz.isAgg5
  z5 := Tryz.sizeOf5
  v5 := Tryz.zeroValue5
  t9 := Tryz.underlying9
  a9 := Tryz.isAgg9
  z9 := Tryz.sizeOf9
  v9 := Tryz.zeroValue9
  t20 := Tryz.underlying20
  a20 := Tryz.isAgg20
  z20 := Tryz.sizeOf20
  v20 := Tryz.zeroValue20
  t21 := Tryz.underlying21
  a21 := Tryz.isAgg21
  z21 := Tryz.sizeOf21
  v21 := Tryz.zeroValue21
  t37 := Tryz.underlying74
  a37 := Tryz.isAgg74
  z37 := Tryz.sizeOf74
  v37 := Tryz.zeroValue74
  t46 := Tryz.underlying238
  a46 := Tryz.isAgg238
  z46 := Tryz.sizeOf238
  v46 := Tryz.zeroValue238
  t51 := Tryz.underlying345
  a51 := Tryz.isAgg345
  z51 := Tryz.sizeOf345
  v51 := Tryz.zeroValue345
  t70 := Tryz.underlying326
  a70 := Tryz.isAgg326
  z70 := Tryz.sizeOf326
  v70 := Tryz.zeroValue326
  t72 := Tryz.underlying328
  a72 := Tryz.isAgg328
  z72 := Tryz.sizeOf328
  v72 := Tryz.zeroValue328
  t75 := Tryz.underlying314
  a75 := Tryz.isAgg314
  z75 := Tryz.sizeOf314
  v75 := Tryz.zeroValue314
  t164 := Tryz.underlying417
  a164 := Tryz.isAgg417
  z164 := Tryz.sizeOf417
  v164 := Tryz.zeroValue417 }
def Tryz.laysIdx_ren : Go.Shelf.Ren := ⟨fun | 219 => 353 | 217 => 375 | 225 => 352 | 224 => 351 | 267 => 376 | 266 => 384 | 314 => 385 | n => n, fun | 9 => 9 | 3 => 3 | 4 => 4 | 5 => 5 | 46 => 238 | 146 => 433 | 51 => 345 | n => n, fun | 1 => 0 | n => n⟩
theorem Tryz.laysIdx : Go.Proofs.Lays.n219 Tryz.prog Tryz.laysIdx_ren := {
  mixed := by kernel_rfl
  f217 := Tryz.func375.trans (congrArg some (by kernel_rfl))
  f219 := Tryz.func353.trans (congrArg some (by kernel_rfl))
  f224 := Tryz.func351.trans (congrArg some (by kernel_rfl))
  f225 := Tryz.func352.trans (congrArg some (by kernel_rfl))
  f266 := Tryz.func384.trans (congrArg some (by kernel_rfl))
  f267 := Tryz.func376.trans (congrArg some (by kernel_rfl))
  f314 := Tryz.func385.trans (congrArg some (by kernel_rfl))
  t3 := Tryz.underlying3
  a3 := Tryz.isAgg3
  z3 := Tryz.sizeOf3
  v3 := Tryz.zeroValue3
  t4 := Tryz.underlying4
  a4 := Tryz.isAgg4
  z4 := Tryz.sizeOf4
  v4 := Tryz.zeroValue4
  t5 := Tryz.underlying5
  a5 := Tryz.isAgg5
  z5 := Tryz.sizeOf5
  v5 := Tryz.zeroValue5
  t9 := Tryz.underlying9
  a9 := Tryz.isAgg9
  z9 := Tryz.sizeOf9
  v9 := Tryz.zeroValue9
  t46 := Tryz.underlying238
  a46 := Tryz.isAgg238
  z46 := Tryz.sizeOf238
  v46 := Tryz.zeroValue238
  t51 := Tryz.underlying345
  a51 := Tryz.isAgg345
  z51 := Tryz.sizeOf345
  v51 := Tryz.zeroValue345
  t146 := Tryz.underlying433
  a146 := Tryz.isAgg433
  z146 := Tryz.sizeOf433
  v146 := Tryz.zeroValue433
  g1 := by kernel_rfl }
def Tryz.laysAny_ren : Go.Shelf.Ren := ⟨fun | 153 => 248 | 152 => 311 | 226 => 312 | 227 => 313 | 228 => 314 | 137 => 349 | 119 => 350 | 224 => 351 | 225 => 352 | 217 => 375 | 266 => 384 | n => n, fun | 9 => 9 | 3 => 3 | 4 => 4 | 5 => 5 | 21 => 21 | 117 => 375 | 116 => 374 | 0 => 0 | 46 => 238 | 124 => 410 | n => n, fun | n => n⟩
theorem Tryz.laysAny : Go.Proofs.Lays.n153 Tryz.prog Tryz.laysAny_ren := {
  mixed := by kernel_rfl
  f119 := Tryz.func350.trans (congrArg some (by kernel_rfl))
  f137 := Tryz.func349.trans (congrArg some (by kernel_rfl))
  f152 := Tryz.func311.trans (congrArg some (by kernel_rfl))
  f153 := Tryz.func248.trans (congrArg some (by kernel_rfl))
  f217 := Tryz.func375.trans (congrArg some (by kernel_rfl))
  f224 := Tryz.func351.trans (congrArg some (by kernel_rfl))
  f225 := Tryz.func352.trans (congrArg some (by kernel_rfl))
  f226 := Tryz.func312.trans (congrArg some (by kernel_rfl))
  f227 := Tryz.func313.trans (congrArg some (by kernel_rfl))
  f228 := Tryz.func314.trans (congrArg some (by kernel_rfl))
  f266 := Tryz.func384.trans (congrArg some (by kernel_rfl))
  t0 := Tryz.underlying0
  a0 := Tryz.isAgg0
  z0 := Tryz.sizeOf0
  v0 := Tryz.zeroValue0
  t3 := Tryz.underlying3
  a3 := Tryz.isAgg3
  z3 := Tryz.sizeOf3
  v3 := Tryz.zeroValue3
  t4 := Tryz.underlying4
  a4 := Tryz.isAgg4
  z4 := Tryz.sizeOf4
  v4 := Tryz.zeroValue4
  t5 := Tryz.underlying5
  a5 := Tryz.isAgg5
  z5 := Tryz.sizeOf5
  v5 := Tryz.zeroValue5
  t9 := Tryz.underlying9
  a9 := Tryz.isAgg9
  z9 := Tryz.sizeOf9
  v9 := Tryz.zeroValue9
  t21 := Tryz.underlying21
  a21 := Tryz.isAgg21
  z21 := Tryz.sizeOf21
  v21 := Tryz.zeroValue21
  t46 := Tryz.underlying238
  a46 := Tryz.isAgg238
  z46 := Tryz.sizeOf238
  v46 := Tryz.zeroValue238
  t116 := Tryz.underlying374
  a116 := Tryz.isAgg374
  z116 := Tryz.sizeOf374
  t117 := Tryz.underlying375
  a117 := Tryz.isAgg375
  z117 := Tryz.sizeOf375
  v117 := Tryz.zeroValue375
  t124 := Tryz.underlying410
  a124 := Tryz.isAgg410
  z124 := Tryz.sizeOf410
  v124 := Tryz.zeroValue410 }
end Go.Proofs

/- Itoa: the worked proof of the kit, turned to what is known of the table's cells alone. -/
namespace Go.Proofs
open Go.Shelf Go.RowKit Go.Sort Go.Lib
variable {P : Program} {ρ : Ren}
/-- The powers of ten lie in the cells of the variable with this number. -/
def PowIs (g : Nat) (w : World) : Prop := ∀ i, i < 20 → w.cell? ⟨g, i, none⟩ = some (.int .u64 ((10 ^ i : Nat) : Int))
theorem PowIs.alloc {g : Nat} {w : World} (h : PowIs g w) (o : Obj) : PowIs g (w.alloc o) := fun i hi => by
  have := h i hi
  have hne : g ≠ w.heap.size := fun e => by
    simp_all[World.cell?]
  unfold World.cell? at this ⊢
  unfold World.alloc<;>simp_all[Array.getElem?_push]
set_option maxHeartbeats 2000000 in
set_option maxRecDepth 100000 in
/-- internal/strconv.numDigits, at a d that is not 0: THE NUMBER OF d's DECIMAL DIGITS. The world is as it was. -/
theorem AnyC.internal_strconv_numDigits (L : LaysM.n284 P ρ) (u : Nat) (h1 : 1 ≤ u) (h2 : u < 18446744073709551616) (w : World)
    (htab : PowIs (ρ.g 17) w) :
    Calls P (ρ.f 284) #[.int .u64 u] w fun e w' => e = .returned (.int .i64 (Lib.nDigits u)) ∧ w' = w := by
  have mixed := L.mixed
  have t53 := L.t53; have a53 := L.a53; have z53 := L.z53; have v53 := L.v53
  have t3 := L.t3; have a3 := L.a3; have z3 := L.z3; have v3 := L.v3
  have t212 := L.t212; have a212 := L.a212; have z212 := L.z212; have v212 := L.v212
  have t0 := L.t0; have a0 := L.a0; have z0 := L.z0; have v0 := L.v0
  have t4 := L.t4; have a4 := L.a4; have z4 := L.z4; have v4 := L.v4
  have e129 : ∀ args w, (callFunc (ρ.f 129) args).run P w = .ok (.enter (ρ.f 129) args) w := enters_of L.f129 (by kernel_rfl) rfl
  have e317 : ∀ args w, (callFunc (ρ.f 317) args).run P w = .ok (.enter (ρ.f 317) args) w := enters_of L.f317 (by kernel_rfl) rfl
  have e318 : ∀ args w, (callFunc (ρ.f 318) args).run P w = .ok (.enter (ρ.f 318) args) w := enters_of L.f318 (by kernel_rfl) rfl
  obtain ⟨hnd, h19⟩ := Lib.numDigits_eq u h1 h2
  have hL := Lib.bitLen_le u 64 (Nat.le_refl _) h2
  have hcell : w.cell? ⟨(ρ.g 17), Lib.l10 (Lib.bitLen u), none⟩ = some (.int .u64 ((10 ^ Lib.l10 (Lib.bitLen u) : Nat) : Int)) := by
    exact htab _ (by omega)
  have hto : ((u : Int)).toNat = u := by omega
  -- the two numbers under names (the equations stay: by them the walk writes the names in)
  generalize hq : Lib.l10 (Lib.bitLen u) = q at hnd h19 hcell
  generalize hT : 10 ^ q = T at hnd hcell
  have h20 : q < 20 := by omega
  have Hnd := Lib.hid hnd
  clear hnd htab
  go_enter L.f284, Body.n284_ntmps ρ
  go_wp2_with (first
    | (go_at_fn (ρ.f 129); refine (Any.bits_Len64 { L with } _ _ (by omega) (by omega)).mono ?_; rintro e w' ⟨rfl, rfl⟩)
    | (go_at_fn (ρ.f 317); refine (Any.internal_strconv_log10Pow2 { L with } _ (by grind) _).mono ?_; rintro e w' ⟨rfl, rfl⟩)
    | (go_at_fn (ρ.f 318); refine (Any.internal_strconv_bool2_int { L with } _ _).mono ?_; rintro e w' ⟨rfl, rfl⟩))
  all_goals go_ret
  all_goals (
    refine ⟨?_, rfl⟩
    have hnd := Hnd.out
    congr 2
    split at hnd <;> simp_all <;> omega)


set_option maxHeartbeats 6400000 in
set_option maxRecDepth 100000 in
/-- internal/strconv.FormatInt: "FormatInt returns the string representation of i in the given base": AT BASE 10: i's decimal numeral, for every int64. The world behind the call: the world before it, new blocks behind the heap, draws. -/
theorem AnyC.internal_strconv_FormatInt_10 (L : LaysM.n246 P ρ) (n : Int) (h0 : -9223372036854775808 ≤ n) (h1 : n ≤ 9223372036854775807) (w : World)
    (htab : PowIs (ρ.g 17) w) :
    Calls P (ρ.f 246) #[.int .i64 n, .int .i64 10] w fun e w' => e = .returned (.string ⟨(Lib.itoa n).toArray⟩) ∧ ∃ k os, w' = grow (w.drewN k) os := by
  have mixed := L.mixed
  have t2 := L.t2; have a2 := L.a2; have z2 := L.z2; have v2 := L.v2
  have t3 := L.t3; have a3 := L.a3; have z3 := L.z3; have v3 := L.v3
  have t9 := L.t9; have a9 := L.a9; have z9 := L.z9; have v9 := L.v9
  have t4 := L.t4; have a4 := L.a4; have z4 := L.z4; have v4 := L.v4
  have t171 := L.t171; have a171 := L.a171; have z171 := L.z171; have v171 := L.v171
  have t0 := L.t0; have a0 := L.a0; have z0 := L.z0; have v0 := L.v0
  have t53 := L.t53; have a53 := L.a53; have z53 := L.z53; have v53 := L.v53
  have t37 := L.t37; have a37 := L.a37; have z37 := L.z37; have v37 := L.v37
  have t5 := L.t5; have a5 := L.a5; have z5 := L.z5; have v5 := L.v5
  have t173 := L.t173; have a173 := L.a173; have z173 := L.z173; have v173 := L.v173
  have e283 : ∀ args w, (callFunc (ρ.f 283) args).run P w = .ok (.enter (ρ.f 283) args) w := enters_of L.f283 (by kernel_rfl) rfl
  have e284 : ∀ args w, (callFunc (ρ.f 284) args).run P w = .ok (.enter (ρ.f 284) args) w := enters_of L.f284 (by kernel_rfl) rfl
  have e285 : ∀ args w, (callFunc (ρ.f 285) args).run P w = .ok (.enter (ρ.f 285) args) w := enters_of L.f285 (by kernel_rfl) rfl
  by_cases hs : 0 ≤ n ∧ n < 100
  · -- 0 .. 99: two constants
    obtain ⟨i, rfl⟩ : ∃ i : Nat, n = i := ⟨n.toNat, by omega⟩
    have hi : i < 100 := by omega
    go_enter L.f246, Body.n246_ntmps ρ
    go_wp2_with (go_at_fn (ρ.f 283); refine (Any.internal_strconv_small { L with } i hi _).mono ?_; rintro e w' ⟨rfl, rfl⟩)
    go_ret
    refine ⟨?_, 0, #[], by simp [World.drewN_zero]⟩
    rw [Lib.itoa_nonneg]
    rfl
  · by_cases hneg : n < 0
    · obtain ⟨u, rfl⟩ : ∃ u : Nat, n = -(u : Int) := ⟨n.natAbs, by omega⟩
      have hu1 : 1 ≤ u := by omega
      have hu64 : u < 18446744073709551616 := by omega
      have hnd20 : Lib.nDigits u ≤ 20 := by have := Lib.numDigits_eq u hu1 hu64; split at this <;> omega
      -- 'u := uint64(i); u = -u', for the walk to take
      have hwr : IntKind.u64.wrap (-IntKind.u64.wrap (-(u : Int))) = (u : Int) := by rw [IntKind.wrap_u64, IntKind.wrap_u64]; omega
      have hb3 : Lib.nDigits u ≤ 23 := by omega
      have hal : P.arrayLen (ρ.t 171) = 24 := by simp [Program.arrayLen, L.t171]
      -- 'a[1 : 1+nd]', for the walk to take
      have hsl1 : ∀ W, (Instr.sliceAt (ρ.t 171) (.pointer (some ⟨w.heap.size, 0, none⟩)) (some (.int .i64 1)) (some (.int .i64 (1 + (Lib.nDigits u : Int)))) none).run P W = .ok (.slice (some ⟨w.heap.size, 1, none⟩) (Lib.nDigits u) 23) W := fun W => by
        rw [run_sliceAt_array_lh W (ρ.t 171) ⟨w.heap.size, 0, none⟩ (by grind[Program.elem]) .i64 .i64 1 (1 + (Lib.nDigits u : Int)) (by omega) (by omega) (by grind)]
        go_simp
        omega
      -- formatBase10's contract at the new block's row of zeros
      have hH0 := Lib.holds_zero w (ρ.t 171) (Lib.nDigits u) (by omega)
      have hfmt := Any.internal_strconv_formatBase10 { L with } w.heap.size 1 23 u (Array.replicate (Lib.nDigits u) 0) (w.alloc (.cells Lib.zeros24 (ρ.t 171))) hH0 (by grind[Lib.lt_pow_nDigits]) hu64 (by grind)
      rw [Array.size_replicate] at hfmt
      have HH0 := Lib.hid hH0
      clear hH0 hal
      go_enter L.f246, Body.n246_ntmps ρ
      go_wp2_with (first
        | (go_at_fn (ρ.f 284); refine (AnyC.internal_strconv_numDigits { L with } u hu1 hu64 _ (htab.alloc _)).mono ?_; rintro e w' ⟨rfl, rfl⟩))
      go_at_fn (ρ.f 285)
      refine hfmt.mono ?_
      rintro e w' ⟨rfl, k, v', dk, rfl, hF⟩
      -- 'a[0] = '-'': its cell, in the world behind formatBase10
      have hc0 : ((putRow (fun (b : UInt8) => Value.int .u8 (b.toNat : Int)) (w.alloc (.cells Lib.zeros24 (ρ.t 171))) w.heap.size 1 dk).drewN k).cell? ⟨w.heap.size, 0, none⟩ = some (.int .u8 0) := by
        rw [World.cell?_drewN, cell?_putRow_other _ _ _ _ _ _ (Or.inr (Or.inl (Nat.zero_lt_one))), World.cell?_alloc_new]
        exact Lib.zeros24_at 0 (by omega)
      have hf0 : ((putRow (fun (b : UInt8) => Value.int .u8 (b.toNat : Int)) (w.alloc (.cells Lib.zeros24 (ρ.t 171))) w.heap.size 1 dk).drewN k).frozen? ⟨w.heap.size, 0, none⟩ = false := by
        rw [World.frozen?_drewN, frozen?_putRow]
        exact World.frozen?_alloc_new _ _ _ _
      -- 'a[: 1+nd]', for the walk to take
      have hal : P.arrayLen (ρ.t 171) = 24 := by simp [Program.arrayLen, L.t171]
      have hsl2 : ∀ W, (Instr.sliceAt (ρ.t 171) (.pointer (some ⟨w.heap.size, 0, none⟩)) none (some (.int .i64 (1 + (Lib.nDigits u : Int)))) none).run P W = .ok (.slice (some ⟨w.heap.size, 0, none⟩) (1 + Lib.nDigits u) 24) W := fun W => by
        rw [run_sliceAt_array_h W (ρ.t 171) ⟨w.heap.size, 0, none⟩ (by simp_all[Program.elem]) .i64 (1 + (Lib.nDigits u : Int)) (by omega) (by omega)]
        go_simp
        omega
      clear hal
      -- 'string(a[: 1+nd])', for the walk to take: '-', then the numeral
      have hcv : (convert (ρ.t 37) (ρ.t 9) (.slice (some ⟨w.heap.size, 0, none⟩) (1 + Lib.nDigits u) 24)).run P (((putRow (fun (b : UInt8) => Value.int .u8 (b.toNat : Int)) (w.alloc (.cells Lib.zeros24 (ρ.t 171))) w.heap.size 1 dk).drewN k).setCell ⟨w.heap.size, 0, none⟩ (.int .u8 45)) = .ok (.string ⟨(45 :: Lib.decDigits u).toArray⟩) (((putRow (fun (b : UInt8) => Value.int .u8 (b.toNat : Int)) (w.alloc (.cells Lib.zeros24 (ρ.t 171))) w.heap.size 1 dk).drewN k).setCell ⟨w.heap.size, 0, none⟩ (.int .u8 45)) := by
        have h := run_convert_bytes_back (P := P) (((putRow (fun (b : UInt8) => Value.int .u8 (b.toNat : Int)) (w.alloc (.cells Lib.zeros24 (ρ.t 171))) w.heap.size 1 dk).drewN k).setCell ⟨w.heap.size, 0, none⟩ (.int .u8 45)) (ρ.t 37) (ρ.t 9) (ρ.t 5) ⟨w.heap.size, 0, none⟩ 24 (45 :: Lib.decDigits u) L.t37 L.t5 L.t9 (fun j hj => by
          rw [Lib.add_plain]
          cases j with
          | zero => simp_all[World.cell?_setCell_same]
          | succ i =>
            have hi : i < (Lib.decDigits u).length := by simpa using hj
            rw [World.cell?_setCell_other _ _ _ _ (by simp), List.getElem_cons_succ, Lib.row_is_numeral hF i hi, World.cell?_drewN, show 0 + (i + 1) = 1 + i by omega]
            exact cell?_putRow (fun (b : UInt8) => Value.int .u8 (b.toNat : Int)) _ w.heap.size 1 _ dk HH0.out (by rw [hF.size, Array.size_replicate]) i (by rw [hF.size]<;>simp_all[Lib.decDigits_length]))
        rw [List.length_cons, Lib.decDigits_length, Nat.add_comm] at h
        exact h
      go_wp2
      go_ret
      obtain ⟨os, eo⟩ := Lib.fin_neg w (.cells Lib.zeros24 (ρ.t 171)) dk k (.int .u8 45)
      refine ⟨?_, k, os, eo⟩
      rw [Lib.itoa_neg u hu1]
      rfl
    · obtain ⟨u, rfl⟩ : ∃ u : Nat, n = u := ⟨n.toNat, by omega⟩
      have hu1 : 1 ≤ u := by omega
      have hu64 : u < 18446744073709551616 := by omega
      have hnd20 : Lib.nDigits u ≤ 20 := by have := Lib.numDigits_eq u hu1 hu64; split at this <;> omega
      have hb3 : Lib.nDigits u ≤ 23 := by omega
      have hal : P.arrayLen (ρ.t 171) = 24 := by simp [Program.arrayLen, L.t171]
      -- 'a[1 : 1+nd]', for the walk to take
      have hsl1 : ∀ W, (Instr.sliceAt (ρ.t 171) (.pointer (some ⟨w.heap.size, 0, none⟩)) (some (.int .i64 1)) (some (.int .i64 (1 + (Lib.nDigits u : Int)))) none).run P W = .ok (.slice (some ⟨w.heap.size, 1, none⟩) (Lib.nDigits u) 23) W := fun W => by
        rw [run_sliceAt_array_lh W (ρ.t 171) ⟨w.heap.size, 0, none⟩ (by grind[Program.elem]) .i64 .i64 1 (1 + (Lib.nDigits u : Int)) (by omega) (by omega) (by grind)]
        go_simp
        omega
      -- formatBase10's contract at the new block's row of zeros
      have hH0 := Lib.holds_zero w (ρ.t 171) (Lib.nDigits u) (by omega)
      have hfmt := Any.internal_strconv_formatBase10 { L with } w.heap.size 1 23 u (Array.replicate (Lib.nDigits u) 0) (w.alloc (.cells Lib.zeros24 (ρ.t 171))) hH0 (by grind[Lib.lt_pow_nDigits]) hu64 (by grind)
      rw [Array.size_replicate] at hfmt
      have HH0 := Lib.hid hH0
      clear hH0 hal
      go_enter L.f246, Body.n246_ntmps ρ
      go_wp2_with (first
        | (go_at_fn (ρ.f 284); refine (AnyC.internal_strconv_numDigits { L with } u hu1 hu64 _ (htab.alloc _)).mono ?_; rintro e w' ⟨rfl, rfl⟩))
      go_at_fn (ρ.f 285)
      refine hfmt.mono ?_
      rintro e w' ⟨rfl, k, v', dk, rfl, hF⟩
      -- 'string(a[1 : 1+nd])', for the walk to take: the row reads as the numeral
      have hcv : (convert (ρ.t 37) (ρ.t 9) (.slice (some ⟨w.heap.size, 1, none⟩) (Lib.nDigits u) 23)).run P ((putRow (fun (b : UInt8) => Value.int .u8 (b.toNat : Int)) (w.alloc (.cells Lib.zeros24 (ρ.t 171))) w.heap.size 1 dk).drewN k) = .ok (.string ⟨(Lib.decDigits u).toArray⟩) ((putRow (fun (b : UInt8) => Value.int .u8 (b.toNat : Int)) (w.alloc (.cells Lib.zeros24 (ρ.t 171))) w.heap.size 1 dk).drewN k) := by
        have h := run_convert_bytes_back (P := P) ((putRow (fun (b : UInt8) => Value.int .u8 (b.toNat : Int)) (w.alloc (.cells Lib.zeros24 (ρ.t 171))) w.heap.size 1 dk).drewN k) (ρ.t 37) (ρ.t 9) (ρ.t 5) ⟨w.heap.size, 1, none⟩ 23 (Lib.decDigits u) L.t37 L.t5 L.t9 (fun j hj => by
          rw [Lib.row_is_numeral hF j hj, Lib.add_plain, World.cell?_drewN]
          exact cell?_putRow (fun (b : UInt8) => Value.int .u8 (b.toNat : Int)) _ w.heap.size 1 _ dk HH0.out (by rw [hF.size, Array.size_replicate]) j (by rw [hF.size]<;>simp_all[Lib.decDigits_length]))
        rw [Lib.decDigits_length] at h
        exact h
      go_wp2
      go_ret
      obtain ⟨os, eo⟩ := Lib.fin_pos w (.cells Lib.zeros24 (ρ.t 171)) dk k
      refine ⟨?_, k, os, eo⟩
      rw [Lib.itoa_nonneg]
      rfl

set_option maxRecDepth 100000 in
/-- internal/strconv.Itoa: "Itoa is equivalent to FormatInt(int64(i), 10).": i's decimal numeral, for every int. -/
theorem AnyC.internal_strconv_Itoa (L : LaysM.n243 P ρ) (n : Int) (h0 : -9223372036854775808 ≤ n) (h1 : n ≤ 9223372036854775807) (w : World)
    (htab : PowIs (ρ.g 17) w) :
    Calls P (ρ.f 243) #[.int .i64 n] w fun e w' => e = .returned (.string ⟨(Lib.itoa n).toArray⟩) ∧ ∃ k os, w' = grow (w.drewN k) os := by
  have mixed := L.mixed
  have t3 := L.t3; have a3 := L.a3; have z3 := L.z3; have v3 := L.v3
  have t9 := L.t9; have a9 := L.a9; have z9 := L.z9; have v9 := L.v9
  have t2 := L.t2; have a2 := L.a2; have z2 := L.z2; have v2 := L.v2
  have e246 : ∀ args w, (callFunc (ρ.f 246) args).run P w = .ok (.enter (ρ.f 246) args) w := enters_of L.f246 (by kernel_rfl) rfl
  go_enter L.f243, Body.n243_ntmps ρ
  go_wp2_with (go_at_fn (ρ.f 246); refine (AnyC.internal_strconv_FormatInt_10 { L with } n h0 h1 _ htab).mono ?_; rintro e w' ⟨rfl, k, os, rfl⟩)
  go_ret
  exact ⟨rfl, k, os, rfl⟩

set_option maxRecDepth 100000 in
/-- strconv.Itoa: "Itoa is equivalent to FormatInt(int64(i), 10).": i's DECIMAL NUMERAL ('Lib.itoa': a '-' where i is negative, then the digits), FOR EVERY int. The world behind the call: the world before it, new blocks behind the heap (the library's 'var a [24]byte'), draws. -/
theorem AnyC.strconv_Itoa (L : LaysM.n171 P ρ) (n : Int) (h0 : -9223372036854775808 ≤ n) (h1 : n ≤ 9223372036854775807) (w : World)
    (htab : PowIs (ρ.g 17) w) :
    Calls P (ρ.f 171) #[.int .i64 n] w fun e w' => e = .returned (.string ⟨(Lib.itoa n).toArray⟩) ∧ ∃ k os, w' = grow (w.drewN k) os := by
  have mixed := L.mixed
  have t3 := L.t3; have a3 := L.a3; have z3 := L.z3; have v3 := L.v3
  have t9 := L.t9; have a9 := L.a9; have z9 := L.z9; have v9 := L.v9
  have e243 : ∀ args w, (callFunc (ρ.f 243) args).run P w = .ok (.enter (ρ.f 243) args) w := enters_of L.f243 (by kernel_rfl) rfl
  go_enter L.f171, Body.n171_ntmps ρ
  go_wp2_with (go_at_fn (ρ.f 243); refine (AnyC.internal_strconv_Itoa { L with } n h0 h1 _ htab).mono ?_; rintro e w' ⟨rfl, k, os, rfl⟩)
  go_ret
  exact ⟨rfl, k, os, rfl⟩

end Go.Proofs
