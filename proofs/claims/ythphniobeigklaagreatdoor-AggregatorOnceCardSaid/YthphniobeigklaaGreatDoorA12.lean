/- The check of a slot: what it says, and what it leaves with the checker. -/
import Derived.Test.YthphniobeigklaaGreatDoorA11
set_option linter.all false
namespace Go.Proofs.YthphniobeigklaaGreatDoor
open Go.Em
set_option maxRecDepth 100000

end Go.Proofs.YthphniobeigklaaGreatDoor

/- The check of a state comes to an end. -/
namespace Go.Proofs.YthphniobeigklaaGreatDoor
open Go.Em
set_option maxRecDepth 100000

end Go.Proofs.YthphniobeigklaaGreatDoor

/- The check of a state as a whole. -/
namespace Go.Proofs.YthphniobeigklaaGreatDoor
open Go.Em
set_option maxRecDepth 100000

/-- A state of the sizes of layer 31. -/
structure Stt.small (s : Stt) : Prop where
  slots : s.slots.length ≤ 100
  slot : ∀ x, x ∈ s.slots → x.ok ∧ x.items.length ≤ 100 ∧ x.vals.length ≤ 100
theorem Stt.small.ok {s : Stt} (h : s.small) : s.ok := ⟨by have := h.slots; omega, fun x hx => (h.slot x hx).1⟩
def accOf (l : List Slt) : List Msg := l.flatMap (·.items)
theorem accOf_append (l : List Slt) (x : Slt) : accOf (l ++ [x]) = accOf l ++ x.items := by simp [accOf]
theorem accOf_length : ∀ (l : List Slt), (∀ x, x ∈ l → x.items.length ≤ 100) → (accOf l).length ≤ 100 * l.length
  | [], _ => by simp [accOf]
  | y :: l, h => by
    have h1 := h y (by simp)
    have h2 := accOf_length l fun x hx => h x (by simp [hx])
    have h3 : (accOf (y :: l)).length = y.items.length + (accOf l).length := by simp [accOf]
    rw [h3, List.length_cons]; omega
end Go.Proofs.YthphniobeigklaaGreatDoor

/- A loop that looks for the first round at which something holds. -/
namespace Go.Proofs.YthphniobeigklaaGreatDoor
open Go.Em
set_option maxRecDepth 100000

end Go.Proofs.YthphniobeigklaaGreatDoor

/- The checks, exactly: what they come to, told by the values alone. -/
namespace Go.Proofs.YthphniobeigklaaGreatDoor
open Go.Em
set_option maxRecDepth 100000

/-! ### slices.ContainsFunc of messages, exactly -/
end Go.Proofs.YthphniobeigklaaGreatDoor

/- The check of a slot, exactly: its items. -/
namespace Go.Proofs.YthphniobeigklaaGreatDoor
open Go.Em
set_option maxRecDepth 100000
set_option linter.unusedSimpArgs false

end Go.Proofs.YthphniobeigklaaGreatDoor

/- The check of a slot, exactly: its values. -/
namespace Go.Proofs.YthphniobeigklaaGreatDoor
open Go.Em
set_option maxRecDepth 100000

end Go.Proofs.YthphniobeigklaaGreatDoor

/- The check of a slot, exactly. -/
namespace Go.Proofs.YthphniobeigklaaGreatDoor
open Go.Em
set_option maxRecDepth 100000

end Go.Proofs.YthphniobeigklaaGreatDoor

/- A round of the check of a state, exactly. -/
namespace Go.Proofs.YthphniobeigklaaGreatDoor
open Go.Em
set_option maxRecDepth 100000

section
variable {ce cc : Int} {z : Bool} {sp : Prop}
end
end Go.Proofs.YthphniobeigklaaGreatDoor

/- The check of a state, exactly. -/
namespace Go.Proofs.YthphniobeigklaaGreatDoor
open Go.Em
set_option maxRecDepth 100000

end Go.Proofs.YthphniobeigklaaGreatDoor

/- Values that compare as equal are one. -/
namespace Go.Proofs.YthphniobeigklaaGreatDoor
open Go.Em
set_option maxRecDepth 100000

theorem ordI_zero {a b : Int} (h : ordI a b = 0) : a = b := by
  unfold ordI at h
  split at h
  · cases h
  · split at h
    · cases h
    · omega
end Go.Proofs.YthphniobeigklaaGreatDoor

/- The order of values: three ways, turned about, in a chain. -/
namespace Go.Proofs.YthphniobeigklaaGreatDoor
open Go.Em
set_option maxRecDepth 100000

end Go.Proofs.YthphniobeigklaaGreatDoor

/- What the check of a state asks, told of the keys and the messages as lists. -/
namespace Go.Proofs.YthphniobeigklaaGreatDoor
open Go.Em
set_option maxRecDepth 100000

end Go.Proofs.YthphniobeigklaaGreatDoor

/- Conditions over the environment of a group: sum(items[*].n) > 5; 0 / body.n > 5. -/
namespace Go.Proofs.YthphniobeigklaaGreatDoor.Ag
open Go Go.Em Go.Proofs.YthphniobeigklaaGreatDoor
set_option maxRecDepth 100000

theorem chk266g (s : Int) (h : 0 ≤ s) (h2 : s ≤ 1000000) (N : Nat) : Gam.pureD (callF tab ext (N + 50)) 266 [.agg [num s, num 0]] = some (num 0) :=
  pure_of [(5, .p (num s)), (6, .b false), (10, .b false)] [] (pf3 (abs258 s h h2 (N + 48)) (show decide (s > 999999999999999) = false from decide_eq_false (by omega)) (show decide (s < -999999999999999) = false from decide_eq_false (by omega))) (x := num 0) (bx := []) (by kernel_rfl) rfl
theorem parts246g (s : Int) (h : 0 ≤ s) (h2 : s ≤ 1000000) (N : Nat) : Gam.pureD (callF tab ext (N + 50)) 246 [.agg [num s, num 0]] = some (.tup [num s, num 0]) := by
  have e1 : IntKind.i64.wrap (Int.tdiv s 1) = s := by rw [Int.tdiv_one, IntKind.wrap_i64]; omega
  have e2 : Int.tmod s 1 = 0 := Int.tmod_one s
  exact pure_of [(11, .i s), (15, .i 0)] [] (pf2 e1 e2) (x := .tup [num s, num 0]) (bx := []) (by kernel_rfl) rfl
theorem chk2 (s : Int) (h : 0 ≤ s) (h2 : s ≤ 1000000) (N : Nat) : Gam.pureD (callF tab ext (N + 52)) 245 [.sl false 2 [[num s, num 0], [num 5, num 0]]] = some (num 0) :=
  pure_of [(13, .p (num 0))] [] (pf2 (chk266g s h h2 (N + 1)) (chk266g 5 (by decide) (by decide) (N + 1))) (x := num 0) (bx := []) (by kernel_rfl) rfl
theorem cmp185 (s : Int) (h : 0 ≤ s) (h2 : s ≤ 1000000) (N : Nat) : Gam.pureD (callF tab ext (N + 60)) 185 [.agg [num s, num 0], .agg [num 5, num 0]] = some (.tup [num (ordI s 5), num 0]) := by
  have h1 := chk2 s h h2 (N + 7)
  have h3 := parts246g s h h2 (N + 9)
  have h4 := parts246g 5 (by decide) (by decide) (N + 9)
  have h5 := cmp_int (N + 55) s 5
  have h6 := or_pure (N + 58) [ordI s 5, 0] (by simp) (by simp)
  have h7 : orL [ordI s 5, 0] = ordI s 5 := by
    unfold orL
    split
    · rename_i e; rw [e]; rfl
    · rfl
  rw [h7] at h6
  generalize ordI s 5 = r at *
  exact pure_of [(14, .p (num 0)), (20, .p (.tup [num s, num 0])), (25, .p (.tup [num 5, num 0])), (30, .p (num r)), (35, .p (num r))] [] (pf5 h1 h3 h4 h5 h6) (x := .tup [num r, num 0]) (bx := []) (by kernel_rfl) rfl
end Go.Proofs.YthphniobeigklaaGreatDoor.Ag

/- The conditions evaluated: sum(items[*].n) > 5; 0 / body.n > 5. -/
namespace Go.Proofs.YthphniobeigklaaGreatDoor.Ag
open Go Go.Em Go.Proofs.YthphniobeigklaaGreatDoor
set_option maxRecDepth 100000

def n5X : List X := [num 1, num 0, strX ⟨#[]⟩, .sl false 6 [[num 2, num 5, num 0, strX ⟨#[]⟩, .sl true 6 [], .sl true 7 []]], .sl false 5 []]
def c1X : List X := [num 10, num 0, strX ⟨#[]⟩, .sl false 6 [], .sl false 5 [[num 26, num 0, strX sumT, .sl true 6 [], .sl true 5 []], n5X]]
def boolC (b : Bool) : List X := [num 1, num (if b then 1 else 0), num 0, strX ⟨#[]⟩, .sl false 6 [], .sl false 7 []]
def envX (fs : List (List X)) : X := .agg [num 9, num 0, num 0, strX ⟨#[]⟩, .sl false 6 [], .sl false 7 fs]
theorem rel182 (r : Int) (N : Nat) : Gam.pureD (callF tab ext (N + 1)) 182 [num r] = some (boolX (decide (r > 0))) := by kernel_rfl
theorem cmp129 (fs : List (List X)) (s : Int) (h : 0 ≤ s) (h2 : s ≤ 1000000) (N : Nat) : callF tab ext (N + 100) (.fn 129) [.ptr 0 0 0, .agg (kv s).cells, .agg (kv 5).cells] [macB fs] = some (num (ordI s 5), [macB fs]) := by
  have h1 := cmp185 s h h2 (N + 39)
  generalize ordI s 5 = r at *
  exact callF_of [(27, .p (.tup [num r, num 0]))] [] (pf1 h1) (by kernel_rfl)
section
variable {g w : Bool} {fs : List (List X)} {l : List Bd} (h : EnvOk g w fs l) (ht : Tiny (nsOf l)) (h0 : 0 < l.length) (hl : l.length ≤ 256)
include h ht h0 hl
theorem eval_sum (N : Nat) (hN : 4100 ≤ N) : callF tab ext N (.fn 96) [.ptr 0 0 0, .agg sumX] [macB fs] = some (.agg (kv (sumN (nsOf l) : Nat)).cells, [macB fs]) := by
  obtain ⟨M, rfl⟩ : ∃ M, N = M + 61 := ⟨N - 61, by omega⟩
  have h1 := sum133 h ht h0 hl (M + 60) (by omega)
  generalize ((sumN (nsOf l) : Nat) : Int) = s at *
  exact callF_of [(109, .r (.agg (kv s).cells) [macB fs])] [] (pf1 h1) (by kernel_rfl)
theorem need_sum (N : Nat) (hN : 4101 ≤ N) : callF tab ext N (.fn 127) [.ptr 0 0 0, .agg sumX] [macB fs] = some (.agg (kv (sumN (nsOf l) : Nat)).cells, [macB fs]) := by
  obtain ⟨M, rfl⟩ : ∃ M, N = M + 61 := ⟨N - 61, by omega⟩
  have h1 := eval_sum h ht h0 hl (M + 60) (by omega)
  generalize ((sumN (nsOf l) : Nat) : Int) = s at *
  exact callF_of [(8, .r (.agg (kv s).cells) [macB fs])] [] (pf1 h1) (by kernel_rfl)
theorem eval_c1 (N : Nat) (hN : 5000 ≤ N) : callF tab ext N (.fn 96) [.ptr 0 0 0, .agg c1X] [macB fs] = some (.agg (boolC (decide (5 < sumN (nsOf l)))), [macB fs]) := by
  obtain ⟨M, rfl⟩ : ∃ M, N = M + 201 := ⟨N - 201, by omega⟩
  have h1 := need_sum h ht h0 hl (M + 200) (by omega)
  have hle := sumN_le ht
  rw [nsOf_len] at hle
  have h2 := cmp129 fs (sumN (nsOf l) : Nat) (by omega) (by omega) (M + 100)
  have h3 := rel182 (ordI ((sumN (nsOf l) : Nat) : Int) 5) (M + 199)
  have e : decide (ordI ((sumN (nsOf l) : Nat) : Int) 5 > 0) = decide (5 < sumN (nsOf l)) := by
    apply decide_eq_decide.2
    unfold ordI
    split
    · omega
    · split <;> omega
  rw [e] at h3
  generalize ordI ((sumN (nsOf l) : Nat) : Int) 5 = r at *
  generalize ((sumN (nsOf l) : Nat) : Int) = s at *
  cases hb : decide (5 < sumN (nsOf l)) with
  | true =>
    rw [hb] at h3
    exact callF_of [(48, .r (.agg (kv s).cells) [macB fs]), (59, .r (num r) [macB fs]), (60, .p (boolX true))] [] (pf3 h1 h2 h3) (by kernel_rfl)
  | false =>
    rw [hb] at h3
    exact callF_of [(48, .r (.agg (kv s).cells) [macB fs]), (59, .r (num r) [macB fs]), (60, .p (boolX false))] [] (pf3 h1 h2 h3) (by kernel_rfl)
/-- Eval of the sum. -/
theorem ev_sum (N : Nat) (hN : 5001 ≤ N) : Gam.pureD (callF tab ext N) 55 [.agg sumX, envX fs] = some (.tup [.agg (kv (sumN (nsOf l) : Nat)).cells, num 0]) := by
  obtain ⟨M, rfl⟩ : ∃ M, N = M + 201 := ⟨N - 201, by omega⟩
  have h1 := eval_sum h ht h0 hl (M + 200) (by omega)
  have h2 := clone_kv ((sumN (nsOf l) : Nat) : Int) (M + 140)
  generalize ((sumN (nsOf l) : Nat) : Int) = s at *
  exact pure_of [(24, .r (.agg (kv s).cells) [macB fs]), (36, .p (.agg (kv s).cells))] [] (pf2 h1 h2) (x := .tup [.agg (kv s).cells, num 0]) (bx := []) (by kernel_rfl) rfl
theorem cond_c1 (N : Nat) (hN : 5300 ≤ N) : Gam.pureD (callF tab ext N) 39 [.agg c1X, envX fs] = some (.tup [boolX (decide (5 < sumN (nsOf l))), num 0]) := by
  obtain ⟨M, rfl⟩ : ∃ M, N = M + 202 := ⟨N - 202, by omega⟩
  have h1 := eval_c1 h ht h0 hl (M + 200) (by omega)
  generalize decide (5 < sumN (nsOf l)) = b at *
  have h2 : Gam.pureD (callF tab ext (M + 201)) 55 [.agg c1X, envX fs] = some (.tup [.agg (boolC b), num 0]) := by
    cases b with
    | true => exact pure_of [(24, .r (.agg (boolC true)) [macB fs])] [] (pf1 h1) (x := .tup [.agg (boolC true), num 0]) (bx := []) (by kernel_rfl) rfl
    | false => exact pure_of [(24, .r (.agg (boolC false)) [macB fs])] [] (pf1 h1) (x := .tup [.agg (boolC false), num 0]) (bx := []) (by kernel_rfl) rfl
  cases b with
  | true => exact pure_of [(11, .p (.tup [.agg (boolC true), num 0]))] [] (pf1 h2) (x := .tup [boolX true, num 0]) (bx := []) (by kernel_rfl) rfl
  | false => exact pure_of [(11, .p (.tup [.agg (boolC false), num 0]))] [] (pf1 h2) (x := .tup [boolX false, num 0]) (bx := []) (by kernel_rfl) rfl
end
end Go.Proofs.YthphniobeigklaaGreatDoor.Ag

/- The environments of a group. -/
namespace Go.Proofs.YthphniobeigklaaGreatDoor.Ag
open Go Go.Em Go.Proofs.YthphniobeigklaaGreatDoor
set_option maxRecDepth 100000

def bodyNm : ByteArray := ⟨#[98, 111, 100, 121]⟩
def countNm : ByteArray := ⟨#[99, 111, 117, 110, 116]⟩
def keyNm : ByteArray := ⟨#[107, 101, 121]⟩
def sumNm : ByteArray := ⟨#[115, 117, 109]⟩
def bdV (l : List Bd) : List Val := l.map fun b => bodyV b.1 b.2
def itemsV (l : List Bd) : Val := .mk 8 0 0 ⟨#[]⟩ (bdV l) []
/-- count, items, key. -/
def groupV (l : List Bd) (k : Int) : Val := .mk 9 0 0 ⟨#[]⟩ [] [(countNm, kv (l.length : Nat)), (itemsNm, itemsV l), (keyNm, kv k)]
theorem cellsL_bdV (l : List Bd) : cellsL (bdV l) = bdC l := by
  unfold bdV bdC
  induction l with
  | nil => rfl
  | cons b r ih => simp only [List.map_cons, cellsL, ih]
theorem itemsV_cells (l : List Bd) : (itemsV l).cells = itemsC (bdC l) := by
  show [num 8, num 0, num 0, strX ⟨#[]⟩, .sl false 6 (cellsL (bdV l)), .sl false 7 []] = _
  rw [cellsL_bdV]
  rfl
theorem bodyV_size (o : Option Int) (n : Nat) : (bodyV o n).size ≤ 20 := by
  cases o <;> simp [bodyV, kv, Val.size, sizeL, sizeF]
theorem bdV_size (l : List Bd) : sizeL (bdV l) ≤ 21 * l.length := by
  induction l with
  | nil => exact Nat.le_refl 0
  | cons b r ih =>
    have h1 := bodyV_size b.1 b.2
    have h2 : sizeL (bdV (b :: r)) = sizeL (bodyV b.1 b.2 :: bdV r) := rfl
    rw [h2]
    simp only [sizeL]
    simp only [List.length_cons]
    omega
theorem groupV_size (l : List Bd) (hl : l.length ≤ 256) (k : Int) : (groupV l k).size ≤ 6000 := by
  have := bdV_size l
  simp only [groupV, itemsV, kv, Val.size, sizeL, sizeF]
  omega
theorem itemsV_size (l : List Bd) (hl : l.length ≤ 256) : (itemsV l).size ≤ 6000 := by
  have := bdV_size l
  simp only [itemsV, Val.size, sizeF]
  omega
theorem list120 (l : List Bd) (hl : l.length ≤ 256) (N : Nat) (hN : 7001 ≤ N) : Gam.pureD (callF tab ext N) 120 [.sl false 6 (bdC l)] = some (.agg (itemsC (bdC l))) := by
  obtain ⟨M, rfl⟩ : ∃ M, N = M + 1 := ⟨N - 1, by omega⟩
  have hs := itemsV_size l hl
  have h1 := clone_val M (itemsV l) (by omega) (by omega)
  rw [itemsV_cells] at h1
  exact pure_of [(5, .p (.agg (itemsC (bdC l))))] [] (pf1 h1) (x := .agg (itemsC (bdC l))) (bx := []) (by kernel_rfl) rfl
def groupFs (es : List (List X)) (c k : Int) : List (List X) := [strX countNm :: (kv c).cells, strX itemsNm :: itemsC es, strX keyNm :: (kv k).cells]
theorem groupV_cells (l : List Bd) (k : Int) : (groupV l k).cells = [num 9, num 0, num 0, strX ⟨#[]⟩, .sl false 6 [], .sl false 7 (groupFs (bdC l) (l.length : Nat) k)] := by
  show [num 9, num 0, num 0, strX ⟨#[]⟩, .sl false 6 [], .sl false 7 [strX countNm :: (kv (l.length : Nat)).cells, strX itemsNm :: (itemsV l).cells, strX keyNm :: (kv k).cells]] = _
  rw [itemsV_cells]
  rfl
theorem rec97 (es : List (List X)) (c k : Int) (N : Nat) (h : Gam.pureD (callF tab ext (N + 200)) 75 [envX (groupFs es c k)] = some (envX (groupFs es c k))) : Gam.pureD (callF tab ext (N + 201)) 97 [.sl false 7 (groupFs es c k)] = some (envX (groupFs es c k)) :=
  pure_of [(40, .p (envX (groupFs es c k)))] [] (pf2 (show 0 + 3 ≤ (groupFs es c k).length from Nat.le_refl 3) h) (x := envX (groupFs es c k)) (bx := []) (by kernel_rfl) rfl
theorem group90 (l : List Bd) (hl : l.length ≤ 256) (k : Int) (N : Nat) (hN : 8000 ≤ N) : Gam.pureD (callF tab ext N) 90 [.agg (kv k).cells, .sl false 6 (bdC l)] = some (envX (groupFs (bdC l) (l.length : Nat) k)) := by
  obtain ⟨M, rfl⟩ : ∃ M, N = M + 202 := ⟨N - 202, by omega⟩
  have h1 := list120 l hl (M + 201) (by omega)
  have hs := groupV_size l hl k
  have h2 := clone_val (M + 200) (groupV l k) (by omega) (by omega)
  rw [groupV_cells] at h2
  have h3 := rec97 (bdC l) (l.length : Nat) k M h2
  rw [← bdC_len l] at h3 ⊢
  generalize bdC l = es at *
  exact pure_of [(10, .p (.agg (itemsC es))), (15, .p (envX (groupFs es (es.length : Nat) k)))] [] (pf2 h1 h3) (x := envX (groupFs es (es.length : Nat) k)) (bx := []) (by kernel_rfl) rfl
theorem groupEnv (l : List Bd) (c k : Int) : EnvOk false false (groupFs (bdC l) c k) l :=
  ⟨fun M hM => by
    obtain ⟨K, rfl⟩ : ∃ K, M = K + 60 := ⟨M - 60, by omega⟩
    generalize bdC l = es
    kernel_rfl, fun M hM => by
    obtain ⟨K, rfl⟩ : ∃ K, M = K + 60 := ⟨M - 60, by omega⟩
    rw [bdG_false]
    generalize bdC l = es
    kernel_rfl⟩
end Go.Proofs.YthphniobeigklaaGreatDoor.Ag

/- A copy of a value, with its rows. -/
namespace Go.Proofs.YthphniobeigklaaGreatDoor.Ag
open Go Go.Em Go.Proofs.YthphniobeigklaaGreatDoor
set_option maxRecDepth 100000
theorem clone_raw (M : Nat) (k i s : Int) (t : ByteArray) (l : List Val) (f : List (ByteArray × Val)) (h : (Val.mk k i s t l f).size < M + 1) (hs : (Val.mk k i s t l f).size < 1000000) :
    callF tab ext (M + 1) (.fn 75) [.agg (Val.mk k i s t l f).cells] [] = some (.agg [num k, num i, num s, strX t, .bs 0 0 (cellsL l).length, .bs 1 0 (cellsF f).length], [.row 6 (cellsL l), .row 7 (cellsF f)]) := by
    simp only [Val.size] at h hs
    have hl := sizeL_length l
    have hf := sizeF_length f
    have el := cellsL_length l
    have ef := cellsF_length f
    have h1 : run (callF tab ext M) 0 M (.loop (loopAt 75 0)) (clH k i s t (cellsL l) (cellsF f) [] (cellsL l).length 0) = some (.exit 0, clE k i s t (cellsL l) (cellsF f) (cellsL l) (cellsL l).length (cellsL l).length) := by
      refine loop_for (σ := fun j => clH k i s t (cellsL l) (cellsF f) ((cellsL l).take j) (cellsL l).length j) (k := (cellsL l).length) (cl_canon _ _ _ _ _ _ _ _ _) (fun j hj => ?_) ?_ (by simp) (by omega)
      · have hj' : j < l.length := by omega
        have hg := cellsL_get hj'
        have hm := sizeL_mem (List.getElem_mem hj')
        refine ⟨_, cl_step M k i s t _ _ _ _ j l[j] (clone_val M l[j] (by omega) (by omega)) hg (by omega) (by omega) (by rw [List.length_take]; omega), ?_⟩<;>grind[cl_canon',take_succ_get]
      · grind[cl_end]
    have h2 : run (callF tab ext M) 0 M (.loop (loopAt 75 1)) ⟨[(2, .ptr 1 0 0), (3, .ptr 2 0 0), (27, .sl false 7 (cellsF f)), (28, nat (cellsF f).length), (29, nat 0)], [.var [num k, num i, num s, strX t, .sl false 6 (cellsL l), .sl false 7 (cellsF f)], .var zVal, .var [num k, num i, num s, strX t, .bs 3 0 (cellsL l).length, .bs 4 0 0], .row 6 (cellsL l), .row 7 []]⟩ = some (.exit 2, cfE k i s t (cellsF f) (cellsL l) (cellsF f) (cellsF f).length (cellsF f).length (cellsL l).length) := by
      refine loop_for (σ := fun j => cfH k i s t (cellsF f) (cellsL l) ((cellsF f).take j) (cellsF f).length j (cellsL l).length) (k := (cellsF f).length) (by kernel_rfl) (fun j hj => ?_) ?_ (by simp) (by omega)
      · have hj' : j < f.length := by omega
        have hg := cellsF_get hj'
        have hm := sizeF_mem (List.getElem_mem hj')
        refine ⟨_, cf_step M k i s t _ _ _ _ j _ f[j].2 f[j].1 (clone_val M f[j].2 (by omega) (by omega)) hg (by omega) (by omega) (by rw [List.length_take]; omega), ?_⟩<;>grind[cf_canon',take_succ_get]
      · grind[cf_end]
    exact callF_of [] [(.exit 0, clE k i s t (cellsL l) (cellsF f) (cellsL l) (cellsL l).length (cellsL l).length), (.exit 2, cfE k i s t (cellsF f) (cellsL l) (cellsF f) (cellsF f).length (cellsF f).length (cellsL l).length)]
      (pf2 h1 h2) (by kernel_rfl)
end Go.Proofs.YthphniobeigklaaGreatDoor.Ag

/- The environment of a condition. -/
namespace Go.Proofs.YthphniobeigklaaGreatDoor.Ag
open Go Go.Em Go.Proofs.YthphniobeigklaaGreatDoor
set_option maxRecDepth 100000

def condFs (b : Bd) (es : List (List X)) (c k : Int) : List (List X) := (strX bodyNm :: (bodyV b.1 b.2).cells) :: groupFs es c k
theorem with111 (b : Bd) (es : List (List X)) (c k : Int) (N : Nat) (h1 : callF tab ext (N + 300) (.fn 75) [envX (groupFs es c k)] [] = some (.agg [num 9, num 0, num 0, strX ⟨#[]⟩, .bs 0 0 0, .bs 1 0 3], [.row 6 [], .row 7 (groupFs es c k)]))
    (h2 : Gam.pureD (callF tab ext (N + 300)) 75 [.agg (bodyV b.1 b.2).cells] = some (.agg (bodyV b.1 b.2).cells)) :
    Gam.pureD (callF tab ext (N + 301)) 111 [envX (groupFs es c k), strX bodyNm, .agg (bodyV b.1 b.2).cells] = some (.tup [envX (condFs b es c k), num 0]) := by
  obtain ⟨o, n⟩ := b
  cases o with
  | none =>
    exact pure_of [(64, .p (.agg (bodyV none n).cells)), (39, .o (.agg [num 9, num 0, num 0, strX ⟨#[]⟩, .bs 0 0 0, .bs 1 0 3]) [.row 6 [], .row 7 (groupFs es c k)])] [] (pf2 h1 h2)
      (x := .tup [.agg [num 9, num 0, num 0, strX ⟨#[]⟩, .bs 0 0 0, .bs 1 0 4], num 0]) (bx := [.row 6 [], .row 7 (condFs (none, n) es c k)]) (by kernel_rfl) rfl
  | some q =>
    exact pure_of [(64, .p (.agg (bodyV (some q) n).cells)), (39, .o (.agg [num 9, num 0, num 0, strX ⟨#[]⟩, .bs 0 0 0, .bs 1 0 3]) [.row 6 [], .row 7 (groupFs es c k)])] [] (pf2 h1 h2)
      (x := .tup [.agg [num 9, num 0, num 0, strX ⟨#[]⟩, .bs 0 0 0, .bs 1 0 4], num 0]) (bx := [.row 6 [], .row 7 (condFs (some q, n) es c k)]) (by kernel_rfl) rfl
theorem clone_body (b : Bd) (N : Nat) (hN : 100 ≤ N) : Gam.pureD (callF tab ext N) 75 [.agg (bodyV b.1 b.2).cells] = some (.agg (bodyV b.1 b.2).cells) := by
  have := bodyV_size b.1 b.2
  exact clone_val N (bodyV b.1 b.2) (by omega) (by omega)
theorem withAt (b : Bd) (l : List Bd) (hl : l.length ≤ 256) (k : Int) (N : Nat) (hN : 8000 ≤ N) :
    Gam.pureD (callF tab ext N) 111 [envX (groupFs (bdC l) (l.length : Nat) k), strX bodyNm, .agg (bodyV b.1 b.2).cells] = some (.tup [envX (condFs b (bdC l) (l.length : Nat) k), num 0]) := by
  obtain ⟨M, rfl⟩ : ∃ M, N = M + 301 := ⟨N - 301, by omega⟩
  have hs := groupV_size l hl k
  have h1 := clone_raw (M + 299) 9 0 0 ⟨#[]⟩ [] [(countNm, kv (l.length : Nat)), (itemsNm, itemsV l), (keyNm, kv k)] (by have : (groupV l k).size ≤ 6000 := hs; unfold groupV at this; omega) (by have : (groupV l k).size ≤ 6000 := hs; unfold groupV at this; omega)
  have e : cellsF [(countNm, kv (l.length : Nat)), (itemsNm, itemsV l), (keyNm, kv k)] = groupFs (bdC l) (l.length : Nat) k := by
    show [strX countNm :: (kv (l.length : Nat)).cells, strX itemsNm :: (itemsV l).cells, strX keyNm :: (kv k).cells] = _
    rw [itemsV_cells]
    rfl
  have e2 : (Val.mk 9 0 0 ⟨#[]⟩ [] [(countNm, kv (l.length : Nat)), (itemsNm, itemsV l), (keyNm, kv k)]).cells = [num 9, num 0, num 0, strX ⟨#[]⟩, .sl false 6 [], .sl false 7 (groupFs (bdC l) (l.length : Nat) k)] := groupV_cells l k
  rw [e2, e] at h1
  exact with111 b (bdC l) (l.length : Nat) k M h1 (clone_body b _ (by omega))
/-- The environment of the model: its items have no row of fields, its bodies are tight. -/
def condFsG (g w : Bool) (b : Bd) (es : List (List X)) (c k : Int) : List (List X) := [strX bodyNm :: bodyG w b.1 b.2, strX countNm :: (kv c).cells, strX itemsNm :: itemsG g es, strX keyNm :: (kv k).cells]
theorem condEnvG (g w : Bool) (b : Bd) (l : List Bd) (c k : Int) : EnvOk g w (condFsG g w b (bdG w l) c k) l := by
  obtain ⟨o, n⟩ := b
  refine ⟨fun M hM => ?_, fun M hM => ?_⟩
  all_goals
    obtain ⟨K, rfl⟩ : ∃ K, M = K + 60 := ⟨M - 60, by omega⟩
    generalize bdG w l = es
  · cases o with
    | none => exact (show Gam.pureD (callF tab ext (K + 60)) 253 [.agg (partC 1 itemsNm), envX (condFsG g w (none, n) es c k)] = some (boolX true) from by kernel_rfl)
    | some q => exact (show Gam.pureD (callF tab ext (K + 60)) 253 [.agg (partC 1 itemsNm), envX (condFsG g w (some q, n) es c k)] = some (boolX true) from by kernel_rfl)
  · cases o with
    | none => exact (show Gam.pureD (callF tab ext (K + 60)) 254 [.agg (partC 1 itemsNm), envX (condFsG g w (none, n) es c k)] = some (.sl false 6 [itemsG g es]) from by kernel_rfl)
    | some q => exact (show Gam.pureD (callF tab ext (K + 60)) 254 [.agg (partC 1 itemsNm), envX (condFsG g w (some q, n) es c k)] = some (.sl false 6 [itemsG g es]) from by kernel_rfl)
theorem condFs_G (b : Bd) (es : List (List X)) (c k : Int) : condFs b es c k = condFsG false false b es c k := by
  unfold condFsG
  rw [bodyG_false]
  rfl
theorem condEnv (b : Bd) (l : List Bd) (c k : Int) : EnvOk false false (condFs b (bdC l) c k) l := by
  rw [condFs_G, ← bdG_false]
  exact condEnvG false false b l c k
end Go.Proofs.YthphniobeigklaaGreatDoor.Ag

/- aggregator.complete: whether a group is complete. -/
namespace Go.Proofs.YthphniobeigklaaGreatDoor.Ag
open Go Go.Em Go.Proofs.YthphniobeigklaaGreatDoor
set_option maxRecDepth 100000

def aggT : ByteArray := ⟨#[97, 103, 103]⟩
def nodX (nu ti li : Int) (ex ty ru : List (List X)) : List X := [strX aggT, num 4, num 0, num 0, num nu, num ti, num li, strX ⟨#[]⟩, num 9, num 0, num 0, num 0, .sl false 1 [], .sl false 7 [], .sl false 11 ty, .sl false 7 [], .sl false 5 ex, .sl false 6 ru, .sl false 2 [], .sl false 1 []]
def eKey : List X := [num 2, num 0, strX ⟨#[98, 111, 100, 121, 46, 107]⟩, .sl false 6 [], .sl false 5 []]
def nX (i : Int) : List X := [num 1, num 0, strX ⟨#[]⟩, .sl false 6 [[num 2, num i, num 0, strX ⟨#[]⟩, .sl true 6 [], .sl true 7 []]], .sl false 5 []]
/-- The condition of a sketch: none, the sum, a division. -/
def exN : Nat → List (List X)
  | 1 => [eKey, [num 10, num 0, strX ⟨#[]⟩, .sl true 6 [], .sl true 5 [[num 26, num 0, strX sumT, .sl true 6 [], .sl true 5 []], nX 5]]]
  | 2 => [eKey, [num 10, num 0, strX ⟨#[]⟩, .sl true 6 [], .sl true 5 [[num 15, num 0, strX ⟨#[]⟩, .sl true 6 [], .sl true 5 [nX 0, [num 2, num 0, strX ⟨#[98, 111, 100, 121, 46, 110]⟩, .sl false 6 [], .sl false 5 []]]], nX 5]]]
  | _ => [eKey]
def c2X : List X := [num 10, num 0, strX ⟨#[]⟩, .sl false 6 [], .sl false 5 [[num 15, num 0, strX ⟨#[]⟩, .sl true 6 [], .sl true 5 [nX 0, [num 2, num 0, strX ⟨#[98, 111, 100, 121, 46, 110]⟩, .sl false 6 [], .sl false 5 []]]], nX 5]]
theorem enough109 (nu ti li : Int) (ex ty ru : List (List X)) (n : Nat) (N : Nat) : Gam.pureD (callF tab ext (N + 10)) 109 [.agg (nodX nu ti li ex ty ru), nat n] = some (boolX (decide (0 < nu ∧ nu ≤ (n : Int)))) := by
  by_cases h : 0 < nu
  · have h1 : decide (nu > 0) = true := decide_eq_true h
    by_cases h2 : nu ≤ (n : Int)
    · rw [decide_eq_true (show 0 < nu ∧ nu ≤ (n : Int) from ⟨h, h2⟩)]
      exact pure_of [(7, .b true), (12, .b true)] [] (pf2 h1 (show decide (Int.ofNat n ≥ nu) = true from decide_eq_true h2)) (x := boolX true) (bx := []) (by kernel_rfl) rfl
    · rw [decide_eq_false (show ¬ (0 < nu ∧ nu ≤ (n : Int)) from fun h3 => h2 h3.2)]
      exact pure_of [(7, .b true), (12, .b false)] [] (pf2 h1 (show decide (Int.ofNat n ≥ nu) = false from decide_eq_false h2)) (x := boolX false) (bx := []) (by kernel_rfl) rfl
  · rw [decide_eq_false (show ¬ (0 < nu ∧ nu ≤ (n : Int)) from fun h3 => h h3.1)]
    exact pure_of [(7, .b false)] [] (pf1 (show decide (nu > 0) = false from decide_eq_false h)) (x := boolX false) (bx := []) (by kernel_rfl) rfl
end Go.Proofs.YthphniobeigklaaGreatDoor.Ag

/- A message's fate, and its environment. -/
namespace Go.Proofs.YthphniobeigklaaGreatDoor
open Go.Em
set_option maxRecDepth 100000

theorem fate_pure (m : Msg) (hm : m.ok) (name r : ByteArray) (N : Nat) (hN : 300 ≤ N) : Gam.pureD (callF tab ext N) 122 [.agg m.cells, strX name, num 4, .sl false 1 [[.fn 144 [.dp [strX r]]]]] = some (.agg (Fte.mk m.st 4 name [] r).cells) := by
  obtain ⟨M, rfl⟩ : ∃ M, N = M + 101 := ⟨N - 101, by omega⟩
  have h1 := clone_stamp (M + 98) m.st hm.st
  obtain ⟨⟨e, p⟩, ms, o, ⟨a1, a2, a3, a4, a5, a6⟩⟩ := m
  exact pure_of [(14, .p (.agg (Stp.mk e p).cells))] [] (pf1 h1) (x := .agg [num e, .sl false 1 (intsC p), num 4, strX name, .sl true 2 [], strX r]) (bx := []) (by kernel_rfl) rfl
/-- message.Rejected. -/
theorem rejected_pure (m : Msg) (hm : m.ok) (name r : ByteArray) (N : Nat) (hN : 310 ≤ N) : Gam.pureD (callF tab ext N) 98 [.agg m.cells, strX name, strX r] = some (.agg (Fte.mk m.st 4 name [] r).cells) := by
  obtain ⟨M, rfl⟩ : ∃ M, N = M + 1 := ⟨N - 1, by omega⟩
  have h1 := fate_pure m hm name r M (by omega)
  obtain ⟨⟨e, p⟩, ms, o, ⟨a1, a2, a3, a4, a5, a6⟩⟩ := m
  exact pure_of [(11, .p (.agg (Fte.mk ⟨e, p⟩ 4 name [] r).cells))] [] (pf1 h1) (x := .agg (Fte.mk ⟨e, p⟩ 4 name [] r).cells) (bx := []) (by kernel_rfl) rfl
end Go.Proofs.YthphniobeigklaaGreatDoor

/- (*aggregator.builder).reject: a message is rejected. -/
namespace Go.Proofs.YthphniobeigklaaGreatDoor.Ag
open Go Go.Em Go.Proofs.YthphniobeigklaaGreatDoor
set_option maxRecDepth 100000

section
variable (nu ti li : Int) (ex ty ru ss O F L : List (List X))
/-- The builder: node, state, where the rows of outputs, fates and letters lie. -/
def bX (i no j nf q nl : Nat) : List X := nodX nu ti li ex ty ru ++ [num 0, num 0, .sl false 10 ss, .bs i 0 no, .sl true 11 [], .bs j 0 nf, .bs q 0 nl]
theorem rej80 (m : Msg) (hm : m.ok) (r : ByteArray) (no nf nl : Nat) (hf : nf = F.length) (hl : nl = L.length) (hf2 : nf < 10000) (hl2 : nl < 10000) (N : Nat) (hN : 190100 ≤ N) :
    callF tab ext N (.fn 80) [.ptr 0 0 0, .agg m.cells, strX r] [.var (bX nu ti li ex ty ru ss 1 no 2 nf 3 nl), .row 11 O, .row 6 F, .row 10 L] =
      some (.tup [], [.var (bX nu ti li ex ty ru ss 1 no 4 (nf + 1) 5 (nl + 1)), .row 11 O, .dead, .dead, .row 6 (F ++ [(Fte.mk m.st 4 aggT [] r).cells]), .row 10 (L ++ [m.cells])]) := by
  obtain ⟨M, rfl⟩ : ∃ M, N = M + 1 := ⟨N - 1, by omega⟩
  have h1 := rejected_pure m hm aggT r M (by omega)
  have h2 := clone_msg M m hm (by omega)
  have h3 := app_ok (acc := F) nf 0 96 (by omega) (by omega) (by omega)
  have h4 := app_ok (acc := L) nl 0 152 (by omega) (by omega) (by omega)
  obtain ⟨⟨e, p⟩, mm, o, ⟨a1, a2, a3, a4, a5, a6⟩⟩ := m
  exact callF_of [(19, .p (.agg (Fte.mk ⟨e, p⟩ 4 aggT [] r).cells)), (21, .app), (32, .p (.agg (Msg.mk ⟨e, p⟩ mm o ⟨a1, a2, a3, a4, a5, a6⟩).cells)), (34, .app)] [] (pf4 h1 h3 h2 h4) (by kernel_rfl)
end
/-! ### All messages of a list -/
section
variable (nu ti li : Int) (ex ty ru ss O F L ms : List (List X)) (r : ByteArray) (no nf nl n j : Nat) (N : Nat)
end
end Go.Proofs.YthphniobeigklaaGreatDoor.Ag

/- message.Under, Merged, bodies, Merge. -/
namespace Go.Proofs.YthphniobeigklaaGreatDoor.Ag
open Go Go.Em Go.Proofs.YthphniobeigklaaGreatDoor
set_option maxRecDepth 100000

def undS (s : Stp) (j : Nat) : Stp := ⟨s.e, s.p ++ [(j : Int)]⟩
theorem intsC_snoc (p : List Int) (k : Int) : intsC p ++ [[num k]] = intsC (p ++ [k]) := by simp [intsC]
theorem under_l (M : Nat) (e k : Int) (l : List (List X)) (n : Nat) (h1 : callF tab ext (M + 1) (.fn 42) [.sl false 1 l] [] = some (.bs 0 0 n, [.row 1 l])) (hn : n = l.length) (hb : n < 1000000) : Gam.pureD (callF tab ext (M + 2)) 22 [.agg [num e, .sl false 1 l], num k] = some (X.agg [num e, .sl false 1 (l ++ [[num k]])]) :=
  pure_of [(9, .o (.bs 0 0 n) [.row 1 l]), (12, .app)] [] (pf2 h1 (app_ok n 2 8 hn hb (by omega))) (x := .agg [num e, .bs 0 0 (n + 1)]) (bx := [.row 1 (l ++ [[num k]])]) (by kernel_rfl)
    (data_agg (dataL_cons rfl (dataL_cons (data_bs rfl (by rw [List.length_append]; simp [hn])) rfl)))
theorem under22 (s : Stp) (hs : s.ok) (k : Nat) (N : Nat) (hN : 10 ≤ N) : Gam.pureD (callF tab ext N) 22 [.agg s.cells, nat k] = some (.agg (undS s k).cells) := by
  obtain ⟨M, rfl⟩ : ∃ M, N = M + 2 := ⟨N - 2, by omega⟩
  have h := under_l M s.e k (intsC s.p) s.p.length (clone_row M s.p hs.p) (intsC_length s.p).symm (by have := hs.p; omega)
  rw [intsC_snoc] at h
  exact h
/-! ### into, fate -/
section
variable (N n j : Nat) (e k : Int) (p : List (List X)) (nm : ByteArray) (l ss : List (List X)) (se : Int) (sp : List (List X))
def itH : St := ⟨[(0, .ptr 0 0 0), (5, .sl false 2 l), (6, nat n), (7, nat j)], [.var [num e, .sl false 1 p, num k, strX nm, .bs 1 0 j, strX ⟨#[]⟩], .row 2 ss]⟩
theorem it_canon : canon 1 (itH n j e k p nm l ss) = some (itH n j e k p nm l ss) := by kernel_rfl
theorem it_step (hi : l[j]? = some [num se, .sl false 1 sp]) (h1 : Gam.pureD (callF tab ext N) 74 [.agg [num se, .sl false 1 sp]] = some (.agg [num se, .sl false 1 sp])) (hj : j < n) (hl : n < 100000) (hs : j = ss.length) :
    ∃ υ, run (callF tab ext N) 1 N (loopAt 174 0) (itH n j e k p nm l ss) = some (.norm, υ) ∧ canon 1 υ = some (itH n (j + 1) e k p nm l (ss ++ [[num se, .sl false 1 sp]])) :=
  rd_of [(8, .b true), (9, .e [num se, .sl false 1 sp]), (17, .p (.agg [num se, .sl false 1 sp])), (19, .app), (22, .i (Int.ofNat (j + 1)))]
    (pf5 (lt_nat hj) hi h1 (app_ok j 1 32 hs (by omega) (by omega)) (next_nat (j := j) (by omega))) (by kernel_rfl)
theorem it_end : run (callF tab ext N) 1 N (loopAt 174 0) (itH n n e k p nm l ss) = some (.exit 0, ⟨[(0, .ptr 0 0 0), (5, .sl false 2 l), (6, nat n), (7, nat n), (8, .v (.bool false))], [.var [num e, .sl false 1 p, num k, strX nm, .bs 1 0 n, strX ⟨#[]⟩], .row 2 ss]⟩) :=
  run_of [(8, .b false)] [] (pf1 (nlt_nat (j := n) (k := n) (by omega))) (lo' := []) (by kernel_rfl)
end
theorem into_call (N : Nat) (s : Stp) (hs : s.ok) (hN : 20 ≤ N) (e k : Int) (p : List (List X)) (nm : ByteArray) :
    callF tab ext N (.fn 174) [.ptr 0 0 0, .dp [.sl false 2 [s.cells]]] [.var [num e, .sl false 1 p, num k, strX nm, .sl true 2 [], strX ⟨#[]⟩]] = some (.tup [], [.var [num e, .sl false 1 p, num k, strX nm, .bs 1 0 1, strX ⟨#[]⟩], .row 2 [s.cells]]) := by
  obtain ⟨M, rfl⟩ : ∃ M, N = M + 3 := ⟨N - 3, by omega⟩
  have hrun : run (callF tab ext (M + 2)) 1 (M + 2) (.loop (loopAt 174 0)) (itH 1 0 e k p nm [s.cells] []) = some (.exit 0, ⟨[(0, .ptr 0 0 0), (5, .sl false 2 [s.cells]), (6, nat 1), (7, nat 1), (8, .v (.bool false))], [.var [num e, .sl false 1 p, num k, strX nm, .bs 1 0 1, strX ⟨#[]⟩], .row 2 [s.cells]]⟩) := by
    have hc := clone_stamp M s hs
    obtain ⟨se, sp⟩ := s
    obtain ⟨υ, h1, h2⟩ := it_step (M + 2) 1 0 e k p nm [Stp.cells ⟨se, sp⟩] [] se (intsC sp) rfl hc (by omega) (by omega) rfl
    exact iter_step (it_canon ..) h1 (iter_end h2 (it_end ..) (by simp))
  generalize s.cells = so at hrun ⊢
  exact callF_of [] [(.exit 0, ⟨[(0, .ptr 0 0 0), (5, .sl false 2 [so]), (6, nat 1), (7, nat 1), (8, .v (.bool false))], [.var [num e, .sl false 1 p, num k, strX nm, .bs 1 0 1, strX ⟨#[]⟩], .row 2 [so]]⟩)] (pf1 hrun) (by kernel_rfl)
theorem fate2 (m : Msg) (hm : m.st.ok) (nm : ByteArray) (s : Stp) (hs : s.ok) (N : Nat) (hN : 30 ≤ N) : Gam.pureD (callF tab ext N) 122 [.agg m.cells, strX nm, num 2, .sl false 1 [[.fn 174 [.dp [.sl false 2 [s.cells]]]]]] = some (.agg (Fte.mk m.st 2 nm [s] ⟨#[]⟩).cells) := by
  obtain ⟨M, rfl⟩ : ∃ M, N = M + 3 := ⟨N - 3, by omega⟩
  have h1 := clone_stamp M m.st hm
  have h2 := into_call (M + 2) s hs (by omega) m.st.e 2 (intsC m.st.p) nm
  show _ = some (X.agg [num m.st.e, .sl false 1 (intsC m.st.p), num 2, strX nm, .sl false 2 [s.cells], strX ⟨#[]⟩])
  obtain ⟨⟨e, p⟩, w, o, ⟨a1, a2, a3, a4, a5, a6⟩⟩ := m
  generalize s.cells = so at *
  exact pure_of [(14, .p (.agg (Stp.mk e p).cells)), (25, .r (.tup []) [.var [num e, .sl false 1 (intsC p), num 2, strX nm, .bs 1 0 1, strX ⟨#[]⟩], .row 2 [so]])] [] (pf2 h1 h2) (x := .agg [num e, .sl false 1 (intsC p), num 2, strX nm, .bs 0 0 1, strX ⟨#[]⟩]) (bx := [.row 2 [so]]) (by kernel_rfl) rfl
/-! ### Merged -/
section
variable (ms acc : List (List X)) (nm : ByteArray) (s : Stp) (n j : Nat) (N : Nat)
def mdH : St := ⟨[(1, strX nm), (5, .ptr 0 0 0), (7, .bs 1 0 j), (10, .sl false 10 ms), (11, nat n), (12, nat j)], [.var s.cells, .row 6 acc]⟩
def mdE : St := ⟨[(1, strX nm), (5, .ptr 0 0 0), (7, .bs 1 0 j), (10, .sl false 10 ms), (11, nat n), (12, nat j), (13, boolX false)], [.var s.cells, .row 6 acc]⟩
theorem md_canon : canon 0 (mdH ms acc nm s n j) = some (mdH ms acc nm s n j) := by
  obtain ⟨e, p⟩ := s
  kernel_rfl
theorem md_end (h : ¬ j < n) : run (callF tab ext N) 0 N (loopAt 92 0) (mdH ms acc nm s n j) = some (.exit 0, mdE ms acc nm s n j) := by
  obtain ⟨e, p⟩ := s
  exact run_of [(13, .b false)] [] (pf1 (nlt_nat h)) (lo' := []) (by kernel_rfl)
theorem md_round (m : Msg) (hm : m.st.ok) (hs : s.ok) (he : ms[j]? = some m.cells) (hj : j < n) (hn : n < 10000) (ha : j = acc.length) :
    ∃ υ, run (callF tab ext (N + 100)) 0 (N + 100) (loopAt 92 0) (mdH ms acc nm s n j) = some (.norm, υ) ∧ canon 0 υ = some (mdH ms (acc ++ [(Fte.mk m.st 2 nm [s] ⟨#[]⟩).cells]) nm s n (j + 1)) := by
  have hf := fate2 m hm nm s hs (N + 100) (by omega)
  have h1 := lt_nat hj
  have h2 := next_nat (j := j) (by omega)
  have h3 := app_ok (acc := acc) j 1 96 ha (by omega) (by omega)
  obtain ⟨⟨e2, sp⟩, mm, os, ⟨a1, a2, a3, a4, a5, a6⟩⟩ := m
  obtain ⟨e, p⟩ := s
  exact rd_of [(13, .b true), (14, .e (Msg.mk ⟨e2, sp⟩ mm os (.mk a1 a2 a3 a4 a5 a6)).cells), (23, .p (.agg (Fte.mk ⟨e2, sp⟩ 2 nm [⟨e, p⟩] ⟨#[]⟩).cells)), (25, .app), (26, .i (Int.ofNat (j + 1)))] (pf5 h1 he hf h3 h2) (by kernel_rfl)
end
def mrgF (ms : List Msg) (nm : ByteArray) (s : Stp) : List Fte := ms.map fun m => Fte.mk m.st 2 nm [s] ⟨#[]⟩
theorem merged92 (ms : List Msg) (hm : ∀ m, m ∈ ms → m.st.ok) (hl : ms.length < 1000) (nm : ByteArray) (s : Stp) (hs : s.ok) (N : Nat) (hN : 1100 ≤ N) :
    Gam.pureD (callF tab ext N) 92 [.sl false 10 (msgsC ms), strX nm, .agg s.cells] = some (.sl false 6 (ftesC (mrgF ms nm s))) := by
  obtain ⟨M, rfl⟩ : ∃ M, N = M + 101 := ⟨N - 101, by omega⟩
  have hn := msgsC_length ms
  have h1 : run (callF tab ext (M + 100)) 0 (M + 100) (.loop (loopAt 92 0)) (mdH (msgsC ms) [] nm s (msgsC ms).length 0) = some (.exit 0, mdE (msgsC ms) (ftesC (mrgF ms nm s)) nm s (msgsC ms).length (msgsC ms).length) := by
    refine loop_for (σ := fun j => mdH (msgsC ms) (ftesC (mrgF (ms.take j) nm s)) nm s (msgsC ms).length j) (k := (msgsC ms).length) (md_canon ..) (fun j hj => ?_) ?_ (by simp) (by omega)
    · have hj' : j < ms.length := by omega
      have e : ftesC (mrgF (ms.take (j + 1)) nm s) = ftesC (mrgF (ms.take j) nm s) ++ [(Fte.mk ms[j].st 2 nm [s] ⟨#[]⟩).cells] := by
        unfold ftesC mrgF
        rw [List.take_succ_eq_append_getElem hj', List.map_append, List.map_append]
        rfl
      rw [e]
      exact md_round _ _ nm s _ j M ms[j] (hm _ (List.getElem_mem hj')) hs (msgsC_get hj') hj (by omega) (by simp [ftesC, mrgF]; omega)
    · rw [List.take_of_length_le (by omega)]
      exact md_end _ _ nm s _ _ (M + 100) (by omega)
  have hlen : (msgsC ms).length = (ftesC (mrgF ms nm s)).length := by simp [msgsC, ftesC, mrgF]
  generalize ftesC (mrgF ms nm s) = F at *
  generalize msgsC ms = L at *
  obtain ⟨e, p⟩ := s
  exact pure_of [] [(.exit 0, mdE L F nm ⟨e, p⟩ L.length L.length)] (pf1 h1) (x := .bs 0 0 L.length) (bx := [.row 6 F]) (by kernel_rfl) (data_bs rfl hlen)
/-! ### bodies -/
section
variable (ms acc : List (List X)) (n j : Nat) (N : Nat)
def boH : St := ⟨[(3, .bs 0 0 j), (6, .sl false 10 ms), (7, nat n), (8, nat j)], [.row 6 acc]⟩
def boE : St := ⟨[(3, .bs 0 0 j), (6, .sl false 10 ms), (7, nat n), (8, nat j), (9, boolX false)], [.row 6 acc]⟩
theorem bo_canon : canon 0 (boH ms acc n j) = some (boH ms acc n j) := by kernel_rfl
theorem bo_end (h : ¬ j < n) : run (callF tab ext N) 0 N (loopAt 83 0) (boH ms acc n j) = some (.exit 0, boE ms acc n j) :=
  run_of [(9, .b false)] [] (pf1 (nlt_nat h)) (lo' := []) (by kernel_rfl)
theorem bo_round (m : Msg) (he : ms[j]? = some m.cells) (hj : j < n) (hn : n < 10000) (ha : j = acc.length) :
    ∃ υ, run (callF tab ext N) 0 N (loopAt 83 0) (boH ms acc n j) = some (.norm, υ) ∧ canon 0 υ = some (boH ms (acc ++ [m.body.cells]) n (j + 1)) := by
  have h1 := lt_nat hj
  have h2 := next_nat (j := j) (by omega)
  have h3 := app_ok (acc := acc) j 0 88 ha (by omega) (by omega)
  obtain ⟨⟨e2, sp⟩, mm, os, ⟨a1, a2, a3, a4, a5, a6⟩⟩ := m
  exact rd_of [(9, .b true), (10, .e (Msg.mk ⟨e2, sp⟩ mm os (.mk a1 a2 a3 a4 a5 a6)).cells), (16, .app), (17, .i (Int.ofNat (j + 1)))] (pf4 h1 he h3 h2) (by kernel_rfl)
end
def bodC (ms : List Msg) : List (List X) := ms.map (·.body.cells)
theorem bodies83 (ms : List Msg) (hl : ms.length < 1000) (N : Nat) (hN : 1100 ≤ N) : Gam.pureD (callF tab ext N) 83 [.sl false 10 (msgsC ms)] = some (.sl false 6 (bodC ms)) := by
  obtain ⟨M, rfl⟩ : ∃ M, N = M + 1 := ⟨N - 1, by omega⟩
  have hn := msgsC_length ms
  have h1 : run (callF tab ext M) 0 M (.loop (loopAt 83 0)) (boH (msgsC ms) [] (msgsC ms).length 0) = some (.exit 0, boE (msgsC ms) (bodC ms) (msgsC ms).length (msgsC ms).length) := by
    refine loop_for (σ := fun j => boH (msgsC ms) (bodC (ms.take j)) (msgsC ms).length j) (k := (msgsC ms).length) (bo_canon ..) (fun j hj => ?_) ?_ (by simp) (by omega)
    · have hj' : j < ms.length := by omega
      have e : bodC (ms.take (j + 1)) = bodC (ms.take j) ++ [ms[j].body.cells] := by
        unfold bodC
        rw [List.take_succ_eq_append_getElem hj', List.map_append]
        rfl
      rw [e]
      exact bo_round _ _ _ j M ms[j] (msgsC_get hj') hj (by omega) (by simp [bodC]; omega)
    · rw [List.take_of_length_le (by omega)]
      exact bo_end _ _ _ _ M (by omega)
  have hlen : (msgsC ms).length = (bodC ms).length := by simp [msgsC, bodC]
  generalize bodC ms = F at *
  generalize msgsC ms = L at *
  exact pure_of [] [(.exit 0, boE L F L.length L.length)] (pf1 h1) (x := .bs 0 0 L.length) (bx := [.row 6 F]) (by kernel_rfl) (data_bs rfl hlen)
end Go.Proofs.YthphniobeigklaaGreatDoor.Ag

/- message.Merge. -/
namespace Go.Proofs.YthphniobeigklaaGreatDoor.Ag
open Go Go.Em Go.Proofs.YthphniobeigklaaGreatDoor
set_option maxRecDepth 100000

def massL (ms : List Msg) : Int := (ms.map (·.mass)).sum
theorem massL_snoc (ms : List Msg) (m : Msg) : massL (ms ++ [m]) = massL ms + m.mass := by simp [massL]
theorem massL_le {ms : List Msg} (h : ∀ m, m ∈ ms → 0 ≤ m.mass ∧ m.mass ≤ 100000) : 0 ≤ massL ms ∧ massL ms ≤ 100000 * ms.length := by
  induction ms with
  | nil => simp [massL]
  | cons m r ih =>
    have h1 := h m List.mem_cons_self
    have h2 := ih fun x hx => h x (List.mem_cons_of_mem _ hx)
    have e : massL (m :: r) = m.mass + massL r := by simp [massL]
    rw [e]
    simp only [List.length_cons]
    omega
theorem heavy45 (m : Int) (h : 0 ≤ m ∧ m ≤ 100000) (N : Nat) : Gam.pureD (callF tab ext (N + 10)) 45 [num m] = some (boolX false) :=
  pure_of [(4, .b false), (7, .b false)] [] (pf2 (show decide (m < 0) = false from decide_eq_false (by omega)) (show decide (m > 1099511627776) = false from decide_eq_false (by omega))) (x := boolX false) (bx := []) (by kernel_rfl) rfl
section
variable (ms bl bf : List (List X)) (s : Stp) (bk bi bs mass : Int) (bt : ByteArray) (n j : Nat) (tf : Bool) (oo : List (List X)) (N : Nat)
def mgB : List Bx := [.var ([num 0, .sl true 1 [], num 0, .sl true 1 [], num 0, num 0, num 0, strX ⟨#[]⟩, .sl true 6 [], .sl true 7 []]), .var ([num s.e, .sl false 1 (intsC s.p), num mass, .sl tf 1 oo, num bk, num bi, num bs, strX bt, .sl false 6 bl, .sl false 7 bf])]
def mgH : St := ⟨[(0, .sl false 10 ms), (6, .ptr 0 0 0), (8, .ptr 1 0 0), (22, .sl false 10 ms), (23, nat n), (24, nat j)], mgB bl bf s bk bi bs mass bt tf oo⟩
def mgE : St := ⟨[(0, .sl false 10 ms), (6, .ptr 0 0 0), (8, .ptr 1 0 0), (22, .sl false 10 ms), (23, nat n), (24, nat j), (25, boolX false)], mgB bl bf s bk bi bs mass bt tf oo⟩
def miH : St := ⟨[(6, .ptr 0 0 0), (8, .ptr 1 0 0), (47, .sl false 10 ms), (48, nat n), (49, nat j)], mgB bl bf s bk bi bs mass bt tf oo⟩
def miE : St := ⟨[(6, .ptr 0 0 0), (8, .ptr 1 0 0), (47, .sl false 10 ms), (48, nat n), (49, nat j), (50, boolX false)], mgB bl bf s bk bi bs mass bt tf oo⟩
theorem mg_canon : canon 0 (mgH ms bl bf s bk bi bs mass bt n j true []) = some (mgH ms bl bf s bk bi bs mass bt n j true []) := by kernel_rfl
theorem mi_canon : canon 0 (miH ms bl bf s bk bi bs mass bt n j tf oo) = some (miH ms bl bf s bk bi bs mass bt n j tf oo) := by kernel_rfl
theorem mg_end (h : ¬ j < n) : run (callF tab ext N) 0 N (loopAt 91 0) (mgH ms bl bf s bk bi bs mass bt n j true []) = some (.exit 0, mgE ms bl bf s bk bi bs mass bt n j true []) :=
  run_of [(25, .b false)] [] (pf1 (nlt_nat h)) (lo' := []) (by kernel_rfl)
theorem mi_end (h : ¬ j < n) : run (callF tab ext N) 0 N (loopAt 91 1) (miH ms bl bf s bk bi bs mass bt n j tf oo) = some (.exit 2, miE ms bl bf s bk bi bs mass bt n j tf oo) :=
  run_of [(50, .b false)] [] (pf1 (nlt_nat h)) (lo' := []) (by kernel_rfl)
theorem mg_round (m : Msg) (he : ms[j]? = some m.cells) (hj : j < n) (hn : n < 10000) (hm : 0 ≤ m.mass ∧ m.mass ≤ 100000) (h0 : 0 ≤ mass ∧ mass ≤ 1000000000) :
    ∃ υ, run (callF tab ext (N + 10)) 0 (N + 10) (loopAt 91 0) (mgH ms bl bf s bk bi bs mass bt n j true []) = some (.norm, υ) ∧ canon 0 υ = some (mgH ms bl bf s bk bi bs (mass + m.mass) bt n (j + 1) true []) := by
  have h1 := lt_nat hj
  have h2 := next_nat (j := j) (by omega)
  have h45 := heavy45 m.mass hm N
  have h3 : IntKind.i64.wrap (mass + m.mass) = mass + m.mass := by rw [IntKind.wrap_i64]; omega
  have h4 : decide (mass + m.mass > 1099511627776) = false := decide_eq_false (by omega)
  obtain ⟨⟨e2, sp⟩, mm, os, ⟨a1, a2, a3, a4, a5, a6⟩⟩ := m
  dsimp only at h3 h4 h45 ⊢
  generalize mass + mm = m1 at h3 h4 ⊢
  exact rd_of [(25, .b true), (26, .e (Msg.mk ⟨e2, sp⟩ mm os (.mk a1 a2 a3 a4 a5 a6)).cells), (30, .p (boolX false)), (36, .i m1), (37, .b false), (44, .i m1), (46, .i (Int.ofNat (j + 1)))] (pf7 h1 he h45 h3 h4 h3 h2) (by kernel_rfl)
theorem mi_round (m : Msg) (he : ms[j]? = some m.cells) (hj : j < n) (hn : n < 10000) (o1 : List (List X)) (hu : Gam.pureD (callF tab ext N) 121 [.sl false 1 oo, .sl false 1 (intsC m.orig)] = some (.sl false 1 o1)) :
    ∃ υ, run (callF tab ext N) 0 N (loopAt 91 1) (miH ms bl bf s bk bi bs mass bt n j tf oo) = some (.norm, υ) ∧ canon 0 υ = some (miH ms bl bf s bk bi bs mass bt n (j + 1) false o1) := by
  have h1 := lt_nat hj
  have h2 := next_nat (j := j) (by omega)
  obtain ⟨⟨e2, sp⟩, mm, os, ⟨a1, a2, a3, a4, a5, a6⟩⟩ := m
  exact rd_of [(50, .b true), (51, .e (Msg.mk ⟨e2, sp⟩ mm os (.mk a1 a2 a3 a4 a5 a6)).cells), (57, .p (.sl false 1 o1)), (59, .i (Int.ofNat (j + 1)))] (pf4 h1 he hu h2) (by kernel_rfl)
end
theorem merge91 (ms : List Msg) (zs : List Int) (h0 : 0 < ms.length) (hl : zs.length < 49) (hm : ∀ m, m ∈ ms → 0 ≤ m.mass ∧ m.mass ≤ 100000) (ho : ms.map (·.orig) = zs.map fun z => [z]) (hz : Inc zs) (s : Stp) (hs : s.ok) (v : Val) (hv : v.ok) (N : Nat) (hN : 61000 ≤ N) :
    Gam.pureD (callF tab ext N) 91 [.sl false 10 (msgsC ms), .agg s.cells, .agg v.cells] = some (.tup [.agg (Msg.mk s (massL ms) zs v).cells, num 0]) := by
  obtain ⟨M, rfl⟩ : ∃ M, N = M + 11 := ⟨N - 11, by omega⟩
  have hn := msgsC_length ms
  have hlz : ms.length = zs.length := by have := congrArg List.length ho; simpa using this
  have hc1 := clone_stamp (M + 8) s hs
  have hc2 := clone_val (M + 10) v (by unfold Val.ok at hv; omega) (by unfold Val.ok at hv; omega)
  obtain ⟨bk, bi, bs, bt, bl, bf⟩ := v
  have h1 : run (callF tab ext (M + 10)) 0 (M + 10) (.loop (loopAt 91 0)) (mgH (msgsC ms) (cellsL bl) (cellsF bf) s bk bi bs 0 bt (msgsC ms).length 0 true []) = some (.exit 0, mgE (msgsC ms) (cellsL bl) (cellsF bf) s bk bi bs (massL ms) bt (msgsC ms).length (msgsC ms).length true []) := by
    refine loop_for (σ := fun j => mgH (msgsC ms) (cellsL bl) (cellsF bf) s bk bi bs (massL (ms.take j)) bt (msgsC ms).length j true []) (k := (msgsC ms).length) (mg_canon ..) (fun j hj => ?_) ?_ (by simp) (by omega)
    · have hj' : j < ms.length := by omega
      rw [List.take_succ_eq_append_getElem hj', massL_snoc]
      have hb := massL_le (ms := ms.take j) fun m hx => hm m (List.mem_of_mem_take hx)
      rw [List.length_take] at hb
      exact mg_round _ _ _ s bk bi bs _ bt _ j M ms[j] (msgsC_get hj') hj (by omega) (hm _ (List.getElem_mem hj')) (by omega)
    · rw [List.take_of_length_le (by omega)]
      exact mg_end _ _ _ s bk bi bs _ bt _ _ (M + 10) (by omega)
  have h2 : run (callF tab ext (M + 10)) 0 (M + 10) (.loop (loopAt 91 1)) (miH (msgsC ms) (cellsL bl) (cellsF bf) s bk bi bs (massL ms) bt (msgsC ms).length 0 true []) = some (.exit 2, miE (msgsC ms) (cellsL bl) (cellsF bf) s bk bi bs (massL ms) bt (msgsC ms).length (msgsC ms).length false (intsC zs)) := by
    refine loop_for (σ := fun j => miH (msgsC ms) (cellsL bl) (cellsF bf) s bk bi bs (massL ms) bt (msgsC ms).length j (decide (j = 0)) (intsC (zs.take j))) (k := (msgsC ms).length) (mi_canon ..) (fun j hj => ?_) ?_ (by simp) (by omega)
    · have hj' : j < ms.length := by omega
      have hj2 : j < zs.length := by omega
      have e : ms[j].orig = [zs[j]] := by
        have := congrArg (fun l => l[j]?) ho
        simp only [List.getElem?_map, List.getElem?_eq_getElem hj', List.getElem?_eq_getElem hj2, Option.map_some, Option.some.injEq] at this
        exact this
      have hu := union121 (zs.take j) zs[j] (by rw [← List.take_succ_eq_append_getElem hj2]; exact hz.take) (by rw [List.length_take]; omega) (M + 10) (by omega)
      rw [← List.take_succ_eq_append_getElem hj2, ← e] at hu
      rw [show decide (j + 1 = 0) = false from decide_eq_false (by omega)]
      exact mi_round _ _ _ s bk bi bs _ bt _ j _ _ (M + 10) ms[j] (msgsC_get hj') hj (by omega) _ hu
    · rw [List.take_of_length_le (by omega), show decide ((msgsC ms).length = 0) = false from decide_eq_false (by omega)]
      exact mi_end _ _ _ s bk bi bs _ bt _ _ _ _ (M + 10) (by omega)
  have g1 : (Int.ofNat (msgsC ms).length == 0) = false := by simp only [Int.ofNat_eq_natCast, beq_eq_false_iff_ne, ne_eq]; omega
  have g2 : decide (Int.ofNat (intsC zs).length > 4096) = false := decide_eq_false (by rw [intsC_length]; simp only [Int.ofNat_eq_natCast]; omega)
  show _ = some (X.tup [.agg (num s.e :: .sl false 1 (intsC s.p) :: num (massL ms) :: .sl false 1 (intsC zs) :: (Val.mk bk bi bs bt bl bf).cells), num 0])
  generalize intsC zs = oz at *
  generalize massL ms = mz at *
  generalize msgsC ms = L at *
  have h1' : run (callF tab ext (M + 10)) 0 (M + 10) (.loop (loopAt 91 0)) ⟨[(0, .sl false 10 L), (6, .ptr 2 0 0), (8, .ptr 3 0 0), (22, .sl false 10 L), (23, nat L.length), (24, num 0)], [.var s.cells, .var (Val.mk bk bi bs bt bl bf).cells, .var ([num 0, .sl true 1 [], num 0, .sl true 1 [], num 0, num 0, num 0, strX ⟨#[]⟩, .sl true 6 [], .sl true 7 []]), .var ([num s.e, .sl false 1 (intsC s.p), num 0, .sl true 1 [], num bk, num bi, num bs, strX bt, .sl false 6 (cellsL bl), .sl false 7 (cellsF bf)])]⟩ = some (.exit 0, mgE L (cellsL bl) (cellsF bf) s bk bi bs mz bt L.length L.length true []) := by
    rw [← h1]
    exact loop_canon (by kernel_rfl) (mg_canon ..)
  obtain ⟨e, p⟩ := s
  exact pure_of [(15, .b false), (18, .p (.agg (Stp.mk e p).cells)), (20, .p (.agg (Val.mk bk bi bs bt bl bf).cells)), (63, .b false)] [(.exit 0, mgE L (cellsL bl) (cellsF bf) ⟨e, p⟩ bk bi bs mz bt L.length L.length true []), (.exit 2, miE L (cellsL bl) (cellsF bf) ⟨e, p⟩ bk bi bs mz bt L.length L.length false oz)] (pf6 g1 hc1 hc2 h1' h2 g2)
    (x := .tup [.agg (num e :: .sl false 1 (intsC p) :: num mz :: .sl false 1 oz :: (Val.mk bk bi bs bt bl bf).cells), num 0]) (bx := []) (by kernel_rfl) rfl
end Go.Proofs.YthphniobeigklaaGreatDoor.Ag

/- The condition 0 / body.n > 5, evaluated (bodies with a key). -/
namespace Go.Proofs.YthphniobeigklaaGreatDoor.Ag
open Go Go.Em Go.Proofs.YthphniobeigklaaGreatDoor
set_option maxRecDepth 100000
theorem c2_s0 (g w : Bool) (q : Int) (c k : Int) (es : List (List X)) (N : Nat) : Gam.pureD (callF tab ext (N + 400)) 39 [.agg c2X, envX (condFsG g w (some q, 0) es c k)] = some (.tup [boolX false, num 15]) := by kernel_rfl
theorem c2_s1 (g w : Bool) (q : Int) (c k : Int) (es : List (List X)) (N : Nat) : Gam.pureD (callF tab ext (N + 400)) 39 [.agg c2X, envX (condFsG g w (some q, 1) es c k)] = some (.tup [boolX false, num 0]) := by kernel_rfl
theorem c2_s2 (g w : Bool) (q : Int) (c k : Int) (es : List (List X)) (N : Nat) : Gam.pureD (callF tab ext (N + 400)) 39 [.agg c2X, envX (condFsG g w (some q, 2) es c k)] = some (.tup [boolX false, num 0]) := by kernel_rfl
theorem c2_s3 (g w : Bool) (q : Int) (c k : Int) (es : List (List X)) (N : Nat) : Gam.pureD (callF tab ext (N + 400)) 39 [.agg c2X, envX (condFsG g w (some q, 3) es c k)] = some (.tup [boolX false, num 0]) := by kernel_rfl
end Go.Proofs.YthphniobeigklaaGreatDoor.Ag

/- The condition 0 / body.n > 5, evaluated (bodies without one). -/
namespace Go.Proofs.YthphniobeigklaaGreatDoor.Ag
open Go Go.Em Go.Proofs.YthphniobeigklaaGreatDoor
set_option maxRecDepth 100000
theorem c2_n0 (g w : Bool) (c k : Int) (es : List (List X)) (N : Nat) : Gam.pureD (callF tab ext (N + 400)) 39 [.agg c2X, envX (condFsG g w (none, 0) es c k)] = some (.tup [boolX false, num 15]) := by kernel_rfl
theorem c2_n1 (g w : Bool) (c k : Int) (es : List (List X)) (N : Nat) : Gam.pureD (callF tab ext (N + 400)) 39 [.agg c2X, envX (condFsG g w (none, 1) es c k)] = some (.tup [boolX false, num 0]) := by kernel_rfl
theorem c2_n2 (g w : Bool) (c k : Int) (es : List (List X)) (N : Nat) : Gam.pureD (callF tab ext (N + 400)) 39 [.agg c2X, envX (condFsG g w (none, 2) es c k)] = some (.tup [boolX false, num 0]) := by kernel_rfl
theorem c2_n3 (g w : Bool) (c k : Int) (es : List (List X)) (N : Nat) : Gam.pureD (callF tab ext (N + 400)) 39 [.agg c2X, envX (condFsG g w (none, 3) es c k)] = some (.tup [boolX false, num 0]) := by kernel_rfl
end Go.Proofs.YthphniobeigklaaGreatDoor.Ag

/- A list of tight bodies is copied to one of bodies. -/
namespace Go.Proofs.YthphniobeigklaaGreatDoor.Ag
open Go Go.Em Go.Proofs.YthphniobeigklaaGreatDoor
set_option maxRecDepth 100000

section
variable (N : Nat) (k i s : Int) (t : ByteArray) (l f acc : List (List X)) (n j : Nat) (w : Bool) (b : Bd)
theorem cl_stepG (hv : Gam.pureD (callF tab ext N) 75 [.agg (bodyV b.1 b.2).cells] = some (.agg (bodyV b.1 b.2).cells)) (hi : l[j]? = some (bodyG w b.1 b.2)) (hj : j < n) (hn : n < 1000000) (ha : j = acc.length) :
    run (callF tab ext N) 0 N (loopAt 75 0) (clH k i s t l f acc n j) = some (.norm, clH' k i s t l f acc n j (bodyG w b.1 b.2) (bodyV b.1 b.2).cells) := by
  obtain ⟨o, m⟩ := b
  cases o with
  | none =>
    exact run_of [(15, .b true), (16, .e (bodyG w none m)), (21, .p (.agg (bodyV none m).cells)), (23, .app), (25, .i (Int.ofNat (j + 1)))] []
      (pf5 (lt_nat hj) hi hv (app_ok j 3 88 ha (by omega) (by omega)) (next_nat (j := j) (by omega))) (lo' := []) (by kernel_rfl)
  | some q =>
    exact run_of [(15, .b true), (16, .e (bodyG w (some q) m)), (21, .p (.agg (bodyV (some q) m).cells)), (23, .app), (25, .i (Int.ofNat (j + 1)))] []
      (pf5 (lt_nat hj) hi hv (app_ok j 3 88 ha (by omega) (by omega)) (next_nat (j := j) (by omega))) (lo' := []) (by kernel_rfl)
end
theorem cl_endF (N : Nat) (m : Nat) (es : List (List X)) : run (callF tab ext N) 0 N (loopAt 75 1) (cfH 8 0 0 ⟨#[]⟩ [] es [] 0 0 m) = some (.exit 2, cfE 8 0 0 ⟨#[]⟩ [] es [] 0 0 m) := cf_end N 8 0 0 ⟨#[]⟩ [] es [] 0 m
theorem clone_items (w : Bool) (l : List Bd) (hl : l.length ≤ 1000) (N : Nat) (hN : 2000 ≤ N) :
    Gam.pureD (callF tab ext N) 75 [.agg (itemsC (bdG w l))] = some (.agg (itemsC (bdC l))) := by
  obtain ⟨M, rfl⟩ : ∃ M, N = M + 1 := ⟨N - 1, by omega⟩
  obtain ⟨K, rfl⟩ : ∃ K, M = K + 1 := ⟨M - 1, by omega⟩
  have hn := bdG_len w l
  have hn2 := bdC_len l
  have h1 : run (callF tab ext (K + 1)) 0 (K + 1) (.loop (loopAt 75 0)) (clH 8 0 0 ⟨#[]⟩ (bdG w l) [] [] (bdG w l).length 0) = some (.exit 0, clE 8 0 0 ⟨#[]⟩ (bdG w l) [] (bdC l) (bdG w l).length (bdG w l).length) := by
    refine loop_for (σ := fun j => clH 8 0 0 ⟨#[]⟩ (bdG w l) [] ((bdC l).take j) (bdG w l).length j) (k := (bdG w l).length) (cl_canon _ _ _ _ _ _ _ _ _) (fun j hj => ?_) ?_ (by simp) (by omega)
    · have hj' : j < l.length := by omega
      have hg := bdG_get w hj'
      have hc := bdC_get hj'
      refine ⟨_, cl_stepG (K + 1) 8 0 0 ⟨#[]⟩ _ _ _ _ j w l[j] (clone_body l[j] (K + 1) (by omega)) hg (by omega) (by omega) (by rw [List.length_take]; omega), ?_⟩
      rw [← take_succ_get hc]
      exact cl_canon' 8 0 0 ⟨#[]⟩ _ _ _ _ j _ _
    · rw [List.take_of_length_le (by omega)]
      exact cl_end (K + 1) 8 0 0 ⟨#[]⟩ _ _ _ _
  have h2 : run (callF tab ext (K + 1)) 0 (K + 1) (.loop (loopAt 75 1)) ⟨[(2, .ptr 1 0 0), (3, .ptr 2 0 0), (27, .sl false 7 []), (28, nat 0), (29, nat 0)], [.var [num 8, num 0, num 0, strX ⟨#[]⟩, .sl false 6 (bdG w l), .sl false 7 []], .var zVal, .var [num 8, num 0, num 0, strX ⟨#[]⟩, .bs 3 0 (bdG w l).length, .bs 4 0 0], .row 6 (bdC l), .row 7 []]⟩ = some (.exit 2, cfE 8 0 0 ⟨#[]⟩ [] (bdC l) [] 0 0 (bdG w l).length) :=
    (loop_canon (by kernel_rfl) (cf_canon 8 0 0 ⟨#[]⟩ [] (bdC l) [] 0 0 (bdG w l).length)).trans (iter_end (cf_canon 8 0 0 ⟨#[]⟩ [] (bdC l) [] 0 0 (bdG w l).length) (cl_endF (K + 1) (bdG w l).length (bdC l)) (by simp))
  have h3 : (X.agg [num 8, num 0, num 0, strX ⟨#[]⟩, .bs 0 0 (bdG w l).length, .bs 1 0 0]).data [.row 6 (bdC l), .row 7 []] false = some (.agg (itemsC (bdC l))) :=
    data_agg (dataL_cons rfl (dataL_cons rfl (dataL_cons rfl (dataL_cons rfl (dataL_cons (data_bs rfl (by omega)) rfl)))))
  exact pure_of [] [(.exit 0, clE 8 0 0 ⟨#[]⟩ (bdG w l) [] (bdC l) (bdG w l).length (bdG w l).length), (.exit 2, cfE 8 0 0 ⟨#[]⟩ [] (bdC l) [] 0 0 (bdG w l).length)]
      (pf2 h1 h2) (bx := [.row 6 (bdC l), .row 7 []]) (by kernel_rfl) h3
theorem list120G (w : Bool) (l : List Bd) (hl : l.length ≤ 256) (N : Nat) (hN : 7001 ≤ N) : Gam.pureD (callF tab ext N) 120 [.sl false 6 (bdG w l)] = some (.agg (itemsC (bdC l))) := by
  obtain ⟨M, rfl⟩ : ∃ M, N = M + 1 := ⟨N - 1, by omega⟩
  have h1 := clone_items w l (by omega) M (by omega)
  exact pure_of [(5, .p (.agg (itemsC (bdC l))))] [] (pf1 h1) (x := .agg (itemsC (bdC l))) (bx := []) (by kernel_rfl) rfl
theorem group90G (w : Bool) (l : List Bd) (hl : l.length ≤ 256) (k : Int) (N : Nat) (hN : 8000 ≤ N) : Gam.pureD (callF tab ext N) 90 [.agg (kv k).cells, .sl false 6 (bdG w l)] = some (envX (groupFs (bdC l) (l.length : Nat) k)) := by
  obtain ⟨M, rfl⟩ : ∃ M, N = M + 202 := ⟨N - 202, by omega⟩
  have h1 := list120G w l hl (M + 201) (by omega)
  have hs := groupV_size l hl k
  have h2 := clone_val (M + 200) (groupV l k) (by omega) (by omega)
  rw [groupV_cells] at h2
  have h3 := rec97 (bdC l) (l.length : Nat) k M h2
  have hn := bdG_len w l
  rw [← hn] at h3 ⊢
  generalize bdC l = es at *
  generalize bdG w l = fs at *
  exact pure_of [(10, .p (.agg (itemsC es))), (15, .p (envX (groupFs es (fs.length : Nat) k)))] [] (pf2 h1 h3) (x := envX (groupFs es (fs.length : Nat) k)) (bx := []) (by kernel_rfl) rfl
end Go.Proofs.YthphniobeigklaaGreatDoor.Ag

/- aggregator.complete as a whole. -/
namespace Go.Proofs.YthphniobeigklaaGreatDoor.Ag
open Go Go.Em Go.Proofs.YthphniobeigklaaGreatDoor
set_option maxRecDepth 100000

theorem cond_c2g (g w : Bool) (b : Bd) (hb : b.2 < 4) (c k : Int) (es : List (List X)) (N : Nat) (hN : 400 ≤ N) : Gam.pureD (callF tab ext N) 39 [.agg c2X, envX (condFsG g w b es c k)] = some (.tup [boolX false, num (if b.2 = 0 then 15 else 0)]) := by
  obtain ⟨M, rfl⟩ : ∃ M, N = M + 400 := ⟨N - 400, by omega⟩
  obtain ⟨o, n⟩ := b
  have h4 : n = 0 ∨ n = 1 ∨ n = 2 ∨ n = 3 := by dsimp only at hb; omega
  cases o with
  | none =>
    rcases h4 with rfl | rfl | rfl | rfl
    · exact c2_n0 g w c k es M
    · exact c2_n1 g w c k es M
    · exact c2_n2 g w c k es M
    · exact c2_n3 g w c k es M
  | some q =>
    rcases h4 with rfl | rfl | rfl | rfl
    · exact c2_s0 g w q c k es M
    · exact c2_s1 g w q c k es M
    · exact c2_s2 g w q c k es M
    · exact c2_s3 g w q c k es M
theorem cond_c2 (b : Bd) (hb : b.2 < 4) (c k : Int) (es : List (List X)) (N : Nat) (hN : 400 ≤ N) : Gam.pureD (callF tab ext N) 39 [.agg c2X, envX (condFs b es c k)] = some (.tup [boolX false, num (if b.2 = 0 then 15 else 0)]) := by
  rw [condFs_G]
  exact cond_c2g false false b hb c k es N hN
/-- What the condition says. -/
def condR (cd : Nat) (l : List Bd) (b : Bd) : Bool × Int := match cd with
  | 1 => (decide (5 < sumN (nsOf l)), 0)
  | 2 => (false, if b.2 = 0 then 15 else 0)
  | _ => (false, 0)
def compR (nu : Int) (cd : Nat) (l : List Bd) (b : Bd) : Bool × Int := if 0 < nu ∧ nu ≤ (l.length : Int) then (true, 0) else condR cd l b
section
variable (nu ti li : Int) (ty ru : List (List X)) (l : List Bd) (b : Bd) (k : Int)
theorem r110 (w : Bool) (cd : Nat) (hcd : cd < 4) (ht : Tiny (nsOf l)) (hl : l.length ≤ 256) (h0 : 0 < l.length) (hlast : l[l.length - 1]? = some b) (N : Nat) (hN : 9000 ≤ N) :
    Gam.pureD (callF tab ext N) 110 [.agg (nodX nu ti li (exN cd) ty ru), .agg (kv k).cells, .sl false 6 (bdG w l)] = some (.tup [boolX (condR cd l b).1, num (condR cd l b).2]) := by
  obtain ⟨M, rfl⟩ : ∃ M, N = M + 400 := ⟨N - 400, by omega⟩
  have hlt : l.length - 1 < l.length := by omega
  have hb : l[l.length - 1] = b := by
    rw [List.getElem?_eq_getElem hlt] at hlast
    exact Option.some.inj hlast
  have hb4 : b.2 < 4 := ht _ (List.mem_map.2 ⟨b, by rw [← hb]; exact List.getElem_mem _, rfl⟩)
  have h90 := group90G w l hl k (M + 399) (by omega)
  have h111 := withAt b l hl k (M + 399) (by omega)
  have hg := bdG_get w hlt
  rw [hb] at hg
  have hc1 := cond_c1 (condEnv b l (l.length : Nat) k) ht h0 hl (M + 399) (by omega)
  have hc2 := cond_c2 b hb4 (l.length : Nat) k (bdC l) (M + 399) (by omega)
  rw [← bdG_len w l] at h90 h111 hg hc1 hc2
  have hsub : IntKind.i64.wrap (Int.ofNat (bdG w l).length - 1) = Int.ofNat ((bdG w l).length - 1) := by rw [IntKind.wrap_i64]; have := bdG_len w l; simp only [Int.ofNat_eq_natCast]; omega
  have h4 : cd = 0 ∨ cd = 1 ∨ cd = 2 ∨ cd = 3 := by omega
  generalize bdC l = es at *
  generalize bdG w l = fs at *
  obtain ⟨o, n⟩ := b
  rcases h4 with rfl | rfl | rfl | rfl
  · exact pure_of [] [] pf0 (x := .tup [boolX false, num 0]) (bx := []) (by kernel_rfl) rfl
  · show _ = some (X.tup [boolX (decide (5 < sumN (nsOf l))), num 0])
    generalize sumN (nsOf l) = s at *
    cases o with
    | none => exact pure_of [(17, .p (envX (groupFs es (fs.length : Nat) k))), (21, .i (Int.ofNat (fs.length - 1))), (22, .e (bodyG w none n)), (24, .p (.tup [envX (condFs (none, n) es (fs.length : Nat) k), num 0])), (37, .p (.tup [boolX (decide (5 < s)), num 0]))] [] (pf5 h90 hsub hg h111 hc1) (x := .tup [boolX (decide (5 < s)), num 0]) (bx := []) (by kernel_rfl) rfl
    | some q => exact pure_of [(17, .p (envX (groupFs es (fs.length : Nat) k))), (21, .i (Int.ofNat (fs.length - 1))), (22, .e (bodyG w (some q) n)), (24, .p (.tup [envX (condFs (some q, n) es (fs.length : Nat) k), num 0])), (37, .p (.tup [boolX (decide (5 < s)), num 0]))] [] (pf5 h90 hsub hg h111 hc1) (x := .tup [boolX (decide (5 < s)), num 0]) (bx := []) (by kernel_rfl) rfl
  · show _ = some (X.tup [boolX false, num (if (o, n).2 = 0 then 15 else 0)])
    generalize (if (o, n).2 = 0 then (15 : Int) else 0) = e at *
    cases o with
    | none => exact pure_of [(17, .p (envX (groupFs es (fs.length : Nat) k))), (21, .i (Int.ofNat (fs.length - 1))), (22, .e (bodyG w none n)), (24, .p (.tup [envX (condFs (none, n) es (fs.length : Nat) k), num 0])), (37, .p (.tup [boolX false, num e]))] [] (pf5 h90 hsub hg h111 hc2) (x := .tup [boolX false, num e]) (bx := []) (by kernel_rfl) rfl
    | some q => exact pure_of [(17, .p (envX (groupFs es (fs.length : Nat) k))), (21, .i (Int.ofNat (fs.length - 1))), (22, .e (bodyG w (some q) n)), (24, .p (.tup [envX (condFs (some q, n) es (fs.length : Nat) k), num 0])), (37, .p (.tup [boolX false, num e]))] [] (pf5 h90 hsub hg h111 hc2) (x := .tup [boolX false, num e]) (bx := []) (by kernel_rfl) rfl
  · exact pure_of [] [] pf0 (x := .tup [boolX false, num 0]) (bx := []) (by kernel_rfl) rfl
/-! ### The two tests, one after the other -/
def coH (es : List (List X)) (cd j : Nat) : St := ⟨[(2, .sl false 6 es), (3, .ptr 0 0 0), (4, .ptr 1 0 0), (12, .sl false 1 [[.fn 108 []], [.fn 110 []]]), (13, nat 2), (14, nat j)], [.var (nodX nu ti li (exN cd) ty ru), .var (kv k).cells]⟩
def coR (cd : Nat) (x : Bool) (e : Int) : St := ⟨[(6, boolX x), (7, num e)], [.var (nodX nu ti li (exN cd) ty ru), .var (kv k).cells]⟩
def coE (es : List (List X)) (cd : Nat) : St := ⟨[(2, .sl false 6 es), (3, .ptr 0 0 0), (4, .ptr 1 0 0), (12, .sl false 1 [[.fn 108 []], [.fn 110 []]]), (13, nat 2), (14, nat 2), (15, boolX false)], [.var (nodX nu ti li (exN cd) ty ru), .var (kv k).cells]⟩
theorem co_canon (es : List (List X)) (cd j : Nat) : canon 0 (coH nu ti li ty ru k es cd j) = some (coH nu ti li ty ru k es cd j) := by kernel_rfl
section
variable (es : List (List X)) (cd : Nat) (N : Nat)
theorem co_0t (h : Gam.pureD (callF tab ext N) 108 [.agg (nodX nu ti li (exN cd) ty ru), .agg (kv k).cells, .sl false 6 es] = some (.tup [boolX true, num 0])) : ∃ υ, run (callF tab ext N) 0 N (loopAt 38 0) (coH nu ti li ty ru k es cd 0) = some (.ret, υ) ∧ υ = coR nu ti li ty ru k cd true 0 :=
  ⟨_, run_of [(23, .p (.tup [boolX true, num 0]))] [] (pf1 h) (lo' := []) (by kernel_rfl), rfl⟩
theorem co_0f (h : Gam.pureD (callF tab ext N) 108 [.agg (nodX nu ti li (exN cd) ty ru), .agg (kv k).cells, .sl false 6 es] = some (.tup [boolX false, num 0])) : ∃ υ, run (callF tab ext N) 0 N (loopAt 38 0) (coH nu ti li ty ru k es cd 0) = some (.norm, υ) ∧ canon 0 υ = some (coH nu ti li ty ru k es cd 1) :=
  rd_of [(23, .p (.tup [boolX false, num 0]))] (pf1 h) (by kernel_rfl)
theorem co_1t (x : Bool) (e : Int) (h : Gam.pureD (callF tab ext N) 110 [.agg (nodX nu ti li (exN cd) ty ru), .agg (kv k).cells, .sl false 6 es] = some (.tup [boolX x, num e])) (hx : x = true ∨ e ≠ 0) : run (callF tab ext N) 0 N (loopAt 38 0) (coH nu ti li ty ru k es cd 1) = some (.ret, coR nu ti li ty ru k cd x e) := by
  cases x with
  | true => exact run_of [(23, .p (.tup [boolX true, num e]))] [] (pf1 h) (lo' := []) (by kernel_rfl)
  | false =>
    have h1 : (e != 0) = true := by simpa using hx
    exact run_of [(23, .p (.tup [boolX false, num e])), (29, .b true)] [] (pf2 h h1) (lo' := []) (by kernel_rfl)
theorem co_1f (h : Gam.pureD (callF tab ext N) 110 [.agg (nodX nu ti li (exN cd) ty ru), .agg (kv k).cells, .sl false 6 es] = some (.tup [boolX false, num 0])) : ∃ υ, run (callF tab ext N) 0 N (loopAt 38 0) (coH nu ti li ty ru k es cd 1) = some (.norm, υ) ∧ canon 0 υ = some (coH nu ti li ty ru k es cd 2) :=
  rd_of [(23, .p (.tup [boolX false, num 0]))] (pf1 h) (by kernel_rfl)
theorem co_end : run (callF tab ext N) 0 N (loopAt 38 0) (coH nu ti li ty ru k es cd 2) = some (.exit 0, coE nu ti li ty ru k es cd) :=
  run_of [] [] pf0 (lo' := []) (by kernel_rfl)
end
theorem r108 (cd : Nat) (es : List (List X)) (N : Nat) : Gam.pureD (callF tab ext (N + 11)) 108 [.agg (nodX nu ti li (exN cd) ty ru), .agg (kv k).cells, .sl false 6 es] = some (.tup [boolX (decide (0 < nu ∧ nu ≤ (es.length : Int))), num 0]) := by
  have h := enough109 nu ti li (exN cd) ty ru es.length N
  generalize decide (0 < nu ∧ nu ≤ (es.length : Int)) = x at *
  exact pure_of [(11, .p (boolX x))] [] (pf1 h) (x := .tup [boolX x, num 0]) (bx := []) (by kernel_rfl) rfl
theorem complete38 (w : Bool) (cd : Nat) (hcd : cd < 4) (ht : Tiny (nsOf l)) (hl : l.length ≤ 256) (h0 : 0 < l.length) (hlast : l[l.length - 1]? = some b) (N : Nat) (hN : 9100 ≤ N) :
    Gam.pureD (callF tab ext N) 38 [.agg (nodX nu ti li (exN cd) ty ru), .agg (kv k).cells, .sl false 6 (bdG w l)] = some (.tup [boolX (compR nu cd l b).1, num (compR nu cd l b).2]) := by
  obtain ⟨M, rfl⟩ : ∃ M, N = M + 12 := ⟨N - 12, by omega⟩
  have h1 := r108 nu ti li ty ru k cd (bdG w l) M
  have h2 := r110 nu ti li ty ru l b k w cd hcd ht hl h0 hlast (M + 11) (by omega)
  rw [bdG_len] at h1
  have fin : ∀ x e, run (callF tab ext (M + 11)) 0 (M + 11) (.loop (loopAt 38 0)) (coH nu ti li ty ru k (bdG w l) cd 0) = some (.ret, coR nu ti li ty ru k cd x e) → Gam.pureD (callF tab ext (M + 12)) 38 [.agg (nodX nu ti li (exN cd) ty ru), .agg (kv k).cells, .sl false 6 (bdG w l)] = some (.tup [boolX x, num e]) := fun x e h =>
    pure_of [] [(.ret, coR nu ti li ty ru k cd x e)] (pf1 h) (x := .tup [boolX x, num e]) (bx := []) (by kernel_rfl) rfl
  unfold compR
  by_cases hc : 0 < nu ∧ nu ≤ (l.length : Int)
  · rw [if_pos hc]
    rw [decide_eq_true hc] at h1
    obtain ⟨υ, h3, rfl⟩ := co_0t nu ti li ty ru k (bdG w l) cd (M + 11) h1
    exact fin true 0 (iter_end (co_canon nu ti li ty ru k (bdG w l) cd 0) h3 (by simp))
  · rw [if_neg hc]
    rw [decide_eq_false hc] at h1
    obtain ⟨υ, h3, h4⟩ := co_0f nu ti li ty ru k (bdG w l) cd (M + 11) h1
    generalize condR cd l b = q at *
    obtain ⟨x, e⟩ := q
    dsimp only at h2 ⊢
    by_cases hq : x = true ∨ e ≠ 0
    · exact fin x e (iter_step (co_canon nu ti li ty ru k (bdG w l) cd 0) h3 (iter_end h4 (co_1t nu ti li ty ru k (bdG w l) cd (M + 11) x e h2 hq) (by simp)))
    · have hx : x = false := by cases x with | true => exact absurd (.inl rfl) hq | false => rfl
      have he : e = 0 := by by_cases h : e = 0; exact h; exact absurd (.inr h) hq
      subst hx
      subst he
      obtain ⟨υ2, h5, h6⟩ := co_1f nu ti li ty ru k (bdG w l) cd (M + 11) h2
      have h7 : run (callF tab ext (M + 11)) 0 (M + 11) (.loop (loopAt 38 0)) (coH nu ti li ty ru k (bdG w l) cd 0) = some (.exit 0, coE nu ti li ty ru k (bdG w l) cd) := iter_step (co_canon nu ti li ty ru k (bdG w l) cd 0) h3 (iter_step h4 h5 (iter_end h6 (co_end nu ti li ty ru k (bdG w l) cd (M + 11)) (by simp)))
      exact pure_of [] [(.exit 0, coE nu ti li ty ru k (bdG w l) cd)] (pf1 h7) (x := .tup [boolX false, num 0]) (bx := []) (by kernel_rfl) rfl
end
end Go.Proofs.YthphniobeigklaaGreatDoor.Ag

/- aggregator.Complete and the model's complete. -/
namespace Go.Proofs.YthphniobeigklaaGreatDoor.Ag
open Go Go.Em Go.Proofs.YthphniobeigklaaGreatDoor
set_option maxRecDepth 100000

section
variable (nu ti li : Int) (ty ru : List (List X)) (l : List Bd) (b : Bd) (k : Int)
theorem complete18_0 (cd : Nat) (es : List (List X)) (h : es.length = 0) (N : Nat) : Gam.pureD (callF tab ext (N + 10)) 18 [.agg (nodX nu ti li (exN cd) ty ru), .agg (kv k).cells, .sl false 6 es] = some (.tup [boolX false, num 4]) := by
  have h1 : (Int.ofNat es.length == 0) = true := by rw [h]; rfl
  exact pure_of [(11, .b true)] [] (pf1 h1) (x := .tup [boolX false, num 4]) (bx := []) (by kernel_rfl) rfl
theorem complete18_m (cd : Nat) (es : List (List X)) (h : 256 < es.length) (N : Nat) : Gam.pureD (callF tab ext (N + 10)) 18 [.agg (nodX nu ti li (exN cd) ty ru), .agg (kv k).cells, .sl false 6 es] = some (.tup [boolX false, num 9]) := by
  have h1 : (Int.ofNat es.length == 0) = false := by simp only [Int.ofNat_eq_natCast, beq_eq_false_iff_ne, ne_eq]; omega
  have h2 : decide (Int.ofNat es.length > 256) = true := decide_eq_true (by simp only [Int.ofNat_eq_natCast]; omega)
  exact pure_of [(11, .b false), (15, .b true)] [] (pf2 h1 h2) (x := .tup [boolX false, num 9]) (bx := []) (by kernel_rfl) rfl
theorem complete18 (w : Bool) (cd : Nat) (hcd : cd < 4) (ht : Tiny (nsOf l)) (hl : l.length ≤ 256) (h0 : 0 < l.length) (hlast : l[l.length - 1]? = some b) (N : Nat) (hN : 9200 ≤ N) :
    Gam.pureD (callF tab ext N) 18 [.agg (nodX nu ti li (exN cd) ty ru), .agg (kv k).cells, .sl false 6 (bdG w l)] = some (.tup [boolX (compR nu cd l b).1, num (compR nu cd l b).2]) := by
  obtain ⟨M, rfl⟩ : ∃ M, N = M + 10 := ⟨N - 10, by omega⟩
  have h3 := complete38 nu ti li ty ru l b k w cd hcd ht hl h0 hlast (M + 9) (by omega)
  have hn := bdG_len w l
  have h1 : (Int.ofNat (bdG w l).length == 0) = false := by simp only [Int.ofNat_eq_natCast, beq_eq_false_iff_ne, ne_eq]; omega
  have h2 : decide (Int.ofNat (bdG w l).length > 256) = false := decide_eq_false (by simp only [Int.ofNat_eq_natCast]; omega)
  generalize compR nu cd l b = q at *
  obtain ⟨x, e⟩ := q
  dsimp only at h3 ⊢
  generalize bdG w l = es at *
  exact pure_of [(11, .b false), (15, .b false), (19, .p (.tup [boolX x, num e]))] [] (pf3 h1 h2 h3) (x := .tup [boolX x, num e]) (bx := []) (by kernel_rfl) rfl
theorem m19_t (cd : Nat) (es : List (List X)) (h : 0 < nu ∧ nu ≤ (es.length : Int)) (N : Nat) : Gam.pureD (callF tab ext (N + 10)) 19 [.agg (nodX nu ti li (exN cd) ty ru), .agg (kv k).cells, .sl false 6 es] = some (.tup [boolX true, num 0]) := by
  have h1 : decide (nu > 0) = true := decide_eq_true h.1
  have h2 : decide (Int.ofNat es.length ≥ nu) = true := decide_eq_true h.2
  exact pure_of [(11, .b true), (17, .b true)] [] (pf2 h1 h2) (x := .tup [boolX true, num 0]) (bx := []) (by kernel_rfl) rfl
theorem m19_0 (cd : Nat) (hcd : cd = 0 ∨ cd = 3) (es : List (List X)) (h : ¬ (0 < nu ∧ nu ≤ (es.length : Int))) (N : Nat) : Gam.pureD (callF tab ext (N + 10)) 19 [.agg (nodX nu ti li (exN cd) ty ru), .agg (kv k).cells, .sl false 6 es] = some (.tup [boolX false, num 0]) := by
  by_cases h1 : 0 < nu
  · have h2 : decide (nu > 0) = true := decide_eq_true h1
    have h3 : decide (Int.ofNat es.length ≥ nu) = false := decide_eq_false fun h4 => h ⟨h1, h4⟩
    rcases hcd with rfl | rfl
    · exact pure_of [(11, .b true), (17, .b false)] [] (pf2 h2 h3) (x := .tup [boolX false, num 0]) (bx := []) (by kernel_rfl) rfl
    · exact pure_of [(11, .b true), (17, .b false)] [] (pf2 h2 h3) (x := .tup [boolX false, num 0]) (bx := []) (by kernel_rfl) rfl
  · have h2 : decide (nu > 0) = false := decide_eq_false h1
    rcases hcd with rfl | rfl
    · exact pure_of [(11, .b false)] [] (pf1 h2) (x := .tup [boolX false, num 0]) (bx := []) (by kernel_rfl) rfl
    · exact pure_of [(11, .b false)] [] (pf1 h2) (x := .tup [boolX false, num 0]) (bx := []) (by kernel_rfl) rfl
theorem m19_1 (w : Bool) (es : List (List X)) (h : ¬ (0 < nu ∧ nu ≤ (es.length : Int))) (m : Nat) (x : Bool) (e : Int) (N : Nat)
    (hsub : IntKind.i64.wrap (Int.ofNat es.length - 1) = Int.ofNat m) (hg : es[m]? = some (bodyG w b.1 b.2))
    (hc : Gam.pureD (callF tab ext (N + 299)) 39 [.agg c1X, envX (condFsG true w b es (es.length : Nat) k)] = some (.tup [boolX x, num e])) :
    Gam.pureD (callF tab ext (N + 300)) 19 [.agg (nodX nu ti li (exN 1) ty ru), .agg (kv k).cells, .sl false 6 es] = some (.tup [boolX x, num e]) := by
  obtain ⟨o, n⟩ := b
  by_cases h1 : 0 < nu
  · have h2 : decide (nu > 0) = true := decide_eq_true h1
    have h3 : decide (Int.ofNat es.length ≥ nu) = false := decide_eq_false fun h4 => h ⟨h1, h4⟩
    cases o with
    | none => exact pure_of [(11, .b true), (17, .b false), (26, .i (Int.ofNat m)), (27, .e (bodyG w none n)), (46, .p (.tup [boolX x, num e]))] [] (pf5 h2 h3 hsub hg hc) (x := .tup [boolX x, num e]) (bx := []) (by kernel_rfl) rfl
    | some q => exact pure_of [(11, .b true), (17, .b false), (26, .i (Int.ofNat m)), (27, .e (bodyG w (some q) n)), (46, .p (.tup [boolX x, num e]))] [] (pf5 h2 h3 hsub hg hc) (x := .tup [boolX x, num e]) (bx := []) (by kernel_rfl) rfl
  · have h2 : decide (nu > 0) = false := decide_eq_false h1
    cases o with
    | none => exact pure_of [(11, .b false), (26, .i (Int.ofNat m)), (27, .e (bodyG w none n)), (46, .p (.tup [boolX x, num e]))] [] (pf4 h2 hsub hg hc) (x := .tup [boolX x, num e]) (bx := []) (by kernel_rfl) rfl
    | some q => exact pure_of [(11, .b false), (26, .i (Int.ofNat m)), (27, .e (bodyG w (some q) n)), (46, .p (.tup [boolX x, num e]))] [] (pf4 h2 hsub hg hc) (x := .tup [boolX x, num e]) (bx := []) (by kernel_rfl) rfl
theorem m19_2 (w : Bool) (es : List (List X)) (h : ¬ (0 < nu ∧ nu ≤ (es.length : Int))) (m : Nat) (x : Bool) (e : Int) (N : Nat)
    (hsub : IntKind.i64.wrap (Int.ofNat es.length - 1) = Int.ofNat m) (hg : es[m]? = some (bodyG w b.1 b.2))
    (hc : Gam.pureD (callF tab ext (N + 299)) 39 [.agg c2X, envX (condFsG true w b es (es.length : Nat) k)] = some (.tup [boolX x, num e])) :
    Gam.pureD (callF tab ext (N + 300)) 19 [.agg (nodX nu ti li (exN 2) ty ru), .agg (kv k).cells, .sl false 6 es] = some (.tup [boolX x, num e]) := by
  obtain ⟨o, n⟩ := b
  by_cases h1 : 0 < nu
  · have h2 : decide (nu > 0) = true := decide_eq_true h1
    have h3 : decide (Int.ofNat es.length ≥ nu) = false := decide_eq_false fun h4 => h ⟨h1, h4⟩
    cases o with
    | none => exact pure_of [(11, .b true), (17, .b false), (26, .i (Int.ofNat m)), (27, .e (bodyG w none n)), (46, .p (.tup [boolX x, num e]))] [] (pf5 h2 h3 hsub hg hc) (x := .tup [boolX x, num e]) (bx := []) (by kernel_rfl) rfl
    | some q => exact pure_of [(11, .b true), (17, .b false), (26, .i (Int.ofNat m)), (27, .e (bodyG w (some q) n)), (46, .p (.tup [boolX x, num e]))] [] (pf5 h2 h3 hsub hg hc) (x := .tup [boolX x, num e]) (bx := []) (by kernel_rfl) rfl
  · have h2 : decide (nu > 0) = false := decide_eq_false h1
    cases o with
    | none => exact pure_of [(11, .b false), (26, .i (Int.ofNat m)), (27, .e (bodyG w none n)), (46, .p (.tup [boolX x, num e]))] [] (pf4 h2 hsub hg hc) (x := .tup [boolX x, num e]) (bx := []) (by kernel_rfl) rfl
    | some q => exact pure_of [(11, .b false), (26, .i (Int.ofNat m)), (27, .e (bodyG w (some q) n)), (46, .p (.tup [boolX x, num e]))] [] (pf4 h2 hsub hg hc) (x := .tup [boolX x, num e]) (bx := []) (by kernel_rfl) rfl
theorem model19 (w : Bool) (cd : Nat) (hcd : cd < 4) (ht : Tiny (nsOf l)) (hl : l.length ≤ 256) (h0 : 0 < l.length) (hlast : l[l.length - 1]? = some b) (N : Nat) (hN : 9200 ≤ N) :
    Gam.pureD (callF tab ext N) 19 [.agg (nodX nu ti li (exN cd) ty ru), .agg (kv k).cells, .sl false 6 (bdG w l)] = some (.tup [boolX (compR nu cd l b).1, num (compR nu cd l b).2]) := by
  obtain ⟨M, rfl⟩ : ∃ M, N = M + 300 := ⟨N - 300, by omega⟩
  have hlt : l.length - 1 < l.length := by omega
  have hb : l[l.length - 1] = b := by
    rw [List.getElem?_eq_getElem hlt] at hlast
    exact Option.some.inj hlast
  have hb4 : b.2 < 4 := ht _ (List.mem_map.2 ⟨b, by rw [← hb]; exact List.getElem_mem _, rfl⟩)
  have hg := bdG_get w hlt
  rw [hb] at hg
  have hn := bdG_len w l
  have hsub : IntKind.i64.wrap (Int.ofNat (bdG w l).length - 1) = Int.ofNat (l.length - 1) := by rw [IntKind.wrap_i64]; simp only [Int.ofNat_eq_natCast]; omega
  unfold compR
  by_cases hc : 0 < nu ∧ nu ≤ (l.length : Int)
  · rw [if_pos hc]
    exact m19_t nu ti li ty ru k cd (bdG w l) (by rw [hn]; exact hc) (M + 290)
  · rw [if_neg hc]
    have hc' : ¬ (0 < nu ∧ nu ≤ ((bdG w l).length : Int)) := by rw [hn]; exact hc
    have h4 : cd = 0 ∨ cd = 1 ∨ cd = 2 ∨ cd = 3 := by omega
    rcases h4 with rfl | rfl | rfl | rfl
    · exact m19_0 nu ti li ty ru k 0 (.inl rfl) (bdG w l) hc' (M + 290)
    · exact m19_1 nu ti li ty ru b k w (bdG w l) hc' _ _ _ M hsub hg (by
        rw [hn]
        exact cond_c1 (condEnvG true w b l (l.length : Nat) k) ht h0 hl (M + 299) (by omega))
    · exact m19_2 nu ti li ty ru b k w (bdG w l) hc' _ _ _ M hsub hg (by
        rw [hn]
        exact cond_c2g true w b hb4 (l.length : Nat) k (bdG w l) (M + 299) (by omega))
    · exact m19_0 nu ti li ty ru k 3 (.inr rfl) (bdG w l) hc' (M + 290)
end
end Go.Proofs.YthphniobeigklaaGreatDoor.Ag

/- The node of a sketch. -/
namespace Go.Proofs.YthphniobeigklaaGreatDoor.Ag
open Go Go.Em Go.Proofs.YthphniobeigklaaGreatDoor
set_option maxRecDepth 100000

def u8X (n : Int) : X := .v (.int .u8 n)
def skX (a b c d e : Int) : X := .agg [u8X a, u8X b, u8X c, u8X d, u8X e]
/-- The fields of the result's type. -/
def tyX (most : Int) : List (List X) :=
  [[num 1, strX keyNm, num 1, num 2, num 0, num 255, num 0, .sl true 1 [], .sl true 7 [], .sl true 11 [], .sl true 6 []],
   [num 2, strX countNm, num 1, num 2, num 1, num 256, num 0, .sl true 1 [], .sl true 7 [], .sl true 11 [], .sl true 6 []],
   [num 3, strX sumNm, num 1, num 2, num 0, num most, num 0, .sl true 1 [], .sl true 7 [], .sl true 11 [], .sl true 6 []]]
/-- The rules. -/
def ruX : List (List X) :=
  [[strX keyNm, num 2, num 0, strX keyNm, .sl false 6 [], .sl false 5 []],
   [strX countNm, num 2, num 0, strX countNm, .sl false 6 [], .sl false 5 []],
   [strX sumNm, num 26, num 0, strX sumT, .sl true 6 [], .sl true 5 []]]
def mostOf (e : Int) : Int := if e.tmod 2 = 1 then 9 else 999999999999999
def cdOf (d : Int) : Nat := if d.tmod 4 = 1 then 1 else if d.tmod 4 = 2 then 2 else 0
def nuOf (a : Int) : Int := IntKind.i64.wrap (a.tmod 5)
def tiOf (b : Int) : Int := IntKind.i64.wrap (10 * IntKind.i64.wrap (b.tmod 4))
def liOf (c : Int) : Int := IntKind.i64.wrap (1 + IntKind.i64.wrap (c.tmod 4))
theorem node12 (a b c d e : Int) (N : Nat) : Gam.pureD (callF tab ext (N + 300)) 12 [skX a b c d e] = some (.agg (nodX (nuOf a) (tiOf b) (liOf c) (exN (cdOf d)) (tyX (mostOf e)) ruX)) := by
  unfold mostOf cdOf
  by_cases h1 : d.tmod 4 = 1
  · have g1 : (d.tmod 4 == 1) = true := beq_iff_eq.2 h1
    rw [if_pos h1]
    by_cases h2 : e.tmod 2 = 1
    · have g2 : (e.tmod 2 == 1) = true := beq_iff_eq.2 h2
      rw [if_pos h2]
      exact pure_of [(29, .b true), (57, .b true)] [] (pf2 g1 g2) (x := .agg [strX aggT, num 4, num 0, num 0, num (IntKind.i64.wrap (a.tmod 5)), num (IntKind.i64.wrap (10 * IntKind.i64.wrap (b.tmod 4))), num (IntKind.i64.wrap (1 + IntKind.i64.wrap (c.tmod 4))), strX ⟨#[]⟩, num 9, num 0, num 0, num 0, .sl true 1 [], .sl true 7 [], .sl true 11 (tyX 9), .sl true 7 [], .bs 0 0 2, .sl true 6 ruX, .sl true 2 [], .sl true 1 []]) (bx := [.row 5 (exN 1)]) (by kernel_rfl) (by kernel_rfl)
    · have g2 : (e.tmod 2 == 1) = false := beq_eq_false_iff_ne.2 h2
      rw [if_neg h2]
      exact pure_of [(29, .b true), (57, .b false)] [] (pf2 g1 g2) (x := .agg [strX aggT, num 4, num 0, num 0, num (IntKind.i64.wrap (a.tmod 5)), num (IntKind.i64.wrap (10 * IntKind.i64.wrap (b.tmod 4))), num (IntKind.i64.wrap (1 + IntKind.i64.wrap (c.tmod 4))), strX ⟨#[]⟩, num 9, num 0, num 0, num 0, .sl true 1 [], .sl true 7 [], .sl true 11 (tyX 999999999999999), .sl true 7 [], .bs 0 0 2, .sl true 6 ruX, .sl true 2 [], .sl true 1 []]) (bx := [.row 5 (exN 1)]) (by kernel_rfl) (by kernel_rfl)
  · have g1 : (d.tmod 4 == 1) = false := beq_eq_false_iff_ne.2 h1
    rw [if_neg h1]
    by_cases h3 : d.tmod 4 = 2
    · have g3 : (d.tmod 4 == 2) = true := beq_iff_eq.2 h3
      rw [if_pos h3]
      by_cases h2 : e.tmod 2 = 1
      · have g2 : (e.tmod 2 == 1) = true := beq_iff_eq.2 h2
        rw [if_pos h2]
        exact pure_of [(29, .b false), (40, .b true), (57, .b true)] [] (pf3 g1 g3 g2) (x := .agg [strX aggT, num 4, num 0, num 0, num (IntKind.i64.wrap (a.tmod 5)), num (IntKind.i64.wrap (10 * IntKind.i64.wrap (b.tmod 4))), num (IntKind.i64.wrap (1 + IntKind.i64.wrap (c.tmod 4))), strX ⟨#[]⟩, num 9, num 0, num 0, num 0, .sl true 1 [], .sl true 7 [], .sl true 11 (tyX 9), .sl true 7 [], .bs 0 0 2, .sl true 6 ruX, .sl true 2 [], .sl true 1 []]) (bx := [.row 5 (exN 2)]) (by kernel_rfl) (by kernel_rfl)
      · have g2 : (e.tmod 2 == 1) = false := beq_eq_false_iff_ne.2 h2
        rw [if_neg h2]
        exact pure_of [(29, .b false), (40, .b true), (57, .b false)] [] (pf3 g1 g3 g2) (x := .agg [strX aggT, num 4, num 0, num 0, num (IntKind.i64.wrap (a.tmod 5)), num (IntKind.i64.wrap (10 * IntKind.i64.wrap (b.tmod 4))), num (IntKind.i64.wrap (1 + IntKind.i64.wrap (c.tmod 4))), strX ⟨#[]⟩, num 9, num 0, num 0, num 0, .sl true 1 [], .sl true 7 [], .sl true 11 (tyX 999999999999999), .sl true 7 [], .bs 0 0 2, .sl true 6 ruX, .sl true 2 [], .sl true 1 []]) (bx := [.row 5 (exN 2)]) (by kernel_rfl) (by kernel_rfl)
    · have g3 : (d.tmod 4 == 2) = false := beq_eq_false_iff_ne.2 h3
      rw [if_neg h3]
      by_cases h2 : e.tmod 2 = 1
      · have g2 : (e.tmod 2 == 1) = true := beq_iff_eq.2 h2
        rw [if_pos h2]
        exact pure_of [(29, .b false), (40, .b false), (57, .b true)] [] (pf3 g1 g3 g2) (x := .agg [strX aggT, num 4, num 0, num 0, num (IntKind.i64.wrap (a.tmod 5)), num (IntKind.i64.wrap (10 * IntKind.i64.wrap (b.tmod 4))), num (IntKind.i64.wrap (1 + IntKind.i64.wrap (c.tmod 4))), strX ⟨#[]⟩, num 9, num 0, num 0, num 0, .sl true 1 [], .sl true 7 [], .sl true 11 (tyX 9), .sl true 7 [], .sl true 5 (exN 0), .sl true 6 ruX, .sl true 2 [], .sl true 1 []]) (bx := []) (by kernel_rfl) (by kernel_rfl)
      · have g2 : (e.tmod 2 == 1) = false := beq_eq_false_iff_ne.2 h2
        rw [if_neg h2]
        exact pure_of [(29, .b false), (40, .b false), (57, .b false)] [] (pf3 g1 g3 g2) (x := .agg [strX aggT, num 4, num 0, num 0, num (IntKind.i64.wrap (a.tmod 5)), num (IntKind.i64.wrap (10 * IntKind.i64.wrap (b.tmod 4))), num (IntKind.i64.wrap (1 + IntKind.i64.wrap (c.tmod 4))), strX ⟨#[]⟩, num 9, num 0, num 0, num 0, .sl true 1 [], .sl true 7 [], .sl true 11 (tyX 999999999999999), .sl true 7 [], .sl true 5 (exN 0), .sl true 6 ruX, .sl true 2 [], .sl true 1 []]) (bx := []) (by kernel_rfl) (by kernel_rfl)
end Go.Proofs.YthphniobeigklaaGreatDoor.Ag

/- mapping.Apply at the environment of a group. -/
namespace Go.Proofs.YthphniobeigklaaGreatDoor.Ag
open Go Go.Em Go.Proofs.YthphniobeigklaaGreatDoor
set_option maxRecDepth 100000

def recV (fs : List (List X)) : List X := [num 9, num 0, num 0, strX ⟨#[]⟩, .sl false 6 [], .sl false 7 fs]
def tyV (most : Int) : List X := [num 9, num 0, num 0, num 0, .sl false 1 [], .sl false 7 [], .sl false 11 (tyX most)]
def tyI (lo hi : Int) : List X := [num 2, num lo, num hi, num 0, .sl false 1 [], .sl false 7 [], .sl false 11 []]
def finX (ok done : Bool) : List Bx := [.var [.fn 241 [.ptr 1 0 0], boolX done], .var [boolX ok]]
/-- The result of a group: count, key, sum. -/
def resV (c k s : Int) : Val := .mk 9 0 0 ⟨#[]⟩ [] [(countNm, kv c), (keyNm, kv k), (sumNm, kv s)]
theorem out_in (lo hi x : Int) (nm : ByteArray) (h : lo ≤ x ∧ x ≤ hi) (N : Nat) : callF tab ext (N + 20) (.fn 298) [.ptr 0 0 0, .agg (tyI lo hi), strX nm, num x] (finX true false) = some (.tup [], finX true false) :=
  callF_of [(11, .b false), (16, .b false)] [] (pf2 (show decide (x < lo) = false from decide_eq_false (by omega)) (show decide (x > hi) = false from decide_eq_false (by omega))) (by kernel_rfl)
theorem out_out (lo hi x : Int) (nm : ByteArray) (h : lo ≤ x) (h2 : hi < x) (N : Nat) : callF tab ext (N + 20) (.fn 298) [.ptr 0 0 0, .agg (tyI lo hi), strX nm, num x] (finX true false) = some (.tup [], finX false true) :=
  callF_of [(11, .b false), (16, .b true)] [] (pf2 (show decide (x < lo) = false from decide_eq_false (by omega)) (show decide (x > hi) = true from decide_eq_true (by omega))) (by kernel_rfl)
theorem find_int (lo hi x : Int) (nm : ByteArray) (a b : Bool) (N : Nat) (h : callF tab ext (N + 20) (.fn 298) [.ptr 0 0 0, .agg (tyI lo hi), strX nm, num x] (finX true false) = some (.tup [], finX a b)) :
    callF tab ext (N + 21) (.fn 242) [.ptr 0 0 0, .agg (tyI lo hi), .agg (kv x).cells, strX nm] (finX true false) = some (.tup [], finX a b) :=
  callF_of [(55, .r (.tup []) (finX a b))] [] (pf1 h) (by kernel_rfl)
section
variable (c k s most : Int) (a b : Bool) (N : Nat)
def frH (j : Nat) (a b : Bool) : St := ⟨[(0, .ptr 0 0 0), (3, strX ⟨#[]⟩), (5, .ptr 2 0 0), (6, .ptr 3 0 0), (17, .sl false 11 (tyX most)), (18, num 3), (19, nat j)], finX a b ++ [.var (tyV most), .var (resV c k s).cells]⟩
def frE (a b : Bool) : St := ⟨[(0, .ptr 0 0 0), (3, strX ⟨#[]⟩), (5, .ptr 2 0 0), (6, .ptr 3 0 0), (17, .sl false 11 (tyX most)), (18, num 3), (19, nat 3), (20, boolX false)], finX a b ++ [.var (tyV most), .var (resV c k s).cells]⟩
theorem fr_canon : canon 2 (frH c k s most 0 true false) = some (frH c k s most 0 true false) := by kernel_rfl
theorem fr_0 (h1 : callF tab ext (N + 60) (.fn 242) [.ptr 0 0 0, .agg (tyI 0 255), .agg (kv k).cells, strX keyNm] (finX true false) = some (.tup [], finX true false)) :
    ∃ υ, run (callF tab ext (N + 60)) 2 (N + 60) (loopAt 300 0) (frH c k s most 0 true false) = some (.norm, υ) ∧ canon 2 υ = some (frH c k s most 1 true false) :=
  rd_of [(39, .r (.tup []) (finX true false))] (pf1 h1) (by kernel_rfl)
theorem fr_1 (h2 : callF tab ext (N + 60) (.fn 242) [.ptr 0 0 0, .agg (tyI 1 256), .agg (kv c).cells, strX countNm] (finX true false) = some (.tup [], finX true false)) :
    ∃ υ, run (callF tab ext (N + 60)) 2 (N + 60) (loopAt 300 0) (frH c k s most 1 true false) = some (.norm, υ) ∧ canon 2 υ = some (frH c k s most 2 true false) :=
  rd_of [(39, .r (.tup []) (finX true false))] (pf1 h2) (by kernel_rfl)
theorem fr_2 (h3 : callF tab ext (N + 60) (.fn 242) [.ptr 0 0 0, .agg (tyI 0 most), .agg (kv s).cells, strX sumNm] (finX true false) = some (.tup [], finX a b)) :
    ∃ υ, run (callF tab ext (N + 60)) 2 (N + 60) (loopAt 300 0) (frH c k s most 2 true false) = some (.norm, υ) ∧ canon 2 υ = some (frH c k s most 3 a b) :=
  rd_of [(39, .r (.tup []) (finX a b))] (pf1 h3) (by kernel_rfl)
theorem fr_3 : run (callF tab ext (N + 60)) 2 (N + 60) (loopAt 300 0) (frH c k s most 3 a b) = some (.exit 0, frE c k s most a b) :=
  run_of [] [] pf0 (lo' := []) (by kernel_rfl)
theorem find_rec (h1 : callF tab ext (N + 60) (.fn 242) [.ptr 0 0 0, .agg (tyI 0 255), .agg (kv k).cells, strX keyNm] (finX true false) = some (.tup [], finX true false))
    (h2 : callF tab ext (N + 60) (.fn 242) [.ptr 0 0 0, .agg (tyI 1 256), .agg (kv c).cells, strX countNm] (finX true false) = some (.tup [], finX true false))
    (h3 : callF tab ext (N + 60) (.fn 242) [.ptr 0 0 0, .agg (tyI 0 most), .agg (kv s).cells, strX sumNm] (finX true false) = some (.tup [], finX a b)) :
    callF tab ext (N + 61) (.fn 300) [.ptr 0 0 0, .agg (tyV most), .agg (resV c k s).cells, strX ⟨#[]⟩] (finX true false) = some (.tup [], finX a b) := by
  obtain ⟨υ0, a1, b1⟩ := fr_0 c k s most N h1
  obtain ⟨υ1, a2, b2⟩ := fr_1 c k s most N h2
  obtain ⟨υ2, a3, b3⟩ := fr_2 c k s most a b N h3
  have hl : run (callF tab ext (N + 60)) 2 (N + 60) (.loop (loopAt 300 0)) (frH c k s most 0 true false) = some (.exit 0, frE c k s most a b) := iter_step (fr_canon ..) a1 (iter_step b1 a2 (iter_step b2 a3 (iter_end b3 (fr_3 ..) (by simp))))
  exact callF_of [] [(.exit 0, frE c k s most a b)] (pf1 hl) (by kernel_rfl)
theorem find_top (h : callF tab ext (N + 61) (.fn 300) [.ptr 0 0 0, .agg (tyV most), .agg (resV c k s).cells, strX ⟨#[]⟩] (finX true false) = some (.tup [], finX a b)) :
    callF tab ext (N + 62) (.fn 242) [.ptr 0 0 0, .agg (tyV most), .agg (resV c k s).cells, strX ⟨#[]⟩] (finX true false) = some (.tup [], finX a b) :=
  callF_of [(145, .r (.tup []) (finX a b))] [] (pf1 h) (by kernel_rfl)
theorem fits_top (h : callF tab ext (N + 62) (.fn 242) [.ptr 0 0 0, .agg (tyV most), .agg (resV c k s).cells, strX ⟨#[]⟩] (finX true false) = some (.tup [], finX a b)) :
    Gam.pureD (callF tab ext (N + 63)) 171 [.agg (tyV most), .agg (resV c k s).cells] = some (boolX a) :=
  pure_of [(11, .r (.tup []) (finX a b))] [] (pf1 h) (x := boolX a) (bx := []) (by kernel_rfl) rfl
theorem comp170 : Gam.pureD (callF tab ext (N + 300)) 170 [.agg (tyV most), .agg (resV c k s).cells] = some (.agg (resV c k s).cells) := by kernel_rfl
end
section
variable (c k s most : Int) (hc : 1 ≤ c ∧ c ≤ 256) (hk : 0 ≤ k ∧ k ≤ 255) (h0 : 0 ≤ s)
include hc hk h0
theorem fits171 (N : Nat) (hN : 200 ≤ N) : Gam.pureD (callF tab ext N) 171 [.agg (tyV most), .agg (resV c k s).cells] = some (boolX (decide (s ≤ most))) := by
  obtain ⟨M, rfl⟩ : ∃ M, N = M + 63 := ⟨N - 63, by omega⟩
  have h1 := find_int 0 255 k keyNm true false (M + 39) (out_in 0 255 k keyNm hk (M + 39))
  have h2 := find_int 1 256 c countNm true false (M + 39) (out_in 1 256 c countNm hc (M + 39))
  by_cases hs : s ≤ most
  · rw [decide_eq_true hs]
    exact fits_top c k s most true false M (find_top c k s most true false M (find_rec c k s most true false M h1 h2 (find_int 0 most s sumNm true false (M + 39) (out_in 0 most s sumNm ⟨h0, hs⟩ (M + 39)))))
  · rw [decide_eq_false hs]
    exact fits_top c k s most false true M (find_top c k s most false true M (find_rec c k s most false true M h1 h2 (find_int 0 most s sumNm false true (M + 39) (out_out 0 most s sumNm h0 (by omega) (M + 39)))))
theorem complete119 (N : Nat) (hN : 2000 ≤ N) : Gam.pureD (callF tab ext N) 119 [.agg (tyV most), .agg (resV c k s).cells] = some (if s ≤ most then .tup [.agg (resV c k s).cells, num 0] else .tup [.agg (Val.mk 0 0 0 ⟨#[]⟩ [] []).cells, num 18]) := by
  obtain ⟨M, rfl⟩ : ∃ M, N = M + 301 := ⟨N - 301, by omega⟩
  have h1 := comp170 c k s most M
  have h2 := fits171 c k s most hc hk h0 (M + 300) (by omega)
  have h3 := clone_val (M + 300) (resV c k s) (by simp [resV, kv, Val.size, sizeL, sizeF]) (by simp [resV, kv, Val.size, sizeL, sizeF])
  by_cases hs : s ≤ most
  · rw [if_pos hs]
    rw [decide_eq_true hs] at h2
    exact pure_of [(9, .p (.agg (resV c k s).cells)), (12, .p (boolX true)), (16, .p (.agg (resV c k s).cells))] [] (pf3 h1 h2 h3) (x := .tup [.agg (resV c k s).cells, num 0]) (bx := []) (by kernel_rfl) rfl
  · rw [if_neg hs]
    rw [decide_eq_false hs] at h2
    exact pure_of [(9, .p (.agg (resV c k s).cells)), (12, .p (boolX false))] [] (pf2 h1 h2) (x := .tup [.agg [num 0, num 0, num 0, strX ⟨#[]⟩, .sl true 6 [], .sl true 7 []], num 18]) (bx := []) (by kernel_rfl) rfl
end
/-! ### value.Check of small values -/
def RoundOk (v : Val) : Prop := ∀ (lev : Int) (n : Nat), lev ≤ 8 → n < 4000 → ∀ N, 60010 ≤ N → callF tab ext N .yl [.yl 0, num lev, .agg v.cells] (goC n) = some (boolX true, goC (n + 1))
theorem round_kv (x : Int) (hx : -999999999999999 ≤ x ∧ x ≤ 999999999999999) : RoundOk (kv x) := by
  intro lev n hl hn N hN
  obtain ⟨M, rfl⟩ : ∃ M, N = M + 61 := ⟨N - 61, by omega⟩
  have h1 := next_nat (j := n) (by omega)
  have h2 : decide (Int.ofNat (n + 1) > 4096) = false := decide_eq_false (by simp only [Int.ofNat_eq_natCast]; omega)
  have h3 : decide (lev > 8) = false := decide_eq_false (by omega)
  have h4 : Gam.pureD (callF tab ext (M + 60)) 211 [.agg (kv x).cells] = some (num 0) := by
    have a : decide (x < -999999999999999) = false := decide_eq_false (by omega)
    have b : decide (x > 999999999999999) = false := decide_eq_false (by omega)
    have h : Gam.pureD (callF tab ext (M + 59)) 210 [num x, num (-999999999999999), num 999999999999999] = some (num 0) := pure_of [(9, .b false), (13, .b false)] [] (pf2 a b) (x := num 0) (bx := []) (by kernel_rfl) rfl
    exact pure_of [(5, .p (num 0))] [] (pf1 h) (x := num 0) (bx := []) (by kernel_rfl) rfl
  exact yield_of [(14, .i (Int.ofNat (n + 1))), (17, .b false), (20, .b false), (42, .p (num 0))] (pf4 h1 h2 h3 h4) (by kernel_rfl)
theorem visit_flat (v : Val) (hr : RoundOk v) (hw : v.wide) (hs : v.size < 60) (hp : ∀ u, u ∈ partsV v → ∀ (lev n : Nat), lev ≤ 8 → n + 1 < 3000 → ∀ N, 60050 ≤ N → callF tab ext N (.fn 224) [.agg u.cells, nat lev, .yl 0] (goC n) = some (boolX true, goC (n + 1))) : ∀ (lev n : Nat), lev ≤ 7 → n + (1 + (partsV v).length) < 3000 → ∀ N, 60100 ≤ N → callF tab ext N (.fn 224) [.agg v.cells, nat lev, .yl 0] (goC n) = some (boolX true, goC (n + (1 + (partsV v).length))) := by
  intro lev n hl hn N hN
  obtain ⟨M, rfl⟩ : ∃ M, N = M + 1 := ⟨N - 1, by omega⟩
  have h1 := hr (Int.ofNat lev) n (by simp only [Int.ofNat_eq_natCast]; omega) (by omega) M (by omega)
  have h2 := parts_wide M v (few_of_wide hw) (by omega)
  have hc := cellsL_length (partsV v)
  have hloop : run (callF tab ext M) 4 M (.loop (loopAt 224 0)) (viH' (cellsL (partsV v)) lev (cellsL (partsV v)).length 0 (n + 1) v.cells) = some (.exit 0, viE (cellsL (partsV v)) lev (cellsL (partsV v)).length (cellsL (partsV v)).length (n + (1 + (partsV v).length))) := by
    refine loop_for (σ := fun j => viH (cellsL (partsV v)) lev (cellsL (partsV v)).length j (n + 1 + j)) (k := (cellsL (partsV v)).length) (vi_canon' ..) (fun j hj => ?_) ?_ (by simp) (by omega)
    · have hj' : j < (partsV v).length := by omega
      have hg := cellsL_get hj'
      have hu := hp _ (List.getElem_mem hj') (lev + 1) (n + 1 + j) (by omega) (by omega) M (by omega)
      generalize (partsV v)[j] = u at hg hu
      obtain ⟨u1, u2, u3, u4, u5, u6⟩ := u
      exact ⟨_, run_of [(18, .b true), (19, .e (Val.mk u1 u2 u3 u4 u5 u6).cells), (23, .i (Int.ofNat (lev + 1))), (25, .r (boolX true) (goC (n + 1 + j + 1))), (27, .i (Int.ofNat (j + 1)))] [] (pf5 (lt_nat hj) hg (next_nat (j := lev) (by omega)) hu (next_nat (j := j) (by omega))) (lo' := []) (by kernel_rfl), vi_canon' (cellsL (partsV v)) lev (cellsL (partsV v)).length (j + 1) (n + 1 + j + 1) (Val.mk u1 u2 u3 u4 u5 u6).cells⟩
    · rw [show n + 1 + (cellsL (partsV v)).length = n + (1 + (partsV v).length) by omega]
      exact run_of [(18, .b false)] [] (pf1 (nlt_nat (Nat.lt_irrefl (cellsL (partsV v)).length))) (lo' := []) (by kernel_rfl)
  generalize n + (1 + (partsV v).length) = m at *
  generalize cellsL (partsV v) = ps at *
  obtain ⟨k, i, s, t, l, f⟩ := v
  exact callF_of [(12, .r (boolX true) (goC (n + 1))), (15, .p (.sl false 6 ps))] [(.exit 0, viE ps lev ps.length ps.length m)] (pf3 h1 h2 hloop) (by kernel_rfl)
theorem visit_leaf (x : Int) (hx : -999999999999999 ≤ x ∧ x ≤ 999999999999999) : ∀ (lev n : Nat), lev ≤ 8 → n + 1 < 3000 → ∀ N, 60050 ≤ N → callF tab ext N (.fn 224) [.agg (kv x).cells, nat lev, .yl 0] (goC n) = some (boolX true, goC (n + 1)) := by
  intro lev n hl hn N hN
  obtain ⟨M, rfl⟩ : ∃ M, N = M + 31 := ⟨N - 31, by omega⟩
  have h1 := round_kv x hx (Int.ofNat lev) n (by simp only [Int.ofNat_eq_natCast]; omega) (by omega) (M + 30) (by omega)
  have h2 : Gam.pureD (callF tab ext (M + 30)) 289 [.agg (kv x).cells] = some (.sl false 6 []) := parts_wide (M + 30) (kv x) (few_of_wide (wide_of (by simp [kv, Val.size, sizeL, sizeF]))) (by simp [kv, Val.size, sizeL, sizeF])
  exact callF_of [(12, .r (boolX true) (goC (n + 1))), (15, .p (.sl false 6 []))] [] (pf2 h1 h2) (by kernel_rfl)
theorem chk_of (v : Val) (m : Nat) (h : ∀ N, 60100 ≤ N → callF tab ext N (.fn 224) [.agg v.cells, nat 1, .yl 0] (goC 0) = some (boolX true, goC m)) (N : Nat) (hN : 60200 ≤ N) : Gam.pureD (callF tab ext N) 104 [.agg v.cells] = some (num 0) := by
  obtain ⟨M, rfl⟩ : ∃ M, N = M + 4 := ⟨N - 4, by omega⟩
  have h := h (M + 2) (by omega)
  obtain ⟨k, i, s, t, l, f⟩ := v
  have hpre : Gam.pureD (callF tab ext (M + 3)) 149 [.agg (Val.mk k i s t l f).cells] = some (.fn 223 [.dp (Val.mk k i s t l f).cells]) :=
    pure_of [] [] pf0 (x := .fn 223 [.dp (Val.mk k i s t l f).cells]) (bx := []) (by kernel_rfl) rfl
  have hrul : Gam.pureD (callF tab ext (M + 3)) 148 [] = some (.agg rulesX) :=
    pure_of [] [] pf0 (x := .agg rulesX) (bx := []) (by kernel_rfl) rfl
  have h5 : callF tab ext (M + 3) (.fn 223) [.yl 0, .dp (Val.mk k i s t l f).cells] (goC 0) = some (.tup [], goC m) :=
    callF_of [(5, .r (boolX true) (goC m))] [] (pf1 h) (by kernel_rfl)
  have hrf : run (callF tab ext (M + 3)) 0 (M + 3) (.rf (.t 10) [11, 12] [2, 3, 4] (rfAt 104).1 (rfAt 104).2) (rfSt (Val.mk k i s t l f).cells) = some (.norm, rfFin (Val.mk k i s t l f).cells 0 m) :=
    rf_of (g := 223) (caps := [.dp (Val.mk k i s t l f).cells]) (y := .tup []) (outb := goC m)
      (q := (.tup [], [.var (Val.mk k i s t l f).cells, .var [num 0], .var rulesX, .var [nat m], recC .ready none], [4, 1, 2, 3])) h5 (by kernel_rfl) (by kernel_rfl) (by kernel_rfl)
  exact pure_of [(8, .p (.agg rulesX)), (10, .p (.fn 223 [.dp (Val.mk k i s t l f).cells]))] [(.norm, rfFin (Val.mk k i s t l f).cells 0 m)] (pf3 hrul hpre hrf) (x := num 0) (bx := []) (by kernel_rfl) rfl
theorem round_res (c k s : Int) : RoundOk (resV c k s) := by
  intro lev n hl hn N hN
  obtain ⟨M, rfl⟩ : ∃ M, N = M + 201 := ⟨N - 201, by omega⟩
  have h1 := next_nat (j := n) (by omega)
  have h2 : decide (Int.ofNat (n + 1) > 4096) = false := decide_eq_false (by simp only [Int.ofNat_eq_natCast]; omega)
  have h3 : decide (lev > 8) = false := decide_eq_false (by omega)
  exact yield_of [(14, .i (Int.ofNat (n + 1))), (17, .b false), (20, .b false)] (pf3 h1 h2 h3) (by kernel_rfl)
def Num15 (x : Int) : Prop := -999999999999999 ≤ x ∧ x ≤ 999999999999999
theorem chk_res (c k s : Int) (hc : Num15 c) (hk : Num15 k) (hs : Num15 s) (N : Nat) (hN : 60200 ≤ N) : Gam.pureD (callF tab ext N) 104 [.agg (resV c k s).cells] = some (num 0) :=
  chk_of (resV c k s) _ (fun M hM => visit_flat (resV c k s) (round_res c k s) (wide_of (by simp [resV, kv, Val.size, sizeL, sizeF])) (by simp [resV, kv, Val.size, sizeL, sizeF]) (fun u hu => by
    have : u = kv c ∨ u = kv k ∨ u = kv s := by simpa [partsV, resV] using hu
    rcases this with rfl | rfl | rfl
    · exact visit_leaf c hc
    · exact visit_leaf k hk
    · exact visit_leaf s hs) 1 0 (by omega) (by simp [partsV, resV]) M hM) N hN
end Go.Proofs.YthphniobeigklaaGreatDoor.Ag
