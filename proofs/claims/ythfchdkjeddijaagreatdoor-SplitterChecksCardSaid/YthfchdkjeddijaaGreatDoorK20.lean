/- RouterChecks comes to true. -/
import Derived.Test.YthfchdkjeddijaaGreatDoorK15
import Derived.Test.YthfchdkjeddijaaGreatDoorK18
namespace Go.Proofs.YthfchdkjeddijaaGreatDoor
open Go.Em
set_option maxRecDepth 100000

/-- The kinds of routers. -/
def kindsM : List (Value × X) := [(.int .i64 1, .fn 136 []), (.int .i64 2, .fn 137 []), (.int .i64 11, .fn 138 []), (.int .i64 12, .fn 139 []), (.int .i64 14, .fn 140 [])]
theorem kinds_at (N : Nat) : callF tab ext (N + 1) (.fn 78) [] [] = some (.mp 0, [.map kindsM]) := callF_of [] [] pf0 (by kernel_rfl)
def zeroS (s : Stt) : Bool := (s.n == 0) && ((s.t == 0) && (Int.ofNat (sltsC s.slots).length == 0))
theorem zero_pure (N : Nat) (s : Stt) : Gam.pureD (callF tab ext (N + 1)) 32 [.agg s.cells] = some (boolX (zeroS s)) := by
  obtain ⟨a, b, ss⟩ := s
  unfold zeroS
  dsimp only
  cases h1 : (a == 0) with
  | false => exact pure_of [(5, .b false)] [] (pf1 h1) (x := boolX false) (bx := []) (by kernel_rfl) rfl
  | true =>
    cases h2 : (b == 0) with
    | false => exact pure_of [(5, .b true), (9, .b false)] [] (pf2 h1 h2) (x := boolX false) (bx := []) (by kernel_rfl) rfl
    | true => exact pure_of [(5, .b true), (9, .b true), (15, .b (Int.ofNat (sltsC ss).length == 0))] [] (pf3 h1 h2 (rfl : (Int.ofNat (sltsC ss).length == 0) = (Int.ofNat (sltsC ss).length == 0))) (x := boolX (Int.ofNat (sltsC ss).length == 0)) (bx := []) (by kernel_rfl) rfl
def isRouter (k : Int) : Bool := !((!(k == 1)) && ((!(k == 2)) && ((!(k == 11)) && ((!(k == 12)) && (!(k == 14))))))
def rcheckF (k : Int) (s : Stt) : Int := if isRouter k then (if zeroS s then 0 else 10) else 11

theorem kinds_get (k : Int) : ∃ y, mapGet true (.v .nilFunc) (.int .i64 k) kindsM = some (.tup [y, .v (.bool (isRouter k))]) := by
  unfold mapGet kindsM isRouter
  simp only [mapFind, keySame, if_true]
  cases h1 : (k == 1) with
  | true => exact ⟨_, rfl⟩
  | false =>
    cases h2 : (k == 2) with
    | true => exact ⟨_, rfl⟩
    | false =>
      cases h3 : (k == 11) with
      | true => exact ⟨_, rfl⟩
      | false =>
        cases h4 : (k == 12) with
        | true => exact ⟨_, rfl⟩
        | false =>
          cases h5 : (k == 14) with
          | true => exact ⟨_, rfl⟩
          | false => exact ⟨_, rfl⟩
theorem rcheck_pure (N : Nat) (n : Nod) (s : Stt) : Gam.pureD (callF tab ext (N + 2)) 34 [.agg n.cells, .agg s.cells] = some (num (rcheckF n.kind s)) := by
  have hk := kinds_at N
  obtain ⟨y, hg⟩ := kinds_get n.kind
  obtain ⟨a, b, ss⟩ := s
  unfold rcheckF zeroS
  dsimp only
  cases hr : isRouter n.kind with
  | false =>
    rw [hr] at hg
    exact pure_of [(8, .o (.mp 0) [.map kindsM]), (11, .g (.tup [y, boolX false]))] [] (pf2 hk hg) (x := num 11) (bx := []) (by kernel_rfl) rfl
  | true =>
    rw [hr] at hg
    cases h1 : (a == 0) with
    | false => 
      have h1' : (!(a == 0)) = true := by rw [h1]; rfl
      exact pure_of [(8, .o (.mp 0) [.map kindsM]), (11, .g (.tup [y, boolX true])), (18, .b true)] [] (pf3 hk hg h1') (x := num 10) (bx := []) (by kernel_rfl) rfl
    | true =>
      have h1' : (!(a == 0)) = false := by rw [h1]; rfl
      cases h2 : (b == 0) with
      | false => 
        have h2' : (!(b == 0)) = true := by rw [h2]; rfl
        exact pure_of [(8, .o (.mp 0) [.map kindsM]), (11, .g (.tup [y, boolX true])), (18, .b false), (22, .b true)] [] (pf4 hk hg h1' h2') (x := num 10) (bx := []) (by kernel_rfl) rfl
      | true =>
        have h2' : (!(b == 0)) = false := by rw [h2]; rfl
        cases h3 : (Int.ofNat (sltsC ss).length == 0) with
        | true =>
          have h3' : decide (Int.ofNat (sltsC ss).length > 0) = false := by
            have := eq_of_beq h3; rw [this]; rfl
          exact pure_of [(8, .o (.mp 0) [.map kindsM]), (11, .g (.tup [y, boolX true])), (18, .b false), (22, .b false), (28, .b false)] [] (pf5 hk hg h1' h2' h3') (x := num 0) (bx := []) (by kernel_rfl) rfl
        | false =>
          have h3' : decide (Int.ofNat (sltsC ss).length > 0) = true := by
            have := ne_of_beq_false h3
            simp only [Int.ofNat_eq_natCast] at this ⊢
            exact decide_eq_true (by omega)
          exact pure_of [(8, .o (.mp 0) [.map kindsM]), (11, .g (.tup [y, boolX true])), (18, .b false), (22, .b false), (28, .b true)] [] (pf5 hk hg h1' h2' h3') (x := num 10) (bx := []) (by kernel_rfl) rfl

theorem rchecks_all (cn : List X) (hcn : isNode cn) (s : Stt) : callF tab ext 190301 (.fn 10) [.agg cn, .agg s.cells] [] = some (.v (.bool true), []) := by
  obtain ⟨nd, nd', rfl, hn⟩ := node_of hcn
  have h1 := hn 190300 (by omega)
  have h2 := short_state s 190300 (by omega)
  generalize shortS s = s' at h2
  have h3 := known31_at 189900
  have h4 := rcheck_pure 190298 nd' s'
  have h5 := zero_pure 190299 s'
  unfold rcheckF isRouter at h4
  have e0 : (11 : Int) == 11 := rfl
  cases k1 : (!(nd'.kind == 1)) with
  | false =>
    rw [k1] at h4
    cases hz : zeroS s' with
    | true =>
      rw [hz] at h4 h5
      exact callF_of [(7, .p (.agg nd'.cells)), (9, .p (.agg s'.cells)), (13, .b false), (36, .p (boolX true)), (38, .p (boolX true)), (42, .p (num 0))] [] (pf6 h1 h2 k1 h5 h3 h4) (by kernel_rfl)
    | false =>
      rw [hz] at h4 h5
      exact callF_of [(7, .p (.agg nd'.cells)), (9, .p (.agg s'.cells)), (13, .b false), (36, .p (boolX false)), (38, .p (boolX true)), (42, .p (num 10))] [] (pf6 h1 h2 k1 h5 h3 h4) (by kernel_rfl)
  | true =>
    rw [k1] at h4
    cases k2 : (!(nd'.kind == 2)) with
    | false =>
      rw [k2] at h4
      cases hz : zeroS s' with
      | true =>
        rw [hz] at h4 h5
        exact callF_of [(7, .p (.agg nd'.cells)), (9, .p (.agg s'.cells)), (13, .b true), (17, .b false), (36, .p (boolX true)), (38, .p (boolX true)), (42, .p (num 0))] [] (pf7 h1 h2 k1 k2 h5 h3 h4) (by kernel_rfl)
      | false =>
        rw [hz] at h4 h5
        exact callF_of [(7, .p (.agg nd'.cells)), (9, .p (.agg s'.cells)), (13, .b true), (17, .b false), (36, .p (boolX false)), (38, .p (boolX true)), (42, .p (num 10))] [] (pf7 h1 h2 k1 k2 h5 h3 h4) (by kernel_rfl)
    | true =>
      rw [k2] at h4
      cases k3 : (!(nd'.kind == 11)) with
      | false =>
        rw [k3] at h4
        cases hz : zeroS s' with
        | true =>
          rw [hz] at h4 h5
          exact callF_of [(7, .p (.agg nd'.cells)), (9, .p (.agg s'.cells)), (13, .b true), (17, .b true), (22, .b false), (36, .p (boolX true)), (38, .p (boolX true)), (42, .p (num 0))] [] (pf8 h1 h2 k1 k2 k3 h5 h3 h4) (by kernel_rfl)
        | false =>
          rw [hz] at h4 h5
          exact callF_of [(7, .p (.agg nd'.cells)), (9, .p (.agg s'.cells)), (13, .b true), (17, .b true), (22, .b false), (36, .p (boolX false)), (38, .p (boolX true)), (42, .p (num 10))] [] (pf8 h1 h2 k1 k2 k3 h5 h3 h4) (by kernel_rfl)
      | true =>
        rw [k3] at h4
        cases k4 : (!(nd'.kind == 12)) with
        | false =>
          rw [k4] at h4
          cases hz : zeroS s' with
          | true =>
            rw [hz] at h4 h5
            exact callF_of [(7, .p (.agg nd'.cells)), (9, .p (.agg s'.cells)), (13, .b true), (17, .b true), (22, .b true), (27, .b false), (36, .p (boolX true)), (38, .p (boolX true)), (42, .p (num 0))] [] (pf9 h1 h2 k1 k2 k3 k4 h5 h3 h4) (by kernel_rfl)
          | false =>
            rw [hz] at h4 h5
            exact callF_of [(7, .p (.agg nd'.cells)), (9, .p (.agg s'.cells)), (13, .b true), (17, .b true), (22, .b true), (27, .b false), (36, .p (boolX false)), (38, .p (boolX true)), (42, .p (num 10))] [] (pf9 h1 h2 k1 k2 k3 k4 h5 h3 h4) (by kernel_rfl)
        | true =>
          rw [k4] at h4
          cases k5 : (!(nd'.kind == 14)) with
          | false =>
            rw [k5] at h4
            cases hz : zeroS s' with
            | true =>
              rw [hz] at h4 h5
              exact callF_of [(7, .p (.agg nd'.cells)), (9, .p (.agg s'.cells)), (13, .b true), (17, .b true), (22, .b true), (27, .b true), (32, .b false), (36, .p (boolX true)), (38, .p (boolX true)), (42, .p (num 0))] [] (pf10 h1 h2 k1 k2 k3 k4 k5 h5 h3 h4) (by kernel_rfl)
            | false =>
              rw [hz] at h4 h5
              exact callF_of [(7, .p (.agg nd'.cells)), (9, .p (.agg s'.cells)), (13, .b true), (17, .b true), (22, .b true), (27, .b true), (32, .b false), (36, .p (boolX false)), (38, .p (boolX true)), (42, .p (num 10))] [] (pf10 h1 h2 k1 k2 k3 k4 k5 h5 h3 h4) (by kernel_rfl)
          | true =>
            rw [k5] at h4
            exact callF_of [(7, .p (.agg nd'.cells)), (9, .p (.agg s'.cells)), (13, .b true), (17, .b true), (22, .b true), (27, .b true), (32, .b true), (38, .p (boolX true)), (42, .p (num 11))] [] (pf9 h1 h2 k1 k2 k3 k4 k5 h3 h4) (by kernel_rfl)
end Go.Proofs.YthfchdkjeddijaaGreatDoor
