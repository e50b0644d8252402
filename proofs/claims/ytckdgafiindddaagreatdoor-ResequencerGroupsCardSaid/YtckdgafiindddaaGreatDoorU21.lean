/- ResequencerChecks comes to true. -/
import Derived.Test.YtckdgafiindddaaGreatDoorU15
import Derived.Test.YtckdgafiindddaaGreatDoorU20
set_option linter.all false
namespace Go.Proofs.YtckdgafiindddaaGreatDoor
open Go.Em
set_option maxRecDepth 100000

/-! ### The definition's check -/
section
variable (a b : Int) (l : List (List X)) (j m : Nat) (x : List X) (ln : Int)
end
end Go.Proofs.YtckdgafiindddaaGreatDoor

/- ResequencerChecks comes to true. -/
namespace Go.Proofs.YtckdgafiindddaaGreatDoor
open Go.Em
set_option maxRecDepth 100000

end Go.Proofs.YtckdgafiindddaaGreatDoor

/- ResequencerChecks comes to true. -/
namespace Go.Proofs.YtckdgafiindddaaGreatDoor
open Go.Em
set_option maxRecDepth 100000

end Go.Proofs.YtckdgafiindddaaGreatDoor

/- resequencer.Expected and Held. -/
namespace Go.Proofs.YtckdgafiindddaaGreatDoor
open Go.Em
set_option maxRecDepth 100000

/-- The numbers of a slot. -/
def numsV (vs : List Val) : List Int := vs.map Val.intOf
section
variable (l acc : List (List X)) (n j : Nat)
def nuH : St := ⟨[(3, .bs 0 0 j), (7, .sl false 6 l), (8, nat n), (9, nat j)], [.row 1 acc]⟩
def nuH' (x : List X) (i : Int) : St := ⟨[(3, .bs 2 0 (j + 1)), (7, .sl false 6 l), (8, nat n), (9, nat (j + 1))], [.dead, .var x, .row 1 (acc ++ [[num i]])]⟩
end
theorem numbers_pure (x : Slt) (hv : x.vals.length ≤ 60000) (N : Nat) (hN : 60010 ≤ N) : Gam.pureD (callF tab ext N) 45 [.agg x.cells] = some (.sl false 1 (intsC (numsV x.vals))) := by
  obtain ⟨M, rfl⟩ : ∃ M, N = M + 1 := ⟨N - 1, by omega⟩
  obtain ⟨⟨x1, x2, x3, x4, x5, x6⟩, n, t, ms, vs⟩ := x
  dsimp only at hv ⊢
  have hn := cellsL_length vs
  have hl : run (callF tab ext M) 0 M (.loop (loopAt 45 0)) ⟨[(3, .bs 1 0 0), (7, .sl false 6 (cellsL vs)), (8, nat (cellsL vs).length), (9, num 0)], [.var [num x1, num x2, num x3, strX x4, .sl false 6 (cellsL x5), .sl false 7 (cellsF x6), num n, num t, .sl false 10 (msgsC ms), .sl false 6 (cellsL vs)], .row 1 []]⟩ =
      some (.exit 0, ⟨[(3, .bs 0 0 (cellsL vs).length), (7, .sl false 6 (cellsL vs)), (8, nat (cellsL vs).length), (9, nat (cellsL vs).length), (10, boolX false)], [.row 1 (intsC (numsV vs))]⟩) := by
    refine loop_for (σ := fun j => nuH (cellsL vs) (intsC (numsV (vs.take j))) (cellsL vs).length j) (k := (cellsL vs).length) (by kernel_rfl) (fun j hj => ?_) ?_ (by simp) (by omega)
    · have hj' : j < vs.length := by omega
      have hi := cellsL_get hj'
      have ht : intsC (numsV (vs.take (j + 1))) = intsC (numsV (vs.take j)) ++ [[num vs[j].intOf]] := by
        unfold numsV intsC
        rw [List.take_succ_eq_append_getElem hj', List.map_append, List.map_append]; rfl
      have hal : (intsC (numsV (vs.take j))).length = j := by simp [intsC, numsV]; omega
      refine ⟨nuH' (cellsL vs) (intsC (numsV (vs.take j))) (cellsL vs).length j vs[j].cells vs[j].intOf, ?_, ?_⟩
      · generalize intsC (numsV (vs.take j)) = acc at hal
        generalize vs[j] = y at hi
        obtain ⟨k, i, s, tt, ll, ff⟩ := y
        have ha := app_ok (acc := acc) j 0 8 hal.symm (by omega) (by omega)
        exact run_of [(10, .b true), (11, .e (Val.mk k i s tt ll ff).cells), (17, .app), (18, .i (Int.ofNat (j + 1)))] [] (pf4 (lt_nat hj) hi ha (next_nat (j := j) (by omega))) (lo' := []) (by kernel_rfl)
      · rw [ht]; 
        generalize vs[j].intOf = i
        generalize vs[j].cells = y
        generalize intsC (numsV (vs.take j)) = acc
        kernel_rfl
    · have : List.take (cellsL vs).length vs = vs := by rw [hn, List.take_length]
      rw [this]
      exact run_of [(10, .b false)] [] (pf1 (nlt_nat (Nat.lt_irrefl (cellsL vs).length))) (lo' := []) (by kernel_rfl)
  have hr : (intsC (numsV vs)).length = (cellsL vs).length := by simp [intsC, numsV, hn]
  generalize intsC (numsV vs) = r at hl hr ⊢
  exact pure_of [] [(.exit 0, ⟨[(3, .bs 0 0 (cellsL vs).length), (7, .sl false 6 (cellsL vs)), (8, nat (cellsL vs).length), (9, nat (cellsL vs).length), (10, boolX false)], [.row 1 r]⟩)] (pf1 hl) (x := .bs 0 0 (cellsL vs).length) (bx := [.row 1 r]) (by kernel_rfl) (by simp only [X.data]; rw [rowOf_all (bx := [.row 1 r]) rfl hr.symm]; rfl)

/-! ### A time within bounds -/
/-! ### Lookups -/
theorem expected57 (M : Nat) (s : Stt) (key : Val) (x : Slt) (b : Bool) (hg : Gam.pureD (callF tab ext M) 30 [.agg s.cells, .agg key.cells] = some (.tup [.agg x.cells, boolX b])) :
    Gam.pureD (callF tab ext (M + 1)) 15 [.agg s.cells, .agg key.cells] = some (num (if b then x.n else 1)) := by
  obtain ⟨a, c, ss⟩ := s
  obtain ⟨k1, k2, k3, k4, k5, k6⟩ := key
  obtain ⟨⟨x1, x2, x3, x4, x5, x6⟩, n, t, ms, vs⟩ := x
  cases b with
  | true => exact pure_of [(10, .p (.tup [.agg (Slt.mk ⟨x1, x2, x3, x4, x5, x6⟩ n t ms vs).cells, boolX true]))] [] (pf1 hg) (x := num n) (bx := []) (by kernel_rfl) rfl
  | false => exact pure_of [(10, .p (.tup [.agg (Slt.mk ⟨x1, x2, x3, x4, x5, x6⟩ n t ms vs).cells, boolX false]))] [] (pf1 hg) (x := num 1) (bx := []) (by kernel_rfl) rfl
end Go.Proofs.YtckdgafiindddaaGreatDoor

/- ResequencerLookups comes to true. -/
namespace Go.Proofs.YtckdgafiindddaaGreatDoor
open Go.Em
set_option maxRecDepth 100000

section
variable (x1 x2 x3 n t : Int) (x4 : ByteArray) (x5 x6 ms vs hl : List (List X)) (j : Nat)
end
end Go.Proofs.YtckdgafiindddaaGreatDoor

/- The resequencer: release as a whole. -/
namespace Go.Proofs.YtckdgafiindddaaGreatDoor
open Go.Em
set_option maxRecDepth 100000

theorem data_row0 {sz r : Nat} {acc : List (List X)} (h : acc.length = r) : (X.bs 0 0 r).data [.row sz acc] false = some (.sl false sz acc) := by
  subst h
  simp [X.data, rowOf]
theorem clone296 (N : Nat) (l : List (List X)) (h : l.length ≤ 1000000) : Gam.pureD (callF tab ext (N + 1)) 86 [.sl false 10 l] = some (.sl false 10 l) := by
  have e : callF tab ext (N + 1) (.fn 86) [.sl false 10 l] [] = cloneXExt 10 [.sl false 10 l] [] := rfl
  unfold Gam.pureD
  rw [e]
  show (match (if 10 = 10 ∧ l.length ≤ 1000000 then some (X.bs 0 0 l.length, [Bx.row 10 l]) else none) with | some (x, bx) => x.data bx false | none => none) = _
  rw [if_pos ⟨rfl, h⟩]
  exact data_row0 rfl
theorem clone297 (N : Nat) (l : List (List X)) (h : l.length ≤ 1000000) : Gam.pureD (callF tab ext (N + 1)) 87 [.sl false 6 l] = some (.sl false 6 l) := by
  have e : callF tab ext (N + 1) (.fn 87) [.sl false 6 l] [] = cloneXExt 6 [.sl false 6 l] [] := rfl
  unfold Gam.pureD
  rw [e]
  show (match (if 6 = 6 ∧ l.length ≤ 1000000 then some (X.bs 0 0 l.length, [Bx.row 6 l]) else none) with | some (x, bx) => x.data bx false | none => none) = _
  rw [if_pos ⟨rfl, h⟩]
  exact data_row0 rfl
theorem run295 (N : Nat) (x1 x2 x3 xn xt m : Int) (x4 : ByteArray) (x5 x6 ms vs : List (List X)) : Gam.pureD (callF tab ext (N + 5)) 85 [.agg (slC x1 x2 x3 xn xt x4 x5 x6 ms vs), num m] = some (.fn 110 [.dp (slC x1 x2 x3 xn xt x4 x5 x6 ms vs), .dp [num m]]) := by kernel_rfl
theorem col294 (sc : List X) (nx : Int) (acc : List (List X)) (M : Nat) (h : Gam.pureD (callF tab ext M) 109 [.sl true 10 [], .fn 110 [.dp sc, .dp [num nx]]] = some (.sl false 10 acc)) : Gam.pureD (callF tab ext (M + 1)) 84 [.fn 110 [.dp sc, .dp [num nx]]] = some (.sl false 10 acc) :=
  pure_of [(4, .p (.sl false 10 acc))] [] (pf1 h) (x := .sl false 10 acc) (bx := []) (by kernel_rfl) rfl
theorem rel_ret (N : Nat) (x1 x2 x3 xn xt m m' : Int) (x4 : ByteArray) (x5 x6 ms vs acc m2 v2 : List (List X)) (h295 : Gam.pureD (callF tab ext N) 85 [.agg (slC x1 x2 x3 xn xt x4 x5 x6 ms vs), num m] = some (.fn 110 [.dp (slC x1 x2 x3 xn xt x4 x5 x6 ms vs), .dp [num m]])) (h294 : Gam.pureD (callF tab ext N) 84 [.fn 110 [.dp (slC x1 x2 x3 xn xt x4 x5 x6 ms vs), .dp [num m]]] = some (.sl false 10 acc))
    (hcm : (Int.ofNat acc.length).toNat ≤ ms.length ∧ ms.length ≤ ms.length) (h296 : Gam.pureD (callF tab ext N) 86 [.sl false 10 ((ms.take ms.length).drop (Int.ofNat acc.length).toNat)] = some (.sl false 10 m2)) (hcv : (Int.ofNat acc.length).toNat ≤ vs.length ∧ vs.length ≤ vs.length) (h297 : Gam.pureD (callF tab ext N) 87 [.sl false 6 ((vs.take vs.length).drop (Int.ofNat acc.length).toNat)] = some (.sl false 6 v2)) (hw : IntKind.i64.wrap (m + Int.ofNat acc.length) = m') :
    callF tab ext (N + 1) (.fn 50) [.ptr 0 0 0, num m] [.var (slC x1 x2 x3 xn xt x4 x5 x6 ms vs)] = some (.sl false 10 acc, [.var (slC x1 x2 x3 m' xt x4 x5 x6 m2 v2)]) :=
  callF_of [(10, .p (.fn 110 [.dp (slC x1 x2 x3 xn xt x4 x5 x6 ms vs), .dp [num m]])), (11, .p (.sl false 10 acc)), (20, .cut), (21, .p (.sl false 10 m2)), (28, .cut), (29, .p (.sl false 6 v2)), (38, .i m')] [] (pf7 h295 h294 hcm h296 hcv h297 hw) (by kernel_rfl)
theorem cellsL_drop (vs : List Val) (r : Nat) : cellsL (vs.drop r) = (cellsL vs).drop r := by
  induction vs generalizing r with
  | nil => simp [cellsL]
  | cons v w ih => cases r with
    | zero => rfl
    | succ r => simpa [cellsL] using ih r
/-- release: the first r messages are taken off. -/
theorem rel211 (x : Slt) (nx : Int) (r N : Nat) (hN : 70000 ≤ N) (hv : x.vals.length = x.items.length) (hl : x.vals.length ≤ 1000) (hr : r ≤ x.vals.length) (hrun : ∀ j (h : j < r), (numsV x.vals)[j]'(by simp [numsV]; omega) = nx + (j : Int)) (hstop : ∀ h : r < (numsV x.vals).length, (numsV x.vals)[r] ≠ nx + (r : Int)) (h0 : 0 ≤ nx) (h2 : nx ≤ 4611686018427387904)
    (hnum : ∀ M, 60010 ≤ M → Gam.pureD (callF tab ext M) 45 [.agg x.cells] = some (.sl false 1 (intsC (numsV x.vals)))) :
    callF tab ext N (.fn 50) [.ptr 0 0 0, num nx] [.var x.cells] = some (.sl false 10 (msgsC (x.items.take r)), [.var (Slt.mk x.key (nx + (r : Int)) x.t (x.items.drop r) (x.vals.drop r)).cells]) := by
  obtain ⟨M, rfl⟩ : ∃ M, N = M + 5 := ⟨N - 5, by omega⟩
  obtain ⟨⟨x1, x2, x3, x4, x5, x6⟩, n, t, ms, vs⟩ := x
  dsimp only at hv hl hr hrun hstop
  have hnl : (numsV vs).length = vs.length := by simp [numsV]
  have hml := msgsC_length ms
  have hvl := cellsL_length vs
  have hI := iter371 x1 x2 x3 n t nx x4 (cellsL x5) (cellsF x6) (cellsL vs) ms (numsV vs) r (M + 1) (by omega) (by omega) hrun hstop h0 h2 (by omega) (by omega) (hnum (M + 1) (by omega))
  have hacc : (msgsC (ms.take r)).length = r := by rw [msgsC_length, List.length_take]; omega
  have h370 : Gam.pureD (callF tab ext (M + 3)) 109 [.sl true 10 [], .fn 110 [.dp (slC x1 x2 x3 n t x4 (cellsL x5) (cellsF x6) (msgsC ms) (cellsL vs)), .dp [num nx]]] = some (.sl false 10 (msgsC (ms.take r))) := by
    unfold Gam.pureD
    by_cases hz : r = 0
    · rw [if_pos hz] at hI
      rw [ap_call0 _ nx (M + 2) hI]
      subst hz
      exact data_row0 rfl
    · rw [if_neg hz] at hI
      rw [ap_call _ nx _ r (M + 2) hI]
      exact data_row0 hacc
  have h294 := col294 _ nx _ (M + 3) h370
  have e1 : ((msgsC ms).take (msgsC ms).length).drop (Int.ofNat (msgsC (ms.take r)).length).toNat = msgsC (ms.drop r) := by
    rw [List.take_length, hacc]; unfold msgsC; exact (List.map_drop).symm
  have e2 : ((cellsL vs).take (cellsL vs).length).drop (Int.ofNat (msgsC (ms.take r)).length).toNat = cellsL (vs.drop r) := by
    rw [List.take_length, hacc, cellsL_drop]; rfl
  have h296 := clone296 (M + 3) (msgsC (ms.drop r)) (by rw [msgsC_length, List.length_drop]; omega)
  have h297 := clone297 (M + 3) (cellsL (vs.drop r)) (by rw [cellsL_length, List.length_drop]; omega)
  rw [← e1] at h296
  rw [← e2] at h297
  have hw : IntKind.i64.wrap (nx + Int.ofNat (msgsC (ms.take r)).length) = nx + (r : Int) := by rw [hacc]; exact wrap_add h0 h2 (by omega)
  have key := rel_ret (M + 4) x1 x2 x3 n t nx (nx + (r : Int)) x4 (cellsL x5) (cellsF x6) (msgsC ms) (cellsL vs) (msgsC (ms.take r)) (msgsC (ms.drop r)) (cellsL (vs.drop r)) (run295 (M - 1) ..) h294 ⟨by rw [hacc]; simp only [Int.ofNat_eq_natCast, Int.toNat_natCast]; omega, Nat.le_refl _⟩ (by rw [e1] at h296 ⊢; exact h296) ⟨by rw [hacc]; simp only [Int.ofNat_eq_natCast, Int.toNat_natCast]; omega, Nat.le_refl _⟩ (by rw [e2] at h297 ⊢; exact h297) hw
  exact key
end Go.Proofs.YtckdgafiindddaaGreatDoor

/- A message's fate, and its environment. -/
namespace Go.Proofs.YtckdgafiindddaaGreatDoor
open Go.Em
set_option maxRecDepth 100000

theorem fate_pure (m : Msg) (hm : m.ok) (name r : ByteArray) (N : Nat) (hN : 300 ≤ N) : Gam.pureD (callF tab ext N) 104 [.agg m.cells, strX name, num 4, .sl false 1 [[.fn 105 [.dp [strX r]]]]] = some (.agg (Fte.mk m.st 4 name [] r).cells) := by
  obtain ⟨M, rfl⟩ : ∃ M, N = M + 101 := ⟨N - 101, by omega⟩
  have h1 := clone_stamp (M + 98) m.st hm.st
  obtain ⟨⟨e, p⟩, ms, o, ⟨a1, a2, a3, a4, a5, a6⟩⟩ := m
  exact pure_of [(14, .p (.agg (Stp.mk e p).cells))] [] (pf1 h1) (x := .agg [num e, .sl false 1 (intsC p), num 4, strX name, .sl true 2 [], strX r]) (bx := []) (by kernel_rfl) rfl
/-- message.Rejected. -/
theorem rejected_pure (m : Msg) (hm : m.ok) (name r : ByteArray) (N : Nat) (hN : 310 ≤ N) : Gam.pureD (callF tab ext N) 74 [.agg m.cells, strX name, strX r] = some (.agg (Fte.mk m.st 4 name [] r).cells) := by
  obtain ⟨M, rfl⟩ : ∃ M, N = M + 1 := ⟨N - 1, by omega⟩
  have h1 := fate_pure m hm name r M (by omega)
  obtain ⟨⟨e, p⟩, ms, o, ⟨a1, a2, a3, a4, a5, a6⟩⟩ := m
  exact pure_of [(11, .p (.agg (Fte.mk ⟨e, p⟩ 4 name [] r).cells))] [] (pf1 h1) (x := .agg (Fte.mk ⟨e, p⟩ 4 name [] r).cells) (bx := []) (by kernel_rfl) rfl
end Go.Proofs.YtckdgafiindddaaGreatDoor

/- The stamps of messages; a message that was replaced. -/
namespace Go.Proofs.YtckdgafiindddaaGreatDoor
open Go.Em
set_option maxRecDepth 100000

theorem stpsC_take_succ {ss : List Stp} {j : Nat} (h : j < ss.length) : stpsC (ss.take (j + 1)) = stpsC (ss.take j) ++ [(ss[j]).cells] := by
  grind[List.take_add_one,stpsC]
section
variable (N n j : Nat) (ms ss : List (List X)) (e q : Int) (p o : List (List X)) (a1 a2 a3 : Int) (a4 : ByteArray) (a5 a6 : List (List X))
end
/-! ### into -/
section
variable (N n j : Nat) (e k : Int) (p : List (List X)) (nm : ByteArray) (l ss : List (List X)) (se : Int) (sp : List (List X))
def itH : St := ⟨[(0, .ptr 0 0 0), (5, .sl false 2 l), (6, nat n), (7, nat j)], [.var [num e, .sl false 1 p, num k, strX nm, .bs 1 0 j, noText], .row 2 ss]⟩
def itH' : St := ⟨[(0, .ptr 0 0 0), (5, .sl false 2 l), (6, nat n), (7, nat (j + 1))], [.var [num e, .sl false 1 p, num k, strX nm, .bs 3 0 (j + 1), noText], .dead, .var [num se, .sl false 1 sp], .row 2 ss]⟩
theorem it_canon : canon 1 (itH n j e k p nm l ss) = some (itH n j e k p nm l ss) := by kernel_rfl
theorem it_canon' : canon 1 (itH' n j e k p nm l ss se sp) = some (itH n (j + 1) e k p nm l ss) := by kernel_rfl
theorem it_step (hi : l[j]? = some [num se, .sl false 1 sp]) (h1 : Gam.pureD (callF tab ext N) 80 [.agg [num se, .sl false 1 sp]] = some (.agg [num se, .sl false 1 sp])) (hj : j < n) (hl : n < 100000) (hs : j = ss.length) :
    run (callF tab ext N) 1 N (loopAt 148 0) (itH n j e k p nm l ss) = some (.norm, itH' n j e k p nm l (ss ++ [[num se, .sl false 1 sp]]) se sp) :=
  run_of [(8, .b true), (9, .e [num se, .sl false 1 sp]), (17, .p (.agg [num se, .sl false 1 sp])), (19, .app), (22, .i (Int.ofNat (j + 1)))] []
    (pf5 (lt_nat hj) hi h1 (app_ok j 1 32 hs (by omega) (by omega)) (next_nat (j := j) (by omega))) (lo' := []) (by kernel_rfl)
theorem it_end : run (callF tab ext N) 1 N (loopAt 148 0) (itH n n e k p nm l ss) = some (.exit 0, ⟨[(0, .ptr 0 0 0), (5, .sl false 2 l), (6, nat n), (7, nat n), (8, .v (.bool false))], [.var [num e, .sl false 1 p, num k, strX nm, .bs 1 0 n, noText], .row 2 ss]⟩) :=
  run_of [(8, .b false)] [] (pf1 (nlt_nat (j := n) (k := n) (by omega))) (lo' := []) (by kernel_rfl)
end
theorem into_call (N : Nat) (ss : List Stp) (hs : ∀ s, s ∈ ss → s.ok) (hl : ss.length < 50000) (hN : ss.length + 10 ≤ N) (e k : Int) (p : List (List X)) (nm : ByteArray) :
    callF tab ext N (.fn 148) [.ptr 0 0 0, .dp [.sl false 2 (stpsC ss)]] [.var [num e, .sl false 1 p, num k, strX nm, .sl true 2 [], noText]] = some (.tup [], [.var [num e, .sl false 1 p, num k, strX nm, .bs 1 0 ss.length, noText], .row 2 (stpsC ss)]) := by
  obtain ⟨M, rfl⟩ : ∃ M, N = M + 3 := ⟨N - 3, by omega⟩
  have hlen := stpsC_length ss
  have hrun : run (callF tab ext (M + 2)) 1 (M + 2) (.loop (loopAt 148 0)) (itH ss.length 0 e k p nm (stpsC ss) []) = some (.exit 0, ⟨[(0, .ptr 0 0 0), (5, .sl false 2 (stpsC ss)), (6, nat ss.length), (7, nat ss.length), (8, .v (.bool false))], [.var [num e, .sl false 1 p, num k, strX nm, .bs 1 0 ss.length, noText], .row 2 (stpsC ss)]⟩) := by
    refine loop_for (σ := fun j => itH ss.length j e k p nm (stpsC ss) (stpsC (ss.take j))) (k := ss.length) (it_canon ..) (fun j hj => ?_) ?_ (by simp) (by omega)
    · have hc := clone_stamp M ss[j] (hs _ (List.getElem_mem hj))
      have hg := stpsC_get hj
      have ht := stpsC_take_succ hj
      generalize ss[j] = q at hc hg ht
      obtain ⟨se, sp⟩ := q
      refine ⟨_, it_step (hi := hg) (h1 := hc) (hj := hj) (hl := by omega) (hs := by grind[stpsC]) .., ?_⟩
      rw [ht]
      exact it_canon' ..
    · grind[it_end]
  rw [← hlen] at hrun ⊢
  generalize stpsC ss = so at hrun ⊢
  exact callF_of [] [(.exit 0, ⟨[(0, .ptr 0 0 0), (5, .sl false 2 so), (6, nat so.length), (7, nat so.length), (8, .v (.bool false))], [.var [num e, .sl false 1 p, num k, strX nm, .bs 1 0 so.length, noText], .row 2 so]⟩)] (pf1 hrun) (by kernel_rfl)
theorem fate_l (N : Nat) (e q : Int) (p o : List (List X)) (a1 a2 a3 : Int) (a4 : ByteArray) (a5 a6 : List (List X)) (nm : ByteArray) (l : List (List X)) (h1 : Gam.pureD (callF tab ext (N + 5)) 80 [.agg [num e, .sl false 1 p]] = some (.agg [num e, .sl false 1 p]))
    (h2 : callF tab ext (N + 5) (.fn 148) [.ptr 0 0 0, .dp [.sl false 2 l]] [.var [num e, .sl false 1 p, num 1, strX nm, .sl true 2 [], noText]] = some (.tup [], [.var [num e, .sl false 1 p, num 1, strX nm, .bs 1 0 l.length, noText], .row 2 l])) :
    Gam.pureD (callF tab ext (N + 6)) 104 [.agg [num e, .sl false 1 p, num q, .sl false 1 o, num a1, num a2, num a3, strX a4, .sl false 6 a5, .sl false 7 a6], strX nm, num 1, .sl false 1 [[.fn 148 [.dp [.sl false 2 l]]]]] = some (.agg [num e, .sl false 1 p, num 1, strX nm, .sl false 2 l, noText]) := by
  refine pure_of [(14, .p (.agg [num e, .sl false 1 p])), (25, .r (.tup []) [.var [num e, .sl false 1 p, num 1, strX nm, .bs 1 0 l.length, noText], .row 2 l])] [] (pf2 h1 h2) (x := .agg [num e, .sl false 1 p, num 1, strX nm, .bs 0 0 l.length, noText]) (bx := [.row 2 l]) (by kernel_rfl) ?_
  have h3 := rowOf_all (bx := [.row 2 l]) (i := 0) (n := l.length) rfl rfl<;>simp_all[X.data,dataL,num,strX,noText]
/-- message.Replaced. -/
theorem replaced_pure (N : Nat) (m : Msg) (h : m.st.ok) (nm : ByteArray) (ss : List Stp) (hs : ∀ s, s ∈ ss → s.ok) (hl : ss.length < 50000) (hN : ss.length + 30 ≤ N) : Gam.pureD (callF tab ext N) 90 [.agg m.cells, strX nm, .sl false 2 (stpsC ss)] = some (.agg (Fte.mk m.st 1 nm ss ⟨#[]⟩).cells) := by
  obtain ⟨M, rfl⟩ : ∃ M, N = M + 12 := ⟨N - 12, by omega⟩
  have h1 := clone_stamp (M + 8) m.st h
  have h2 := into_call (M + 10) ss hs hl (by omega) m.st.e 1 (intsC m.st.p) nm
  rw [← stpsC_length ss] at h2
  obtain ⟨⟨e, p⟩, w, o, ⟨a1, a2, a3, a4, a5, a6⟩⟩ := m
  have h3 := fate_l (M + 5) e w (intsC p) (intsC o) a1 a2 a3 a4 (cellsL a5) (cellsF a6) nm (stpsC ss) h1 h2
  show _ = some (X.agg [num e, .sl false 1 (intsC p), num 1, strX nm, .sl false 2 (stpsC ss), noText])
  generalize stpsC ss = l at h3 ⊢
  exact pure_of [(12, .p (.agg [num e, .sl false 1 (intsC p), num 1, strX nm, .sl false 2 l, noText]))] [] (pf1 h3) (x := .agg [num e, .sl false 1 (intsC p), num 1, strX nm, .sl false 2 l, noText]) (bx := []) (by kernel_rfl) rfl
end Go.Proofs.YtckdgafiindddaaGreatDoor

/- Copies of a value, a message with another body, a stamp with one more number. -/
namespace Go.Proofs.YtckdgafiindddaaGreatDoor
open Go.Em
set_option maxRecDepth 100000
theorem intsC_snoc (p : List Int) (k : Int) : intsC p ++ [[num k]] = intsC (p ++ [k]) := by
  induction p with
  | nil => rfl
  | cons a r ih => exact congrArg (([num a]) :: ·) ih
theorem under_l (M : Nat) (e k : Int) (l : List (List X)) (n : Nat) (h1 : callF tab ext (M + 1) (.fn 81) [.sl false 1 l] [] = some (.bs 0 0 n, [.row 1 l])) (hn : n = l.length) (hb : n < 1000000) : Gam.pureD (callF tab ext (M + 2)) 88 [.agg [num e, .sl false 1 l], num k] = some (X.agg [num e, .sl false 1 (l ++ [[num k]])]) := by
  refine pure_of [(9, .o (.bs 0 0 n) [.row 1 l]), (12, .app)] [] (pf2 h1 (app_ok n 0 8 hn hb (by omega))) (x := .agg [num e, .bs 0 0 (n + 1)]) (bx := [.row 1 (l ++ [[num k]])]) (by kernel_rfl) ?_
  have h2 : rowOf [.row 1 (l ++ [[num k]])] 0 0 (n + 1) = some (1, l ++ [[num k]]) := rowOf_all rfl (by rw [List.length_append]; simp [hn])<;>simp_all[num,X.data,dataL]
/-- message.Under. -/
theorem under_pure (s : Stp) (hs : s.ok) (k : Int) (N : Nat) (hN : 10 ≤ N) : Gam.pureD (callF tab ext N) 88 [.agg s.cells, num k] = some (.agg (Stp.mk s.e (s.p ++ [k])).cells) := by
  obtain ⟨M, rfl⟩ : ∃ M, N = M + 2 := ⟨N - 2, by omega⟩
  have h := under_l M s.e k (intsC s.p) s.p.length (clone_row M s.p hs.p) (intsC_length s.p).symm (by have := hs.p; omega)
  rw [intsC_snoc] at h
  exact h
end Go.Proofs.YtckdgafiindddaaGreatDoor

/- The resequencer: messages are sent on with new stamps. -/
namespace Go.Proofs.YtckdgafiindddaaGreatDoor
open Go.Em
set_option maxRecDepth 100000

theorem mv_l (M : Nat) (f e mm a1 a2 a3 : Int) (a4 : ByteArray) (q us o a5 a6 : List (List X)) (h98 : Gam.pureD (callF tab ext M) 47 [.agg [num f, .sl false 1 q, num mm, .sl false 1 o, num a1, num a2, num a3, strX a4, .sl false 6 a5, .sl false 7 a6]] = some (.agg [num f, .sl false 1 q, num mm, .sl false 1 o, num a1, num a2, num a3, strX a4, .sl false 6 a5, .sl false 7 a6]))
    (h159 : Gam.pureD (callF tab ext M) 80 [.agg [num e, .sl false 1 us]] = some (.agg [num e, .sl false 1 us])) :
    Gam.pureD (callF tab ext (M + 1)) 89 [.agg [num f, .sl false 1 q, num mm, .sl false 1 o, num a1, num a2, num a3, strX a4, .sl false 6 a5, .sl false 7 a6], .agg [num e, .sl false 1 us]] = some (.agg [num e, .sl false 1 us, num mm, .sl false 1 o, num a1, num a2, num a3, strX a4, .sl false 6 a5, .sl false 7 a6]) :=
  pure_of [(6, .p (.agg [num f, .sl false 1 q, num mm, .sl false 1 o, num a1, num a2, num a3, strX a4, .sl false 6 a5, .sl false 7 a6])), (8, .p (.agg [num e, .sl false 1 us]))] [] (pf2 h98 h159) (x := .agg [num e, .sl false 1 us, num mm, .sl false 1 o, num a1, num a2, num a3, strX a4, .sl false 6 a5, .sl false 7 a6]) (bx := []) (by kernel_rfl) rfl
theorem move298 (M : Nat) (m : Msg) (hm : m.ok) (s : Stp) (hs : s.ok) (hM : 190010 ≤ M) : Gam.pureD (callF tab ext M) 89 [.agg m.cells, .agg s.cells] = some (.agg ({ m with st := s } : Msg).cells) := by
  obtain ⟨K, rfl⟩ : ∃ K, M = K + 3 := ⟨M - 3, by omega⟩
  have h1 := clone_msg (K + 2) m hm (by omega)
  have h2 := clone_stamp K s hs
  obtain ⟨⟨f, q⟩, mm, o, ⟨a1, a2, a3, a4, a5, a6⟩⟩ := m
  obtain ⟨e, us⟩ := s
  exact mv_l (K + 2) f e mm a1 a2 a3 a4 (intsC q) (intsC us) (intsC o) (cellsL a5) (cellsF a6) h1 h2
section
variable (nm a4 : ByteArray) (e f mm a1 a2 a3 : Int) (p q l outs fates us o a5 a6 : List (List X)) (M j n : Nat)
def seB (j : Nat) (outs fates : List (List X)) : List Bx := [.var [strX nm, num e, .sl false 1 p, num 0, num 0, .sl true 10 [], .bs 1 0 j, .sl true 11 [], .bs 2 0 j, .sl true 10 []], .row 11 outs, .row 6 fates]
def seR (j : Nat) (outs fates : List (List X)) : St := ⟨[(0, .ptr 0 0 0), (7, .sl false 10 l), (8, nat n), (9, nat j)], seB nm e p j outs fates⟩
theorem se_round (h1 : decide (Int.ofNat j < Int.ofNat n) = true) (hj : j < 100000) (ho : j = outs.length) (hf : j = fates.length) (hg : l[j]? = some [num f, .sl false 1 q, num mm, .sl false 1 o, num a1, num a2, num a3, strX a4, .sl false 6 a5, .sl false 7 a6])
    (h70 : Gam.pureD (callF tab ext M) 88 [.agg [num e, .sl false 1 p], nat j] = some (.agg [num e, .sl false 1 us]))
    (h298 : Gam.pureD (callF tab ext M) 89 [.agg [num f, .sl false 1 q, num mm, .sl false 1 o, num a1, num a2, num a3, strX a4, .sl false 6 a5, .sl false 7 a6], .agg [num e, .sl false 1 us]] = some (.agg [num e, .sl false 1 us, num mm, .sl false 1 o, num a1, num a2, num a3, strX a4, .sl false 6 a5, .sl false 7 a6]))
    (h85 : Gam.pureD (callF tab ext M) 90 [.agg [num f, .sl false 1 q, num mm, .sl false 1 o, num a1, num a2, num a3, strX a4, .sl false 6 a5, .sl false 7 a6], strX nm, .sl false 2 [[num e, .sl false 1 us]]] = some (.agg [num f, .sl false 1 q, num 1, strX nm, .sl false 2 [[num e, .sl false 1 us]], noText])) :
    ∃ υ, run (callF tab ext M) 1 M (loopAt 51 0) (seR nm e p l n j outs fates) = some (.norm, υ) ∧ canon 1 υ = some (seR nm e p l n (j + 1) (outs ++ [[num 0, num e, .sl false 1 us, num mm, .sl false 1 o, num a1, num a2, num a3, strX a4, .sl false 6 a5, .sl false 7 a6]]) (fates ++ [[num f, .sl false 1 q, num 1, strX nm, .sl false 2 [[num e, .sl false 1 us]], noText]])) :=
  rd_of [(10, .b true), (11, .e [num f, .sl false 1 q, num mm, .sl false 1 o, num a1, num a2, num a3, strX a4, .sl false 6 a5, .sl false 7 a6]), (23, .p (.agg [num e, .sl false 1 us])), (32, .p (.agg [num e, .sl false 1 us, num mm, .sl false 1 o, num a1, num a2, num a3, strX a4, .sl false 6 a5, .sl false 7 a6])), (35, .app), (52, .p (.agg [num f, .sl false 1 q, num 1, strX nm, .sl false 2 [[num e, .sl false 1 us]], noText])), (54, .app), (58, .i (Int.ofNat (j + 1)))]
    (pf8 h1 hg h70 h298 (app_ok (acc := outs) j 1 160 ho (by omega) (by omega)) h85 (app_ok (acc := fates) j 2 96 hf (by omega) (by omega)) (next_nat (j := j) (by omega))) (by kernel_rfl)
theorem se_stop (h1 : decide (Int.ofNat j < Int.ofNat n) = false) : run (callF tab ext M) 1 M (loopAt 51 0) (seR nm e p l n j outs fates) = some (.exit 0, ⟨[(0, .ptr 0 0 0), (7, .sl false 10 l), (8, nat n), (9, nat j), (10, boolX false)], seB nm e p j outs fates⟩) :=
  run_of [(10, .b false)] [] (pf1 h1) (lo' := []) (by kernel_rfl)
theorem se_canonR : canon 1 (seR nm e p l n j outs fates) = some (seR nm e p l n j outs fates) := by kernel_rfl
theorem se_call (hl : run (callF tab ext M) 1 M (.loop (loopAt 51 0)) (seR nm e p l l.length 0 [] []) = some (.exit 0, ⟨[(0, .ptr 0 0 0), (7, .sl false 10 l), (8, nat l.length), (9, nat j), (10, boolX false)], seB nm e p j outs fates⟩)) :
    callF tab ext (M + 1) (.fn 51) [.ptr 0 0 0, .sl false 10 l] [.var [strX nm, num e, .sl false 1 p, num 0, num 0, .sl true 10 [], .sl true 11 [], .sl true 11 [], .sl true 6 [], .sl true 10 []]] = some (.tup [], seB nm e p j outs fates) :=
  callF_of [] [(.exit 0, ⟨[(0, .ptr 0 0 0), (7, .sl false 10 l), (8, nat l.length), (9, nat j), (10, boolX false)], seB nm e p j outs fates⟩)] (pf1 hl) (by kernel_rfl)
end
/-- The outputs and fates of messages that are sent on under a stamp. -/
def undS (s : Stp) (k : Nat) : Stp := ⟨s.e, s.p ++ [(k : Int)]⟩
def sentO (s : Stp) (l : List Msg) : List Otp := l.mapIdx fun k m => ⟨0, { m with st := undS s k }⟩
def sentF (nm : ByteArray) (s : Stp) (l : List Msg) : List Fte := l.mapIdx fun k m => ⟨m.st, 1, nm, [undS s k], ⟨#[]⟩⟩
theorem mapIdx_snoc {α β : Type} (f : Nat → α → β) (l : List α) (j : Nat) (h : j < l.length) : (l.take (j + 1)).mapIdx f = (l.take j).mapIdx f ++ [f j l[j]] := by
  rw [List.take_succ_eq_append_getElem h, List.mapIdx_append]
  simp [Nat.min_eq_left (Nat.le_of_lt h)]
theorem send212 (nm : ByteArray) (s : Stp) (hs : s.p.length ≤ 10000) (l : List Msg) (hl : l.length ≤ 1000) (hok : ∀ m, m ∈ l → m.ok) (N : Nat) (hN : 200000 ≤ N) :
    callF tab ext N (.fn 51) [.ptr 0 0 0, .sl false 10 (msgsC l)] [.var [strX nm, num s.e, .sl false 1 (intsC s.p), num 0, num 0, .sl true 10 [], .sl true 11 [], .sl true 11 [], .sl true 6 [], .sl true 10 []]] = some (.tup [], seB nm s.e (intsC s.p) l.length (otpsC (sentO s l)) (ftesC (sentF nm s l))) := by
  obtain ⟨M, rfl⟩ : ∃ M, N = M + 2 := ⟨N - 2, by omega⟩
  have hml := msgsC_length l
  have hsok : ∀ k : Nat, (undS s k).ok := fun k => ⟨by unfold undS; simp; omega⟩
  refine se_call nm s.e (intsC s.p) (msgsC l) (otpsC (sentO s l)) (ftesC (sentF nm s l)) (M + 1) l.length ?_
  have e0 : seR nm s.e (intsC s.p) (msgsC l) (msgsC l).length 0 [] [] = seR nm s.e (intsC s.p) (msgsC l) (msgsC l).length 0 (otpsC (sentO s (l.take 0))) (ftesC (sentF nm s (l.take 0))) := rfl
  rw [e0]
  refine (loop_for (σ := fun j => seR nm s.e (intsC s.p) (msgsC l) (msgsC l).length j (otpsC (sentO s (l.take j))) (ftesC (sentF nm s (l.take j)))) (k := l.length) (se_canonR ..) (fun j hj => ?_) ?_ (by simp) (by omega))
  · have hg := msgsC_get hj
    have hmo := hok _ (List.getElem_mem hj)
    have h70 := under_pure s ⟨by omega⟩ (Int.ofNat j) (M + 1) (by omega)
    have h298 := move298 (M + 1) l[j] hmo (undS s j) (hsok j) (by omega)
    have h85 := replaced_pure (M + 1) l[j] hmo.st nm [undS s j] (fun q hq => by rw [List.mem_singleton.1 hq]; exact hsok j) (by simp) (by simp; omega)
    have eo : otpsC (sentO s (l.take (j + 1))) = otpsC (sentO s (l.take j)) ++ [(Otp.mk 0 { l[j] with st := undS s j }).cells] := by
      unfold sentO otpsC; rw [mapIdx_snoc _ l j hj, List.map_append]; rfl
    have ef : ftesC (sentF nm s (l.take (j + 1))) = ftesC (sentF nm s (l.take j)) ++ [(Fte.mk l[j].st 1 nm [undS s j] ⟨#[]⟩).cells] := by
      unfold sentF ftesC; rw [mapIdx_snoc _ l j hj, List.map_append]; rfl
    have ho : j = (otpsC (sentO s (l.take j))).length := by rw [otpsC_length]; unfold sentO; rw [List.length_mapIdx, List.length_take]; omega
    have hf : j = (ftesC (sentF nm s (l.take j))).length := by rw [ftesC_length]; unfold sentF; rw [List.length_mapIdx, List.length_take]; omega
    show ∃ υ, _ ∧ canon 1 υ = some (seR nm s.e (intsC s.p) (msgsC l) (msgsC l).length (j + 1) (otpsC (sentO s (l.take (j + 1)))) (ftesC (sentF nm s (l.take (j + 1)))))
    rw [eo, ef]
    generalize l[j] = m at *
    obtain ⟨⟨f, q⟩, mm, o, ⟨a1, a2, a3, a4, a5, a6⟩⟩ := m
    exact se_round nm a4 s.e f mm a1 a2 a3 (intsC s.p) (intsC q) (msgsC l) _ _ (intsC (undS s j).p) (intsC o) (cellsL a5) (cellsF a6) (M + 1) j (msgsC l).length (lt_nat (by omega)) (by omega) ho hf hg h70 h298 h85
  · have := se_stop nm s.e (intsC s.p) (msgsC l) (otpsC (sentO s (l.take l.length))) (ftesC (sentF nm s (l.take l.length))) (M + 1) l.length (msgsC l).length (nlt_nat (by omega))
    rw [List.take_length] at this ⊢
    rw [hml] at this ⊢
    exact this
end Go.Proofs.YtckdgafiindddaaGreatDoor

/- The resequencer: the numbers of a group of the step's own; the group as slots.Get hands it over. -/
namespace Go.Proofs.YtckdgafiindddaaGreatDoor
open Go.Em
set_option maxRecDepth 100000

def slR (x1 x2 x3 xn xt : Int) (x4 : ByteArray) (x5 x6 : List (List X)) (k k2 : Nat) : List X := [num x1, num x2, num x3, strX x4, .sl false 6 x5, .sl false 7 x6, num xn, num xt, .bs 0 0 k, .bs 1 0 k2]
/-- A group: key, next number, deadline, messages, their numbers. -/
def grpS (g n t : Int) (ms : List Msg) (L : List Int) : Slt := ⟨kv g, n, t, ms, L.map kv⟩
theorem numsV_kv (L : List Int) : numsV (L.map kv) = L := by
  unfold numsV
  rw [List.map_map]
  exact (List.map_congr_left (fun _ _ => rfl)).trans (List.map_id L)
theorem kvs_get {L : List Int} {j : Nat} (h : j < L.length) : (cellsL (L.map kv))[j]? = some [num 2, num L[j], num 0, strX ⟨#[]⟩, .sl false 6 [], .sl false 7 []] := by
  rw [cellsL_get (by simpa using h)]
  simp [kv, Val.cells, cellsL, cellsF]
section
variable (ms vs acc : List (List X)) (n j : Nat) (y : Int) (M : Nat)
def nrH : St := ⟨[(3, .bs 2 0 j), (7, .bs 1 0 n), (8, nat n), (9, nat j)], [.row 10 ms, .row 6 vs, .row 1 acc]⟩
def nrE : St := ⟨[(3, .bs 2 0 j), (7, .bs 1 0 n), (8, nat n), (9, nat j), (10, boolX false)], [.row 10 ms, .row 6 vs, .row 1 acc]⟩
theorem nr_round (h : j < n) (hn : n < 100000) (ha : j = acc.length) (hy : vs[0 + j]? = some [num 2, num y, num 0, strX ⟨#[]⟩, .sl false 6 [], .sl false 7 []]) :
    ∃ υ, run (callF tab ext M) 2 M (loopAt 45 0) (nrH ms vs acc n j) = some (.norm, υ) ∧ canon 2 υ = some (nrH ms vs (acc ++ [[num y]]) n (j + 1)) :=
  rd_of [(10, .b true), (11, .at), (12, .ld [num 2, num y, num 0, strX ⟨#[]⟩, .sl false 6 [], .sl false 7 []]), (17, .app), (18, .i (Int.ofNat (j + 1)))] (pf5 (lt_nat h) h hy (app_ok (acc := acc) j 2 8 ha (by omega) (by omega)) (next_nat (j := j) (by omega))) (by kernel_rfl)
theorem nr_end : run (callF tab ext M) 2 M (loopAt 45 0) (nrH ms vs acc n n) = some (.exit 0, nrE ms vs acc n n) :=
  run_of [(10, .b false)] [] (pf1 (nlt_nat (Nat.lt_irrefl n))) (lo' := []) (by kernel_rfl)
theorem nr_canon0 (g xn xt : Int) (k : Nat) : canon 2 ⟨[(3, .bs 3 0 0), (7, .bs 1 0 n), (8, nat n), (9, num 0)], [.row 10 ms, .row 6 vs, .var (slR 2 g 0 xn xt ⟨#[]⟩ [] [] k n), .row 1 []]⟩ = some (nrH ms vs [] n 0) := by kernel_rfl
theorem nr_call (g xn xt : Int) (k : Nat) (hl : run (callF tab ext M) 2 M (.loop (loopAt 45 0)) ⟨[(3, .bs 3 0 0), (7, .bs 1 0 n), (8, nat n), (9, num 0)], [.row 10 ms, .row 6 vs, .var (slR 2 g 0 xn xt ⟨#[]⟩ [] [] k n), .row 1 []]⟩ = some (.exit 0, nrE ms vs acc n n)) :
    callF tab ext (M + 1) (.fn 45) [.agg (slR 2 g 0 xn xt ⟨#[]⟩ [] [] k n)] [.row 10 ms, .row 6 vs] = some (.bs 2 0 n, [.row 10 ms, .row 6 vs, .row 1 acc]) :=
  callF_of [] [(.exit 0, nrE ms vs acc n n)] (pf1 hl) (by kernel_rfl)
end
theorem numbers_ref (g xn xt : Int) (k : Nat) (ms : List (List X)) (L : List Int) (hL : L.length ≤ 1000) (N : Nat) (hN : 2000 ≤ N) :
    callF tab ext N (.fn 45) [.agg (slR 2 g 0 xn xt ⟨#[]⟩ [] [] k L.length)] [.row 10 ms, .row 6 (cellsL (L.map kv))] = some (.bs 2 0 L.length, [.row 10 ms, .row 6 (cellsL (L.map kv)), .row 1 (intsC L)]) := by
  obtain ⟨M, rfl⟩ : ∃ M, N = M + 1 := ⟨N - 1, by omega⟩
  refine nr_call ms _ _ L.length M g xn xt k (loop_for (σ := fun j => nrH ms (cellsL (L.map kv)) (intsC (L.take j)) L.length j) (k := L.length) (nr_canon0 ms _ L.length g xn xt k) (fun j hj => ?_) ?_ (by simp) (by omega))
  · have hg := kvs_get hj
    have e : intsC (L.take (j + 1)) = intsC (L.take j) ++ [[num L[j]]] := by
      unfold intsC; rw [List.take_succ_eq_append_getElem hj, List.map_append]; rfl
    have ha : j = (intsC (L.take j)).length := by rw [intsC_len, List.length_take]; omega
    show ∃ υ, _ ∧ canon 2 υ = some (nrH ms (cellsL (L.map kv)) (intsC (L.take (j + 1))) L.length (j + 1))
    rw [e]
    exact nr_round ms _ _ L.length j L[j] M hj (by omega) ha (by rw [Nat.zero_add]; exact hg)
  · have := nr_end ms (cellsL (L.map kv)) (intsC (L.take L.length)) L.length M
    rw [List.take_length] at this ⊢
    exact this

/-- slots.Get, as it hands the group's rows over. -/
def getX (b : Bool) (x : Slt) : X × List Bx := if b then (.tup [.agg (x.key.cells ++ [num x.n, num x.t, .bs 0 0 (msgsC x.items).length, .bs 1 0 (cellsL x.vals).length]), boolX true], [.row 10 (msgsC x.items), .row 6 (cellsL x.vals)])
  else (.tup [.agg [num 0, num 0, num 0, strX ⟨#[]⟩, .sl true 6 [], .sl true 7 [], num 0, num 0, .sl true 10 [], .sl true 6 []], boolX false], [])
theorem get_ex3 (s : Stt) (hs : s.small) (key : Val) : ∃ (i : Nat) (b : Bool) (x : Slt), i ≤ s.slots.length ∧ (b = true → ∃ h : i < s.slots.length, cmpV s.slots[i].key key = 0 ∧ x = s.slots[i]) ∧ (b = false → Spot s.slots key i ∧ ∀ h : i < s.slots.length, ¬ cmpV s.slots[i].key key = 0) ∧ (∀ N, 190050 ≤ N → callF tab ext N (.fn 30) [.agg s.cells, .agg key.cells] [] = some (getX b x)) ∧ ∀ N, 190040 ≤ N → Gam.pureD (callF tab ext N) 55 [.agg s.cells, .agg key.cells] = some (.tup [nat i, boolX b]) := by
  obtain ⟨i, b, hi, h1, h2, hf⟩ := find_ex2 s hs key
  have hf0 := hf
  have hok := hs.ok.slot
  obtain ⟨a, c, ss⟩ := s
  obtain ⟨k1, k2, k3, k4, k5, k6⟩ := key
  dsimp only at hi h1 h2 hok
  cases b with
  | false =>
    refine ⟨i, false, dSlt, hi, fun h => (by cases h), fun _ => h2 rfl, fun N hN => ?_, hf0⟩
    obtain ⟨M, rfl⟩ : ∃ M, N = M + 1 := ⟨N - 1, by omega⟩
    have hf := hf M (by omega)
    exact callF_of [(11, .p (.tup [nat i, boolX false]))] [] (pf1 hf) (by kernel_rfl)
  | true =>
    obtain ⟨hlt, hc⟩ := h1 rfl
    refine ⟨i, true, ss[i], hi, fun _ => ⟨hlt, hc, rfl⟩, fun h => (by cases h), fun N hN => ?_, hf0⟩
    obtain ⟨M, rfl⟩ : ∃ M, N = M + 1 := ⟨N - 1, by omega⟩
    have hf := hf M (by omega)
    have hg := sltsC_get hlt
    have hxo := hok _ (List.getElem_mem hlt)
    generalize ss[i] = x at hg hxo ⊢
    obtain ⟨⟨x1, x2, x3, x4, x5, x6⟩, n, t, ms, vs⟩ := x
    have hcl : callF tab ext M (.fn 54) [.agg (Slt.mk ⟨x1, x2, x3, x4, x5, x6⟩ n t ms vs).cells] [] = some (.agg [num x1, num x2, num x3, strX x4, .sl false 6 (cellsL x5), .sl false 7 (cellsF x6), num n, num t, .bs 0 0 (msgsC ms).length, .bs 1 0 (cellsL vs).length], [.row 10 (msgsC ms), .row 6 (cellsL vs)]) := clone_slot M _ hxo (by omega)
    exact callF_of [(11, .p (.tup [nat i, boolX true])), (20, .e (Slt.mk ⟨x1, x2, x3, x4, x5, x6⟩ n t ms vs).cells), (22, .o (.agg [num x1, num x2, num x3, strX x4, .sl false 6 (cellsL x5), .sl false 7 (cellsF x6), num n, num t, .bs 0 0 (msgsC ms).length, .bs 1 0 (cellsL vs).length]) [.row 10 (msgsC ms), .row 6 (cellsL vs)])] [] (pf3 hf hg hcl) (by kernel_rfl)
end Go.Proofs.YtckdgafiindddaaGreatDoor

/- The resequencer: receive, a message that is held. -/
namespace Go.Proofs.YtckdgafiindddaaGreatDoor
open Go.Em
set_option maxRecDepth 100000

theorem pfJ {a b c d e f g : Prop} {l : List Prop} (h1 : a) (h2 : b) (h3 : c) (h4 : d) (h5 : e) (h6 : f) (h7 : g) (h : allP l) : allP (a :: b :: c :: d :: e :: f :: g :: l) := ⟨h1, h2, h3, h4, h5, h6, h7, h⟩
theorem data_agg {bx : List Bx} {cs ds : List X} (h : dataL bx false cs = some ds) : (X.agg cs).data bx false = some (.agg ds) := by simp [X.data, h]
theorem data_bs {bx : List Bx} {i n sz : Nat} {es : List (List X)} (h : bx[i]? = some (.row sz es)) (hn : n = es.length) : (X.bs i 0 n).data bx false = some (.sl false sz es) := by
  subst hn; simp [X.data, rowOf, h]
theorem dataL_cons {bx : List Bx} {x y : X} {r q : List X} (h : x.data bx false = some y) (h2 : dataL bx false r = some q) : dataL bx false (x :: r) = some (y :: q) := by simp [dataL, h, h2]
section
variable (t l a b e g n xn xt : Int) (ss ms vs : List (List X))
def oc0 : Bx := .var [num 0, num 0, .sl true 10 [], .sl true 11 [], .sl true 11 [], .sl true 6 [], .sl true 10 []]
def rcB (r : List Bx) : List Bx := [.var (nodR t l).cells, .var [num a, num b, .sl false 10 ss], .var (msgR e g n).cells, oc0, .var (kv g).cells] ++ r
theorem data_node (bx : List Bx) : (X.agg (nodR t l).cells).data bx false = some (.agg (nodR t l).cells) := by kernel_rfl
theorem data_slR {bx : List Bx} {i j k k2 : Nat} (h1 : bx[i]? = some (.row 10 ms)) (hk : k = ms.length) (h2 : bx[j]? = some (.row 6 vs)) (hk2 : k2 = vs.length) :
    (X.agg [num 2, num g, num 0, noText, .sl false 6 [], .sl false 7 [], num xn, num xt, .bs i 0 k, .bs j 0 k2]).data bx false = some (.agg (slC 2 g 0 xn xt ⟨#[]⟩ [] [] ms vs)) :=
  data_agg (dataL_cons rfl (dataL_cons rfl (dataL_cons rfl (dataL_cons rfl (dataL_cons rfl (dataL_cons rfl (dataL_cons rfl (dataL_cons rfl (dataL_cons (data_bs h1 hk) (dataL_cons (data_bs h2 hk2) rfl))))))))))
theorem data_ref (kn : Bool) : dataL (rcB t l a b e g n ss [.row 10 ms, .row 6 vs, .var [num 2, num g, num 0, noText, .sl false 6 [], .sl false 7 [], num xn, num xt, .bs 5 0 ms.length, .bs 6 0 vs.length]]) false [.agg (nodR t l).cells, .agg [num a, num b, .sl false 10 ss], .agg [num 2, num g, num 0, noText, .sl false 6 [], .sl false 7 [], num xn, num xt, .bs 5 0 ms.length, .bs 6 0 vs.length], boolX kn, num n] =
    some [.agg (nodR t l).cells, .agg [num a, num b, .sl false 10 ss], .agg (slC 2 g 0 xn xt ⟨#[]⟩ [] [] ms vs), boolX kn, num n] :=
  dataL_cons (data_node t l _) (dataL_cons rfl (dataL_cons (data_slR g xn xt ms vs rfl rfl rfl rfl) (dataL_cons rfl (dataL_cons rfl rfl))))
end
section
variable (N i : Nat) (t l now e g n a b xn xt dl : Int) (ms vs ss nums m2 v2 sp : List (List X)) (fo : Bool)
theorem rcv_hold (h204 : Gam.pureD (callF tab ext N) 41 [.agg (nodR t l).cells, .agg (msgR e g n).cells] = some (.tup [.agg (kv g).cells, num n, noText]))
    (h102 : callF tab ext N (.fn 30) [.agg [num a, num b, .sl false 10 ss], .agg (kv g).cells] [] = some (.tup [.agg (slR 2 g 0 xn xt ⟨#[]⟩ [] [] ms.length vs.length), boolX true], [.row 10 ms, .row 6 vs]))
    (h206 : Gam.pureD (callF tab ext N) 43 [.agg (nodR t l).cells, .agg [num a, num b, .sl false 10 ss], .agg (slC 2 g 0 xn xt ⟨#[]⟩ [] [] ms vs), boolX true, num n] = some (strX emptyT)) (h1 : decide (n > xn) = true)
    (h150 : callF tab ext N (.fn 45) [.agg (slR 2 g 0 xn xt ⟨#[]⟩ [] [] ms.length vs.length)] [.row 10 ms, .row 6 vs] = some (.bs 2 0 vs.length, [.row 10 ms, .row 6 vs, .row 1 nums])) (hnl : vs.length = nums.length)
    (h207 : Gam.pureD (callF tab ext N) 44 [.sl false 1 nums, num n] = some (.tup [nat i, boolX fo])) (h98 : Gam.pureD (callF tab ext N) 47 [.agg (msgR e g n).cells] = some (.agg (msgR e g n).cells))
    (h208 : callF tab ext N (.fn 46) [.bs 0 0 ms.length, nat i, .sl true 10 [(msgR e g n).cells]] [.row 10 ms] = some (.bs 1 0 (ms.length + 1), [.dead, .row 10 m2])) (h58 : Gam.pureD (callF tab ext N) 16 [num n] = some (.agg (kv n).cells))
    (h209 : callF tab ext N (.fn 48) [.bs 0 0 vs.length, nat i, .sl true 6 [(kv n).cells]] [.row 6 vs] = some (.bs 1 0 (vs.length + 1), [.dead, .row 6 v2])) (hm2 : m2.length = ms.length + 1) (hv2 : v2.length = vs.length + 1)
    (h126 : Gam.pureD (callF tab ext N) 52 [.agg [num a, num b, .sl false 10 ss], .agg (slC 2 g 0 xn (if ms.length = 0 then dl else xt) ⟨#[]⟩ [] [] m2 v2)] = some (.tup [.agg [num a, num b, .sl false 10 sp], num 0]))
    (h210 : Gam.pureD (callF tab ext N) 49 [.agg (nodR t l).cells, .agg (slC 2 g 0 xn xt ⟨#[]⟩ [] [] m2 v2), num now] = some (num dl)) :
    Gam.pureD (callF tab ext (N + 1)) 27 [.agg (nodR t l).cells, .agg [num a, num b, .sl false 10 ss], num now, .agg (msgR e g n).cells] = some (.agg [num a, num b, .sl false 10 sp, .sl false 11 [], .sl false 11 [], .sl false 6 [], .sl false 10 []]) := by
  have hd51 := And.intro (data_ref t l a b e g n xn xt ss ms vs true) h206
  have hd67 : dataL (rcB t l a b e g n ss [.row 10 ms, .row 6 vs, .var [num 2, num g, num 0, noText, .sl false 6 [], .sl false 7 [], num xn, num xt, .bs 5 0 ms.length, .bs 6 0 vs.length], oc0, .row 1 nums]) false [.bs 9 0 vs.length, num n] = some [.sl false 1 nums, num n] ∧ _ := And.intro (dataL_cons (data_bs rfl hnl) (dataL_cons rfl rfl)) h207
  have g1 : 0 + (ms.length + 1) ≤ m2.length := by omega
  have g2 : 0 + (vs.length + 1) ≤ v2.length := by omega
  have em : (m2.drop 0).take (ms.length + 1) = m2 := by rw [List.drop_zero, List.take_of_length_le (by omega)]
  have ev : (v2.drop 0).take (vs.length + 1) = v2 := by rw [List.drop_zero, List.take_of_length_le (by omega)]
  rw [← em, ← ev] at h126
  by_cases h0 : ms.length = 0
  · rw [if_pos h0] at h126
    have h2 : (Int.ofNat (ms.length + 1) == 1) = true := by rw [h0]; rfl
    have hd93 : dataL (rcB t l a b e g n ss [.dead, .dead, .var [num 2, num g, num 0, noText, .sl false 6 [], .sl false 7 [], num xn, num xt, .bs 10 0 (ms.length + 1), .bs 11 0 (vs.length + 1)], oc0, .row 1 nums, .row 10 m2, .row 6 v2]) false [.agg (nodR t l).cells, .agg [num 2, num g, num 0, noText, .sl false 6 [], .sl false 7 [], num xn, num xt, .bs 10 0 (ms.length + 1), .bs 11 0 (vs.length + 1)], num now] = some [.agg (nodR t l).cells, .agg (slC 2 g 0 xn xt ⟨#[]⟩ [] [] m2 v2), num now] ∧ _ := And.intro (dataL_cons (data_node t l _) (dataL_cons (data_slR g xn xt m2 v2 rfl hm2.symm rfl hv2.symm) (dataL_cons rfl rfl))) h210
    exact pure_of [(25, .p (.tup [.agg (kv g).cells, num n, noText])), (39, .o (.tup [.agg (slR 2 g 0 xn xt ⟨#[]⟩ [] [] ms.length vs.length), boolX true]) [.row 10 ms, .row 6 vs]), (51, .d [.agg (nodR t l).cells, .agg [num a, num b, .sl false 10 ss], .agg (slC 2 g 0 xn xt ⟨#[]⟩ [] [] ms vs), boolX true, num n] (strX emptyT)), (62, .b true), (65, .r (.bs 2 0 vs.length) [.row 10 ms, .row 6 vs, .row 1 nums]), (67, .d [.sl false 1 nums, num n] (.tup [nat i, boolX fo])), (74, .p (.agg (msgR e g n).cells)), (76, .r (.bs 1 0 (ms.length + 1)) [.dead, .row 10 m2]), (81, .p (.agg (kv n).cells)), (83, .r (.bs 1 0 (vs.length + 1)) [.dead, .row 6 v2]), (89, .b true), (93, .d [.agg (nodR t l).cells, .agg (slC 2 g 0 xn xt ⟨#[]⟩ [] [] m2 v2), num now] (num dl)), (130, .p (.tup [.agg [num a, num b, .sl false 10 sp], num 0]))] []
      (pfJ h204 h102 hd51 h1 h150 hd67 h98 (pf8 h208 h58 h209 h2 hd93 g1 g2 h126)) (x := .agg [num a, num b, .sl false 10 sp, .sl true 11 [], .sl true 11 [], .sl true 6 [], .sl true 10 []]) (bx := []) (by kernel_rfl) rfl
  · rw [if_neg h0] at h126
    have h2 : (Int.ofNat (ms.length + 1) == 1) = false := by simp only [Int.ofNat_eq_natCast, beq_eq_false_iff_ne, ne_eq]; omega
    exact pure_of [(25, .p (.tup [.agg (kv g).cells, num n, noText])), (39, .o (.tup [.agg (slR 2 g 0 xn xt ⟨#[]⟩ [] [] ms.length vs.length), boolX true]) [.row 10 ms, .row 6 vs]), (51, .d [.agg (nodR t l).cells, .agg [num a, num b, .sl false 10 ss], .agg (slC 2 g 0 xn xt ⟨#[]⟩ [] [] ms vs), boolX true, num n] (strX emptyT)), (62, .b true), (65, .r (.bs 2 0 vs.length) [.row 10 ms, .row 6 vs, .row 1 nums]), (67, .d [.sl false 1 nums, num n] (.tup [nat i, boolX fo])), (74, .p (.agg (msgR e g n).cells)), (76, .r (.bs 1 0 (ms.length + 1)) [.dead, .row 10 m2]), (81, .p (.agg (kv n).cells)), (83, .r (.bs 1 0 (vs.length + 1)) [.dead, .row 6 v2]), (89, .b false), (130, .p (.tup [.agg [num a, num b, .sl false 10 sp], num 0]))] []
      (pfJ h204 h102 hd51 h1 h150 hd67 h98 (pf7 h208 h58 h209 h2 g1 g2 h126)) (x := .agg [num a, num b, .sl false 10 sp, .sl true 11 [], .sl true 11 [], .sl true 6 [], .sl true 10 []]) (bx := []) (by kernel_rfl) rfl
end
end Go.Proofs.YtckdgafiindddaaGreatDoor

/- The resequencer: receive, a message that is sent on, and those that follow it. -/
namespace Go.Proofs.YtckdgafiindddaaGreatDoor
open Go.Em
set_option maxRecDepth 100000

def ordT : ByteArray := ⟨#[111, 114, 100, 101, 114]⟩
section
variable (N : Nat) (t l now e g n n2 a b xn xt dl : Int) (ms vs ss m2 v2 sp acc outs fates : List (List X)) (r : Nat)
  (h204 : Gam.pureD (callF tab ext N) 41 [.agg (nodR t l).cells, .agg (msgR e g n).cells] = some (.tup [.agg (kv g).cells, num n, noText]))
  (h102 : callF tab ext N (.fn 30) [.agg [num a, num b, .sl false 10 ss], .agg (kv g).cells] [] = some (.tup [.agg (slR 2 g 0 xn xt ⟨#[]⟩ [] [] ms.length vs.length), boolX true], [.row 10 ms, .row 6 vs]))
  (h206 : Gam.pureD (callF tab ext N) 43 [.agg (nodR t l).cells, .agg [num a, num b, .sl false 10 ss], .agg (slC 2 g 0 xn xt ⟨#[]⟩ [] [] ms vs), boolX true, num n] = some (strX emptyT)) (h1 : decide (n > xn) = false)
  (h211 : callF tab ext N (.fn 50) [.ptr 0 0 0, num (IntKind.i64.wrap (n + 1))] [.var (slC 2 g 0 xn xt ⟨#[]⟩ [] [] ms vs)] = some (.sl false 10 acc, [.var (slC 2 g 0 n2 xt ⟨#[]⟩ [] [] m2 v2)]))
  (hrm : roomOk ([(msgR e g n).cells].length + acc.length) 152 = true)
  (h210 : Gam.pureD (callF tab ext N) 49 [.agg (nodR t l).cells, .agg (slC 2 g 0 n2 xt ⟨#[]⟩ [] [] m2 v2), num now] = some (num dl))
  (h126 : Gam.pureD (callF tab ext N) 52 [.agg [num a, num b, .sl false 10 ss], .agg (slC 2 g 0 n2 dl ⟨#[]⟩ [] [] m2 v2)] = some (.tup [.agg [num a, num b, .sl false 10 sp], num 0]))
include h204 h102 h206 h1 h211 hrm h210 h126
theorem rcv_one (h98 : Gam.pureD (callF tab ext N) 47 [.agg (msgR e g n).cells] = some (.agg (msgR e g n).cells)) (h108 : (Int.ofNat ([(msgR e g n).cells] ++ acc).length == 1) = true) :
    Gam.pureD (callF tab ext (N + 1)) 27 [.agg (nodR t l).cells, .agg [num a, num b, .sl false 10 ss], num now, .agg (msgR e g n).cells] = some (.agg [num a, num b, .sl false 10 sp, .sl false 11 [num 0 :: (msgR e g n).cells], .sl false 11 [], .sl false 6 [], .sl false 10 []]) := by
  have hd51 := And.intro (data_ref t l a b e g n xn xt ss ms vs true) h206
  have g1 : 0 + ms.length ≤ ms.length := by omega
  have g2 : 0 + vs.length ≤ vs.length := by omega
  have em : (ms.drop 0).take ms.length = ms := by rw [List.drop_zero, List.take_length]
  have ev : (vs.drop 0).take vs.length = vs := by rw [List.drop_zero, List.take_length]
  have h211' : callF tab ext N (.fn 50) [.ptr 0 0 0, num (IntKind.i64.wrap (n + 1))] [.var (slC 2 g 0 xn xt ⟨#[]⟩ [] [] ((ms.drop 0).take ms.length) ((vs.drop 0).take vs.length))] = some (.sl false 10 acc, [.var (slC 2 g 0 n2 xt ⟨#[]⟩ [] [] m2 v2)]) := by rw [em, ev]; exact h211
  exact pure_of [(25, .p (.tup [.agg (kv g).cells, num n, noText])), (39, .o (.tup [.agg (slR 2 g 0 xn xt ⟨#[]⟩ [] [] ms.length vs.length), boolX true]) [.row 10 ms, .row 6 vs]), (51, .d [.agg (nodR t l).cells, .agg [num a, num b, .sl false 10 ss], .agg (slC 2 g 0 xn xt ⟨#[]⟩ [] [] ms vs), boolX true, num n] (strX emptyT)), (62, .b false), (99, .r (.sl false 10 acc) [.var (slC 2 g 0 n2 xt ⟨#[]⟩ [] [] m2 v2)]), (100, .fresh), (104, .p (num dl)), (108, .b true), (110, .p (.agg (msgR e g n).cells)), (130, .p (.tup [.agg [num a, num b, .sl false 10 sp], num 0]))] []
    (pfJ h204 h102 hd51 h1 g1 g2 h211' (pf5 hrm h210 h108 h98 h126)) (x := .agg [num a, num b, .sl false 10 sp, .sl true 11 [num 0 :: (msgR e g n).cells], .sl true 11 [], .sl true 6 [], .sl true 10 []]) (bx := []) (by kernel_rfl) rfl
theorem rcv_more (h108 : (Int.ofNat ([(msgR e g n).cells] ++ acc).length == 1) = false) (hr : outs.length = r) (hr2 : fates.length = r)
    (h212 : callF tab ext N (.fn 51) [.ptr 0 0 0, .sl false 10 ([(msgR e g n).cells] ++ acc)] [.var [strX ordT, num e, .sl false 1 [[num 1]], num 0, num 0, .sl true 10 [], .sl true 11 [], .sl true 11 [], .sl true 6 [], .sl true 10 []]] = some (.tup [], seB ordT e [[num 1]] r outs fates)) :
    Gam.pureD (callF tab ext (N + 1)) 27 [.agg (nodR t l).cells, .agg [num a, num b, .sl false 10 ss], num now, .agg (msgR e g n).cells] = some (.agg [num a, num b, .sl false 10 sp, .sl false 11 outs, .sl false 11 [], .sl false 6 fates, .sl false 10 []]) := by
  have hd51 := And.intro (data_ref t l a b e g n xn xt ss ms vs true) h206
  have g1 : 0 + ms.length ≤ ms.length := by omega
  have g2 : 0 + vs.length ≤ vs.length := by omega
  have em : (ms.drop 0).take ms.length = ms := by rw [List.drop_zero, List.take_length]
  have ev : (vs.drop 0).take vs.length = vs := by rw [List.drop_zero, List.take_length]
  have h211' : callF tab ext N (.fn 50) [.ptr 0 0 0, num (IntKind.i64.wrap (n + 1))] [.var (slC 2 g 0 xn xt ⟨#[]⟩ [] [] ((ms.drop 0).take ms.length) ((vs.drop 0).take vs.length))] = some (.sl false 10 acc, [.var (slC 2 g 0 n2 xt ⟨#[]⟩ [] [] m2 v2)]) := by rw [em, ev]; exact h211
  exact pure_of [(25, .p (.tup [.agg (kv g).cells, num n, noText])), (39, .o (.tup [.agg (slR 2 g 0 xn xt ⟨#[]⟩ [] [] ms.length vs.length), boolX true]) [.row 10 ms, .row 6 vs]), (51, .d [.agg (nodR t l).cells, .agg [num a, num b, .sl false 10 ss], .agg (slC 2 g 0 xn xt ⟨#[]⟩ [] [] ms vs), boolX true, num n] (strX emptyT)), (62, .b false), (99, .r (.sl false 10 acc) [.var (slC 2 g 0 n2 xt ⟨#[]⟩ [] [] m2 v2)]), (100, .fresh), (104, .p (num dl)), (108, .b false), (122, .r (.tup []) (seB ordT e [[num 1]] r outs fates)), (130, .p (.tup [.agg [num a, num b, .sl false 10 sp], num 0]))] []
    (pfJ h204 h102 hd51 h1 g1 g2 h211' (pf5 hrm h210 h108 h212 h126)) (x := .agg [num a, num b, .sl false 10 sp, .bs 0 0 r, .sl true 11 [], .bs 1 0 r, .sl true 10 []]) (bx := [.row 11 outs, .row 6 fates]) (by kernel_rfl)
    (data_agg (dataL_cons rfl (dataL_cons rfl (dataL_cons rfl (dataL_cons (data_bs rfl hr.symm) (dataL_cons rfl (dataL_cons (data_bs rfl hr2.symm) (dataL_cons rfl rfl))))))))
end
end Go.Proofs.YtckdgafiindddaaGreatDoor

/- The resequencer: receive at a group that is not known yet, and the step. -/
namespace Go.Proofs.YtckdgafiindddaaGreatDoor
open Go.Em
set_option maxRecDepth 100000

def nilS (g n : Int) : List X := [num 2, num g, num 0, noText, .sl false 6 [], .sl false 7 [], num n, num 0, .sl true 10 [], .sl true 6 []]
def zerS : List X := [num 0, num 0, num 0, noText, .sl true 6 [], .sl true 7 [], num 0, num 0, .sl true 10 [], .sl true 6 []]
theorem rel_nil (N : Nat) (g : Int) : callF tab ext (N + 60) (.fn 50) [.ptr 0 0 0, num 2] [.var (nilS g 1)] = some (.sl false 10 [], [.var (slC 2 g 0 2 0 ⟨#[]⟩ [] [] [] [])]) := by kernel_rfl
theorem num_nil (N : Nat) (g : Int) : callF tab ext (N + 60) (.fn 45) [.agg (nilS g 1)] [] = some (.bs 0 0 0, [.row 1 []]) := by kernel_rfl
theorem bin_nil (N : Nat) (n : Int) : Gam.pureD (callF tab ext (N + 60)) 44 [.sl false 1 [], num n] = some (.tup [num 0, boolX false]) := by kernel_rfl
theorem insM_nil (N : Nat) (e g n : Int) : callF tab ext (N + 60) (.fn 46) [.bs 0 0 0, num 0, .sl true 10 [(msgR e g n).cells]] [.row 10 []] = some (.bs 1 0 1, [.dead, .row 10 [(msgR e g n).cells]]) := by kernel_rfl
theorem insV_nil (N : Nat) (n : Int) : callF tab ext (N + 60) (.fn 48) [.bs 0 0 0, num 0, .sl true 6 [(kv n).cells]] [.row 6 []] = some (.bs 1 0 1, [.dead, .row 6 [(kv n).cells]]) := by kernel_rfl
theorem int58 (N : Nat) (n : Int) : Gam.pureD (callF tab ext (N + 60)) 16 [num n] = some (.agg (kv n).cells) := by kernel_rfl
theorem clone98 (N : Nat) (e g n : Int) : Gam.pureD (callF tab ext (N + 300)) 47 [.agg (msgR e g n).cells] = some (.agg (msgR e g n).cells) := by kernel_rfl
section
variable (N : Nat) (t l now e g n a b dl : Int) (ss sp : List (List X))
  (h204 : Gam.pureD (callF tab ext N) 41 [.agg (nodR t l).cells, .agg (msgR e g n).cells] = some (.tup [.agg (kv g).cells, num n, noText]))
  (h102 : callF tab ext N (.fn 30) [.agg [num a, num b, .sl false 10 ss], .agg (kv g).cells] [] = some (.tup [.agg zerS, boolX false], []))
  (h206 : Gam.pureD (callF tab ext N) 43 [.agg (nodR t l).cells, .agg [num a, num b, .sl false 10 ss], .agg (slC 2 g 0 1 0 ⟨#[]⟩ [] [] [] []), boolX false, num n] = some (strX emptyT))
include h204 h102 h206
theorem rcv_new_one (hN : 300 ≤ N) (hn : n = 1) (h210 : Gam.pureD (callF tab ext N) 49 [.agg (nodR t l).cells, .agg (slC 2 g 0 2 0 ⟨#[]⟩ [] [] [] []), num now] = some (num dl))
    (h126 : Gam.pureD (callF tab ext N) 52 [.agg [num a, num b, .sl false 10 ss], .agg (slC 2 g 0 2 dl ⟨#[]⟩ [] [] [] [])] = some (.tup [.agg [num a, num b, .sl false 10 sp], num 0])) :
    Gam.pureD (callF tab ext (N + 1)) 27 [.agg (nodR t l).cells, .agg [num a, num b, .sl false 10 ss], num now, .agg (msgR e g n).cells] = some (.agg [num a, num b, .sl false 10 sp, .sl false 11 [num 0 :: (msgR e g n).cells], .sl false 11 [], .sl false 6 [], .sl false 10 []]) := by
  obtain ⟨M, rfl⟩ : ∃ M, N = M + 300 := ⟨N - 300, by omega⟩
  have h1 : decide (n > 1) = false := decide_eq_false (by omega)
  have h211 := rel_nil (M + 240) g
  have h98 := clone98 M e g n
  have hw : IntKind.i64.wrap (n + 1) = 2 := by subst hn; rfl
  exact pure_of [(25, .p (.tup [.agg (kv g).cells, num n, noText])), (39, .o (.tup [.agg zerS, boolX false]) []), (51, .p (strX emptyT)), (62, .b false), (98, .i 2), (99, .r (.sl false 10 []) [.var (slC 2 g 0 2 0 ⟨#[]⟩ [] [] [] [])]), (104, .p (num dl)), (110, .p (.agg (msgR e g n).cells)), (130, .p (.tup [.agg [num a, num b, .sl false 10 sp], num 0]))] []
    (pf9 h204 h102 h206 h1 hw h211 h210 h98 h126) (x := .agg [num a, num b, .sl false 10 sp, .sl true 11 [num 0 :: (msgR e g n).cells], .sl true 11 [], .sl true 6 [], .sl true 10 []]) (bx := []) (by kernel_rfl) rfl
theorem rcv_new_hold (hN : 300 ≤ N) (hn : 1 < n) (h210 : Gam.pureD (callF tab ext N) 49 [.agg (nodR t l).cells, .agg (slC 2 g 0 1 0 ⟨#[]⟩ [] [] [(msgR e g n).cells] [(kv n).cells]), num now] = some (num dl))
    (h126 : Gam.pureD (callF tab ext N) 52 [.agg [num a, num b, .sl false 10 ss], .agg (slC 2 g 0 1 dl ⟨#[]⟩ [] [] [(msgR e g n).cells] [(kv n).cells])] = some (.tup [.agg [num a, num b, .sl false 10 sp], num 0])) :
    Gam.pureD (callF tab ext (N + 1)) 27 [.agg (nodR t l).cells, .agg [num a, num b, .sl false 10 ss], num now, .agg (msgR e g n).cells] = some (.agg [num a, num b, .sl false 10 sp, .sl false 11 [], .sl false 11 [], .sl false 6 [], .sl false 10 []]) := by
  obtain ⟨M, rfl⟩ : ∃ M, N = M + 300 := ⟨N - 300, by omega⟩
  have h1 : decide (n > 1) = true := decide_eq_true hn
  have h150 := num_nil (M + 240) g
  have h207 := bin_nil (M + 240) n
  have h98 := clone98 M e g n
  have h208 := insM_nil (M + 240) e g n
  have h58 := int58 (M + 240) n
  have h209 := insV_nil (M + 240) n
  have g1 : 0 + 1 ≤ [(msgR e g n).cells].length := Nat.le_refl 1
  have g2 : 0 + 1 ≤ [(kv n).cells].length := Nat.le_refl 1
  exact pure_of [(25, .p (.tup [.agg (kv g).cells, num n, noText])), (39, .o (.tup [.agg zerS, boolX false]) []), (51, .p (strX emptyT)), (62, .b true), (65, .r (.bs 0 0 0) [.row 1 []]), (67, .p (.tup [num 0, boolX false])), (74, .p (.agg (msgR e g n).cells)), (76, .r (.bs 1 0 1) [.dead, .row 10 [(msgR e g n).cells]]), (81, .p (.agg (kv n).cells)), (83, .r (.bs 1 0 1) [.dead, .row 6 [(kv n).cells]]), (93, .p (num dl)), (130, .p (.tup [.agg [num a, num b, .sl false 10 sp], num 0]))] []
    (pfJ h204 h102 h206 h1 h150 h207 h98 (pf7 h208 h58 h209 h210 g1 g2 h126)) (x := .agg [num a, num b, .sl false 10 sp, .sl true 11 [], .sl true 11 [], .sl true 6 [], .sl true 10 []]) (bx := []) (by kernel_rfl) rfl
end
theorem step52 (N : Nat) (t l e g n now : Int) (s : List X) (o : List X) (h : Gam.pureD (callF tab ext N) 27 [.agg (nodR t l).cells, .agg s, num now, .agg (msgR e g n).cells] = some (.agg o)) (a b : Int) (ss : List (List X)) (hs : s = [num a, num b, .sl false 10 ss]) (c d : Int) (r : List (List X)) (q1 q2 q3 q4 : List (List X)) (ho : o = [num c, num d, .sl false 10 r, .sl false 11 q1, .sl false 11 q2, .sl false 6 q3, .sl false 10 q4]) :
    Gam.pureD (callF tab ext (N + 1)) 14 [.agg (nodR t l).cells, .agg s, .agg (inpR e g n now).cells] = some (.agg o) := by
  subst hs; subst ho
  exact pure_of [(17, .p (.agg [num c, num d, .sl false 10 r, .sl false 11 q1, .sl false 11 q2, .sl false 6 q3, .sl false 10 q4]))] [] (pf1 h) (x := .agg [num c, num d, .sl false 10 r, .sl false 11 q1, .sl false 11 q2, .sl false 6 q3, .sl false 10 q4]) (bx := []) (by kernel_rfl) rfl
end Go.Proofs.YtckdgafiindddaaGreatDoor

/- ResequencerCompletes: one step at one group. -/
namespace Go.Proofs.YtckdgafiindddaaGreatDoor
open Go.Em
set_option maxRecDepth 100000

def nq (H : List (Nat × Nat)) : List Int := H.map fun p => (p.1 : Int)
theorem nq_len (H : List (Nat × Nat)) : (nq H).length = H.length := by simp [nq]
theorem lowI_nq (v : Nat) : ∀ H : List (Nat × Nat), lowI (v : Int) (nq H) = lowL v H
  | [] => rfl
  | p :: r => by
    have ih := lowI_nq v r
    show (if (p.1 : Int) < v then lowI (v : Int) (nq r) + 1 else 0) = (if p.1 < v then lowL v r + 1 else 0)
    by_cases hp : p.1 < v
    · rw [if_pos hp, if_pos (by omega), ih]
    · rw [if_neg hp, if_neg (by omega)]
theorem nq_srt {H : List (Nat × Nat)} (h : SrtL H) : (nq H).Pairwise (· < ·) := by
  unfold nq
  rw [List.pairwise_map]
  exact h.imp fun hab => by omega
theorem cellsL_app (a b : List Val) : cellsL (a ++ b) = cellsL a ++ cellsL b := by
  induction a with
  | nil => rfl
  | cons x r ih => simp [cellsL, ih]
theorem cellsL_take (vs : List Val) (r : Nat) : cellsL (vs.take r) = (cellsL vs).take r := by
  induction vs generalizing r with
  | nil => simp [cellsL]
  | cons v w ih => cases r with
    | zero => rfl
    | succ r => simpa [cellsL] using ih r
theorem insExt_at (f : FuncId) (k i n : Nat) (rows : List (List X)) (x : List X) (N : Nat) (hf : callF tab ext (N + 1) (.fn f) [.bs 0 0 n, nat i, .sl true k [x]] [.row k rows] = insExt k [.bs 0 0 n, nat i, .sl true k [x]] [.row k rows]) (hn : n = rows.length) (hl : n ≤ 2000000) (hi : i ≤ n) :
    callF tab ext (N + 1) (.fn f) [.bs 0 0 n, nat i, .sl true k [x]] [.row k rows] = some (.bs 1 0 (n + 1), [.dead, .row k (rows.take i ++ [x] ++ rows.drop i)]) := by
  rw [hf]
  show (if k = k ∧ k = k ∧ n = rows.length ∧ n ≤ 2000000 ∧ 0 ≤ Int.ofNat i ∧ (Int.ofNat i).toNat ≤ n then some (X.bs 1 0 (n + 1), [Bx.dead, Bx.row k (rows.take (Int.ofNat i).toNat ++ [x] ++ rows.drop (Int.ofNat i).toNat)]) else none) = _
  rw [if_pos ⟨rfl, rfl, hn, hl, by simp, by simpa using hi⟩]
  rfl
end Go.Proofs.YtckdgafiindddaaGreatDoor

/- The resequencer at several groups: the place of a group, what get hands back. -/
namespace Go.Proofs.YtckdgafiindddaaGreatDoor
open Go.Em
set_option maxRecDepth 100000

/-- A group: its key, the number expected, the deadline, what is held (number, place among the inputs). -/
structure Gp where
  g : Int
  nx : Nat
  t : Int
  H : List (Nat × Nat)
def mqg (g : Int) (p : Nat × Nat) : Msg := msgR ((p.2 : Int) + 1) g (p.1 : Int)
def Gp.slt (x : Gp) : Slt := grpS x.g x.nx x.t (x.H.map (mqg x.g)) (nq x.H)
def gst (gs : List Gp) : Stt := ⟨0, 0, gs.map Gp.slt⟩
def SrtG (gs : List Gp) : Prop := gs.Pairwise fun a b => a.g < b.g
/-- Few groups, few messages. -/
def SmG (gs : List Gp) : Prop := gs.length ≤ 100 ∧ ∀ x, x ∈ gs → x.H.length ≤ 100
def lowG (g : Int) : List Gp → Nat
  | [] => 0
  | p :: r => if p.g < g then lowG g r + 1 else 0
def knG (g : Int) (gs : List Gp) : Bool := match gs[lowG g gs]? with
  | some x => x.g == g
  | none => false
/-- The group of a key, or a new one. -/
def getG (g : Int) (gs : List Gp) : Gp := match gs[lowG g gs]? with
  | some x => if x.g = g then x else ⟨g, 1, 0, []⟩
  | none => ⟨g, 1, 0, []⟩
theorem mqg_ok (g : Int) (p : Nat × Nat) : (mqg g p).ok := ⟨⟨by simp [mqg, msgR]⟩, by simp [mqg, msgR], by unfold Val.ok mqg msgR kv; simp [Val.size, sizeL, sizeF]⟩
theorem slt_ok (x : Gp) (h : x.H.length ≤ 101) : x.slt.ok :=
  ⟨kv_ok x.g, by simp [Gp.slt, grpS]; omega, fun m hm => by
    obtain ⟨p, _, rfl⟩ := List.mem_map.1 hm
    exact mqg_ok x.g p, by simp [Gp.slt, grpS, nq]; omega, fun v hv => by
    obtain ⟨p, _, rfl⟩ := List.mem_map.1 hv
    exact kv_ok p⟩
theorem gst_small (gs : List Gp) (h : SmG gs) : (gst gs).small := ⟨by simp [gst]; have := h.1; omega, fun x hx => by
  obtain ⟨y, hy, rfl⟩ := List.mem_map.1 hx
  have := h.2 y hy
  exact ⟨slt_ok y (by omega), by simp [Gp.slt, grpS]; omega, by simp [Gp.slt, grpS, nq]; omega⟩⟩
theorem lowG_le (g : Int) : ∀ gs : List Gp, lowG g gs ≤ gs.length
  | [] => Nat.le_refl _
  | p :: r => by
    unfold lowG
    split
    · have := lowG_le g r; simp; omega
    · omega
theorem lowG_eq (g : Int) : ∀ (gs : List Gp) (i : Nat), i ≤ gs.length → (∀ j (h : j < gs.length), j < i → gs[j].g < g) → (∀ h : i < gs.length, ¬ gs[i].g < g) → lowG g gs = i
  | [], i, h, _, _ => by simp at h; simp [lowG, h]
  | p :: r, 0, _, _, h2 => by
    have := h2 (by simp)
    simp only [List.getElem_cons_zero] at this
    unfold lowG
    rw [if_neg this]
  | p :: r, i + 1, h, h1, h2 => by
    have h3 := h1 0 (by simp) (by omega)
    simp only [List.getElem_cons_zero] at h3
    unfold lowG
    rw [if_pos h3, lowG_eq g r i (by simpa using h) (fun j hj hji => h1 (j + 1) (by simp; omega) (by omega)) (fun hi => h2 (by simp; omega))]
theorem key_get {gs : List Gp} {j : Nat} (h : j < gs.length) (g : Int) : cmpV ((gs.map Gp.slt).getD j dSlt).key (kv g) = ordI gs[j].g g := by
  rw [List.getD_eq_getElem?_getD, List.getElem?_eq_getElem (by simpa using h)]
  simp only [List.getElem_map, Option.getD_some]
  exact cmp_kv ..
theorem srtG_get {gs : List Gp} (h : SrtG gs) {i j : Nat} (hi : i < j) (hj : j < gs.length) : (gs[i]'(by omega)).g < gs[j].g := List.pairwise_iff_getElem.1 h i j (by omega) hj hi
theorem getG_at (gs : List Gp) (hs : SrtG gs) (hm : SmG gs) (g : Int) :
    (∀ N, 190050 ≤ N → callF tab ext N (.fn 30) [.agg (gst gs).cells, .agg (kv g).cells] [] = some (getX (knG g gs) (getG g gs).slt)) ∧ ∀ N, 190040 ≤ N → Gam.pureD (callF tab ext N) 55 [.agg (gst gs).cells, .agg (kv g).cells] = some (.tup [nat (lowG g gs), boolX (knG g gs)]) := by
  obtain ⟨i, b, x, hi, h1, h2, hg, hf⟩ := get_ex3 (gst gs) (gst_small gs hm) (kv g)
  have hl : (gst gs).slots.length = gs.length := by simp [gst]
  rw [hl] at hi
  cases b with
  | true =>
    obtain ⟨hlt, hc, hx⟩ := h1 rfl
    rw [hl] at hlt
    have hk : gs[i].g = g := ordI_zero (by
      have := cmp_kv gs[i].g g
      rw [← this]
      have e : (gst gs).slots[i] = gs[i].slt := by simp [gst]
      rw [e] at hc
      exact hc)
    have hlow : lowG g gs = i := lowG_eq g gs i hi (fun j hj hji => by have := srtG_get hs hji hlt; omega) (fun _ => by omega)
    have hkn : knG g gs = true := by unfold knG; rw [hlow, List.getElem?_eq_getElem hlt]; simpa using hk
    have hgt : getG g gs = gs[i] := by unfold getG; rw [hlow, List.getElem?_eq_getElem hlt]; simp [hk]
    have e : (gst gs).slots[i] = gs[i].slt := by simp [gst]
    rw [hkn, hgt, hlow]
    rw [e] at hx
    subst hx
    exact ⟨hg, hf⟩
  | false =>
    obtain ⟨hsp, hne⟩ := h2 rfl
    have hlow : lowG g gs = i := lowG_eq g gs i hi (fun j hj hji => by
      have hb := hsp.before (by omega)
      show gs[j].g < g
      rw [show (gst gs).slots = gs.map Gp.slt from rfl, key_get (show i - 1 < gs.length by omega)] at hb
      have h3 := ordI_lt.1 hb
      by_cases hj1 : j = i - 1
      · subst hj1; exact h3
      · have := srtG_get hs (show j < i - 1 by omega) (by omega); omega) (fun hlt => by
      have hb := hsp.behind (by rw [hl]; exact hlt)
      rw [show (gst gs).slots = gs.map Gp.slt from rfl, key_get hlt] at hb
      exact fun h => hb (ordI_lt.2 h))
    have hnk : ∀ h : i < gs.length, gs[i].g ≠ g := fun h e => hne (by rw [hl]; exact h) (by
      have e2 : (gst gs).slots[i]'(by rw [hl]; exact h) = gs[i].slt := by simp [gst]
      rw [e2]
      show cmpV (kv gs[i].g) (kv g) = 0
      rw [cmp_kv, e, ordI_self])
    have hkn : knG g gs = false := by
      unfold knG
      rw [hlow]
      by_cases h : i < gs.length
      · rw [List.getElem?_eq_getElem h]; simpa using hnk h
      · rw [List.getElem?_eq_none (by omega)]
    rw [hkn, hlow]
    exact ⟨hg, hf⟩
/-- A group is put at its place. -/
def putG (x : Gp) (gs : List Gp) : List Gp := gs.take (lowG x.g gs) ++ [x] ++ gs.drop (lowG x.g gs + if knG x.g gs then 1 else 0)
theorem putG_at (gs : List Gp) (hs : SrtG gs) (hm : SmG gs) (x : Gp) (hx : x.H.length ≤ 101) (N : Nat) (hN : 190050 ≤ N) :
    Gam.pureD (callF tab ext N) 52 [.agg (gst gs).cells, .agg x.slt.cells] = some (.tup [.agg (gst (putG x gs)).cells, num 0]) := by
  have hl : (gst gs).slots.length = gs.length := by simp [gst]
  have hlow := lowG_le x.g gs
  have hkn : knG x.g gs = true → lowG x.g gs < gs.length := fun h => by
    unfold knG at h
    by_cases hlt : lowG x.g gs < gs.length
    · exact hlt
    · rw [List.getElem?_eq_none (by omega)] at h; cases h
  have key := put_at (gst gs) (gst_small gs hm) x.slt (slt_ok x hx) (lowG x.g gs) (knG x.g gs) (by rw [hl]; exact hlow) (fun h => by
    rw [hl]; exact hkn h) (getG_at gs hs hm x.g).2 N hN
  rw [key]
  have e : putS (knG x.g gs) (lowG x.g gs) x.slt (gst gs).slots = (putG x gs).map Gp.slt := by
    unfold putS putG
    cases hk : knG x.g gs with
    | true =>
      rw [if_pos rfl, if_pos rfl]
      show (gs.map Gp.slt).set _ _ = _
      rw [List.set_eq_take_append_cons_drop, if_pos (by simpa using hkn hk)]
      simp [List.map_take, List.map_drop]
    | false => simp [gst, List.map_take, List.map_drop]
  rw [e]
  rfl
end Go.Proofs.YtckdgafiindddaaGreatDoor

/- The resequencer at several groups: a message that is rejected. -/
namespace Go.Proofs.YtckdgafiindddaaGreatDoor
open Go.Em
set_option maxRecDepth 100000

def rejQ (s : Stt) (e g n : Int) (r : ByteArray) : List X := [num s.n, num s.t, .sl false 10 (sltsC s.slots), .sl false 11 [], .sl false 11 [], .sl false 6 [(Fte.mk ⟨e, [1]⟩ 4 ordT [] r).cells], .sl false 10 [(msgR e g n).cells]]
theorem msgR_ok (e g n : Int) : (msgR e g n).ok := ⟨⟨by simp [msgR]⟩, by simp [msgR], by unfold Val.ok msgR kv; simp [Val.size, sizeL, sizeF]⟩
theorem rej205 (t l : Int) (s : Stt) (hs : s.ok) (e g n : Int) (r : ByteArray) (N : Nat) (hN : 191000 ≤ N) : Gam.pureD (callF tab ext (N + 1)) 42 [.agg (nodR t l).cells, .agg s.cells, .agg (msgR e g n).cells, strX r] = some (.agg (rejQ s e g n r)) := by
  obtain ⟨M, rfl⟩ : ∃ M, N = M + 300 := ⟨N - 300, by omega⟩
  have h1 := clone_state_pure (M + 300) s hs (by omega)
  have h2 := rejected_pure (msgR e g n) (msgR_ok e g n) ordT r (M + 300) (by omega)
  have h3 := clone98 M e g n
  obtain ⟨a, b, ss⟩ := s
  exact pure_of [(10, .p (.agg (Stt.mk a b ss).cells)), (15, .p (.agg (Fte.mk ⟨e, [1]⟩ 4 ordT [] r).cells)), (18, .p (.agg (msgR e g n).cells))] [] (pf3 h1 h2 h3)
    (x := .agg [num a, num b, .sl false 10 (sltsC ss), .sl true 11 [], .sl true 11 [], .sl true 6 [(Fte.mk ⟨e, [1]⟩ 4 ordT [] r).cells], .sl true 10 [(msgR e g n).cells]]) (bx := []) (by kernel_rfl) (by kernel_rfl)
section
variable (N : Nat) (t l now e g n a b xn xt : Int) (ms vs ss : List (List X)) (r : ByteArray) (o : List X)
/-- The reasons for which a message is rejected. -/
def IsRej (r : ByteArray) : Prop := r = lateT ∨ r = dupT ∨ r = fullT
theorem rcv_rej (hr : IsRej r) (h204 : Gam.pureD (callF tab ext N) 41 [.agg (nodR t l).cells, .agg (msgR e g n).cells] = some (.tup [.agg (kv g).cells, num n, noText]))
    (h102 : callF tab ext N (.fn 30) [.agg [num a, num b, .sl false 10 ss], .agg (kv g).cells] [] = some (.tup [.agg (slR 2 g 0 xn xt ⟨#[]⟩ [] [] ms.length vs.length), boolX true], [.row 10 ms, .row 6 vs]))
    (h206 : Gam.pureD (callF tab ext N) 43 [.agg (nodR t l).cells, .agg [num a, num b, .sl false 10 ss], .agg (slC 2 g 0 xn xt ⟨#[]⟩ [] [] ms vs), boolX true, num n] = some (strX r))
    (h205 : Gam.pureD (callF tab ext N) 42 [.agg (nodR t l).cells, .agg [num a, num b, .sl false 10 ss], .agg (msgR e g n).cells, strX r] = some (.agg (rejQ ⟨a, b, []⟩ e g n r |>.set 2 (.sl false 10 ss)))) :
    Gam.pureD (callF tab ext (N + 1)) 27 [.agg (nodR t l).cells, .agg [num a, num b, .sl false 10 ss], num now, .agg (msgR e g n).cells] = some (.agg (rejQ ⟨a, b, []⟩ e g n r |>.set 2 (.sl false 10 ss))) := by
  have hd51 := And.intro (data_ref t l a b e g n xn xt ss ms vs true) h206
  rcases hr with rfl | rfl | rfl
  · exact pure_of [(25, .p (.tup [.agg (kv g).cells, num n, noText])), (39, .o (.tup [.agg (slR 2 g 0 xn xt ⟨#[]⟩ [] [] ms.length vs.length), boolX true]) [.row 10 ms, .row 6 vs]), (51, .d [.agg (nodR t l).cells, .agg [num a, num b, .sl false 10 ss], .agg (slC 2 g 0 xn xt ⟨#[]⟩ [] [] ms vs), boolX true, num n] (strX lateT)), (58, .p (.agg (rejQ ⟨a, b, []⟩ e g n lateT |>.set 2 (.sl false 10 ss))))] []
      (pf4 h204 h102 hd51 h205) (x := .agg (rejQ ⟨a, b, []⟩ e g n lateT |>.set 2 (.sl false 10 ss))) (bx := []) (by kernel_rfl) rfl
  · exact pure_of [(25, .p (.tup [.agg (kv g).cells, num n, noText])), (39, .o (.tup [.agg (slR 2 g 0 xn xt ⟨#[]⟩ [] [] ms.length vs.length), boolX true]) [.row 10 ms, .row 6 vs]), (51, .d [.agg (nodR t l).cells, .agg [num a, num b, .sl false 10 ss], .agg (slC 2 g 0 xn xt ⟨#[]⟩ [] [] ms vs), boolX true, num n] (strX dupT)), (58, .p (.agg (rejQ ⟨a, b, []⟩ e g n dupT |>.set 2 (.sl false 10 ss))))] []
      (pf4 h204 h102 hd51 h205) (x := .agg (rejQ ⟨a, b, []⟩ e g n dupT |>.set 2 (.sl false 10 ss))) (bx := []) (by kernel_rfl) rfl
  · exact pure_of [(25, .p (.tup [.agg (kv g).cells, num n, noText])), (39, .o (.tup [.agg (slR 2 g 0 xn xt ⟨#[]⟩ [] [] ms.length vs.length), boolX true]) [.row 10 ms, .row 6 vs]), (51, .d [.agg (nodR t l).cells, .agg [num a, num b, .sl false 10 ss], .agg (slC 2 g 0 xn xt ⟨#[]⟩ [] [] ms vs), boolX true, num n] (strX fullT)), (58, .p (.agg (rejQ ⟨a, b, []⟩ e g n fullT |>.set 2 (.sl false 10 ss))))] []
      (pf4 h204 h102 hd51 h205) (x := .agg (rejQ ⟨a, b, []⟩ e g n fullT |>.set 2 (.sl false 10 ss))) (bx := []) (by kernel_rfl) rfl
theorem rcv_rejN (hr : IsRej r) (h204 : Gam.pureD (callF tab ext N) 41 [.agg (nodR t l).cells, .agg (msgR e g n).cells] = some (.tup [.agg (kv g).cells, num n, noText]))
    (h102 : callF tab ext N (.fn 30) [.agg [num a, num b, .sl false 10 ss], .agg (kv g).cells] [] = some (.tup [.agg zerS, boolX false], []))
    (h206 : Gam.pureD (callF tab ext N) 43 [.agg (nodR t l).cells, .agg [num a, num b, .sl false 10 ss], .agg (slC 2 g 0 1 0 ⟨#[]⟩ [] [] [] []), boolX false, num n] = some (strX r))
    (h205 : Gam.pureD (callF tab ext N) 42 [.agg (nodR t l).cells, .agg [num a, num b, .sl false 10 ss], .agg (msgR e g n).cells, strX r] = some (.agg (rejQ ⟨a, b, []⟩ e g n r |>.set 2 (.sl false 10 ss)))) :
    Gam.pureD (callF tab ext (N + 1)) 27 [.agg (nodR t l).cells, .agg [num a, num b, .sl false 10 ss], num now, .agg (msgR e g n).cells] = some (.agg (rejQ ⟨a, b, []⟩ e g n r |>.set 2 (.sl false 10 ss))) := by
  rcases hr with rfl | rfl | rfl
  · exact pure_of [(25, .p (.tup [.agg (kv g).cells, num n, noText])), (39, .o (.tup [.agg zerS, boolX false]) []), (51, .p (strX lateT)), (58, .p (.agg (rejQ ⟨a, b, []⟩ e g n lateT |>.set 2 (.sl false 10 ss))))] []
      (pf4 h204 h102 h206 h205) (x := .agg (rejQ ⟨a, b, []⟩ e g n lateT |>.set 2 (.sl false 10 ss))) (bx := []) (by kernel_rfl) rfl
  · exact pure_of [(25, .p (.tup [.agg (kv g).cells, num n, noText])), (39, .o (.tup [.agg zerS, boolX false]) []), (51, .p (strX dupT)), (58, .p (.agg (rejQ ⟨a, b, []⟩ e g n dupT |>.set 2 (.sl false 10 ss))))] []
      (pf4 h204 h102 h206 h205) (x := .agg (rejQ ⟨a, b, []⟩ e g n dupT |>.set 2 (.sl false 10 ss))) (bx := []) (by kernel_rfl) rfl
  · exact pure_of [(25, .p (.tup [.agg (kv g).cells, num n, noText])), (39, .o (.tup [.agg zerS, boolX false]) []), (51, .p (strX fullT)), (58, .p (.agg (rejQ ⟨a, b, []⟩ e g n fullT |>.set 2 (.sl false 10 ss))))] []
      (pf4 h204 h102 h206 h205) (x := .agg (rejQ ⟨a, b, []⟩ e g n fullT |>.set 2 (.sl false 10 ss))) (bx := []) (by kernel_rfl) rfl
end
end Go.Proofs.YtckdgafiindddaaGreatDoor

/- ResequencerCompletes: a step that sends messages on, and the first step. -/
namespace Go.Proofs.YtckdgafiindddaaGreatDoor
open Go.Em
set_option maxRecDepth 100000

end Go.Proofs.YtckdgafiindddaaGreatDoor

/- The resequencer at several groups: one step for a message. -/
namespace Go.Proofs.YtckdgafiindddaaGreatDoor
open Go.Em
set_option maxRecDepth 100000

/-- A new deadline. -/
def dlP (t now : Int) (n : Nat) : Int := if n = 0 ∨ t = 0 then 0 else now + t
theorem dl_at (N : Nat) (t l g xn xt now : Int) (ms vs : List (List X)) (ht : 0 ≤ t) (ht2 : t ≤ 100000) (hn : 0 ≤ now) (hn2 : now ≤ 1000000) :
    Gam.pureD (callF tab ext (N + 10)) 49 [.agg (nodR t l).cells, .agg (slC 2 g 0 xn xt ⟨#[]⟩ [] [] ms vs), num now] = some (num (dlP t now ms.length)) := by
  unfold dlP
  by_cases h : ms.length = 0
  · have h1 : (Int.ofNat ms.length == 0) = true := by rw [h]; rfl
    rw [if_pos (.inl h)]
    exact pure_of [(10, .b true)] [] (pf1 h1) (x := num 0) (bx := []) (by kernel_rfl) rfl
  · have h1 : (Int.ofNat ms.length == 0) = false := by simp only [Int.ofNat_eq_natCast, beq_eq_false_iff_ne, ne_eq]; omega
    by_cases h0 : t = 0
    · have h2 : (t == 0) = true := by rw [h0]; rfl
      rw [if_pos (.inr h0)]
      exact pure_of [(10, .b false), (14, .b true)] [] (pf2 h1 h2) (x := num 0) (bx := []) (by kernel_rfl) rfl
    · have h2 : (t == 0) = false := by simpa using h0
      have h3 : IntKind.i64.wrap (now + t) = now + t := by rw [IntKind.wrap_i64]; omega
      have h4 : (if false = true then if (17592186044416 : Int) > now + t then 17592186044416 else now + t else if 17592186044416 < now + t then 17592186044416 else now + t) = now + t := by
        rw [if_neg (by decide), if_neg (by omega)]
      rw [if_neg (by rintro (a | a); exact h a; exact h0 a)]
      exact pure_of [(10, .b false), (14, .b false), (19, .i (now + t)), (20, .i (now + t))] [] (pf4 h1 h2 h3 h4) (x := num (now + t)) (bx := []) (by kernel_rfl) rfl
/-- What holds of a group. -/
structure GI (x : Gp) : Prop where
  pos : 1 ≤ x.nx
  top : x.nx ≤ 1000
  srt : SrtL x.H
  gt : ∀ p, p ∈ x.H → x.nx < p.1
  len : x.H.length ≤ 60
structure GsI (gs : List Gp) : Prop where
  srt : SrtG gs
  len : gs.length ≤ 60
  gi : ∀ x, x ∈ gs → GI x
theorem GsI.sm {gs : List Gp} (h : GsI gs) : SmG gs := ⟨by have := h.len; omega, fun x hx => by have := (h.gi x hx).len; omega⟩
theorem getG_g (g : Int) (gs : List Gp) : (getG g gs).g = g := by
  unfold getG
  split
  · split
    · assumption
    · rfl
  · rfl
theorem getG_new {g : Int} {gs : List Gp} (h : knG g gs = false) : getG g gs = ⟨g, 1, 0, []⟩ := by
  unfold knG at h
  unfold getG
  split at h
  · rename_i x hx
    rw [if_neg (by simpa using h)]
  · rfl
theorem getG_mem {g : Int} {gs : List Gp} (h : knG g gs = true) : getG g gs ∈ gs := by
  unfold knG at h
  unfold getG
  split at h
  · rename_i x hx
    rw [if_pos (by simpa using h)]
    exact List.mem_of_getElem? hx
  · cases h
theorem getG_GI {gs : List Gp} (h : GsI gs) (g : Int) : GI (getG g gs) := by
  cases hk : knG g gs with
  | true => exact h.gi _ (getG_mem hk)
  | false => rw [getG_new hk]; exact ⟨Nat.le_refl 1, by show 1 ≤ 1000; decide, .nil, by simp, by simp⟩
def heldG (gs : List Gp) : Nat := (accOf (gs.map Gp.slt)).length
/-- The reason for which a message is rejected, or none. -/
def rejP (l : Int) (gs : List Gp) (g : Int) (n : Nat) : ByteArray :=
  refT n (getG g gs).nx l (heldG gs) (decide ((n : Int) ∈ nq (getG g gs).H)) (knG g gs) gs.length (getG g gs).H.length
theorem rejP_cases (l : Int) (gs : List Gp) (g : Int) (n : Nat) : IsRej (rejP l gs g n) ∨ rejP l gs g n = emptyT := by
  unfold rejP refT IsRej
  split
  · exact .inl (.inl rfl)
  · split
    · exact .inl (.inr (.inl rfl))
    · split
      · exact .inl (.inr (.inr rfl))
      · split
        · exact .inl (.inr (.inr rfl))
        · exact .inr rfl
theorem rejP_empty {l : Int} {gs : List Gp} {g : Int} {n : Nat} (h : rejP l gs g n = emptyT) : (getG g gs).nx ≤ n ∧ ¬ (n : Int) ∈ nq (getG g gs).H := by
  unfold rejP refT at h
  split at h
  · exact absurd h (by decide)
  · split at h
    · exact absurd h (by decide)
    · rename_i h1 h2
      exact ⟨by omega, fun hm => h2 (by simpa using hm)⟩
theorem numsG (x : Gp) (h : x.H.length ≤ 100) (N : Nat) (hN : 60010 ≤ N) : Gam.pureD (callF tab ext N) 45 [.agg x.slt.cells] = some (.sl false 1 (intsC (nq x.H))) := by
  have := numbers_pure x.slt (by simp [Gp.slt, grpS, nq]; omega) N hN
  rw [show numsV x.slt.vals = nq x.H from numsV_kv (nq x.H)] at this
  exact this
theorem ref_at (gs : List Gp) (h : GsI gs) (t l g : Int) (n : Nat) (N : Nat) (hN : 190000 ≤ N) :
    Gam.pureD (callF tab ext N) 43 [.agg (nodR t l).cells, .agg (gst gs).cells, .agg (getG g gs).slt.cells, boolX (knG g gs), num n] = some (strX (rejP l gs g n)) := by
  obtain ⟨M, rfl⟩ : ∃ M, N = M + 1 := ⟨N - 1, by omega⟩
  have hx := getG_GI h g
  have hxl := hx.len
  have h1 := numsG (getG g gs) (by omega) M (by omega)
  have h2 := contains287 (nq (getG g gs).H) (by rw [nq_len]; omega) (n : Int) M (by omega)
  have h3 := held_pure (gst gs) (gst_small gs h.sm) M (by omega)
  have hml : (msgsC ((getG g gs).H.map (mqg (getG g gs).g))).length = (getG g gs).H.length := by rw [msgsC_length, List.length_map]
  have hsl : (sltsC (gst gs).slots).length = gs.length := by rw [sltsC_length]; simp [gst]
  have key := refused_pure M t l (n : Int) 0 0 2 (getG g gs).g 0 (getG g gs).nx (getG g gs).t (heldG gs : Nat) ⟨#[]⟩ [] [] (msgsC ((getG g gs).H.map (mqg (getG g gs).g))) (cellsL ((nq (getG g gs).H).map kv)) (intsC (nq (getG g gs).H)) (sltsC (gst gs).slots) (knG g gs) _ h1 h2 h3
  rw [hml, hsl] at key
  exact key
/-- The outcome of a step. -/
def ouG (gs : List Gp) (O F : List (List X)) (ls : List Msg) : List X := [num 0, num 0, .sl false 10 (sltsC (gst gs).slots), .sl false 11 O, .sl false 11 [], .sl false 6 F, .sl false 10 (msgsC ls)]
section
variable (gs : List Gp) (hI : GsI gs) (t l g now : Int) (n k : Nat) (hn1 : 1 ≤ n) (hn2 : n ≤ 1000) (N : Nat) (hN : 201000 ≤ N)
include hI hn1 hn2 hN
theorem step_rej (hr : IsRej (rejP l gs g n)) :
    Gam.pureD (callF tab ext N) 14 [.agg (nodR t l).cells, .agg (gst gs).cells, .agg (inpR ((k : Int) + 1) g n now).cells] = some (.agg (ouG gs [] [(Fte.mk ⟨(k : Int) + 1, [1]⟩ 4 ordT [] (rejP l gs g n)).cells] [mqg g (n, k)])) := by
  obtain ⟨M, rfl⟩ : ∃ M, N = M + 402 := ⟨N - 402, by omega⟩
  have h204 := seq204 M t l ((k : Int) + 1) g n (by omega) (by omega)
  have h102 := (getG_at gs hI.srt hI.sm g).1 (M + 400) (by omega)
  have h206 := ref_at gs hI t l g n (M + 400) (by omega)
  have h205 := rej205 t l (gst gs) (gst_small gs hI.sm).ok ((k : Int) + 1) g n (rejP l gs g n) (M + 399) (by omega)
  have hg := getG_g g gs
  generalize rejP l gs g n = r at *
  cases hk : knG g gs with
  | true =>
    rw [hk] at h102 h206
    generalize getG g gs = x at h102 h206 hg
    obtain ⟨xg, nx, xt, H⟩ := x
    dsimp only at hg
    subst hg
    have key := rcv_rej (M + 400) t l now ((k : Int) + 1) xg n 0 0 nx xt (msgsC (H.map (mqg xg))) (cellsL ((nq H).map kv)) (sltsC (gst gs).slots) r hr h204 h102 h206 h205
    exact step52 (M + 401) t l ((k : Int) + 1) xg n now (gst gs).cells _ key 0 0 (sltsC (gst gs).slots) rfl 0 0 _ _ _ _ _ rfl
  | false =>
    rw [hk, getG_new hk] at h206
    rw [hk] at h102
    have key := rcv_rejN (M + 400) t l now ((k : Int) + 1) g n 0 0 (sltsC (gst gs).slots) r hr h204 h102 h206 h205
    exact step52 (M + 401) t l ((k : Int) + 1) g n now (gst gs).cells _ key 0 0 (sltsC (gst gs).slots) rfl 0 0 _ _ _ _ _ rfl
end
end Go.Proofs.YtckdgafiindddaaGreatDoor

/- The resequencer at several groups: a message that is held, or sent on. -/
namespace Go.Proofs.YtckdgafiindddaaGreatDoor
open Go.Em
set_option maxRecDepth 100000

/-- The outputs of a step that sends messages on. -/
def sentG (g : Int) (nx k : Nat) (L : List (Nat × Nat)) : List Otp := if L = [] then [⟨0, mqg g (nx, k)⟩] else sentO ⟨(k : Int) + 1, [1]⟩ (mqg g (nx, k) :: L.map (mqg g))
theorem insL_cells (g : Int) (v k : Nat) (H : List (Nat × Nat)) :
    (msgsC (H.map (mqg g))).take (lowL v H) ++ [(msgR ((k : Int) + 1) g v).cells] ++ (msgsC (H.map (mqg g))).drop (lowL v H) = msgsC ((insL v k H).map (mqg g)) ∧
    (cellsL ((nq H).map kv)).take (lowL v H) ++ [(kv v).cells] ++ (cellsL ((nq H).map kv)).drop (lowL v H) = cellsL ((nq (insL v k H)).map kv) := by
  constructor
  · unfold insL msgsC
    simp only [List.map_append, List.map_cons, List.map_nil, List.map_take, List.map_drop]
    rfl
  · unfold insL nq
    simp only [List.map_append, List.map_cons, List.map_nil, List.map_take, List.map_drop, cellsL_app, cellsL_take, cellsL_drop]
    rfl
theorem rel_at (x : Gp) (h : GI x) (N : Nat) (hN : 70000 ≤ N) :
    callF tab ext N (.fn 50) [.ptr 0 0 0, num ((x.nx : Int) + 1)] [.var x.slt.cells] = some (.sl false 10 (msgsC ((x.H.take (runL (x.nx + 1) x.H)).map (mqg x.g))), [.var (Gp.mk x.g (x.nx + 1 + runL (x.nx + 1) x.H) x.t (x.H.drop (runL (x.nx + 1) x.H))).slt.cells]) := by
  have hle := runL_le (x.nx + 1) x.H
  have hlen := h.len
  have htop := h.top
  have hnv : numsV x.slt.vals = nq x.H := numsV_kv (nq x.H)
  have hvl : x.slt.vals.length = x.H.length := by simp [Gp.slt, grpS, nq]
  have hmlen : x.slt.items.length = x.H.length := by simp [Gp.slt, grpS]
  have hget : ∀ j (hj : j < x.H.length) (hj' : j < (numsV x.slt.vals).length), (numsV x.slt.vals)[j] = (x.H[j].1 : Int) := fun j hj hj' => by
    simp only [hnv]
    simp [nq]
  have key := rel211 x.slt ((x.nx : Int) + 1) (runL (x.nx + 1) x.H) N hN (by rw [hvl, hmlen]) (by rw [hvl]; omega) (by rw [hvl]; exact hle)
    (fun j hj => by
      have h1 := runL_get (x.nx + 1) x.H j hj
      rw [hget j (by omega), h1]
      omega)
    (fun hj => by
      have hj' : runL (x.nx + 1) x.H < x.H.length := by rw [hnv, nq_len] at hj; exact hj
      have h1 := runL_stop (x.nx + 1) x.H hj'
      rw [hget _ hj']
      omega) (by omega) (by omega)
    (fun M hM => by rw [hnv]; exact numsG x (by omega) M hM)
  have e1 : x.slt.items.take (runL (x.nx + 1) x.H) = (x.H.take (runL (x.nx + 1) x.H)).map (mqg x.g) := by simp [Gp.slt, grpS, List.map_take]
  have e2 : Slt.mk x.slt.key ((x.nx : Int) + 1 + (runL (x.nx + 1) x.H : Nat)) x.slt.t (x.slt.items.drop (runL (x.nx + 1) x.H)) (x.slt.vals.drop (runL (x.nx + 1) x.H)) = (Gp.mk x.g (x.nx + 1 + runL (x.nx + 1) x.H) x.t (x.H.drop (runL (x.nx + 1) x.H))).slt := by
    simp [Gp.slt, grpS, nq, List.map_drop]
  rw [e1, e2] at key
  exact key
section
variable (gs : List Gp) (hI : GsI gs) (t l g now : Int) (ht : 0 ≤ t) (ht2 : t ≤ 100000) (hw0 : 0 ≤ now) (hw2 : now ≤ 1000000) (n k : Nat) (hn1 : 1 ≤ n) (hn2 : n ≤ 1000) (N : Nat) (hN : 201000 ≤ N)
include hI ht ht2 hw0 hw2 hn1 hn2 hN
theorem step_hold (hr : rejP l gs g n = emptyT) (hlt : (getG g gs).nx < n) :
    Gam.pureD (callF tab ext N) 14 [.agg (nodR t l).cells, .agg (gst gs).cells, .agg (inpR ((k : Int) + 1) g n now).cells] = some (.agg (ouG (putG ⟨g, (getG g gs).nx, if (getG g gs).H.length = 0 then dlP t now 1 else (getG g gs).t, insL n k (getG g gs).H⟩ gs) [] [] [])) := by
  obtain ⟨M, rfl⟩ : ∃ M, N = M + 402 := ⟨N - 402, by omega⟩
  have h204 := seq204 M t l ((k : Int) + 1) g n (by omega) (by omega)
  have h102 := (getG_at gs hI.srt hI.sm g).1 (M + 400) (by omega)
  have h206 := ref_at gs hI t l g n (M + 400) (by omega)
  rw [hr] at h206
  have hg := getG_g g gs
  have hgi := getG_GI hI g
  have hnew := @getG_new g gs
  cases hk : knG g gs with
  | true =>
    rw [hk] at h102 h206
    clear hnew
    generalize getG g gs = x at *
    obtain ⟨xg, nx, xt, H⟩ := x
    dsimp only at hg hlt ⊢
    subst hg
    have hlen : H.length ≤ 60 := hgi.len
    have hsrt : SrtL H := hgi.srt
    have h1 : decide ((n : Int) > nx) = true := decide_eq_true (by omega)
    have hml := msgsC_length (H.map (mqg xg))
    rw [List.length_map] at hml
    have hvl := cellsL_length ((nq H).map kv)
    rw [List.length_map, nq_len] at hvl
    have hql := nq_len H
    have hil := intsC_len (nq H)
    have h150 := numbers_ref xg nx xt (msgsC (H.map (mqg xg))).length (msgsC (H.map (mqg xg))) (nq H) (by omega) (M + 400) (by omega)
    have hll := lowL_le n H
    obtain ⟨fo, h207⟩ := bi_pure (nq H) (nq_srt hsrt) (by omega) (n : Int) (M + 400) (by omega)
    rw [lowI_nq] at h207
    have h98 := clone98 (M + 100) ((k : Int) + 1) xg n
    have h208 := insExt_at 46 10 (lowL n H) _ (msgsC (H.map (mqg xg))) (msgR ((k : Int) + 1) xg n).cells (M + 399) rfl rfl (by omega) (by omega)
    have h209 := insExt_at 48 6 (lowL n H) _ (cellsL ((nq H).map kv)) (kv n).cells (M + 399) rfl rfl (by omega) (by omega)
    obtain ⟨em, ev⟩ := insL_cells xg n k H
    rw [em] at h208
    rw [ev] at h209
    have hIl : (insL n k H).length = H.length + 1 := by unfold insL; simp; omega
    have hm2 : (msgsC ((insL n k H).map (mqg xg))).length = (msgsC (H.map (mqg xg))).length + 1 := by rw [msgsC_length, List.length_map, hIl, hml]
    have hv2' : (cellsL ((nq (insL n k H)).map kv)).length = (cellsL ((nq H).map kv)).length + 1 := by rw [cellsL_length, List.length_map, nq_len, hIl, hvl]
    have hdl := dl_at (M + 390) t l xg nx xt now (msgsC ((insL n k H).map (mqg xg))) (cellsL ((nq (insL n k H)).map kv)) ht ht2 hw0 hw2
    rw [show dlP t now (msgsC ((insL n k H).map (mqg xg))).length = dlP t now 1 by unfold dlP; rw [hm2]; simp] at hdl
    have hput := putG_at gs hI.srt hI.sm ⟨xg, nx, if (msgsC (H.map (mqg xg))).length = 0 then dlP t now 1 else xt, insL n k H⟩ (by dsimp only; omega) (M + 400) (by omega)
    have key := rcv_hold (M + 400) (lowL n H) t l now ((k : Int) + 1) xg n 0 0 nx xt (dlP t now 1) (msgsC (H.map (mqg xg))) (cellsL ((nq H).map kv)) (sltsC (gst gs).slots) (intsC (nq H)) (msgsC ((insL n k H).map (mqg xg))) (cellsL ((nq (insL n k H)).map kv)) (sltsC (gst (putG ⟨xg, nx, if (msgsC (H.map (mqg xg))).length = 0 then dlP t now 1 else xt, insL n k H⟩ gs)).slots) fo h204 h102 h206 h1 (by rw [hvl, ← hql]; exact h150) (by omega) h207 h98 h208 (int58 (M + 340) n) h209 hm2 hv2' hput hdl
    rw [hml] at key
    exact step52 (M + 401) t l ((k : Int) + 1) xg n now (gst gs).cells _ key 0 0 (sltsC (gst gs).slots) rfl 0 0 _ _ _ _ _ rfl
  | false =>
    have hnew := hnew hk
    rw [hnew] at hlt ⊢
    rw [hk, hnew] at h206
    rw [hk] at h102
    dsimp only at hlt ⊢
    have hdl := dl_at (M + 390) t l g 1 0 now [(msgR ((k : Int) + 1) g n).cells] [(kv n).cells] ht ht2 hw0 hw2
    have hput := putG_at gs hI.srt hI.sm ⟨g, 1, dlP t now 1, [(n, k)]⟩ (by simp) (M + 400) (by omega)
    have key := rcv_new_hold (M + 400) t l now ((k : Int) + 1) g n 0 0 (dlP t now 1) (sltsC (gst gs).slots) (sltsC (gst (putG ⟨g, 1, dlP t now 1, [(n, k)]⟩ gs)).slots) h204 h102 h206 (by omega) (by omega) hdl hput
    exact step52 (M + 401) t l ((k : Int) + 1) g n now (gst gs).cells _ key 0 0 (sltsC (gst gs).slots) rfl 0 0 _ _ _ _ _ rfl
theorem step_send (hr : rejP l gs g n = emptyT) (heq : (getG g gs).nx = n) :
    ∃ F, Gam.pureD (callF tab ext N) 14 [.agg (nodR t l).cells, .agg (gst gs).cells, .agg (inpR ((k : Int) + 1) g n now).cells] = some (.agg (ouG (putG ⟨g, n + 1 + runL (n + 1) (getG g gs).H, dlP t now ((getG g gs).H.length - runL (n + 1) (getG g gs).H), (getG g gs).H.drop (runL (n + 1) (getG g gs).H)⟩ gs) (otpsC (sentG g n k ((getG g gs).H.take (runL (n + 1) (getG g gs).H)))) F [])) := by
  obtain ⟨M, rfl⟩ : ∃ M, N = M + 402 := ⟨N - 402, by omega⟩
  have h204 := seq204 M t l ((k : Int) + 1) g n (by omega) (by omega)
  have h102 := (getG_at gs hI.srt hI.sm g).1 (M + 400) (by omega)
  have h206 := ref_at gs hI t l g n (M + 400) (by omega)
  rw [hr] at h206
  have hg := getG_g g gs
  have hgi := getG_GI hI g
  have hnew := @getG_new g gs
  cases hk : knG g gs with
  | true =>
    rw [hk] at h102 h206
    clear hnew
    generalize getG g gs = x at *
    obtain ⟨xg, nx, xt, H⟩ := x
    dsimp only at hg heq ⊢
    subst hg
    subst heq
    have hlen : H.length ≤ 60 := hgi.len
    have hle := runL_le (nx + 1) H
    have h1 : decide ((nx : Int) > nx) = false := decide_eq_false (by omega)
    have h211 := rel_at ⟨xg, nx, xt, H⟩ hgi (M + 400) (by omega)
    have hw : IntKind.i64.wrap ((nx : Int) + 1) = (nx : Int) + 1 := by rw [IntKind.wrap_i64]; omega
    dsimp only at h211
    have hal : (msgsC ((H.take (runL (nx + 1) H)).map (mqg xg))).length = runL (nx + 1) H := by rw [msgsC_length, List.length_map, List.length_take]; omega
    have hdl := dl_at (M + 390) t l xg ((nx + 1 + runL (nx + 1) H : Nat) : Int) xt now (msgsC ((H.drop (runL (nx + 1) H)).map (mqg xg))) (cellsL ((nq (H.drop (runL (nx + 1) H))).map kv)) ht ht2 hw0 hw2
    rw [show (msgsC ((H.drop (runL (nx + 1) H)).map (mqg xg))).length = H.length - runL (nx + 1) H by rw [msgsC_length, List.length_map, List.length_drop]] at hdl
    have hput := putG_at gs hI.srt hI.sm ⟨xg, nx + 1 + runL (nx + 1) H, dlP t now (H.length - runL (nx + 1) H), H.drop (runL (nx + 1) H)⟩ (by dsimp only; rw [List.length_drop]; omega) (M + 400) (by omega)
    have htl : (H.take (runL (nx + 1) H)).length = runL (nx + 1) H := by rw [List.length_take]; omega
    generalize hrr : runL (nx + 1) H = r at *
    have hrm : roomOk ([(msgR ((k : Int) + 1) xg nx).cells].length + (msgsC ((H.take r).map (mqg xg))).length) 152 = true := by
      rw [hal]
      show roomOk (1 + r) 152 = true
      exact room_of (by omega) (by omega)
    by_cases hz : r = 0
    · have h108 : (Int.ofNat ([(msgR ((k : Int) + 1) xg nx).cells] ++ msgsC ((H.take r).map (mqg xg))).length == 1) = true := by rw [List.length_append, hal, hz]; rfl
      have key := rcv_one (M + 400) t l now ((k : Int) + 1) xg nx ((nx + 1 + r : Nat) : Int) 0 0 nx xt _ (msgsC (H.map (mqg xg))) (cellsL ((nq H).map kv)) (sltsC (gst gs).slots) (msgsC ((H.drop r).map (mqg xg))) (cellsL ((nq (H.drop r)).map kv)) (sltsC (gst (putG ⟨xg, nx + 1 + r, dlP t now (H.length - r), H.drop r⟩ gs)).slots) (msgsC ((H.take r).map (mqg xg))) h204 h102 h206 h1 (by rw [hw]; exact h211) hrm hdl hput (clone98 (M + 100) _ xg nx) h108
      have hs : sentG xg nx k (H.take r) = [⟨0, mqg xg (nx, k)⟩] := by unfold sentG; rw [if_pos (by rw [hz]; rfl)]
      rw [hs]
      exact ⟨[], step52 (M + 401) t l ((k : Int) + 1) xg nx now (gst gs).cells _ key 0 0 (sltsC (gst gs).slots) rfl 0 0 _ _ _ _ _ rfl⟩
    · have h108 : (Int.ofNat ([(msgR ((k : Int) + 1) xg nx).cells] ++ msgsC ((H.take r).map (mqg xg))).length == 1) = false := by
        rw [List.length_append, hal]
        simp only [Int.ofNat_eq_natCast, beq_eq_false_iff_ne, ne_eq, List.length_cons, List.length_nil]; omega
      have hl : ((mqg xg (nx, k)) :: (H.take r).map (mqg xg)).length = r + 1 := by rw [List.length_cons, List.length_map, htl]
      have hsend := send212 ordT ⟨(k : Int) + 1, [1]⟩ (by simp) (mqg xg (nx, k) :: (H.take r).map (mqg xg)) (by omega) (fun m hm => by
        rcases List.mem_cons.1 hm with rfl | hm
        · exact mqg_ok _ _
        · obtain ⟨p, _, rfl⟩ := List.mem_map.1 hm
          exact mqg_ok _ p) (M + 400) (by omega)
      have hol : (sentO ⟨(k : Int) + 1, [1]⟩ (mqg xg (nx, k) :: (H.take r).map (mqg xg))).length = r + 1 := by unfold sentO; rw [List.length_mapIdx, hl]
      have hfl : (sentF ordT ⟨(k : Int) + 1, [1]⟩ (mqg xg (nx, k) :: (H.take r).map (mqg xg))).length = r + 1 := by unfold sentF; rw [List.length_mapIdx, hl]
      rw [hl] at hsend
      have key := rcv_more (M + 400) t l now ((k : Int) + 1) xg nx ((nx + 1 + r : Nat) : Int) 0 0 nx xt _ (msgsC (H.map (mqg xg))) (cellsL ((nq H).map kv)) (sltsC (gst gs).slots) (msgsC ((H.drop r).map (mqg xg))) (cellsL ((nq (H.drop r)).map kv)) (sltsC (gst (putG ⟨xg, nx + 1 + r, dlP t now (H.length - r), H.drop r⟩ gs)).slots) (msgsC ((H.take r).map (mqg xg))) (otpsC (sentO ⟨(k : Int) + 1, [1]⟩ (mqg xg (nx, k) :: (H.take r).map (mqg xg)))) (ftesC (sentF ordT ⟨(k : Int) + 1, [1]⟩ (mqg xg (nx, k) :: (H.take r).map (mqg xg)))) (r + 1) h204 h102 h206 h1 (by rw [hw]; exact h211) hrm hdl hput h108 (by rw [otpsC_length, hol]) (by rw [ftesC_length, hfl]) hsend
      have hs : sentG xg nx k (H.take r) = sentO ⟨(k : Int) + 1, [1]⟩ (mqg xg (nx, k) :: (H.take r).map (mqg xg)) := by unfold sentG; rw [if_neg (fun e => hz (by rw [← htl, e]; rfl))]
      rw [hs]
      exact ⟨_, step52 (M + 401) t l ((k : Int) + 1) xg nx now (gst gs).cells _ key 0 0 (sltsC (gst gs).slots) rfl 0 0 _ _ _ _ _ rfl⟩
  | false =>
    have hnew := hnew hk
    rw [hnew] at heq ⊢
    rw [hk, hnew] at h206
    rw [hk] at h102
    dsimp only at heq ⊢
    subst heq
    have hdl := dl_at (M + 390) t l g 2 0 now [] [] ht ht2 hw0 hw2
    have hput := putG_at gs hI.srt hI.sm ⟨g, 2, dlP t now 0, []⟩ (by simp) (M + 400) (by omega)
    have key := rcv_new_one (M + 400) t l now ((k : Int) + 1) g (1 : Nat) 0 0 (dlP t now 0) (sltsC (gst gs).slots) (sltsC (gst (putG ⟨g, 2, dlP t now 0, []⟩ gs)).slots) h204 h102 h206 (by omega) rfl hdl hput
    exact ⟨[], step52 (M + 401) t l ((k : Int) + 1) g (1 : Nat) now (gst gs).cells _ key 0 0 (sltsC (gst gs).slots) rfl 0 0 _ _ _ _ _ rfl⟩
end
end Go.Proofs.YtckdgafiindddaaGreatDoor

/- The mass of messages, of what a state holds. -/
namespace Go.Proofs.YtckdgafiindddaaGreatDoor
open Go.Em
set_option maxRecDepth 100000

def AllMass (l : List Msg) : Prop := ∀ m, m ∈ l → m.mass = 1048576
theorem heavy214 (m : Msg) (h : m.mass = 1048576) (N : Nat) : Gam.pureD (callF tab ext (N + 6)) 36 [.agg m.cells] = some (boolX false) := by
  obtain ⟨⟨a1, a2⟩, a3, a4, a5, a6, a7, a8, a9, a0⟩ := m
  dsimp only at h
  subst h
  kernel_rfl
theorem idx214 (l : List Msg) (hl : l.length ≤ 1024) (hm : AllMass l) (N : Nat) (hN : 2000 ≤ N) : Gam.pureD (callF tab ext N) 66 [.sl false 10 (msgsC l), .fn 36 []] = some (num (-1)) := by
  obtain ⟨M, rfl⟩ : ∃ M, N = M + 10 := ⟨N - 10, by omega⟩
  have hn := msgsC_length l
  have hloop : run (callF tab ext (M + 9)) 0 (M + 9) (.loop (loopAt 66 0)) (imH (msgsC l) (.fn 36 []) (msgsC l).length 0) = some (.exit 0, ⟨[(0, .sl false 10 (msgsC l)), (1, .fn 36 []), (7, nat (msgsC l).length), (8, nat (msgsC l).length), (9, boolX false)], []⟩) := by
    refine loop_for (σ := fun j => imH (msgsC l) (.fn 36 []) (msgsC l).length j) (k := (msgsC l).length) (by kernel_rfl) (fun j hj => ?_) ?_ (by simp) (by omega)
    · have hj' : j < l.length := by omega
      have hg := msgsC_get hj'
      have hb := heavy214 l[j] (hm _ (List.getElem_mem hj')) (M + 3)
      generalize l[j] = o at hg hb
      obtain ⟨⟨a1, a2⟩, a3, a4, a5, a6, a7, a8, a9, a0⟩ := o
      exact ⟨imH (msgsC l) (.fn 36 []) (msgsC l).length (j + 1), run_of [(9, .b true), (14, .e (Msg.mk ⟨a1, a2⟩ a3 a4 (Val.mk a5 a6 a7 a8 a9 a0)).cells), (16, .p (boolX false)), (18, .i (Int.ofNat (j + 1)))] [] (pf4 (lt_nat hj) hg hb (next_nat (j := j) (by omega))) (lo' := []) (by kernel_rfl), by kernel_rfl⟩
    · exact run_of [(9, .b false)] [] (pf1 (nlt_nat (Nat.lt_irrefl (msgsC l).length))) (lo' := []) (by kernel_rfl)
  exact pure_of [] [(.exit 0, ⟨[(0, .sl false 10 (msgsC l)), (1, .fn 36 []), (7, nat (msgsC l).length), (8, nat (msgsC l).length), (9, boolX false)], []⟩)] (pf1 hloop) (x := num (-1)) (bx := []) (by kernel_rfl) rfl
theorem cont214 (l : List Msg) (hl : l.length ≤ 1024) (hm : AllMass l) (N : Nat) (hN : 2001 ≤ N) : Gam.pureD (callF tab ext N) 35 [.sl false 10 (msgsC l), .fn 36 []] = some (boolX false) := by
  obtain ⟨M, rfl⟩ : ∃ M, N = M + 1 := ⟨N - 1, by omega⟩
  exact pure_of [(7, .p (num (-1)))] [] (pf1 (idx214 l hl hm M (by omega))) (x := boolX false) (bx := []) (by kernel_rfl) rfl
section
variable (es : List (List X)) (n j : Nat) (acc : Int)
def maH : St := ⟨[(3, num acc), (13, .sl false 10 es), (14, nat n), (15, nat j)], []⟩
end
theorem mass134 (l : List Msg) (hl : l.length ≤ 1024) (hm : AllMass l) (N : Nat) (hN : 2002 ≤ N) : Gam.pureD (callF tab ext N) 21 [.sl false 10 (msgsC l)] = some (num ((l.length : Int) * 1048576)) := by
  obtain ⟨M, rfl⟩ : ∃ M, N = M + 1 := ⟨N - 1, by omega⟩
  have hn := msgsC_length l
  have h1 : decide (Int.ofNat (msgsC l).length > 1024) = false := decide_eq_false (by rw [hn]; simp only [Int.ofNat_eq_natCast]; omega)
  have h2 := cont214 l hl hm M (by omega)
  have hloop : run (callF tab ext M) 0 M (.loop (loopAt 21 0)) (maH (msgsC l) (msgsC l).length 0 0) = some (.exit 0, ⟨[(3, num (((msgsC l).length : Int) * 1048576)), (13, .sl false 10 (msgsC l)), (14, nat (msgsC l).length), (15, nat (msgsC l).length), (16, boolX false)], []⟩) := by
    refine loop_for (σ := fun j => maH (msgsC l) (msgsC l).length j ((j : Int) * 1048576)) (k := (msgsC l).length) (by kernel_rfl) (fun j hj => ?_) ?_ (by simp) (by omega)
    · have hj' : j < l.length := by omega
      have hg := msgsC_get hj'
      have hmm := hm _ (List.getElem_mem hj')
      generalize l[j] = o at hg hmm
      obtain ⟨⟨a1, a2⟩, a3, a4, a5, a6, a7, a8, a9, a0⟩ := o
      dsimp only at hmm
      subst hmm
      have hw : IntKind.i64.wrap ((j : Int) * 1048576 + 1048576) = ((j + 1 : Nat) : Int) * 1048576 := by rw [IntKind.wrap_i64]; omega
      refine ⟨⟨[(3, num (((j + 1 : Nat) : Int) * 1048576)), (13, .sl false 10 (msgsC l)), (14, nat (msgsC l).length), (15, nat (j + 1))], [.var (Msg.mk ⟨a1, a2⟩ 1048576 a4 (Val.mk a5 a6 a7 a8 a9 a0)).cells]⟩, run_of [(16, .b true), (17, .e (Msg.mk ⟨a1, a2⟩ 1048576 a4 (Val.mk a5 a6 a7 a8 a9 a0)).cells), (22, .i (((j + 1 : Nat) : Int) * 1048576)), (23, .i (Int.ofNat (j + 1)))] [] (pf4 (lt_nat hj) hg hw (next_nat (j := j) (by omega))) (lo' := []) (by kernel_rfl), by kernel_rfl⟩
    · exact run_of [(16, .b false)] [] (pf1 (nlt_nat (Nat.lt_irrefl (msgsC l).length))) (lo' := []) (by kernel_rfl)
  rw [← hn]
  exact pure_of [(8, .b false), (11, .p (boolX false))] [(.exit 0, ⟨[(3, num (((msgsC l).length : Int) * 1048576)), (13, .sl false 10 (msgsC l)), (14, nat (msgsC l).length), (15, nat (msgsC l).length), (16, boolX false)], []⟩)] (pf3 h1 h2 hloop) (x := num (((msgsC l).length : Int) * 1048576)) (bx := []) (by kernel_rfl) rfl
theorem held_mass (gs : List Gp) : AllMass (accOf (gst gs).slots) := fun m hm => by
  unfold accOf at hm
  obtain ⟨s, hs, hms⟩ := List.mem_flatMap.1 hm
  obtain ⟨x, _, rfl⟩ := List.mem_map.1 hs
  obtain ⟨p, _, rfl⟩ := List.mem_map.1 hms
  rfl
theorem mass133 (gs : List Gp) (h : GsI gs) (hl : heldG gs ≤ 1024) (N : Nat) (hN : 190030 ≤ N) : Gam.pureD (callF tab ext N) 20 [.agg (gst gs).cells] = some (num ((heldG gs : Int) * 1048576)) := by
  obtain ⟨M, rfl⟩ : ∃ M, N = M + 1 := ⟨N - 1, by omega⟩
  have h1 := waiting_pure (gst gs) (gst_small gs h.sm) M (by omega)
  have h2 := mass134 (accOf (gst gs).slots) hl (held_mass gs) M (by omega)
  exact pure_of [(4, .p (.sl false 10 (msgsC (accOf (gst gs).slots)))), (5, .p (num ((heldG gs : Int) * 1048576)))] [] (pf2 h1 h2) (x := num ((heldG gs : Int) * 1048576)) (bx := []) (by kernel_rfl) rfl
end Go.Proofs.YtckdgafiindddaaGreatDoor

/- manifoldlaw34.run: what is sent is appended. -/
namespace Go.Proofs.YtckdgafiindddaaGreatDoor
open Go.Em
set_option maxRecDepth 100000

section
variable (t l : Int) (es S L ss O F Lt sp : List (List X)) (n m i k : Nat) (now ms : Int) (fl : Bool) (N : Nat)
def oqC : List X := [num 0, num 0, .sl false 10 sp, .sl false 11 O, .sl false 11 [], .sl false 6 F, .sl false 10 Lt]
def r1B : List Bx := [.var (nodR t l).cells, .row 10 S, .row 10 L, .var [num 0, num 0, .sl fl 10 ss], .var (oqC O F Lt sp)]
def r1H : St := ⟨[(1, .sl false 4 es), (2, .ptr 0 0 0), (4, .bs 1 0 n), (5, .bs 2 0 m), (6, .ptr 3 0 0), (8, num now), (9, nat i), (11, num ms), (12, .ptr 4 0 0), (13, nat k)], r1B t l S L ss O F Lt sp fl⟩
def r1E : St := ⟨[(1, .sl false 4 es), (2, .ptr 0 0 0), (4, .bs 1 0 n), (5, .bs 2 0 m), (6, .ptr 3 0 0), (8, num now), (9, nat i), (11, num ms), (12, .ptr 4 0 0), (13, nat k), (73, boolX false)], r1B t l S L ss O F Lt sp fl⟩
theorem r1_canon : canon 0 (r1H t l es S L ss O F Lt sp n m i k now ms fl) = some (r1H t l es S L ss O F Lt sp n m i k now ms fl) := by kernel_rfl
theorem r1_end (h : ¬ k < O.length) : run (callF tab ext N) 0 N (loopAt 7 1) (r1H t l es S L ss O F Lt sp n m i k now ms fl) = some (.exit 2, r1E t l es S L ss O F Lt sp n m i k now ms fl) :=
  run_of [(73, .b false)] [] (pf1 (nlt_nat h)) (lo' := []) (by kernel_rfl)
theorem r1_round (o : Otp) (h : k < O.length) (hk : k < 1000) (hx : O[k]? = some o.cells) (hn : n = S.length) (hn2 : n < 100000) (ms2 : Int) (hms : IntKind.i64.wrap (ms - o.m.mass) = ms2) :
    ∃ υ, run (callF tab ext N) 0 N (loopAt 7 1) (r1H t l es S L ss O F Lt sp n m i k now ms fl) = some (.norm, υ) ∧ canon 0 υ = some (r1H t l es (S ++ [o.m.cells]) L ss O F Lt sp (n + 1) m i (k + 1) now ms2 fl) := by
  have h1 := lt_nat h
  have h2 := app_ok (acc := S) n 0 152 (by omega) (by omega) (by omega)
  have h3 := next_nat (j := k) (by omega)
  obtain ⟨e, ⟨⟨a1, a2⟩, a3, a4, b1, b2, b3, b4, b5, b6⟩⟩ := o
  dsimp only at hms
  refine rd_of [(73, .b true), (80, .e (Otp.mk e ⟨⟨a1, a2⟩, a3, a4, .mk b1 b2 b3 b4 b5 b6⟩).cells), (84, .app), (89, .e (Otp.mk e ⟨⟨a1, a2⟩, a3, a4, .mk b1 b2 b3 b4 b5 b6⟩).cells), (93, .i ms2), (75, .i (Int.ofNat (k + 1)))] (pf6 h1 hx h2 hx hms h3) (by kernel_rfl)
end
def outsC (os : List Otp) : List (List X) := os.map fun o => o.m.cells
theorem r1_loop (t l : Int) (es S L ss F Lt sp : List (List X)) (os : List Otp) (m i : Nat) (now ms : Int) (fl : Bool) (hm : ∀ o, o ∈ os → o.m.mass = 1048576) (ho : os.length ≤ 100) (hS : S.length ≤ 10000) (h1 : -1000000000000 ≤ ms) (h2 : ms ≤ 1000000000000) (N : Nat) (hN : 1000 ≤ N) :
    run (callF tab ext N) 0 N (.loop (loopAt 7 1)) (r1H t l es S L ss (otpsC os) F Lt sp S.length m i 0 now ms fl) = some (.exit 2, r1E t l es (S ++ outsC os) L ss (otpsC os) F Lt sp (S.length + os.length) m i os.length now (ms - (os.length : Int) * 1048576) fl) := by
  have hl := otpsC_length os
  have key := loop_for (Γ := callF tab ext N) (nIn := 0) (fu := N) (b := loopAt 7 1) (σ := fun j => r1H t l es (S ++ outsC (os.take j)) L ss (otpsC os) F Lt sp (S.length + j) m i j now (ms - (j : Int) * 1048576) fl) (k := os.length) (e := .exit 2) (τ := r1H t l es S L ss (otpsC os) F Lt sp S.length m i 0 now ms fl)
    (fin := r1E t l es (S ++ outsC os) L ss (otpsC os) F Lt sp (S.length + os.length) m i os.length now (ms - (os.length : Int) * 1048576) fl)
    (by
      have e : r1H t l es (S ++ outsC (os.take 0)) L ss (otpsC os) F Lt sp (S.length + 0) m i 0 now (ms - ((0 : Nat) : Int) * 1048576) fl = r1H t l es S L ss (otpsC os) F Lt sp S.length m i 0 now ms fl := by
        simp [outsC]
      rw [e]
      exact r1_canon ..) (fun j hj => ?_) ?_ (by simp) (by omega)
  · exact key
  · have hmj := hm _ (List.getElem_mem hj)
    have e : S ++ outsC (os.take (j + 1)) = (S ++ outsC (os.take j)) ++ [os[j].m.cells] := by
      rw [List.take_succ_eq_append_getElem hj]
      unfold outsC
      rw [List.map_append, List.append_assoc]
      rfl
    rw [e]
    exact r1_round t l es (S ++ outsC (os.take j)) L ss (otpsC os) F Lt sp (S.length + j) m i j now (ms - (j : Int) * 1048576) fl N os[j] (by omega) (by omega) (otpsC_get hj) (by simp [outsC]; omega) (by omega) _ (by rw [hmj, IntKind.wrap_i64]; omega)
  · rw [List.take_length]
    exact r1_end t l es _ L ss (otpsC os) F Lt sp _ m i os.length now _ fl N (by omega)
end Go.Proofs.YtckdgafiindddaaGreatDoor
