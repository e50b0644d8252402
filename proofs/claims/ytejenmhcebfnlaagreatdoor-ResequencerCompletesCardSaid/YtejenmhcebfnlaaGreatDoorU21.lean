/- ResequencerChecks comes to true. -/
import Derived.Test.YtejenmhcebfnlaaGreatDoorU15
import Derived.Test.YtejenmhcebfnlaaGreatDoorU20
set_option linter.all false
namespace Go.Proofs.YtejenmhcebfnlaaGreatDoor
open Go.Em
set_option maxRecDepth 100000

/-! ### The definition's check -/
section
variable (a b : Int) (l : List (List X)) (j m : Nat) (x : List X) (ln : Int)
end
end Go.Proofs.YtejenmhcebfnlaaGreatDoor

/- ResequencerChecks comes to true. -/
namespace Go.Proofs.YtejenmhcebfnlaaGreatDoor
open Go.Em
set_option maxRecDepth 100000

end Go.Proofs.YtejenmhcebfnlaaGreatDoor

/- ResequencerChecks comes to true. -/
namespace Go.Proofs.YtejenmhcebfnlaaGreatDoor
open Go.Em
set_option maxRecDepth 100000

end Go.Proofs.YtejenmhcebfnlaaGreatDoor

/- resequencer.Expected and Held. -/
namespace Go.Proofs.YtejenmhcebfnlaaGreatDoor
open Go.Em
set_option maxRecDepth 100000

/-- The numbers of a slot. -/
def numsV (vs : List Val) : List Int := vs.map Val.intOf
section
variable (l acc : List (List X)) (n j : Nat)
def nuH : St := ⟨[(3, .bs 0 0 j), (7, .sl false 6 l), (8, nat n), (9, nat j)], [.row 1 acc]⟩
def nuH' (x : List X) (i : Int) : St := ⟨[(3, .bs 2 0 (j + 1)), (7, .sl false 6 l), (8, nat n), (9, nat (j + 1))], [.dead, .var x, .row 1 (acc ++ [[num i]])]⟩
end
theorem numbers_pure (x : Slt) (hv : x.vals.length ≤ 60000) (N : Nat) (hN : 60010 ≤ N) : Gam.pureD (callF tab ext N) 24 [.agg x.cells] = some (.sl false 1 (intsC (numsV x.vals))) := by
  obtain ⟨M, rfl⟩ : ∃ M, N = M + 1 := ⟨N - 1, by omega⟩
  obtain ⟨⟨x1, x2, x3, x4, x5, x6⟩, n, t, ms, vs⟩ := x
  dsimp only at hv ⊢
  have hn := cellsL_length vs
  have hl : run (callF tab ext M) 0 M (.loop (loopAt 24 0)) ⟨[(3, .bs 1 0 0), (7, .sl false 6 (cellsL vs)), (8, nat (cellsL vs).length), (9, num 0)], [.var [num x1, num x2, num x3, strX x4, .sl false 6 (cellsL x5), .sl false 7 (cellsF x6), num n, num t, .sl false 10 (msgsC ms), .sl false 6 (cellsL vs)], .row 1 []]⟩ =
      some (.exit 0, ⟨[(3, .bs 0 0 (cellsL vs).length), (7, .sl false 6 (cellsL vs)), (8, nat (cellsL vs).length), (9, nat (cellsL vs).length), (10, boolX false)], [.row 1 (intsC (numsV vs))]⟩) := by
    refine loop_for (σ := fun j => nuH (cellsL vs) (intsC (numsV (vs.take j))) (cellsL vs).length j) (k := (cellsL vs).length) (by kernel_rfl) (fun j hj => ?_) ?_ (by simp) (by omega)
    · have hj' : j < vs.length := by omega
      have hi := cellsL_get hj'
      have ht : intsC (numsV (vs.take (j + 1))) = intsC (numsV (vs.take j)) ++ [[num vs[j].intOf]] := by
        unfold numsV intsC
        rw [List.take_succ_eq_append_getElem hj', List.map_append, List.map_append]; rfl
      have hal : (intsC (numsV (vs.take j))).length = j := by simp [intsC, numsV]; omega
      refine ⟨nuH' (cellsL vs) (intsC (numsV (vs.take j))) (cellsL vs).length j vs[j].cells vs[j].intOf, ?_, ?_⟩
      · generalize intsC (numsV (vs.take j)) = acc at hal
        generalize vs[j] = y at hi
        obtain ⟨k, i, s, tt, ll, ff⟩ := y
        have ha := app_ok (acc := acc) j 0 8 hal.symm (by omega) (by omega)
        exact run_of [(10, .b true), (11, .e (Val.mk k i s tt ll ff).cells), (17, .app), (18, .i (Int.ofNat (j + 1)))] [] (pf4 (lt_nat hj) hi ha (next_nat (j := j) (by omega))) (lo' := []) (by kernel_rfl)
      · rw [ht]; 
        generalize vs[j].intOf = i
        generalize vs[j].cells = y
        generalize intsC (numsV (vs.take j)) = acc
        kernel_rfl
    · have : List.take (cellsL vs).length vs = vs := by rw [hn, List.take_length]
      rw [this]
      exact run_of [(10, .b false)] [] (pf1 (nlt_nat (Nat.lt_irrefl (cellsL vs).length))) (lo' := []) (by kernel_rfl)
  have hr : (intsC (numsV vs)).length = (cellsL vs).length := by simp [intsC, numsV, hn]
  generalize intsC (numsV vs) = r at hl hr ⊢
  exact pure_of [] [(.exit 0, ⟨[(3, .bs 0 0 (cellsL vs).length), (7, .sl false 6 (cellsL vs)), (8, nat (cellsL vs).length), (9, nat (cellsL vs).length), (10, boolX false)], [.row 1 r]⟩)] (pf1 hl) (x := .bs 0 0 (cellsL vs).length) (bx := [.row 1 r]) (by kernel_rfl) (by simp only [X.data]; rw [rowOf_all (bx := [.row 1 r]) rfl hr.symm]; rfl)

/-! ### A time within bounds -/
/-! ### Lookups -/
theorem expected57 (M : Nat) (s : Stt) (key : Val) (x : Slt) (b : Bool) (hg : Gam.pureD (callF tab ext M) 18 [.agg s.cells, .agg key.cells] = some (.tup [.agg x.cells, boolX b])) :
    Gam.pureD (callF tab ext (M + 1)) 10 [.agg s.cells, .agg key.cells] = some (num (if b then x.n else 1)) := by
  obtain ⟨a, c, ss⟩ := s
  obtain ⟨k1, k2, k3, k4, k5, k6⟩ := key
  obtain ⟨⟨x1, x2, x3, x4, x5, x6⟩, n, t, ms, vs⟩ := x
  cases b with
  | true => exact pure_of [(10, .p (.tup [.agg (Slt.mk ⟨x1, x2, x3, x4, x5, x6⟩ n t ms vs).cells, boolX true]))] [] (pf1 hg) (x := num n) (bx := []) (by kernel_rfl) rfl
  | false => exact pure_of [(10, .p (.tup [.agg (Slt.mk ⟨x1, x2, x3, x4, x5, x6⟩ n t ms vs).cells, boolX false]))] [] (pf1 hg) (x := num 1) (bx := []) (by kernel_rfl) rfl
end Go.Proofs.YtejenmhcebfnlaaGreatDoor

/- ResequencerLookups comes to true. -/
namespace Go.Proofs.YtejenmhcebfnlaaGreatDoor
open Go.Em
set_option maxRecDepth 100000

section
variable (x1 x2 x3 n t : Int) (x4 : ByteArray) (x5 x6 ms vs hl : List (List X)) (j : Nat)
end
end Go.Proofs.YtejenmhcebfnlaaGreatDoor

/- The resequencer: release as a whole. -/
namespace Go.Proofs.YtejenmhcebfnlaaGreatDoor
open Go.Em
set_option maxRecDepth 100000

theorem data_row0 {sz r : Nat} {acc : List (List X)} (h : acc.length = r) : (X.bs 0 0 r).data [.row sz acc] false = some (.sl false sz acc) := by
  subst h
  simp [X.data, rowOf]
theorem clone296 (N : Nat) (l : List (List X)) (h : l.length ≤ 1000000) : Gam.pureD (callF tab ext (N + 1)) 64 [.sl false 10 l] = some (.sl false 10 l) := by
  have e : callF tab ext (N + 1) (.fn 64) [.sl false 10 l] [] = cloneXExt 10 [.sl false 10 l] [] := rfl
  unfold Gam.pureD
  rw [e]
  show (match (if 10 = 10 ∧ l.length ≤ 1000000 then some (X.bs 0 0 l.length, [Bx.row 10 l]) else none) with | some (x, bx) => x.data bx false | none => none) = _
  rw [if_pos ⟨rfl, h⟩]
  exact data_row0 rfl
theorem clone297 (N : Nat) (l : List (List X)) (h : l.length ≤ 1000000) : Gam.pureD (callF tab ext (N + 1)) 65 [.sl false 6 l] = some (.sl false 6 l) := by
  have e : callF tab ext (N + 1) (.fn 65) [.sl false 6 l] [] = cloneXExt 6 [.sl false 6 l] [] := rfl
  unfold Gam.pureD
  rw [e]
  show (match (if 6 = 6 ∧ l.length ≤ 1000000 then some (X.bs 0 0 l.length, [Bx.row 6 l]) else none) with | some (x, bx) => x.data bx false | none => none) = _
  rw [if_pos ⟨rfl, h⟩]
  exact data_row0 rfl
theorem run295 (N : Nat) (x1 x2 x3 xn xt m : Int) (x4 : ByteArray) (x5 x6 ms vs : List (List X)) : Gam.pureD (callF tab ext (N + 5)) 63 [.agg (slC x1 x2 x3 xn xt x4 x5 x6 ms vs), num m] = some (.fn 90 [.dp (slC x1 x2 x3 xn xt x4 x5 x6 ms vs), .dp [num m]]) := by kernel_rfl
theorem col294 (sc : List X) (nx : Int) (acc : List (List X)) (M : Nat) (h : Gam.pureD (callF tab ext M) 89 [.sl true 10 [], .fn 90 [.dp sc, .dp [num nx]]] = some (.sl false 10 acc)) : Gam.pureD (callF tab ext (M + 1)) 62 [.fn 90 [.dp sc, .dp [num nx]]] = some (.sl false 10 acc) :=
  pure_of [(4, .p (.sl false 10 acc))] [] (pf1 h) (x := .sl false 10 acc) (bx := []) (by kernel_rfl) rfl
theorem rel_ret (N : Nat) (x1 x2 x3 xn xt m m' : Int) (x4 : ByteArray) (x5 x6 ms vs acc m2 v2 : List (List X)) (h295 : Gam.pureD (callF tab ext N) 63 [.agg (slC x1 x2 x3 xn xt x4 x5 x6 ms vs), num m] = some (.fn 90 [.dp (slC x1 x2 x3 xn xt x4 x5 x6 ms vs), .dp [num m]])) (h294 : Gam.pureD (callF tab ext N) 62 [.fn 90 [.dp (slC x1 x2 x3 xn xt x4 x5 x6 ms vs), .dp [num m]]] = some (.sl false 10 acc))
    (hcm : (Int.ofNat acc.length).toNat ≤ ms.length ∧ ms.length ≤ ms.length) (h296 : Gam.pureD (callF tab ext N) 64 [.sl false 10 ((ms.take ms.length).drop (Int.ofNat acc.length).toNat)] = some (.sl false 10 m2)) (hcv : (Int.ofNat acc.length).toNat ≤ vs.length ∧ vs.length ≤ vs.length) (h297 : Gam.pureD (callF tab ext N) 65 [.sl false 6 ((vs.take vs.length).drop (Int.ofNat acc.length).toNat)] = some (.sl false 6 v2)) (hw : IntKind.i64.wrap (m + Int.ofNat acc.length) = m') :
    callF tab ext (N + 1) (.fn 29) [.ptr 0 0 0, num m] [.var (slC x1 x2 x3 xn xt x4 x5 x6 ms vs)] = some (.sl false 10 acc, [.var (slC x1 x2 x3 m' xt x4 x5 x6 m2 v2)]) :=
  callF_of [(10, .p (.fn 90 [.dp (slC x1 x2 x3 xn xt x4 x5 x6 ms vs), .dp [num m]])), (11, .p (.sl false 10 acc)), (20, .cut), (21, .p (.sl false 10 m2)), (28, .cut), (29, .p (.sl false 6 v2)), (38, .i m')] [] (pf7 h295 h294 hcm h296 hcv h297 hw) (by kernel_rfl)
theorem cellsL_drop (vs : List Val) (r : Nat) : cellsL (vs.drop r) = (cellsL vs).drop r := by
  induction vs generalizing r with
  | nil => simp [cellsL]
  | cons v w ih => cases r with
    | zero => rfl
    | succ r => simpa [cellsL] using ih r
/-- release: the first r messages are taken off. -/
theorem rel211 (x : Slt) (nx : Int) (r N : Nat) (hN : 70000 ≤ N) (hv : x.vals.length = x.items.length) (hl : x.vals.length ≤ 1000) (hr : r ≤ x.vals.length) (hrun : ∀ j (h : j < r), (numsV x.vals)[j]'(by simp [numsV]; omega) = nx + (j : Int)) (hstop : ∀ h : r < (numsV x.vals).length, (numsV x.vals)[r] ≠ nx + (r : Int)) (h0 : 0 ≤ nx) (h2 : nx ≤ 4611686018427387904)
    (hnum : ∀ M, 60010 ≤ M → Gam.pureD (callF tab ext M) 24 [.agg x.cells] = some (.sl false 1 (intsC (numsV x.vals)))) :
    callF tab ext N (.fn 29) [.ptr 0 0 0, num nx] [.var x.cells] = some (.sl false 10 (msgsC (x.items.take r)), [.var (Slt.mk x.key (nx + (r : Int)) x.t (x.items.drop r) (x.vals.drop r)).cells]) := by
  obtain ⟨M, rfl⟩ : ∃ M, N = M + 5 := ⟨N - 5, by omega⟩
  obtain ⟨⟨x1, x2, x3, x4, x5, x6⟩, n, t, ms, vs⟩ := x
  dsimp only at hv hl hr hrun hstop
  have hnl : (numsV vs).length = vs.length := by simp [numsV]
  have hml := msgsC_length ms
  have hvl := cellsL_length vs
  have hI := iter371 x1 x2 x3 n t nx x4 (cellsL x5) (cellsF x6) (cellsL vs) ms (numsV vs) r (M + 1) (by omega) (by omega) hrun hstop h0 h2 (by omega) (by omega) (hnum (M + 1) (by omega))
  have hacc : (msgsC (ms.take r)).length = r := by rw [msgsC_length, List.length_take]; omega
  have h370 : Gam.pureD (callF tab ext (M + 3)) 89 [.sl true 10 [], .fn 90 [.dp (slC x1 x2 x3 n t x4 (cellsL x5) (cellsF x6) (msgsC ms) (cellsL vs)), .dp [num nx]]] = some (.sl false 10 (msgsC (ms.take r))) := by
    unfold Gam.pureD
    by_cases hz : r = 0
    · rw [if_pos hz] at hI
      rw [ap_call0 _ nx (M + 2) hI]
      subst hz
      exact data_row0 rfl
    · rw [if_neg hz] at hI
      rw [ap_call _ nx _ r (M + 2) hI]
      exact data_row0 hacc
  have h294 := col294 _ nx _ (M + 3) h370
  have e1 : ((msgsC ms).take (msgsC ms).length).drop (Int.ofNat (msgsC (ms.take r)).length).toNat = msgsC (ms.drop r) := by
    rw [List.take_length, hacc]; unfold msgsC; exact (List.map_drop).symm
  have e2 : ((cellsL vs).take (cellsL vs).length).drop (Int.ofNat (msgsC (ms.take r)).length).toNat = cellsL (vs.drop r) := by
    rw [List.take_length, hacc, cellsL_drop]; rfl
  have h296 := clone296 (M + 3) (msgsC (ms.drop r)) (by rw [msgsC_length, List.length_drop]; omega)
  have h297 := clone297 (M + 3) (cellsL (vs.drop r)) (by rw [cellsL_length, List.length_drop]; omega)
  rw [← e1] at h296
  rw [← e2] at h297
  have hw : IntKind.i64.wrap (nx + Int.ofNat (msgsC (ms.take r)).length) = nx + (r : Int) := by rw [hacc]; exact wrap_add h0 h2 (by omega)
  have key := rel_ret (M + 4) x1 x2 x3 n t nx (nx + (r : Int)) x4 (cellsL x5) (cellsF x6) (msgsC ms) (cellsL vs) (msgsC (ms.take r)) (msgsC (ms.drop r)) (cellsL (vs.drop r)) (run295 (M - 1) ..) h294 ⟨by rw [hacc]; simp only [Int.ofNat_eq_natCast, Int.toNat_natCast]; omega, Nat.le_refl _⟩ (by rw [e1] at h296 ⊢; exact h296) ⟨by rw [hacc]; simp only [Int.ofNat_eq_natCast, Int.toNat_natCast]; omega, Nat.le_refl _⟩ (by rw [e2] at h297 ⊢; exact h297) hw
  exact key
end Go.Proofs.YtejenmhcebfnlaaGreatDoor

/- A message's fate, and its environment. -/
namespace Go.Proofs.YtejenmhcebfnlaaGreatDoor
open Go.Em
set_option maxRecDepth 100000

end Go.Proofs.YtejenmhcebfnlaaGreatDoor

/- The stamps of messages; a message that was replaced. -/
namespace Go.Proofs.YtejenmhcebfnlaaGreatDoor
open Go.Em
set_option maxRecDepth 100000

theorem stpsC_take_succ {ss : List Stp} {j : Nat} (h : j < ss.length) : stpsC (ss.take (j + 1)) = stpsC (ss.take j) ++ [(ss[j]).cells] := by
  grind[List.take_add_one,stpsC]
section
variable (N n j : Nat) (ms ss : List (List X)) (e q : Int) (p o : List (List X)) (a1 a2 a3 : Int) (a4 : ByteArray) (a5 a6 : List (List X))
end
/-! ### into -/
section
variable (N n j : Nat) (e k : Int) (p : List (List X)) (nm : ByteArray) (l ss : List (List X)) (se : Int) (sp : List (List X))
def itH : St := ⟨[(0, .ptr 0 0 0), (5, .sl false 2 l), (6, nat n), (7, nat j)], [.var [num e, .sl false 1 p, num k, strX nm, .bs 1 0 j, noText], .row 2 ss]⟩
def itH' : St := ⟨[(0, .ptr 0 0 0), (5, .sl false 2 l), (6, nat n), (7, nat (j + 1))], [.var [num e, .sl false 1 p, num k, strX nm, .bs 3 0 (j + 1), noText], .dead, .var [num se, .sl false 1 sp], .row 2 ss]⟩
theorem it_canon : canon 1 (itH n j e k p nm l ss) = some (itH n j e k p nm l ss) := by kernel_rfl
theorem it_canon' : canon 1 (itH' n j e k p nm l ss se sp) = some (itH n (j + 1) e k p nm l ss) := by kernel_rfl
theorem it_step (hi : l[j]? = some [num se, .sl false 1 sp]) (h1 : Gam.pureD (callF tab ext N) 58 [.agg [num se, .sl false 1 sp]] = some (.agg [num se, .sl false 1 sp])) (hj : j < n) (hl : n < 100000) (hs : j = ss.length) :
    run (callF tab ext N) 1 N (loopAt 128 0) (itH n j e k p nm l ss) = some (.norm, itH' n j e k p nm l (ss ++ [[num se, .sl false 1 sp]]) se sp) :=
  run_of [(8, .b true), (9, .e [num se, .sl false 1 sp]), (17, .p (.agg [num se, .sl false 1 sp])), (19, .app), (22, .i (Int.ofNat (j + 1)))] []
    (pf5 (lt_nat hj) hi h1 (app_ok j 1 32 hs (by omega) (by omega)) (next_nat (j := j) (by omega))) (lo' := []) (by kernel_rfl)
theorem it_end : run (callF tab ext N) 1 N (loopAt 128 0) (itH n n e k p nm l ss) = some (.exit 0, ⟨[(0, .ptr 0 0 0), (5, .sl false 2 l), (6, nat n), (7, nat n), (8, .v (.bool false))], [.var [num e, .sl false 1 p, num k, strX nm, .bs 1 0 n, noText], .row 2 ss]⟩) :=
  run_of [(8, .b false)] [] (pf1 (nlt_nat (j := n) (k := n) (by omega))) (lo' := []) (by kernel_rfl)
end
theorem into_call (N : Nat) (ss : List Stp) (hs : ∀ s, s ∈ ss → s.ok) (hl : ss.length < 50000) (hN : ss.length + 10 ≤ N) (e k : Int) (p : List (List X)) (nm : ByteArray) :
    callF tab ext N (.fn 128) [.ptr 0 0 0, .dp [.sl false 2 (stpsC ss)]] [.var [num e, .sl false 1 p, num k, strX nm, .sl true 2 [], noText]] = some (.tup [], [.var [num e, .sl false 1 p, num k, strX nm, .bs 1 0 ss.length, noText], .row 2 (stpsC ss)]) := by
  obtain ⟨M, rfl⟩ : ∃ M, N = M + 3 := ⟨N - 3, by omega⟩
  have hlen := stpsC_length ss
  have hrun : run (callF tab ext (M + 2)) 1 (M + 2) (.loop (loopAt 128 0)) (itH ss.length 0 e k p nm (stpsC ss) []) = some (.exit 0, ⟨[(0, .ptr 0 0 0), (5, .sl false 2 (stpsC ss)), (6, nat ss.length), (7, nat ss.length), (8, .v (.bool false))], [.var [num e, .sl false 1 p, num k, strX nm, .bs 1 0 ss.length, noText], .row 2 (stpsC ss)]⟩) := by
    refine loop_for (σ := fun j => itH ss.length j e k p nm (stpsC ss) (stpsC (ss.take j))) (k := ss.length) (it_canon ..) (fun j hj => ?_) ?_ (by simp) (by omega)
    · have hc := clone_stamp M ss[j] (hs _ (List.getElem_mem hj))
      have hg := stpsC_get hj
      have ht := stpsC_take_succ hj
      generalize ss[j] = q at hc hg ht
      obtain ⟨se, sp⟩ := q
      refine ⟨_, it_step (hi := hg) (h1 := hc) (hj := hj) (hl := by omega) (hs := by grind[stpsC]) .., ?_⟩
      rw [ht]
      exact it_canon' ..
    · grind[it_end]
  rw [← hlen] at hrun ⊢
  generalize stpsC ss = so at hrun ⊢
  exact callF_of [] [(.exit 0, ⟨[(0, .ptr 0 0 0), (5, .sl false 2 so), (6, nat so.length), (7, nat so.length), (8, .v (.bool false))], [.var [num e, .sl false 1 p, num k, strX nm, .bs 1 0 so.length, noText], .row 2 so]⟩)] (pf1 hrun) (by kernel_rfl)
theorem fate_l (N : Nat) (e q : Int) (p o : List (List X)) (a1 a2 a3 : Int) (a4 : ByteArray) (a5 a6 : List (List X)) (nm : ByteArray) (l : List (List X)) (h1 : Gam.pureD (callF tab ext (N + 5)) 58 [.agg [num e, .sl false 1 p]] = some (.agg [num e, .sl false 1 p]))
    (h2 : callF tab ext (N + 5) (.fn 128) [.ptr 0 0 0, .dp [.sl false 2 l]] [.var [num e, .sl false 1 p, num 1, strX nm, .sl true 2 [], noText]] = some (.tup [], [.var [num e, .sl false 1 p, num 1, strX nm, .bs 1 0 l.length, noText], .row 2 l])) :
    Gam.pureD (callF tab ext (N + 6)) 84 [.agg [num e, .sl false 1 p, num q, .sl false 1 o, num a1, num a2, num a3, strX a4, .sl false 6 a5, .sl false 7 a6], strX nm, num 1, .sl false 1 [[.fn 128 [.dp [.sl false 2 l]]]]] = some (.agg [num e, .sl false 1 p, num 1, strX nm, .sl false 2 l, noText]) := by
  refine pure_of [(14, .p (.agg [num e, .sl false 1 p])), (25, .r (.tup []) [.var [num e, .sl false 1 p, num 1, strX nm, .bs 1 0 l.length, noText], .row 2 l])] [] (pf2 h1 h2) (x := .agg [num e, .sl false 1 p, num 1, strX nm, .bs 0 0 l.length, noText]) (bx := [.row 2 l]) (by kernel_rfl) ?_
  have h3 := rowOf_all (bx := [.row 2 l]) (i := 0) (n := l.length) rfl rfl<;>simp_all[X.data,dataL,num,strX,noText]
/-- message.Replaced. -/
theorem replaced_pure (N : Nat) (m : Msg) (h : m.st.ok) (nm : ByteArray) (ss : List Stp) (hs : ∀ s, s ∈ ss → s.ok) (hl : ss.length < 50000) (hN : ss.length + 30 ≤ N) : Gam.pureD (callF tab ext N) 68 [.agg m.cells, strX nm, .sl false 2 (stpsC ss)] = some (.agg (Fte.mk m.st 1 nm ss ⟨#[]⟩).cells) := by
  obtain ⟨M, rfl⟩ : ∃ M, N = M + 12 := ⟨N - 12, by omega⟩
  have h1 := clone_stamp (M + 8) m.st h
  have h2 := into_call (M + 10) ss hs hl (by omega) m.st.e 1 (intsC m.st.p) nm
  rw [← stpsC_length ss] at h2
  obtain ⟨⟨e, p⟩, w, o, ⟨a1, a2, a3, a4, a5, a6⟩⟩ := m
  have h3 := fate_l (M + 5) e w (intsC p) (intsC o) a1 a2 a3 a4 (cellsL a5) (cellsF a6) nm (stpsC ss) h1 h2
  show _ = some (X.agg [num e, .sl false 1 (intsC p), num 1, strX nm, .sl false 2 (stpsC ss), noText])
  generalize stpsC ss = l at h3 ⊢
  exact pure_of [(12, .p (.agg [num e, .sl false 1 (intsC p), num 1, strX nm, .sl false 2 l, noText]))] [] (pf1 h3) (x := .agg [num e, .sl false 1 (intsC p), num 1, strX nm, .sl false 2 l, noText]) (bx := []) (by kernel_rfl) rfl
end Go.Proofs.YtejenmhcebfnlaaGreatDoor

/- Copies of a value, a message with another body, a stamp with one more number. -/
namespace Go.Proofs.YtejenmhcebfnlaaGreatDoor
open Go.Em
set_option maxRecDepth 100000
theorem intsC_snoc (p : List Int) (k : Int) : intsC p ++ [[num k]] = intsC (p ++ [k]) := by
  induction p with
  | nil => rfl
  | cons a r ih => exact congrArg (([num a]) :: ·) ih
theorem under_l (M : Nat) (e k : Int) (l : List (List X)) (n : Nat) (h1 : callF tab ext (M + 1) (.fn 59) [.sl false 1 l] [] = some (.bs 0 0 n, [.row 1 l])) (hn : n = l.length) (hb : n < 1000000) : Gam.pureD (callF tab ext (M + 2)) 66 [.agg [num e, .sl false 1 l], num k] = some (X.agg [num e, .sl false 1 (l ++ [[num k]])]) := by
  refine pure_of [(9, .o (.bs 0 0 n) [.row 1 l]), (12, .app)] [] (pf2 h1 (app_ok n 0 8 hn hb (by omega))) (x := .agg [num e, .bs 0 0 (n + 1)]) (bx := [.row 1 (l ++ [[num k]])]) (by kernel_rfl) ?_
  have h2 : rowOf [.row 1 (l ++ [[num k]])] 0 0 (n + 1) = some (1, l ++ [[num k]]) := rowOf_all rfl (by rw [List.length_append]; simp [hn])<;>simp_all[num,X.data,dataL]
/-- message.Under. -/
theorem under_pure (s : Stp) (hs : s.ok) (k : Int) (N : Nat) (hN : 10 ≤ N) : Gam.pureD (callF tab ext N) 66 [.agg s.cells, num k] = some (.agg (Stp.mk s.e (s.p ++ [k])).cells) := by
  obtain ⟨M, rfl⟩ : ∃ M, N = M + 2 := ⟨N - 2, by omega⟩
  have h := under_l M s.e k (intsC s.p) s.p.length (clone_row M s.p hs.p) (intsC_length s.p).symm (by have := hs.p; omega)
  rw [intsC_snoc] at h
  exact h
end Go.Proofs.YtejenmhcebfnlaaGreatDoor

/- The resequencer: messages are sent on with new stamps. -/
namespace Go.Proofs.YtejenmhcebfnlaaGreatDoor
open Go.Em
set_option maxRecDepth 100000

theorem mv_l (M : Nat) (f e mm a1 a2 a3 : Int) (a4 : ByteArray) (q us o a5 a6 : List (List X)) (h98 : Gam.pureD (callF tab ext M) 26 [.agg [num f, .sl false 1 q, num mm, .sl false 1 o, num a1, num a2, num a3, strX a4, .sl false 6 a5, .sl false 7 a6]] = some (.agg [num f, .sl false 1 q, num mm, .sl false 1 o, num a1, num a2, num a3, strX a4, .sl false 6 a5, .sl false 7 a6]))
    (h159 : Gam.pureD (callF tab ext M) 58 [.agg [num e, .sl false 1 us]] = some (.agg [num e, .sl false 1 us])) :
    Gam.pureD (callF tab ext (M + 1)) 67 [.agg [num f, .sl false 1 q, num mm, .sl false 1 o, num a1, num a2, num a3, strX a4, .sl false 6 a5, .sl false 7 a6], .agg [num e, .sl false 1 us]] = some (.agg [num e, .sl false 1 us, num mm, .sl false 1 o, num a1, num a2, num a3, strX a4, .sl false 6 a5, .sl false 7 a6]) :=
  pure_of [(6, .p (.agg [num f, .sl false 1 q, num mm, .sl false 1 o, num a1, num a2, num a3, strX a4, .sl false 6 a5, .sl false 7 a6])), (8, .p (.agg [num e, .sl false 1 us]))] [] (pf2 h98 h159) (x := .agg [num e, .sl false 1 us, num mm, .sl false 1 o, num a1, num a2, num a3, strX a4, .sl false 6 a5, .sl false 7 a6]) (bx := []) (by kernel_rfl) rfl
theorem move298 (M : Nat) (m : Msg) (hm : m.ok) (s : Stp) (hs : s.ok) (hM : 190010 ≤ M) : Gam.pureD (callF tab ext M) 67 [.agg m.cells, .agg s.cells] = some (.agg ({ m with st := s } : Msg).cells) := by
  obtain ⟨K, rfl⟩ : ∃ K, M = K + 3 := ⟨M - 3, by omega⟩
  have h1 := clone_msg (K + 2) m hm (by omega)
  have h2 := clone_stamp K s hs
  obtain ⟨⟨f, q⟩, mm, o, ⟨a1, a2, a3, a4, a5, a6⟩⟩ := m
  obtain ⟨e, us⟩ := s
  exact mv_l (K + 2) f e mm a1 a2 a3 a4 (intsC q) (intsC us) (intsC o) (cellsL a5) (cellsF a6) h1 h2
section
variable (nm a4 : ByteArray) (e f mm a1 a2 a3 : Int) (p q l outs fates us o a5 a6 : List (List X)) (M j n : Nat)
def seB (j : Nat) (outs fates : List (List X)) : List Bx := [.var [strX nm, num e, .sl false 1 p, num 0, num 0, .sl true 10 [], .bs 1 0 j, .sl true 11 [], .bs 2 0 j, .sl true 10 []], .row 11 outs, .row 6 fates]
def seR (j : Nat) (outs fates : List (List X)) : St := ⟨[(0, .ptr 0 0 0), (7, .sl false 10 l), (8, nat n), (9, nat j)], seB nm e p j outs fates⟩
theorem se_round (h1 : decide (Int.ofNat j < Int.ofNat n) = true) (hj : j < 100000) (ho : j = outs.length) (hf : j = fates.length) (hg : l[j]? = some [num f, .sl false 1 q, num mm, .sl false 1 o, num a1, num a2, num a3, strX a4, .sl false 6 a5, .sl false 7 a6])
    (h70 : Gam.pureD (callF tab ext M) 66 [.agg [num e, .sl false 1 p], nat j] = some (.agg [num e, .sl false 1 us]))
    (h298 : Gam.pureD (callF tab ext M) 67 [.agg [num f, .sl false 1 q, num mm, .sl false 1 o, num a1, num a2, num a3, strX a4, .sl false 6 a5, .sl false 7 a6], .agg [num e, .sl false 1 us]] = some (.agg [num e, .sl false 1 us, num mm, .sl false 1 o, num a1, num a2, num a3, strX a4, .sl false 6 a5, .sl false 7 a6]))
    (h85 : Gam.pureD (callF tab ext M) 68 [.agg [num f, .sl false 1 q, num mm, .sl false 1 o, num a1, num a2, num a3, strX a4, .sl false 6 a5, .sl false 7 a6], strX nm, .sl false 2 [[num e, .sl false 1 us]]] = some (.agg [num f, .sl false 1 q, num 1, strX nm, .sl false 2 [[num e, .sl false 1 us]], noText])) :
    ∃ υ, run (callF tab ext M) 1 M (loopAt 30 0) (seR nm e p l n j outs fates) = some (.norm, υ) ∧ canon 1 υ = some (seR nm e p l n (j + 1) (outs ++ [[num 0, num e, .sl false 1 us, num mm, .sl false 1 o, num a1, num a2, num a3, strX a4, .sl false 6 a5, .sl false 7 a6]]) (fates ++ [[num f, .sl false 1 q, num 1, strX nm, .sl false 2 [[num e, .sl false 1 us]], noText]])) :=
  rd_of [(10, .b true), (11, .e [num f, .sl false 1 q, num mm, .sl false 1 o, num a1, num a2, num a3, strX a4, .sl false 6 a5, .sl false 7 a6]), (23, .p (.agg [num e, .sl false 1 us])), (32, .p (.agg [num e, .sl false 1 us, num mm, .sl false 1 o, num a1, num a2, num a3, strX a4, .sl false 6 a5, .sl false 7 a6])), (35, .app), (52, .p (.agg [num f, .sl false 1 q, num 1, strX nm, .sl false 2 [[num e, .sl false 1 us]], noText])), (54, .app), (58, .i (Int.ofNat (j + 1)))]
    (pf8 h1 hg h70 h298 (app_ok (acc := outs) j 1 160 ho (by omega) (by omega)) h85 (app_ok (acc := fates) j 2 96 hf (by omega) (by omega)) (next_nat (j := j) (by omega))) (by kernel_rfl)
theorem se_stop (h1 : decide (Int.ofNat j < Int.ofNat n) = false) : run (callF tab ext M) 1 M (loopAt 30 0) (seR nm e p l n j outs fates) = some (.exit 0, ⟨[(0, .ptr 0 0 0), (7, .sl false 10 l), (8, nat n), (9, nat j), (10, boolX false)], seB nm e p j outs fates⟩) :=
  run_of [(10, .b false)] [] (pf1 h1) (lo' := []) (by kernel_rfl)
theorem se_canonR : canon 1 (seR nm e p l n j outs fates) = some (seR nm e p l n j outs fates) := by kernel_rfl
theorem se_call (hl : run (callF tab ext M) 1 M (.loop (loopAt 30 0)) (seR nm e p l l.length 0 [] []) = some (.exit 0, ⟨[(0, .ptr 0 0 0), (7, .sl false 10 l), (8, nat l.length), (9, nat j), (10, boolX false)], seB nm e p j outs fates⟩)) :
    callF tab ext (M + 1) (.fn 30) [.ptr 0 0 0, .sl false 10 l] [.var [strX nm, num e, .sl false 1 p, num 0, num 0, .sl true 10 [], .sl true 11 [], .sl true 11 [], .sl true 6 [], .sl true 10 []]] = some (.tup [], seB nm e p j outs fates) :=
  callF_of [] [(.exit 0, ⟨[(0, .ptr 0 0 0), (7, .sl false 10 l), (8, nat l.length), (9, nat j), (10, boolX false)], seB nm e p j outs fates⟩)] (pf1 hl) (by kernel_rfl)
end
/-- The outputs and fates of messages that are sent on under a stamp. -/
def undS (s : Stp) (k : Nat) : Stp := ⟨s.e, s.p ++ [(k : Int)]⟩
def sentO (s : Stp) (l : List Msg) : List Otp := l.mapIdx fun k m => ⟨0, { m with st := undS s k }⟩
def sentF (nm : ByteArray) (s : Stp) (l : List Msg) : List Fte := l.mapIdx fun k m => ⟨m.st, 1, nm, [undS s k], ⟨#[]⟩⟩
theorem mapIdx_snoc {α β : Type} (f : Nat → α → β) (l : List α) (j : Nat) (h : j < l.length) : (l.take (j + 1)).mapIdx f = (l.take j).mapIdx f ++ [f j l[j]] := by
  rw [List.take_succ_eq_append_getElem h, List.mapIdx_append]
  simp [Nat.min_eq_left (Nat.le_of_lt h)]
theorem send212 (nm : ByteArray) (s : Stp) (hs : s.p.length ≤ 10000) (l : List Msg) (hl : l.length ≤ 1000) (hok : ∀ m, m ∈ l → m.ok) (N : Nat) (hN : 200000 ≤ N) :
    callF tab ext N (.fn 30) [.ptr 0 0 0, .sl false 10 (msgsC l)] [.var [strX nm, num s.e, .sl false 1 (intsC s.p), num 0, num 0, .sl true 10 [], .sl true 11 [], .sl true 11 [], .sl true 6 [], .sl true 10 []]] = some (.tup [], seB nm s.e (intsC s.p) l.length (otpsC (sentO s l)) (ftesC (sentF nm s l))) := by
  obtain ⟨M, rfl⟩ : ∃ M, N = M + 2 := ⟨N - 2, by omega⟩
  have hml := msgsC_length l
  have hsok : ∀ k : Nat, (undS s k).ok := fun k => ⟨by unfold undS; simp; omega⟩
  refine se_call nm s.e (intsC s.p) (msgsC l) (otpsC (sentO s l)) (ftesC (sentF nm s l)) (M + 1) l.length ?_
  have e0 : seR nm s.e (intsC s.p) (msgsC l) (msgsC l).length 0 [] [] = seR nm s.e (intsC s.p) (msgsC l) (msgsC l).length 0 (otpsC (sentO s (l.take 0))) (ftesC (sentF nm s (l.take 0))) := rfl
  rw [e0]
  refine (loop_for (σ := fun j => seR nm s.e (intsC s.p) (msgsC l) (msgsC l).length j (otpsC (sentO s (l.take j))) (ftesC (sentF nm s (l.take j)))) (k := l.length) (se_canonR ..) (fun j hj => ?_) ?_ (by simp) (by omega))
  · have hg := msgsC_get hj
    have hmo := hok _ (List.getElem_mem hj)
    have h70 := under_pure s ⟨by omega⟩ (Int.ofNat j) (M + 1) (by omega)
    have h298 := move298 (M + 1) l[j] hmo (undS s j) (hsok j) (by omega)
    have h85 := replaced_pure (M + 1) l[j] hmo.st nm [undS s j] (fun q hq => by rw [List.mem_singleton.1 hq]; exact hsok j) (by simp) (by simp; omega)
    have eo : otpsC (sentO s (l.take (j + 1))) = otpsC (sentO s (l.take j)) ++ [(Otp.mk 0 { l[j] with st := undS s j }).cells] := by
      unfold sentO otpsC; rw [mapIdx_snoc _ l j hj, List.map_append]; rfl
    have ef : ftesC (sentF nm s (l.take (j + 1))) = ftesC (sentF nm s (l.take j)) ++ [(Fte.mk l[j].st 1 nm [undS s j] ⟨#[]⟩).cells] := by
      unfold sentF ftesC; rw [mapIdx_snoc _ l j hj, List.map_append]; rfl
    have ho : j = (otpsC (sentO s (l.take j))).length := by rw [otpsC_length]; unfold sentO; rw [List.length_mapIdx, List.length_take]; omega
    have hf : j = (ftesC (sentF nm s (l.take j))).length := by rw [ftesC_length]; unfold sentF; rw [List.length_mapIdx, List.length_take]; omega
    show ∃ υ, _ ∧ canon 1 υ = some (seR nm s.e (intsC s.p) (msgsC l) (msgsC l).length (j + 1) (otpsC (sentO s (l.take (j + 1)))) (ftesC (sentF nm s (l.take (j + 1)))))
    rw [eo, ef]
    generalize l[j] = m at *
    obtain ⟨⟨f, q⟩, mm, o, ⟨a1, a2, a3, a4, a5, a6⟩⟩ := m
    exact se_round nm a4 s.e f mm a1 a2 a3 (intsC s.p) (intsC q) (msgsC l) _ _ (intsC (undS s j).p) (intsC o) (cellsL a5) (cellsF a6) (M + 1) j (msgsC l).length (lt_nat (by omega)) (by omega) ho hf hg h70 h298 h85
  · have := se_stop nm s.e (intsC s.p) (msgsC l) (otpsC (sentO s (l.take l.length))) (ftesC (sentF nm s (l.take l.length))) (M + 1) l.length (msgsC l).length (nlt_nat (by omega))
    rw [List.take_length] at this ⊢
    rw [hml] at this ⊢
    exact this
end Go.Proofs.YtejenmhcebfnlaaGreatDoor

/- The resequencer: the numbers of a group of the step's own; the group as slots.Get hands it over. -/
namespace Go.Proofs.YtejenmhcebfnlaaGreatDoor
open Go.Em
set_option maxRecDepth 100000

def slR (x1 x2 x3 xn xt : Int) (x4 : ByteArray) (x5 x6 : List (List X)) (k k2 : Nat) : List X := [num x1, num x2, num x3, strX x4, .sl false 6 x5, .sl false 7 x6, num xn, num xt, .bs 0 0 k, .bs 1 0 k2]
/-- A group: key, next number, deadline, messages, their numbers. -/
def grpS (g n t : Int) (ms : List Msg) (L : List Int) : Slt := ⟨kv g, n, t, ms, L.map kv⟩
theorem numsV_kv (L : List Int) : numsV (L.map kv) = L := by
  unfold numsV
  rw [List.map_map]
  exact (List.map_congr_left (fun _ _ => rfl)).trans (List.map_id L)
theorem kvs_get {L : List Int} {j : Nat} (h : j < L.length) : (cellsL (L.map kv))[j]? = some [num 2, num L[j], num 0, strX ⟨#[]⟩, .sl false 6 [], .sl false 7 []] := by
  rw [cellsL_get (by simpa using h)]
  simp [kv, Val.cells, cellsL, cellsF]
section
variable (ms vs acc : List (List X)) (n j : Nat) (y : Int) (M : Nat)
def nrH : St := ⟨[(3, .bs 2 0 j), (7, .bs 1 0 n), (8, nat n), (9, nat j)], [.row 10 ms, .row 6 vs, .row 1 acc]⟩
def nrE : St := ⟨[(3, .bs 2 0 j), (7, .bs 1 0 n), (8, nat n), (9, nat j), (10, boolX false)], [.row 10 ms, .row 6 vs, .row 1 acc]⟩
theorem nr_round (h : j < n) (hn : n < 100000) (ha : j = acc.length) (hy : vs[0 + j]? = some [num 2, num y, num 0, strX ⟨#[]⟩, .sl false 6 [], .sl false 7 []]) :
    ∃ υ, run (callF tab ext M) 2 M (loopAt 24 0) (nrH ms vs acc n j) = some (.norm, υ) ∧ canon 2 υ = some (nrH ms vs (acc ++ [[num y]]) n (j + 1)) :=
  rd_of [(10, .b true), (11, .at), (12, .ld [num 2, num y, num 0, strX ⟨#[]⟩, .sl false 6 [], .sl false 7 []]), (17, .app), (18, .i (Int.ofNat (j + 1)))] (pf5 (lt_nat h) h hy (app_ok (acc := acc) j 2 8 ha (by omega) (by omega)) (next_nat (j := j) (by omega))) (by kernel_rfl)
theorem nr_end : run (callF tab ext M) 2 M (loopAt 24 0) (nrH ms vs acc n n) = some (.exit 0, nrE ms vs acc n n) :=
  run_of [(10, .b false)] [] (pf1 (nlt_nat (Nat.lt_irrefl n))) (lo' := []) (by kernel_rfl)
theorem nr_canon0 (g xn xt : Int) (k : Nat) : canon 2 ⟨[(3, .bs 3 0 0), (7, .bs 1 0 n), (8, nat n), (9, num 0)], [.row 10 ms, .row 6 vs, .var (slR 2 g 0 xn xt ⟨#[]⟩ [] [] k n), .row 1 []]⟩ = some (nrH ms vs [] n 0) := by kernel_rfl
theorem nr_call (g xn xt : Int) (k : Nat) (hl : run (callF tab ext M) 2 M (.loop (loopAt 24 0)) ⟨[(3, .bs 3 0 0), (7, .bs 1 0 n), (8, nat n), (9, num 0)], [.row 10 ms, .row 6 vs, .var (slR 2 g 0 xn xt ⟨#[]⟩ [] [] k n), .row 1 []]⟩ = some (.exit 0, nrE ms vs acc n n)) :
    callF tab ext (M + 1) (.fn 24) [.agg (slR 2 g 0 xn xt ⟨#[]⟩ [] [] k n)] [.row 10 ms, .row 6 vs] = some (.bs 2 0 n, [.row 10 ms, .row 6 vs, .row 1 acc]) :=
  callF_of [] [(.exit 0, nrE ms vs acc n n)] (pf1 hl) (by kernel_rfl)
end
theorem numbers_ref (g xn xt : Int) (k : Nat) (ms : List (List X)) (L : List Int) (hL : L.length ≤ 1000) (N : Nat) (hN : 2000 ≤ N) :
    callF tab ext N (.fn 24) [.agg (slR 2 g 0 xn xt ⟨#[]⟩ [] [] k L.length)] [.row 10 ms, .row 6 (cellsL (L.map kv))] = some (.bs 2 0 L.length, [.row 10 ms, .row 6 (cellsL (L.map kv)), .row 1 (intsC L)]) := by
  obtain ⟨M, rfl⟩ : ∃ M, N = M + 1 := ⟨N - 1, by omega⟩
  refine nr_call ms _ _ L.length M g xn xt k (loop_for (σ := fun j => nrH ms (cellsL (L.map kv)) (intsC (L.take j)) L.length j) (k := L.length) (nr_canon0 ms _ L.length g xn xt k) (fun j hj => ?_) ?_ (by simp) (by omega))
  · have hg := kvs_get hj
    have e : intsC (L.take (j + 1)) = intsC (L.take j) ++ [[num L[j]]] := by
      unfold intsC; rw [List.take_succ_eq_append_getElem hj, List.map_append]; rfl
    have ha : j = (intsC (L.take j)).length := by rw [intsC_len, List.length_take]; omega
    show ∃ υ, _ ∧ canon 2 υ = some (nrH ms (cellsL (L.map kv)) (intsC (L.take (j + 1))) L.length (j + 1))
    rw [e]
    exact nr_round ms _ _ L.length j L[j] M hj (by omega) ha (by rw [Nat.zero_add]; exact hg)
  · have := nr_end ms (cellsL (L.map kv)) (intsC (L.take L.length)) L.length M
    rw [List.take_length] at this ⊢
    exact this

/-- slots.Get, as it hands the group's rows over. -/
def getX (b : Bool) (x : Slt) : X × List Bx := if b then (.tup [.agg (x.key.cells ++ [num x.n, num x.t, .bs 0 0 (msgsC x.items).length, .bs 1 0 (cellsL x.vals).length]), boolX true], [.row 10 (msgsC x.items), .row 6 (cellsL x.vals)])
  else (.tup [.agg [num 0, num 0, num 0, strX ⟨#[]⟩, .sl true 6 [], .sl true 7 [], num 0, num 0, .sl true 10 [], .sl true 6 []], boolX false], [])
theorem get_ex3 (s : Stt) (hs : s.small) (key : Val) : ∃ (i : Nat) (b : Bool) (x : Slt), i ≤ s.slots.length ∧ (b = true → ∃ h : i < s.slots.length, cmpV s.slots[i].key key = 0 ∧ x = s.slots[i]) ∧ (b = false → Spot s.slots key i ∧ ∀ h : i < s.slots.length, ¬ cmpV s.slots[i].key key = 0) ∧ (∀ N, 190050 ≤ N → callF tab ext N (.fn 18) [.agg s.cells, .agg key.cells] [] = some (getX b x)) ∧ ∀ N, 190040 ≤ N → Gam.pureD (callF tab ext N) 42 [.agg s.cells, .agg key.cells] = some (.tup [nat i, boolX b]) := by
  obtain ⟨i, b, hi, h1, h2, hf⟩ := find_ex2 s hs key
  have hf0 := hf
  have hok := hs.ok.slot
  obtain ⟨a, c, ss⟩ := s
  obtain ⟨k1, k2, k3, k4, k5, k6⟩ := key
  dsimp only at hi h1 h2 hok
  cases b with
  | false =>
    refine ⟨i, false, dSlt, hi, fun h => (by cases h), fun _ => h2 rfl, fun N hN => ?_, hf0⟩
    obtain ⟨M, rfl⟩ : ∃ M, N = M + 1 := ⟨N - 1, by omega⟩
    have hf := hf M (by omega)
    exact callF_of [(11, .p (.tup [nat i, boolX false]))] [] (pf1 hf) (by kernel_rfl)
  | true =>
    obtain ⟨hlt, hc⟩ := h1 rfl
    refine ⟨i, true, ss[i], hi, fun _ => ⟨hlt, hc, rfl⟩, fun h => (by cases h), fun N hN => ?_, hf0⟩
    obtain ⟨M, rfl⟩ : ∃ M, N = M + 1 := ⟨N - 1, by omega⟩
    have hf := hf M (by omega)
    have hg := sltsC_get hlt
    have hxo := hok _ (List.getElem_mem hlt)
    generalize ss[i] = x at hg hxo ⊢
    obtain ⟨⟨x1, x2, x3, x4, x5, x6⟩, n, t, ms, vs⟩ := x
    have hcl : callF tab ext M (.fn 33) [.agg (Slt.mk ⟨x1, x2, x3, x4, x5, x6⟩ n t ms vs).cells] [] = some (.agg [num x1, num x2, num x3, strX x4, .sl false 6 (cellsL x5), .sl false 7 (cellsF x6), num n, num t, .bs 0 0 (msgsC ms).length, .bs 1 0 (cellsL vs).length], [.row 10 (msgsC ms), .row 6 (cellsL vs)]) := clone_slot M _ hxo (by omega)
    exact callF_of [(11, .p (.tup [nat i, boolX true])), (20, .e (Slt.mk ⟨x1, x2, x3, x4, x5, x6⟩ n t ms vs).cells), (22, .o (.agg [num x1, num x2, num x3, strX x4, .sl false 6 (cellsL x5), .sl false 7 (cellsF x6), num n, num t, .bs 0 0 (msgsC ms).length, .bs 1 0 (cellsL vs).length]) [.row 10 (msgsC ms), .row 6 (cellsL vs)])] [] (pf3 hf hg hcl) (by kernel_rfl)
end Go.Proofs.YtejenmhcebfnlaaGreatDoor

/- The resequencer: receive, a message that is held. -/
namespace Go.Proofs.YtejenmhcebfnlaaGreatDoor
open Go.Em
set_option maxRecDepth 100000

theorem pfJ {a b c d e f g : Prop} {l : List Prop} (h1 : a) (h2 : b) (h3 : c) (h4 : d) (h5 : e) (h6 : f) (h7 : g) (h : allP l) : allP (a :: b :: c :: d :: e :: f :: g :: l) := ⟨h1, h2, h3, h4, h5, h6, h7, h⟩
theorem data_agg {bx : List Bx} {cs ds : List X} (h : dataL bx false cs = some ds) : (X.agg cs).data bx false = some (.agg ds) := by simp [X.data, h]
theorem data_bs {bx : List Bx} {i n sz : Nat} {es : List (List X)} (h : bx[i]? = some (.row sz es)) (hn : n = es.length) : (X.bs i 0 n).data bx false = some (.sl false sz es) := by
  subst hn; simp [X.data, rowOf, h]
theorem dataL_cons {bx : List Bx} {x y : X} {r q : List X} (h : x.data bx false = some y) (h2 : dataL bx false r = some q) : dataL bx false (x :: r) = some (y :: q) := by simp [dataL, h, h2]
section
variable (t l a b e g n xn xt : Int) (ss ms vs : List (List X))
def oc0 : Bx := .var [num 0, num 0, .sl true 10 [], .sl true 11 [], .sl true 11 [], .sl true 6 [], .sl true 10 []]
def rcB (r : List Bx) : List Bx := [.var (nodR t l).cells, .var [num a, num b, .sl false 10 ss], .var (msgR e g n).cells, oc0, .var (kv g).cells] ++ r
theorem data_node (bx : List Bx) : (X.agg (nodR t l).cells).data bx false = some (.agg (nodR t l).cells) := by kernel_rfl
theorem data_slR {bx : List Bx} {i j k k2 : Nat} (h1 : bx[i]? = some (.row 10 ms)) (hk : k = ms.length) (h2 : bx[j]? = some (.row 6 vs)) (hk2 : k2 = vs.length) :
    (X.agg [num 2, num g, num 0, noText, .sl false 6 [], .sl false 7 [], num xn, num xt, .bs i 0 k, .bs j 0 k2]).data bx false = some (.agg (slC 2 g 0 xn xt ⟨#[]⟩ [] [] ms vs)) :=
  data_agg (dataL_cons rfl (dataL_cons rfl (dataL_cons rfl (dataL_cons rfl (dataL_cons rfl (dataL_cons rfl (dataL_cons rfl (dataL_cons rfl (dataL_cons (data_bs h1 hk) (dataL_cons (data_bs h2 hk2) rfl))))))))))
theorem data_ref (kn : Bool) : dataL (rcB t l a b e g n ss [.row 10 ms, .row 6 vs, .var [num 2, num g, num 0, noText, .sl false 6 [], .sl false 7 [], num xn, num xt, .bs 5 0 ms.length, .bs 6 0 vs.length]]) false [.agg (nodR t l).cells, .agg [num a, num b, .sl false 10 ss], .agg [num 2, num g, num 0, noText, .sl false 6 [], .sl false 7 [], num xn, num xt, .bs 5 0 ms.length, .bs 6 0 vs.length], boolX kn, num n] =
    some [.agg (nodR t l).cells, .agg [num a, num b, .sl false 10 ss], .agg (slC 2 g 0 xn xt ⟨#[]⟩ [] [] ms vs), boolX kn, num n] :=
  dataL_cons (data_node t l _) (dataL_cons rfl (dataL_cons (data_slR g xn xt ms vs rfl rfl rfl rfl) (dataL_cons rfl (dataL_cons rfl rfl))))
end
section
variable (N i : Nat) (t l now e g n a b xn xt dl : Int) (ms vs ss nums m2 v2 sp : List (List X)) (fo : Bool)
theorem rcv_hold (h204 : Gam.pureD (callF tab ext N) 20 [.agg (nodR t l).cells, .agg (msgR e g n).cells] = some (.tup [.agg (kv g).cells, num n, noText]))
    (h102 : callF tab ext N (.fn 18) [.agg [num a, num b, .sl false 10 ss], .agg (kv g).cells] [] = some (.tup [.agg (slR 2 g 0 xn xt ⟨#[]⟩ [] [] ms.length vs.length), boolX true], [.row 10 ms, .row 6 vs]))
    (h206 : Gam.pureD (callF tab ext N) 22 [.agg (nodR t l).cells, .agg [num a, num b, .sl false 10 ss], .agg (slC 2 g 0 xn xt ⟨#[]⟩ [] [] ms vs), boolX true, num n] = some (strX emptyT)) (h1 : decide (n > xn) = true)
    (h150 : callF tab ext N (.fn 24) [.agg (slR 2 g 0 xn xt ⟨#[]⟩ [] [] ms.length vs.length)] [.row 10 ms, .row 6 vs] = some (.bs 2 0 vs.length, [.row 10 ms, .row 6 vs, .row 1 nums])) (hnl : vs.length = nums.length)
    (h207 : Gam.pureD (callF tab ext N) 23 [.sl false 1 nums, num n] = some (.tup [nat i, boolX fo])) (h98 : Gam.pureD (callF tab ext N) 26 [.agg (msgR e g n).cells] = some (.agg (msgR e g n).cells))
    (h208 : callF tab ext N (.fn 25) [.bs 0 0 ms.length, nat i, .sl true 10 [(msgR e g n).cells]] [.row 10 ms] = some (.bs 1 0 (ms.length + 1), [.dead, .row 10 m2])) (h58 : Gam.pureD (callF tab ext N) 11 [num n] = some (.agg (kv n).cells))
    (h209 : callF tab ext N (.fn 27) [.bs 0 0 vs.length, nat i, .sl true 6 [(kv n).cells]] [.row 6 vs] = some (.bs 1 0 (vs.length + 1), [.dead, .row 6 v2])) (hm2 : m2.length = ms.length + 1) (hv2 : v2.length = vs.length + 1)
    (h126 : Gam.pureD (callF tab ext N) 31 [.agg [num a, num b, .sl false 10 ss], .agg (slC 2 g 0 xn (if ms.length = 0 then dl else xt) ⟨#[]⟩ [] [] m2 v2)] = some (.tup [.agg [num a, num b, .sl false 10 sp], num 0]))
    (h210 : Gam.pureD (callF tab ext N) 28 [.agg (nodR t l).cells, .agg (slC 2 g 0 xn xt ⟨#[]⟩ [] [] m2 v2), num now] = some (num dl)) :
    Gam.pureD (callF tab ext (N + 1)) 13 [.agg (nodR t l).cells, .agg [num a, num b, .sl false 10 ss], num now, .agg (msgR e g n).cells] = some (.agg [num a, num b, .sl false 10 sp, .sl false 11 [], .sl false 11 [], .sl false 6 [], .sl false 10 []]) := by
  have hd51 := And.intro (data_ref t l a b e g n xn xt ss ms vs true) h206
  have hd67 : dataL (rcB t l a b e g n ss [.row 10 ms, .row 6 vs, .var [num 2, num g, num 0, noText, .sl false 6 [], .sl false 7 [], num xn, num xt, .bs 5 0 ms.length, .bs 6 0 vs.length], oc0, .row 1 nums]) false [.bs 9 0 vs.length, num n] = some [.sl false 1 nums, num n] ∧ _ := And.intro (dataL_cons (data_bs rfl hnl) (dataL_cons rfl rfl)) h207
  have g1 : 0 + (ms.length + 1) ≤ m2.length := by omega
  have g2 : 0 + (vs.length + 1) ≤ v2.length := by omega
  have em : (m2.drop 0).take (ms.length + 1) = m2 := by rw [List.drop_zero, List.take_of_length_le (by omega)]
  have ev : (v2.drop 0).take (vs.length + 1) = v2 := by rw [List.drop_zero, List.take_of_length_le (by omega)]
  rw [← em, ← ev] at h126
  by_cases h0 : ms.length = 0
  · rw [if_pos h0] at h126
    have h2 : (Int.ofNat (ms.length + 1) == 1) = true := by rw [h0]; rfl
    have hd93 : dataL (rcB t l a b e g n ss [.dead, .dead, .var [num 2, num g, num 0, noText, .sl false 6 [], .sl false 7 [], num xn, num xt, .bs 10 0 (ms.length + 1), .bs 11 0 (vs.length + 1)], oc0, .row 1 nums, .row 10 m2, .row 6 v2]) false [.agg (nodR t l).cells, .agg [num 2, num g, num 0, noText, .sl false 6 [], .sl false 7 [], num xn, num xt, .bs 10 0 (ms.length + 1), .bs 11 0 (vs.length + 1)], num now] = some [.agg (nodR t l).cells, .agg (slC 2 g 0 xn xt ⟨#[]⟩ [] [] m2 v2), num now] ∧ _ := And.intro (dataL_cons (data_node t l _) (dataL_cons (data_slR g xn xt m2 v2 rfl hm2.symm rfl hv2.symm) (dataL_cons rfl rfl))) h210
    exact pure_of [(25, .p (.tup [.agg (kv g).cells, num n, noText])), (39, .o (.tup [.agg (slR 2 g 0 xn xt ⟨#[]⟩ [] [] ms.length vs.length), boolX true]) [.row 10 ms, .row 6 vs]), (51, .d [.agg (nodR t l).cells, .agg [num a, num b, .sl false 10 ss], .agg (slC 2 g 0 xn xt ⟨#[]⟩ [] [] ms vs), boolX true, num n] (strX emptyT)), (62, .b true), (65, .r (.bs 2 0 vs.length) [.row 10 ms, .row 6 vs, .row 1 nums]), (67, .d [.sl false 1 nums, num n] (.tup [nat i, boolX fo])), (74, .p (.agg (msgR e g n).cells)), (76, .r (.bs 1 0 (ms.length + 1)) [.dead, .row 10 m2]), (81, .p (.agg (kv n).cells)), (83, .r (.bs 1 0 (vs.length + 1)) [.dead, .row 6 v2]), (89, .b true), (93, .d [.agg (nodR t l).cells, .agg (slC 2 g 0 xn xt ⟨#[]⟩ [] [] m2 v2), num now] (num dl)), (130, .p (.tup [.agg [num a, num b, .sl false 10 sp], num 0]))] []
      (pfJ h204 h102 hd51 h1 h150 hd67 h98 (pf8 h208 h58 h209 h2 hd93 g1 g2 h126)) (x := .agg [num a, num b, .sl false 10 sp, .sl true 11 [], .sl true 11 [], .sl true 6 [], .sl true 10 []]) (bx := []) (by kernel_rfl) rfl
  · rw [if_neg h0] at h126
    have h2 : (Int.ofNat (ms.length + 1) == 1) = false := by simp only [Int.ofNat_eq_natCast, beq_eq_false_iff_ne, ne_eq]; omega
    exact pure_of [(25, .p (.tup [.agg (kv g).cells, num n, noText])), (39, .o (.tup [.agg (slR 2 g 0 xn xt ⟨#[]⟩ [] [] ms.length vs.length), boolX true]) [.row 10 ms, .row 6 vs]), (51, .d [.agg (nodR t l).cells, .agg [num a, num b, .sl false 10 ss], .agg (slC 2 g 0 xn xt ⟨#[]⟩ [] [] ms vs), boolX true, num n] (strX emptyT)), (62, .b true), (65, .r (.bs 2 0 vs.length) [.row 10 ms, .row 6 vs, .row 1 nums]), (67, .d [.sl false 1 nums, num n] (.tup [nat i, boolX fo])), (74, .p (.agg (msgR e g n).cells)), (76, .r (.bs 1 0 (ms.length + 1)) [.dead, .row 10 m2]), (81, .p (.agg (kv n).cells)), (83, .r (.bs 1 0 (vs.length + 1)) [.dead, .row 6 v2]), (89, .b false), (130, .p (.tup [.agg [num a, num b, .sl false 10 sp], num 0]))] []
      (pfJ h204 h102 hd51 h1 h150 hd67 h98 (pf7 h208 h58 h209 h2 g1 g2 h126)) (x := .agg [num a, num b, .sl false 10 sp, .sl true 11 [], .sl true 11 [], .sl true 6 [], .sl true 10 []]) (bx := []) (by kernel_rfl) rfl
end
end Go.Proofs.YtejenmhcebfnlaaGreatDoor

/- The resequencer: receive, a message that is sent on, and those that follow it. -/
namespace Go.Proofs.YtejenmhcebfnlaaGreatDoor
open Go.Em
set_option maxRecDepth 100000

def ordT : ByteArray := ⟨#[111, 114, 100, 101, 114]⟩
section
variable (N : Nat) (t l now e g n n2 a b xn xt dl : Int) (ms vs ss m2 v2 sp acc outs fates : List (List X)) (r : Nat)
  (h204 : Gam.pureD (callF tab ext N) 20 [.agg (nodR t l).cells, .agg (msgR e g n).cells] = some (.tup [.agg (kv g).cells, num n, noText]))
  (h102 : callF tab ext N (.fn 18) [.agg [num a, num b, .sl false 10 ss], .agg (kv g).cells] [] = some (.tup [.agg (slR 2 g 0 xn xt ⟨#[]⟩ [] [] ms.length vs.length), boolX true], [.row 10 ms, .row 6 vs]))
  (h206 : Gam.pureD (callF tab ext N) 22 [.agg (nodR t l).cells, .agg [num a, num b, .sl false 10 ss], .agg (slC 2 g 0 xn xt ⟨#[]⟩ [] [] ms vs), boolX true, num n] = some (strX emptyT)) (h1 : decide (n > xn) = false)
  (h211 : callF tab ext N (.fn 29) [.ptr 0 0 0, num (IntKind.i64.wrap (n + 1))] [.var (slC 2 g 0 xn xt ⟨#[]⟩ [] [] ms vs)] = some (.sl false 10 acc, [.var (slC 2 g 0 n2 xt ⟨#[]⟩ [] [] m2 v2)]))
  (hrm : roomOk ([(msgR e g n).cells].length + acc.length) 152 = true)
  (h210 : Gam.pureD (callF tab ext N) 28 [.agg (nodR t l).cells, .agg (slC 2 g 0 n2 xt ⟨#[]⟩ [] [] m2 v2), num now] = some (num dl))
  (h126 : Gam.pureD (callF tab ext N) 31 [.agg [num a, num b, .sl false 10 ss], .agg (slC 2 g 0 n2 dl ⟨#[]⟩ [] [] m2 v2)] = some (.tup [.agg [num a, num b, .sl false 10 sp], num 0]))
include h204 h102 h206 h1 h211 hrm h210 h126
theorem rcv_one (h98 : Gam.pureD (callF tab ext N) 26 [.agg (msgR e g n).cells] = some (.agg (msgR e g n).cells)) (h108 : (Int.ofNat ([(msgR e g n).cells] ++ acc).length == 1) = true) :
    Gam.pureD (callF tab ext (N + 1)) 13 [.agg (nodR t l).cells, .agg [num a, num b, .sl false 10 ss], num now, .agg (msgR e g n).cells] = some (.agg [num a, num b, .sl false 10 sp, .sl false 11 [num 0 :: (msgR e g n).cells], .sl false 11 [], .sl false 6 [], .sl false 10 []]) := by
  have hd51 := And.intro (data_ref t l a b e g n xn xt ss ms vs true) h206
  have g1 : 0 + ms.length ≤ ms.length := by omega
  have g2 : 0 + vs.length ≤ vs.length := by omega
  have em : (ms.drop 0).take ms.length = ms := by rw [List.drop_zero, List.take_length]
  have ev : (vs.drop 0).take vs.length = vs := by rw [List.drop_zero, List.take_length]
  have h211' : callF tab ext N (.fn 29) [.ptr 0 0 0, num (IntKind.i64.wrap (n + 1))] [.var (slC 2 g 0 xn xt ⟨#[]⟩ [] [] ((ms.drop 0).take ms.length) ((vs.drop 0).take vs.length))] = some (.sl false 10 acc, [.var (slC 2 g 0 n2 xt ⟨#[]⟩ [] [] m2 v2)]) := by rw [em, ev]; exact h211
  exact pure_of [(25, .p (.tup [.agg (kv g).cells, num n, noText])), (39, .o (.tup [.agg (slR 2 g 0 xn xt ⟨#[]⟩ [] [] ms.length vs.length), boolX true]) [.row 10 ms, .row 6 vs]), (51, .d [.agg (nodR t l).cells, .agg [num a, num b, .sl false 10 ss], .agg (slC 2 g 0 xn xt ⟨#[]⟩ [] [] ms vs), boolX true, num n] (strX emptyT)), (62, .b false), (99, .r (.sl false 10 acc) [.var (slC 2 g 0 n2 xt ⟨#[]⟩ [] [] m2 v2)]), (100, .fresh), (104, .p (num dl)), (108, .b true), (110, .p (.agg (msgR e g n).cells)), (130, .p (.tup [.agg [num a, num b, .sl false 10 sp], num 0]))] []
    (pfJ h204 h102 hd51 h1 g1 g2 h211' (pf5 hrm h210 h108 h98 h126)) (x := .agg [num a, num b, .sl false 10 sp, .sl true 11 [num 0 :: (msgR e g n).cells], .sl true 11 [], .sl true 6 [], .sl true 10 []]) (bx := []) (by kernel_rfl) rfl
theorem rcv_more (h108 : (Int.ofNat ([(msgR e g n).cells] ++ acc).length == 1) = false) (hr : outs.length = r) (hr2 : fates.length = r)
    (h212 : callF tab ext N (.fn 30) [.ptr 0 0 0, .sl false 10 ([(msgR e g n).cells] ++ acc)] [.var [strX ordT, num e, .sl false 1 [[num 1]], num 0, num 0, .sl true 10 [], .sl true 11 [], .sl true 11 [], .sl true 6 [], .sl true 10 []]] = some (.tup [], seB ordT e [[num 1]] r outs fates)) :
    Gam.pureD (callF tab ext (N + 1)) 13 [.agg (nodR t l).cells, .agg [num a, num b, .sl false 10 ss], num now, .agg (msgR e g n).cells] = some (.agg [num a, num b, .sl false 10 sp, .sl false 11 outs, .sl false 11 [], .sl false 6 fates, .sl false 10 []]) := by
  have hd51 := And.intro (data_ref t l a b e g n xn xt ss ms vs true) h206
  have g1 : 0 + ms.length ≤ ms.length := by omega
  have g2 : 0 + vs.length ≤ vs.length := by omega
  have em : (ms.drop 0).take ms.length = ms := by rw [List.drop_zero, List.take_length]
  have ev : (vs.drop 0).take vs.length = vs := by rw [List.drop_zero, List.take_length]
  have h211' : callF tab ext N (.fn 29) [.ptr 0 0 0, num (IntKind.i64.wrap (n + 1))] [.var (slC 2 g 0 xn xt ⟨#[]⟩ [] [] ((ms.drop 0).take ms.length) ((vs.drop 0).take vs.length))] = some (.sl false 10 acc, [.var (slC 2 g 0 n2 xt ⟨#[]⟩ [] [] m2 v2)]) := by rw [em, ev]; exact h211
  exact pure_of [(25, .p (.tup [.agg (kv g).cells, num n, noText])), (39, .o (.tup [.agg (slR 2 g 0 xn xt ⟨#[]⟩ [] [] ms.length vs.length), boolX true]) [.row 10 ms, .row 6 vs]), (51, .d [.agg (nodR t l).cells, .agg [num a, num b, .sl false 10 ss], .agg (slC 2 g 0 xn xt ⟨#[]⟩ [] [] ms vs), boolX true, num n] (strX emptyT)), (62, .b false), (99, .r (.sl false 10 acc) [.var (slC 2 g 0 n2 xt ⟨#[]⟩ [] [] m2 v2)]), (100, .fresh), (104, .p (num dl)), (108, .b false), (122, .r (.tup []) (seB ordT e [[num 1]] r outs fates)), (130, .p (.tup [.agg [num a, num b, .sl false 10 sp], num 0]))] []
    (pfJ h204 h102 hd51 h1 g1 g2 h211' (pf5 hrm h210 h108 h212 h126)) (x := .agg [num a, num b, .sl false 10 sp, .bs 0 0 r, .sl true 11 [], .bs 1 0 r, .sl true 10 []]) (bx := [.row 11 outs, .row 6 fates]) (by kernel_rfl)
    (data_agg (dataL_cons rfl (dataL_cons rfl (dataL_cons rfl (dataL_cons (data_bs rfl hr.symm) (dataL_cons rfl (dataL_cons (data_bs rfl hr2.symm) (dataL_cons rfl rfl))))))))
end
end Go.Proofs.YtejenmhcebfnlaaGreatDoor

/- The resequencer: receive at a group that is not known yet, and the step. -/
namespace Go.Proofs.YtejenmhcebfnlaaGreatDoor
open Go.Em
set_option maxRecDepth 100000

def nilS (g n : Int) : List X := [num 2, num g, num 0, noText, .sl false 6 [], .sl false 7 [], num n, num 0, .sl true 10 [], .sl true 6 []]
def zerS : List X := [num 0, num 0, num 0, noText, .sl true 6 [], .sl true 7 [], num 0, num 0, .sl true 10 [], .sl true 6 []]
theorem rel_nil (N : Nat) (g : Int) : callF tab ext (N + 60) (.fn 29) [.ptr 0 0 0, num 2] [.var (nilS g 1)] = some (.sl false 10 [], [.var (slC 2 g 0 2 0 ⟨#[]⟩ [] [] [] [])]) := by kernel_rfl
theorem num_nil (N : Nat) (g : Int) : callF tab ext (N + 60) (.fn 24) [.agg (nilS g 1)] [] = some (.bs 0 0 0, [.row 1 []]) := by kernel_rfl
theorem bin_nil (N : Nat) (n : Int) : Gam.pureD (callF tab ext (N + 60)) 23 [.sl false 1 [], num n] = some (.tup [num 0, boolX false]) := by kernel_rfl
theorem insM_nil (N : Nat) (e g n : Int) : callF tab ext (N + 60) (.fn 25) [.bs 0 0 0, num 0, .sl true 10 [(msgR e g n).cells]] [.row 10 []] = some (.bs 1 0 1, [.dead, .row 10 [(msgR e g n).cells]]) := by kernel_rfl
theorem insV_nil (N : Nat) (n : Int) : callF tab ext (N + 60) (.fn 27) [.bs 0 0 0, num 0, .sl true 6 [(kv n).cells]] [.row 6 []] = some (.bs 1 0 1, [.dead, .row 6 [(kv n).cells]]) := by kernel_rfl
theorem int58 (N : Nat) (n : Int) : Gam.pureD (callF tab ext (N + 60)) 11 [num n] = some (.agg (kv n).cells) := by kernel_rfl
theorem clone98 (N : Nat) (e g n : Int) : Gam.pureD (callF tab ext (N + 300)) 26 [.agg (msgR e g n).cells] = some (.agg (msgR e g n).cells) := by kernel_rfl
section
variable (N : Nat) (t l now e g n a b dl : Int) (ss sp : List (List X))
  (h204 : Gam.pureD (callF tab ext N) 20 [.agg (nodR t l).cells, .agg (msgR e g n).cells] = some (.tup [.agg (kv g).cells, num n, noText]))
  (h102 : callF tab ext N (.fn 18) [.agg [num a, num b, .sl false 10 ss], .agg (kv g).cells] [] = some (.tup [.agg zerS, boolX false], []))
  (h206 : Gam.pureD (callF tab ext N) 22 [.agg (nodR t l).cells, .agg [num a, num b, .sl false 10 ss], .agg (slC 2 g 0 1 0 ⟨#[]⟩ [] [] [] []), boolX false, num n] = some (strX emptyT))
include h204 h102 h206
theorem rcv_new_one (hN : 300 ≤ N) (hn : n = 1) (h210 : Gam.pureD (callF tab ext N) 28 [.agg (nodR t l).cells, .agg (slC 2 g 0 2 0 ⟨#[]⟩ [] [] [] []), num now] = some (num dl))
    (h126 : Gam.pureD (callF tab ext N) 31 [.agg [num a, num b, .sl false 10 ss], .agg (slC 2 g 0 2 dl ⟨#[]⟩ [] [] [] [])] = some (.tup [.agg [num a, num b, .sl false 10 sp], num 0])) :
    Gam.pureD (callF tab ext (N + 1)) 13 [.agg (nodR t l).cells, .agg [num a, num b, .sl false 10 ss], num now, .agg (msgR e g n).cells] = some (.agg [num a, num b, .sl false 10 sp, .sl false 11 [num 0 :: (msgR e g n).cells], .sl false 11 [], .sl false 6 [], .sl false 10 []]) := by
  obtain ⟨M, rfl⟩ : ∃ M, N = M + 300 := ⟨N - 300, by omega⟩
  have h1 : decide (n > 1) = false := decide_eq_false (by omega)
  have h211 := rel_nil (M + 240) g
  have h98 := clone98 M e g n
  have hw : IntKind.i64.wrap (n + 1) = 2 := by subst hn; rfl
  exact pure_of [(25, .p (.tup [.agg (kv g).cells, num n, noText])), (39, .o (.tup [.agg zerS, boolX false]) []), (51, .p (strX emptyT)), (62, .b false), (98, .i 2), (99, .r (.sl false 10 []) [.var (slC 2 g 0 2 0 ⟨#[]⟩ [] [] [] [])]), (104, .p (num dl)), (110, .p (.agg (msgR e g n).cells)), (130, .p (.tup [.agg [num a, num b, .sl false 10 sp], num 0]))] []
    (pf9 h204 h102 h206 h1 hw h211 h210 h98 h126) (x := .agg [num a, num b, .sl false 10 sp, .sl true 11 [num 0 :: (msgR e g n).cells], .sl true 11 [], .sl true 6 [], .sl true 10 []]) (bx := []) (by kernel_rfl) rfl
theorem rcv_new_hold (hN : 300 ≤ N) (hn : 1 < n) (h210 : Gam.pureD (callF tab ext N) 28 [.agg (nodR t l).cells, .agg (slC 2 g 0 1 0 ⟨#[]⟩ [] [] [(msgR e g n).cells] [(kv n).cells]), num now] = some (num dl))
    (h126 : Gam.pureD (callF tab ext N) 31 [.agg [num a, num b, .sl false 10 ss], .agg (slC 2 g 0 1 dl ⟨#[]⟩ [] [] [(msgR e g n).cells] [(kv n).cells])] = some (.tup [.agg [num a, num b, .sl false 10 sp], num 0])) :
    Gam.pureD (callF tab ext (N + 1)) 13 [.agg (nodR t l).cells, .agg [num a, num b, .sl false 10 ss], num now, .agg (msgR e g n).cells] = some (.agg [num a, num b, .sl false 10 sp, .sl false 11 [], .sl false 11 [], .sl false 6 [], .sl false 10 []]) := by
  obtain ⟨M, rfl⟩ : ∃ M, N = M + 300 := ⟨N - 300, by omega⟩
  have h1 : decide (n > 1) = true := decide_eq_true hn
  have h150 := num_nil (M + 240) g
  have h207 := bin_nil (M + 240) n
  have h98 := clone98 M e g n
  have h208 := insM_nil (M + 240) e g n
  have h58 := int58 (M + 240) n
  have h209 := insV_nil (M + 240) n
  have g1 : 0 + 1 ≤ [(msgR e g n).cells].length := Nat.le_refl 1
  have g2 : 0 + 1 ≤ [(kv n).cells].length := Nat.le_refl 1
  exact pure_of [(25, .p (.tup [.agg (kv g).cells, num n, noText])), (39, .o (.tup [.agg zerS, boolX false]) []), (51, .p (strX emptyT)), (62, .b true), (65, .r (.bs 0 0 0) [.row 1 []]), (67, .p (.tup [num 0, boolX false])), (74, .p (.agg (msgR e g n).cells)), (76, .r (.bs 1 0 1) [.dead, .row 10 [(msgR e g n).cells]]), (81, .p (.agg (kv n).cells)), (83, .r (.bs 1 0 1) [.dead, .row 6 [(kv n).cells]]), (93, .p (num dl)), (130, .p (.tup [.agg [num a, num b, .sl false 10 sp], num 0]))] []
    (pfJ h204 h102 h206 h1 h150 h207 h98 (pf7 h208 h58 h209 h210 g1 g2 h126)) (x := .agg [num a, num b, .sl false 10 sp, .sl true 11 [], .sl true 11 [], .sl true 6 [], .sl true 10 []]) (bx := []) (by kernel_rfl) rfl
end
theorem step52 (N : Nat) (t l e g n now : Int) (s : List X) (o : List X) (h : Gam.pureD (callF tab ext N) 13 [.agg (nodR t l).cells, .agg s, num now, .agg (msgR e g n).cells] = some (.agg o)) (a b : Int) (ss : List (List X)) (hs : s = [num a, num b, .sl false 10 ss]) (c d : Int) (r : List (List X)) (q1 q2 q3 q4 : List (List X)) (ho : o = [num c, num d, .sl false 10 r, .sl false 11 q1, .sl false 11 q2, .sl false 6 q3, .sl false 10 q4]) :
    Gam.pureD (callF tab ext (N + 1)) 5 [.agg (nodR t l).cells, .agg s, .agg (inpR e g n now).cells] = some (.agg o) := by
  subst hs; subst ho
  exact pure_of [(17, .p (.agg [num c, num d, .sl false 10 r, .sl false 11 q1, .sl false 11 q2, .sl false 6 q3, .sl false 10 q4]))] [] (pf1 h) (x := .agg [num c, num d, .sl false 10 r, .sl false 11 q1, .sl false 11 q2, .sl false 6 q3, .sl false 10 q4]) (bx := []) (by kernel_rfl) rfl
end Go.Proofs.YtejenmhcebfnlaaGreatDoor

/- ResequencerCompletes: one step at one group. -/
namespace Go.Proofs.YtejenmhcebfnlaaGreatDoor
open Go.Em
set_option maxRecDepth 100000

/-- A held message: its number, and its place among the inputs. -/
def mq (p : Nat × Nat) : Msg := msgR ((p.2 : Int) + 1) 7 (p.1 : Int)
def nq (H : List (Nat × Nat)) : List Int := H.map fun p => (p.1 : Int)
def grpQ (nx : Int) (H : List (Nat × Nat)) : Slt := grpS 7 nx 0 (H.map mq) (nq H)
def stQ (nx : Int) (H : List (Nat × Nat)) : Stt := ⟨0, 0, [grpQ nx H]⟩
theorem mq_ok (p : Nat × Nat) : (mq p).ok := ⟨⟨by simp [mq, msgR]⟩, by simp [mq, msgR], by unfold Val.ok mq msgR kv; simp [Val.size, sizeL, sizeF]⟩
theorem grpQ_ok (nx : Int) (H : List (Nat × Nat)) (h : H.length ≤ 100) : (grpQ nx H).ok :=
  ⟨kv_ok 7, by simp [grpQ, grpS]; omega, fun m hm => by
    obtain ⟨p, _, rfl⟩ := List.mem_map.1 hm
    exact mq_ok p, by simp [grpQ, grpS, nq]; omega, fun v hv => by
    obtain ⟨p, _, rfl⟩ := List.mem_map.1 hv
    exact kv_ok p⟩
theorem stQ_small (nx : Int) (H : List (Nat × Nat)) (h : H.length ≤ 100) : (stQ nx H).small := ⟨by simp [stQ], fun x hx => by
  rw [List.mem_singleton.1 hx]
  exact ⟨grpQ_ok nx H h, by simp [grpQ, grpS]; omega, by simp [grpQ, grpS, nq]; omega⟩⟩
theorem st0_small : (Stt.mk 0 0 []).small := ⟨by simp, by simp⟩
theorem getQ (nx : Int) (H : List (Nat × Nat)) (h : H.length ≤ 100) : (∀ N, 190050 ≤ N → callF tab ext N (.fn 18) [.agg (stQ nx H).cells, .agg (kv 7).cells] [] = some (getX true (grpQ nx H))) ∧ ∀ N, 190040 ≤ N → Gam.pureD (callF tab ext N) 42 [.agg (stQ nx H).cells, .agg (kv 7).cells] = some (.tup [nat 0, boolX true]) := by
  obtain ⟨i, b, x, hi, h1, h2, hg, hf⟩ := get_ex3 (stQ nx H) (stQ_small nx H h) (kv 7)
  have hc : cmpV (grpQ nx H).key (kv 7) = 0 := by
    show cmpV (kv 7) (kv 7) = 0
    rw [cmp_kv, ordI_self]
  have hi : i ≤ 1 := hi
  cases b with
  | true =>
    obtain ⟨hlt, _, hx⟩ := h1 rfl
    have hlt : i < 1 := hlt
    obtain rfl : i = 0 := by omega
    have hx : x = grpQ nx H := hx
    subst hx
    exact ⟨hg, hf⟩
  | false =>
    obtain ⟨hsp, hne⟩ := h2 rfl
    by_cases h0 : i = 0
    · subst h0
      exact absurd hc (hne (by simp [stQ]))
    · obtain rfl : i = 1 := by omega
      have hb := hsp.before (by omega)
      have hb : cmpV (grpQ nx H).key (kv 7) < 0 := hb
      rw [hc] at hb
      exact absurd hb (by decide)
theorem get0 : (∀ N, 190050 ≤ N → callF tab ext N (.fn 18) [.agg (Stt.mk 0 0 []).cells, .agg (kv 7).cells] [] = some (.tup [.agg zerS, boolX false], [])) ∧ ∀ N, 190040 ≤ N → Gam.pureD (callF tab ext N) 42 [.agg (Stt.mk 0 0 []).cells, .agg (kv 7).cells] = some (.tup [nat 0, boolX false]) := by
  obtain ⟨i, b, x, hi, h1, h2, hg, hf⟩ := get_ex3 (Stt.mk 0 0 []) st0_small (kv 7)
  have hi : i ≤ 0 := hi
  obtain rfl : i = 0 := by omega
  cases b with
  | true =>
    obtain ⟨hlt, _⟩ := h1 rfl
    exact absurd hlt (by simp)
  | false => exact ⟨hg, hf⟩
theorem dl210 (N : Nat) (l g xn xt now : Int) (ms vs : List (List X)) : Gam.pureD (callF tab ext (N + 10)) 28 [.agg (nodR 0 l).cells, .agg (slC 2 g 0 xn xt ⟨#[]⟩ [] [] ms vs), num now] = some (num 0) := by
  cases h : (Int.ofNat ms.length == 0) with
  | true => exact pure_of [(10, .b true)] [] (pf1 h) (x := num 0) (bx := []) (by kernel_rfl) rfl
  | false => exact pure_of [(10, .b false)] [] (pf1 h) (x := num 0) (bx := []) (by kernel_rfl) rfl
theorem nq_len (H : List (Nat × Nat)) : (nq H).length = H.length := by simp [nq]
theorem nums150 (nx : Int) (H : List (Nat × Nat)) (h : H.length ≤ 100) (N : Nat) (hN : 60010 ≤ N) : Gam.pureD (callF tab ext N) 24 [.agg (grpQ nx H).cells] = some (.sl false 1 (intsC (nq H))) := by
  have := numbers_pure (grpQ nx H) (by simp [grpQ, grpS, nq]; omega) N hN
  rw [show numsV (grpQ nx H).vals = nq H from numsV_kv (nq H)] at this
  exact this
/-- The reason is empty: the message is kept. -/
theorem ref206 (v nx : Nat) (H : List (Nat × Nat)) (h : H.length ≤ 60) (hv : nx ≤ v) (hn : ∀ p, p ∈ H → p.1 ≠ v) (N : Nat) (hN : 190000 ≤ N) :
    Gam.pureD (callF tab ext N) 22 [.agg (nodR 0 100).cells, .agg (stQ nx H).cells, .agg (grpQ nx H).cells, boolX true, num v] = some (strX emptyT) := by
  obtain ⟨M, rfl⟩ : ∃ M, N = M + 1 := ⟨N - 1, by omega⟩
  have h1 := nums150 nx H (by omega) M (by omega)
  have h2 := contains287 (nq H) (by rw [nq_len]; omega) (v : Int) M (by omega)
  have h3 := held_pure (stQ nx H) (stQ_small nx H (by omega)) M (by omega)
  have hnot : ¬ ((v : Int) ∈ nq H) := fun hm => by
    obtain ⟨p, hp, e⟩ := List.mem_map.1 hm
    exact hn p hp (by omega)
  rw [decide_eq_false hnot] at h2
  have hacc : (accOf (stQ nx H).slots).length = H.length := by simp [accOf, stQ, grpQ, grpS]
  have key := refused_pure M 0 100 (v : Int) 0 0 2 7 0 nx 0 (nat (accOf (stQ nx H).slots).length |> fun _ => ((accOf (stQ nx H).slots).length : Int)) ⟨#[]⟩ [] [] (msgsC (H.map mq)) (cellsL ((nq H).map kv)) (intsC (nq H)) (sltsC [grpQ nx H]) true false h1 h2 h3
  have e : refT (v : Int) nx 100 ((accOf (stQ nx H).slots).length : Int) false true (sltsC [grpQ nx H]).length (msgsC (H.map mq)).length = emptyT := by
    unfold refT
    rw [if_neg (by omega), if_neg (by decide), if_neg (by rintro ⟨h, _⟩; cases h), if_neg]
    rintro ⟨_, h | h⟩
    · rw [msgsC_length, List.length_map] at h; omega
    · rw [hacc] at h; omega
  rw [← e]
  exact key
theorem lowI_nq (v : Nat) : ∀ H : List (Nat × Nat), lowI (v : Int) (nq H) = lowL v H
  | [] => rfl
  | p :: r => by
    have ih := lowI_nq v r
    show (if (p.1 : Int) < v then lowI (v : Int) (nq r) + 1 else 0) = (if p.1 < v then lowL v r + 1 else 0)
    by_cases hp : p.1 < v
    · rw [if_pos hp, if_pos (by omega), ih]
    · rw [if_neg hp, if_neg (by omega)]
theorem nq_srt {H : List (Nat × Nat)} (h : SrtL H) : (nq H).Pairwise (· < ·) := by
  unfold nq
  rw [List.pairwise_map]
  exact h.imp fun hab => by omega
theorem cellsL_app (a b : List Val) : cellsL (a ++ b) = cellsL a ++ cellsL b := by
  induction a with
  | nil => rfl
  | cons x r ih => simp [cellsL, ih]
theorem cellsL_take (vs : List Val) (r : Nat) : cellsL (vs.take r) = (cellsL vs).take r := by
  induction vs generalizing r with
  | nil => simp [cellsL]
  | cons v w ih => cases r with
    | zero => rfl
    | succ r => simpa [cellsL] using ih r
theorem insExt_at (f : FuncId) (k i n : Nat) (rows : List (List X)) (x : List X) (N : Nat) (hf : callF tab ext (N + 1) (.fn f) [.bs 0 0 n, nat i, .sl true k [x]] [.row k rows] = insExt k [.bs 0 0 n, nat i, .sl true k [x]] [.row k rows]) (hn : n = rows.length) (hl : n ≤ 2000000) (hi : i ≤ n) :
    callF tab ext (N + 1) (.fn f) [.bs 0 0 n, nat i, .sl true k [x]] [.row k rows] = some (.bs 1 0 (n + 1), [.dead, .row k (rows.take i ++ [x] ++ rows.drop i)]) := by
  rw [hf]
  show (if k = k ∧ k = k ∧ n = rows.length ∧ n ≤ 2000000 ∧ 0 ≤ Int.ofNat i ∧ (Int.ofNat i).toNat ≤ n then some (X.bs 1 0 (n + 1), [Bx.dead, Bx.row k (rows.take (Int.ofNat i).toNat ++ [x] ++ rows.drop (Int.ofNat i).toNat)]) else none) = _
  rw [if_pos ⟨rfl, rfl, hn, hl, by simp, by simpa using hi⟩]
  rfl
/-- The outcome of a step that sends messages on. -/
def outQ (nx : Int) (H : List (Nat × Nat)) (O : List (List X)) (F : List (List X)) : List X := [num 0, num 0, .sl false 10 (sltsC [grpQ nx H]), .sl false 11 O, .sl false 11 [], .sl false 6 F, .sl false 10 []]
theorem hold_step (nx v k : Nat) (H : List (Nat × Nat)) (h : H.length ≤ 60) (hs : SrtL H) (hv : nx < v) (hv2 : v ≤ 1000) (hk : k ≤ 1000) (hn : ∀ p, p ∈ H → p.1 ≠ v) (now : Int) (N : Nat) (hN : 200100 ≤ N) :
    Gam.pureD (callF tab ext N) 5 [.agg (nodR 0 100).cells, .agg (stQ nx H).cells, .agg (inpR ((k : Int) + 1) 7 v now).cells] = some (.agg (outQ nx (insL v k H) [] [])) := by
  obtain ⟨M, rfl⟩ : ∃ M, N = M + 402 := ⟨N - 402, by omega⟩
  have h204 := seq204 M 0 100 ((k : Int) + 1) 7 v (by omega) (by omega)
  have h102 := (getQ nx H (by omega)).1 (M + 400) (by omega)
  have h206 := ref206 v nx H h (by omega) hn (M + 400) (by omega)
  have h1 : decide ((v : Int) > nx) = true := decide_eq_true (by omega)
  have hml := msgsC_length (H.map mq)
  rw [List.length_map] at hml
  have hvl := cellsL_length ((nq H).map kv)
  rw [List.length_map, nq_len] at hvl
  have hql := nq_len H
  have hil := intsC_len (nq H)
  have h150 := numbers_ref 7 nx 0 (msgsC (H.map mq)).length (msgsC (H.map mq)) (nq H) (by omega) (M + 400) (by omega)
  have hll := lowL_le v H
  obtain ⟨fo, h207⟩ := bi_pure (nq H) (nq_srt hs) (by omega) (v : Int) (M + 400) (by omega)
  rw [lowI_nq] at h207
  have h98 := clone98 (M + 100) ((k : Int) + 1) 7 v
  have h208 := insExt_at 25 10 (lowL v H) _ (msgsC (H.map mq)) (msgR ((k : Int) + 1) 7 v).cells (M + 399) rfl rfl (by omega) (by omega)
  have h209 := insExt_at 27 6 (lowL v H) _ (cellsL ((nq H).map kv)) (kv v).cells (M + 399) rfl rfl (by omega) (by omega)
  have em : (msgsC (H.map mq)).take (lowL v H) ++ [(msgR ((k : Int) + 1) 7 v).cells] ++ (msgsC (H.map mq)).drop (lowL v H) = msgsC ((insL v k H).map mq) := by
    unfold insL msgsC
    simp only [List.map_append, List.map_cons, List.map_nil, List.map_take, List.map_drop]
    rfl
  have ev : (cellsL ((nq H).map kv)).take (lowL v H) ++ [(kv v).cells] ++ (cellsL ((nq H).map kv)).drop (lowL v H) = cellsL ((nq (insL v k H)).map kv) := by
    unfold insL nq
    simp only [List.map_append, List.map_cons, List.map_nil, List.map_take, List.map_drop, cellsL_app, cellsL_take, cellsL_drop]
    rfl
  rw [em] at h208
  rw [ev] at h209
  have hIl : (insL v k H).length = H.length + 1 := by unfold insL; simp; omega
  have hput := put_at (stQ nx H) (stQ_small nx H (by omega)) (grpQ nx (insL v k H)) (grpQ_ok _ _ (by omega)) 0 true (by simp [stQ]) (fun _ => by simp [stQ]) (getQ nx H (by omega)).2 (M + 400) (by omega)
  have hdl := dl210 (M + 390) 100 7 nx 0 now (msgsC ((insL v k H).map mq)) (cellsL ((nq (insL v k H)).map kv))
  have hm2 : (msgsC ((insL v k H).map mq)).length = (msgsC (H.map mq)).length + 1 := by rw [msgsC_length, List.length_map, hIl, hml]
  have hv2' : (cellsL ((nq (insL v k H)).map kv)).length = (cellsL ((nq H).map kv)).length + 1 := by rw [cellsL_length, List.length_map, nq_len, hIl, hvl]
  have key := rcv_hold (M + 400) (lowL v H) 0 100 now ((k : Int) + 1) 7 v 0 0 nx 0 0 (msgsC (H.map mq)) (cellsL ((nq H).map kv)) (sltsC [grpQ nx H]) (intsC (nq H)) (msgsC ((insL v k H).map mq)) (cellsL ((nq (insL v k H)).map kv)) (sltsC [grpQ nx (insL v k H)]) fo h204 h102 h206 h1 (by rw [hvl, ← hql]; exact h150) (by omega) h207 h98 h208 (int58 (M + 340) v) h209 hm2 hv2' (by rw [ite_self]; exact hput) hdl
  exact step52 (M + 401) 0 100 ((k : Int) + 1) 7 v now (stQ nx H).cells _ key 0 0 (sltsC [grpQ nx H]) rfl 0 0 _ [] [] [] [] rfl
end Go.Proofs.YtejenmhcebfnlaaGreatDoor

/- ResequencerCompletes: a step that sends messages on, and the first step. -/
namespace Go.Proofs.YtejenmhcebfnlaaGreatDoor
open Go.Em
set_option maxRecDepth 100000

/-- What was sent: messages with the numbers from nx on. -/
def Sent (nx : Nat) (os : List Otp) : Prop := ∀ j (h : j < os.length), os[j].port = 0 ∧ ∃ (k : Nat) (s : Stp), os[j].m = { mq (nx + j, k) with st := s }
theorem rel_grp (nx : Nat) (H : List (Nat × Nat)) (h : H.length ≤ 60) (hnx : nx ≤ 1000) (N : Nat) (hN : 70000 ≤ N) :
    callF tab ext N (.fn 29) [.ptr 0 0 0, num ((nx : Int) + 1)] [.var (grpQ nx H).cells] = some (.sl false 10 (msgsC ((H.take (runL (nx + 1) H)).map mq)), [.var (grpQ ((nx : Int) + 1 + (runL (nx + 1) H : Nat)) (H.drop (runL (nx + 1) H))).cells]) := by
  have hle := runL_le (nx + 1) H
  have hnv : numsV (grpQ nx H).vals = nq H := numsV_kv (nq H)
  have hvl : (grpQ nx H).vals.length = H.length := by simp [grpQ, grpS, nq]
  have hmlen : (grpQ nx H).items.length = H.length := by simp [grpQ, grpS]
  have hget : ∀ j (hj : j < H.length) (hj' : j < (numsV (grpQ nx H).vals).length), (numsV (grpQ nx H).vals)[j] = (H[j].1 : Int) := fun j hj hj' => by
    simp only [hnv]
    simp [nq]
  have key := rel211 (grpQ nx H) ((nx : Int) + 1) (runL (nx + 1) H) N hN (by rw [hvl, hmlen]) (by rw [hvl]; omega) (by rw [hvl]; exact hle)
    (fun j hj => by
      have h1 := runL_get (nx + 1) H j hj
      rw [hget j (by omega), h1]
      omega)
    (fun hj => by
      have hj' : runL (nx + 1) H < H.length := by rw [hnv, nq_len] at hj; exact hj
      have h1 := runL_stop (nx + 1) H hj'
      rw [hget _ hj']
      omega) (by omega) (by omega)
    (fun M hM => by rw [hnv]; exact nums150 nx H (by omega) M hM)
  have e1 : (grpQ nx H).items.take (runL (nx + 1) H) = (H.take (runL (nx + 1) H)).map mq := by simp [grpQ, grpS, List.map_take]
  have e2 : Slt.mk (grpQ nx H).key ((nx : Int) + 1 + (runL (nx + 1) H : Nat)) (grpQ nx H).t ((grpQ nx H).items.drop (runL (nx + 1) H)) ((grpQ nx H).vals.drop (runL (nx + 1) H)) = grpQ ((nx : Int) + 1 + (runL (nx + 1) H : Nat)) (H.drop (runL (nx + 1) H)) := by
    simp [grpQ, grpS, nq, List.map_drop]
  rw [e1, e2] at key
  exact key
theorem send_step (nx k : Nat) (H : List (Nat × Nat)) (h : H.length ≤ 60) (hn0 : 1 ≤ nx) (hnx : nx ≤ 1000) (hn : ∀ p, p ∈ H → nx < p.1) (now : Int) (N : Nat) (hN : 201000 ≤ N) :
    ∃ (os : List Otp) (F : List (List X)), Gam.pureD (callF tab ext N) 5 [.agg (nodR 0 100).cells, .agg (stQ nx H).cells, .agg (inpR ((k : Int) + 1) 7 nx now).cells] = some (.agg (outQ ((nx : Int) + 1 + (runL (nx + 1) H : Nat)) (H.drop (runL (nx + 1) H)) (otpsC os) F)) ∧ os.length = runL (nx + 1) H + 1 ∧ Sent nx os := by
  obtain ⟨M, rfl⟩ : ∃ M, N = M + 402 := ⟨N - 402, by omega⟩
  have hle := runL_le (nx + 1) H
  have h204 := seq204 M 0 100 ((k : Int) + 1) 7 nx (by omega) (by omega)
  have h102 := (getQ nx H (by omega)).1 (M + 400) (by omega)
  have h206 := ref206 nx nx H h (Nat.le_refl _) (fun p hp => by have := hn p hp; omega) (M + 400) (by omega)
  have h1 : decide ((nx : Int) > nx) = false := decide_eq_false (by omega)
  have h211 := rel_grp nx H h hnx (M + 400) (by omega)
  have hw : IntKind.i64.wrap ((nx : Int) + 1) = (nx : Int) + 1 := by rw [IntKind.wrap_i64]; omega
  have hdl := dl210 (M + 390) 100 7 ((nx : Int) + 1 + (runL (nx + 1) H : Nat)) 0 now (msgsC ((H.drop (runL (nx + 1) H)).map mq)) (cellsL ((nq (H.drop (runL (nx + 1) H))).map kv))
  have hput := put_at (stQ nx H) (stQ_small nx H (by omega)) (grpQ ((nx : Int) + 1 + (runL (nx + 1) H : Nat)) (H.drop (runL (nx + 1) H))) (grpQ_ok _ _ (by rw [List.length_drop]; omega)) 0 true (by simp [stQ]) (fun _ => by simp [stQ]) (getQ nx H (by omega)).2 (M + 400) (by omega)
  have hal : (msgsC ((H.take (runL (nx + 1) H)).map mq)).length = runL (nx + 1) H := by rw [msgsC_length, List.length_map, List.length_take]; omega
  have hget : ∀ j, j < runL (nx + 1) H → ∃ q, H[j]? = some (nx + (j + 1), q) := fun j hj => by
    have h1 := runL_get (nx + 1) H j hj
    refine ⟨(H[j]'(by omega)).2, ?_⟩
    rw [List.getElem?_eq_getElem (by omega)]
    exact congrArg some (Prod.ext (by show (H[j]'(by omega)).1 = nx + (j + 1); omega) rfl)
  generalize hr : runL (nx + 1) H = r at *
  have hrm : roomOk ([(msgR ((k : Int) + 1) 7 nx).cells].length + (msgsC ((H.take r).map mq)).length) 152 = true := by
    rw [hal]
    show roomOk (1 + r) 152 = true
    exact room_of (by omega) (by omega)
  by_cases hz : r = 0
  · have h108 : (Int.ofNat ([(msgR ((k : Int) + 1) 7 nx).cells] ++ msgsC ((H.take r).map mq)).length == 1) = true := by rw [List.length_append, hal, hz]; rfl
    have key := rcv_one (M + 400) 0 100 now ((k : Int) + 1) 7 nx ((nx : Int) + 1 + (r : Nat)) 0 0 nx 0 0 (msgsC (H.map mq)) (cellsL ((nq H).map kv)) (sltsC [grpQ nx H]) (msgsC ((H.drop r).map mq)) (cellsL ((nq (H.drop r)).map kv)) (sltsC [grpQ ((nx : Int) + 1 + (r : Nat)) (H.drop r)]) (msgsC ((H.take r).map mq)) h204 h102 h206 h1 (by rw [hw]; exact h211) hrm hdl hput (clone98 (M + 100) _ 7 nx) h108
    refine ⟨[⟨0, mq (nx, k)⟩], [], step52 (M + 401) 0 100 ((k : Int) + 1) 7 nx now (stQ nx H).cells _ key 0 0 (sltsC [grpQ nx H]) rfl 0 0 _ _ [] [] [] rfl, by rw [hz]; rfl, fun j hj => ?_⟩
    have hj0 : j = 0 := by simp at hj; omega
    subst hj0
    exact ⟨rfl, k, (mq (nx, k)).st, rfl⟩
  · have h108 : (Int.ofNat ([(msgR ((k : Int) + 1) 7 nx).cells] ++ msgsC ((H.take r).map mq)).length == 1) = false := by
      rw [List.length_append, hal]
      simp only [Int.ofNat_eq_natCast, beq_eq_false_iff_ne, ne_eq, List.length_cons, List.length_nil]; omega
    have hl : ((mq (nx, k)) :: (H.take r).map mq).length = r + 1 := by rw [List.length_cons, List.length_map, List.length_take]; omega
    have hsend := send212 ordT ⟨(k : Int) + 1, [1]⟩ (by simp) (mq (nx, k) :: (H.take r).map mq) (by omega) (fun m hm => by
      rcases List.mem_cons.1 hm with rfl | hm
      · exact mq_ok _
      · obtain ⟨p, _, rfl⟩ := List.mem_map.1 hm
        exact mq_ok p) (M + 400) (by omega)
    have hol : (sentO ⟨(k : Int) + 1, [1]⟩ (mq (nx, k) :: (H.take r).map mq)).length = r + 1 := by unfold sentO; rw [List.length_mapIdx, hl]
    have hfl : (sentF ordT ⟨(k : Int) + 1, [1]⟩ (mq (nx, k) :: (H.take r).map mq)).length = r + 1 := by unfold sentF; rw [List.length_mapIdx, hl]
    rw [hl] at hsend
    have key := rcv_more (M + 400) 0 100 now ((k : Int) + 1) 7 nx ((nx : Int) + 1 + (r : Nat)) 0 0 nx 0 0 (msgsC (H.map mq)) (cellsL ((nq H).map kv)) (sltsC [grpQ nx H]) (msgsC ((H.drop r).map mq)) (cellsL ((nq (H.drop r)).map kv)) (sltsC [grpQ ((nx : Int) + 1 + (r : Nat)) (H.drop r)]) (msgsC ((H.take r).map mq)) (otpsC (sentO ⟨(k : Int) + 1, [1]⟩ (mq (nx, k) :: (H.take r).map mq))) (ftesC (sentF ordT ⟨(k : Int) + 1, [1]⟩ (mq (nx, k) :: (H.take r).map mq))) (r + 1) h204 h102 h206 h1 (by rw [hw]; exact h211) hrm hdl hput h108 (by rw [otpsC_length, hol]) (by rw [ftesC_length, hfl]) hsend
    refine ⟨sentO ⟨(k : Int) + 1, [1]⟩ (mq (nx, k) :: (H.take r).map mq), _, step52 (M + 401) 0 100 ((k : Int) + 1) 7 nx now (stQ nx H).cells _ key 0 0 (sltsC [grpQ nx H]) rfl 0 0 _ _ [] _ [] rfl, hol, fun j hj => ?_⟩
    unfold sentO at hj ⊢
    rw [List.length_mapIdx] at hj
    rw [List.getElem_mapIdx]
    cases j with
    | zero => exact ⟨rfl, k, _, rfl⟩
    | succ j =>
      have hjr : j < r := by omega
      obtain ⟨q, hg⟩ := hget j hjr
      refine ⟨rfl, q, undS ⟨(k : Int) + 1, [1]⟩ (j + 1), ?_⟩
      simp only [List.getElem_cons_succ, List.getElem_map, List.getElem_take]
      have e : H[j]'(by omega) = (nx + (j + 1), q) := by
        rw [List.getElem?_eq_getElem (by omega)] at hg
        exact Option.some.inj hg
      rw [e]
theorem ref0 (v : Nat) (hv : 1 ≤ v) (N : Nat) (hN : 190000 ≤ N) : Gam.pureD (callF tab ext N) 22 [.agg (nodR 0 100).cells, .agg (Stt.mk 0 0 []).cells, .agg (grpQ 1 []).cells, boolX false, num v] = some (strX emptyT) := by
  obtain ⟨M, rfl⟩ : ∃ M, N = M + 1 := ⟨N - 1, by omega⟩
  have h1 := nums150 1 [] (by simp) M (by omega)
  have h2 := contains287 [] (by simp) (v : Int) M (by omega)
  have h3 := held_pure (Stt.mk 0 0 []) st0_small M (by omega)
  rw [decide_eq_false (by simp)] at h2
  have key := refused_pure M 0 100 (v : Int) 0 0 2 7 0 1 0 0 ⟨#[]⟩ [] [] [] [] [] [] false false h1 h2 h3
  have e : refT (v : Int) 1 100 0 false false ([] : List (List X)).length ([] : List (List X)).length = emptyT := by
    unfold refT
    rw [if_neg (by omega), if_neg (by decide), if_neg (by rintro ⟨_, h⟩; simp at h), if_neg]
    rintro ⟨_, h | h⟩
    · simp at h
    · omega
  rw [← e]
  exact key
theorem new_one (k : Nat) (now : Int) (N : Nat) (hN : 201000 ≤ N) :
    ∃ (os : List Otp) (F : List (List X)), Gam.pureD (callF tab ext N) 5 [.agg (nodR 0 100).cells, .agg (Stt.mk 0 0 []).cells, .agg (inpR ((k : Int) + 1) 7 (1 : Nat) now).cells] = some (.agg (outQ 2 [] (otpsC os) F)) ∧ os.length = 1 ∧ Sent 1 os := by
  obtain ⟨M, rfl⟩ : ∃ M, N = M + 402 := ⟨N - 402, by omega⟩
  have h204 := seq204 M 0 100 ((k : Int) + 1) 7 (1 : Nat) (by omega) (by omega)
  have h102 := get0.1 (M + 400) (by omega)
  have h206 := ref0 1 (Nat.le_refl _) (M + 400) (by omega)
  have hdl := dl210 (M + 390) 100 7 2 0 now [] []
  have hput := put_at (Stt.mk 0 0 []) st0_small (grpQ 2 []) (grpQ_ok _ _ (by simp)) 0 false (by simp) (fun h => by cases h) get0.2 (M + 400) (by omega)
  have key := rcv_new_one (M + 400) 0 100 now ((k : Int) + 1) 7 (1 : Nat) 0 0 0 [] (sltsC [grpQ 2 []]) h204 h102 h206 (by omega) rfl hdl hput
  refine ⟨[⟨0, mq (1, k)⟩], [], step52 (M + 401) 0 100 ((k : Int) + 1) 7 (1 : Nat) now (Stt.mk 0 0 []).cells _ key 0 0 [] rfl 0 0 _ _ [] [] [] rfl, rfl, fun j hj => ?_⟩
  have hj0 : j = 0 := by simp at hj; omega
  subst hj0
  exact ⟨rfl, k, (mq (1, k)).st, rfl⟩
theorem new_hold (v k : Nat) (hv : 1 < v) (hv2 : v ≤ 1000) (now : Int) (N : Nat) (hN : 201000 ≤ N) :
    Gam.pureD (callF tab ext N) 5 [.agg (nodR 0 100).cells, .agg (Stt.mk 0 0 []).cells, .agg (inpR ((k : Int) + 1) 7 v now).cells] = some (.agg (outQ 1 [(v, k)] [] [])) := by
  obtain ⟨M, rfl⟩ : ∃ M, N = M + 402 := ⟨N - 402, by omega⟩
  have h204 := seq204 M 0 100 ((k : Int) + 1) 7 v (by omega) (by omega)
  have h102 := get0.1 (M + 400) (by omega)
  have h206 := ref0 v (by omega) (M + 400) (by omega)
  have hdl := dl210 (M + 390) 100 7 1 0 now [(msgR ((k : Int) + 1) 7 v).cells] [(kv v).cells]
  have hput := put_at (Stt.mk 0 0 []) st0_small (grpQ 1 [(v, k)]) (grpQ_ok _ _ (by simp)) 0 false (by simp) (fun h => by cases h) get0.2 (M + 400) (by omega)
  have key := rcv_new_hold (M + 400) 0 100 now ((k : Int) + 1) 7 v 0 0 0 [] (sltsC [grpQ 1 [(v, k)]]) h204 h102 h206 (by omega) (by omega) hdl hput
  exact step52 (M + 401) 0 100 ((k : Int) + 1) 7 v now (Stt.mk 0 0 []).cells _ key 0 0 [] rfl 0 0 _ [] [] [] [] rfl
end Go.Proofs.YtejenmhcebfnlaaGreatDoor

/- ResequencerCompletes: the numbers are laid in a row and swapped. -/
namespace Go.Proofs.YtejenmhcebfnlaaGreatDoor
open Go.Em
set_option maxRecDepth 100000

def ub (k : Nat) : X := .v (.int .u8 (Int.ofNat k))
def ubs (l : List Nat) : List (List X) := l.map fun k => [ub k]
def natsC (L : List Nat) : List (List X) := L.map fun v => [num (Int.ofNat v)]
theorem natsC_len (L : List Nat) : (natsC L).length = L.length := by simp [natsC]
theorem natsC_get {L : List Nat} {j : Nat} (h : j < L.length) : (natsC L)[j]? = some [num (Int.ofNat L[j])] := by simp [natsC, h]
theorem natsC_set (L : List Nat) (i v : Nat) : natsC (L.set i v) = (natsC L).set i [num (Int.ofNat v)] := by simp [natsC, List.map_set]
theorem ubs_get {l : List Nat} {j : Nat} (h : j < l.length) : (ubs l)[j]? = some [ub l[j]] := by simp [ubs, h]
section
variable (sw acc : List (List X)) (c j : Nat) (N : Nat)
def ctH : St := ⟨[(0, .sl false 1 sw), (1, ub c), (5, .bs 0 0 j), (6, nat j)], [.row 1 acc]⟩
theorem ct_canon : canon 0 (ctH sw acc c j) = some (ctH sw acc c j) := by kernel_rfl
theorem ct_more (h : decide (Int.ofNat j < IntKind.i64.wrap ((Int.ofNat c).tmod 61)) = true) (hj : j < 1000) (ha : j = acc.length) :
    ∃ υ, run (callF tab ext N) 0 N (loopAt 3 0) (ctH sw acc c j) = some (.norm, υ) ∧ canon 0 υ = some (ctH sw (acc ++ [[num (Int.ofNat (j + 1))]]) c (j + 1)) :=
  rd_of [(27, .b true), (32, .i (Int.ofNat (j + 1))), (34, .app), (29, .i (Int.ofNat (j + 1)))] (pf4 h (next_nat (j := j) (by omega)) (app_ok (acc := acc) j 0 8 ha (by omega) (by omega)) (next_nat (j := j) (by omega))) (by kernel_rfl)
theorem ct_end (h : decide (Int.ofNat j < IntKind.i64.wrap ((Int.ofNat c).tmod 61)) = false) : run (callF tab ext N) 0 N (loopAt 3 0) (ctH sw acc c j) = some (.exit 0, ⟨[(0, .sl false 1 sw), (1, ub c), (5, .bs 0 0 j), (6, nat j), (27, boolX false)], [.row 1 acc]⟩) :=
  run_of [(27, .b false)] [] (pf1 h) (lo' := []) (by kernel_rfl)
end
theorem tmod61 (c : Nat) : (Int.ofNat c).tmod 61 = ((c % 61 : Nat) : Int) := by
  show Int.tmod (c : Int) ((61 : Nat) : Int) = _
  rw [Int.tmod_eq_emod_of_nonneg (by omega)]
  omega
/-- 1 .. c. -/
def upTo (c : Nat) : List Nat := (List.range c).map (· + 1)
theorem upTo_len (c : Nat) : (upTo c).length = c := by simp [upTo]
theorem upTo_succ (c : Nat) : upTo (c + 1) = upTo c ++ [c + 1] := by simp [upTo, List.range_succ]
theorem ct_loop (sw : List (List X)) (c : Nat) (N : Nat) (hN : 1000 ≤ N) : run (callF tab ext N) 0 N (.loop (loopAt 3 0)) (ctH sw [] c 0) = some (.exit 0, ⟨[(0, .sl false 1 sw), (1, ub c), (5, .bs 0 0 (c % 61)), (6, nat (c % 61)), (27, boolX false)], [.row 1 (natsC (upTo (c % 61)))]⟩) := by
  have hw : IntKind.i64.wrap ((Int.ofNat c).tmod 61) = ((c % 61 : Nat) : Int) := by rw [tmod61, IntKind.wrap_i64]; omega
  refine loop_for (σ := fun j => ctH sw (natsC (upTo j)) c j) (k := c % 61) (ct_canon ..) (fun j hj => ?_) ?_ (by simp) (by omega)
  · have h : decide (Int.ofNat j < IntKind.i64.wrap ((Int.ofNat c).tmod 61)) = true := decide_eq_true (by rw [hw]; simp only [Int.ofNat_eq_natCast]; omega)
    have e : natsC (upTo (j + 1)) = natsC (upTo j) ++ [[num (Int.ofNat (j + 1))]] := by rw [upTo_succ]; simp [natsC]
    show ∃ υ, _ ∧ canon 0 υ = some (ctH sw (natsC (upTo (j + 1))) c (j + 1))
    rw [e]
    exact ct_more sw _ c j N h (by omega) (by rw [natsC_len, upTo_len])
  · exact ct_end sw _ c _ N (decide_eq_false (by rw [hw]; simp only [Int.ofNat_eq_natCast]; omega))
section
variable (sw l : List (List X)) (n j a b : Nat) (x y p q : Int) (N : Nat)
def syH : St := ⟨[(0, .sl false 1 sw), (5, .bs 0 0 n), (7, nat j)], [.row 1 l]⟩
def syE : St := ⟨[(0, .sl false 1 sw), (5, .bs 0 0 n), (7, nat j), (44, boolX false)], [.row 1 l]⟩
theorem sy_canon : canon 0 (syH sw l n j) = some (syH sw l n j) := by kernel_rfl
theorem sy_round (h39 : decide (IntKind.i64.wrap (Int.ofNat j + 1) < Int.ofNat sw.length) = true) (hx : sw[j]? = some [.v (.int .u8 x)]) (hxw : IntKind.i64.wrap x = x) (ha : x.tmod (Int.ofNat (n + 1)) = Int.ofNat a) (hj1 : IntKind.i64.wrap (Int.ofNat j + 1) = Int.ofNat (j + 1)) (hy : sw[j + 1]? = some [.v (.int .u8 y)]) (hyw : IntKind.i64.wrap y = y) (hb : y.tmod (Int.ofNat (n + 1)) = Int.ofNat b)
    (ha1 : a < n + 1) (hb1 : b < n + 1) (hp : l[0 + b]? = some [num p]) (hq : l[0 + a]? = some [num q]) (hp2 : (l.set (0 + a) [num p])[0 + b]? = some [num p]) (hj2 : IntKind.i64.wrap (Int.ofNat j + 2) = Int.ofNat (j + 2)) :
    run (callF tab ext N) 0 N (loopAt 3 1) (syH sw l (n + 1) j) = some (.norm, syH sw ((l.set (0 + a) [num p]).set (0 + b) [num q]) (n + 1) (j + 2)) := by
  have h43 : decide (Int.ofNat (n + 1) > 0) = true := decide_eq_true (by simp only [Int.ofNat_eq_natCast]; omega)
  exact run_of [(39, .b true), (43, .b true), (49, .e [.v (.int .u8 x)]), (51, .i x), (54, .i (Int.ofNat a)), (57, .i (Int.ofNat (j + 1))), (58, .e [.v (.int .u8 y)]), (60, .i y), (63, .i (Int.ofNat b)), (70, .at), (71, .ld [num p]), (74, .at), (75, .ld [num q]), (76, .at), (1000076, .st [num q]), (77, .at), (1000077, .st [num p]), (46, .i (Int.ofNat (j + 2)))] []
    (pfJ h39 h43 hx hxw ha hj1 hy (pf11 hyw hb hb1 hp ha1 hq ha1 hq hb1 hp2 hj2)) (lo' := []) (by kernel_rfl)
theorem sy_end (h39 : decide (IntKind.i64.wrap (Int.ofNat j + 1) < Int.ofNat sw.length) = false) : run (callF tab ext N) 0 N (loopAt 3 1) (syH sw l n j) = some (.exit 2, syE sw l n j) :=
  run_of [(39, .b false)] [] (pf1 h39) (lo' := []) (by kernel_rfl)
theorem sy_end0 (h39 : decide (IntKind.i64.wrap (Int.ofNat j + 1) < Int.ofNat sw.length) = true) : run (callF tab ext N) 0 N (loopAt 3 1) (syH sw l 0 j) = some (.exit 2, syE sw l 0 j) := by
  have h43 : decide (Int.ofNat 0 > 0) = false := by decide
  exact run_of [(39, .b true)] [] (pf1 h39) (lo' := []) (by kernel_rfl)
end
end Go.Proofs.YtejenmhcebfnlaaGreatDoor

/- ResequencerCompletes: the numbers are swapped, the messages are sent on. -/
namespace Go.Proofs.YtejenmhcebfnlaaGreatDoor
open Go.Em
set_option maxRecDepth 100000

theorem sy_loop (s : List Nat) (hs : ∀ k, k ∈ s → k < 256) (hl : s.length ≤ 200) (c : Nat) (N : Nat) (hN : 1000 ≤ N) :
    ∃ (L : List Nat) (j : Nat), L.Perm (upTo c) ∧ run (callF tab ext N) 0 N (.loop (loopAt 3 1)) (syH (ubs s) (natsC (upTo c)) c 0) = some (.exit 2, syE (ubs s) (natsC L) c j) := by
  have hsl : (ubs s).length = s.length := by simp [ubs]
  have := loop_ex (Γ := callF tab ext N) (nIn := 0) (fu := N) (b := loopAt 3 1) (α := Nat × List Nat)
    (σ := fun q => syH (ubs s) (natsC q.2) c q.1)
    (I := fun q => q.2.Perm (upTo c) ∧ q.1 ≤ 202) (μ := fun q => 202 - q.1)
    (Q := fun e fin => ∃ (L : List Nat) (j : Nat), L.Perm (upTo c) ∧ e = .exit 2 ∧ fin = syE (ubs s) (natsC L) c j)
    (fun q hq => ?_) (a := (0, upTo c)) ⟨List.Perm.refl _, by simp⟩ (sy_canon ..) (by dsimp only; omega)
  · obtain ⟨e, fin, hr, L, j, h1, rfl, rfl⟩ := this
    exact ⟨L, j, h1, hr⟩
  · obtain ⟨j, L⟩ := q
    obtain ⟨hp, hj2⟩ := hq
    dsimp only at hp hj2 ⊢
    have hw : IntKind.i64.wrap (Int.ofNat j + 1) = Int.ofNat (j + 1) := next_nat (j := j) (by omega)
    by_cases hc : j + 1 < s.length
    · have h39 : decide (IntKind.i64.wrap (Int.ofNat j + 1) < Int.ofNat (ubs s).length) = true := decide_eq_true (by rw [hw, hsl]; simp only [Int.ofNat_eq_natCast]; omega)
      cases c with
      | zero => exact .inr ⟨_, _, sy_end0 (ubs s) (natsC L) j N h39, by simp, L, j, hp, rfl, rfl⟩
      | succ n =>
        left
        have hLl : L.length = n + 1 := by rw [hp.length_eq, upTo_len]
        have ha : s[j] % (n + 1) < L.length := by rw [hLl]; exact Nat.mod_lt _ (by omega)
        have hb : s[j + 1] % (n + 1) < L.length := by rw [hLl]; exact Nat.mod_lt _ (by omega)
        have h1 := hs _ (List.getElem_mem (l := s) (n := j) (by omega))
        have h2 := hs _ (List.getElem_mem (l := s) (n := j + 1) hc)
        have tm : ∀ v : Nat, (Int.ofNat v).tmod (Int.ofNat (n + 1)) = Int.ofNat (v % (n + 1)) := fun v => by
          show Int.tmod (v : Int) ((n + 1 : Nat) : Int) = _
          rw [Int.tmod_eq_emod_of_nonneg (by omega)]
          rfl
        have hx2 : IntKind.i64.wrap (Int.ofNat j + 2) = Int.ofNat (j + 2) := by rw [IntKind.wrap_i64]; simp only [Int.ofNat_eq_natCast]; omega
        have key := sy_round (ubs s) (natsC L) n j (s[j] % (n + 1)) (s[j + 1] % (n + 1)) (Int.ofNat s[j]) (Int.ofNat s[j + 1]) (Int.ofNat L[s[j + 1] % (n + 1)]) (Int.ofNat L[s[j] % (n + 1)]) N h39
          (ubs_get (by omega)) (wrap_small (by omega)) (tm _) hw (ubs_get hc) (wrap_small (by omega)) (tm _) (by omega) (by omega)
          (by rw [Nat.zero_add]; exact natsC_get hb) (by rw [Nat.zero_add]; exact natsC_get ha)
          (by
            rw [Nat.zero_add, Nat.zero_add, ← natsC_set]
            by_cases e : s[j] % (n + 1) = s[j + 1] % (n + 1)
            · rw [natsC_get (by rw [List.length_set]; exact hb), List.getElem_set, if_pos e]
            · rw [natsC_get (by rw [List.length_set]; exact hb), List.getElem_set, if_neg e]) hx2
        rw [Nat.zero_add, Nat.zero_add, ← natsC_set, ← natsC_set] at key
        exact ⟨_, (j + 2, (L.set (s[j] % (n + 1)) L[s[j + 1] % (n + 1)]).set (s[j + 1] % (n + 1)) L[s[j] % (n + 1)]), key, sy_canon .., ⟨(List.set_set_perm ha hb).trans hp, by dsimp only; omega⟩, by dsimp only; omega⟩
    · right
      exact ⟨_, _, sy_end (ubs s) (natsC L) c j N (decide_eq_false (by rw [hw, hsl]; simp only [Int.ofNat_eq_natCast]; omega)), by simp, L, j, hp, rfl, rfl⟩

/-! ### One round: the outputs bear the next numbers -/
theorem number_sent (N : Nat) (v q : Nat) (s : Stp) : Gam.pureD (callF tab ext (N + 100)) 8 [.agg ({ mq (v, q) with st := s } : Msg).cells] = some (nat v) := by
  obtain ⟨e, p⟩ := s
  kernel_rfl
section
variable (l rows O F rows2 : List (List X)) (n next i k : Nat) (fl : Bool) (N : Nat)
def ouC : List X := [num 0, num 0, .sl false 10 rows2, .sl false 11 O, .sl false 11 [], .sl false 6 F, .sl false 10 []]
def c3H : St := ⟨[(5, .bs 0 0 n), (10, .ptr 1 0 0), (11, nat next), (12, nat i), (13, .ptr 2 0 0), (14, nat k)], [.row 1 l, .var [num 0, num 0, .sl fl 10 rows], .var (ouC O F rows2)]⟩
def c3E : St := ⟨[(5, .bs 0 0 n), (10, .ptr 1 0 0), (11, nat next), (12, nat i), (13, .ptr 2 0 0), (14, nat k), (98, boolX false)], [.row 1 l, .var [num 0, num 0, .sl fl 10 rows], .var (ouC O F rows2)]⟩
theorem c3_canon : canon 0 (c3H l rows O F rows2 n next i k fl) = some (c3H l rows O F rows2 n next i k fl) := by kernel_rfl
theorem c3_round (q : Nat) (s : Stp) (h : k < O.length) (hk : k < 1000) (hx : O[k]? = some (Otp.mk 0 { mq (next, q) with st := s }).cells) (hn : next < 2000) :
    run (callF tab ext (N + 100)) 0 (N + 100) (loopAt 3 3) (c3H l rows O F rows2 n next i k fl) = some (.norm, c3H l rows O F rows2 n (next + 1) i (k + 1) fl) := by
  have h1 := lt_nat h
  have h2 := number_sent N next q s
  have h3 : (Int.ofNat next != Int.ofNat next) = false := by simp
  have h4 := next_nat (j := next) (by omega)
  have h5 := next_nat (j := k) (by omega)
  obtain ⟨e, p⟩ := s
  exact run_of [(98, .b true), (104, .e (Otp.mk 0 { mq (next, q) with st := ⟨e, p⟩ }).cells), (107, .p (nat next)), (109, .b false), (111, .i (Int.ofNat (next + 1))), (100, .i (Int.ofNat (k + 1)))] []
    (pf6 h1 hx h2 h3 h4 h5) (lo' := []) (by kernel_rfl)
theorem c3_end (h : ¬ k < O.length) : run (callF tab ext N) 0 N (loopAt 3 3) (c3H l rows O F rows2 n next i k fl) = some (.exit 6, c3E l rows O F rows2 n next i k fl) :=
  run_of [(98, .b false)] [] (pf1 (nlt_nat h)) (lo' := []) (by kernel_rfl)
end
theorem c3_loop (l rows F rows2 : List (List X)) (os : List Otp) (n next i : Nat) (fl : Bool) (hs : Sent next os) (ho : os.length ≤ 100) (hn : next ≤ 1000) (N : Nat) (hN : 1000 ≤ N) :
    run (callF tab ext N) 0 N (.loop (loopAt 3 3)) (c3H l rows (otpsC os) F rows2 n next i 0 fl) = some (.exit 6, c3E l rows (otpsC os) F rows2 n (next + os.length) i os.length fl) := by
  obtain ⟨M, rfl⟩ : ∃ M, N = M + 100 := ⟨N - 100, by omega⟩
  have hl := otpsC_length os
  refine loop_for (σ := fun j => c3H l rows (otpsC os) F rows2 n (next + j) i j fl) (k := os.length) (c3_canon ..) (fun j hj => ?_) (c3_end _ _ _ _ _ _ _ _ _ _ _ (by omega)) (by simp) (by omega)
  obtain ⟨hp, q, s, hm⟩ := hs j hj
  refine ⟨_, c3_round l rows (otpsC os) F rows2 n (next + j) i j fl M q s (by omega) (by omega) ?_ (by omega), c3_canon ..⟩
  rw [otpsC_get hj]
  congr 1
  rw [← hm, ← hp]
section
variable (l rows O F rows2 : List (List X)) (n next i v nx2 k : Nat) (fl : Bool) (N : Nat)
def rqH : St := ⟨[(5, .bs 0 0 n), (10, .ptr 1 0 0), (11, nat next), (12, nat i)], [.row 1 l, .var [num 0, num 0, .sl fl 10 rows]]⟩
def rqE : St := ⟨[(5, .bs 0 0 n), (10, .ptr 1 0 0), (11, nat next), (12, nat i), (81, boolX false)], [.row 1 l, .var [num 0, num 0, .sl fl 10 rows]]⟩
theorem rq_canon : canon 0 (rqH l rows n next i fl) = some (rqH l rows n next i fl) := by kernel_rfl
theorem rq_end (h : ¬ i < n) : run (callF tab ext N) 0 N (loopAt 3 2) (rqH l rows n next i fl) = some (.exit 4, rqE l rows n next i fl) :=
  run_of [(81, .b false)] [] (pf1 (nlt_nat h)) (lo' := []) (by kernel_rfl)
theorem rq_round (h : i < n) (hn : n ≤ 100) (hv : l[0 + i]? = some [nat v])
    (hst : Gam.pureD (callF tab ext (N + 400)) 5 [.agg (nodR 0 100).cells, .agg [num 0, num 0, .sl false 10 rows], .agg (inpR ((i : Int) + 1) 7 v (i : Int)).cells] = some (.agg (ouC O F rows2)))
    (hlo : run (callF tab ext (N + 400)) 0 (N + 400) (.loop (loopAt 3 3)) (c3H l rows O F rows2 n next i 0 fl) = some (.exit 6, c3E l rows O F rows2 n nx2 i k fl)) :
    ∃ υ, run (callF tab ext (N + 400)) 0 (N + 400) (loopAt 3 2) (rqH l rows n next i fl) = some (.norm, υ) ∧ canon 0 υ = some (rqH l rows2 n nx2 (i + 1) false) := by
  have h1 := lt_nat h
  have h53 := node53 (N + 300) 0 100
  have h54 := input54 (N + 300) (Int.ofNat i) 7 (Int.ofNat v) (Int.ofNat i)
  have h2 := next_nat (j := i) (by omega)
  rw [h2] at h54
  refine ⟨⟨[(5, .bs 0 0 n), (10, .ptr 1 0 0), (11, nat nx2), (12, nat (i + 1))], [.row 1 l, .var [num 0, num 0, .sl false 10 rows2], .var (ouC O F rows2)]⟩, ?_, by kernel_rfl⟩
  exact run_of [(81, .b true), (84, .p (.agg (nodR 0 100).cells)), (89, .at), (90, .ld [nat v]), (92, .p (.agg (inpR ((i : Int) + 1) 7 v (i : Int)).cells)), (93, .p (.agg (ouC O F rows2))), (83, .i (Int.ofNat (i + 1)))] [(.exit 6, c3E l rows O F rows2 n nx2 i k fl)]
    (pf8 h1 h53 h hv h54 hst hlo h2) (lo' := []) (by kernel_rfl)
end
end Go.Proofs.YtejenmhcebfnlaaGreatDoor

/- ResequencerCompletes comes to true on the machine. -/
namespace Go.Proofs.YtejenmhcebfnlaaGreatDoor
open Go.Em
set_option maxRecDepth 100000

def rqR (i nx : Nat) (H : List (Nat × Nat)) : List (List X) := if i = 0 then [] else sltsC [grpQ nx H]
theorem upTo_mem (c v : Nat) : v ∈ upTo c ↔ 1 ≤ v ∧ v ≤ c := by
  unfold upTo
  simp only [List.mem_map, List.mem_range]
  constructor
  · rintro ⟨a, h, rfl⟩; omega
  · rintro ⟨h1, h2⟩; exact ⟨v - 1, by omega, by omega⟩
theorem upTo_nodup (c : Nat) : (upTo c).Nodup := by
  unfold upTo
  exact List.Pairwise.map _ (fun a b h => by omega) List.nodup_range
/-- A step at the state behind i messages. -/
theorem rq_step (L : List Nat) (c i nx : Nat) (H : List (Nat × Nat)) (hp : L.Perm (upTo c)) (hc : c ≤ 60) (hi : i < L.length) (hI : RsI (L.take i) nx H) (h0 : i = 0 → nx = 1 ∧ H = []) (N : Nat) (hN : 201000 ≤ N) :
    ∃ (nx' : Nat) (H' : List (Nat × Nat)) (os : List Otp) (F : List (List X)), Gam.pureD (callF tab ext N) 5 [.agg (nodR 0 100).cells, .agg [num 0, num 0, .sl false 10 (rqR i nx H)], .agg (inpR ((i : Int) + 1) 7 (L[i] : Nat) (i : Int)).cells] = some (.agg (ouC (otpsC os) F (rqR (i + 1) nx' H'))) ∧
      Sent nx os ∧ nx' = nx + os.length ∧ os.length ≤ 100 ∧ RsI (L.take (i + 1)) nx' H' := by
  have hnd : L.Nodup := hp.nodup_iff.2 (upTo_nodup c)
  have hnot : L[i] ∉ L.take i := fun hm => by
    obtain ⟨j, hj, e⟩ := List.getElem_of_mem hm
    rw [List.length_take] at hj
    rw [List.getElem_take] at e
    have := (List.pairwise_iff_getElem.1 hnd) j i (by omega) hi (by omega)
    exact this e
  have hle : ∀ v, v ∈ L.take i → v ≤ c := fun v hv => ((upTo_mem c v).1 (hp.mem_iff.1 (List.mem_of_mem_take hv))).2
  have hHl := rsI_len hI hle
  have hpos := hI.pos
  have hnx : nx ≤ c + 1 := by
    by_cases h : nx ≤ 1
    · omega
    · have := hle (nx - 1) ((hI.mem (nx - 1)).2 (.inl ⟨by omega, by omega⟩))
      omega
  have hv := (upTo_mem c L[i]).1 (hp.mem_iff.1 (List.getElem_mem hi))
  have hge : nx ≤ L[i] := by
    by_cases h : nx ≤ L[i]
    · exact h
    · exact absurd ((hI.mem L[i]).2 (.inl ⟨hv.1, by omega⟩)) hnot
  have hne : ∀ p, p ∈ H → p.1 ≠ L[i] := fun p hp e => hnot ((hI.mem L[i]).2 (.inr ⟨p.2, by rw [← e]; exact hp⟩))
  have ht : L.take (i + 1) = L.take i ++ [L[i]] := List.take_succ_eq_append_getElem hi
  have hr : ∀ (a : Nat) (B : List (Nat × Nat)), rqR (i + 1) a B = sltsC [grpQ a B] := fun a B => by unfold rqR; rw [if_neg (by omega)]
  have hHl60 : H.length ≤ 60 := by omega
  by_cases he : L[i] = nx
  · have hI' := rsI_send hI
    rw [show L.take i ++ [nx] = L.take (i + 1) by rw [ht, he]] at hI'
    by_cases hz : i = 0
    · obtain ⟨rfl, rfl⟩ := h0 hz
      obtain ⟨os, F, h1, h2, h3⟩ := new_one i (i : Int) N hN
      refine ⟨2, [], os, F, ?_, h3, by rw [h2], by rw [h2]; omega, hI'⟩
      rw [hr, he]
      subst hz
      exact h1
    · obtain ⟨os, F, h1, h2, h3⟩ := send_step nx i H hHl60 hpos (by omega) hI.gt (i : Int) N hN
      have hrl := runL_le (nx + 1) H
      refine ⟨nx + 1 + runL (nx + 1) H, _, os, F, ?_, h3, by rw [h2]; omega, by rw [h2]; omega, hI'⟩
      rw [hr, he]
      unfold rqR
      rw [if_neg hz]
      exact h1
  · have hI' := rsI_hold (k := i) hI (show nx < L[i] by omega) hnot
    rw [← ht] at hI'
    by_cases hz : i = 0
    · obtain ⟨rfl, rfl⟩ := h0 hz
      have h1 := new_hold L[i] i (by omega) (by omega) (i : Int) N hN
      refine ⟨1, _, [], [], ?_, fun j h => absurd h (by simp), by simp, by simp, hI'⟩
      rw [hr]
      subst hz
      exact h1
    · have h1 := hold_step nx L[i] i H hHl60 hI.srt (by omega) (by omega) (by rw [hp.length_eq, upTo_len] at hi; omega) hne (i : Int) N (by omega)
      refine ⟨nx, _, [], [], ?_, fun j h => absurd h (by simp), by simp, by simp, hI'⟩
      rw [hr]
      unfold rqR
      rw [if_neg hz]
      exact h1
theorem rq_loop (L : List Nat) (c : Nat) (hp : L.Perm (upTo c)) (hc : c ≤ 60) (N : Nat) (hN : 202000 ≤ N) :
    ∃ (nx : Nat) (H : List (Nat × Nat)), RsI L nx H ∧ (c = 0 → nx = 1 ∧ H = []) ∧ run (callF tab ext N) 0 N (.loop (loopAt 3 2)) (rqH (natsC L) [] c 1 0 true) = some (.exit 4, rqE (natsC L) (rqR c nx H) c nx c (c == 0)) := by
  obtain ⟨M, rfl⟩ : ∃ M, N = M + 400 := ⟨N - 400, by omega⟩
  have hL : L.length = c := by rw [hp.length_eq, upTo_len]
  have := loop_ex (Γ := callF tab ext (M + 400)) (nIn := 0) (fu := M + 400) (b := loopAt 3 2) (α := Nat × Nat × List (Nat × Nat))
    (σ := fun q => rqH (natsC L) (rqR q.1 q.2.1 q.2.2) c q.2.1 q.1 (q.1 == 0))
    (I := fun q => q.1 ≤ c ∧ RsI (L.take q.1) q.2.1 q.2.2 ∧ (q.1 = 0 → q.2.1 = 1 ∧ q.2.2 = [])) (μ := fun q => c - q.1)
    (Q := fun e fin => ∃ (nx : Nat) (H : List (Nat × Nat)), RsI L nx H ∧ (c = 0 → nx = 1 ∧ H = []) ∧ e = .exit 4 ∧ fin = rqE (natsC L) (rqR c nx H) c nx c (c == 0))
    (fun q hq => ?_) (a := (0, 1, [])) ⟨by simp, rsI_nil, fun _ => ⟨rfl, rfl⟩⟩ (rq_canon (natsC L) [] c 1 0 true) (by dsimp only; omega)
  · obtain ⟨e, fin, hr, nx, H, h1, h2, rfl, rfl⟩ := this
    exact ⟨nx, H, h1, h2, hr⟩
  · obtain ⟨i, nx, H⟩ := q
    obtain ⟨hic, hI, h0⟩ := hq
    dsimp only at hic hI h0 ⊢
    by_cases hi : i < c
    · left
      obtain ⟨nx', H', os, F, h1, h2, h3, h4, h5⟩ := rq_step L c i nx H hp hc (by omega) hI h0 (M + 400) (by omega)
      have hnx : nx ≤ 1000 := by
        by_cases h : nx ≤ 1
        · omega
        · have := (upTo_mem c _).1 (hp.mem_iff.1 (List.mem_of_mem_take ((hI.mem (nx - 1)).2 (.inl ⟨by omega, by omega⟩))))
          omega
      have hlo := c3_loop (natsC L) (rqR i nx H) F (rqR (i + 1) nx' H') os c nx i (i == 0) h2 h4 hnx (M + 400) (by omega)
      rw [← h3] at hlo
      obtain ⟨υ, h6, h7⟩ := rq_round (natsC L) (rqR i nx H) (otpsC os) F (rqR (i + 1) nx' H') c nx i L[i] nx' os.length (i == 0) M hi (by omega) (by rw [Nat.zero_add]; exact natsC_get (by omega)) h1 hlo
      exact ⟨υ, (i + 1, nx', H'), h6, h7, ⟨by dsimp only; omega, h5, fun h => absurd h (by simp)⟩, by dsimp only; omega⟩
    · right
      obtain rfl : i = c := by omega
      rw [List.take_of_length_le (by omega)] at hI
      exact ⟨_, _, rq_end _ _ _ _ _ _ _ hi, by simp, nx, H, hI, h0, rfl, rfl⟩
theorem rq_fin (sw l l2 rows : List (List X)) (c n j next : Nat) (fl : Bool) (N : Nat) (h20 : decide (Int.ofNat sw.length > 200) = false) (hk : Gam.pureD (callF tab ext N) 4 [] = some (boolX true))
    (h1 : run (callF tab ext N) 0 N (.loop (loopAt 3 0)) (ctH sw [] c 0) = some (.exit 0, ⟨[(0, .sl false 1 sw), (1, ub c), (5, .bs 0 0 n), (6, nat n), (27, boolX false)], [.row 1 l]⟩))
    (h2 : run (callF tab ext N) 0 N (.loop (loopAt 3 1)) (syH sw l n 0) = some (.exit 2, syE sw l2 n j))
    (h3 : run (callF tab ext N) 0 N (.loop (loopAt 3 2)) (rqH l2 [] n 1 0 true) = some (.exit 4, rqE l2 rows n next n fl))
    (h4 : IntKind.i64.wrap (Int.ofNat n + 1) = Int.ofNat (n + 1)) (h5 : (Int.ofNat next == Int.ofNat (n + 1)) = true) (h6 : Gam.pureD (callF tab ext N) 9 [.agg [num 0, num 0, .sl false 10 rows]] = some (nat 0))
    (h7 : Gam.pureD (callF tab ext N) 11 [num 7] = some (.agg (kv 7).cells)) (h8 : Gam.pureD (callF tab ext N) 10 [.agg [num 0, num 0, .sl false 10 rows], .agg (kv 7).cells] = some (nat next)) : callF tab ext (N + 1) (.fn 3) [.sl false 1 sw, ub c] [] = some (.v (.bool true), []) := by
  have h9 : (Int.ofNat next == Int.ofNat next) = true := BEq.rfl
  exact callF_of [(15, .p (boolX true)), (20, .b false), (121, .i (Int.ofNat (n + 1))), (122, .b true), (125, .p (nat 0)), (130, .p (.agg (kv 7).cells)), (131, .p (nat next)), (133, .b true)] [(.exit 0, ⟨[(0, .sl false 1 sw), (1, ub c), (5, .bs 0 0 n), (6, nat n), (27, boolX false)], [.row 1 l]⟩), (.exit 2, syE sw l2 n j), (.exit 4, rqE l2 rows n next n fl)]
    (pfJ hk h20 h1 h2 h3 h4 h5 (pf4 h6 h7 h8 h9)) (by kernel_rfl)
theorem rq_big (sw : List (List X)) (c : Nat) (N : Nat) (h20 : decide (Int.ofNat sw.length > 200) = true) (hk : Gam.pureD (callF tab ext N) 4 [] = some (boolX true)) : callF tab ext (N + 1) (.fn 3) [.sl false 1 sw, ub c] [] = some (.v (.bool true), []) :=
  callF_of [(15, .p (boolX true)), (20, .b true), (22, .p (boolX true))] [] (pf3 hk h20 hk) (by kernel_rfl)
theorem rcompletes_all (s : List Nat) (hs : ∀ k, k ∈ s → k < 256) (c : Nat) : callF tab ext 202101 (.fn 3) [.sl false 1 (u8s s), u8 c] [] = some (.v (.bool true), []) := by
  have hk := known34_at 201700
  have hsl : (u8s s).length = s.length := u8s_length s
  by_cases hl : s.length ≤ 200
  · obtain ⟨L, j, hp, h2⟩ := sy_loop s hs hl (c % 61) 202100 (by omega)
    have hc : c % 61 ≤ 60 := by omega
    obtain ⟨nx, H, hI, hz, h3⟩ := rq_loop L (c % 61) hp hc 202100 (by omega)
    obtain ⟨rfl, rfl⟩ := rsI_end hI (fun v => by rw [hp.mem_iff]; exact upTo_mem _ v)
    have h57 : Gam.pureD (callF tab ext 202100) 10 [.agg [num 0, num 0, .sl false 10 (rqR (c % 61) (c % 61 + 1) [])], .agg (kv 7).cells] = some (nat (c % 61 + 1)) := by
      unfold rqR
      split
      · rename_i h
        rw [h]
        exact expected57 202099 (Stt.mk 0 0 []) (kv 7) ⟨⟨0, 0, 0, ⟨#[]⟩, [], []⟩, 0, 0, [], []⟩ false (pureD_of (get0.1 202099 (by omega)) (by kernel_rfl))
      · exact expected57 202099 (stQ ((c % 61 + 1 : Nat) : Int) []) (kv 7) (grpQ ((c % 61 + 1 : Nat) : Int) []) true (pureD_of ((getQ _ [] (by simp)).1 202099 (by omega)) (by kernel_rfl))
    have h56 : Gam.pureD (callF tab ext 202100) 9 [.agg [num 0, num 0, .sl false 10 (rqR (c % 61) (c % 61 + 1) [])]] = some (nat 0) := by
      unfold rqR
      split
      · exact held_pure (Stt.mk 0 0 []) st0_small 202100 (by omega)
      · exact held_pure (stQ _ []) (stQ_small _ [] (by simp)) 202100 (by omega)
    exact rq_fin (ubs s) _ _ _ c (c % 61) j (c % 61 + 1) _ 202100 (decide_eq_false (by rw [show (ubs s).length = s.length from hsl]; simp only [Int.ofNat_eq_natCast]; omega)) hk (ct_loop (ubs s) c 202100 (by omega)) h2 h3 (next_nat (j := c % 61) (by omega)) BEq.rfl h56 (int58 _ 7) h57
  · exact rq_big (ubs s) c 202100 (decide_eq_true (by rw [show (ubs s).length = s.length from hsl]; simp only [Int.ofNat_eq_natCast]; omega)) hk
end Go.Proofs.YtejenmhcebfnlaaGreatDoor
