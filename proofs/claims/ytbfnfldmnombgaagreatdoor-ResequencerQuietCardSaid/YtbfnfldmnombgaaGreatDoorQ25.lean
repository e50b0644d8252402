/- slots.Get. -/
import Derived.Test.YtbfnfldmnombgaaGreatDoorQ12
import Derived.Test.YtbfnfldmnombgaaGreatDoorQ15
import Derived.Test.YtbfnfldmnombgaaGreatDoorQ22
namespace Go.Proofs.YtbfnfldmnombgaaGreatDoor
open Go.Em
set_option maxRecDepth 100000

end Go.Proofs.YtbfnfldmnombgaaGreatDoor

/- resequencer.Expected and Held. -/
namespace Go.Proofs.YtbfnfldmnombgaaGreatDoor
open Go.Em
set_option maxRecDepth 100000

/-- The numbers of a slot. -/
def numsV (vs : List Val) : List Int := vs.map Val.intOf
section
variable (l acc : List (List X)) (n j : Nat)
def nuH : St := ⟨[(3, .bs 0 0 j), (7, .sl false 6 l), (8, nat n), (9, nat j)], [.row 1 acc]⟩
def nuH' (x : List X) (i : Int) : St := ⟨[(3, .bs 2 0 (j + 1)), (7, .sl false 6 l), (8, nat n), (9, nat (j + 1))], [.dead, .var x, .row 1 (acc ++ [[num i]])]⟩
end
theorem numbers_pure (x : Slt) (hv : x.vals.length ≤ 60000) (N : Nat) (hN : 60010 ≤ N) : Gam.pureD (callF tab ext N) 33 [.agg x.cells] = some (.sl false 1 (intsC (numsV x.vals))) := by
  obtain ⟨M, rfl⟩ : ∃ M, N = M + 1 := ⟨N - 1, by omega⟩
  obtain ⟨⟨x1, x2, x3, x4, x5, x6⟩, n, t, ms, vs⟩ := x
  dsimp only at hv ⊢
  have hn := cellsL_length vs
  have hl : run (callF tab ext M) 0 M (.loop (loopAt 33 0)) ⟨[(3, .bs 1 0 0), (7, .sl false 6 (cellsL vs)), (8, nat (cellsL vs).length), (9, num 0)], [.var [num x1, num x2, num x3, strX x4, .sl false 6 (cellsL x5), .sl false 7 (cellsF x6), num n, num t, .sl false 10 (msgsC ms), .sl false 6 (cellsL vs)], .row 1 []]⟩ =
      some (.exit 0, ⟨[(3, .bs 0 0 (cellsL vs).length), (7, .sl false 6 (cellsL vs)), (8, nat (cellsL vs).length), (9, nat (cellsL vs).length), (10, boolX false)], [.row 1 (intsC (numsV vs))]⟩) := by
    refine loop_for (σ := fun j => nuH (cellsL vs) (intsC (numsV (vs.take j))) (cellsL vs).length j) (k := (cellsL vs).length) (by kernel_rfl) (fun j hj => ?_) ?_ (by simp) (by omega)
    · have hj' : j < vs.length := by omega
      have hi := cellsL_get hj'
      have ht : intsC (numsV (vs.take (j + 1))) = intsC (numsV (vs.take j)) ++ [[num vs[j].intOf]] := by
        unfold numsV intsC
        rw [List.take_succ_eq_append_getElem hj', List.map_append, List.map_append]; rfl
      have hal : (intsC (numsV (vs.take j))).length = j := by simp [intsC, numsV]; omega
      refine ⟨nuH' (cellsL vs) (intsC (numsV (vs.take j))) (cellsL vs).length j vs[j].cells vs[j].intOf, ?_, ?_⟩
      · generalize intsC (numsV (vs.take j)) = acc at hal
        generalize vs[j] = y at hi
        obtain ⟨k, i, s, tt, ll, ff⟩ := y
        have ha := app_ok (acc := acc) j 0 8 hal.symm (by omega) (by omega)
        exact run_of [(10, .b true), (11, .e (Val.mk k i s tt ll ff).cells), (17, .app), (18, .i (Int.ofNat (j + 1)))] [] (pf4 (lt_nat hj) hi ha (next_nat (j := j) (by omega))) (lo' := []) (by kernel_rfl)
      · rw [ht]; 
        generalize vs[j].intOf = i
        generalize vs[j].cells = y
        generalize intsC (numsV (vs.take j)) = acc
        kernel_rfl
    · have : List.take (cellsL vs).length vs = vs := by rw [hn, List.take_length]
      rw [this]
      exact run_of [(10, .b false)] [] (pf1 (nlt_nat (Nat.lt_irrefl (cellsL vs).length))) (lo' := []) (by kernel_rfl)
  have hr : (intsC (numsV vs)).length = (cellsL vs).length := by simp [intsC, numsV, hn]
  generalize intsC (numsV vs) = r at hl hr ⊢
  exact pure_of [] [(.exit 0, ⟨[(3, .bs 0 0 (cellsL vs).length), (7, .sl false 6 (cellsL vs)), (8, nat (cellsL vs).length), (9, nat (cellsL vs).length), (10, boolX false)], [.row 1 r]⟩)] (pf1 hl) (x := .bs 0 0 (cellsL vs).length) (bx := [.row 1 r]) (by kernel_rfl) (by simp only [X.data]; rw [rowOf_all (bx := [.row 1 r]) rfl hr.symm]; rfl)

/-! ### A time within bounds -/
def maxI (t : Int) : Int := if (0 : Int) > t then 0 else t
def minI (t : Int) : Int := if (17592186044416 : Int) < t then 17592186044416 else t
def clip (t : Int) : Int := minI (maxI t)
theorem order_pure (M : Nat) (n m : Nod) (s s' : Stt) (i i' : Inp) (hn : Gam.pureD (callF tab ext M) 6 [.agg n.cells] = some (.agg m.cells)) (hs : Gam.pureD (callF tab ext M) 7 [.agg s.cells] = some (.agg s'.cells)) (hi : Gam.pureD (callF tab ext M) 31 [.agg i.cells] = some (.agg i'.cells)) :
    Gam.pureD (callF tab ext (M + 1)) 11 [.agg n.cells, .agg s.cells, .agg i.cells] = some (.tup [.agg { m with kind := 5, time := clip m.time }.cells, .agg s'.cells, .agg { i' with time := clip i'.time }.cells]) := by
  obtain ⟨k, t, st, ⟨ms, ma, mo, ⟨v1, v2, v3, v4, v5, v6⟩⟩, x, b1, b2, ⟨w1, w2, w3, w4, w5, w6⟩⟩ := i
  obtain ⟨k', t', st', ⟨ms', ma', mo', ⟨v1', v2', v3', v4', v5', v6'⟩⟩, x', b1', b2', ⟨w1', w2', w3', w4', w5', w6'⟩⟩ := i'
  obtain ⟨a, b, ss⟩ := s
  obtain ⟨a', b', ss'⟩ := s'
  have c1 : maxI m.time = maxI m.time := rfl
  have c3 : maxI t' = maxI t' := rfl
  exact pure_of [(10, .p (.agg m.cells)), (12, .p (.agg (Stt.mk a' b' ss').cells)), (14, .p (.agg (Inp.mk k' t' st' ⟨ms', ma', mo', ⟨v1', v2', v3', v4', v5', v6'⟩⟩ x' b1' b2' ⟨w1', w2', w3', w4', w5', w6'⟩).cells))] [] (pf3 hn hs hi) (x := .tup [.agg { m with kind := 5, time := clip m.time }.cells, .agg (Stt.mk a' b' ss').cells, .agg (Inp.mk k' (clip t') st' ⟨ms', ma', mo', ⟨v1', v2', v3', v4', v5', v6'⟩⟩ x' b1' b2' ⟨w1', w2', w3', w4', w5', w6'⟩).cells]) (bx := []) (by kernel_rfl) rfl

/-! ### Lookups -/
theorem slot77 (M : Nat) (s : Stt) (key : Val) (x : Slt) (b : Bool) (hg : Gam.pureD (callF tab ext M) 32 [.agg s.cells, .agg key.cells] = some (.tup [.agg x.cells, boolX b])) :
    Gam.pureD (callF tab ext (M + 1)) 12 [.agg s.cells, .agg key.cells] = some (.tup [.agg (if b then x else ⟨key, 1, 0, [], []⟩ : Slt).cells, boolX b]) := by
  obtain ⟨a, c, ss⟩ := s
  obtain ⟨k1, k2, k3, k4, k5, k6⟩ := key
  obtain ⟨⟨x1, x2, x3, x4, x5, x6⟩, n, t, ms, vs⟩ := x
  cases b with
  | true => exact pure_of [(11, .p (.tup [.agg (Slt.mk ⟨x1, x2, x3, x4, x5, x6⟩ n t ms vs).cells, boolX true]))] [] (pf1 hg) (x := .tup [.agg (Slt.mk ⟨x1, x2, x3, x4, x5, x6⟩ n t ms vs).cells, boolX true]) (bx := []) (by kernel_rfl) rfl
  | false => exact pure_of [(11, .p (.tup [.agg (Slt.mk ⟨x1, x2, x3, x4, x5, x6⟩ n t ms vs).cells, boolX false]))] [] (pf1 hg) (x := .tup [.agg [num k1, num k2, num k3, strX k4, .sl false 6 (cellsL k5), .sl false 7 (cellsF k6), num 1, num 0, .sl true 10 [], .sl true 6 []], boolX false]) (bx := []) (by kernel_rfl) rfl
theorem held78 (M : Nat) (s : Stt) (key : Val) (x : Slt) (b : Bool) (l : List (List X)) (hg : Gam.pureD (callF tab ext M) 32 [.agg s.cells, .agg key.cells] = some (.tup [.agg x.cells, boolX b])) (hv : Gam.pureD (callF tab ext M) 33 [.agg x.cells] = some (.sl false 1 l)) :
    Gam.pureD (callF tab ext (M + 1)) 13 [.agg s.cells, .agg key.cells] = some (.sl false 1 l) := by
  obtain ⟨a, c, ss⟩ := s
  obtain ⟨k1, k2, k3, k4, k5, k6⟩ := key
  obtain ⟨⟨x1, x2, x3, x4, x5, x6⟩, n, t, ms, vs⟩ := x
  exact pure_of [(10, .p (.tup [.agg (Slt.mk ⟨x1, x2, x3, x4, x5, x6⟩ n t ms vs).cells, boolX b])), (14, .p (.sl false 1 l))] [] (pf2 hg hv) (x := .sl false 1 l) (bx := []) (by kernel_rfl) rfl
theorem expected57 (M : Nat) (s : Stt) (key : Val) (x : Slt) (b : Bool) (hg : Gam.pureD (callF tab ext M) 32 [.agg s.cells, .agg key.cells] = some (.tup [.agg x.cells, boolX b])) :
    Gam.pureD (callF tab ext (M + 1)) 14 [.agg s.cells, .agg key.cells] = some (num (if b then x.n else 1)) := by
  obtain ⟨a, c, ss⟩ := s
  obtain ⟨k1, k2, k3, k4, k5, k6⟩ := key
  obtain ⟨⟨x1, x2, x3, x4, x5, x6⟩, n, t, ms, vs⟩ := x
  cases b with
  | true => exact pure_of [(10, .p (.tup [.agg (Slt.mk ⟨x1, x2, x3, x4, x5, x6⟩ n t ms vs).cells, boolX true]))] [] (pf1 hg) (x := num n) (bx := []) (by kernel_rfl) rfl
  | false => exact pure_of [(10, .p (.tup [.agg (Slt.mk ⟨x1, x2, x3, x4, x5, x6⟩ n t ms vs).cells, boolX false]))] [] (pf1 hg) (x := num 1) (bx := []) (by kernel_rfl) rfl
end Go.Proofs.YtbfnfldmnombgaaGreatDoor

/- ResequencerLookups comes to true. -/
namespace Go.Proofs.YtbfnfldmnombgaaGreatDoor
open Go.Em
set_option maxRecDepth 100000

section
variable (x1 x2 x3 n t : Int) (x4 : ByteArray) (x5 x6 ms vs hl : List (List X)) (j : Nat)
def lkH : St := ⟨[(8, .ptr 0 0 0), (10, .sl false 1 hl), (11, nat j)], [.var (slotC x1 x2 x3 x4 x5 x6 n t ms vs)]⟩
def lkE : St := ⟨[(8, .ptr 0 0 0), (10, .sl false 1 hl), (11, nat j), (59, boolX false)], [.var (slotC x1 x2 x3 x4 x5 x6 n t ms vs)]⟩
end
theorem lk_loop (M : Nat) (x1 x2 x3 n t : Int) (x4 : ByteArray) (x5 x6 ms : List (List X)) (vs : List Val) (hv : vs.length ≤ 60000) (hM : 60001 ≤ M) (τ : St) (hτ : canon 0 τ = some (lkH x1 x2 x3 n t x4 x5 x6 ms (cellsL vs) (intsC (numsV vs)) 0)) :
    run (callF tab ext M) 0 M (.loop (loopAt 4 0)) τ = some (.exit 0, lkE x1 x2 x3 n t x4 x5 x6 ms (cellsL vs) (intsC (numsV vs)) (intsC (numsV vs)).length) := by
  have hn := cellsL_length vs
  have hn2 : (intsC (numsV vs)).length = vs.length := by simp [intsC, numsV]
  refine loop_for (σ := fun j => lkH x1 x2 x3 n t x4 x5 x6 ms (cellsL vs) (intsC (numsV vs)) j) (k := (intsC (numsV vs)).length) hτ (fun j hj => ?_) ?_ (by simp) (by omega)
  · have hj' : j < vs.length := by omega
    have hi := cellsL_get hj'
    have h1 : (intsC (numsV vs))[j]? = some [num vs[j].intOf] := by simp [intsC, numsV, hj', num]
    refine ⟨lkH x1 x2 x3 n t x4 x5 x6 ms (cellsL vs) (intsC (numsV vs)) (j + 1), ?_, ?_⟩
    · generalize intsC (numsV vs) = hl at h1 hj
      generalize vs[j] = y at hi h1
      obtain ⟨k, i, s, tt, ll, ff⟩ := y
      have hz : (i != i) = false := by simp
      exact run_of [(59, .b true), (64, .e [num i]), (69, .e (Val.mk k i s tt ll ff).cells), (72, .b false), (61, .i (Int.ofNat (j + 1)))] [] (pf5 (lt_nat hj) h1 hi hz (next_nat (j := j) (by omega))) (lo' := []) (by kernel_rfl)
    · kernel_rfl
  · exact run_of [(59, .b false)] [] (pf1 (nlt_nat (Nat.lt_irrefl (intsC (numsV vs)).length))) (lo' := []) (by kernel_rfl)

theorem get_ex2 (s : Stt) (hs : s.small) (key : Val) : ∃ (i : Nat) (b : Bool) (x : Slt), i ≤ s.slots.length ∧ (b = true → ∃ h : i < s.slots.length, cmpV s.slots[i].key key = 0 ∧ x = s.slots[i]) ∧ (b = false → x = dSlt ∧ Spot s.slots key i ∧ ∀ h : i < s.slots.length, ¬ cmpV s.slots[i].key key = 0) ∧ ∀ N, 190050 ≤ N → Gam.pureD (callF tab ext N) 32 [.agg s.cells, .agg key.cells] = some (.tup [.agg x.cells, boolX b]) := by
  obtain ⟨i, b, hi, h1, h2, hf⟩ := find_ex2 s hs key
  have hok := hs.ok.slot
  obtain ⟨a, c, ss⟩ := s
  obtain ⟨k1, k2, k3, k4, k5, k6⟩ := key
  dsimp only at hi h1 h2 hok
  cases b with
  | false =>
    refine ⟨i, false, dSlt, hi, fun h => (by cases h), fun _ => ⟨rfl, h2 rfl⟩, fun N hN => ?_⟩
    obtain ⟨M, rfl⟩ : ∃ M, N = M + 1 := ⟨N - 1, by omega⟩
    have hf := hf M (by omega)
    exact pure_of [(11, .p (.tup [nat i, boolX false]))] [] (pf1 hf) (x := .tup [.agg [num 0, num 0, num 0, strX ⟨#[]⟩, .sl true 6 [], .sl true 7 [], num 0, num 0, .sl true 10 [], .sl true 6 []], boolX false]) (bx := []) (by kernel_rfl) rfl
  | true =>
    obtain ⟨hlt, hc⟩ := h1 rfl
    refine ⟨i, true, ss[i], hi, fun _ => ⟨hlt, hc, rfl⟩, fun h => (by cases h), fun N hN => ?_⟩
    obtain ⟨M, rfl⟩ : ∃ M, N = M + 1 := ⟨N - 1, by omega⟩
    have hf := hf M (by omega)
    have hg := sltsC_get hlt
    have hxo := hok _ (List.getElem_mem hlt)
    generalize ss[i] = x at hg hxo ⊢
    obtain ⟨⟨x1, x2, x3, x4, x5, x6⟩, n, t, ms, vs⟩ := x
    have hcl : callF tab ext M (.fn 53) [.agg (Slt.mk ⟨x1, x2, x3, x4, x5, x6⟩ n t ms vs).cells] [] = some (.agg [num x1, num x2, num x3, strX x4, .sl false 6 (cellsL x5), .sl false 7 (cellsF x6), num n, num t, .bs 0 0 (msgsC ms).length, .bs 1 0 (cellsL vs).length], [.row 10 (msgsC ms), .row 6 (cellsL vs)]) := clone_slot M _ hxo (by omega)
    exact pure_of [(11, .p (.tup [nat i, boolX true])), (20, .e (Slt.mk ⟨x1, x2, x3, x4, x5, x6⟩ n t ms vs).cells), (22, .o (.agg [num x1, num x2, num x3, strX x4, .sl false 6 (cellsL x5), .sl false 7 (cellsF x6), num n, num t, .bs 0 0 (msgsC ms).length, .bs 1 0 (cellsL vs).length]) [.row 10 (msgsC ms), .row 6 (cellsL vs)])] [] (pf3 hf hg hcl)
      (x := .tup [.agg [num x1, num x2, num x3, strX x4, .sl false 6 (cellsL x5), .sl false 7 (cellsF x6), num n, num t, .bs 0 0 (msgsC ms).length, .bs 1 0 (cellsL vs).length], boolX true]) (bx := [.row 10 (msgsC ms), .row 6 (cellsL vs)]) (by kernel_rfl) (by simp [X.data, dataL, rowOf, Slt.cells, slotC, num, strX, boolX])
theorem qlook_all (cn : List X) (hcn : isNode cn) (s : Stt) (g : Val) : callF tab ext 260301 (.fn 4) [.agg cn, .agg s.cells, .agg g.cells] [] = some (.v (.bool true), []) := by
  obtain ⟨nd, nd', rfl, hn⟩ := node_of hcn
  have h1 := hn 260299 (by omega)
  have h2 := short_state s 260299 (by omega)
  have h3 := short_inp ⟨0, 0, ⟨0, []⟩, ⟨⟨0, []⟩, 0, [], .mk 0 0 0 ⟨#[]⟩ [] []⟩, 0, false, false, g⟩ 260299 (by omega)
  have hsm := shortS_small s
  generalize shortS s = s' at h2 hsm
  generalize shortN ⟨0, 0, ⟨0, []⟩, ⟨⟨0, []⟩, 0, [], .mk 0 0 0 ⟨#[]⟩ [] []⟩, 0, false, false, g⟩ = i' at h3
  have ho := order_pure 260299 nd nd' s s' _ i' h1 h2 h3
  have hk := known34_at 259900
  obtain ⟨c, hc⟩ := checks34 { nd' with kind := 5, time := clip nd'.time } s' hsm
  have hc := (hc 260300 (by omega)).2
  obtain ⟨i, b, x, hi, hb1, hb2, hg⟩ := get_ex2 s' hsm i'.body
  have hg := hg 260299 (by omega)
  have hxv : x.vals.length ≤ 60000 := by
    cases b with
    | true => obtain ⟨hi', _, rfl⟩ := hb1 rfl; exact (hsm.ok.slot _ (List.getElem_mem hi')).vals
    | false => rw [(hb2 rfl).1]; exact Nat.zero_le _
  have hnum := numbers_pure x hxv 260299 (by omega)
  have h77 := slot77 260299 s' i'.body x b hg
  have h78 := held78 260299 s' i'.body x b _ hg hnum
  have h57 := expected57 260299 s' i'.body x b hg
  have ex : (if b then x.n else 1) = (if b then x else ⟨i'.body, 1, 0, [], []⟩ : Slt).n := by cases b <;> rfl
  have ev : numsV x.vals = numsV (if b then x else ⟨i'.body, 1, 0, [], []⟩ : Slt).vals := by
    cases b with
    | true => rfl
    | false => rw [(hb2 rfl).1]; rfl
  have hvv : (if b then x else ⟨i'.body, 1, 0, [], []⟩ : Slt).vals.length ≤ 60000 := by
    cases b with
    | true => exact hxv
    | false => exact Nat.zero_le _
  rw [ex] at h57
  rw [ev] at h78
  generalize (if b then x else ⟨i'.body, 1, 0, [], []⟩ : Slt) = y at h57 h78 h77 hvv
  obtain ⟨⟨y1, y2, y3, y4, y5, y6⟩, n, t, ms, vs⟩ := y
  obtain ⟨k', t', st', ⟨ms', ma', mo', ⟨v1', v2', v3', v4', v5', v6'⟩⟩, x', b1', b2', ⟨w1', w2', w3', w4', w5', w6'⟩⟩ := i'
  obtain ⟨g1, g2, g3, g4, g5, g6⟩ := g
  obtain ⟨sa, sb, ss⟩ := s
  obtain ⟨sa', sb', ss'⟩ := s'
  dsimp only at h57 h78 hvv
  have hn := cellsL_length vs
  have hn2 : (intsC (numsV vs)).length = vs.length := by simp [intsC, numsV]
  have hlen := bne_nat' (hn2.trans hn.symm)
  have hne : (n != n) = false := by simp
  generalize clip nd'.time = tn at ho hc
  cases h0 : (c != 0) with
  | true => exact callF_of [(17, .p (.tup [.agg { nd' with kind := 5, time := tn }.cells, .agg (Stt.mk sa' sb' ss').cells, .agg (Inp.mk k' (clip t') st' ⟨ms', ma', mo', ⟨v1', v2', v3', v4', v5', v6'⟩⟩ x' b1' b2' ⟨w1', w2', w3', w4', w5', w6'⟩).cells])), (21, .p (boolX true)), (26, .p (num c)), (27, .b true), (29, .p (boolX true))] [] (pf5 ho hk hc h0 hk) (by kernel_rfl)
  | false =>
    have hl := lk_loop 260300 y1 y2 y3 n t y4 (cellsL y5) (cellsF y6) (msgsC ms) vs hvv (by omega) ⟨[(8, .ptr 4 0 0), (10, .sl false 1 (intsC (numsV vs))), (11, num 0)], [.var { nd' with kind := 5, time := tn }.cells, .var (Stt.mk sa' sb' ss').cells, .var (Val.mk g1 g2 g3 g4 g5 g6).cells, .var (Inp.mk k' (clip t') st' ⟨ms', ma', mo', ⟨v1', v2', v3', v4', v5', v6'⟩⟩ x' b1' b2' ⟨w1', w2', w3', w4', w5', w6'⟩).cells, .var (slotC y1 y2 y3 y4 (cellsL y5) (cellsF y6) n t (msgsC ms) (cellsL vs))]⟩ (by kernel_rfl)
    exact callF_of [(17, .p (.tup [.agg { nd' with kind := 5, time := tn }.cells, .agg (Stt.mk sa' sb' ss').cells, .agg (Inp.mk k' (clip t') st' ⟨ms', ma', mo', ⟨v1', v2', v3', v4', v5', v6'⟩⟩ x' b1' b2' ⟨w1', w2', w3', w4', w5', w6'⟩).cells])), (21, .p (boolX true)), (26, .p (num c)), (27, .b false), (34, .p (.tup [.agg (Slt.mk ⟨y1, y2, y3, y4, y5, y6⟩ n t ms vs).cells, boolX b])), (40, .p (.sl false 1 (intsC (numsV vs)))), (44, .p (num n)), (47, .b false), (54, .b false)] [(.exit 0, lkE y1 y2 y3 n t y4 (cellsL y5) (cellsF y6) (msgsC ms) (cellsL vs) (intsC (numsV vs)) (intsC (numsV vs)).length)] (pf10 ho hk hc h0 h77 h78 h57 hne hlen hl) (by kernel_rfl)
end Go.Proofs.YtbfnfldmnombgaaGreatDoor
