/- Equality of lists of outputs and of requests (printed by gen_eqs.py). -/
import Derived.Test.YtonnphbfclaigaaGreatDoorO19
set_option linter.all false
namespace Go.Proofs.YtonnphbfclaigaaGreatDoor
open Go.Em
set_option maxRecDepth 100000

section
variable (g : Nat) (l m : List (List X)) (j : Nat)
def sm73H : St := ⟨[(0, .sl false 11 l), (1, .sl false 11 m), (2, .fn g []), (14, nat l.length), (15, nat j)], []⟩
def sm73Eq : St := ⟨[(0, .sl false 11 l), (1, .sl false 11 m), (2, .fn g []), (14, nat l.length), (15, nat j), (16, boolX false)], []⟩
theorem sm73_canon : canon 0 (sm73H g l m j) = some (sm73H g l m j) := by kernel_rfl
end
theorem sm73_loop (M : Nat) (g : Nat) (la lb : List Otp) (r : Otp → Otp → Bool) (hr : ∀ a b, a ∈ la → b ∈ lb → Gam.pureD (callF tab ext M) g [.agg a.cells, .agg b.cells] = some (boolX (r a b))) (hlen : la.length = lb.length) (hl : la.length < 1000000) : ∀ d j F, j + d = la.length → d < F →
    (eqL r (la.drop j) (lb.drop j) = false ∧ iter 0 (run (callF tab ext M) 0 M (loopAt 73 0)) F (sm73H g (otpsC la) (otpsC lb) j) = some (.ret, ⟨[(6, boolX false)], []⟩)) ∨
    (eqL r (la.drop j) (lb.drop j) = true ∧ iter 0 (run (callF tab ext M) 0 M (loopAt 73 0)) F (sm73H g (otpsC la) (otpsC lb) j) = some (.exit 0, sm73Eq g (otpsC la) (otpsC lb) (otpsC la).length))
  | 0, j, F, hj, hF => by
    obtain ⟨F', rfl⟩ : ∃ F', F = F' + 1 := ⟨F - 1, by omega⟩
    have hn := otpsC_length la
    obtain rfl : j = (otpsC la).length := by omega
    have h : run (callF tab ext M) 0 M (loopAt 73 0) (sm73H g (otpsC la) (otpsC lb) (otpsC la).length) = some (.exit 0, sm73Eq g (otpsC la) (otpsC lb) (otpsC la).length) :=
      run_of [(16, .b false)] [] (pf1 (nlt_nat (Nat.lt_irrefl (otpsC la).length))) (lo' := []) (by kernel_rfl)
    right
    refine ⟨?_, iter_end (sm73_canon _ _ _ _) h (by simp)⟩
    rw [hn, List.drop_length, hlen, List.drop_length]; rfl
  | d + 1, j, F, hj, hF => by
    obtain ⟨F', rfl⟩ : ∃ F', F = F' + 1 := ⟨F - 1, by omega⟩
    have hn := otpsC_length la
    have hj' : j < la.length := by omega
    have hb : j < lb.length := by omega
    have hd : la.drop j = la[j] :: la.drop (j + 1) := by rw [← List.getElem_cons_drop hj']
    have hdb : lb.drop j = lb[j] :: lb.drop (j + 1) := by rw [← List.getElem_cons_drop hb]
    have hg := otpsC_get hj'
    have hgb := otpsC_get hb
    have hc := hr _ _ (List.getElem_mem hj') (List.getElem_mem hb)
    rw [hd, hdb, eqL]
    generalize la[j] = a at hg hc
    generalize lb[j] = b at hgb hc
    obtain ⟨aq, ⟨⟨a1, a2⟩, a3, a4, a5, a6, a7, a8, a9, a0⟩⟩ := a
    obtain ⟨bq, ⟨⟨b1, b2⟩, b3, b4, b5, b6, b7, b8, b9, b0⟩⟩ := b
    cases h : r (Otp.mk aq (Msg.mk ⟨a1, a2⟩ a3 a4 (Val.mk a5 a6 a7 a8 a9 a0))) (Otp.mk bq (Msg.mk ⟨b1, b2⟩ b3 b4 (Val.mk b5 b6 b7 b8 b9 b0))) with
    | true =>
      rw [h] at hc
      have hs : run (callF tab ext M) 0 M (loopAt 73 0) (sm73H g (otpsC la) (otpsC lb) j) = some (.norm, sm73H g (otpsC la) (otpsC lb) (j + 1)) :=
        run_of [(16, .b true), (21, .e (Otp.mk aq (Msg.mk ⟨a1, a2⟩ a3 a4 (Val.mk a5 a6 a7 a8 a9 a0))).cells), (25, .e (Otp.mk bq (Msg.mk ⟨b1, b2⟩ b3 b4 (Val.mk b5 b6 b7 b8 b9 b0))).cells), (27, .p (boolX true)), (29, .i (Int.ofNat (j + 1)))] []
          (pf5 (lt_nat (j := j) (k := (otpsC la).length) (by omega)) hg hgb hc (next_nat (j := j) (by omega))) (lo' := []) (by kernel_rfl)
      rw [iter_step (sm73_canon _ _ _ _) hs rfl, Bool.true_and]
      exact sm73_loop M g la lb r hr hlen hl d (j + 1) F' (by omega) (by omega)
    | false =>
      rw [h] at hc
      left
      refine ⟨by rw [Bool.false_and], ?_⟩
      exact iter_end (sm73_canon _ _ _ _) (run_of [(16, .b true), (21, .e (Otp.mk aq (Msg.mk ⟨a1, a2⟩ a3 a4 (Val.mk a5 a6 a7 a8 a9 a0))).cells), (25, .e (Otp.mk bq (Msg.mk ⟨b1, b2⟩ b3 b4 (Val.mk b5 b6 b7 b8 b9 b0))).cells), (27, .p (boolX false))] []
          (pf4 (lt_nat (j := j) (k := (otpsC la).length) (by omega)) hg hgb hc) (lo' := []) (σ' := ⟨[(6, boolX false)], []⟩) (by kernel_rfl)) (by simp)
theorem sm73_pure (M : Nat) (g : Nat) (la lb : List Otp) (r : Otp → Otp → Bool) (hr : ∀ a b, a ∈ la → b ∈ lb → Gam.pureD (callF tab ext M) g [.agg a.cells, .agg b.cells] = some (boolX (r a b))) (hl : la.length < 1000000) (hN : la.length < M) :
    Gam.pureD (callF tab ext (M + 1)) 73 [.sl false 11 (otpsC la), .sl false 11 (otpsC lb), .fn g []] = some (boolX (eqL r la lb)) := by
  have hn := otpsC_length la
  have hm := otpsC_length lb
  by_cases hlen : la.length = lb.length
  · rcases sm73_loop M g la lb r hr hlen hl la.length 0 M (by omega) hN with ⟨h0, h⟩ | ⟨h0, h⟩
    · have h0' : eqL r la lb = false := h0
      rw [h0']
      exact pure_of [(12, .b false)] [(.ret, ⟨[(6, boolX false)], []⟩)] (pf2 (nat_ne_false (j := (otpsC la).length) (k := (otpsC lb).length) (by omega)) h) (x := boolX false) (bx := []) (by kernel_rfl) rfl
    · have h0' : eqL r la lb = true := h0
      rw [h0']
      exact pure_of [(12, .b false)] [(.exit 0, sm73Eq g (otpsC la) (otpsC lb) (otpsC la).length)] (pf2 (nat_ne_false (j := (otpsC la).length) (k := (otpsC lb).length) (by omega)) h) (x := boolX true) (bx := []) (by kernel_rfl) rfl
  · rw [eqL_len hlen]
    exact pure_of [(12, .b true)] [] (pf1 (nat_ne_true (j := (otpsC la).length) (k := (otpsC lb).length) (by omega))) (x := boolX false) (bx := []) (by kernel_rfl) rfl

section
variable (g : Nat) (l m : List (List X)) (j : Nat)
def sm74H : St := ⟨[(0, .sl false 11 l), (1, .sl false 11 m), (2, .fn g []), (14, nat l.length), (15, nat j)], []⟩
def sm74Eq : St := ⟨[(0, .sl false 11 l), (1, .sl false 11 m), (2, .fn g []), (14, nat l.length), (15, nat j), (16, boolX false)], []⟩
theorem sm74_canon : canon 0 (sm74H g l m j) = some (sm74H g l m j) := by kernel_rfl
end
theorem sm74_loop (M : Nat) (g : Nat) (la lb : List Req) (r : Req → Req → Bool) (hr : ∀ a b, a ∈ la → b ∈ lb → Gam.pureD (callF tab ext M) g [.agg a.cells, .agg b.cells] = some (boolX (r a b))) (hlen : la.length = lb.length) (hl : la.length < 1000000) : ∀ d j F, j + d = la.length → d < F →
    (eqL r (la.drop j) (lb.drop j) = false ∧ iter 0 (run (callF tab ext M) 0 M (loopAt 74 0)) F (sm74H g (reqsC la) (reqsC lb) j) = some (.ret, ⟨[(6, boolX false)], []⟩)) ∨
    (eqL r (la.drop j) (lb.drop j) = true ∧ iter 0 (run (callF tab ext M) 0 M (loopAt 74 0)) F (sm74H g (reqsC la) (reqsC lb) j) = some (.exit 0, sm74Eq g (reqsC la) (reqsC lb) (reqsC la).length))
  | 0, j, F, hj, hF => by
    obtain ⟨F', rfl⟩ : ∃ F', F = F' + 1 := ⟨F - 1, by omega⟩
    have hn := reqsC_length la
    obtain rfl : j = (reqsC la).length := by omega
    have h : run (callF tab ext M) 0 M (loopAt 74 0) (sm74H g (reqsC la) (reqsC lb) (reqsC la).length) = some (.exit 0, sm74Eq g (reqsC la) (reqsC lb) (reqsC la).length) :=
      run_of [(16, .b false)] [] (pf1 (nlt_nat (Nat.lt_irrefl (reqsC la).length))) (lo' := []) (by kernel_rfl)
    right
    refine ⟨?_, iter_end (sm74_canon _ _ _ _) h (by simp)⟩
    rw [hn, List.drop_length, hlen, List.drop_length]; rfl
  | d + 1, j, F, hj, hF => by
    obtain ⟨F', rfl⟩ : ∃ F', F = F' + 1 := ⟨F - 1, by omega⟩
    have hn := reqsC_length la
    have hj' : j < la.length := by omega
    have hb : j < lb.length := by omega
    have hd : la.drop j = la[j] :: la.drop (j + 1) := by rw [← List.getElem_cons_drop hj']
    have hdb : lb.drop j = lb[j] :: lb.drop (j + 1) := by rw [← List.getElem_cons_drop hb]
    have hg := reqsC_get hj'
    have hgb := reqsC_get hb
    have hc := hr _ _ (List.getElem_mem hj') (List.getElem_mem hb)
    rw [hd, hdb, eqL]
    generalize la[j] = a at hg hc
    generalize lb[j] = b at hgb hc
    obtain ⟨⟨a1, a2⟩, a3, a4, aq, a5, a6, a7, a8, a9, a0⟩ := a
    obtain ⟨⟨b1, b2⟩, b3, b4, bq, b5, b6, b7, b8, b9, b0⟩ := b
    cases h : r (Req.mk ⟨a1, a2⟩ a3 a4 aq (Val.mk a5 a6 a7 a8 a9 a0)) (Req.mk ⟨b1, b2⟩ b3 b4 bq (Val.mk b5 b6 b7 b8 b9 b0)) with
    | true =>
      rw [h] at hc
      have hs : run (callF tab ext M) 0 M (loopAt 74 0) (sm74H g (reqsC la) (reqsC lb) j) = some (.norm, sm74H g (reqsC la) (reqsC lb) (j + 1)) :=
        run_of [(16, .b true), (21, .e (Req.mk ⟨a1, a2⟩ a3 a4 aq (Val.mk a5 a6 a7 a8 a9 a0)).cells), (25, .e (Req.mk ⟨b1, b2⟩ b3 b4 bq (Val.mk b5 b6 b7 b8 b9 b0)).cells), (27, .p (boolX true)), (29, .i (Int.ofNat (j + 1)))] []
          (pf5 (lt_nat (j := j) (k := (reqsC la).length) (by omega)) hg hgb hc (next_nat (j := j) (by omega))) (lo' := []) (by kernel_rfl)
      rw [iter_step (sm74_canon _ _ _ _) hs rfl, Bool.true_and]
      exact sm74_loop M g la lb r hr hlen hl d (j + 1) F' (by omega) (by omega)
    | false =>
      rw [h] at hc
      left
      refine ⟨by rw [Bool.false_and], ?_⟩
      exact iter_end (sm74_canon _ _ _ _) (run_of [(16, .b true), (21, .e (Req.mk ⟨a1, a2⟩ a3 a4 aq (Val.mk a5 a6 a7 a8 a9 a0)).cells), (25, .e (Req.mk ⟨b1, b2⟩ b3 b4 bq (Val.mk b5 b6 b7 b8 b9 b0)).cells), (27, .p (boolX false))] []
          (pf4 (lt_nat (j := j) (k := (reqsC la).length) (by omega)) hg hgb hc) (lo' := []) (σ' := ⟨[(6, boolX false)], []⟩) (by kernel_rfl)) (by simp)
theorem sm74_pure (M : Nat) (g : Nat) (la lb : List Req) (r : Req → Req → Bool) (hr : ∀ a b, a ∈ la → b ∈ lb → Gam.pureD (callF tab ext M) g [.agg a.cells, .agg b.cells] = some (boolX (r a b))) (hl : la.length < 1000000) (hN : la.length < M) :
    Gam.pureD (callF tab ext (M + 1)) 74 [.sl false 11 (reqsC la), .sl false 11 (reqsC lb), .fn g []] = some (boolX (eqL r la lb)) := by
  have hn := reqsC_length la
  have hm := reqsC_length lb
  by_cases hlen : la.length = lb.length
  · rcases sm74_loop M g la lb r hr hlen hl la.length 0 M (by omega) hN with ⟨h0, h⟩ | ⟨h0, h⟩
    · have h0' : eqL r la lb = false := h0
      rw [h0']
      exact pure_of [(12, .b false)] [(.ret, ⟨[(6, boolX false)], []⟩)] (pf2 (nat_ne_false (j := (reqsC la).length) (k := (reqsC lb).length) (by omega)) h) (x := boolX false) (bx := []) (by kernel_rfl) rfl
    · have h0' : eqL r la lb = true := h0
      rw [h0']
      exact pure_of [(12, .b false)] [(.exit 0, sm74Eq g (reqsC la) (reqsC lb) (reqsC la).length)] (pf2 (nat_ne_false (j := (reqsC la).length) (k := (reqsC lb).length) (by omega)) h) (x := boolX true) (bx := []) (by kernel_rfl) rfl
  · rw [eqL_len hlen]
    exact pure_of [(12, .b true)] [] (pf1 (nat_ne_true (j := (reqsC la).length) (k := (reqsC lb).length) (by omega))) (x := boolX false) (bx := []) (by kernel_rfl) rfl
end Go.Proofs.YtonnphbfclaigaaGreatDoor

/- SameRequests, SameOutcome, EqualOutcome at any two outcomes (printed by gen_eqs.py). -/
namespace Go.Proofs.YtonnphbfclaigaaGreatDoor
open Go.Em
set_option maxRecDepth 100000
section
variable (l m : List (List X)) (j : Nat)
def srH : St := ⟨[(0, .sl false 11 l), (1, .sl false 11 m), (5, nat j)], []⟩
def srE : St := ⟨[(0, .sl false 11 l), (1, .sl false 11 m), (5, nat j), (16, boolX false)], []⟩
def srT (a b : List X) : St := ⟨[(0, .sl false 11 l), (1, .sl false 11 m), (5, nat j), (6, .ptr 0 0 0), (7, .ptr 1 0 0)], [.var a, .var b]⟩
theorem sr_canon : canon 0 (srH l m j) = some (srH l m j) := by kernel_rfl
theorem sr_end (M : Nat) : run (callF tab ext M) 0 M (loopAt 78 0) (srH l m l.length) = some (.exit 0, srE l m l.length) :=
  run_of [(16, .b false)] [] (pf1 (nlt_nat (Nat.lt_irrefl l.length))) (lo' := []) (by kernel_rfl)
end
theorem not_t {b : Bool} (h : b = true) : (!b) = false := by rw [h]; rfl
theorem not_f {b : Bool} (h : b = false) : (!b) = true := by rw [h]; rfl
theorem sr_round0 (M : Nat) (a b : Req) (l m : List (List X)) (h1 : Gam.pureD (callF tab ext M) 46 [.agg a.st.cells, .agg b.st.cells] = some (boolX (sEq a.st b.st))) (h2 : Gam.pureD (callF tab ext M) 72 [.agg a.body.cells, .agg b.body.cells] = some (boolX (vEq a.body b.body))) :
    (rEq a b = true ∧ ∃ υ, run (callF tab ext M) 0 M (loopAt 78 0) (srH (a.cells :: l) (b.cells :: m) 0) = some (.norm, υ) ∧ canon 0 υ = some (srH (a.cells :: l) (b.cells :: m) (0 + 1))) ∨
    (rEq a b = false ∧ ∃ bx, run (callF tab ext M) 0 M (loopAt 78 0) (srH (a.cells :: l) (b.cells :: m) 0) = some (.ret, ⟨[(4, boolX false)], bx⟩)) := by
  have hlt := lt_nat (j := 0) (k := (a.cells :: l).length) (by simp only [List.length_cons]; omega)
  unfold rEq
  obtain ⟨⟨a1, a2⟩, a3, a4, u, a5, a6, a7, a8, a9, a0⟩ := a
  obtain ⟨⟨b1, b2⟩, b3, b4, w, b5, b6, b7, b8, b9, b0⟩ := b
  dsimp only at h1 h2 ⊢
  cases c0 : sEq ⟨a1, a2⟩ ⟨b1, b2⟩ with
  | false =>
    rw [c0] at h1
    right
    exact ⟨rfl, [.var (Req.mk ⟨a1, a2⟩ a3 a4 u (Val.mk a5 a6 a7 a8 a9 a0)).cells, .var (Req.mk ⟨b1, b2⟩ b3 b4 w (Val.mk b5 b6 b7 b8 b9 b0)).cells], run_of [(16, .b true), (31, .p (boolX false))] [] (pf3 hlt (rfl : srT ((Req.mk ⟨a1, a2⟩ a3 a4 u (Val.mk a5 a6 a7 a8 a9 a0)).cells :: l) ((Req.mk ⟨b1, b2⟩ b3 b4 w (Val.mk b5 b6 b7 b8 b9 b0)).cells :: m) 0 (Req.mk ⟨a1, a2⟩ a3 a4 u (Val.mk a5 a6 a7 a8 a9 a0)).cells (Req.mk ⟨b1, b2⟩ b3 b4 w (Val.mk b5 b6 b7 b8 b9 b0)).cells = _) h1) (lo' := []) (by kernel_rfl)⟩
  | true =>
    rw [c0] at h1
    cases c1 : a3.toList == b3.toList with
    | false =>
      right
      exact ⟨rfl, [.var (Req.mk ⟨a1, a2⟩ a3 a4 u (Val.mk a5 a6 a7 a8 a9 a0)).cells, .var (Req.mk ⟨b1, b2⟩ b3 b4 w (Val.mk b5 b6 b7 b8 b9 b0)).cells], run_of [(16, .b true), (31, .p (boolX true)), (38, .b true)] [] (pf4 hlt (rfl : srT ((Req.mk ⟨a1, a2⟩ a3 a4 u (Val.mk a5 a6 a7 a8 a9 a0)).cells :: l) ((Req.mk ⟨b1, b2⟩ b3 b4 w (Val.mk b5 b6 b7 b8 b9 b0)).cells :: m) 0 (Req.mk ⟨a1, a2⟩ a3 a4 u (Val.mk a5 a6 a7 a8 a9 a0)).cells (Req.mk ⟨b1, b2⟩ b3 b4 w (Val.mk b5 b6 b7 b8 b9 b0)).cells = _) h1 (not_f c1)) (lo' := []) (by kernel_rfl)⟩
    | true =>
      cases c2 : a4 == b4 with
      | false =>
        right
        exact ⟨rfl, [.var (Req.mk ⟨a1, a2⟩ a3 a4 u (Val.mk a5 a6 a7 a8 a9 a0)).cells, .var (Req.mk ⟨b1, b2⟩ b3 b4 w (Val.mk b5 b6 b7 b8 b9 b0)).cells], run_of [(16, .b true), (31, .p (boolX true)), (38, .b false), (45, .b true)] [] (pf5 hlt (rfl : srT ((Req.mk ⟨a1, a2⟩ a3 a4 u (Val.mk a5 a6 a7 a8 a9 a0)).cells :: l) ((Req.mk ⟨b1, b2⟩ b3 b4 w (Val.mk b5 b6 b7 b8 b9 b0)).cells :: m) 0 (Req.mk ⟨a1, a2⟩ a3 a4 u (Val.mk a5 a6 a7 a8 a9 a0)).cells (Req.mk ⟨b1, b2⟩ b3 b4 w (Val.mk b5 b6 b7 b8 b9 b0)).cells = _) h1 (not_t c1) (not_f c2)) (lo' := []) (by kernel_rfl)⟩
      | true =>
        cases c3 : u == w with
        | false =>
          right
          exact ⟨rfl, [.var (Req.mk ⟨a1, a2⟩ a3 a4 u (Val.mk a5 a6 a7 a8 a9 a0)).cells, .var (Req.mk ⟨b1, b2⟩ b3 b4 w (Val.mk b5 b6 b7 b8 b9 b0)).cells], run_of [(16, .b true), (31, .p (boolX true)), (38, .b false), (45, .b false), (52, .b true)] [] (pf6 hlt (rfl : srT ((Req.mk ⟨a1, a2⟩ a3 a4 u (Val.mk a5 a6 a7 a8 a9 a0)).cells :: l) ((Req.mk ⟨b1, b2⟩ b3 b4 w (Val.mk b5 b6 b7 b8 b9 b0)).cells :: m) 0 (Req.mk ⟨a1, a2⟩ a3 a4 u (Val.mk a5 a6 a7 a8 a9 a0)).cells (Req.mk ⟨b1, b2⟩ b3 b4 w (Val.mk b5 b6 b7 b8 b9 b0)).cells = _) h1 (not_t c1) (not_t c2) (not_f c3)) (lo' := []) (by kernel_rfl)⟩
        | true =>
          cases c4 : vEq (.mk a5 a6 a7 a8 a9 a0) (.mk b5 b6 b7 b8 b9 b0) with
          | false =>
            rw [c4] at h2
            right
            exact ⟨rfl, [.var (Req.mk ⟨a1, a2⟩ a3 a4 u (Val.mk a5 a6 a7 a8 a9 a0)).cells, .var (Req.mk ⟨b1, b2⟩ b3 b4 w (Val.mk b5 b6 b7 b8 b9 b0)).cells], run_of [(16, .b true), (31, .p (boolX true)), (38, .b false), (45, .b false), (52, .b false), (59, .p (boolX false))] [] (pf7 hlt (rfl : srT ((Req.mk ⟨a1, a2⟩ a3 a4 u (Val.mk a5 a6 a7 a8 a9 a0)).cells :: l) ((Req.mk ⟨b1, b2⟩ b3 b4 w (Val.mk b5 b6 b7 b8 b9 b0)).cells :: m) 0 (Req.mk ⟨a1, a2⟩ a3 a4 u (Val.mk a5 a6 a7 a8 a9 a0)).cells (Req.mk ⟨b1, b2⟩ b3 b4 w (Val.mk b5 b6 b7 b8 b9 b0)).cells = _) h1 (not_t c1) (not_t c2) (not_t c3) h2) (lo' := []) (by kernel_rfl)⟩
          | true =>
            rw [c4] at h2
            left
            refine ⟨rfl, ⟨(srH ((Req.mk ⟨a1, a2⟩ a3 a4 u (Val.mk a5 a6 a7 a8 a9 a0)).cells :: l) ((Req.mk ⟨b1, b2⟩ b3 b4 w (Val.mk b5 b6 b7 b8 b9 b0)).cells :: m) (0 + 1)).tm, [.var (Req.mk ⟨a1, a2⟩ a3 a4 u (Val.mk a5 a6 a7 a8 a9 a0)).cells, .var (Req.mk ⟨b1, b2⟩ b3 b4 w (Val.mk b5 b6 b7 b8 b9 b0)).cells]⟩, run_of [(16, .b true), (31, .p (boolX true)), (38, .b false), (45, .b false), (52, .b false), (59, .p (boolX true))] [] (pf7 hlt (rfl : srT ((Req.mk ⟨a1, a2⟩ a3 a4 u (Val.mk a5 a6 a7 a8 a9 a0)).cells :: l) ((Req.mk ⟨b1, b2⟩ b3 b4 w (Val.mk b5 b6 b7 b8 b9 b0)).cells :: m) 0 (Req.mk ⟨a1, a2⟩ a3 a4 u (Val.mk a5 a6 a7 a8 a9 a0)).cells (Req.mk ⟨b1, b2⟩ b3 b4 w (Val.mk b5 b6 b7 b8 b9 b0)).cells = _) h1 (not_t c1) (not_t c2) (not_t c3) h2) (lo' := []) (by kernel_rfl), by kernel_rfl⟩
theorem sr_round1 (M : Nat) (a b : Req) (p0 q0 : List X) (l m : List (List X)) (h1 : Gam.pureD (callF tab ext M) 46 [.agg a.st.cells, .agg b.st.cells] = some (boolX (sEq a.st b.st))) (h2 : Gam.pureD (callF tab ext M) 72 [.agg a.body.cells, .agg b.body.cells] = some (boolX (vEq a.body b.body))) :
    (rEq a b = true ∧ ∃ υ, run (callF tab ext M) 0 M (loopAt 78 0) (srH (p0 :: a.cells :: l) (q0 :: b.cells :: m) 1) = some (.norm, υ) ∧ canon 0 υ = some (srH (p0 :: a.cells :: l) (q0 :: b.cells :: m) (1 + 1))) ∨
    (rEq a b = false ∧ ∃ bx, run (callF tab ext M) 0 M (loopAt 78 0) (srH (p0 :: a.cells :: l) (q0 :: b.cells :: m) 1) = some (.ret, ⟨[(4, boolX false)], bx⟩)) := by
  have hlt := lt_nat (j := 1) (k := (p0 :: a.cells :: l).length) (by simp only [List.length_cons]; omega)
  unfold rEq
  obtain ⟨⟨a1, a2⟩, a3, a4, u, a5, a6, a7, a8, a9, a0⟩ := a
  obtain ⟨⟨b1, b2⟩, b3, b4, w, b5, b6, b7, b8, b9, b0⟩ := b
  dsimp only at h1 h2 ⊢
  cases c0 : sEq ⟨a1, a2⟩ ⟨b1, b2⟩ with
  | false =>
    rw [c0] at h1
    right
    exact ⟨rfl, [.var (Req.mk ⟨a1, a2⟩ a3 a4 u (Val.mk a5 a6 a7 a8 a9 a0)).cells, .var (Req.mk ⟨b1, b2⟩ b3 b4 w (Val.mk b5 b6 b7 b8 b9 b0)).cells], run_of [(16, .b true), (31, .p (boolX false))] [] (pf3 hlt (rfl : srT (p0 :: (Req.mk ⟨a1, a2⟩ a3 a4 u (Val.mk a5 a6 a7 a8 a9 a0)).cells :: l) (q0 :: (Req.mk ⟨b1, b2⟩ b3 b4 w (Val.mk b5 b6 b7 b8 b9 b0)).cells :: m) 1 (Req.mk ⟨a1, a2⟩ a3 a4 u (Val.mk a5 a6 a7 a8 a9 a0)).cells (Req.mk ⟨b1, b2⟩ b3 b4 w (Val.mk b5 b6 b7 b8 b9 b0)).cells = _) h1) (lo' := []) (by kernel_rfl)⟩
  | true =>
    rw [c0] at h1
    cases c1 : a3.toList == b3.toList with
    | false =>
      right
      exact ⟨rfl, [.var (Req.mk ⟨a1, a2⟩ a3 a4 u (Val.mk a5 a6 a7 a8 a9 a0)).cells, .var (Req.mk ⟨b1, b2⟩ b3 b4 w (Val.mk b5 b6 b7 b8 b9 b0)).cells], run_of [(16, .b true), (31, .p (boolX true)), (38, .b true)] [] (pf4 hlt (rfl : srT (p0 :: (Req.mk ⟨a1, a2⟩ a3 a4 u (Val.mk a5 a6 a7 a8 a9 a0)).cells :: l) (q0 :: (Req.mk ⟨b1, b2⟩ b3 b4 w (Val.mk b5 b6 b7 b8 b9 b0)).cells :: m) 1 (Req.mk ⟨a1, a2⟩ a3 a4 u (Val.mk a5 a6 a7 a8 a9 a0)).cells (Req.mk ⟨b1, b2⟩ b3 b4 w (Val.mk b5 b6 b7 b8 b9 b0)).cells = _) h1 (not_f c1)) (lo' := []) (by kernel_rfl)⟩
    | true =>
      cases c2 : a4 == b4 with
      | false =>
        right
        exact ⟨rfl, [.var (Req.mk ⟨a1, a2⟩ a3 a4 u (Val.mk a5 a6 a7 a8 a9 a0)).cells, .var (Req.mk ⟨b1, b2⟩ b3 b4 w (Val.mk b5 b6 b7 b8 b9 b0)).cells], run_of [(16, .b true), (31, .p (boolX true)), (38, .b false), (45, .b true)] [] (pf5 hlt (rfl : srT (p0 :: (Req.mk ⟨a1, a2⟩ a3 a4 u (Val.mk a5 a6 a7 a8 a9 a0)).cells :: l) (q0 :: (Req.mk ⟨b1, b2⟩ b3 b4 w (Val.mk b5 b6 b7 b8 b9 b0)).cells :: m) 1 (Req.mk ⟨a1, a2⟩ a3 a4 u (Val.mk a5 a6 a7 a8 a9 a0)).cells (Req.mk ⟨b1, b2⟩ b3 b4 w (Val.mk b5 b6 b7 b8 b9 b0)).cells = _) h1 (not_t c1) (not_f c2)) (lo' := []) (by kernel_rfl)⟩
      | true =>
        cases c3 : u == w with
        | false =>
          right
          exact ⟨rfl, [.var (Req.mk ⟨a1, a2⟩ a3 a4 u (Val.mk a5 a6 a7 a8 a9 a0)).cells, .var (Req.mk ⟨b1, b2⟩ b3 b4 w (Val.mk b5 b6 b7 b8 b9 b0)).cells], run_of [(16, .b true), (31, .p (boolX true)), (38, .b false), (45, .b false), (52, .b true)] [] (pf6 hlt (rfl : srT (p0 :: (Req.mk ⟨a1, a2⟩ a3 a4 u (Val.mk a5 a6 a7 a8 a9 a0)).cells :: l) (q0 :: (Req.mk ⟨b1, b2⟩ b3 b4 w (Val.mk b5 b6 b7 b8 b9 b0)).cells :: m) 1 (Req.mk ⟨a1, a2⟩ a3 a4 u (Val.mk a5 a6 a7 a8 a9 a0)).cells (Req.mk ⟨b1, b2⟩ b3 b4 w (Val.mk b5 b6 b7 b8 b9 b0)).cells = _) h1 (not_t c1) (not_t c2) (not_f c3)) (lo' := []) (by kernel_rfl)⟩
        | true =>
          cases c4 : vEq (.mk a5 a6 a7 a8 a9 a0) (.mk b5 b6 b7 b8 b9 b0) with
          | false =>
            rw [c4] at h2
            right
            exact ⟨rfl, [.var (Req.mk ⟨a1, a2⟩ a3 a4 u (Val.mk a5 a6 a7 a8 a9 a0)).cells, .var (Req.mk ⟨b1, b2⟩ b3 b4 w (Val.mk b5 b6 b7 b8 b9 b0)).cells], run_of [(16, .b true), (31, .p (boolX true)), (38, .b false), (45, .b false), (52, .b false), (59, .p (boolX false))] [] (pf7 hlt (rfl : srT (p0 :: (Req.mk ⟨a1, a2⟩ a3 a4 u (Val.mk a5 a6 a7 a8 a9 a0)).cells :: l) (q0 :: (Req.mk ⟨b1, b2⟩ b3 b4 w (Val.mk b5 b6 b7 b8 b9 b0)).cells :: m) 1 (Req.mk ⟨a1, a2⟩ a3 a4 u (Val.mk a5 a6 a7 a8 a9 a0)).cells (Req.mk ⟨b1, b2⟩ b3 b4 w (Val.mk b5 b6 b7 b8 b9 b0)).cells = _) h1 (not_t c1) (not_t c2) (not_t c3) h2) (lo' := []) (by kernel_rfl)⟩
          | true =>
            rw [c4] at h2
            left
            refine ⟨rfl, ⟨(srH (p0 :: (Req.mk ⟨a1, a2⟩ a3 a4 u (Val.mk a5 a6 a7 a8 a9 a0)).cells :: l) (q0 :: (Req.mk ⟨b1, b2⟩ b3 b4 w (Val.mk b5 b6 b7 b8 b9 b0)).cells :: m) (1 + 1)).tm, [.var (Req.mk ⟨a1, a2⟩ a3 a4 u (Val.mk a5 a6 a7 a8 a9 a0)).cells, .var (Req.mk ⟨b1, b2⟩ b3 b4 w (Val.mk b5 b6 b7 b8 b9 b0)).cells]⟩, run_of [(16, .b true), (31, .p (boolX true)), (38, .b false), (45, .b false), (52, .b false), (59, .p (boolX true))] [] (pf7 hlt (rfl : srT (p0 :: (Req.mk ⟨a1, a2⟩ a3 a4 u (Val.mk a5 a6 a7 a8 a9 a0)).cells :: l) (q0 :: (Req.mk ⟨b1, b2⟩ b3 b4 w (Val.mk b5 b6 b7 b8 b9 b0)).cells :: m) 1 (Req.mk ⟨a1, a2⟩ a3 a4 u (Val.mk a5 a6 a7 a8 a9 a0)).cells (Req.mk ⟨b1, b2⟩ b3 b4 w (Val.mk b5 b6 b7 b8 b9 b0)).cells = _) h1 (not_t c1) (not_t c2) (not_t c3) h2) (lo' := []) (by kernel_rfl), by kernel_rfl⟩
theorem sr_round2 (M : Nat) (a b : Req) (p0 p1 q0 q1 : List X) (l m : List (List X)) (h1 : Gam.pureD (callF tab ext M) 46 [.agg a.st.cells, .agg b.st.cells] = some (boolX (sEq a.st b.st))) (h2 : Gam.pureD (callF tab ext M) 72 [.agg a.body.cells, .agg b.body.cells] = some (boolX (vEq a.body b.body))) :
    (rEq a b = true ∧ ∃ υ, run (callF tab ext M) 0 M (loopAt 78 0) (srH (p0 :: p1 :: a.cells :: l) (q0 :: q1 :: b.cells :: m) 2) = some (.norm, υ) ∧ canon 0 υ = some (srH (p0 :: p1 :: a.cells :: l) (q0 :: q1 :: b.cells :: m) (2 + 1))) ∨
    (rEq a b = false ∧ ∃ bx, run (callF tab ext M) 0 M (loopAt 78 0) (srH (p0 :: p1 :: a.cells :: l) (q0 :: q1 :: b.cells :: m) 2) = some (.ret, ⟨[(4, boolX false)], bx⟩)) := by
  have hlt := lt_nat (j := 2) (k := (p0 :: p1 :: a.cells :: l).length) (by simp only [List.length_cons]; omega)
  unfold rEq
  obtain ⟨⟨a1, a2⟩, a3, a4, u, a5, a6, a7, a8, a9, a0⟩ := a
  obtain ⟨⟨b1, b2⟩, b3, b4, w, b5, b6, b7, b8, b9, b0⟩ := b
  dsimp only at h1 h2 ⊢
  cases c0 : sEq ⟨a1, a2⟩ ⟨b1, b2⟩ with
  | false =>
    rw [c0] at h1
    right
    exact ⟨rfl, [.var (Req.mk ⟨a1, a2⟩ a3 a4 u (Val.mk a5 a6 a7 a8 a9 a0)).cells, .var (Req.mk ⟨b1, b2⟩ b3 b4 w (Val.mk b5 b6 b7 b8 b9 b0)).cells], run_of [(16, .b true), (31, .p (boolX false))] [] (pf3 hlt (rfl : srT (p0 :: p1 :: (Req.mk ⟨a1, a2⟩ a3 a4 u (Val.mk a5 a6 a7 a8 a9 a0)).cells :: l) (q0 :: q1 :: (Req.mk ⟨b1, b2⟩ b3 b4 w (Val.mk b5 b6 b7 b8 b9 b0)).cells :: m) 2 (Req.mk ⟨a1, a2⟩ a3 a4 u (Val.mk a5 a6 a7 a8 a9 a0)).cells (Req.mk ⟨b1, b2⟩ b3 b4 w (Val.mk b5 b6 b7 b8 b9 b0)).cells = _) h1) (lo' := []) (by kernel_rfl)⟩
  | true =>
    rw [c0] at h1
    cases c1 : a3.toList == b3.toList with
    | false =>
      right
      exact ⟨rfl, [.var (Req.mk ⟨a1, a2⟩ a3 a4 u (Val.mk a5 a6 a7 a8 a9 a0)).cells, .var (Req.mk ⟨b1, b2⟩ b3 b4 w (Val.mk b5 b6 b7 b8 b9 b0)).cells], run_of [(16, .b true), (31, .p (boolX true)), (38, .b true)] [] (pf4 hlt (rfl : srT (p0 :: p1 :: (Req.mk ⟨a1, a2⟩ a3 a4 u (Val.mk a5 a6 a7 a8 a9 a0)).cells :: l) (q0 :: q1 :: (Req.mk ⟨b1, b2⟩ b3 b4 w (Val.mk b5 b6 b7 b8 b9 b0)).cells :: m) 2 (Req.mk ⟨a1, a2⟩ a3 a4 u (Val.mk a5 a6 a7 a8 a9 a0)).cells (Req.mk ⟨b1, b2⟩ b3 b4 w (Val.mk b5 b6 b7 b8 b9 b0)).cells = _) h1 (not_f c1)) (lo' := []) (by kernel_rfl)⟩
    | true =>
      cases c2 : a4 == b4 with
      | false =>
        right
        exact ⟨rfl, [.var (Req.mk ⟨a1, a2⟩ a3 a4 u (Val.mk a5 a6 a7 a8 a9 a0)).cells, .var (Req.mk ⟨b1, b2⟩ b3 b4 w (Val.mk b5 b6 b7 b8 b9 b0)).cells], run_of [(16, .b true), (31, .p (boolX true)), (38, .b false), (45, .b true)] [] (pf5 hlt (rfl : srT (p0 :: p1 :: (Req.mk ⟨a1, a2⟩ a3 a4 u (Val.mk a5 a6 a7 a8 a9 a0)).cells :: l) (q0 :: q1 :: (Req.mk ⟨b1, b2⟩ b3 b4 w (Val.mk b5 b6 b7 b8 b9 b0)).cells :: m) 2 (Req.mk ⟨a1, a2⟩ a3 a4 u (Val.mk a5 a6 a7 a8 a9 a0)).cells (Req.mk ⟨b1, b2⟩ b3 b4 w (Val.mk b5 b6 b7 b8 b9 b0)).cells = _) h1 (not_t c1) (not_f c2)) (lo' := []) (by kernel_rfl)⟩
      | true =>
        cases c3 : u == w with
        | false =>
          right
          exact ⟨rfl, [.var (Req.mk ⟨a1, a2⟩ a3 a4 u (Val.mk a5 a6 a7 a8 a9 a0)).cells, .var (Req.mk ⟨b1, b2⟩ b3 b4 w (Val.mk b5 b6 b7 b8 b9 b0)).cells], run_of [(16, .b true), (31, .p (boolX true)), (38, .b false), (45, .b false), (52, .b true)] [] (pf6 hlt (rfl : srT (p0 :: p1 :: (Req.mk ⟨a1, a2⟩ a3 a4 u (Val.mk a5 a6 a7 a8 a9 a0)).cells :: l) (q0 :: q1 :: (Req.mk ⟨b1, b2⟩ b3 b4 w (Val.mk b5 b6 b7 b8 b9 b0)).cells :: m) 2 (Req.mk ⟨a1, a2⟩ a3 a4 u (Val.mk a5 a6 a7 a8 a9 a0)).cells (Req.mk ⟨b1, b2⟩ b3 b4 w (Val.mk b5 b6 b7 b8 b9 b0)).cells = _) h1 (not_t c1) (not_t c2) (not_f c3)) (lo' := []) (by kernel_rfl)⟩
        | true =>
          cases c4 : vEq (.mk a5 a6 a7 a8 a9 a0) (.mk b5 b6 b7 b8 b9 b0) with
          | false =>
            rw [c4] at h2
            right
            exact ⟨rfl, [.var (Req.mk ⟨a1, a2⟩ a3 a4 u (Val.mk a5 a6 a7 a8 a9 a0)).cells, .var (Req.mk ⟨b1, b2⟩ b3 b4 w (Val.mk b5 b6 b7 b8 b9 b0)).cells], run_of [(16, .b true), (31, .p (boolX true)), (38, .b false), (45, .b false), (52, .b false), (59, .p (boolX false))] [] (pf7 hlt (rfl : srT (p0 :: p1 :: (Req.mk ⟨a1, a2⟩ a3 a4 u (Val.mk a5 a6 a7 a8 a9 a0)).cells :: l) (q0 :: q1 :: (Req.mk ⟨b1, b2⟩ b3 b4 w (Val.mk b5 b6 b7 b8 b9 b0)).cells :: m) 2 (Req.mk ⟨a1, a2⟩ a3 a4 u (Val.mk a5 a6 a7 a8 a9 a0)).cells (Req.mk ⟨b1, b2⟩ b3 b4 w (Val.mk b5 b6 b7 b8 b9 b0)).cells = _) h1 (not_t c1) (not_t c2) (not_t c3) h2) (lo' := []) (by kernel_rfl)⟩
          | true =>
            rw [c4] at h2
            left
            refine ⟨rfl, ⟨(srH (p0 :: p1 :: (Req.mk ⟨a1, a2⟩ a3 a4 u (Val.mk a5 a6 a7 a8 a9 a0)).cells :: l) (q0 :: q1 :: (Req.mk ⟨b1, b2⟩ b3 b4 w (Val.mk b5 b6 b7 b8 b9 b0)).cells :: m) (2 + 1)).tm, [.var (Req.mk ⟨a1, a2⟩ a3 a4 u (Val.mk a5 a6 a7 a8 a9 a0)).cells, .var (Req.mk ⟨b1, b2⟩ b3 b4 w (Val.mk b5 b6 b7 b8 b9 b0)).cells]⟩, run_of [(16, .b true), (31, .p (boolX true)), (38, .b false), (45, .b false), (52, .b false), (59, .p (boolX true))] [] (pf7 hlt (rfl : srT (p0 :: p1 :: (Req.mk ⟨a1, a2⟩ a3 a4 u (Val.mk a5 a6 a7 a8 a9 a0)).cells :: l) (q0 :: q1 :: (Req.mk ⟨b1, b2⟩ b3 b4 w (Val.mk b5 b6 b7 b8 b9 b0)).cells :: m) 2 (Req.mk ⟨a1, a2⟩ a3 a4 u (Val.mk a5 a6 a7 a8 a9 a0)).cells (Req.mk ⟨b1, b2⟩ b3 b4 w (Val.mk b5 b6 b7 b8 b9 b0)).cells = _) h1 (not_t c1) (not_t c2) (not_t c3) h2) (lo' := []) (by kernel_rfl), by kernel_rfl⟩
theorem sr_round3 (M : Nat) (a b : Req) (p0 p1 p2 q0 q1 q2 : List X) (l m : List (List X)) (h1 : Gam.pureD (callF tab ext M) 46 [.agg a.st.cells, .agg b.st.cells] = some (boolX (sEq a.st b.st))) (h2 : Gam.pureD (callF tab ext M) 72 [.agg a.body.cells, .agg b.body.cells] = some (boolX (vEq a.body b.body))) :
    (rEq a b = true ∧ ∃ υ, run (callF tab ext M) 0 M (loopAt 78 0) (srH (p0 :: p1 :: p2 :: a.cells :: l) (q0 :: q1 :: q2 :: b.cells :: m) 3) = some (.norm, υ) ∧ canon 0 υ = some (srH (p0 :: p1 :: p2 :: a.cells :: l) (q0 :: q1 :: q2 :: b.cells :: m) (3 + 1))) ∨
    (rEq a b = false ∧ ∃ bx, run (callF tab ext M) 0 M (loopAt 78 0) (srH (p0 :: p1 :: p2 :: a.cells :: l) (q0 :: q1 :: q2 :: b.cells :: m) 3) = some (.ret, ⟨[(4, boolX false)], bx⟩)) := by
  have hlt := lt_nat (j := 3) (k := (p0 :: p1 :: p2 :: a.cells :: l).length) (by simp only [List.length_cons]; omega)
  unfold rEq
  obtain ⟨⟨a1, a2⟩, a3, a4, u, a5, a6, a7, a8, a9, a0⟩ := a
  obtain ⟨⟨b1, b2⟩, b3, b4, w, b5, b6, b7, b8, b9, b0⟩ := b
  dsimp only at h1 h2 ⊢
  cases c0 : sEq ⟨a1, a2⟩ ⟨b1, b2⟩ with
  | false =>
    rw [c0] at h1
    right
    exact ⟨rfl, [.var (Req.mk ⟨a1, a2⟩ a3 a4 u (Val.mk a5 a6 a7 a8 a9 a0)).cells, .var (Req.mk ⟨b1, b2⟩ b3 b4 w (Val.mk b5 b6 b7 b8 b9 b0)).cells], run_of [(16, .b true), (31, .p (boolX false))] [] (pf3 hlt (rfl : srT (p0 :: p1 :: p2 :: (Req.mk ⟨a1, a2⟩ a3 a4 u (Val.mk a5 a6 a7 a8 a9 a0)).cells :: l) (q0 :: q1 :: q2 :: (Req.mk ⟨b1, b2⟩ b3 b4 w (Val.mk b5 b6 b7 b8 b9 b0)).cells :: m) 3 (Req.mk ⟨a1, a2⟩ a3 a4 u (Val.mk a5 a6 a7 a8 a9 a0)).cells (Req.mk ⟨b1, b2⟩ b3 b4 w (Val.mk b5 b6 b7 b8 b9 b0)).cells = _) h1) (lo' := []) (by kernel_rfl)⟩
  | true =>
    rw [c0] at h1
    cases c1 : a3.toList == b3.toList with
    | false =>
      right
      exact ⟨rfl, [.var (Req.mk ⟨a1, a2⟩ a3 a4 u (Val.mk a5 a6 a7 a8 a9 a0)).cells, .var (Req.mk ⟨b1, b2⟩ b3 b4 w (Val.mk b5 b6 b7 b8 b9 b0)).cells], run_of [(16, .b true), (31, .p (boolX true)), (38, .b true)] [] (pf4 hlt (rfl : srT (p0 :: p1 :: p2 :: (Req.mk ⟨a1, a2⟩ a3 a4 u (Val.mk a5 a6 a7 a8 a9 a0)).cells :: l) (q0 :: q1 :: q2 :: (Req.mk ⟨b1, b2⟩ b3 b4 w (Val.mk b5 b6 b7 b8 b9 b0)).cells :: m) 3 (Req.mk ⟨a1, a2⟩ a3 a4 u (Val.mk a5 a6 a7 a8 a9 a0)).cells (Req.mk ⟨b1, b2⟩ b3 b4 w (Val.mk b5 b6 b7 b8 b9 b0)).cells = _) h1 (not_f c1)) (lo' := []) (by kernel_rfl)⟩
    | true =>
      cases c2 : a4 == b4 with
      | false =>
        right
        exact ⟨rfl, [.var (Req.mk ⟨a1, a2⟩ a3 a4 u (Val.mk a5 a6 a7 a8 a9 a0)).cells, .var (Req.mk ⟨b1, b2⟩ b3 b4 w (Val.mk b5 b6 b7 b8 b9 b0)).cells], run_of [(16, .b true), (31, .p (boolX true)), (38, .b false), (45, .b true)] [] (pf5 hlt (rfl : srT (p0 :: p1 :: p2 :: (Req.mk ⟨a1, a2⟩ a3 a4 u (Val.mk a5 a6 a7 a8 a9 a0)).cells :: l) (q0 :: q1 :: q2 :: (Req.mk ⟨b1, b2⟩ b3 b4 w (Val.mk b5 b6 b7 b8 b9 b0)).cells :: m) 3 (Req.mk ⟨a1, a2⟩ a3 a4 u (Val.mk a5 a6 a7 a8 a9 a0)).cells (Req.mk ⟨b1, b2⟩ b3 b4 w (Val.mk b5 b6 b7 b8 b9 b0)).cells = _) h1 (not_t c1) (not_f c2)) (lo' := []) (by kernel_rfl)⟩
      | true =>
        cases c3 : u == w with
        | false =>
          right
          exact ⟨rfl, [.var (Req.mk ⟨a1, a2⟩ a3 a4 u (Val.mk a5 a6 a7 a8 a9 a0)).cells, .var (Req.mk ⟨b1, b2⟩ b3 b4 w (Val.mk b5 b6 b7 b8 b9 b0)).cells], run_of [(16, .b true), (31, .p (boolX true)), (38, .b false), (45, .b false), (52, .b true)] [] (pf6 hlt (rfl : srT (p0 :: p1 :: p2 :: (Req.mk ⟨a1, a2⟩ a3 a4 u (Val.mk a5 a6 a7 a8 a9 a0)).cells :: l) (q0 :: q1 :: q2 :: (Req.mk ⟨b1, b2⟩ b3 b4 w (Val.mk b5 b6 b7 b8 b9 b0)).cells :: m) 3 (Req.mk ⟨a1, a2⟩ a3 a4 u (Val.mk a5 a6 a7 a8 a9 a0)).cells (Req.mk ⟨b1, b2⟩ b3 b4 w (Val.mk b5 b6 b7 b8 b9 b0)).cells = _) h1 (not_t c1) (not_t c2) (not_f c3)) (lo' := []) (by kernel_rfl)⟩
        | true =>
          cases c4 : vEq (.mk a5 a6 a7 a8 a9 a0) (.mk b5 b6 b7 b8 b9 b0) with
          | false =>
            rw [c4] at h2
            right
            exact ⟨rfl, [.var (Req.mk ⟨a1, a2⟩ a3 a4 u (Val.mk a5 a6 a7 a8 a9 a0)).cells, .var (Req.mk ⟨b1, b2⟩ b3 b4 w (Val.mk b5 b6 b7 b8 b9 b0)).cells], run_of [(16, .b true), (31, .p (boolX true)), (38, .b false), (45, .b false), (52, .b false), (59, .p (boolX false))] [] (pf7 hlt (rfl : srT (p0 :: p1 :: p2 :: (Req.mk ⟨a1, a2⟩ a3 a4 u (Val.mk a5 a6 a7 a8 a9 a0)).cells :: l) (q0 :: q1 :: q2 :: (Req.mk ⟨b1, b2⟩ b3 b4 w (Val.mk b5 b6 b7 b8 b9 b0)).cells :: m) 3 (Req.mk ⟨a1, a2⟩ a3 a4 u (Val.mk a5 a6 a7 a8 a9 a0)).cells (Req.mk ⟨b1, b2⟩ b3 b4 w (Val.mk b5 b6 b7 b8 b9 b0)).cells = _) h1 (not_t c1) (not_t c2) (not_t c3) h2) (lo' := []) (by kernel_rfl)⟩
          | true =>
            rw [c4] at h2
            left
            refine ⟨rfl, ⟨(srH (p0 :: p1 :: p2 :: (Req.mk ⟨a1, a2⟩ a3 a4 u (Val.mk a5 a6 a7 a8 a9 a0)).cells :: l) (q0 :: q1 :: q2 :: (Req.mk ⟨b1, b2⟩ b3 b4 w (Val.mk b5 b6 b7 b8 b9 b0)).cells :: m) (3 + 1)).tm, [.var (Req.mk ⟨a1, a2⟩ a3 a4 u (Val.mk a5 a6 a7 a8 a9 a0)).cells, .var (Req.mk ⟨b1, b2⟩ b3 b4 w (Val.mk b5 b6 b7 b8 b9 b0)).cells]⟩, run_of [(16, .b true), (31, .p (boolX true)), (38, .b false), (45, .b false), (52, .b false), (59, .p (boolX true))] [] (pf7 hlt (rfl : srT (p0 :: p1 :: p2 :: (Req.mk ⟨a1, a2⟩ a3 a4 u (Val.mk a5 a6 a7 a8 a9 a0)).cells :: l) (q0 :: q1 :: q2 :: (Req.mk ⟨b1, b2⟩ b3 b4 w (Val.mk b5 b6 b7 b8 b9 b0)).cells :: m) 3 (Req.mk ⟨a1, a2⟩ a3 a4 u (Val.mk a5 a6 a7 a8 a9 a0)).cells (Req.mk ⟨b1, b2⟩ b3 b4 w (Val.mk b5 b6 b7 b8 b9 b0)).cells = _) h1 (not_t c1) (not_t c2) (not_t c3) h2) (lo' := []) (by kernel_rfl), by kernel_rfl⟩
theorem sr_round4 (M : Nat) (a b : Req) (p0 p1 p2 p3 q0 q1 q2 q3 : List X) (l m : List (List X)) (h1 : Gam.pureD (callF tab ext M) 46 [.agg a.st.cells, .agg b.st.cells] = some (boolX (sEq a.st b.st))) (h2 : Gam.pureD (callF tab ext M) 72 [.agg a.body.cells, .agg b.body.cells] = some (boolX (vEq a.body b.body))) :
    (rEq a b = true ∧ ∃ υ, run (callF tab ext M) 0 M (loopAt 78 0) (srH (p0 :: p1 :: p2 :: p3 :: a.cells :: l) (q0 :: q1 :: q2 :: q3 :: b.cells :: m) 4) = some (.norm, υ) ∧ canon 0 υ = some (srH (p0 :: p1 :: p2 :: p3 :: a.cells :: l) (q0 :: q1 :: q2 :: q3 :: b.cells :: m) (4 + 1))) ∨
    (rEq a b = false ∧ ∃ bx, run (callF tab ext M) 0 M (loopAt 78 0) (srH (p0 :: p1 :: p2 :: p3 :: a.cells :: l) (q0 :: q1 :: q2 :: q3 :: b.cells :: m) 4) = some (.ret, ⟨[(4, boolX false)], bx⟩)) := by
  have hlt := lt_nat (j := 4) (k := (p0 :: p1 :: p2 :: p3 :: a.cells :: l).length) (by simp only [List.length_cons]; omega)
  unfold rEq
  obtain ⟨⟨a1, a2⟩, a3, a4, u, a5, a6, a7, a8, a9, a0⟩ := a
  obtain ⟨⟨b1, b2⟩, b3, b4, w, b5, b6, b7, b8, b9, b0⟩ := b
  dsimp only at h1 h2 ⊢
  cases c0 : sEq ⟨a1, a2⟩ ⟨b1, b2⟩ with
  | false =>
    rw [c0] at h1
    right
    exact ⟨rfl, [.var (Req.mk ⟨a1, a2⟩ a3 a4 u (Val.mk a5 a6 a7 a8 a9 a0)).cells, .var (Req.mk ⟨b1, b2⟩ b3 b4 w (Val.mk b5 b6 b7 b8 b9 b0)).cells], run_of [(16, .b true), (31, .p (boolX false))] [] (pf3 hlt (rfl : srT (p0 :: p1 :: p2 :: p3 :: (Req.mk ⟨a1, a2⟩ a3 a4 u (Val.mk a5 a6 a7 a8 a9 a0)).cells :: l) (q0 :: q1 :: q2 :: q3 :: (Req.mk ⟨b1, b2⟩ b3 b4 w (Val.mk b5 b6 b7 b8 b9 b0)).cells :: m) 4 (Req.mk ⟨a1, a2⟩ a3 a4 u (Val.mk a5 a6 a7 a8 a9 a0)).cells (Req.mk ⟨b1, b2⟩ b3 b4 w (Val.mk b5 b6 b7 b8 b9 b0)).cells = _) h1) (lo' := []) (by kernel_rfl)⟩
  | true =>
    rw [c0] at h1
    cases c1 : a3.toList == b3.toList with
    | false =>
      right
      exact ⟨rfl, [.var (Req.mk ⟨a1, a2⟩ a3 a4 u (Val.mk a5 a6 a7 a8 a9 a0)).cells, .var (Req.mk ⟨b1, b2⟩ b3 b4 w (Val.mk b5 b6 b7 b8 b9 b0)).cells], run_of [(16, .b true), (31, .p (boolX true)), (38, .b true)] [] (pf4 hlt (rfl : srT (p0 :: p1 :: p2 :: p3 :: (Req.mk ⟨a1, a2⟩ a3 a4 u (Val.mk a5 a6 a7 a8 a9 a0)).cells :: l) (q0 :: q1 :: q2 :: q3 :: (Req.mk ⟨b1, b2⟩ b3 b4 w (Val.mk b5 b6 b7 b8 b9 b0)).cells :: m) 4 (Req.mk ⟨a1, a2⟩ a3 a4 u (Val.mk a5 a6 a7 a8 a9 a0)).cells (Req.mk ⟨b1, b2⟩ b3 b4 w (Val.mk b5 b6 b7 b8 b9 b0)).cells = _) h1 (not_f c1)) (lo' := []) (by kernel_rfl)⟩
    | true =>
      cases c2 : a4 == b4 with
      | false =>
        right
        exact ⟨rfl, [.var (Req.mk ⟨a1, a2⟩ a3 a4 u (Val.mk a5 a6 a7 a8 a9 a0)).cells, .var (Req.mk ⟨b1, b2⟩ b3 b4 w (Val.mk b5 b6 b7 b8 b9 b0)).cells], run_of [(16, .b true), (31, .p (boolX true)), (38, .b false), (45, .b true)] [] (pf5 hlt (rfl : srT (p0 :: p1 :: p2 :: p3 :: (Req.mk ⟨a1, a2⟩ a3 a4 u (Val.mk a5 a6 a7 a8 a9 a0)).cells :: l) (q0 :: q1 :: q2 :: q3 :: (Req.mk ⟨b1, b2⟩ b3 b4 w (Val.mk b5 b6 b7 b8 b9 b0)).cells :: m) 4 (Req.mk ⟨a1, a2⟩ a3 a4 u (Val.mk a5 a6 a7 a8 a9 a0)).cells (Req.mk ⟨b1, b2⟩ b3 b4 w (Val.mk b5 b6 b7 b8 b9 b0)).cells = _) h1 (not_t c1) (not_f c2)) (lo' := []) (by kernel_rfl)⟩
      | true =>
        cases c3 : u == w with
        | false =>
          right
          exact ⟨rfl, [.var (Req.mk ⟨a1, a2⟩ a3 a4 u (Val.mk a5 a6 a7 a8 a9 a0)).cells, .var (Req.mk ⟨b1, b2⟩ b3 b4 w (Val.mk b5 b6 b7 b8 b9 b0)).cells], run_of [(16, .b true), (31, .p (boolX true)), (38, .b false), (45, .b false), (52, .b true)] [] (pf6 hlt (rfl : srT (p0 :: p1 :: p2 :: p3 :: (Req.mk ⟨a1, a2⟩ a3 a4 u (Val.mk a5 a6 a7 a8 a9 a0)).cells :: l) (q0 :: q1 :: q2 :: q3 :: (Req.mk ⟨b1, b2⟩ b3 b4 w (Val.mk b5 b6 b7 b8 b9 b0)).cells :: m) 4 (Req.mk ⟨a1, a2⟩ a3 a4 u (Val.mk a5 a6 a7 a8 a9 a0)).cells (Req.mk ⟨b1, b2⟩ b3 b4 w (Val.mk b5 b6 b7 b8 b9 b0)).cells = _) h1 (not_t c1) (not_t c2) (not_f c3)) (lo' := []) (by kernel_rfl)⟩
        | true =>
          cases c4 : vEq (.mk a5 a6 a7 a8 a9 a0) (.mk b5 b6 b7 b8 b9 b0) with
          | false =>
            rw [c4] at h2
            right
            exact ⟨rfl, [.var (Req.mk ⟨a1, a2⟩ a3 a4 u (Val.mk a5 a6 a7 a8 a9 a0)).cells, .var (Req.mk ⟨b1, b2⟩ b3 b4 w (Val.mk b5 b6 b7 b8 b9 b0)).cells], run_of [(16, .b true), (31, .p (boolX true)), (38, .b false), (45, .b false), (52, .b false), (59, .p (boolX false))] [] (pf7 hlt (rfl : srT (p0 :: p1 :: p2 :: p3 :: (Req.mk ⟨a1, a2⟩ a3 a4 u (Val.mk a5 a6 a7 a8 a9 a0)).cells :: l) (q0 :: q1 :: q2 :: q3 :: (Req.mk ⟨b1, b2⟩ b3 b4 w (Val.mk b5 b6 b7 b8 b9 b0)).cells :: m) 4 (Req.mk ⟨a1, a2⟩ a3 a4 u (Val.mk a5 a6 a7 a8 a9 a0)).cells (Req.mk ⟨b1, b2⟩ b3 b4 w (Val.mk b5 b6 b7 b8 b9 b0)).cells = _) h1 (not_t c1) (not_t c2) (not_t c3) h2) (lo' := []) (by kernel_rfl)⟩
          | true =>
            rw [c4] at h2
            left
            refine ⟨rfl, ⟨(srH (p0 :: p1 :: p2 :: p3 :: (Req.mk ⟨a1, a2⟩ a3 a4 u (Val.mk a5 a6 a7 a8 a9 a0)).cells :: l) (q0 :: q1 :: q2 :: q3 :: (Req.mk ⟨b1, b2⟩ b3 b4 w (Val.mk b5 b6 b7 b8 b9 b0)).cells :: m) (4 + 1)).tm, [.var (Req.mk ⟨a1, a2⟩ a3 a4 u (Val.mk a5 a6 a7 a8 a9 a0)).cells, .var (Req.mk ⟨b1, b2⟩ b3 b4 w (Val.mk b5 b6 b7 b8 b9 b0)).cells]⟩, run_of [(16, .b true), (31, .p (boolX true)), (38, .b false), (45, .b false), (52, .b false), (59, .p (boolX true))] [] (pf7 hlt (rfl : srT (p0 :: p1 :: p2 :: p3 :: (Req.mk ⟨a1, a2⟩ a3 a4 u (Val.mk a5 a6 a7 a8 a9 a0)).cells :: l) (q0 :: q1 :: q2 :: q3 :: (Req.mk ⟨b1, b2⟩ b3 b4 w (Val.mk b5 b6 b7 b8 b9 b0)).cells :: m) 4 (Req.mk ⟨a1, a2⟩ a3 a4 u (Val.mk a5 a6 a7 a8 a9 a0)).cells (Req.mk ⟨b1, b2⟩ b3 b4 w (Val.mk b5 b6 b7 b8 b9 b0)).cells = _) h1 (not_t c1) (not_t c2) (not_t c3) h2) (lo' := []) (by kernel_rfl), by kernel_rfl⟩
theorem sr_round5 (M : Nat) (a b : Req) (p0 p1 p2 p3 p4 q0 q1 q2 q3 q4 : List X) (l m : List (List X)) (h1 : Gam.pureD (callF tab ext M) 46 [.agg a.st.cells, .agg b.st.cells] = some (boolX (sEq a.st b.st))) (h2 : Gam.pureD (callF tab ext M) 72 [.agg a.body.cells, .agg b.body.cells] = some (boolX (vEq a.body b.body))) :
    (rEq a b = true ∧ ∃ υ, run (callF tab ext M) 0 M (loopAt 78 0) (srH (p0 :: p1 :: p2 :: p3 :: p4 :: a.cells :: l) (q0 :: q1 :: q2 :: q3 :: q4 :: b.cells :: m) 5) = some (.norm, υ) ∧ canon 0 υ = some (srH (p0 :: p1 :: p2 :: p3 :: p4 :: a.cells :: l) (q0 :: q1 :: q2 :: q3 :: q4 :: b.cells :: m) (5 + 1))) ∨
    (rEq a b = false ∧ ∃ bx, run (callF tab ext M) 0 M (loopAt 78 0) (srH (p0 :: p1 :: p2 :: p3 :: p4 :: a.cells :: l) (q0 :: q1 :: q2 :: q3 :: q4 :: b.cells :: m) 5) = some (.ret, ⟨[(4, boolX false)], bx⟩)) := by
  have hlt := lt_nat (j := 5) (k := (p0 :: p1 :: p2 :: p3 :: p4 :: a.cells :: l).length) (by simp only [List.length_cons]; omega)
  unfold rEq
  obtain ⟨⟨a1, a2⟩, a3, a4, u, a5, a6, a7, a8, a9, a0⟩ := a
  obtain ⟨⟨b1, b2⟩, b3, b4, w, b5, b6, b7, b8, b9, b0⟩ := b
  dsimp only at h1 h2 ⊢
  cases c0 : sEq ⟨a1, a2⟩ ⟨b1, b2⟩ with
  | false =>
    rw [c0] at h1
    right
    exact ⟨rfl, [.var (Req.mk ⟨a1, a2⟩ a3 a4 u (Val.mk a5 a6 a7 a8 a9 a0)).cells, .var (Req.mk ⟨b1, b2⟩ b3 b4 w (Val.mk b5 b6 b7 b8 b9 b0)).cells], run_of [(16, .b true), (31, .p (boolX false))] [] (pf3 hlt (rfl : srT (p0 :: p1 :: p2 :: p3 :: p4 :: (Req.mk ⟨a1, a2⟩ a3 a4 u (Val.mk a5 a6 a7 a8 a9 a0)).cells :: l) (q0 :: q1 :: q2 :: q3 :: q4 :: (Req.mk ⟨b1, b2⟩ b3 b4 w (Val.mk b5 b6 b7 b8 b9 b0)).cells :: m) 5 (Req.mk ⟨a1, a2⟩ a3 a4 u (Val.mk a5 a6 a7 a8 a9 a0)).cells (Req.mk ⟨b1, b2⟩ b3 b4 w (Val.mk b5 b6 b7 b8 b9 b0)).cells = _) h1) (lo' := []) (by kernel_rfl)⟩
  | true =>
    rw [c0] at h1
    cases c1 : a3.toList == b3.toList with
    | false =>
      right
      exact ⟨rfl, [.var (Req.mk ⟨a1, a2⟩ a3 a4 u (Val.mk a5 a6 a7 a8 a9 a0)).cells, .var (Req.mk ⟨b1, b2⟩ b3 b4 w (Val.mk b5 b6 b7 b8 b9 b0)).cells], run_of [(16, .b true), (31, .p (boolX true)), (38, .b true)] [] (pf4 hlt (rfl : srT (p0 :: p1 :: p2 :: p3 :: p4 :: (Req.mk ⟨a1, a2⟩ a3 a4 u (Val.mk a5 a6 a7 a8 a9 a0)).cells :: l) (q0 :: q1 :: q2 :: q3 :: q4 :: (Req.mk ⟨b1, b2⟩ b3 b4 w (Val.mk b5 b6 b7 b8 b9 b0)).cells :: m) 5 (Req.mk ⟨a1, a2⟩ a3 a4 u (Val.mk a5 a6 a7 a8 a9 a0)).cells (Req.mk ⟨b1, b2⟩ b3 b4 w (Val.mk b5 b6 b7 b8 b9 b0)).cells = _) h1 (not_f c1)) (lo' := []) (by kernel_rfl)⟩
    | true =>
      cases c2 : a4 == b4 with
      | false =>
        right
        exact ⟨rfl, [.var (Req.mk ⟨a1, a2⟩ a3 a4 u (Val.mk a5 a6 a7 a8 a9 a0)).cells, .var (Req.mk ⟨b1, b2⟩ b3 b4 w (Val.mk b5 b6 b7 b8 b9 b0)).cells], run_of [(16, .b true), (31, .p (boolX true)), (38, .b false), (45, .b true)] [] (pf5 hlt (rfl : srT (p0 :: p1 :: p2 :: p3 :: p4 :: (Req.mk ⟨a1, a2⟩ a3 a4 u (Val.mk a5 a6 a7 a8 a9 a0)).cells :: l) (q0 :: q1 :: q2 :: q3 :: q4 :: (Req.mk ⟨b1, b2⟩ b3 b4 w (Val.mk b5 b6 b7 b8 b9 b0)).cells :: m) 5 (Req.mk ⟨a1, a2⟩ a3 a4 u (Val.mk a5 a6 a7 a8 a9 a0)).cells (Req.mk ⟨b1, b2⟩ b3 b4 w (Val.mk b5 b6 b7 b8 b9 b0)).cells = _) h1 (not_t c1) (not_f c2)) (lo' := []) (by kernel_rfl)⟩
      | true =>
        cases c3 : u == w with
        | false =>
          right
          exact ⟨rfl, [.var (Req.mk ⟨a1, a2⟩ a3 a4 u (Val.mk a5 a6 a7 a8 a9 a0)).cells, .var (Req.mk ⟨b1, b2⟩ b3 b4 w (Val.mk b5 b6 b7 b8 b9 b0)).cells], run_of [(16, .b true), (31, .p (boolX true)), (38, .b false), (45, .b false), (52, .b true)] [] (pf6 hlt (rfl : srT (p0 :: p1 :: p2 :: p3 :: p4 :: (Req.mk ⟨a1, a2⟩ a3 a4 u (Val.mk a5 a6 a7 a8 a9 a0)).cells :: l) (q0 :: q1 :: q2 :: q3 :: q4 :: (Req.mk ⟨b1, b2⟩ b3 b4 w (Val.mk b5 b6 b7 b8 b9 b0)).cells :: m) 5 (Req.mk ⟨a1, a2⟩ a3 a4 u (Val.mk a5 a6 a7 a8 a9 a0)).cells (Req.mk ⟨b1, b2⟩ b3 b4 w (Val.mk b5 b6 b7 b8 b9 b0)).cells = _) h1 (not_t c1) (not_t c2) (not_f c3)) (lo' := []) (by kernel_rfl)⟩
        | true =>
          cases c4 : vEq (.mk a5 a6 a7 a8 a9 a0) (.mk b5 b6 b7 b8 b9 b0) with
          | false =>
            rw [c4] at h2
            right
            exact ⟨rfl, [.var (Req.mk ⟨a1, a2⟩ a3 a4 u (Val.mk a5 a6 a7 a8 a9 a0)).cells, .var (Req.mk ⟨b1, b2⟩ b3 b4 w (Val.mk b5 b6 b7 b8 b9 b0)).cells], run_of [(16, .b true), (31, .p (boolX true)), (38, .b false), (45, .b false), (52, .b false), (59, .p (boolX false))] [] (pf7 hlt (rfl : srT (p0 :: p1 :: p2 :: p3 :: p4 :: (Req.mk ⟨a1, a2⟩ a3 a4 u (Val.mk a5 a6 a7 a8 a9 a0)).cells :: l) (q0 :: q1 :: q2 :: q3 :: q4 :: (Req.mk ⟨b1, b2⟩ b3 b4 w (Val.mk b5 b6 b7 b8 b9 b0)).cells :: m) 5 (Req.mk ⟨a1, a2⟩ a3 a4 u (Val.mk a5 a6 a7 a8 a9 a0)).cells (Req.mk ⟨b1, b2⟩ b3 b4 w (Val.mk b5 b6 b7 b8 b9 b0)).cells = _) h1 (not_t c1) (not_t c2) (not_t c3) h2) (lo' := []) (by kernel_rfl)⟩
          | true =>
            rw [c4] at h2
            left
            refine ⟨rfl, ⟨(srH (p0 :: p1 :: p2 :: p3 :: p4 :: (Req.mk ⟨a1, a2⟩ a3 a4 u (Val.mk a5 a6 a7 a8 a9 a0)).cells :: l) (q0 :: q1 :: q2 :: q3 :: q4 :: (Req.mk ⟨b1, b2⟩ b3 b4 w (Val.mk b5 b6 b7 b8 b9 b0)).cells :: m) (5 + 1)).tm, [.var (Req.mk ⟨a1, a2⟩ a3 a4 u (Val.mk a5 a6 a7 a8 a9 a0)).cells, .var (Req.mk ⟨b1, b2⟩ b3 b4 w (Val.mk b5 b6 b7 b8 b9 b0)).cells]⟩, run_of [(16, .b true), (31, .p (boolX true)), (38, .b false), (45, .b false), (52, .b false), (59, .p (boolX true))] [] (pf7 hlt (rfl : srT (p0 :: p1 :: p2 :: p3 :: p4 :: (Req.mk ⟨a1, a2⟩ a3 a4 u (Val.mk a5 a6 a7 a8 a9 a0)).cells :: l) (q0 :: q1 :: q2 :: q3 :: q4 :: (Req.mk ⟨b1, b2⟩ b3 b4 w (Val.mk b5 b6 b7 b8 b9 b0)).cells :: m) 5 (Req.mk ⟨a1, a2⟩ a3 a4 u (Val.mk a5 a6 a7 a8 a9 a0)).cells (Req.mk ⟨b1, b2⟩ b3 b4 w (Val.mk b5 b6 b7 b8 b9 b0)).cells = _) h1 (not_t c1) (not_t c2) (not_t c3) h2) (lo' := []) (by kernel_rfl), by kernel_rfl⟩
theorem sr_loop (M : Nat) (hM : 190000 ≤ M) : ∀ (la lb : List Req) (pre qre : List (List X)) (F : Nat), la.length = lb.length → pre.length = qre.length → pre.length + la.length ≤ 6 → la.length < F → (∀ x, x ∈ la → x.ok) →
    (eqL rEq la lb = false ∧ ∃ bx, iter 0 (run (callF tab ext M) 0 M (loopAt 78 0)) F (srH (pre ++ reqsC la) (qre ++ reqsC lb) pre.length) = some (.ret, ⟨[(4, boolX false)], bx⟩)) ∨
    (eqL rEq la lb = true ∧ iter 0 (run (callF tab ext M) 0 M (loopAt 78 0)) F (srH (pre ++ reqsC la) (qre ++ reqsC lb) pre.length) = some (.exit 0, srE (pre ++ reqsC la) (qre ++ reqsC lb) (pre ++ reqsC la).length))
  | [], lb, pre, qre, F, hlen, hpq, h6, hF, ho => by
    obtain ⟨F', rfl⟩ : ∃ F', F = F' + 1 := ⟨F - 1, by simp only [List.length_nil] at hF; omega⟩
    have e : pre.length = (pre ++ reqsC []).length := by simp [reqsC]
    right
    have hb : lb = [] := List.length_eq_zero_iff.mp hlen.symm
    subst hb
    refine ⟨rfl, ?_⟩
    have h := sr_end (pre ++ reqsC []) (qre ++ reqsC []) M
    rw [← e] at h ⊢
    exact iter_end (sr_canon _ _ _) h (by simp)
  | a :: la, [], pre, qre, F, hlen, hpq, h6, hF, ho => by simp at hlen
  | a :: la, b :: lb, pre, qre, F, hlen, hpq, h6, hF, ho => by
    obtain ⟨F', rfl⟩ : ∃ F', F = F' + 1 := ⟨F - 1, by omega⟩
    have hoa := ho a List.mem_cons_self
    have h1 := stp_eq M a.st b.st hoa.st hM
    have h2 := val_eq M a.body b.body hoa.body hM
    simp only [List.length_cons] at hlen hF
    rw [eqL]
    match pre, qre, hpq, h6 with
      | [], [], _, h6 =>
        rcases sr_round0 M a b (reqsC la) (reqsC lb) h1 h2 with ⟨hr, υ, hs, hcn⟩ | ⟨hr, bx, hs⟩
        · rw [hr, Bool.true_and]
          have ih := sr_loop M hM la lb [a.cells] [b.cells] F' (by omega) rfl (by simp only [List.length_cons, List.length_nil] at h6 ⊢; omega) (by omega) (fun x hx => ho x (List.mem_cons_of_mem _ hx))
          have e := (iter_step (sr_canon _ _ _) hs rfl (n := F')).trans (iter_canon hcn (sr_canon _ _ _))
          rcases ih with ⟨h0, bz, h⟩ | ⟨h0, h⟩
          · exact .inl ⟨h0, bz, e.trans h⟩
          · exact .inr ⟨h0, e.trans h⟩
        · rw [hr, Bool.false_and]
          exact .inl ⟨rfl, bx, iter_end (sr_canon _ _ _) hs (by simp)⟩
      | [p0], [q0], _, h6 =>
        rcases sr_round1 M a b p0 q0 (reqsC la) (reqsC lb) h1 h2 with ⟨hr, υ, hs, hcn⟩ | ⟨hr, bx, hs⟩
        · rw [hr, Bool.true_and]
          have ih := sr_loop M hM la lb [p0, a.cells] [q0, b.cells] F' (by omega) rfl (by simp only [List.length_cons, List.length_nil] at h6 ⊢; omega) (by omega) (fun x hx => ho x (List.mem_cons_of_mem _ hx))
          have e := (iter_step (sr_canon _ _ _) hs rfl (n := F')).trans (iter_canon hcn (sr_canon _ _ _))
          rcases ih with ⟨h0, bz, h⟩ | ⟨h0, h⟩
          · exact .inl ⟨h0, bz, e.trans h⟩
          · exact .inr ⟨h0, e.trans h⟩
        · rw [hr, Bool.false_and]
          exact .inl ⟨rfl, bx, iter_end (sr_canon _ _ _) hs (by simp)⟩
      | [p0, p1], [q0, q1], _, h6 =>
        rcases sr_round2 M a b p0 p1 q0 q1 (reqsC la) (reqsC lb) h1 h2 with ⟨hr, υ, hs, hcn⟩ | ⟨hr, bx, hs⟩
        · rw [hr, Bool.true_and]
          have ih := sr_loop M hM la lb [p0, p1, a.cells] [q0, q1, b.cells] F' (by omega) rfl (by simp only [List.length_cons, List.length_nil] at h6 ⊢; omega) (by omega) (fun x hx => ho x (List.mem_cons_of_mem _ hx))
          have e := (iter_step (sr_canon _ _ _) hs rfl (n := F')).trans (iter_canon hcn (sr_canon _ _ _))
          rcases ih with ⟨h0, bz, h⟩ | ⟨h0, h⟩
          · exact .inl ⟨h0, bz, e.trans h⟩
          · exact .inr ⟨h0, e.trans h⟩
        · rw [hr, Bool.false_and]
          exact .inl ⟨rfl, bx, iter_end (sr_canon _ _ _) hs (by simp)⟩
      | [p0, p1, p2], [q0, q1, q2], _, h6 =>
        rcases sr_round3 M a b p0 p1 p2 q0 q1 q2 (reqsC la) (reqsC lb) h1 h2 with ⟨hr, υ, hs, hcn⟩ | ⟨hr, bx, hs⟩
        · rw [hr, Bool.true_and]
          have ih := sr_loop M hM la lb [p0, p1, p2, a.cells] [q0, q1, q2, b.cells] F' (by omega) rfl (by simp only [List.length_cons, List.length_nil] at h6 ⊢; omega) (by omega) (fun x hx => ho x (List.mem_cons_of_mem _ hx))
          have e := (iter_step (sr_canon _ _ _) hs rfl (n := F')).trans (iter_canon hcn (sr_canon _ _ _))
          rcases ih with ⟨h0, bz, h⟩ | ⟨h0, h⟩
          · exact .inl ⟨h0, bz, e.trans h⟩
          · exact .inr ⟨h0, e.trans h⟩
        · rw [hr, Bool.false_and]
          exact .inl ⟨rfl, bx, iter_end (sr_canon _ _ _) hs (by simp)⟩
      | [p0, p1, p2, p3], [q0, q1, q2, q3], _, h6 =>
        rcases sr_round4 M a b p0 p1 p2 p3 q0 q1 q2 q3 (reqsC la) (reqsC lb) h1 h2 with ⟨hr, υ, hs, hcn⟩ | ⟨hr, bx, hs⟩
        · rw [hr, Bool.true_and]
          have ih := sr_loop M hM la lb [p0, p1, p2, p3, a.cells] [q0, q1, q2, q3, b.cells] F' (by omega) rfl (by simp only [List.length_cons, List.length_nil] at h6 ⊢; omega) (by omega) (fun x hx => ho x (List.mem_cons_of_mem _ hx))
          have e := (iter_step (sr_canon _ _ _) hs rfl (n := F')).trans (iter_canon hcn (sr_canon _ _ _))
          rcases ih with ⟨h0, bz, h⟩ | ⟨h0, h⟩
          · exact .inl ⟨h0, bz, e.trans h⟩
          · exact .inr ⟨h0, e.trans h⟩
        · rw [hr, Bool.false_and]
          exact .inl ⟨rfl, bx, iter_end (sr_canon _ _ _) hs (by simp)⟩
      | [p0, p1, p2, p3, p4], [q0, q1, q2, q3, q4], _, h6 =>
        rcases sr_round5 M a b p0 p1 p2 p3 p4 q0 q1 q2 q3 q4 (reqsC la) (reqsC lb) h1 h2 with ⟨hr, υ, hs, hcn⟩ | ⟨hr, bx, hs⟩
        · rw [hr, Bool.true_and]
          have ih := sr_loop M hM la lb [p0, p1, p2, p3, p4, a.cells] [q0, q1, q2, q3, q4, b.cells] F' (by omega) rfl (by simp only [List.length_cons, List.length_nil] at h6 ⊢; omega) (by omega) (fun x hx => ho x (List.mem_cons_of_mem _ hx))
          have e := (iter_step (sr_canon _ _ _) hs rfl (n := F')).trans (iter_canon hcn (sr_canon _ _ _))
          rcases ih with ⟨h0, bz, h⟩ | ⟨h0, h⟩
          · exact .inl ⟨h0, bz, e.trans h⟩
          · exact .inr ⟨h0, e.trans h⟩
        · rw [hr, Bool.false_and]
          exact .inl ⟨rfl, bx, iter_end (sr_canon _ _ _) hs (by simp)⟩
      | _ :: _ :: _ :: _ :: _ :: _ :: _, _, _, h6 => simp only [List.length_cons] at h6; omega
theorem reqs_eq (N : Nat) (la lb : List Req) (hl : la.length ≤ 6) (ho : ∀ x, x ∈ la → x.ok) (hN : 190001 ≤ N) : Gam.pureD (callF tab ext N) 78 [.sl false 11 (reqsC la), .sl false 11 (reqsC lb)] = some (boolX (eqL rEq la lb)) := by
  obtain ⟨M, rfl⟩ : ∃ M, N = M + 1 := ⟨N - 1, by omega⟩
  have hn := reqsC_length la
  have hm := reqsC_length lb
  by_cases hlen : la.length = lb.length
  · rcases sr_loop M (by omega) la lb [] [] M hlen rfl (by simp; omega) (by omega) ho with ⟨h0, bx, h⟩ | ⟨h0, h⟩
    · rw [h0]
      exact pure_of [(12, .b false)] [(.ret, ⟨[(4, boolX false)], bx⟩)] (pf2 (nat_ne_false (j := (reqsC la).length) (k := (reqsC lb).length) (by omega)) h) (x := boolX false) (bx := []) (by kernel_rfl) rfl
    · rw [h0]
      exact pure_of [(12, .b false)] [(.exit 0, srE (reqsC la) (reqsC lb) (reqsC la).length)] (pf2 (nat_ne_false (j := (reqsC la).length) (k := (reqsC lb).length) (by omega)) h) (x := boolX true) (bx := []) (by kernel_rfl) rfl
  · rw [eqL_len hlen]
    exact pure_of [(12, .b true)] [] (pf1 (nat_ne_true (j := (reqsC la).length) (k := (reqsC lb).length) (by omega))) (x := boolX false) (bx := []) (by kernel_rfl) rfl
end Go.Proofs.YtonnphbfclaigaaGreatDoor

/- SameOutcome and EqualOutcome at any two outcomes say the same (printed by gen_eqs.py). -/
namespace Go.Proofs.YtonnphbfclaigaaGreatDoor
open Go.Em
set_option maxRecDepth 100000
def ocC (n t : Int) (sl ou rq ft lt : List (List X)) : List X := [num n, num t, .sl false 10 sl, .sl false 11 ou, .sl false 11 rq, .sl false 6 ft, .sl false 10 lt]
section
variable (n t n' t' : Int) (sl ou rq ft lt sl' ou' rq' ft' lt' : List (List X)) (j : Nat)
def so31B : List Bx := [.var (ocC n t sl ou rq ft lt), .var (ocC n' t' sl' ou' rq' ft' lt')]
def so31H : St := ⟨[(2, .ptr 0 0 0), (3, .ptr 1 0 0), (5, nat j)], so31B n t n' t' sl ou rq ft lt sl' ou' rq' ft' lt'⟩
def so31E : St := ⟨[(2, .ptr 0 0 0), (3, .ptr 1 0 0), (5, nat j), (25, boolX false)], so31B n t n' t' sl ou rq ft lt sl' ou' rq' ft' lt'⟩
theorem so31_canon : canon 0 (so31H n t n' t' sl ou rq ft lt sl' ou' rq' ft' lt' j) = some (so31H n t n' t' sl ou rq ft lt sl' ou' rq' ft' lt' j) := by kernel_rfl
theorem so31_loop (M : Nat) (hM : 190001 ≤ M) (la lb : List Otp) (ho : ∀ x, x ∈ la → x.m.ok) (hlen : la.length = lb.length) (hl : la.length < 1000000) : ∀ d j F, j + d = la.length → d < F →
    (eqL oEq (la.drop j) (lb.drop j) = false ∧ ∃ bx, iter 0 (run (callF tab ext M) 0 M (loopAt 31 0)) F (so31H n t n' t' sl (otpsC la) rq ft lt sl' (otpsC lb) rq' ft' lt' j) = some (.ret, ⟨[(4, boolX false)], bx⟩)) ∨
    (eqL oEq (la.drop j) (lb.drop j) = true ∧ iter 0 (run (callF tab ext M) 0 M (loopAt 31 0)) F (so31H n t n' t' sl (otpsC la) rq ft lt sl' (otpsC lb) rq' ft' lt' j) = some (.exit 0, so31E n t n' t' sl (otpsC la) rq ft lt sl' (otpsC lb) rq' ft' lt' (otpsC la).length))
  | 0, j, F, hj, hF => by
    obtain ⟨F', rfl⟩ : ∃ F', F = F' + 1 := ⟨F - 1, by omega⟩
    have hn := otpsC_length la
    obtain rfl : j = (otpsC la).length := by omega
    have h : run (callF tab ext M) 0 M (loopAt 31 0) (so31H n t n' t' sl (otpsC la) rq ft lt sl' (otpsC lb) rq' ft' lt' (otpsC la).length) = some (.exit 0, so31E n t n' t' sl (otpsC la) rq ft lt sl' (otpsC lb) rq' ft' lt' (otpsC la).length) :=
      run_of [(25, .b false)] [] (pf1 (nlt_nat (Nat.lt_irrefl (otpsC la).length))) (lo' := []) (by kernel_rfl)
    right
    refine ⟨?_, iter_end (so31_canon _ _ _ _ _ _ _ _ _ _ _ _ _ _ _) h (by simp)⟩
    rw [hn, List.drop_length, hlen, List.drop_length]; rfl
  | d + 1, j, F, hj, hF => by
    obtain ⟨F', rfl⟩ : ∃ F', F = F' + 1 := ⟨F - 1, by omega⟩
    have hn := otpsC_length la
    have hj' : j < la.length := by omega
    have hb : j < lb.length := by omega
    have hd : la.drop j = la[j] :: la.drop (j + 1) := by rw [← List.getElem_cons_drop hj']
    have hdb : lb.drop j = lb[j] :: lb.drop (j + 1) := by rw [← List.getElem_cons_drop hb]
    have hg := otpsC_get hj'
    have hgb := otpsC_get hb
    have hc := msg_eq M la[j].m lb[j].m (ho _ (List.getElem_mem hj')) hM
    have ih := so31_loop M hM la lb ho hlen hl d (j + 1) F' (by omega) (by omega)
    rw [hd, hdb, eqL]
    generalize la[j] = a at hg hc
    generalize lb[j] = b at hgb hc
    unfold oEq
    obtain ⟨p, ⟨⟨a1, a2⟩, a3, a4, a5, a6, a7, a8, a9, a0⟩⟩ := a
    obtain ⟨q, ⟨⟨b1, b2⟩, b3, b4, b5, b6, b7, b8, b9, b0⟩⟩ := b
    dsimp only at hc ⊢
    cases c0 : p == q with
    | false =>
      left
      exact ⟨rfl, so31B n t n' t' sl (otpsC la) rq ft lt sl' (otpsC lb) rq' ft' lt', iter_end (so31_canon _ _ _ _ _ _ _ _ _ _ _ _ _ _ _) (run_of [(25, .b true), (31, .e (Otp.mk p (Msg.mk ⟨a1, a2⟩ a3 a4 (Val.mk a5 a6 a7 a8 a9 a0))).cells), (37, .e (Otp.mk q (Msg.mk ⟨b1, b2⟩ b3 b4 (Val.mk b5 b6 b7 b8 b9 b0))).cells), (40, .b true)] []
          (pf4 (lt_nat (j := j) (k := (otpsC la).length) (by omega)) hg hgb (not_f c0)) (lo' := []) (by kernel_rfl)) (by simp)⟩
    | true =>
      cases c1 : mEq (Msg.mk ⟨a1, a2⟩ a3 a4 (Val.mk a5 a6 a7 a8 a9 a0)) (Msg.mk ⟨b1, b2⟩ b3 b4 (Val.mk b5 b6 b7 b8 b9 b0)) with
      | false =>
        rw [c1] at hc
        left
        exact ⟨rfl, so31B n t n' t' sl (otpsC la) rq ft lt sl' (otpsC lb) rq' ft' lt', iter_end (so31_canon _ _ _ _ _ _ _ _ _ _ _ _ _ _ _) (run_of [(25, .b true), (31, .e (Otp.mk p (Msg.mk ⟨a1, a2⟩ a3 a4 (Val.mk a5 a6 a7 a8 a9 a0))).cells), (37, .e (Otp.mk q (Msg.mk ⟨b1, b2⟩ b3 b4 (Val.mk b5 b6 b7 b8 b9 b0))).cells), (40, .b false), (45, .e (Otp.mk p (Msg.mk ⟨a1, a2⟩ a3 a4 (Val.mk a5 a6 a7 a8 a9 a0))).cells), (51, .e (Otp.mk q (Msg.mk ⟨b1, b2⟩ b3 b4 (Val.mk b5 b6 b7 b8 b9 b0))).cells), (54, .p (boolX false))] []
          (pf7 (lt_nat (j := j) (k := (otpsC la).length) (by omega)) hg hgb (not_t c0) hg hgb hc) (lo' := []) (by kernel_rfl)) (by simp)⟩
      | true =>
        rw [c1] at hc
        have hs : run (callF tab ext M) 0 M (loopAt 31 0) (so31H n t n' t' sl (otpsC la) rq ft lt sl' (otpsC lb) rq' ft' lt' j) = some (.norm, so31H n t n' t' sl (otpsC la) rq ft lt sl' (otpsC lb) rq' ft' lt' (j + 1)) :=
          run_of [(25, .b true), (31, .e (Otp.mk p (Msg.mk ⟨a1, a2⟩ a3 a4 (Val.mk a5 a6 a7 a8 a9 a0))).cells), (37, .e (Otp.mk q (Msg.mk ⟨b1, b2⟩ b3 b4 (Val.mk b5 b6 b7 b8 b9 b0))).cells), (40, .b false), (45, .e (Otp.mk p (Msg.mk ⟨a1, a2⟩ a3 a4 (Val.mk a5 a6 a7 a8 a9 a0))).cells), (51, .e (Otp.mk q (Msg.mk ⟨b1, b2⟩ b3 b4 (Val.mk b5 b6 b7 b8 b9 b0))).cells), (54, .p (boolX true)), (27, .i (Int.ofNat (j + 1)))] []
            (pf8 (lt_nat (j := j) (k := (otpsC la).length) (by omega)) hg hgb (not_t c0) hg hgb hc (next_nat (j := j) (by omega))) (lo' := []) (by kernel_rfl)
        have e := iter_step (so31_canon _ _ _ _ _ _ _ _ _ _ _ _ _ _ _) hs rfl (n := F')
        rcases ih with ⟨h0, bz, h⟩ | ⟨h0, h⟩
        · exact .inl ⟨h0, bz, e.trans h⟩
        · exact .inr ⟨h0, e.trans h⟩
end

theorem same_eq (N : Nat) (a b : Oc2) (h : a.ok) (hN : 190020 ≤ N) : Gam.pureD (callF tab ext N) 31 [.agg a.cells, .agg b.cells] = some (boolX (ocEq a b)) := by
  obtain ⟨M, rfl⟩ : ∃ M, N = M + 2 := ⟨N - 2, by omega⟩
  have hi := h.nouts
  have hf := h.nfates
  have hl := h.nletters
  have h1 := stt_eq (M + 1) a.s b.s h.s (by omega)
  have h2 := sa79_pure M a.fates b.fates fEq (fun x y hx _ => fte_eq M x y (h.fates x hx) (by omega)) (by omega) (by omega)
  have h3 := sa25_pure M a.letters b.letters mEq (fun x y hx _ => msg_eq M x y (h.letters x hx) (by omega)) (by omega) (by omega)
  have h4 := reqs_eq (M + 1) a.reqs b.reqs h.nreqs h.reqs (by omega)
  have ho := h.outs
  unfold ocEq
  obtain ⟨⟨a1, a2, a3⟩, la, a5, a6, a7⟩ := a
  obtain ⟨⟨b1, b2, b3⟩, lb, b5, b6, b7⟩ := b
  dsimp only at h1 h2 h3 h4 hi ho ⊢
  have hn := otpsC_length la
  have hm := otpsC_length lb
  cases c0 : stEq ⟨a1, a2, a3⟩ ⟨b1, b2, b3⟩ with
  | false =>
    rw [c0] at h1
    exact pure_of [(10, .p (boolX false))] [] (pf1 h1) (x := boolX false) (bx := []) (by kernel_rfl) rfl
  | true =>
    rw [c0] at h1
    by_cases hlen : la.length = lb.length
    · rcases so31_loop a1 a2 b1 b2 (sltsC a3) (reqsC a5) (ftesC a6) (msgsC a7) (sltsC b3) (reqsC b5) (ftesC b6) (msgsC b7) (M + 1) (by omega) la lb ho hlen (by omega) la.length 0 (M + 1) (by omega) (by omega) with ⟨h0, bx, hloop⟩ | ⟨h0, hloop⟩
      · have h0' : eqL oEq la lb = false := h0
        rw [h0']
        exact pure_of [(10, .p (boolX true)), (19, .b false)] [(.ret, ⟨[(4, boolX false)], bx⟩)] (pf3 h1 (nat_ne_false (j := (otpsC la).length) (k := (otpsC lb).length) (by omega)) hloop) (x := boolX false) (bx := []) (by kernel_rfl) rfl
      · have h0' : eqL oEq la lb = true := h0
        rw [h0']
        have hz := nat_ne_false (j := (otpsC la).length) (k := (otpsC lb).length) (by omega)
        cases c1 : eqL rEq a5 b5 with
        | false =>
          rw [c1] at h4
          exact pure_of [(10, .p (boolX true)), (19, .b false), (61, .p (boolX false))] [(.exit 0, so31E a1 a2 b1 b2 (sltsC a3) (otpsC la) (reqsC a5) (ftesC a6) (msgsC a7) (sltsC b3) (otpsC lb) (reqsC b5) (ftesC b6) (msgsC b7) (otpsC la).length)] (pf4 h1 hz hloop h4) (x := boolX false) (bx := []) (by kernel_rfl) rfl
        | true =>
          rw [c1] at h4
          cases c2 : eqL fEq a6 b6 with
          | false =>
            rw [c2] at h2
            exact pure_of [(10, .p (boolX true)), (19, .b false), (61, .p (boolX true)), (67, .p (boolX false))] [(.exit 0, so31E a1 a2 b1 b2 (sltsC a3) (otpsC la) (reqsC a5) (ftesC a6) (msgsC a7) (sltsC b3) (otpsC lb) (reqsC b5) (ftesC b6) (msgsC b7) (otpsC la).length)] (pf5 h1 hz hloop h4 h2) (x := boolX false) (bx := []) (by kernel_rfl) rfl
          | true =>
            rw [c2] at h2
            cases c3 : eqL mEq a7 b7 with
            | false =>
              rw [c3] at h3
              exact pure_of [(10, .p (boolX true)), (19, .b false), (61, .p (boolX true)), (67, .p (boolX true)), (74, .p (boolX false))] [(.exit 0, so31E a1 a2 b1 b2 (sltsC a3) (otpsC la) (reqsC a5) (ftesC a6) (msgsC a7) (sltsC b3) (otpsC lb) (reqsC b5) (ftesC b6) (msgsC b7) (otpsC la).length)] (pf6 h1 hz hloop h4 h2 h3) (x := boolX false) (bx := []) (by kernel_rfl) rfl
            | true =>
              rw [c3] at h3
              exact pure_of [(10, .p (boolX true)), (19, .b false), (61, .p (boolX true)), (67, .p (boolX true)), (74, .p (boolX true))] [(.exit 0, so31E a1 a2 b1 b2 (sltsC a3) (otpsC la) (reqsC a5) (ftesC a6) (msgsC a7) (sltsC b3) (otpsC lb) (reqsC b5) (ftesC b6) (msgsC b7) (otpsC la).length)] (pf6 h1 hz hloop h4 h2 h3) (x := boolX true) (bx := []) (by kernel_rfl) rfl
    · rw [eqL_len hlen]
      exact pure_of [(10, .p (boolX true)), (19, .b true)] [] (pf2 h1 (nat_ne_true (j := (otpsC la).length) (k := (otpsC lb).length) (by omega))) (x := boolX false) (bx := []) (by kernel_rfl) rfl
theorem equal_eq (N : Nat) (a b : Oc2) (h : a.ok) (hN : 190020 ≤ N) : Gam.pureD (callF tab ext N) 30 [.agg a.cells, .agg b.cells] = some (boolX (ocEq a b)) := by
  obtain ⟨M, rfl⟩ : ∃ M, N = M + 2 := ⟨N - 2, by omega⟩
  have hi := h.nouts
  have hf := h.nfates
  have hl := h.nletters
  have hr := h.nreqs
  have h1 := state_eq (M + 1) a.s b.s h.s (by omega)
  have h2 := sm73_pure M 70 a.outs b.outs oEq (fun x y hx _ => otp_eq M x y (h.outs x hx) (by omega)) (by omega) (by omega)
  have h3 := sm74_pure M 71 a.reqs b.reqs rEq (fun x y hx _ => req_eq M x y (h.reqs x hx) (by omega)) (by omega) (by omega)
  have h4 := sm75_pure M 76 a.fates b.fates fEq (fun x y hx _ => fte_eq M x y (h.fates x hx) (by omega)) (by omega) (by omega)
  have h5 := sm77_pure M 40 a.letters b.letters mEq (fun x y hx _ => msg_eq M x y (h.letters x hx) (by omega)) (by omega) (by omega)
  unfold ocEq
  obtain ⟨⟨a1, a2, a3⟩, a4, a5, a6, a7⟩ := a
  obtain ⟨⟨b1, b2, b3⟩, b4, b5, b6, b7⟩ := b
  dsimp only at h1 h2 h3 h4 h5 ⊢
  cases c0 : stEq ⟨a1, a2, a3⟩ ⟨b1, b2, b3⟩ with
  | false =>
    rw [c0] at h1
    exact pure_of [(11, .p (boolX false))] [] (pf1 h1) (x := boolX false) (bx := []) (by kernel_rfl) rfl
  | true =>
    rw [c0] at h1
    cases c1 : eqL oEq a4 b4 with
    | false =>
      rw [c1] at h2
      exact pure_of [(11, .p (boolX true)), (18, .p (boolX false))] [] (pf2 h1 h2) (x := boolX false) (bx := []) (by kernel_rfl) rfl
    | true =>
      rw [c1] at h2
      cases c2 : eqL rEq a5 b5 with
      | false =>
        rw [c2] at h3
        exact pure_of [(11, .p (boolX true)), (18, .p (boolX true)), (26, .p (boolX false))] [] (pf3 h1 h2 h3) (x := boolX false) (bx := []) (by kernel_rfl) rfl
      | true =>
        rw [c2] at h3
        cases c3 : eqL fEq a6 b6 with
        | false =>
          rw [c3] at h4
          exact pure_of [(11, .p (boolX true)), (18, .p (boolX true)), (26, .p (boolX true)), (33, .p (boolX false))] [] (pf4 h1 h2 h3 h4) (x := boolX false) (bx := []) (by kernel_rfl) rfl
        | true =>
          rw [c3] at h4
          cases c4 : eqL mEq a7 b7 with
          | false =>
            rw [c4] at h5
            exact pure_of [(11, .p (boolX true)), (18, .p (boolX true)), (26, .p (boolX true)), (33, .p (boolX true)), (40, .p (boolX false))] [] (pf5 h1 h2 h3 h4 h5) (x := boolX false) (bx := []) (by kernel_rfl) rfl
          | true =>
            rw [c4] at h5
            exact pure_of [(11, .p (boolX true)), (18, .p (boolX true)), (26, .p (boolX true)), (33, .p (boolX true)), (40, .p (boolX true))] [] (pf5 h1 h2 h3 h4 h5) (x := boolX true) (bx := []) (by kernel_rfl) rfl
theorem vEq_refl (a : Val) : vEq a a = true := by unfold vEq; rw [cmpV_refl]; rfl
theorem sEq_refl (a : Stp) : sEq a a = true := by unfold sEq; rw [cmpS_refl]; rfl
theorem mEq_refl (a : Msg) : mEq a a = true := by
  unfold mEq; rw [sEq_refl, vEq_refl, eqL_refl (fun x _ => by simp)]; simp
theorem oEq_refl (a : Otp) : oEq a a = true := by unfold oEq; rw [mEq_refl]; simp
theorem fEq_refl (a : Fte) : fEq a a = true := by
  unfold fEq; rw [sEq_refl, eqL_refl (fun x _ => sEq_refl x)]; simp
theorem rEq_refl (a : Req) : rEq a a = true := by unfold rEq; rw [sEq_refl, vEq_refl]; simp
theorem slEq_refl (a : Slt) : slEq a a = true := by
  unfold slEq; rw [vEq_refl, eqL_refl (fun x _ => mEq_refl x), eqL_refl (fun x _ => vEq_refl x)]; simp
theorem stEq_refl (a : Stt) : stEq a a = true := by unfold stEq; rw [eqL_refl (fun x _ => slEq_refl x)]; simp
theorem ocEq_refl (a : Oc2) : ocEq a a = true := by
  unfold ocEq; rw [stEq_refl, eqL_refl (fun x _ => oEq_refl x), eqL_refl (fun x _ => rEq_refl x), eqL_refl (fun x _ => fEq_refl x), eqL_refl (fun x _ => mEq_refl x)]; rfl
end Go.Proofs.YtonnphbfclaigaaGreatDoor

/- shortOutcome: what it computes (printed by gen_sho.py). -/
namespace Go.Proofs.YtonnphbfclaigaaGreatDoor
open Go.Em
set_option maxRecDepth 100000
namespace Sh
theorem rl_of {Γ : Gam} {nIn fu : Nat} {ps : List Prop} (ans : List (Nat × Ans)) (lo : List (Ex × St)) (hp : allP ps) {m : C} {σ σ' : St} (h : (match runA Γ ans nIn fu m σ lo with | some (.norm, υ, [], qs) => (canon nIn υ).map fun ω => (ω, qs) | _ => none) = some (σ', ps)) : ∃ υ, run Γ nIn fu m σ = some (.norm, υ) ∧ canon nIn υ = some σ' := by
  split at h
  · rename_i υ qs e
    obtain ⟨ω, hω, e2⟩ := Option.map_eq_some_iff.1 h
    simp only [Prod.mk.injEq] at e2
    obtain ⟨rfl, rfl⟩ := e2
    exact ⟨υ, runA_sound e hp, hω⟩
  · cases h
def z7 : List X := [num 0, num 0, .sl true 10 [], .sl true 11 [], .sl true 11 [], .sl true 6 [], .sl true 10 []]
def shortO (x : Otp) : Otp := ⟨x.port, shortM x.m⟩
def shortR (r : Req) : Req := ⟨⟨r.st.e, cutI r.st.p⟩, r.service, r.call, r.undo, shortV 4 r.body⟩
def shortSt (s : Stp) : Stp := ⟨s.e, cutI s.p⟩
def shortF (f : Fte) : Fte := ⟨shortSt f.st, f.kind, f.node, (f.into.take 6).map shortSt, f.text⟩
def shortOc (x : Oc2) : Oc2 := ⟨shortS x.s, (x.outs.take 6).map shortO, (x.reqs.take 6).map shortR, (x.fates.take 6).map shortF, (x.letters.take 6).map shortM⟩
theorem otpsC_snoc (l : List Otp) (m : Otp) : otpsC (l ++ [m]) = otpsC l ++ [m.cells] := by simp [otpsC]
theorem reqsC_snoc (l : List Req) (m : Req) : reqsC (l ++ [m]) = reqsC l ++ [m.cells] := by simp [reqsC]
theorem ftesC_snoc (l : List Fte) (m : Fte) : ftesC (l ++ [m]) = ftesC l ++ [m.cells] := by simp [ftesC]
theorem stpsC_snoc (l : List Stp) (m : Stp) : stpsC (l ++ [m]) = stpsC l ++ [m.cells] := by simp [stpsC]
section
variable (n t n' t' : Int) (sl sl' ou rq ft lt O R F acc : List (List X)) (i1 i2 i3 z : Nat)
def s0H : St := ⟨[(1, .ptr 0 0 0), (2, .ptr 1 0 0), (3, .ptr 2 0 0), (4, nat z)], [.var (ocC n t sl ou rq ft lt), .var z7, .var [num n', num t', .sl false 10 sl', .bs 3 0 z, .sl true 11 [], .sl true 6 [], .sl true 10 []], .row 11 acc]⟩
def s0Eq : St := ⟨[(1, .ptr 0 0 0), (2, .ptr 1 0 0), (3, .ptr 2 0 0), (4, nat z), (25, boolX false)], [.var (ocC n t sl ou rq ft lt), .var z7, .var [num n', num t', .sl false 10 sl', .bs 3 0 z, .sl true 11 [], .sl true 6 [], .sl true 10 []], .row 11 acc]⟩
def s1H : St := ⟨[(1, .ptr 0 0 0), (2, .ptr 1 0 0), (3, .ptr 2 0 0), (5, nat z)], [.var (ocC n t sl ou rq ft lt), .var z7, .var [num n', num t', .sl false 10 sl', .bs 3 0 i1, .bs 4 0 z, .sl true 6 [], .sl true 10 []], .row 11 O, .row 11 acc]⟩
def s1Eq : St := ⟨[(1, .ptr 0 0 0), (2, .ptr 1 0 0), (3, .ptr 2 0 0), (5, nat z), (55, boolX false)], [.var (ocC n t sl ou rq ft lt), .var z7, .var [num n', num t', .sl false 10 sl', .bs 3 0 i1, .bs 4 0 z, .sl true 6 [], .sl true 10 []], .row 11 O, .row 11 acc]⟩
def s2H : St := ⟨[(1, .ptr 0 0 0), (2, .ptr 1 0 0), (3, .ptr 2 0 0), (8, nat z)], [.var (ocC n t sl ou rq ft lt), .var z7, .var [num n', num t', .sl false 10 sl', .bs 3 0 i1, .bs 4 0 i2, .bs 5 0 z, .sl true 10 []], .row 11 O, .row 11 R, .row 6 acc]⟩
def s2Eq : St := ⟨[(1, .ptr 0 0 0), (2, .ptr 1 0 0), (3, .ptr 2 0 0), (8, nat z), (89, boolX false)], [.var (ocC n t sl ou rq ft lt), .var z7, .var [num n', num t', .sl false 10 sl', .bs 3 0 i1, .bs 4 0 i2, .bs 5 0 z, .sl true 10 []], .row 11 O, .row 11 R, .row 6 acc]⟩
def s4H : St := ⟨[(1, .ptr 0 0 0), (2, .ptr 1 0 0), (3, .ptr 2 0 0), (12, nat z)], [.var (ocC n t sl ou rq ft lt), .var z7, .var [num n', num t', .sl false 10 sl', .bs 3 0 i1, .bs 4 0 i2, .bs 5 0 i3, .bs 6 0 z], .row 11 O, .row 11 R, .row 6 F, .row 10 acc]⟩
def s4Eq : St := ⟨[(1, .ptr 0 0 0), (2, .ptr 1 0 0), (3, .ptr 2 0 0), (12, nat z), (141, boolX false)], [.var (ocC n t sl ou rq ft lt), .var z7, .var [num n', num t', .sl false 10 sl', .bs 3 0 i1, .bs 4 0 i2, .bs 5 0 i3, .bs 6 0 z], .row 11 O, .row 11 R, .row 6 F, .row 10 acc]⟩
variable (j : Nat) (e kd : Int) (nm tx : ByteArray) (sp it : List (List X))
def s3H : St := ⟨[(1, .ptr 0 0 0), (2, .ptr 1 0 0), (3, .ptr 2 0 0), (8, nat j), (9, .ptr 3 0 0), (10, .bs 4 0 z), (11, nat z)], [.var (ocC n t sl ou rq ft lt), .var z7, .var [num n', num t', .sl false 10 sl', .bs 5 0 i1, .bs 6 0 i2, .bs 7 0 i3, .sl true 10 []], .var [num e, .sl false 1 sp, num kd, strX nm, .sl false 2 it, strX tx], .row 2 acc, .row 11 O, .row 11 R, .row 6 F]⟩
def s3Eq : St := ⟨[(1, .ptr 0 0 0), (2, .ptr 1 0 0), (3, .ptr 2 0 0), (8, nat j), (9, .ptr 3 0 0), (10, .bs 4 0 z), (11, nat z), (111, boolX false)], [.var (ocC n t sl ou rq ft lt), .var z7, .var [num n', num t', .sl false 10 sl', .bs 5 0 i1, .bs 6 0 i2, .bs 7 0 i3, .sl true 10 []], .var [num e, .sl false 1 sp, num kd, strX nm, .sl false 2 it, strX tx], .row 2 acc, .row 11 O, .row 11 R, .row 6 F]⟩
end
theorem s0_loop (M : Nat) (hM : 40 ≤ M) (n t n' t' : Int) (sl sl' rq ft lt : List (List X)) (xs : List Otp) {τ : St} (hτ : canon 0 τ = some (s0H n t n' t' sl sl' (otpsC xs) rq ft lt []  0 )) :
    run (callF tab ext M) 0 M (.loop (loopAt 10 0)) τ = some (.exit 0, s0Eq n t n' t' sl sl' (otpsC xs) rq ft lt (otpsC ((xs.take 6).map shortO))  (xs.take 6).length ) := by
  have el := otpsC_length xs
  refine loop_for (σ := fun z => s0H n t n' t' sl sl' (otpsC xs) rq ft lt (otpsC (((xs.take 6).take z).map shortO))  z ) (k := (xs.take 6).length) hτ (fun z hz => ?_) ?_ (by simp) (by rw [List.length_take]; omega)
  · have hj1 : z < xs.length := by rw [List.length_take] at hz; omega
    have hj2 : z < 6 := by rw [List.length_take] at hz; omega
    have hg := otpsC_get hj1
    have hc := short_msg xs[z].m M (by omega)
    have hlen : (otpsC (((xs.take 6).take z).map shortO)).length = z := by rw [otpsC_length, List.length_map, List.length_take, List.length_take]; omega
    rw [take_map_succ shortO hz, otpsC_snoc]
    generalize otpsC (((xs.take 6).take z).map shortO) = acc at hlen
    generalize xs[z] = v at hg hc
    obtain ⟨p, ⟨⟨a1, a2⟩, a3, a4, a5, a6, a7, a8, a9, a0⟩⟩ := v
    dsimp only at hc
    rw [show (shortO ⟨p, ⟨⟨a1, a2⟩, a3, a4, .mk a5 a6 a7 a8 a9 a0⟩⟩).cells = num p :: (shortM ⟨⟨a1, a2⟩, a3, a4, .mk a5 a6 a7 a8 a9 a0⟩).cells from rfl]
    generalize shortM ⟨⟨a1, a2⟩, a3, a4, .mk a5 a6 a7 a8 a9 a0⟩ = w at hc
    obtain ⟨⟨b1, b2⟩, b3, b4, b5, b6, b7, b8, b9, b0⟩ := w
    have h9 := pf7 (lt_nat (j := z) (k := (otpsC xs).length) (by omega)) (lt_lit hj2) hg hg hc (app_ok (acc := acc) z 3 160 hlen.symm (by omega) (by omega)) (next_nat (j := z) (by omega))
    exact rl_of [(21, .b true), (24, .b true), (33, .e (Otp.mk p ⟨⟨a1, a2⟩, a3, a4, .mk a5 a6 a7 a8 a9 a0⟩).cells), (39, .e (Otp.mk p ⟨⟨a1, a2⟩, a3, a4, .mk a5 a6 a7 a8 a9 a0⟩).cells), (42, .p (.agg (Msg.mk ⟨b1, b2⟩ b3 b4 (Val.mk b5 b6 b7 b8 b9 b0)).cells)), (45, .app), (27, .i (Int.ofNat (z + 1)))] [] h9 (by kernel_rfl)
  · rw [List.take_length]
    by_cases h6 : (xs.take 6).length < xs.length
    · have h7 : (xs.take 6).length = 6 := by rw [List.length_take] at h6 ⊢; omega
      exact run_of [(21, .b true), (24, .b false)] [] (pf2 (lt_nat (j := (xs.take 6).length) (k := (otpsC xs).length) (by omega)) (nlt_nat (j := (xs.take 6).length) (k := 6) (by omega))) (lo' := []) (by kernel_rfl)
    · exact run_of [(21, .b false)] [] (pf1 (nlt_nat (j := (xs.take 6).length) (k := (otpsC xs).length) (by omega))) (lo' := []) (by kernel_rfl)
theorem s1_loop (M : Nat) (hM : 40 ≤ M) (n t n' t' : Int) (sl sl' ou ft lt O : List (List X)) (i1 : Nat) (xs : List Req) {τ : St} (hτ : canon 0 τ = some (s1H n t n' t' sl sl' ou (reqsC xs) ft lt O [] i1 0 )) :
    run (callF tab ext M) 0 M (.loop (loopAt 10 1)) τ = some (.exit 2, s1Eq n t n' t' sl sl' ou (reqsC xs) ft lt O (reqsC ((xs.take 6).map shortR)) i1 (xs.take 6).length ) := by
  have el := reqsC_length xs
  refine loop_for (σ := fun z => s1H n t n' t' sl sl' ou (reqsC xs) ft lt O (reqsC (((xs.take 6).take z).map shortR)) i1 z ) (k := (xs.take 6).length) hτ (fun z hz => ?_) ?_ (by simp) (by rw [List.length_take]; omega)
  · have hj1 : z < xs.length := by rw [List.length_take] at hz; omega
    have hj2 : z < 6 := by rw [List.length_take] at hz; omega
    have hg := reqsC_get hj1
    have hc := short_msg ⟨xs[z].st, 0, [], xs[z].body⟩ M (by omega)
    have hlen : (reqsC (((xs.take 6).take z).map shortR)).length = z := by rw [reqsC_length, List.length_map, List.length_take, List.length_take]; omega
    rw [take_map_succ shortR hz, reqsC_snoc]
    generalize reqsC (((xs.take 6).take z).map shortR) = acc at hlen
    generalize xs[z] = v at hg hc
    obtain ⟨⟨a1, a2⟩, sv, c, u, a5, a6, a7, a8, a9, a0⟩ := v
    dsimp only at hc
    rw [show (shortR ⟨⟨a1, a2⟩, sv, c, u, .mk a5 a6 a7 a8 a9 a0⟩).cells = num a1 :: .sl false 1 (intsC (cutI a2)) :: strX sv :: num c :: boolX u :: (shortV 4 (.mk a5 a6 a7 a8 a9 a0)).cells from rfl]
    rw [show (shortM ⟨⟨a1, a2⟩, 0, [], .mk a5 a6 a7 a8 a9 a0⟩).cells = num a1 :: .sl false 1 (intsC (cutI a2)) :: num (cutM2 (cutM1 0)) :: .sl false 1 (intsC (cutI [])) :: (shortV 4 (.mk a5 a6 a7 a8 a9 a0)).cells from rfl] at hc
    generalize shortV 4 (.mk a5 a6 a7 a8 a9 a0) = w at hc
    generalize intsC (cutI a2) = pp at hc
    generalize intsC (cutI []) = qq at hc
    generalize cutM2 (cutM1 0) = mm at hc
    obtain ⟨b5, b6, b7, b8, b9, b0⟩ := w
    have h9 := pf6 (lt_nat (j := z) (k := (reqsC xs).length) (by omega)) (lt_lit hj2) hg hc (app_ok (acc := acc) z 4 152 hlen.symm (by omega) (by omega)) (next_nat (j := z) (by omega))
    exact rl_of [(51, .b true), (54, .b true), (61, .e (Req.mk ⟨a1, a2⟩ sv c u (.mk a5 a6 a7 a8 a9 a0)).cells), (68, .p (.agg (num a1 :: .sl false 1 pp :: num mm :: .sl false 1 qq :: (Val.mk b5 b6 b7 b8 b9 b0).cells))), (79, .app), (57, .i (Int.ofNat (z + 1)))] [] h9 (by kernel_rfl)
  · rw [List.take_length]
    by_cases h6 : (xs.take 6).length < xs.length
    · have h7 : (xs.take 6).length = 6 := by rw [List.length_take] at h6 ⊢; omega
      exact run_of [(51, .b true), (54, .b false)] [] (pf2 (lt_nat (j := (xs.take 6).length) (k := (reqsC xs).length) (by omega)) (nlt_nat (j := (xs.take 6).length) (k := 6) (by omega))) (lo' := []) (by kernel_rfl)
    · exact run_of [(51, .b false)] [] (pf1 (nlt_nat (j := (xs.take 6).length) (k := (reqsC xs).length) (by omega))) (lo' := []) (by kernel_rfl)
theorem s3_loop (M : Nat) (hM : 40 ≤ M) (n t n' t' : Int) (sl sl' ou rq ft lt O R F : List (List X)) (i1 i2 i3 j : Nat) (e kd : Int) (nm tx : ByteArray) (sp : List (List X)) (xs : List Stp) {τ : St} (hτ : canon 0 τ = some (s3H n t n' t' sl sl' ou rq ft lt O R F [] i1 i2 i3 0 j e kd nm tx sp (stpsC xs))) :
    run (callF tab ext M) 0 M (.loop (loopAt 10 3)) τ = some (.exit 6, s3Eq n t n' t' sl sl' ou rq ft lt O R F (stpsC ((xs.take 6).map shortSt)) i1 i2 i3 (xs.take 6).length j e kd nm tx sp (stpsC xs)) := by
  have el := stpsC_length xs
  refine loop_for (σ := fun z => s3H n t n' t' sl sl' ou rq ft lt O R F (stpsC (((xs.take 6).take z).map shortSt)) i1 i2 i3 z j e kd nm tx sp (stpsC xs)) (k := (xs.take 6).length) hτ (fun z hz => ?_) ?_ (by simp) (by rw [List.length_take]; omega)
  · have hj1 : z < xs.length := by rw [List.length_take] at hz; omega
    have hj2 : z < 6 := by rw [List.length_take] at hz; omega
    have hg := stpsC_get hj1
    have hc := short_msg ⟨xs[z], 0, [], (Val.mk 0 0 0 ⟨#[]⟩ [] [])⟩ M (by omega)
    have hlen : (stpsC (((xs.take 6).take z).map shortSt)).length = z := by rw [stpsC_length, List.length_map, List.length_take, List.length_take]; omega
    rw [take_map_succ shortSt hz, stpsC_snoc]
    generalize stpsC (((xs.take 6).take z).map shortSt) = acc at hlen
    generalize xs[z] = v at hg hc
    obtain ⟨a1, a2⟩ := v
    rw [show (shortSt ⟨a1, a2⟩).cells = [num a1, .sl false 1 (intsC (cutI a2))] from rfl]
    rw [show (shortM ⟨⟨a1, a2⟩, 0, [], (Val.mk 0 0 0 ⟨#[]⟩ [] [])⟩).cells = num a1 :: .sl false 1 (intsC (cutI a2)) :: num (cutM2 (cutM1 0)) :: .sl false 1 (intsC (cutI [])) :: (shortV 4 (Val.mk 0 0 0 ⟨#[]⟩ [] [])).cells from rfl] at hc
    generalize shortV 4 (Val.mk 0 0 0 ⟨#[]⟩ [] []) = w at hc
    generalize intsC (cutI a2) = pp at hc
    generalize intsC (cutI []) = qq at hc
    generalize cutM2 (cutM1 0) = mm at hc
    obtain ⟨b5, b6, b7, b8, b9, b0⟩ := w
    have h9 := pf6 (lt_nat (j := z) (k := (stpsC xs).length) (by omega)) (lt_lit hj2) hg hc (app_ok (acc := acc) z 4 32 hlen.symm (by omega) (by omega)) (next_nat (j := z) (by omega))
    exact rl_of [(107, .b true), (110, .b true), (118, .e (Stp.mk a1 a2).cells), (121, .p (.agg (num a1 :: .sl false 1 pp :: num mm :: .sl false 1 qq :: (Val.mk b5 b6 b7 b8 b9 b0).cells))), (124, .app), (113, .i (Int.ofNat (z + 1)))] [] h9 (by kernel_rfl)
  · rw [List.take_length]
    by_cases h6 : (xs.take 6).length < xs.length
    · have h7 : (xs.take 6).length = 6 := by rw [List.length_take] at h6 ⊢; omega
      exact run_of [(107, .b true), (110, .b false)] [] (pf2 (lt_nat (j := (xs.take 6).length) (k := (stpsC xs).length) (by omega)) (nlt_nat (j := (xs.take 6).length) (k := 6) (by omega))) (lo' := []) (by kernel_rfl)
    · exact run_of [(107, .b false)] [] (pf1 (nlt_nat (j := (xs.take 6).length) (k := (stpsC xs).length) (by omega))) (lo' := []) (by kernel_rfl)
def s2F (n t n' t' : Int) (sl sl' ou rq ft lt O R acc : List (List X)) (i1 i2 z : Nat) (e kd : Int) (nm tx : ByteArray) (sp it : List (List X)) : St := ⟨[(1, .ptr 0 0 0), (2, .ptr 1 0 0), (3, .ptr 2 0 0), (8, nat z), (9, .ptr 6 0 0), (10, .bs 7 0 0), (11, num 0)], [.var (ocC n t sl ou rq ft lt), .var z7, .var [num n', num t', .sl false 10 sl', .bs 3 0 i1, .bs 4 0 i2, .bs 5 0 z, .sl true 10 []], .row 11 O, .row 11 R, .row 6 acc, .var [num e, .sl false 1 sp, num kd, strX nm, .sl false 2 it, strX tx], .row 2 []]⟩
theorem s2_loop (M : Nat) (hM : 40 ≤ M) (n t n' t' : Int) (sl sl' ou rq lt O R : List (List X)) (i1 i2 : Nat) (xs : List Fte) {τ : St} (hτ : canon 0 τ = some (s2H n t n' t' sl sl' ou rq (ftesC xs) lt O R [] i1 i2 0 )) :
    run (callF tab ext M) 0 M (.loop (loopAt 10 2)) τ = some (.exit 4, s2Eq n t n' t' sl sl' ou rq (ftesC xs) lt O R (ftesC ((xs.take 6).map shortF)) i1 i2 (xs.take 6).length ) := by
  have el := ftesC_length xs
  refine loop_for (σ := fun z => s2H n t n' t' sl sl' ou rq (ftesC xs) lt O R (ftesC (((xs.take 6).take z).map shortF)) i1 i2 z ) (k := (xs.take 6).length) hτ (fun z hz => ?_) ?_ (by simp) (by rw [List.length_take]; omega)
  · have hj1 : z < xs.length := by rw [List.length_take] at hz; omega
    have hj2 : z < 6 := by rw [List.length_take] at hz; omega
    have hg := ftesC_get hj1
    have hc := short_msg ⟨xs[z].st, 0, [], (Val.mk 0 0 0 ⟨#[]⟩ [] [])⟩ M (by omega)
    have hi := fun acc e kd nm tx sp τ => s3_loop (τ := τ) M hM n t n' t' sl sl' ou rq (ftesC xs) lt O R acc i1 i2 z z e kd nm tx sp xs[z].into
    have hlen : (ftesC (((xs.take 6).take z).map shortF)).length = z := by rw [ftesC_length, List.length_map, List.length_take, List.length_take]; omega
    rw [take_map_succ shortF hz, ftesC_snoc]
    generalize ftesC (((xs.take 6).take z).map shortF) = acc at hlen
    have hi := hi acc
    generalize xs[z] = v at hg hc hi
    obtain ⟨⟨a1, a2⟩, kd, nm, it, tx⟩ := v
    dsimp only at hc hi
    rw [show (shortF ⟨⟨a1, a2⟩, kd, nm, it, tx⟩).cells = [num a1, .sl false 1 (intsC (cutI a2)), num kd, strX nm, .sl false 2 (stpsC ((it.take 6).map shortSt)), strX tx] from rfl]
    rw [show (shortM ⟨⟨a1, a2⟩, 0, [], (Val.mk 0 0 0 ⟨#[]⟩ [] [])⟩).cells = num a1 :: .sl false 1 (intsC (cutI a2)) :: num (cutM2 (cutM1 0)) :: .sl false 1 (intsC (cutI [])) :: (shortV 4 (Val.mk 0 0 0 ⟨#[]⟩ [] [])).cells from rfl] at hc
    generalize shortV 4 (Val.mk 0 0 0 ⟨#[]⟩ [] []) = w at hc
    generalize intsC (cutI a2) = pp at hc
    generalize intsC (cutI []) = qq at hc
    generalize cutM2 (cutM1 0) = mm at hc
    obtain ⟨b5, b6, b7, b8, b9, b0⟩ := w
    have hi' := hi a1 kd nm tx pp (s2F n t n' t' sl sl' ou rq (ftesC xs) lt O R acc i1 i2 z a1 kd nm tx pp (stpsC it)) (by kernel_rfl)
    have l1 : (stpsC ((it.take 6).map shortSt)).length = (it.take 6).length := by rw [stpsC_length, List.length_map]
    have e1 : stpsC ((it.take 6).map shortSt) = (stpsC ((it.take 6).map shortSt)).take (it.take 6).length := (List.take_of_length_le (Nat.le_of_eq l1)).symm
    rw [e1]
    generalize stpsC ((it.take 6).map shortSt) = is at l1 hi'
    generalize (it.take 6).length = y at l1 hi'
    have h9 := pf8 (lt_nat (j := z) (k := (ftesC xs).length) (by omega)) (lt_lit hj2) hg hc hi' (show 0 + y ≤ is.length by omega) (app_ok (acc := acc) z 5 96 hlen.symm (by omega) (by omega)) (next_nat (j := z) (by omega))
    exact rl_of [(85, .b true), (88, .b true), (95, .e (Fte.mk ⟨a1, a2⟩ kd nm it tx).cells), (100, .p (.agg (num a1 :: .sl false 1 pp :: num mm :: .sl false 1 qq :: (Val.mk b5 b6 b7 b8 b9 b0).cells))), (131, .app), (91, .i (Int.ofNat (z + 1)))] [(.exit 6, s3Eq n t n' t' sl sl' ou rq (ftesC xs) lt O R acc is i1 i2 z y z a1 kd nm tx pp (stpsC it))] h9 (by kernel_rfl)
  · rw [List.take_length]
    by_cases h6 : (xs.take 6).length < xs.length
    · have h7 : (xs.take 6).length = 6 := by rw [List.length_take] at h6 ⊢; omega
      exact run_of [(85, .b true), (88, .b false)] [] (pf2 (lt_nat (j := (xs.take 6).length) (k := (ftesC xs).length) (by omega)) (nlt_nat (j := (xs.take 6).length) (k := 6) (by omega))) (lo' := []) (by kernel_rfl)
    · exact run_of [(85, .b false)] [] (pf1 (nlt_nat (j := (xs.take 6).length) (k := (ftesC xs).length) (by omega))) (lo' := []) (by kernel_rfl)
theorem s4_loop (M : Nat) (hM : 40 ≤ M) (n t n' t' : Int) (sl sl' ou rq ft O R F : List (List X)) (i1 i2 i3 : Nat) (xs : List Msg) {τ : St} (hτ : canon 0 τ = some (s4H n t n' t' sl sl' ou rq ft (msgsC xs) O R F [] i1 i2 i3 0 )) :
    run (callF tab ext M) 0 M (.loop (loopAt 10 4)) τ = some (.exit 8, s4Eq n t n' t' sl sl' ou rq ft (msgsC xs) O R F (msgsC ((xs.take 6).map shortM)) i1 i2 i3 (xs.take 6).length ) := by
  have el := msgsC_length xs
  refine loop_for (σ := fun z => s4H n t n' t' sl sl' ou rq ft (msgsC xs) O R F (msgsC (((xs.take 6).take z).map shortM)) i1 i2 i3 z ) (k := (xs.take 6).length) hτ (fun z hz => ?_) ?_ (by simp) (by rw [List.length_take]; omega)
  · have hj1 : z < xs.length := by rw [List.length_take] at hz; omega
    have hj2 : z < 6 := by rw [List.length_take] at hz; omega
    have hg := msgsC_get hj1
    have hc := short_msg xs[z] M (by omega)
    have hlen : (msgsC (((xs.take 6).take z).map shortM)).length = z := by rw [msgsC_length, List.length_map, List.length_take, List.length_take]; omega
    rw [take_map_succ shortM hz, msgsC_snoc]
    generalize msgsC (((xs.take 6).take z).map shortM) = acc at hlen
    generalize xs[z] = v at hg hc
    obtain ⟨⟨a1, a2⟩, a3, a4, a5, a6, a7, a8, a9, a0⟩ := v
    generalize shortM ⟨⟨a1, a2⟩, a3, a4, .mk a5 a6 a7 a8 a9 a0⟩ = w at hc
    obtain ⟨⟨b1, b2⟩, b3, b4, b5, b6, b7, b8, b9, b0⟩ := w
    have h9 := pf6 (lt_nat (j := z) (k := (msgsC xs).length) (by omega)) (lt_lit hj2) hg hc (app_ok (acc := acc) z 6 152 hlen.symm (by omega) (by omega)) (next_nat (j := z) (by omega))
    exact rl_of [(137, .b true), (140, .b true), (149, .e (Msg.mk ⟨a1, a2⟩ a3 a4 (.mk a5 a6 a7 a8 a9 a0)).cells), (151, .p (.agg (Msg.mk ⟨b1, b2⟩ b3 b4 (Val.mk b5 b6 b7 b8 b9 b0)).cells)), (153, .app), (143, .i (Int.ofNat (z + 1)))] [] h9 (by kernel_rfl)
  · rw [List.take_length]
    by_cases h6 : (xs.take 6).length < xs.length
    · have h7 : (xs.take 6).length = 6 := by rw [List.length_take] at h6 ⊢; omega
      exact run_of [(137, .b true), (140, .b false)] [] (pf2 (lt_nat (j := (xs.take 6).length) (k := (msgsC xs).length) (by omega)) (nlt_nat (j := (xs.take 6).length) (k := 6) (by omega))) (lo' := []) (by kernel_rfl)
    · exact run_of [(137, .b false)] [] (pf1 (nlt_nat (j := (xs.take 6).length) (k := (msgsC xs).length) (by omega))) (lo' := []) (by kernel_rfl)
end Sh
end Go.Proofs.YtonnphbfclaigaaGreatDoor

/- OperatorEquals (row 59), for all its arguments. -/
namespace Go.Proofs.YtonnphbfclaigaaGreatDoor
open Go Go.Em Go.Proofs.YtonnphbfclaigaaGreatDoor.Sh
set_option maxRecDepth 100000
theorem short_out (o : Oc2) (N : Nat) (hN : 100 ≤ N) : Gam.pureD (callF tab ext N) 10 [.agg o.cells] = some (.agg (shortOc o).cells) := by
  obtain ⟨M, rfl⟩ : ∃ M, N = M + 1 := ⟨N - 1, by omega⟩
  have h8 := short_state o.s M (by omega)
  obtain ⟨⟨n, t, ss⟩, os, rs, fs, ls⟩ := o
  rw [show (shortS ⟨n, t, ss⟩).cells = [num n, num t, .sl false 10 (sltsC ((ss.take 6).map shortL))] from rfl] at h8
  rw [show (shortOc ⟨⟨n, t, ss⟩, os, rs, fs, ls⟩).cells = ocC n t (sltsC ((ss.take 6).map shortL)) (otpsC ((os.take 6).map shortO)) (reqsC ((rs.take 6).map shortR)) (ftesC ((fs.take 6).map shortF)) (msgsC ((ls.take 6).map shortM)) from rfl]
  dsimp only at h8
  generalize sltsC ((ss.take 6).map shortL) = sl' at h8
  have l0 : (otpsC ((os.take 6).map shortO)).length = (os.take 6).length := by rw [otpsC_length, List.length_map]
  have l1 : (reqsC ((rs.take 6).map shortR)).length = (rs.take 6).length := by rw [reqsC_length, List.length_map]
  have l2 : (ftesC ((fs.take 6).map shortF)).length = (fs.take 6).length := by rw [ftesC_length, List.length_map]
  have l3 : (msgsC ((ls.take 6).map shortM)).length = (ls.take 6).length := by rw [msgsC_length, List.length_map]
  have h0 := s0_loop M (by omega) n t n t (sltsC ss) sl' (reqsC rs) (ftesC fs) (msgsC ls) os (τ := s0H n t n t (sltsC ss) sl' (otpsC os) (reqsC rs) (ftesC fs) (msgsC ls) [] 0) (by kernel_rfl)
  generalize otpsC ((os.take 6).map shortO) = O at l0 h0
  generalize (os.take 6).length = k0 at l0 h0
  have h1 := s1_loop M (by omega) n t n t (sltsC ss) sl' (otpsC os) (ftesC fs) (msgsC ls) O k0 rs (τ := s1H n t n t (sltsC ss) sl' (otpsC os) (reqsC rs) (ftesC fs) (msgsC ls) O [] k0 0) (by kernel_rfl)
  generalize reqsC ((rs.take 6).map shortR) = R at l1 h1
  generalize (rs.take 6).length = k1 at l1 h1
  have h2 := s2_loop M (by omega) n t n t (sltsC ss) sl' (otpsC os) (reqsC rs) (msgsC ls) O R k0 k1 fs (τ := s2H n t n t (sltsC ss) sl' (otpsC os) (reqsC rs) (ftesC fs) (msgsC ls) O R [] k0 k1 0) (by kernel_rfl)
  generalize ftesC ((fs.take 6).map shortF) = F at l2 h2
  generalize (fs.take 6).length = k2 at l2 h2
  have h4 := s4_loop M (by omega) n t n t (sltsC ss) sl' (otpsC os) (reqsC rs) (ftesC fs) O R F k0 k1 k2 ls (τ := s4H n t n t (sltsC ss) sl' (otpsC os) (reqsC rs) (ftesC fs) (msgsC ls) O R F [] k0 k1 k2 0) (by kernel_rfl)
  generalize msgsC ((ls.take 6).map shortM) = L at l3 h4
  generalize (ls.take 6).length = k3 at l3 h4
  have hd : (X.agg [num n, num t, .sl false 10 sl', .bs 0 0 k0, .bs 1 0 k1, .bs 2 0 k2, .bs 3 0 k3]).data [.row 11 O, .row 11 R, .row 6 F, .row 10 L] false = some (.agg (ocC n t sl' O R F L)) := by
    subst l0; subst l1; subst l2; subst l3; simp [X.data, dataL, rowOf, num, ocC]
  have h9 := pf5 h8 h0 h1 h2 h4
  exact pure_of [(15, .p (.agg [num n, num t, .sl false 10 sl']))] [(.exit 0, s0Eq n t n t (sltsC ss) sl' (otpsC os) (reqsC rs) (ftesC fs) (msgsC ls) O k0), (.exit 2, s1Eq n t n t (sltsC ss) sl' (otpsC os) (reqsC rs) (ftesC fs) (msgsC ls) O R k0 k1), (.exit 4, s2Eq n t n t (sltsC ss) sl' (otpsC os) (reqsC rs) (ftesC fs) (msgsC ls) O R F k0 k1 k2), (.exit 8, s4Eq n t n t (sltsC ss) sl' (otpsC os) (reqsC rs) (ftesC fs) (msgsC ls) O R F L k0 k1 k2 k3)] h9 (x := .agg [num n, num t, .sl false 10 sl', .bs 0 0 k0, .bs 1 0 k1, .bs 2 0 k2, .bs 3 0 k3]) (bx := [.row 11 O, .row 11 R, .row 6 F, .row 10 L]) (by kernel_rfl) hd
theorem cutI_ok (e : Int) (p : List Int) : (Stp.mk e (cutI p)).ok := ⟨by have := cutI_length p; show (cutI p).length ≤ 60000; omega⟩
theorem shortOc_ok (o : Oc2) : (shortOc o).ok := by
  have hs := shortS_small o.s
  refine ⟨⟨?_, ?_⟩, ?_, ?_, ?_, ?_, ?_, ?_, ?_, ?_⟩
  · have := hs.1; show (shortS o.s).slots.length ≤ 60000; omega
  · exact fun x hx => (hs.2 x hx).1
  · show ((o.outs.take 6).map shortO).length ≤ 60000; rw [List.length_map, List.length_take]; omega
  · intro x hx
    obtain ⟨y, _, rfl⟩ := List.mem_map.1 hx
    exact shortM_ok _
  · show ((o.reqs.take 6).map shortR).length ≤ 6; rw [List.length_map, List.length_take]; omega
  · intro x hx
    obtain ⟨y, _, rfl⟩ := List.mem_map.1 hx
    exact ⟨cutI_ok _ _, short_ok _ (by omega)⟩
  · show ((o.fates.take 6).map shortF).length ≤ 60000; rw [List.length_map, List.length_take]; omega
  · intro x hx
    obtain ⟨y, _, rfl⟩ := List.mem_map.1 hx
    refine ⟨cutI_ok _ _, ?_, fun s hs => ?_⟩
    · show ((y.into.take 6).map shortSt).length ≤ 60000; rw [List.length_map, List.length_take]; omega
    · obtain ⟨z, _, rfl⟩ := List.mem_map.1 hs
      exact cutI_ok _ _
  · show ((o.letters.take 6).map shortM).length ≤ 60000; rw [List.length_map, List.length_take]; omega
  · intro x hx
    obtain ⟨y, _, rfl⟩ := List.mem_map.1 hx
    exact shortM_ok _
theorem equals_all (a b : Oc2) (N : Nat) (hN : 191001 ≤ N) : Gam.pureD (callF tab ext N) 7 [.agg a.cells, .agg b.cells] = some (.v (.bool true)) := by
  obtain ⟨M, rfl⟩ : ∃ M, N = M + 1001 := ⟨N - 1001, by omega⟩
  have ha := short_out a (M + 1000) (by omega)
  have hb := short_out b (M + 1000) (by omega)
  have oa := shortOc_ok a
  have ob := shortOc_ok b
  have hk := known39 M
  generalize shortOc a = x at ha oa
  generalize shortOc b = y at hb ob
  have h1 := equal_eq (M + 1000) x y oa (by omega)
  have h2 := same_eq (M + 1000) x y oa (by omega)
  have h3 := state_eq (M + 1000) x.s y.s oa.s (by omega)
  have h4 := stt_eq (M + 1000) x.s y.s oa.s (by omega)
  have h5 := equal_eq (M + 1000) x x oa (by omega)
  rw [ocEq_refl] at h5
  generalize ocEq x y = q at h1 h2
  generalize stEq x.s y.s = r at h3 h4
  have c1 : (if false = true then !(q == q) else q == q) = true := by cases q <;> rfl
  have c2 : (if false = true then !(r == r) else r == r) = true := by cases r <;> rfl
  obtain ⟨⟨x1, x2, x3⟩, x4, x5, x6, x7⟩ := x
  obtain ⟨⟨y1, y2, y3⟩, y4, y5, y6, y7⟩ := y
  have h9 := pf10 ha hb hk h1 h2 c1 h3 h4 c2 h5
  exact pure_of [(6, .p (.agg (Oc2.mk ⟨x1, x2, x3⟩ x4 x5 x6 x7).cells)), (8, .p (.agg (Oc2.mk ⟨y1, y2, y3⟩ y4 y5 y6 y7).cells)), (9, .p (.v (.bool true))), (13, .p (boolX q)), (16, .p (boolX q)), (17, .b true), (24, .p (boolX r)), (29, .p (boolX r)), (30, .b true), (35, .p (boolX true))] [] h9 (x := .v (.bool true)) (bx := []) (by kernel_rfl) rfl
end Go.Proofs.YtonnphbfclaigaaGreatDoor
