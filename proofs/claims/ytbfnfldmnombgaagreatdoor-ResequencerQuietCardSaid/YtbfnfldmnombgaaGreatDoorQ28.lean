/- slots.Due, and slots.Expired before it. -/
import Derived.Test.YtbfnfldmnombgaaGreatDoorQ12
import Derived.Test.YtbfnfldmnombgaaGreatDoorQ25
namespace Go.Proofs.YtbfnfldmnombgaaGreatDoor
open Go.Em
set_option maxRecDepth 100000

/-- An outcome that is a state alone. -/
def ocmQ (s : Stt) : Ocm := ⟨s, [], [], []⟩
theorem ocmQ_ok {s : Stt} (h : s.ok) : (ocmQ s).ok := ⟨h, by simp [ocmQ], (fun x hx => by cases hx), by simp [ocmQ], (fun x hx => by cases hx), by simp [ocmQ], (fun x hx => by cases hx)⟩

def dueStep (p : Int × Bool) (x : Slt) : Int × Bool := if decide (x.t > 0) && (!p.2 || decide (x.t < p.1)) then (x.t, true) else p
def dueOf (ss : List Slt) : Int × Bool := ss.foldl dueStep (0, false)
theorem dueOf_take {ss : List Slt} {j : Nat} (hj : j < ss.length) : dueOf (ss.take (j + 1)) = dueStep (dueOf (ss.take j)) ss[j] := by
  unfold dueOf
  rw [List.take_succ_eq_append_getElem hj, List.foldl_append]; rfl
theorem due_le (l : List Slt) : ∀ (p : Int × Bool), (p.2 = true → (l.foldl dueStep p).2 = true ∧ (l.foldl dueStep p).1 ≤ p.1) ∧ ∀ x, x ∈ l → x.t > 0 → (l.foldl dueStep p).2 = true ∧ (l.foldl dueStep p).1 ≤ x.t := by
  induction l with
  | nil => intro p; exact ⟨fun h => ⟨h, Int.le_refl _⟩, fun x hx => by cases hx⟩
  | cons y r ih =>
    intro p
    obtain ⟨i1, i2⟩ := ih (dueStep p y)
    have hs : (p.2 = true → (dueStep p y).2 = true ∧ (dueStep p y).1 ≤ p.1) ∧ (y.t > 0 → (dueStep p y).2 = true ∧ (dueStep p y).1 ≤ y.t) := by
      unfold dueStep
      by_cases h1 : y.t > 0
      · cases h2 : p.2 with
        | false => simp [h1]
        | true =>
          by_cases h3 : y.t < p.1
          · simp [h1, h3]; omega
          · simp [h1, h2, h3]; omega
      · simp [h1]
    refine ⟨fun hp => ?_, fun x hx ht => ?_⟩
    · have h1 := hs.1 hp
      have h2 := i1 h1.1
      exact ⟨h2.1, Int.le_trans h2.2 h1.2⟩
    · rcases List.mem_cons.1 hx with rfl | hx
      · have h1 := hs.2 ht
        have h2 := i1 h1.1
        exact ⟨h2.1, Int.le_trans h2.2 h1.2⟩
      · exact i2 x hx ht

theorem due_pure (s : Stt) (hs : s.slots.length ≤ 60000) (N : Nat) (hN : 60010 ≤ N) : Gam.pureD (callF tab ext N) 15 [.agg s.cells] = some (.tup [num (dueOf s.slots).1, boolX (dueOf s.slots).2]) := by
  obtain ⟨M, rfl⟩ : ∃ M, N = M + 1 := ⟨N - 1, by omega⟩
  obtain ⟨a, b, ss⟩ := s
  dsimp only at hs ⊢
  have hn := sltsC_length ss
  have hl : run (callF tab ext M) 0 M (.loop (loopAt 15 0)) ⟨[(2, num 0), (3, boolX false), (7, .sl false 10 (sltsC ss)), (8, nat (sltsC ss).length), (9, num 0)], [.var [num a, num b, .sl false 10 (sltsC ss)]]⟩ =
      some (.exit 0, ⟨[(2, num (dueOf ss).1), (3, boolX (dueOf ss).2), (7, .sl false 10 (sltsC ss)), (8, nat (sltsC ss).length), (9, nat (sltsC ss).length), (10, boolX false)], []⟩) := by
    refine loop_for (σ := fun j => ⟨[(2, num (dueOf (ss.take j)).1), (3, boolX (dueOf (ss.take j)).2), (7, .sl false 10 (sltsC ss)), (8, nat (sltsC ss).length), (9, nat j)], []⟩) (k := (sltsC ss).length) (by kernel_rfl) (fun j hj => ?_) ?_ (by simp) (by omega)
    · have hj' : j < ss.length := by omega
      have hi := sltsC_get hj'
      have hnx := next_nat (j := j) (by omega)
      simp only [dueOf_take hj']
      generalize dueOf (ss.take j) = p
      obtain ⟨d, f⟩ := p
      unfold dueStep
      dsimp only
      generalize ss[j] = x at hi ⊢
      obtain ⟨⟨x1, x2, x3, x4, x5, x6⟩, x7, x8, ms, vs⟩ := x
      dsimp only
      cases h1 : (decide (x8 > 0)) with
      | true =>
        cases f with
        | true =>
          cases h3 : (decide (x8 < d)) with
          | true => exact ⟨_, run_of (σ' := ⟨[(2, num x8), (3, boolX true), (7, .sl false 10 (sltsC ss)), (8, nat (sltsC ss).length), (9, nat (j + 1))], [.var (slotC x1 x2 x3 x4 (cellsL x5) (cellsF x6) x7 x8 (msgsC ms) (cellsL vs))]⟩) [(10, .b true), (11, .e (Slt.mk ⟨x1, x2, x3, x4, x5, x6⟩ x7 x8 ms vs).cells), (15, .b true), (23, .b true), (28, .i (Int.ofNat (j + 1)))] [] (pf5 (lt_nat hj) hi h1 h3 hnx) (lo' := []) (by kernel_rfl), by kernel_rfl⟩
          | false => exact ⟨_, run_of (σ' := ⟨[(2, num d), (3, boolX true), (7, .sl false 10 (sltsC ss)), (8, nat (sltsC ss).length), (9, nat (j + 1))], [.var (slotC x1 x2 x3 x4 (cellsL x5) (cellsF x6) x7 x8 (msgsC ms) (cellsL vs))]⟩) [(10, .b true), (11, .e (Slt.mk ⟨x1, x2, x3, x4, x5, x6⟩ x7 x8 ms vs).cells), (15, .b true), (23, .b false), (28, .i (Int.ofNat (j + 1)))] [] (pf5 (lt_nat hj) hi h1 h3 hnx) (lo' := []) (by kernel_rfl), by kernel_rfl⟩
        | false => exact ⟨_, run_of (σ' := ⟨[(2, num x8), (3, boolX true), (7, .sl false 10 (sltsC ss)), (8, nat (sltsC ss).length), (9, nat (j + 1))], [.var (slotC x1 x2 x3 x4 (cellsL x5) (cellsF x6) x7 x8 (msgsC ms) (cellsL vs))]⟩) [(10, .b true), (11, .e (Slt.mk ⟨x1, x2, x3, x4, x5, x6⟩ x7 x8 ms vs).cells), (15, .b true), (28, .i (Int.ofNat (j + 1)))] [] (pf4 (lt_nat hj) hi h1 hnx) (lo' := []) (by kernel_rfl), by kernel_rfl⟩
      | false => exact ⟨_, run_of (σ' := ⟨[(2, num d), (3, boolX f), (7, .sl false 10 (sltsC ss)), (8, nat (sltsC ss).length), (9, nat (j + 1))], [.var (slotC x1 x2 x3 x4 (cellsL x5) (cellsF x6) x7 x8 (msgsC ms) (cellsL vs))]⟩) [(10, .b true), (11, .e (Slt.mk ⟨x1, x2, x3, x4, x5, x6⟩ x7 x8 ms vs).cells), (15, .b false), (28, .i (Int.ofNat (j + 1)))] [] (pf4 (lt_nat hj) hi h1 hnx) (lo' := []) (by kernel_rfl), by kernel_rfl⟩
    · have : List.take (sltsC ss).length ss = ss := by rw [hn, List.take_length]
      simp only [this]
      generalize dueOf ss = p
      exact run_of [(10, .b false)] [] (pf1 (nlt_nat (Nat.lt_irrefl (sltsC ss).length))) (lo' := []) (by kernel_rfl)
  generalize dueOf ss = p at hl ⊢
  exact pure_of [] [(.exit 0, ⟨[(2, num p.1), (3, boolX p.2), (7, .sl false 10 (sltsC ss)), (8, nat (sltsC ss).length), (9, nat (sltsC ss).length), (10, boolX false)], []⟩)] (pf1 hl) (x := .tup [num p.1, boolX p.2]) (bx := []) (by kernel_rfl) rfl

theorem sort_none (N : Nat) : Gam.pureD (callF tab ext (N + 40)) 119 [.sl false 10 [], .fn 120 []] = some (.tup []) := by kernel_rfl
theorem expired_none (s : Stt) (hs : s.slots.length ≤ 60000) (d : Int) (hd : ∀ x, x ∈ s.slots → ¬ (x.t > 0 ∧ x.t ≤ d)) (N : Nat) (hN : 60010 ≤ N) : Gam.pureD (callF tab ext N) 70 [.agg s.cells, num d] = some (.sl false 10 []) := by
  obtain ⟨M, rfl⟩ : ∃ M, N = M + 41 := ⟨N - 41, by omega⟩
  obtain ⟨a, b, ss⟩ := s
  dsimp only at hs hd ⊢
  have hn := sltsC_length ss
  have hl : run (callF tab ext (M + 40)) 0 (M + 40) (.loop (loopAt 70 0)) ⟨[(1, num d), (5, .bs 1 0 0), (9, .sl false 10 (sltsC ss)), (10, nat (sltsC ss).length), (11, num 0)], [.var [num a, num b, .sl false 10 (sltsC ss)], .row 10 []]⟩ =
      some (.exit 0, ⟨[(1, num d), (5, .bs 0 0 0), (9, .sl false 10 (sltsC ss)), (10, nat (sltsC ss).length), (11, nat (sltsC ss).length), (12, boolX false)], [.row 10 []]⟩) := by
    refine loop_for (σ := fun j => ⟨[(1, num d), (5, .bs 0 0 0), (9, .sl false 10 (sltsC ss)), (10, nat (sltsC ss).length), (11, nat j)], [.row 10 []]⟩) (k := (sltsC ss).length) (by kernel_rfl) (fun j hj => ?_) ?_ (by simp) (by omega)
    · have hj' : j < ss.length := by omega
      have hi := sltsC_get hj'
      have hnx := next_nat (j := j) (by omega)
      have hx := hd ss[j] (List.getElem_mem hj')
      generalize ss[j] = x at hi hx
      obtain ⟨⟨x1, x2, x3, x4, x5, x6⟩, x7, x8, ms, vs⟩ := x
      dsimp only at hx
      refine ⟨⟨[(1, num d), (5, .bs 0 0 0), (9, .sl false 10 (sltsC ss)), (10, nat (sltsC ss).length), (11, nat (j + 1))], [.row 10 [], .var (slotC x1 x2 x3 x4 (cellsL x5) (cellsF x6) x7 x8 (msgsC ms) (cellsL vs))]⟩, ?_, by kernel_rfl⟩
      cases h1 : (decide (x8 > 0)) with
      | true =>
        have h2 : decide (x8 ≤ d) = false := decide_eq_false (fun h => hx ⟨of_decide_eq_true h1, h⟩)
        exact run_of [(12, .b true), (13, .e (Slt.mk ⟨x1, x2, x3, x4, x5, x6⟩ x7 x8 ms vs).cells), (17, .b true), (22, .b false), (29, .i (Int.ofNat (j + 1)))] [] (pf5 (lt_nat hj) hi h1 h2 hnx) (lo' := []) (by kernel_rfl)
      | false => exact run_of [(12, .b true), (13, .e (Slt.mk ⟨x1, x2, x3, x4, x5, x6⟩ x7 x8 ms vs).cells), (17, .b false), (29, .i (Int.ofNat (j + 1)))] [] (pf4 (lt_nat hj) hi h1 hnx) (lo' := []) (by kernel_rfl)
    · exact run_of [(12, .b false)] [] (pf1 (nlt_nat (Nat.lt_irrefl (sltsC ss).length))) (lo' := []) (by kernel_rfl)
  have hso := sort_none M
  exact pure_of [(31, .p (.tup []))] [(.exit 0, ⟨[(1, num d), (5, .bs 0 0 0), (9, .sl false 10 (sltsC ss)), (10, nat (sltsC ss).length), (11, nat (sltsC ss).length), (12, boolX false)], [.row 10 []]⟩)] (pf2 hl hso) (x := .bs 0 0 0) (bx := [.row 10 []]) (by kernel_rfl) rfl
end Go.Proofs.YtbfnfldmnombgaaGreatDoor

/- ResequencerQuiet comes to true. -/
namespace Go.Proofs.YtbfnfldmnombgaaGreatDoor
open Go.Em
set_option maxRecDepth 100000

def zOcm : List X := [num 0, num 0, .sl true 10 [], .sl true 11 [], .sl true 11 [], .sl true 6 [], .sl true 10 []]
theorem expire_none (M : Nat) (hM : 60020 ≤ M) (n : Nod) (s : Stt) (i : Inp) (hcl : Gam.pureD (callF tab ext M) 41 [.agg s.cells] = some (.agg s.cells)) (he : Gam.pureD (callF tab ext M) 70 [.agg s.cells, num i.time] = some (.sl false 10 [])) :
    Gam.pureD (callF tab ext (M + 1)) 40 [.agg n.cells, .agg s.cells, .agg i.cells] = some (.agg (ocmQ s).cells) := by
  obtain ⟨k, t, ⟨e, p⟩, ⟨ms, ma, mo, ⟨v1, v2, v3, v4, v5, v6⟩⟩, x, b1, b2, ⟨w1, w2, w3, w4, w5, w6⟩⟩ := i
  obtain ⟨a, b, ss⟩ := s
  dsimp only at he
  generalize hi : Inp.mk k t ⟨e, p⟩ ⟨ms, ma, mo, ⟨v1, v2, v3, v4, v5, v6⟩⟩ x b1 b2 ⟨w1, w2, w3, w4, w5, w6⟩ = i
  obtain ⟨K, rfl⟩ : ∃ K, M = K + 10 := ⟨M - 10, by omega⟩
  have hl : run (callF tab ext (K + 10)) 0 (K + 10) (.loop (loopAt 40 0)) ⟨[(3, .ptr 0 0 0), (5, .ptr 2 0 0), (6, .ptr 3 0 0), (7, .ptr 4 0 0), (8, .ptr 5 0 0), (25, .sl false 10 []), (26, num 0), (27, num 0)], [.var n.cells, .var [num a, num b, .sl false 10 (sltsC ss)], .var i.cells, .var zOcm, .var (strX n.name :: num e :: .sl false 1 (intsC p) :: zOcm), .var [num a, num b, .sl false 10 (sltsC ss)]]⟩ =
      some (.exit 0, ⟨[(3, .ptr 0 0 0), (5, .ptr 1 0 0), (6, .ptr 2 0 0), (7, .ptr 3 0 0), (8, .ptr 4 0 0), (25, .sl false 10 []), (26, num 0), (27, num 0), (28, boolX false)], [.var n.cells, .var i.cells, .var zOcm, .var (strX n.name :: num e :: .sl false 1 (intsC p) :: zOcm), .var [num a, num b, .sl false 10 (sltsC ss)]]⟩) := by
    subst hi
    kernel_rfl
  subst hi
  exact pure_of [(21, .p (.agg (Stt.mk a b ss).cells)), (25, .p (.sl false 10 []))] [(.exit 0, ⟨[(3, .ptr 0 0 0), (5, .ptr 1 0 0), (6, .ptr 2 0 0), (7, .ptr 3 0 0), (8, .ptr 4 0 0), (25, .sl false 10 []), (26, num 0), (27, num 0), (28, boolX false)], [.var n.cells, .var (Inp.mk k t ⟨e, p⟩ ⟨ms, ma, mo, ⟨v1, v2, v3, v4, v5, v6⟩⟩ x b1 b2 ⟨w1, w2, w3, w4, w5, w6⟩).cells, .var zOcm, .var (strX n.name :: num e :: .sl false 1 (intsC p) :: zOcm), .var [num a, num b, .sl false 10 (sltsC ss)]]⟩)] (pf3 hcl he hl)
    (x := .agg [num a, num b, .sl false 10 (sltsC ss), .sl true 11 [], .sl true 11 [], .sl true 6 [], .sl true 10 []]) (bx := []) (by kernel_rfl) rfl
theorem step_clock (M : Nat) (n : Nod) (s : Stt) (i : Inp) (h1 : (i.kind == 1) = false) (h2 : (i.kind == 2) = true) (he : Gam.pureD (callF tab ext M) 40 [.agg n.cells, .agg s.cells, .agg i.cells] = some (.agg (ocmQ s).cells)) :
    Gam.pureD (callF tab ext (M + 1)) 17 [.agg n.cells, .agg s.cells, .agg i.cells] = some (.agg (ocmQ s).cells) := by
  obtain ⟨k, t, ⟨e, p⟩, ⟨ms, ma, mo, ⟨v1, v2, v3, v4, v5, v6⟩⟩, x, b1, b2, ⟨w1, w2, w3, w4, w5, w6⟩⟩ := i
  obtain ⟨a, b, ss⟩ := s
  exact pure_of [(10, .b false), (19, .b true), (23, .p (.agg (ocmQ ⟨a, b, ss⟩).cells))] [] (pf3 h1 h2 he) (x := .agg (ocmQ ⟨a, b, ss⟩).cells) (bx := []) (by kernel_rfl) rfl
theorem step_rest (M : Nat) (n : Nod) (s : Stt) (i : Inp) (h1 : (i.kind == 1) = false) (h2 : (i.kind == 2) = false) (hcl : Gam.pureD (callF tab ext M) 41 [.agg s.cells] = some (.agg s.cells)) :
    Gam.pureD (callF tab ext (M + 1)) 17 [.agg n.cells, .agg s.cells, .agg i.cells] = some (.agg (ocmQ s).cells) := by
  obtain ⟨k, t, ⟨e, p⟩, ⟨ms, ma, mo, ⟨v1, v2, v3, v4, v5, v6⟩⟩, x, b1, b2, ⟨w1, w2, w3, w4, w5, w6⟩⟩ := i
  obtain ⟨a, b, ss⟩ := s
  exact pure_of [(10, .b false), (19, .b false), (25, .p (.agg (Stt.mk a b ss).cells))] [] (pf3 h1 h2 hcl) (x := .agg [num a, num b, .sl false 10 (sltsC ss), .sl true 11 [], .sl true 11 [], .sl true 6 [], .sl true 10 []]) (bx := []) (by kernel_rfl) rfl

theorem qquiet_all (cn : List X) (hcn : isNode cn) (s : Stt) (i : Inp) : callF tab ext 260301 (.fn 5) [.agg cn, .agg s.cells, .agg i.cells] [] = some (.v (.bool true), []) := by
  obtain ⟨nd, nd', rfl, hn⟩ := node_of hcn
  have h1 := hn 260299 (by omega)
  have h2 := short_state s 260299 (by omega)
  have h3 := short_inp i 260299 (by omega)
  have hsm := shortS_small s
  generalize shortS s = s' at h2 hsm
  generalize shortN i = i' at h3
  have ho := order_pure 260299 nd nd' s s' i i' h1 h2 h3
  generalize hnd : ({ nd' with kind := 5, time := clip nd'.time } : Nod) = nd2 at ho
  generalize hin : ({ i' with time := clip i'.time } : Inp) = i2 at ho
  clear hnd hin h1 h2 h3
  have hk := known34_at 259900
  obtain ⟨c, hc⟩ := checks34 nd2 s' hsm
  have hc := (hc 260300 (by omega)).2
  have hsl : s'.slots.length ≤ 60000 := hsm.ok.slots
  have hd := due_pure s' hsl 260300 (by omega)
  have hle := fun x hx ht => (due_le s'.slots (0, false)).2 x hx ht
  have hcl := clone_state_pure 260299 s' hsm.ok (by omega)
  have hcl2 := clone_state_pure 260298 s' hsm.ok (by omega)
  have hre := ocm_refl 260300 (ocmQ s') (ocmQ_ok hsm.ok) (by omega)
  have hdue : dueOf s'.slots = s'.slots.foldl dueStep (0, false) := rfl
  rw [← hdue] at hle
  generalize dueOf s'.slots = q at hd hle
  obtain ⟨d, f⟩ := q
  dsimp only at hd hle
  have hstep : (i2.kind == 1) = false → ((i2.kind == 2) = true → f = true → decide (i2.time ≥ d) = false) → Gam.pureD (callF tab ext 260300) 17 [.agg nd2.cells, .agg s'.cells, .agg i2.cells] = some (.agg (ocmQ s').cells) := by
    intro k1 k2
    cases k3 : (i2.kind == 2) with
    | false => exact step_rest 260299 nd2 s' i2 k1 k3 hcl
    | true =>
      have he := expired_none s' hsl i2.time (fun x hx h => by
        obtain ⟨g1, g2⟩ := hle x hx h.1
        have := of_decide_eq_false (k2 k3 g1)
        omega) 260298 (by omega)
      exact step_clock 260299 nd2 s' i2 k1 k3 (expire_none 260298 (by omega) nd2 s' i2 hcl2 he)
  clear hle hcl hcl2 hdue hsl hsm
  obtain ⟨k0, t0, ⟨e0, p0⟩, ⟨⟨me0, mp0⟩, ma0, mo0, ⟨v1, v2, v3, v4, v5, v6⟩⟩, x0, b1, b2, ⟨w1, w2, w3, w4, w5, w6⟩⟩ := i
  obtain ⟨k, t, ⟨e, p⟩, ⟨⟨me, mp⟩, ma, mo, ⟨v1', v2', v3', v4', v5', v6'⟩⟩, x, b1', b2', ⟨w1', w2', w3', w4', w5', w6'⟩⟩ := i2
  obtain ⟨sa, sb, ss⟩ := s
  obtain ⟨sa', sb', ss'⟩ := s'
  dsimp only at hstep
  cases h0 : (c != 0) with
  | true => exact callF_of [(13, .p (.tup [.agg nd2.cells, .agg (Stt.mk sa' sb' ss').cells, .agg (Inp.mk k t ⟨e, p⟩ ⟨⟨me, mp⟩, ma, mo, ⟨v1', v2', v3', v4', v5', v6'⟩⟩ x b1' b2' ⟨w1', w2', w3', w4', w5', w6'⟩).cells])), (19, .p (.tup [num d, boolX f])), (22, .p (boolX true)), (27, .p (num c)), (28, .b true), (49, .p (boolX true))] [] (pf6 ho hd hk hc h0 hk) (by kernel_rfl)
  | false =>
  cases k1 : (k == 1) with
  | true => exact callF_of [(13, .p (.tup [.agg nd2.cells, .agg (Stt.mk sa' sb' ss').cells, .agg (Inp.mk k t ⟨e, p⟩ ⟨⟨me, mp⟩, ma, mo, ⟨v1', v2', v3', v4', v5', v6'⟩⟩ x b1' b2' ⟨w1', w2', w3', w4', w5', w6'⟩).cells])), (19, .p (.tup [num d, boolX f])), (22, .p (boolX true)), (27, .p (num c)), (28, .b false), (33, .b true), (49, .p (boolX true))] [] (pf7 ho hd hk hc h0 k1 hk) (by kernel_rfl)
  | false =>
  cases k2 : (k == 2) with
  | false =>
    have hs := hstep k1 (fun h => by rw [k2] at h; cases h)
    exact callF_of [(13, .p (.tup [.agg nd2.cells, .agg (Stt.mk sa' sb' ss').cells, .agg (Inp.mk k t ⟨e, p⟩ ⟨⟨me, mp⟩, ma, mo, ⟨v1', v2', v3', v4', v5', v6'⟩⟩ x b1' b2' ⟨w1', w2', w3', w4', w5', w6'⟩).cells])), (19, .p (.tup [num d, boolX f])), (22, .p (boolX true)), (27, .p (num c)), (28, .b false), (33, .b false), (38, .b false), (53, .p (.agg (ocmQ ⟨sa', sb', ss'⟩).cells)), (56, .p (boolX true))] [] (pf9 ho hd hk hc h0 k1 k2 hs hre) (by kernel_rfl)
  | true =>
  cases f with
  | false =>
    have hs := hstep k1 (fun _ h => by cases h)
    exact callF_of [(13, .p (.tup [.agg nd2.cells, .agg (Stt.mk sa' sb' ss').cells, .agg (Inp.mk k t ⟨e, p⟩ ⟨⟨me, mp⟩, ma, mo, ⟨v1', v2', v3', v4', v5', v6'⟩⟩ x b1' b2' ⟨w1', w2', w3', w4', w5', w6'⟩).cells])), (19, .p (.tup [num d, boolX false])), (22, .p (boolX true)), (27, .p (num c)), (28, .b false), (33, .b false), (38, .b true), (53, .p (.agg (ocmQ ⟨sa', sb', ss'⟩).cells)), (56, .p (boolX true))] [] (pf9 ho hd hk hc h0 k1 k2 hs hre) (by kernel_rfl)
  | true =>
  cases k3 : decide (t ≥ d) with
  | true => exact callF_of [(13, .p (.tup [.agg nd2.cells, .agg (Stt.mk sa' sb' ss').cells, .agg (Inp.mk k t ⟨e, p⟩ ⟨⟨me, mp⟩, ma, mo, ⟨v1', v2', v3', v4', v5', v6'⟩⟩ x b1' b2' ⟨w1', w2', w3', w4', w5', w6'⟩).cells])), (19, .p (.tup [num d, boolX true])), (22, .p (boolX true)), (27, .p (num c)), (28, .b false), (33, .b false), (38, .b true), (46, .b true), (49, .p (boolX true))] [] (pf9 ho hd hk hc h0 k1 k2 k3 hk) (by kernel_rfl)
  | false =>
    have hs := hstep k1 (fun _ _ => k3)
    exact callF_of [(13, .p (.tup [.agg nd2.cells, .agg (Stt.mk sa' sb' ss').cells, .agg (Inp.mk k t ⟨e, p⟩ ⟨⟨me, mp⟩, ma, mo, ⟨v1', v2', v3', v4', v5', v6'⟩⟩ x b1' b2' ⟨w1', w2', w3', w4', w5', w6'⟩).cells])), (19, .p (.tup [num d, boolX true])), (22, .p (boolX true)), (27, .p (num c)), (28, .b false), (33, .b false), (38, .b true), (46, .b false), (53, .p (.agg (ocmQ ⟨sa', sb', ss'⟩).cells)), (56, .p (boolX true))] [] (pf10 ho hd hk hc h0 k1 k2 k3 hs hre) (by kernel_rfl)
end Go.Proofs.YtbfnfldmnombgaaGreatDoor
