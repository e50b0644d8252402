/- When messages are due. -/
import Derived.WalkKit
import Derived.Deep.LoopGhost
import Derived.Shelf.Slices.Clone
import Derived.Shelf.Unicode.ValidAny
import Derived.LaidMore
import Derived.Lay
import Derived.OpenShut
import Derived.ProofKit
import Derived.Test.YtjfheahakfoofaaGreatDoorDue15
namespace Go.Proofs.YtjfheahakfoofaaGreatDoor
open Go.Em

/-- The least time of the first slots. -/
def minTo (ss : List Slt) : Nat → Int
  | 0 => 0
  | j + 1 => if j = 0 ∨ (ss.getD j dSlt).t < minTo ss j then (ss.getD j dSlt).t else minTo ss j
def dueT (n : Nod) (s : Stt) : Int × Bool :=
  if (accOf s.slots).length = 0 then (0, false)
  else if numF n.number = 0 then (0, false)
  else if maxI 0 s.n ≥ numF n.number then (if IntKind.i64.wrap (winF (perF n.time) s.t + Int.ofNat (perF n.time + 1)) > 17592186044416 then (0, false) else (IntKind.i64.wrap (winF (perF n.time) s.t + Int.ofNat (perF n.time + 1)), true))
  else if s.t > 17592186044416 then (0, false) else (s.t, true)
def dueD (s : Stt) : Int × Bool :=
  if (accOf s.slots).length = 0 then (0, false)
  else if minTo s.slots s.slots.length > 17592186044416 then (0, false) else (minTo s.slots s.slots.length, true)

set_option maxRecDepth 100000 in
theorem due_thr (N : Nat) (hN : 190030 ≤ N) (n : Nod) (hk : n.kind ≠ 8) (s : Stt) (hs : s.small) : Gam.pureD (callF tab ext N) 21 [.agg n.cells, .agg s.cells] = some (.tup [num (dueT n s).1, boolX (dueT n s).2]) := by
  obtain ⟨M, rfl⟩ : ∃ M, N = M + 4 := ⟨N - 4, by omega⟩
  have hw := waiting_pure s hs (M + 3) (by omega)
  have hn := number_pure (M + 2) n
  have hp := period_pure (M + 1) n
  have hwi := window_pure M n s.t
  have hml := msgsC_length (accOf s.slots)
  have k8 : (n.kind == 8) = false := by simpa using hk
  unfold dueT
  generalize numF n.number = nf at hn ⊢
  generalize winF (perF n.time) s.t = wf at hwi ⊢
  generalize Int.ofNat (perF n.time + 1) = pf at hp ⊢
  cases h1 : (Int.ofNat (msgsC (accOf s.slots)).length == 0) with
  | true =>
    have e1 : (accOf s.slots).length = 0 := by
      have := eq_of_beq h1; simp only [Int.ofNat_eq_natCast] at this; omega
    rw [if_pos e1]
    exact pure_of [(9, .p (.sl false 10 (msgsC (accOf s.slots)))), (11, .b true)] [] (pf2 hw h1) (x := .tup ([num 0, boolX false])) (bx := []) (by kernel_rfl) rfl
  | false =>
    have e1 : ¬ (accOf s.slots).length = 0 := by
      have := ne_of_beq_false h1; simp only [Int.ofNat_eq_natCast] at this; omega
    rw [if_neg e1]
    cases h2 : (nf == 0) with
    | true =>
      rw [if_pos (eq_of_beq h2)]
      exact pure_of [(9, .p (.sl false 10 (msgsC (accOf s.slots)))), (11, .b false), (14, .b false), (38, .p (num nf)), (39, .b true)] [] (pf5 hw h1 k8 hn h2) (x := .tup ([num 0, boolX false])) (bx := []) (by kernel_rfl) rfl
    | false =>
      rw [if_neg (ne_of_beq_false h2)]
      cases h3 : (decide (maxI 0 s.n ≥ nf)) with
      | true =>
        rw [if_pos (of_decide_eq_true h3)]
        cases h4 : (decide (IntKind.i64.wrap (wf + pf) > 17592186044416)) with
        | true =>
          rw [if_pos (of_decide_eq_true h4)]
          exact pure_of [(9, .p (.sl false 10 (msgsC (accOf s.slots)))), (11, .b false), (14, .b false), (38, .p (num nf)), (39, .b false), (46, .p (num nf)), (47, .b true), (51, .p (num wf)), (53, .p (num pf)), (56, .b true)] [] (pf10 hw h1 k8 hn h2 hn h3 hwi hp h4) (x := .tup ([num 0, boolX false])) (bx := []) (by kernel_rfl) rfl
        | false =>
          rw [if_neg (of_decide_eq_false h4)]
          exact pure_of [(9, .p (.sl false 10 (msgsC (accOf s.slots)))), (11, .b false), (14, .b false), (38, .p (num nf)), (39, .b false), (46, .p (num nf)), (47, .b true), (51, .p (num wf)), (53, .p (num pf)), (56, .b false)] [] (pf10 hw h1 k8 hn h2 hn h3 hwi hp h4) (x := .tup ([num (IntKind.i64.wrap (wf + pf)), boolX true])) (bx := []) (by kernel_rfl) rfl
      | false =>
        rw [if_neg (of_decide_eq_false h3)]
        cases h5 : (decide (s.t > 17592186044416)) with
        | true =>
          rw [if_pos (of_decide_eq_true h5)]
          exact pure_of [(9, .p (.sl false 10 (msgsC (accOf s.slots)))), (11, .b false), (14, .b false), (38, .p (num nf)), (39, .b false), (46, .p (num nf)), (47, .b false), (56, .b true)] [] (pf8 hw h1 k8 hn h2 hn h3 h5) (x := .tup ([num 0, boolX false])) (bx := []) (by kernel_rfl) rfl
        | false =>
          rw [if_neg (of_decide_eq_false h5)]
          exact pure_of [(9, .p (.sl false 10 (msgsC (accOf s.slots)))), (11, .b false), (14, .b false), (38, .p (num nf)), (39, .b false), (46, .p (num nf)), (47, .b false), (56, .b false)] [] (pf8 hw h1 k8 hn h2 hn h3 h5) (x := .tup ([num s.t, boolX true])) (bx := []) (by kernel_rfl) rfl

def duH (l : List (List X)) (n j : Nat) (t : Int) : St := ⟨[(4, num t), (16, .sl false 10 l), (17, nat n), (18, nat j)], []⟩
def duN (l : List (List X)) (n j : Nat) (t : Int) (x : List X) : St := ⟨[(4, num t), (16, .sl false 10 l), (17, nat n), (18, nat (j + 1))], [.var x]⟩
theorem du_canon (l : List (List X)) (n j : Nat) (t : Int) (x : List X) : canon 0 (duN l n j t x) = some (duH l n (j + 1) t) := by kernel_rfl
theorem du_round (M : Nat) (l : List (List X)) (n j : Nat) (t : Int) (x : Slt) (hj : j < n) (hn : n < 4294967296) (hg : l[j]? = some x.cells) : ∃ υ, run (callF tab ext M) 0 M (loopAt 21 0) (duH l n j t) = some (.norm, υ) ∧ canon 0 υ = some (duH l n (j + 1) (if j = 0 ∨ x.t < t then x.t else t)) := by
  obtain ⟨⟨k, i, s, tx, vl, fl⟩, n2, c, ms, vs⟩ := x
  have h1 := lt_nat hj
  have hnx := next_nat (j := j) (by omega)
  dsimp only
  change l[j]? = some (slotC k i s tx (cellsL vl) (cellsF fl) n2 c (msgsC ms) (cellsL vs)) at hg
  generalize cellsL vl = vl at hg
  generalize cellsF fl = fl at hg
  generalize msgsC ms = ms at hg
  generalize cellsL vs = vs at hg
  cases h2 : (Int.ofNat j == 0) with
  | true =>
    have e : j = 0 := by have := eq_of_beq h2; simp only [Int.ofNat_eq_natCast] at this; omega
    rw [if_pos (Or.inl e)]
    exact ⟨duN l n j c (slotC k i s tx vl fl n2 c ms vs), run_of [(19, .b true), (21, .e (slotC k i s tx vl fl n2 c ms vs)), (24, .b true), (33, .i (Int.ofNat (j + 1)))] [] (pf4 h1 hg h2 hnx) (lo' := []) (by kernel_rfl), du_canon ..⟩
  | false =>
    have e : ¬ j = 0 := by have := ne_of_beq_false h2; simp only [Int.ofNat_eq_natCast] at this; omega
    cases h3 : (decide (c < t)) with
    | true =>
      rw [if_pos (Or.inr (of_decide_eq_true h3))]
      exact ⟨duN l n j c (slotC k i s tx vl fl n2 c ms vs), run_of [(19, .b true), (21, .e (slotC k i s tx vl fl n2 c ms vs)), (24, .b false), (29, .b true), (33, .i (Int.ofNat (j + 1)))] [] (pf5 h1 hg h2 h3 hnx) (lo' := []) (by kernel_rfl), du_canon ..⟩
    | false =>
      rw [if_neg (fun h => h.elim e (of_decide_eq_false h3))]
      exact ⟨duN l n j t (slotC k i s tx vl fl n2 c ms vs), run_of [(19, .b true), (21, .e (slotC k i s tx vl fl n2 c ms vs)), (24, .b false), (29, .b false), (33, .i (Int.ofNat (j + 1)))] [] (pf5 h1 hg h2 h3 hnx) (lo' := []) (by kernel_rfl), du_canon ..⟩

set_option maxRecDepth 100000 in
theorem due_del (N : Nat) (hN : 190030 ≤ N) (n : Nod) (hk : n.kind = 8) (s : Stt) (hs : s.small) : Gam.pureD (callF tab ext N) 21 [.agg n.cells, .agg s.cells] = some (.tup [num (dueD s).1, boolX (dueD s).2]) := by
  obtain ⟨M, rfl⟩ : ∃ M, N = M + 4 := ⟨N - 4, by omega⟩
  have hw := waiting_pure s hs (M + 3) (by omega)
  have hml := msgsC_length (accOf s.slots)
  have k8 : (n.kind == 8) = true := by simpa using hk
  have hsl := hs.slots
  have hnl := sltsC_length s.slots
  have hloop : run (callF tab ext (M + 3)) 0 (M + 3) (.loop (loopAt 21 0)) ⟨[(4, num 0), (16, .sl false 10 (sltsC s.slots)), (17, nat (sltsC s.slots).length), (18, num 0)], [.var n.cells, .var [num s.n, num s.t, .sl false 10 (sltsC s.slots)]]⟩ = some (.exit 0, ⟨[(4, num (minTo s.slots s.slots.length)), (16, .sl false 10 (sltsC s.slots)), (17, nat (sltsC s.slots).length), (18, nat (sltsC s.slots).length), (19, boolX false)], []⟩) := by
    refine loop_for (σ := fun j => duH (sltsC s.slots) (sltsC s.slots).length j (minTo s.slots j)) (k := (sltsC s.slots).length) (by kernel_rfl) (fun j hj => ?_) ?_ (by simp) (by omega)
    · have hj' : j < s.slots.length := by omega
      have := du_round (M + 3) (sltsC s.slots) (sltsC s.slots).length j (minTo s.slots j) s.slots[j] hj (by omega) (sltsC_get hj')
      have e : minTo s.slots (j + 1) = if j = 0 ∨ s.slots[j].t < minTo s.slots j then s.slots[j].t else minTo s.slots j := by
        rw [minTo, List.getD_eq_getElem?_getD, List.getElem?_eq_getElem hj']; rfl
      rw [e]; exact this
    · rw [← hnl]
      exact run_of [(19, .b false)] [] (pf1 (nlt_nat (Nat.lt_irrefl (sltsC s.slots).length))) (lo' := []) (by kernel_rfl)
  unfold dueD
  generalize minTo s.slots s.slots.length = mt at hloop ⊢
  cases h1 : (Int.ofNat (msgsC (accOf s.slots)).length == 0) with
  | true =>
    have e1 : (accOf s.slots).length = 0 := by
      have := eq_of_beq h1; simp only [Int.ofNat_eq_natCast] at this; omega
    rw [if_pos e1]
    exact pure_of [(9, .p (.sl false 10 (msgsC (accOf s.slots)))), (11, .b true)] [] (pf2 hw h1) (x := .tup ([num 0, boolX false])) (bx := []) (by kernel_rfl) rfl
  | false =>
    have e1 : ¬ (accOf s.slots).length = 0 := by
      have := ne_of_beq_false h1; simp only [Int.ofNat_eq_natCast] at this; omega
    rw [if_neg e1]
    cases h2 : (decide (mt > 17592186044416)) with
    | true =>
      rw [if_pos (of_decide_eq_true h2)]
      exact pure_of [(9, .p (.sl false 10 (msgsC (accOf s.slots)))), (11, .b false), (14, .b true), (35, .b true)] [(.exit 0, ⟨[(4, num mt), (16, .sl false 10 (sltsC s.slots)), (17, nat (sltsC s.slots).length), (18, nat (sltsC s.slots).length), (19, boolX false)], []⟩)] (pf5 hw h1 k8 hloop h2) (x := .tup ([num 0, boolX false])) (bx := []) (by kernel_rfl) rfl
    | false =>
      rw [if_neg (of_decide_eq_false h2)]
      exact pure_of [(9, .p (.sl false 10 (msgsC (accOf s.slots)))), (11, .b false), (14, .b true), (35, .b false)] [(.exit 0, ⟨[(4, num mt), (16, .sl false 10 (sltsC s.slots)), (17, nat (sltsC s.slots).length), (18, nat (sltsC s.slots).length), (19, boolX false)], []⟩)] (pf5 hw h1 k8 hloop h2) (x := .tup ([num mt, boolX true])) (bx := []) (by kernel_rfl) rfl
end Go.Proofs.YtjfheahakfoofaaGreatDoor

/- A delay at a tick of the clock. -/
namespace Go.Proofs.YtjfheahakfoofaaGreatDoor
open Go.Em

def goL (now : Int) (ss : List Slt) : List Msg := accOf (ss.filter fun x => decide (x.t ≤ now))
def stayL (now : Int) (ss : List Slt) : List Slt := ss.filter fun x => !decide (x.t ≤ now)
theorem goL_snoc (now : Int) (ss : List Slt) (x : Slt) : goL now (ss ++ [x]) = if x.t ≤ now then goL now ss ++ x.items else goL now ss := by
  unfold goL
  rw [List.filter_append]
  split
  · rename_i h
    rw [List.filter_cons, if_pos (decide_eq_true h)]
    simp [accOf]
  · rename_i h
    rw [List.filter_cons, if_neg (by simpa using h)]
    simp
theorem stayL_snoc (now : Int) (ss : List Slt) (x : Slt) : stayL now (ss ++ [x]) = if x.t ≤ now then stayL now ss else stayL now ss ++ [x] := by
  unfold stayL
  rw [List.filter_append]
  split
  · rename_i h
    rw [List.filter_cons, if_neg (by simpa using h)]
    simp
  · rename_i h
    rw [List.filter_cons, if_pos (by simpa using h)]
    simp
theorem apps_ok {acc : List (List X)} (j m i bytes : Nat) (h : j = acc.length) (hj : j + m < 1000000) (hb : bytes < 1000) : 0 + j = acc.length ∧ roomOk (j + m) bytes = true ∧ memN i [] = false :=
  ⟨by omega, room_of (by have : (j + m) * bytes ≤ 1000000 * 1000 := Nat.mul_le_mul (by omega) (by omega); omega) (by omega), rfl⟩

/-- An input, by its cells. -/
structure Cin where
  se : Int
  tm : Int
  e : Int
  ms : Int
  a1 : Int
  a2 : Int
  a3 : Int
  x : Int
  c1 : Int
  c2 : Int
  c3 : Int
  sp : List (List X)
  mp : List (List X)
  o : List (List X)
  a5 : List (List X)
  a6 : List (List X)
  c5 : List (List X)
  c6 : List (List X)
  a4 : ByteArray
  c4 : ByteArray
  b1 : Bool
  b2 : Bool
def Cin.cells (i : Cin) (kd : Int) : List X := inX i.se kd i.tm i.sp i.e i.mp i.ms i.o i.a1 i.a2 i.a3 i.a4 i.a5 i.a6 i.x i.b1 i.b2 i.c1 i.c2 i.c3 i.c4 i.c5 i.c6
theorem cin_of (i : Inp) : ∃ c : Cin, i.cells = c.cells i.kind ∧ c.tm = i.time ∧ c.se = i.st.e ∧ c.sp = intsC i.st.p := by
  rw [inX_cells]
  obtain ⟨kd, tm, ⟨se, sp⟩, ⟨⟨e, p⟩, ms, o, ⟨a1, a2, a3, a4, a5, a6⟩⟩, x, b1, b2, ⟨c1, c2, c3, c4, c5, c6⟩⟩ := i
  exact ⟨⟨se, tm, e, ms, a1, a2, a3, x, c1, c2, c3, intsC sp, intsC p, intsC o, cellsL a5, cellsF a6, cellsL c5, cellsF c6, a4, c4, b1, b2⟩, rfl, rfl, rfl, rfl⟩

section
variable (nd : Nod) (ci : Cin) (a b : Int) (l acc rs its : List (List X)) (nn j q r : Nat) (now : Int) (sc : List X)
def dlZ : List X := [num 0, num 0, .sl true 10 [], .sl true 11 [], .sl true 11 [], .sl true 6 [], .sl true 10 []]
def dlO (i : Nat) : List X := [num a, num b, .bs i 0 r, .sl true 11 [], .sl true 11 [], .sl true 6 [], .sl true 10 []]
def dlTm (k j q : Nat) : List (Nat × X) := [(3, .ptr 0 0 0), (5, .ptr 1 0 0), (6, .ptr 2 0 0), (7, num now), (9, .ptr 3 0 0), (10, .bs k 0 q), (52, .sl false 10 l), (53, nat nn), (54, nat j)]
def dlH : St := ⟨dlTm l nn now 4 j q, [.var nd.cells, .var (ci.cells 2), .var dlZ, .var (dlO a b r 5), .row 10 acc, .row 10 rs]⟩
def dlA : St := ⟨dlTm l nn now 7 (j + 1) (q + its.length), [.var nd.cells, .var (ci.cells 2), .var dlZ, .var (dlO a b r 5), .dead, .row 10 rs, .var sc, .row 10 (acc ++ its)]⟩
def dlS : St := ⟨dlTm l nn now 4 (j + 1) q, [.var nd.cells, .var (ci.cells 2), .var dlZ, .var (dlO a b (r + 1) 7), .row 10 acc, .dead, .var sc, .row 10 (rs ++ [sc])]⟩
def dlE : St := ⟨dlTm l nn now 4 j q ++ [(55, boolX false)], [.var nd.cells, .var (ci.cells 2), .var dlZ, .var (dlO a b r 5), .row 10 acc, .row 10 rs]⟩
theorem dlA_canon : canon 0 (dlA nd ci a b l acc rs its nn j q r now sc) = some (dlH nd ci a b l (acc ++ its) rs nn (j + 1) (q + its.length) r now) := by kernel_rfl
theorem dlS_canon : canon 0 (dlS nd ci a b l acc rs nn j q r now sc) = some (dlH nd ci a b l acc (rs ++ [sc]) nn (j + 1) q (r + 1) now) := by kernel_rfl
end
theorem dl_round (M : Nat) (nd : Nod) (ci : Cin) (a b : Int) (l : List (List X)) (acc : List Msg) (rs : List Slt) (nn j : Nat) (now : Int) (x : Slt) (hj : j < nn) (hn : nn < 4294967296) (hg : l[j]? = some x.cells) (hq : acc.length + x.items.length < 100000) (hr : rs.length < 100000) :
    ∃ υ, run (callF tab ext M) 0 M (loopAt 30 0) (dlH nd ci a b l (msgsC acc) (sltsC rs) nn j acc.length rs.length now) = some (.norm, υ) ∧
      canon 0 υ = some (dlH nd ci a b l (msgsC (if x.t ≤ now then acc ++ x.items else acc)) (sltsC (if x.t ≤ now then rs else rs ++ [x])) nn (j + 1) (if x.t ≤ now then acc ++ x.items else acc).length (if x.t ≤ now then rs else rs ++ [x]).length now) := by
  have h1 := lt_nat hj
  have hnx := next_nat (j := j) (by omega)
  have ha := msgsC_length acc
  have hs := sltsC_length rs
  have hi := msgsC_length x.items
  have e1 : msgsC (acc ++ x.items) = msgsC acc ++ msgsC x.items := by simp [msgsC]
  have e2 : sltsC (rs ++ [x]) = sltsC rs ++ [x.cells] := by simp [sltsC]
  have e3 : (acc ++ x.items).length = acc.length + (msgsC x.items).length := by rw [List.length_append, hi]
  have e4 : (rs ++ [x]).length = rs.length + 1 := List.length_append.trans rfl
  cases h3 : (decide (x.t ≤ now)) with
  | true =>
    rw [if_pos (of_decide_eq_true h3), if_pos (of_decide_eq_true h3), e1, e3]
    have happ := apps_ok (acc := msgsC acc) acc.length (msgsC x.items).length 4 152 ha.symm (by omega) (by omega)
    obtain ⟨⟨k, i, s, tx, vl, fl⟩, n2, c, ms, vs⟩ := x
    exact ⟨dlA nd ci a b l (msgsC acc) (sltsC rs) (msgsC ms) nn j acc.length rs.length now (slotC k i s tx (cellsL vl) (cellsF fl) n2 c (msgsC ms) (cellsL vs)), run_of [(55, .b true), (56, .e (slotC k i s tx (cellsL vl) (cellsF fl) n2 c (msgsC ms) (cellsL vs))), (61, .b true), (65, .app), (74, .i (Int.ofNat (j + 1)))] [] (pf5 h1 hg h3 happ hnx) (lo' := []) (by kernel_rfl), dlA_canon ..⟩
  | false =>
    rw [if_neg (of_decide_eq_false h3), if_neg (of_decide_eq_false h3), e2, e4]
    have happ := apps_ok (acc := sltsC rs) rs.length 1 5 152 hs.symm (by omega) (by omega)
    obtain ⟨⟨k, i, s, tx, vl, fl⟩, n2, c, ms, vs⟩ := x
    exact ⟨dlS nd ci a b l (msgsC acc) (sltsC rs) nn j acc.length rs.length now (slotC k i s tx (cellsL vl) (cellsF fl) n2 c (msgsC ms) (cellsL vs)), run_of [(55, .b true), (56, .e (slotC k i s tx (cellsL vl) (cellsF fl) n2 c (msgsC ms) (cellsL vs))), (61, .b false), (71, .app), (74, .i (Int.ofNat (j + 1)))] [] (pf5 h1 hg h3 happ hnx) (lo' := []) (by kernel_rfl), dlS_canon ..⟩
def delF (n : Nod) (s : Stt) (b : Stp) (now : Int) : Ocm := ⟨⟨s.n, s.t, stayL now s.slots⟩, outsF b (goL now s.slots) (goL now s.slots).length, fatesF n.name b (goL now s.slots) (goL now s.slots).length, []⟩
theorem goL_le (now : Int) : ∀ ss : List Slt, (goL now ss).length ≤ (accOf ss).length
  | [] => Nat.le_refl _
  | x :: r => by
    have := goL_le now r
    unfold goL at this ⊢
    rw [List.filter_cons]
    split
    · simp only [accOf, List.flatMap_cons, List.length_append] at this ⊢; omega
    · simp only [accOf, List.flatMap_cons, List.length_append] at this ⊢; omega
theorem goL_mem {now : Int} {ss : List Slt} {m : Msg} (h : m ∈ goL now ss) : m ∈ accOf ss := by
  obtain ⟨x, hx, hm⟩ := List.mem_flatMap.1 h
  exact List.mem_flatMap.2 ⟨x, (List.mem_filter.1 hx).1, hm⟩
theorem accOf_take_le (ss : List Slt) (j : Nat) : (accOf (ss.take j)).length ≤ (accOf ss).length := by
  have : accOf ss = accOf (ss.take j) ++ accOf (ss.drop j) := by
    unfold accOf; rw [← List.flatMap_append, List.take_append_drop]
  rw [this, List.length_append]; omega

theorem dl_loop (M : Nat) (hM : 190000 ≤ M) (nd : Nod) (ci : Cin) (a b : Int) (ss : List Slt) (hs : ss.length ≤ 100) (hacc : (accOf ss).length ≤ 3000) (now : Int) {τ : St} (hτ : canon 0 τ = some (dlH nd ci a b (sltsC ss) [] [] (sltsC ss).length 0 0 0 now)) :
    run (callF tab ext M) 0 M (.loop (loopAt 30 0)) τ = some (.exit 1, dlE nd ci a b (sltsC ss) (msgsC (goL now ss)) (sltsC (stayL now ss)) (sltsC ss).length (sltsC ss).length (goL now ss).length (stayL now ss).length now) := by
  have hn := sltsC_length ss
  refine loop_for (σ := fun j => dlH nd ci a b (sltsC ss) (msgsC (goL now (ss.take j))) (sltsC (stayL now (ss.take j))) (sltsC ss).length j (goL now (ss.take j)).length (stayL now (ss.take j)).length now) (k := (sltsC ss).length) hτ (fun j hj => ?_) ?_ (by simp) (by omega)
  · have hj' : j < ss.length := by omega
    have hg := sltsC_get hj'
    have e1 : ss.take (j + 1) = ss.take j ++ [ss[j]] := List.take_succ_eq_append_getElem hj'
    have h1 := goL_le now (ss.take (j + 1))
    have h2 := accOf_take_le ss (j + 1)
    have h3 : (goL now (ss.take j)).length ≤ (accOf ss).length := Nat.le_trans (goL_le _ _) (accOf_take_le ss j)
    have h4 : (stayL now (ss.take j)).length ≤ 100 := Nat.le_trans (List.length_filter_le _ _) (by rw [List.length_take]; omega)
    have h5 : ss[j].items.length ≤ (accOf ss).length := by
      have : (accOf (ss.take (j + 1))).length = (accOf (ss.take j)).length + ss[j].items.length := by
        rw [e1, accOf_append, List.length_append]
      omega
    have := dl_round M nd ci a b (sltsC ss) (goL now (ss.take j)) (stayL now (ss.take j)) (sltsC ss).length j now ss[j] hj (by omega) hg (by omega) (by omega)
    rw [e1, goL_snoc, stayL_snoc]
    exact this
  · have e : ss.take (sltsC ss).length = ss := List.take_of_length_le (by omega)
    rw [e]
    exact run_of [(55, .b false)] [] (pf1 (nlt_nat (Nat.lt_irrefl (sltsC ss).length))) (lo' := []) (by kernel_rfl)

set_option maxRecDepth 100000 in
theorem delay_clk (N : Nat) (hN : 190060 ≤ N) (n : Nod) (s : Stt) (hs : s.small) (hacc : (accOf s.slots).length ≤ 3000) (ci : Cin) (b : Stp) (hb : b.p.length ≤ 100) (he : ci.se = b.e) (hp : ci.sp = intsC b.p) : Gam.pureD (callF tab ext N) 30 [.agg n.cells, .agg s.cells, .agg (ci.cells 2)] = some (.agg (delF n s b (clampF ci.tm 0 maxTime)).cells) := by
  obtain ⟨M, rfl⟩ : ∃ M, N = M + 3 := ⟨N - 3, by omega⟩
  have hnow := clamp_pure (M + 1) ci.tm 0 maxTime
  generalize clampF ci.tm 0 maxTime = now at hnow ⊢
  have hloop := dl_loop (M + 2) (by omega) n ci s.n s.t s.slots hs.slots hacc now
    (τ := ⟨[(3, .ptr 0 0 0), (5, .ptr 2 0 0), (6, .ptr 3 0 0), (7, num now), (9, .ptr 4 0 0), (10, .bs 5 0 0), (52, .sl false 10 (sltsC s.slots)), (53, nat ((sltsC s.slots).length)), (54, num 0)], [.var n.cells, .var s.cells, .var (ci.cells 2), .var dlZ, .var (dlO s.n s.t 0 6), .row 10 [], .row 10 []]⟩) (by kernel_rfl)
  have hle := goL_le now s.slots
  have hok : ∀ m, m ∈ goL now s.slots → m.ok := fun m hm => accOf_ok hs m (goL_mem hm)
  unfold delF
  have hml := msgsC_length (goL now s.slots)
  have hsl := sltsC_length (stayL now s.slots)
  have hrel : relN (goL now s.slots) (Int.ofNat (msgsC (goL now s.slots)).length) = (goL now s.slots).length := by
    unfold relN; simp only [Int.ofNat_eq_natCast, Int.toNat_natCast]; omega
  have hz := fun h => release_zero M n s.n s.t false (sltsC (stayL now s.slots)) (goL now s.slots) (Int.ofNat (msgsC (goL now s.slots)).length) b (by omega) (by omega) hok (by omega) h
  have hnz := fun h => release_some M n s.n s.t false (sltsC (stayL now s.slots)) (goL now s.slots) (Int.ofNat (msgsC (goL now s.slots)).length) b (by omega) (by omega) hok (by omega) h
  rw [hrel] at hz hnz
  have ho := outsF_length b (goL now s.slots) (goL now s.slots).length
  have hf := fatesF_length n.name b (goL now s.slots) (goL now s.slots).length
  rw [hml] at hz hnz
  rw [← hml] at hloop hz hnz
  rw [← hsl] at hloop
  unfold Stp.cells at hz hnz
  rw [← he, ← hp] at hz hnz
  have g1 : 0 + (msgsC (goL now s.slots)).length ≤ (msgsC (goL now s.slots)).length := by omega
  have g2 : 0 + (sltsC (stayL now s.slots)).length ≤ (sltsC (stayL now s.slots)).length := by omega
  generalize stayL now s.slots = st at hloop hz hnz g2 ⊢
  have ec : (sltsC st).take (sltsC st).length = sltsC st := List.take_length
  by_cases h0 : (msgsC (goL now s.slots)).length = 0
  · have hr := hz h0
    rw [← hml, h0]
    generalize msgsC (goL now s.slots) = mc at hloop hr g1
    have em : mc.take mc.length = mc := List.take_length
    replace hr : callF tab ext (M + 2) (.fn 73) [.ptr 0 0 0, .agg n.cells, .sl false 10 (mc.take mc.length), .agg [num ci.se, .sl false 1 ci.sp], num (Int.ofNat (mc.take mc.length).length)] [.var (out0 s.n s.t false ((sltsC st).take (sltsC st).length))] = some (nat 0, [.var (out0 s.n s.t false (sltsC st))]) := by
      rw [em, ec]; exact hr
    exact pure_of [(15, .p (num now)), (81, .r (nat 0) [.var (out0 s.n s.t false (sltsC st))])] [(.exit 1, dlE n ci s.n s.t (sltsC s.slots) mc (sltsC st) (sltsC s.slots).length (sltsC s.slots).length mc.length (sltsC st).length now)] (pf5 hnow hloop g1 g2 hr)
      (x := .agg [num s.n, num s.t, .sl false 10 (sltsC st), .sl true 11 [], .sl true 11 [], .sl true 6 [], .sl true 10 []]) (bx := []) (by kernel_rfl) rfl
  · have hr := hnz h0
    rw [← hml] at ho hf ⊢
    generalize outsF b (goL now s.slots) (msgsC (goL now s.slots)).length = os at hr ho ⊢
    generalize fatesF n.name b (goL now s.slots) (msgsC (goL now s.slots)).length = fs at hr hf ⊢
    generalize msgsC (goL now s.slots) = mc at hloop hr g1 ho hf
    have em : mc.take mc.length = mc := List.take_length
    replace hr : callF tab ext (M + 2) (.fn 73) [.ptr 0 0 0, .agg n.cells, .sl false 10 (mc.take mc.length), .agg [num ci.se, .sl false 1 ci.sp], num (Int.ofNat (mc.take mc.length).length)] [.var (out0 s.n s.t false ((sltsC st).take (sltsC st).length))] = some (nat mc.length, [.var (outJ s.n s.t false (sltsC st) 1 2 mc.length), .row 11 (otpsC os), .row 6 (ftesC fs)]) := by
      rw [em, ec]; exact hr
    have hd : (X.agg [num s.n, num s.t, .sl false 10 (sltsC st), .bs 0 0 mc.length, .sl true 11 [], .bs 1 0 mc.length, .sl true 10 []]).data [.row 11 (otpsC os), .row 6 (ftesC fs)] false = some (.agg (Ocm.mk ⟨s.n, s.t, st⟩ os fs []).cells) := by
      simp [X.data, dataL, rowOf, num, Ocm.cells, hf, ho, msgsC]
      exact ⟨List.take_of_length_le (Nat.le_of_eq ho), List.take_of_length_le (Nat.le_of_eq hf)⟩
    exact pure_of [(15, .p (num now)), (81, .r (nat mc.length) [.var (outJ s.n s.t false (sltsC st) 1 2 mc.length), .row 11 (otpsC os), .row 6 (ftesC fs)])] [(.exit 1, dlE n ci s.n s.t (sltsC s.slots) mc (sltsC st) (sltsC s.slots).length (sltsC s.slots).length mc.length (sltsC st).length now)] (pf5 hnow hloop g1 g2 hr)
      (x := .agg [num s.n, num s.t, .sl false 10 (sltsC st), .bs 0 0 mc.length, .sl true 11 [], .bs 1 0 mc.length, .sl true 10 []]) (bx := [.row 11 (otpsC os), .row 6 (ftesC fs)]) (by kernel_rfl) hd
end Go.Proofs.YtjfheahakfoofaaGreatDoor

/- A tick of the clock, and what is due: the plain law. -/
namespace Go.Proofs.YtjfheahakfoofaaGreatDoor
open Go.Em

/-! ### What a state that passes says of its numbers -/
def numbF (x y : Int) : Int := if x < -999999999999999 then 2 else if 999999999999999 < x then 2 else if y < 0 then 2 else if 17592186044416 < y then 2 else 0
theorem numb_pure (N : Nat) (x y : Int) : Gam.pureD (callF tab ext (N + 2)) 64 [num x, num y] = some (num (numbF x y)) := by
  unfold numbF
  cases h1 : decide (x < -999999999999999) with
  | true =>
    rw [if_pos (of_decide_eq_true h1)]
    exact pure_of [(6, .b true)] [] (pf1 h1) (x := num (2)) (bx := []) (by kernel_rfl) rfl
  | false =>
    rw [if_neg (of_decide_eq_false h1)]
    cases h2 : decide (999999999999999 < x) with
    | true =>
      rw [if_pos (of_decide_eq_true h2)]
      exact pure_of [(6, .b false), (9, .b true)] [] (pf2 h1 h2) (x := num (2)) (bx := []) (by kernel_rfl) rfl
    | false =>
      rw [if_neg (of_decide_eq_false h2)]
      cases h3 : decide (y < 0) with
      | true =>
        rw [if_pos (of_decide_eq_true h3)]
        exact pure_of [(6, .b false), (9, .b false), (13, .b true)] [] (pf3 h1 h2 h3) (x := num (2)) (bx := []) (by kernel_rfl) rfl
      | false =>
        rw [if_neg (of_decide_eq_false h3)]
        cases h4 : decide (17592186044416 < y) with
        | true =>
          rw [if_pos (of_decide_eq_true h4)]
          exact pure_of [(6, .b false), (9, .b false), (13, .b false), (17, .b true)] [] (pf4 h1 h2 h3 h4) (x := num (2)) (bx := []) (by kernel_rfl) rfl
        | false =>
          rw [if_neg (of_decide_eq_false h4)]
          exact pure_of [(6, .b false), (9, .b false), (13, .b false), (17, .b false)] [] (pf4 h1 h2 h3 h4) (x := num (0)) (bx := []) (by kernel_rfl) rfl
theorem state_numb (s : Stt) (hc : ∀ N, 190060 ≤ N → Gam.pureD (callF tab ext N) 27 [.agg s.cells] = some (num 0)) : -999999999999999 ≤ s.n ∧ s.n ≤ 999999999999999 ∧ 0 ≤ s.t ∧ s.t ≤ 17592186044416 := by
  have h0 : numbF s.n s.t = 0 := by
    apply Classical.byContradiction
    intro hne
    have h1 := numb_pure 190058 s.n s.t
    generalize numbF s.n s.t = c0 at h1 hne
    have h2 : (!(c0 == 0)) = true := by simp [hne]
    have h3 : Gam.pureD (callF tab ext (190060 + 1)) 27 [.agg s.cells] = some (num c0) := pure_of [(13, .p (num c0)), (15, .b true)] [] (pf2 h1 h2) (x := num c0) (bx := []) (by kernel_rfl) rfl
    rw [hc _ (by omega)] at h3
    simp only [num, Option.some.injEq, X.v.injEq, Value.int.injEq, true_and] at h3
    exact hne h3.symm
  unfold numbF at h0
  split at h0
  · cases h0
  · split at h0
    · cases h0
    · split at h0
      · cases h0
      · split at h0
        · cases h0
        · omega

/-! ### Windows -/
theorem win_eq (p : Nat) (t : Int) (h0 : 0 ≤ t) (h1 : t ≤ 17592186044416) : winF p t = Int.ofNat (p + 1) * (t / Int.ofNat (p + 1)) := by
  unfold winF
  rw [if_neg (by omega), Int.tmod_eq_emod_of_nonneg h0]
  have h2 := Int.emod_add_mul_ediv t (Int.ofNat (p + 1))
  have h3 := Int.emod_nonneg t (show Int.ofNat (p + 1) ≠ 0 by simp only [Int.ofNat_eq_natCast]; omega)
  have h4 : 0 ≤ t / Int.ofNat (p + 1) := Int.ediv_nonneg h0 (by simp only [Int.ofNat_eq_natCast]; omega)
  have h5 : 0 ≤ Int.ofNat (p + 1) * (t / Int.ofNat (p + 1)) := Int.mul_nonneg (by simp only [Int.ofNat_eq_natCast]; omega) h4
  generalize Int.ofNat (p + 1) * (t / Int.ofNat (p + 1)) = w at h2 h5 ⊢
  generalize t % Int.ofNat (p + 1) = m at h2 h3 ⊢
  rw [IntKind.wrap_i64]
  omega
theorem win_next {p : Nat} {s t : Int} (h0 : 0 ≤ s) (hst : s ≤ t) (ht : t ≤ 17592186044416) : (winF p s + Int.ofNat (p + 1) ≤ t → winF p t > s) ∧ (t < winF p s + Int.ofNat (p + 1) → ¬ winF p t > s) ∧ winF p s ≤ s ∧ 0 ≤ winF p s := by
  rw [win_eq p s h0 (by omega), win_eq p t (by omega) ht]
  have hp : (0 : Int) < Int.ofNat (p + 1) := by simp only [Int.ofNat_eq_natCast]; omega
  generalize Int.ofNat (p + 1) = q at hp ⊢
  have a1 := Int.emod_add_mul_ediv s q
  have a2 := Int.emod_nonneg s (show q ≠ 0 by omega)
  have a3 := Int.emod_lt_of_pos s hp
  have b1 := Int.emod_add_mul_ediv t q
  have b2 := Int.emod_nonneg t (show q ≠ 0 by omega)
  have b3 := Int.emod_lt_of_pos t hp
  have a4 : 0 ≤ q * (s / q) := Int.mul_nonneg (by omega) (Int.ediv_nonneg h0 (by omega))
  have key : s / q < t / q → q * (s / q) + q ≤ q * (t / q) := fun h => by
    have := Int.mul_le_mul_of_nonneg_left (show s / q + 1 ≤ t / q by omega) (show 0 ≤ q by omega)
    rw [Int.mul_add, Int.mul_one] at this; exact this
  have key2 : t / q ≤ s / q → q * (t / q) ≤ q * (s / q) := fun h => Int.mul_le_mul_of_nonneg_left h (by omega)
  refine ⟨fun h => ?_, fun h => ?_, by omega, a4⟩
  · by_cases hl : s / q < t / q
    · have := key hl; omega
    · have := key2 (by omega); omega
  · by_cases hl : s / q < t / q
    · have := key hl; omega
    · have := key2 (by omega); omega
theorem clamp_self {t : Int} (h0 : 0 ≤ t) (h1 : t ≤ 17592186044416) : clampF t 0 maxTime = t := by
  unfold clampF maxI minI maxTime
  split <;> split <;> omega
end Go.Proofs.YtjfheahakfoofaaGreatDoor

/- What is due, and what a tick does. -/
namespace Go.Proofs.YtjfheahakfoofaaGreatDoor
open Go.Em

/-- A tick does what is due. -/
def DueOk (d : Int × Bool) (o : Ocm) (s : Stt) (t : Int) : Prop :=
  (d.2 = true ∧ d.1 ≤ t ∧ 0 < o.outs.length ∧ o.fates.length = o.outs.length) ∨ ((d.2 = false ∨ (d.2 = true ∧ ¬ d.1 ≤ t)) ∧ o = plainO s)

theorem thr_due (n : Nod) (hn : n.number ≤ 9223372036854775807) (s : Stt) (b : Stp) (h0 : 0 ≤ s.n) (h1 : s.n ≤ 999999999999999) (h2 : 0 ≤ s.t) (t : Int) (h3 : s.t ≤ t) (h4 : t ≤ 17592186044416) : DueOk (dueT n s) (clkF n s b t) s t := by
  obtain ⟨w1, w2, w3, w4⟩ := win_next (p := perF n.time) h2 h3 h4
  have hp := perF_le n.time
  have hcn : cntF (perF n.time) s.n s.t t = if winF (perF n.time) t > s.t then 0 else s.n := by
    unfold cntF numF
    by_cases hh : winF (perF n.time) t > s.t
    · rw [if_pos hh, if_pos hh]
    · rw [if_neg hh, if_neg hh]; split <;> omega
  have hnf : 0 ≤ numF n.number ∧ numF n.number ≤ 9223372036854775807 := by unfold numF; split <;> omega
  have hmax : maxI 0 s.n = s.n := by unfold maxI; split <;> omega
  have hmost : mostF n s t = numF n.number - cntF (perF n.time) s.n s.t t := by
    unfold mostF
    rw [hcn, IntKind.wrap_i64]
    split <;> omega
  have hsum : IntKind.i64.wrap (winF (perF n.time) s.t + Int.ofNat (perF n.time + 1)) = winF (perF n.time) s.t + Int.ofNat (perF n.time + 1) := by
    rw [IntKind.wrap_i64]
    simp only [Int.ofNat_eq_natCast] at hp ⊢
    omega
  unfold clkF dueT
  rw [hmax, hsum, hmost, hcn]
  dsimp only
  generalize winF (perF n.time) s.t + Int.ofNat (perF n.time + 1) = wp at w1 w2 ⊢
  generalize winF (perF n.time) t = wt at w1 w2 ⊢
  generalize numF n.number = nf at hnf ⊢
  have hk : relN (accOf s.slots) (nf - if wt > s.t then 0 else s.n) = 0 ↔ ((accOf s.slots).length = 0 ∨ nf ≤ if wt > s.t then 0 else s.n) := by
    unfold relN
    omega
  generalize hkk : relN (accOf s.slots) (nf - if wt > s.t then 0 else s.n) = k at hk ⊢
  by_cases hz : k = 0
  · rw [if_pos hz]
    refine .inr ⟨?_, rfl⟩
    have hz' := hk.1 hz
    by_cases e1 : (accOf s.slots).length = 0
    · rw [if_pos e1]; exact .inl rfl
    · rw [if_neg e1]
      have e2 := hz'.resolve_left e1
      by_cases e3 : nf = 0
      · rw [if_pos e3]; exact .inl rfl
      · rw [if_neg e3]
        by_cases e4 : s.n ≥ nf
        · rw [if_pos e4]
          by_cases e5 : wp > 17592186044416
          · rw [if_pos e5]; exact .inl rfl
          · rw [if_neg e5]
            refine .inr ⟨rfl, fun hle => ?_⟩
            have := w1 hle
            rw [if_pos this] at e2
            omega
        · exfalso
          split at e2 <;> omega
  · rw [if_neg hz]
    refine .inl ?_
    have hz' : ¬ ((accOf s.slots).length = 0 ∨ nf ≤ if wt > s.t then 0 else s.n) := fun h => hz (hk.2 h)
    have e1 : ¬ (accOf s.slots).length = 0 := fun h => hz' (.inl h)
    have e2 : ¬ nf ≤ if wt > s.t then 0 else s.n := fun h => hz' (.inr h)
    have hl : (outsF b (accOf s.slots) k).length = k := by simp [outsF]
    have hf : (fatesF n.name b (accOf s.slots) k).length = k := by simp [fatesF]
    rw [if_neg e1]
    have e3 : ¬ nf = 0 := fun h => by
      apply e2; rw [h]; split <;> omega
    rw [if_neg e3]
    have hout : 0 < (outsF b (accOf s.slots) k).length ∧ (fatesF n.name b (accOf s.slots) k).length = (outsF b (accOf s.slots) k).length := by rw [hl, hf]; omega
    by_cases e4 : s.n ≥ nf
    · rw [if_pos e4]
      have e6 : wt > s.t := by
        apply Classical.byContradiction
        intro hne
        rw [if_neg hne] at e2
        exact e2 e4
      have e7 : wp ≤ t := by
        apply Classical.byContradiction
        intro hne
        exact w2 (by omega) e6
      rw [if_neg (show ¬ wp > 17592186044416 by omega)]
      exact ⟨rfl, e7, hout⟩
    · rw [if_neg e4, if_neg (show ¬ s.t > 17592186044416 by omega)]
      exact ⟨rfl, h3, hout⟩

/-! ### A delay -/
theorem minTo_spec (ss : List Slt) : ∀ j, 0 < j → j ≤ ss.length → (∃ i, i < j ∧ minTo ss j = (ss.getD i dSlt).t) ∧ ∀ i, i < j → minTo ss j ≤ (ss.getD i dSlt).t
  | 0, h, _ => absurd h (by omega)
  | j + 1, _, hj => by
    by_cases h0 : j = 0
    · subst h0
      rw [minTo, if_pos (Or.inl rfl)]
      exact ⟨⟨0, by omega, rfl⟩, fun i hi => by
        have e : i = 0 := Nat.lt_one_iff.1 hi
        subst e
        exact Int.le_refl _⟩
    · obtain ⟨⟨i0, hi0, e0⟩, hall⟩ := minTo_spec ss j (by omega) (by omega)
      rw [minTo]
      by_cases hlt : (ss.getD j dSlt).t < minTo ss j
      · rw [if_pos (Or.inr hlt)]
        refine ⟨⟨j, by omega, rfl⟩, fun i hi => ?_⟩
        by_cases hij : i < j
        · have := hall i hij; omega
        · obtain rfl : i = j := by omega
          exact Int.le_refl _
      · rw [if_neg (fun h => h.elim h0 hlt)]
        refine ⟨⟨i0, by omega, e0⟩, fun i hi => ?_⟩
        by_cases hij : i < j
        · exact hall i hij
        · obtain rfl : i = j := by omega
          omega
theorem del_due (n : Nod) (s : Stt) (hd : delayedS s = true) (b : Stp) (t : Int) (h4 : t ≤ 17592186044416) : DueOk (dueD s) (delF n s b t) s t := by
  obtain ⟨sn, st, ss⟩ := s
  have hitems : ∀ x, x ∈ ss → 0 < x.items.length := fun x hx => by
    simp only [delayedS, Bool.and_eq_true, Bool.not_eq_true'] at hd
    have := List.all_eq_true.1 hd.2.2 x hx
    obtain ⟨⟨k, i, s, tx, vl, fl⟩, n2, c, ms, vs⟩ := x
    simp only [badD, Bool.not_eq_true', Bool.or_eq_false_iff, beq_eq_false_iff_ne, ne_eq] at this
    have h := this.1
    rw [msgsC_length] at h
    simp only [Int.ofNat_eq_natCast] at h ⊢
    omega
  have hget : ∀ i, i < ss.length → ss.getD i dSlt ∈ ss := fun i hi => by
    rw [List.getD_eq_getElem?_getD, List.getElem?_eq_getElem hi]; exact List.getElem_mem hi
  have hnone : (∀ x, x ∈ ss → ¬ x.t ≤ t) → delF n ⟨sn, st, ss⟩ b t = plainO ⟨sn, st, ss⟩ := fun h => by
    have e1 : goL t ss = [] := by
      unfold goL
      rw [List.filter_eq_nil_iff.2 fun x hx => by simpa using h x hx]; rfl
    have e2 : stayL t ss = ss := List.filter_eq_self.2 fun x hx => by simpa using h x hx
    unfold delF
    dsimp only
    rw [e1, e2]; rfl
  unfold dueD
  dsimp only
  by_cases e1 : (accOf ss).length = 0
  · rw [if_pos e1]
    refine .inr ⟨.inl rfl, hnone fun x hx => ?_⟩
    have : x.items.length ≤ (accOf ss).length := by
      obtain ⟨l1, l2, rfl⟩ := List.append_of_mem hx
      simp only [accOf, List.flatMap_append, List.flatMap_cons, List.length_append]; omega
    have := hitems x hx
    omega
  · rw [if_neg e1]
    have hpos : 0 < ss.length := by
      apply Nat.pos_of_ne_zero
      intro h
      obtain rfl := List.length_eq_zero_iff.1 h
      exact e1 rfl
    obtain ⟨⟨i0, hi0, e0⟩, hall⟩ := minTo_spec ss ss.length hpos (Nat.le_refl _)
    have hall' : ∀ x, x ∈ ss → minTo ss ss.length ≤ x.t := fun x hx => by
      obtain ⟨i, hi, rfl⟩ := List.mem_iff_getElem.1 hx
      have := hall i hi
      rw [List.getD_eq_getElem?_getD, List.getElem?_eq_getElem hi] at this
      exact this
    by_cases hle : minTo ss ss.length ≤ t
    · rw [if_neg (show ¬ minTo ss ss.length > 17592186044416 by omega)]
      refine .inl ⟨rfl, hle, ?_, ?_⟩
      · have hm := hget i0 hi0
        have hlen : 0 < (goL t ss).length := by
          have h1 : ss.getD i0 dSlt ∈ ss.filter fun x => decide (x.t ≤ t) := List.mem_filter.2 ⟨hm, by rw [e0] at hle; exact decide_eq_true hle⟩
          unfold goL
          obtain ⟨l1, l2, h2⟩ := List.append_of_mem h1
          rw [h2]
          have := hitems _ hm
          simp only [accOf, List.flatMap_append, List.flatMap_cons, List.length_append]; omega
        show 0 < (outsF b (goL t ss) (goL t ss).length).length
        simpa [outsF] using hlen
      · show (fatesF n.name b (goL t ss) (goL t ss).length).length = (outsF b (goL t ss) (goL t ss).length).length
        simp [outsF, fatesF]
    · have hn := hnone fun x hx h => hle (Int.le_trans (hall' x hx) h)
      by_cases hgt : minTo ss ss.length > 17592186044416
      · rw [if_pos hgt]; exact .inr ⟨.inl rfl, hn⟩
      · rw [if_neg hgt]; exact .inr ⟨.inr ⟨rfl, hle⟩, hn⟩
end Go.Proofs.YtjfheahakfoofaaGreatDoor

/- ThrottleDue comes to true. -/
namespace Go.Proofs.YtjfheahakfoofaaGreatDoor
open Go.Em

def tick (t : Int) : Inp := ⟨2, t, ⟨7, [0, 3]⟩, ⟨⟨0, []⟩, 0, [], nulV⟩, 0, false, false, nulV⟩
theorem tick_ok (t : Int) : (tick t).ok :=
  ⟨show ([0, 3] : List Int).length ≤ 100 by decide, ⟨⟨show ([] : List Int).length ≤ 60000 by decide⟩, show ([] : List Int).length ≤ 60000 by decide, show nulV.size ≤ 60000 by decide⟩⟩
theorem ticks_pure (N : Nat) (t : Int) : Gam.pureD (callF tab ext (N + 1)) 22 [num 7, num t] = some (.agg (tick t).cells) :=
  pure_of [] [] pf0 (x := .agg ([num 2, num t, num 7, .sl true 1 ([[num 0], [num 3]]), num 0, .sl true 1 [], num 0, .sl true 1 [], num 0, num 0, num 0, noText, .sl true 6 [], .sl true 7 [], num 0, boolX false, boolX false, num 0, num 0, num 0, noText, .sl true 6 [], .sl true 7 []])) (bx := []) (by kernel_rfl) rfl
theorem step_del (N : Nat) (hN : 190070 ≤ N) (n : Nod) (hk : n.kind = 8) (s : Stt) (hs : s.small) (hacc : (accOf s.slots).length ≤ 3000) (t : Int) : Gam.pureD (callF tab ext N) 11 [.agg n.cells, .agg s.cells, .agg (tick t).cells] = some (.agg (delF n s ⟨7, [0, 3]⟩ (clampF t 0 maxTime)).cells) := by
  obtain ⟨M, rfl⟩ : ∃ M, N = M + 1 := ⟨N - 1, by omega⟩
  have hcl := clone_state_pure M s hs.ok (by omega)
  obtain ⟨ci, hci, h1, h2, h3⟩ := cin_of (tick t)
  have h := delay_clk M (by omega) n s hs hacc ci ⟨7, [0, 3]⟩ (by decide) h2 h3
  rw [h1] at h
  have h1 : (n.kind == 8) = true := by simpa using hk
  change Gam.pureD (callF tab ext M) 30 [.agg n.cells, .agg s.cells, .agg (ci.cells (tick t).kind)] = some (.agg (delF n s ⟨7, [0, 3]⟩ (clampF t 0 maxTime)).cells) at h
  rw [← hci] at h
  generalize delF n s ⟨7, [0, 3]⟩ (clampF t 0 maxTime) = oc at h
  exact pure_of [(8, .p (.agg s.cells)), (11, .b true), (15, .p (.agg oc.cells))] [] (pf3 hcl h1 h) (x := .agg oc.cells) (bx := []) (by kernel_rfl) rfl
theorem outs_pos {l : List Otp} (h : 0 < l.length) : Int.ofNat (otpsC l).length > 0 := by
  have : (otpsC l).length = l.length := by simp [otpsC]
  simp only [Int.ofNat_eq_natCast]; omega
theorem accOf_bound : ∀ {l : List Slt}, (∀ x, x ∈ l → x.items.length ≤ 4) → (accOf l).length ≤ 4 * l.length
  | [], _ => by simp [accOf]
  | x :: r, h => by
    have h1 := accOf_bound (l := r) fun y hy => h y (List.mem_cons_of_mem _ hy)
    have h2 := h x (by simp)
    simp only [accOf, List.flatMap_cons, List.length_append, List.length_cons] at h1 ⊢
    omega
theorem shortS_acc (s : Stt) : (accOf (shortS s).slots).length ≤ 24 := by
  have h := accOf_bound (l := (s.slots.take 6).map shortL) fun x hx => by
    obtain ⟨y, _, rfl⟩ := List.mem_map.1 hx
    show ((y.items.take 4).map shortM).length ≤ 4
    rw [List.length_map, List.length_take]; omega
  rw [List.length_map, List.length_take] at h
  show (accOf ((s.slots.take 6).map shortL)).length ≤ 24
  omega

/-- A node whose number is one of int's. -/
def isNode9 (c : List X) : Prop := isNode c ∧ ∀ z, c[4]? = some (num z) → z ≤ 9223372036854775807
theorem node_of9 {c : List X} (h : isNode9 c) : ∃ nd nd' : Nod, c = nd.cells ∧ nd'.number ≤ 9223372036854775807 ∧ ∀ N, 220 ≤ N → Gam.pureD (callF tab ext N) 19 [.agg nd.cells] = some (.agg nd'.cells) := by
  obtain ⟨⟨name, k1, k2, k3, k4, k5, k6, text, T, ty, ex, ru, ca, ne, rfl, hT, hty, hex, hru, hca⟩, h4⟩ := h
  obtain ⟨a, b, c, d, w, e, f, a', b', c', d', w', e', f', ty', ex', ru', ca', ne', rfl, hc⟩ := short_node name text k1 k2 k3 k4 k5 k6 T ty ex ru ca ne hT hty hex hru hca
  exact ⟨⟨name, k1, k2, k3, k4, k5, k6, text, (a, b, c, d), w, e, f, ty, ex, ca, ru, ne⟩, ⟨cutT 60 name, k1, k2, k3, k4, k5, k6, cutT 60 text, (a', b', c', d'), w', e', f', ty', ex', ca', ru', ne'⟩, rfl, h4 k4 rfl, hc⟩

set_option maxRecDepth 100000 in
theorem due_all (cn : List X) (hcn : isNode9 cn) (s0 : Stt) (tm : Int) : callF tab ext 190301 (.fn 7) [.agg cn, .agg s0.cells, num tm] [] = some (.v (.bool true), []) := by
  obtain ⟨n0, n, rfl, hnum, hn⟩ := node_of9 hcn
  have hn := hn 190300 (by omega)
  have hs := short_state s0 190300 (by omega)
  have hsm := shortS_small s0
  have hac := shortS_acc s0
  generalize shortS s0 = s at hs hsm hac
  obtain ⟨c, hc⟩ := state_comes s hsm
  have hk := known_at 189900
  obtain ⟨t, hmx⟩ : ∃ t, maxI s.t (minI tm 17592186044416) = t := ⟨_, rfl⟩
  have htick := ticks_pure 190299 t
  have he := stt_refl 190300 s hsm.ok (by omega)
  have hbt : s.t ≤ 17592186044416 → s.t ≤ t ∧ t ≤ 17592186044416 := fun h => by
    subst hmx
    unfold maxI minI
    split <;> split <;> omega
  cases h1 : (!(n.kind == 8)) with
  | true =>
    have hm := check_pure { n with kind := 7 } s hsm c hc 190300 (by omega)
    have hd := due_thr 190300 (by omega) { n with kind := 7 } (show (7 : Int) ≠ 8 by decide) s hsm
    generalize hf : checkF { n with kind := 7 } s c = f at hm
    by_cases hz : f = 0
    · subst hz
      have hcr : c = 0 ∧ rightS s = true := by
        unfold checkF at hf
        rw [if_pos rfl] at hf
        split at hf
        · rename_i h; exact absurd hf h
        · rename_i h
          split at hf
          · rename_i h'; exact ⟨Classical.byContradiction h, h'⟩
          · cases hf
      obtain ⟨rfl, hr⟩ := hcr
      obtain ⟨_, b2, b3, b4⟩ := state_numb s hc
      have b1 : 0 ≤ s.n := by
        simp only [rightS, Bool.and_eq_true, Bool.not_eq_true', decide_eq_false_iff_not] at hr
        omega
      obtain ⟨t1, t2⟩ := hbt b4
      have hst := step_thr 190300 (by omega) { n with kind := 7 } (show (7 : Int) ≠ 8 by decide) s (thr_of hr) hsm (tick t) (tick_ok t)
      have e1 : thrF { n with kind := 7 } s (tick t) = clkF { n with kind := 7 } s ⟨7, [0, 3]⟩ t := by
        unfold thrF
        rw [if_neg (show ¬ (tick t).kind = 1 by show ¬ (2 : Int) = 1; decide), if_pos (show (tick t).kind = 2 from rfl)]
        have : nowF (tick t) = t := clamp_self (t := t) (by omega) t2
        rw [this]; rfl
      rw [e1] at hst
      have hdo := thr_due { n with kind := 7 } hnum s ⟨7, [0, 3]⟩ b1 b2 b3 t t1 t2
      have ht0 : decide (t < 0) = false := decide_eq_false (by omega)
      generalize clkF { n with kind := 7 } s ⟨7, [0, 3]⟩ t = o at hst hdo
      generalize dueT { n with kind := 7 } s = d at hd hdo
      rcases hdo with ⟨g1, g2, g3, g4⟩ | ⟨g, rfl⟩
      · have h5 : decide (d.1 ≤ t) = true := decide_eq_true g2
        have h6 : decide (Int.ofNat (otpsC o.outs).length > 0) = true := decide_eq_true (outs_pos g3)
        have h7 : (Int.ofNat (ftesC o.fates).length == Int.ofNat (otpsC o.outs).length) = true := by
          have e2 : (otpsC o.outs).length = o.outs.length := by simp [otpsC]
          have e3 : (ftesC o.fates).length = o.fates.length := by simp [ftesC]
          rw [e2, e3, g4]; simp
        exact callF_of [(11, .p (.agg n.cells)), (13, .p (.agg s.cells)), (16, .b true), (22, .i t), (23, .p (boolX true)), (28, .p (num 0)), (33, .b false), (39, .p (.tup [num d.1, boolX d.2])), (41, .b true), (45, .p (.agg (tick t).cells)), (46, .p (.agg o.cells)), (51, .b true), (56, .b true), (64, .b true)] []
          (pf14 hn hs h1 hmx hk hm ht0 hd g1 htick hst h5 h6 h7) (by kernel_rfl)
      · rcases g with g1 | ⟨g1, g2⟩
        · exact callF_of [(11, .p (.agg n.cells)), (13, .p (.agg s.cells)), (16, .b true), (22, .i t), (23, .p (boolX true)), (28, .p (num 0)), (33, .b false), (39, .p (.tup [num d.1, boolX d.2])), (41, .b false), (45, .p (.agg (tick t).cells)), (46, .p (.agg (plainO s).cells)), (82, .p (boolX true))] []
            (pf12 hn hs h1 hmx hk hm ht0 hd g1 htick hst he) (by kernel_rfl)
        · have h5 : decide (d.1 ≤ t) = false := decide_eq_false g2
          exact callF_of [(11, .p (.agg n.cells)), (13, .p (.agg s.cells)), (16, .b true), (22, .i t), (23, .p (boolX true)), (28, .p (num 0)), (33, .b false), (39, .p (.tup [num d.1, boolX d.2])), (41, .b true), (45, .p (.agg (tick t).cells)), (46, .p (.agg (plainO s).cells)), (51, .b false), (82, .p (boolX true))] []
            (pf13 hn hs h1 hmx hk hm ht0 hd g1 htick hst h5 he) (by kernel_rfl)
    · have hz' : (!(f == 0)) = true := by simp [hz]
      exact callF_of [(11, .p (.agg n.cells)), (13, .p (.agg s.cells)), (16, .b true), (22, .i t), (23, .p (boolX true)), (28, .p (num f)), (29, .b true), (35, .p (boolX true))] [] (pf8 hn hs h1 hmx hk hm hz' hk) (by kernel_rfl)
  | false =>
    have hk8 : n.kind = 8 := by simpa using h1
    have hm := check_pure n s hsm c hc 190300 (by omega)
    have hd := due_del 190300 (by omega) n hk8 s hsm
    generalize hf : checkF n s c = f at hm
    by_cases hz : f = 0
    · subst hz
      have hcr : c = 0 ∧ delayedS s = true := by
        unfold checkF at hf
        rw [if_neg (by omega), if_pos hk8] at hf
        split at hf
        · rename_i h; exact absurd hf h
        · rename_i h
          split at hf
          · rename_i h'; exact ⟨Classical.byContradiction h, h'⟩
          · cases hf
      obtain ⟨rfl, hr⟩ := hcr
      obtain ⟨_, b2, b3, b4⟩ := state_numb s hc
      obtain ⟨t1, t2⟩ := hbt b4
      have hst := step_del 190300 (by omega) n hk8 s hsm (by omega) t
      rw [clamp_self (by omega) t2] at hst
      have hdo := del_due n s hr ⟨7, [0, 3]⟩ t t2
      have ht0 : decide (t < 0) = false := decide_eq_false (by omega)
      generalize delF n s ⟨7, [0, 3]⟩ t = o at hst hdo
      generalize dueD s = d at hd hdo
      rcases hdo with ⟨g1, g2, g3, g4⟩ | ⟨g, rfl⟩
      · have h5 : decide (d.1 ≤ t) = true := decide_eq_true g2
        have h6 : decide (Int.ofNat (otpsC o.outs).length > 0) = true := decide_eq_true (outs_pos g3)
        have h7 : (Int.ofNat (ftesC o.fates).length == Int.ofNat (otpsC o.outs).length) = true := by
          have e2 : (otpsC o.outs).length = o.outs.length := by simp [otpsC]
          have e3 : (ftesC o.fates).length = o.fates.length := by simp [ftesC]
          rw [e2, e3, g4]; simp
        exact callF_of [(11, .p (.agg n.cells)), (13, .p (.agg s.cells)), (16, .b false), (22, .i t), (23, .p (boolX true)), (28, .p (num 0)), (33, .b false), (39, .p (.tup [num d.1, boolX d.2])), (41, .b true), (45, .p (.agg (tick t).cells)), (46, .p (.agg o.cells)), (51, .b true), (56, .b true), (64, .b true)] []
          (pf14 hn hs h1 hmx hk hm ht0 hd g1 htick hst h5 h6 h7) (by kernel_rfl)
      · rcases g with g1 | ⟨g1, g2⟩
        · exact callF_of [(11, .p (.agg n.cells)), (13, .p (.agg s.cells)), (16, .b false), (22, .i t), (23, .p (boolX true)), (28, .p (num 0)), (33, .b false), (39, .p (.tup [num d.1, boolX d.2])), (41, .b false), (45, .p (.agg (tick t).cells)), (46, .p (.agg (plainO s).cells)), (82, .p (boolX true))] []
            (pf12 hn hs h1 hmx hk hm ht0 hd g1 htick hst he) (by kernel_rfl)
        · have h5 : decide (d.1 ≤ t) = false := decide_eq_false g2
          exact callF_of [(11, .p (.agg n.cells)), (13, .p (.agg s.cells)), (16, .b false), (22, .i t), (23, .p (boolX true)), (28, .p (num 0)), (33, .b false), (39, .p (.tup [num d.1, boolX d.2])), (41, .b true), (45, .p (.agg (tick t).cells)), (46, .p (.agg (plainO s).cells)), (51, .b false), (82, .p (boolX true))] []
            (pf13 hn hs h1 hmx hk hm ht0 hd g1 htick hst h5 he) (by kernel_rfl)
    · have hz' : (!(f == 0)) = true := by simp [hz]
      exact callF_of [(11, .p (.agg n.cells)), (13, .p (.agg s.cells)), (16, .b false), (22, .i t), (23, .p (boolX true)), (28, .p (num f)), (29, .b true), (35, .p (boolX true))] [] (pf8 hn hs h1 hmx hk hm hz' hk) (by kernel_rfl)
end Go.Proofs.YtjfheahakfoofaaGreatDoor

/- The arguments of the laws: what reads as data of their types is a node, a state, an input. -/
namespace Go.Proofs.YtjfheahakfoofaaGreatDoor
open Go.Em Go.RowKit
set_option maxRecDepth 100000

theorem Tryz.own : ownKnob Tryz.prog.godebug = none := by kernel_rfl
theorem Tryz.laidOut : laidOutB Tryz.prog = true := by kernel_rfl
theorem Tryz.rowed : mapsRowed Tryz.prog = true := by kernel_rfl
def tys : List TypeId := [3, 4, 9, 22, 23, 24, 26, 27, 28, 30, 31, 32, 34, 35, 37, 39, 40, 41, 43, 45, 47, 56, 78, 98, 100, 103, 144, 146]
theorem tys_ok : dataTys Tryz.prog tys = true := by kernel_rfl
theorem tys_size : tys.all (fun t => decide (t < Tryz.prog.types.size)) = true := by kernel_rfl
theorem tys_lt {t : TypeId} (h : t ∈ tys) : t < Tryz.prog.types.size := of_decide_eq_true (List.all_eq_true.1 tys_size t h)
theorem tys_kids : Kids Tryz.prog (fun t => t ∈ tys ∧ t < Tryz.prog.types.size) := kids_data (kids_rows Tryz.laidOut Tryz.rowed) tys_ok
def fieldsOf (P : Program) (t : TypeId) : Array Field := match P.underlying t with
  | some (.struct fs) => fs
  | _ => #[]
theorem under3 : Tryz.prog.underlying 3 = some (.int .i64) := by kernel_rfl
theorem under4 : Tryz.prog.underlying 4 = some .bool := by kernel_rfl
theorem under9 : Tryz.prog.underlying 9 = some .string := by kernel_rfl
theorem under26 : Tryz.prog.underlying 26 = some (.struct (fieldsOf Tryz.prog 26)) := by kernel_rfl
theorem fields26 : (fieldsOf Tryz.prog 26).toList.map (·.type) = [3, 3, 3, 3, 22, 23, 24] := by kernel_rfl
theorem under30 : Tryz.prog.underlying 30 = some (.struct (fieldsOf Tryz.prog 30)) := by kernel_rfl
theorem fields30 : (fieldsOf Tryz.prog 30).toList.map (·.type) = [28] := by kernel_rfl
theorem under34 : Tryz.prog.underlying 34 = some (.struct (fieldsOf Tryz.prog 34)) := by kernel_rfl
theorem fields34 : (fieldsOf Tryz.prog 34).toList.map (·.type) = [9, 3, 3, 3, 3, 3, 3, 9, 26, 23, 27, 30, 31, 32] := by kernel_rfl
theorem under37 : Tryz.prog.underlying 37 = some (.struct (fieldsOf Tryz.prog 37)) := by kernel_rfl
theorem fields37 : (fieldsOf Tryz.prog 37).toList.map (·.type) = [3, 3, 35] := by kernel_rfl
theorem under39 : Tryz.prog.underlying 39 = some (.struct (fieldsOf Tryz.prog 39)) := by kernel_rfl
theorem fields39 : (fieldsOf Tryz.prog 39).toList.map (·.type) = [3, 32] := by kernel_rfl
theorem under43 : Tryz.prog.underlying 43 = some (.struct (fieldsOf Tryz.prog 43)) := by kernel_rfl
theorem fields43 : (fieldsOf Tryz.prog 43).toList.map (·.type) = [3, 3, 3, 9, 40, 41] := by kernel_rfl
theorem under45 : Tryz.prog.underlying 45 = some (.struct (fieldsOf Tryz.prog 45)) := by kernel_rfl
theorem fields45 : (fieldsOf Tryz.prog 45).toList.map (·.type) = [39, 3, 32, 43] := by kernel_rfl
theorem under47 : Tryz.prog.underlying 47 = some (.struct (fieldsOf Tryz.prog 47)) := by kernel_rfl
theorem fields47 : (fieldsOf Tryz.prog 47).toList.map (·.type) = [3, 3, 39, 45, 3, 4, 4, 43] := by kernel_rfl
theorem under78 : Tryz.prog.underlying 78 = some (.struct (fieldsOf Tryz.prog 78)) := by kernel_rfl
theorem fields78 : (fieldsOf Tryz.prog 78).toList.map (·.type) = [43, 3, 3, 56, 40] := by kernel_rfl
theorem under98 : Tryz.prog.underlying 98 = some (.struct (fieldsOf Tryz.prog 98)) := by kernel_rfl
theorem fields98 : (fieldsOf Tryz.prog 98).toList.map (·.type) = [3, 3, 9, 40, 27] := by kernel_rfl
theorem under100 : Tryz.prog.underlying 100 = some (.struct (fieldsOf Tryz.prog 100)) := by kernel_rfl
theorem fields100 : (fieldsOf Tryz.prog 100).toList.map (·.type) = [9, 98] := by kernel_rfl
theorem under103 : Tryz.prog.underlying 103 = some (.struct (fieldsOf Tryz.prog 103)) := by kernel_rfl
theorem fields103 : (fieldsOf Tryz.prog 103).toList.map (·.type) = [9, 30] := by kernel_rfl
theorem under144 : Tryz.prog.underlying 144 = some (.struct (fieldsOf Tryz.prog 144)) := by kernel_rfl
theorem fields144 : (fieldsOf Tryz.prog 144).toList.map (·.type) = [3, 9, 3, 26, 40] := by kernel_rfl
theorem under146 : Tryz.prog.underlying 146 = some (.struct (fieldsOf Tryz.prog 146)) := by kernel_rfl
theorem fields146 : (fieldsOf Tryz.prog 146).toList.map (·.type) = [9, 43] := by kernel_rfl
theorem under22 : Tryz.prog.underlying 22 = some (.slice 9) := by kernel_rfl
theorem under23 : Tryz.prog.underlying 23 = some (.slice 26) := by kernel_rfl
theorem under24 : Tryz.prog.underlying 24 = some (.slice 144) := by kernel_rfl
theorem under27 : Tryz.prog.underlying 27 = some (.slice 98) := by kernel_rfl
theorem under28 : Tryz.prog.underlying 28 = some (.slice 100) := by kernel_rfl
theorem under31 : Tryz.prog.underlying 31 = some (.slice 103) := by kernel_rfl
theorem under32 : Tryz.prog.underlying 32 = some (.slice 3) := by kernel_rfl
theorem under35 : Tryz.prog.underlying 35 = some (.slice 78) := by kernel_rfl
theorem under40 : Tryz.prog.underlying 40 = some (.slice 43) := by kernel_rfl
theorem under41 : Tryz.prog.underlying 41 = some (.slice 146) := by kernel_rfl
theorem under56 : Tryz.prog.underlying 56 = some (.slice 45) := by kernel_rfl
theorem cells3 : Tryz.prog.cellsOf 3 = 1 := by kernel_rfl
theorem cells9 : Tryz.prog.cellsOf 9 = 1 := by kernel_rfl
theorem cells26 : Tryz.prog.cellsOf 26 = 7 := by kernel_rfl
theorem cells43 : Tryz.prog.cellsOf 43 = 6 := by kernel_rfl
theorem cells45 : Tryz.prog.cellsOf 45 = 10 := by kernel_rfl
theorem cells78 : Tryz.prog.cellsOf 78 = 10 := by kernel_rfl
theorem cells98 : Tryz.prog.cellsOf 98 = 5 := by kernel_rfl
theorem cells100 : Tryz.prog.cellsOf 100 = 6 := by kernel_rfl
theorem cells103 : Tryz.prog.cellsOf 103 = 2 := by kernel_rfl
theorem cells144 : Tryz.prog.cellsOf 144 = 11 := by kernel_rfl
theorem cells146 : Tryz.prog.cellsOf 146 = 7 := by kernel_rfl

variable {n : Nat} {xs : List X}
theorem shape_num (h : Shape Tryz.prog n 3 xs) : ∃ z, xs = [num z] := by
  obtain ⟨v, rfl, _⟩ := shape_int under3 h
  exact ⟨v, rfl⟩
theorem shape_text (h : Shape Tryz.prog n 9 xs) : ∃ s, xs = [strX s] := by
  obtain ⟨v, rfl, _⟩ := shape_string under9 h
  exact ⟨v, rfl⟩
theorem shape_flag (h : Shape Tryz.prog n 4 xs) : ∃ b, xs = [boolX b] := shape_bool under4 h
theorem shape_sl22 (h : Shape Tryz.prog n 22 xs) : ∃ es, xs = [.sl false 1 es] ∧ ∃ m, m < n ∧ ∀ c, c ∈ es → Shape Tryz.prog m 9 c := by
  obtain ⟨es, rfl, _, h⟩ := shape_slice under22 h
  rw [cells9]
  exact ⟨es, rfl, h⟩
theorem shape_sl23 (h : Shape Tryz.prog n 23 xs) : ∃ es, xs = [.sl false 7 es] ∧ ∃ m, m < n ∧ ∀ c, c ∈ es → Shape Tryz.prog m 26 c := by
  obtain ⟨es, rfl, _, h⟩ := shape_slice under23 h
  rw [cells26]
  exact ⟨es, rfl, h⟩
theorem shape_sl24 (h : Shape Tryz.prog n 24 xs) : ∃ es, xs = [.sl false 11 es] ∧ ∃ m, m < n ∧ ∀ c, c ∈ es → Shape Tryz.prog m 144 c := by
  obtain ⟨es, rfl, _, h⟩ := shape_slice under24 h
  rw [cells144]
  exact ⟨es, rfl, h⟩
theorem shape_sl27 (h : Shape Tryz.prog n 27 xs) : ∃ es, xs = [.sl false 5 es] ∧ ∃ m, m < n ∧ ∀ c, c ∈ es → Shape Tryz.prog m 98 c := by
  obtain ⟨es, rfl, _, h⟩ := shape_slice under27 h
  rw [cells98]
  exact ⟨es, rfl, h⟩
theorem shape_sl28 (h : Shape Tryz.prog n 28 xs) : ∃ es, xs = [.sl false 6 es] ∧ ∃ m, m < n ∧ ∀ c, c ∈ es → Shape Tryz.prog m 100 c := by
  obtain ⟨es, rfl, _, h⟩ := shape_slice under28 h
  rw [cells100]
  exact ⟨es, rfl, h⟩
theorem shape_sl31 (h : Shape Tryz.prog n 31 xs) : ∃ es, xs = [.sl false 2 es] ∧ ∃ m, m < n ∧ ∀ c, c ∈ es → Shape Tryz.prog m 103 c := by
  obtain ⟨es, rfl, _, h⟩ := shape_slice under31 h
  rw [cells103]
  exact ⟨es, rfl, h⟩
theorem shape_sl32 (h : Shape Tryz.prog n 32 xs) : ∃ es, xs = [.sl false 1 es] ∧ ∃ m, m < n ∧ ∀ c, c ∈ es → Shape Tryz.prog m 3 c := by
  obtain ⟨es, rfl, _, h⟩ := shape_slice under32 h
  rw [cells3]
  exact ⟨es, rfl, h⟩
theorem shape_sl35 (h : Shape Tryz.prog n 35 xs) : ∃ es, xs = [.sl false 10 es] ∧ ∃ m, m < n ∧ ∀ c, c ∈ es → Shape Tryz.prog m 78 c := by
  obtain ⟨es, rfl, _, h⟩ := shape_slice under35 h
  rw [cells78]
  exact ⟨es, rfl, h⟩
theorem shape_sl40 (h : Shape Tryz.prog n 40 xs) : ∃ es, xs = [.sl false 6 es] ∧ ∃ m, m < n ∧ ∀ c, c ∈ es → Shape Tryz.prog m 43 c := by
  obtain ⟨es, rfl, _, h⟩ := shape_slice under40 h
  rw [cells43]
  exact ⟨es, rfl, h⟩
theorem shape_sl41 (h : Shape Tryz.prog n 41 xs) : ∃ es, xs = [.sl false 7 es] ∧ ∃ m, m < n ∧ ∀ c, c ∈ es → Shape Tryz.prog m 146 c := by
  obtain ⟨es, rfl, _, h⟩ := shape_slice under41 h
  rw [cells146]
  exact ⟨es, rfl, h⟩
theorem shape_sl56 (h : Shape Tryz.prog n 56 xs) : ∃ es, xs = [.sl false 10 es] ∧ ∃ m, m < n ∧ ∀ c, c ∈ es → Shape Tryz.prog m 45 c := by
  obtain ⟨es, rfl, _, h⟩ := shape_slice under56 h
  rw [cells45]
  exact ⟨es, rfl, h⟩
theorem shape_st26 (h : Shape Tryz.prog n 26 xs) : ∃ m, m < n ∧ ∃ x0 x1 x2 x3 x4 x5 x6, xs = x0 ++ (x1 ++ (x2 ++ (x3 ++ (x4 ++ (x5 ++ (x6 ++ [])))))) ∧ Shape Tryz.prog m 3 x0 ∧ Shape Tryz.prog m 3 x1 ∧ Shape Tryz.prog m 3 x2 ∧ Shape Tryz.prog m 3 x3 ∧ Shape Tryz.prog m 22 x4 ∧ Shape Tryz.prog m 23 x5 ∧ Shape Tryz.prog m 24 x6 := by
  obtain ⟨m, hm, hk⟩ := shape_struct under26 h
  rw [fields26] at hk
  obtain ⟨x0, r0, rfl, h0, hk⟩ := hk
  obtain ⟨x1, r1, rfl, h1, hk⟩ := hk
  obtain ⟨x2, r2, rfl, h2, hk⟩ := hk
  obtain ⟨x3, r3, rfl, h3, hk⟩ := hk
  obtain ⟨x4, r4, rfl, h4, hk⟩ := hk
  obtain ⟨x5, r5, rfl, h5, hk⟩ := hk
  obtain ⟨x6, r6, rfl, h6, hk⟩ := hk
  have hk : r6 = [] := hk
  subst hk
  exact ⟨m, hm, x0, x1, x2, x3, x4, x5, x6, rfl, h0, h1, h2, h3, h4, h5, h6⟩
theorem shape_st30 (h : Shape Tryz.prog n 30 xs) : ∃ m, m < n ∧ ∃ x0, xs = x0 ++ [] ∧ Shape Tryz.prog m 28 x0 := by
  obtain ⟨m, hm, hk⟩ := shape_struct under30 h
  rw [fields30] at hk
  obtain ⟨x0, r0, rfl, h0, hk⟩ := hk
  have hk : r0 = [] := hk
  subst hk
  exact ⟨m, hm, x0, rfl, h0⟩
theorem shape_st34 (h : Shape Tryz.prog n 34 xs) : ∃ m, m < n ∧ ∃ x0 x1 x2 x3 x4 x5 x6 x7 x8 x9 x10 x11 x12 x13, xs = x0 ++ (x1 ++ (x2 ++ (x3 ++ (x4 ++ (x5 ++ (x6 ++ (x7 ++ (x8 ++ (x9 ++ (x10 ++ (x11 ++ (x12 ++ (x13 ++ []))))))))))))) ∧ Shape Tryz.prog m 9 x0 ∧ Shape Tryz.prog m 3 x1 ∧ Shape Tryz.prog m 3 x2 ∧ Shape Tryz.prog m 3 x3 ∧ Shape Tryz.prog m 3 x4 ∧ Shape Tryz.prog m 3 x5 ∧ Shape Tryz.prog m 3 x6 ∧ Shape Tryz.prog m 9 x7 ∧ Shape Tryz.prog m 26 x8 ∧ Shape Tryz.prog m 23 x9 ∧ Shape Tryz.prog m 27 x10 ∧ Shape Tryz.prog m 30 x11 ∧ Shape Tryz.prog m 31 x12 ∧ Shape Tryz.prog m 32 x13 := by
  obtain ⟨m, hm, hk⟩ := shape_struct under34 h
  rw [fields34] at hk
  obtain ⟨x0, r0, rfl, h0, hk⟩ := hk
  obtain ⟨x1, r1, rfl, h1, hk⟩ := hk
  obtain ⟨x2, r2, rfl, h2, hk⟩ := hk
  obtain ⟨x3, r3, rfl, h3, hk⟩ := hk
  obtain ⟨x4, r4, rfl, h4, hk⟩ := hk
  obtain ⟨x5, r5, rfl, h5, hk⟩ := hk
  obtain ⟨x6, r6, rfl, h6, hk⟩ := hk
  obtain ⟨x7, r7, rfl, h7, hk⟩ := hk
  obtain ⟨x8, r8, rfl, h8, hk⟩ := hk
  obtain ⟨x9, r9, rfl, h9, hk⟩ := hk
  obtain ⟨x10, r10, rfl, h10, hk⟩ := hk
  obtain ⟨x11, r11, rfl, h11, hk⟩ := hk
  obtain ⟨x12, r12, rfl, h12, hk⟩ := hk
  obtain ⟨x13, r13, rfl, h13, hk⟩ := hk
  have hk : r13 = [] := hk
  subst hk
  exact ⟨m, hm, x0, x1, x2, x3, x4, x5, x6, x7, x8, x9, x10, x11, x12, x13, rfl, h0, h1, h2, h3, h4, h5, h6, h7, h8, h9, h10, h11, h12, h13⟩
theorem shape_st37 (h : Shape Tryz.prog n 37 xs) : ∃ m, m < n ∧ ∃ x0 x1 x2, xs = x0 ++ (x1 ++ (x2 ++ [])) ∧ Shape Tryz.prog m 3 x0 ∧ Shape Tryz.prog m 3 x1 ∧ Shape Tryz.prog m 35 x2 := by
  obtain ⟨m, hm, hk⟩ := shape_struct under37 h
  rw [fields37] at hk
  obtain ⟨x0, r0, rfl, h0, hk⟩ := hk
  obtain ⟨x1, r1, rfl, h1, hk⟩ := hk
  obtain ⟨x2, r2, rfl, h2, hk⟩ := hk
  have hk : r2 = [] := hk
  subst hk
  exact ⟨m, hm, x0, x1, x2, rfl, h0, h1, h2⟩
theorem shape_st39 (h : Shape Tryz.prog n 39 xs) : ∃ m, m < n ∧ ∃ x0 x1, xs = x0 ++ (x1 ++ []) ∧ Shape Tryz.prog m 3 x0 ∧ Shape Tryz.prog m 32 x1 := by
  obtain ⟨m, hm, hk⟩ := shape_struct under39 h
  rw [fields39] at hk
  obtain ⟨x0, r0, rfl, h0, hk⟩ := hk
  obtain ⟨x1, r1, rfl, h1, hk⟩ := hk
  have hk : r1 = [] := hk
  subst hk
  exact ⟨m, hm, x0, x1, rfl, h0, h1⟩
theorem shape_st43 (h : Shape Tryz.prog n 43 xs) : ∃ m, m < n ∧ ∃ x0 x1 x2 x3 x4 x5, xs = x0 ++ (x1 ++ (x2 ++ (x3 ++ (x4 ++ (x5 ++ []))))) ∧ Shape Tryz.prog m 3 x0 ∧ Shape Tryz.prog m 3 x1 ∧ Shape Tryz.prog m 3 x2 ∧ Shape Tryz.prog m 9 x3 ∧ Shape Tryz.prog m 40 x4 ∧ Shape Tryz.prog m 41 x5 := by
  obtain ⟨m, hm, hk⟩ := shape_struct under43 h
  rw [fields43] at hk
  obtain ⟨x0, r0, rfl, h0, hk⟩ := hk
  obtain ⟨x1, r1, rfl, h1, hk⟩ := hk
  obtain ⟨x2, r2, rfl, h2, hk⟩ := hk
  obtain ⟨x3, r3, rfl, h3, hk⟩ := hk
  obtain ⟨x4, r4, rfl, h4, hk⟩ := hk
  obtain ⟨x5, r5, rfl, h5, hk⟩ := hk
  have hk : r5 = [] := hk
  subst hk
  exact ⟨m, hm, x0, x1, x2, x3, x4, x5, rfl, h0, h1, h2, h3, h4, h5⟩
theorem shape_st45 (h : Shape Tryz.prog n 45 xs) : ∃ m, m < n ∧ ∃ x0 x1 x2 x3, xs = x0 ++ (x1 ++ (x2 ++ (x3 ++ []))) ∧ Shape Tryz.prog m 39 x0 ∧ Shape Tryz.prog m 3 x1 ∧ Shape Tryz.prog m 32 x2 ∧ Shape Tryz.prog m 43 x3 := by
  obtain ⟨m, hm, hk⟩ := shape_struct under45 h
  rw [fields45] at hk
  obtain ⟨x0, r0, rfl, h0, hk⟩ := hk
  obtain ⟨x1, r1, rfl, h1, hk⟩ := hk
  obtain ⟨x2, r2, rfl, h2, hk⟩ := hk
  obtain ⟨x3, r3, rfl, h3, hk⟩ := hk
  have hk : r3 = [] := hk
  subst hk
  exact ⟨m, hm, x0, x1, x2, x3, rfl, h0, h1, h2, h3⟩
theorem shape_st47 (h : Shape Tryz.prog n 47 xs) : ∃ m, m < n ∧ ∃ x0 x1 x2 x3 x4 x5 x6 x7, xs = x0 ++ (x1 ++ (x2 ++ (x3 ++ (x4 ++ (x5 ++ (x6 ++ (x7 ++ []))))))) ∧ Shape Tryz.prog m 3 x0 ∧ Shape Tryz.prog m 3 x1 ∧ Shape Tryz.prog m 39 x2 ∧ Shape Tryz.prog m 45 x3 ∧ Shape Tryz.prog m 3 x4 ∧ Shape Tryz.prog m 4 x5 ∧ Shape Tryz.prog m 4 x6 ∧ Shape Tryz.prog m 43 x7 := by
  obtain ⟨m, hm, hk⟩ := shape_struct under47 h
  rw [fields47] at hk
  obtain ⟨x0, r0, rfl, h0, hk⟩ := hk
  obtain ⟨x1, r1, rfl, h1, hk⟩ := hk
  obtain ⟨x2, r2, rfl, h2, hk⟩ := hk
  obtain ⟨x3, r3, rfl, h3, hk⟩ := hk
  obtain ⟨x4, r4, rfl, h4, hk⟩ := hk
  obtain ⟨x5, r5, rfl, h5, hk⟩ := hk
  obtain ⟨x6, r6, rfl, h6, hk⟩ := hk
  obtain ⟨x7, r7, rfl, h7, hk⟩ := hk
  have hk : r7 = [] := hk
  subst hk
  exact ⟨m, hm, x0, x1, x2, x3, x4, x5, x6, x7, rfl, h0, h1, h2, h3, h4, h5, h6, h7⟩
theorem shape_st78 (h : Shape Tryz.prog n 78 xs) : ∃ m, m < n ∧ ∃ x0 x1 x2 x3 x4, xs = x0 ++ (x1 ++ (x2 ++ (x3 ++ (x4 ++ [])))) ∧ Shape Tryz.prog m 43 x0 ∧ Shape Tryz.prog m 3 x1 ∧ Shape Tryz.prog m 3 x2 ∧ Shape Tryz.prog m 56 x3 ∧ Shape Tryz.prog m 40 x4 := by
  obtain ⟨m, hm, hk⟩ := shape_struct under78 h
  rw [fields78] at hk
  obtain ⟨x0, r0, rfl, h0, hk⟩ := hk
  obtain ⟨x1, r1, rfl, h1, hk⟩ := hk
  obtain ⟨x2, r2, rfl, h2, hk⟩ := hk
  obtain ⟨x3, r3, rfl, h3, hk⟩ := hk
  obtain ⟨x4, r4, rfl, h4, hk⟩ := hk
  have hk : r4 = [] := hk
  subst hk
  exact ⟨m, hm, x0, x1, x2, x3, x4, rfl, h0, h1, h2, h3, h4⟩
theorem shape_st98 (h : Shape Tryz.prog n 98 xs) : ∃ m, m < n ∧ ∃ x0 x1 x2 x3 x4, xs = x0 ++ (x1 ++ (x2 ++ (x3 ++ (x4 ++ [])))) ∧ Shape Tryz.prog m 3 x0 ∧ Shape Tryz.prog m 3 x1 ∧ Shape Tryz.prog m 9 x2 ∧ Shape Tryz.prog m 40 x3 ∧ Shape Tryz.prog m 27 x4 := by
  obtain ⟨m, hm, hk⟩ := shape_struct under98 h
  rw [fields98] at hk
  obtain ⟨x0, r0, rfl, h0, hk⟩ := hk
  obtain ⟨x1, r1, rfl, h1, hk⟩ := hk
  obtain ⟨x2, r2, rfl, h2, hk⟩ := hk
  obtain ⟨x3, r3, rfl, h3, hk⟩ := hk
  obtain ⟨x4, r4, rfl, h4, hk⟩ := hk
  have hk : r4 = [] := hk
  subst hk
  exact ⟨m, hm, x0, x1, x2, x3, x4, rfl, h0, h1, h2, h3, h4⟩
theorem shape_st100 (h : Shape Tryz.prog n 100 xs) : ∃ m, m < n ∧ ∃ x0 x1, xs = x0 ++ (x1 ++ []) ∧ Shape Tryz.prog m 9 x0 ∧ Shape Tryz.prog m 98 x1 := by
  obtain ⟨m, hm, hk⟩ := shape_struct under100 h
  rw [fields100] at hk
  obtain ⟨x0, r0, rfl, h0, hk⟩ := hk
  obtain ⟨x1, r1, rfl, h1, hk⟩ := hk
  have hk : r1 = [] := hk
  subst hk
  exact ⟨m, hm, x0, x1, rfl, h0, h1⟩
theorem shape_st103 (h : Shape Tryz.prog n 103 xs) : ∃ m, m < n ∧ ∃ x0 x1, xs = x0 ++ (x1 ++ []) ∧ Shape Tryz.prog m 9 x0 ∧ Shape Tryz.prog m 30 x1 := by
  obtain ⟨m, hm, hk⟩ := shape_struct under103 h
  rw [fields103] at hk
  obtain ⟨x0, r0, rfl, h0, hk⟩ := hk
  obtain ⟨x1, r1, rfl, h1, hk⟩ := hk
  have hk : r1 = [] := hk
  subst hk
  exact ⟨m, hm, x0, x1, rfl, h0, h1⟩
theorem shape_st144 (h : Shape Tryz.prog n 144 xs) : ∃ m, m < n ∧ ∃ x0 x1 x2 x3 x4, xs = x0 ++ (x1 ++ (x2 ++ (x3 ++ (x4 ++ [])))) ∧ Shape Tryz.prog m 3 x0 ∧ Shape Tryz.prog m 9 x1 ∧ Shape Tryz.prog m 3 x2 ∧ Shape Tryz.prog m 26 x3 ∧ Shape Tryz.prog m 40 x4 := by
  obtain ⟨m, hm, hk⟩ := shape_struct under144 h
  rw [fields144] at hk
  obtain ⟨x0, r0, rfl, h0, hk⟩ := hk
  obtain ⟨x1, r1, rfl, h1, hk⟩ := hk
  obtain ⟨x2, r2, rfl, h2, hk⟩ := hk
  obtain ⟨x3, r3, rfl, h3, hk⟩ := hk
  obtain ⟨x4, r4, rfl, h4, hk⟩ := hk
  have hk : r4 = [] := hk
  subst hk
  exact ⟨m, hm, x0, x1, x2, x3, x4, rfl, h0, h1, h2, h3, h4⟩
theorem shape_st146 (h : Shape Tryz.prog n 146 xs) : ∃ m, m < n ∧ ∃ x0 x1, xs = x0 ++ (x1 ++ []) ∧ Shape Tryz.prog m 9 x0 ∧ Shape Tryz.prog m 43 x1 := by
  obtain ⟨m, hm, hk⟩ := shape_struct under146 h
  rw [fields146] at hk
  obtain ⟨x0, r0, rfl, h0, hk⟩ := hk
  obtain ⟨x1, r1, rfl, h1, hk⟩ := hk
  have hk : r1 = [] := hk
  subst hk
  exact ⟨m, hm, x0, x1, rfl, h0, h1⟩

theorem shape_val : ∀ (n : Nat) (xs : List X), Shape Tryz.prog n 43 xs → ∃ v : Val, xs = v.cells := by
  intro n
  induction n using Nat.strongRecOn with
  | _ n ih =>
    intro xs h
    obtain ⟨m, hm, x0, x1, x2, x3, x4, x5, rfl, h0, h1, h2, h3, h4, h5⟩ := shape_st43 h
    obtain ⟨k, rfl⟩ := shape_num h0
    obtain ⟨i, rfl⟩ := shape_num h1
    obtain ⟨s, rfl⟩ := shape_num h2
    obtain ⟨t, rfl⟩ := shape_text h3
    obtain ⟨es, rfl, m1, hm1, he⟩ := shape_sl40 h4
    obtain ⟨fs, rfl, m2, hm2, hf⟩ := shape_sl41 h5
    obtain ⟨l, rfl⟩ := list_of Val.cells fun c hc => ih m1 (by omega) c (he c hc)
    obtain ⟨f, rfl⟩ := list_of (fun p : ByteArray × Val => strX p.1 :: p.2.cells) (es := fs) fun c hc => by
      obtain ⟨m3, hm3, y0, y1, rfl, g0, g1⟩ := shape_st146 (hf c hc)
      obtain ⟨nm, rfl⟩ := shape_text g0
      obtain ⟨v, rfl⟩ := ih m3 (by omega) y1 g1
      exact ⟨(nm, v), by simp⟩
    exact ⟨.mk k i s t l f, by rw [Val.cells, cellsL_eq, cellsF_eq]; rfl⟩
theorem shape_vals (h : Shape Tryz.prog n 40 xs) : ∃ l : List Val, xs = [.sl false 6 (cellsL l)] := by
  obtain ⟨es, rfl, m, _, he⟩ := shape_sl40 h
  obtain ⟨l, rfl⟩ := list_of Val.cells fun c hc => shape_val m c (he c hc)
  exact ⟨l, by rw [cellsL_eq]⟩
theorem shape_isVals {es : List (List X)} {m : Nat} (h : ∀ c, c ∈ es → Shape Tryz.prog m 43 c) : ∀ c, c ∈ es → isVal c := fun c hc => shape_val m c (h c hc)
theorem shape_ints (h : Shape Tryz.prog n 32 xs) : ∃ l : List Int, xs = [.sl false 1 (intsC l)] := by
  obtain ⟨es, rfl, m, _, he⟩ := shape_sl32 h
  obtain ⟨l, rfl⟩ := list_of (fun z : Int => [num z]) fun c hc => shape_num (he c hc)
  exact ⟨l, rfl⟩
theorem shape_stp (h : Shape Tryz.prog n 39 xs) : ∃ s : Stp, xs = s.cells := by
  obtain ⟨m, hm, x0, x1, rfl, h0, h1⟩ := shape_st39 h
  obtain ⟨e, rfl⟩ := shape_num h0
  obtain ⟨p, rfl⟩ := shape_ints h1
  exact ⟨⟨e, p⟩, rfl⟩
theorem shape_msg (h : Shape Tryz.prog n 45 xs) : ∃ s : Msg, xs = s.cells := by
  obtain ⟨m, hm, x0, x1, x2, x3, rfl, h0, h1, h2, h3⟩ := shape_st45 h
  obtain ⟨s, rfl⟩ := shape_stp h0
  obtain ⟨k, rfl⟩ := shape_num h1
  obtain ⟨p, rfl⟩ := shape_ints h2
  obtain ⟨v, rfl⟩ := shape_val _ _ h3
  exact ⟨⟨s, k, p, v⟩, by simp [Msg.cells, Stp.cells]⟩
theorem shape_msgs (h : Shape Tryz.prog n 56 xs) : ∃ l : List Msg, xs = [.sl false 10 (msgsC l)] := by
  obtain ⟨es, rfl, m, _, he⟩ := shape_sl56 h
  obtain ⟨l, rfl⟩ := list_of Msg.cells fun c hc => shape_msg (he c hc)
  exact ⟨l, rfl⟩
theorem shape_slt (h : Shape Tryz.prog n 78 xs) : ∃ s : Slt, xs = s.cells := by
  obtain ⟨m, hm, x0, x1, x2, x3, x4, rfl, h0, h1, h2, h3, h4⟩ := shape_st78 h
  obtain ⟨⟨k, i, s, t, l, f⟩, rfl⟩ := shape_val _ _ h0
  obtain ⟨a, rfl⟩ := shape_num h1
  obtain ⟨b, rfl⟩ := shape_num h2
  obtain ⟨ms, rfl⟩ := shape_msgs h3
  obtain ⟨vs, rfl⟩ := shape_vals h4
  exact ⟨⟨.mk k i s t l f, a, b, ms, vs⟩, rfl⟩
theorem shape_stt (h : Shape Tryz.prog n 37 xs) : ∃ s : Stt, xs = s.cells := by
  obtain ⟨m, hm, x0, x1, x2, rfl, h0, h1, h2⟩ := shape_st37 h
  obtain ⟨a, rfl⟩ := shape_num h0
  obtain ⟨b, rfl⟩ := shape_num h1
  obtain ⟨es, rfl, m', _, he⟩ := shape_sl35 h2
  obtain ⟨l, rfl⟩ := list_of Slt.cells fun c hc => shape_slt (he c hc)
  exact ⟨⟨a, b, l⟩, rfl⟩
theorem shape_inp (h : Shape Tryz.prog n 47 xs) : ∃ i : Inp, xs = i.cells := by
  obtain ⟨m, hm, x0, x1, x2, x3, x4, x5, x6, x7, rfl, h0, h1, h2, h3, h4, h5, h6, h7⟩ := shape_st47 h
  obtain ⟨a, rfl⟩ := shape_num h0
  obtain ⟨b, rfl⟩ := shape_num h1
  obtain ⟨s, rfl⟩ := shape_stp h2
  obtain ⟨g, rfl⟩ := shape_msg h3
  obtain ⟨x, rfl⟩ := shape_num h4
  obtain ⟨b1, rfl⟩ := shape_flag h5
  obtain ⟨b2, rfl⟩ := shape_flag h6
  obtain ⟨v, rfl⟩ := shape_val _ _ h7
  exact ⟨⟨a, b, s, g, x, b1, b2, v⟩, by simp [Inp.cells, Msg.cells, Stp.cells]⟩
theorem shape_exp : ∀ (k : Nat) {n : Nat} {xs : List X}, Shape Tryz.prog n 98 xs → isExp k xs
  | 0, n, xs, h => by
    obtain ⟨m, hm, x0, x1, x2, x3, x4, rfl, h0, h1, h2, h3, h4⟩ := shape_st98 h
    obtain ⟨o, rfl⟩ := shape_num h0
    obtain ⟨i, rfl⟩ := shape_num h1
    obtain ⟨t, rfl⟩ := shape_text h2
    obtain ⟨vs, rfl, m1, _, hv⟩ := shape_sl40 h3
    obtain ⟨es, rfl, m2, _, he⟩ := shape_sl27 h4
    exact ⟨o, i, t, vs, es, rfl, shape_isVals hv⟩
  | k + 1, n, xs, h => by
    obtain ⟨m, hm, x0, x1, x2, x3, x4, rfl, h0, h1, h2, h3, h4⟩ := shape_st98 h
    obtain ⟨o, rfl⟩ := shape_num h0
    obtain ⟨i, rfl⟩ := shape_num h1
    obtain ⟨t, rfl⟩ := shape_text h2
    obtain ⟨vs, rfl, m1, _, hv⟩ := shape_sl40 h3
    obtain ⟨es, rfl, m2, _, he⟩ := shape_sl27 h4
    exact ⟨o, i, t, vs, es, rfl, shape_isVals hv, fun x hx => shape_exp k (he x hx)⟩
theorem shape_typ : ∀ (k : Nat) {n : Nat} {xs : List X}, Shape Tryz.prog n 26 xs → isTyp k xs
  | 0, n, xs, h => by
    obtain ⟨m, hm, x0, x1, x2, x3, x4, x5, x6, rfl, h0, h1, h2, h3, h4, h5, h6⟩ := shape_st26 h
    obtain ⟨a, rfl⟩ := shape_num h0
    obtain ⟨b, rfl⟩ := shape_num h1
    obtain ⟨c, rfl⟩ := shape_num h2
    obtain ⟨d, rfl⟩ := shape_num h3
    obtain ⟨w, rfl, m1, _, hw⟩ := shape_sl22 h4
    obtain ⟨e, rfl, m2, _, he⟩ := shape_sl23 h5
    obtain ⟨f, rfl, m3, _, hf⟩ := shape_sl24 h6
    exact ⟨a, b, c, d, w, e, f, rfl, fun x hx => shape_text (hw x hx)⟩
  | k + 1, n, xs, h => by
    obtain ⟨m, hm, x0, x1, x2, x3, x4, x5, x6, rfl, h0, h1, h2, h3, h4, h5, h6⟩ := shape_st26 h
    obtain ⟨a, rfl⟩ := shape_num h0
    obtain ⟨b, rfl⟩ := shape_num h1
    obtain ⟨c, rfl⟩ := shape_num h2
    obtain ⟨d, rfl⟩ := shape_num h3
    obtain ⟨w, rfl, m1, _, hw⟩ := shape_sl22 h4
    obtain ⟨e, rfl, m2, _, he⟩ := shape_sl23 h5
    obtain ⟨f, rfl, m3, _, hf⟩ := shape_sl24 h6
    refine ⟨a, b, c, d, w, e, f, rfl, fun x hx => shape_text (hw x hx), fun x hx => shape_typ k (he x hx), fun x hx => ?_⟩
    obtain ⟨m4, _, y0, y1, y2, T, y4, rfl, g0, g1, g2, g3, g4⟩ := shape_st144 (hf x hx)
    obtain ⟨p, rfl⟩ := shape_num g0
    obtain ⟨t, rfl⟩ := shape_text g1
    obtain ⟨y, rfl⟩ := shape_num g2
    obtain ⟨de, rfl, m5, _, hd⟩ := shape_sl40 g4
    exact ⟨p, t, y, T, de, by simp, shape_typ k g3, shape_isVals hd⟩
theorem shape_rule (h : Shape Tryz.prog n 100 xs) : isRule xs := by
  obtain ⟨m, hm, x0, x1, rfl, h0, h1⟩ := shape_st100 h
  obtain ⟨t, rfl⟩ := shape_text h0
  exact ⟨t, x1, by simp, shape_exp 3 h1⟩
theorem shape_rules (h : Shape Tryz.prog n 30 xs) : ∃ es, xs = [.sl false 6 es] ∧ ∀ x, x ∈ es → isRule x := by
  obtain ⟨m, hm, x0, rfl, h0⟩ := shape_st30 h
  obtain ⟨es, rfl, m1, _, he⟩ := shape_sl28 h0
  exact ⟨es, rfl, fun x hx => shape_rule (he x hx)⟩
theorem shape_call (h : Shape Tryz.prog n 103 xs) : isCall xs := by
  obtain ⟨m, hm, x0, x1, rfl, h0, h1⟩ := shape_st103 h
  obtain ⟨t, rfl⟩ := shape_text h0
  obtain ⟨es, rfl, he⟩ := shape_rules h1
  exact ⟨t, es, rfl, he⟩
theorem shape_node (h : Shape Tryz.prog n 34 xs) : isNode xs := by
  obtain ⟨m, hm, x0, x1, x2, x3, x4, x5, x6, x7, T, x9, x10, x11, x12, x13, rfl, h0, h1, h2, h3, h4, h5, h6, h7, h8, h9, h10, h11, h12, h13⟩ := shape_st34 h
  obtain ⟨name, rfl⟩ := shape_text h0
  obtain ⟨k1, rfl⟩ := shape_num h1
  obtain ⟨k2, rfl⟩ := shape_num h2
  obtain ⟨k3, rfl⟩ := shape_num h3
  obtain ⟨k4, rfl⟩ := shape_num h4
  obtain ⟨k5, rfl⟩ := shape_num h5
  obtain ⟨k6, rfl⟩ := shape_num h6
  obtain ⟨text, rfl⟩ := shape_text h7
  obtain ⟨ty, rfl, _, _, hty⟩ := shape_sl23 h9
  obtain ⟨ex, rfl, _, _, hex⟩ := shape_sl27 h10
  obtain ⟨ru, rfl, hru⟩ := shape_rules h11
  obtain ⟨ca, rfl, _, _, hca⟩ := shape_sl31 h12
  obtain ⟨ne, rfl, _, _, hne⟩ := shape_sl32 h13
  exact ⟨name, k1, k2, k3, k4, k5, k6, text, T, ty, ex, ru, ca, ne, by simp, shape_typ 3 h8, fun x hx => shape_typ 3 (hty x hx), fun x hx => shape_exp 3 (hex x hx), hru, fun x hx => shape_call (hca x hx)⟩
end Go.Proofs.YtjfheahakfoofaaGreatDoor

/- The abstract machine with this table is sound for the program: the three functions of the library that are not walked. -/
namespace Go.Proofs
open Go.Shelf
def Tryz.laysClone_ren : Go.Shelf.Ren := ⟨fun | 15 => 82 | n => n, fun | 22 => 32 | 3 => 3 | 4 => 4 | n => n, fun | n => n⟩
theorem Tryz.laysClone : Go.Proofs.Lays2.n15 Tryz.prog Tryz.laysClone_ren := {
  mixed := by kernel_rfl
  f15 := Tryz.func82.trans (congrArg some (by kernel_rfl))
  t3 := Tryz.underlying3
  a3 := Tryz.isAgg3
  z3 := Tryz.sizeOf3
  v3 := Tryz.zeroValue3
  t4 := Tryz.underlying4
  a4 := Tryz.isAgg4
  z4 := Tryz.sizeOf4
  v4 := Tryz.zeroValue4
  t22 := Tryz.underlying32
  a22 := Tryz.isAgg32
  z22 := Tryz.sizeOf32
  v22 := Tryz.zeroValue32
  i3 := by kernel_rfl }
def Tryz.laysValid_ren : Go.Shelf.Ren := ⟨fun | 196 => 127 | 259 => 145 | n => n, fun | 9 => 9 | 4 => 4 | 3 => 3 | 5 => 5 | 12 => 12 | 119 => 191 | 0 => 0 | 46 => 186 | 139 => 194 | 138 => 193 | 53 => 198 | n => n, fun | 3 => 0 | 4 => 1 | n => n⟩
theorem Tryz.laysValid : Go.Proofs.Lays.n196 Tryz.prog Tryz.laysValid_ren := {
  mixed := by kernel_rfl
  f196 := Tryz.func127.trans (congrArg some (by kernel_rfl))
  f259 := Tryz.func145.trans (congrArg some (by kernel_rfl))
  t0 := Tryz.underlying0
  a0 := Tryz.isAgg0
  z0 := Tryz.sizeOf0
  v0 := Tryz.zeroValue0
  t3 := Tryz.underlying3
  a3 := Tryz.isAgg3
  z3 := Tryz.sizeOf3
  v3 := Tryz.zeroValue3
  t4 := Tryz.underlying4
  a4 := Tryz.isAgg4
  z4 := Tryz.sizeOf4
  v4 := Tryz.zeroValue4
  t5 := Tryz.underlying5
  a5 := Tryz.isAgg5
  z5 := Tryz.sizeOf5
  v5 := Tryz.zeroValue5
  t9 := Tryz.underlying9
  a9 := Tryz.isAgg9
  z9 := Tryz.sizeOf9
  v9 := Tryz.zeroValue9
  t12 := Tryz.underlying12
  a12 := Tryz.isAgg12
  z12 := Tryz.sizeOf12
  v12 := Tryz.zeroValue12
  t46 := Tryz.underlying186
  a46 := Tryz.isAgg186
  z46 := Tryz.sizeOf186
  v46 := Tryz.zeroValue186
  t53 := Tryz.underlying198
  a53 := Tryz.isAgg198
  z53 := Tryz.sizeOf198
  v53 := Tryz.zeroValue198
  t119 := Tryz.underlying191
  a119 := Tryz.isAgg191
  z119 := Tryz.sizeOf191
  t138 := Tryz.underlying193
  a138 := Tryz.isAgg193
  z138 := Tryz.sizeOf193
  v138 := Tryz.zeroValue193
  t139 := Tryz.underlying194
  a139 := Tryz.isAgg194
  z139 := Tryz.sizeOf194
  v139 := Tryz.zeroValue194
  g3 := by kernel_rfl
  g4 := by kernel_rfl }
namespace YtjfheahakfoofaaGreatDoor
open Go.RowKit Go.Em

set_option maxHeartbeats 1000000 in
set_option maxRecDepth 100000 in
theorem compare_calls (a b : ByteArray) (w : World) :
    Calls Tryz.prog 137 #[.string a, .string b] w fun e w' => e = .returned (.int .i64 (Lib.compareBytes a.data.toList b.data.toList)) ∧ w' = w := by
  go_enter Tryz.func137, Tryz.ntmps137
  go_wp2
  rw [run_callFunc_extern Tryz.func147 (by kernel_rfl) (by kernel_rfl) (by kernel_rfl) (e := Extern.BytealgCompare.compare) (by kernel_rfl), Lib.run_compareString]
  simp only [Result.andThen]
  rw [Oper.upon_value]
  go_wp2
  go_ret
  exact ⟨rfl, rfl⟩

section
variable {P : Program} {R : CodeRel}
/-- A function that gives back a value of one word, and may make blocks of its own. -/
theorem fsem_word {f : FuncId} {args : List X} {inb : List Bx} {u : Value} (hu : okV u = true) (h : ∀ (cargs : Array Value) (w : World) (K : Kn) (C : List CB), Inv P R K C inb w → ArgsRep K C args cargs → Calls P f cargs w fun e w' => e = .returned u ∧ Below w.heap.size w w') : FSem P R f args inb (.v u) inb := by
  intro K C w cargs hI ha
  refine (h cargs w K C hI ha).mono ?_
  rintro e w' ⟨rfl, hB⟩
  have hf := frame_of_below hB
  exact ⟨u, K, [], rfl, owns_same (hI.still hf), .v hu, KLe.refl _, fun b o v e => .inl e, fun b o ho => .inl (by rw [List.append_nil] at ho; exact ho), hf.mono (fun b o _ hs => hs.elim), fun i B hB hl => ⟨B, hB, hl⟩⟩
end
theorem intsOf_length : ∀ {es : List (List X)} {zs : List Int}, intsOf es = some zs → es.length = zs.length ∧ ∀ j, j < zs.length → es[j]? = some [.v (.int .i64 (zs.getD j 0))]
  | [], zs, h => by
    simp only [intsOf, Option.some.injEq] at h; subst h
    exact ⟨rfl, fun j hj => by simp at hj⟩
  | e :: r, zs, h => by
    unfold intsOf at h
    split at h
    · rename_i heq; cases heq
    · rename_i z r' heq
      obtain ⟨rfl, rfl⟩ := List.cons.inj heq
      split at h
      · rename_i l hl
        simp only [Option.some.injEq] at h; subst h
        obtain ⟨h1, h2⟩ := intsOf_length hl
        refine ⟨by simp [h1], fun j hj => ?_⟩
        cases j with
        | zero => rfl
        | succ j =>
          have := h2 j (by simpa using hj)
          simpa using this
      · cases h
    · cases h
theorem map_getD (zs : List Int) : zs.take zs.length = zs := List.take_length

theorem clone_sem {R : CodeRel} (t : Bool) (es : List (List X)) (zs : List Int) (h : intsOf es = some zs) (hz : zs.length ≤ 1000000) (inb : List Bx) : FSem Tryz.prog R 82 [.sl t 1 es] inb (.bs inb.length 0 zs.length) (inb ++ [.row 1 (intRow zs)]) := by
  refine fsem_ints (el := 3) zs fun cargs w K C hI ha => ?_
  obtain ⟨h1, h2⟩ := intsOf_length h
  have hs : cargs.size = 1 := ha.1
  have r0 := ha.2 0 _ cargs[0] rfl (Array.getElem?_eq_getElem (by omega))
  have hca : cargs = #[cargs[0]] := by
    refine Array.ext (by simp [hs]) fun i h1 h2 => ?_
    match i, h1, h2 with
    | 0, _, _ => rfl
    | i + 1, h1, _ => omega
  rw [hca]
  generalize cargs[0] = v at r0
  generalize hx : X.sl t 1 es = x at r0
  cases r0 <;> try cases hx
  case slNil ob =>
    simp only [intsOf, Option.some.injEq] at h; subst h
    cases ob with
    | none =>
      refine (Any.slices_Clone_int_nil Tryz.laysClone 0 0 w).mono ?_
      rintro e w' ⟨rfl, rfl⟩
      exact ⟨_, rfl, ⟨rfl, .inl ⟨rfl, rfl⟩⟩, Below.refl _ _⟩
    | some a =>
      refine (Any.slices_Clone_int_zero Tryz.laysClone a 0 w).mono ?_
      rintro e w' ⟨v', rfl, ho, _, hB⟩
      exact ⟨v', rfl, ho, hB⟩
  case sl b o cap vals hcap hcell hr htight hlen hk =>
    have hcells : ∀ j, j < zs.length → w.cell? ⟨b, o + j, none⟩ = some (.int .i64 (zs.getD j 0)) := fun j hj => by
      have e1 := h2 j hj
      have e2 : at2 es j 0 = some (.v (.int .i64 (zs.getD j 0))) := by simp [at2, e1]
      have e3 := hI.known _ _ _ (hk j 0 _ e2)
      have e4 := rep_v (hr j 0 _ e2)
      rw [← e4]
      simpa using e3
    refine (Any.slices_Clone_int Tryz.laysClone b o es.length cap zs w (by omega) (by omega) hcells).mono ?_
    rintro e w' ⟨v', rfl, ho, _, hB⟩
    refine ⟨v', rfl, ?_, hB⟩
    rw [h1, List.take_length] at ho
    exact ho

/-- The tables of the library's text, as they lie in memory. -/
theorem tabs_of {R : CodeRel} (hR : R.gl = gl) {K : Kn} {C : List CB} {bx : List Bx} {w : World} (hI : Inv Tryz.prog R K C bx w) : Lib.Utf8Tabs (Tryz.laysValid_ren.g 3) (Tryz.laysValid_ren.g 4) w := by
  have cell : ∀ (g : Nat) (cs : List X), gl g = some cs → ∀ (j : Nat) (v : Value), cs[j]? = some (.v v) → w.cell? ⟨g, j, none⟩ = some v := fun g cs hg j v hj => by
    have h := hI.glob g cs (by rw [hR]; exact hg)
    cases h with
    | dp vals hcell hk hr =>
      have e3 := hI.known _ _ _ (hk j _ hj)
      rw [← rep_v (hr j _ hj)]
      simpa using e3
  have g3 : Tryz.laysValid_ren.g 3 = 0 := by kernel_rfl
  have g4 : Tryz.laysValid_ren.g 4 = 1 := by kernel_rfl
  rw [g3, g4]
  constructor
  · intro c hc
    have hall : ((List.range 256).all fun c => match (bytesX Go.Pinned.utf8FirstZ)[c]? with
      | some (.v (.int .u8 z)) => z == Lib.firstT c
      | _ => false) = true := by kernel_rfl
    have h1 := List.all_eq_true.1 hall c (List.mem_range.2 hc)
    split at h1
    · rename_i z hz
      rw [cell 0 _ rfl c _ hz, eq_of_beq h1]
    · cases h1
  · intro i hi
    have hall : ((List.range 16).all fun i => (match (bytesX ([128, 191, 160, 191, 128, 159, 144, 191, 128, 143] ++ List.replicate 22 0))[2 * i]? with
      | some (.v (.int .u8 z)) => z == Lib.accLo i
      | _ => false) && (match (bytesX ([128, 191, 160, 191, 128, 159, 144, 191, 128, 143] ++ List.replicate 22 0))[2 * i + 1]? with
      | some (.v (.int .u8 z)) => z == Lib.accHi i
      | _ => false)) = true := by kernel_rfl
    have h1 := List.all_eq_true.1 hall i (List.mem_range.2 hi)
    rw [Bool.and_eq_true] at h1
    obtain ⟨h1, h2⟩ := h1
    constructor
    · split at h1
      · rename_i z hz
        rw [cell 1 _ rfl (2 * i) _ hz, eq_of_beq h1]
      · cases h1
    · split at h2
      · rename_i z hz
        rw [cell 1 _ rfl (2 * i + 1) _ hz, eq_of_beq h2]
      · cases h2

theorem valid_sem {R : CodeRel} (hR : R.gl = gl) (s : ByteArray) (hs : s.size ≤ 9223372036854775807) (inb : List Bx) : FSem Tryz.prog R 127 [.v (.string s)] inb (.v (.bool (Lib.validD s.data.toList))) inb := by
  refine fsem_word rfl fun cargs w K C hI ha => ?_
  have h2 : cargs = #[.string s] := by
    have hs : cargs.size = 1 := ha.1
    have r0 := rep_v (ha.2 0 _ cargs[0] rfl (Array.getElem?_eq_getElem (by omega)))
    refine Array.ext (by simp [hs]) fun i h1 h2 => ?_
    match i, h1, h2 with
    | 0, _, _ => simpa using r0
    | i + 1, h1, _ => omega
  rw [h2]
  exact Any.utf8_ValidString Tryz.laysValid s w hs (tabs_of hR hI)

theorem tabOk : TabOk Tryz.prog gl tab := by
  intro f fd h
  unfold tab at h
  split at h
  · exact ⟨_, h⟩
  · cases h

theorem extOk : ExtOk Tryz.prog gl ext := by
  intro f g hg args inb res outb h
  unfold ext at hg
  split at hg
  · rename_i hf
    have hf' : f = 137 := by simpa using hf
    subst hf'
    simp only [Option.some.injEq] at hg
    subst hg
    unfold compareExt at h
    split at h
    · rename_i a b
      simp only [Option.some.injEq, Prod.mk.injEq] at h
      obtain ⟨rfl, rfl⟩ := h
      refine ⟨fnOk Tryz.func137 (fun e => absurd e (of_decide_eq_false (by kernel_rfl))) (fun e => by simpa [e] using (show Tryz.f137.body.isSome = true by kernel_rfl)), fsem_pure rfl fun cargs w K C ha => ?_⟩
      have h2 : cargs = #[.string a, .string b] := by
        have hs : cargs.size = 2 := ha.1
        have r0 := rep_v (ha.2 0 _ cargs[0] rfl (Array.getElem?_eq_getElem (by omega)))
        have r1 := rep_v (ha.2 1 _ cargs[1] rfl (Array.getElem?_eq_getElem (by omega)))
        refine Array.ext (by simp [hs]) fun i h1 h2 => ?_
        match i, h1, h2 with
        | 0, _, _ => simpa using r0
        | 1, _, _ => simpa using r1
        | i + 2, h1, _ => omega
      rw [h2]
      exact compare_calls a b w
    · cases h
  · split at hg
    · rename_i hf
      have hf' : f = 127 := by simpa using hf
      subst hf'
      simp only [Option.some.injEq] at hg
      subst hg
      unfold validExt at h
      split at h
      · split at h
        · rename_i a hsz
          simp only [Option.some.injEq, Prod.mk.injEq] at h
          obtain ⟨rfl, rfl⟩ := h
          exact ⟨fnOk Tryz.func127 (fun e => absurd e (of_decide_eq_false (by kernel_rfl))) (fun e => by simpa [e] using (show Tryz.f127.body.isSome = true by kernel_rfl)), valid_sem rfl a hsz inb⟩
        · cases h
      · cases h
    · split at hg
      · rename_i hf
        have hf' : f = 82 := by simpa using hf
        subst hf'
        simp only [Option.some.injEq] at hg
        subst hg
        unfold cloneExt at h
        split at h
        · split at h
          · rename_i zs hzs
            split at h
            · rename_i hle
              simp only [Option.some.injEq, Prod.mk.injEq] at h
              obtain ⟨rfl, rfl⟩ := h
              exact ⟨fnOk Tryz.func82 (fun e => absurd e (of_decide_eq_false (by kernel_rfl))) (fun e => by simpa [e] using (show Tryz.f82.body.isSome = true by kernel_rfl)), clone_sem _ _ zs hzs hle inb⟩
            · cases h
          · cases h
        · cases h
      · cases hg

theorem machine (n : Nat) : GamOk Tryz.prog (RCode Tryz.prog gl) (callF tab ext n) := callF_ok tabOk extOk n
end YtjfheahakfoofaaGreatDoor
end Go.Proofs

/- The library's tables, laid as the rows say, are those of the machine. -/
namespace Go.Proofs.YtjfheahakfoofaaGreatDoor
open Go.Em Go.ChangeShapes Go.WideShapes Go.ChangeAt Go.RowKit
set_option maxRecDepth 100000

def laidZ : List (String × DataW Unit) := [("unicode/utf8.acceptRanges", Rows.laid_unicode_utf8_acceptRanges), ("unicode/utf8.first", Rows.laid_unicode_utf8_first)]
def fieldsZ (P : Program) (t : TypeId) : Array Field := match P.underlying t with
  | some (.struct fs) => fs
  | _ => #[]
theorem under5 : Tryz.prog.underlying 5 = some (.int .u8) := by kernel_rfl
theorem under191 : Tryz.prog.underlying 191 = some (.array 256 5) := by kernel_rfl
theorem under194 : Tryz.prog.underlying 194 = some (.array 16 193) := by kernel_rfl
theorem under193 : Tryz.prog.underlying 193 = some (.struct (fieldsZ Tryz.prog 193)) := by kernel_rfl
theorem field0 : ((fieldsZ Tryz.prog 193)[0]?).map (fun f => (f.type, f.offset)) = some (5, 0) := by kernel_rfl
theorem field1 : ((fieldsZ Tryz.prog 193)[1]?).map (fun f => (f.type, f.offset)) = some (5, 1) := by kernel_rfl
theorem rep_bytes {W : World} {g : Nat} {l : List Nat} (h : ∀ j z, l[j]? = some z → W.cell? ⟨g, j, none⟩ = some (.int .u8 (Int.ofNat z))) : Rep (Kw W) [] (.dp (bytesX l)) (.pointer (some ⟨g, 0, none⟩)) := by
  have hx : ∀ (j : Nat) (x : X), (bytesX l)[j]? = some x → ∃ z, l[j]? = some z ∧ x = .v (.int .u8 (Int.ofNat z)) := fun j x e => by
    unfold bytesX at e
    rw [List.getElem?_map, Option.map_eq_some_iff] at e
    obtain ⟨z, hz, rfl⟩ := e
    exact ⟨z, hz, rfl⟩
  refine .dp (fun j => .int .u8 (Int.ofNat (l.getD j 0))) (fun j x e => ?_) (fun j x e => ?_) (fun j x e => ?_)
  · obtain ⟨z, _, rfl⟩ := hx j x e; rfl
  · obtain ⟨z, hz, rfl⟩ := hx j x e
    show W.cell? ⟨g, 0 + j, none⟩ = _
    rw [Nat.zero_add, h j z hz, List.getD_eq_getElem?_getD, hz]; rfl
  · obtain ⟨z, hz, rfl⟩ := hx j x e
    rw [List.getD_eq_getElem?_getD, hz]
    exact .v rfl
theorem globs {W : World} (h : laidMetH Tryz.prog laidZ W) : (∀ j z, Go.Pinned.utf8FirstZ[j]? = some z → W.cell? ⟨0, j, none⟩ = some (.int .u8 (Int.ofNat z))) ∧ ∀ j z, ([128, 191, 160, 191, 128, 159, 144, 191, 128, 143] ++ List.replicate 22 0)[j]? = some z → W.cell? ⟨1, j, none⟩ = some (.int .u8 (Int.ofNat z)) := by
  rw [MakeChecks.laidMetH_plain _ _ _ (by kernel_rfl)] at h
  obtain ⟨ps, ⟨g, t, cs, fuel, p, q, hg, ht, hv, hd, ⟨g', t', cs', fuel', p', q', hg', ht', hv', hd', _, _⟩, _⟩, _, _⟩ := h
  obtain rfl := Option.some.inj ((show Tryz.prog.globalNamed "unicode/utf8.acceptRanges" = some 1 by kernel_rfl).symm.trans hg)
  obtain rfl := Option.some.inj ((show (Tryz.prog.globals[1]?).map (·.type) = some 194 by kernel_rfl).symm.trans ht)
  obtain rfl := Option.some.inj ((show Tryz.prog.globalNamed "unicode/utf8.first" = some 0 by kernel_rfl).symm.trans hg')
  obtain rfl := Option.some.inj ((show (Tryz.prog.globals[0]?).map (·.type) = some 191 by kernel_rfl).symm.trans ht')
  have c5 : Tryz.prog.cellsOf 5 = 1 := by kernel_rfl
  have c193 : Tryz.prog.cellsOf 193 = 2 := by kernel_rfl
  constructor
  · intro j z hz
    obtain ⟨xs, m, _, ex, _, hl, hel⟩ := DataW.trod_array under191 hd'
    have hlen : Go.Pinned.utf8FirstZ.length = 256 := by kernel_rfl
    have hj : j < 256 := by rw [← hlen]; exact (List.getElem?_eq_some_iff.1 hz).1
    have hE := hel j hj
    rw [c5, Nat.mul_one, List.getElem?_eq_getElem (by omega)] at hE
    obtain ⟨y, e1, e2, _⟩ := DataW.trod_int under5 hE
    have e3 : (xs.map (·.1)) = Go.Pinned.utf8FirstZ.map fun (n : Nat) => .lit (.int .u8 (Int.ofNat n)) := (DataW.agg.inj (Prod.mk.inj ex).1).symm
    have e4 : (xs.map (·.1))[j]? = (Go.Pinned.utf8FirstZ.map fun (n : Nat) => (DataW.lit (.int .u8 (Int.ofNat n)) : DataW Unit))[j]? := by rw [e3]
    rw [List.getElem?_map, List.getElem?_map, List.getElem?_eq_getElem (by omega : j < xs.length), hz, e2] at e4
    simp only [Option.map_some, Option.some.injEq, DataW.lit.injEq, Lit.int.injEq, true_and] at e4
    subst e4
    rw [World.var?_cell hg' hv' j]
    have : cs'.toList[j]? = some (.int .u8 (Int.ofNat z)) := by
      have h0 : ((cs'.toList.drop j).take 1)[0]? = some (.int .u8 (Int.ofNat z)) := by rw [e1]; rfl
      simpa using h0
    simpa using this
  · intro j z hz
    obtain ⟨xs, m, _, ex, _, hl, hel⟩ := DataW.trod_array under194 hd
    have hlen : ([128, 191, 160, 191, 128, 159, 144, 191, 128, 143] ++ List.replicate 22 0).length = 32 := by kernel_rfl
    have hj : j < 32 := by rw [← hlen]; exact (List.getElem?_eq_some_iff.1 hz).1
    have hE := hel (j / 2) (by omega)
    rw [c193, List.getElem?_eq_getElem (by omega)] at hE
    obtain ⟨ys, m2, _, ey, _, hl2, hel2⟩ := DataW.trod_struct under193 hE
    have f2 : (fieldsZ Tryz.prog 193).size = 2 := by kernel_rfl
    have hk : j % 2 < 2 := Nat.mod_lt _ (by omega)
    have hfo : ∀ k, k < 2 → ((fieldsZ Tryz.prog 193)[k]?).map (fun f => (f.type, f.offset)) = some (5, k) := fun k hk => by
      match k, hk with
      | 0, _ => exact field0
      | 1, _ => exact field1
    obtain ⟨f, hf, hf2⟩ := Option.map_eq_some_iff.1 (hfo (j % 2) hk)
    have hE2 := hel2 (j % 2) f hf
    obtain ⟨hft, hfo'⟩ := Prod.mk.inj hf2
    rw [hft, hfo', c5, List.getElem?_eq_getElem (by omega)] at hE2
    obtain ⟨y, e1, e2, _⟩ := DataW.trod_int under5 hE2
    have hall : ((List.range 32).all fun j => match (Rows.laid_unicode_utf8_acceptRanges : DataW Unit) with
      | .agg l => match l[j / 2]? with
        | some (.agg r) => match r[j % 2]?, ([128, 191, 160, 191, 128, 159, 144, 191, 128, 143] ++ List.replicate 22 0)[j]? with
          | some (.lit (.int .u8 z)), some z' => z == Int.ofNat z'
          | _, _ => false
        | _ => false
      | _ => false) = true := by kernel_rfl
    have h1 := List.all_eq_true.1 hall j (List.mem_range.2 hj)
    have e3 : (Rows.laid_unicode_utf8_acceptRanges : DataW Unit) = .agg (xs.map (·.1)) := (Prod.mk.inj ex).1
    have e5 : (xs.map (·.1))[j / 2]? = some (.agg (ys.map (·.1))) := by
      rw [List.getElem?_map, List.getElem?_eq_getElem (by omega : j / 2 < xs.length), ey]; rfl
    have e6 : (ys.map (·.1))[j % 2]? = some (.lit (.int .u8 y)) := by
      rw [List.getElem?_map, List.getElem?_eq_getElem (by omega : j % 2 < ys.length), e2]; rfl
    rw [e3] at h1
    dsimp only at h1
    rw [e5] at h1
    dsimp only at h1
    rw [e6, hz] at h1
    have hy : y = Int.ofNat z := eq_of_beq h1
    subst hy
    rw [World.var?_cell hg hv j]
    have : cs.toList[j]? = some (.int .u8 (Int.ofNat z)) := by
      have h0 : ((((cs.toList.drop (j / 2 * 2)).take 2).drop (j % 2)).take 1)[0]? = some (.int .u8 (Int.ofNat z)) := by rw [e1]; rfl
      rw [List.getElem?_take, if_pos (by omega), List.getElem?_drop, List.getElem?_take, if_pos (by omega), List.getElem?_drop] at h0
      have : j / 2 * 2 + (j % 2 + 0) = j := by omega
      rw [this] at h0
      exact h0
    simpa using this
theorem globOk {W : World} (h : laidMetH Tryz.prog laidZ W) : GlobOk (RCode Tryz.prog gl) (Kw W) := by
  obtain ⟨h0, h1⟩ := globs h
  intro g cs e
  change gl g = some cs at e
  unfold gl at e
  split at e
  · rename_i hg
    obtain rfl : g = 0 := by simpa using hg
    cases e
    exact rep_bytes h0
  · split at e
    · rename_i hg
      obtain rfl : g = 1 := by simpa using hg
      cases e
      exact rep_bytes h1
    · cases e
end Go.Proofs.YtjfheahakfoofaaGreatDoor
