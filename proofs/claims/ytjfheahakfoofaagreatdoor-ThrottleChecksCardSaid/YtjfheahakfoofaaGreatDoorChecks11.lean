/- What is equal is found equal: messages, slots, states, outcomes. -/
import Derived.Test.YtjfheahakfoofaaGreatDoorChecks10
namespace Go.Proofs.YtjfheahakfoofaaGreatDoor
open Go.Em

/-- An output, a fate, an outcome (without requests). -/
structure Otp where
  port : Int
  m : Msg
def Otp.cells (o : Otp) : List X := num o.port :: o.m.cells
def otpsC (l : List Otp) : List (List X) := l.map Otp.cells
structure Fte where
  st : Stp
  kind : Int
  node : ByteArray
  into : List Stp
  text : ByteArray
def Fte.cells (f : Fte) : List X := [num f.st.e, .sl false 1 (intsC f.st.p), num f.kind, strX f.node, .sl false 2 (stpsC f.into), strX f.text]
def ftesC (l : List Fte) : List (List X) := l.map Fte.cells
structure Ocm where
  s : Stt
  outs : List Otp
  fates : List Fte
  letters : List Msg
def Ocm.cells (o : Ocm) : List X := [num o.s.n, num o.s.t, .sl false 10 (sltsC o.s.slots), .sl false 11 (otpsC o.outs), .sl false 11 [], .sl false 6 (ftesC o.fates), .sl false 10 (msgsC o.letters)]

/-! ### Sizes -/
def Val.ok (v : Val) : Prop := v.size ≤ 60000
structure Stp.ok (s : Stp) : Prop where
  p : s.p.length ≤ 60000
structure Msg.ok (m : Msg) : Prop where
  st : m.st.ok
  orig : m.orig.length ≤ 60000
  body : m.body.ok
structure Slt.ok (s : Slt) : Prop where
  key : s.key.ok
  items : s.items.length ≤ 60000
  item : ∀ m, m ∈ s.items → m.ok
  vals : s.vals.length ≤ 60000
  val : ∀ v, v ∈ s.vals → v.ok
structure Stt.ok (s : Stt) : Prop where
  slots : s.slots.length ≤ 60000
  slot : ∀ x, x ∈ s.slots → x.ok
structure Fte.ok (f : Fte) : Prop where
  st : f.st.ok
  len : f.into.length ≤ 60000
  into : ∀ s, s ∈ f.into → s.ok
structure Ocm.ok (o : Ocm) : Prop where
  s : o.s.ok
  nouts : o.outs.length ≤ 60000
  outs : ∀ x, x ∈ o.outs → x.m.ok
  nfates : o.fates.length ≤ 60000
  fates : ∀ x, x ∈ o.fates → x.ok
  nletters : o.letters.length ≤ 60000
  letters : ∀ x, x ∈ o.letters → x.ok
section
variable (l m : List (List X)) (j : Nat)
def sh43 : St := ⟨[(0, .sl false 10 l), (1, .sl false 10 m), (5, nat j)], []⟩
end
section
variable (l m : List (List X)) (j : Nat)
def sh42 : St := ⟨[(0, .sl false 6 l), (1, .sl false 6 m), (5, nat j)], []⟩
end
section
variable (a : List X) (z : List (List X)) (j : Nat)
def ohH : St := ⟨[(2, .ptr 0 0 0), (3, .ptr 1 0 0), (5, nat j)], [.var a, .var a]⟩
end
end Go.Proofs.YtjfheahakfoofaaGreatDoor

/- Copies of messages, of slots, of states. -/
namespace Go.Proofs.YtjfheahakfoofaaGreatDoor
open Go.Em

theorem intsOf_intsC : ∀ l : List Int, intsOf (intsC l) = some l
  | [] => rfl
  | x :: l => by
    have h := intsOf_intsC l
    show (match intsOf (intsC l) with
      | some l => some (x :: l)
      | none => none) = some (x :: l)
    rw [h]
theorem clone_row (N : Nat) (l : List Int) (hl : l.length ≤ 60000) : callF tab ext (N + 1) (.fn 82) [.sl false 1 (intsC l)] [] = some (.bs 0 0 l.length, [.row 1 (intsC l)]) := by
  show cloneExt [.sl false 1 (intsC l)] [] = _
  unfold cloneExt
  simp only [intsOf_intsC, if_pos (show l.length ≤ 1000000 by omega)]
  rfl
theorem clone_ints (N : Nat) (l : List Int) (hl : l.length ≤ 60000) : Gam.pureD (callF tab ext (N + 1)) 82 [.sl false 1 (intsC l)] = some (.sl false 1 (intsC l)) := by
  unfold Gam.pureD
  rw [clone_row N l hl]
  simp only [X.data, rowOf, List.getElem?_cons_zero, Nat.zero_add, intsC_length, Nat.le_refl, if_true, Option.map_some, List.drop_zero]
  rw [List.take_of_length_le (by rw [intsC_length]; exact Nat.le_refl _)]
theorem clone_stamp (N : Nat) (s : Stp) (h : s.ok) : Gam.pureD (callF tab ext (N + 2)) 81 [.agg s.cells] = some (.agg s.cells) :=
  pure_of [(7, .p (.sl false 1 (intsC s.p)))] [] (pf1 (clone_ints N s.p h.p)) (x := .agg s.cells) (bx := []) (by kernel_rfl) rfl
theorem clone_msg (N : Nat) (m : Msg) (h : m.ok) (hN : 190001 ≤ N) : Gam.pureD (callF tab ext N) 39 [.agg m.cells] = some (.agg m.cells) := by
  obtain ⟨M, rfl⟩ : ∃ M, N = M + 3 := ⟨N - 3, by omega⟩
  have h1 := clone_stamp M m.st h.st
  have h2 := clone_ints (M + 1) m.orig h.orig
  have hb := h.body
  unfold Val.ok at hb
  have h3 := clone_val (M + 2) m.body (by omega) (by omega)
  obtain ⟨⟨a1, a2⟩, a3, a4, a5, a6, a7, a8, a9, a0⟩ := m
  exact pure_of [(5, .p (.agg (Stp.mk a1 a2).cells)), (10, .p (.sl false 1 (intsC a4))), (13, .p (.agg (Val.mk a5 a6 a7 a8 a9 a0).cells))] [] (pf3 h1 h2 h3) (x := .agg (Msg.mk ⟨a1, a2⟩ a3 a4 (Val.mk a5 a6 a7 a8 a9 a0)).cells) (bx := []) (by kernel_rfl) rfl

def zSlot : List X := [num 0, num 0, num 0, noText, .sl true 6 [], .sl true 7 [], num 0, num 0, .sl true 10 [], .sl true 6 []]
/-! ### cloneSlot -/
section
variable (s items acc vals accV : List (List X)) (n m k j : Nat)
variable (k0 i0 s0 : Int) (t0 : ByteArray) (l0 f0 : List (List X)) (n0 d0 : Int) (x : List X)
def csH : St := ⟨[(1, .ptr 0 0 0), (2, .ptr 1 0 0), (3, .bs 2 0 j), (14, .sl false 10 items), (15, nat n), (16, nat j)], [.var (slotC k0 i0 s0 t0 l0 f0 n0 d0 items vals), .var zSlot, .row 10 acc]⟩
def csH' : St := ⟨[(1, .ptr 0 0 0), (2, .ptr 1 0 0), (3, .bs 4 0 (j + 1)), (14, .sl false 10 items), (15, nat n), (16, nat (j + 1))], [.var (slotC k0 i0 s0 t0 l0 f0 n0 d0 items vals), .var zSlot, .dead, .var x, .row 10 (acc ++ [x])]⟩
def csE : St := ⟨[(1, .ptr 0 0 0), (2, .ptr 1 0 0), (3, .bs 2 0 j), (14, .sl false 10 items), (15, nat n), (16, nat j), (17, boolX false)], [.var (slotC k0 i0 s0 t0 l0 f0 n0 d0 items vals), .var zSlot, .row 10 acc]⟩
theorem cs_canon : canon 0 (csH items acc vals n j k0 i0 s0 t0 l0 f0 n0 d0) = some (csH items acc vals n j k0 i0 s0 t0 l0 f0 n0 d0) := by kernel_rfl
theorem cs_canon' : canon 0 (csH' items acc vals n j k0 i0 s0 t0 l0 f0 n0 d0 x) = some (csH items (acc ++ [x]) vals n (j + 1) k0 i0 s0 t0 l0 f0 n0 d0) := by kernel_rfl
def cvH : St := ⟨[(1, .ptr 0 0 0), (2, .ptr 1 0 0), (3, .bs 2 0 m), (6, .bs 3 0 j), (31, .sl false 6 vals), (32, nat n), (33, nat j)], [.var (slotC k0 i0 s0 t0 l0 f0 n0 d0 items vals), .var zSlot, .row 10 acc, .row 6 accV]⟩
def cvH' : St := ⟨[(1, .ptr 0 0 0), (2, .ptr 1 0 0), (3, .bs 2 0 m), (6, .bs 5 0 (j + 1)), (31, .sl false 6 vals), (32, nat n), (33, nat (j + 1))], [.var (slotC k0 i0 s0 t0 l0 f0 n0 d0 items vals), .var zSlot, .row 10 acc, .dead, .var x, .row 6 (accV ++ [x])]⟩
def cvE : St := ⟨[(1, .ptr 0 0 0), (2, .ptr 1 0 0), (3, .bs 2 0 m), (6, .bs 3 0 j), (31, .sl false 6 vals), (32, nat n), (33, nat j), (34, boolX false)], [.var (slotC k0 i0 s0 t0 l0 f0 n0 d0 items vals), .var zSlot, .row 10 acc, .row 6 accV]⟩
theorem cv_canon : canon 0 (cvH items acc vals accV n m j k0 i0 s0 t0 l0 f0 n0 d0) = some (cvH items acc vals accV n m j k0 i0 s0 t0 l0 f0 n0 d0) := by kernel_rfl
theorem cv_canon' : canon 0 (cvH' items acc vals accV n m j k0 i0 s0 t0 l0 f0 n0 d0 x) = some (cvH items acc vals (accV ++ [x]) n m (j + 1) k0 i0 s0 t0 l0 f0 n0 d0) := by kernel_rfl
end

theorem clone_slot (N : Nat) (s : Slt) (h : s.ok) (hN : 190005 ≤ N) : callF tab ext N (.fn 68) [.agg s.cells] [] = some (match s with
    | ⟨.mk k i s t l f, n, d, ms, vs⟩ => (.agg [num k, num i, num s, strX t, .sl false 6 (cellsL l), .sl false 7 (cellsF f), num n, num d, .bs 0 0 (msgsC ms).length, .bs 1 0 (cellsL vs).length], [.row 10 (msgsC ms), .row 6 (cellsL vs)])) := by
  obtain ⟨M, rfl⟩ : ∃ M, N = M + 1 := ⟨N - 1, by omega⟩
  have hi := h.items
  have hv := h.vals
  have hk := h.key
  have hit := h.item
  have hva := h.val
  obtain ⟨⟨k0, i0, s0, t0, l0, f0⟩, n0, d0, ms, vs⟩ := s
  have em := msgsC_length ms
  have ev := cellsL_length vs
  dsimp only at hi hv hk hit hva
  unfold Val.ok at hk
  have hk' := clone_val M (Val.mk k0 i0 s0 t0 l0 f0) (by omega) (by omega)
  have h1 : run (callF tab ext M) 0 M (.loop (loopAt 68 0)) (csH (msgsC ms) [] (cellsL vs) (msgsC ms).length 0 k0 i0 s0 t0 (cellsL l0) (cellsF f0) n0 d0) = some (.exit 0, csE (msgsC ms) (msgsC ms) (cellsL vs) (msgsC ms).length (msgsC ms).length k0 i0 s0 t0 (cellsL l0) (cellsF f0) n0 d0) := by
    refine loop_for (σ := fun j => csH (msgsC ms) ((msgsC ms).take j) (cellsL vs) (msgsC ms).length j k0 i0 s0 t0 (cellsL l0) (cellsF f0) n0 d0) (k := (msgsC ms).length) (cs_canon ..) (fun j hj => ?_) ?_ (by simp) (by omega)
    · have hj' : j < ms.length := by omega
      have hg := msgsC_get hj'
      have hc := clone_msg M ms[j] (hit _ (List.getElem_mem hj')) (by omega)
      have ht := take_succ_get hg
      generalize ms[j] = a at hg hc ht
      obtain ⟨⟨a1, a2⟩, a3, a4, a5, a6, a7, a8, a9, a0⟩ := a
      refine ⟨csH' (msgsC ms) ((msgsC ms).take j) (cellsL vs) (msgsC ms).length j k0 i0 s0 t0 (cellsL l0) (cellsF f0) n0 d0 (Msg.mk ⟨a1, a2⟩ a3 a4 (Val.mk a5 a6 a7 a8 a9 a0)).cells, run_of [(17, .b true), (18, .e (Msg.mk ⟨a1, a2⟩ a3 a4 (Val.mk a5 a6 a7 a8 a9 a0)).cells), (22, .p (.agg (Msg.mk ⟨a1, a2⟩ a3 a4 (Val.mk a5 a6 a7 a8 a9 a0)).cells)), (24, .app), (25, .i (Int.ofNat (j + 1)))] []
        (pf5 (lt_nat (j := j) (k := (msgsC ms).length) (by omega)) hg hc (app_ok (acc := (msgsC ms).take j) j 2 152 (by rw [List.length_take]; omega) (by omega) (by omega)) (next_nat (j := j) (by omega))) (lo' := []) (by kernel_rfl), ?_⟩
      rw [cs_canon', ht]
    · rw [List.take_length]
      exact run_of [(17, .b false)] [] (pf1 (nlt_nat (Nat.lt_irrefl (msgsC ms).length))) (lo' := []) (by kernel_rfl)
  have h2 : run (callF tab ext M) 0 M (.loop (loopAt 68 1)) (cvH (msgsC ms) (msgsC ms) (cellsL vs) [] (cellsL vs).length (msgsC ms).length 0 k0 i0 s0 t0 (cellsL l0) (cellsF f0) n0 d0) = some (.exit 2, cvE (msgsC ms) (msgsC ms) (cellsL vs) (cellsL vs) (cellsL vs).length (msgsC ms).length (cellsL vs).length k0 i0 s0 t0 (cellsL l0) (cellsF f0) n0 d0) := by
    refine loop_for (σ := fun j => cvH (msgsC ms) (msgsC ms) (cellsL vs) ((cellsL vs).take j) (cellsL vs).length (msgsC ms).length j k0 i0 s0 t0 (cellsL l0) (cellsF f0) n0 d0) (k := (cellsL vs).length) (cv_canon ..) (fun j hj => ?_) ?_ (by simp) (by omega)
    · have hj' : j < vs.length := by omega
      have hg := cellsL_get hj'
      have hok := hva _ (List.getElem_mem hj')
      unfold Val.ok at hok
      have hc := clone_val M vs[j] (by omega) (by omega)
      have ht := take_succ_get hg
      generalize vs[j] = a at hg hc ht
      obtain ⟨a1, a2, a3, a4, a5, a6⟩ := a
      refine ⟨cvH' (msgsC ms) (msgsC ms) (cellsL vs) ((cellsL vs).take j) (cellsL vs).length (msgsC ms).length j k0 i0 s0 t0 (cellsL l0) (cellsF f0) n0 d0 (Val.mk a1 a2 a3 a4 a5 a6).cells, run_of [(34, .b true), (35, .e (Val.mk a1 a2 a3 a4 a5 a6).cells), (39, .p (.agg (Val.mk a1 a2 a3 a4 a5 a6).cells)), (41, .app), (42, .i (Int.ofNat (j + 1)))] []
        (pf5 (lt_nat (j := j) (k := (cellsL vs).length) (by omega)) hg hc (app_ok (acc := (cellsL vs).take j) j 3 88 (by rw [List.length_take]; omega) (by omega) (by omega)) (next_nat (j := j) (by omega))) (lo' := []) (by kernel_rfl), ?_⟩
      rw [cv_canon', ht]
    · rw [List.take_length]
      exact run_of [(34, .b false)] [] (pf1 (nlt_nat (Nat.lt_irrefl (cellsL vs).length))) (lo' := []) (by kernel_rfl)
  exact callF_of [(12, .mk), (29, .mk), (45, .p (.agg (Val.mk k0 i0 s0 t0 l0 f0).cells))] [(.exit 0, csE (msgsC ms) (msgsC ms) (cellsL vs) (msgsC ms).length (msgsC ms).length k0 i0 s0 t0 (cellsL l0) (cellsF f0) n0 d0), (.exit 2, cvE (msgsC ms) (msgsC ms) (cellsL vs) (cellsL vs) (cellsL vs).length (msgsC ms).length (cellsL vs).length k0 i0 s0 t0 (cellsL l0) (cellsF f0) n0 d0)]
    (pf5 (a := 0 ≤ (msgsC ms).length ∧ roomOk (msgsC ms).length 152 = true) ⟨by omega, room_of (by omega) (by omega)⟩ h1 (c := 0 ≤ (cellsL vs).length ∧ roomOk (cellsL vs).length 88 = true) ⟨by omega, room_of (by omega) (by omega)⟩ h2 hk') (by kernel_rfl)

theorem clone_slot_pure (N : Nat) (s : Slt) (h : s.ok) (hN : 190005 ≤ N) : Gam.pureD (callF tab ext N) 68 [.agg s.cells] = some (.agg s.cells) := by
  unfold Gam.pureD
  rw [clone_slot N s h hN]
  obtain ⟨⟨k0, i0, s0, t0, l0, f0⟩, n0, d0, ms, vs⟩ := s
  simp [X.data, dataL, rowOf, Slt.cells, slotC, num, strX]

def zState : List X := [num 0, num 0, .sl true 10 []]
section
variable (a b : Int) (l acc : List (List X)) (n j : Nat) (x : List X)
def stH : St := ⟨[(1, .ptr 0 0 0), (2, .ptr 1 0 0), (3, .bs 2 0 j), (11, .sl false 10 l), (12, nat n), (13, nat j)], [.var [num a, num b, .sl false 10 l], .var zState, .row 10 acc]⟩
def stH' : St := ⟨[(1, .ptr 0 0 0), (2, .ptr 1 0 0), (3, .bs 4 0 (j + 1)), (11, .sl false 10 l), (12, nat n), (13, nat (j + 1))], [.var [num a, num b, .sl false 10 l], .var zState, .dead, .var x, .row 10 (acc ++ [x])]⟩
def stE : St := ⟨[(1, .ptr 0 0 0), (2, .ptr 1 0 0), (3, .bs 2 0 j), (11, .sl false 10 l), (12, nat n), (13, nat j), (14, boolX false)], [.var [num a, num b, .sl false 10 l], .var zState, .row 10 acc]⟩
theorem st_canon : canon 0 (stH a b l acc n j) = some (stH a b l acc n j) := by kernel_rfl
theorem st_canon' : canon 0 (stH' a b l acc n j x) = some (stH a b l (acc ++ [x]) n (j + 1)) := by kernel_rfl
end
theorem clone_state (N : Nat) (s : Stt) (h : s.ok) (hN : 190010 ≤ N) : callF tab ext N (.fn 29) [.agg s.cells] [] = some (.agg [num s.n, num s.t, .bs 0 0 (sltsC s.slots).length], [.row 10 (sltsC s.slots)]) := by
  obtain ⟨M, rfl⟩ : ∃ M, N = M + 1 := ⟨N - 1, by omega⟩
  have hi := h.slots
  have hit := h.slot
  obtain ⟨a, b, ss⟩ := s
  dsimp only at hi hit
  have em := sltsC_length ss
  have h1 : run (callF tab ext M) 0 M (.loop (loopAt 29 0)) (stH a b (sltsC ss) [] (sltsC ss).length 0) = some (.exit 0, stE a b (sltsC ss) (sltsC ss) (sltsC ss).length (sltsC ss).length) := by
    refine loop_for (σ := fun j => stH a b (sltsC ss) ((sltsC ss).take j) (sltsC ss).length j) (k := (sltsC ss).length) (st_canon ..) (fun j hj => ?_) ?_ (by simp) (by omega)
    · have hj' : j < ss.length := by omega
      have hg := sltsC_get hj'
      have hc := clone_slot_pure M ss[j] (hit _ (List.getElem_mem hj')) (by omega)
      have ht := take_succ_get hg
      generalize ss[j] = q at hg hc ht
      obtain ⟨⟨a1, a2, a3, a4, a5, a6⟩, a7, a8, a9, a0⟩ := q
      refine ⟨stH' a b (sltsC ss) ((sltsC ss).take j) (sltsC ss).length j (Slt.mk (Val.mk a1 a2 a3 a4 a5 a6) a7 a8 a9 a0).cells, run_of [(14, .b true), (15, .e (Slt.mk (Val.mk a1 a2 a3 a4 a5 a6) a7 a8 a9 a0).cells), (19, .p (.agg (Slt.mk (Val.mk a1 a2 a3 a4 a5 a6) a7 a8 a9 a0).cells)), (21, .app), (22, .i (Int.ofNat (j + 1)))] []
        (pf5 (lt_nat (j := j) (k := (sltsC ss).length) (by omega)) hg hc (app_ok (acc := (sltsC ss).take j) j 2 152 (by rw [List.length_take]; omega) (by omega) (by omega)) (next_nat (j := j) (by omega))) (lo' := []) (by kernel_rfl), ?_⟩
      rw [st_canon', ht]
    · rw [List.take_length]
      exact run_of [(14, .b false)] [] (pf1 (nlt_nat (Nat.lt_irrefl (sltsC ss).length))) (lo' := []) (by kernel_rfl)
  exact callF_of [(9, .mk)] [(.exit 0, stE a b (sltsC ss) (sltsC ss) (sltsC ss).length (sltsC ss).length)]
    (pf2 (a := 0 ≤ (sltsC ss).length ∧ roomOk (sltsC ss).length 152 = true) ⟨by omega, room_of (by omega) (by omega)⟩ h1) (by kernel_rfl)
theorem clone_state_pure (N : Nat) (s : Stt) (h : s.ok) (hN : 190010 ≤ N) : Gam.pureD (callF tab ext N) 29 [.agg s.cells] = some (.agg s.cells) := by
  unfold Gam.pureD
  rw [clone_state N s h hN]
  simp [X.data, dataL, rowOf, Stt.cells, num]
end Go.Proofs.YtjfheahakfoofaaGreatDoor

/- The checks of stamps and of messages come to an end. -/
namespace Go.Proofs.YtjfheahakfoofaaGreatDoor
open Go.Em

theorem bad_index (x : Int) : ∃ b : Bool, ∀ N, Gam.pureD (callF tab ext (N + 2)) 80 [num x] = some (boolX b) := by
  cases h1 : decide (x < 0) with
  | true =>
    exact ⟨true, fun N => pure_of [(4, .b true)] [] (pf1 h1) (x := boolX true) (bx := []) (by kernel_rfl) rfl⟩
  | false =>
    cases h2 : decide (65535 < x) with
    | true =>
      exact ⟨true, fun N => pure_of [(4, .b false), (7, .b true)] [] (pf2 h1 h2) (x := boolX true) (bx := []) (by kernel_rfl) rfl⟩
    | false =>
      exact ⟨false, fun N => pure_of [(4, .b false), (7, .b false)] [] (pf2 h1 h2) (x := boolX false) (bx := []) (by kernel_rfl) rfl⟩
theorem heavy_ok (x : Int) : ∃ b : Bool, ∀ N, Gam.pureD (callF tab ext (N + 2)) 36 [num x] = some (boolX b) := by
  cases h1 : decide (x < 0) with
  | true =>
    exact ⟨true, fun N => pure_of [(4, .b true)] [] (pf1 h1) (x := boolX true) (bx := []) (by kernel_rfl) rfl⟩
  | false =>
    cases h2 : decide (1099511627776 < x) with
    | true =>
      exact ⟨true, fun N => pure_of [(4, .b false), (7, .b true)] [] (pf2 h1 h2) (x := boolX true) (bx := []) (by kernel_rfl) rfl⟩
    | false =>
      exact ⟨false, fun N => pure_of [(4, .b false), (7, .b false)] [] (pf2 h1 h2) (x := boolX false) (bx := []) (by kernel_rfl) rfl⟩
theorem entry_ok (x : Int) : ∃ b : Bool, ∀ N, Gam.pureD (callF tab ext (N + 2)) 37 [num x] = some (boolX b) := by
  cases h1 : decide (1 ≤ x) with
  | true =>
    cases h2 : decide (x ≤ 1048576) with
    | true =>
      exact ⟨true, fun N => pure_of [(4, .b true), (7, .b true)] [] (pf2 h1 h2) (x := boolX true) (bx := []) (by kernel_rfl) rfl⟩
    | false =>
      exact ⟨false, fun N => pure_of [(4, .b true), (7, .b false)] [] (pf2 h1 h2) (x := boolX false) (bx := []) (by kernel_rfl) rfl⟩
  | false =>
    exact ⟨false, fun N => pure_of [(4, .b false)] [] (pf1 h1) (x := boolX false) (bx := []) (by kernel_rfl) rfl⟩

/-! ### slices.IndexFunc, slices.ContainsFunc of numbers -/
def ixH (l : List (List X)) (n j : Nat) : St := ⟨[(0, .sl false 1 l), (1, .fn 80 []), (7, nat n), (8, nat j)], []⟩
theorem ix_canon (l : List (List X)) (n j : Nat) : canon 0 (ixH l n j) = some (ixH l n j) := by kernel_rfl
theorem index_loop (l : List Int) (hl : l.length ≤ 60000) : ∀ d j, j + d = l.length → ∃ (e : Ex) (fin : St), e ≠ .norm ∧ ((∃ k : Nat, e = .ret ∧ fin = ⟨[(4, nat k)], []⟩) ∨ (e = .exit 0 ∧ fin = ⟨[(0, .sl false 1 (intsC l)), (1, .fn 80 []), (7, nat (intsC l).length), (8, nat (intsC l).length), (9, boolX false)], []⟩)) ∧
    ∀ M F, d < F → iter 0 (run (callF tab ext (M + 2)) 0 (M + 2) (loopAt 113 0)) F (ixH (intsC l) (intsC l).length j) = some (e, fin)
  | 0, j, hj => by
    have hn := intsC_length l
    have hj' : j = (intsC l).length := by omega
    subst hj'
    refine ⟨.exit 0, _, by simp, .inr ⟨rfl, rfl⟩, fun M F hF => ?_⟩
    obtain ⟨F', rfl⟩ : ∃ F', F = F' + 1 := ⟨F - 1, by omega⟩
    exact iter_end (ix_canon _ _ _) (run_of [(9, .b false)] [] (pf1 (nlt_nat (Nat.lt_irrefl (intsC l).length))) (lo' := []) (by kernel_rfl)) (by simp)
  | d + 1, j, hj => by
    have hn := intsC_length l
    have hj' : j < l.length := by omega
    have hg := intsC_get hj'
    generalize l[j] = x at hg
    obtain ⟨b, hb⟩ := bad_index x
    cases b with
    | true =>
      refine ⟨.ret, ⟨[(4, nat j)], []⟩, by simp, .inl ⟨j, rfl, rfl⟩, fun M F hF => ?_⟩
      obtain ⟨F', rfl⟩ : ∃ F', F = F' + 1 := ⟨F - 1, by omega⟩
      exact iter_end (ix_canon _ _ _) (run_of [(9, .b true), (14, .e [num x]), (16, .p (boolX true))] [] (pf3 (lt_nat (j := j) (k := (intsC l).length) (by omega)) hg (hb M)) (lo' := []) (by kernel_rfl)) (by simp)
    | false =>
      obtain ⟨e, fin, hne, hc, h⟩ := index_loop l hl d (j + 1) (by omega)
      refine ⟨e, fin, hne, hc, fun M F hF => ?_⟩
      obtain ⟨F', rfl⟩ : ∃ F', F = F' + 1 := ⟨F - 1, by omega⟩
      have hs : run (callF tab ext (M + 2)) 0 (M + 2) (loopAt 113 0) (ixH (intsC l) (intsC l).length j) = some (.norm, ixH (intsC l) (intsC l).length (j + 1)) :=
        run_of [(9, .b true), (14, .e [num x]), (16, .p (boolX false)), (18, .i (Int.ofNat (j + 1)))] [] (pf4 (lt_nat (j := j) (k := (intsC l).length) (by omega)) hg (hb M) (next_nat (j := j) (by omega))) (lo' := []) (by kernel_rfl)
      rw [iter_step (ix_canon _ _ _) hs rfl]
      exact h M F' (by omega)
theorem index_ok (l : List Int) (hl : l.length ≤ 60000) : ∃ c : Int, ∀ M, l.length < M → Gam.pureD (callF tab ext (M + 3)) 113 [.sl false 1 (intsC l), .fn 80 []] = some (num c) := by
  obtain ⟨e, fin, hne, hc, h⟩ := index_loop l hl l.length 0 (by omega)
  rcases hc with ⟨k, rfl, rfl⟩ | ⟨rfl, rfl⟩
  · exact ⟨Int.ofNat k, fun M hM => pure_of [] [(.ret, ⟨[(4, nat k)], []⟩)] (pf1 (h M (M + 2) (by omega))) (x := nat k) (bx := []) (by kernel_rfl) rfl⟩
  · exact ⟨-1, fun M hM => pure_of [] [(.exit 0, ⟨[(0, .sl false 1 (intsC l)), (1, .fn 80 []), (7, nat (intsC l).length), (8, nat (intsC l).length), (9, boolX false)], []⟩)] (pf1 (h M (M + 2) (by omega))) (x := num (-1)) (bx := []) (by kernel_rfl) rfl⟩
theorem contains_ok (l : List Int) (hl : l.length ≤ 60000) : ∃ b : Bool, ∀ M, l.length < M → Gam.pureD (callF tab ext (M + 4)) 79 [.sl false 1 (intsC l), .fn 80 []] = some (boolX b) := by
  obtain ⟨c, h⟩ := index_ok l hl
  exact ⟨decide (0 ≤ c), fun M hM => pure_of [(7, .p (num c))] [] (pf1 (h M hM)) (x := boolX (decide (0 ≤ c))) (bx := []) (by kernel_rfl) rfl⟩

theorem first_int {p : List Int} (h : (Int.ofNat (intsC p).length == 0) = false) : ∃ x : Int, (intsC p)[0]? = some [num x] := by
  cases p with
  | nil => simp [intsC] at h
  | cons x r => exact ⟨x, rfl⟩
theorem second_int {p : List Int} (h : (Int.ofNat (intsC p).length == 0) = false) (h' : (Int.ofNat (intsC p).length == 1) = false) : ∃ x : Int, (intsC p)[1]? = some [num x] := by
  match p, h, h' with
  | [], h, _ => simp [intsC] at h
  | [_], _, h' => simp [intsC] at h'
  | _ :: y :: r, _, _ => exact ⟨y, rfl⟩
/-- What a function of data comes to, whatever the level. -/
def Comes (B : Nat) (f : FuncId) (args : List X) : Prop := ∃ c : Int, ∀ N, B ≤ N → Gam.pureD (callF tab ext N) f args = some (num c)
def ComesB (B : Nat) (f : FuncId) (args : List X) : Prop := ∃ c : Bool, ∀ N, B ≤ N → Gam.pureD (callF tab ext N) f args = some (boolX c)
theorem comes_succ {B : Nat} {f : FuncId} {args : List X} (h : ∃ c : Int, ∀ N, B ≤ N → Gam.pureD (callF tab ext (N + 1)) f args = some (num c)) : Comes (B + 1) f args := by
  obtain ⟨c, h⟩ := h
  refine ⟨c, fun N hN => ?_⟩
  obtain ⟨M, rfl⟩ : ∃ M, N = M + 1 := ⟨N - 1, by omega⟩
  exact h M (by omega)
theorem comesB_succ {B : Nat} {f : FuncId} {args : List X} (h : ∃ c : Bool, ∀ N, B ≤ N → Gam.pureD (callF tab ext (N + 1)) f args = some (boolX c)) : ComesB (B + 1) f args := by
  obtain ⟨c, h⟩ := h
  refine ⟨c, fun N hN => ?_⟩
  obtain ⟨M, rfl⟩ : ∃ M, N = M + 1 := ⟨N - 1, by omega⟩
  exact h M (by omega)
theorem contains_comes (l : List Int) (hl : l.length ≤ 60000) : ComesB 60005 79 [.sl false 1 (intsC l), .fn 80 []] := by
  obtain ⟨b, hb⟩ := contains_ok l hl
  refine ⟨b, fun N hN => ?_⟩
  obtain ⟨M, rfl⟩ : ∃ M, N = M + 4 := ⟨N - 4, by omega⟩
  exact hb M (by omega)
theorem heavy_comes (x : Int) : ComesB 2 36 [num x] := by
  obtain ⟨b, hb⟩ := heavy_ok x
  refine ⟨b, fun N hN => ?_⟩
  obtain ⟨M, rfl⟩ : ∃ M, N = M + 2 := ⟨N - 2, by omega⟩
  exact hb M
theorem entry_comes (x : Int) : ComesB 2 37 [num x] := by
  obtain ⟨b, hb⟩ := entry_ok x
  refine ⟨b, fun N hN => ?_⟩
  obtain ⟨M, rfl⟩ : ∃ M, N = M + 2 := ⟨N - 2, by omega⟩
  exact hb M

theorem stamp_comes (s : Stp) (h : s.ok) : Comes 60006 35 [.agg s.cells] := by
  obtain ⟨b, hb⟩ := contains_comes s.p h.p
  have hp := h.p
  obtain ⟨e, p⟩ := s
  dsimp only at hp hb
  apply comes_succ
  cases h1 : decide (e < 1) with
  | true =>
    exact ⟨2, fun N hN => pure_of [(6, .b true)] [] (pf1 h1) (x := num 2) (bx := []) (by kernel_rfl) rfl⟩
  | false =>
    cases h2 : decide (1048576 < e) with
    | true =>
      exact ⟨2, fun N hN => pure_of [(6, .b false), (10, .b true)] [] (pf2 h1 h2) (x := num 2) (bx := []) (by kernel_rfl) rfl⟩
    | false =>
      cases h3 : (Int.ofNat (intsC p).length == 0) with
      | true =>
        exact ⟨4, fun N hN => pure_of [(6, .b false), (10, .b false), (16, .b true)] [] (pf3 h1 h2 h3) (x := num 4) (bx := []) (by kernel_rfl) rfl⟩
      | false =>
        cases h4 : decide (512 < Int.ofNat (intsC p).length) with
        | true =>
          exact ⟨9, fun N hN => pure_of [(6, .b false), (10, .b false), (16, .b false), (21, .b true)] [] (pf4 h1 h2 h3 h4) (x := num 9) (bx := []) (by kernel_rfl) rfl⟩
        | false =>
          cases b with
          | true =>
            exact ⟨2, fun N hN => pure_of [(6, .b false), (10, .b false), (16, .b false), (21, .b false), (25, .p (boolX true))] [] (pf5 h1 h2 h3 h4 (hb N hN)) (x := num 2) (bx := []) (by kernel_rfl) rfl⟩
          | false =>
            obtain ⟨x, hx⟩ := first_int h3
            cases h5 : decide (1 < x) with
            | true =>
              exact ⟨11, fun N hN => pure_of [(6, .b false), (10, .b false), (16, .b false), (21, .b false), (25, .p (boolX false)), (29, .e [num x]), (31, .b true)] [] (pf7 h1 h2 h3 h4 (hb N hN) hx h5) (x := num 11) (bx := []) (by kernel_rfl) rfl⟩
            | false =>
              cases h6 : (x == 1) with
              | true =>
                exact ⟨0, fun N hN => pure_of [(6, .b false), (10, .b false), (16, .b false), (21, .b false), (25, .p (boolX false)), (29, .e [num x]), (31, .b false), (35, .e [num x]), (37, .b true)] [] (pf9 h1 h2 h3 h4 (hb N hN) hx h5 hx h6) (x := num 0) (bx := []) (by kernel_rfl) rfl⟩
              | false =>
                cases h7 : (Int.ofNat (intsC p).length == 1) with
                | true =>
                  exact ⟨4, fun N hN => pure_of [(6, .b false), (10, .b false), (16, .b false), (21, .b false), (25, .p (boolX false)), (29, .e [num x]), (31, .b false), (35, .e [num x]), (37, .b false), (42, .b true)] [] (pf10 h1 h2 h3 h4 (hb N hN) hx h5 hx h6 h7) (x := num 4) (bx := []) (by kernel_rfl) rfl⟩
                | false =>
                  obtain ⟨y, hy⟩ := second_int h3 (p := p) (by assumption)
                  cases h8 : decide (128 ≤ y) with
                  | true =>
                    exact ⟨2, fun N hN => pure_of [(6, .b false), (10, .b false), (16, .b false), (21, .b false), (25, .p (boolX false)), (29, .e [num x]), (31, .b false), (35, .e [num x]), (37, .b false), (42, .b false), (46, .e [num y]), (48, .b true)] [] (pf12 h1 h2 h3 h4 (hb N hN) hx h5 hx h6 h7 hy h8) (x := num 2) (bx := []) (by kernel_rfl) rfl⟩
                  | false =>
                    exact ⟨0, fun N hN => pure_of [(6, .b false), (10, .b false), (16, .b false), (21, .b false), (25, .p (boolX false)), (29, .e [num x]), (31, .b false), (35, .e [num x]), (37, .b false), (42, .b false), (46, .e [num y]), (48, .b false)] [] (pf12 h1 h2 h3 h4 (hb N hN) hx h5 hx h6 h7 hy h8) (x := num 0) (bx := []) (by kernel_rfl) rfl⟩
end Go.Proofs.YtjfheahakfoofaaGreatDoor

/- The rules of the kinds of values come to an end. -/
namespace Go.Proofs.YtjfheahakfoofaaGreatDoor
open Go.Em

/-- A loop that looks for something: it returns at some round, or comes to its end. -/
theorem scan {b : C} {H : Nat → St} {e : Ex} {fin τ : St} {n B : Nat} (good : St → Prop) (h0 : canon 0 τ = some (H 0))
    (hstep : ∀ j, j < n → (∃ r, good r ∧ ∀ M, B ≤ M → run (callF tab ext M) 0 M b (H j) = some (.ret, r)) ∨ (∃ υ, canon 0 υ = some (H (j + 1)) ∧ ∀ M, B ≤ M → run (callF tab ext M) 0 M b (H j) = some (.norm, υ)))
    (hend : ∀ M, B ≤ M → run (callF tab ext M) 0 M b (H n) = some (e, fin)) (hne : e ≠ .norm) :
    (∃ r, good r ∧ ∀ M, B ≤ M → n < M → run (callF tab ext M) 0 M (.loop b) τ = some (.ret, r)) ∨ (∀ M, B ≤ M → n < M → run (callF tab ext M) 0 M (.loop b) τ = some (e, fin)) := by
  have key : ∀ d j, j + d = n → (∃ r, good r ∧ ∀ M F υ, B ≤ M → d < F → canon 0 υ = some (H j) → iter 0 (run (callF tab ext M) 0 M b) F υ = some (.ret, r)) ∨ (∀ M F υ, B ≤ M → d < F → canon 0 υ = some (H j) → iter 0 (run (callF tab ext M) 0 M b) F υ = some (e, fin)) := by
    intro d
    induction d with
    | zero =>
      intro j hj
      have hjn : j = n := by omega
      subst hjn
      right
      intro M F υ hM hF hc
      obtain ⟨F', rfl⟩ : ∃ F', F = F' + 1 := ⟨F - 1, by omega⟩
      exact iter_end hc (hend M hM) hne
    | succ d ih =>
      intro j hj
      rcases hstep j (by omega) with ⟨r, hr, h⟩ | ⟨ω, hω, h⟩
      · left
        refine ⟨r, hr, fun M F υ hM hF hc => ?_⟩
        obtain ⟨F', rfl⟩ : ∃ F', F = F' + 1 := ⟨F - 1, by omega⟩
        exact iter_end hc (h M hM) (by simp)
      · rcases ih (j + 1) (by omega) with ⟨r, hr, h'⟩ | h'
        · left
          refine ⟨r, hr, fun M F υ hM hF hc => ?_⟩
          obtain ⟨F', rfl⟩ : ∃ F', F = F' + 1 := ⟨F - 1, by omega⟩
          exact iter_step hc (h M hM) (h' M F' ω hM (by omega) hω)
        · right
          intro M F υ hM hF hc
          obtain ⟨F', rfl⟩ : ∃ F', F = F' + 1 := ⟨F - 1, by omega⟩
          exact iter_step hc (h M hM) (h' M F' ω hM (by omega) hω)
  simp only [run]
  rcases key n 0 (by omega) with ⟨r, hr, h⟩ | h
  · exact .inl ⟨r, hr, fun M hM hn => h M M τ hM hn h0⟩
  · exact .inr fun M hM hn => h M M τ hM hn h0

def nullV : Val → Bool
  | .mk k i s t l f => (k == 0) && ((i == 0) && ((s == 0) && ((t.toList == (⟨#[]⟩ : ByteArray).toList) && ((Int.ofNat (cellsL l).length == 0) && (Int.ofNat (cellsF f).length == 0)))))
theorem null_val (N : Nat) (v : Val) : Gam.pureD (callF tab ext (N + 1)) 28 [.agg v.cells] = some (boolX (nullV v)) := by
  obtain ⟨k, i, s, t, l, f⟩ := v
  cases h1 : (k == 0) with
  | true =>
    cases h2 : (i == 0) with
    | true =>
      cases h3 : (s == 0) with
      | true =>
        cases h4 : (t.toList == (⟨#[]⟩ : ByteArray).toList) with
        | true =>
          cases h5 : (Int.ofNat (cellsL l).length == 0) with
          | true =>
            cases h6 : (Int.ofNat (cellsF f).length == 0) with
            | true =>
              rw [show nullV (Val.mk k i s t l f) = true from by simp only [nullV, h1, h2, h3, h4, h5, h6]; rfl]
              exact pure_of [(5, .b true), (9, .b true), (14, .b true), (19, .b true), (25, .b true), (31, .b true)] [] (pf6 h1 h2 h3 h4 h5 h6) (x := boolX true) (bx := []) (by kernel_rfl) rfl
            | false =>
              rw [show nullV (Val.mk k i s t l f) = false from by simp only [nullV, h1, h2, h3, h4, h5, h6]; rfl]
              exact pure_of [(5, .b true), (9, .b true), (14, .b true), (19, .b true), (25, .b true), (31, .b false)] [] (pf6 h1 h2 h3 h4 h5 h6) (x := boolX false) (bx := []) (by kernel_rfl) rfl
          | false =>
            rw [show nullV (Val.mk k i s t l f) = false from by simp only [nullV, h1, h2, h3, h4, h5]; rfl]
            exact pure_of [(5, .b true), (9, .b true), (14, .b true), (19, .b true), (25, .b false)] [] (pf5 h1 h2 h3 h4 h5) (x := boolX false) (bx := []) (by kernel_rfl) rfl
        | false =>
          rw [show nullV (Val.mk k i s t l f) = false from by simp only [nullV, h1, h2, h3, h4]; rfl]
          exact pure_of [(5, .b true), (9, .b true), (14, .b true), (19, .b false)] [] (pf4 h1 h2 h3 h4) (x := boolX false) (bx := []) (by kernel_rfl) rfl
      | false =>
        rw [show nullV (Val.mk k i s t l f) = false from by simp only [nullV, h1, h2, h3]; rfl]
        exact pure_of [(5, .b true), (9, .b true), (14, .b false)] [] (pf3 h1 h2 h3) (x := boolX false) (bx := []) (by kernel_rfl) rfl
    | false =>
      rw [show nullV (Val.mk k i s t l f) = false from by simp only [nullV, h1, h2]; rfl]
      exact pure_of [(5, .b true), (9, .b false)] [] (pf2 h1 h2) (x := boolX false) (bx := []) (by kernel_rfl) rfl
  | false =>
    rw [show nullV (Val.mk k i s t l f) = false from by simp only [nullV, h1]; rfl]
    exact pure_of [(5, .b false)] [] (pf1 h1) (x := boolX false) (bx := []) (by kernel_rfl) rfl
theorem uses1 (i s : Int) (t : ByteArray) (l : List Val) (f : List (ByteArray × Val)) : ComesB 2 102 [.agg (Val.mk 1 i s t l f).cells] := by
  apply comesB_succ
  cases h1 : (s == 0) with
  | true =>
    cases h2 : (t.toList == (⟨#[]⟩ : ByteArray).toList) with
    | true =>
      cases h3 : (Int.ofNat (cellsL l).length == 0) with
      | true =>
        cases h4 : (Int.ofNat (cellsF f).length == 0) with
        | true =>
          exact ⟨true, fun N hN => pure_of [(63, .b true), (71, .b true), (80, .b true), (91, .b true)] [] (pf4 h1 h2 h3 h4) (x := boolX true) (bx := []) (by kernel_rfl) rfl⟩
        | false =>
          exact ⟨false, fun N hN => pure_of [(63, .b true), (71, .b true), (80, .b true), (91, .b false)] [] (pf4 h1 h2 h3 h4) (x := boolX false) (bx := []) (by kernel_rfl) rfl⟩
      | false =>
        exact ⟨false, fun N hN => pure_of [(63, .b true), (71, .b true), (80, .b false)] [] (pf3 h1 h2 h3) (x := boolX false) (bx := []) (by kernel_rfl) rfl⟩
    | false =>
      exact ⟨false, fun N hN => pure_of [(63, .b true), (71, .b false)] [] (pf2 h1 h2) (x := boolX false) (bx := []) (by kernel_rfl) rfl⟩
  | false =>
    exact ⟨false, fun N hN => pure_of [(63, .b false)] [] (pf1 h1) (x := boolX false) (bx := []) (by kernel_rfl) rfl⟩
theorem uses2 (i s : Int) (t : ByteArray) (l : List Val) (f : List (ByteArray × Val)) : ComesB 2 102 [.agg (Val.mk 2 i s t l f).cells] := by
  apply comesB_succ
  cases h1 : (s == 0) with
  | true =>
    cases h2 : (t.toList == (⟨#[]⟩ : ByteArray).toList) with
    | true =>
      cases h3 : (Int.ofNat (cellsL l).length == 0) with
      | true =>
        cases h4 : (Int.ofNat (cellsF f).length == 0) with
        | true =>
          exact ⟨true, fun N hN => pure_of [(63, .b true), (71, .b true), (80, .b true), (91, .b true)] [] (pf4 h1 h2 h3 h4) (x := boolX true) (bx := []) (by kernel_rfl) rfl⟩
        | false =>
          exact ⟨false, fun N hN => pure_of [(63, .b true), (71, .b true), (80, .b true), (91, .b false)] [] (pf4 h1 h2 h3 h4) (x := boolX false) (bx := []) (by kernel_rfl) rfl⟩
      | false =>
        exact ⟨false, fun N hN => pure_of [(63, .b true), (71, .b true), (80, .b false)] [] (pf3 h1 h2 h3) (x := boolX false) (bx := []) (by kernel_rfl) rfl⟩
    | false =>
      exact ⟨false, fun N hN => pure_of [(63, .b true), (71, .b false)] [] (pf2 h1 h2) (x := boolX false) (bx := []) (by kernel_rfl) rfl⟩
  | false =>
    exact ⟨false, fun N hN => pure_of [(63, .b false)] [] (pf1 h1) (x := boolX false) (bx := []) (by kernel_rfl) rfl⟩
theorem uses3 (i s : Int) (t : ByteArray) (l : List Val) (f : List (ByteArray × Val)) : ComesB 2 102 [.agg (Val.mk 3 i s t l f).cells] := by
  apply comesB_succ
  cases h1 : (t.toList == (⟨#[]⟩ : ByteArray).toList) with
  | true =>
    cases h2 : (Int.ofNat (cellsL l).length == 0) with
    | true =>
      cases h3 : (Int.ofNat (cellsF f).length == 0) with
      | true =>
        exact ⟨true, fun N hN => pure_of [(71, .b true), (80, .b true), (91, .b true)] [] (pf3 h1 h2 h3) (x := boolX true) (bx := []) (by kernel_rfl) rfl⟩
      | false =>
        exact ⟨false, fun N hN => pure_of [(71, .b true), (80, .b true), (91, .b false)] [] (pf3 h1 h2 h3) (x := boolX false) (bx := []) (by kernel_rfl) rfl⟩
    | false =>
      exact ⟨false, fun N hN => pure_of [(71, .b true), (80, .b false)] [] (pf2 h1 h2) (x := boolX false) (bx := []) (by kernel_rfl) rfl⟩
  | false =>
    exact ⟨false, fun N hN => pure_of [(71, .b false)] [] (pf1 h1) (x := boolX false) (bx := []) (by kernel_rfl) rfl⟩
theorem uses4 (i s : Int) (t : ByteArray) (l : List Val) (f : List (ByteArray × Val)) : ComesB 2 102 [.agg (Val.mk 4 i s t l f).cells] := by
  apply comesB_succ
  cases h1 : (i == 0) with
  | true =>
    cases h2 : (s == 0) with
    | true =>
      cases h3 : (Int.ofNat (cellsL l).length == 0) with
      | true =>
        cases h4 : (Int.ofNat (cellsF f).length == 0) with
        | true =>
          exact ⟨true, fun N hN => pure_of [(54, .b true), (63, .b true), (80, .b true), (91, .b true)] [] (pf4 h1 h2 h3 h4) (x := boolX true) (bx := []) (by kernel_rfl) rfl⟩
        | false =>
          exact ⟨false, fun N hN => pure_of [(54, .b true), (63, .b true), (80, .b true), (91, .b false)] [] (pf4 h1 h2 h3 h4) (x := boolX false) (bx := []) (by kernel_rfl) rfl⟩
      | false =>
        exact ⟨false, fun N hN => pure_of [(54, .b true), (63, .b true), (80, .b false)] [] (pf3 h1 h2 h3) (x := boolX false) (bx := []) (by kernel_rfl) rfl⟩
    | false =>
      exact ⟨false, fun N hN => pure_of [(54, .b true), (63, .b false)] [] (pf2 h1 h2) (x := boolX false) (bx := []) (by kernel_rfl) rfl⟩
  | false =>
    exact ⟨false, fun N hN => pure_of [(54, .b false)] [] (pf1 h1) (x := boolX false) (bx := []) (by kernel_rfl) rfl⟩
theorem uses5 (i s : Int) (t : ByteArray) (l : List Val) (f : List (ByteArray × Val)) : ComesB 2 102 [.agg (Val.mk 5 i s t l f).cells] := by
  apply comesB_succ
  cases h1 : (i == 0) with
  | true =>
    cases h2 : (s == 0) with
    | true =>
      cases h3 : (Int.ofNat (cellsL l).length == 0) with
      | true =>
        cases h4 : (Int.ofNat (cellsF f).length == 0) with
        | true =>
          exact ⟨true, fun N hN => pure_of [(54, .b true), (63, .b true), (80, .b true), (91, .b true)] [] (pf4 h1 h2 h3 h4) (x := boolX true) (bx := []) (by kernel_rfl) rfl⟩
        | false =>
          exact ⟨false, fun N hN => pure_of [(54, .b true), (63, .b true), (80, .b true), (91, .b false)] [] (pf4 h1 h2 h3 h4) (x := boolX false) (bx := []) (by kernel_rfl) rfl⟩
      | false =>
        exact ⟨false, fun N hN => pure_of [(54, .b true), (63, .b true), (80, .b false)] [] (pf3 h1 h2 h3) (x := boolX false) (bx := []) (by kernel_rfl) rfl⟩
    | false =>
      exact ⟨false, fun N hN => pure_of [(54, .b true), (63, .b false)] [] (pf2 h1 h2) (x := boolX false) (bx := []) (by kernel_rfl) rfl⟩
  | false =>
    exact ⟨false, fun N hN => pure_of [(54, .b false)] [] (pf1 h1) (x := boolX false) (bx := []) (by kernel_rfl) rfl⟩
theorem uses6 (i s : Int) (t : ByteArray) (l : List Val) (f : List (ByteArray × Val)) : ComesB 2 102 [.agg (Val.mk 6 i s t l f).cells] := by
  apply comesB_succ
  cases h1 : (s == 0) with
  | true =>
    cases h2 : (t.toList == (⟨#[]⟩ : ByteArray).toList) with
    | true =>
      cases h3 : (Int.ofNat (cellsL l).length == 0) with
      | true =>
        cases h4 : (Int.ofNat (cellsF f).length == 0) with
        | true =>
          exact ⟨true, fun N hN => pure_of [(63, .b true), (71, .b true), (80, .b true), (91, .b true)] [] (pf4 h1 h2 h3 h4) (x := boolX true) (bx := []) (by kernel_rfl) rfl⟩
        | false =>
          exact ⟨false, fun N hN => pure_of [(63, .b true), (71, .b true), (80, .b true), (91, .b false)] [] (pf4 h1 h2 h3 h4) (x := boolX false) (bx := []) (by kernel_rfl) rfl⟩
      | false =>
        exact ⟨false, fun N hN => pure_of [(63, .b true), (71, .b true), (80, .b false)] [] (pf3 h1 h2 h3) (x := boolX false) (bx := []) (by kernel_rfl) rfl⟩
    | false =>
      exact ⟨false, fun N hN => pure_of [(63, .b true), (71, .b false)] [] (pf2 h1 h2) (x := boolX false) (bx := []) (by kernel_rfl) rfl⟩
  | false =>
    exact ⟨false, fun N hN => pure_of [(63, .b false)] [] (pf1 h1) (x := boolX false) (bx := []) (by kernel_rfl) rfl⟩
theorem uses7 (i s : Int) (t : ByteArray) (l : List Val) (f : List (ByteArray × Val)) : ComesB 2 102 [.agg (Val.mk 7 i s t l f).cells] := by
  apply comesB_succ
  cases h1 : (s == 0) with
  | true =>
    cases h2 : (t.toList == (⟨#[]⟩ : ByteArray).toList) with
    | true =>
      cases h3 : (Int.ofNat (cellsL l).length == 0) with
      | true =>
        cases h4 : (Int.ofNat (cellsF f).length == 0) with
        | true =>
          exact ⟨true, fun N hN => pure_of [(63, .b true), (71, .b true), (80, .b true), (91, .b true)] [] (pf4 h1 h2 h3 h4) (x := boolX true) (bx := []) (by kernel_rfl) rfl⟩
        | false =>
          exact ⟨false, fun N hN => pure_of [(63, .b true), (71, .b true), (80, .b true), (91, .b false)] [] (pf4 h1 h2 h3 h4) (x := boolX false) (bx := []) (by kernel_rfl) rfl⟩
      | false =>
        exact ⟨false, fun N hN => pure_of [(63, .b true), (71, .b true), (80, .b false)] [] (pf3 h1 h2 h3) (x := boolX false) (bx := []) (by kernel_rfl) rfl⟩
    | false =>
      exact ⟨false, fun N hN => pure_of [(63, .b true), (71, .b false)] [] (pf2 h1 h2) (x := boolX false) (bx := []) (by kernel_rfl) rfl⟩
  | false =>
    exact ⟨false, fun N hN => pure_of [(63, .b false)] [] (pf1 h1) (x := boolX false) (bx := []) (by kernel_rfl) rfl⟩
theorem uses8 (i s : Int) (t : ByteArray) (l : List Val) (f : List (ByteArray × Val)) : ComesB 2 102 [.agg (Val.mk 8 i s t l f).cells] := by
  apply comesB_succ
  cases h1 : (i == 0) with
  | true =>
    cases h2 : (s == 0) with
    | true =>
      cases h3 : (t.toList == (⟨#[]⟩ : ByteArray).toList) with
      | true =>
        cases h4 : (Int.ofNat (cellsF f).length == 0) with
        | true =>
          exact ⟨true, fun N hN => pure_of [(54, .b true), (63, .b true), (71, .b true), (91, .b true)] [] (pf4 h1 h2 h3 h4) (x := boolX true) (bx := []) (by kernel_rfl) rfl⟩
        | false =>
          exact ⟨false, fun N hN => pure_of [(54, .b true), (63, .b true), (71, .b true), (91, .b false)] [] (pf4 h1 h2 h3 h4) (x := boolX false) (bx := []) (by kernel_rfl) rfl⟩
      | false =>
        exact ⟨false, fun N hN => pure_of [(54, .b true), (63, .b true), (71, .b false)] [] (pf3 h1 h2 h3) (x := boolX false) (bx := []) (by kernel_rfl) rfl⟩
    | false =>
      exact ⟨false, fun N hN => pure_of [(54, .b true), (63, .b false)] [] (pf2 h1 h2) (x := boolX false) (bx := []) (by kernel_rfl) rfl⟩
  | false =>
    exact ⟨false, fun N hN => pure_of [(54, .b false)] [] (pf1 h1) (x := boolX false) (bx := []) (by kernel_rfl) rfl⟩
theorem uses9 (i s : Int) (t : ByteArray) (l : List Val) (f : List (ByteArray × Val)) : ComesB 2 102 [.agg (Val.mk 9 i s t l f).cells] := by
  apply comesB_succ
  cases h1 : (i == 0) with
  | true =>
    cases h2 : (s == 0) with
    | true =>
      cases h3 : (t.toList == (⟨#[]⟩ : ByteArray).toList) with
      | true =>
        cases h4 : (Int.ofNat (cellsL l).length == 0) with
        | true =>
          exact ⟨true, fun N hN => pure_of [(54, .b true), (63, .b true), (71, .b true), (80, .b true)] [] (pf4 h1 h2 h3 h4) (x := boolX true) (bx := []) (by kernel_rfl) rfl⟩
        | false =>
          exact ⟨false, fun N hN => pure_of [(54, .b true), (63, .b true), (71, .b true), (80, .b false)] [] (pf4 h1 h2 h3 h4) (x := boolX false) (bx := []) (by kernel_rfl) rfl⟩
      | false =>
        exact ⟨false, fun N hN => pure_of [(54, .b true), (63, .b true), (71, .b false)] [] (pf3 h1 h2 h3) (x := boolX false) (bx := []) (by kernel_rfl) rfl⟩
    | false =>
      exact ⟨false, fun N hN => pure_of [(54, .b true), (63, .b false)] [] (pf2 h1 h2) (x := boolX false) (bx := []) (by kernel_rfl) rfl⟩
  | false =>
    exact ⟨false, fun N hN => pure_of [(54, .b false)] [] (pf1 h1) (x := boolX false) (bx := []) (by kernel_rfl) rfl⟩
theorem uses10 (i s : Int) (t : ByteArray) (l : List Val) (f : List (ByteArray × Val)) : ComesB 2 102 [.agg (Val.mk 10 i s t l f).cells] := by
  apply comesB_succ
  cases h1 : (i == 0) with
  | true =>
    cases h2 : (s == 0) with
    | true =>
      cases h3 : (Int.ofNat (cellsF f).length == 0) with
      | true =>
        exact ⟨true, fun N hN => pure_of [(54, .b true), (63, .b true), (91, .b true)] [] (pf3 h1 h2 h3) (x := boolX true) (bx := []) (by kernel_rfl) rfl⟩
      | false =>
        exact ⟨false, fun N hN => pure_of [(54, .b true), (63, .b true), (91, .b false)] [] (pf3 h1 h2 h3) (x := boolX false) (bx := []) (by kernel_rfl) rfl⟩
    | false =>
      exact ⟨false, fun N hN => pure_of [(54, .b true), (63, .b false)] [] (pf2 h1 h2) (x := boolX false) (bx := []) (by kernel_rfl) rfl⟩
  | false =>
    exact ⟨false, fun N hN => pure_of [(54, .b false)] [] (pf1 h1) (x := boolX false) (bx := []) (by kernel_rfl) rfl⟩
theorem between_comes (x a b : Int) : Comes 2 121 [num x, num a, num b] := by
  apply comes_succ
  cases h1 : decide (x < a) with
  | true =>
    exact ⟨2, fun N hN => pure_of [(9, .b true)] [] (pf1 h1) (x := num (2)) (bx := []) (by kernel_rfl) rfl⟩
  | false =>
    cases h2 : decide (b < x) with
    | true =>
      exact ⟨2, fun N hN => pure_of [(9, .b false), (13, .b true)] [] (pf2 h1 h2) (x := num (2)) (bx := []) (by kernel_rfl) rfl⟩
    | false =>
      exact ⟨0, fun N hN => pure_of [(9, .b false), (13, .b false)] [] (pf2 h1 h2) (x := num (0)) (bx := []) (by kernel_rfl) rfl⟩
theorem size_comes (x a e : Int) : Comes 2 126 [num x, num a, num e] := by
  apply comes_succ
  cases h1 : decide (a < x) with
  | true =>
    exact ⟨e, fun N hN => pure_of [(9, .b true)] [] (pf1 h1) (x := num (e)) (bx := []) (by kernel_rfl) rfl⟩
  | false =>
    exact ⟨0, fun N hN => pure_of [(9, .b false)] [] (pf1 h1) (x := num (0)) (bx := []) (by kernel_rfl) rfl⟩
theorem rule120 (v : Val) : Comes 3 120 [.agg v.cells] := by
  obtain ⟨k, i, s, t, l, f⟩ := v
  obtain ⟨c, hc⟩ := between_comes i 0 1
  exact comes_succ ⟨c, fun N hN => pure_of [(5, .p (num c))] [] (pf1 (hc N hN)) (x := num c) (bx := []) (by kernel_rfl) rfl⟩
theorem rule122 (v : Val) : Comes 3 122 [.agg v.cells] := by
  obtain ⟨k, i, s, t, l, f⟩ := v
  obtain ⟨c, hc⟩ := between_comes i (-999999999999999) 999999999999999
  exact comes_succ ⟨c, fun N hN => pure_of [(5, .p (num c))] [] (pf1 (hc N hN)) (x := num c) (bx := []) (by kernel_rfl) rfl⟩
theorem rule129 (v : Val) : Comes 3 129 [.agg v.cells] := by
  obtain ⟨k, i, s, t, l, f⟩ := v
  obtain ⟨c, hc⟩ := between_comes i (-719162) 2932896
  exact comes_succ ⟨c, fun N hN => pure_of [(5, .p (num c))] [] (pf1 (hc N hN)) (x := num c) (bx := []) (by kernel_rfl) rfl⟩
theorem rule130 (v : Val) : Comes 3 130 [.agg v.cells] := by
  obtain ⟨k, i, s, t, l, f⟩ := v
  obtain ⟨c, hc⟩ := between_comes i (-62135596800000) 253402300799999
  exact comes_succ ⟨c, fun N hN => pure_of [(5, .p (num c))] [] (pf1 (hc N hN)) (x := num c) (bx := []) (by kernel_rfl) rfl⟩
theorem rule128 (v : Val) : Comes 3 128 [.agg v.cells] := by
  obtain ⟨k, i, s, t, l, f⟩ := v
  obtain ⟨c, hc⟩ := size_comes (Int.ofNat t.size) 1024 5
  exact comes_succ ⟨c, fun N hN => pure_of [(6, .p (num c))] [] (pf1 (hc N hN)) (x := num c) (bx := []) (by kernel_rfl) rfl⟩
theorem rule131 (v : Val) : Comes 3 131 [.agg v.cells] := by
  obtain ⟨k, i, s, t, l, f⟩ := v
  obtain ⟨c, hc⟩ := size_comes (Int.ofNat (cellsL l).length) 256 9
  exact comes_succ ⟨c, fun N hN => pure_of [(6, .p (num c))] [] (pf1 (hc N hN)) (x := num c) (bx := []) (by kernel_rfl) rfl⟩

/-! ### first -/
def fiH (l : List (List X)) (n j : Nat) : St := ⟨[(5, .sl false 1 l), (6, nat n), (7, nat j)], []⟩
theorem first_comes (l : List Int) (hl : l.length ≤ 60000) : Comes 60002 124 [.sl false 1 (intsC l)] := by
  have hn := intsC_length l
  have := scan (B := 0) (b := loopAt 124 0) (H := fun j => fiH (intsC l) (intsC l).length j) (τ := fiH (intsC l) (intsC l).length 0) (n := (intsC l).length) (e := .exit 0) (fin := ⟨[(5, .sl false 1 (intsC l)), (6, nat (intsC l).length), (7, nat (intsC l).length), (8, boolX false)], []⟩) (fun r => ∃ x : Int, r = ⟨[(2, num x)], []⟩) (by kernel_rfl) (fun j hj => by
    have hj' : j < l.length := by omega
    have hg := intsC_get hj'
    generalize l[j] = x at hg
    cases h : (!(x == 0)) with
    | true =>
      left
      exact ⟨⟨[(2, num x)], []⟩, ⟨x, rfl⟩, fun M _ => run_of [(8, .b true), (9, .e [num x]), (12, .b true)] [] (pf3 (lt_nat (j := j) (k := (intsC l).length) (by omega)) hg h) (lo' := []) (by kernel_rfl)⟩
    | false =>
      right
      exact ⟨fiH (intsC l) (intsC l).length (j + 1), by kernel_rfl, fun M _ => run_of [(8, .b true), (9, .e [num x]), (12, .b false), (14, .i (Int.ofNat (j + 1)))] [] (pf4 (lt_nat (j := j) (k := (intsC l).length) (by omega)) hg h (next_nat (j := j) (by omega))) (lo' := []) (by kernel_rfl)⟩)
    (fun M _ => run_of [(8, .b false)] [] (pf1 (nlt_nat (Nat.lt_irrefl (intsC l).length))) (lo' := []) (σ' := ⟨[(5, .sl false 1 (intsC l)), (6, nat (intsC l).length), (7, nat (intsC l).length), (8, boolX false)], []⟩) (by kernel_rfl)) (by simp)
  apply comes_succ
  rcases this with ⟨r, ⟨x, rfl⟩, h⟩ | h
  · exact ⟨x, fun N hN => pure_of [] [(.ret, ⟨[(2, num x)], []⟩)] (pf1 (h N (by omega) (by omega))) (x := num x) (bx := []) (by kernel_rfl) rfl⟩
  · exact ⟨0, fun N hN => pure_of [] [(.exit 0, ⟨[(5, .sl false 1 (intsC l)), (6, nat (intsC l).length), (7, nat (intsC l).length), (8, boolX false)], []⟩)] (pf1 (h N (by omega) (by omega))) (x := num 0) (bx := []) (by kernel_rfl) rfl⟩
theorem rule123 (v : Val) : Comes 60003 123 [.agg v.cells] := by
  obtain ⟨k, i, s, t, l, f⟩ := v
  obtain ⟨c, hc⟩ := between_comes i (-999999999999999) 999999999999999
  obtain ⟨d, hd⟩ := between_comes s 0 12
  obtain ⟨e, he⟩ := first_comes [c, d] (by simp)
  exact comes_succ ⟨e, fun N hN => pure_of [(5, .p (num c)), (8, .p (num d)), (10, .p (num e))] [] (pf3 (hc N (by omega)) (hd N (by omega)) (he N (by omega))) (x := num e) (bx := []) (by kernel_rfl) rfl⟩
theorem valid_ext (N : Nat) (t : ByteArray) (h : t.size ≤ 9223372036854775807) : Gam.pureD (callF tab ext (N + 1)) 127 [strX t] = some (boolX (Lib.validD t.data.toList)) := by
  have e : callF tab ext (N + 1) (.fn 127) [strX t] [] = some (boolX (Lib.validD t.data.toList), []) := by
    show validExt [strX t] [] = _
    unfold validExt strX
    simp only [if_pos h]
    rfl
  unfold Gam.pureD
  rw [e]; rfl
theorem rule125 (v : Val) : Comes 4 125 [.agg v.cells] := by
  obtain ⟨k, i, s, t, l, f⟩ := v
  apply comes_succ
  cases h0 : decide (1024 < Int.ofNat t.size) with
  | true =>
    have hc : ∀ N, 2 ≤ N → Gam.pureD (callF tab ext N) 126 [num (Int.ofNat t.size), num 1024, num 5] = some (num 5) := fun N hN => by
      obtain ⟨M, rfl⟩ : ∃ M, N = M + 1 := ⟨N - 1, by omega⟩
      exact pure_of [(9, .b true)] [] (pf1 h0) (x := num 5) (bx := []) (by kernel_rfl) rfl
    exact ⟨5, fun N hN => pure_of [(7, .p (num 5))] [] (pf1 (hc N (by omega))) (x := num 5) (bx := []) (by kernel_rfl) rfl⟩
  | false =>
    have hsz : t.size ≤ 9223372036854775807 := by
      have := of_decide_eq_false h0
      simp only [Int.ofNat_eq_natCast] at this; omega
    have hc : ∀ N, 2 ≤ N → Gam.pureD (callF tab ext N) 126 [num (Int.ofNat t.size), num 1024, num 5] = some (num 0) := fun N hN => by
      obtain ⟨M, rfl⟩ : ∃ M, N = M + 1 := ⟨N - 1, by omega⟩
      exact pure_of [(9, .b false)] [] (pf1 h0) (x := num 0) (bx := []) (by kernel_rfl) rfl
    have hv : ∀ N, 3 ≤ N → Gam.pureD (callF tab ext N) 127 [strX t] = some (boolX (Lib.validD t.data.toList)) := fun N hN => by
      obtain ⟨M, rfl⟩ : ∃ M, N = M + 1 := ⟨N - 1, by omega⟩
      exact valid_ext M t hsz
    generalize Lib.validD t.data.toList = b at hv
    cases b with
    | true => exact ⟨0, fun N hN => pure_of [(7, .p (num 0)), (13, .p (boolX true))] [] (pf2 (hc N (by omega)) (hv N hN)) (x := num 0) (bx := []) (by kernel_rfl) rfl⟩
    | false => exact ⟨16, fun N hN => pure_of [(7, .p (num 0)), (13, .p (boolX false))] [] (pf2 (hc N (by omega)) (hv N hN)) (x := num 16) (bx := []) (by kernel_rfl) rfl⟩

theorem byteRow_get {s : ByteArray} {j : Nat} (h : j < (byteRow s).length) : ∃ u : Int, (byteRow s)[j]? = some [.v (.int .u8 u)] := by
  unfold byteRow at h ⊢
  rw [List.length_map] at h
  exact ⟨_, by rw [List.getElem?_map, List.getElem?_eq_getElem h]; rfl⟩
def naH (s : ByteArray) (n j : Nat) : St := ⟨[(23, .sl false 1 (byteRow s)), (24, nat n), (25, nat j)], []⟩
theorem name_round (s : ByteArray) (u : Int) (n j : Nat) (hj : j < n) (hn : n < 1000000) (hg : (byteRow s)[j]? = some [.v (.int .u8 u)]) :
    (∃ r, r = ⟨[(2, boolX false)], []⟩ ∧ ∀ M, 0 ≤ M → run (callF tab ext M) 0 M (loopAt 133 0) (naH s n j) = some (.ret, r)) ∨ (∃ υ, canon 0 υ = some (naH s n (j + 1)) ∧ ∀ M, 0 ≤ M → run (callF tab ext M) 0 M (loopAt 133 0) (naH s n j) = some (.norm, υ)) := by
  cases h1 : decide (u < 97) with
  | true =>
    cases h2 : decide (u < 48) with
    | true =>
      cases h3 : (!(u == 95)) with
      | true =>
        exact .inl ⟨_, rfl, fun M _ => run_of [(26, .b true), (27, .e [.v (.int .u8 u)]), (30, .b true), (37, .b true), (45, .b true)] [] (pf5 (lt_nat (j := j) (k := n) hj) hg h1 h2 h3) (lo' := []) (by kernel_rfl)⟩
      | false =>
        exact .inr ⟨naH s n (j + 1), by kernel_rfl, fun M _ => run_of [(26, .b true), (27, .e [.v (.int .u8 u)]), (30, .b true), (37, .b true), (45, .b false), (47, .i (Int.ofNat (j + 1)))] [] (pf6 (lt_nat (j := j) (k := n) hj) hg h1 h2 h3 (next_nat (j := j) (by omega))) (lo' := []) (by kernel_rfl)⟩
    | false =>
      cases h4 : decide (57 < u) with
      | true =>
        cases h5 : (!(u == 95)) with
        | true =>
          exact .inl ⟨_, rfl, fun M _ => run_of [(26, .b true), (27, .e [.v (.int .u8 u)]), (30, .b true), (37, .b false), (40, .b true), (45, .b true)] [] (pf6 (lt_nat (j := j) (k := n) hj) hg h1 h2 h4 h5) (lo' := []) (by kernel_rfl)⟩
        | false =>
          exact .inr ⟨naH s n (j + 1), by kernel_rfl, fun M _ => run_of [(26, .b true), (27, .e [.v (.int .u8 u)]), (30, .b true), (37, .b false), (40, .b true), (45, .b false), (47, .i (Int.ofNat (j + 1)))] [] (pf7 (lt_nat (j := j) (k := n) hj) hg h1 h2 h4 h5 (next_nat (j := j) (by omega))) (lo' := []) (by kernel_rfl)⟩
      | false =>
        exact .inr ⟨naH s n (j + 1), by kernel_rfl, fun M _ => run_of [(26, .b true), (27, .e [.v (.int .u8 u)]), (30, .b true), (37, .b false), (40, .b false), (47, .i (Int.ofNat (j + 1)))] [] (pf6 (lt_nat (j := j) (k := n) hj) hg h1 h2 h4 (next_nat (j := j) (by omega))) (lo' := []) (by kernel_rfl)⟩
  | false =>
    cases h6 : decide (122 < u) with
    | true =>
      cases h7 : decide (u < 48) with
      | true =>
        cases h8 : (!(u == 95)) with
        | true =>
          exact .inl ⟨_, rfl, fun M _ => run_of [(26, .b true), (27, .e [.v (.int .u8 u)]), (30, .b false), (33, .b true), (37, .b true), (45, .b true)] [] (pf6 (lt_nat (j := j) (k := n) hj) hg h1 h6 h7 h8) (lo' := []) (by kernel_rfl)⟩
        | false =>
          exact .inr ⟨naH s n (j + 1), by kernel_rfl, fun M _ => run_of [(26, .b true), (27, .e [.v (.int .u8 u)]), (30, .b false), (33, .b true), (37, .b true), (45, .b false), (47, .i (Int.ofNat (j + 1)))] [] (pf7 (lt_nat (j := j) (k := n) hj) hg h1 h6 h7 h8 (next_nat (j := j) (by omega))) (lo' := []) (by kernel_rfl)⟩
      | false =>
        cases h9 : decide (57 < u) with
        | true =>
          cases h10 : (!(u == 95)) with
          | true =>
            exact .inl ⟨_, rfl, fun M _ => run_of [(26, .b true), (27, .e [.v (.int .u8 u)]), (30, .b false), (33, .b true), (37, .b false), (40, .b true), (45, .b true)] [] (pf7 (lt_nat (j := j) (k := n) hj) hg h1 h6 h7 h9 h10) (lo' := []) (by kernel_rfl)⟩
          | false =>
            exact .inr ⟨naH s n (j + 1), by kernel_rfl, fun M _ => run_of [(26, .b true), (27, .e [.v (.int .u8 u)]), (30, .b false), (33, .b true), (37, .b false), (40, .b true), (45, .b false), (47, .i (Int.ofNat (j + 1)))] [] (pf8 (lt_nat (j := j) (k := n) hj) hg h1 h6 h7 h9 h10 (next_nat (j := j) (by omega))) (lo' := []) (by kernel_rfl)⟩
        | false =>
          exact .inr ⟨naH s n (j + 1), by kernel_rfl, fun M _ => run_of [(26, .b true), (27, .e [.v (.int .u8 u)]), (30, .b false), (33, .b true), (37, .b false), (40, .b false), (47, .i (Int.ofNat (j + 1)))] [] (pf7 (lt_nat (j := j) (k := n) hj) hg h1 h6 h7 h9 (next_nat (j := j) (by omega))) (lo' := []) (by kernel_rfl)⟩
    | false =>
      exact .inr ⟨naH s n (j + 1), by kernel_rfl, fun M _ => run_of [(26, .b true), (27, .e [.v (.int .u8 u)]), (30, .b false), (33, .b false), (47, .i (Int.ofNat (j + 1)))] [] (pf5 (lt_nat (j := j) (k := n) hj) hg h1 h6 (next_nat (j := j) (by omega))) (lo' := []) (by kernel_rfl)⟩
theorem size_pos {s : ByteArray} (h : (s.toList == (⟨#[]⟩ : ByteArray).toList) = false) : 0 < s.size := by
  rcases Nat.eq_zero_or_pos s.size with h0 | h0
  · exfalso
    have : s = ⟨#[]⟩ := by
      cases s with
      | mk d => congr 1; exact Array.eq_empty_of_size_eq_zero h0
    rw [this] at h
    simp at h
  · exact h0
theorem name_short (s : ByteArray) (hs : s.size ≤ 60000) : ComesB 60002 133 [strX s] := by
  have hl : (byteRow s).length = s.size := by
    unfold byteRow
    rw [List.length_map, Array.length_toList]
    rfl
  have := scan (B := 0) (b := loopAt 133 0) (H := fun j => naH s (byteRow s).length j) (τ := naH s (byteRow s).length 0) (n := (byteRow s).length) (e := .exit 0) (fin := ⟨[(23, .sl false 1 (byteRow s)), (24, nat (byteRow s).length), (25, nat (byteRow s).length), (26, boolX false)], []⟩) (fun r => r = ⟨[(2, boolX false)], []⟩) (by kernel_rfl) (fun j hj => by
    obtain ⟨u, hu⟩ := byteRow_get hj
    exact name_round s u _ j hj (by omega) hu)
    (fun M _ => run_of [(26, .b false)] [] (pf1 (nlt_nat (Nat.lt_irrefl (byteRow s).length))) (lo' := []) (by kernel_rfl)) (by simp)
  apply comesB_succ
  cases h1 : (s.toList == (⟨#[]⟩ : ByteArray).toList) with
  | true =>
    exact ⟨false, fun N hN => pure_of [(6, .b true)] [] (pf1 h1) (x := boolX false) (bx := []) (by kernel_rfl) rfl⟩
  | false =>
    cases h2 : decide (32 < Int.ofNat s.size) with
    | true =>
      exact ⟨false, fun N hN => pure_of [(6, .b false), (10, .b true)] [] (pf2 h1 h2) (x := boolX false) (bx := []) (by kernel_rfl) rfl⟩
    | false =>
      have hpos := size_pos h1
      cases h3 : decide ((((s[0]?).getD 0).toNat : Int) < 97) with
      | true =>
        exact ⟨false, fun N hN => pure_of [(6, .b false), (10, .b false), (14, .at), (15, .b true)] [] (pf4 h1 h2 hpos h3) (x := boolX false) (bx := []) (by kernel_rfl) rfl⟩
      | false =>
        cases h4 : decide (122 < (((s[0]?).getD 0).toNat : Int)) with
        | true =>
          exact ⟨false, fun N hN => pure_of [(6, .b false), (10, .b false), (14, .at), (15, .b false), (19, .at), (20, .b true)] [] (pf6 h1 h2 hpos h3 hpos h4) (x := boolX false) (bx := []) (by kernel_rfl) rfl⟩
        | false =>
          rcases this with ⟨r, rfl, h⟩ | h
          · exact ⟨false, fun N hN => pure_of [(6, .b false), (10, .b false), (14, .at), (15, .b false), (19, .at), (20, .b false)] [(.ret, ⟨[(2, boolX false)], []⟩)] (pf7 h1 h2 hpos h3 hpos h4 (h N (by omega) (by omega))) (x := boolX false) (bx := []) (by kernel_rfl) rfl⟩
          · exact ⟨true, fun N hN => pure_of [(6, .b false), (10, .b false), (14, .at), (15, .b false), (19, .at), (20, .b false)] [(.exit 0, ⟨[(23, .sl false 1 (byteRow s)), (24, nat (byteRow s).length), (25, nat (byteRow s).length), (26, boolX false)], []⟩)] (pf7 h1 h2 hpos h3 hpos h4 (h N (by omega) (by omega))) (x := boolX true) (bx := []) (by kernel_rfl) rfl⟩
theorem name_comes (s : ByteArray) : ComesB 60002 133 [strX s] := by
  by_cases hs : s.size ≤ 60000
  · exact name_short s hs
  · apply comesB_succ
    have h2 : decide (32 < Int.ofNat s.size) = true := by simp only [Int.ofNat_eq_natCast, decide_eq_true_eq]; omega
    cases h1 : (s.toList == (⟨#[]⟩ : ByteArray).toList) with
    | true => exact ⟨false, fun N hN => pure_of [(6, .b true)] [] (pf1 h1) (x := boolX false) (bx := []) (by kernel_rfl) rfl⟩
    | false => exact ⟨false, fun N hN => pure_of [(6, .b false), (10, .b true)] [] (pf2 h1 h2) (x := boolX false) (bx := []) (by kernel_rfl) rfl⟩
theorem rule134 (v : Val) : Comes 60003 134 [.agg v.cells] := by
  obtain ⟨k, i, s, t, l, f⟩ := v
  obtain ⟨b, hb⟩ := name_comes t
  obtain ⟨c, hc⟩ := size_comes (Int.ofNat (cellsL l).length) 1 3
  apply comes_succ
  cases b with
  | true =>
    cases h1 : (Int.ofNat (cellsL l).length == 0) with
    | true =>
      exact ⟨4, fun N hN => pure_of [(6, .p (boolX true)), (12, .b true)] [] (pf2 (hb N (by omega)) h1) (x := num (4)) (bx := []) (by kernel_rfl) rfl⟩
    | false =>
      exact ⟨c, fun N hN => pure_of [(6, .p (boolX true)), (12, .b false), (16, .p (num c))] [] (pf3 (hb N (by omega)) h1 (hc N (by omega))) (x := num (c)) (bx := []) (by kernel_rfl) rfl⟩
  | false =>
    exact ⟨12, fun N hN => pure_of [(6, .p (boolX false))] [] (pf1 (hb N (by omega))) (x := num (12)) (bx := []) (by kernel_rfl) rfl⟩
end Go.Proofs.YtjfheahakfoofaaGreatDoor

/- The rule of records comes to an end. -/
namespace Go.Proofs.YtjfheahakfoofaaGreatDoor
open Go.Em

section
variable (k i s : Int) (t : ByteArray) (l f : List (List X)) (n j : Nat)
def reH : St := ⟨[(1, .ptr 0 0 0), (14, .sl false 7 f), (15, nat n), (16, nat j)], [.var [num k, num i, num s, strX t, .sl false 6 l, .sl false 7 f]]⟩
end
theorem pred_nat {j : Nat} (h : j < 4294967296) : IntKind.i64.wrap (Int.ofNat (j + 1) - 1) = Int.ofNat j := by
  rw [IntKind.wrap_i64]; simp only [Int.ofNat_eq_natCast]; omega
theorem pos_nat {j : Nat} : decide (0 < Int.ofNat (j + 1)) = true := by simp only [Int.ofNat_eq_natCast, decide_eq_true_eq]; omega
theorem zero_nat : decide (0 < Int.ofNat 0) = false := rfl
theorem rec_round (k i s : Int) (t : ByteArray) (l : List (List X)) (f : List (ByteArray × Val)) (j : Nat) (hl : f.length ≤ 60000) (hj : j < f.length) :
    (∃ r, (∃ c : Int, ∃ bx, r = ⟨[(2, num c)], bx⟩) ∧ ∀ M, 60002 ≤ M → run (callF tab ext M) 0 M (loopAt 132 0) (reH k i s t l (cellsF f) (cellsF f).length j) = some (.ret, r)) ∨ (∃ υ, canon 0 υ = some (reH k i s t l (cellsF f) (cellsF f).length (j + 1)) ∧ ∀ M, 60002 ≤ M → run (callF tab ext M) 0 M (loopAt 132 0) (reH k i s t l (cellsF f) (cellsF f).length j) = some (.norm, υ)) := by
  have hn := cellsF_length f
  have hg := cellsF_get hj
  obtain ⟨b, hb⟩ := name_comes f[j].1
  generalize f[j] = p at hg hb
  obtain ⟨p0, p1, p2, p3, p4, p5, p6⟩ := p
  have hlt := lt_nat (j := j) (k := (cellsF f).length) (by omega)
  cases b with
  | false =>
    exact .inl ⟨⟨[(2, num 12)], [.var [num k, num i, num s, strX t, .sl false 6 l, .sl false 7 (cellsF f)], .var (strX p0 :: (Val.mk p1 p2 p3 p4 p5 p6).cells)]⟩, ⟨12, _, rfl⟩, fun M hM => run_of [(17, .b true), (19, .e (strX p0 :: (Val.mk p1 p2 p3 p4 p5 p6).cells)), (24, .p (boolX false))] [] (pf3 hlt hg (hb M hM)) (lo' := []) (by kernel_rfl)⟩
  | true =>
    cases j with
    | zero =>
      exact .inr ⟨⟨[(1, .ptr 0 0 0), (14, .sl false 7 (cellsF f)), (15, nat (cellsF f).length), (16, nat (0 + 1))], [.var [num k, num i, num s, strX t, .sl false 6 l, .sl false 7 (cellsF f)], .var (strX p0 :: (Val.mk p1 p2 p3 p4 p5 p6).cells)]⟩, by kernel_rfl, fun M hM => run_of [(17, .b true), (19, .e (strX p0 :: (Val.mk p1 p2 p3 p4 p5 p6).cells)), (24, .p (boolX true)), (28, .b false), (43, .b false), (56, .i (Int.ofNat (0 + 1)))] [] (pf6 hlt hg (hb M hM) zero_nat zero_nat (next_nat (j := 0) (by omega))) (lo' := []) (by kernel_rfl)⟩
    | succ j =>
      have hj' : j < f.length := by omega
      have hq := cellsF_get hj'
      generalize f[j] = q at hq
      obtain ⟨q0, q1, q2, q3, q4, q5, q6⟩ := q
      cases h1 : (p0.toList == q0.toList) with
      | true =>
        exact .inl ⟨⟨[(2, num 7)], [.var [num k, num i, num s, strX t, .sl false 6 l, .sl false 7 (cellsF f)], .var (strX p0 :: (Val.mk p1 p2 p3 p4 p5 p6).cells)]⟩, ⟨7, _, rfl⟩, fun M hM => run_of [(17, .b true), (19, .e (strX p0 :: (Val.mk p1 p2 p3 p4 p5 p6).cells)), (24, .p (boolX true)), (28, .b true), (35, .i (Int.ofNat j)), (36, .e (strX q0 :: (Val.mk q1 q2 q3 q4 q5 q6).cells)), (39, .b true)] [] (pf7 hlt hg (hb M hM) (pos_nat (j := j)) (pred_nat (j := j) (by omega)) hq h1) (lo' := []) (by kernel_rfl)⟩
      | false =>
        cases h2 : Op.bytesLess p0.toList q0.toList with
        | true =>
          exact .inl ⟨⟨[(2, num 24)], [.var [num k, num i, num s, strX t, .sl false 6 l, .sl false 7 (cellsF f)], .var (strX p0 :: (Val.mk p1 p2 p3 p4 p5 p6).cells)]⟩, ⟨24, _, rfl⟩, fun M hM => run_of [(17, .b true), (19, .e (strX p0 :: (Val.mk p1 p2 p3 p4 p5 p6).cells)), (24, .p (boolX true)), (28, .b true), (35, .i (Int.ofNat j)), (36, .e (strX q0 :: (Val.mk q1 q2 q3 q4 q5 q6).cells)), (39, .b false), (43, .b true), (50, .i (Int.ofNat j)), (51, .e (strX q0 :: (Val.mk q1 q2 q3 q4 q5 q6).cells)), (54, .b true)] [] (pf11 hlt hg (hb M hM) (pos_nat (j := j)) (pred_nat (j := j) (by omega)) hq h1 (pos_nat (j := j)) (pred_nat (j := j) (by omega)) hq h2) (lo' := []) (by kernel_rfl)⟩
        | false =>
          exact .inr ⟨⟨[(1, .ptr 0 0 0), (14, .sl false 7 (cellsF f)), (15, nat (cellsF f).length), (16, nat ((j + 1) + 1))], [.var [num k, num i, num s, strX t, .sl false 6 l, .sl false 7 (cellsF f)], .var (strX p0 :: (Val.mk p1 p2 p3 p4 p5 p6).cells)]⟩, by kernel_rfl, fun M hM => run_of [(17, .b true), (19, .e (strX p0 :: (Val.mk p1 p2 p3 p4 p5 p6).cells)), (24, .p (boolX true)), (28, .b true), (35, .i (Int.ofNat j)), (36, .e (strX q0 :: (Val.mk q1 q2 q3 q4 q5 q6).cells)), (39, .b false), (43, .b true), (50, .i (Int.ofNat j)), (51, .e (strX q0 :: (Val.mk q1 q2 q3 q4 q5 q6).cells)), (54, .b false), (56, .i (Int.ofNat ((j + 1) + 1)))] [] (pf12 hlt hg (hb M hM) (pos_nat (j := j)) (pred_nat (j := j) (by omega)) hq h1 (pos_nat (j := j)) (pred_nat (j := j) (by omega)) hq h2 (next_nat (j := (j + 1)) (by omega))) (lo' := []) (by kernel_rfl)⟩
theorem rule132 (v : Val) (hv : v.ok) : Comes 60003 132 [.agg v.cells] := by
  obtain ⟨k, i, s, t, l, f⟩ := v
  unfold Val.ok at hv
  simp only [Val.size] at hv
  have hf := sizeF_length f
  have hn := cellsF_length f
  obtain ⟨c, hc⟩ := size_comes (Int.ofNat (cellsF f).length) 64 9
  have := scan (B := 60002) (b := loopAt 132 0) (H := fun j => reH k i s t (cellsL l) (cellsF f) (cellsF f).length j) (τ := reH k i s t (cellsL l) (cellsF f) (cellsF f).length 0) (n := (cellsF f).length) (e := .exit 0) (fin := ⟨[(1, .ptr 0 0 0), (14, .sl false 7 (cellsF f)), (15, nat (cellsF f).length), (16, nat (cellsF f).length), (17, boolX false)], [.var [num k, num i, num s, strX t, .sl false 6 (cellsL l), .sl false 7 (cellsF f)]]⟩) (fun r => ∃ c : Int, ∃ bx, r = ⟨[(2, num c)], bx⟩) (by kernel_rfl)
    (fun j hj => rec_round k i s t (cellsL l) f j (by omega) (by omega))
    (fun M _ => run_of [(17, .b false)] [] (pf1 (nlt_nat (Nat.lt_irrefl (cellsF f).length))) (lo' := []) (by kernel_rfl)) (by simp)
  apply comes_succ
  cases h : (!(c == 0)) with
  | true => exact ⟨c, fun N hN => pure_of [(9, .p (num c)), (11, .b true)] [] (pf2 (hc N (by omega)) h) (x := num c) (bx := []) (by kernel_rfl) rfl⟩
  | false =>
    rcases this with ⟨r, ⟨d, bx, rfl⟩, hr⟩ | hr
    · exact ⟨d, fun N hN => pure_of [(9, .p (num c)), (11, .b false)] [(.ret, ⟨[(2, num d)], bx⟩)] (pf3 (hc N (by omega)) h (hr N (by omega) (by omega))) (x := num d) (bx := []) (by kernel_rfl) rfl⟩
    · exact ⟨0, fun N hN => pure_of [(9, .p (num c)), (11, .b false)] [(.exit 0, ⟨[(1, .ptr 0 0 0), (14, .sl false 7 (cellsF f)), (15, nat (cellsF f).length), (16, nat (cellsF f).length), (17, boolX false)], [.var [num k, num i, num s, strX t, .sl false 6 (cellsL l), .sl false 7 (cellsF f)]]⟩)] (pf3 (hc N (by omega)) h (hr N (by omega) (by omega))) (x := num 0) (bx := []) (by kernel_rfl) rfl⟩
end Go.Proofs.YtjfheahakfoofaaGreatDoor
