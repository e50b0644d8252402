/- What is equal is found equal: messages, slots, states, outcomes. -/
import Derived.Test.YtckdgafiindddaaGreatDoorU10
set_option linter.all false
namespace Go.Proofs.YtckdgafiindddaaGreatDoor
open Go.Em
set_option maxRecDepth 100000

/-- An output, a fate, an outcome (without requests). -/
structure Otp where
  port : Int
  m : Msg
def Otp.cells (o : Otp) : List X := num o.port :: o.m.cells
def otpsC (l : List Otp) : List (List X) := l.map Otp.cells
theorem otpsC_length (l : List Otp) : (otpsC l).length = l.length := by simp [otpsC]
theorem otpsC_get {l : List Otp} {j : Nat} (h : j < l.length) : (otpsC l)[j]? = some l[j].cells := by grind[otpsC]
structure Fte where
  st : Stp
  kind : Int
  node : ByteArray
  into : List Stp
  text : ByteArray
def Fte.cells (f : Fte) : List X := [num f.st.e, .sl false 1 (intsC f.st.p), num f.kind, strX f.node, .sl false 2 (stpsC f.into), strX f.text]
def ftesC (l : List Fte) : List (List X) := l.map Fte.cells
theorem ftesC_length (l : List Fte) : (ftesC l).length = l.length := by simp [ftesC]
/-! ### Sizes -/
def Val.ok (v : Val) : Prop := v.size ≤ 60000
structure Stp.ok (s : Stp) : Prop where
  p : s.p.length ≤ 60000
structure Msg.ok (m : Msg) : Prop where
  st : m.st.ok
  orig : m.orig.length ≤ 60000
  body : m.body.ok
structure Slt.ok (s : Slt) : Prop where
  key : s.key.ok
  items : s.items.length ≤ 60000
  item : ∀ m, m ∈ s.items → m.ok
  vals : s.vals.length ≤ 60000
  val : ∀ v, v ∈ s.vals → v.ok
structure Stt.ok (s : Stt) : Prop where
  slots : s.slots.length ≤ 60000
  slot : ∀ x, x ∈ s.slots → x.ok
theorem eq_self {α : Type} [BEq α] [ReflBEq α] (a : α) : (a == a) = true := BEq.rfl
theorem nne_self {k : Nat} : (!(Int.ofNat k == Int.ofNat k)) = false := by simp

theorem eqr95 (M g : Nat) (l : List Val) (hr : ∀ a, a ∈ l → Gam.pureD (callF tab ext M) g [.agg a.cells, .agg a.cells] = some (boolX true)) (hl : l.length ≤ 60000) (hN : l.length < M) :
    Gam.pureD (callF tab ext (M + 1)) 65 [.sl false 6 (cellsL l), .sl false 6 (cellsL l), .fn g []] = some (boolX true) := by
  have hn := cellsL_length l
  have h : run (callF tab ext M) 0 M (.loop (loopAt 65 0)) (eh95 g (cellsL l) (cellsL l) (cellsL l).length 0) = some (.exit 0, ee95 g (cellsL l) (cellsL l) (cellsL l).length (cellsL l).length) := by
    refine loop_for (σ := fun j => eh95 g (cellsL l) (cellsL l) (cellsL l).length j) (k := (cellsL l).length) (eh95_canon _ _ _ _ _) (fun j hj => ?_) ?_ (by simp) (by omega)
    · have hj' : j < l.length := by omega
      have hg := cellsL_get hj'
      have hc := hr _ (List.getElem_mem hj')
      generalize l[j] = a at hg hc
      obtain ⟨a1, a2, a3, a4, a5, a6⟩ := a
      exact ⟨⟨(eh95 g (cellsL l) (cellsL l) (cellsL l).length (j + 1)).tm, [.var (Val.mk a1 a2 a3 a4 a5 a6).cells, .var (Val.mk a1 a2 a3 a4 a5 a6).cells]⟩, run_of [(18, .b true), (20, .e (Val.mk a1 a2 a3 a4 a5 a6).cells), (24, .e (Val.mk a1 a2 a3 a4 a5 a6).cells), (29, .p (boolX true)), (31, .i (Int.ofNat (j + 1)))] []
          (pf5 (lt_nat (j := j) (k := (cellsL l).length) (by omega)) hg hg hc (next_nat (j := j) (by omega))) (lo' := []) (by kernel_rfl), by kernel_rfl⟩
    · exact run_of [(18, .b false)] [] (pf1 (nlt_nat (Nat.lt_irrefl (cellsL l).length))) (lo' := []) (by kernel_rfl)
  exact pure_of [(14, .b false)] [(.exit 0, ee95 g (cellsL l) (cellsL l) (cellsL l).length (cellsL l).length)] (pf2 (nne_self (k := (cellsL l).length)) h) (x := boolX true) (bx := []) (by kernel_rfl) rfl

theorem eqr94 (M g : Nat) (l : List Msg) (hr : ∀ a, a ∈ l → Gam.pureD (callF tab ext M) g [.agg a.cells, .agg a.cells] = some (boolX true)) (hl : l.length ≤ 60000) (hN : l.length < M) :
    Gam.pureD (callF tab ext (M + 1)) 63 [.sl false 10 (msgsC l), .sl false 10 (msgsC l), .fn g []] = some (boolX true) := by
  have hn := msgsC_length l
  have h : run (callF tab ext M) 0 M (.loop (loopAt 63 0)) (eh94 g (msgsC l) (msgsC l) (msgsC l).length 0) = some (.exit 0, ee94 g (msgsC l) (msgsC l) (msgsC l).length (msgsC l).length) := by
    refine loop_for (σ := fun j => eh94 g (msgsC l) (msgsC l) (msgsC l).length j) (k := (msgsC l).length) (eh94_canon _ _ _ _ _) (fun j hj => ?_) ?_ (by simp) (by omega)
    · have hj' : j < l.length := by omega
      have hg := msgsC_get hj'
      have hc := hr _ (List.getElem_mem hj')
      generalize l[j] = a at hg hc
      obtain ⟨⟨a1, a2⟩, a3, a4, a5, a6, a7, a8, a9, a0⟩ := a
      exact ⟨⟨(eh94 g (msgsC l) (msgsC l) (msgsC l).length (j + 1)).tm, [.var (Msg.mk ⟨a1, a2⟩ a3 a4 (Val.mk a5 a6 a7 a8 a9 a0)).cells, .var (Msg.mk ⟨a1, a2⟩ a3 a4 (Val.mk a5 a6 a7 a8 a9 a0)).cells]⟩, run_of [(18, .b true), (20, .e (Msg.mk ⟨a1, a2⟩ a3 a4 (Val.mk a5 a6 a7 a8 a9 a0)).cells), (24, .e (Msg.mk ⟨a1, a2⟩ a3 a4 (Val.mk a5 a6 a7 a8 a9 a0)).cells), (29, .p (boolX true)), (31, .i (Int.ofNat (j + 1)))] []
          (pf5 (lt_nat (j := j) (k := (msgsC l).length) (by omega)) hg hg hc (next_nat (j := j) (by omega))) (lo' := []) (by kernel_rfl), by kernel_rfl⟩
    · exact run_of [(18, .b false)] [] (pf1 (nlt_nat (Nat.lt_irrefl (msgsC l).length))) (lo' := []) (by kernel_rfl)
  exact pure_of [(14, .b false)] [(.exit 0, ee94 g (msgsC l) (msgsC l) (msgsC l).length (msgsC l).length)] (pf2 (nne_self (k := (msgsC l).length)) h) (x := boolX true) (bx := []) (by kernel_rfl) rfl

theorem eqr60 (M g : Nat) (l : List Slt) (hr : ∀ a, a ∈ l → Gam.pureD (callF tab ext M) g [.agg a.cells, .agg a.cells] = some (boolX true)) (hl : l.length ≤ 60000) (hN : l.length < M) :
    Gam.pureD (callF tab ext (M + 1)) 32 [.sl false 10 (sltsC l), .sl false 10 (sltsC l), .fn g []] = some (boolX true) := by
  have hn := sltsC_length l
  have h : run (callF tab ext M) 0 M (.loop (loopAt 32 0)) (eh60 g (sltsC l) (sltsC l) (sltsC l).length 0) = some (.exit 0, ee60 g (sltsC l) (sltsC l) (sltsC l).length (sltsC l).length) := by
    refine loop_for (σ := fun j => eh60 g (sltsC l) (sltsC l) (sltsC l).length j) (k := (sltsC l).length) (eh60_canon _ _ _ _ _) (fun j hj => ?_) ?_ (by simp) (by omega)
    · have hj' : j < l.length := by omega
      have hg := sltsC_get hj'
      have hc := hr _ (List.getElem_mem hj')
      generalize l[j] = a at hg hc
      obtain ⟨⟨a1, a2, a3, a4, a5, a6⟩, a7, a8, a9, a0⟩ := a
      exact ⟨⟨(eh60 g (sltsC l) (sltsC l) (sltsC l).length (j + 1)).tm, [.var (Slt.mk (Val.mk a1 a2 a3 a4 a5 a6) a7 a8 a9 a0).cells, .var (Slt.mk (Val.mk a1 a2 a3 a4 a5 a6) a7 a8 a9 a0).cells]⟩, run_of [(18, .b true), (20, .e (Slt.mk (Val.mk a1 a2 a3 a4 a5 a6) a7 a8 a9 a0).cells), (24, .e (Slt.mk (Val.mk a1 a2 a3 a4 a5 a6) a7 a8 a9 a0).cells), (29, .p (boolX true)), (31, .i (Int.ofNat (j + 1)))] []
          (pf5 (lt_nat (j := j) (k := (sltsC l).length) (by omega)) hg hg hc (next_nat (j := j) (by omega))) (lo' := []) (by kernel_rfl), by kernel_rfl⟩
    · exact run_of [(18, .b false)] [] (pf1 (nlt_nat (Nat.lt_irrefl (sltsC l).length))) (lo' := []) (by kernel_rfl)
  exact pure_of [(14, .b false)] [(.exit 0, ee60 g (sltsC l) (sltsC l) (sltsC l).length (sltsC l).length)] (pf2 (nne_self (k := (sltsC l).length)) h) (x := boolX true) (bx := []) (by kernel_rfl) rfl

section
variable (l m : List (List X)) (j : Nat)
end
section
variable (l m : List (List X)) (j : Nat)
end
theorem val_refl (N : Nat) (v : Val) (h : v.ok) (hN : 190000 ≤ N) : Gam.pureD (callF tab ext N) 62 [.agg v.cells, .agg v.cells] = some (boolX true) := by
  grind[Val.ok,eq_val,cmpV_refl]
theorem stp_refl (N : Nat) (s : Stp) (h : s.ok) (hN : 190000 ≤ N) : Gam.pureD (callF tab ext N) 19 [.agg s.cells, .agg s.cells] = some (boolX true) := by
  have := h.p<;>grind[eq_stamp,cmpS_refl]
theorem ints_refl (N : Nat) (l : List Int) (h : l.length ≤ 60000) (hN : 190000 ≤ N) : Gam.pureD (callF tab ext N) 100 [.sl false 1 (intsC l), .sl false 1 (intsC l)] = some (boolX true) := by
  obtain ⟨M, rfl⟩ : ∃ M, N = M + 1 := ⟨N - 1, by omega⟩
  rw [eq84_pure M l l (by omega) (by omega), eqL_refl (by simp)]
theorem msg_refl (N : Nat) (m : Msg) (h : m.ok) (hN : 190001 ≤ N) : Gam.pureD (callF tab ext N) 64 [.agg m.cells, .agg m.cells] = some (boolX true) := by
  obtain ⟨M, rfl⟩ : ∃ M, N = M + 1 := ⟨N - 1, by omega⟩
  have h1 := stp_refl M m.st h.st (by omega)
  have h2 := ints_refl M m.orig h.orig (by omega)
  have h3 := val_refl M m.body h.body (by omega)
  obtain ⟨⟨a1, a2⟩, a3, a4, a5, a6, a7, a8, a9, a0⟩ := m
  exact pure_of [(9, .p (boolX true)), (15, .b true), (22, .p (boolX true)), (29, .p (boolX true))] [] (pf4 h1 (eq_self a3) h2 h3) (x := boolX true) (bx := []) (by kernel_rfl) rfl
theorem slt_refl (N : Nat) (s : Slt) (h : s.ok) (hN : 190005 ≤ N) : Gam.pureD (callF tab ext N) 33 [.agg s.cells, .agg s.cells] = some (boolX true) := by
  obtain ⟨M, rfl⟩ : ∃ M, N = M + 2 := ⟨N - 2, by omega⟩
  have hi := h.items
  have hv := h.vals
  have h1 := val_refl (M + 1) s.key h.key (by omega)
  have h2 := eqr94 M 64 s.items (fun a ha => msg_refl M a (h.item a ha) (by omega)) (by omega) (by omega)
  have h3 := eqr95 M 62 s.vals (fun a ha => val_refl M a (h.val a ha) (by omega)) (by omega) (by omega)
  obtain ⟨⟨a1, a2, a3, a4, a5, a6⟩, a7, a8, a9, a0⟩ := s
  exact pure_of [(9, .p (boolX true)), (15, .b true), (22, .b true), (29, .p (boolX true)), (36, .p (boolX true))] [] (pf5 h1 (eq_self a7) (eq_self a8) h2 h3) (x := boolX true) (bx := []) (by kernel_rfl) rfl
theorem stt_refl (N : Nat) (s : Stt) (h : s.ok) (hN : 190010 ≤ N) : Gam.pureD (callF tab ext N) 18 [.agg s.cells, .agg s.cells] = some (boolX true) := by
  obtain ⟨M, rfl⟩ : ∃ M, N = M + 2 := ⟨N - 2, by omega⟩
  have hi := h.slots
  have h2 := eqr60 M 33 s.slots (fun a ha => slt_refl M a (h.slot a ha) (by omega)) (by omega) (by omega)
  obtain ⟨a1, a2, a3⟩ := s
  exact pure_of [(9, .b true), (15, .b true), (22, .p (boolX true))] [] (pf3 (eq_self a1) (eq_self a2) h2) (x := boolX true) (bx := []) (by kernel_rfl) rfl
section
variable (a : List X) (z : List (List X)) (j : Nat)
end
end Go.Proofs.YtckdgafiindddaaGreatDoor

/- Copies of messages, of slots, of states. -/
namespace Go.Proofs.YtckdgafiindddaaGreatDoor
open Go.Em
set_option maxRecDepth 100000

theorem intsOf_intsC : ∀ l : List Int, intsOf (intsC l) = some l
  | [] => rfl
  | x :: l => by
    have h := intsOf_intsC l
    show (match intsOf (intsC l) with
      | some l => some (x :: l)
      | none => none) = some (x :: l)
    rw [h]
theorem clone_row (N : Nat) (l : List Int) (hl : l.length ≤ 60000) : callF tab ext (N + 1) (.fn 81) [.sl false 1 (intsC l)] [] = some (.bs 0 0 l.length, [.row 1 (intsC l)]) := by
  show cloneExt [.sl false 1 (intsC l)] [] = _
  unfold cloneExt
  simp only [intsOf_intsC, if_pos (show l.length ≤ 1000000 by omega)]
  rfl
theorem clone_ints (N : Nat) (l : List Int) (hl : l.length ≤ 60000) : Gam.pureD (callF tab ext (N + 1)) 81 [.sl false 1 (intsC l)] = some (.sl false 1 (intsC l)) := by
  simp_all[Gam.pureD,clone_row,X.data,rowOf,intsC_length,List.take_of_length_le]
theorem clone_stamp (N : Nat) (s : Stp) (h : s.ok) : Gam.pureD (callF tab ext (N + 2)) 80 [.agg s.cells] = some (.agg s.cells) :=
  pure_of [(7, .p (.sl false 1 (intsC s.p)))] [] (pf1 (clone_ints N s.p h.p)) (x := .agg s.cells) (bx := []) (by kernel_rfl) rfl
theorem clone_msg (N : Nat) (m : Msg) (h : m.ok) (hN : 190001 ≤ N) : Gam.pureD (callF tab ext N) 47 [.agg m.cells] = some (.agg m.cells) := by
  obtain ⟨M, rfl⟩ : ∃ M, N = M + 3 := ⟨N - 3, by omega⟩
  have h1 := clone_stamp M m.st h.st
  have h2 := clone_ints (M + 1) m.orig h.orig
  have hb := h.body
  unfold Val.ok at hb
  have h3 := clone_val (M + 2) m.body (by omega) (by omega)
  obtain ⟨⟨a1, a2⟩, a3, a4, a5, a6, a7, a8, a9, a0⟩ := m
  exact pure_of [(5, .p (.agg (Stp.mk a1 a2).cells)), (10, .p (.sl false 1 (intsC a4))), (13, .p (.agg (Val.mk a5 a6 a7 a8 a9 a0).cells))] [] (pf3 h1 h2 h3) (x := .agg (Msg.mk ⟨a1, a2⟩ a3 a4 (Val.mk a5 a6 a7 a8 a9 a0)).cells) (bx := []) (by kernel_rfl) rfl

def zSlot : List X := [num 0, num 0, num 0, noText, .sl true 6 [], .sl true 7 [], num 0, num 0, .sl true 10 [], .sl true 6 []]
/-! ### cloneSlot -/
section
variable (s items acc vals accV : List (List X)) (n m k j : Nat)
variable (k0 i0 s0 : Int) (t0 : ByteArray) (l0 f0 : List (List X)) (n0 d0 : Int) (x : List X)
def csH : St := ⟨[(1, .ptr 0 0 0), (2, .ptr 1 0 0), (3, .bs 2 0 j), (14, .sl false 10 items), (15, nat n), (16, nat j)], [.var (slotC k0 i0 s0 t0 l0 f0 n0 d0 items vals), .var zSlot, .row 10 acc]⟩
def csH' : St := ⟨[(1, .ptr 0 0 0), (2, .ptr 1 0 0), (3, .bs 4 0 (j + 1)), (14, .sl false 10 items), (15, nat n), (16, nat (j + 1))], [.var (slotC k0 i0 s0 t0 l0 f0 n0 d0 items vals), .var zSlot, .dead, .var x, .row 10 (acc ++ [x])]⟩
def csE : St := ⟨[(1, .ptr 0 0 0), (2, .ptr 1 0 0), (3, .bs 2 0 j), (14, .sl false 10 items), (15, nat n), (16, nat j), (17, boolX false)], [.var (slotC k0 i0 s0 t0 l0 f0 n0 d0 items vals), .var zSlot, .row 10 acc]⟩
theorem cs_canon : canon 0 (csH items acc vals n j k0 i0 s0 t0 l0 f0 n0 d0) = some (csH items acc vals n j k0 i0 s0 t0 l0 f0 n0 d0) := by kernel_rfl
theorem cs_canon' : canon 0 (csH' items acc vals n j k0 i0 s0 t0 l0 f0 n0 d0 x) = some (csH items (acc ++ [x]) vals n (j + 1) k0 i0 s0 t0 l0 f0 n0 d0) := by kernel_rfl
def cvH : St := ⟨[(1, .ptr 0 0 0), (2, .ptr 1 0 0), (3, .bs 2 0 m), (6, .bs 3 0 j), (31, .sl false 6 vals), (32, nat n), (33, nat j)], [.var (slotC k0 i0 s0 t0 l0 f0 n0 d0 items vals), .var zSlot, .row 10 acc, .row 6 accV]⟩
def cvH' : St := ⟨[(1, .ptr 0 0 0), (2, .ptr 1 0 0), (3, .bs 2 0 m), (6, .bs 5 0 (j + 1)), (31, .sl false 6 vals), (32, nat n), (33, nat (j + 1))], [.var (slotC k0 i0 s0 t0 l0 f0 n0 d0 items vals), .var zSlot, .row 10 acc, .dead, .var x, .row 6 (accV ++ [x])]⟩
def cvE : St := ⟨[(1, .ptr 0 0 0), (2, .ptr 1 0 0), (3, .bs 2 0 m), (6, .bs 3 0 j), (31, .sl false 6 vals), (32, nat n), (33, nat j), (34, boolX false)], [.var (slotC k0 i0 s0 t0 l0 f0 n0 d0 items vals), .var zSlot, .row 10 acc, .row 6 accV]⟩
theorem cv_canon : canon 0 (cvH items acc vals accV n m j k0 i0 s0 t0 l0 f0 n0 d0) = some (cvH items acc vals accV n m j k0 i0 s0 t0 l0 f0 n0 d0) := by kernel_rfl
theorem cv_canon' : canon 0 (cvH' items acc vals accV n m j k0 i0 s0 t0 l0 f0 n0 d0 x) = some (cvH items acc vals (accV ++ [x]) n m (j + 1) k0 i0 s0 t0 l0 f0 n0 d0) := by kernel_rfl
end

theorem clone_slot (N : Nat) (s : Slt) (h : s.ok) (hN : 190005 ≤ N) : callF tab ext N (.fn 54) [.agg s.cells] [] = some (match s with
    | ⟨.mk k i s t l f, n, d, ms, vs⟩ => (.agg [num k, num i, num s, strX t, .sl false 6 (cellsL l), .sl false 7 (cellsF f), num n, num d, .bs 0 0 (msgsC ms).length, .bs 1 0 (cellsL vs).length], [.row 10 (msgsC ms), .row 6 (cellsL vs)])) := by
  obtain ⟨M, rfl⟩ : ∃ M, N = M + 1 := ⟨N - 1, by omega⟩
  have hi := h.items
  have hv := h.vals
  have hk := h.key
  have hit := h.item
  have hva := h.val
  obtain ⟨⟨k0, i0, s0, t0, l0, f0⟩, n0, d0, ms, vs⟩ := s
  have em := msgsC_length ms
  have ev := cellsL_length vs
  dsimp only at hi hv hk hit hva
  unfold Val.ok at hk
  have hk' := clone_val M (Val.mk k0 i0 s0 t0 l0 f0) (by omega) (by omega)
  have h1 : run (callF tab ext M) 0 M (.loop (loopAt 54 0)) (csH (msgsC ms) [] (cellsL vs) (msgsC ms).length 0 k0 i0 s0 t0 (cellsL l0) (cellsF f0) n0 d0) = some (.exit 0, csE (msgsC ms) (msgsC ms) (cellsL vs) (msgsC ms).length (msgsC ms).length k0 i0 s0 t0 (cellsL l0) (cellsF f0) n0 d0) := by
    refine loop_for (σ := fun j => csH (msgsC ms) ((msgsC ms).take j) (cellsL vs) (msgsC ms).length j k0 i0 s0 t0 (cellsL l0) (cellsF f0) n0 d0) (k := (msgsC ms).length) (cs_canon ..) (fun j hj => ?_) ?_ (by simp) (by omega)
    · have hj' : j < ms.length := by omega
      have hg := msgsC_get hj'
      have hc := clone_msg M ms[j] (hit _ (List.getElem_mem hj')) (by omega)
      have ht := take_succ_get hg
      generalize ms[j] = a at hg hc ht
      obtain ⟨⟨a1, a2⟩, a3, a4, a5, a6, a7, a8, a9, a0⟩ := a
      refine ⟨csH' (msgsC ms) ((msgsC ms).take j) (cellsL vs) (msgsC ms).length j k0 i0 s0 t0 (cellsL l0) (cellsF f0) n0 d0 (Msg.mk ⟨a1, a2⟩ a3 a4 (Val.mk a5 a6 a7 a8 a9 a0)).cells, run_of [(17, .b true), (18, .e (Msg.mk ⟨a1, a2⟩ a3 a4 (Val.mk a5 a6 a7 a8 a9 a0)).cells), (22, .p (.agg (Msg.mk ⟨a1, a2⟩ a3 a4 (Val.mk a5 a6 a7 a8 a9 a0)).cells)), (24, .app), (25, .i (Int.ofNat (j + 1)))] []
        (pf5 (lt_nat (j := j) (k := (msgsC ms).length) (by omega)) hg hc (app_ok (acc := (msgsC ms).take j) j 2 152 (by grind) (by omega) (by omega)) (next_nat (j := j) (by omega))) (lo' := []) (by kernel_rfl), ?_⟩
      grind[cs_canon']
    · rw [List.take_length]
      exact run_of [(17, .b false)] [] (pf1 (nlt_nat (Nat.lt_irrefl (msgsC ms).length))) (lo' := []) (by kernel_rfl)
  have h2 : run (callF tab ext M) 0 M (.loop (loopAt 54 1)) (cvH (msgsC ms) (msgsC ms) (cellsL vs) [] (cellsL vs).length (msgsC ms).length 0 k0 i0 s0 t0 (cellsL l0) (cellsF f0) n0 d0) = some (.exit 2, cvE (msgsC ms) (msgsC ms) (cellsL vs) (cellsL vs) (cellsL vs).length (msgsC ms).length (cellsL vs).length k0 i0 s0 t0 (cellsL l0) (cellsF f0) n0 d0) := by
    refine loop_for (σ := fun j => cvH (msgsC ms) (msgsC ms) (cellsL vs) ((cellsL vs).take j) (cellsL vs).length (msgsC ms).length j k0 i0 s0 t0 (cellsL l0) (cellsF f0) n0 d0) (k := (cellsL vs).length) (cv_canon ..) (fun j hj => ?_) ?_ (by simp) (by omega)
    · have hj' : j < vs.length := by omega
      have hg := cellsL_get hj'
      have hok := hva _ (List.getElem_mem hj')
      unfold Val.ok at hok
      have hc := clone_val M vs[j] (by omega) (by omega)
      have ht := take_succ_get hg
      generalize vs[j] = a at hg hc ht
      obtain ⟨a1, a2, a3, a4, a5, a6⟩ := a
      refine ⟨cvH' (msgsC ms) (msgsC ms) (cellsL vs) ((cellsL vs).take j) (cellsL vs).length (msgsC ms).length j k0 i0 s0 t0 (cellsL l0) (cellsF f0) n0 d0 (Val.mk a1 a2 a3 a4 a5 a6).cells, run_of [(34, .b true), (35, .e (Val.mk a1 a2 a3 a4 a5 a6).cells), (39, .p (.agg (Val.mk a1 a2 a3 a4 a5 a6).cells)), (41, .app), (42, .i (Int.ofNat (j + 1)))] []
        (pf5 (lt_nat (j := j) (k := (cellsL vs).length) (by omega)) hg hc (app_ok (acc := (cellsL vs).take j) j 3 88 (by grind) (by omega) (by omega)) (next_nat (j := j) (by omega))) (lo' := []) (by kernel_rfl), ?_⟩
      grind[cv_canon']
    · rw [List.take_length]
      exact run_of [(34, .b false)] [] (pf1 (nlt_nat (Nat.lt_irrefl (cellsL vs).length))) (lo' := []) (by kernel_rfl)
  exact callF_of [(12, .mk), (29, .mk), (45, .p (.agg (Val.mk k0 i0 s0 t0 l0 f0).cells))] [(.exit 0, csE (msgsC ms) (msgsC ms) (cellsL vs) (msgsC ms).length (msgsC ms).length k0 i0 s0 t0 (cellsL l0) (cellsF f0) n0 d0), (.exit 2, cvE (msgsC ms) (msgsC ms) (cellsL vs) (cellsL vs) (cellsL vs).length (msgsC ms).length (cellsL vs).length k0 i0 s0 t0 (cellsL l0) (cellsF f0) n0 d0)]
    (pf5 (a := 0 ≤ (msgsC ms).length ∧ roomOk (msgsC ms).length 152 = true) ⟨by omega, room_of (by omega) (by omega)⟩ h1 (c := 0 ≤ (cellsL vs).length ∧ roomOk (cellsL vs).length 88 = true) ⟨by omega, room_of (by omega) (by omega)⟩ h2 hk') (by kernel_rfl)

theorem clone_slot_pure (N : Nat) (s : Slt) (h : s.ok) (hN : 190005 ≤ N) : Gam.pureD (callF tab ext N) 54 [.agg s.cells] = some (.agg s.cells) := by
  unfold Gam.pureD
  rw [clone_slot N s h hN]
  obtain ⟨⟨k0, i0, s0, t0, l0, f0⟩, n0, d0, ms, vs⟩ := s<;>simp_all[X.data,dataL,rowOf,Slt.cells,slotC,num,strX]

def zState : List X := [num 0, num 0, .sl true 10 []]
section
variable (a b : Int) (l acc : List (List X)) (n j : Nat) (x : List X)
def stH : St := ⟨[(1, .ptr 0 0 0), (2, .ptr 1 0 0), (3, .bs 2 0 j), (11, .sl false 10 l), (12, nat n), (13, nat j)], [.var [num a, num b, .sl false 10 l], .var zState, .row 10 acc]⟩
def stH' : St := ⟨[(1, .ptr 0 0 0), (2, .ptr 1 0 0), (3, .bs 4 0 (j + 1)), (11, .sl false 10 l), (12, nat n), (13, nat (j + 1))], [.var [num a, num b, .sl false 10 l], .var zState, .dead, .var x, .row 10 (acc ++ [x])]⟩
def stE : St := ⟨[(1, .ptr 0 0 0), (2, .ptr 1 0 0), (3, .bs 2 0 j), (11, .sl false 10 l), (12, nat n), (13, nat j), (14, boolX false)], [.var [num a, num b, .sl false 10 l], .var zState, .row 10 acc]⟩
theorem st_canon : canon 0 (stH a b l acc n j) = some (stH a b l acc n j) := by kernel_rfl
theorem st_canon' : canon 0 (stH' a b l acc n j x) = some (stH a b l (acc ++ [x]) n (j + 1)) := by kernel_rfl
end
theorem clone_state (N : Nat) (s : Stt) (h : s.ok) (hN : 190010 ≤ N) : callF tab ext N (.fn 29) [.agg s.cells] [] = some (.agg [num s.n, num s.t, .bs 0 0 (sltsC s.slots).length], [.row 10 (sltsC s.slots)]) := by
  obtain ⟨M, rfl⟩ : ∃ M, N = M + 1 := ⟨N - 1, by omega⟩
  have hi := h.slots
  have hit := h.slot
  obtain ⟨a, b, ss⟩ := s
  dsimp only at hi hit
  have em := sltsC_length ss
  have h1 : run (callF tab ext M) 0 M (.loop (loopAt 29 0)) (stH a b (sltsC ss) [] (sltsC ss).length 0) = some (.exit 0, stE a b (sltsC ss) (sltsC ss) (sltsC ss).length (sltsC ss).length) := by
    refine loop_for (σ := fun j => stH a b (sltsC ss) ((sltsC ss).take j) (sltsC ss).length j) (k := (sltsC ss).length) (st_canon ..) (fun j hj => ?_) ?_ (by simp) (by omega)
    · have hj' : j < ss.length := by omega
      have hg := sltsC_get hj'
      have hc := clone_slot_pure M ss[j] (hit _ (List.getElem_mem hj')) (by omega)
      have ht := take_succ_get hg
      generalize ss[j] = q at hg hc ht
      obtain ⟨⟨a1, a2, a3, a4, a5, a6⟩, a7, a8, a9, a0⟩ := q
      refine ⟨stH' a b (sltsC ss) ((sltsC ss).take j) (sltsC ss).length j (Slt.mk (Val.mk a1 a2 a3 a4 a5 a6) a7 a8 a9 a0).cells, run_of [(14, .b true), (15, .e (Slt.mk (Val.mk a1 a2 a3 a4 a5 a6) a7 a8 a9 a0).cells), (19, .p (.agg (Slt.mk (Val.mk a1 a2 a3 a4 a5 a6) a7 a8 a9 a0).cells)), (21, .app), (22, .i (Int.ofNat (j + 1)))] []
        (pf5 (lt_nat (j := j) (k := (sltsC ss).length) (by omega)) hg hc (app_ok (acc := (sltsC ss).take j) j 2 152 (by grind) (by omega) (by omega)) (next_nat (j := j) (by omega))) (lo' := []) (by kernel_rfl), ?_⟩
      grind[st_canon']
    · rw [List.take_length]
      exact run_of [(14, .b false)] [] (pf1 (nlt_nat (Nat.lt_irrefl (sltsC ss).length))) (lo' := []) (by kernel_rfl)
  exact callF_of [(9, .mk)] [(.exit 0, stE a b (sltsC ss) (sltsC ss) (sltsC ss).length (sltsC ss).length)]
    (pf2 (a := 0 ≤ (sltsC ss).length ∧ roomOk (sltsC ss).length 152 = true) ⟨by omega, room_of (by omega) (by omega)⟩ h1) (by kernel_rfl)
theorem clone_state_pure (N : Nat) (s : Stt) (h : s.ok) (hN : 190010 ≤ N) : Gam.pureD (callF tab ext N) 29 [.agg s.cells] = some (.agg s.cells) := by
  unfold Gam.pureD
  rw [clone_state N s h hN]
  simp_all[X.data,dataL,rowOf,Stt.cells,num]
end Go.Proofs.YtckdgafiindddaaGreatDoor

/- The checks of stamps and of messages come to an end. -/
namespace Go.Proofs.YtckdgafiindddaaGreatDoor
open Go.Em
set_option maxRecDepth 100000

/-! ### slices.IndexFunc, slices.ContainsFunc of numbers -/
end Go.Proofs.YtckdgafiindddaaGreatDoor

/- The rules of the kinds of values come to an end. -/
namespace Go.Proofs.YtckdgafiindddaaGreatDoor
open Go.Em
set_option maxRecDepth 100000

/-! ### first -/
end Go.Proofs.YtckdgafiindddaaGreatDoor

/- The rule of records comes to an end. -/
namespace Go.Proofs.YtckdgafiindddaaGreatDoor
open Go.Em
set_option maxRecDepth 100000

section
variable (k i s : Int) (t : ByteArray) (l f : List (List X)) (n j : Nat)
end
end Go.Proofs.YtckdgafiindddaaGreatDoor

/- The check of a value comes to an end. -/
namespace Go.Proofs.YtckdgafiindddaaGreatDoor
open Go.Em
set_option maxRecDepth 100000

/-! ### A round of the check -/
def rfsOf : C → List (C × C)
  | .seq a b | .cond _ a b => rfsOf a ++ rfsOf b
  | .block _ b | .loop b => rfsOf b
  | .rf _ _ _ a b => (a, b) :: (rfsOf a ++ rfsOf b)
  | _ => []
noncomputable def rfAt (f : Nat) : C × C := match tab f with
  | some fd => (rfsOf fd.body).getD 0 (.skip, .skip)
  | none => (.skip, .skip)
end Go.Proofs.YtckdgafiindddaaGreatDoor

/- The visits of a value come to an end; so does its check. -/
namespace Go.Proofs.YtckdgafiindddaaGreatDoor
open Go.Em
set_option maxRecDepth 100000

section
variable (ps : List (List X)) (lev len j n m : Nat) (c : Int) (u : List X)
end

end Go.Proofs.YtckdgafiindddaaGreatDoor

/- The check of a message comes to an end. -/
namespace Go.Proofs.YtckdgafiindddaaGreatDoor
open Go.Em
set_option maxRecDepth 100000

section
variable (m : List X) (o : List (List X)) (n j : Nat)
end
end Go.Proofs.YtckdgafiindddaaGreatDoor

/- The check of a slot comes to an end. -/
namespace Go.Proofs.YtckdgafiindddaaGreatDoor
open Go.Em
set_option maxRecDepth 100000

/-! ### slices.ContainsFunc of messages -/
def imH (l : List (List X)) (g : X) (n j : Nat) : St := ⟨[(0, .sl false 10 l), (1, g), (7, nat n), (8, nat j)], []⟩
end Go.Proofs.YtckdgafiindddaaGreatDoor

/- The check of a slot: its items. -/
namespace Go.Proofs.YtckdgafiindddaaGreatDoor
open Go.Em
set_option maxRecDepth 100000

end Go.Proofs.YtckdgafiindddaaGreatDoor

/- The check of a slot as a whole. -/
namespace Go.Proofs.YtckdgafiindddaaGreatDoor
open Go.Em
set_option maxRecDepth 100000

end Go.Proofs.YtckdgafiindddaaGreatDoor

/- The check of a slot: what it says, and what it leaves with the checker. -/
namespace Go.Proofs.YtckdgafiindddaaGreatDoor
open Go.Em
set_option maxRecDepth 100000

end Go.Proofs.YtckdgafiindddaaGreatDoor

/- The check of a state comes to an end. -/
namespace Go.Proofs.YtckdgafiindddaaGreatDoor
open Go.Em
set_option maxRecDepth 100000

end Go.Proofs.YtckdgafiindddaaGreatDoor

/- The check of a state as a whole. -/
namespace Go.Proofs.YtckdgafiindddaaGreatDoor
open Go.Em
set_option maxRecDepth 100000

/-- A state of the sizes of layer 31. -/
structure Stt.small (s : Stt) : Prop where
  slots : s.slots.length ≤ 100
  slot : ∀ x, x ∈ s.slots → x.ok ∧ x.items.length ≤ 100 ∧ x.vals.length ≤ 100
theorem Stt.small.ok {s : Stt} (h : s.small) : s.ok := ⟨by have := h.slots; omega, fun x hx => (h.slot x hx).1⟩
def accOf (l : List Slt) : List Msg := l.flatMap (·.items)
theorem accOf_append (l : List Slt) (x : Slt) : accOf (l ++ [x]) = accOf l ++ x.items := by simp [accOf]
theorem accOf_length : ∀ (l : List Slt), (∀ x, x ∈ l → x.items.length ≤ 100) → (accOf l).length ≤ 100 * l.length
  | [], _ => by simp [accOf]
  | y :: l, h => by
    have h1 := h y (by simp)
    have h2 := accOf_length l fun x hx => h x (by simp [hx])
    have h3 : (accOf (y :: l)).length = y.items.length + (accOf l).length := by simp [accOf]
    rw [h3, List.length_cons]; omega
end Go.Proofs.YtckdgafiindddaaGreatDoor

/- A loop that looks for the first round at which something holds. -/
namespace Go.Proofs.YtckdgafiindddaaGreatDoor
open Go.Em
set_option maxRecDepth 100000

theorem scanP {nIn : Nat} {b : C} {H : Nat → St} {e : Ex} {fin τ : St} {n B : Nat} (P : Nat → Bool) (r υ : Nat → St) (h0 : canon nIn τ = some (H 0))
    (hT : ∀ j, j < n → P j = true → ∀ M, B ≤ M → run (callF tab ext M) nIn M b (H j) = some (.ret, r j)) (hF : ∀ j, j < n → P j = false → canon nIn (υ j) = some (H (j + 1)) ∧ ∀ M, B ≤ M → run (callF tab ext M) nIn M b (H j) = some (.norm, υ j))
    (hend : ∀ M, B ≤ M → run (callF tab ext M) nIn M b (H n) = some (e, fin)) (hne : e ≠ .norm) :
    (∃ j, j < n ∧ P j = true ∧ (∀ i, i < j → P i = false) ∧ ∀ M, B ≤ M → n < M → run (callF tab ext M) nIn M (.loop b) τ = some (.ret, r j)) ∨ ((∀ j, j < n → P j = false) ∧ ∀ M, B ≤ M → n < M → run (callF tab ext M) nIn M (.loop b) τ = some (e, fin)) := by
  have key : ∀ d j, j + d = n → (∀ i, i < j → P i = false) → (∃ k, k < n ∧ P k = true ∧ (∀ i, i < k → P i = false) ∧ ∀ M F ω, B ≤ M → d < F → canon nIn ω = some (H j) → iter nIn (run (callF tab ext M) nIn M b) F ω = some (.ret, r k)) ∨ ((∀ j, j < n → P j = false) ∧ ∀ M F ω, B ≤ M → d < F → canon nIn ω = some (H j) → iter nIn (run (callF tab ext M) nIn M b) F ω = some (e, fin)) := by
    intro d
    induction d with
    | zero =>
      intro j hj hall
      have hjn : j = n := by omega
      subst hjn
      refine .inr ⟨hall, fun M F ω hM hF' hc => ?_⟩
      obtain ⟨F', rfl⟩ : ∃ F', F = F' + 1 := ⟨F - 1, by omega⟩
      exact iter_end hc (hend M hM) hne
    | succ d ih =>
      intro j hj hall
      cases hP : P j with
      | true =>
        refine .inl ⟨j, by omega, hP, hall, fun M F ω hM hF' hc => ?_⟩
        obtain ⟨F', rfl⟩ : ∃ F', F = F' + 1 := ⟨F - 1, by omega⟩
        exact iter_end hc (hT j (by omega) hP M hM) (by simp)
      | false =>
        obtain ⟨hυ, hs⟩ := hF j (by omega) hP
        rcases ih (j + 1) (by omega) (fun i hi => by
          rcases Nat.lt_or_ge i j with h | h
          · exact hall i h
          · rw [show i = j by omega]; exact hP) with ⟨k, hk, hPk, hlt, h'⟩ | ⟨ha, h'⟩
        · refine .inl ⟨k, hk, hPk, hlt, fun M F ω hM hF' hc => ?_⟩
          obtain ⟨F', rfl⟩ : ∃ F', F = F' + 1 := ⟨F - 1, by omega⟩
          exact iter_step hc (hs M hM) (h' M F' _ hM (by omega) hυ)
        · refine .inr ⟨ha, fun M F ω hM hF' hc => ?_⟩
          obtain ⟨F', rfl⟩ : ∃ F', F = F' + 1 := ⟨F - 1, by omega⟩
          exact iter_step hc (hs M hM) (h' M F' _ hM (by omega) hυ)
  simp only [run]
  rcases key n 0 (by omega) (fun i hi => by omega) with ⟨k, h1, h2, h3, h⟩ | ⟨ha, h⟩
  · exact .inl ⟨k, h1, h2, h3, fun M hM hn => h M M τ hM hn h0⟩
  · exact .inr ⟨ha, fun M hM hn => h M M τ hM hn h0⟩
end Go.Proofs.YtckdgafiindddaaGreatDoor

/- The checks, exactly: what they come to, told by the values alone. -/
namespace Go.Proofs.YtckdgafiindddaaGreatDoor
open Go.Em
set_option maxRecDepth 100000

/-! ### slices.ContainsFunc of messages, exactly -/
end Go.Proofs.YtckdgafiindddaaGreatDoor

/- The check of a slot, exactly: its items. -/
namespace Go.Proofs.YtckdgafiindddaaGreatDoor
open Go.Em
set_option maxRecDepth 100000
set_option linter.unusedSimpArgs false

end Go.Proofs.YtckdgafiindddaaGreatDoor

/- The check of a slot, exactly: its values. -/
namespace Go.Proofs.YtckdgafiindddaaGreatDoor
open Go.Em
set_option maxRecDepth 100000

end Go.Proofs.YtckdgafiindddaaGreatDoor

/- The check of a slot, exactly. -/
namespace Go.Proofs.YtckdgafiindddaaGreatDoor
open Go.Em
set_option maxRecDepth 100000

end Go.Proofs.YtckdgafiindddaaGreatDoor

/- A round of the check of a state, exactly. -/
namespace Go.Proofs.YtckdgafiindddaaGreatDoor
open Go.Em
set_option maxRecDepth 100000

section
variable {ce cc : Int} {z : Bool} {sp : Prop}
end
end Go.Proofs.YtckdgafiindddaaGreatDoor

/- The check of a state, exactly. -/
namespace Go.Proofs.YtckdgafiindddaaGreatDoor
open Go.Em
set_option maxRecDepth 100000

end Go.Proofs.YtckdgafiindddaaGreatDoor

/- Values that compare as equal are one. -/
namespace Go.Proofs.YtckdgafiindddaaGreatDoor
open Go.Em
set_option maxRecDepth 100000

theorem ordI_zero {a b : Int} (h : ordI a b = 0) : a = b := by
  unfold ordI at h
  split at h
  · cases h
  · split at h
    · cases h
    · omega
end Go.Proofs.YtckdgafiindddaaGreatDoor

/- The order of values: three ways, turned about, in a chain. -/
namespace Go.Proofs.YtckdgafiindddaaGreatDoor
open Go.Em
set_option maxRecDepth 100000

end Go.Proofs.YtckdgafiindddaaGreatDoor

/- What the check of a state asks, told of the keys and the messages as lists. -/
namespace Go.Proofs.YtckdgafiindddaaGreatDoor
open Go.Em
set_option maxRecDepth 100000

end Go.Proofs.YtckdgafiindddaaGreatDoor

/- How many messages a state holds. -/
namespace Go.Proofs.YtckdgafiindddaaGreatDoor
open Go.Em
set_option maxRecDepth 100000

def heH (l : List (List X)) (n j k : Nat) : St := ⟨[(3, nat k), (7, .sl false 10 l), (8, nat n), (9, nat j)], []⟩
theorem add_len {a b : Nat} (h : a + b < 4294967296) : IntKind.i64.wrap (Int.ofNat a + Int.ofNat b) = Int.ofNat (a + b) := by
  rw [IntKind.wrap_i64]; simp only [Int.ofNat_eq_natCast]; omega
theorem accOf_take {ss : List Slt} {j : Nat} (hj : j < ss.length) : accOf (ss.take (j + 1)) = accOf (ss.take j) ++ ss[j].items := by
  rw [List.take_succ_eq_append_getElem hj, accOf_append]
theorem held_pure (s : Stt) (hs : s.small) (N : Nat) (hN : 60020 ≤ N) : Gam.pureD (callF tab ext N) 9 [.agg s.cells] = some (nat (accOf s.slots).length) := by
  obtain ⟨M, rfl⟩ : ∃ M, N = M + 1 := ⟨N - 1, by omega⟩
  have hl := hs.slots
  have hx := hs.slot
  obtain ⟨a, b, ss⟩ := s
  dsimp only at hl hx ⊢
  have hn := sltsC_length ss
  have hloop : run (callF tab ext M) 0 M (.loop (loopAt 9 0)) ⟨(heH (sltsC ss) (sltsC ss).length 0 0).tm, [.var [num a, num b, .sl false 10 (sltsC ss)]]⟩ = some (.exit 0, ⟨[(3, nat (accOf ss).length), (7, .sl false 10 (sltsC ss)), (8, nat (sltsC ss).length), (9, nat (sltsC ss).length), (10, boolX false)], []⟩) := by
    refine loop_for (σ := fun j => heH (sltsC ss) (sltsC ss).length j (accOf (ss.take j)).length) (k := (sltsC ss).length) (by kernel_rfl) (fun j hj => ?_) ?_ (by simp) (by omega)
    · have hj' : j < ss.length := by omega
      have hg := sltsC_get hj'
      have hla := accOf_length (ss.take j) fun x hxx => (hx x (List.mem_of_mem_take hxx)).2.1
      have hlt : (ss.take j).length ≤ 100 := by rw [List.length_take]; omega
      have hi := (hx _ (List.getElem_mem hj')).2.1
      rw [accOf_take hj', List.length_append]
      generalize ss[j] = x at hg hi
      obtain ⟨⟨k0, i0, s0, t0, l0, f0⟩, n0, d0, items, vals⟩ := x
      have hm := msgsC_length items
      dsimp only at hi ⊢
      rw [← hm]
      exact ⟨⟨(heH (sltsC ss) (sltsC ss).length (j + 1) ((accOf (ss.take j)).length + (msgsC items).length)).tm, [.var (slotC k0 i0 s0 t0 (cellsL l0) (cellsF f0) n0 d0 (msgsC items) (cellsL vals))]⟩,
        run_of [(10, .b true), (11, .e (slotC k0 i0 s0 t0 (cellsL l0) (cellsF f0) n0 d0 (msgsC items) (cellsL vals))), (17, .i (Int.ofNat ((accOf (ss.take j)).length + (msgsC items).length))), (18, .i (Int.ofNat (j + 1)))] []
          (pf4 (lt_nat hj) hg (add_len (a := (accOf (ss.take j)).length) (b := (msgsC items).length) (by omega)) (next_nat (j := j) (by omega))) (lo' := []) (by kernel_rfl), by kernel_rfl⟩
    · have e : ss.take (sltsC ss).length = ss := List.take_of_length_le (by omega)
      rw [e]
      exact run_of [(10, .b false)] [] (pf1 (nlt_nat (Nat.lt_irrefl (sltsC ss).length))) (lo' := []) (by kernel_rfl)
  exact pure_of [] [(.exit 0, ⟨[(3, nat (accOf ss).length), (7, .sl false 10 (sltsC ss)), (8, nat (sltsC ss).length), (9, nat (sltsC ss).length), (10, boolX false)], []⟩)] (pf1 hloop) (x := nat (accOf ss).length) (bx := []) (by kernel_rfl) rfl
end Go.Proofs.YtckdgafiindddaaGreatDoor

/- The messages that wait in a state. -/
namespace Go.Proofs.YtckdgafiindddaaGreatDoor
open Go.Em
set_option maxRecDepth 100000

section
variable (l items acc : List (List X)) (n j k m i : Nat) (x : List X)
def waH : St := ⟨[(3, .bs 0 0 k), (9, .sl false 10 l), (10, nat n), (11, nat j)], [.row 10 acc]⟩
def wiH : St := ⟨[(3, .bs 0 0 k), (9, .sl false 10 l), (10, nat n), (11, nat j), (16, .sl false 10 items), (17, nat m), (18, nat i)], [.row 10 acc]⟩
def wiH' : St := ⟨[(3, .bs 2 0 (k + 1)), (9, .sl false 10 l), (10, nat n), (11, nat j), (16, .sl false 10 items), (17, nat m), (18, nat (i + 1))], [.dead, .var x, .row 10 (acc ++ [x])]⟩
def wiE : St := ⟨[(3, .bs 0 0 k), (9, .sl false 10 l), (10, nat n), (11, nat j), (16, .sl false 10 items), (17, nat m), (18, nat m), (19, boolX false)], [.row 10 acc]⟩
theorem wa_canon : canon 0 (waH l acc n j k) = some (waH l acc n j k) := by kernel_rfl
theorem wi_canon' : canon 0 (wiH' l items acc n j k m i x) = some (wiH l items (acc ++ [x]) n j (k + 1) m (i + 1)) := by kernel_rfl
end
theorem wi_loop (M : Nat) (hM : 190010 ≤ M) (l : List (List X)) (n j : Nat) (acc items : List Msg) (hok : ∀ m, m ∈ items → m.ok) (hl : acc.length + items.length ≤ 60000) {τ : St} (hτ : canon 0 τ = some (wiH l (msgsC items) (msgsC acc) n j acc.length (msgsC items).length 0)) :
    run (callF tab ext M) 0 M (.loop (loopAt 34 1)) τ = some (.exit 2, wiE l (msgsC items) (msgsC (acc ++ items)) n j (acc ++ items).length (msgsC items).length) := by
  have hn := msgsC_length items
  refine loop_for (σ := fun i => wiH l (msgsC items) (msgsC (acc ++ items.take i)) n j (acc ++ items.take i).length (msgsC items).length i) (k := (msgsC items).length) (by rw [List.take_zero, List.append_nil]; exact hτ) (fun i hi => ?_) ?_ (by simp) (by omega)
  · have hi' : i < items.length := by omega
    have hg := msgsC_get hi'
    have hc := clone_msg M items[i] (hok _ (List.getElem_mem hi')) (by omega)
    have hlen : (acc ++ items.take i).length = acc.length + i := by rw [List.length_append, List.length_take]; omega
    have hml := msgsC_length (acc ++ items.take i)
    have e1 : acc ++ items.take (i + 1) = (acc ++ items.take i) ++ [items[i]] := by rw [List.take_succ_eq_append_getElem hi', List.append_assoc]
    have e2 : msgsC ((acc ++ items.take i) ++ [items[i]]) = msgsC (acc ++ items.take i) ++ [items[i].cells] := by simp only [msgsC, List.map_append, List.map_cons, List.map_nil]
    have e3 : ((acc ++ items.take i) ++ [items[i]]).length = (acc ++ items.take i).length + 1 := List.length_append.trans rfl
    rw [e1, e2, e3]
    generalize items[i] = x at hg hc
    obtain ⟨⟨a1, a2⟩, a3, a4, a5, a6, a7, a8, a9, a0⟩ := x
    generalize acc ++ items.take i = q at hlen hml
    exact ⟨wiH' l (msgsC items) (msgsC q) n j q.length (msgsC items).length i (Msg.mk ⟨a1, a2⟩ a3 a4 (Val.mk a5 a6 a7 a8 a9 a0)).cells,
      run_of [(19, .b true), (20, .e (Msg.mk ⟨a1, a2⟩ a3 a4 (Val.mk a5 a6 a7 a8 a9 a0)).cells), (24, .p (.agg (Msg.mk ⟨a1, a2⟩ a3 a4 (Val.mk a5 a6 a7 a8 a9 a0)).cells)), (26, .app), (27, .i (Int.ofNat (i + 1)))] []
        (pf5 (lt_nat hi) hg hc (app_ok (acc := msgsC q) q.length 0 152 (by omega) (by omega) (by omega)) (next_nat (j := i) (by omega))) (lo' := []) (by kernel_rfl), wi_canon' ..⟩
  · have e : items.take (msgsC items).length = items := List.take_of_length_le (by omega)
    rw [e]
    exact run_of [(19, .b false)] [] (pf1 (nlt_nat (Nat.lt_irrefl (msgsC items).length))) (lo' := []) (by kernel_rfl)
theorem waiting_pure (s : Stt) (hs : s.small) (N : Nat) (hN : 190020 ≤ N) : Gam.pureD (callF tab ext N) 34 [.agg s.cells] = some (.sl false 10 (msgsC (accOf s.slots))) := by
  obtain ⟨M, rfl⟩ : ∃ M, N = M + 1 := ⟨N - 1, by omega⟩
  have hl := hs.slots
  have hx := hs.slot
  obtain ⟨a, b, ss⟩ := s
  dsimp only at hl hx ⊢
  have hn := sltsC_length ss
  have hloop : run (callF tab ext M) 0 M (.loop (loopAt 34 0)) ⟨[(3, .bs 1 0 0), (9, .sl false 10 (sltsC ss)), (10, nat (sltsC ss).length), (11, nat 0)], [.var [num a, num b, .sl false 10 (sltsC ss)], .row 10 []]⟩ = some (.exit 0, ⟨[(3, .bs 0 0 (accOf ss).length), (9, .sl false 10 (sltsC ss)), (10, nat (sltsC ss).length), (11, nat (sltsC ss).length), (12, boolX false)], [.row 10 (msgsC (accOf ss))]⟩) := by
    refine loop_for (σ := fun j => waH (sltsC ss) (msgsC (accOf (ss.take j))) (sltsC ss).length j (accOf (ss.take j)).length) (k := (sltsC ss).length) (by kernel_rfl) (fun j hj => ?_) ?_ (by simp) (by omega)
    · have hj' : j < ss.length := by omega
      have hg := sltsC_get hj'
      have hla := accOf_length (ss.take j) fun x hxx => (hx x (List.mem_of_mem_take hxx)).2.1
      have hlt : (ss.take j).length ≤ 100 := by rw [List.length_take]; omega
      obtain ⟨hok, hi, _⟩ := hx _ (List.getElem_mem hj')
      have hit := hok.item
      rw [accOf_take hj']
      generalize ss[j] = x at hg hi hit
      obtain ⟨⟨k0, i0, s0, t0, l0, f0⟩, n0, d0, items, vals⟩ := x
      dsimp only at hi hit ⊢
      generalize accOf (ss.take j) = q at hla ⊢
      have hw := wi_loop M (by omega) (sltsC ss) (sltsC ss).length j q items hit (by omega) (τ := ⟨[(3, .bs 0 0 q.length), (9, .sl false 10 (sltsC ss)), (10, nat (sltsC ss).length), (11, nat j), (16, .sl false 10 (msgsC items)), (17, nat (msgsC items).length), (18, nat 0)], [.row 10 (msgsC q), .var (slotC k0 i0 s0 t0 (cellsL l0) (cellsF f0) n0 d0 (msgsC items) (cellsL vals))]⟩) (by kernel_rfl)
      exact ⟨waH (sltsC ss) (msgsC (q ++ items)) (sltsC ss).length (j + 1) (q ++ items).length, run_of [(12, .b true), (13, .e (slotC k0 i0 s0 t0 (cellsL l0) (cellsF f0) n0 d0 (msgsC items) (cellsL vals))), (28, .i (Int.ofNat (j + 1)))] [(.exit 2, wiE (sltsC ss) (msgsC items) (msgsC (q ++ items)) (sltsC ss).length j (q ++ items).length (msgsC items).length)]
        (pf4 (lt_nat hj) hg hw (next_nat (j := j) (by omega))) (lo' := []) (by kernel_rfl), wa_canon ..⟩
    · have e : ss.take (sltsC ss).length = ss := List.take_of_length_le (by omega)
      rw [e]
      exact run_of [(12, .b false)] [] (pf1 (nlt_nat (Nat.lt_irrefl (sltsC ss).length))) (lo' := []) (by kernel_rfl)
  have hd : (X.bs 0 0 (accOf ss).length).data [.row 10 (msgsC (accOf ss))] false = some (.sl false 10 (msgsC (accOf ss))) := by
    have hml := msgsC_length (accOf ss)
    simp only [X.data, rowOf, List.getElem?_cons_zero, Nat.zero_add, hml, Nat.le_refl, if_true, Option.map_some, List.drop_zero]
    rw [List.take_of_length_le (by omega)]
  exact pure_of [] [(.exit 0, ⟨[(3, .bs 0 0 (accOf ss).length), (9, .sl false 10 (sltsC ss)), (10, nat (sltsC ss).length), (11, nat (sltsC ss).length), (12, boolX false)], [.row 10 (msgsC (accOf ss))]⟩)] (pf1 hloop) (bx := [.row 10 (msgsC (accOf ss))]) (by kernel_rfl) hd
end Go.Proofs.YtckdgafiindddaaGreatDoor

/- Values, messages, states, inputs are cut to the sizes of layer 31. -/
namespace Go.Proofs.YtckdgafiindddaaGreatDoor
open Go.Em
set_option maxRecDepth 100000

def cutT (m : Nat) (t : ByteArray) : ByteArray := t.extract 0 (min t.size m)
/-- A value of n + 1 levels at most. -/
def shortV : Nat → Val → Val
  | 0, .mk k i s t _ _ => .mk k i s (cutT 40 t) [] []
  | n + 1, .mk k i s t l f => .mk k i s (cutT 40 t) ((l.take 6).map (shortV n)) ((f.take 6).map fun p => (cutT 40 p.1, shortV n p.2))

section
variable (lv k i s : Int) (t : ByteArray) (l f acc acc2 : List (List X)) (j m : Nat) (x y : List X)
end

end Go.Proofs.YtckdgafiindddaaGreatDoor

/- Messages, inputs, states are cut to the sizes of layer 31. -/
namespace Go.Proofs.YtckdgafiindddaaGreatDoor
open Go.Em
set_option maxRecDepth 100000

/-- An input. -/
structure Inp where
  kind : Int
  time : Int
  st : Stp
  m : Msg
  x : Int
  b1 : Bool
  b2 : Bool
  body : Val
def Inp.cells (i : Inp) : List X := num i.kind :: num i.time :: num i.st.e :: .sl false 1 (intsC i.st.p) :: num i.m.st.e :: .sl false 1 (intsC i.m.st.p) :: num i.m.mass :: .sl false 1 (intsC i.m.orig) :: (i.m.body.cells ++ num i.x :: boolX i.b1 :: boolX i.b2 :: i.body.cells)
section
variable (a b : Int) (l acc : List (List X)) (j : Nat) (k i s n t : Int) (tx : ByteArray) (vl vf its vs : List (List X)) (k' i' s' : Int) (tx' : ByteArray) (vl' vf' its' vs' : List (List X)) (z z2 : Nat) (x : List X)
end
section
variable (a b : Int) (l acc : List (List X)) (j : Nat) (k i s n t : Int) (tx : ByteArray) (vl vf its vs : List (List X)) (k' i' s' : Int) (tx' : ByteArray) (vl' vf' its' vs' : List (List X)) (z z2 : Nat) (x : List X)
end
/-! ### What is cut is small -/
end Go.Proofs.YtckdgafiindddaaGreatDoor

/- Expressions, mappings, types, nodes are cut: it comes to an end. -/
namespace Go.Proofs.YtckdgafiindddaaGreatDoor
open Go.Em
set_option maxRecDepth 100000

def isVal (c : List X) : Prop := ∃ v : Val, c = v.cells
/-- An expression whose arguments are looked at to a depth. -/
def isExp : Nat → List X → Prop
  | 0, c => ∃ o i t vs es, c = [num o, num i, strX t, .sl false 6 vs, .sl false 5 es] ∧ ∀ x, x ∈ vs → isVal x
  | n + 1, c => ∃ o i t vs es, c = [num o, num i, strX t, .sl false 6 vs, .sl false 5 es] ∧ (∀ x, x ∈ vs → isVal x) ∧ ∀ x, x ∈ es → isExp n x
section
variable (n : Nat) (o i : Int) (t : ByteArray) (l f : List (List X)) (acc : List (List X)) (j : Nat) (x : List X)
end
section
variable (n : Nat) (o i : Int) (t : ByteArray) (l f acc0 : List (List X)) (m : Nat) (acc : List (List X)) (j : Nat) (x : List X)
end
def isRule (c : List X) : Prop := ∃ t e, c = strX t :: e ∧ isExp 3 e
section
variable (l : List (List X)) (acc : List (List X)) (j : Nat) (x : List X)
end
end Go.Proofs.YtckdgafiindddaaGreatDoor
