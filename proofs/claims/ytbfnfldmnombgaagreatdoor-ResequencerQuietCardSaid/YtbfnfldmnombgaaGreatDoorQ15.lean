/- A round of the check of a state, exactly. -/
import Derived.Test.YtbfnfldmnombgaaGreatDoorQ12
import Derived.Test.YtbfnfldmnombgaaGreatDoorQ14
namespace Go.Proofs.YtbfnfldmnombgaaGreatDoor
open Go.Em
set_option maxRecDepth 100000

/-- What a round asks: of the key (ce: the key's own check; z: it is null; cc: its order behind the key before it), and of the slot. -/
def PscB (ce : Int) (z : Bool) (cc : Int) (sp : Prop) : Prop :=
  (if !(ce == 0) then z else true) = true ∧ (if cc == 0 then false else if cc == -1 then false else true) = true ∧ sp
def RdP (acc : List Msg) (k v : Nat) (x : Slt) (cc : Int) : Prop := PscB (chkV x.key) (nullV x.key) cc (SlP acc k v x)
theorem X1a : ((1 : Int) == 0) = false := by decide
theorem X1b : ((1 : Int) == -1) = false := by decide
section
variable {ce cc : Int} {z : Bool} {sp : Prop}
theorem nS (h : ¬ sp) : ¬ PscB ce z cc sp := fun hh => h hh.2.2
theorem nK (h : (!(ce == 0)) = true) : ¬ PscB ce false cc sp := fun hh => by have := hh.1; rw [h] at this; cases this
theorem nE (h : (cc == 0) = true) : ¬ PscB ce z cc sp := fun hh => by have := hh.2.1; rw [h] at this; cases this
theorem nL (h : (cc == -1) = true) : ¬ PscB ce z cc sp := fun hh => by have := hh.2.1; rw [h] at this; split at this <;> cases this
theorem yA (h : (!(ce == 0)) = true) (h2 : (cc == 0) = false) (h3 : (cc == -1) = false) (hs : sp) : PscB ce true cc sp := ⟨by rw [h]; rfl, by rw [h2, h3]; rfl, hs⟩
theorem yB (h : (!(ce == 0)) = false) (h2 : (cc == 0) = false) (h3 : (cc == -1) = false) (hs : sp) : PscB ce z cc sp := ⟨by rw [h]; rfl, by rw [h2, h3]; rfl, hs⟩
end
/-- What a round of the check of a state comes to. -/
def XcRound (P : Prop) (slots : List (List X)) (n j k v : Nat) (acc acc' : List (List X)) (a b : Int) (k' v' : Nat) : Prop :=
  (¬ P ∧ ∃ r, (∃ (c : Int) (bx : List Bx), c ≠ 0 ∧ r = ⟨[(2, num c)], bx⟩) ∧ ∀ M, 190050 ≤ M → run (callF tab ext M) 0 M (loopAt 27 0) (scSt slots slots n j k v acc a b) = some (.ret, r)) ∨
  (P ∧ ∃ υ, canon 0 υ = some (scSt slots slots n (j + 1) k' v' acc' a b) ∧ ∀ M, 190050 ≤ M → run (callF tab ext M) 0 M (loopAt 27 0) (scSt slots slots n j k v acc a b) = some (.norm, υ))
theorem xc_round (slots : List (List X)) (n j k v : Nat) (acc : List Msg) (a b : Int) (x : Slt) (hx : x.ok) (hacc : ∀ o, o ∈ acc → o.ok) (hk : k = acc.length) (hl : acc.length + x.items.length ≤ 60000) (hv : v ≤ 900000) (hj : j < n) (hn : n ≤ 60000) (hg : slots[j]? = some x.cells)
    (cc0 : Int) (hcc0 : j = 0 → cc0 = 1) (hprev : ∀ i, j = i + 1 → ∃ p : Slt, p.ok ∧ slots[i]? = some p.cells ∧ cc0 = cmpV x.key p.key) :
    XcRound (RdP acc k v x cc0) slots n j k v (msgsC acc) (msgsC (acc ++ x.items)) a b (k + x.items.length) (v + (cellsL x.vals).length) := by
  have hce : ∀ M, 120040 ≤ M → _ := fun M hM => chkV_at hx.key M (by have := hx.key; unfold Val.ok at this; omega)
  have hz : ∀ N, 120040 ≤ N → Gam.pureD (callF tab ext N) 48 [.agg x.key.cells] = some (boolX (nullV x.key)) := fun N hN => null_at x.key N (by omega)
  have hcmp : ∀ (p : Slt) N, 190050 ≤ N → Gam.pureD (callF tab ext N) 49 [.agg x.key.cells, .agg p.key.cells] = some (num (cmpV x.key p.key)) := fun p N hN => cmp_val x.key.size N x.key p.key (Nat.le_refl _) (by have := hx.key; unfold Val.ok at this; omega) (by have := hx.key; unfold Val.ok at this; omega)
  have hs := slot_ex x hx acc k v hacc hk hl hv
  have hlt := lt_nat hj
  unfold RdP
  generalize chkV x.key = ce at hce ⊢
  generalize SlP acc k v x = sp at hs ⊢
  generalize nullV x.key = z at hz ⊢
  obtain ⟨⟨k0, i0, s0, t0, l0, f0⟩, n0, d0, items, vals⟩ := x
  dsimp only at hce hz hcmp hs hl ⊢
  unfold XcRound
  cases j with
  | zero =>
    have hc1 := hcc0 rfl
    subst hc1
    cases h1 : (!(ce == 0)) with
    | true =>
      cases z with
      | true =>
        rcases hs with ⟨hsp, c, f, k1, v1, acc1, hc, hs⟩ | ⟨hsp, hs⟩
        · have hne := ne_true hc
          cases f with
          | false => exact .inl ⟨(by first | exact nS hsp | exact nK h1 | exact nE h2 | exact nE h4 | exact nL h3 | exact nL h5), ⟨[(2, num c)], [.var [num a, num b, .sl false 10 slots], .var [.bs 2 0 k1, nat v1], .row 10 acc1, .var (slotC k0 i0 s0 t0 (cellsL l0) (cellsF f0) n0 d0 (msgsC items) (cellsL vals))]⟩, ⟨_, _, (by first | exact hc | decide | (intro h0; rw [h0] at h1; cases h1)), rfl⟩, fun M hM => run_of [(25, .b true), (27, .e (slotC k0 i0 s0 t0 (cellsL l0) (cellsF f0) n0 d0 (msgsC items) (cellsL vals))), (31, .p (num ce)), (33, .b true), (37, .p (boolX true)), (42, .b false), (58, .r (num c) (cvB false k1 v1 acc1)), (60, .b true)] [] (pf8 hlt hg (hce M (by omega)) h1 (hz M (by omega)) zero_nat (hs M (by omega)) hne) (lo' := []) (by kernel_rfl)⟩
          | true => exact .inl ⟨(by first | exact nS hsp | exact nK h1 | exact nE h2 | exact nE h4 | exact nL h3 | exact nL h5), ⟨[(2, num c)], [.var [num a, num b, .sl false 10 slots], .var [.bs 4 0 k1, nat v1], .dead, .var (slotC k0 i0 s0 t0 (cellsL l0) (cellsF f0) n0 d0 (msgsC items) (cellsL vals)), .row 10 acc1]⟩, ⟨_, _, (by first | exact hc | decide | (intro h0; rw [h0] at h1; cases h1)), rfl⟩, fun M hM => run_of [(25, .b true), (27, .e (slotC k0 i0 s0 t0 (cellsL l0) (cellsF f0) n0 d0 (msgsC items) (cellsL vals))), (31, .p (num ce)), (33, .b true), (37, .p (boolX true)), (42, .b false), (58, .r (num c) (cvB true k1 v1 acc1)), (60, .b true)] [] (pf8 hlt hg (hce M (by omega)) h1 (hz M (by omega)) zero_nat (hs M (by omega)) hne) (lo' := []) (by kernel_rfl)⟩
        · generalize hf : decide (0 < items.length) = f at hs
          cases f with
          | false =>
            exact .inr ⟨(by first | exact yA h1 h2 h3 hsp | exact yB h1 h4 h5 hsp | exact yA h1 X1a X1b hsp | exact yB h1 X1a X1b hsp), ⟨[(1, .ptr 0 0 0), (4, .ptr 1 0 0), (22, .sl false 10 slots), (23, nat n), (24, nat (0 + 1))], [.var [num a, num b, .sl false 10 slots], .var [.bs 2 0 (k + items.length), nat (v + (cellsL vals).length)], .row 10 (msgsC (acc ++ items)), .var (slotC k0 i0 s0 t0 (cellsL l0) (cellsF f0) n0 d0 (msgsC items) (cellsL vals))]⟩, by kernel_rfl, fun M hM => run_of [(25, .b true), (27, .e (slotC k0 i0 s0 t0 (cellsL l0) (cellsF f0) n0 d0 (msgsC items) (cellsL vals))), (31, .p (num ce)), (33, .b true), (37, .p (boolX true)), (42, .b false), (58, .r (num 0) (cvB false (k + items.length) (v + (cellsL vals).length) (msgsC (acc ++ items)))), (62, .i (Int.ofNat (0 + 1)))] [] (pf8 hlt hg (hce M (by omega)) h1 (hz M (by omega)) zero_nat (hs M (by omega)) (next_nat (j := 0) (by omega))) (lo' := []) (by kernel_rfl)⟩
          | true =>
            exact .inr ⟨(by first | exact yA h1 h2 h3 hsp | exact yB h1 h4 h5 hsp | exact yA h1 X1a X1b hsp | exact yB h1 X1a X1b hsp), ⟨[(1, .ptr 0 0 0), (4, .ptr 1 0 0), (22, .sl false 10 slots), (23, nat n), (24, nat (0 + 1))], [.var [num a, num b, .sl false 10 slots], .var [.bs 4 0 (k + items.length), nat (v + (cellsL vals).length)], .dead, .var (slotC k0 i0 s0 t0 (cellsL l0) (cellsF f0) n0 d0 (msgsC items) (cellsL vals)), .row 10 (msgsC (acc ++ items))]⟩, by kernel_rfl, fun M hM => run_of [(25, .b true), (27, .e (slotC k0 i0 s0 t0 (cellsL l0) (cellsF f0) n0 d0 (msgsC items) (cellsL vals))), (31, .p (num ce)), (33, .b true), (37, .p (boolX true)), (42, .b false), (58, .r (num 0) (cvB true (k + items.length) (v + (cellsL vals).length) (msgsC (acc ++ items)))), (62, .i (Int.ofNat (0 + 1)))] [] (pf8 hlt hg (hce M (by omega)) h1 (hz M (by omega)) zero_nat (hs M (by omega)) (next_nat (j := 0) (by omega))) (lo' := []) (by kernel_rfl)⟩
      | false =>
        exact .inl ⟨(by first | exact nS hsp | exact nK h1 | exact nE h2 | exact nE h4 | exact nL h3 | exact nL h5), ⟨[(2, num ce)], [.var [num a, num b, .sl false 10 slots], .var [.bs 2 0 k, nat v], .row 10 (msgsC acc), .var (slotC k0 i0 s0 t0 (cellsL l0) (cellsF f0) n0 d0 (msgsC items) (cellsL vals))]⟩, ⟨_, _, (by first | exact hc | decide | (intro h0; rw [h0] at h1; cases h1)), rfl⟩, fun M hM => run_of [(25, .b true), (27, .e (slotC k0 i0 s0 t0 (cellsL l0) (cellsF f0) n0 d0 (msgsC items) (cellsL vals))), (31, .p (num ce)), (33, .b true), (37, .p (boolX false))] [] (pf5 hlt hg (hce M (by omega)) h1 (hz M (by omega))) (lo' := []) (by kernel_rfl)⟩
    | false =>
      rcases hs with ⟨hsp, c, f, k1, v1, acc1, hc, hs⟩ | ⟨hsp, hs⟩
      · have hne := ne_true hc
        cases f with
        | false => exact .inl ⟨(by first | exact nS hsp | exact nK h1 | exact nE h2 | exact nE h4 | exact nL h3 | exact nL h5), ⟨[(2, num c)], [.var [num a, num b, .sl false 10 slots], .var [.bs 2 0 k1, nat v1], .row 10 acc1, .var (slotC k0 i0 s0 t0 (cellsL l0) (cellsF f0) n0 d0 (msgsC items) (cellsL vals))]⟩, ⟨_, _, (by first | exact hc | decide | (intro h0; rw [h0] at h1; cases h1)), rfl⟩, fun M hM => run_of [(25, .b true), (27, .e (slotC k0 i0 s0 t0 (cellsL l0) (cellsF f0) n0 d0 (msgsC items) (cellsL vals))), (31, .p (num ce)), (33, .b false), (42, .b false), (58, .r (num c) (cvB false k1 v1 acc1)), (60, .b true)] [] (pf7 hlt hg (hce M (by omega)) h1 zero_nat (hs M (by omega)) hne) (lo' := []) (by kernel_rfl)⟩
        | true => exact .inl ⟨(by first | exact nS hsp | exact nK h1 | exact nE h2 | exact nE h4 | exact nL h3 | exact nL h5), ⟨[(2, num c)], [.var [num a, num b, .sl false 10 slots], .var [.bs 4 0 k1, nat v1], .dead, .var (slotC k0 i0 s0 t0 (cellsL l0) (cellsF f0) n0 d0 (msgsC items) (cellsL vals)), .row 10 acc1]⟩, ⟨_, _, (by first | exact hc | decide | (intro h0; rw [h0] at h1; cases h1)), rfl⟩, fun M hM => run_of [(25, .b true), (27, .e (slotC k0 i0 s0 t0 (cellsL l0) (cellsF f0) n0 d0 (msgsC items) (cellsL vals))), (31, .p (num ce)), (33, .b false), (42, .b false), (58, .r (num c) (cvB true k1 v1 acc1)), (60, .b true)] [] (pf7 hlt hg (hce M (by omega)) h1 zero_nat (hs M (by omega)) hne) (lo' := []) (by kernel_rfl)⟩
      · generalize hf : decide (0 < items.length) = f at hs
        cases f with
        | false =>
          exact .inr ⟨(by first | exact yA h1 h2 h3 hsp | exact yB h1 h4 h5 hsp | exact yA h1 X1a X1b hsp | exact yB h1 X1a X1b hsp), ⟨[(1, .ptr 0 0 0), (4, .ptr 1 0 0), (22, .sl false 10 slots), (23, nat n), (24, nat (0 + 1))], [.var [num a, num b, .sl false 10 slots], .var [.bs 2 0 (k + items.length), nat (v + (cellsL vals).length)], .row 10 (msgsC (acc ++ items)), .var (slotC k0 i0 s0 t0 (cellsL l0) (cellsF f0) n0 d0 (msgsC items) (cellsL vals))]⟩, by kernel_rfl, fun M hM => run_of [(25, .b true), (27, .e (slotC k0 i0 s0 t0 (cellsL l0) (cellsF f0) n0 d0 (msgsC items) (cellsL vals))), (31, .p (num ce)), (33, .b false), (42, .b false), (58, .r (num 0) (cvB false (k + items.length) (v + (cellsL vals).length) (msgsC (acc ++ items)))), (62, .i (Int.ofNat (0 + 1)))] [] (pf7 hlt hg (hce M (by omega)) h1 zero_nat (hs M (by omega)) (next_nat (j := 0) (by omega))) (lo' := []) (by kernel_rfl)⟩
        | true =>
          exact .inr ⟨(by first | exact yA h1 h2 h3 hsp | exact yB h1 h4 h5 hsp | exact yA h1 X1a X1b hsp | exact yB h1 X1a X1b hsp), ⟨[(1, .ptr 0 0 0), (4, .ptr 1 0 0), (22, .sl false 10 slots), (23, nat n), (24, nat (0 + 1))], [.var [num a, num b, .sl false 10 slots], .var [.bs 4 0 (k + items.length), nat (v + (cellsL vals).length)], .dead, .var (slotC k0 i0 s0 t0 (cellsL l0) (cellsF f0) n0 d0 (msgsC items) (cellsL vals)), .row 10 (msgsC (acc ++ items))]⟩, by kernel_rfl, fun M hM => run_of [(25, .b true), (27, .e (slotC k0 i0 s0 t0 (cellsL l0) (cellsF f0) n0 d0 (msgsC items) (cellsL vals))), (31, .p (num ce)), (33, .b false), (42, .b false), (58, .r (num 0) (cvB true (k + items.length) (v + (cellsL vals).length) (msgsC (acc ++ items)))), (62, .i (Int.ofNat (0 + 1)))] [] (pf7 hlt hg (hce M (by omega)) h1 zero_nat (hs M (by omega)) (next_nat (j := 0) (by omega))) (lo' := []) (by kernel_rfl)⟩
  | succ j =>
    obtain ⟨p, hpo, hp, hc1⟩ := hprev j rfl
    have hc1 := hc1.symm
    have hcc := hcmp p
    generalize cmpV (Val.mk k0 i0 s0 t0 l0 f0) p.key = cc at hcc hc1
    subst hc1
    obtain ⟨⟨p0, p1, p2, p3, p4, p5⟩, p6, p7, p8, p9⟩ := p
    cases h1 : (!(ce == 0)) with
    | true =>
      cases z with
      | true =>
        cases h2 : (cc == 0) with
        | true =>
          exact .inl ⟨(by first | exact nS hsp | exact nK h1 | exact nE h2 | exact nE h4 | exact nL h3 | exact nL h5), ⟨[(2, num 7)], [.var [num a, num b, .sl false 10 slots], .var [.bs 2 0 k, nat v], .row 10 (msgsC acc), .var (slotC k0 i0 s0 t0 (cellsL l0) (cellsF f0) n0 d0 (msgsC items) (cellsL vals))]⟩, ⟨_, _, (by first | exact hc | decide | (intro h0; rw [h0] at h1; cases h1)), rfl⟩, fun M hM => run_of [(25, .b true), (27, .e (slotC k0 i0 s0 t0 (cellsL l0) (cellsF f0) n0 d0 (msgsC items) (cellsL vals))), (31, .p (num ce)), (33, .b true), (37, .p (boolX true)), (42, .b true), (48, .i (Int.ofNat j)), (49, .e (slotC p0 p1 p2 p3 (cellsL p4) (cellsF p5) p6 p7 (msgsC p8) (cellsL p9))), (52, .p (num cc)), (54, .b true)] [] (pf10 hlt hg (hce M (by omega)) h1 (hz M (by omega)) (pos_nat (j := j)) (pred_nat (j := j) (by omega)) hp (hcc M hM) h2) (lo' := []) (by kernel_rfl)⟩
        | false =>
          cases h3 : (cc == -1) with
          | true =>
            exact .inl ⟨(by first | exact nS hsp | exact nK h1 | exact nE h2 | exact nE h4 | exact nL h3 | exact nL h5), ⟨[(2, num 24)], [.var [num a, num b, .sl false 10 slots], .var [.bs 2 0 k, nat v], .row 10 (msgsC acc), .var (slotC k0 i0 s0 t0 (cellsL l0) (cellsF f0) n0 d0 (msgsC items) (cellsL vals))]⟩, ⟨_, _, (by first | exact hc | decide | (intro h0; rw [h0] at h1; cases h1)), rfl⟩, fun M hM => run_of [(25, .b true), (27, .e (slotC k0 i0 s0 t0 (cellsL l0) (cellsF f0) n0 d0 (msgsC items) (cellsL vals))), (31, .p (num ce)), (33, .b true), (37, .p (boolX true)), (42, .b true), (48, .i (Int.ofNat j)), (49, .e (slotC p0 p1 p2 p3 (cellsL p4) (cellsF p5) p6 p7 (msgsC p8) (cellsL p9))), (52, .p (num cc)), (54, .b false), (56, .b true)] [] (pf11 hlt hg (hce M (by omega)) h1 (hz M (by omega)) (pos_nat (j := j)) (pred_nat (j := j) (by omega)) hp (hcc M hM) h2 h3) (lo' := []) (by kernel_rfl)⟩
          | false =>
            rcases hs with ⟨hsp, c, f, k1, v1, acc1, hc, hs⟩ | ⟨hsp, hs⟩
            · have hne := ne_true hc
              cases f with
              | false => exact .inl ⟨(by first | exact nS hsp | exact nK h1 | exact nE h2 | exact nE h4 | exact nL h3 | exact nL h5), ⟨[(2, num c)], [.var [num a, num b, .sl false 10 slots], .var [.bs 2 0 k1, nat v1], .row 10 acc1, .var (slotC k0 i0 s0 t0 (cellsL l0) (cellsF f0) n0 d0 (msgsC items) (cellsL vals))]⟩, ⟨_, _, (by first | exact hc | decide | (intro h0; rw [h0] at h1; cases h1)), rfl⟩, fun M hM => run_of [(25, .b true), (27, .e (slotC k0 i0 s0 t0 (cellsL l0) (cellsF f0) n0 d0 (msgsC items) (cellsL vals))), (31, .p (num ce)), (33, .b true), (37, .p (boolX true)), (42, .b true), (48, .i (Int.ofNat j)), (49, .e (slotC p0 p1 p2 p3 (cellsL p4) (cellsF p5) p6 p7 (msgsC p8) (cellsL p9))), (52, .p (num cc)), (54, .b false), (56, .b false), (58, .r (num c) (cvB false k1 v1 acc1)), (60, .b true)] [] (pf13 hlt hg (hce M (by omega)) h1 (hz M (by omega)) (pos_nat (j := j)) (pred_nat (j := j) (by omega)) hp (hcc M hM) h2 h3 (hs M (by omega)) hne) (lo' := []) (by kernel_rfl)⟩
              | true => exact .inl ⟨(by first | exact nS hsp | exact nK h1 | exact nE h2 | exact nE h4 | exact nL h3 | exact nL h5), ⟨[(2, num c)], [.var [num a, num b, .sl false 10 slots], .var [.bs 4 0 k1, nat v1], .dead, .var (slotC k0 i0 s0 t0 (cellsL l0) (cellsF f0) n0 d0 (msgsC items) (cellsL vals)), .row 10 acc1]⟩, ⟨_, _, (by first | exact hc | decide | (intro h0; rw [h0] at h1; cases h1)), rfl⟩, fun M hM => run_of [(25, .b true), (27, .e (slotC k0 i0 s0 t0 (cellsL l0) (cellsF f0) n0 d0 (msgsC items) (cellsL vals))), (31, .p (num ce)), (33, .b true), (37, .p (boolX true)), (42, .b true), (48, .i (Int.ofNat j)), (49, .e (slotC p0 p1 p2 p3 (cellsL p4) (cellsF p5) p6 p7 (msgsC p8) (cellsL p9))), (52, .p (num cc)), (54, .b false), (56, .b false), (58, .r (num c) (cvB true k1 v1 acc1)), (60, .b true)] [] (pf13 hlt hg (hce M (by omega)) h1 (hz M (by omega)) (pos_nat (j := j)) (pred_nat (j := j) (by omega)) hp (hcc M hM) h2 h3 (hs M (by omega)) hne) (lo' := []) (by kernel_rfl)⟩
            · generalize hf : decide (0 < items.length) = f at hs
              cases f with
              | false =>
                exact .inr ⟨(by first | exact yA h1 h2 h3 hsp | exact yB h1 h4 h5 hsp | exact yA h1 X1a X1b hsp | exact yB h1 X1a X1b hsp), ⟨[(1, .ptr 0 0 0), (4, .ptr 1 0 0), (22, .sl false 10 slots), (23, nat n), (24, nat ((j + 1) + 1))], [.var [num a, num b, .sl false 10 slots], .var [.bs 2 0 (k + items.length), nat (v + (cellsL vals).length)], .row 10 (msgsC (acc ++ items)), .var (slotC k0 i0 s0 t0 (cellsL l0) (cellsF f0) n0 d0 (msgsC items) (cellsL vals))]⟩, by kernel_rfl, fun M hM => run_of [(25, .b true), (27, .e (slotC k0 i0 s0 t0 (cellsL l0) (cellsF f0) n0 d0 (msgsC items) (cellsL vals))), (31, .p (num ce)), (33, .b true), (37, .p (boolX true)), (42, .b true), (48, .i (Int.ofNat j)), (49, .e (slotC p0 p1 p2 p3 (cellsL p4) (cellsF p5) p6 p7 (msgsC p8) (cellsL p9))), (52, .p (num cc)), (54, .b false), (56, .b false), (58, .r (num 0) (cvB false (k + items.length) (v + (cellsL vals).length) (msgsC (acc ++ items)))), (62, .i (Int.ofNat ((j + 1) + 1)))] [] (pf13 hlt hg (hce M (by omega)) h1 (hz M (by omega)) (pos_nat (j := j)) (pred_nat (j := j) (by omega)) hp (hcc M hM) h2 h3 (hs M (by omega)) (next_nat (j := (j + 1)) (by omega))) (lo' := []) (by kernel_rfl)⟩
              | true =>
                exact .inr ⟨(by first | exact yA h1 h2 h3 hsp | exact yB h1 h4 h5 hsp | exact yA h1 X1a X1b hsp | exact yB h1 X1a X1b hsp), ⟨[(1, .ptr 0 0 0), (4, .ptr 1 0 0), (22, .sl false 10 slots), (23, nat n), (24, nat ((j + 1) + 1))], [.var [num a, num b, .sl false 10 slots], .var [.bs 4 0 (k + items.length), nat (v + (cellsL vals).length)], .dead, .var (slotC k0 i0 s0 t0 (cellsL l0) (cellsF f0) n0 d0 (msgsC items) (cellsL vals)), .row 10 (msgsC (acc ++ items))]⟩, by kernel_rfl, fun M hM => run_of [(25, .b true), (27, .e (slotC k0 i0 s0 t0 (cellsL l0) (cellsF f0) n0 d0 (msgsC items) (cellsL vals))), (31, .p (num ce)), (33, .b true), (37, .p (boolX true)), (42, .b true), (48, .i (Int.ofNat j)), (49, .e (slotC p0 p1 p2 p3 (cellsL p4) (cellsF p5) p6 p7 (msgsC p8) (cellsL p9))), (52, .p (num cc)), (54, .b false), (56, .b false), (58, .r (num 0) (cvB true (k + items.length) (v + (cellsL vals).length) (msgsC (acc ++ items)))), (62, .i (Int.ofNat ((j + 1) + 1)))] [] (pf13 hlt hg (hce M (by omega)) h1 (hz M (by omega)) (pos_nat (j := j)) (pred_nat (j := j) (by omega)) hp (hcc M hM) h2 h3 (hs M (by omega)) (next_nat (j := (j + 1)) (by omega))) (lo' := []) (by kernel_rfl)⟩
      | false =>
        exact .inl ⟨(by first | exact nS hsp | exact nK h1 | exact nE h2 | exact nE h4 | exact nL h3 | exact nL h5), ⟨[(2, num ce)], [.var [num a, num b, .sl false 10 slots], .var [.bs 2 0 k, nat v], .row 10 (msgsC acc), .var (slotC k0 i0 s0 t0 (cellsL l0) (cellsF f0) n0 d0 (msgsC items) (cellsL vals))]⟩, ⟨_, _, (by first | exact hc | decide | (intro h0; rw [h0] at h1; cases h1)), rfl⟩, fun M hM => run_of [(25, .b true), (27, .e (slotC k0 i0 s0 t0 (cellsL l0) (cellsF f0) n0 d0 (msgsC items) (cellsL vals))), (31, .p (num ce)), (33, .b true), (37, .p (boolX false))] [] (pf5 hlt hg (hce M (by omega)) h1 (hz M (by omega))) (lo' := []) (by kernel_rfl)⟩
    | false =>
      cases h4 : (cc == 0) with
      | true =>
        exact .inl ⟨(by first | exact nS hsp | exact nK h1 | exact nE h2 | exact nE h4 | exact nL h3 | exact nL h5), ⟨[(2, num 7)], [.var [num a, num b, .sl false 10 slots], .var [.bs 2 0 k, nat v], .row 10 (msgsC acc), .var (slotC k0 i0 s0 t0 (cellsL l0) (cellsF f0) n0 d0 (msgsC items) (cellsL vals))]⟩, ⟨_, _, (by first | exact hc | decide | (intro h0; rw [h0] at h1; cases h1)), rfl⟩, fun M hM => run_of [(25, .b true), (27, .e (slotC k0 i0 s0 t0 (cellsL l0) (cellsF f0) n0 d0 (msgsC items) (cellsL vals))), (31, .p (num ce)), (33, .b false), (42, .b true), (48, .i (Int.ofNat j)), (49, .e (slotC p0 p1 p2 p3 (cellsL p4) (cellsF p5) p6 p7 (msgsC p8) (cellsL p9))), (52, .p (num cc)), (54, .b true)] [] (pf9 hlt hg (hce M (by omega)) h1 (pos_nat (j := j)) (pred_nat (j := j) (by omega)) hp (hcc M hM) h4) (lo' := []) (by kernel_rfl)⟩
      | false =>
        cases h5 : (cc == -1) with
        | true =>
          exact .inl ⟨(by first | exact nS hsp | exact nK h1 | exact nE h2 | exact nE h4 | exact nL h3 | exact nL h5), ⟨[(2, num 24)], [.var [num a, num b, .sl false 10 slots], .var [.bs 2 0 k, nat v], .row 10 (msgsC acc), .var (slotC k0 i0 s0 t0 (cellsL l0) (cellsF f0) n0 d0 (msgsC items) (cellsL vals))]⟩, ⟨_, _, (by first | exact hc | decide | (intro h0; rw [h0] at h1; cases h1)), rfl⟩, fun M hM => run_of [(25, .b true), (27, .e (slotC k0 i0 s0 t0 (cellsL l0) (cellsF f0) n0 d0 (msgsC items) (cellsL vals))), (31, .p (num ce)), (33, .b false), (42, .b true), (48, .i (Int.ofNat j)), (49, .e (slotC p0 p1 p2 p3 (cellsL p4) (cellsF p5) p6 p7 (msgsC p8) (cellsL p9))), (52, .p (num cc)), (54, .b false), (56, .b true)] [] (pf10 hlt hg (hce M (by omega)) h1 (pos_nat (j := j)) (pred_nat (j := j) (by omega)) hp (hcc M hM) h4 h5) (lo' := []) (by kernel_rfl)⟩
        | false =>
          rcases hs with ⟨hsp, c, f, k1, v1, acc1, hc, hs⟩ | ⟨hsp, hs⟩
          · have hne := ne_true hc
            cases f with
            | false => exact .inl ⟨(by first | exact nS hsp | exact nK h1 | exact nE h2 | exact nE h4 | exact nL h3 | exact nL h5), ⟨[(2, num c)], [.var [num a, num b, .sl false 10 slots], .var [.bs 2 0 k1, nat v1], .row 10 acc1, .var (slotC k0 i0 s0 t0 (cellsL l0) (cellsF f0) n0 d0 (msgsC items) (cellsL vals))]⟩, ⟨_, _, (by first | exact hc | decide | (intro h0; rw [h0] at h1; cases h1)), rfl⟩, fun M hM => run_of [(25, .b true), (27, .e (slotC k0 i0 s0 t0 (cellsL l0) (cellsF f0) n0 d0 (msgsC items) (cellsL vals))), (31, .p (num ce)), (33, .b false), (42, .b true), (48, .i (Int.ofNat j)), (49, .e (slotC p0 p1 p2 p3 (cellsL p4) (cellsF p5) p6 p7 (msgsC p8) (cellsL p9))), (52, .p (num cc)), (54, .b false), (56, .b false), (58, .r (num c) (cvB false k1 v1 acc1)), (60, .b true)] [] (pf12 hlt hg (hce M (by omega)) h1 (pos_nat (j := j)) (pred_nat (j := j) (by omega)) hp (hcc M hM) h4 h5 (hs M (by omega)) hne) (lo' := []) (by kernel_rfl)⟩
            | true => exact .inl ⟨(by first | exact nS hsp | exact nK h1 | exact nE h2 | exact nE h4 | exact nL h3 | exact nL h5), ⟨[(2, num c)], [.var [num a, num b, .sl false 10 slots], .var [.bs 4 0 k1, nat v1], .dead, .var (slotC k0 i0 s0 t0 (cellsL l0) (cellsF f0) n0 d0 (msgsC items) (cellsL vals)), .row 10 acc1]⟩, ⟨_, _, (by first | exact hc | decide | (intro h0; rw [h0] at h1; cases h1)), rfl⟩, fun M hM => run_of [(25, .b true), (27, .e (slotC k0 i0 s0 t0 (cellsL l0) (cellsF f0) n0 d0 (msgsC items) (cellsL vals))), (31, .p (num ce)), (33, .b false), (42, .b true), (48, .i (Int.ofNat j)), (49, .e (slotC p0 p1 p2 p3 (cellsL p4) (cellsF p5) p6 p7 (msgsC p8) (cellsL p9))), (52, .p (num cc)), (54, .b false), (56, .b false), (58, .r (num c) (cvB true k1 v1 acc1)), (60, .b true)] [] (pf12 hlt hg (hce M (by omega)) h1 (pos_nat (j := j)) (pred_nat (j := j) (by omega)) hp (hcc M hM) h4 h5 (hs M (by omega)) hne) (lo' := []) (by kernel_rfl)⟩
          · generalize hf : decide (0 < items.length) = f at hs
            cases f with
            | false =>
              exact .inr ⟨(by first | exact yA h1 h2 h3 hsp | exact yB h1 h4 h5 hsp | exact yA h1 X1a X1b hsp | exact yB h1 X1a X1b hsp), ⟨[(1, .ptr 0 0 0), (4, .ptr 1 0 0), (22, .sl false 10 slots), (23, nat n), (24, nat ((j + 1) + 1))], [.var [num a, num b, .sl false 10 slots], .var [.bs 2 0 (k + items.length), nat (v + (cellsL vals).length)], .row 10 (msgsC (acc ++ items)), .var (slotC k0 i0 s0 t0 (cellsL l0) (cellsF f0) n0 d0 (msgsC items) (cellsL vals))]⟩, by kernel_rfl, fun M hM => run_of [(25, .b true), (27, .e (slotC k0 i0 s0 t0 (cellsL l0) (cellsF f0) n0 d0 (msgsC items) (cellsL vals))), (31, .p (num ce)), (33, .b false), (42, .b true), (48, .i (Int.ofNat j)), (49, .e (slotC p0 p1 p2 p3 (cellsL p4) (cellsF p5) p6 p7 (msgsC p8) (cellsL p9))), (52, .p (num cc)), (54, .b false), (56, .b false), (58, .r (num 0) (cvB false (k + items.length) (v + (cellsL vals).length) (msgsC (acc ++ items)))), (62, .i (Int.ofNat ((j + 1) + 1)))] [] (pf12 hlt hg (hce M (by omega)) h1 (pos_nat (j := j)) (pred_nat (j := j) (by omega)) hp (hcc M hM) h4 h5 (hs M (by omega)) (next_nat (j := (j + 1)) (by omega))) (lo' := []) (by kernel_rfl)⟩
            | true =>
              exact .inr ⟨(by first | exact yA h1 h2 h3 hsp | exact yB h1 h4 h5 hsp | exact yA h1 X1a X1b hsp | exact yB h1 X1a X1b hsp), ⟨[(1, .ptr 0 0 0), (4, .ptr 1 0 0), (22, .sl false 10 slots), (23, nat n), (24, nat ((j + 1) + 1))], [.var [num a, num b, .sl false 10 slots], .var [.bs 4 0 (k + items.length), nat (v + (cellsL vals).length)], .dead, .var (slotC k0 i0 s0 t0 (cellsL l0) (cellsF f0) n0 d0 (msgsC items) (cellsL vals)), .row 10 (msgsC (acc ++ items))]⟩, by kernel_rfl, fun M hM => run_of [(25, .b true), (27, .e (slotC k0 i0 s0 t0 (cellsL l0) (cellsF f0) n0 d0 (msgsC items) (cellsL vals))), (31, .p (num ce)), (33, .b false), (42, .b true), (48, .i (Int.ofNat j)), (49, .e (slotC p0 p1 p2 p3 (cellsL p4) (cellsF p5) p6 p7 (msgsC p8) (cellsL p9))), (52, .p (num cc)), (54, .b false), (56, .b false), (58, .r (num 0) (cvB true (k + items.length) (v + (cellsL vals).length) (msgsC (acc ++ items)))), (62, .i (Int.ofNat ((j + 1) + 1)))] [] (pf12 hlt hg (hce M (by omega)) h1 (pos_nat (j := j)) (pred_nat (j := j) (by omega)) hp (hcc M hM) h4 h5 (hs M (by omega)) (next_nat (j := (j + 1)) (by omega))) (lo' := []) (by kernel_rfl)⟩
end Go.Proofs.YtbfnfldmnombgaaGreatDoor

/- The check of a state, exactly. -/
namespace Go.Proofs.YtbfnfldmnombgaaGreatDoor
open Go.Em
set_option maxRecDepth 100000

/-- The order of a key behind the key before it. -/
def ccAt (ss : List Slt) (j : Nat) : Int := if j = 0 then 1 else match ss[j]?, ss[j - 1]? with
  | some x, some p => cmpV x.key p.key
  | _, _ => 1
/-- What the check of a state asks. -/
def StP (s : Stt) : Prop := chkN s.n s.t = 0 ∧ ∀ j (h : j < s.slots.length), RdP (accOf (s.slots.take j)) (accOf (s.slots.take j)).length (valsOf (s.slots.take j)) s.slots[j] (ccAt s.slots j)
theorem state_ex (s : Stt) (hs : s.small) : ∃ c : Int, (c = 0 ↔ StP s) ∧ ∀ N, 190060 ≤ N → Gam.pureD (callF tab ext N) 27 [.agg s.cells] = some (num c) := by
  have hc0 := chkN_at s.n s.t
  have hl := hs.slots
  have hx := hs.slot
  obtain ⟨a, b, ss⟩ := s
  unfold StP
  dsimp only at hc0 hl hx ⊢
  generalize chkN a b = c0 at hc0 ⊢
  have hn := sltsC_length ss
  have hloop := scanX (nIn := 0) (P := fun j => ∀ h : j < ss.length, RdP (accOf (ss.take j)) (accOf (ss.take j)).length (valsOf (ss.take j)) ss[j] (ccAt ss j)) (B := 190050) (b := loopAt 27 0) (H := fun j => scSt (sltsC ss) (sltsC ss) (sltsC ss).length j (accOf (ss.take j)).length (valsOf (ss.take j)) (msgsC (accOf (ss.take j))) a b)
    (τ := ⟨[(1, .ptr 0 0 0), (4, .ptr 1 0 0), (22, .sl false 10 (sltsC ss)), (23, nat (sltsC ss).length), (24, nat 0)], [.var [num a, num b, .sl false 10 (sltsC ss)], .var [.bs 2 0 0, nat 0], .row 10 []]⟩) (n := ss.length) (e := .exit 0)
    (fin := ⟨(scSt (sltsC ss) (sltsC ss) (sltsC ss).length (sltsC ss).length (accOf ss).length (valsOf ss) (msgsC (accOf ss)) a b).tm ++ [(25, boolX false)], (scSt (sltsC ss) (sltsC ss) (sltsC ss).length (sltsC ss).length (accOf ss).length (valsOf ss) (msgsC (accOf ss)) a b).bx⟩)
    (fun r => ∃ (c : Int) (bx : List Bx), c ≠ 0 ∧ r = ⟨[(2, num c)], bx⟩) (by kernel_rfl) (fun j hj => by
      have hg := sltsC_get hj
      have hxj := hx _ (List.getElem_mem hj)
      have hacc : ∀ o, o ∈ accOf (ss.take j) → o.ok := fun o ho => by
        obtain ⟨x, hxx, ho⟩ := List.mem_flatMap.1 ho
        exact (hx x (List.mem_of_mem_take hxx)).1.item o ho
      have hla := accOf_length (ss.take j) fun x hxx => (hx x (List.mem_of_mem_take hxx)).2.1
      have hlv := valsOf_le (ss.take j) fun x hxx => (hx x (List.mem_of_mem_take hxx)).2.2
      have hlt : (ss.take j).length ≤ 100 := by rw [List.length_take]; omega
      have hPj : (∀ h : j < ss.length, RdP (accOf (ss.take j)) (accOf (ss.take j)).length (valsOf (ss.take j)) ss[j] (ccAt ss j)) ↔ RdP (accOf (ss.take j)) (accOf (ss.take j)).length (valsOf (ss.take j)) ss[j] (ccAt ss j) := ⟨fun h => h hj, fun h _ => h⟩
      rw [hPj]
      have := xc_round (sltsC ss) (sltsC ss).length j (accOf (ss.take j)).length (valsOf (ss.take j)) (accOf (ss.take j)) a b ss[j] hxj.1 hacc rfl (by omega) (by omega) (by omega) (by omega) hg
        (ccAt ss j) (fun h => by unfold ccAt; rw [if_pos h]) (fun i hi => ⟨ss[i]'(by omega), (hx _ (List.getElem_mem (by omega))).1, sltsC_get (by omega), by
          subst hi
          unfold ccAt
          rw [if_neg (by omega), List.getElem?_eq_getElem hj, show i + 1 - 1 = i from rfl, List.getElem?_eq_getElem (show i < ss.length by omega)]⟩)
      have e1 : ss.take (j + 1) = ss.take j ++ [ss[j]] := List.take_succ_eq_append_getElem hj
      rw [e1, accOf_append, valsOf_append, List.length_append]
      exact this)
    (fun M _ => by
      rw [List.take_length, ← hn]
      exact run_of [(25, .b false)] [] (pf1 (nlt_nat (Nat.lt_irrefl (sltsC ss).length))) (lo' := []) (by kernel_rfl)) (by simp)
  cases h0 : (!(c0 == 0)) with
  | true =>
    refine ⟨c0, ⟨(fun h => by rw [h] at h0; cases h0), fun h => h.1⟩, fun N hN => ?_⟩
    obtain ⟨M, rfl⟩ : ∃ M, N = M + 1 := ⟨N - 1, by omega⟩
    exact pure_of [(13, .p (num c0)), (15, .b true)] [] (pf2 (hc0 M (by omega)) h0) (x := num c0) (bx := []) (by kernel_rfl) rfl
  | false =>
    have hz : c0 = 0 := by simpa using h0
    have h1 : decide (1024 < Int.ofNat (sltsC ss).length) = false := decide_eq_false (by simp only [Int.ofNat_eq_natCast]; omega)
    rcases hloop with ⟨hP, r, ⟨c, bx, hc, rfl⟩, h⟩ | ⟨hP, h⟩
    · refine ⟨c, ⟨fun h => absurd h hc, fun h => absurd (fun j _ => h.2 j) hP⟩, fun N hN => ?_⟩
      obtain ⟨M, rfl⟩ : ∃ M, N = M + 1 := ⟨N - 1, by omega⟩
      exact pure_of [(13, .p (num c0)), (15, .b false), (20, .b false)] [(.ret, ⟨[(2, num c)], bx⟩)] (pf4 (hc0 M (by omega)) h0 h1 (h M (by omega) (by omega))) (x := num c) (bx := []) (by kernel_rfl) rfl
    · refine ⟨0, ⟨fun _ => ⟨hz, fun j hj => hP j hj hj⟩, fun _ => rfl⟩, fun N hN => ?_⟩
      obtain ⟨M, rfl⟩ : ∃ M, N = M + 1 := ⟨N - 1, by omega⟩
      exact pure_of [(13, .p (num c0)), (15, .b false), (20, .b false)] [(.exit 0, ⟨(scSt (sltsC ss) (sltsC ss) (sltsC ss).length (sltsC ss).length (accOf ss).length (valsOf ss) (msgsC (accOf ss)) a b).tm ++ [(25, boolX false)], (scSt (sltsC ss) (sltsC ss) (sltsC ss).length (sltsC ss).length (accOf ss).length (valsOf ss) (msgsC (accOf ss)) a b).bx⟩)] (pf4 (hc0 M (by omega)) h0 h1 (h M (by omega) (by omega))) (x := num 0) (bx := []) (by kernel_rfl) rfl
end Go.Proofs.YtbfnfldmnombgaaGreatDoor

/- Values that compare as equal are one. -/
namespace Go.Proofs.YtbfnfldmnombgaaGreatDoor
open Go.Em
set_option maxRecDepth 100000

theorem ordI_zero {a b : Int} (h : ordI a b = 0) : a = b := by
  unfold ordI at h
  split at h
  · cases h
  · split at h
    · cases h
    · omega
theorem orL_zero : ∀ {l : List Int}, orL l = 0 → ∀ x, x ∈ l → x = 0
  | [], _, x, hx => by cases hx
  | y :: r, h, x, hx => by
    unfold orL at h
    split at h
    · rename_i h0
      rcases List.mem_cons.1 hx with rfl | hx
      · exact h0
      · exact orL_zero h x hx
    · rename_i h0; exact absurd h h0
theorem bytes_zero : ∀ {a b : List UInt8}, Lib.compareBytes a b = 0 → a = b := by
  intro a b
  induction a generalizing b with
  | nil => cases b <;> simp [Lib.compareBytes]
  | cons x r ih =>
    cases b with
    | nil => simp [Lib.compareBytes]
    | cons y s =>
      intro h
      unfold Lib.compareBytes at h
      split at h
      · cases h
      · split at h
        · cases h
        · rename_i h1 h2
          have e : x = y := UInt8.le_antisymm (UInt8.not_lt.1 h2) (UInt8.not_lt.1 h1)
          rw [e, ih h]
theorem cmpB_zero {a b : ByteArray} (h : cmpB a b = 0) : a = b := by
  have h1 := bytes_zero h
  have h2 : a.data = b.data := Array.toList_inj.1 h1
  cases a; cases b; cases h2; rfl
mutual
theorem cmpV_zero : ∀ (a b : Val), cmpV a b = 0 → a = b
  | .mk k i s t l f, .mk k' i' s' t' l' f', h => by
    unfold cmpV at h
    have h0 := orL_zero h
    have e1 := ordI_zero (h0 _ (List.mem_cons_self ..))
    have e2 := ordI_zero (h0 (ordI i i') (by simp))
    have e3 := ordI_zero (h0 (ordI s s') (by simp))
    have e4 := cmpB_zero (h0 (cmpB t t') (by simp))
    have e5 := cmpVL_zero l l' (h0 (cmpVL l l') (by simp))
    have e6 := cmpVF_zero f f' (h0 (cmpVF f f') (by simp))
    rw [e1, e2, e3, e4, e5, e6]
theorem cmpVL_zero : ∀ (l m : List Val), cmpVL l m = 0 → l = m
  | [], [], _ => rfl
  | [], _ :: _, h => by simp [cmpVL] at h
  | _ :: _, [], h => by simp [cmpVL] at h
  | a :: l, b :: m, h => by
    unfold cmpVL at h
    split at h
    · rename_i h0
      rw [cmpV_zero a b h0, cmpVL_zero l m h]
    · rename_i h0; exact absurd h h0
theorem cmpVF_zero : ∀ (l m : List (ByteArray × Val)), cmpVF l m = 0 → l = m
  | [], [], _ => rfl
  | [], _ :: _, h => by simp [cmpVF] at h
  | _ :: _, [], h => by simp [cmpVF] at h
  | (x, a) :: l, (y, b) :: m, h => by
    unfold cmpVF at h
    split at h
    · rename_i h0
      have h1 := orL_zero h0
      rw [cmpB_zero (h1 (cmpB x y) (by simp)), cmpV_zero a b (h1 (cmpV a b) (by simp)), cmpVF_zero l m h]
    · rename_i h0; exact absurd h h0
end
end Go.Proofs.YtbfnfldmnombgaaGreatDoor

/- The order of values: three ways, turned about, in a chain. -/
namespace Go.Proofs.YtbfnfldmnombgaaGreatDoor
open Go.Em
set_option maxRecDepth 100000

/-- Three comparisons (a b), (b c), (a c). -/
def T3 (x y z : Int) : Prop := (x = 0 → z = y) ∧ (y = 0 → z = x) ∧ (x = 1 → y = 1 → z = 1) ∧ (x = -1 → y = -1 → z = -1) ∧ (x = -1 ∨ x = 0 ∨ x = 1)
theorem T3_or {x1 y1 z1 x2 y2 z2 : Int} (h1 : T3 x1 y1 z1) (h2 : T3 x2 y2 z2) : T3 (if x1 = 0 then x2 else x1) (if y1 = 0 then y2 else y1) (if z1 = 0 then z2 else z1) := by
  obtain ⟨a1, a2, a3, a5, a4⟩ := h1
  by_cases hx : x1 = 0
  · have e1 := a1 hx
    rw [e1, if_pos hx]
    by_cases hy : y1 = 0
    · rw [if_pos hy, if_pos hy]; exact h2
    · rw [if_neg hy, if_neg hy]; exact ⟨fun _ => rfl, fun h => absurd h hy, fun _ h => h, fun _ h => h, h2.2.2.2.2⟩
  · rw [if_neg hx]
    by_cases hy : y1 = 0
    · have e1 := a2 hy
      rw [e1, if_neg hx]
      exact ⟨fun h => absurd h hx, fun _ => rfl, fun h _ => h, fun h _ => h, a4⟩
    · rw [if_neg hy]
      refine ⟨fun h => absurd h hx, fun h => absurd h hy, fun h h' => ?_, fun h h' => ?_, a4⟩
      · have := a3 h h'
        rw [this, if_neg (by decide)]
      · have := a5 h h'
        rw [this, if_neg (by decide)]
theorem T3_ord (a b c : Int) : T3 (ordI a b) (ordI b c) (ordI a c) := by
  have h : ∀ a b : Int, (ordI a b = -1 ∧ a < b) ∨ (ordI a b = 0 ∧ a = b) ∨ (ordI a b = 1 ∧ b < a) := fun a b => by
    unfold ordI
    split
    · exact .inl ⟨rfl, by assumption⟩
    · split
      · exact .inr (.inr ⟨rfl, by assumption⟩)
      · exact .inr (.inl ⟨rfl, by omega⟩)
  have h1 := h a b
  have h2 := h b c
  have h3 := h a c
  unfold T3
  omega
theorem T3_nil (y : Int) : T3 0 y y := ⟨fun _ => rfl, fun h => h, fun h => (by cases h), fun h => (by cases h), .inr (.inl rfl)⟩
theorem T3_a (y : Int) : T3 (-1) y (-1) := ⟨fun h => (by cases h), fun _ => rfl, fun h => (by cases h), fun _ _ => rfl, .inl rfl⟩
theorem T3_b (z : Int) : T3 1 (-1) z := ⟨fun h => (by cases h), fun h => (by cases h), fun _ h => (by cases h), fun h => (by cases h), .inr (.inr rfl)⟩
theorem T3_c (x : Int) (h : x = -1 ∨ x = 0 ∨ x = 1) : T3 x 1 1 := ⟨fun _ => rfl, fun h => (by cases h), fun _ _ => rfl, fun _ h => (by cases h), h⟩
theorem T3_bytes : ∀ a b c : List UInt8, T3 (Lib.compareBytes a b) (Lib.compareBytes b c) (Lib.compareBytes a c)
  | [], [], [] => T3_nil 0
  | [], [], _ :: _ => T3_nil (-1)
  | [], _ :: _, [] => ⟨fun h => (by cases h), fun h => (by cases h), fun h => (by cases h), fun _ h => (by cases h), .inl rfl⟩
  | [], _ :: _, _ :: _ => T3_a _
  | _ :: _, [], [] => ⟨fun h => (by cases h), fun _ => rfl, fun _ h => (by cases h), fun h => (by cases h), .inr (.inr rfl)⟩
  | _ :: _, [], _ :: _ => T3_b _
  | x :: a, y :: b, [] => by
    have h := T3_bytes a b []
    refine T3_c _ ?_
    simp only [Lib.compareBytes]
    split
    · exact .inl rfl
    · split
      · exact .inr (.inr rfl)
      · exact (T3_bytes a b b).2.2.2.2
  | x :: a, y :: b, z :: c => by
    have h := T3_bytes a b c
    have e : ∀ (x y : UInt8) (a b : List UInt8), Lib.compareBytes (x :: a) (y :: b) = if ordI x.toNat y.toNat = 0 then Lib.compareBytes a b else ordI x.toNat y.toNat := fun x y a b => by
      simp only [Lib.compareBytes, UInt8.lt_iff_toNat_lt]
      by_cases h : x.toNat < y.toNat
      · have e : ordI x.toNat y.toNat = -1 := by unfold ordI; rw [if_pos (by omega)]
        simp [h, e]
      · by_cases h' : y.toNat < x.toNat
        · have e : ordI x.toNat y.toNat = 1 := by unfold ordI; rw [if_neg (by omega), if_pos (by omega)]
          simp [h, h', e]
        · have e : ordI x.toNat y.toNat = 0 := by unfold ordI; rw [if_neg (by omega), if_neg (by omega)]
          simp [h, h', e]
    rw [e, e, e]
    exact T3_or (T3_ord _ _ _) h
theorem T3_orL1 {x1 y1 z1 : Int} {x y z : List Int} (h1 : T3 x1 y1 z1) (h2 : T3 (orL x) (orL y) (orL z)) : T3 (orL (x1 :: x)) (orL (y1 :: y)) (orL (z1 :: z)) := T3_or h1 h2
theorem T3_n : T3 (orL []) (orL []) (orL []) := T3_nil 0
mutual
theorem T3_val : ∀ a b c : Val, T3 (cmpV a b) (cmpV b c) (cmpV a c)
  | .mk k i s t l f, .mk k' i' s' t' l' f', .mk k2 i2 s2 t2 l2 f2 => by
    unfold cmpV
    exact T3_orL1 (T3_ord _ _ _) (T3_orL1 (T3_ord _ _ _) (T3_orL1 (T3_ord _ _ _) (T3_orL1 (T3_bytes _ _ _) (T3_orL1 (T3_valL l l' l2) (T3_orL1 (T3_valF f f' f2) (T3_nil 0))))))
theorem T3_valL : ∀ a b c : List Val, T3 (cmpVL a b) (cmpVL b c) (cmpVL a c)
  | [], [], [] => T3_nil 0
  | [], [], _ :: _ => T3_nil (-1)
  | [], _ :: _, [] => by simp only [cmpVL]; exact ⟨fun h => (by cases h), fun h => (by cases h), fun h => (by cases h), fun _ h => (by cases h), .inl rfl⟩
  | [], _ :: _, _ :: _ => by simp only [cmpVL]; exact T3_a _
  | _ :: _, [], [] => by simp only [cmpVL]; exact ⟨fun h => (by cases h), fun _ => rfl, fun _ h => (by cases h), fun h => (by cases h), .inr (.inr rfl)⟩
  | _ :: _, [], _ :: _ => by simp only [cmpVL]; exact T3_b _
  | x :: a, y :: b, [] => by
    have h1 := (T3_val x y y).2.2.2.2
    have h2 := (T3_valL a b b).2.2.2.2
    simp only [cmpVL]
    refine T3_c _ ?_
    split
    · exact h2
    · exact h1
  | x :: a, y :: b, z :: c => by
    have h1 := T3_val x y z
    have h2 := T3_valL a b c
    simp only [cmpVL]
    exact T3_or h1 h2
theorem T3_valF : ∀ a b c : List (ByteArray × Val), T3 (cmpVF a b) (cmpVF b c) (cmpVF a c)
  | [], [], [] => T3_nil 0
  | [], [], _ :: _ => T3_nil (-1)
  | [], _ :: _, [] => by simp only [cmpVF]; exact ⟨fun h => (by cases h), fun h => (by cases h), fun h => (by cases h), fun _ h => (by cases h), .inl rfl⟩
  | [], _ :: _, _ :: _ => by simp only [cmpVF]; exact T3_a _
  | _ :: _, [], [] => by simp only [cmpVF]; exact ⟨fun h => (by cases h), fun _ => rfl, fun _ h => (by cases h), fun h => (by cases h), .inr (.inr rfl)⟩
  | _ :: _, [], _ :: _ => by simp only [cmpVF]; exact T3_b _
  | (n, x) :: a, (m, y) :: b, [] => by
    have h1 := (T3_orL1 (T3_bytes n.data.toList m.data.toList m.data.toList) (T3_orL1 (T3_val x y y) T3_n)).2.2.2.2
    have h2 := (T3_valF a b b).2.2.2.2
    simp only [cmpVF]
    refine T3_c _ ?_
    split
    · exact h2
    · exact h1
  | (n, x) :: a, (m, y) :: b, (o, z) :: c => by
    have h1 := T3_orL1 (T3_bytes n.data.toList m.data.toList o.data.toList) (T3_orL1 (T3_val x y z) T3_n)
    have h2 := T3_valF a b c
    simp only [cmpVF]
    exact T3_or h1 h2
end
end Go.Proofs.YtbfnfldmnombgaaGreatDoor

/- What the check of a state asks, told of the keys and the messages as lists. -/
namespace Go.Proofs.YtbfnfldmnombgaaGreatDoor
open Go.Em
set_option maxRecDepth 100000

def okI : List Msg → List Msg → Prop
  | _, [] => True
  | acc, m :: r => Pck acc.length (chkM m) (hasSt acc m) = true ∧ okI (acc ++ [m]) r
/-- Messages that pass, with stamps of their own. -/
def DistM (l : List Msg) : Prop := (∀ m, m ∈ l → chkM m = 0) ∧ l.Pairwise fun o m => cmpS o.st m.st ≠ 0
/-- Keys in order. -/
def OrdK (ss : List Slt) : Prop := ss.Pairwise fun a b => cmpV b.key a.key = 1
/-- What the check of a state asks, where no slot has values. -/
structure StG (s : Stt) : Prop where
  num : chkN s.n s.t = 0
  key : ∀ x, x ∈ s.slots → (chkV x.key = 0 ∨ nullV x.key = true) ∧ chkN x.n x.t = 0
  ord : OrdK s.slots
  items : DistM (accOf s.slots)
end Go.Proofs.YtbfnfldmnombgaaGreatDoor

/- Values, messages, states, inputs are cut to the sizes of layer 31. -/
namespace Go.Proofs.YtbfnfldmnombgaaGreatDoor
open Go.Em
set_option maxRecDepth 100000

theorem min_int (a b : Nat) : (if Int.ofNat b < Int.ofNat a then Int.ofNat b else Int.ofNat a) = Int.ofNat (min a b) := by
  simp only [Int.ofNat_eq_natCast]; split <;> omega
theorem dec_nat {j : Nat} (h : j < 4294967296) : Go.IntKind.i64.wrap (Int.ofNat (j + 1) - 1) = Int.ofNat j := by
  rw [IntKind.wrap_i64]; simp only [Int.ofNat_eq_natCast]; omega
theorem cut_ok (a b : Nat) : 0 ≤ min a b ∧ min a b ≤ a := ⟨Nat.zero_le _, Nat.min_le_left _ _⟩
def cutT (m : Nat) (t : ByteArray) : ByteArray := t.extract 0 (min t.size m)
/-- A value of n + 1 levels at most. -/
def shortV : Nat → Val → Val
  | 0, .mk k i s t _ _ => .mk k i s (cutT 40 t) [] []
  | n + 1, .mk k i s t l f => .mk k i s (cutT 40 t) ((l.take 6).map (shortV n)) ((f.take 6).map fun p => (cutT 40 p.1, shortV n p.2))

section
variable (lv k i s : Int) (t : ByteArray) (l f acc acc2 : List (List X)) (j m : Nat) (x y : List X)
def svH : St := ⟨[(1, num lv), (2, .ptr 0 0 0), (4, .ptr 1 0 0), (5, .bs 2 0 j), (6, .sl true 7 []), (7, nat j)], [.var [num k, num i, num s, strX t, .sl false 6 l, .sl false 7 f], .var zVal, .row 6 acc]⟩
def svN : St := ⟨[(1, num lv), (2, .ptr 0 0 0), (4, .ptr 1 0 0), (5, .bs 3 0 (j + 1)), (6, .sl true 7 []), (7, nat (j + 1))], [.var [num k, num i, num s, strX t, .sl false 6 l, .sl false 7 f], .var zVal, .dead, .row 6 (acc ++ [x])]⟩
def svE : St := ⟨[(1, num lv), (2, .ptr 0 0 0), (4, .ptr 1 0 0), (5, .bs 2 0 j), (6, .sl true 7 []), (7, nat j), (29, boolX false)], [.var [num k, num i, num s, strX t, .sl false 6 l, .sl false 7 f], .var zVal, .row 6 acc]⟩
theorem sv_canon : canon 0 (svH lv k i s t l f acc j) = some (svH lv k i s t l f acc j) := by kernel_rfl
theorem sv_canon' : canon 0 (svN lv k i s t l f acc j x) = some (svH lv k i s t l f (acc ++ [x]) (j + 1)) := by kernel_rfl
def sfH : St := ⟨[(1, num lv), (2, .ptr 0 0 0), (4, .ptr 1 0 0), (5, .bs 2 0 m), (6, .bs 3 0 j), (8, nat j)], [.var [num k, num i, num s, strX t, .sl false 6 l, .sl false 7 f], .var zVal, .row 6 acc, .row 7 acc2]⟩
def sfN : St := ⟨[(1, num lv), (2, .ptr 0 0 0), (4, .ptr 1 0 0), (5, .bs 2 0 m), (6, .bs 4 0 (j + 1)), (8, nat (j + 1))], [.var [num k, num i, num s, strX t, .sl false 6 l, .sl false 7 f], .var zVal, .row 6 acc, .dead, .row 7 (acc2 ++ [x])]⟩
def sfE : St := ⟨[(1, num lv), (2, .ptr 0 0 0), (4, .ptr 1 0 0), (5, .bs 2 0 m), (6, .bs 3 0 j), (8, nat j), (55, boolX false)], [.var [num k, num i, num s, strX t, .sl false 6 l, .sl false 7 f], .var zVal, .row 6 acc, .row 7 acc2]⟩
theorem sf_canon : canon 0 (sfH lv k i s t l f acc acc2 j m) = some (sfH lv k i s t l f acc acc2 j m) := by kernel_rfl
theorem sf_canon' : canon 0 (sfN lv k i s t l f acc acc2 j m x) = some (sfH lv k i s t l f acc (acc2 ++ [x]) (j + 1) m) := by kernel_rfl
end

theorem take_map_succ {α β : Type} (g : α → β) {l : List α} {k j : Nat} (h : j < (l.take k).length) : ((l.take k).take (j + 1)).map g = ((l.take k).take j).map g ++ [g (l[j]'(by rw [List.length_take] at h; omega))] := by
  rw [List.take_succ_eq_append_getElem h, List.map_append]
  simp
theorem sv_fin (M : Nat) (k i s : Int) (t : ByteArray) (L F a b : List (List X)) (m q n : Nat) (hm : a.length = m) (hq : b.length = q)
    (h1 : run (callF tab ext M) 0 M (.loop (loopAt 20 0)) (svH (Int.ofNat (n + 1)) k i s (cutT 40 t) L F [] 0) = some (.exit 0, svE (Int.ofNat (n + 1)) k i s (cutT 40 t) L F a m))
    (h2 : run (callF tab ext M) 0 M (.loop (loopAt 20 1)) (sfH (Int.ofNat (n + 1)) k i s (cutT 40 t) L F a [] 0 m) = some (.exit 2, sfE (Int.ofNat (n + 1)) k i s (cutT 40 t) L F a b q m)) :
    Gam.pureD (callF tab ext (M + 1)) 20 [.agg [num k, num i, num s, strX t, .sl false 6 L, .sl false 7 F], nat (n + 1)] = some (.agg [num k, num i, num s, strX (cutT 40 t), .sl false 6 a, .sl false 7 b]) := by
  have hd : (X.agg [num k, num i, num s, strX (cutT 40 t), .bs 0 0 m, .bs 1 0 q]).data [.row 6 a, .row 7 b] false = some (.agg [num k, num i, num s, strX (cutT 40 t), .sl false 6 a, .sl false 7 b]) := by
    subst hm hq
    simp [X.data, dataL, rowOf, num, strX]
  exact pure_of [(14, .i (Int.ofNat (min t.size 40))), (15, .cut)] [(.exit 0, svE (Int.ofNat (n + 1)) k i s (cutT 40 t) L F a m), (.exit 2, sfE (Int.ofNat (n + 1)) k i s (cutT 40 t) L F a b q m)] (pf4 (min_int t.size 40) (cut_ok t.size 40) h1 h2)
    (x := .agg [num k, num i, num s, strX (cutT 40 t), .bs 0 0 m, .bs 1 0 q]) (bx := [.row 6 a, .row 7 b]) (by kernel_rfl) hd
theorem cellsL_snoc (l : List Val) (v : Val) : cellsL (l ++ [v]) = cellsL l ++ [v.cells] := by simp [cellsL_eq]
theorem cellsF_snoc (l : List (ByteArray × Val)) (t : ByteArray) (v : Val) : cellsF (l ++ [(t, v)]) = cellsF l ++ [strX t :: v.cells] := by simp [cellsF_eq]
theorem gt_one (n : Nat) : decide (Int.ofNat (n + 1 + 1) > 1) = true := by
  rw [decide_eq_true_eq]; simp only [Int.ofNat_eq_natCast]; omega
theorem lt_lit {j m : Nat} (h : j < m) : decide (Int.ofNat j < Int.ofNat m) = true := lt_nat h

theorem short_val : ∀ (n : Nat) (v : Val) (N : Nat), n < 1000 → 10 + n ≤ N → Gam.pureD (callF tab ext N) 20 [.agg v.cells, nat (n + 1)] = some (.agg (shortV n v).cells)
  | 0, .mk k i s t l f, N, _, hN => by
    obtain ⟨M, rfl⟩ : ∃ M, N = M + 1 := ⟨N - 1, by omega⟩
    refine sv_fin M k i s t (cellsL l) (cellsF f) [] [] 0 0 0 rfl rfl ?_ ?_
    · refine loop_for (σ := fun j => svH (Int.ofNat 1) k i s (cutT 40 t) (cellsL l) (cellsF f) [] j) (k := 0) (sv_canon ..) (fun j hj => by omega) ?_ (by simp) (by omega)
      cases h1 : decide (Int.ofNat 0 < Int.ofNat (cellsL l).length) with
      | true => exact run_of [(21, .b true)] [] (pf1 h1) (lo' := []) (by kernel_rfl)
      | false => exact run_of [(21, .b false)] [] (pf1 h1) (lo' := []) (by kernel_rfl)
    · refine loop_for (σ := fun j => sfH (Int.ofNat 1) k i s (cutT 40 t) (cellsL l) (cellsF f) [] [] j 0) (k := 0) (sf_canon ..) (fun j hj => by omega) ?_ (by simp) (by omega)
      cases h1 : decide (Int.ofNat 0 < Int.ofNat (cellsF f).length) with
      | true => exact run_of [(47, .b true)] [] (pf1 h1) (lo' := []) (by kernel_rfl)
      | false => exact run_of [(47, .b false)] [] (pf1 h1) (lo' := []) (by kernel_rfl)
  | n + 1, .mk k i s t l f, N, hn, hN => by
    obtain ⟨M, rfl⟩ : ∃ M, N = M + 1 := ⟨N - 1, by omega⟩
    have el := cellsL_length l
    have ef := cellsF_length f
    have e1 : (shortV (n + 1) (.mk k i s t l f)).cells = [num k, num i, num s, strX (cutT 40 t), .sl false 6 (cellsL ((l.take 6).map (shortV n))), .sl false 7 (cellsF ((f.take 6).map fun p => (cutT 40 p.1, shortV n p.2)))] := rfl
    rw [e1]
    have hd := dec_nat (j := n + 1) (by omega)
    refine sv_fin M k i s t (cellsL l) (cellsF f) _ _ (l.take 6).length (f.take 6).length (n + 1) (by rw [cellsL_length, List.length_map]) (by rw [cellsF_length, List.length_map]) ?_ ?_
    · refine loop_for (σ := fun j => svH (Int.ofNat (n + 2)) k i s (cutT 40 t) (cellsL l) (cellsF f) (cellsL (((l.take 6).take j).map (shortV n))) j) (k := (l.take 6).length) (sv_canon ..) (fun j hj => ?_) ?_ (by simp) (by rw [List.length_take]; omega)
      · have hj1 : j < l.length := by rw [List.length_take] at hj; omega
        have hj2 : j < 6 := by rw [List.length_take] at hj; omega
        have hg := cellsL_get hj1
        have hc := short_val n l[j] M (by omega) (by omega)
        have hlen : (cellsL (((l.take 6).take j).map (shortV n))).length = j := by rw [cellsL_length, List.length_map, List.length_take, List.length_take]; omega
        rw [take_map_succ (shortV n) hj, cellsL_snoc]
        generalize l[j] = v at hg hc
        generalize shortV n v = w at hc
        generalize ((l.take 6).take j).map (shortV n) = acc at hlen
        obtain ⟨a1, a2, a3, a4, a5, a6⟩ := v
        obtain ⟨b1, b2, b3, b4, b5, b6⟩ := w
        exact ⟨_, run_of (σ' := svN (Int.ofNat (n + 2)) k i s (cutT 40 t) (cellsL l) (cellsF f) (cellsL acc) j (Val.mk b1 b2 b3 b4 b5 b6).cells) [(21, .b true), (24, .b true), (28, .b true), (36, .e (Val.mk a1 a2 a3 a4 a5 a6).cells), (39, .i (Int.ofNat (n + 1))), (40, .p (.agg (Val.mk b1 b2 b3 b4 b5 b6).cells)), (42, .app), (31, .i (Int.ofNat (j + 1)))] []
          (pf8 (lt_nat (j := j) (k := (cellsL l).length) (by omega)) (lt_lit hj2) (gt_one n) hg hd hc (app_ok (acc := cellsL acc) j 2 88 hlen.symm (by omega) (by omega)) (next_nat (j := j) (by omega))) (lo' := []) (by kernel_rfl), sv_canon' ..⟩
      · have e2 : (l.take 6).take (l.take 6).length = l.take 6 := List.take_length
        rw [e2]
        by_cases h6 : (l.take 6).length < l.length
        · have h7 : (l.take 6).length = 6 := by rw [List.length_take] at h6 ⊢; omega
          exact run_of [(21, .b true), (24, .b false)] [] (pf2 (lt_nat (j := (l.take 6).length) (k := (cellsL l).length) (by omega)) (nlt_nat (j := (l.take 6).length) (k := 6) (by omega))) (lo' := []) (by kernel_rfl)
        · exact run_of [(21, .b false)] [] (pf1 (nlt_nat (j := (l.take 6).length) (k := (cellsL l).length) (by omega))) (lo' := []) (by kernel_rfl)
    · generalize cellsL ((l.take 6).map (shortV n)) = aL
      generalize (l.take 6).length = m
      refine loop_for (σ := fun j => sfH (Int.ofNat (n + 2)) k i s (cutT 40 t) (cellsL l) (cellsF f) aL (cellsF (((f.take 6).take j).map fun p => (cutT 40 p.1, shortV n p.2))) j m) (k := (f.take 6).length) (sf_canon ..) (fun j hj => ?_) ?_ (by simp) (by rw [List.length_take]; omega)
      · have hj1 : j < f.length := by rw [List.length_take] at hj; omega
        have hj2 : j < 6 := by rw [List.length_take] at hj; omega
        have hg := cellsF_get hj1
        have hc := short_val n f[j].2 M (by omega) (by omega)
        have hlen : (cellsF (((f.take 6).take j).map fun p => (cutT 40 p.1, shortV n p.2))).length = j := by rw [cellsF_length, List.length_map, List.length_take, List.length_take]; omega
        rw [take_map_succ (fun p : ByteArray × Val => (cutT 40 p.1, shortV n p.2)) hj, cellsF_snoc]
        generalize f[j] = v at hg hc
        obtain ⟨vt, v⟩ := v
        dsimp only at hg hc ⊢
        generalize shortV n v = w at hc
        generalize ((f.take 6).take j).map (fun p : ByteArray × Val => (cutT 40 p.1, shortV n p.2)) = acc at hlen
        obtain ⟨a1, a2, a3, a4, a5, a6⟩ := v
        obtain ⟨b1, b2, b3, b4, b5, b6⟩ := w
        exact ⟨_, run_of (σ' := sfN (Int.ofNat (n + 2)) k i s (cutT 40 t) (cellsL l) (cellsF f) aL (cellsF acc) j m (strX (cutT 40 vt) :: (Val.mk b1 b2 b3 b4 b5 b6).cells)) [(47, .b true), (50, .b true), (54, .b true), (62, .e (strX vt :: (Val.mk a1 a2 a3 a4 a5 a6).cells)), (68, .e (strX vt :: (Val.mk a1 a2 a3 a4 a5 a6).cells)), (72, .i (Int.ofNat (min vt.size 40))), (73, .cut), (77, .e (strX vt :: (Val.mk a1 a2 a3 a4 a5 a6).cells)), (81, .i (Int.ofNat (n + 1))), (82, .p (.agg (Val.mk b1 b2 b3 b4 b5 b6).cells)), (85, .app), (57, .i (Int.ofNat (j + 1)))] []
          (pf12 (lt_nat (j := j) (k := (cellsF f).length) (by omega)) (lt_lit hj2) (gt_one n) hg hg (min_int vt.size 40) (cut_ok vt.size 40) hg hd hc (app_ok (acc := cellsF acc) j 3 104 hlen.symm (by omega) (by omega)) (next_nat (j := j) (by omega))) (lo' := []) (by kernel_rfl), sf_canon' ..⟩
      · have e2 : (f.take 6).take (f.take 6).length = f.take 6 := List.take_length
        rw [e2]
        by_cases h6 : (f.take 6).length < f.length
        · have h7 : (f.take 6).length = 6 := by rw [List.length_take] at h6 ⊢; omega
          exact run_of [(47, .b true), (50, .b false)] [] (pf2 (lt_nat (j := (f.take 6).length) (k := (cellsF f).length) (by omega)) (nlt_nat (j := (f.take 6).length) (k := 6) (by omega))) (lo' := []) (by kernel_rfl)
        · exact run_of [(47, .b false)] [] (pf1 (nlt_nat (j := (f.take 6).length) (k := (cellsF f).length) (by omega))) (lo' := []) (by kernel_rfl)
end Go.Proofs.YtbfnfldmnombgaaGreatDoor

/- Messages, inputs, states are cut to the sizes of layer 31. -/
namespace Go.Proofs.YtbfnfldmnombgaaGreatDoor
open Go.Em
set_option maxRecDepth 100000

def cutM (x : Int) : Int := if (if 0 > x then 0 else x) > 1099511627776 then 1099511627776 else (if 0 > x then 0 else x)
def cutM1 (x : Int) : Int := if 0 > x then 0 else x
def cutM2 (x : Int) : Int := if 1099511627776 < x then 1099511627776 else x
def cutI (p : List Int) : List Int := p.take (min (intsC p).length 6)
theorem cutI_cells (p : List Int) : intsC (cutI p) = (intsC p).take (min (intsC p).length 6) := by simp [cutI, intsC]
theorem cutI_length (p : List Int) : (cutI p).length ≤ 6 := by simp only [cutI, List.length_take]; omega
theorem cut_room (p : List (List X)) : roomOk (([] : List (List X)).length + (List.drop 0 (List.take (min p.length 6) p)).length) 8 = true := by
  refine room_of ?_ ?_ <;> simp only [List.length_nil, List.drop_zero, List.length_take] <;> omega
def shortM (m : Msg) : Msg := ⟨⟨m.st.e, cutI m.st.p⟩, cutM2 (cutM1 m.mass), cutI m.orig, shortV 4 m.body⟩
theorem short_msg (m : Msg) (N : Nat) (hN : 20 ≤ N) : Gam.pureD (callF tab ext N) 21 [.agg m.cells] = some (.agg (shortM m).cells) := by
  obtain ⟨M, rfl⟩ : ∃ M, N = M + 1 := ⟨N - 1, by omega⟩
  have hc := short_val 4 m.body M (by omega) (by omega)
  have e : (shortM m).cells = num m.st.e :: .sl false 1 ((intsC m.st.p).take (min (intsC m.st.p).length 6)) :: num (cutM2 (cutM1 m.mass)) :: .sl false 1 ((intsC m.orig).take (min (intsC m.orig).length 6)) :: (shortV 4 m.body).cells := by
    rw [← cutI_cells, ← cutI_cells]; rfl
  rw [e]
  generalize shortV 4 m.body = w at hc
  obtain ⟨⟨e0, p⟩, ms, o, ⟨a1, a2, a3, a4, a5, a6⟩⟩ := m
  obtain ⟨b1, b2, b3, b4, b5, b6⟩ := w
  exact pure_of [(11, .i (Int.ofNat (min (intsC p).length 6))), (12, .cut), (13, .fresh), (22, .i (Int.ofNat (min (intsC o).length 6))), (23, .cut), (24, .fresh), (28, .p (.agg (Val.mk b1 b2 b3 b4 b5 b6).cells)), (31, .i (cutM1 ms)), (32, .i (cutM2 (cutM1 ms)))] []
    (pf9 (min_int (intsC p).length 6) (cut_ok (intsC p).length 6) (cut_room (intsC p)) (min_int (intsC o).length 6) (cut_ok (intsC o).length 6) (cut_room (intsC o)) hc (rfl : cutM1 ms = cutM1 ms) (rfl : cutM2 (cutM1 ms) = cutM2 (cutM1 ms)))
    (x := .agg (num e0 :: .sl false 1 ((intsC p).take (min (intsC p).length 6)) :: num (cutM2 (cutM1 ms)) :: .sl false 1 ((intsC o).take (min (intsC o).length 6)) :: (Val.mk b1 b2 b3 b4 b5 b6).cells)) (bx := []) (by kernel_rfl) rfl

/-- An input. -/
structure Inp where
  kind : Int
  time : Int
  st : Stp
  m : Msg
  x : Int
  b1 : Bool
  b2 : Bool
  body : Val
def Inp.cells (i : Inp) : List X := num i.kind :: num i.time :: num i.st.e :: .sl false 1 (intsC i.st.p) :: num i.m.st.e :: .sl false 1 (intsC i.m.st.p) :: num i.m.mass :: .sl false 1 (intsC i.m.orig) :: (i.m.body.cells ++ num i.x :: boolX i.b1 :: boolX i.b2 :: i.body.cells)
def shortN (i : Inp) : Inp := { i with st := ⟨i.st.e, cutI i.st.p⟩, m := shortM i.m, body := shortV 4 i.body }
theorem short_inp (i : Inp) (N : Nat) (hN : 30 ≤ N) : Gam.pureD (callF tab ext N) 31 [.agg i.cells] = some (.agg (shortN i).cells) := by
  obtain ⟨M, rfl⟩ : ∃ M, N = M + 1 := ⟨N - 1, by omega⟩
  have hc := short_val 4 i.body M (by omega) (by omega)
  have hm := short_msg i.m M (by omega)
  have e : (shortN i).cells = num i.kind :: num i.time :: num i.st.e :: .sl false 1 ((intsC i.st.p).take (min (intsC i.st.p).length 6)) :: num (shortM i.m).st.e :: .sl false 1 (intsC (shortM i.m).st.p) :: num (shortM i.m).mass :: .sl false 1 (intsC (shortM i.m).orig) :: ((shortM i.m).body.cells ++ num i.x :: boolX i.b1 :: boolX i.b2 :: (shortV 4 i.body).cells) := by
    rw [← cutI_cells]; rfl
  rw [e]
  generalize shortV 4 i.body = w at hc
  generalize shortM i.m = q at hm
  obtain ⟨kd, tm, ⟨se, sp⟩, ⟨⟨e0, p⟩, ms, o, ⟨a1, a2, a3, a4, a5, a6⟩⟩, x, y1, y2, ⟨c1, c2, c3, c4, c5, c6⟩⟩ := i
  obtain ⟨b1, b2, b3, b4, b5, b6⟩ := w
  obtain ⟨⟨d1, d2⟩, d3, d4, ⟨d5, d6, d7, d8, d9, d0⟩⟩ := q
  exact pure_of [(5, .p (.agg (Msg.mk ⟨d1, d2⟩ d3 d4 (Val.mk d5 d6 d7 d8 d9 d0)).cells)), (8, .p (.agg (Val.mk b1 b2 b3 b4 b5 b6).cells)), (19, .i (Int.ofNat (min (intsC sp).length 6))), (20, .cut), (21, .fresh)] []
    (pf5 hm hc (min_int (intsC sp).length 6) (cut_ok (intsC sp).length 6) (cut_room (intsC sp)))
    (x := .agg (num kd :: num tm :: num se :: .sl false 1 ((intsC sp).take (min (intsC sp).length 6)) :: num d1 :: .sl false 1 (intsC d2) :: num d3 :: .sl false 1 (intsC d4) :: ((Val.mk d5 d6 d7 d8 d9 d0).cells ++ num x :: boolX y1 :: boolX y2 :: (Val.mk b1 b2 b3 b4 b5 b6).cells))) (bx := []) (by kernel_rfl) rfl

def shortL (x : Slt) : Slt := ⟨shortV 2 x.key, x.n, x.t, (x.items.take 4).map shortM, (x.vals.take 4).map (shortV 3)⟩
def shortS (s : Stt) : Stt := ⟨s.n, s.t, (s.slots.take 6).map shortL⟩

section
variable (a b : Int) (l acc : List (List X)) (j : Nat) (k i s n t : Int) (tx : ByteArray) (vl vf its vs : List (List X)) (k' i' s' : Int) (tx' : ByteArray) (vl' vf' its' vs' : List (List X)) (z z2 : Nat) (x : List X)
def ssH : St := ⟨[(1, .ptr 0 0 0), (2, .ptr 1 0 0), (3, .bs 2 0 j), (4, nat j)], [.var [num a, num b, .sl false 10 l], .var zState, .row 10 acc]⟩
def siH : St := ⟨[(1, .ptr 0 0 0), (2, .ptr 1 0 0), (3, .bs 2 0 j), (4, nat j), (5, .ptr 3 0 0), (6, .ptr 4 0 0), (7, nat z)], [.var [num a, num b, .sl false 10 l], .var zState, .row 10 acc, .var (slotC k i s tx vl vf n t its vs), .var [num k', num i', num s', strX tx', .sl false 6 vl', .sl false 7 vf', num n, num t, .bs 5 0 z, .sl true 6 []], .row 10 its']⟩
def siN : St := ⟨[(1, .ptr 0 0 0), (2, .ptr 1 0 0), (3, .bs 2 0 j), (4, nat j), (5, .ptr 3 0 0), (6, .ptr 4 0 0), (7, nat (z + 1))], [.var [num a, num b, .sl false 10 l], .var zState, .row 10 acc, .var (slotC k i s tx vl vf n t its vs), .var [num k', num i', num s', strX tx', .sl false 6 vl', .sl false 7 vf', num n, num t, .bs 6 0 (z + 1), .sl true 6 []], .dead, .row 10 (its' ++ [x])]⟩
def siE : St := ⟨[(1, .ptr 0 0 0), (2, .ptr 1 0 0), (3, .bs 2 0 j), (4, nat j), (5, .ptr 3 0 0), (6, .ptr 4 0 0), (7, nat z), (41, boolX false)], [.var [num a, num b, .sl false 10 l], .var zState, .row 10 acc, .var (slotC k i s tx vl vf n t its vs), .var [num k', num i', num s', strX tx', .sl false 6 vl', .sl false 7 vf', num n, num t, .bs 5 0 z, .sl true 6 []], .row 10 its']⟩
theorem si_canon : canon 0 (siH a b l acc j k i s n t tx vl vf its vs k' i' s' tx' vl' vf' its' z) = some (siH a b l acc j k i s n t tx vl vf its vs k' i' s' tx' vl' vf' its' z) := by kernel_rfl
theorem si_canon' : canon 0 (siN a b l acc j k i s n t tx vl vf its vs k' i' s' tx' vl' vf' its' z x) = some (siH a b l acc j k i s n t tx vl vf its vs k' i' s' tx' vl' vf' (its' ++ [x]) (z + 1)) := by kernel_rfl
def swH : St := ⟨[(1, .ptr 0 0 0), (2, .ptr 1 0 0), (3, .bs 2 0 j), (4, nat j), (5, .ptr 3 0 0), (6, .ptr 4 0 0), (8, nat z)], [.var [num a, num b, .sl false 10 l], .var zState, .row 10 acc, .var (slotC k i s tx vl vf n t its vs), .var [num k', num i', num s', strX tx', .sl false 6 vl', .sl false 7 vf', num n, num t, .bs 5 0 z2, .bs 6 0 z], .row 10 its', .row 6 vs']⟩
def swN : St := ⟨[(1, .ptr 0 0 0), (2, .ptr 1 0 0), (3, .bs 2 0 j), (4, nat j), (5, .ptr 3 0 0), (6, .ptr 4 0 0), (8, nat (z + 1))], [.var [num a, num b, .sl false 10 l], .var zState, .row 10 acc, .var (slotC k i s tx vl vf n t its vs), .var [num k', num i', num s', strX tx', .sl false 6 vl', .sl false 7 vf', num n, num t, .bs 5 0 z2, .bs 7 0 (z + 1)], .row 10 its', .dead, .row 6 (vs' ++ [x])]⟩
def swE : St := ⟨[(1, .ptr 0 0 0), (2, .ptr 1 0 0), (3, .bs 2 0 j), (4, nat j), (5, .ptr 3 0 0), (6, .ptr 4 0 0), (8, nat z), (63, boolX false)], [.var [num a, num b, .sl false 10 l], .var zState, .row 10 acc, .var (slotC k i s tx vl vf n t its vs), .var [num k', num i', num s', strX tx', .sl false 6 vl', .sl false 7 vf', num n, num t, .bs 5 0 z2, .bs 6 0 z], .row 10 its', .row 6 vs']⟩
theorem sw_canon : canon 0 (swH a b l acc j k i s n t tx vl vf its vs k' i' s' tx' vl' vf' its' vs' z z2) = some (swH a b l acc j k i s n t tx vl vf its vs k' i' s' tx' vl' vf' its' vs' z z2) := by kernel_rfl
theorem sw_canon' : canon 0 (swN a b l acc j k i s n t tx vl vf its vs k' i' s' tx' vl' vf' its' vs' z z2 x) = some (swH a b l acc j k i s n t tx vl vf its vs k' i' s' tx' vl' vf' its' (vs' ++ [x]) (z + 1) z2) := by kernel_rfl
end
theorem msgsC_snoc (l : List Msg) (m : Msg) : msgsC (l ++ [m]) = msgsC l ++ [m.cells] := by simp [msgsC]
theorem sltsC_snoc (l : List Slt) (m : Slt) : sltsC (l ++ [m]) = sltsC l ++ [m.cells] := by simp [sltsC]

theorem si_loop (M : Nat) (hM : 40 ≤ M) (a b : Int) (l acc : List (List X)) (j : Nat) (k i s n t : Int) (tx : ByteArray) (vl vf vs : List (List X)) (k' i' s' : Int) (tx' : ByteArray) (vl' vf' : List (List X)) (ms : List Msg) :
    run (callF tab ext M) 0 M (.loop (loopAt 7 1)) (siH a b l acc j k i s n t tx vl vf (msgsC ms) vs k' i' s' tx' vl' vf' [] 0) = some (.exit 2, siE a b l acc j k i s n t tx vl vf (msgsC ms) vs k' i' s' tx' vl' vf' (msgsC ((ms.take 4).map shortM)) (ms.take 4).length) := by
  have el := msgsC_length ms
  refine loop_for (σ := fun z => siH a b l acc j k i s n t tx vl vf (msgsC ms) vs k' i' s' tx' vl' vf' (msgsC (((ms.take 4).take z).map shortM)) z) (k := (ms.take 4).length) (si_canon ..) (fun z hz => ?_) ?_ (by simp) (by rw [List.length_take]; omega)
  · have hj1 : z < ms.length := by rw [List.length_take] at hz; omega
    have hj2 : z < 4 := by rw [List.length_take] at hz; omega
    have hg := msgsC_get hj1
    have hc := short_msg ms[z] M (by omega)
    have hlen : (msgsC (((ms.take 4).take z).map shortM)).length = z := by rw [msgsC_length, List.length_map, List.length_take, List.length_take]; omega
    rw [take_map_succ shortM hz, msgsC_snoc]
    generalize ms[z] = v at hg hc
    generalize shortM v = w at hc
    generalize msgsC (((ms.take 4).take z).map shortM) = its' at hlen
    obtain ⟨⟨a1, a2⟩, a3, a4, ⟨a5, a6, a7, a8, a9, a0⟩⟩ := v
    obtain ⟨⟨b1, b2⟩, b3, b4, ⟨b5, b6, b7, b8, b9, b0⟩⟩ := w
    exact ⟨_, run_of (σ' := siN a b l acc j k i s n t tx vl vf (msgsC ms) vs k' i' s' tx' vl' vf' its' z (Msg.mk ⟨b1, b2⟩ b3 b4 (Val.mk b5 b6 b7 b8 b9 b0)).cells) [(37, .b true), (40, .b true), (49, .e (Msg.mk ⟨a1, a2⟩ a3 a4 (Val.mk a5 a6 a7 a8 a9 a0)).cells), (51, .p (.agg (Msg.mk ⟨b1, b2⟩ b3 b4 (Val.mk b5 b6 b7 b8 b9 b0)).cells)), (53, .app), (43, .i (Int.ofNat (z + 1)))] []
      (pf6 (lt_nat (j := z) (k := (msgsC ms).length) (by omega)) (lt_lit hj2) hg hc (app_ok (acc := its') z 5 152 hlen.symm (by omega) (by omega)) (next_nat (j := z) (by omega))) (lo' := []) (by kernel_rfl), si_canon' ..⟩
  · rw [List.take_length]
    by_cases h6 : (ms.take 4).length < ms.length
    · have h7 : (ms.take 4).length = 4 := by rw [List.length_take] at h6 ⊢; omega
      exact run_of [(37, .b true), (40, .b false)] [] (pf2 (lt_nat (j := (ms.take 4).length) (k := (msgsC ms).length) (by omega)) (nlt_nat (j := (ms.take 4).length) (k := 4) (by omega))) (lo' := []) (by kernel_rfl)
    · exact run_of [(37, .b false)] [] (pf1 (nlt_nat (j := (ms.take 4).length) (k := (msgsC ms).length) (by omega))) (lo' := []) (by kernel_rfl)
theorem sw_loop (M : Nat) (hM : 40 ≤ M) (a b : Int) (l acc : List (List X)) (j : Nat) (k i s n t : Int) (tx : ByteArray) (vl vf its : List (List X)) (k' i' s' : Int) (tx' : ByteArray) (vl' vf' its' : List (List X)) (z2 : Nat) (ms : List Val) :
    run (callF tab ext M) 0 M (.loop (loopAt 7 2)) (swH a b l acc j k i s n t tx vl vf its (cellsL ms) k' i' s' tx' vl' vf' its' [] 0 z2) = some (.exit 4, swE a b l acc j k i s n t tx vl vf its (cellsL ms) k' i' s' tx' vl' vf' its' (cellsL ((ms.take 4).map (shortV 3))) (ms.take 4).length z2) := by
  have el := cellsL_length ms
  refine loop_for (σ := fun z => swH a b l acc j k i s n t tx vl vf its (cellsL ms) k' i' s' tx' vl' vf' its' (cellsL (((ms.take 4).take z).map (shortV 3))) z z2) (k := (ms.take 4).length) (sw_canon ..) (fun z hz => ?_) ?_ (by simp) (by rw [List.length_take]; omega)
  · have hj1 : z < ms.length := by rw [List.length_take] at hz; omega
    have hj2 : z < 4 := by rw [List.length_take] at hz; omega
    have hg := cellsL_get hj1
    have hc := short_val 3 ms[z] M (by omega) (by omega)
    have hlen : (cellsL (((ms.take 4).take z).map (shortV 3))).length = z := by rw [cellsL_length, List.length_map, List.length_take, List.length_take]; omega
    rw [take_map_succ (shortV 3) hz, cellsL_snoc]
    generalize ms[z] = v at hg hc
    generalize shortV 3 v = w at hc
    generalize cellsL (((ms.take 4).take z).map (shortV 3)) = vs' at hlen
    obtain ⟨a5, a6, a7, a8, a9, a0⟩ := v
    obtain ⟨b5, b6, b7, b8, b9, b0⟩ := w
    exact ⟨_, run_of (σ' := swN a b l acc j k i s n t tx vl vf its (cellsL ms) k' i' s' tx' vl' vf' its' vs' z z2 (Val.mk b5 b6 b7 b8 b9 b0).cells) [(59, .b true), (62, .b true), (71, .e (Val.mk a5 a6 a7 a8 a9 a0).cells), (73, .p (.agg (Val.mk b5 b6 b7 b8 b9 b0).cells)), (75, .app), (65, .i (Int.ofNat (z + 1)))] []
      (pf6 (lt_nat (j := z) (k := (cellsL ms).length) (by omega)) (lt_lit hj2) hg hc (app_ok (acc := vs') z 6 88 hlen.symm (by omega) (by omega)) (next_nat (j := z) (by omega))) (lo' := []) (by kernel_rfl), sw_canon' ..⟩
  · rw [List.take_length]
    by_cases h6 : (ms.take 4).length < ms.length
    · have h7 : (ms.take 4).length = 4 := by rw [List.length_take] at h6 ⊢; omega
      exact run_of [(59, .b true), (62, .b false)] [] (pf2 (lt_nat (j := (ms.take 4).length) (k := (cellsL ms).length) (by omega)) (nlt_nat (j := (ms.take 4).length) (k := 4) (by omega))) (lo' := []) (by kernel_rfl)
    · exact run_of [(59, .b false)] [] (pf1 (nlt_nat (j := (ms.take 4).length) (k := (cellsL ms).length) (by omega))) (lo' := []) (by kernel_rfl)
section
variable (a b : Int) (l acc : List (List X)) (j : Nat) (k i s n t : Int) (tx : ByteArray) (vl vf its vs : List (List X)) (k' i' s' : Int) (tx' : ByteArray) (vl' vf' its' vs' : List (List X)) (z z2 : Nat) (x : List X)
def ssN : St := ⟨[(1, .ptr 0 0 0), (2, .ptr 1 0 0), (3, .bs 7 0 (j + 1)), (4, nat (j + 1))], [.var [num a, num b, .sl false 10 l], .var zState, .dead, .var (slotC k i s tx vl vf n t its vs), .var (slotC k' i' s' tx' vl' vf' n t (its'.take z) (vs'.take z2)), .dead, .dead, .row 10 (acc ++ [slotC k' i' s' tx' vl' vf' n t (its'.take z) (vs'.take z2)])]⟩
theorem ss_canon' : canon 0 (ssN a b l acc j k i s n t tx vl vf its vs k' i' s' tx' vl' vf' its' vs' z z2) = some (ssH a b l (acc ++ [slotC k' i' s' tx' vl' vf' n t (its'.take z) (vs'.take z2)]) (j + 1)) := by kernel_rfl
end
theorem ss_loop (M : Nat) (hM : 50 ≤ M) (a b : Int) (ss : List Slt) {τ : St} (hτ : canon 0 τ = some (ssH a b (sltsC ss) [] 0)) :
    run (callF tab ext M) 0 M (.loop (loopAt 7 0)) τ = some (.exit 0, ⟨[(1, .ptr 0 0 0), (2, .ptr 1 0 0), (3, .bs 2 0 (ss.take 6).length), (4, nat (ss.take 6).length), (17, boolX false)], [.var [num a, num b, .sl false 10 (sltsC ss)], .var zState, .row 10 (sltsC ((ss.take 6).map shortL))]⟩) := by
  have el := sltsC_length ss
  refine loop_for (σ := fun z => ssH a b (sltsC ss) (sltsC (((ss.take 6).take z).map shortL)) z) (k := (ss.take 6).length) hτ (fun z hz => ?_) ?_ (by simp) (by rw [List.length_take]; omega)
  · have hj1 : z < ss.length := by rw [List.length_take] at hz; omega
    have hj2 : z < 6 := by rw [List.length_take] at hz; omega
    have hg := sltsC_get hj1
    have hc := short_val 2 ss[z].key M (by omega) (by omega)
    have hlen : (sltsC (((ss.take 6).take z).map shortL)).length = z := by rw [sltsC_length, List.length_map, List.length_take, List.length_take]; omega
    have hi := fun vl vf k i s tx n t vs k' i' s' tx' vl' vf' => si_loop M (by omega) a b (sltsC ss) (sltsC (((ss.take 6).take z).map shortL)) z k i s n t tx vl vf vs k' i' s' tx' vl' vf' ss[z].items
    have hv := fun vl vf k i s tx n t its k' i' s' tx' vl' vf' its' z2 => sw_loop M (by omega) a b (sltsC ss) (sltsC (((ss.take 6).take z).map shortL)) z k i s n t tx vl vf its k' i' s' tx' vl' vf' its' z2 ss[z].vals
    rw [take_map_succ shortL hz, sltsC_snoc]
    generalize ss[z] = v at hg hc hi hv
    obtain ⟨⟨a1, a2, a3, a4, a5, a6⟩, a7, a8, ms, vs⟩ := v
    have e : (shortL ⟨.mk a1 a2 a3 a4 a5 a6, a7, a8, ms, vs⟩).cells = (Slt.mk (shortV 2 (.mk a1 a2 a3 a4 a5 a6)) a7 a8 ((ms.take 4).map shortM) ((vs.take 4).map (shortV 3))).cells := rfl
    rw [e]
    dsimp only at hc hi hv
    generalize shortV 2 (.mk a1 a2 a3 a4 a5 a6) = w at hc
    obtain ⟨b1, b2, b3, b4, b5, b6⟩ := w
    have l1 : (msgsC ((ms.take 4).map shortM)).length = (ms.take 4).length := by rw [msgsC_length, List.length_map]
    have l2 : (cellsL ((vs.take 4).map (shortV 3))).length = (vs.take 4).length := by rw [cellsL_length, List.length_map]
    have hi' := hi (cellsL a5) (cellsF a6) a1 a2 a3 a4 a7 a8 (cellsL vs) b1 b2 b3 b4 (cellsL b5) (cellsF b6)
    have hv' := hv (cellsL a5) (cellsF a6) a1 a2 a3 a4 a7 a8 (msgsC ms) b1 b2 b3 b4 (cellsL b5) (cellsF b6) (msgsC ((ms.take 4).map shortM)) (ms.take 4).length
    generalize sltsC (((ss.take 6).take z).map shortL) = acc at hlen hi' hv'
    have e1 : (Slt.mk (.mk b1 b2 b3 b4 b5 b6) a7 a8 ((ms.take 4).map shortM) ((vs.take 4).map (shortV 3))).cells = slotC b1 b2 b3 b4 (cellsL b5) (cellsF b6) a7 a8 ((msgsC ((ms.take 4).map shortM)).take (ms.take 4).length) ((cellsL ((vs.take 4).map (shortV 3))).take (vs.take 4).length) := by
      rw [List.take_of_length_le (Nat.le_of_eq l1), List.take_of_length_le (Nat.le_of_eq l2)]; rfl
    rw [e1]
    generalize msgsC ((ms.take 4).map shortM) = its' at l1 hi' hv'
    generalize cellsL ((vs.take 4).map (shortV 3)) = vs' at l2 hv'
    generalize (ms.take 4).length = z1 at l1 hi' hv'
    generalize (vs.take 4).length = z2 at l2 hv'
    exact ⟨_, run_of (σ' := ssN a b (sltsC ss) acc z a1 a2 a3 a7 a8 a4 (cellsL a5) (cellsF a6) (msgsC ms) (cellsL vs) b1 b2 b3 b4 (cellsL b5) (cellsF b6) its' vs' z1 z2)
      [(13, .b true), (16, .b true), (23, .e (slotC a1 a2 a3 a4 (cellsL a5) (cellsF a6) a7 a8 (msgsC ms) (cellsL vs))), (27, .p (.agg (Val.mk b1 b2 b3 b4 b5 b6).cells)), (80, .app), (19, .i (Int.ofNat (z + 1)))]
      [(.exit 2, siE a b (sltsC ss) acc z a1 a2 a3 a7 a8 a4 (cellsL a5) (cellsF a6) (msgsC ms) (cellsL vs) b1 b2 b3 b4 (cellsL b5) (cellsF b6) its' z1), (.exit 4, swE a b (sltsC ss) acc z a1 a2 a3 a7 a8 a4 (cellsL a5) (cellsF a6) (msgsC ms) (cellsL vs) b1 b2 b3 b4 (cellsL b5) (cellsF b6) its' vs' z2 z1)]
      (pf10 (lt_nat (j := z) (k := (sltsC ss).length) (by omega)) (lt_lit hj2) hg hc hi' hv' (show 0 + z1 ≤ its'.length by omega) (show 0 + z2 ≤ vs'.length by omega) (app_ok (acc := acc) z 2 152 hlen.symm (by omega) (by omega)) (next_nat (j := z) (by omega))) (lo' := []) (by kernel_rfl), ss_canon' ..⟩
  · rw [List.take_length]
    by_cases h6 : (ss.take 6).length < ss.length
    · have h7 : (ss.take 6).length = 6 := by rw [List.length_take] at h6 ⊢; omega
      exact run_of [(13, .b true), (16, .b false)] [] (pf2 (lt_nat (j := (ss.take 6).length) (k := (sltsC ss).length) (by omega)) (nlt_nat (j := (ss.take 6).length) (k := 6) (by omega))) (lo' := []) (by kernel_rfl)
    · exact run_of [(13, .b false)] [] (pf1 (nlt_nat (j := (ss.take 6).length) (k := (sltsC ss).length) (by omega))) (lo' := []) (by kernel_rfl)
theorem short_state (s : Stt) (N : Nat) (hN : 60 ≤ N) : Gam.pureD (callF tab ext N) 7 [.agg s.cells] = some (.agg (shortS s).cells) := by
  obtain ⟨M, rfl⟩ : ∃ M, N = M + 1 := ⟨N - 1, by omega⟩
  obtain ⟨a, b, ss⟩ := s
  have hl := ss_loop M (by omega) a b ss (τ := ⟨[(1, .ptr 0 0 0), (2, .ptr 1 0 0), (3, .bs 2 0 0), (4, num 0)], [.var [num a, num b, .sl false 10 (sltsC ss)], .var zState, .row 10 []]⟩) (by kernel_rfl)
  have l1 : (sltsC ((ss.take 6).map shortL)).length = (ss.take 6).length := by rw [sltsC_length, List.length_map]
  have e : (shortS ⟨a, b, ss⟩).cells = [num a, num b, .sl false 10 (sltsC ((ss.take 6).map shortL))] := rfl
  rw [e]
  generalize sltsC ((ss.take 6).map shortL) = acc at l1 hl
  generalize (ss.take 6).length = z at l1 hl
  have hd : (X.agg [num a, num b, .bs 0 0 z]).data [.row 10 acc] false = some (.agg [num a, num b, .sl false 10 acc]) := by
    subst l1; simp [X.data, dataL, rowOf, num]
  exact pure_of [] [(.exit 0, ⟨[(1, .ptr 0 0 0), (2, .ptr 1 0 0), (3, .bs 2 0 z), (4, nat z), (17, boolX false)], [.var [num a, num b, .sl false 10 (sltsC ss)], .var zState, .row 10 acc]⟩)] (pf1 hl) (x := .agg [num a, num b, .bs 0 0 z]) (bx := [.row 10 acc]) (by kernel_rfl) hd

/-! ### What is cut is small -/
mutual
theorem short_bound : ∀ (n : Nat) (v : Val), (shortV n v).size ≤ 13 ^ n * 2 - 1
  | 0, .mk .. => by simp [shortV, Val.size, sizeL, sizeF]
  | n + 1, .mk k i s t l f => by
    have h1 : ∀ l : List Val, sizeL (l.map (shortV n)) ≤ l.length * (13 ^ n * 2) := fun l => by
      induction l with
      | nil => simp [sizeL]
      | cons v l ih =>
        have := short_bound n v
        have hp : 0 < 13 ^ n := Nat.pow_pos (by omega)
        simp only [List.map_cons, sizeL, List.length_cons, Nat.add_mul]; omega
    have h2 : ∀ l : List (ByteArray × Val), sizeF (l.map fun p => (cutT 40 p.1, shortV n p.2)) ≤ l.length * (13 ^ n * 2) := fun l => by
      induction l with
      | nil => simp [sizeF]
      | cons v l ih =>
        have := short_bound n v.2
        have hp : 0 < 13 ^ n := Nat.pow_pos (by omega)
        simp only [List.map_cons, sizeF, List.length_cons, Nat.add_mul]; omega
    have g1 := h1 (l.take 6)
    have g2 := h2 (f.take 6)
    have e1 : (l.take 6).length * (13 ^ n * 2) ≤ 6 * (13 ^ n * 2) := Nat.mul_le_mul_right _ (by rw [List.length_take]; omega)
    have e2 : (f.take 6).length * (13 ^ n * 2) ≤ 6 * (13 ^ n * 2) := Nat.mul_le_mul_right _ (by rw [List.length_take]; omega)
    have hp : 0 < 13 ^ n := Nat.pow_pos (by omega)
    simp only [shortV, Val.size]
    rw [Nat.pow_succ]
    omega
end
theorem short_ok {n : Nat} (v : Val) (h : n ≤ 4) : (shortV n v).ok := by
  have h1 := short_bound n v
  have h2 : 13 ^ n ≤ 13 ^ 4 := Nat.pow_le_pow_right (by omega) h
  unfold Val.ok
  have h3 : 13 ^ 4 = 28561 := rfl
  omega
theorem shortM_ok (m : Msg) : (shortM m).ok := ⟨⟨by have := cutI_length m.st.p; show (cutI m.st.p).length ≤ 60000; omega⟩, by have := cutI_length m.orig; show (cutI m.orig).length ≤ 60000; omega, short_ok _ (by omega)⟩
theorem shortS_small (s : Stt) : (shortS s).small := by
  refine ⟨?_, fun x hx => ?_⟩
  · show ((s.slots.take 6).map shortL).length ≤ 100
    rw [List.length_map, List.length_take]; omega
  · obtain ⟨y, hy, rfl⟩ := List.mem_map.1 hx
    have h1 : ((y.items.take 4).map shortM).length ≤ 4 := by rw [List.length_map, List.length_take]; omega
    have h2 : ((y.vals.take 4).map (shortV 3)).length ≤ 4 := by rw [List.length_map, List.length_take]; omega
    refine ⟨⟨short_ok _ (by omega), ?_, fun m hm => ?_, ?_, fun v hv => ?_⟩, ?_, ?_⟩
    · show ((y.items.take 4).map shortM).length ≤ 60000; omega
    · obtain ⟨m', _, rfl⟩ := List.mem_map.1 hm; exact shortM_ok m'
    · show ((y.vals.take 4).map (shortV 3)).length ≤ 60000; omega
    · obtain ⟨v', _, rfl⟩ := List.mem_map.1 hv; exact short_ok v' (by omega)
    · show ((y.items.take 4).map shortM).length ≤ 100; omega
    · show ((y.vals.take 4).map (shortV 3)).length ≤ 100; omega
end Go.Proofs.YtbfnfldmnombgaaGreatDoor

/- Expressions, mappings, types, nodes are cut: it comes to an end. -/
namespace Go.Proofs.YtbfnfldmnombgaaGreatDoor
open Go.Em
set_option maxRecDepth 100000

/-- A loop that collects elements. -/
theorem loop_acc {nIn : Nat} {b : C} {B : Nat} {H : Nat → List (List X) → St} {k : Nat} {e : Ex} {E : List (List X) → St} {τ : St} (Q : List X → Prop) (hτ : canon nIn τ = some (H 0 []))
    (hstep : ∀ j acc, j < k → acc.length = j → ∃ x υ, Q x ∧ canon nIn υ = some (H (j + 1) (acc ++ [x])) ∧ ∀ M, B ≤ M → run (callF tab ext M) nIn M b (H j acc) = some (.norm, υ))
    (hend : ∀ acc, acc.length = k → ∀ M, B ≤ M → run (callF tab ext M) nIn M b (H k acc) = some (e, E acc)) (hne : e ≠ .norm) :
    ∃ acc : List (List X), acc.length = k ∧ (∀ x, x ∈ acc → Q x) ∧ ∀ M, B ≤ M → k < M → run (callF tab ext M) nIn M (.loop b) τ = some (e, E acc) := by
  have key : ∀ d j acc, j + d = k → acc.length = j → (∀ x, x ∈ acc → Q x) → ∃ fin : List (List X), fin.length = k ∧ (∀ x, x ∈ fin → Q x) ∧ ∀ M F υ, B ≤ M → d < F → canon nIn υ = some (H j acc) → iter nIn (run (callF tab ext M) nIn M b) F υ = some (e, E fin) := by
    intro d
    induction d with
    | zero =>
      intro j acc hj hacc hq
      have hjk : j = k := by omega
      subst hjk
      refine ⟨acc, hacc, hq, fun M F υ hM hF hc => ?_⟩
      obtain ⟨F', rfl⟩ : ∃ F', F = F' + 1 := ⟨F - 1, by omega⟩
      exact iter_end hc (hend acc hacc M hM) hne
    | succ d ih =>
      intro j acc hj hacc hq
      obtain ⟨x, υ, hx, hc, hs⟩ := hstep j acc (by omega) hacc
      obtain ⟨fin, hf, hfq, h⟩ := ih (j + 1) (acc ++ [x]) (by omega) (by simp [hacc]) (fun y hy => by
        rcases List.mem_append.1 hy with hy | hy
        · exact hq y hy
        · rw [List.mem_singleton] at hy; subst hy; exact hx)
      refine ⟨fin, hf, hfq, fun M F ω hM hF hω => ?_⟩
      obtain ⟨F', rfl⟩ : ∃ F', F = F' + 1 := ⟨F - 1, by omega⟩
      exact iter_step hω (hs M hM) (h M F' υ hM (by omega) hc)
  obtain ⟨fin, hf, hfq, h⟩ := key k 0 [] (by omega) rfl (fun x hx => by cases hx)
  exact ⟨fin, hf, hfq, fun M hM hk => by simp only [run]; exact h M M τ hM hk hτ⟩
def kOf (n len K : Nat) : Nat := if n = 0 then 0 else min len K
theorem kOf_le (n len K : Nat) : kOf n len K ≤ len ∧ kOf n len K ≤ K := by unfold kOf; split <;> omega
def isVal (c : List X) : Prop := ∃ v : Val, c = v.cells
/-- An expression whose arguments are looked at to a depth. -/
def isExp : Nat → List X → Prop
  | 0, c => ∃ o i t vs es, c = [num o, num i, strX t, .sl false 6 vs, .sl false 5 es] ∧ ∀ x, x ∈ vs → isVal x
  | n + 1, c => ∃ o i t vs es, c = [num o, num i, strX t, .sl false 6 vs, .sl false 5 es] ∧ (∀ x, x ∈ vs → isVal x) ∧ ∀ x, x ∈ es → isExp n x
theorem isExp_zero : ∀ {n : Nat} {c : List X}, isExp n c → isExp 0 c
  | 0, _, h => h
  | _ + 1, _, ⟨o, i, t, vs, es, h1, h2, _⟩ => ⟨o, i, t, vs, es, h1, h2⟩
def zExp : List X := [num 0, num 0, noText, .sl true 6 [], .sl true 5 []]
def expC (o i : Int) (t : ByteArray) (vs es : List (List X)) : List X := [num o, num i, strX t, .sl false 6 vs, .sl false 5 es]

section
variable (n : Nat) (o i : Int) (t : ByteArray) (l f : List (List X)) (acc : List (List X)) (j : Nat) (x : List X)
def xvH : St := ⟨[(1, num (Int.ofNat (n + 1))), (2, .ptr 0 0 0), (4, .ptr 1 0 0), (5, .bs 2 0 j), (6, nat j)], [.var (expC o i t l f), .var zExp, .row 6 acc]⟩
def xvN : St := ⟨[(1, num (Int.ofNat (n + 1))), (2, .ptr 0 0 0), (4, .ptr 1 0 0), (5, .bs 3 0 (j + 1)), (6, nat (j + 1))], [.var (expC o i t l f), .var zExp, .dead, .row 6 (acc ++ [x])]⟩
def xvE : St := ⟨[(1, num (Int.ofNat (n + 1))), (2, .ptr 0 0 0), (4, .ptr 1 0 0), (5, .bs 2 0 j), (6, nat j), (25, boolX false)], [.var (expC o i t l f), .var zExp, .row 6 acc]⟩
theorem xv_canon : canon 0 (xvN n o i t l f acc j x) = some (xvH n o i t l f (acc ++ [x]) (j + 1)) := by kernel_rfl
end
theorem xv_loop (n : Nat) (o i : Int) (t : ByteArray) (l f : List (List X)) (hl : ∀ x, x ∈ l → isVal x) {τ : St} (hτ : canon 0 τ = some (xvH n o i t l f [] 0)) : ∃ acc, acc.length = min l.length 2 ∧ (∀ x, x ∈ acc → (fun _ => True) x) ∧ ∀ M, 40 ≤ M → run (callF tab ext M) 0 M (.loop (loopAt 42 0)) τ = some (.exit 0, xvE n o i t l f acc (min l.length 2)) := by
  have hK : min l.length 2 ≤ 2 := by exact Nat.min_le_right _ _
  have key : ∃ acc : List (List X), acc.length = min l.length 2 ∧ (∀ x, x ∈ acc → (fun _ => True) x) ∧ ∀ M, 40 ≤ M → min l.length 2 < M → run (callF tab ext M) 0 M (.loop (loopAt 42 0)) τ = some (.exit 0, xvE n o i t l f acc (min l.length 2)) := ?_
  · obtain ⟨acc, h1, hq, h2⟩ := key
    exact ⟨acc, h1, hq, fun M hM => h2 M hM (by omega)⟩
  refine loop_acc (nIn := 0) (b := loopAt 42 0) (B := 40) (H := fun j acc => xvH n o i t l f acc j) (k := min l.length 2) (e := .exit 0) (E := fun acc => xvE n o i t l f acc (min l.length 2)) (fun _ => True) hτ (fun j acc hj hacc => ?_) (fun acc hacc M hM => ?_) (by simp)
  · have hj1 : j < l.length := by omega
    have hj2 : j < 2 := by omega
    obtain ⟨v, hv⟩ := hl _ (List.getElem_mem hj1)
    have hg : l[j]? = some v.cells := by rw [List.getElem?_eq_getElem hj1, hv]
    have hc := short_val 1 v
    generalize shortV 1 v = w at hc
    obtain ⟨a1, a2, a3, a4, a5, a6⟩ := v
    obtain ⟨b1, b2, b3, b4, b5, b6⟩ := w
    exact ⟨(Val.mk b1 b2 b3 b4 b5 b6).cells, xvN n o i t l f acc j ((Val.mk b1 b2 b3 b4 b5 b6).cells), trivial, xv_canon .., fun M hM => run_of [(21, .b true), (24, .b true), (32, .e (Val.mk a1 a2 a3 a4 a5 a6).cells), (34, .p (.agg (Val.mk b1 b2 b3 b4 b5 b6).cells)), (36, .app), (27, .i (Int.ofNat (j + 1)))] [] (pf6 (lt_nat (j := j) (k := l.length) hj1) (lt_lit hj2) hg (hc M (by omega) (by omega)) (app_ok (acc := acc) j 2 88 hacc.symm (by omega) (by omega)) (next_nat (j := j) (by omega))) (lo' := []) (by kernel_rfl)⟩
  · generalize hq : min l.length 2 = q
    by_cases h6 : q < l.length
    · exact run_of [(21, .b true), (24, .b false)] [] (pf2 (lt_nat (j := q) (k := l.length) h6) (nlt_nat (j := q) (k := 2) (by omega))) (lo' := []) (by kernel_rfl)
    · exact run_of [(21, .b false)] [] (pf1 (nlt_nat (j := q) (k := l.length) h6)) (lo' := []) (by kernel_rfl)
section
variable (n : Nat) (o i : Int) (t : ByteArray) (l f acc0 : List (List X)) (m : Nat) (acc : List (List X)) (j : Nat) (x : List X)
def xaH : St := ⟨[(1, num (Int.ofNat (n + 1))), (2, .ptr 0 0 0), (4, .ptr 1 0 0), (5, .bs 2 0 m), (7, .bs 3 0 j), (8, nat j)], [.var (expC o i t l f), .var zExp, .row 6 acc0, .row 5 acc]⟩
def xaN : St := ⟨[(1, num (Int.ofNat (n + 1))), (2, .ptr 0 0 0), (4, .ptr 1 0 0), (5, .bs 2 0 m), (7, .bs 4 0 (j + 1)), (8, nat (j + 1))], [.var (expC o i t l f), .var zExp, .row 6 acc0, .dead, .row 5 (acc ++ [x])]⟩
def xaE : St := ⟨[(1, num (Int.ofNat (n + 1))), (2, .ptr 0 0 0), (4, .ptr 1 0 0), (5, .bs 2 0 m), (7, .bs 3 0 j), (8, nat j), (49, boolX false)], [.var (expC o i t l f), .var zExp, .row 6 acc0, .row 5 acc]⟩
theorem xa_canon : canon 0 (xaN n o i t l f acc0 m acc j x) = some (xaH n o i t l f acc0 m (acc ++ [x]) (j + 1)) := by kernel_rfl
end
theorem xa_loop (n : Nat) (o i : Int) (t : ByteArray) (l f acc0 : List (List X)) (m : Nat) (hn : n < 1000) (hf : ∀ m, n = m + 1 → ∀ x, x ∈ f → ∃ o i t vs es o' i' t' vs' es', x = expC o i t vs es ∧ ∀ N, 50 + n ≤ N → Gam.pureD (callF tab ext N) 42 [.agg (expC o i t vs es), nat (m + 1)] = some (.agg (expC o' i' t' vs' es'))) {τ : St} (hτ : canon 0 τ = some (xaH n o i t l f acc0 m [] 0)) : ∃ acc, acc.length = kOf n f.length 4 ∧ (∀ x, x ∈ acc → (fun _ => True) x) ∧ ∀ M, (50 + n) ≤ M → run (callF tab ext M) 0 M (.loop (loopAt 42 1)) τ = some (.exit 2, xaE n o i t l f acc0 m acc (kOf n f.length 4)) := by
  have hkk : kOf n f.length 4 ≤ f.length ∧ kOf n f.length 4 ≤ 4 := kOf_le ..
  have hK : kOf n f.length 4 ≤ 4 := by omega
  have key : ∃ acc : List (List X), acc.length = kOf n f.length 4 ∧ (∀ x, x ∈ acc → (fun _ => True) x) ∧ ∀ M, (50 + n) ≤ M → kOf n f.length 4 < M → run (callF tab ext M) 0 M (.loop (loopAt 42 1)) τ = some (.exit 2, xaE n o i t l f acc0 m acc (kOf n f.length 4)) := ?_
  · obtain ⟨acc, h1, hq, h2⟩ := key
    exact ⟨acc, h1, hq, fun M hM => h2 M hM (by omega)⟩
  refine loop_acc (nIn := 0) (b := loopAt 42 1) (B := (50 + n)) (H := fun j acc => xaH n o i t l f acc0 m acc j) (k := kOf n f.length 4) (e := .exit 2) (E := fun acc => xaE n o i t l f acc0 m acc (kOf n f.length 4)) (fun _ => True) hτ (fun j acc hj hacc => ?_) (fun acc hacc M hM => ?_) (by simp)
  · have hj1 : j < f.length := by omega
    have hj2 : j < 4 := by omega
    obtain ⟨n, rfl⟩ : ∃ m, n = m + 1 := by
      cases n with
      | zero => simp [kOf] at hj
      | succ m => exact ⟨m, rfl⟩
    obtain ⟨o1, i1, t1, v1, e1, o2, i2, t2, v2, e2, hv, hc⟩ := hf n rfl _ (List.getElem_mem hj1)
    have hg : f[j]? = some (expC o1 i1 t1 v1 e1) := by rw [List.getElem?_eq_getElem hj1, hv]
    exact ⟨(expC o2 i2 t2 v2 e2), xaN (n + 1) o i t l f acc0 m acc j ((expC o2 i2 t2 v2 e2)), trivial, xa_canon .., fun M hM => run_of [(41, .b true), (44, .b true), (48, .b true), (56, .e (expC o1 i1 t1 v1 e1)), (59, .i (Int.ofNat (n + 1))), (60, .p (.agg (expC o2 i2 t2 v2 e2))), (62, .app), (51, .i (Int.ofNat (j + 1)))] [] (pf8 (lt_nat (j := j) (k := f.length) hj1) (lt_lit hj2) (gt_one n) hg (dec_nat (j := n + 1) (by omega)) (hc M (by omega)) (app_ok (acc := acc) j 3 80 hacc.symm (by omega) (by omega)) (next_nat (j := j) (by omega))) (lo' := []) (by kernel_rfl)⟩
  · cases n with
    | zero =>
      have e0 : kOf 0 f.length 4 = 0 := rfl
      rw [e0]
      cases h1 : decide (Int.ofNat 0 < Int.ofNat f.length) with
      | true => exact run_of [(41, .b true)] [] (pf1 h1) (lo' := []) (by kernel_rfl)
      | false => exact run_of [(41, .b false)] [] (pf1 h1) (lo' := []) (by kernel_rfl)
    | succ n =>
      have e1 : kOf (n + 1) f.length 4 = min f.length 4 := rfl
      rw [e1]
      generalize hq : min f.length 4 = q
      by_cases h6 : q < f.length
      · exact run_of [(41, .b true), (44, .b false)] [] (pf2 (lt_nat (j := q) (k := f.length) h6) (nlt_nat (j := q) (k := 4) (by omega))) (lo' := []) (by kernel_rfl)
      · exact run_of [(41, .b false)] [] (pf1 (nlt_nat (j := q) (k := f.length) h6)) (lo' := []) (by kernel_rfl)
theorem short_exp : ∀ (n : Nat) (c : List X), n < 1000 → isExp n c → ∃ o i t vs es o' i' t' vs' es', c = expC o i t vs es ∧ ∀ N, 50 + (n + 1) ≤ N → Gam.pureD (callF tab ext N) 42 [.agg (expC o i t vs es), nat (n + 1)] = some (.agg (expC o' i' t' vs' es')) := by
  intro n
  induction n with
  | zero =>
    rintro c hn ⟨o, i, t, l, f, rfl, hl⟩
    obtain ⟨acc, h1, _, h2⟩ := xv_loop 0 o i (cutT 60 t) l f hl (τ := ⟨[(1, num (Int.ofNat (0 + 1))), (2, .ptr 0 0 0), (4, .ptr 1 0 0), (5, .bs 2 0 0), (6, nat 0)], [.var (expC o i (cutT 60 t) l f), .var zExp, .row 6 []]⟩) (by kernel_rfl)
    generalize min l.length 2 = m at h1 h2
    obtain ⟨acc2, h3, _, h4⟩ := xa_loop 0 o i (cutT 60 t) l f acc m (by omega) (fun m hm => by omega) (τ := ⟨[(1, num (Int.ofNat (0 + 1))), (2, .ptr 0 0 0), (4, .ptr 1 0 0), (5, .bs 2 0 m), (7, .bs 3 0 0), (8, nat 0)], [.var (expC o i (cutT 60 t) l f), .var zExp, .row 6 acc, .row 5 []]⟩) (by kernel_rfl)
    generalize kOf 0 f.length 4 = q at h3 h4
    refine ⟨o, i, t, l, f, o, i, cutT 60 t, acc, acc2, rfl, fun N hN => ?_⟩
    obtain ⟨M, rfl⟩ : ∃ M, N = M + 1 := ⟨N - 1, by omega⟩
    have hd : (X.agg [num o, num i, strX (cutT 60 t), .bs 0 0 m, .bs 1 0 q]).data [.row 6 acc, .row 5 acc2] false = some (.agg (expC o i (cutT 60 t) acc acc2)) := by
      subst h1 h3; simp [X.data, dataL, rowOf, num, strX, expC]
    exact pure_of [(14, .i (Int.ofNat (min t.size 60))), (15, .cut)] [(.exit 0, xvE 0 o i (cutT 60 t) l f acc m), (.exit 2, xaE 0 o i (cutT 60 t) l f acc m acc2 q)] (pf4 (min_int t.size 60) (cut_ok t.size 60) (h2 M (by omega)) (h4 M (by omega)))
      (x := .agg [num o, num i, strX (cutT 60 t), .bs 0 0 m, .bs 1 0 q]) (bx := [.row 6 acc, .row 5 acc2]) (by kernel_rfl) hd
  | succ n ih =>
    rintro c hn ⟨o, i, t, l, f, rfl, hl, hf⟩
    obtain ⟨acc, h1, _, h2⟩ := xv_loop (n + 1) o i (cutT 60 t) l f hl (τ := ⟨[(1, num (Int.ofNat (n + 1 + 1))), (2, .ptr 0 0 0), (4, .ptr 1 0 0), (5, .bs 2 0 0), (6, nat 0)], [.var (expC o i (cutT 60 t) l f), .var zExp, .row 6 []]⟩) (by kernel_rfl)
    generalize min l.length 2 = m at h1 h2
    obtain ⟨acc2, h3, _, h4⟩ := xa_loop (n + 1) o i (cutT 60 t) l f acc m (by omega) (fun m hm x hx => by
      obtain rfl : n = m := by omega
      obtain ⟨o1, i1, t1, v1, e1, o2, i2, t2, v2, e2, h1, h2⟩ := ih x (by omega) (hf x hx)
      exact ⟨o1, i1, t1, v1, e1, o2, i2, t2, v2, e2, h1, h2⟩) (τ := ⟨[(1, num (Int.ofNat (n + 1 + 1))), (2, .ptr 0 0 0), (4, .ptr 1 0 0), (5, .bs 2 0 m), (7, .bs 3 0 0), (8, nat 0)], [.var (expC o i (cutT 60 t) l f), .var zExp, .row 6 acc, .row 5 []]⟩) (by kernel_rfl)
    generalize kOf (n + 1) f.length 4 = q at h3 h4
    refine ⟨o, i, t, l, f, o, i, cutT 60 t, acc, acc2, rfl, fun N hN => ?_⟩
    obtain ⟨M, rfl⟩ : ∃ M, N = M + 1 := ⟨N - 1, by omega⟩
    have hd : (X.agg [num o, num i, strX (cutT 60 t), .bs 0 0 m, .bs 1 0 q]).data [.row 6 acc, .row 5 acc2] false = some (.agg (expC o i (cutT 60 t) acc acc2)) := by
      subst h1 h3; simp [X.data, dataL, rowOf, num, strX, expC]
    exact pure_of [(14, .i (Int.ofNat (min t.size 60))), (15, .cut)] [(.exit 0, xvE (n + 1) o i (cutT 60 t) l f acc m), (.exit 2, xaE (n + 1) o i (cutT 60 t) l f acc m acc2 q)] (pf4 (min_int t.size 60) (cut_ok t.size 60) (h2 M (by omega)) (h4 M (by omega)))
      (x := .agg [num o, num i, strX (cutT 60 t), .bs 0 0 m, .bs 1 0 q]) (bx := [.row 6 acc, .row 5 acc2]) (by kernel_rfl) hd

def isRule (c : List X) : Prop := ∃ t e, c = strX t :: e ∧ isExp 3 e
def isRul0 (c : List X) : Prop := ∃ s o i t vs es, c = [strX s, num o, num i, strX t, .sl false 6 vs, .sl false 5 es]
def ruleC (s : ByteArray) (o i : Int) (t : ByteArray) (vs es : List (List X)) : List X := [strX s, num o, num i, strX t, .sl false 6 vs, .sl false 5 es]

section
variable (l : List (List X)) (acc : List (List X)) (j : Nat) (x : List X)
def ruH : St := ⟨[(1, .ptr 0 0 0), (2, .ptr 1 0 0), (3, .ptr 2 0 0), (4, nat j)], [.var [.sl false 6 l], .var [.sl true 6 []], .var [.bs 3 0 j], .row 6 acc]⟩
def ruN : St := ⟨[(1, .ptr 0 0 0), (2, .ptr 1 0 0), (3, .ptr 2 0 0), (4, nat (j + 1))], [.var [.sl false 6 l], .var [.sl true 6 []], .var [.bs 4 0 (j + 1)], .dead, .row 6 (acc ++ [x])]⟩
def ruE : St := ⟨[(1, .ptr 0 0 0), (2, .ptr 1 0 0), (3, .ptr 2 0 0), (4, nat j), (13, boolX false)], [.var [.sl false 6 l], .var [.sl true 6 []], .var [.bs 3 0 j], .row 6 acc]⟩
theorem ru_canon : canon 0 (ruN l acc j x) = some (ruH l (acc ++ [x]) (j + 1)) := by kernel_rfl
end
theorem ru_loop (l : List (List X)) (hl : ∀ x, x ∈ l → isRule x) {τ : St} (hτ : canon 0 τ = some (ruH l [] 0)) : ∃ acc, acc.length = min l.length 8 ∧ (∀ x, x ∈ acc → (isRul0) x) ∧ ∀ M, 100 ≤ M → run (callF tab ext M) 0 M (.loop (loopAt 18 0)) τ = some (.exit 0, ruE l acc (min l.length 8)) := by
  have hK : min l.length 8 ≤ 8 := by exact Nat.min_le_right _ _
  have key : ∃ acc : List (List X), acc.length = min l.length 8 ∧ (∀ x, x ∈ acc → (isRul0) x) ∧ ∀ M, 100 ≤ M → min l.length 8 < M → run (callF tab ext M) 0 M (.loop (loopAt 18 0)) τ = some (.exit 0, ruE l acc (min l.length 8)) := ?_
  · obtain ⟨acc, h1, hq, h2⟩ := key
    exact ⟨acc, h1, hq, fun M hM => h2 M hM (by omega)⟩
  refine loop_acc (nIn := 0) (b := loopAt 18 0) (B := 100) (H := fun j acc => ruH l acc j) (k := min l.length 8) (e := .exit 0) (E := fun acc => ruE l acc (min l.length 8)) (isRul0) hτ (fun j acc hj hacc => ?_) (fun acc hacc M hM => ?_) (by simp)
  · have hj1 : j < l.length := by omega
    have hj2 : j < 8 := by omega
    obtain ⟨s, e, hv, he⟩ := hl _ (List.getElem_mem hj1)
    obtain ⟨o1, i1, t1, v1, e1, o2, i2, t2, v2, e2, rfl, hc⟩ := short_exp 3 e (by omega) he
    have hg : l[j]? = some (ruleC s o1 i1 t1 v1 e1) := by rw [List.getElem?_eq_getElem hj1, hv]; rfl
    exact ⟨(ruleC (cutT 60 s) o2 i2 t2 v2 e2), ruN l acc j ((ruleC (cutT 60 s) o2 i2 t2 v2 e2)), ⟨cutT 60 s, o2, i2, t2, v2, e2, rfl⟩, ru_canon .., fun M hM => run_of [(9, .b true), (12, .b true), (21, .e (ruleC s o1 i1 t1 v1 e1)), (27, .e (ruleC s o1 i1 t1 v1 e1)), (31, .i (Int.ofNat (min s.size 60))), (32, .cut), (36, .e (ruleC s o1 i1 t1 v1 e1)), (39, .p (.agg (expC o2 i2 t2 v2 e2))), (42, .app), (15, .i (Int.ofNat (j + 1)))] [] (pf10 (lt_nat (j := j) (k := l.length) hj1) (lt_lit hj2) hg hg (min_int s.size 60) (cut_ok s.size 60) hg (hc M (by omega)) (app_ok (acc := acc) j 3 96 hacc.symm (by omega) (by omega)) (next_nat (j := j) (by omega))) (lo' := []) (by kernel_rfl)⟩
  · generalize hq : min l.length 8 = q
    by_cases h6 : q < l.length
    · exact run_of [(9, .b true), (12, .b false)] [] (pf2 (lt_nat (j := q) (k := l.length) h6) (nlt_nat (j := q) (k := 8) (by omega))) (lo' := []) (by kernel_rfl)
    · exact run_of [(9, .b false)] [] (pf1 (nlt_nat (j := q) (k := l.length) h6)) (lo' := []) (by kernel_rfl)
theorem short_map (l : List (List X)) (hl : ∀ x, x ∈ l → isRule x) : ∃ l', l'.length ≤ 8 ∧ (∀ x, x ∈ l' → isRul0 x) ∧ ∀ N, 110 ≤ N → Gam.pureD (callF tab ext N) 18 [.agg [.sl false 6 l]] = some (.agg [.sl false 6 l']) := by
  obtain ⟨acc, h1, hq, h2⟩ := ru_loop l hl (τ := ⟨[(1, .ptr 0 0 0), (2, .ptr 1 0 0), (3, .ptr 2 0 0), (4, nat 0)], [.var [.sl false 6 l], .var [.sl true 6 []], .var [.bs 3 0 0], .row 6 []]⟩) (by kernel_rfl)
  have hk : min l.length 8 ≤ 8 := Nat.min_le_right _ _
  generalize min l.length 8 = m at h1 h2 hk
  refine ⟨acc, by omega, hq, fun N hN => ?_⟩
  obtain ⟨M, rfl⟩ : ∃ M, N = M + 1 := ⟨N - 1, by omega⟩
  have hd : (X.agg [.bs 0 0 m]).data [.row 6 acc] false = some (.agg [.sl false 6 acc]) := by
    subst h1; simp [X.data, dataL, rowOf]
  exact pure_of [] [(.exit 0, ruE l acc m)] (pf1 (h2 M (by omega))) (x := .agg [.bs 0 0 m]) (bx := [.row 6 acc]) (by kernel_rfl) hd

end Go.Proofs.YtbfnfldmnombgaaGreatDoor
