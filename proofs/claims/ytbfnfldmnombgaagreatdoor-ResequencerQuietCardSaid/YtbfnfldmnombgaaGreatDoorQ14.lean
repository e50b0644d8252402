/- The check of a slot: its items. -/
import Derived.Test.YtbfnfldmnombgaaGreatDoorQ13
namespace Go.Proofs.YtbfnfldmnombgaaGreatDoor
open Go.Em
set_option maxRecDepth 100000

/-- As 'scan', with boxes that came in. -/
theorem scanN {nIn : Nat} {b : C} {H : Nat → St} {e : Ex} {fin τ : St} {n B : Nat} (good : St → Prop) (h0 : canon nIn τ = some (H 0))
    (hstep : ∀ j, j < n → (∃ r, good r ∧ ∀ M, B ≤ M → run (callF tab ext M) nIn M b (H j) = some (.ret, r)) ∨ (∃ υ, canon nIn υ = some (H (j + 1)) ∧ ∀ M, B ≤ M → run (callF tab ext M) nIn M b (H j) = some (.norm, υ)))
    (hend : ∀ M, B ≤ M → run (callF tab ext M) nIn M b (H n) = some (e, fin)) (hne : e ≠ .norm) :
    (∃ r, good r ∧ ∀ M, B ≤ M → n < M → run (callF tab ext M) nIn M (.loop b) τ = some (.ret, r)) ∨ (∀ M, B ≤ M → n < M → run (callF tab ext M) nIn M (.loop b) τ = some (e, fin)) := by
  have key : ∀ d j, j + d = n → (∃ r, good r ∧ ∀ M F υ, B ≤ M → d < F → canon nIn υ = some (H j) → iter nIn (run (callF tab ext M) nIn M b) F υ = some (.ret, r)) ∨ (∀ M F υ, B ≤ M → d < F → canon nIn υ = some (H j) → iter nIn (run (callF tab ext M) nIn M b) F υ = some (e, fin)) := by
    intro d
    induction d with
    | zero =>
      intro j hj
      have hjn : j = n := by omega
      subst hjn
      right
      intro M F υ hM hF hc
      obtain ⟨F', rfl⟩ : ∃ F', F = F' + 1 := ⟨F - 1, by omega⟩
      exact iter_end hc (hend M hM) hne
    | succ d ih =>
      intro j hj
      rcases hstep j (by omega) with ⟨r, hr, h⟩ | ⟨ω, hω, h⟩
      · left
        refine ⟨r, hr, fun M F υ hM hF hc => ?_⟩
        obtain ⟨F', rfl⟩ : ∃ F', F = F' + 1 := ⟨F - 1, by omega⟩
        exact iter_end hc (h M hM) (by simp)
      · rcases ih (j + 1) (by omega) with ⟨r, hr, h'⟩ | h'
        · left
          refine ⟨r, hr, fun M F υ hM hF hc => ?_⟩
          obtain ⟨F', rfl⟩ : ∃ F', F = F' + 1 := ⟨F - 1, by omega⟩
          exact iter_step hc (h M hM) (h' M F' ω hM (by omega) hω)
        · right
          intro M F υ hM hF hc
          obtain ⟨F', rfl⟩ : ∃ F', F = F' + 1 := ⟨F - 1, by omega⟩
          exact iter_step hc (h M hM) (h' M F' ω hM (by omega) hω)
  simp only [run]
  rcases key n 0 (by omega) with ⟨r, hr, h⟩ | h
  · exact .inl ⟨r, hr, fun M hM hn => h M M τ hM hn h0⟩
  · exact .inr fun M hM hn => h M M τ hM hn h0

/-- The checker's boxes, and the slot: nothing appended yet, or something. -/
def ckB (f : Bool) (k v : Nat) (acc : List (List X)) (s : List X) : List Bx :=
  if f then [.var [.bs 3 0 k, nat v], .dead, .var s, .row 10 acc] else [.var [.bs 1 0 k, nat v], .row 10 acc, .var s]
def ckH (f : Bool) (items : List (List X)) (n j k v : Nat) (acc : List (List X)) (s : List X) : St :=
  ⟨[(0, .ptr 0 0 0), (3, .ptr 2 0 0), (21, .sl false 10 items), (22, nat n), (23, nat j)], ckB f k v acc s⟩
inductive BadCk : St → Prop
  | a (c : Int) (k v : Nat) (acc : List (List X)) (x y : Bx) (h : c ≠ 0) : BadCk ⟨[(4, num c)], [.var [.bs 1 0 k, nat v], .row 10 acc, x, y]⟩
  | b (c : Int) (k v : Nat) (acc : List (List X)) (x y : Bx) (h : c ≠ 0) : BadCk ⟨[(4, num c)], [.var [.bs 3 0 k, nat v], .dead, x, .row 10 acc, y]⟩
  | c (c : Int) (k v : Nat) (acc : List (List X)) (x : Bx) (h : c ≠ 0) : BadCk ⟨[(4, num c)], [.var [.bs 1 0 k, nat v], .row 10 acc, x]⟩
  | d (c : Int) (k v : Nat) (acc : List (List X)) (x : Bx) (h : c ≠ 0) : BadCk ⟨[(4, num c)], [.var [.bs 2 0 k, nat v], .dead, .row 10 acc, x]⟩
theorem data_row (acc : List Msg) (k i : Nat) (g : X) (bx : List Bx) (hb : bx[i]? = some (.row 10 (msgsC acc))) (hk : k = acc.length) (hg : g.data bx false = some g) : dataL bx false [.bs i 0 k, g] = some [.sl false 10 (msgsC acc), g] := by
  subst hk
  have hl := msgsC_length acc
  simp only [dataL, X.data, rowOf, hb, Nat.zero_add, hl, Nat.le_refl, if_true, Option.map_some, List.drop_zero, hg]
  rw [List.take_of_length_le (by omega)]
theorem ck_end (k0 i0 s0 : Int) (t0 : ByteArray) (l0 f0 : List (List X)) (n0 d0 : Int) (items vals : List (List X)) (n k v : Nat) (acc : List (List X)) (f : Bool) (M : Nat) :
    run (callF tab ext M) 2 M (loopAt 50 0) (ckH f items n n k v acc (slotC k0 i0 s0 t0 l0 f0 n0 d0 items vals)) = some (.exit 0, ⟨[(0, .ptr 0 0 0), (3, .ptr 2 0 0), (21, .sl false 10 items), (22, nat n), (23, nat n), (24, boolX false)], ckB f k v acc (slotC k0 i0 s0 t0 l0 f0 n0 d0 items vals)⟩) := by
  cases f with
  | true => exact run_of [(24, .b false)] [] (pf1 (nlt_nat (Nat.lt_irrefl n))) (lo' := []) (by kernel_rfl)
  | false => exact run_of [(24, .b false)] [] (pf1 (nlt_nat (Nat.lt_irrefl n))) (lo' := []) (by kernel_rfl)
end Go.Proofs.YtbfnfldmnombgaaGreatDoor

/- The check of a slot as a whole. -/
namespace Go.Proofs.YtbfnfldmnombgaaGreatDoor
open Go.Em
set_option maxRecDepth 100000

def cvB (f : Bool) (k v : Nat) (acc : List (List X)) : List Bx := if f then [.var [.bs 2 0 k, nat v], .dead, .row 10 acc] else [.var [.bs 1 0 k, nat v], .row 10 acc]
def cvSt (f : Bool) (vals : List (List X)) (n j k v : Nat) (acc : List (List X)) : St := ⟨[(0, .ptr 0 0 0), (56, .sl false 6 vals), (57, nat n), (58, nat j)], cvB f k v acc⟩
def cvFin (f : Bool) (vals : List (List X)) (n j k v : Nat) (acc : List (List X)) : St := ⟨[(0, .ptr 0 0 0), (56, .sl false 6 vals), (57, nat n), (58, nat j), (59, boolX false)], cvB f k v acc⟩
end Go.Proofs.YtbfnfldmnombgaaGreatDoor

/- The check of a slot: what it says, and what it leaves with the checker. -/
namespace Go.Proofs.YtbfnfldmnombgaaGreatDoor
open Go.Em
set_option maxRecDepth 100000

end Go.Proofs.YtbfnfldmnombgaaGreatDoor

/- The check of a state comes to an end. -/
namespace Go.Proofs.YtbfnfldmnombgaaGreatDoor
open Go.Em
set_option maxRecDepth 100000

def scSt (st slots : List (List X)) (n j k v : Nat) (acc : List (List X)) (a b : Int) : St :=
  ⟨[(1, .ptr 0 0 0), (4, .ptr 1 0 0), (22, .sl false 10 slots), (23, nat n), (24, nat j)], [.var [num a, num b, .sl false 10 st], .var [.bs 2 0 k, nat v], .row 10 acc]⟩
/-- What a round of the check of a state comes to. -/
def ScRound (slots : List (List X)) (n j k v : Nat) (acc acc' : List (List X)) (a b : Int) (k' v' : Nat) : Prop :=
  (∃ r, (∃ (c : Int) (bx : List Bx), r = ⟨[(2, num c)], bx⟩) ∧ ∀ M, 190050 ≤ M → run (callF tab ext M) 0 M (loopAt 27 0) (scSt slots slots n j k v acc a b) = some (.ret, r)) ∨
  (∃ υ, canon 0 υ = some (scSt slots slots n (j + 1) k' v' acc' a b) ∧ ∀ M, 190050 ≤ M → run (callF tab ext M) 0 M (loopAt 27 0) (scSt slots slots n j k v acc a b) = some (.norm, υ))
end Go.Proofs.YtbfnfldmnombgaaGreatDoor

/- The check of a state as a whole. -/
namespace Go.Proofs.YtbfnfldmnombgaaGreatDoor
open Go.Em
set_option maxRecDepth 100000

/-- A state of the sizes of layer 31. -/
structure Stt.small (s : Stt) : Prop where
  slots : s.slots.length ≤ 100
  slot : ∀ x, x ∈ s.slots → x.ok ∧ x.items.length ≤ 100 ∧ x.vals.length ≤ 100
theorem Stt.small.ok {s : Stt} (h : s.small) : s.ok := ⟨by have := h.slots; omega, fun x hx => (h.slot x hx).1⟩
def accOf (l : List Slt) : List Msg := l.flatMap (·.items)
def valsOf : List Slt → Nat
  | [] => 0
  | x :: r => (cellsL x.vals).length + valsOf r
theorem valsOf_append : ∀ (l : List Slt) (x : Slt), valsOf (l ++ [x]) = valsOf l + (cellsL x.vals).length
  | [], x => by simp [valsOf]
  | y :: l, x => by simp only [List.cons_append, valsOf, valsOf_append l x]; omega
theorem accOf_append (l : List Slt) (x : Slt) : accOf (l ++ [x]) = accOf l ++ x.items := by simp [accOf]
theorem accOf_length : ∀ (l : List Slt), (∀ x, x ∈ l → x.items.length ≤ 100) → (accOf l).length ≤ 100 * l.length
  | [], _ => by simp [accOf]
  | y :: l, h => by
    have h1 := h y (by simp)
    have h2 := accOf_length l fun x hx => h x (by simp [hx])
    have h3 : (accOf (y :: l)).length = y.items.length + (accOf l).length := by simp [accOf]
    rw [h3, List.length_cons]; omega
theorem valsOf_le : ∀ (l : List Slt), (∀ x, x ∈ l → x.vals.length ≤ 100) → valsOf l ≤ 100 * l.length
  | [], _ => by simp [valsOf]
  | y :: l, h => by
    have h1 := h y (by simp)
    have h2 := valsOf_le l fun x hx => h x (by simp [hx])
    simp only [valsOf, List.length_cons, cellsL_length]; omega

end Go.Proofs.YtbfnfldmnombgaaGreatDoor

/- A loop that looks for the first round at which something holds. -/
namespace Go.Proofs.YtbfnfldmnombgaaGreatDoor
open Go.Em
set_option maxRecDepth 100000

theorem scanP {nIn : Nat} {b : C} {H : Nat → St} {e : Ex} {fin τ : St} {n B : Nat} (P : Nat → Bool) (r υ : Nat → St) (h0 : canon nIn τ = some (H 0))
    (hT : ∀ j, j < n → P j = true → ∀ M, B ≤ M → run (callF tab ext M) nIn M b (H j) = some (.ret, r j)) (hF : ∀ j, j < n → P j = false → canon nIn (υ j) = some (H (j + 1)) ∧ ∀ M, B ≤ M → run (callF tab ext M) nIn M b (H j) = some (.norm, υ j))
    (hend : ∀ M, B ≤ M → run (callF tab ext M) nIn M b (H n) = some (e, fin)) (hne : e ≠ .norm) :
    (∃ j, j < n ∧ P j = true ∧ (∀ i, i < j → P i = false) ∧ ∀ M, B ≤ M → n < M → run (callF tab ext M) nIn M (.loop b) τ = some (.ret, r j)) ∨ ((∀ j, j < n → P j = false) ∧ ∀ M, B ≤ M → n < M → run (callF tab ext M) nIn M (.loop b) τ = some (e, fin)) := by
  have key : ∀ d j, j + d = n → (∀ i, i < j → P i = false) → (∃ k, k < n ∧ P k = true ∧ (∀ i, i < k → P i = false) ∧ ∀ M F ω, B ≤ M → d < F → canon nIn ω = some (H j) → iter nIn (run (callF tab ext M) nIn M b) F ω = some (.ret, r k)) ∨ ((∀ j, j < n → P j = false) ∧ ∀ M F ω, B ≤ M → d < F → canon nIn ω = some (H j) → iter nIn (run (callF tab ext M) nIn M b) F ω = some (e, fin)) := by
    intro d
    induction d with
    | zero =>
      intro j hj hall
      have hjn : j = n := by omega
      subst hjn
      refine .inr ⟨hall, fun M F ω hM hF' hc => ?_⟩
      obtain ⟨F', rfl⟩ : ∃ F', F = F' + 1 := ⟨F - 1, by omega⟩
      exact iter_end hc (hend M hM) hne
    | succ d ih =>
      intro j hj hall
      cases hP : P j with
      | true =>
        refine .inl ⟨j, by omega, hP, hall, fun M F ω hM hF' hc => ?_⟩
        obtain ⟨F', rfl⟩ : ∃ F', F = F' + 1 := ⟨F - 1, by omega⟩
        exact iter_end hc (hT j (by omega) hP M hM) (by simp)
      | false =>
        obtain ⟨hυ, hs⟩ := hF j (by omega) hP
        rcases ih (j + 1) (by omega) (fun i hi => by
          rcases Nat.lt_or_ge i j with h | h
          · exact hall i h
          · rw [show i = j by omega]; exact hP) with ⟨k, hk, hPk, hlt, h'⟩ | ⟨ha, h'⟩
        · refine .inl ⟨k, hk, hPk, hlt, fun M F ω hM hF' hc => ?_⟩
          obtain ⟨F', rfl⟩ : ∃ F', F = F' + 1 := ⟨F - 1, by omega⟩
          exact iter_step hc (hs M hM) (h' M F' _ hM (by omega) hυ)
        · refine .inr ⟨ha, fun M F ω hM hF' hc => ?_⟩
          obtain ⟨F', rfl⟩ : ∃ F', F = F' + 1 := ⟨F - 1, by omega⟩
          exact iter_step hc (hs M hM) (h' M F' _ hM (by omega) hυ)
  simp only [run]
  rcases key n 0 (by omega) (fun i hi => by omega) with ⟨k, h1, h2, h3, h⟩ | ⟨ha, h⟩
  · exact .inl ⟨k, h1, h2, h3, fun M hM hn => h M M τ hM hn h0⟩
  · exact .inr ⟨ha, fun M hM hn => h M M τ hM hn h0⟩
end Go.Proofs.YtbfnfldmnombgaaGreatDoor

/- The checks, exactly: what they come to, told by the values alone. -/
namespace Go.Proofs.YtbfnfldmnombgaaGreatDoor
open Go.Em
set_option maxRecDepth 100000

theorem first_not {P : Nat → Prop} : ∀ n : Nat, (∀ j, j < n → P j) ∨ ∃ j, j < n ∧ ¬ P j ∧ ∀ i, i < j → P i
  | 0 => .inl fun j hj => by omega
  | n + 1 => by
    rcases first_not (P := P) n with h | ⟨j, hj, h1, h2⟩
    · by_cases hn : P n
      · exact .inl fun j hj => by
          rcases Nat.lt_or_eq_of_le (Nat.le_of_lt_succ hj) with h' | h'
          · exact h j h'
          · rw [h']; exact hn
      · exact .inr ⟨n, by omega, hn, h⟩
    · exact .inr ⟨j, by omega, h1, h2⟩
/-- As 'scanN', and it is told whether P holds at each round. -/
theorem scanX {nIn : Nat} {b : C} {H : Nat → St} {e : Ex} {fin τ : St} {n B : Nat} {P : Nat → Prop} (good : St → Prop) (h0 : canon nIn τ = some (H 0))
    (hstep : ∀ j, j < n → (¬ P j ∧ ∃ r, good r ∧ ∀ M, B ≤ M → run (callF tab ext M) nIn M b (H j) = some (.ret, r)) ∨ (P j ∧ ∃ υ, canon nIn υ = some (H (j + 1)) ∧ ∀ M, B ≤ M → run (callF tab ext M) nIn M b (H j) = some (.norm, υ)))
    (hend : ∀ M, B ≤ M → run (callF tab ext M) nIn M b (H n) = some (e, fin)) (hne : e ≠ .norm) :
    (¬ (∀ j, j < n → P j) ∧ ∃ r, good r ∧ ∀ M, B ≤ M → n < M → run (callF tab ext M) nIn M (.loop b) τ = some (.ret, r)) ∨ ((∀ j, j < n → P j) ∧ ∀ M, B ≤ M → n < M → run (callF tab ext M) nIn M (.loop b) τ = some (e, fin)) := by
  have norm : ∀ j, j < n → P j → ∃ υ, canon nIn υ = some (H (j + 1)) ∧ ∀ M, B ≤ M → run (callF tab ext M) nIn M b (H j) = some (.norm, υ) := fun j hj hp => by
    rcases hstep j hj with ⟨h, _⟩ | ⟨_, h⟩
    · exact absurd hp h
    · exact h
  rcases first_not (P := P) n with h | ⟨j, hj, h1, h2⟩
  · right
    refine ⟨h, ?_⟩
    rcases scanN (fun _ => False) h0 (fun j hj => .inr (norm j hj (h j hj))) hend hne with ⟨_, hF, _⟩ | h'
    · exact hF.elim
    · exact h'
  · left
    refine ⟨fun h => h1 (h j hj), ?_⟩
    rcases hstep j hj with ⟨_, r, hr, hrun⟩ | ⟨hp, _⟩
    · refine ⟨r, hr, fun M hM hn => ?_⟩
      rcases scanN (fun _ => False) h0 (fun i hi => .inr (norm i (by omega) (h2 i hi))) hrun (by simp) with ⟨_, hF, _⟩ | h'
      · exact hF.elim
      · exact h' M hM (by omega)
    · exact absurd hp h1

noncomputable def chkM (m : Msg) : Int := open Classical in if h : m.ok then Classical.choose (msg_comes m h) else 0
theorem chkM_at {m : Msg} (hm : m.ok) : ∀ N, 120040 ≤ N → Gam.pureD (callF tab ext N) 87 [.agg m.cells] = some (num (chkM m)) := by
  have := Classical.choose_spec (msg_comes m hm)
  unfold chkM
  rw [dif_pos hm]
  exact this
noncomputable def chkV (v : Val) : Int := open Classical in if h : v.ok then Classical.choose (val_comes v h) else 0
theorem chkV_at {v : Val} (hv : v.ok) : ∀ N, 60025 + v.size ≤ N → Gam.pureD (callF tab ext N) 47 [.agg v.cells] = some (num (chkV v)) := by
  have := Classical.choose_spec (val_comes v hv)
  unfold chkV
  rw [dif_pos hv]
  exact this
def chkN (x y : Int) : Int := if decide (x < -999999999999999) then 2 else if decide (999999999999999 < x) then 2 else if decide (y < 0) then 2 else if decide (17592186044416 < y) then 2 else 0
theorem chkN_at (x y : Int) : ∀ N, 2 ≤ N → Gam.pureD (callF tab ext N) 46 [num x, num y] = some (num (chkN x y)) := fun N hN => by
  obtain ⟨M, rfl⟩ : ∃ M, N = M + 1 := ⟨N - 1, by omega⟩
  unfold chkN
  cases h1 : decide (x < -999999999999999) with
  | true => exact pure_of [(6, .b true)] [] (pf1 h1) (x := num (2)) (bx := []) (by kernel_rfl) rfl
  | false =>
    cases h2 : decide (999999999999999 < x) with
    | true => exact pure_of [(6, .b false), (9, .b true)] [] (pf2 h1 h2) (x := num (2)) (bx := []) (by kernel_rfl) rfl
    | false =>
      cases h3 : decide (y < 0) with
      | true => exact pure_of [(6, .b false), (9, .b false), (13, .b true)] [] (pf3 h1 h2 h3) (x := num (2)) (bx := []) (by kernel_rfl) rfl
      | false =>
        cases h4 : decide (17592186044416 < y) with
        | true => exact pure_of [(6, .b false), (9, .b false), (13, .b false), (17, .b true)] [] (pf4 h1 h2 h3 h4) (x := num (2)) (bx := []) (by kernel_rfl) rfl
        | false => exact pure_of [(6, .b false), (9, .b false), (13, .b false), (17, .b false)] [] (pf4 h1 h2 h3 h4) (x := num (0)) (bx := []) (by kernel_rfl) rfl
def Pck (k : Nat) (c : Int) (b : Bool) : Bool := if Int.ofNat k == 256 then false else if !(c == 0) then false else !b
def Pcv (v : Nat) (c : Int) : Bool := if Int.ofNat v == 4096 then false else if !(c == 0) then false else true

/-! ### slices.ContainsFunc of messages, exactly -/
def hasSt (l : List Msg) (m : Msg) : Bool := l.any fun o => cmpS o.st m.st == 0
theorem same_stamp_at (m : Msg) (o : Msg) (ho : o.ok) : ∀ N, 60015 ≤ N → Gam.pureD (callF tab ext N) 89 [.agg o.cells, .dp m.cells] = some (boolX (cmpS o.st m.st == 0)) := fun N hN => by
  obtain ⟨M, rfl⟩ : ∃ M, N = M + 1 := ⟨N - 1, by omega⟩
  have h : Gam.pureD (callF tab ext M) 25 [.agg o.st.cells, .agg m.st.cells] = some (boolX (cmpS o.st m.st == 0)) := eq_stamp M o.st m.st (by have := ho.st.p; omega) (by have := ho.st.p; omega)
  generalize (cmpS o.st m.st == 0) = b at h
  obtain ⟨⟨a1, a2⟩, a3, a4, a5, a6, a7, a8, a9, a0⟩ := o
  obtain ⟨⟨b1, b2⟩, b3, b4, b5, b6, b7, b8, b9, b0⟩ := m
  exact pure_of [(8, .p (boolX b))] [] (pf1 h) (x := boolX b) (bx := []) (by kernel_rfl) rfl
theorem contains_ex (m : Msg) (l : List Msg) (hl : l.length ≤ 60000) (hok : ∀ o, o ∈ l → o.ok) : ∀ N, 60018 ≤ N → Gam.pureD (callF tab ext N) 88 [.sl false 10 (msgsC l), .fn 89 [.dp m.cells]] = some (boolX (hasSt l m)) := by
  have hn := msgsC_length l
  have hs := scanX (nIn := 0) (P := fun j => ∀ h : j < l.length, ¬ (cmpS l[j].st m.st == 0) = true) (B := 60015) (b := loopAt 148 0) (H := fun j => imH (msgsC l) (.fn 89 [.dp m.cells]) (msgsC l).length j) (τ := imH (msgsC l) (.fn 89 [.dp m.cells]) (msgsC l).length 0) (n := (msgsC l).length) (e := .exit 0)
    (fin := ⟨[(0, .sl false 10 (msgsC l)), (1, .fn 89 [.dp m.cells]), (7, nat (msgsC l).length), (8, nat (msgsC l).length), (9, boolX false)], []⟩) (fun r => ∃ k : Nat, r = ⟨[(4, nat k)], []⟩) (by cases m; kernel_rfl) (fun j hj => by
      have hj' : j < l.length := by omega
      have hg := msgsC_get hj'
      have hb := same_stamp_at m l[j] (hok _ (List.getElem_mem hj'))
      have hPj : (∀ h : j < l.length, ¬ (cmpS l[j].st m.st == 0) = true) ↔ ¬ (cmpS l[j].st m.st == 0) = true := ⟨fun h => h hj', fun h _ => h⟩
      rw [hPj]
      generalize (cmpS l[j].st m.st == 0) = b at hb ⊢
      generalize l[j] = o at hg hb
      obtain ⟨⟨a1, a2⟩, a3, a4, a5, a6, a7, a8, a9, a0⟩ := o
      obtain ⟨⟨b1, b2⟩, b3, b4, b5, b6, b7, b8, b9, b0⟩ := m
      cases b with
      | true => exact .inl ⟨by simp, ⟨[(4, nat j)], []⟩, ⟨j, rfl⟩, fun M hM => run_of [(9, .b true), (14, .e (Msg.mk ⟨a1, a2⟩ a3 a4 (Val.mk a5 a6 a7 a8 a9 a0)).cells), (16, .p (boolX true))] [] (pf3 (lt_nat (j := j) (k := (msgsC l).length) (by omega)) hg (hb M hM)) (lo' := []) (by kernel_rfl)⟩
      | false => exact .inr ⟨by simp, imH (msgsC l) (.fn 89 [.dp (Msg.mk ⟨b1, b2⟩ b3 b4 (Val.mk b5 b6 b7 b8 b9 b0)).cells]) (msgsC l).length (j + 1), by kernel_rfl, fun M hM => run_of [(9, .b true), (14, .e (Msg.mk ⟨a1, a2⟩ a3 a4 (Val.mk a5 a6 a7 a8 a9 a0)).cells), (16, .p (boolX false)), (18, .i (Int.ofNat (j + 1)))] [] (pf4 (lt_nat (j := j) (k := (msgsC l).length) (by omega)) hg (hb M hM) (next_nat (j := j) (by omega))) (lo' := []) (by kernel_rfl)⟩)
    (fun M _ => run_of [(9, .b false)] [] (pf1 (nlt_nat (Nat.lt_irrefl (msgsC l).length))) (lo' := []) (by kernel_rfl)) (by simp)
  have hi : ∀ N, 60017 ≤ N → ∃ c : Int, decide (0 ≤ c) = hasSt l m ∧ Gam.pureD (callF tab ext N) 148 [.sl false 10 (msgsC l), .fn 89 [.dp m.cells]] = some (num c) := fun N hN => by
    obtain ⟨M, rfl⟩ : ∃ M, N = M + 1 := ⟨N - 1, by omega⟩
    rcases hs with ⟨hP, r, ⟨k, rfl⟩, h⟩ | ⟨hP, h⟩
    · refine ⟨Int.ofNat k, ?_, ?_⟩
      · have e2 : hasSt l m = true := by
          refine Classical.byContradiction fun hh => hP fun j _ h' h'' => hh ?_
          exact List.any_eq_true.2 ⟨_, List.getElem_mem h', h''⟩
        rw [e2]; exact decide_eq_true (Int.natCast_nonneg k)
      · obtain ⟨⟨b1, b2⟩, b3, b4, b5, b6, b7, b8, b9, b0⟩ := m
        exact pure_of [] [(.ret, ⟨[(4, nat k)], []⟩)] (pf1 (h M (by omega) (by omega))) (x := nat k) (bx := []) (by kernel_rfl) rfl
    · refine ⟨-1, ?_, ?_⟩
      · have e2 : hasSt l m = false := by
          refine Bool.eq_false_iff.2 fun hh => ?_
          obtain ⟨o, ho, h1⟩ := List.any_eq_true.1 hh
          obtain ⟨j, hj, rfl⟩ := List.mem_iff_getElem.1 ho
          exact hP j (by omega) hj h1
        rw [e2]; rfl
      · obtain ⟨⟨b1, b2⟩, b3, b4, b5, b6, b7, b8, b9, b0⟩ := m
        exact pure_of [] [(.exit 0, ⟨[(0, .sl false 10 (msgsC l)), (1, .fn 89 [.dp (Msg.mk ⟨b1, b2⟩ b3 b4 (Val.mk b5 b6 b7 b8 b9 b0)).cells]), (7, nat (msgsC l).length), (8, nat (msgsC l).length), (9, boolX false)], []⟩)] (pf1 (h M (by omega) (by omega))) (x := num (-1)) (bx := []) (by kernel_rfl) rfl
  intro N hN
  obtain ⟨M, rfl⟩ : ∃ M, N = M + 1 := ⟨N - 1, by omega⟩
  obtain ⟨c, hc, h⟩ := hi M (by omega)
  rw [← hc]
  obtain ⟨⟨b1, b2⟩, b3, b4, b5, b6, b7, b8, b9, b0⟩ := m
  exact pure_of [(7, .p (num c))] [] (pf1 h) (x := boolX (decide (0 ≤ c))) (bx := []) (by kernel_rfl) rfl
end Go.Proofs.YtbfnfldmnombgaaGreatDoor

/- The check of a slot, exactly: its items. -/
namespace Go.Proofs.YtbfnfldmnombgaaGreatDoor
open Go.Em
set_option maxRecDepth 100000
set_option linter.unusedSimpArgs false

theorem xk_round_false (k0 i0 s0 : Int) (t0 : ByteArray) (l0 f0 : List (List X)) (n0 d0 : Int) (items vals : List (List X)) (n j k v : Nat) (acc : List Msg) (m : Msg) (hm : m.ok) (hacc : ∀ o, o ∈ acc → o.ok) (hk : k = acc.length) (hkl : acc.length ≤ 60000) (hj : j < n) (hn : n ≤ 60000) (hg : items[j]? = some m.cells) :
    (¬ Pck k (chkM m) (hasSt acc m) = true ∧ ∃ r, BadCk r ∧ ∀ M, 120040 ≤ M → run (callF tab ext M) 2 M (loopAt 50 0) (ckH false items n j k v (msgsC acc) (slotC k0 i0 s0 t0 l0 f0 n0 d0 items vals)) = some (.ret, r)) ∨
    (Pck k (chkM m) (hasSt acc m) = true ∧ ∃ υ, canon 2 υ = some (ckH true items n (j + 1) (k + 1) v (msgsC acc ++ [m.cells]) (slotC k0 i0 s0 t0 l0 f0 n0 d0 items vals)) ∧ ∀ M, 120040 ≤ M → run (callF tab ext M) 2 M (loopAt 50 0) (ckH false items n j k v (msgsC acc) (slotC k0 i0 s0 t0 l0 f0 n0 d0 items vals)) = some (.norm, υ)) := by
  have hc := chkM_at hm
  generalize chkM m = c at hc ⊢
  have hb := contains_ex m acc hkl hacc
  generalize hasSt acc m = b at hb ⊢
  have hlt := lt_nat hj
  have hal := msgsC_length acc
  obtain ⟨⟨a1, a2⟩, a3, a4, a5, a6, a7, a8, a9, a0⟩ := m
  cases h1 : (Int.ofNat k == 256) with
  | true =>
    exact .inl ⟨(by first | simp only [Pck, h1, h2, if_true, if_false, Bool.false_eq_true, Bool.not_true, Bool.not_false, reduceCtorEq, not_false_eq_true, not_true_eq_false] | simp only [Pck, h1, if_true, if_false, Bool.false_eq_true, Bool.not_true, Bool.not_false, reduceCtorEq, not_false_eq_true, not_true_eq_false] | simp only [Pck, if_true, if_false, Bool.false_eq_true, Bool.not_true, Bool.not_false, reduceCtorEq, not_false_eq_true, not_true_eq_false]), ⟨[(4, num 9)], [.var [.bs 1 0 k, nat v], .row 10 (msgsC acc), .var (slotC k0 i0 s0 t0 l0 f0 n0 d0 items vals), .var (Msg.mk ⟨a1, a2⟩ a3 a4 (Val.mk a5 a6 a7 a8 a9 a0)).cells]⟩, .a _ _ _ _ _ _ (by decide), fun M hM => run_of [(24, .b true), (25, .e (Msg.mk ⟨a1, a2⟩ a3 a4 (Val.mk a5 a6 a7 a8 a9 a0)).cells), (32, .b true)] [] (pf3 hlt hg h1) (lo' := []) (by kernel_rfl)⟩
  | false =>
    cases h2 : (!(c == 0)) with
    | true =>
      exact .inl ⟨(by first | simp only [Pck, h1, h2, if_true, if_false, Bool.false_eq_true, Bool.not_true, Bool.not_false, reduceCtorEq, not_false_eq_true, not_true_eq_false] | simp only [Pck, h1, if_true, if_false, Bool.false_eq_true, Bool.not_true, Bool.not_false, reduceCtorEq, not_false_eq_true, not_true_eq_false] | simp only [Pck, if_true, if_false, Bool.false_eq_true, Bool.not_true, Bool.not_false, reduceCtorEq, not_false_eq_true, not_true_eq_false]), ⟨[(4, num c)], [.var [.bs 1 0 k, nat v], .row 10 (msgsC acc), .var (slotC k0 i0 s0 t0 l0 f0 n0 d0 items vals), .var (Msg.mk ⟨a1, a2⟩ a3 a4 (Val.mk a5 a6 a7 a8 a9 a0)).cells]⟩, .a _ _ _ _ _ _ (by intro h0; rw [h0] at h2; cases h2), fun M hM => run_of [(24, .b true), (25, .e (Msg.mk ⟨a1, a2⟩ a3 a4 (Val.mk a5 a6 a7 a8 a9 a0)).cells), (32, .b false), (34, .p (num c)), (36, .b true)] [] (pf5 hlt hg h1 (hc M (by omega)) h2) (lo' := []) (by kernel_rfl)⟩
    | false =>
      cases b with
      | true =>
        exact .inl ⟨(by first | simp only [Pck, h1, h2, if_true, if_false, Bool.false_eq_true, Bool.not_true, Bool.not_false, reduceCtorEq, not_false_eq_true, not_true_eq_false] | simp only [Pck, h1, if_true, if_false, Bool.false_eq_true, Bool.not_true, Bool.not_false, reduceCtorEq, not_false_eq_true, not_true_eq_false] | simp only [Pck, if_true, if_false, Bool.false_eq_true, Bool.not_true, Bool.not_false, reduceCtorEq, not_false_eq_true, not_true_eq_false]), ⟨[(4, num 7)], [.var [.bs 1 0 k, nat v], .row 10 (msgsC acc), .var (slotC k0 i0 s0 t0 l0 f0 n0 d0 items vals), .dead]⟩, .a _ _ _ _ _ _ (by decide), fun M hM => run_of [(24, .b true), (25, .e (Msg.mk ⟨a1, a2⟩ a3 a4 (Val.mk a5 a6 a7 a8 a9 a0)).cells), (32, .b false), (34, .p (num c)), (36, .b false), (43, .d [.sl false 10 (msgsC acc), .fn 89 [.dp (Msg.mk ⟨a1, a2⟩ a3 a4 (Val.mk a5 a6 a7 a8 a9 a0)).cells]] (boolX true))] [] (pf6 hlt hg h1 (hc M (by omega)) h2 (⟨(data_row acc k 1 (.fn 89 [.dp (Msg.mk ⟨a1, a2⟩ a3 a4 (Val.mk a5 a6 a7 a8 a9 a0)).cells]) [.var [.bs 1 0 k, nat v], .row 10 (msgsC acc), .var (slotC k0 i0 s0 t0 l0 f0 n0 d0 items vals), .dead] rfl hk (by kernel_rfl)), hb M (by omega)⟩ : _ ∧ _)) (lo' := []) (by kernel_rfl)⟩
      | false =>
        exact .inr ⟨(by first | simp only [Pck, h1, h2, if_true, if_false, Bool.false_eq_true, Bool.not_true, Bool.not_false, reduceCtorEq, not_false_eq_true, not_true_eq_false] | simp only [Pck, h1, if_true, if_false, Bool.false_eq_true, Bool.not_true, Bool.not_false, reduceCtorEq, not_false_eq_true, not_true_eq_false] | simp only [Pck, if_true, if_false, Bool.false_eq_true, Bool.not_true, Bool.not_false, reduceCtorEq, not_false_eq_true, not_true_eq_false]), ⟨[(0, .ptr 0 0 0), (3, .ptr 2 0 0), (21, .sl false 10 items), (22, nat n), (23, nat (j + 1))], [.var [.bs 4 0 (k + 1), nat v], .dead, .var (slotC k0 i0 s0 t0 l0 f0 n0 d0 items vals), .dead, .row 10 (msgsC acc ++ [(Msg.mk ⟨a1, a2⟩ a3 a4 (Val.mk a5 a6 a7 a8 a9 a0)).cells])]⟩, by kernel_rfl, fun M hM => run_of [(24, .b true), (25, .e (Msg.mk ⟨a1, a2⟩ a3 a4 (Val.mk a5 a6 a7 a8 a9 a0)).cells), (32, .b false), (34, .p (num c)), (36, .b false), (43, .d [.sl false 10 (msgsC acc), .fn 89 [.dp (Msg.mk ⟨a1, a2⟩ a3 a4 (Val.mk a5 a6 a7 a8 a9 a0)).cells]] (boolX false)), (51, .app), (54, .i (Int.ofNat (j + 1)))] [] (pf8 hlt hg h1 (hc M (by omega)) h2 (⟨(data_row acc k 1 (.fn 89 [.dp (Msg.mk ⟨a1, a2⟩ a3 a4 (Val.mk a5 a6 a7 a8 a9 a0)).cells]) [.var [.bs 1 0 k, nat v], .row 10 (msgsC acc), .var (slotC k0 i0 s0 t0 l0 f0 n0 d0 items vals), .dead] rfl hk (by kernel_rfl)), hb M (by omega)⟩ : _ ∧ _) (app_ok (acc := msgsC acc) k 1 152 (by omega) (by omega) (by omega)) (next_nat (j := j) (by omega))) (lo' := []) (by kernel_rfl)⟩
theorem xk_round_true (k0 i0 s0 : Int) (t0 : ByteArray) (l0 f0 : List (List X)) (n0 d0 : Int) (items vals : List (List X)) (n j k v : Nat) (acc : List Msg) (m : Msg) (hm : m.ok) (hacc : ∀ o, o ∈ acc → o.ok) (hk : k = acc.length) (hkl : acc.length ≤ 60000) (hj : j < n) (hn : n ≤ 60000) (hg : items[j]? = some m.cells) :
    (¬ Pck k (chkM m) (hasSt acc m) = true ∧ ∃ r, BadCk r ∧ ∀ M, 120040 ≤ M → run (callF tab ext M) 2 M (loopAt 50 0) (ckH true items n j k v (msgsC acc) (slotC k0 i0 s0 t0 l0 f0 n0 d0 items vals)) = some (.ret, r)) ∨
    (Pck k (chkM m) (hasSt acc m) = true ∧ ∃ υ, canon 2 υ = some (ckH true items n (j + 1) (k + 1) v (msgsC acc ++ [m.cells]) (slotC k0 i0 s0 t0 l0 f0 n0 d0 items vals)) ∧ ∀ M, 120040 ≤ M → run (callF tab ext M) 2 M (loopAt 50 0) (ckH true items n j k v (msgsC acc) (slotC k0 i0 s0 t0 l0 f0 n0 d0 items vals)) = some (.norm, υ)) := by
  have hc := chkM_at hm
  generalize chkM m = c at hc ⊢
  have hb := contains_ex m acc hkl hacc
  generalize hasSt acc m = b at hb ⊢
  have hlt := lt_nat hj
  have hal := msgsC_length acc
  obtain ⟨⟨a1, a2⟩, a3, a4, a5, a6, a7, a8, a9, a0⟩ := m
  cases h1 : (Int.ofNat k == 256) with
  | true =>
    exact .inl ⟨(by first | simp only [Pck, h1, h2, if_true, if_false, Bool.false_eq_true, Bool.not_true, Bool.not_false, reduceCtorEq, not_false_eq_true, not_true_eq_false] | simp only [Pck, h1, if_true, if_false, Bool.false_eq_true, Bool.not_true, Bool.not_false, reduceCtorEq, not_false_eq_true, not_true_eq_false] | simp only [Pck, if_true, if_false, Bool.false_eq_true, Bool.not_true, Bool.not_false, reduceCtorEq, not_false_eq_true, not_true_eq_false]), ⟨[(4, num 9)], [.var [.bs 3 0 k, nat v], .dead, .var (slotC k0 i0 s0 t0 l0 f0 n0 d0 items vals), .row 10 (msgsC acc), .var (Msg.mk ⟨a1, a2⟩ a3 a4 (Val.mk a5 a6 a7 a8 a9 a0)).cells]⟩, .b _ _ _ _ _ _ (by decide), fun M hM => run_of [(24, .b true), (25, .e (Msg.mk ⟨a1, a2⟩ a3 a4 (Val.mk a5 a6 a7 a8 a9 a0)).cells), (32, .b true)] [] (pf3 hlt hg h1) (lo' := []) (by kernel_rfl)⟩
  | false =>
    cases h2 : (!(c == 0)) with
    | true =>
      exact .inl ⟨(by first | simp only [Pck, h1, h2, if_true, if_false, Bool.false_eq_true, Bool.not_true, Bool.not_false, reduceCtorEq, not_false_eq_true, not_true_eq_false] | simp only [Pck, h1, if_true, if_false, Bool.false_eq_true, Bool.not_true, Bool.not_false, reduceCtorEq, not_false_eq_true, not_true_eq_false] | simp only [Pck, if_true, if_false, Bool.false_eq_true, Bool.not_true, Bool.not_false, reduceCtorEq, not_false_eq_true, not_true_eq_false]), ⟨[(4, num c)], [.var [.bs 3 0 k, nat v], .dead, .var (slotC k0 i0 s0 t0 l0 f0 n0 d0 items vals), .row 10 (msgsC acc), .var (Msg.mk ⟨a1, a2⟩ a3 a4 (Val.mk a5 a6 a7 a8 a9 a0)).cells]⟩, .b _ _ _ _ _ _ (by intro h0; rw [h0] at h2; cases h2), fun M hM => run_of [(24, .b true), (25, .e (Msg.mk ⟨a1, a2⟩ a3 a4 (Val.mk a5 a6 a7 a8 a9 a0)).cells), (32, .b false), (34, .p (num c)), (36, .b true)] [] (pf5 hlt hg h1 (hc M (by omega)) h2) (lo' := []) (by kernel_rfl)⟩
    | false =>
      cases b with
      | true =>
        exact .inl ⟨(by first | simp only [Pck, h1, h2, if_true, if_false, Bool.false_eq_true, Bool.not_true, Bool.not_false, reduceCtorEq, not_false_eq_true, not_true_eq_false] | simp only [Pck, h1, if_true, if_false, Bool.false_eq_true, Bool.not_true, Bool.not_false, reduceCtorEq, not_false_eq_true, not_true_eq_false] | simp only [Pck, if_true, if_false, Bool.false_eq_true, Bool.not_true, Bool.not_false, reduceCtorEq, not_false_eq_true, not_true_eq_false]), ⟨[(4, num 7)], [.var [.bs 3 0 k, nat v], .dead, .var (slotC k0 i0 s0 t0 l0 f0 n0 d0 items vals), .row 10 (msgsC acc), .dead]⟩, .b _ _ _ _ _ _ (by decide), fun M hM => run_of [(24, .b true), (25, .e (Msg.mk ⟨a1, a2⟩ a3 a4 (Val.mk a5 a6 a7 a8 a9 a0)).cells), (32, .b false), (34, .p (num c)), (36, .b false), (43, .d [.sl false 10 (msgsC acc), .fn 89 [.dp (Msg.mk ⟨a1, a2⟩ a3 a4 (Val.mk a5 a6 a7 a8 a9 a0)).cells]] (boolX true))] [] (pf6 hlt hg h1 (hc M (by omega)) h2 (⟨(data_row acc k 3 (.fn 89 [.dp (Msg.mk ⟨a1, a2⟩ a3 a4 (Val.mk a5 a6 a7 a8 a9 a0)).cells]) [.var [.bs 3 0 k, nat v], .dead, .var (slotC k0 i0 s0 t0 l0 f0 n0 d0 items vals), .row 10 (msgsC acc), .dead] rfl hk (by kernel_rfl)), hb M (by omega)⟩ : _ ∧ _)) (lo' := []) (by kernel_rfl)⟩
      | false =>
        exact .inr ⟨(by first | simp only [Pck, h1, h2, if_true, if_false, Bool.false_eq_true, Bool.not_true, Bool.not_false, reduceCtorEq, not_false_eq_true, not_true_eq_false] | simp only [Pck, h1, if_true, if_false, Bool.false_eq_true, Bool.not_true, Bool.not_false, reduceCtorEq, not_false_eq_true, not_true_eq_false] | simp only [Pck, if_true, if_false, Bool.false_eq_true, Bool.not_true, Bool.not_false, reduceCtorEq, not_false_eq_true, not_true_eq_false]), ⟨[(0, .ptr 0 0 0), (3, .ptr 2 0 0), (21, .sl false 10 items), (22, nat n), (23, nat (j + 1))], [.var [.bs 5 0 (k + 1), nat v], .dead, .var (slotC k0 i0 s0 t0 l0 f0 n0 d0 items vals), .dead, .dead, .row 10 (msgsC acc ++ [(Msg.mk ⟨a1, a2⟩ a3 a4 (Val.mk a5 a6 a7 a8 a9 a0)).cells])]⟩, by kernel_rfl, fun M hM => run_of [(24, .b true), (25, .e (Msg.mk ⟨a1, a2⟩ a3 a4 (Val.mk a5 a6 a7 a8 a9 a0)).cells), (32, .b false), (34, .p (num c)), (36, .b false), (43, .d [.sl false 10 (msgsC acc), .fn 89 [.dp (Msg.mk ⟨a1, a2⟩ a3 a4 (Val.mk a5 a6 a7 a8 a9 a0)).cells]] (boolX false)), (51, .app), (54, .i (Int.ofNat (j + 1)))] [] (pf8 hlt hg h1 (hc M (by omega)) h2 (⟨(data_row acc k 3 (.fn 89 [.dp (Msg.mk ⟨a1, a2⟩ a3 a4 (Val.mk a5 a6 a7 a8 a9 a0)).cells]) [.var [.bs 3 0 k, nat v], .dead, .var (slotC k0 i0 s0 t0 l0 f0 n0 d0 items vals), .row 10 (msgsC acc), .dead] rfl hk (by kernel_rfl)), hb M (by omega)⟩ : _ ∧ _) (app_ok (acc := msgsC acc) k 3 152 (by omega) (by omega) (by omega)) (next_nat (j := j) (by omega))) (lo' := []) (by kernel_rfl)⟩
theorem xk_items (k0 i0 s0 : Int) (t0 : ByteArray) (l0 f0 : List (List X)) (n0 d0 : Int) (items : List Msg) (vals : List (List X)) (k v : Nat) (acc : List Msg) (hit : ∀ m, m ∈ items → m.ok) (hacc : ∀ o, o ∈ acc → o.ok) (hk : k = acc.length) (hl : acc.length + items.length ≤ 60000) :
    (¬ (∀ j (h : j < items.length), Pck (k + j) (chkM items[j]) (hasSt (acc ++ items.take j) items[j]) = true) ∧ ∃ r, BadCk r ∧ ∀ M, 120040 ≤ M → run (callF tab ext M) 2 M (.loop (loopAt 50 0)) (ckH false (msgsC items) (msgsC items).length 0 k v (msgsC acc) (slotC k0 i0 s0 t0 l0 f0 n0 d0 (msgsC items) vals)) = some (.ret, r)) ∨
    ((∀ j (h : j < items.length), Pck (k + j) (chkM items[j]) (hasSt (acc ++ items.take j) items[j]) = true) ∧ ∀ M, 120040 ≤ M → run (callF tab ext M) 2 M (.loop (loopAt 50 0)) (ckH false (msgsC items) (msgsC items).length 0 k v (msgsC acc) (slotC k0 i0 s0 t0 l0 f0 n0 d0 (msgsC items) vals)) = some (.exit 0, ⟨[(0, .ptr 0 0 0), (3, .ptr 2 0 0), (21, .sl false 10 (msgsC items)), (22, nat (msgsC items).length), (23, nat (msgsC items).length), (24, boolX false)], ckB (decide (0 < items.length)) (k + items.length) v (msgsC (acc ++ items)) (slotC k0 i0 s0 t0 l0 f0 n0 d0 (msgsC items) vals)⟩)) := by
  have hn := msgsC_length items
  have hap : ∀ j (h : j < items.length), msgsC (acc ++ items.take j) ++ [items[j].cells] = msgsC (acc ++ items.take (j + 1)) := fun j h => by
    rw [List.take_succ_eq_append_getElem h, ← List.append_assoc]
    simp only [msgsC, List.map_append, List.map_cons, List.map_nil]
  have := scanX (P := fun j => ∀ h : j < items.length, Pck (k + j) (chkM items[j]) (hasSt (acc ++ items.take j) items[j]) = true) (nIn := 2) (B := 120040) (b := loopAt 50 0) (H := fun j => ckH (decide (0 < j)) (msgsC items) (msgsC items).length j (k + j) v (msgsC (acc ++ items.take j)) (slotC k0 i0 s0 t0 l0 f0 n0 d0 (msgsC items) vals))
    (τ := ckH false (msgsC items) (msgsC items).length 0 k v (msgsC acc) (slotC k0 i0 s0 t0 l0 f0 n0 d0 (msgsC items) vals)) (n := items.length) (e := .exit 0) (fin := ⟨[(0, .ptr 0 0 0), (3, .ptr 2 0 0), (21, .sl false 10 (msgsC items)), (22, nat (msgsC items).length), (23, nat (msgsC items).length), (24, boolX false)], ckB (decide (0 < items.length)) (k + items.length) v (msgsC (acc ++ items)) (slotC k0 i0 s0 t0 l0 f0 n0 d0 (msgsC items) vals)⟩) BadCk (by rw [List.take_zero, List.append_nil]; kernel_rfl) (fun j hj => by
      have hg := msgsC_get hj
      have hm := hit _ (List.getElem_mem hj)
      have hacc' : ∀ o, o ∈ acc ++ items.take j → o.ok := fun o ho => by
        rcases List.mem_append.1 ho with h | h
        · exact hacc o h
        · exact hit o (List.mem_of_mem_take h)
      have hlen : k + j = (acc ++ items.take j).length := by rw [List.length_append, List.length_take]; omega
      have e1 : decide (0 < j + 1) = true := by simp
      have hPj : (∀ h : j < items.length, Pck (k + j) (chkM items[j]) (hasSt (acc ++ items.take j) items[j]) = true) ↔ Pck (k + j) (chkM items[j]) (hasSt (acc ++ items.take j) items[j]) = true := ⟨fun h => h hj, fun h _ => h⟩
      rw [hPj, ← hap j hj, e1, show k + (j + 1) = k + j + 1 from rfl]
      cases j with
      | zero => exact xk_round_false _ _ _ _ _ _ _ _ _ _ _ _ _ _ _ _ hm hacc' hlen (by omega) (by omega) (by omega) hg
      | succ j => exact xk_round_true _ _ _ _ _ _ _ _ _ _ _ _ _ _ _ _ hm hacc' hlen (by omega) (by omega) (by omega) hg)
    (fun M _ => by
      have := ck_end k0 i0 s0 t0 l0 f0 n0 d0 (msgsC items) vals items.length (k + items.length) v (msgsC (acc ++ items)) (decide (0 < items.length)) M
      rw [List.take_length, hn]
      exact this) (by simp)
  rcases this with ⟨hP, r, hr, h⟩ | ⟨hP, h⟩
  · exact .inl ⟨fun hh => hP fun j hj => hh j, r, hr, fun M hM => h M hM (by omega)⟩
  · exact .inr ⟨fun j hj => hP j hj hj, fun M hM => h M hM (by omega)⟩
end Go.Proofs.YtbfnfldmnombgaaGreatDoor

/- The check of a slot, exactly: its values. -/
namespace Go.Proofs.YtbfnfldmnombgaaGreatDoor
open Go.Em
set_option maxRecDepth 100000

theorem yv_round_false (vals : List (List X)) (n j k v : Nat) (acc : List (List X)) (x : Val) (hx : x.ok) (hj : j < n) (hn : n ≤ 60000) (hv : v ≤ 1000000) (hg : vals[j]? = some x.cells) :
    (¬ Pcv v (chkV x) = true ∧ ∃ r, BadCk r ∧ ∀ M, 120040 ≤ M → run (callF tab ext M) 2 M (loopAt 50 1) (cvSt false vals n j k v acc) = some (.ret, r)) ∨
    (Pcv v (chkV x) = true ∧ ∃ υ, canon 2 υ = some (cvSt false vals n (j + 1) k (v + 1) acc) ∧ ∀ M, 120040 ≤ M → run (callF tab ext M) 2 M (loopAt 50 1) (cvSt false vals n j k v acc) = some (.norm, υ)) := by
  have hok := hx
  unfold Val.ok at hok
  have hc : ∀ M, 120040 ≤ M → _ := fun M hM => chkV_at hx M (by omega)
  generalize chkV x = c at hc ⊢
  have hlt := lt_nat hj
  obtain ⟨a1, a2, a3, a4, a5, a6⟩ := x
  cases h1 : (Int.ofNat v == 4096) with
  | true =>
    exact .inl ⟨(by first | simp only [Pcv, h1, h2, if_true, if_false, Bool.false_eq_true, Bool.not_true, Bool.not_false, reduceCtorEq, not_false_eq_true, not_true_eq_false] | simp only [Pcv, h1, if_true, if_false, Bool.false_eq_true, Bool.not_true, Bool.not_false, reduceCtorEq, not_false_eq_true, not_true_eq_false] | simp only [Pcv, if_true, if_false, Bool.false_eq_true, Bool.not_true, Bool.not_false, reduceCtorEq, not_false_eq_true, not_true_eq_false]), ⟨[(4, num 9)], [.var [.bs 1 0 k, nat v], .row 10 acc, .var (Val.mk a1 a2 a3 a4 a5 a6).cells]⟩, .c _ _ _ _ _ (by decide), fun M hM => run_of [(59, .b true), (60, .e (Val.mk a1 a2 a3 a4 a5 a6).cells), (66, .b true)] [] (pf3 hlt hg h1) (lo' := []) (by kernel_rfl)⟩
  | false =>
    cases h2 : (!(c == 0)) with
    | true =>
      exact .inl ⟨(by first | simp only [Pcv, h1, h2, if_true, if_false, Bool.false_eq_true, Bool.not_true, Bool.not_false, reduceCtorEq, not_false_eq_true, not_true_eq_false] | simp only [Pcv, h1, if_true, if_false, Bool.false_eq_true, Bool.not_true, Bool.not_false, reduceCtorEq, not_false_eq_true, not_true_eq_false] | simp only [Pcv, if_true, if_false, Bool.false_eq_true, Bool.not_true, Bool.not_false, reduceCtorEq, not_false_eq_true, not_true_eq_false]), ⟨[(4, num c)], [.var [.bs 1 0 k, nat v], .row 10 acc, .var (Val.mk a1 a2 a3 a4 a5 a6).cells]⟩, .c _ _ _ _ _ (by intro h0; rw [h0] at h2; cases h2), fun M hM => run_of [(59, .b true), (60, .e (Val.mk a1 a2 a3 a4 a5 a6).cells), (66, .b false), (68, .p (num c)), (70, .b true)] [] (pf5 hlt hg h1 (hc M hM) h2) (lo' := []) (by kernel_rfl)⟩
    | false =>
      exact .inr ⟨(by first | simp only [Pcv, h1, h2, if_true, if_false, Bool.false_eq_true, Bool.not_true, Bool.not_false, reduceCtorEq, not_false_eq_true, not_true_eq_false] | simp only [Pcv, h1, if_true, if_false, Bool.false_eq_true, Bool.not_true, Bool.not_false, reduceCtorEq, not_false_eq_true, not_true_eq_false] | simp only [Pcv, if_true, if_false, Bool.false_eq_true, Bool.not_true, Bool.not_false, reduceCtorEq, not_false_eq_true, not_true_eq_false]), ⟨[(0, .ptr 0 0 0), (56, .sl false 6 vals), (57, nat n), (58, nat (j + 1))], [.var [.bs 1 0 k, nat (v + 1)], .row 10 acc, .var (Val.mk a1 a2 a3 a4 a5 a6).cells]⟩, by kernel_rfl, fun M hM => run_of [(59, .b true), (60, .e (Val.mk a1 a2 a3 a4 a5 a6).cells), (66, .b false), (68, .p (num c)), (70, .b false), (76, .i (Int.ofNat (v + 1))), (79, .i (Int.ofNat (j + 1)))] [] (pf7 hlt hg h1 (hc M hM) h2 (next_nat (j := v) (by omega)) (next_nat (j := j) (by omega))) (lo' := []) (by kernel_rfl)⟩
theorem yv_round_true (vals : List (List X)) (n j k v : Nat) (acc : List (List X)) (x : Val) (hx : x.ok) (hj : j < n) (hn : n ≤ 60000) (hv : v ≤ 1000000) (hg : vals[j]? = some x.cells) :
    (¬ Pcv v (chkV x) = true ∧ ∃ r, BadCk r ∧ ∀ M, 120040 ≤ M → run (callF tab ext M) 2 M (loopAt 50 1) (cvSt true vals n j k v acc) = some (.ret, r)) ∨
    (Pcv v (chkV x) = true ∧ ∃ υ, canon 2 υ = some (cvSt true vals n (j + 1) k (v + 1) acc) ∧ ∀ M, 120040 ≤ M → run (callF tab ext M) 2 M (loopAt 50 1) (cvSt true vals n j k v acc) = some (.norm, υ)) := by
  have hok := hx
  unfold Val.ok at hok
  have hc : ∀ M, 120040 ≤ M → _ := fun M hM => chkV_at hx M (by omega)
  generalize chkV x = c at hc ⊢
  have hlt := lt_nat hj
  obtain ⟨a1, a2, a3, a4, a5, a6⟩ := x
  cases h1 : (Int.ofNat v == 4096) with
  | true =>
    exact .inl ⟨(by first | simp only [Pcv, h1, h2, if_true, if_false, Bool.false_eq_true, Bool.not_true, Bool.not_false, reduceCtorEq, not_false_eq_true, not_true_eq_false] | simp only [Pcv, h1, if_true, if_false, Bool.false_eq_true, Bool.not_true, Bool.not_false, reduceCtorEq, not_false_eq_true, not_true_eq_false] | simp only [Pcv, if_true, if_false, Bool.false_eq_true, Bool.not_true, Bool.not_false, reduceCtorEq, not_false_eq_true, not_true_eq_false]), ⟨[(4, num 9)], [.var [.bs 2 0 k, nat v], .dead, .row 10 acc, .var (Val.mk a1 a2 a3 a4 a5 a6).cells]⟩, .d _ _ _ _ _ (by decide), fun M hM => run_of [(59, .b true), (60, .e (Val.mk a1 a2 a3 a4 a5 a6).cells), (66, .b true)] [] (pf3 hlt hg h1) (lo' := []) (by kernel_rfl)⟩
  | false =>
    cases h2 : (!(c == 0)) with
    | true =>
      exact .inl ⟨(by first | simp only [Pcv, h1, h2, if_true, if_false, Bool.false_eq_true, Bool.not_true, Bool.not_false, reduceCtorEq, not_false_eq_true, not_true_eq_false] | simp only [Pcv, h1, if_true, if_false, Bool.false_eq_true, Bool.not_true, Bool.not_false, reduceCtorEq, not_false_eq_true, not_true_eq_false] | simp only [Pcv, if_true, if_false, Bool.false_eq_true, Bool.not_true, Bool.not_false, reduceCtorEq, not_false_eq_true, not_true_eq_false]), ⟨[(4, num c)], [.var [.bs 2 0 k, nat v], .dead, .row 10 acc, .var (Val.mk a1 a2 a3 a4 a5 a6).cells]⟩, .d _ _ _ _ _ (by intro h0; rw [h0] at h2; cases h2), fun M hM => run_of [(59, .b true), (60, .e (Val.mk a1 a2 a3 a4 a5 a6).cells), (66, .b false), (68, .p (num c)), (70, .b true)] [] (pf5 hlt hg h1 (hc M hM) h2) (lo' := []) (by kernel_rfl)⟩
    | false =>
      exact .inr ⟨(by first | simp only [Pcv, h1, h2, if_true, if_false, Bool.false_eq_true, Bool.not_true, Bool.not_false, reduceCtorEq, not_false_eq_true, not_true_eq_false] | simp only [Pcv, h1, if_true, if_false, Bool.false_eq_true, Bool.not_true, Bool.not_false, reduceCtorEq, not_false_eq_true, not_true_eq_false] | simp only [Pcv, if_true, if_false, Bool.false_eq_true, Bool.not_true, Bool.not_false, reduceCtorEq, not_false_eq_true, not_true_eq_false]), ⟨[(0, .ptr 0 0 0), (56, .sl false 6 vals), (57, nat n), (58, nat (j + 1))], [.var [.bs 2 0 k, nat (v + 1)], .dead, .row 10 acc, .var (Val.mk a1 a2 a3 a4 a5 a6).cells]⟩, by kernel_rfl, fun M hM => run_of [(59, .b true), (60, .e (Val.mk a1 a2 a3 a4 a5 a6).cells), (66, .b false), (68, .p (num c)), (70, .b false), (76, .i (Int.ofNat (v + 1))), (79, .i (Int.ofNat (j + 1)))] [] (pf7 hlt hg h1 (hc M hM) h2 (next_nat (j := v) (by omega)) (next_nat (j := j) (by omega))) (lo' := []) (by kernel_rfl)⟩
theorem yv_loop (vs : List Val) (k v : Nat) (acc : List (List X)) (f : Bool) (hok : ∀ x, x ∈ vs → x.ok) (hl : vs.length ≤ 60000) (hv : v ≤ 900000) {τ : St} (hτ : canon 2 τ = some (cvSt f (cellsL vs) (cellsL vs).length 0 k v acc)) :
    (¬ (∀ j (h : j < vs.length), Pcv (v + j) (chkV vs[j]) = true) ∧ ∃ r, BadCk r ∧ ∀ M, 120040 ≤ M → run (callF tab ext M) 2 M (.loop (loopAt 50 1)) τ = some (.ret, r)) ∨
    ((∀ j (h : j < vs.length), Pcv (v + j) (chkV vs[j]) = true) ∧ ∀ M, 120040 ≤ M → run (callF tab ext M) 2 M (.loop (loopAt 50 1)) τ = some (.exit 2, cvFin f (cellsL vs) (cellsL vs).length (cellsL vs).length k (v + (cellsL vs).length) acc)) := by
  have hn := cellsL_length vs
  have := scanX (P := fun j => ∀ h : j < vs.length, Pcv (v + j) (chkV vs[j]) = true) (nIn := 2) (B := 120040) (b := loopAt 50 1) (H := fun j => cvSt f (cellsL vs) (cellsL vs).length j k (v + j) acc) (τ := τ) (n := (cellsL vs).length) (e := .exit 2) (fin := cvFin f (cellsL vs) (cellsL vs).length (cellsL vs).length k (v + (cellsL vs).length) acc) BadCk hτ (fun j hj => by
      have hj' : j < vs.length := by omega
      have hg := cellsL_get hj'
      have hx := hok _ (List.getElem_mem hj')
      have hPj : (∀ h : j < vs.length, Pcv (v + j) (chkV vs[j]) = true) ↔ Pcv (v + j) (chkV vs[j]) = true := ⟨fun h => h hj', fun h _ => h⟩
      rw [hPj, show v + (j + 1) = v + j + 1 from rfl]
      cases f with
      | false => exact yv_round_false _ _ _ _ _ _ _ hx hj (by omega) (by omega) hg
      | true => exact yv_round_true _ _ _ _ _ _ _ hx hj (by omega) (by omega) hg)
    (fun M _ => by
      cases f with
      | false => exact run_of [(59, .b false)] [] (pf1 (nlt_nat (Nat.lt_irrefl (cellsL vs).length))) (lo' := []) (by kernel_rfl)
      | true => exact run_of [(59, .b false)] [] (pf1 (nlt_nat (Nat.lt_irrefl (cellsL vs).length))) (lo' := []) (by kernel_rfl)) (by simp)
  rcases this with ⟨hP, r, hr, h⟩ | ⟨hP, h⟩
  · exact .inl ⟨fun hh => hP fun j hj => hh j, r, hr, fun M hM => h M hM (by omega)⟩
  · exact .inr ⟨fun j hj => hP j (by omega) hj, fun M hM => h M hM (by omega)⟩
end Go.Proofs.YtbfnfldmnombgaaGreatDoor

/- The check of a slot, exactly. -/
namespace Go.Proofs.YtbfnfldmnombgaaGreatDoor
open Go.Em
set_option maxRecDepth 100000

/-- What the check of a slot asks, behind what was checked before. -/
def SlP (acc : List Msg) (k v : Nat) (s : Slt) : Prop :=
  chkN s.n s.t = 0 ∧ (∀ j (h : j < s.items.length), Pck (k + j) (chkM s.items[j]) (hasSt (acc ++ s.items.take j) s.items[j]) = true) ∧ (∀ j (h : j < s.vals.length), Pcv (v + j) (chkV s.vals[j]) = true)
theorem slot_ex (s : Slt) (hs : s.ok) (acc : List Msg) (k v : Nat) (hacc : ∀ o, o ∈ acc → o.ok) (hk : k = acc.length) (hl : acc.length + s.items.length ≤ 60000) (hv : v ≤ 900000) :
    (¬ SlP acc k v s ∧ ∃ (c : Int) (f : Bool) (k1 v1 : Nat) (acc1 : List (List X)), c ≠ 0 ∧ ∀ N, 120050 ≤ N → callF tab ext N (.fn 50) [.ptr 0 0 0, .agg s.cells] [.var [.bs 1 0 k, nat v], .row 10 (msgsC acc)] = some (num c, cvB f k1 v1 acc1)) ∨
    (SlP acc k v s ∧ ∀ N, 120050 ≤ N → callF tab ext N (.fn 50) [.ptr 0 0 0, .agg s.cells] [.var [.bs 1 0 k, nat v], .row 10 (msgsC acc)] = some (num 0, cvB (decide (0 < s.items.length)) (k + s.items.length) (v + (cellsL s.vals).length) (msgsC (acc ++ s.items)))) := by
  have hc0 := chkN_at s.n s.t
  have hit := hs.item
  have hval := hs.val
  have hvl := hs.vals
  obtain ⟨⟨k0, i0, s0, t0, l0, f0⟩, n0, d0, items, vals⟩ := s
  unfold SlP
  dsimp only at hc0 hit hval hvl hl ⊢
  generalize chkN n0 d0 = c0 at hc0 ⊢
  have hn := msgsC_length items
  cases h0 : (!(c0 == 0)) with
  | true =>
    left
    refine ⟨(fun h => by rw [h.1] at h0; cases h0), c0, false, k, v, msgsC acc, (by intro h; rw [h] at h0; cases h0), fun N hN => ?_⟩
    obtain ⟨M, rfl⟩ : ∃ M, N = M + 1 := ⟨N - 1, by omega⟩
    exact callF_of [(16, .p (num c0)), (18, .b true)] [] (pf2 (hc0 M (by omega)) h0) (by kernel_rfl)
  | false =>
    have hz0 : c0 = 0 := by simpa using h0
    have hA := xk_items k0 i0 s0 t0 (cellsL l0) (cellsF f0) n0 d0 items (cellsL vals) k v acc hit hacc hk hl
    have hB : ∀ f, canon 2 ⟨[(0, .ptr 0 0 0), (56, .sl false 6 (cellsL vals)), (57, nat (cellsL vals).length), (58, nat 0)], ckB f (k + items.length) v (msgsC (acc ++ items)) (slotC k0 i0 s0 t0 (cellsL l0) (cellsF f0) n0 d0 (msgsC items) (cellsL vals))⟩ = some (cvSt f (cellsL vals) (cellsL vals).length 0 (k + items.length) v (msgsC (acc ++ items))) := fun f => by
      cases f <;> kernel_rfl
    have hC := yv_loop vals (k + items.length) v (msgsC (acc ++ items)) (decide (0 < items.length)) hval hvl hv (hB _)
    generalize decide (0 < items.length) = f at hA hC
    rcases hA with ⟨hPA, r, hr, hA⟩ | ⟨hPA, hA⟩
    · cases hr with
      | a c k1 v1 acc1 x y h =>
        refine .inl ⟨fun hh => hPA hh.2.1, c, false, k1, v1, acc1, h, fun N hN => ?_⟩
        obtain ⟨M, rfl⟩ : ∃ M, N = M + 1 := ⟨N - 1, by omega⟩
        exact callF_of [(16, .p (num c0)), (18, .b false)] [(.ret, ⟨[(4, num c)], [.var [.bs 1 0 k1, nat v1], .row 10 acc1, x, y]⟩)] (pf3 (hc0 M (by omega)) h0 (hA M (by omega))) (by kernel_rfl)
      | b c k1 v1 acc1 x y h =>
        refine .inl ⟨fun hh => hPA hh.2.1, c, true, k1, v1, acc1, h, fun N hN => ?_⟩
        obtain ⟨M, rfl⟩ : ∃ M, N = M + 1 := ⟨N - 1, by omega⟩
        exact callF_of [(16, .p (num c0)), (18, .b false)] [(.ret, ⟨[(4, num c)], [.var [.bs 3 0 k1, nat v1], .dead, x, .row 10 acc1, y]⟩)] (pf3 (hc0 M (by omega)) h0 (hA M (by omega))) (by kernel_rfl)
      | c c k1 v1 acc1 x h =>
        refine .inl ⟨fun hh => hPA hh.2.1, c, false, k1, v1, acc1, h, fun N hN => ?_⟩
        obtain ⟨M, rfl⟩ : ∃ M, N = M + 1 := ⟨N - 1, by omega⟩
        exact callF_of [(16, .p (num c0)), (18, .b false)] [(.ret, ⟨[(4, num c)], [.var [.bs 1 0 k1, nat v1], .row 10 acc1, x]⟩)] (pf3 (hc0 M (by omega)) h0 (hA M (by omega))) (by kernel_rfl)
      | d c k1 v1 acc1 x h =>
        refine .inl ⟨fun hh => hPA hh.2.1, c, true, k1, v1, acc1, h, fun N hN => ?_⟩
        obtain ⟨M, rfl⟩ : ∃ M, N = M + 1 := ⟨N - 1, by omega⟩
        exact callF_of [(16, .p (num c0)), (18, .b false)] [(.ret, ⟨[(4, num c)], [.var [.bs 2 0 k1, nat v1], .dead, .row 10 acc1, x]⟩)] (pf3 (hc0 M (by omega)) h0 (hA M (by omega))) (by kernel_rfl)
    · rcases hC with ⟨hPC, r, hr, hC⟩ | ⟨hPC, hC⟩
      · cases hr with
        | a c k1 v1 acc1 x y h =>
          refine .inl ⟨fun hh => hPC hh.2.2, c, false, k1, v1, acc1, h, fun N hN => ?_⟩
          obtain ⟨M, rfl⟩ : ∃ M, N = M + 1 := ⟨N - 1, by omega⟩
          cases f with
          | false => exact callF_of [(16, .p (num c0)), (18, .b false)] [(.exit 0, ⟨[(0, .ptr 0 0 0), (3, .ptr 2 0 0), (21, .sl false 10 (msgsC items)), (22, nat (msgsC items).length), (23, nat (msgsC items).length), (24, boolX false)], ckB false (k + items.length) v (msgsC (acc ++ items)) (slotC k0 i0 s0 t0 (cellsL l0) (cellsF f0) n0 d0 (msgsC items) (cellsL vals))⟩), (.ret, ⟨[(4, num c)], [.var [.bs 1 0 k1, nat v1], .row 10 acc1, x, y]⟩)] (pf4 (hc0 M (by omega)) h0 (hA M (by omega)) (hC M (by omega))) (by kernel_rfl)
          | true => exact callF_of [(16, .p (num c0)), (18, .b false)] [(.exit 0, ⟨[(0, .ptr 0 0 0), (3, .ptr 2 0 0), (21, .sl false 10 (msgsC items)), (22, nat (msgsC items).length), (23, nat (msgsC items).length), (24, boolX false)], ckB true (k + items.length) v (msgsC (acc ++ items)) (slotC k0 i0 s0 t0 (cellsL l0) (cellsF f0) n0 d0 (msgsC items) (cellsL vals))⟩), (.ret, ⟨[(4, num c)], [.var [.bs 1 0 k1, nat v1], .row 10 acc1, x, y]⟩)] (pf4 (hc0 M (by omega)) h0 (hA M (by omega)) (hC M (by omega))) (by kernel_rfl)
        | b c k1 v1 acc1 x y h =>
          refine .inl ⟨fun hh => hPC hh.2.2, c, true, k1, v1, acc1, h, fun N hN => ?_⟩
          obtain ⟨M, rfl⟩ : ∃ M, N = M + 1 := ⟨N - 1, by omega⟩
          cases f with
          | false => exact callF_of [(16, .p (num c0)), (18, .b false)] [(.exit 0, ⟨[(0, .ptr 0 0 0), (3, .ptr 2 0 0), (21, .sl false 10 (msgsC items)), (22, nat (msgsC items).length), (23, nat (msgsC items).length), (24, boolX false)], ckB false (k + items.length) v (msgsC (acc ++ items)) (slotC k0 i0 s0 t0 (cellsL l0) (cellsF f0) n0 d0 (msgsC items) (cellsL vals))⟩), (.ret, ⟨[(4, num c)], [.var [.bs 3 0 k1, nat v1], .dead, x, .row 10 acc1, y]⟩)] (pf4 (hc0 M (by omega)) h0 (hA M (by omega)) (hC M (by omega))) (by kernel_rfl)
          | true => exact callF_of [(16, .p (num c0)), (18, .b false)] [(.exit 0, ⟨[(0, .ptr 0 0 0), (3, .ptr 2 0 0), (21, .sl false 10 (msgsC items)), (22, nat (msgsC items).length), (23, nat (msgsC items).length), (24, boolX false)], ckB true (k + items.length) v (msgsC (acc ++ items)) (slotC k0 i0 s0 t0 (cellsL l0) (cellsF f0) n0 d0 (msgsC items) (cellsL vals))⟩), (.ret, ⟨[(4, num c)], [.var [.bs 3 0 k1, nat v1], .dead, x, .row 10 acc1, y]⟩)] (pf4 (hc0 M (by omega)) h0 (hA M (by omega)) (hC M (by omega))) (by kernel_rfl)
        | c c k1 v1 acc1 x h =>
          refine .inl ⟨fun hh => hPC hh.2.2, c, false, k1, v1, acc1, h, fun N hN => ?_⟩
          obtain ⟨M, rfl⟩ : ∃ M, N = M + 1 := ⟨N - 1, by omega⟩
          cases f with
          | false => exact callF_of [(16, .p (num c0)), (18, .b false)] [(.exit 0, ⟨[(0, .ptr 0 0 0), (3, .ptr 2 0 0), (21, .sl false 10 (msgsC items)), (22, nat (msgsC items).length), (23, nat (msgsC items).length), (24, boolX false)], ckB false (k + items.length) v (msgsC (acc ++ items)) (slotC k0 i0 s0 t0 (cellsL l0) (cellsF f0) n0 d0 (msgsC items) (cellsL vals))⟩), (.ret, ⟨[(4, num c)], [.var [.bs 1 0 k1, nat v1], .row 10 acc1, x]⟩)] (pf4 (hc0 M (by omega)) h0 (hA M (by omega)) (hC M (by omega))) (by kernel_rfl)
          | true => exact callF_of [(16, .p (num c0)), (18, .b false)] [(.exit 0, ⟨[(0, .ptr 0 0 0), (3, .ptr 2 0 0), (21, .sl false 10 (msgsC items)), (22, nat (msgsC items).length), (23, nat (msgsC items).length), (24, boolX false)], ckB true (k + items.length) v (msgsC (acc ++ items)) (slotC k0 i0 s0 t0 (cellsL l0) (cellsF f0) n0 d0 (msgsC items) (cellsL vals))⟩), (.ret, ⟨[(4, num c)], [.var [.bs 1 0 k1, nat v1], .row 10 acc1, x]⟩)] (pf4 (hc0 M (by omega)) h0 (hA M (by omega)) (hC M (by omega))) (by kernel_rfl)
        | d c k1 v1 acc1 x h =>
          refine .inl ⟨fun hh => hPC hh.2.2, c, true, k1, v1, acc1, h, fun N hN => ?_⟩
          obtain ⟨M, rfl⟩ : ∃ M, N = M + 1 := ⟨N - 1, by omega⟩
          cases f with
          | false => exact callF_of [(16, .p (num c0)), (18, .b false)] [(.exit 0, ⟨[(0, .ptr 0 0 0), (3, .ptr 2 0 0), (21, .sl false 10 (msgsC items)), (22, nat (msgsC items).length), (23, nat (msgsC items).length), (24, boolX false)], ckB false (k + items.length) v (msgsC (acc ++ items)) (slotC k0 i0 s0 t0 (cellsL l0) (cellsF f0) n0 d0 (msgsC items) (cellsL vals))⟩), (.ret, ⟨[(4, num c)], [.var [.bs 2 0 k1, nat v1], .dead, .row 10 acc1, x]⟩)] (pf4 (hc0 M (by omega)) h0 (hA M (by omega)) (hC M (by omega))) (by kernel_rfl)
          | true => exact callF_of [(16, .p (num c0)), (18, .b false)] [(.exit 0, ⟨[(0, .ptr 0 0 0), (3, .ptr 2 0 0), (21, .sl false 10 (msgsC items)), (22, nat (msgsC items).length), (23, nat (msgsC items).length), (24, boolX false)], ckB true (k + items.length) v (msgsC (acc ++ items)) (slotC k0 i0 s0 t0 (cellsL l0) (cellsF f0) n0 d0 (msgsC items) (cellsL vals))⟩), (.ret, ⟨[(4, num c)], [.var [.bs 2 0 k1, nat v1], .dead, .row 10 acc1, x]⟩)] (pf4 (hc0 M (by omega)) h0 (hA M (by omega)) (hC M (by omega))) (by kernel_rfl)
      · refine .inr ⟨⟨hz0, hPA, hPC⟩, ?_⟩
        intro N hN
        obtain ⟨M, rfl⟩ : ∃ M, N = M + 1 := ⟨N - 1, by omega⟩
        cases f with
        | false => exact callF_of [(16, .p (num c0)), (18, .b false)] [(.exit 0, ⟨[(0, .ptr 0 0 0), (3, .ptr 2 0 0), (21, .sl false 10 (msgsC items)), (22, nat (msgsC items).length), (23, nat (msgsC items).length), (24, boolX false)], ckB false (k + items.length) v (msgsC (acc ++ items)) (slotC k0 i0 s0 t0 (cellsL l0) (cellsF f0) n0 d0 (msgsC items) (cellsL vals))⟩), (.exit 2, cvFin false (cellsL vals) (cellsL vals).length (cellsL vals).length (k + items.length) (v + (cellsL vals).length) (msgsC (acc ++ items)))] (pf4 (hc0 M (by omega)) h0 (hA M (by omega)) (hC M (by omega))) (by kernel_rfl)
        | true => exact callF_of [(16, .p (num c0)), (18, .b false)] [(.exit 0, ⟨[(0, .ptr 0 0 0), (3, .ptr 2 0 0), (21, .sl false 10 (msgsC items)), (22, nat (msgsC items).length), (23, nat (msgsC items).length), (24, boolX false)], ckB true (k + items.length) v (msgsC (acc ++ items)) (slotC k0 i0 s0 t0 (cellsL l0) (cellsF f0) n0 d0 (msgsC items) (cellsL vals))⟩), (.exit 2, cvFin true (cellsL vals) (cellsL vals).length (cellsL vals).length (k + items.length) (v + (cellsL vals).length) (msgsC (acc ++ items)))] (pf4 (hc0 M (by omega)) h0 (hA M (by omega)) (hC M (by omega))) (by kernel_rfl)
end Go.Proofs.YtbfnfldmnombgaaGreatDoor
