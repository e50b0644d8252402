/- The check of a state as a whole. -/
import Derived.Test.YtjfheahakfoofaaGreatDoorChecks12
namespace Go.Proofs.YtjfheahakfoofaaGreatDoor
open Go.Em

/-- A state of the sizes of layer 31. -/
structure Stt.small (s : Stt) : Prop where
  slots : s.slots.length ≤ 100
  slot : ∀ x, x ∈ s.slots → x.ok ∧ x.items.length ≤ 100 ∧ x.vals.length ≤ 100
theorem Stt.small.ok {s : Stt} (h : s.small) : s.ok := ⟨by have := h.slots; omega, fun x hx => (h.slot x hx).1⟩
def accOf (l : List Slt) : List Msg := l.flatMap (·.items)
def valsOf : List Slt → Nat
  | [] => 0
  | x :: r => (cellsL x.vals).length + valsOf r
theorem valsOf_append : ∀ (l : List Slt) (x : Slt), valsOf (l ++ [x]) = valsOf l + (cellsL x.vals).length
  | [], x => by simp [valsOf]
  | y :: l, x => by simp only [List.cons_append, valsOf, valsOf_append l x]; omega
theorem accOf_append (l : List Slt) (x : Slt) : accOf (l ++ [x]) = accOf l ++ x.items := by simp [accOf]
theorem accOf_length : ∀ (l : List Slt), (∀ x, x ∈ l → x.items.length ≤ 100) → (accOf l).length ≤ 100 * l.length
  | [], _ => by simp [accOf]
  | y :: l, h => by
    have h1 := h y (by simp)
    have h2 := accOf_length l fun x hx => h x (by simp [hx])
    have h3 : (accOf (y :: l)).length = y.items.length + (accOf l).length := by simp [accOf]
    rw [h3, List.length_cons]; omega
theorem valsOf_le : ∀ (l : List Slt), (∀ x, x ∈ l → x.vals.length ≤ 100) → valsOf l ≤ 100 * l.length
  | [], _ => by simp [valsOf]
  | y :: l, h => by
    have h1 := h y (by simp)
    have h2 := valsOf_le l fun x hx => h x (by simp [hx])
    simp only [valsOf, List.length_cons, cellsL_length]; omega

end Go.Proofs.YtjfheahakfoofaaGreatDoor

/- A loop that looks for the first round at which something holds. -/
namespace Go.Proofs.YtjfheahakfoofaaGreatDoor
open Go.Em

theorem scanP {nIn : Nat} {b : C} {H : Nat → St} {e : Ex} {fin τ : St} {n B : Nat} (P : Nat → Bool) (r υ : Nat → St) (h0 : canon nIn τ = some (H 0))
    (hT : ∀ j, j < n → P j = true → ∀ M, B ≤ M → run (callF tab ext M) nIn M b (H j) = some (.ret, r j)) (hF : ∀ j, j < n → P j = false → canon nIn (υ j) = some (H (j + 1)) ∧ ∀ M, B ≤ M → run (callF tab ext M) nIn M b (H j) = some (.norm, υ j))
    (hend : ∀ M, B ≤ M → run (callF tab ext M) nIn M b (H n) = some (e, fin)) (hne : e ≠ .norm) :
    (∃ j, j < n ∧ P j = true ∧ (∀ i, i < j → P i = false) ∧ ∀ M, B ≤ M → n < M → run (callF tab ext M) nIn M (.loop b) τ = some (.ret, r j)) ∨ ((∀ j, j < n → P j = false) ∧ ∀ M, B ≤ M → n < M → run (callF tab ext M) nIn M (.loop b) τ = some (e, fin)) := by
  have key : ∀ d j, j + d = n → (∀ i, i < j → P i = false) → (∃ k, k < n ∧ P k = true ∧ (∀ i, i < k → P i = false) ∧ ∀ M F ω, B ≤ M → d < F → canon nIn ω = some (H j) → iter nIn (run (callF tab ext M) nIn M b) F ω = some (.ret, r k)) ∨ ((∀ j, j < n → P j = false) ∧ ∀ M F ω, B ≤ M → d < F → canon nIn ω = some (H j) → iter nIn (run (callF tab ext M) nIn M b) F ω = some (e, fin)) := by
    intro d
    induction d with
    | zero =>
      intro j hj hall
      have hjn : j = n := by omega
      subst hjn
      refine .inr ⟨hall, fun M F ω hM hF' hc => ?_⟩
      obtain ⟨F', rfl⟩ : ∃ F', F = F' + 1 := ⟨F - 1, by omega⟩
      exact iter_end hc (hend M hM) hne
    | succ d ih =>
      intro j hj hall
      cases hP : P j with
      | true =>
        refine .inl ⟨j, by omega, hP, hall, fun M F ω hM hF' hc => ?_⟩
        obtain ⟨F', rfl⟩ : ∃ F', F = F' + 1 := ⟨F - 1, by omega⟩
        exact iter_end hc (hT j (by omega) hP M hM) (by simp)
      | false =>
        obtain ⟨hυ, hs⟩ := hF j (by omega) hP
        rcases ih (j + 1) (by omega) (fun i hi => by
          rcases Nat.lt_or_ge i j with h | h
          · exact hall i h
          · rw [show i = j by omega]; exact hP) with ⟨k, hk, hPk, hlt, h'⟩ | ⟨ha, h'⟩
        · refine .inl ⟨k, hk, hPk, hlt, fun M F ω hM hF' hc => ?_⟩
          obtain ⟨F', rfl⟩ : ∃ F', F = F' + 1 := ⟨F - 1, by omega⟩
          exact iter_step hc (hs M hM) (h' M F' _ hM (by omega) hυ)
        · refine .inr ⟨ha, fun M F ω hM hF' hc => ?_⟩
          obtain ⟨F', rfl⟩ : ∃ F', F = F' + 1 := ⟨F - 1, by omega⟩
          exact iter_step hc (hs M hM) (h' M F' _ hM (by omega) hυ)
  simp only [run]
  rcases key n 0 (by omega) (fun i hi => by omega) with ⟨k, h1, h2, h3, h⟩ | ⟨ha, h⟩
  · exact .inl ⟨k, h1, h2, h3, fun M hM hn => h M M τ hM hn h0⟩
  · exact .inr ⟨ha, fun M hM hn => h M M τ hM hn h0⟩
end Go.Proofs.YtjfheahakfoofaaGreatDoor

/- The checks, exactly: what they come to, told by the values alone. -/
namespace Go.Proofs.YtjfheahakfoofaaGreatDoor
open Go.Em

theorem first_not {P : Nat → Prop} : ∀ n : Nat, (∀ j, j < n → P j) ∨ ∃ j, j < n ∧ ¬ P j ∧ ∀ i, i < j → P i
  | 0 => .inl fun j hj => by omega
  | n + 1 => by
    rcases first_not (P := P) n with h | ⟨j, hj, h1, h2⟩
    · by_cases hn : P n
      · exact .inl fun j hj => by
          rcases Nat.lt_or_eq_of_le (Nat.le_of_lt_succ hj) with h' | h'
          · exact h j h'
          · rw [h']; exact hn
      · exact .inr ⟨n, by omega, hn, h⟩
    · exact .inr ⟨j, by omega, h1, h2⟩
/-- As 'scanN', and it is told whether P holds at each round. -/
theorem scanX {nIn : Nat} {b : C} {H : Nat → St} {e : Ex} {fin τ : St} {n B : Nat} {P : Nat → Prop} (good : St → Prop) (h0 : canon nIn τ = some (H 0))
    (hstep : ∀ j, j < n → (¬ P j ∧ ∃ r, good r ∧ ∀ M, B ≤ M → run (callF tab ext M) nIn M b (H j) = some (.ret, r)) ∨ (P j ∧ ∃ υ, canon nIn υ = some (H (j + 1)) ∧ ∀ M, B ≤ M → run (callF tab ext M) nIn M b (H j) = some (.norm, υ)))
    (hend : ∀ M, B ≤ M → run (callF tab ext M) nIn M b (H n) = some (e, fin)) (hne : e ≠ .norm) :
    (¬ (∀ j, j < n → P j) ∧ ∃ r, good r ∧ ∀ M, B ≤ M → n < M → run (callF tab ext M) nIn M (.loop b) τ = some (.ret, r)) ∨ ((∀ j, j < n → P j) ∧ ∀ M, B ≤ M → n < M → run (callF tab ext M) nIn M (.loop b) τ = some (e, fin)) := by
  have norm : ∀ j, j < n → P j → ∃ υ, canon nIn υ = some (H (j + 1)) ∧ ∀ M, B ≤ M → run (callF tab ext M) nIn M b (H j) = some (.norm, υ) := fun j hj hp => by
    rcases hstep j hj with ⟨h, _⟩ | ⟨_, h⟩
    · exact absurd hp h
    · exact h
  rcases first_not (P := P) n with h | ⟨j, hj, h1, h2⟩
  · right
    refine ⟨h, ?_⟩
    rcases scanN (fun _ => False) h0 (fun j hj => .inr (norm j hj (h j hj))) hend hne with ⟨_, hF, _⟩ | h'
    · exact hF.elim
    · exact h'
  · left
    refine ⟨fun h => h1 (h j hj), ?_⟩
    rcases hstep j hj with ⟨_, r, hr, hrun⟩ | ⟨hp, _⟩
    · refine ⟨r, hr, fun M hM hn => ?_⟩
      rcases scanN (fun _ => False) h0 (fun i hi => .inr (norm i (by omega) (h2 i hi))) hrun (by simp) with ⟨_, hF, _⟩ | h'
      · exact hF.elim
      · exact h' M hM (by omega)
    · exact absurd hp h1

noncomputable def chkM (m : Msg) : Int := open Classical in if h : m.ok then Classical.choose (msg_comes m h) else 0
theorem chkM_at {m : Msg} (hm : m.ok) : ∀ N, 120040 ≤ N → Gam.pureD (callF tab ext N) 15 [.agg m.cells] = some (num (chkM m)) := by
  have := Classical.choose_spec (msg_comes m hm)
  unfold chkM
  rw [dif_pos hm]
  exact this
noncomputable def chkV (v : Val) : Int := open Classical in if h : v.ok then Classical.choose (val_comes v h) else 0
theorem chkV_at {v : Val} (hv : v.ok) : ∀ N, 60025 + v.size ≤ N → Gam.pureD (callF tab ext N) 65 [.agg v.cells] = some (num (chkV v)) := by
  have := Classical.choose_spec (val_comes v hv)
  unfold chkV
  rw [dif_pos hv]
  exact this
def chkN (x y : Int) : Int := if decide (x < -999999999999999) then 2 else if decide (999999999999999 < x) then 2 else if decide (y < 0) then 2 else if decide (17592186044416 < y) then 2 else 0
theorem chkN_at (x y : Int) : ∀ N, 2 ≤ N → Gam.pureD (callF tab ext N) 64 [num x, num y] = some (num (chkN x y)) := fun N hN => by
  obtain ⟨M, rfl⟩ : ∃ M, N = M + 1 := ⟨N - 1, by omega⟩
  unfold chkN
  cases h1 : decide (x < -999999999999999) with
  | true => exact pure_of [(6, .b true)] [] (pf1 h1) (x := num (2)) (bx := []) (by kernel_rfl) rfl
  | false =>
    cases h2 : decide (999999999999999 < x) with
    | true => exact pure_of [(6, .b false), (9, .b true)] [] (pf2 h1 h2) (x := num (2)) (bx := []) (by kernel_rfl) rfl
    | false =>
      cases h3 : decide (y < 0) with
      | true => exact pure_of [(6, .b false), (9, .b false), (13, .b true)] [] (pf3 h1 h2 h3) (x := num (2)) (bx := []) (by kernel_rfl) rfl
      | false =>
        cases h4 : decide (17592186044416 < y) with
        | true => exact pure_of [(6, .b false), (9, .b false), (13, .b false), (17, .b true)] [] (pf4 h1 h2 h3 h4) (x := num (2)) (bx := []) (by kernel_rfl) rfl
        | false => exact pure_of [(6, .b false), (9, .b false), (13, .b false), (17, .b false)] [] (pf4 h1 h2 h3 h4) (x := num (0)) (bx := []) (by kernel_rfl) rfl
def Pck (k : Nat) (c : Int) (b : Bool) : Bool := if Int.ofNat k == 256 then false else if !(c == 0) then false else !b
def Pcv (v : Nat) (c : Int) : Bool := if Int.ofNat v == 4096 then false else if !(c == 0) then false else true

/-! ### slices.ContainsFunc of messages, exactly -/
def hasSt (l : List Msg) (m : Msg) : Bool := l.any fun o => cmpS o.st m.st == 0
theorem same_stamp_at (m : Msg) (o : Msg) (ho : o.ok) : ∀ N, 60015 ≤ N → Gam.pureD (callF tab ext N) 107 [.agg o.cells, .dp m.cells] = some (boolX (cmpS o.st m.st == 0)) := fun N hN => by
  obtain ⟨M, rfl⟩ : ∃ M, N = M + 1 := ⟨N - 1, by omega⟩
  have h : Gam.pureD (callF tab ext M) 26 [.agg o.st.cells, .agg m.st.cells] = some (boolX (cmpS o.st m.st == 0)) := eq_stamp M o.st m.st (by have := ho.st.p; omega) (by have := ho.st.p; omega)
  generalize (cmpS o.st m.st == 0) = b at h
  obtain ⟨⟨a1, a2⟩, a3, a4, a5, a6, a7, a8, a9, a0⟩ := o
  obtain ⟨⟨b1, b2⟩, b3, b4, b5, b6, b7, b8, b9, b0⟩ := m
  exact pure_of [(8, .p (boolX b))] [] (pf1 h) (x := boolX b) (bx := []) (by kernel_rfl) rfl
theorem contains_ex (m : Msg) (l : List Msg) (hl : l.length ≤ 60000) (hok : ∀ o, o ∈ l → o.ok) : ∀ N, 60018 ≤ N → Gam.pureD (callF tab ext N) 77 [.sl false 10 (msgsC l), .fn 107 [.dp m.cells]] = some (boolX (hasSt l m)) := by
  have hn := msgsC_length l
  have hs := scanX (nIn := 0) (P := fun j => ∀ h : j < l.length, ¬ (cmpS l[j].st m.st == 0) = true) (B := 60015) (b := loopAt 112 0) (H := fun j => imH (msgsC l) (.fn 107 [.dp m.cells]) (msgsC l).length j) (τ := imH (msgsC l) (.fn 107 [.dp m.cells]) (msgsC l).length 0) (n := (msgsC l).length) (e := .exit 0)
    (fin := ⟨[(0, .sl false 10 (msgsC l)), (1, .fn 107 [.dp m.cells]), (7, nat (msgsC l).length), (8, nat (msgsC l).length), (9, boolX false)], []⟩) (fun r => ∃ k : Nat, r = ⟨[(4, nat k)], []⟩) (by cases m; kernel_rfl) (fun j hj => by
      have hj' : j < l.length := by omega
      have hg := msgsC_get hj'
      have hb := same_stamp_at m l[j] (hok _ (List.getElem_mem hj'))
      have hPj : (∀ h : j < l.length, ¬ (cmpS l[j].st m.st == 0) = true) ↔ ¬ (cmpS l[j].st m.st == 0) = true := ⟨fun h => h hj', fun h _ => h⟩
      rw [hPj]
      generalize (cmpS l[j].st m.st == 0) = b at hb ⊢
      generalize l[j] = o at hg hb
      obtain ⟨⟨a1, a2⟩, a3, a4, a5, a6, a7, a8, a9, a0⟩ := o
      obtain ⟨⟨b1, b2⟩, b3, b4, b5, b6, b7, b8, b9, b0⟩ := m
      cases b with
      | true => exact .inl ⟨by simp, ⟨[(4, nat j)], []⟩, ⟨j, rfl⟩, fun M hM => run_of [(9, .b true), (14, .e (Msg.mk ⟨a1, a2⟩ a3 a4 (Val.mk a5 a6 a7 a8 a9 a0)).cells), (16, .p (boolX true))] [] (pf3 (lt_nat (j := j) (k := (msgsC l).length) (by omega)) hg (hb M hM)) (lo' := []) (by kernel_rfl)⟩
      | false => exact .inr ⟨by simp, imH (msgsC l) (.fn 107 [.dp (Msg.mk ⟨b1, b2⟩ b3 b4 (Val.mk b5 b6 b7 b8 b9 b0)).cells]) (msgsC l).length (j + 1), by kernel_rfl, fun M hM => run_of [(9, .b true), (14, .e (Msg.mk ⟨a1, a2⟩ a3 a4 (Val.mk a5 a6 a7 a8 a9 a0)).cells), (16, .p (boolX false)), (18, .i (Int.ofNat (j + 1)))] [] (pf4 (lt_nat (j := j) (k := (msgsC l).length) (by omega)) hg (hb M hM) (next_nat (j := j) (by omega))) (lo' := []) (by kernel_rfl)⟩)
    (fun M _ => run_of [(9, .b false)] [] (pf1 (nlt_nat (Nat.lt_irrefl (msgsC l).length))) (lo' := []) (by kernel_rfl)) (by simp)
  have hi : ∀ N, 60017 ≤ N → ∃ c : Int, decide (0 ≤ c) = hasSt l m ∧ Gam.pureD (callF tab ext N) 112 [.sl false 10 (msgsC l), .fn 107 [.dp m.cells]] = some (num c) := fun N hN => by
    obtain ⟨M, rfl⟩ : ∃ M, N = M + 1 := ⟨N - 1, by omega⟩
    rcases hs with ⟨hP, r, ⟨k, rfl⟩, h⟩ | ⟨hP, h⟩
    · refine ⟨Int.ofNat k, ?_, ?_⟩
      · have e2 : hasSt l m = true := by
          refine Classical.byContradiction fun hh => hP fun j _ h' h'' => hh ?_
          exact List.any_eq_true.2 ⟨_, List.getElem_mem h', h''⟩
        rw [e2]; exact decide_eq_true (Int.natCast_nonneg k)
      · obtain ⟨⟨b1, b2⟩, b3, b4, b5, b6, b7, b8, b9, b0⟩ := m
        exact pure_of [] [(.ret, ⟨[(4, nat k)], []⟩)] (pf1 (h M (by omega) (by omega))) (x := nat k) (bx := []) (by kernel_rfl) rfl
    · refine ⟨-1, ?_, ?_⟩
      · have e2 : hasSt l m = false := by
          refine Bool.eq_false_iff.2 fun hh => ?_
          obtain ⟨o, ho, h1⟩ := List.any_eq_true.1 hh
          obtain ⟨j, hj, rfl⟩ := List.mem_iff_getElem.1 ho
          exact hP j (by omega) hj h1
        rw [e2]; rfl
      · obtain ⟨⟨b1, b2⟩, b3, b4, b5, b6, b7, b8, b9, b0⟩ := m
        exact pure_of [] [(.exit 0, ⟨[(0, .sl false 10 (msgsC l)), (1, .fn 107 [.dp (Msg.mk ⟨b1, b2⟩ b3 b4 (Val.mk b5 b6 b7 b8 b9 b0)).cells]), (7, nat (msgsC l).length), (8, nat (msgsC l).length), (9, boolX false)], []⟩)] (pf1 (h M (by omega) (by omega))) (x := num (-1)) (bx := []) (by kernel_rfl) rfl
  intro N hN
  obtain ⟨M, rfl⟩ : ∃ M, N = M + 1 := ⟨N - 1, by omega⟩
  obtain ⟨c, hc, h⟩ := hi M (by omega)
  rw [← hc]
  obtain ⟨⟨b1, b2⟩, b3, b4, b5, b6, b7, b8, b9, b0⟩ := m
  exact pure_of [(7, .p (num c))] [] (pf1 h) (x := boolX (decide (0 ≤ c))) (bx := []) (by kernel_rfl) rfl
end Go.Proofs.YtjfheahakfoofaaGreatDoor

/- The check of a slot, exactly: its items. -/
namespace Go.Proofs.YtjfheahakfoofaaGreatDoor
open Go.Em

theorem xk_round_false (k0 i0 s0 : Int) (t0 : ByteArray) (l0 f0 : List (List X)) (n0 d0 : Int) (items vals : List (List X)) (n j k v : Nat) (acc : List Msg) (m : Msg) (hm : m.ok) (hacc : ∀ o, o ∈ acc → o.ok) (hk : k = acc.length) (hkl : acc.length ≤ 60000) (hj : j < n) (hn : n ≤ 60000) (hg : items[j]? = some m.cells) :
    (¬ Pck k (chkM m) (hasSt acc m) = true ∧ ∃ r, BadCk r ∧ ∀ M, 120040 ≤ M → run (callF tab ext M) 2 M (loopAt 67 0) (ckH false items n j k v (msgsC acc) (slotC k0 i0 s0 t0 l0 f0 n0 d0 items vals)) = some (.ret, r)) ∨
    (Pck k (chkM m) (hasSt acc m) = true ∧ ∃ υ, canon 2 υ = some (ckH true items n (j + 1) (k + 1) v (msgsC acc ++ [m.cells]) (slotC k0 i0 s0 t0 l0 f0 n0 d0 items vals)) ∧ ∀ M, 120040 ≤ M → run (callF tab ext M) 2 M (loopAt 67 0) (ckH false items n j k v (msgsC acc) (slotC k0 i0 s0 t0 l0 f0 n0 d0 items vals)) = some (.norm, υ)) := by
  have hc := chkM_at hm
  generalize chkM m = c at hc ⊢
  have hb := contains_ex m acc hkl hacc
  generalize hasSt acc m = b at hb ⊢
  have hlt := lt_nat hj
  have hal := msgsC_length acc
  obtain ⟨⟨a1, a2⟩, a3, a4, a5, a6, a7, a8, a9, a0⟩ := m
  cases h1 : (Int.ofNat k == 256) with
  | true =>
    exact .inl ⟨(by first | simp only [Pck, h1, h2, if_true, if_false, Bool.false_eq_true, Bool.not_true, Bool.not_false, reduceCtorEq, not_false_eq_true, not_true_eq_false] | simp only [Pck, h1, if_true, if_false, Bool.false_eq_true, Bool.not_true, Bool.not_false, reduceCtorEq, not_false_eq_true, not_true_eq_false] | simp only [Pck, if_true, if_false, Bool.false_eq_true, Bool.not_true, Bool.not_false, reduceCtorEq, not_false_eq_true, not_true_eq_false]), ⟨[(4, num 9)], [.var [.bs 1 0 k, nat v], .row 10 (msgsC acc), .var (slotC k0 i0 s0 t0 l0 f0 n0 d0 items vals), .var (Msg.mk ⟨a1, a2⟩ a3 a4 (Val.mk a5 a6 a7 a8 a9 a0)).cells]⟩, .a _ _ _ _ _ _ (by decide), fun M hM => run_of [(24, .b true), (25, .e (Msg.mk ⟨a1, a2⟩ a3 a4 (Val.mk a5 a6 a7 a8 a9 a0)).cells), (32, .b true)] [] (pf3 hlt hg h1) (lo' := []) (by kernel_rfl)⟩
  | false =>
    cases h2 : (!(c == 0)) with
    | true =>
      exact .inl ⟨(by first | simp only [Pck, h1, h2, if_true, if_false, Bool.false_eq_true, Bool.not_true, Bool.not_false, reduceCtorEq, not_false_eq_true, not_true_eq_false] | simp only [Pck, h1, if_true, if_false, Bool.false_eq_true, Bool.not_true, Bool.not_false, reduceCtorEq, not_false_eq_true, not_true_eq_false] | simp only [Pck, if_true, if_false, Bool.false_eq_true, Bool.not_true, Bool.not_false, reduceCtorEq, not_false_eq_true, not_true_eq_false]), ⟨[(4, num c)], [.var [.bs 1 0 k, nat v], .row 10 (msgsC acc), .var (slotC k0 i0 s0 t0 l0 f0 n0 d0 items vals), .var (Msg.mk ⟨a1, a2⟩ a3 a4 (Val.mk a5 a6 a7 a8 a9 a0)).cells]⟩, .a _ _ _ _ _ _ (by intro h0; rw [h0] at h2; cases h2), fun M hM => run_of [(24, .b true), (25, .e (Msg.mk ⟨a1, a2⟩ a3 a4 (Val.mk a5 a6 a7 a8 a9 a0)).cells), (32, .b false), (34, .p (num c)), (36, .b true)] [] (pf5 hlt hg h1 (hc M (by omega)) h2) (lo' := []) (by kernel_rfl)⟩
    | false =>
      cases b with
      | true =>
        exact .inl ⟨(by first | simp only [Pck, h1, h2, if_true, if_false, Bool.false_eq_true, Bool.not_true, Bool.not_false, reduceCtorEq, not_false_eq_true, not_true_eq_false] | simp only [Pck, h1, if_true, if_false, Bool.false_eq_true, Bool.not_true, Bool.not_false, reduceCtorEq, not_false_eq_true, not_true_eq_false] | simp only [Pck, if_true, if_false, Bool.false_eq_true, Bool.not_true, Bool.not_false, reduceCtorEq, not_false_eq_true, not_true_eq_false]), ⟨[(4, num 7)], [.var [.bs 1 0 k, nat v], .row 10 (msgsC acc), .var (slotC k0 i0 s0 t0 l0 f0 n0 d0 items vals), .dead]⟩, .a _ _ _ _ _ _ (by decide), fun M hM => run_of [(24, .b true), (25, .e (Msg.mk ⟨a1, a2⟩ a3 a4 (Val.mk a5 a6 a7 a8 a9 a0)).cells), (32, .b false), (34, .p (num c)), (36, .b false), (43, .d [.sl false 10 (msgsC acc), .fn 107 [.dp (Msg.mk ⟨a1, a2⟩ a3 a4 (Val.mk a5 a6 a7 a8 a9 a0)).cells]] (boolX true))] [] (pf6 hlt hg h1 (hc M (by omega)) h2 (⟨(data_row acc k 1 (.fn 107 [.dp (Msg.mk ⟨a1, a2⟩ a3 a4 (Val.mk a5 a6 a7 a8 a9 a0)).cells]) [.var [.bs 1 0 k, nat v], .row 10 (msgsC acc), .var (slotC k0 i0 s0 t0 l0 f0 n0 d0 items vals), .dead] rfl hk (by kernel_rfl)), hb M (by omega)⟩ : _ ∧ _)) (lo' := []) (by kernel_rfl)⟩
      | false =>
        exact .inr ⟨(by first | simp only [Pck, h1, h2, if_true, if_false, Bool.false_eq_true, Bool.not_true, Bool.not_false, reduceCtorEq, not_false_eq_true, not_true_eq_false] | simp only [Pck, h1, if_true, if_false, Bool.false_eq_true, Bool.not_true, Bool.not_false, reduceCtorEq, not_false_eq_true, not_true_eq_false] | simp only [Pck, if_true, if_false, Bool.false_eq_true, Bool.not_true, Bool.not_false, reduceCtorEq, not_false_eq_true, not_true_eq_false]), ⟨[(0, .ptr 0 0 0), (3, .ptr 2 0 0), (21, .sl false 10 items), (22, nat n), (23, nat (j + 1))], [.var [.bs 4 0 (k + 1), nat v], .dead, .var (slotC k0 i0 s0 t0 l0 f0 n0 d0 items vals), .dead, .row 10 (msgsC acc ++ [(Msg.mk ⟨a1, a2⟩ a3 a4 (Val.mk a5 a6 a7 a8 a9 a0)).cells])]⟩, by kernel_rfl, fun M hM => run_of [(24, .b true), (25, .e (Msg.mk ⟨a1, a2⟩ a3 a4 (Val.mk a5 a6 a7 a8 a9 a0)).cells), (32, .b false), (34, .p (num c)), (36, .b false), (43, .d [.sl false 10 (msgsC acc), .fn 107 [.dp (Msg.mk ⟨a1, a2⟩ a3 a4 (Val.mk a5 a6 a7 a8 a9 a0)).cells]] (boolX false)), (51, .app), (54, .i (Int.ofNat (j + 1)))] [] (pf8 hlt hg h1 (hc M (by omega)) h2 (⟨(data_row acc k 1 (.fn 107 [.dp (Msg.mk ⟨a1, a2⟩ a3 a4 (Val.mk a5 a6 a7 a8 a9 a0)).cells]) [.var [.bs 1 0 k, nat v], .row 10 (msgsC acc), .var (slotC k0 i0 s0 t0 l0 f0 n0 d0 items vals), .dead] rfl hk (by kernel_rfl)), hb M (by omega)⟩ : _ ∧ _) (app_ok (acc := msgsC acc) k 1 152 (by omega) (by omega) (by omega)) (next_nat (j := j) (by omega))) (lo' := []) (by kernel_rfl)⟩
theorem xk_round_true (k0 i0 s0 : Int) (t0 : ByteArray) (l0 f0 : List (List X)) (n0 d0 : Int) (items vals : List (List X)) (n j k v : Nat) (acc : List Msg) (m : Msg) (hm : m.ok) (hacc : ∀ o, o ∈ acc → o.ok) (hk : k = acc.length) (hkl : acc.length ≤ 60000) (hj : j < n) (hn : n ≤ 60000) (hg : items[j]? = some m.cells) :
    (¬ Pck k (chkM m) (hasSt acc m) = true ∧ ∃ r, BadCk r ∧ ∀ M, 120040 ≤ M → run (callF tab ext M) 2 M (loopAt 67 0) (ckH true items n j k v (msgsC acc) (slotC k0 i0 s0 t0 l0 f0 n0 d0 items vals)) = some (.ret, r)) ∨
    (Pck k (chkM m) (hasSt acc m) = true ∧ ∃ υ, canon 2 υ = some (ckH true items n (j + 1) (k + 1) v (msgsC acc ++ [m.cells]) (slotC k0 i0 s0 t0 l0 f0 n0 d0 items vals)) ∧ ∀ M, 120040 ≤ M → run (callF tab ext M) 2 M (loopAt 67 0) (ckH true items n j k v (msgsC acc) (slotC k0 i0 s0 t0 l0 f0 n0 d0 items vals)) = some (.norm, υ)) := by
  have hc := chkM_at hm
  generalize chkM m = c at hc ⊢
  have hb := contains_ex m acc hkl hacc
  generalize hasSt acc m = b at hb ⊢
  have hlt := lt_nat hj
  have hal := msgsC_length acc
  obtain ⟨⟨a1, a2⟩, a3, a4, a5, a6, a7, a8, a9, a0⟩ := m
  cases h1 : (Int.ofNat k == 256) with
  | true =>
    exact .inl ⟨(by first | simp only [Pck, h1, h2, if_true, if_false, Bool.false_eq_true, Bool.not_true, Bool.not_false, reduceCtorEq, not_false_eq_true, not_true_eq_false] | simp only [Pck, h1, if_true, if_false, Bool.false_eq_true, Bool.not_true, Bool.not_false, reduceCtorEq, not_false_eq_true, not_true_eq_false] | simp only [Pck, if_true, if_false, Bool.false_eq_true, Bool.not_true, Bool.not_false, reduceCtorEq, not_false_eq_true, not_true_eq_false]), ⟨[(4, num 9)], [.var [.bs 3 0 k, nat v], .dead, .var (slotC k0 i0 s0 t0 l0 f0 n0 d0 items vals), .row 10 (msgsC acc), .var (Msg.mk ⟨a1, a2⟩ a3 a4 (Val.mk a5 a6 a7 a8 a9 a0)).cells]⟩, .b _ _ _ _ _ _ (by decide), fun M hM => run_of [(24, .b true), (25, .e (Msg.mk ⟨a1, a2⟩ a3 a4 (Val.mk a5 a6 a7 a8 a9 a0)).cells), (32, .b true)] [] (pf3 hlt hg h1) (lo' := []) (by kernel_rfl)⟩
  | false =>
    cases h2 : (!(c == 0)) with
    | true =>
      exact .inl ⟨(by first | simp only [Pck, h1, h2, if_true, if_false, Bool.false_eq_true, Bool.not_true, Bool.not_false, reduceCtorEq, not_false_eq_true, not_true_eq_false] | simp only [Pck, h1, if_true, if_false, Bool.false_eq_true, Bool.not_true, Bool.not_false, reduceCtorEq, not_false_eq_true, not_true_eq_false] | simp only [Pck, if_true, if_false, Bool.false_eq_true, Bool.not_true, Bool.not_false, reduceCtorEq, not_false_eq_true, not_true_eq_false]), ⟨[(4, num c)], [.var [.bs 3 0 k, nat v], .dead, .var (slotC k0 i0 s0 t0 l0 f0 n0 d0 items vals), .row 10 (msgsC acc), .var (Msg.mk ⟨a1, a2⟩ a3 a4 (Val.mk a5 a6 a7 a8 a9 a0)).cells]⟩, .b _ _ _ _ _ _ (by intro h0; rw [h0] at h2; cases h2), fun M hM => run_of [(24, .b true), (25, .e (Msg.mk ⟨a1, a2⟩ a3 a4 (Val.mk a5 a6 a7 a8 a9 a0)).cells), (32, .b false), (34, .p (num c)), (36, .b true)] [] (pf5 hlt hg h1 (hc M (by omega)) h2) (lo' := []) (by kernel_rfl)⟩
    | false =>
      cases b with
      | true =>
        exact .inl ⟨(by first | simp only [Pck, h1, h2, if_true, if_false, Bool.false_eq_true, Bool.not_true, Bool.not_false, reduceCtorEq, not_false_eq_true, not_true_eq_false] | simp only [Pck, h1, if_true, if_false, Bool.false_eq_true, Bool.not_true, Bool.not_false, reduceCtorEq, not_false_eq_true, not_true_eq_false] | simp only [Pck, if_true, if_false, Bool.false_eq_true, Bool.not_true, Bool.not_false, reduceCtorEq, not_false_eq_true, not_true_eq_false]), ⟨[(4, num 7)], [.var [.bs 3 0 k, nat v], .dead, .var (slotC k0 i0 s0 t0 l0 f0 n0 d0 items vals), .row 10 (msgsC acc), .dead]⟩, .b _ _ _ _ _ _ (by decide), fun M hM => run_of [(24, .b true), (25, .e (Msg.mk ⟨a1, a2⟩ a3 a4 (Val.mk a5 a6 a7 a8 a9 a0)).cells), (32, .b false), (34, .p (num c)), (36, .b false), (43, .d [.sl false 10 (msgsC acc), .fn 107 [.dp (Msg.mk ⟨a1, a2⟩ a3 a4 (Val.mk a5 a6 a7 a8 a9 a0)).cells]] (boolX true))] [] (pf6 hlt hg h1 (hc M (by omega)) h2 (⟨(data_row acc k 3 (.fn 107 [.dp (Msg.mk ⟨a1, a2⟩ a3 a4 (Val.mk a5 a6 a7 a8 a9 a0)).cells]) [.var [.bs 3 0 k, nat v], .dead, .var (slotC k0 i0 s0 t0 l0 f0 n0 d0 items vals), .row 10 (msgsC acc), .dead] rfl hk (by kernel_rfl)), hb M (by omega)⟩ : _ ∧ _)) (lo' := []) (by kernel_rfl)⟩
      | false =>
        exact .inr ⟨(by first | simp only [Pck, h1, h2, if_true, if_false, Bool.false_eq_true, Bool.not_true, Bool.not_false, reduceCtorEq, not_false_eq_true, not_true_eq_false] | simp only [Pck, h1, if_true, if_false, Bool.false_eq_true, Bool.not_true, Bool.not_false, reduceCtorEq, not_false_eq_true, not_true_eq_false] | simp only [Pck, if_true, if_false, Bool.false_eq_true, Bool.not_true, Bool.not_false, reduceCtorEq, not_false_eq_true, not_true_eq_false]), ⟨[(0, .ptr 0 0 0), (3, .ptr 2 0 0), (21, .sl false 10 items), (22, nat n), (23, nat (j + 1))], [.var [.bs 5 0 (k + 1), nat v], .dead, .var (slotC k0 i0 s0 t0 l0 f0 n0 d0 items vals), .dead, .dead, .row 10 (msgsC acc ++ [(Msg.mk ⟨a1, a2⟩ a3 a4 (Val.mk a5 a6 a7 a8 a9 a0)).cells])]⟩, by kernel_rfl, fun M hM => run_of [(24, .b true), (25, .e (Msg.mk ⟨a1, a2⟩ a3 a4 (Val.mk a5 a6 a7 a8 a9 a0)).cells), (32, .b false), (34, .p (num c)), (36, .b false), (43, .d [.sl false 10 (msgsC acc), .fn 107 [.dp (Msg.mk ⟨a1, a2⟩ a3 a4 (Val.mk a5 a6 a7 a8 a9 a0)).cells]] (boolX false)), (51, .app), (54, .i (Int.ofNat (j + 1)))] [] (pf8 hlt hg h1 (hc M (by omega)) h2 (⟨(data_row acc k 3 (.fn 107 [.dp (Msg.mk ⟨a1, a2⟩ a3 a4 (Val.mk a5 a6 a7 a8 a9 a0)).cells]) [.var [.bs 3 0 k, nat v], .dead, .var (slotC k0 i0 s0 t0 l0 f0 n0 d0 items vals), .row 10 (msgsC acc), .dead] rfl hk (by kernel_rfl)), hb M (by omega)⟩ : _ ∧ _) (app_ok (acc := msgsC acc) k 3 152 (by omega) (by omega) (by omega)) (next_nat (j := j) (by omega))) (lo' := []) (by kernel_rfl)⟩
theorem xk_items (k0 i0 s0 : Int) (t0 : ByteArray) (l0 f0 : List (List X)) (n0 d0 : Int) (items : List Msg) (vals : List (List X)) (k v : Nat) (acc : List Msg) (hit : ∀ m, m ∈ items → m.ok) (hacc : ∀ o, o ∈ acc → o.ok) (hk : k = acc.length) (hl : acc.length + items.length ≤ 60000) :
    (¬ (∀ j (h : j < items.length), Pck (k + j) (chkM items[j]) (hasSt (acc ++ items.take j) items[j]) = true) ∧ ∃ r, BadCk r ∧ ∀ M, 120040 ≤ M → run (callF tab ext M) 2 M (.loop (loopAt 67 0)) (ckH false (msgsC items) (msgsC items).length 0 k v (msgsC acc) (slotC k0 i0 s0 t0 l0 f0 n0 d0 (msgsC items) vals)) = some (.ret, r)) ∨
    ((∀ j (h : j < items.length), Pck (k + j) (chkM items[j]) (hasSt (acc ++ items.take j) items[j]) = true) ∧ ∀ M, 120040 ≤ M → run (callF tab ext M) 2 M (.loop (loopAt 67 0)) (ckH false (msgsC items) (msgsC items).length 0 k v (msgsC acc) (slotC k0 i0 s0 t0 l0 f0 n0 d0 (msgsC items) vals)) = some (.exit 0, ⟨[(0, .ptr 0 0 0), (3, .ptr 2 0 0), (21, .sl false 10 (msgsC items)), (22, nat (msgsC items).length), (23, nat (msgsC items).length), (24, boolX false)], ckB (decide (0 < items.length)) (k + items.length) v (msgsC (acc ++ items)) (slotC k0 i0 s0 t0 l0 f0 n0 d0 (msgsC items) vals)⟩)) := by
  have hn := msgsC_length items
  have hap : ∀ j (h : j < items.length), msgsC (acc ++ items.take j) ++ [items[j].cells] = msgsC (acc ++ items.take (j + 1)) := fun j h => by
    rw [List.take_succ_eq_append_getElem h, ← List.append_assoc]
    simp only [msgsC, List.map_append, List.map_cons, List.map_nil]
  have := scanX (P := fun j => ∀ h : j < items.length, Pck (k + j) (chkM items[j]) (hasSt (acc ++ items.take j) items[j]) = true) (nIn := 2) (B := 120040) (b := loopAt 67 0) (H := fun j => ckH (decide (0 < j)) (msgsC items) (msgsC items).length j (k + j) v (msgsC (acc ++ items.take j)) (slotC k0 i0 s0 t0 l0 f0 n0 d0 (msgsC items) vals))
    (τ := ckH false (msgsC items) (msgsC items).length 0 k v (msgsC acc) (slotC k0 i0 s0 t0 l0 f0 n0 d0 (msgsC items) vals)) (n := items.length) (e := .exit 0) (fin := ⟨[(0, .ptr 0 0 0), (3, .ptr 2 0 0), (21, .sl false 10 (msgsC items)), (22, nat (msgsC items).length), (23, nat (msgsC items).length), (24, boolX false)], ckB (decide (0 < items.length)) (k + items.length) v (msgsC (acc ++ items)) (slotC k0 i0 s0 t0 l0 f0 n0 d0 (msgsC items) vals)⟩) BadCk (by rw [List.take_zero, List.append_nil]; kernel_rfl) (fun j hj => by
      have hg := msgsC_get hj
      have hm := hit _ (List.getElem_mem hj)
      have hacc' : ∀ o, o ∈ acc ++ items.take j → o.ok := fun o ho => by
        rcases List.mem_append.1 ho with h | h
        · exact hacc o h
        · exact hit o (List.mem_of_mem_take h)
      have hlen : k + j = (acc ++ items.take j).length := by rw [List.length_append, List.length_take]; omega
      have e1 : decide (0 < j + 1) = true := by simp
      have hPj : (∀ h : j < items.length, Pck (k + j) (chkM items[j]) (hasSt (acc ++ items.take j) items[j]) = true) ↔ Pck (k + j) (chkM items[j]) (hasSt (acc ++ items.take j) items[j]) = true := ⟨fun h => h hj, fun h _ => h⟩
      rw [hPj, ← hap j hj, e1, show k + (j + 1) = k + j + 1 from rfl]
      cases j with
      | zero => exact xk_round_false _ _ _ _ _ _ _ _ _ _ _ _ _ _ _ _ hm hacc' hlen (by omega) (by omega) (by omega) hg
      | succ j => exact xk_round_true _ _ _ _ _ _ _ _ _ _ _ _ _ _ _ _ hm hacc' hlen (by omega) (by omega) (by omega) hg)
    (fun M _ => by
      have := ck_end k0 i0 s0 t0 l0 f0 n0 d0 (msgsC items) vals items.length (k + items.length) v (msgsC (acc ++ items)) (decide (0 < items.length)) M
      rw [List.take_length, hn]
      exact this) (by simp)
  rcases this with ⟨hP, r, hr, h⟩ | ⟨hP, h⟩
  · exact .inl ⟨fun hh => hP fun j hj => hh j, r, hr, fun M hM => h M hM (by omega)⟩
  · exact .inr ⟨fun j hj => hP j hj hj, fun M hM => h M hM (by omega)⟩
end Go.Proofs.YtjfheahakfoofaaGreatDoor

/- The check of a slot, exactly: its values. -/
namespace Go.Proofs.YtjfheahakfoofaaGreatDoor
open Go.Em

theorem yv_round_false (vals : List (List X)) (n j k v : Nat) (acc : List (List X)) (x : Val) (hx : x.ok) (hj : j < n) (hn : n ≤ 60000) (hv : v ≤ 1000000) (hg : vals[j]? = some x.cells) :
    (¬ Pcv v (chkV x) = true ∧ ∃ r, BadCk r ∧ ∀ M, 120040 ≤ M → run (callF tab ext M) 2 M (loopAt 67 1) (cvSt false vals n j k v acc) = some (.ret, r)) ∨
    (Pcv v (chkV x) = true ∧ ∃ υ, canon 2 υ = some (cvSt false vals n (j + 1) k (v + 1) acc) ∧ ∀ M, 120040 ≤ M → run (callF tab ext M) 2 M (loopAt 67 1) (cvSt false vals n j k v acc) = some (.norm, υ)) := by
  have hok := hx
  unfold Val.ok at hok
  have hc : ∀ M, 120040 ≤ M → _ := fun M hM => chkV_at hx M (by omega)
  generalize chkV x = c at hc ⊢
  have hlt := lt_nat hj
  obtain ⟨a1, a2, a3, a4, a5, a6⟩ := x
  cases h1 : (Int.ofNat v == 4096) with
  | true =>
    exact .inl ⟨(by first | simp only [Pcv, h1, h2, if_true, if_false, Bool.false_eq_true, Bool.not_true, Bool.not_false, reduceCtorEq, not_false_eq_true, not_true_eq_false] | simp only [Pcv, h1, if_true, if_false, Bool.false_eq_true, Bool.not_true, Bool.not_false, reduceCtorEq, not_false_eq_true, not_true_eq_false] | simp only [Pcv, if_true, if_false, Bool.false_eq_true, Bool.not_true, Bool.not_false, reduceCtorEq, not_false_eq_true, not_true_eq_false]), ⟨[(4, num 9)], [.var [.bs 1 0 k, nat v], .row 10 acc, .var (Val.mk a1 a2 a3 a4 a5 a6).cells]⟩, .c _ _ _ _ _ (by decide), fun M hM => run_of [(59, .b true), (60, .e (Val.mk a1 a2 a3 a4 a5 a6).cells), (66, .b true)] [] (pf3 hlt hg h1) (lo' := []) (by kernel_rfl)⟩
  | false =>
    cases h2 : (!(c == 0)) with
    | true =>
      exact .inl ⟨(by first | simp only [Pcv, h1, h2, if_true, if_false, Bool.false_eq_true, Bool.not_true, Bool.not_false, reduceCtorEq, not_false_eq_true, not_true_eq_false] | simp only [Pcv, h1, if_true, if_false, Bool.false_eq_true, Bool.not_true, Bool.not_false, reduceCtorEq, not_false_eq_true, not_true_eq_false] | simp only [Pcv, if_true, if_false, Bool.false_eq_true, Bool.not_true, Bool.not_false, reduceCtorEq, not_false_eq_true, not_true_eq_false]), ⟨[(4, num c)], [.var [.bs 1 0 k, nat v], .row 10 acc, .var (Val.mk a1 a2 a3 a4 a5 a6).cells]⟩, .c _ _ _ _ _ (by intro h0; rw [h0] at h2; cases h2), fun M hM => run_of [(59, .b true), (60, .e (Val.mk a1 a2 a3 a4 a5 a6).cells), (66, .b false), (68, .p (num c)), (70, .b true)] [] (pf5 hlt hg h1 (hc M hM) h2) (lo' := []) (by kernel_rfl)⟩
    | false =>
      exact .inr ⟨(by first | simp only [Pcv, h1, h2, if_true, if_false, Bool.false_eq_true, Bool.not_true, Bool.not_false, reduceCtorEq, not_false_eq_true, not_true_eq_false] | simp only [Pcv, h1, if_true, if_false, Bool.false_eq_true, Bool.not_true, Bool.not_false, reduceCtorEq, not_false_eq_true, not_true_eq_false] | simp only [Pcv, if_true, if_false, Bool.false_eq_true, Bool.not_true, Bool.not_false, reduceCtorEq, not_false_eq_true, not_true_eq_false]), ⟨[(0, .ptr 0 0 0), (56, .sl false 6 vals), (57, nat n), (58, nat (j + 1))], [.var [.bs 1 0 k, nat (v + 1)], .row 10 acc, .var (Val.mk a1 a2 a3 a4 a5 a6).cells]⟩, by kernel_rfl, fun M hM => run_of [(59, .b true), (60, .e (Val.mk a1 a2 a3 a4 a5 a6).cells), (66, .b false), (68, .p (num c)), (70, .b false), (76, .i (Int.ofNat (v + 1))), (79, .i (Int.ofNat (j + 1)))] [] (pf7 hlt hg h1 (hc M hM) h2 (next_nat (j := v) (by omega)) (next_nat (j := j) (by omega))) (lo' := []) (by kernel_rfl)⟩
theorem yv_round_true (vals : List (List X)) (n j k v : Nat) (acc : List (List X)) (x : Val) (hx : x.ok) (hj : j < n) (hn : n ≤ 60000) (hv : v ≤ 1000000) (hg : vals[j]? = some x.cells) :
    (¬ Pcv v (chkV x) = true ∧ ∃ r, BadCk r ∧ ∀ M, 120040 ≤ M → run (callF tab ext M) 2 M (loopAt 67 1) (cvSt true vals n j k v acc) = some (.ret, r)) ∨
    (Pcv v (chkV x) = true ∧ ∃ υ, canon 2 υ = some (cvSt true vals n (j + 1) k (v + 1) acc) ∧ ∀ M, 120040 ≤ M → run (callF tab ext M) 2 M (loopAt 67 1) (cvSt true vals n j k v acc) = some (.norm, υ)) := by
  have hok := hx
  unfold Val.ok at hok
  have hc : ∀ M, 120040 ≤ M → _ := fun M hM => chkV_at hx M (by omega)
  generalize chkV x = c at hc ⊢
  have hlt := lt_nat hj
  obtain ⟨a1, a2, a3, a4, a5, a6⟩ := x
  cases h1 : (Int.ofNat v == 4096) with
  | true =>
    exact .inl ⟨(by first | simp only [Pcv, h1, h2, if_true, if_false, Bool.false_eq_true, Bool.not_true, Bool.not_false, reduceCtorEq, not_false_eq_true, not_true_eq_false] | simp only [Pcv, h1, if_true, if_false, Bool.false_eq_true, Bool.not_true, Bool.not_false, reduceCtorEq, not_false_eq_true, not_true_eq_false] | simp only [Pcv, if_true, if_false, Bool.false_eq_true, Bool.not_true, Bool.not_false, reduceCtorEq, not_false_eq_true, not_true_eq_false]), ⟨[(4, num 9)], [.var [.bs 2 0 k, nat v], .dead, .row 10 acc, .var (Val.mk a1 a2 a3 a4 a5 a6).cells]⟩, .d _ _ _ _ _ (by decide), fun M hM => run_of [(59, .b true), (60, .e (Val.mk a1 a2 a3 a4 a5 a6).cells), (66, .b true)] [] (pf3 hlt hg h1) (lo' := []) (by kernel_rfl)⟩
  | false =>
    cases h2 : (!(c == 0)) with
    | true =>
      exact .inl ⟨(by first | simp only [Pcv, h1, h2, if_true, if_false, Bool.false_eq_true, Bool.not_true, Bool.not_false, reduceCtorEq, not_false_eq_true, not_true_eq_false] | simp only [Pcv, h1, if_true, if_false, Bool.false_eq_true, Bool.not_true, Bool.not_false, reduceCtorEq, not_false_eq_true, not_true_eq_false] | simp only [Pcv, if_true, if_false, Bool.false_eq_true, Bool.not_true, Bool.not_false, reduceCtorEq, not_false_eq_true, not_true_eq_false]), ⟨[(4, num c)], [.var [.bs 2 0 k, nat v], .dead, .row 10 acc, .var (Val.mk a1 a2 a3 a4 a5 a6).cells]⟩, .d _ _ _ _ _ (by intro h0; rw [h0] at h2; cases h2), fun M hM => run_of [(59, .b true), (60, .e (Val.mk a1 a2 a3 a4 a5 a6).cells), (66, .b false), (68, .p (num c)), (70, .b true)] [] (pf5 hlt hg h1 (hc M hM) h2) (lo' := []) (by kernel_rfl)⟩
    | false =>
      exact .inr ⟨(by first | simp only [Pcv, h1, h2, if_true, if_false, Bool.false_eq_true, Bool.not_true, Bool.not_false, reduceCtorEq, not_false_eq_true, not_true_eq_false] | simp only [Pcv, h1, if_true, if_false, Bool.false_eq_true, Bool.not_true, Bool.not_false, reduceCtorEq, not_false_eq_true, not_true_eq_false] | simp only [Pcv, if_true, if_false, Bool.false_eq_true, Bool.not_true, Bool.not_false, reduceCtorEq, not_false_eq_true, not_true_eq_false]), ⟨[(0, .ptr 0 0 0), (56, .sl false 6 vals), (57, nat n), (58, nat (j + 1))], [.var [.bs 2 0 k, nat (v + 1)], .dead, .row 10 acc, .var (Val.mk a1 a2 a3 a4 a5 a6).cells]⟩, by kernel_rfl, fun M hM => run_of [(59, .b true), (60, .e (Val.mk a1 a2 a3 a4 a5 a6).cells), (66, .b false), (68, .p (num c)), (70, .b false), (76, .i (Int.ofNat (v + 1))), (79, .i (Int.ofNat (j + 1)))] [] (pf7 hlt hg h1 (hc M hM) h2 (next_nat (j := v) (by omega)) (next_nat (j := j) (by omega))) (lo' := []) (by kernel_rfl)⟩
theorem yv_loop (vs : List Val) (k v : Nat) (acc : List (List X)) (f : Bool) (hok : ∀ x, x ∈ vs → x.ok) (hl : vs.length ≤ 60000) (hv : v ≤ 900000) {τ : St} (hτ : canon 2 τ = some (cvSt f (cellsL vs) (cellsL vs).length 0 k v acc)) :
    (¬ (∀ j (h : j < vs.length), Pcv (v + j) (chkV vs[j]) = true) ∧ ∃ r, BadCk r ∧ ∀ M, 120040 ≤ M → run (callF tab ext M) 2 M (.loop (loopAt 67 1)) τ = some (.ret, r)) ∨
    ((∀ j (h : j < vs.length), Pcv (v + j) (chkV vs[j]) = true) ∧ ∀ M, 120040 ≤ M → run (callF tab ext M) 2 M (.loop (loopAt 67 1)) τ = some (.exit 2, cvFin f (cellsL vs) (cellsL vs).length (cellsL vs).length k (v + (cellsL vs).length) acc)) := by
  have hn := cellsL_length vs
  have := scanX (P := fun j => ∀ h : j < vs.length, Pcv (v + j) (chkV vs[j]) = true) (nIn := 2) (B := 120040) (b := loopAt 67 1) (H := fun j => cvSt f (cellsL vs) (cellsL vs).length j k (v + j) acc) (τ := τ) (n := (cellsL vs).length) (e := .exit 2) (fin := cvFin f (cellsL vs) (cellsL vs).length (cellsL vs).length k (v + (cellsL vs).length) acc) BadCk hτ (fun j hj => by
      have hj' : j < vs.length := by omega
      have hg := cellsL_get hj'
      have hx := hok _ (List.getElem_mem hj')
      have hPj : (∀ h : j < vs.length, Pcv (v + j) (chkV vs[j]) = true) ↔ Pcv (v + j) (chkV vs[j]) = true := ⟨fun h => h hj', fun h _ => h⟩
      rw [hPj, show v + (j + 1) = v + j + 1 from rfl]
      cases f with
      | false => exact yv_round_false _ _ _ _ _ _ _ hx hj (by omega) (by omega) hg
      | true => exact yv_round_true _ _ _ _ _ _ _ hx hj (by omega) (by omega) hg)
    (fun M _ => by
      cases f with
      | false => exact run_of [(59, .b false)] [] (pf1 (nlt_nat (Nat.lt_irrefl (cellsL vs).length))) (lo' := []) (by kernel_rfl)
      | true => exact run_of [(59, .b false)] [] (pf1 (nlt_nat (Nat.lt_irrefl (cellsL vs).length))) (lo' := []) (by kernel_rfl)) (by simp)
  rcases this with ⟨hP, r, hr, h⟩ | ⟨hP, h⟩
  · exact .inl ⟨fun hh => hP fun j hj => hh j, r, hr, fun M hM => h M hM (by omega)⟩
  · exact .inr ⟨fun j hj => hP j (by omega) hj, fun M hM => h M hM (by omega)⟩
end Go.Proofs.YtjfheahakfoofaaGreatDoor

/- The check of a slot, exactly. -/
namespace Go.Proofs.YtjfheahakfoofaaGreatDoor
open Go.Em

/-- What the check of a slot asks, behind what was checked before. -/
def SlP (acc : List Msg) (k v : Nat) (s : Slt) : Prop :=
  chkN s.n s.t = 0 ∧ (∀ j (h : j < s.items.length), Pck (k + j) (chkM s.items[j]) (hasSt (acc ++ s.items.take j) s.items[j]) = true) ∧ (∀ j (h : j < s.vals.length), Pcv (v + j) (chkV s.vals[j]) = true)
theorem slot_ex (s : Slt) (hs : s.ok) (acc : List Msg) (k v : Nat) (hacc : ∀ o, o ∈ acc → o.ok) (hk : k = acc.length) (hl : acc.length + s.items.length ≤ 60000) (hv : v ≤ 900000) :
    (¬ SlP acc k v s ∧ ∃ (c : Int) (f : Bool) (k1 v1 : Nat) (acc1 : List (List X)), c ≠ 0 ∧ ∀ N, 120050 ≤ N → callF tab ext N (.fn 67) [.ptr 0 0 0, .agg s.cells] [.var [.bs 1 0 k, nat v], .row 10 (msgsC acc)] = some (num c, cvB f k1 v1 acc1)) ∨
    (SlP acc k v s ∧ ∀ N, 120050 ≤ N → callF tab ext N (.fn 67) [.ptr 0 0 0, .agg s.cells] [.var [.bs 1 0 k, nat v], .row 10 (msgsC acc)] = some (num 0, cvB (decide (0 < s.items.length)) (k + s.items.length) (v + (cellsL s.vals).length) (msgsC (acc ++ s.items)))) := by
  have hc0 := chkN_at s.n s.t
  have hit := hs.item
  have hval := hs.val
  have hvl := hs.vals
  obtain ⟨⟨k0, i0, s0, t0, l0, f0⟩, n0, d0, items, vals⟩ := s
  unfold SlP
  dsimp only at hc0 hit hval hvl hl ⊢
  generalize chkN n0 d0 = c0 at hc0 ⊢
  have hn := msgsC_length items
  cases h0 : (!(c0 == 0)) with
  | true =>
    left
    refine ⟨(fun h => by rw [h.1] at h0; cases h0), c0, false, k, v, msgsC acc, (by intro h; rw [h] at h0; cases h0), fun N hN => ?_⟩
    obtain ⟨M, rfl⟩ : ∃ M, N = M + 1 := ⟨N - 1, by omega⟩
    exact callF_of [(16, .p (num c0)), (18, .b true)] [] (pf2 (hc0 M (by omega)) h0) (by kernel_rfl)
  | false =>
    have hz0 : c0 = 0 := by simpa using h0
    have hA := xk_items k0 i0 s0 t0 (cellsL l0) (cellsF f0) n0 d0 items (cellsL vals) k v acc hit hacc hk hl
    have hB : ∀ f, canon 2 ⟨[(0, .ptr 0 0 0), (56, .sl false 6 (cellsL vals)), (57, nat (cellsL vals).length), (58, nat 0)], ckB f (k + items.length) v (msgsC (acc ++ items)) (slotC k0 i0 s0 t0 (cellsL l0) (cellsF f0) n0 d0 (msgsC items) (cellsL vals))⟩ = some (cvSt f (cellsL vals) (cellsL vals).length 0 (k + items.length) v (msgsC (acc ++ items))) := fun f => by
      cases f <;> kernel_rfl
    have hC := yv_loop vals (k + items.length) v (msgsC (acc ++ items)) (decide (0 < items.length)) hval hvl hv (hB _)
    generalize decide (0 < items.length) = f at hA hC
    rcases hA with ⟨hPA, r, hr, hA⟩ | ⟨hPA, hA⟩
    · cases hr with
      | a c k1 v1 acc1 x y h =>
        refine .inl ⟨fun hh => hPA hh.2.1, c, false, k1, v1, acc1, h, fun N hN => ?_⟩
        obtain ⟨M, rfl⟩ : ∃ M, N = M + 1 := ⟨N - 1, by omega⟩
        exact callF_of [(16, .p (num c0)), (18, .b false)] [(.ret, ⟨[(4, num c)], [.var [.bs 1 0 k1, nat v1], .row 10 acc1, x, y]⟩)] (pf3 (hc0 M (by omega)) h0 (hA M (by omega))) (by kernel_rfl)
      | b c k1 v1 acc1 x y h =>
        refine .inl ⟨fun hh => hPA hh.2.1, c, true, k1, v1, acc1, h, fun N hN => ?_⟩
        obtain ⟨M, rfl⟩ : ∃ M, N = M + 1 := ⟨N - 1, by omega⟩
        exact callF_of [(16, .p (num c0)), (18, .b false)] [(.ret, ⟨[(4, num c)], [.var [.bs 3 0 k1, nat v1], .dead, x, .row 10 acc1, y]⟩)] (pf3 (hc0 M (by omega)) h0 (hA M (by omega))) (by kernel_rfl)
      | c c k1 v1 acc1 x h =>
        refine .inl ⟨fun hh => hPA hh.2.1, c, false, k1, v1, acc1, h, fun N hN => ?_⟩
        obtain ⟨M, rfl⟩ : ∃ M, N = M + 1 := ⟨N - 1, by omega⟩
        exact callF_of [(16, .p (num c0)), (18, .b false)] [(.ret, ⟨[(4, num c)], [.var [.bs 1 0 k1, nat v1], .row 10 acc1, x]⟩)] (pf3 (hc0 M (by omega)) h0 (hA M (by omega))) (by kernel_rfl)
      | d c k1 v1 acc1 x h =>
        refine .inl ⟨fun hh => hPA hh.2.1, c, true, k1, v1, acc1, h, fun N hN => ?_⟩
        obtain ⟨M, rfl⟩ : ∃ M, N = M + 1 := ⟨N - 1, by omega⟩
        exact callF_of [(16, .p (num c0)), (18, .b false)] [(.ret, ⟨[(4, num c)], [.var [.bs 2 0 k1, nat v1], .dead, .row 10 acc1, x]⟩)] (pf3 (hc0 M (by omega)) h0 (hA M (by omega))) (by kernel_rfl)
    · rcases hC with ⟨hPC, r, hr, hC⟩ | ⟨hPC, hC⟩
      · cases hr with
        | a c k1 v1 acc1 x y h =>
          refine .inl ⟨fun hh => hPC hh.2.2, c, false, k1, v1, acc1, h, fun N hN => ?_⟩
          obtain ⟨M, rfl⟩ : ∃ M, N = M + 1 := ⟨N - 1, by omega⟩
          cases f with
          | false => exact callF_of [(16, .p (num c0)), (18, .b false)] [(.exit 0, ⟨[(0, .ptr 0 0 0), (3, .ptr 2 0 0), (21, .sl false 10 (msgsC items)), (22, nat (msgsC items).length), (23, nat (msgsC items).length), (24, boolX false)], ckB false (k + items.length) v (msgsC (acc ++ items)) (slotC k0 i0 s0 t0 (cellsL l0) (cellsF f0) n0 d0 (msgsC items) (cellsL vals))⟩), (.ret, ⟨[(4, num c)], [.var [.bs 1 0 k1, nat v1], .row 10 acc1, x, y]⟩)] (pf4 (hc0 M (by omega)) h0 (hA M (by omega)) (hC M (by omega))) (by kernel_rfl)
          | true => exact callF_of [(16, .p (num c0)), (18, .b false)] [(.exit 0, ⟨[(0, .ptr 0 0 0), (3, .ptr 2 0 0), (21, .sl false 10 (msgsC items)), (22, nat (msgsC items).length), (23, nat (msgsC items).length), (24, boolX false)], ckB true (k + items.length) v (msgsC (acc ++ items)) (slotC k0 i0 s0 t0 (cellsL l0) (cellsF f0) n0 d0 (msgsC items) (cellsL vals))⟩), (.ret, ⟨[(4, num c)], [.var [.bs 1 0 k1, nat v1], .row 10 acc1, x, y]⟩)] (pf4 (hc0 M (by omega)) h0 (hA M (by omega)) (hC M (by omega))) (by kernel_rfl)
        | b c k1 v1 acc1 x y h =>
          refine .inl ⟨fun hh => hPC hh.2.2, c, true, k1, v1, acc1, h, fun N hN => ?_⟩
          obtain ⟨M, rfl⟩ : ∃ M, N = M + 1 := ⟨N - 1, by omega⟩
          cases f with
          | false => exact callF_of [(16, .p (num c0)), (18, .b false)] [(.exit 0, ⟨[(0, .ptr 0 0 0), (3, .ptr 2 0 0), (21, .sl false 10 (msgsC items)), (22, nat (msgsC items).length), (23, nat (msgsC items).length), (24, boolX false)], ckB false (k + items.length) v (msgsC (acc ++ items)) (slotC k0 i0 s0 t0 (cellsL l0) (cellsF f0) n0 d0 (msgsC items) (cellsL vals))⟩), (.ret, ⟨[(4, num c)], [.var [.bs 3 0 k1, nat v1], .dead, x, .row 10 acc1, y]⟩)] (pf4 (hc0 M (by omega)) h0 (hA M (by omega)) (hC M (by omega))) (by kernel_rfl)
          | true => exact callF_of [(16, .p (num c0)), (18, .b false)] [(.exit 0, ⟨[(0, .ptr 0 0 0), (3, .ptr 2 0 0), (21, .sl false 10 (msgsC items)), (22, nat (msgsC items).length), (23, nat (msgsC items).length), (24, boolX false)], ckB true (k + items.length) v (msgsC (acc ++ items)) (slotC k0 i0 s0 t0 (cellsL l0) (cellsF f0) n0 d0 (msgsC items) (cellsL vals))⟩), (.ret, ⟨[(4, num c)], [.var [.bs 3 0 k1, nat v1], .dead, x, .row 10 acc1, y]⟩)] (pf4 (hc0 M (by omega)) h0 (hA M (by omega)) (hC M (by omega))) (by kernel_rfl)
        | c c k1 v1 acc1 x h =>
          refine .inl ⟨fun hh => hPC hh.2.2, c, false, k1, v1, acc1, h, fun N hN => ?_⟩
          obtain ⟨M, rfl⟩ : ∃ M, N = M + 1 := ⟨N - 1, by omega⟩
          cases f with
          | false => exact callF_of [(16, .p (num c0)), (18, .b false)] [(.exit 0, ⟨[(0, .ptr 0 0 0), (3, .ptr 2 0 0), (21, .sl false 10 (msgsC items)), (22, nat (msgsC items).length), (23, nat (msgsC items).length), (24, boolX false)], ckB false (k + items.length) v (msgsC (acc ++ items)) (slotC k0 i0 s0 t0 (cellsL l0) (cellsF f0) n0 d0 (msgsC items) (cellsL vals))⟩), (.ret, ⟨[(4, num c)], [.var [.bs 1 0 k1, nat v1], .row 10 acc1, x]⟩)] (pf4 (hc0 M (by omega)) h0 (hA M (by omega)) (hC M (by omega))) (by kernel_rfl)
          | true => exact callF_of [(16, .p (num c0)), (18, .b false)] [(.exit 0, ⟨[(0, .ptr 0 0 0), (3, .ptr 2 0 0), (21, .sl false 10 (msgsC items)), (22, nat (msgsC items).length), (23, nat (msgsC items).length), (24, boolX false)], ckB true (k + items.length) v (msgsC (acc ++ items)) (slotC k0 i0 s0 t0 (cellsL l0) (cellsF f0) n0 d0 (msgsC items) (cellsL vals))⟩), (.ret, ⟨[(4, num c)], [.var [.bs 1 0 k1, nat v1], .row 10 acc1, x]⟩)] (pf4 (hc0 M (by omega)) h0 (hA M (by omega)) (hC M (by omega))) (by kernel_rfl)
        | d c k1 v1 acc1 x h =>
          refine .inl ⟨fun hh => hPC hh.2.2, c, true, k1, v1, acc1, h, fun N hN => ?_⟩
          obtain ⟨M, rfl⟩ : ∃ M, N = M + 1 := ⟨N - 1, by omega⟩
          cases f with
          | false => exact callF_of [(16, .p (num c0)), (18, .b false)] [(.exit 0, ⟨[(0, .ptr 0 0 0), (3, .ptr 2 0 0), (21, .sl false 10 (msgsC items)), (22, nat (msgsC items).length), (23, nat (msgsC items).length), (24, boolX false)], ckB false (k + items.length) v (msgsC (acc ++ items)) (slotC k0 i0 s0 t0 (cellsL l0) (cellsF f0) n0 d0 (msgsC items) (cellsL vals))⟩), (.ret, ⟨[(4, num c)], [.var [.bs 2 0 k1, nat v1], .dead, .row 10 acc1, x]⟩)] (pf4 (hc0 M (by omega)) h0 (hA M (by omega)) (hC M (by omega))) (by kernel_rfl)
          | true => exact callF_of [(16, .p (num c0)), (18, .b false)] [(.exit 0, ⟨[(0, .ptr 0 0 0), (3, .ptr 2 0 0), (21, .sl false 10 (msgsC items)), (22, nat (msgsC items).length), (23, nat (msgsC items).length), (24, boolX false)], ckB true (k + items.length) v (msgsC (acc ++ items)) (slotC k0 i0 s0 t0 (cellsL l0) (cellsF f0) n0 d0 (msgsC items) (cellsL vals))⟩), (.ret, ⟨[(4, num c)], [.var [.bs 2 0 k1, nat v1], .dead, .row 10 acc1, x]⟩)] (pf4 (hc0 M (by omega)) h0 (hA M (by omega)) (hC M (by omega))) (by kernel_rfl)
      · refine .inr ⟨⟨hz0, hPA, hPC⟩, ?_⟩
        intro N hN
        obtain ⟨M, rfl⟩ : ∃ M, N = M + 1 := ⟨N - 1, by omega⟩
        cases f with
        | false => exact callF_of [(16, .p (num c0)), (18, .b false)] [(.exit 0, ⟨[(0, .ptr 0 0 0), (3, .ptr 2 0 0), (21, .sl false 10 (msgsC items)), (22, nat (msgsC items).length), (23, nat (msgsC items).length), (24, boolX false)], ckB false (k + items.length) v (msgsC (acc ++ items)) (slotC k0 i0 s0 t0 (cellsL l0) (cellsF f0) n0 d0 (msgsC items) (cellsL vals))⟩), (.exit 2, cvFin false (cellsL vals) (cellsL vals).length (cellsL vals).length (k + items.length) (v + (cellsL vals).length) (msgsC (acc ++ items)))] (pf4 (hc0 M (by omega)) h0 (hA M (by omega)) (hC M (by omega))) (by kernel_rfl)
        | true => exact callF_of [(16, .p (num c0)), (18, .b false)] [(.exit 0, ⟨[(0, .ptr 0 0 0), (3, .ptr 2 0 0), (21, .sl false 10 (msgsC items)), (22, nat (msgsC items).length), (23, nat (msgsC items).length), (24, boolX false)], ckB true (k + items.length) v (msgsC (acc ++ items)) (slotC k0 i0 s0 t0 (cellsL l0) (cellsF f0) n0 d0 (msgsC items) (cellsL vals))⟩), (.exit 2, cvFin true (cellsL vals) (cellsL vals).length (cellsL vals).length (k + items.length) (v + (cellsL vals).length) (msgsC (acc ++ items)))] (pf4 (hc0 M (by omega)) h0 (hA M (by omega)) (hC M (by omega))) (by kernel_rfl)
end Go.Proofs.YtjfheahakfoofaaGreatDoor

/- A round of the check of a state, exactly. -/
namespace Go.Proofs.YtjfheahakfoofaaGreatDoor
open Go.Em

/-- What a round asks: of the key (ce: the key's own check; z: it is null; cc: its order behind the key before it), and of the slot. -/
def PscB (ce : Int) (z : Bool) (cc : Int) (sp : Prop) : Prop :=
  (if !(ce == 0) then z else true) = true ∧ (if cc == 0 then false else if cc == -1 then false else true) = true ∧ sp
def RdP (acc : List Msg) (k v : Nat) (x : Slt) (cc : Int) : Prop := PscB (chkV x.key) (nullV x.key) cc (SlP acc k v x)
theorem X1a : ((1 : Int) == 0) = false := by decide
theorem X1b : ((1 : Int) == -1) = false := by decide
section
variable {ce cc : Int} {z : Bool} {sp : Prop}
theorem nS (h : ¬ sp) : ¬ PscB ce z cc sp := fun hh => h hh.2.2
theorem nK (h : (!(ce == 0)) = true) : ¬ PscB ce false cc sp := fun hh => by have := hh.1; rw [h] at this; cases this
theorem nE (h : (cc == 0) = true) : ¬ PscB ce z cc sp := fun hh => by have := hh.2.1; rw [h] at this; cases this
theorem nL (h : (cc == -1) = true) : ¬ PscB ce z cc sp := fun hh => by have := hh.2.1; rw [h] at this; split at this <;> cases this
theorem yA (h : (!(ce == 0)) = true) (h2 : (cc == 0) = false) (h3 : (cc == -1) = false) (hs : sp) : PscB ce true cc sp := ⟨by rw [h]; rfl, by rw [h2, h3]; rfl, hs⟩
theorem yB (h : (!(ce == 0)) = false) (h2 : (cc == 0) = false) (h3 : (cc == -1) = false) (hs : sp) : PscB ce z cc sp := ⟨by rw [h]; rfl, by rw [h2, h3]; rfl, hs⟩
end
/-- What a round of the check of a state comes to. -/
def XcRound (P : Prop) (slots : List (List X)) (n j k v : Nat) (acc acc' : List (List X)) (a b : Int) (k' v' : Nat) : Prop :=
  (¬ P ∧ ∃ r, (∃ (c : Int) (bx : List Bx), c ≠ 0 ∧ r = ⟨[(2, num c)], bx⟩) ∧ ∀ M, 190050 ≤ M → run (callF tab ext M) 0 M (loopAt 27 0) (scSt slots slots n j k v acc a b) = some (.ret, r)) ∨
  (P ∧ ∃ υ, canon 0 υ = some (scSt slots slots n (j + 1) k' v' acc' a b) ∧ ∀ M, 190050 ≤ M → run (callF tab ext M) 0 M (loopAt 27 0) (scSt slots slots n j k v acc a b) = some (.norm, υ))
theorem xc_round (slots : List (List X)) (n j k v : Nat) (acc : List Msg) (a b : Int) (x : Slt) (hx : x.ok) (hacc : ∀ o, o ∈ acc → o.ok) (hk : k = acc.length) (hl : acc.length + x.items.length ≤ 60000) (hv : v ≤ 900000) (hj : j < n) (hn : n ≤ 60000) (hg : slots[j]? = some x.cells)
    (cc0 : Int) (hcc0 : j = 0 → cc0 = 1) (hprev : ∀ i, j = i + 1 → ∃ p : Slt, p.ok ∧ slots[i]? = some p.cells ∧ cc0 = cmpV x.key p.key) :
    XcRound (RdP acc k v x cc0) slots n j k v (msgsC acc) (msgsC (acc ++ x.items)) a b (k + x.items.length) (v + (cellsL x.vals).length) := by
  have hce : ∀ M, 120040 ≤ M → _ := fun M hM => chkV_at hx.key M (by have := hx.key; unfold Val.ok at this; omega)
  have hz : ∀ N, 120040 ≤ N → Gam.pureD (callF tab ext N) 28 [.agg x.key.cells] = some (boolX (nullV x.key)) := fun N hN => null_at x.key N (by omega)
  have hcmp : ∀ (p : Slt) N, 190050 ≤ N → Gam.pureD (callF tab ext N) 66 [.agg x.key.cells, .agg p.key.cells] = some (num (cmpV x.key p.key)) := fun p N hN => cmp_val x.key.size N x.key p.key (Nat.le_refl _) (by have := hx.key; unfold Val.ok at this; omega) (by have := hx.key; unfold Val.ok at this; omega)
  have hs := slot_ex x hx acc k v hacc hk hl hv
  have hlt := lt_nat hj
  unfold RdP
  generalize chkV x.key = ce at hce ⊢
  generalize SlP acc k v x = sp at hs ⊢
  generalize nullV x.key = z at hz ⊢
  obtain ⟨⟨k0, i0, s0, t0, l0, f0⟩, n0, d0, items, vals⟩ := x
  dsimp only at hce hz hcmp hs hl ⊢
  unfold XcRound
  cases j with
  | zero =>
    have hc1 := hcc0 rfl
    subst hc1
    cases h1 : (!(ce == 0)) with
    | true =>
      cases z with
      | true =>
        rcases hs with ⟨hsp, c, f, k1, v1, acc1, hc, hs⟩ | ⟨hsp, hs⟩
        · have hne := ne_true hc
          cases f with
          | false => exact .inl ⟨(by first | exact nS hsp | exact nK h1 | exact nE h2 | exact nE h4 | exact nL h3 | exact nL h5), ⟨[(2, num c)], [.var [num a, num b, .sl false 10 slots], .var [.bs 2 0 k1, nat v1], .row 10 acc1, .var (slotC k0 i0 s0 t0 (cellsL l0) (cellsF f0) n0 d0 (msgsC items) (cellsL vals))]⟩, ⟨_, _, (by first | exact hc | decide | (intro h0; rw [h0] at h1; cases h1)), rfl⟩, fun M hM => run_of [(25, .b true), (27, .e (slotC k0 i0 s0 t0 (cellsL l0) (cellsF f0) n0 d0 (msgsC items) (cellsL vals))), (31, .p (num ce)), (33, .b true), (37, .p (boolX true)), (42, .b false), (58, .r (num c) (cvB false k1 v1 acc1)), (60, .b true)] [] (pf8 hlt hg (hce M (by omega)) h1 (hz M (by omega)) zero_nat (hs M (by omega)) hne) (lo' := []) (by kernel_rfl)⟩
          | true => exact .inl ⟨(by first | exact nS hsp | exact nK h1 | exact nE h2 | exact nE h4 | exact nL h3 | exact nL h5), ⟨[(2, num c)], [.var [num a, num b, .sl false 10 slots], .var [.bs 4 0 k1, nat v1], .dead, .var (slotC k0 i0 s0 t0 (cellsL l0) (cellsF f0) n0 d0 (msgsC items) (cellsL vals)), .row 10 acc1]⟩, ⟨_, _, (by first | exact hc | decide | (intro h0; rw [h0] at h1; cases h1)), rfl⟩, fun M hM => run_of [(25, .b true), (27, .e (slotC k0 i0 s0 t0 (cellsL l0) (cellsF f0) n0 d0 (msgsC items) (cellsL vals))), (31, .p (num ce)), (33, .b true), (37, .p (boolX true)), (42, .b false), (58, .r (num c) (cvB true k1 v1 acc1)), (60, .b true)] [] (pf8 hlt hg (hce M (by omega)) h1 (hz M (by omega)) zero_nat (hs M (by omega)) hne) (lo' := []) (by kernel_rfl)⟩
        · generalize hf : decide (0 < items.length) = f at hs
          cases f with
          | false =>
            exact .inr ⟨(by first | exact yA h1 h2 h3 hsp | exact yB h1 h4 h5 hsp | exact yA h1 X1a X1b hsp | exact yB h1 X1a X1b hsp), ⟨[(1, .ptr 0 0 0), (4, .ptr 1 0 0), (22, .sl false 10 slots), (23, nat n), (24, nat (0 + 1))], [.var [num a, num b, .sl false 10 slots], .var [.bs 2 0 (k + items.length), nat (v + (cellsL vals).length)], .row 10 (msgsC (acc ++ items)), .var (slotC k0 i0 s0 t0 (cellsL l0) (cellsF f0) n0 d0 (msgsC items) (cellsL vals))]⟩, by kernel_rfl, fun M hM => run_of [(25, .b true), (27, .e (slotC k0 i0 s0 t0 (cellsL l0) (cellsF f0) n0 d0 (msgsC items) (cellsL vals))), (31, .p (num ce)), (33, .b true), (37, .p (boolX true)), (42, .b false), (58, .r (num 0) (cvB false (k + items.length) (v + (cellsL vals).length) (msgsC (acc ++ items)))), (62, .i (Int.ofNat (0 + 1)))] [] (pf8 hlt hg (hce M (by omega)) h1 (hz M (by omega)) zero_nat (hs M (by omega)) (next_nat (j := 0) (by omega))) (lo' := []) (by kernel_rfl)⟩
          | true =>
            exact .inr ⟨(by first | exact yA h1 h2 h3 hsp | exact yB h1 h4 h5 hsp | exact yA h1 X1a X1b hsp | exact yB h1 X1a X1b hsp), ⟨[(1, .ptr 0 0 0), (4, .ptr 1 0 0), (22, .sl false 10 slots), (23, nat n), (24, nat (0 + 1))], [.var [num a, num b, .sl false 10 slots], .var [.bs 4 0 (k + items.length), nat (v + (cellsL vals).length)], .dead, .var (slotC k0 i0 s0 t0 (cellsL l0) (cellsF f0) n0 d0 (msgsC items) (cellsL vals)), .row 10 (msgsC (acc ++ items))]⟩, by kernel_rfl, fun M hM => run_of [(25, .b true), (27, .e (slotC k0 i0 s0 t0 (cellsL l0) (cellsF f0) n0 d0 (msgsC items) (cellsL vals))), (31, .p (num ce)), (33, .b true), (37, .p (boolX true)), (42, .b false), (58, .r (num 0) (cvB true (k + items.length) (v + (cellsL vals).length) (msgsC (acc ++ items)))), (62, .i (Int.ofNat (0 + 1)))] [] (pf8 hlt hg (hce M (by omega)) h1 (hz M (by omega)) zero_nat (hs M (by omega)) (next_nat (j := 0) (by omega))) (lo' := []) (by kernel_rfl)⟩
      | false =>
        exact .inl ⟨(by first | exact nS hsp | exact nK h1 | exact nE h2 | exact nE h4 | exact nL h3 | exact nL h5), ⟨[(2, num ce)], [.var [num a, num b, .sl false 10 slots], .var [.bs 2 0 k, nat v], .row 10 (msgsC acc), .var (slotC k0 i0 s0 t0 (cellsL l0) (cellsF f0) n0 d0 (msgsC items) (cellsL vals))]⟩, ⟨_, _, (by first | exact hc | decide | (intro h0; rw [h0] at h1; cases h1)), rfl⟩, fun M hM => run_of [(25, .b true), (27, .e (slotC k0 i0 s0 t0 (cellsL l0) (cellsF f0) n0 d0 (msgsC items) (cellsL vals))), (31, .p (num ce)), (33, .b true), (37, .p (boolX false))] [] (pf5 hlt hg (hce M (by omega)) h1 (hz M (by omega))) (lo' := []) (by kernel_rfl)⟩
    | false =>
      rcases hs with ⟨hsp, c, f, k1, v1, acc1, hc, hs⟩ | ⟨hsp, hs⟩
      · have hne := ne_true hc
        cases f with
        | false => exact .inl ⟨(by first | exact nS hsp | exact nK h1 | exact nE h2 | exact nE h4 | exact nL h3 | exact nL h5), ⟨[(2, num c)], [.var [num a, num b, .sl false 10 slots], .var [.bs 2 0 k1, nat v1], .row 10 acc1, .var (slotC k0 i0 s0 t0 (cellsL l0) (cellsF f0) n0 d0 (msgsC items) (cellsL vals))]⟩, ⟨_, _, (by first | exact hc | decide | (intro h0; rw [h0] at h1; cases h1)), rfl⟩, fun M hM => run_of [(25, .b true), (27, .e (slotC k0 i0 s0 t0 (cellsL l0) (cellsF f0) n0 d0 (msgsC items) (cellsL vals))), (31, .p (num ce)), (33, .b false), (42, .b false), (58, .r (num c) (cvB false k1 v1 acc1)), (60, .b true)] [] (pf7 hlt hg (hce M (by omega)) h1 zero_nat (hs M (by omega)) hne) (lo' := []) (by kernel_rfl)⟩
        | true => exact .inl ⟨(by first | exact nS hsp | exact nK h1 | exact nE h2 | exact nE h4 | exact nL h3 | exact nL h5), ⟨[(2, num c)], [.var [num a, num b, .sl false 10 slots], .var [.bs 4 0 k1, nat v1], .dead, .var (slotC k0 i0 s0 t0 (cellsL l0) (cellsF f0) n0 d0 (msgsC items) (cellsL vals)), .row 10 acc1]⟩, ⟨_, _, (by first | exact hc | decide | (intro h0; rw [h0] at h1; cases h1)), rfl⟩, fun M hM => run_of [(25, .b true), (27, .e (slotC k0 i0 s0 t0 (cellsL l0) (cellsF f0) n0 d0 (msgsC items) (cellsL vals))), (31, .p (num ce)), (33, .b false), (42, .b false), (58, .r (num c) (cvB true k1 v1 acc1)), (60, .b true)] [] (pf7 hlt hg (hce M (by omega)) h1 zero_nat (hs M (by omega)) hne) (lo' := []) (by kernel_rfl)⟩
      · generalize hf : decide (0 < items.length) = f at hs
        cases f with
        | false =>
          exact .inr ⟨(by first | exact yA h1 h2 h3 hsp | exact yB h1 h4 h5 hsp | exact yA h1 X1a X1b hsp | exact yB h1 X1a X1b hsp), ⟨[(1, .ptr 0 0 0), (4, .ptr 1 0 0), (22, .sl false 10 slots), (23, nat n), (24, nat (0 + 1))], [.var [num a, num b, .sl false 10 slots], .var [.bs 2 0 (k + items.length), nat (v + (cellsL vals).length)], .row 10 (msgsC (acc ++ items)), .var (slotC k0 i0 s0 t0 (cellsL l0) (cellsF f0) n0 d0 (msgsC items) (cellsL vals))]⟩, by kernel_rfl, fun M hM => run_of [(25, .b true), (27, .e (slotC k0 i0 s0 t0 (cellsL l0) (cellsF f0) n0 d0 (msgsC items) (cellsL vals))), (31, .p (num ce)), (33, .b false), (42, .b false), (58, .r (num 0) (cvB false (k + items.length) (v + (cellsL vals).length) (msgsC (acc ++ items)))), (62, .i (Int.ofNat (0 + 1)))] [] (pf7 hlt hg (hce M (by omega)) h1 zero_nat (hs M (by omega)) (next_nat (j := 0) (by omega))) (lo' := []) (by kernel_rfl)⟩
        | true =>
          exact .inr ⟨(by first | exact yA h1 h2 h3 hsp | exact yB h1 h4 h5 hsp | exact yA h1 X1a X1b hsp | exact yB h1 X1a X1b hsp), ⟨[(1, .ptr 0 0 0), (4, .ptr 1 0 0), (22, .sl false 10 slots), (23, nat n), (24, nat (0 + 1))], [.var [num a, num b, .sl false 10 slots], .var [.bs 4 0 (k + items.length), nat (v + (cellsL vals).length)], .dead, .var (slotC k0 i0 s0 t0 (cellsL l0) (cellsF f0) n0 d0 (msgsC items) (cellsL vals)), .row 10 (msgsC (acc ++ items))]⟩, by kernel_rfl, fun M hM => run_of [(25, .b true), (27, .e (slotC k0 i0 s0 t0 (cellsL l0) (cellsF f0) n0 d0 (msgsC items) (cellsL vals))), (31, .p (num ce)), (33, .b false), (42, .b false), (58, .r (num 0) (cvB true (k + items.length) (v + (cellsL vals).length) (msgsC (acc ++ items)))), (62, .i (Int.ofNat (0 + 1)))] [] (pf7 hlt hg (hce M (by omega)) h1 zero_nat (hs M (by omega)) (next_nat (j := 0) (by omega))) (lo' := []) (by kernel_rfl)⟩
  | succ j =>
    obtain ⟨p, hpo, hp, hc1⟩ := hprev j rfl
    have hc1 := hc1.symm
    have hcc := hcmp p
    generalize cmpV (Val.mk k0 i0 s0 t0 l0 f0) p.key = cc at hcc hc1
    subst hc1
    obtain ⟨⟨p0, p1, p2, p3, p4, p5⟩, p6, p7, p8, p9⟩ := p
    cases h1 : (!(ce == 0)) with
    | true =>
      cases z with
      | true =>
        cases h2 : (cc == 0) with
        | true =>
          exact .inl ⟨(by first | exact nS hsp | exact nK h1 | exact nE h2 | exact nE h4 | exact nL h3 | exact nL h5), ⟨[(2, num 7)], [.var [num a, num b, .sl false 10 slots], .var [.bs 2 0 k, nat v], .row 10 (msgsC acc), .var (slotC k0 i0 s0 t0 (cellsL l0) (cellsF f0) n0 d0 (msgsC items) (cellsL vals))]⟩, ⟨_, _, (by first | exact hc | decide | (intro h0; rw [h0] at h1; cases h1)), rfl⟩, fun M hM => run_of [(25, .b true), (27, .e (slotC k0 i0 s0 t0 (cellsL l0) (cellsF f0) n0 d0 (msgsC items) (cellsL vals))), (31, .p (num ce)), (33, .b true), (37, .p (boolX true)), (42, .b true), (48, .i (Int.ofNat j)), (49, .e (slotC p0 p1 p2 p3 (cellsL p4) (cellsF p5) p6 p7 (msgsC p8) (cellsL p9))), (52, .p (num cc)), (54, .b true)] [] (pf10 hlt hg (hce M (by omega)) h1 (hz M (by omega)) (pos_nat (j := j)) (pred_nat (j := j) (by omega)) hp (hcc M hM) h2) (lo' := []) (by kernel_rfl)⟩
        | false =>
          cases h3 : (cc == -1) with
          | true =>
            exact .inl ⟨(by first | exact nS hsp | exact nK h1 | exact nE h2 | exact nE h4 | exact nL h3 | exact nL h5), ⟨[(2, num 24)], [.var [num a, num b, .sl false 10 slots], .var [.bs 2 0 k, nat v], .row 10 (msgsC acc), .var (slotC k0 i0 s0 t0 (cellsL l0) (cellsF f0) n0 d0 (msgsC items) (cellsL vals))]⟩, ⟨_, _, (by first | exact hc | decide | (intro h0; rw [h0] at h1; cases h1)), rfl⟩, fun M hM => run_of [(25, .b true), (27, .e (slotC k0 i0 s0 t0 (cellsL l0) (cellsF f0) n0 d0 (msgsC items) (cellsL vals))), (31, .p (num ce)), (33, .b true), (37, .p (boolX true)), (42, .b true), (48, .i (Int.ofNat j)), (49, .e (slotC p0 p1 p2 p3 (cellsL p4) (cellsF p5) p6 p7 (msgsC p8) (cellsL p9))), (52, .p (num cc)), (54, .b false), (56, .b true)] [] (pf11 hlt hg (hce M (by omega)) h1 (hz M (by omega)) (pos_nat (j := j)) (pred_nat (j := j) (by omega)) hp (hcc M hM) h2 h3) (lo' := []) (by kernel_rfl)⟩
          | false =>
            rcases hs with ⟨hsp, c, f, k1, v1, acc1, hc, hs⟩ | ⟨hsp, hs⟩
            · have hne := ne_true hc
              cases f with
              | false => exact .inl ⟨(by first | exact nS hsp | exact nK h1 | exact nE h2 | exact nE h4 | exact nL h3 | exact nL h5), ⟨[(2, num c)], [.var [num a, num b, .sl false 10 slots], .var [.bs 2 0 k1, nat v1], .row 10 acc1, .var (slotC k0 i0 s0 t0 (cellsL l0) (cellsF f0) n0 d0 (msgsC items) (cellsL vals))]⟩, ⟨_, _, (by first | exact hc | decide | (intro h0; rw [h0] at h1; cases h1)), rfl⟩, fun M hM => run_of [(25, .b true), (27, .e (slotC k0 i0 s0 t0 (cellsL l0) (cellsF f0) n0 d0 (msgsC items) (cellsL vals))), (31, .p (num ce)), (33, .b true), (37, .p (boolX true)), (42, .b true), (48, .i (Int.ofNat j)), (49, .e (slotC p0 p1 p2 p3 (cellsL p4) (cellsF p5) p6 p7 (msgsC p8) (cellsL p9))), (52, .p (num cc)), (54, .b false), (56, .b false), (58, .r (num c) (cvB false k1 v1 acc1)), (60, .b true)] [] (pf13 hlt hg (hce M (by omega)) h1 (hz M (by omega)) (pos_nat (j := j)) (pred_nat (j := j) (by omega)) hp (hcc M hM) h2 h3 (hs M (by omega)) hne) (lo' := []) (by kernel_rfl)⟩
              | true => exact .inl ⟨(by first | exact nS hsp | exact nK h1 | exact nE h2 | exact nE h4 | exact nL h3 | exact nL h5), ⟨[(2, num c)], [.var [num a, num b, .sl false 10 slots], .var [.bs 4 0 k1, nat v1], .dead, .var (slotC k0 i0 s0 t0 (cellsL l0) (cellsF f0) n0 d0 (msgsC items) (cellsL vals)), .row 10 acc1]⟩, ⟨_, _, (by first | exact hc | decide | (intro h0; rw [h0] at h1; cases h1)), rfl⟩, fun M hM => run_of [(25, .b true), (27, .e (slotC k0 i0 s0 t0 (cellsL l0) (cellsF f0) n0 d0 (msgsC items) (cellsL vals))), (31, .p (num ce)), (33, .b true), (37, .p (boolX true)), (42, .b true), (48, .i (Int.ofNat j)), (49, .e (slotC p0 p1 p2 p3 (cellsL p4) (cellsF p5) p6 p7 (msgsC p8) (cellsL p9))), (52, .p (num cc)), (54, .b false), (56, .b false), (58, .r (num c) (cvB true k1 v1 acc1)), (60, .b true)] [] (pf13 hlt hg (hce M (by omega)) h1 (hz M (by omega)) (pos_nat (j := j)) (pred_nat (j := j) (by omega)) hp (hcc M hM) h2 h3 (hs M (by omega)) hne) (lo' := []) (by kernel_rfl)⟩
            · generalize hf : decide (0 < items.length) = f at hs
              cases f with
              | false =>
                exact .inr ⟨(by first | exact yA h1 h2 h3 hsp | exact yB h1 h4 h5 hsp | exact yA h1 X1a X1b hsp | exact yB h1 X1a X1b hsp), ⟨[(1, .ptr 0 0 0), (4, .ptr 1 0 0), (22, .sl false 10 slots), (23, nat n), (24, nat ((j + 1) + 1))], [.var [num a, num b, .sl false 10 slots], .var [.bs 2 0 (k + items.length), nat (v + (cellsL vals).length)], .row 10 (msgsC (acc ++ items)), .var (slotC k0 i0 s0 t0 (cellsL l0) (cellsF f0) n0 d0 (msgsC items) (cellsL vals))]⟩, by kernel_rfl, fun M hM => run_of [(25, .b true), (27, .e (slotC k0 i0 s0 t0 (cellsL l0) (cellsF f0) n0 d0 (msgsC items) (cellsL vals))), (31, .p (num ce)), (33, .b true), (37, .p (boolX true)), (42, .b true), (48, .i (Int.ofNat j)), (49, .e (slotC p0 p1 p2 p3 (cellsL p4) (cellsF p5) p6 p7 (msgsC p8) (cellsL p9))), (52, .p (num cc)), (54, .b false), (56, .b false), (58, .r (num 0) (cvB false (k + items.length) (v + (cellsL vals).length) (msgsC (acc ++ items)))), (62, .i (Int.ofNat ((j + 1) + 1)))] [] (pf13 hlt hg (hce M (by omega)) h1 (hz M (by omega)) (pos_nat (j := j)) (pred_nat (j := j) (by omega)) hp (hcc M hM) h2 h3 (hs M (by omega)) (next_nat (j := (j + 1)) (by omega))) (lo' := []) (by kernel_rfl)⟩
              | true =>
                exact .inr ⟨(by first | exact yA h1 h2 h3 hsp | exact yB h1 h4 h5 hsp | exact yA h1 X1a X1b hsp | exact yB h1 X1a X1b hsp), ⟨[(1, .ptr 0 0 0), (4, .ptr 1 0 0), (22, .sl false 10 slots), (23, nat n), (24, nat ((j + 1) + 1))], [.var [num a, num b, .sl false 10 slots], .var [.bs 4 0 (k + items.length), nat (v + (cellsL vals).length)], .dead, .var (slotC k0 i0 s0 t0 (cellsL l0) (cellsF f0) n0 d0 (msgsC items) (cellsL vals)), .row 10 (msgsC (acc ++ items))]⟩, by kernel_rfl, fun M hM => run_of [(25, .b true), (27, .e (slotC k0 i0 s0 t0 (cellsL l0) (cellsF f0) n0 d0 (msgsC items) (cellsL vals))), (31, .p (num ce)), (33, .b true), (37, .p (boolX true)), (42, .b true), (48, .i (Int.ofNat j)), (49, .e (slotC p0 p1 p2 p3 (cellsL p4) (cellsF p5) p6 p7 (msgsC p8) (cellsL p9))), (52, .p (num cc)), (54, .b false), (56, .b false), (58, .r (num 0) (cvB true (k + items.length) (v + (cellsL vals).length) (msgsC (acc ++ items)))), (62, .i (Int.ofNat ((j + 1) + 1)))] [] (pf13 hlt hg (hce M (by omega)) h1 (hz M (by omega)) (pos_nat (j := j)) (pred_nat (j := j) (by omega)) hp (hcc M hM) h2 h3 (hs M (by omega)) (next_nat (j := (j + 1)) (by omega))) (lo' := []) (by kernel_rfl)⟩
      | false =>
        exact .inl ⟨(by first | exact nS hsp | exact nK h1 | exact nE h2 | exact nE h4 | exact nL h3 | exact nL h5), ⟨[(2, num ce)], [.var [num a, num b, .sl false 10 slots], .var [.bs 2 0 k, nat v], .row 10 (msgsC acc), .var (slotC k0 i0 s0 t0 (cellsL l0) (cellsF f0) n0 d0 (msgsC items) (cellsL vals))]⟩, ⟨_, _, (by first | exact hc | decide | (intro h0; rw [h0] at h1; cases h1)), rfl⟩, fun M hM => run_of [(25, .b true), (27, .e (slotC k0 i0 s0 t0 (cellsL l0) (cellsF f0) n0 d0 (msgsC items) (cellsL vals))), (31, .p (num ce)), (33, .b true), (37, .p (boolX false))] [] (pf5 hlt hg (hce M (by omega)) h1 (hz M (by omega))) (lo' := []) (by kernel_rfl)⟩
    | false =>
      cases h4 : (cc == 0) with
      | true =>
        exact .inl ⟨(by first | exact nS hsp | exact nK h1 | exact nE h2 | exact nE h4 | exact nL h3 | exact nL h5), ⟨[(2, num 7)], [.var [num a, num b, .sl false 10 slots], .var [.bs 2 0 k, nat v], .row 10 (msgsC acc), .var (slotC k0 i0 s0 t0 (cellsL l0) (cellsF f0) n0 d0 (msgsC items) (cellsL vals))]⟩, ⟨_, _, (by first | exact hc | decide | (intro h0; rw [h0] at h1; cases h1)), rfl⟩, fun M hM => run_of [(25, .b true), (27, .e (slotC k0 i0 s0 t0 (cellsL l0) (cellsF f0) n0 d0 (msgsC items) (cellsL vals))), (31, .p (num ce)), (33, .b false), (42, .b true), (48, .i (Int.ofNat j)), (49, .e (slotC p0 p1 p2 p3 (cellsL p4) (cellsF p5) p6 p7 (msgsC p8) (cellsL p9))), (52, .p (num cc)), (54, .b true)] [] (pf9 hlt hg (hce M (by omega)) h1 (pos_nat (j := j)) (pred_nat (j := j) (by omega)) hp (hcc M hM) h4) (lo' := []) (by kernel_rfl)⟩
      | false =>
        cases h5 : (cc == -1) with
        | true =>
          exact .inl ⟨(by first | exact nS hsp | exact nK h1 | exact nE h2 | exact nE h4 | exact nL h3 | exact nL h5), ⟨[(2, num 24)], [.var [num a, num b, .sl false 10 slots], .var [.bs 2 0 k, nat v], .row 10 (msgsC acc), .var (slotC k0 i0 s0 t0 (cellsL l0) (cellsF f0) n0 d0 (msgsC items) (cellsL vals))]⟩, ⟨_, _, (by first | exact hc | decide | (intro h0; rw [h0] at h1; cases h1)), rfl⟩, fun M hM => run_of [(25, .b true), (27, .e (slotC k0 i0 s0 t0 (cellsL l0) (cellsF f0) n0 d0 (msgsC items) (cellsL vals))), (31, .p (num ce)), (33, .b false), (42, .b true), (48, .i (Int.ofNat j)), (49, .e (slotC p0 p1 p2 p3 (cellsL p4) (cellsF p5) p6 p7 (msgsC p8) (cellsL p9))), (52, .p (num cc)), (54, .b false), (56, .b true)] [] (pf10 hlt hg (hce M (by omega)) h1 (pos_nat (j := j)) (pred_nat (j := j) (by omega)) hp (hcc M hM) h4 h5) (lo' := []) (by kernel_rfl)⟩
        | false =>
          rcases hs with ⟨hsp, c, f, k1, v1, acc1, hc, hs⟩ | ⟨hsp, hs⟩
          · have hne := ne_true hc
            cases f with
            | false => exact .inl ⟨(by first | exact nS hsp | exact nK h1 | exact nE h2 | exact nE h4 | exact nL h3 | exact nL h5), ⟨[(2, num c)], [.var [num a, num b, .sl false 10 slots], .var [.bs 2 0 k1, nat v1], .row 10 acc1, .var (slotC k0 i0 s0 t0 (cellsL l0) (cellsF f0) n0 d0 (msgsC items) (cellsL vals))]⟩, ⟨_, _, (by first | exact hc | decide | (intro h0; rw [h0] at h1; cases h1)), rfl⟩, fun M hM => run_of [(25, .b true), (27, .e (slotC k0 i0 s0 t0 (cellsL l0) (cellsF f0) n0 d0 (msgsC items) (cellsL vals))), (31, .p (num ce)), (33, .b false), (42, .b true), (48, .i (Int.ofNat j)), (49, .e (slotC p0 p1 p2 p3 (cellsL p4) (cellsF p5) p6 p7 (msgsC p8) (cellsL p9))), (52, .p (num cc)), (54, .b false), (56, .b false), (58, .r (num c) (cvB false k1 v1 acc1)), (60, .b true)] [] (pf12 hlt hg (hce M (by omega)) h1 (pos_nat (j := j)) (pred_nat (j := j) (by omega)) hp (hcc M hM) h4 h5 (hs M (by omega)) hne) (lo' := []) (by kernel_rfl)⟩
            | true => exact .inl ⟨(by first | exact nS hsp | exact nK h1 | exact nE h2 | exact nE h4 | exact nL h3 | exact nL h5), ⟨[(2, num c)], [.var [num a, num b, .sl false 10 slots], .var [.bs 4 0 k1, nat v1], .dead, .var (slotC k0 i0 s0 t0 (cellsL l0) (cellsF f0) n0 d0 (msgsC items) (cellsL vals)), .row 10 acc1]⟩, ⟨_, _, (by first | exact hc | decide | (intro h0; rw [h0] at h1; cases h1)), rfl⟩, fun M hM => run_of [(25, .b true), (27, .e (slotC k0 i0 s0 t0 (cellsL l0) (cellsF f0) n0 d0 (msgsC items) (cellsL vals))), (31, .p (num ce)), (33, .b false), (42, .b true), (48, .i (Int.ofNat j)), (49, .e (slotC p0 p1 p2 p3 (cellsL p4) (cellsF p5) p6 p7 (msgsC p8) (cellsL p9))), (52, .p (num cc)), (54, .b false), (56, .b false), (58, .r (num c) (cvB true k1 v1 acc1)), (60, .b true)] [] (pf12 hlt hg (hce M (by omega)) h1 (pos_nat (j := j)) (pred_nat (j := j) (by omega)) hp (hcc M hM) h4 h5 (hs M (by omega)) hne) (lo' := []) (by kernel_rfl)⟩
          · generalize hf : decide (0 < items.length) = f at hs
            cases f with
            | false =>
              exact .inr ⟨(by first | exact yA h1 h2 h3 hsp | exact yB h1 h4 h5 hsp | exact yA h1 X1a X1b hsp | exact yB h1 X1a X1b hsp), ⟨[(1, .ptr 0 0 0), (4, .ptr 1 0 0), (22, .sl false 10 slots), (23, nat n), (24, nat ((j + 1) + 1))], [.var [num a, num b, .sl false 10 slots], .var [.bs 2 0 (k + items.length), nat (v + (cellsL vals).length)], .row 10 (msgsC (acc ++ items)), .var (slotC k0 i0 s0 t0 (cellsL l0) (cellsF f0) n0 d0 (msgsC items) (cellsL vals))]⟩, by kernel_rfl, fun M hM => run_of [(25, .b true), (27, .e (slotC k0 i0 s0 t0 (cellsL l0) (cellsF f0) n0 d0 (msgsC items) (cellsL vals))), (31, .p (num ce)), (33, .b false), (42, .b true), (48, .i (Int.ofNat j)), (49, .e (slotC p0 p1 p2 p3 (cellsL p4) (cellsF p5) p6 p7 (msgsC p8) (cellsL p9))), (52, .p (num cc)), (54, .b false), (56, .b false), (58, .r (num 0) (cvB false (k + items.length) (v + (cellsL vals).length) (msgsC (acc ++ items)))), (62, .i (Int.ofNat ((j + 1) + 1)))] [] (pf12 hlt hg (hce M (by omega)) h1 (pos_nat (j := j)) (pred_nat (j := j) (by omega)) hp (hcc M hM) h4 h5 (hs M (by omega)) (next_nat (j := (j + 1)) (by omega))) (lo' := []) (by kernel_rfl)⟩
            | true =>
              exact .inr ⟨(by first | exact yA h1 h2 h3 hsp | exact yB h1 h4 h5 hsp | exact yA h1 X1a X1b hsp | exact yB h1 X1a X1b hsp), ⟨[(1, .ptr 0 0 0), (4, .ptr 1 0 0), (22, .sl false 10 slots), (23, nat n), (24, nat ((j + 1) + 1))], [.var [num a, num b, .sl false 10 slots], .var [.bs 4 0 (k + items.length), nat (v + (cellsL vals).length)], .dead, .var (slotC k0 i0 s0 t0 (cellsL l0) (cellsF f0) n0 d0 (msgsC items) (cellsL vals)), .row 10 (msgsC (acc ++ items))]⟩, by kernel_rfl, fun M hM => run_of [(25, .b true), (27, .e (slotC k0 i0 s0 t0 (cellsL l0) (cellsF f0) n0 d0 (msgsC items) (cellsL vals))), (31, .p (num ce)), (33, .b false), (42, .b true), (48, .i (Int.ofNat j)), (49, .e (slotC p0 p1 p2 p3 (cellsL p4) (cellsF p5) p6 p7 (msgsC p8) (cellsL p9))), (52, .p (num cc)), (54, .b false), (56, .b false), (58, .r (num 0) (cvB true (k + items.length) (v + (cellsL vals).length) (msgsC (acc ++ items)))), (62, .i (Int.ofNat ((j + 1) + 1)))] [] (pf12 hlt hg (hce M (by omega)) h1 (pos_nat (j := j)) (pred_nat (j := j) (by omega)) hp (hcc M hM) h4 h5 (hs M (by omega)) (next_nat (j := (j + 1)) (by omega))) (lo' := []) (by kernel_rfl)⟩
end Go.Proofs.YtjfheahakfoofaaGreatDoor

/- The check of a state, exactly. -/
namespace Go.Proofs.YtjfheahakfoofaaGreatDoor
open Go.Em

/-- The order of a key behind the key before it. -/
def ccAt (ss : List Slt) (j : Nat) : Int := if j = 0 then 1 else match ss[j]?, ss[j - 1]? with
  | some x, some p => cmpV x.key p.key
  | _, _ => 1
/-- What the check of a state asks. -/
def StP (s : Stt) : Prop := chkN s.n s.t = 0 ∧ ∀ j (h : j < s.slots.length), RdP (accOf (s.slots.take j)) (accOf (s.slots.take j)).length (valsOf (s.slots.take j)) s.slots[j] (ccAt s.slots j)
theorem state_ex (s : Stt) (hs : s.small) : ∃ c : Int, (c = 0 ↔ StP s) ∧ ∀ N, 190060 ≤ N → Gam.pureD (callF tab ext N) 27 [.agg s.cells] = some (num c) := by
  have hc0 := chkN_at s.n s.t
  have hl := hs.slots
  have hx := hs.slot
  obtain ⟨a, b, ss⟩ := s
  unfold StP
  dsimp only at hc0 hl hx ⊢
  generalize chkN a b = c0 at hc0 ⊢
  have hn := sltsC_length ss
  have hloop := scanX (nIn := 0) (P := fun j => ∀ h : j < ss.length, RdP (accOf (ss.take j)) (accOf (ss.take j)).length (valsOf (ss.take j)) ss[j] (ccAt ss j)) (B := 190050) (b := loopAt 27 0) (H := fun j => scSt (sltsC ss) (sltsC ss) (sltsC ss).length j (accOf (ss.take j)).length (valsOf (ss.take j)) (msgsC (accOf (ss.take j))) a b)
    (τ := ⟨[(1, .ptr 0 0 0), (4, .ptr 1 0 0), (22, .sl false 10 (sltsC ss)), (23, nat (sltsC ss).length), (24, nat 0)], [.var [num a, num b, .sl false 10 (sltsC ss)], .var [.bs 2 0 0, nat 0], .row 10 []]⟩) (n := ss.length) (e := .exit 0)
    (fin := ⟨(scSt (sltsC ss) (sltsC ss) (sltsC ss).length (sltsC ss).length (accOf ss).length (valsOf ss) (msgsC (accOf ss)) a b).tm ++ [(25, boolX false)], (scSt (sltsC ss) (sltsC ss) (sltsC ss).length (sltsC ss).length (accOf ss).length (valsOf ss) (msgsC (accOf ss)) a b).bx⟩)
    (fun r => ∃ (c : Int) (bx : List Bx), c ≠ 0 ∧ r = ⟨[(2, num c)], bx⟩) (by kernel_rfl) (fun j hj => by
      have hg := sltsC_get hj
      have hxj := hx _ (List.getElem_mem hj)
      have hacc : ∀ o, o ∈ accOf (ss.take j) → o.ok := fun o ho => by
        obtain ⟨x, hxx, ho⟩ := List.mem_flatMap.1 ho
        exact (hx x (List.mem_of_mem_take hxx)).1.item o ho
      have hla := accOf_length (ss.take j) fun x hxx => (hx x (List.mem_of_mem_take hxx)).2.1
      have hlv := valsOf_le (ss.take j) fun x hxx => (hx x (List.mem_of_mem_take hxx)).2.2
      have hlt : (ss.take j).length ≤ 100 := by rw [List.length_take]; omega
      have hPj : (∀ h : j < ss.length, RdP (accOf (ss.take j)) (accOf (ss.take j)).length (valsOf (ss.take j)) ss[j] (ccAt ss j)) ↔ RdP (accOf (ss.take j)) (accOf (ss.take j)).length (valsOf (ss.take j)) ss[j] (ccAt ss j) := ⟨fun h => h hj, fun h _ => h⟩
      rw [hPj]
      have := xc_round (sltsC ss) (sltsC ss).length j (accOf (ss.take j)).length (valsOf (ss.take j)) (accOf (ss.take j)) a b ss[j] hxj.1 hacc rfl (by omega) (by omega) (by omega) (by omega) hg
        (ccAt ss j) (fun h => by unfold ccAt; rw [if_pos h]) (fun i hi => ⟨ss[i]'(by omega), (hx _ (List.getElem_mem (by omega))).1, sltsC_get (by omega), by
          subst hi
          unfold ccAt
          rw [if_neg (by omega), List.getElem?_eq_getElem hj, show i + 1 - 1 = i from rfl, List.getElem?_eq_getElem (show i < ss.length by omega)]⟩)
      have e1 : ss.take (j + 1) = ss.take j ++ [ss[j]] := List.take_succ_eq_append_getElem hj
      rw [e1, accOf_append, valsOf_append, List.length_append]
      exact this)
    (fun M _ => by
      rw [List.take_length, ← hn]
      exact run_of [(25, .b false)] [] (pf1 (nlt_nat (Nat.lt_irrefl (sltsC ss).length))) (lo' := []) (by kernel_rfl)) (by simp)
  cases h0 : (!(c0 == 0)) with
  | true =>
    refine ⟨c0, ⟨(fun h => by rw [h] at h0; cases h0), fun h => h.1⟩, fun N hN => ?_⟩
    obtain ⟨M, rfl⟩ : ∃ M, N = M + 1 := ⟨N - 1, by omega⟩
    exact pure_of [(13, .p (num c0)), (15, .b true)] [] (pf2 (hc0 M (by omega)) h0) (x := num c0) (bx := []) (by kernel_rfl) rfl
  | false =>
    have hz : c0 = 0 := by simpa using h0
    have h1 : decide (1024 < Int.ofNat (sltsC ss).length) = false := decide_eq_false (by simp only [Int.ofNat_eq_natCast]; omega)
    rcases hloop with ⟨hP, r, ⟨c, bx, hc, rfl⟩, h⟩ | ⟨hP, h⟩
    · refine ⟨c, ⟨fun h => absurd h hc, fun h => absurd (fun j _ => h.2 j) hP⟩, fun N hN => ?_⟩
      obtain ⟨M, rfl⟩ : ∃ M, N = M + 1 := ⟨N - 1, by omega⟩
      exact pure_of [(13, .p (num c0)), (15, .b false), (20, .b false)] [(.ret, ⟨[(2, num c)], bx⟩)] (pf4 (hc0 M (by omega)) h0 h1 (h M (by omega) (by omega))) (x := num c) (bx := []) (by kernel_rfl) rfl
    · refine ⟨0, ⟨fun _ => ⟨hz, fun j hj => hP j hj hj⟩, fun _ => rfl⟩, fun N hN => ?_⟩
      obtain ⟨M, rfl⟩ : ∃ M, N = M + 1 := ⟨N - 1, by omega⟩
      exact pure_of [(13, .p (num c0)), (15, .b false), (20, .b false)] [(.exit 0, ⟨(scSt (sltsC ss) (sltsC ss) (sltsC ss).length (sltsC ss).length (accOf ss).length (valsOf ss) (msgsC (accOf ss)) a b).tm ++ [(25, boolX false)], (scSt (sltsC ss) (sltsC ss) (sltsC ss).length (sltsC ss).length (accOf ss).length (valsOf ss) (msgsC (accOf ss)) a b).bx⟩)] (pf4 (hc0 M (by omega)) h0 h1 (h M (by omega) (by omega))) (x := num 0) (bx := []) (by kernel_rfl) rfl
end Go.Proofs.YtjfheahakfoofaaGreatDoor

/- Values that compare as equal are one. -/
namespace Go.Proofs.YtjfheahakfoofaaGreatDoor
open Go.Em

theorem ordI_zero {a b : Int} (h : ordI a b = 0) : a = b := by
  unfold ordI at h
  split at h
  · cases h
  · split at h
    · cases h
    · omega
theorem orL_zero : ∀ {l : List Int}, orL l = 0 → ∀ x, x ∈ l → x = 0
  | [], _, x, hx => by cases hx
  | y :: r, h, x, hx => by
    unfold orL at h
    split at h
    · rename_i h0
      rcases List.mem_cons.1 hx with rfl | hx
      · exact h0
      · exact orL_zero h x hx
    · rename_i h0; exact absurd h h0
theorem bytes_zero : ∀ {a b : List UInt8}, Lib.compareBytes a b = 0 → a = b := by
  intro a b
  induction a generalizing b with
  | nil => cases b <;> simp [Lib.compareBytes]
  | cons x r ih =>
    cases b with
    | nil => simp [Lib.compareBytes]
    | cons y s =>
      intro h
      unfold Lib.compareBytes at h
      split at h
      · cases h
      · split at h
        · cases h
        · rename_i h1 h2
          have e : x = y := UInt8.le_antisymm (UInt8.not_lt.1 h2) (UInt8.not_lt.1 h1)
          rw [e, ih h]
theorem cmpB_zero {a b : ByteArray} (h : cmpB a b = 0) : a = b := by
  have h1 := bytes_zero h
  have h2 : a.data = b.data := Array.toList_inj.1 h1
  cases a; cases b; cases h2; rfl
mutual
theorem cmpV_zero : ∀ (a b : Val), cmpV a b = 0 → a = b
  | .mk k i s t l f, .mk k' i' s' t' l' f', h => by
    unfold cmpV at h
    have h0 := orL_zero h
    have e1 := ordI_zero (h0 _ (List.mem_cons_self ..))
    have e2 := ordI_zero (h0 (ordI i i') (by simp))
    have e3 := ordI_zero (h0 (ordI s s') (by simp))
    have e4 := cmpB_zero (h0 (cmpB t t') (by simp))
    have e5 := cmpVL_zero l l' (h0 (cmpVL l l') (by simp))
    have e6 := cmpVF_zero f f' (h0 (cmpVF f f') (by simp))
    rw [e1, e2, e3, e4, e5, e6]
theorem cmpVL_zero : ∀ (l m : List Val), cmpVL l m = 0 → l = m
  | [], [], _ => rfl
  | [], _ :: _, h => by simp [cmpVL] at h
  | _ :: _, [], h => by simp [cmpVL] at h
  | a :: l, b :: m, h => by
    unfold cmpVL at h
    split at h
    · rename_i h0
      rw [cmpV_zero a b h0, cmpVL_zero l m h]
    · rename_i h0; exact absurd h h0
theorem cmpVF_zero : ∀ (l m : List (ByteArray × Val)), cmpVF l m = 0 → l = m
  | [], [], _ => rfl
  | [], _ :: _, h => by simp [cmpVF] at h
  | _ :: _, [], h => by simp [cmpVF] at h
  | (x, a) :: l, (y, b) :: m, h => by
    unfold cmpVF at h
    split at h
    · rename_i h0
      have h1 := orL_zero h0
      rw [cmpB_zero (h1 (cmpB x y) (by simp)), cmpV_zero a b (h1 (cmpV a b) (by simp)), cmpVF_zero l m h]
    · rename_i h0; exact absurd h h0
end
end Go.Proofs.YtjfheahakfoofaaGreatDoor

/- The order of values: three ways, turned about, in a chain. -/
namespace Go.Proofs.YtjfheahakfoofaaGreatDoor
open Go.Em

/-- Three comparisons (a b), (b c), (a c). -/
def T3 (x y z : Int) : Prop := (x = 0 → z = y) ∧ (y = 0 → z = x) ∧ (x = 1 → y = 1 → z = 1) ∧ (x = -1 → y = -1 → z = -1) ∧ (x = -1 ∨ x = 0 ∨ x = 1)
theorem T3_or {x1 y1 z1 x2 y2 z2 : Int} (h1 : T3 x1 y1 z1) (h2 : T3 x2 y2 z2) : T3 (if x1 = 0 then x2 else x1) (if y1 = 0 then y2 else y1) (if z1 = 0 then z2 else z1) := by
  obtain ⟨a1, a2, a3, a5, a4⟩ := h1
  by_cases hx : x1 = 0
  · have e1 := a1 hx
    rw [e1, if_pos hx]
    by_cases hy : y1 = 0
    · rw [if_pos hy, if_pos hy]; exact h2
    · rw [if_neg hy, if_neg hy]; exact ⟨fun _ => rfl, fun h => absurd h hy, fun _ h => h, fun _ h => h, h2.2.2.2.2⟩
  · rw [if_neg hx]
    by_cases hy : y1 = 0
    · have e1 := a2 hy
      rw [e1, if_neg hx]
      exact ⟨fun h => absurd h hx, fun _ => rfl, fun h _ => h, fun h _ => h, a4⟩
    · rw [if_neg hy]
      refine ⟨fun h => absurd h hx, fun h => absurd h hy, fun h h' => ?_, fun h h' => ?_, a4⟩
      · have := a3 h h'
        rw [this, if_neg (by decide)]
      · have := a5 h h'
        rw [this, if_neg (by decide)]
theorem T3_ord (a b c : Int) : T3 (ordI a b) (ordI b c) (ordI a c) := by
  have h : ∀ a b : Int, (ordI a b = -1 ∧ a < b) ∨ (ordI a b = 0 ∧ a = b) ∨ (ordI a b = 1 ∧ b < a) := fun a b => by
    unfold ordI
    split
    · exact .inl ⟨rfl, by assumption⟩
    · split
      · exact .inr (.inr ⟨rfl, by assumption⟩)
      · exact .inr (.inl ⟨rfl, by omega⟩)
  have h1 := h a b
  have h2 := h b c
  have h3 := h a c
  unfold T3
  omega
theorem T3_nil (y : Int) : T3 0 y y := ⟨fun _ => rfl, fun h => h, fun h => (by cases h), fun h => (by cases h), .inr (.inl rfl)⟩
theorem T3_a (y : Int) : T3 (-1) y (-1) := ⟨fun h => (by cases h), fun _ => rfl, fun h => (by cases h), fun _ _ => rfl, .inl rfl⟩
theorem T3_b (z : Int) : T3 1 (-1) z := ⟨fun h => (by cases h), fun h => (by cases h), fun _ h => (by cases h), fun h => (by cases h), .inr (.inr rfl)⟩
theorem T3_c (x : Int) (h : x = -1 ∨ x = 0 ∨ x = 1) : T3 x 1 1 := ⟨fun _ => rfl, fun h => (by cases h), fun _ _ => rfl, fun _ h => (by cases h), h⟩
theorem T3_bytes : ∀ a b c : List UInt8, T3 (Lib.compareBytes a b) (Lib.compareBytes b c) (Lib.compareBytes a c)
  | [], [], [] => T3_nil 0
  | [], [], _ :: _ => T3_nil (-1)
  | [], _ :: _, [] => ⟨fun h => (by cases h), fun h => (by cases h), fun h => (by cases h), fun _ h => (by cases h), .inl rfl⟩
  | [], _ :: _, _ :: _ => T3_a _
  | _ :: _, [], [] => ⟨fun h => (by cases h), fun _ => rfl, fun _ h => (by cases h), fun h => (by cases h), .inr (.inr rfl)⟩
  | _ :: _, [], _ :: _ => T3_b _
  | x :: a, y :: b, [] => by
    have h := T3_bytes a b []
    refine T3_c _ ?_
    simp only [Lib.compareBytes]
    split
    · exact .inl rfl
    · split
      · exact .inr (.inr rfl)
      · exact (T3_bytes a b b).2.2.2.2
  | x :: a, y :: b, z :: c => by
    have h := T3_bytes a b c
    have e : ∀ (x y : UInt8) (a b : List UInt8), Lib.compareBytes (x :: a) (y :: b) = if ordI x.toNat y.toNat = 0 then Lib.compareBytes a b else ordI x.toNat y.toNat := fun x y a b => by
      simp only [Lib.compareBytes, UInt8.lt_iff_toNat_lt]
      by_cases h : x.toNat < y.toNat
      · have e : ordI x.toNat y.toNat = -1 := by unfold ordI; rw [if_pos (by omega)]
        simp [h, e]
      · by_cases h' : y.toNat < x.toNat
        · have e : ordI x.toNat y.toNat = 1 := by unfold ordI; rw [if_neg (by omega), if_pos (by omega)]
          simp [h, h', e]
        · have e : ordI x.toNat y.toNat = 0 := by unfold ordI; rw [if_neg (by omega), if_neg (by omega)]
          simp [h, h', e]
    rw [e, e, e]
    exact T3_or (T3_ord _ _ _) h
theorem T3_orL1 {x1 y1 z1 : Int} {x y z : List Int} (h1 : T3 x1 y1 z1) (h2 : T3 (orL x) (orL y) (orL z)) : T3 (orL (x1 :: x)) (orL (y1 :: y)) (orL (z1 :: z)) := T3_or h1 h2
theorem T3_n : T3 (orL []) (orL []) (orL []) := T3_nil 0
mutual
theorem T3_val : ∀ a b c : Val, T3 (cmpV a b) (cmpV b c) (cmpV a c)
  | .mk k i s t l f, .mk k' i' s' t' l' f', .mk k2 i2 s2 t2 l2 f2 => by
    unfold cmpV
    exact T3_orL1 (T3_ord _ _ _) (T3_orL1 (T3_ord _ _ _) (T3_orL1 (T3_ord _ _ _) (T3_orL1 (T3_bytes _ _ _) (T3_orL1 (T3_valL l l' l2) (T3_orL1 (T3_valF f f' f2) (T3_nil 0))))))
theorem T3_valL : ∀ a b c : List Val, T3 (cmpVL a b) (cmpVL b c) (cmpVL a c)
  | [], [], [] => T3_nil 0
  | [], [], _ :: _ => T3_nil (-1)
  | [], _ :: _, [] => by simp only [cmpVL]; exact ⟨fun h => (by cases h), fun h => (by cases h), fun h => (by cases h), fun _ h => (by cases h), .inl rfl⟩
  | [], _ :: _, _ :: _ => by simp only [cmpVL]; exact T3_a _
  | _ :: _, [], [] => by simp only [cmpVL]; exact ⟨fun h => (by cases h), fun _ => rfl, fun _ h => (by cases h), fun h => (by cases h), .inr (.inr rfl)⟩
  | _ :: _, [], _ :: _ => by simp only [cmpVL]; exact T3_b _
  | x :: a, y :: b, [] => by
    have h1 := (T3_val x y y).2.2.2.2
    have h2 := (T3_valL a b b).2.2.2.2
    simp only [cmpVL]
    refine T3_c _ ?_
    split
    · exact h2
    · exact h1
  | x :: a, y :: b, z :: c => by
    have h1 := T3_val x y z
    have h2 := T3_valL a b c
    simp only [cmpVL]
    exact T3_or h1 h2
theorem T3_valF : ∀ a b c : List (ByteArray × Val), T3 (cmpVF a b) (cmpVF b c) (cmpVF a c)
  | [], [], [] => T3_nil 0
  | [], [], _ :: _ => T3_nil (-1)
  | [], _ :: _, [] => by simp only [cmpVF]; exact ⟨fun h => (by cases h), fun h => (by cases h), fun h => (by cases h), fun _ h => (by cases h), .inl rfl⟩
  | [], _ :: _, _ :: _ => by simp only [cmpVF]; exact T3_a _
  | _ :: _, [], [] => by simp only [cmpVF]; exact ⟨fun h => (by cases h), fun _ => rfl, fun _ h => (by cases h), fun h => (by cases h), .inr (.inr rfl)⟩
  | _ :: _, [], _ :: _ => by simp only [cmpVF]; exact T3_b _
  | (n, x) :: a, (m, y) :: b, [] => by
    have h1 := (T3_orL1 (T3_bytes n.data.toList m.data.toList m.data.toList) (T3_orL1 (T3_val x y y) T3_n)).2.2.2.2
    have h2 := (T3_valF a b b).2.2.2.2
    simp only [cmpVF]
    refine T3_c _ ?_
    split
    · exact h2
    · exact h1
  | (n, x) :: a, (m, y) :: b, (o, z) :: c => by
    have h1 := T3_orL1 (T3_bytes n.data.toList m.data.toList o.data.toList) (T3_orL1 (T3_val x y z) T3_n)
    have h2 := T3_valF a b c
    simp only [cmpVF]
    exact T3_or h1 h2
end
/-- Turned about. -/
theorem cmpV_lt {a b : Val} (h : cmpV a b < 0) : cmpV b a = 1 := by
  obtain ⟨h1, h2, h3, h5, h4⟩ := T3_val a b a
  have g4 := (T3_val b a b).2.2.2.2
  have e := cmpV_refl a
  rw [e] at h1 h2 h3 h5
  omega
theorem cmpV_gt {a b c : Val} (h : cmpV a b = 1) (h' : cmpV b c = 1) : cmpV a c = 1 := (T3_val a b c).2.2.1 h h'
theorem cmpV_rng (a b : Val) : cmpV a b = -1 ∨ cmpV a b = 0 ∨ cmpV a b = 1 := (T3_val a b b).2.2.2.2
end Go.Proofs.YtjfheahakfoofaaGreatDoor

/- What the check of a state asks, told of the keys and the messages as lists. -/
namespace Go.Proofs.YtjfheahakfoofaaGreatDoor
open Go.Em

def okI : List Msg → List Msg → Prop
  | _, [] => True
  | acc, m :: r => Pck acc.length (chkM m) (hasSt acc m) = true ∧ okI (acc ++ [m]) r
theorem okI_iff : ∀ (l acc : List Msg), okI acc l ↔ ∀ j (h : j < l.length), Pck (acc.length + j) (chkM l[j]) (hasSt (acc ++ l.take j) l[j]) = true
  | [], acc => ⟨fun _ j h => absurd h (by simp), fun _ => trivial⟩
  | m :: r, acc => by
    have ih := okI_iff r (acc ++ [m])
    unfold okI
    rw [ih]
    constructor
    · intro ⟨h0, h⟩ j hj
      cases j with
      | zero => simpa using h0
      | succ j =>
        have := h j (by simpa using hj)
        simpa [Nat.add_assoc, Nat.add_comm 1 j] using this
    · intro h
      refine ⟨by have := h 0 (by simp); rw [List.take_zero, List.append_nil, Nat.add_zero] at this; exact this, fun j hj => ?_⟩
      have := h (j + 1) (by simpa using hj)
      simpa [Nat.add_assoc, Nat.add_comm 1 j] using this
theorem okI_append : ∀ (a b acc : List Msg), okI acc (a ++ b) ↔ okI acc a ∧ okI (acc ++ a) b
  | [], b, acc => by simp [okI]
  | m :: r, b, acc => by
    have := okI_append r b (acc ++ [m])
    simp only [List.cons_append, okI, this, List.append_assoc, List.nil_append, and_assoc]
theorem okI_slots : ∀ (ss : List Slt) (acc : List Msg), okI acc (accOf ss) ↔ ∀ j (h : j < ss.length), okI (acc ++ accOf (ss.take j)) ss[j].items
  | [], acc => ⟨fun _ j h => absurd h (by simp), fun _ => trivial⟩
  | x :: r, acc => by
    have ih := okI_slots r (acc ++ x.items)
    have e : accOf (x :: r) = x.items ++ accOf r := by simp [accOf]
    rw [e, okI_append, ih]
    constructor
    · intro ⟨h0, h⟩ j hj
      cases j with
      | zero => simpa [accOf] using h0
      | succ j =>
        have := h j (by simpa using hj)
        simpa [accOf] using this
    · intro h
      refine ⟨by have := h 0 (by simp); rw [List.take_zero, show accOf [] = [] from rfl, List.append_nil] at this; exact this, fun j hj => ?_⟩
      have := h (j + 1) (by simpa using hj)
      simpa [accOf] using this
/-- Messages that pass, with stamps of their own. -/
def DistM (l : List Msg) : Prop := (∀ m, m ∈ l → chkM m = 0) ∧ l.Pairwise fun o m => cmpS o.st m.st ≠ 0
theorem pck_iff {k : Nat} {c : Int} {b : Bool} (hk : k < 256) : Pck k c b = true ↔ c = 0 ∧ b = false := by
  have h : (Int.ofNat k == 256) = false := by
    rw [beq_eq_false_iff_ne]; simp only [Int.ofNat_eq_natCast]; omega
  unfold Pck
  rw [h]
  by_cases hc : c = 0
  · subst hc; cases b <;> simp
  · simp [hc]
theorem hasSt_false {l : List Msg} {m : Msg} : hasSt l m = false ↔ ∀ o, o ∈ l → cmpS o.st m.st ≠ 0 := by
  unfold hasSt
  rw [List.any_eq_false]
  simp
theorem okI_sem : ∀ (l acc : List Msg), acc.length + l.length ≤ 256 → (okI acc l ↔ DistM l ∧ ∀ m, m ∈ l → ∀ o, o ∈ acc → cmpS o.st m.st ≠ 0)
  | [], acc, _ => by simp [okI, DistM]
  | m :: r, acc, h => by
    have hl : acc.length + r.length + 1 ≤ 256 := by simpa [Nat.add_assoc] using h
    have ih := okI_sem r (acc ++ [m]) (by simp; omega)
    unfold okI DistM
    rw [ih, pck_iff (by omega), hasSt_false, List.pairwise_cons]
    unfold DistM
    constructor
    · intro ⟨⟨h0, h1⟩, ⟨h2, h3⟩, h4⟩
      refine ⟨⟨fun x hx => ?_, fun x hx => h4 x hx m (by simp), h3⟩, fun x hx o ho => ?_⟩
      · rcases List.mem_cons.1 hx with rfl | hx
        · exact h0
        · exact h2 x hx
      · rcases List.mem_cons.1 hx with rfl | hx
        · exact h1 o ho
        · exact h4 x hx o (by simp [ho])
    · intro ⟨⟨h0, h1, h2⟩, h3⟩
      refine ⟨⟨h0 m (by simp), fun o ho => h3 m (by simp) o ho⟩, ⟨fun x hx => h0 x (by simp [hx]), h2⟩, fun x hx o ho => ?_⟩
      rcases List.mem_append.1 ho with ho | ho
      · exact h3 x (by simp [hx]) o ho
      · rw [List.mem_singleton.1 ho]; exact h1 x hx

/-- Keys in order. -/
def OrdK (ss : List Slt) : Prop := ss.Pairwise fun a b => cmpV b.key a.key = 1
theorem ordK_adj : ∀ (ss : List Slt), (∀ j (h : j + 1 < ss.length), cmpV ss[j + 1].key ss[j].key = 1) → OrdK ss
  | [], _ => .nil
  | [x], _ => by simp [OrdK]
  | x :: y :: r, h => by
    have ih := ordK_adj (y :: r) fun j hj => h (j + 1) (by simpa using hj)
    have h0 : cmpV y.key x.key = 1 := h 0 (by simp)
    unfold OrdK at ih ⊢
    rw [List.pairwise_cons]
    refine ⟨fun z hz => ?_, ih⟩
    rcases List.mem_cons.1 hz with rfl | hz
    · exact h0
    · exact cmpV_gt ((List.pairwise_cons.1 ih).1 z hz) h0

/-- What the check of a state asks, where no slot has values. -/
structure StG (s : Stt) : Prop where
  num : chkN s.n s.t = 0
  key : ∀ x, x ∈ s.slots → (chkV x.key = 0 ∨ nullV x.key = true) ∧ chkN x.n x.t = 0
  ord : OrdK s.slots
  items : DistM (accOf s.slots)
theorem rdP_iff {acc : List Msg} {v : Nat} {x : Slt} {cc : Int} (hv : x.vals = []) : RdP acc acc.length v x cc ↔ ((chkV x.key = 0 ∨ nullV x.key = true) ∧ chkN x.n x.t = 0) ∧ (cc ≠ 0 ∧ cc ≠ -1) ∧ okI acc x.items := by
  unfold RdP PscB SlP
  rw [okI_iff, hv]
  have e1 : ((if !(chkV x.key == 0) then nullV x.key else true) = true) ↔ (chkV x.key = 0 ∨ nullV x.key = true) := by
    by_cases h : chkV x.key = 0 <;> simp [h]
  have e2 : ((if cc == 0 then false else if cc == -1 then false else true) = true) ↔ (cc ≠ 0 ∧ cc ≠ -1) := by
    by_cases h : cc = 0
    · simp [h]
    · by_cases h' : cc = -1 <;> simp [h, h']
  rw [e1, e2]
  constructor
  · intro ⟨h1, h2, h3, h4, _⟩; exact ⟨⟨h1, h3⟩, h2, h4⟩
  · intro ⟨⟨h1, h3⟩, h2, h4⟩; exact ⟨h1, h2, h3, h4, fun j h => absurd h (by simp)⟩
theorem stP_iff {s : Stt} (hv : ∀ x, x ∈ s.slots → x.vals = []) (hl : (accOf s.slots).length ≤ 256) : StP s ↔ StG s := by
  have hI := okI_slots s.slots []
  have hS := okI_sem (accOf s.slots) [] (by simpa using hl)
  constructor
  · intro ⟨h0, h⟩
    have h' := fun j hj => (rdP_iff (hv _ (List.getElem_mem hj))).1 (h j hj)
    refine ⟨h0, fun x hx => ?_, ordK_adj _ fun j hj => ?_, ?_⟩
    · obtain ⟨j, hj, rfl⟩ := List.mem_iff_getElem.1 hx
      exact (h' j hj).1
    · have := (h' (j + 1) hj).2.1
      unfold ccAt at this
      rw [if_neg (by omega), List.getElem?_eq_getElem hj, show j + 1 - 1 = j from rfl, List.getElem?_eq_getElem (show j < s.slots.length by omega)] at this
      dsimp only at this
      rcases cmpV_rng s.slots[j + 1].key s.slots[j].key with h | h | h
      · exact absurd h this.2
      · exact absurd h this.1
      · exact h
    · exact (hS.1 (hI.2 fun j hj => by simpa using (h' j hj).2.2)).1
  · intro ⟨h0, h1, h2, h3⟩
    have hi := hI.1 (hS.2 ⟨h3, by simp⟩)
    refine ⟨h0, fun j hj => (rdP_iff (hv _ (List.getElem_mem hj))).2 ⟨h1 _ (List.getElem_mem hj), ?_, by simpa using hi j hj⟩⟩
    unfold ccAt
    by_cases hz : j = 0
    · rw [if_pos hz]; exact ⟨by decide, by decide⟩
    · rw [if_neg hz, List.getElem?_eq_getElem hj, List.getElem?_eq_getElem (show j - 1 < s.slots.length by omega)]
      have := List.pairwise_iff_getElem.1 h2 (j - 1) j (by omega) hj (by omega)
      dsimp only
      rw [this]
      exact ⟨by decide, by decide⟩
end Go.Proofs.YtjfheahakfoofaaGreatDoor

/- Is a state one of a throttle? -/
namespace Go.Proofs.YtjfheahakfoofaaGreatDoor
open Go.Em

def badT (x : Slt) : Bool := !(nullV x.key) || ((Int.ofNat (msgsC x.items).length == 0) || ((!(x.n == 0)) || ((!(x.t == 0)) || decide (0 < Int.ofNat (cellsL x.vals).length))))
def riH (l : List (List X)) (n j : Nat) : St := ⟨[(15, .sl false 10 l), (16, nat n), (17, nat j)], []⟩
theorem right_round (l : List (List X)) (n j : Nat) (x : Slt) (hj : j < n) (hn : n ≤ 60000) (hg : l[j]? = some x.cells) :
    (badT x = true → ∀ M, 60010 ≤ M → run (callF tab ext M) 0 M (loopAt 33 0) (riH l n j) = some (.ret, ⟨[(2, boolX false)], [.var x.cells]⟩)) ∧
    (badT x = false → ∀ M, 60010 ≤ M → run (callF tab ext M) 0 M (loopAt 33 0) (riH l n j) = some (.norm, ⟨(riH l n (j + 1)).tm, [.var x.cells]⟩)) := by
  have hlt := lt_nat hj
  have hz : ∀ N, 60010 ≤ N → Gam.pureD (callF tab ext N) 28 [.agg x.key.cells] = some (boolX (nullV x.key)) := fun N hN => null_at x.key N (by omega)
  unfold badT
  generalize nullV x.key = z at hz ⊢
  obtain ⟨⟨k0, i0, s0, t0, l0, f0⟩, n0, d0, items, vals⟩ := x
  dsimp only at hz ⊢
  cases z with
  | true =>
    cases h1 : (Int.ofNat (msgsC items).length == 0) with
    | true =>
      exact ⟨fun _ M hM => run_of [(18, .b true), (19, .e (slotC k0 i0 s0 t0 (cellsL l0) (cellsF f0) n0 d0 (msgsC items) (cellsL vals))), (23, .p (boolX true)), (29, .b true)] [] (pf4 hlt hg (hz M hM) h1) (lo' := []) (by kernel_rfl), fun hP => by cases hP⟩
    | false =>
      cases h2 : (!(n0 == 0)) with
      | true =>
        exact ⟨fun _ M hM => run_of [(18, .b true), (19, .e (slotC k0 i0 s0 t0 (cellsL l0) (cellsF f0) n0 d0 (msgsC items) (cellsL vals))), (23, .p (boolX true)), (29, .b false), (34, .b true)] [] (pf5 hlt hg (hz M hM) h1 h2) (lo' := []) (by kernel_rfl), fun hP => by cases hP⟩
      | false =>
        cases h3 : (!(d0 == 0)) with
        | true =>
          exact ⟨fun _ M hM => run_of [(18, .b true), (19, .e (slotC k0 i0 s0 t0 (cellsL l0) (cellsF f0) n0 d0 (msgsC items) (cellsL vals))), (23, .p (boolX true)), (29, .b false), (34, .b false), (39, .b true)] [] (pf6 hlt hg (hz M hM) h1 h2 h3) (lo' := []) (by kernel_rfl), fun hP => by cases hP⟩
        | false =>
          cases h4 : decide (0 < Int.ofNat (cellsL vals).length) with
          | true =>
            exact ⟨fun _ M hM => run_of [(18, .b true), (19, .e (slotC k0 i0 s0 t0 (cellsL l0) (cellsF f0) n0 d0 (msgsC items) (cellsL vals))), (23, .p (boolX true)), (29, .b false), (34, .b false), (39, .b false), (45, .b true)] [] (pf7 hlt hg (hz M hM) h1 h2 h3 h4) (lo' := []) (by kernel_rfl), fun hP => by cases hP⟩
          | false =>
            exact ⟨fun hP => (by cases hP), fun _ M hM => run_of [(18, .b true), (19, .e (slotC k0 i0 s0 t0 (cellsL l0) (cellsF f0) n0 d0 (msgsC items) (cellsL vals))), (23, .p (boolX true)), (29, .b false), (34, .b false), (39, .b false), (45, .b false), (47, .i (Int.ofNat (j + 1)))] [] (pf8 hlt hg (hz M hM) h1 h2 h3 h4 (next_nat (j := j) (by omega))) (lo' := []) (by kernel_rfl)⟩
  | false =>
    exact ⟨fun _ M hM => run_of [(18, .b true), (19, .e (slotC k0 i0 s0 t0 (cellsL l0) (cellsF f0) n0 d0 (msgsC items) (cellsL vals))), (23, .p (boolX false))] [] (pf3 hlt hg (hz M hM)) (lo' := []) (by kernel_rfl), fun hP => by cases hP⟩
def rightS (s : Stt) : Bool := !(decide (s.n < 0)) && (!(decide (1 < Int.ofNat (sltsC s.slots).length)) && s.slots.all fun x => !badT x)
theorem right_pure (s : Stt) (hs : s.ok) (N : Nat) (hN : 60020 ≤ N) : Gam.pureD (callF tab ext N) 33 [.agg s.cells] = some (boolX (rightS s)) := by
  obtain ⟨M, rfl⟩ : ∃ M, N = M + 1 := ⟨N - 1, by omega⟩
  have hl := hs.slots
  obtain ⟨a, b, ss⟩ := s
  dsimp only at hl
  have hn := sltsC_length ss
  unfold rightS
  dsimp only
  cases h1 : decide (a < 0) with
  | true => exact pure_of [(7, .b true)] [] (pf1 h1) (x := boolX false) (bx := []) (by kernel_rfl) rfl
  | false =>
    cases h2 : decide (1 < Int.ofNat (sltsC ss).length) with
    | true => exact pure_of [(7, .b false), (12, .b true)] [] (pf2 h1 h2) (x := boolX false) (bx := []) (by kernel_rfl) rfl
    | false =>
      have hget : ∀ j (h : j < ss.length), ss.getD j ⟨.mk 0 0 0 ⟨#[]⟩ [] [], 0, 0, [], []⟩ = ss[j] := fun j h => by simp [List.getD, h]
      have hsc := scanP (nIn := 0) (B := 60010) (b := loopAt 33 0) (H := fun j => riH (sltsC ss) (sltsC ss).length j) (τ := ⟨(riH (sltsC ss) (sltsC ss).length 0).tm, [.var [num a, num b, .sl false 10 (sltsC ss)]]⟩) (n := ss.length) (e := .exit 0) (fin := ⟨[(15, .sl false 10 (sltsC ss)), (16, nat (sltsC ss).length), (17, nat (sltsC ss).length), (18, boolX false)], []⟩)
        (fun j => badT (ss.getD j ⟨.mk 0 0 0 ⟨#[]⟩ [] [], 0, 0, [], []⟩)) (fun j => ⟨[(2, boolX false)], [.var (ss.getD j ⟨.mk 0 0 0 ⟨#[]⟩ [] [], 0, 0, [], []⟩).cells]⟩) (fun j => ⟨(riH (sltsC ss) (sltsC ss).length (j + 1)).tm, [.var (ss.getD j ⟨.mk 0 0 0 ⟨#[]⟩ [] [], 0, 0, [], []⟩).cells]⟩) (by kernel_rfl)
        (fun j hj hP => by
          rw [hget j hj] at hP ⊢
          exact (right_round (sltsC ss) (sltsC ss).length j ss[j] (by omega) (by omega) (sltsC_get hj)).1 hP)
        (fun j hj hP => by
          rw [hget j hj] at hP ⊢
          exact ⟨by kernel_rfl, (right_round (sltsC ss) (sltsC ss).length j ss[j] (by omega) (by omega) (sltsC_get hj)).2 hP⟩)
        (fun M _ => by
          rw [← hn]
          exact run_of [(18, .b false)] [] (pf1 (nlt_nat (Nat.lt_irrefl (sltsC ss).length))) (lo' := []) (by kernel_rfl)) (by simp)
      rcases hsc with ⟨j, hj, hP, _, h⟩ | ⟨hall, h⟩
      · rw [hget j hj] at hP
        have hf : (ss.all fun x => !badT x) = false := by
          rw [List.all_eq_false]
          exact ⟨ss[j], List.getElem_mem hj, by simp [hP]⟩
        rw [hf]
        exact pure_of [(7, .b false), (12, .b false)] [(.ret, ⟨[(2, boolX false)], [.var (ss.getD j ⟨.mk 0 0 0 ⟨#[]⟩ [] [], 0, 0, [], []⟩).cells]⟩)] (pf3 h1 h2 (h M (by omega) (by omega))) (x := boolX false) (bx := []) (by kernel_rfl) rfl
      · have hf : (ss.all fun x => !badT x) = true := by
          rw [List.all_eq_true]
          intro x hx
          obtain ⟨j, hj, rfl⟩ := List.mem_iff_getElem.1 hx
          have := hall j hj
          rw [hget j hj] at this
          simp [this]
        rw [hf]
        exact pure_of [(7, .b false), (12, .b false)] [(.exit 0, ⟨[(15, .sl false 10 (sltsC ss)), (16, nat (sltsC ss).length), (17, nat (sltsC ss).length), (18, boolX false)], []⟩)] (pf3 h1 h2 (h M (by omega) (by omega))) (x := boolX true) (bx := []) (by kernel_rfl) rfl
end Go.Proofs.YtjfheahakfoofaaGreatDoor
