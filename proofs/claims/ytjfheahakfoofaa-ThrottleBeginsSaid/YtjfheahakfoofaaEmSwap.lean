/- The abstract machine: operations that are apart change places, and so an order is as good as the text's own. -/
import Derived.Test.YtjfheahakfoofaaEmRegion2
namespace Go.Em
variable {P : Program} {A : Ann} {Γ : Gam}

/-- What an operation with its guard does. -/
def core (Γ : Gam) (i : Ins) (σ : St) : Option (X × List Bx × FP) :=
  match i.g with
  | none => stepI Γ σ i.op
  | some (s, want) => match lk σ.tm s with
    | some (.v (.bool b)) => if b == want then stepI Γ σ i.op else some (undefX, σ.bx, ⟨false, [], []⟩)
    | some (.v (.tuple _)) => some (undefX, σ.bx, ⟨false, [], []⟩)
    | _ => none

theorem step_core (i : Ins) (σ : St) : step Γ i σ = (core Γ i σ).map fun q => (⟨setD i.dst q.1 σ.tm, q.2.1⟩, q.2.2) := by
  have hgo : stepGo Γ i σ = (stepI Γ σ i.op).map fun q => (⟨setD i.dst q.1 σ.tm, q.2.1⟩, q.2.2) := by
    unfold stepGo
    cases stepI Γ σ i.op with
    | none => rfl
    | some q => rfl
  unfold step core
  cases i.g with
  | none => exact hgo
  | some g =>
    obtain ⟨s, want⟩ := g
    dsimp only
    cases lk σ.tm s with
    | none => rfl
    | some z => cases z with
      | v u => cases u with
        | bool t =>
          dsimp only
          by_cases h : (t == want) = true
          · rw [if_pos h, if_pos h]; exact hgo
          · rw [if_neg h, if_neg h]; rfl
        | tuple => rfl
        | _ => rfl
      | _ => rfl

theorem core_on {i : Ins} {tm tm' : List (Nat × X)} {b : List Bx} (h : ∀ n, n ∈ i.slots → lk tm n = lk tm' n) : core Γ i ⟨tm, b⟩ = core Γ i ⟨tm', b⟩ := by
  have h1 : SameOn tm tm' i.op.opds := fun n hn => h n (by
    simp only [Ins.slots, List.mem_append, List.mem_filterMap]
    exact .inl ⟨_, hn, rfl⟩)
  have h2 := stepI_on (Γ := Γ) (b := b) h1
  unfold core
  cases hg : i.g with
  | none => exact h2
  | some g =>
    obtain ⟨s, want⟩ := g
    dsimp only
    rw [h s (by simp [Ins.slots, hg]), h2]

theorem core_frame {i : Ins} {tm : List (Nat × X)} {b b' : List Bx} {y : X} {fp : FP} (e : core Γ i ⟨tm, b⟩ = some (y, b', fp)) :
    (fp.eff = false → b' = b ∧ ∀ b2 : List Bx, (∀ r, r ∈ fp.rd → b2[r]? = b[r]?) → core Γ i ⟨tm, b2⟩ = some (y, b2, fp)) ∧ ∀ r, r ∉ fp.wr → b'[r]? = b[r]? := by
  unfold core at e ⊢
  cases hg : i.g with
  | none =>
    rw [hg] at e
    have := stepI_frame e
    exact ⟨fun h => this.1 h, this.2⟩
  | some g =>
    obtain ⟨s, want⟩ := g
    rw [hg] at e
    dsimp only at e ⊢
    split at e
    · rename_i t ht
      split at e
      · rename_i hw
        have := stepI_frame e
        refine ⟨fun h => ?_, this.2⟩
        obtain ⟨h1, h2⟩ := this.1 h
        refine ⟨h1, fun b2 hb => ?_⟩
        rw [if_pos hw]; exact h2 b2 hb
      · rename_i hw
        simp only [Option.some.injEq, Prod.mk.injEq] at e
        obtain ⟨rfl, rfl, rfl⟩ := e
        refine ⟨fun _ => ⟨rfl, fun b2 _ => ?_⟩, fun _ _ => rfl⟩
        rw [if_neg hw]
    · rename_i t ht
      simp only [Option.some.injEq, Prod.mk.injEq] at e
      obtain ⟨rfl, rfl, rfl⟩ := e
      exact ⟨fun _ => ⟨rfl, fun b2 _ => rfl⟩, fun _ _ => rfl⟩
    · simp at e

/-- The same state, as far as it can be told. -/
def StEq (σ τ : St) : Prop := σ.bx = τ.bx ∧ ∀ n, lk σ.tm n = lk τ.tm n

theorem StEq.refl (σ : St) : StEq σ σ := ⟨rfl, fun _ => rfl⟩
theorem StEq.trans {a b c : St} (h : StEq a b) (h' : StEq b c) : StEq a c := ⟨h.1.trans h'.1, fun n => (h.2 n).trans (h'.2 n)⟩

theorem lk_setD' (d : Option Nat) (y : X) (tm : List (Nat × X)) (n : Nat) : lk (setD d y tm) n = if d = some n then some y else lk tm n := lk_setD d y tm n

theorem step_eq {i : Ins} {σ τ σ1 : St} {fp : FP} (h : StEq σ τ) (e : step Γ i σ = some (σ1, fp)) : ∃ τ1, step Γ i τ = some (τ1, fp) ∧ StEq σ1 τ1 := by
  obtain ⟨tm, b⟩ := σ
  obtain ⟨tm', b'⟩ := τ
  obtain ⟨h1, h2⟩ := h
  dsimp only at h1 h2; subst h1
  rw [step_core] at e
  obtain ⟨q, hq, e1⟩ := map_some e
  simp only [Prod.mk.injEq] at e1
  obtain ⟨rfl, rfl⟩ := e1
  refine ⟨⟨setD i.dst q.1 tm', q.2.1⟩, ?_, rfl, fun n => ?_⟩
  · rw [step_core, ← core_on (fun n _ => h2 n), hq]; rfl
  · dsimp only; rw [lk_setD, lk_setD, h2 n]

theorem disj_iff {l m : List Nat} : disj l m = true ↔ ∀ r, r ∈ l → r ∉ m := by
  simp only [disj, List.all_eq_true, Bool.not_eq_true']
  constructor
  · intro h r hr hm
    have := h r hr
    rw [memN_iff.2 hm] at this; simp at this
  · intro h r hr
    cases hx : memN r m with
    | false => rfl
    | true => exact absurd (memN_iff.1 hx) (h r hr)

theorem apart_left {i j : Ins} (h : apart i j = true) {d : Nat} (hd : i.dst = some d) : d ∉ j.slots ∧ j.dst ≠ some d := by
  simp only [apart, hd, Bool.and_eq_true, Bool.not_eq_true'] at h
  refine ⟨fun hm => by rw [memN_iff.2 hm] at h; simp at h, fun e => by rw [e] at h; simp at h⟩

theorem apart_right {i j : Ins} (h : apart i j = true) {d : Nat} (hd : j.dst = some d) : d ∉ i.slots := by
  simp only [apart, hd, Bool.and_eq_true, Bool.not_eq_true'] at h
  exact fun hm => by rw [memN_iff.2 hm] at h; simp at h

theorem step_swap {i j : Ins} {σ σ1 σ2 : St} {f1 f2 : FP} (ha : apart i j = true) (hf : fpOk f1 f2 = true) (e1 : step Γ i σ = some (σ1, f1)) (e2 : step Γ j σ1 = some (σ2, f2)) :
    ∃ τ1 τ2, step Γ j σ = some (τ1, f2) ∧ step Γ i τ1 = some (τ2, f1) ∧ StEq σ2 τ2 := by
  obtain ⟨tm, b⟩ := σ
  rw [step_core] at e1
  obtain ⟨⟨y1, b1, g1⟩, hq1, e1⟩ := map_some e1
  simp only [Prod.mk.injEq] at e1
  obtain ⟨rfl, rfl⟩ := e1
  rw [step_core] at e2
  obtain ⟨⟨y2, b2, g2⟩, hq2, e2⟩ := map_some e2
  simp only [Prod.mk.injEq] at e2
  obtain ⟨rfl, rfl⟩ := e2
  have hj : ∀ (bb : List Bx), core Γ j ⟨setD i.dst y1 tm, bb⟩ = core Γ j ⟨tm, bb⟩ := fun bb => core_on fun n hn => by
    rw [lk_setD, if_neg]; intro hd; exact (apart_left ha hd).1 hn
  have hi : ∀ (bb : List Bx), core Γ i ⟨setD j.dst y2 tm, bb⟩ = core Γ i ⟨tm, bb⟩ := fun bb => core_on fun n hn => by
    rw [lk_setD, if_neg]; intro hd; exact (apart_right ha hd) hn
  rw [hj] at hq2
  simp only [fpOk, Bool.and_eq_true, Bool.not_eq_true', disj_iff] at hf
  obtain ⟨⟨hf0, hf1⟩, hf2⟩ := hf
  have fr1 := core_frame hq1
  have fr2 := core_frame hq2
  have hlast : StEq ⟨setD j.dst y2 (setD i.dst y1 tm), b2⟩ ⟨setD i.dst y1 (setD j.dst y2 tm), b2⟩ := by
    refine ⟨rfl, fun n => ?_⟩
    simp only [lk_setD]
    by_cases h1 : i.dst = some n
    · have := (apart_left ha h1).2
      simp [h1, this]
    · simp [h1]
  have done : ∀ bm, core Γ j ⟨tm, b⟩ = some (y2, bm, g2) → core Γ i ⟨tm, bm⟩ = some (y1, b2, g1) → ∃ τ1 τ2, step Γ j ⟨tm, b⟩ = some (τ1, g2) ∧ step Γ i τ1 = some (τ2, g1) ∧ StEq ⟨setD j.dst y2 (setD i.dst y1 tm), b2⟩ τ2 := by
    intro bm c1 c2
    refine ⟨⟨setD j.dst y2 tm, bm⟩, ⟨setD i.dst y1 (setD j.dst y2 tm), b2⟩, ?_, ?_, hlast⟩
    · rw [step_core, c1]; rfl
    · rw [step_core, hi, c2]; rfl
  cases he : g1.eff with
  | false =>
    obtain ⟨rfl, hp⟩ := fr1.1 he
    refine done b2 hq2 (hp b2 fun r hr => fr2.2 r fun hw => hf2 r hw hr)
  | true =>
    rw [he] at hf0
    simp only [Bool.true_and] at hf0
    obtain ⟨rfl, hp⟩ := fr2.1 hf0
    refine done b (hp b fun r hr => (fr1.2 r fun hw => hf1 r hw hr).symm) hq1

/-! ### Orders -/
/-- The operations of a list of indices, one after the other, each with the footprint that 'fps' tells of. -/
inductive Runs (Γ : Gam) (l : List Ins) (fps : List FP) : List Nat → St → St → Prop
  | nil (σ : St) : Runs Γ l fps [] σ σ
  | cons {i : Nat} {L : List Nat} {σ σ1 σ2 : St} {ins : Ins} {fp : FP} : l[i]? = some ins → fps[i]? = some fp → step Γ ins σ = some (σ1, fp) → Runs Γ l fps L σ1 σ2 → Runs Γ l fps (i :: L) σ σ2

theorem Runs.eq {l : List Ins} {fps : List FP} {L : List Nat} {σ σ' : St} (h : Runs Γ l fps L σ σ') : ∀ {τ : St}, StEq σ τ → ∃ τ', Runs Γ l fps L τ τ' ∧ StEq σ' τ' := by
  induction h with
  | nil σ => exact fun h => ⟨_, .nil _, h⟩
  | cons h1 h2 h3 _ ih =>
    intro τ h
    obtain ⟨τ1, h4, h5⟩ := step_eq h h3
    obtain ⟨τ', h6, h7⟩ := ih h5
    exact ⟨τ', .cons h1 h2 h4 h6, h7⟩

def Free (l : List Ins) (fps : List FP) (i j : Nat) : Prop := ∀ a b f g, l[i]? = some a → l[j]? = some b → fps[i]? = some f → fps[j]? = some g → apart a b = true ∧ fpOk f g = true

theorem Runs.push {l : List Ins} {fps : List FP} {i : Nat} {L2 : List Nat} : ∀ {L1 : List Nat} {σ σ' : St}, Runs Γ l fps (i :: (L1 ++ L2)) σ σ' → (∀ j, j ∈ L1 → Free l fps i j) → ∃ τ, Runs Γ l fps (L1 ++ i :: L2) σ τ ∧ StEq σ' τ
  | [], σ, σ', h, _ => ⟨σ', h, .refl _⟩
  | j :: L1, σ, σ', h, hf => by
    cases h with
    | cons a1 a2 a3 h =>
      cases h with
      | cons b1 b2 b3 h =>
        obtain ⟨h1, h2⟩ := hf j (by simp) _ _ _ _ a1 b1 a2 b2
        obtain ⟨τ1, τ2, c1, c2, c3⟩ := step_swap h1 h2 a3 b3
        obtain ⟨τ', d1, d2⟩ := Runs.eq h c3
        obtain ⟨τ, e1, e2⟩ := Runs.push (.cons a1 a2 c2 d1) (fun k hk => hf k (by simp [hk]))
        exact ⟨τ, .cons b1 b2 c1 e1, d2.trans e2⟩

theorem Runs.order {l : List Ins} {fps : List FP} : ∀ {m k : Nat} {L : List Nat} {σ σ' : St}, Runs Γ l fps (List.range' k m) σ σ' → L.Perm (List.range' k m) → L.Pairwise (fun j i => i < j → Free l fps i j) → ∃ τ, Runs Γ l fps L σ τ ∧ StEq σ' τ
  | 0, k, L, σ, σ', h, hp, _ => by
    have : L = [] := by simpa using hp
    subst this
    exact ⟨σ', h, .refl _⟩
  | m + 1, k, L, σ, σ', h, hp, hw => by
    rw [List.range'_succ] at h hp
    obtain ⟨L1, L2, rfl⟩ := List.append_of_mem (hp.symm.subset (List.mem_cons_self))
    have hp' : (L1 ++ L2).Perm (List.range' (k + 1) m) := (List.perm_cons k).1 (List.perm_middle.symm.trans hp)
    cases h with
    | cons h1 h2 h3 h4 =>
      have hs : (L1 ++ L2).Sublist (L1 ++ k :: L2) := List.Sublist.append (List.Sublist.refl _) (List.sublist_cons_self _ _)
      obtain ⟨τ, r1, r2⟩ := Runs.order h4 hp' (hw.sublist hs)
      obtain ⟨τ', r3, r4⟩ := Runs.push (.cons h1 h2 h3 r1) (fun j hj => by
        have h5 := (List.pairwise_append.1 hw).2.2 j hj k (by simp)
        have h6 : j ∈ List.range' (k + 1) m := hp'.subset (by simp [hj])
        rw [List.mem_range'_1] at h6
        exact h5 (by omega))
      exact ⟨τ', r3, r2.trans r4⟩

theorem runs_of_steps {l : List Ins} {fps : List FP} : ∀ {m : List Ins} {k : Nat} {σ σ' : St} {gs : List FP}, steps Γ m σ = some (σ', gs) → (∀ j, j < m.length → l[k + j]? = m[j]? ∧ fps[k + j]? = gs[j]?) → Runs Γ l fps (List.range' k m.length) σ σ'
  | [], k, σ, σ', gs, e, _ => by
    simp only [steps, Option.some.injEq, Prod.mk.injEq] at e
    obtain ⟨rfl, _⟩ := e
    exact .nil _
  | i :: r, k, σ, σ', gs, e, h => by
    simp only [steps] at e
    split at e
    · simp at e
    · rename_i σ1 fp hs
      obtain ⟨q, hq, e1⟩ := map_some e
      simp only [Prod.mk.injEq] at e1
      obtain ⟨rfl, rfl⟩ := e1
      rw [List.length_cons, List.range'_succ]
      have h0 := h 0 (by simp)
      simp only [Nat.add_zero, List.getElem?_cons_zero] at h0
      refine .cons h0.1 h0.2 hs (runs_of_steps hq fun j hj => ?_)
      have := h (j + 1) (by simp; omega)
      simp only [List.getElem?_cons_succ] at this
      rw [show k + 1 + j = k + (j + 1) by omega]; exact this

theorem steps_length : ∀ {m : List Ins} {σ σ' : St} {gs : List FP}, steps Γ m σ = some (σ', gs) → gs.length = m.length
  | [], σ, σ', gs, e => by simp [steps] at e; simp [← e.2]
  | i :: r, σ, σ', gs, e => by
    simp only [steps] at e
    split at e
    · simp at e
    · obtain ⟨q, hq, e1⟩ := map_some e
      simp only [Prod.mk.injEq] at e1
      obtain ⟨_, rfl⟩ := e1
      simp [steps_length hq]

theorem runs_text {l : List Ins} {σ σ' : St} {fps : List FP} (e : steps Γ l σ = some (σ', fps)) : Runs Γ l fps (List.range' 0 l.length) σ σ' :=
  runs_of_steps e fun j _ => by simp

theorem freePairs_mem {ops : Array Oper} {i j : Nat} (hj : j < ops.size) (hi : i < j) (he : edged (ops.getD j default) i = false) : (i, j) ∈ freePairs ops := by
  simp only [freePairs, List.mem_flatMap, List.mem_range, List.mem_filterMap]
  exact ⟨j, hj, i, hi, by rw [he]; rfl⟩

theorem runs_draw {ops : Array Oper} {l : List Ins} {σ σ' : St} {fps : List FP} {ps : List (Nat × Nat)} {L : List Nat} (hl : l.length = ops.size) (hd : drawPairs ops l = some ps) (e : steps Γ l σ = some (σ', fps)) (hp : pairsOk fps ps = true) (hL : Order ops L) :
    ∃ τ, Runs Γ l fps L σ τ ∧ StEq σ' τ := by
  refine Runs.order (runs_text e) ?_ ?_
  · refine (List.perm_ext_iff_of_nodup hL.nodup (List.nodup_range' ..)).2 fun i => ?_
    rw [hL.all i, List.mem_range'_1, hl]; omega
  · unfold drawPairs at hd
    dsimp only at hd
    split at hd
    · rename_i hc
      simp only [Option.some.injEq] at hd
      subst hd
      rw [Bool.and_eq_true] at hc
      have hA := List.all_eq_true.1 hc.2
      have hB := List.all_eq_true.1 hp
      rw [List.pairwise_iff_getElem]
      intro p q hp hq hpq hlt
      have hsplit : L = L.take p ++ L[p] :: L.drop (p + 1) := by simp
      have hjs : L[p] < ops.size := (hL.all _).1 (List.getElem_mem _)
      have hne : edged (ops.getD L[p] default) L[q] = false := by
        cases hx : edged (ops.getD L[p] default) L[q] with
        | false => rfl
        | true =>
          have h1 := hL.follows _ _ _ hsplit _ hx
          obtain ⟨s, hs, es⟩ := List.mem_iff_getElem.1 h1
          rw [List.getElem_take] at es
          have hs' : s < p := by simp at hs; omega
          exact absurd es (List.pairwise_iff_getElem.1 hL.nodup s q (by omega) hq (by omega))
      have hm := freePairs_mem hjs hlt hne
      have h1 := hA _ hm
      have h2 := hB _ hm
      intro a b f g ha hb hf hg
      dsimp only at h1 h2
      rw [ha, hb] at h1
      rw [hf, hg] at h2
      exact ⟨h1, h2⟩
    · simp at hd

end Go.Em
