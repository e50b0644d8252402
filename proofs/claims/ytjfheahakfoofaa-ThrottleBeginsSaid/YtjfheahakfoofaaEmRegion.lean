/- The abstract machine: whatever order a region draws, it ends as it does in the order of the text. -/
import Derived.Test.YtjfheahakfoofaaEmOrder
namespace Go.Em
variable {P : Program} {R : CodeRel} {x : Ctx} {K : Kn} {C : List CB} {σ : St} {a : Act} {w : World}
variable {A : Ann} {Γ : Gam}

/-! ### What an operation looks at -/
theorem ev_bx (tm : List (Nat × X)) (b b' : List Bx) (q : Opd) : St.ev ⟨tm, b⟩ q = St.ev ⟨tm, b'⟩ q := by cases q <;> rfl
theorem evs_bx (tm : List (Nat × X)) (b b' : List Bx) : ∀ l, evs ⟨tm, b⟩ l = evs ⟨tm, b'⟩ l
  | [] => rfl
  | q :: r => by simp only [evs, ev_bx tm b b' q, evs_bx tm b b' r]
theorem parts3_bx (tm : List (Nat × X)) (b b' : List Bx) : ∀ l, parts3 ⟨tm, b⟩ l = parts3 ⟨tm, b'⟩ l
  | [] => rfl
  | (i, j, q) :: r => by simp only [parts3, ev_bx tm b b' q, parts3_bx tm b b' r]
theorem parts2_bx (tm : List (Nat × X)) (b b' : List Bx) : ∀ l, parts2 ⟨tm, b⟩ l = parts2 ⟨tm, b'⟩ l
  | [] => rfl
  | (i, q) :: r => by simp only [parts2, ev_bx tm b b' q, parts2_bx tm b b' r]
theorem optNat_bx (tm : List (Nat × X)) (b b' : List Bx) (d : Nat) (l : Option Opd) : optNat ⟨tm, b⟩ d l = optNat ⟨tm, b'⟩ d l := by
  cases l <;> simp only [optNat]; rw [ev_bx tm b b']

/-- The same operands. -/
def SameOn (tm tm' : List (Nat × X)) (l : List Opd) : Prop := ∀ n, Opd.t n ∈ l → lk tm n = lk tm' n

theorem ev_on {tm tm' : List (Nat × X)} {b : List Bx} {l : List Opd} (h : SameOn tm tm' l) {q : Opd} (hq : q ∈ l) : St.ev ⟨tm, b⟩ q = St.ev ⟨tm', b⟩ q := by
  cases q with
  | t n => exact h n hq
  | k y => rfl
theorem evs_on {tm tm' : List (Nat × X)} {b : List Bx} {l : List Opd} (h : SameOn tm tm' l) : ∀ {m : List Opd}, (∀ q, q ∈ m → q ∈ l) → evs ⟨tm, b⟩ m = evs ⟨tm', b⟩ m
  | [], _ => rfl
  | q :: r, hm => by simp only [evs, ev_on (b := b) h (hm q (by simp)), evs_on h (m := r) (fun q hq => hm q (by simp [hq]))]
theorem parts3_on {tm tm' : List (Nat × X)} {b : List Bx} {l : List Opd} (h : SameOn tm tm' l) : ∀ {m : List (Nat × Nat × Opd)}, (∀ q, q ∈ m.map (·.2.2) → q ∈ l) → parts3 ⟨tm, b⟩ m = parts3 ⟨tm', b⟩ m
  | [], _ => rfl
  | (i, j, q) :: r, hm => by simp only [parts3, ev_on (b := b) h (hm q (by simp)), parts3_on h (m := r) (fun q hq => hm q (by simp at hq ⊢; exact .inr hq))]
theorem parts2_on {tm tm' : List (Nat × X)} {b : List Bx} {l : List Opd} (h : SameOn tm tm' l) : ∀ {m : List (Nat × Opd)}, (∀ q, q ∈ m.map (·.2) → q ∈ l) → parts2 ⟨tm, b⟩ m = parts2 ⟨tm', b⟩ m
  | [], _ => rfl
  | (i, q) :: r, hm => by simp only [parts2, ev_on (b := b) h (hm q (by simp)), parts2_on h (m := r) (fun q hq => hm q (by simp at hq ⊢; exact .inr hq))]
theorem optNat_on {tm tm' : List (Nat × X)} {b : List Bx} {l : List Opd} (h : SameOn tm tm' l) {d : Nat} {m : Option Opd} (hm : ∀ q, q ∈ m.toList → q ∈ l) : optNat ⟨tm, b⟩ d m = optNat ⟨tm', b⟩ d m := by
  cases m with
  | none => rfl
  | some q => simp only [optNat]; rw [ev_on h (hm q (by simp))]

theorem loadX_tm (tm tm' : List (Nat × X)) (b : List Bx) (n : Option Nat) (p : X) : loadX ⟨tm, b⟩ n p = loadX ⟨tm', b⟩ n p := rfl

theorem stepI_on {tm tm' : List (Nat × X)} {b : List Bx} {i : I} (h : SameOn tm tm' i.opds) : stepI Γ ⟨tm, b⟩ i = stepI Γ ⟨tm', b⟩ i := by
  cases i with
  | build z ps => simp only [stepI, parts3_on (b := b) h (fun q hq => by simpa [I.opds] using hq)]
  | bslice n z ps => simp only [stepI, parts2_on (b := b) h (fun q hq => by simpa [I.opds] using hq)]
  | mkfn f l => simp only [stepI, evs_on (b := b) h (fun q hq => by simpa [I.opds] using hq)]
  | mm m l => simp only [stepI, evs_on (b := b) h (fun q hq => by simpa [I.opds] using hq)]
  | call o r w f l => simp only [stepI, ev_on (b := b) h (q := f) (by simp [I.opds]), evs_on (b := b) h (m := l) (fun q hq => by simp [I.opds, hq])]
  | slice s y lo hi mx =>
    have e1 := ev_on (b := b) h (q := y) (by simp [I.opds])
    have e2 := optNat_on (b := b) h (d := 0) (m := lo) (fun q hq => by simp only [I.opds, List.mem_cons, List.mem_append]; exact .inr (.inl (.inl hq)))
    have e3 := fun d => optNat_on (b := b) h (d := d) (m := hi) (fun q hq => by simp only [I.opds, List.mem_cons, List.mem_append]; exact .inr (.inl (.inr hq)))
    have e4 : ∀ q, mx = some q → St.ev ⟨tm, b⟩ q = St.ev ⟨tm', b⟩ q := fun q hq => ev_on (b := b) h (q := q) (by subst hq; simp [I.opds])
    cases mx with
    | none => simp only [stepI, e1, e2, e3]
    | some q => simp only [stepI, e1, e2, e3, e4 q rfl]
  | sslice y lo hi =>
    have hm : ∀ q, q ∈ (I.sslice y lo hi).opds ↔ q = y ∨ q ∈ lo.toList ∨ q ∈ hi.toList := by
      intro q; cases lo <;> cases hi <;> simp [I.opds]
    have e1 := ev_on (b := b) h (q := y) ((hm y).2 (.inl rfl))
    have e2 := optNat_on (b := b) h (d := 0) (m := lo) (fun q hq => (hm q).2 (.inr (.inl hq)))
    have e3 := fun d => optNat_on (b := b) h (d := d) (m := hi) (fun q hq => (hm q).2 (.inr (.inr hq)))
    simp only [stepI, e1, e2, e3]
  | pick c p q => simp only [stepI, ev_on (b := b) h (q := c) (by simp [I.opds]), ev_on (b := b) h (q := p) (by simp [I.opds]), ev_on (b := b) h (q := q) (by simp [I.opds])]
  | alloc z => rfl
  | load n p => simp only [stepI, ev_on (b := b) h (q := p) (by simp [I.opds]), loadX_tm tm tm' b]
  | store n p q => simp only [stepI, ev_on (b := b) h (q := p) (by simp [I.opds]), ev_on (b := b) h (q := q) (by simp [I.opds])]
  | bin o p q => simp only [stepI, ev_on (b := b) h (q := p) (by simp [I.opds]), ev_on (b := b) h (q := q) (by simp [I.opds])]
  | beq o p q => simp only [stepI, ev_on (b := b) h (q := p) (by simp [I.opds]), ev_on (b := b) h (q := q) (by simp [I.opds])]
  | mksl n z p q => simp only [stepI, ev_on (b := b) h (q := p) (by simp [I.opds]), ev_on (b := b) h (q := q) (by simp [I.opds])]
  | iaddr ar s p q => simp only [stepI, ev_on (b := b) h (q := p) (by simp [I.opds]), ev_on (b := b) h (q := q) (by simp [I.opds])]
  | aidx n s r p q => simp only [stepI, ev_on (b := b) h (q := p) (by simp [I.opds]), ev_on (b := b) h (q := q) (by simp [I.opds])]
  | sidx p q => simp only [stepI, ev_on (b := b) h (q := p) (by simp [I.opds]), ev_on (b := b) h (q := q) (by simp [I.opds])]
  | app o s n p q => simp only [stepI, ev_on (b := b) h (q := p) (by simp [I.opds]), ev_on (b := b) h (q := q) (by simp [I.opds])]
  | mov p => simp only [stepI, ev_on (b := b) h (q := p) (by simp [I.opds])]
  | box p => simp only [stepI, ev_on (b := b) h (q := p) (by simp [I.opds])]
  | snil n p => simp only [stepI, ev_on (b := b) h (q := p) (by simp [I.opds])]
  | un n p => simp only [stepI, ev_on (b := b) h (q := p) (by simp [I.opds])]
  | conv n p => simp only [stepI, ev_on (b := b) h (q := p) (by simp [I.opds])]
  | idc p => simp only [stepI, ev_on (b := b) h (q := p) (by simp [I.opds])]
  | faddr n p => simp only [stepI, ev_on (b := b) h (q := p) (by simp [I.opds])]
  | field n s p => simp only [stepI, ev_on (b := b) h (q := p) (by simp [I.opds])]
  | nilck p => simp only [stepI, ev_on (b := b) h (q := p) (by simp [I.opds])]
  | extract p n => simp only [stepI, ev_on (b := b) h (q := p) (by simp [I.opds])]
  | len p => simp only [stepI, ev_on (b := b) h (q := p) (by simp [I.opds])]
  | slen p => simp only [stepI, ev_on (b := b) h (q := p) (by simp [I.opds])]

theorem rowOf_on {b b' : List Bx} {i off len : Nat} (h : b'[i]? = b[i]?) : rowOf b' i off len = rowOf b i off len := by simp only [rowOf, h]

mutual
theorem data_on {b b' : List Bx} {raw : Bool} : ∀ (z : X), (∀ i, i ∈ z.rows → b'[i]? = b[i]?) → z.data b' raw = z.data b raw
  | .bs i off len, h => by simp only [X.data, rowOf_on (h i (by simp [X.rows]))]
  | .agg cs, h => by simp only [X.data, dataL_on cs (fun i hi => h i (by simpa [X.rows] using hi))]
  | .tup cs, h => by simp only [X.data, dataL_on cs (fun i hi => h i (by simpa [X.rows] using hi))]
  | .ptr .., _ => rfl
  | .yl _, _ => rfl
  | .fn .., _ => rfl
  | .v _, _ => rfl
  | .sl .., _ => rfl
  | .dp _, _ => rfl
theorem dataL_on {b b' : List Bx} {raw : Bool} : ∀ (cs : List X), (∀ i, i ∈ rowsL cs → b'[i]? = b[i]?) → dataL b' raw cs = dataL b raw cs
  | [], _ => rfl
  | z :: r, h => by simp only [dataL, data_on z (fun i hi => h i (by simp [rowsL, hi])), dataL_on r (fun i hi => h i (by simp [rowsL, hi]))]
end

theorem loadX_on {tm : List (Nat × X)} {b b' : List Bx} {n : Option Nat} {p : X} (h : ∀ i, i ∈ boxesRead p → b'[i]? = b[i]?) : loadX ⟨tm, b'⟩ n p = loadX ⟨tm, b⟩ n p := by
  have : loadCs ⟨tm, b'⟩ p = loadCs ⟨tm, b⟩ p := by
    cases p with
    | ptr i e o => simp only [loadCs, h i (by simp [boxesRead])]
    | _ => rfl
  simp only [loadX, this]

theorem srcOf_on {b b' : List Bx} {p : X} (h : ∀ i, i ∈ p.rows → b'[i]? = b[i]?) : srcOf b' p = srcOf b p := by
  cases p with
  | bs i off len => simp only [srcOf, rowOf_on (h i (by simp [X.rows]))]
  | _ => rfl

end Go.Em
