/- The abstract machine: its state in a world, and what keeps it. -/
import Derived.Test.YtjfheahakfoofaaEmRep
namespace Go.Em
variable {P : Program} {R : CodeRel}

theorem TmOk.mono {K K' : Kn} {C C' : List CB} {tm : List (Nat × X)} {tmps : Array Value} (h : TmOk K C tm tmps) (hK : KLe K K') (hC : CLe C C') : TmOk K' C' tm tmps :=
  fun n x e => let ⟨v, hv, hr⟩ := h n x e; ⟨v, hv, hr.mono hK hC⟩

theorem LoopOk.mono {K K' : Kn} {C C' : List CB} {st : LoopState} {pend : Option Ex} {tm : List (Nat × X)} {ps : List Nat} {a b : Em.C} {l : Loop}
    (h : LoopOk P R K C st pend tm ps a b l) (hK : KLe K K') (hC : CLe C C') : LoopOk P R K' C' st pend tm ps a b l :=
  ⟨h.hst, h.hpend, h.htm.mono hK hC, h.hps, h.hin, h.hcode⟩

/-- A box stays as it is while nothing that it owns is touched. -/
theorem BoxOk.mono {K K' : Kn} {C C' : List CB} {S : Nat → Nat → Prop} {w w' : World} {B : Bx} {c : CB} (h : BoxOk P R K C w B c) (hK : KLe K K') (hC : CLe C C')
    (hf : FrameOk S w w') (hs : ∀ b o, c.owns b o → ¬ S b o) : BoxOk P R K' C' w' B c := by
  cases B with
  | dead => trivial
  | var cs =>
    cases c with
    | «at» b base hi sz =>
      obtain ⟨h0, h1, arr, el, hb, hc⟩ := h
      obtain ⟨arr', hb', hz, he⟩ := hf.row hb
      refine ⟨h0, h1, arr', el, hb', ?_⟩
      have : arr' = arr := Array.ext_getElem? fun i => by
        by_cases hi' : i < hi
        · exact he i (hs b i ⟨rfl, by omega, hi'⟩)
        · have hl : arr.size = hi := by rw [h1]; simpa using hc.len
          rw [Array.getElem?_eq_none (by omega), Array.getElem?_eq_none (by omega)]
      rw [this]; exact hc.mono hK hC
    | ghost => exact h.elim
    | obj b => exact h.elim
  | row sz es =>
    cases c with
    | «at» b base hi sz' =>
      obtain ⟨h0, h1, h2, arr, el, hb, hl, hc⟩ := h
      obtain ⟨arr', hb', hz, he⟩ := hf.row hb
      refine ⟨h0, h1, h2, arr', el, hb', by omega, fun i j x hx => ?_⟩
      obtain ⟨hc1, v, hv, hr⟩ := hc i j x hx
      refine ⟨hc1, v, ?_, hr.mono hK (CLe.refl _)⟩
      rw [he]; exact hv
      refine hs b _ ⟨rfl, by omega, ?_⟩
      unfold at2 at hx
      obtain ⟨e, hei, hej⟩ := Option.bind_eq_some_iff.1 hx
      have hi1 := (List.getElem?_eq_some_iff.1 hei).1
      have hj1 := (List.getElem?_eq_some_iff.1 hej).1
      rw [h2 e (List.mem_of_getElem? hei)] at hj1
      have : i * sz + sz ≤ es.length * sz := by
        have := Nat.mul_le_mul_right sz (show i + 1 ≤ es.length from hi1)
        rw [Nat.add_mul, Nat.one_mul] at this; exact this
      omega
    | ghost => exact h
    | obj b => exact h.elim
  | loop st p tm ps a b =>
    cases c with
    | obj blk =>
      obtain ⟨l, hl, ho⟩ := h
      exact ⟨l, hf.obj hl trivial (o₀ := 0) (hs blk 0 rfl), ho.mono hK hC⟩
    | «at» => exact h.elim
    | ghost => exact h.elim

/-- The cell of a place that a box owns is there. -/
theorem BoxOk.block {K : Kn} {C : List CB} {w : World} {B : Bx} {c : CB} (h : BoxOk P R K C w B c) (hl : B.live = true) {b o : Nat} (ho : c.owns b o) : b < w.heap.size := by
  cases B with
  | dead => simp [Bx.live] at hl
  | var cs => cases c with
    | «at» => obtain ⟨_, _, arr, el, hb, _⟩ := h; obtain ⟨rfl, _⟩ := ho; exact (Array.getElem?_eq_some_iff.1 hb).1
    | ghost => exact h.elim
    | obj => exact h.elim
  | row sz es => cases c with
    | «at» => obtain ⟨_, _, _, arr, el, hb, _⟩ := h; obtain ⟨rfl, _⟩ := ho; exact (Array.getElem?_eq_some_iff.1 hb).1
    | ghost => exact ho.elim
    | obj => exact h.elim
  | loop => cases c with
    | «at» => exact h.elim
    | ghost => exact h.elim
    | obj => obtain ⟨l, hb, _⟩ := h; cases ho; exact (Array.getElem?_eq_some_iff.1 hb).1

theorem Inv.get {K : Kn} {C : List CB} {bx : List Bx} {w : World} (h : Inv P R K C bx w) {i : Nat} {B : Bx} (e : bx[i]? = some B) :
    ∃ c, C[i]? = some c ∧ BoxOk P R K C w B c := by
  have hi : i < C.length := by rw [h.size]; exact (List.getElem?_eq_some_iff.1 e).1
  exact ⟨C[i], List.getElem?_eq_getElem hi, h.box i B _ e (List.getElem?_eq_getElem hi)⟩

theorem Inv.owns_lt {K : Kn} {C : List CB} {bx : List Bx} {w : World} (h : Inv P R K C bx w) {b o : Nat} (ho : Owns C bx b o) : b < w.heap.size := by
  obtain ⟨i, c, B, hc, hb, hl, hw⟩ := ho
  exact (h.box i B c hb hc).block hl hw

theorem Inv.known_lt {K : Kn} {C : List CB} {bx : List Bx} {w : World} (h : Inv P R K C bx w) {b o : Nat} {v : Value} (e : K b o = some v) : b < w.heap.size :=
  World.block_lt_of_cell? _ _ (h.known b o v e)

/-- Nothing that is known or owned is touched. -/
theorem Inv.frame {K : Kn} {C : List CB} {bx : List Bx} {S : Nat → Nat → Prop} {w w' : World} (h : Inv P R K C bx w) (hf : FrameOk S w w')
    (hk : ∀ b o v, K b o = some v → ¬ S b o) (ho : ∀ b o, Owns C bx b o → ¬ S b o) : Inv P R K C bx w' :=
  ⟨fun b o v e => hf.cell (h.known b o v e) (hk b o v e), h.size, h.apart, h.disj, fun i B c e e' => by
    by_cases hl : B.live = true
    · exact (h.box i B c e e').mono (KLe.refl _) (CLe.refl _) hf (fun b o hw => ho b o ⟨i, c, B, e', e, hl, hw⟩)
    · cases B <;> first | trivial | simp [Bx.live] at hl⟩

def nowhere : Nat → Nat → Prop := fun _ _ => False

theorem Inv.still {K : Kn} {C : List CB} {bx : List Bx} {w w' : World} (h : Inv P R K C bx w) (hf : FrameOk nowhere w w') : Inv P R K C bx w' :=
  h.frame hf (fun _ _ _ _ => id) (fun _ _ _ => id)

/-- A box is given up. -/
theorem Inv.kill {K : Kn} {C : List CB} {bx : List Bx} {w : World} (h : Inv P R K C bx w) (i : Nat) : Inv P R K C (bx.set i .dead) w := by
  have hget : ∀ (j : Nat) (B : Bx), (bx.set i .dead)[j]? = some B → B.live = true → bx[j]? = some B := by
    intro j B e hl
    rw [List.getElem?_set] at e
    split at e
    · split at e
      · simp at e; subst e; simp [Bx.live] at hl
      · simp at e
    · exact e
  refine ⟨h.known, by simpa using h.size, ?_, ?_, ?_⟩
  · rintro b o ⟨j, c, B, hc, hb, hl, hw⟩
    exact h.apart b o ⟨j, c, B, hc, hget j B hb hl, hl, hw⟩
  · intro j k c d A B b o hne hc hd hA hB hlA hlB
    exact h.disj j k c d A B b o hne hc hd (hget j A hA hlA) (hget k B hB hlB) hlA hlB
  · intro j B c hB hc
    by_cases hl : B.live = true
    · exact h.box j B c (hget j B hB hl) hc
    · cases B <;> first | trivial | simp [Bx.live] at hl

theorem owns_kill {C : List CB} {bx : List Bx} {i b o : Nat} (h : Owns C (bx.set i .dead) b o) : Owns C bx b o := by
  obtain ⟨j, c, B, hc, hb, hl, hw⟩ := h
  refine ⟨j, c, B, hc, ?_, hl, hw⟩
  rw [List.getElem?_set] at hb
  split at hb
  · split at hb
    · simp at hb; subst hb; simp [Bx.live] at hl
    · simp at hb
  · exact hb

/-- A box more, of the call's own; what it owns was nobody's. -/
theorem Inv.push {K : Kn} {C : List CB} {bx : List Bx} {w : World} (h : Inv P R K C bx w) {B : Bx} {c : CB} (hB : BoxOk P R K (C ++ [c]) w B c)
    (hk : ∀ b o, c.owns b o → K b o = none) (ho : ∀ b o, c.owns b o → ¬ Owns C bx b o) : Inv P R K (C ++ [c]) (bx ++ [B]) w := by
  have hg : ∀ (j : Nat) (A : Bx), (bx ++ [B])[j]? = some A → (j < bx.length ∧ bx[j]? = some A) ∨ (j = bx.length ∧ A = B) := by
    intro j A e
    by_cases hj : j < bx.length
    · rw [List.getElem?_append_left hj] at e; exact .inl ⟨hj, e⟩
    · rw [List.getElem?_append_right (by omega)] at e
      have : j - bx.length = 0 := by
        have := (List.getElem?_eq_some_iff.1 e).1; simp at this; omega
      rw [this] at e; simp at e; exact .inr ⟨by omega, e.symm⟩
  have hgc : ∀ (j : Nat) (d : CB), (C ++ [c])[j]? = some d → (j < bx.length ∧ C[j]? = some d) ∨ (j = bx.length ∧ d = c) := by
    intro j d e
    rw [← h.size]
    by_cases hj : j < C.length
    · rw [List.getElem?_append_left hj] at e; exact .inl ⟨hj, e⟩
    · rw [List.getElem?_append_right (by omega)] at e
      have : j - C.length = 0 := by
        have := (List.getElem?_eq_some_iff.1 e).1; simp at this; omega
      rw [this] at e; simp at e; exact .inr ⟨by omega, e.symm⟩
  refine ⟨h.known, by simp [h.size], ?_, ?_, ?_⟩
  · rintro b o ⟨j, d, A, hd, hA, hl, hw⟩
    rcases hg j A hA with ⟨hj, hA⟩ | ⟨hj, rfl⟩
    · rcases hgc j d hd with ⟨_, hd⟩ | ⟨e, _⟩
      · exact h.apart b o ⟨j, d, A, hd, hA, hl, hw⟩
      · omega
    · rcases hgc j d hd with ⟨e, _⟩ | ⟨_, rfl⟩
      · omega
      · exact hk b o hw
  · intro j k d e A A' b o hne hd he hA hA' hl hl' hw hw'
    rcases hg j A hA with ⟨hj, hA1⟩ | ⟨hj, hA1⟩
    · rcases hgc j d hd with ⟨_, hd1⟩ | ⟨e1, _⟩
      · rcases hg k A' hA' with ⟨hk', hA2⟩ | ⟨hk', hA2⟩
        · rcases hgc k e he with ⟨_, he1⟩ | ⟨e1, _⟩
          · exact h.disj j k d e A A' b o hne hd1 he1 hA1 hA2 hl hl' hw hw'
          · omega
        · rcases hgc k e he with ⟨e1, _⟩ | ⟨_, e2⟩
          · omega
          · exact ho b o (e2 ▸ hw') ⟨j, d, A, hd1, hA1, hl, hw⟩
      · omega
    · rcases hgc j d hd with ⟨e1, _⟩ | ⟨_, e2⟩
      · omega
      · rcases hg k A' hA' with ⟨hk', hA2⟩ | ⟨hk', _⟩
        · rcases hgc k e he with ⟨_, he1⟩ | ⟨e1, _⟩
          · exact ho b o (e2 ▸ hw) ⟨k, e, A', he1, hA2, hl', hw'⟩
          · omega
        · omega
  · intro j A d hA hd
    rcases hg j A hA with ⟨hj, hA⟩ | ⟨hj, rfl⟩
    · rcases hgc j d hd with ⟨_, hd⟩ | ⟨e, _⟩
      · exact (h.box j A d hA hd).mono (KLe.refl _) (CLe.append _ _) (.refl nowhere w) (fun _ _ _ => id)
      · omega
    · rcases hgc j d hd with ⟨e, _⟩ | ⟨_, rfl⟩
      · omega
      · exact hB

theorem owns_push {C : List CB} {bx : List Bx} {B : Bx} {c : CB} {b o : Nat} (hs : C.length = bx.length) (h : Owns (C ++ [c]) (bx ++ [B]) b o) : Owns C bx b o ∨ c.owns b o := by
  obtain ⟨j, d, A, hd, hA, hl, hw⟩ := h
  by_cases hj : j < bx.length
  · rw [List.getElem?_append_left hj] at hA
    rw [List.getElem?_append_left (by omega)] at hd
    exact .inl ⟨j, d, A, hd, hA, hl, hw⟩
  · rw [List.getElem?_append_right (by omega)] at hd
    have : j - C.length = 0 := by
      have := (List.getElem?_eq_some_iff.1 hd).1; simp at this; omega
    rw [this] at hd; simp at hd
    exact .inr (hd ▸ hw)

/-- What is in a box turns, in place. -/
theorem Inv.set {K : Kn} {C : List CB} {bx : List Bx} {w w' : World} (h : Inv P R K C bx w) {i : Nat} {A B : Bx} {c : CB} (hA : bx[i]? = some A) (hl : A.live = true) (hc : C[i]? = some c)
    (hf : FrameOk (fun b o => c.owns b o) w w') (hB : BoxOk P R K C w' B c) : Inv P R K C (bx.set i B) w' := by
  have hlt := (List.getElem?_eq_some_iff.1 hA).1
  have hget : ∀ (j : Nat) (A' : Bx), (bx.set i B)[j]? = some A' → (j = i ∧ A' = B) ∨ (j ≠ i ∧ bx[j]? = some A') := by
    intro j A' e
    rw [List.getElem?_set] at e
    split at e
    · rename_i hij
      simp only [Option.some.injEq] at e; exact .inl ⟨hij.symm, e.symm⟩
    · rename_i hij; exact .inr ⟨fun e => hij e.symm, e⟩
  have hmine : ∀ b o, c.owns b o → Owns C bx b o := fun b o hw => ⟨i, c, A, hc, hA, hl, hw⟩
  have hnew : ∀ b o, Owns C (bx.set i B) b o → Owns C bx b o := by
    rintro b o ⟨j, d, A', hd, hA', hl', hw⟩
    rcases hget j A' hA' with ⟨rfl, rfl⟩ | ⟨_, hA'⟩
    · rw [hc] at hd; cases hd; exact hmine b o hw
    · exact ⟨j, d, A', hd, hA', hl', hw⟩
  refine ⟨fun b o v e => hf.cell (h.known b o v e) (fun hw => ?_), by simpa using h.size, fun b o hw => h.apart b o (hnew b o hw), ?_, ?_⟩
  · have := h.apart b o (hmine b o hw); rw [this] at e; cases e
  · intro j k d e D E b o hne hd he hD hE hlD hlE hw hw'
    rcases hget j D hD with ⟨e1, e2⟩ | ⟨hj, hD1⟩
    · rcases hget k E hE with ⟨e3, e4⟩ | ⟨hk, hE1⟩
      · exact hne (e1.trans e3.symm)
      · exact h.disj j k d e A E b o hne hd he (e1 ▸ hA) hE1 hl hlE hw hw'
    · rcases hget k E hE with ⟨e3, e4⟩ | ⟨hk, hE1⟩
      · exact h.disj j k d e D A b o hne hd he hD1 (e3 ▸ hA) hlD hl hw hw'
      · exact h.disj j k d e D E b o hne hd he hD1 hE1 hlD hlE hw hw'
  · intro j D d hD hd
    rcases hget j D hD with ⟨rfl, rfl⟩ | ⟨hj, hD⟩
    · rw [hc] at hd; cases hd; exact hB
    · by_cases hlD : D.live = true
      · exact (h.box j D d hD hd).mono (KLe.refl _) (CLe.refl _) hf (fun b o hw hw' => h.disj j i d c D A b o hj hd hc hD hA hlD hl hw hw')
      · cases D <;> first | trivial | simp [Bx.live] at hlD

theorem owns_set {C : List CB} {bx : List Bx} {i b o : Nat} {A B : Bx} (hA : bx[i]? = some A) (hl : A.live = true) (h : Owns C (bx.set i B) b o) : Owns C bx b o := by
  obtain ⟨j, c, D, hc, hb, hl', hw⟩ := h
  rw [List.getElem?_set] at hb
  split at hb
  · rename_i hij; subst hij
    exact ⟨i, c, A, hc, hA, hl, hw⟩
  · exact ⟨j, c, D, hc, hb, hl', hw⟩

/-- More is known: cells that nobody owns. -/
theorem Inv.know {K K' : Kn} {C : List CB} {bx : List Bx} {w : World} (h : Inv P R K C bx w) (hK : KLe K K') (hn : ∀ b o v, K' b o = some v → w.cell? ⟨b, o, none⟩ = some v)
    (ho : ∀ b o, Owns C bx b o → K' b o = none) : Inv P R K' C bx w :=
  ⟨hn, h.size, ho, h.disj, fun i B c e e' => (h.box i B c e e').mono hK (CLe.refl _) (.refl nowhere w) (fun _ _ _ => id)⟩

/-- A new block's cells are known. -/
def Kn.add (K : Kn) (nb : Nat) (arr : Array Value) : Kn := fun b o => if b = nb then arr[o]? else K b o

theorem Kn.add_le {K : Kn} {C : List CB} {bx : List Bx} {w : World} (h : Inv P R K C bx w) (arr : Array Value) : KLe K (K.add w.heap.size arr) := by
  intro b o v e
  have := h.known_lt e
  simp [Kn.add, Nat.ne_of_lt this, e]

theorem Inv.learn {K : Kn} {C : List CB} {bx : List Bx} {w : World} (h : Inv P R K C bx w) (arr : Array Value) (el : TypeId) :
    Inv P R (K.add w.heap.size arr) C bx (w.alloc (.cells arr el)) := by
  refine (h.still (FrameOk.alloc _ w _)).know (Kn.add_le h arr) ?_ ?_
  · intro b o v e
    unfold Kn.add at e
    split at e
    · rename_i hb; subst hb; simpa using e
    · have := h.known b o v e
      rw [World.cell?_alloc_lt _ _ _ (World.block_lt_of_cell? _ _ this)]; exact this
  · intro b o ho
    have := h.owns_lt ho
    simp [Kn.add, Nat.ne_of_lt this, h.apart b o ho]

/-! ### An activation -/
structure Ctx where
  nt : Nat
  K0 : Kn
  C0 : List CB
  loops : Nat → Bool
  w0 : World
  Fp : Nat → Nat → Prop
  rnd : Option Nat

def Bx.isLoop : Bx → Bool
  | .loop .. => true
  | _ => false

def mark (r : Nat) : Deferred := { target := .collected r, args := #[] }

structure DefOk (x : Ctx) (C : List CB) (bx : List Bx) (a : Act) (w : World) : Prop where
  marks : ∃ rs : List Nat, a.defers = rs.map mark ∧ rs.Nodup ∧ ∀ r, r ∈ rs → w.heap[r]? = some (.deferred (some [])) ∧ x.w0.heap.size ≤ r ∧ ∀ o, ¬ Owns C bx r o
  round : x.rnd.isSome = true → a.defers = []

structure Rel (P : Program) (R : CodeRel) (x : Ctx) (K : Kn) (C : List CB) (σ : St) (a : Act) (w : World) : Prop where
  inv : Inv P R K C σ.bx w
  tm : TmOk K C σ.tm a.tmps
  nt : a.tmps.size = x.nt
  k0 : KLe x.K0 K
  knew : ∀ (b o : Nat) (v : Value), K b o = some v → x.K0 b o = some v ∨ x.Fp b o ∨ x.w0.heap.size ≤ b
  own : ∀ (b o : Nat), Owns C σ.bx b o → x.Fp b o ∨ x.w0.heap.size ≤ b
  cin : ∀ (i : Nat) (c : CB), x.C0[i]? = some c → C[i]? = some c
  frame : FrameOk x.Fp x.w0 w
  defs : DefOk x C σ.bx a w
  loops : ∀ (i : Nat), i < x.C0.length → x.loops i = true → ∃ B, σ.bx[i]? = some B ∧ B.isLoop = true
  rnd : ∀ l, x.rnd = some l → ∃ i, i < x.C0.length ∧ x.loops i = true ∧ x.C0[i]? = some (.obj l)

variable {x : Ctx} {K : Kn} {C : List CB} {σ : St} {a : Act} {w : World}

theorem lk_setD (d : Option Nat) (y : X) (tm : List (Nat × X)) (n : Nat) : lk (setD d y tm) n = if d = some n then some y else lk tm n := by
  cases d with
  | none => simp [setD]
  | some d =>
    simp only [setD, lk, Option.some.injEq]
    by_cases h : d = n <;> simp [h]

theorem TmOk.set {K : Kn} {C : List CB} {tm : List (Nat × X)} {a : Act} (h : TmOk K C tm a.tmps) {y : X} {v : Value} (hr : Rep K C y v) (d : Option Nat) (hd : ∀ n, d = some n → n < a.tmps.size) :
    TmOk K C (setD d y tm) (a.put d v).tmps := by
  intro n z e
  rw [lk_setD] at e
  cases d with
  | none => simp at e; simpa [Act.put] using h n z e
  | some d =>
    by_cases hn : d = n
    · subst hn
      simp at e; subst e
      exact ⟨v, by simp [Act.put, Array.getElem?_setIfInBounds_self_of_lt (hd d rfl)], hr⟩
    · simp [hn] at e
      obtain ⟨u, hu, hr'⟩ := h n z e
      exact ⟨u, by simp [Act.put, Array.getElem?_setIfInBounds_ne hn, hu], hr'⟩

theorem put_size (a : Act) (d : Option Nat) (v : Value) : (a.put d v).tmps.size = a.tmps.size := by cases d <;> simp [Act.put]
theorem put_defers (a : Act) (d : Option Nat) (v : Value) : (a.put d v).defers = a.defers := by cases d <;> rfl

theorem DefOk.put {bx : List Bx} (h : DefOk x C bx a w) (d : Option Nat) (v : Value) : DefOk x C bx (a.put d v) w :=
  ⟨by rw [put_defers]; exact h.marks, by rw [put_defers]; exact h.round⟩

/-- A slot is written. -/
theorem Rel.set (h : Rel P R x K C σ a w) {y : X} {v : Value} (hr : Rep K C y v) (d : Option Nat) (hd : ∀ n, d = some n → n < x.nt) :
    Rel P R x K C ⟨setD d y σ.tm, σ.bx⟩ (a.put d v) w :=
  { h with tm := h.tm.set hr d (by rw [h.nt]; exact hd), nt := by rw [put_size]; exact h.nt, defs := h.defs.put d v }

/-- The world goes on, and nothing that is of concern is touched. -/
theorem Rel.still {w' : World} (h : Rel P R x K C σ a w) (hf : FrameOk nowhere w w') : Rel P R x K C σ a w' :=
  { h with
    inv := h.inv.still hf
    frame := h.frame.trans hf (fun _ _ _ => False.elim)
    defs := ⟨by
      obtain ⟨rs, h1, h2, h3⟩ := h.defs.marks
      exact ⟨rs, h1, h2, fun r hr => ⟨hf.obj (h3 r hr).1 trivial (o₀ := 0) id, (h3 r hr).2⟩⟩, h.defs.round⟩ }

/-- New cells that never change. -/
theorem Rel.learn (h : Rel P R x K C σ a w) (arr : Array Value) (el : TypeId) :
    Rel P R x (K.add w.heap.size arr) C σ a (w.alloc (.cells arr el)) := by
  have hs := h.still (FrameOk.alloc nowhere w (.cells arr el))
  exact { hs with
    inv := h.inv.learn arr el
    tm := h.tm.mono (Kn.add_le h.inv arr) (CLe.refl _)
    k0 := h.k0.trans (Kn.add_le h.inv arr)
    knew := fun b o v e => by
      unfold Kn.add at e
      split at e
      · rename_i hb; subst hb; exact .inr (.inr h.frame.size)
      · exact h.knew b o v e }

/-- A new box. -/
theorem Rel.push (h : Rel P R x K C σ a w) {B : Bx} {c : CB} (o : Obj) (hB : BoxOk P R K (C ++ [c]) (w.alloc o) B c) (hc : ∀ b k, c.owns b k → b = w.heap.size) :
    Rel P R x K (C ++ [c]) ⟨σ.tm, σ.bx ++ [B]⟩ a (w.alloc o) := by
  have hs := h.still (FrameOk.alloc nowhere w o)
  have hn : ∀ b k, c.owns b k → ¬ Owns C σ.bx b k := fun b k hw ho => by
    have := h.inv.owns_lt ho; have := hc b k hw; omega
  refine { hs with inv := ?_, tm := ?_, own := ?_, cin := ?_, defs := ?_, loops := ?_ }
  · refine hs.inv.push hB (fun b k hw => ?_) hn
    cases e : K b k with
    | none => rfl
    | some v => have := h.inv.known_lt e; have := hc b k hw; omega
  · exact hs.tm.mono (KLe.refl _) (CLe.append _ _)
  · intro b k ho
    rcases owns_push h.inv.size ho with ho | ho
    · exact h.own b k ho
    · have := hc b k ho; subst this; exact .inr h.frame.size
  · intro i d e; exact CLe.append _ _ _ _ (h.cin i d e)
  · obtain ⟨rs, h1, h2, h3⟩ := hs.defs.marks
    refine ⟨⟨rs, h1, h2, fun r hr => ⟨(h3 r hr).1, (h3 r hr).2.1, fun k ho => ?_⟩⟩, hs.defs.round⟩
    rcases owns_push h.inv.size ho with ho | ho
    · exact (h3 r hr).2.2 k ho
    · have := hc r k ho
      have h4 := (h.defs.marks)
      obtain ⟨rs', h1', _, h3'⟩ := h4
      have : rs = rs' := by
        have : rs.map mark = rs'.map mark := h1.symm.trans h1'
        have inj : ∀ l l' : List Nat, l.map mark = l'.map mark → l = l' := by
          intro l
          induction l with
          | nil => intro l' e; cases l' with | nil => rfl | cons => simp at e
          | cons y l ih => intro l' e; cases l' with
            | nil => simp at e
            | cons y' l' => simp [mark] at e; rw [e.1, ih l' (by simpa [mark] using e.2)]
        exact inj _ _ this
      subst this
      have := (Array.getElem?_eq_some_iff.1 (h3' r hr).1).1
      omega
  · intro i hi hl
    obtain ⟨B', hB', hl'⟩ := h.loops i hi hl
    exact ⟨B', by rw [List.getElem?_append_left (List.getElem?_eq_some_iff.1 hB').1]; exact hB', hl'⟩

/-- What is in a box turns, in place. -/
theorem Rel.setBox {w' : World} (h : Rel P R x K C σ a w) {i : Nat} {A B : Bx} {c : CB} (hA : σ.bx[i]? = some A) (hl : A.live = true) (hc : C[i]? = some c)
    (hf : FrameOk (fun b o => c.owns b o) w w') (hB : BoxOk P R K C w' B c) (hL : A.isLoop = true → B.isLoop = true) :
    Rel P R x K C ⟨σ.tm, σ.bx.set i B⟩ a w' := by
  have hmine : ∀ b o, c.owns b o → Owns C σ.bx b o := fun b o hw => ⟨i, c, A, hc, hA, hl, hw⟩
  refine { h with inv := ?_, own := ?_, frame := ?_, defs := ?_, loops := ?_ }
  · exact h.inv.set hA hl hc hf hB
  · intro b o ho; exact h.own b o (owns_set hA hl ho)
  · refine h.frame.trans hf (fun b o hlt hw => ?_)
    rcases h.own b o (hmine b o hw) with h' | h'
    · exact h'
    · omega
  · obtain ⟨rs, h1, h2, h3⟩ := h.defs.marks
    refine ⟨⟨rs, h1, h2, fun r hr => ⟨hf.obj (h3 r hr).1 trivial (o₀ := 0) (fun hw => (h3 r hr).2.2 0 (hmine r 0 hw)), (h3 r hr).2.1, fun o ho => (h3 r hr).2.2 o (owns_set hA hl ho)⟩⟩, h.defs.round⟩
  · intro j hj hl'
    obtain ⟨B', hB', hl''⟩ := h.loops j hj hl'
    by_cases e : i = j
    · subst e
      rw [hA] at hB'; cases hB'
      exact ⟨B, by simp [(List.getElem?_eq_some_iff.1 hA).1], hL hl''⟩
    · exact ⟨B', by rw [List.getElem?_set_ne e]; exact hB', hl''⟩

/-- A box of the call's own that is no loop of another's is given up. -/
theorem Rel.kill (h : Rel P R x K C σ a w) (i : Nat) (hi : ∀ B, σ.bx[i]? = some B → B.isLoop = true → ¬ i < x.C0.length) : Rel P R x K C ⟨σ.tm, σ.bx.set i .dead⟩ a w := by
  refine { h with inv := h.inv.kill i, own := fun b o ho => h.own b o (owns_kill ho), defs := ?_, loops := ?_ }
  · obtain ⟨rs, h1, h2, h3⟩ := h.defs.marks
    exact ⟨⟨rs, h1, h2, fun r hr => ⟨(h3 r hr).1, (h3 r hr).2.1, fun o ho => (h3 r hr).2.2 o (owns_kill ho)⟩⟩, h.defs.round⟩
  · intro j hj hl'
    obtain ⟨B', hB', hl''⟩ := h.loops j hj hl'
    by_cases e : i = j
    · subst e; exact absurd hj (hi B' hB' hl'')
    · exact ⟨B', by rw [List.getElem?_set_ne e]; exact hB', hl''⟩

/-- Slots are forgotten, or renamed: whatever is still said of them holds. -/
theorem Rel.tms (h : Rel P R x K C σ a w) {tm : List (Nat × X)} (ht : TmOk K C tm a.tmps) : Rel P R x K C ⟨tm, σ.bx⟩ a w :=
  { h with tm := ht }

theorem lk_keep (live : List Nat) (tm : List (Nat × X)) (n : Nat) (y : X) (e : lk (keep live tm) n = some y) : lk tm n = some y := by
  induction live with
  | nil => simp [keep, lk] at e
  | cons k r ih =>
    simp only [keep, List.filterMap_cons] at e ih
    cases hk : lk tm k with
    | none => simp only [hk, Option.map_none] at e; exact ih e
    | some z =>
      simp only [hk, Option.map_some, lk] at e
      by_cases h : k = n
      · subst h; simp at e; rw [hk, e]
      · have : (k == n) = false := by simpa using h
        simp only [this] at e
        exact ih e

theorem TmOk.keep {tm : List (Nat × X)} {tmps : Array Value} (h : TmOk K C tm tmps) (live : List Nat) : TmOk K C (keep live tm) tmps :=
  fun n y e => h n y (lk_keep live tm n y e)

end Go.Em
