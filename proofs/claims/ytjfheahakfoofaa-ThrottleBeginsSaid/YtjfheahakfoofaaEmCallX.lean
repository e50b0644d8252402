/- The abstract machine: calls are sound. -/
import Derived.Test.YtjfheahakfoofaaEmCall
namespace Go.Em
variable {P : Program} {R : CodeRel} {x : Ctx} {K : Kn} {C : List CB} {σ : St} {a : Act} {w : World}
variable {o : Oper} {y : X} {bx : List Bx} {A : Ann} {Γ : Gam}

/-! ### A value read as data -/
theorem dataL_get {raw : Bool} : ∀ {cs ds : List X}, dataL bx raw cs = some ds → ds.length = cs.length ∧ ∀ (j : Nat) (z : X), cs[j]? = some z → ∃ z', ds[j]? = some z' ∧ z.data bx raw = some z'
  | [], ds, h => by simp only [dataL, Option.some.injEq] at h; subst h; simp
  | z :: r, ds, h => by
    simp only [dataL] at h
    cases hz : z.data bx raw with
    | none => simp [hz] at h
    | some z' =>
      simp only [hz] at h
      obtain ⟨l, hl, rfl⟩ := Option.map_eq_some_iff.1 h
      obtain ⟨h1, h2⟩ := dataL_get hl
      refine ⟨by simp [h1], fun j u e => ?_⟩
      cases j with
      | zero => simp at e; subst e; exact ⟨z', rfl, hz⟩
      | succ j => simp at e; simpa using h2 j u e

theorem data_cell {raw : Bool} {z z' : X} (h : z.data bx raw = some z') : z'.isCell = z.isCell := by
  cases z with
  | bs i off len =>
    simp only [X.data] at h
    obtain ⟨p, _, rfl⟩ := Option.map_eq_some_iff.1 h
    rfl
  | agg cs => simp only [X.data] at h; obtain ⟨p, _, rfl⟩ := Option.map_eq_some_iff.1 h; rfl
  | tup cs => simp only [X.data] at h; obtain ⟨p, _, rfl⟩ := Option.map_eq_some_iff.1 h; rfl
  | _ => simp only [X.data, Option.some.injEq] at h; subst h; rfl

theorem mem_rowsL {i : Nat} : ∀ {cs : List X}, i ∈ rowsL cs ↔ ∃ z, z ∈ cs ∧ i ∈ z.rows
  | [] => by simp [rowsL]
  | z :: r => by simp [rowsL, mem_rowsL (cs := r)]

/-- Where the cells of the rows are known, or there are none, the data read as the value did. -/
theorem Rep.data {K2 : Kn} {raw : Bool} (hI : Inv P R K C bx w) (hK : KLe K K2) {z : X} {v : Value} (h : Rep K C z v)
    (hrow : (∀ (b o : Nat) (u : Value), Owns C bx b o → w.cell? ⟨b, o, none⟩ = some u → K2 b o = some u) ∨ z.rows = []) : ∀ {z' : X}, z.data bx raw = some z' → Rep K2 C z' v := by
  induction h with
  | v h => intro z' e; simp only [X.data, Option.some.injEq] at e; subst e; exact .v h
  | slNil => intro z' e; simp only [X.data, Option.some.injEq] at e; subst e; exact .slNil
  | sl vals hlen ht hcap hcell hk hr ih =>
    intro z' e; simp only [X.data, Option.some.injEq] at e; subst e
    exact .sl vals hlen (fun e => ht (by simp at e; exact e.2)) hcap hcell (fun i j z e => hK _ _ _ (hk i j z e)) (fun i j z e => (hr i j z e).mono hK (CLe.refl _))
  | bs hc hcap hlen =>
    rename_i C i off len b base hi sz cap
    intro z' e
    simp only [X.data] at e
    obtain ⟨p, hp, rfl⟩ := Option.map_eq_some_iff.1 e
    unfold rowOf at hp
    split at hp
    · rename_i s es hb
      split at hp
      · rename_i hle
        simp only [Option.some.injEq] at hp; subst hp
        obtain ⟨arr, el, g1, g2, g3, hbl, hf⟩ := (hI.box i _ _ hb hc).flat
        subst g1
        have hlen' : ((es.drop off).take len).length = len := by simp; omega
        rcases hrow with hrow | hrow
        · have := (((hf.drop off).take len).mono hK).rep (K := K2) (C := C) (t := false) (b := b) (o := base + off * sz) (cap := cap) (fun k u hu => ?_) (by simp) (by omega)
          · rw [hlen'] at this; exact this
          · rw [List.getElem?_take] at hu
            split at hu
            · rename_i hk1
              rw [List.getElem?_drop, List.getElem?_take] at hu
              split at hu
              · rename_i hk2
                rw [List.getElem?_drop, toArray_getElem?] at hu
                have e1 : base + off * sz + k = base + (off * sz + k) := by omega
                refine hrow b _ u ⟨i, _, _, hc, hb, rfl, rfl, by omega, ?_⟩ ?_
                · omega
                · simp only [World.cell?, hbl, e1]; simpa using hu
              · simp at hu
            · simp at hu
        · simp [X.rows] at hrow
      · simp at hp
    · simp at hp
  | bsNil hc hob =>
    rename_i C i ob
    intro z' e
    simp only [X.data] at e
    obtain ⟨p, hp, rfl⟩ := Option.map_eq_some_iff.1 e
    unfold rowOf at hp
    split at hp
    · split at hp
      · simp only [Option.some.injEq] at hp; subst hp
        simp only [List.take_zero]; exact .empty hob (fun _ => rfl) (fun _ => rfl)
      · simp at hp
    · simp at hp
  | ptr hc => intro z' e; simp only [X.data, Option.some.injEq] at e; subst e; exact .ptr hc
  | dp vals hcell hk hr ih =>
    intro z' e; simp only [X.data, Option.some.injEq] at e; subst e
    exact .dp vals hcell (fun j z e => hK _ _ _ (hk j z e)) (fun j z e => (hr j z e).mono hK (CLe.refl _))
  | fn hs hr ih =>
    intro z' e; simp only [X.data, Option.some.injEq] at e; subst e
    exact .fn hs (fun j z v e e' => (hr j z v e e').mono hK (CLe.refl _))
  | agg hs hcell hr ih =>
    intro z' e
    simp only [X.data] at e
    obtain ⟨ds, hd, rfl⟩ := Option.map_eq_some_iff.1 e
    obtain ⟨h1, h2⟩ := dataL_get hd
    rename_i C cs vs
    refine .agg (by rw [hs, h1]) (fun z hz => ?_) (fun j z v e e' => ?_)
    · obtain ⟨j, hj, rfl⟩ := List.mem_iff_getElem.1 hz
      obtain ⟨z', e1, e2⟩ := h2 j cs[j] (List.getElem?_eq_getElem (by omega))
      rw [List.getElem?_eq_getElem hj] at e1; cases e1
      rw [data_cell e2]; exact hcell _ (List.getElem_mem _)
    · have hj := (List.getElem?_eq_some_iff.1 e).1
      obtain ⟨z', e1, e2⟩ := h2 j cs[j] (List.getElem?_eq_getElem (by omega))
      rw [e] at e1; cases e1
      refine ih j _ v (List.getElem?_eq_getElem (by omega)) e' hI (hrow.imp_right fun hn => ?_) e2
      refine List.eq_nil_iff_forall_not_mem.2 fun i hi => ?_
      have : i ∈ rowsL cs := mem_rowsL.2 ⟨cs[j], List.getElem_mem _, hi⟩
      simp only [X.rows] at hn; rw [hn] at this; simp at this
  | tup hs hr ih =>
    intro z' e
    simp only [X.data] at e
    obtain ⟨ds, hd, rfl⟩ := Option.map_eq_some_iff.1 e
    obtain ⟨h1, h2⟩ := dataL_get hd
    rename_i C cs vs
    refine .tup (by rw [hs, h1]) (fun j z v e e' => ?_)
    have hj := (List.getElem?_eq_some_iff.1 e).1
    obtain ⟨z', e1, e2⟩ := h2 j cs[j] (List.getElem?_eq_getElem (by omega))
    rw [e] at e1; cases e1
    refine ih j _ v (List.getElem?_eq_getElem (by omega)) e' hI (hrow.imp_right fun hn => ?_) e2
    refine List.eq_nil_iff_forall_not_mem.2 fun i hi => ?_
    have : i ∈ rowsL cs := mem_rowsL.2 ⟨cs[j], List.getElem_mem _, hi⟩
    simp only [X.rows] at hn; rw [hn] at this; simp at this
  | yl hc => intro z' e; simp only [X.data, Option.some.injEq] at e; subst e; exact .yl hc

theorem mem_plainL : ∀ {cs : List X}, plainL cs = true → ∀ z, z ∈ cs → z.plain = true
  | [], _, _, h => by simp at h
  | z :: r, h, u, hu => by
    simp only [plainL, Bool.and_eq_true] at h
    rcases List.mem_cons.1 hu with rfl | hu
    · exact h.1
    · exact mem_plainL h.2 u hu

theorem Rep.plain {K2 : Kn} {z : X} {v : Value} (h : Rep K C z v) : ∀ {C2 : List CB}, z.plain = true → Rep K2 C2 z v := by
  induction h with
  | v h => exact fun _ => .v h
  | agg hs hcell hr ih => exact fun hp => .agg hs hcell (fun j z v e e' => ih j z v e e' (mem_plainL (by simpa [X.plain] using hp) z (List.mem_of_getElem? e)))
  | tup hs hr ih => exact fun hp => .tup hs (fun j z v e e' => ih j z v e e' (mem_plainL (by simpa [X.plain] using hp) z (List.mem_of_getElem? e)))
  | fn hs hr ih => exact fun hp => .fn hs (fun j z v e e' => ih j z v e e' (mem_plainL (by simpa [X.plain] using hp) z (List.mem_of_getElem? e)))
  | _ => intro _ hp; simp [X.plain] at hp

/-! ### The calls -/
def BackTo (P : Program) (R : CodeRel) (x : Ctx) (C : List CB) (tm : List (Nat × X)) (bx : List Bx) (a : Act) (y : X) (e : Ending) (w' : World) : Prop :=
  ∃ (v : Value) (K' : Kn) (C' : List CB), e = .returned v ∧ CLe C C' ∧ Em.Rel P R x K' C' ⟨tm, bx⟩ a w' ∧ Rep K' C' y v

theorem BackTo.step {tm : List (Nat × X)} {e : Ending} {w' : World} (h : BackTo P R x C tm bx a y e w') : ∃ (v : Value) (K' : Kn) (C' : List CB), e = .returned v ∧ Em.Rel P R x K' C' ⟨tm, bx⟩ a w' ∧ Rep K' C' y v :=
  let ⟨v, K', C', h1, _, h2, h3⟩ := h
  ⟨v, K', C', h1, h2, h3⟩

theorem argsRep_ren {C' : List CB} {f : Nat → Nat} {args : List X} {cargs : Array Value} (h : ArgsRep K C args cargs) (hC : ∀ i, i ∈ refsL args → ∀ c, C[i]? = some c → C'[f i]? = some c) : ArgsRep K C' (renL f args) cargs := by
  refine ⟨by rw [renL_eq]; simpa using h.1, fun j z v e e' => ?_⟩
  rw [renL_eq, List.getElem?_map] at e
  obtain ⟨u, hu, rfl⟩ := Option.map_eq_some_iff.1 e
  exact (h.2 j u v hu e').ren fun i hi => hC i (mem_refsL.2 ⟨u, List.mem_of_getElem? hu, hi⟩)

theorem callRef_fn (hΓ : GamOk P R Γ) (h : Rel P R x K C σ a w) {g : FuncId} {args : List X} {cargs : Array Value} {bx' : List Bx} {sel : List Nat} (hargs : ArgsRep K C args cargs) (e : callRef Γ (.fn g) args σ.bx = some (y, bx', sel)) :
    FnOk P g ∧ Calls P g cargs w (BackTo P R x C σ.tm bx' a y) := by
  unfold callRef at e
  dsimp only at e
  split at e
  · rename_i hsub
    split at e
    · simp at e
    · rename_i inb hpick
      split at e
      · simp at e
      · rename_i r outb hcall
        split at e
        · rename_i hle
          simp only [Option.some.injEq, Prod.mk.injEq] at e
          obtain ⟨rfl, rfl, rfl⟩ := e
          obtain ⟨C1, hI, hl1, hC1, hin, hinl, hnd, hC1', hidx⟩ := h.inv.pick hpick
          obtain ⟨hok, hsem⟩ := hΓ.fn g _ _ _ _ hcall
          refine ⟨hok, (hsem K C1 w cargs hI (argsRep_ren hargs fun i hi => hidx i (subN_iff.1 hsub i hi))).mono ?_⟩
          rintro e w' ⟨v, K', E, rfl, hp⟩
          obtain ⟨h1, h2⟩ := call_back h hC1' hl1 hin hinl hnd hp hle
          exact ⟨v, K', C ++ E, rfl, CLe.append _ _, h1, h2⟩
        · simp at e
  · simp at e

theorem callRef_yl (hΓ : GamOk P R Γ) (h : Rel P R x K C σ a w) {i l : Nat} {as : List X} {cargs : Array Value} {bx' : List Bx} {sel : List Nat} (hi : C[i]? = some (.obj l)) (hargs : ArgsRep K C as cargs) (e : callRef Γ .yl (.yl i :: as) σ.bx = some (y, bx', sel)) (r : Option Nat) :
    ∃ (f : FuncId) (tmps : Array Value) (assign body : Code), (Instr.yield l cargs).run P w = .ok (.round l f tmps assign body) w ∧ RoundIn (Fr r) 0 P l f tmps assign body w (BackTo P R x C σ.tm bx' a y) := by
  unfold callRef at e
  dsimp only at e
  split at e
  · rename_i hsub
    split at e
    · simp at e
    · rename_i inb hpick
      split at e
      · simp at e
      · rename_i res outb hcall
        split at e
        · rename_i hle
          simp only [Option.some.injEq, Prod.mk.injEq] at e
          obtain ⟨rfl, rfl, rfl⟩ := e
          obtain ⟨C1, hI, hl1, hC1, hin, hinl, hnd, hC1', hidx⟩ := h.inv.pick hpick
          obtain ⟨i', as', he, hsem⟩ := hΓ.yl _ _ _ _ hcall
          simp only [renL, X.ren, List.cons.injEq, X.yl.injEq] at he
          obtain ⟨rfl, rfl⟩ := he
          have hsubs := subN_iff.1 hsub
          obtain ⟨f, tmps, assign, body, hrun, hround⟩ := hsem K C1 w cargs l r hI (hidx i (hsubs i (by simp [refsL, X.refs])) _ hi) (argsRep_ren hargs fun k hk => hidx k (hsubs k (by simp [refsL, hk])))
          refine ⟨f, tmps, assign, body, hrun, hround.mono ?_⟩
          rintro e w' ⟨v, K', E, rfl, hp⟩
          obtain ⟨h1, h2⟩ := call_back h hC1' hl1 hin hinl hnd hp hle
          exact ⟨v, K', C ++ E, rfl, CLe.append _ _, h1, h2⟩
        · simp at e
  · simp at e

theorem noRef_of_isEmpty {xs : List X} (h : (refsL xs).isEmpty = true) {z : X} (hz : z ∈ xs) : z.refs = [] := by
  refine List.eq_nil_iff_forall_not_mem.2 fun n hn => ?_
  have h1 : n ∈ refsL xs := mem_refsL.2 ⟨z, hz, hn⟩
  rw [List.isEmpty_iff.1 h] at h1; simp at h1

/-- Everything that lies in a world. -/
def seen (w : World) : Kn := fun b o => w.cell? ⟨b, o, none⟩

theorem owns_nil {b o : Nat} : ¬ Owns [] [] b o := by
  rintro ⟨i, c, B, h, _⟩; simp at h

theorem pureD_sound (hΓ : GamOk P R Γ) (h : Rel P R x K C σ a w) {g : FuncId} {args : List X} {cargs : Array Value} (hargs : ArgsRep K C args cargs) (hno : (refsL args).isEmpty = true) (e : Γ.pureD g args = some y) (hny : noRef y = true) :
    FnOk P g ∧ Calls P g cargs w (BackTo P R x C σ.tm σ.bx a y) := by
  unfold Gam.pureD at e
  split at e
  · rename_i r outb hcall
    obtain ⟨hok, hsem⟩ := hΓ.fn g _ _ _ _ hcall
    have hI : Inv P R K [] [] w := ⟨h.inv.known, rfl, fun b o ho => (owns_nil ho).elim, fun i j c d A B b o _ hc => by simp at hc, fun i B c hB => by simp at hB⟩
    refine ⟨hok, (hsem K [] w cargs hI ⟨hargs.1, fun j z v e e' => (hargs.2 j z v e e').noRef (noRef_of_isEmpty hno (List.mem_of_getElem? e))⟩).mono ?_⟩
    rintro e' w' ⟨v, K', E, rfl, hp⟩
    have hf : FrameOk nowhere w w' := hp.frame.mono (fun b o _ ho => (owns_nil ho).elim)
    let K2 : Kn := fun b o => match K' b o with
      | some u => some u
      | none => if w.heap.size ≤ b then w'.cell? ⟨b, o, none⟩ else none
    have hK2 : KLe K' K2 := fun b o u e => by simp only [K2, e]
    have hrep : Rep K2 ([] ++ E) y v := hp.res.data hp.inv hK2 (.inl fun b o u ho hu => by
      simp only [K2]
      cases e1 : K' b o with
      | some u' => have := hp.inv.known b o u' e1; rw [hu] at this; cases this; rfl
      | none =>
        rcases hp.own b o ho with h1 | h1
        · exact (owns_nil h1).elim
        · simp [h1, hu]) e
    have hnr : y.refs = [] := by simpa [noRef] using hny
    have hknew : ∀ (b o : Nat) (u : Value), K2 b o = some u → K b o = some u ∨ w.heap.size ≤ b := by
      intro b o u e1
      simp only [K2] at e1
      split at e1
      · rename_i u' e2
        cases e1
        rcases hp.knew b o _ e2 with h1 | h1 | h1
        · exact .inl h1
        · exact (owns_nil h1).elim
        · exact .inr h1
      · split at e1
        · rename_i h1; exact .inr h1
        · simp at e1
    have hs := h.still hf
    refine ⟨v, K2, C, rfl, CLe.refl _, { hs with inv := ?_, tm := hs.tm.mono (hp.kle.trans hK2) (CLe.refl _), k0 := h.k0.trans (hp.kle.trans hK2), knew := ?_ }, hrep.noRef hnr⟩
    · refine hs.inv.know (hp.kle.trans hK2) (fun b o u e1 => ?_) (fun b o ho => ?_)
      · simp only [K2] at e1
        split at e1
        · rename_i u' e2; cases e1; exact hp.inv.known b o _ e2
        · split at e1
          · exact e1
          · simp at e1
      · cases e1 : K2 b o with
        | none => rfl
        | some u =>
          rcases hknew b o u e1 with h1 | h1
          · rw [h.inv.apart b o ho] at h1; cases h1
          · have := h.inv.owns_lt ho; omega
    · intro b o u e1
      rcases hknew b o u e1 with h1 | h1
      · exact h.knew b o u h1
      · exact .inr (.inr (Nat.le_trans h.frame.size h1))
  · simp at e

/-- The same, where rows of the call's own are read: what comes back bears no address. -/
theorem pureD_plain (hΓ : GamOk P R Γ) (h : Rel P R x K C σ a w) {g : FuncId} {args : List X} {cargs : Array Value} (hargs : ArgsRep (seen w) C args cargs) (hno : (refsL args).isEmpty = true) (e : Γ.pureD g args = some y) (hny : y.plain = true) :
    FnOk P g ∧ Calls P g cargs w (BackTo P R x C σ.tm σ.bx a y) := by
  unfold Gam.pureD at e
  split at e
  · rename_i r outb hcall
    obtain ⟨hok, hsem⟩ := hΓ.fn g _ _ _ _ hcall
    have hI : Inv P R (seen w) [] [] w := ⟨fun b o v e => e, rfl, fun b o ho => (owns_nil ho).elim, fun i j c d A B b o _ hc => by simp at hc, fun i B c hB => by simp at hB⟩
    refine ⟨hok, (hsem (seen w) [] w cargs hI ⟨hargs.1, fun j z v e e' => (hargs.2 j z v e e').noRef (noRef_of_isEmpty hno (List.mem_of_getElem? e))⟩).mono ?_⟩
    rintro e' w' ⟨v, K', E, rfl, hp⟩
    have hf : FrameOk nowhere w w' := hp.frame.mono (fun b o _ ho => (owns_nil ho).elim)
    have hrep : Rep (seen w') ([] ++ E) y v := hp.res.data hp.inv (fun b o u e => hp.inv.known b o u e) (.inl fun b o u _ hu => hu) e
    exact ⟨v, K, C, rfl, CLe.refl _, h.still hf, hrep.plain hny⟩
  · simp at e

end Go.Em
