/- The abstract machine: what is done beside the program is sound. -/
import Derived.Test.YtjfheahakfoofaaEmReg
namespace Go.Em
variable {P : Program} {R : CodeRel} {x : Ctx} {K : Kn} {C : List CB} {σ : St} {a : Act} {w : World}

/-! ### Values of a box, turned -/
def Bx.mapX (f : X → X) : Bx → Bx
  | .var cs => .var (cs.map f)
  | .loop st p tm ps a b => .loop st p (tm.map fun q => (q.1, f q.2)) ps a b
  | .row s l => .row s l
  | .dead => .dead
def Bx.vals : Bx → List X
  | .var cs => cs
  | .loop _ _ tm _ _ _ => tm.map (·.2)
  | _ => []

theorem frzL_eq (i sz : Nat) (es : List (List X)) : ∀ cs : List X, frzL i sz es cs = cs.map (X.frz i sz es)
  | [] => rfl
  | z :: r => by simp [frzL, frzL_eq i sz es r]
theorem fixL_eq (i : Nat) (vs : List X) : ∀ cs : List X, fixL i vs cs = cs.map (X.fix i vs)
  | [] => rfl
  | z :: r => by simp [fixL, fixL_eq i vs r]
theorem frzB_eq (i sz : Nat) (es : List (List X)) (B : Bx) : B.frz i sz es = B.mapX (X.frz i sz es) := by
  cases B <;> simp [Bx.frz, Bx.mapX, frzL_eq, frzT]
theorem fixB_eq (i : Nat) (vs : List X) (B : Bx) : B.fix i vs = B.mapX (X.fix i vs) := by
  cases B <;> simp [Bx.fix, Bx.mapX, fixL_eq, fixT]

theorem live_mapX (f : X → X) (B : Bx) : (B.mapX f).live = B.live := by cases B <;> rfl
theorem isLoop_mapX (f : X → X) (B : Bx) : (B.mapX f).isLoop = B.isLoop := by cases B <;> rfl

theorem lk_map (f : X → X) : ∀ (tm : List (Nat × X)) (n : Nat), lk (tm.map fun q => (q.1, f q.2)) n = (lk tm n).map f
  | [], n => rfl
  | (k, y) :: r, n => by
    have ih := lk_map f r n
    simp only [List.map_cons, lk] at ih ⊢
    split
    · rfl
    · exact ih

/-- What a box owns is known from now on. -/
noncomputable def Kn.shut (K : Kn) (c : CB) (w : World) : Kn := fun b o => by
  classical exact if c.owns b o then w.cell? ⟨b, o, none⟩ else K b o

theorem shut_own {c : CB} {b o : Nat} (h : c.owns b o) : K.shut c w b o = w.cell? ⟨b, o, none⟩ := by simp [Kn.shut, h]
theorem shut_other {c : CB} {b o : Nat} (h : ¬ c.owns b o) : K.shut c w b o = K b o := by simp [Kn.shut, h]

theorem shut_le {bx : List Bx} (h : Inv P R K C bx w) {i : Nat} {B : Bx} {c : CB} (hB : bx[i]? = some B) (hl : B.live = true) (hc : C[i]? = some c) : KLe K (K.shut c w) := by
  intro b o v e
  have : ¬ c.owns b o := fun hw => by rw [h.apart b o ⟨i, c, B, hc, hB, hl, hw⟩] at e; cases e
  rw [shut_other this]; exact e

theorem TmOk.turn {K' : Kn} {tm : List (Nat × X)} {tmps : Array Value} {f : X → X} {good : X → Prop} (h : TmOk K C tm tmps) (hg : ∀ z, z ∈ tm.map (·.2) → good z) (hrep : ∀ z v, good z → Rep K C z v → Rep K' C (f z) v) : TmOk K' C (tm.map fun q => (q.1, f q.2)) tmps := by
  intro n y e
  rw [lk_map] at e
  obtain ⟨z, hz, rfl⟩ := Option.map_eq_some_iff.1 e
  obtain ⟨v, hv, hr⟩ := h n z hz
  obtain ⟨p, hp, rfl⟩ := lk_mem hz
  exact ⟨v, hv, hrep _ v (hg _ (List.mem_map.2 ⟨p, hp, rfl⟩)) hr⟩

theorem BoxOk.turn {K' : Kn} {B : Bx} {c : CB} {f : X → X} {good : X → Prop} (h : BoxOk P R K C w B c) (hK : KLe K K') (hcell : ∀ z, (f z).isCell = z.isCell) (hg : ∀ z, z ∈ B.vals → good z) (hrep : ∀ z v, good z → Rep K C z v → Rep K' C (f z) v) :
    BoxOk P R K' C w (B.mapX f) c := by
  cases B with
  | dead => trivial
  | var cs =>
    cases c with
    | «at» =>
      obtain ⟨h1, h2, arr, el, hb, hr⟩ := h
      refine ⟨h1, by simpa using h2, arr, el, hb, by simpa using hr.len, fun z hz => ?_, fun j z v e e' => ?_⟩
      · obtain ⟨u, hu, rfl⟩ := List.mem_map.1 hz
        rw [hcell]; exact hr.cell u hu
      · rw [List.getElem?_map] at e
        obtain ⟨u, hu, rfl⟩ := Option.map_eq_some_iff.1 e
        exact hrep u v (hg u (List.mem_of_getElem? hu)) (hr.rep j u v hu e')
    | ghost => exact h.elim
    | obj => exact h.elim
  | row sz es => exact h.mono hK (CLe.refl _) (.refl nowhere w) (fun _ _ _ => id)
  | loop st p tm ps a b =>
    cases c with
    | obj =>
      obtain ⟨l, hl, ho⟩ := h
      exact ⟨l, hl, ho.hst, ho.hpend, ho.htm.turn hg hrep, ho.hps, ho.hin, ho.hcode⟩
    | «at» => exact h.elim
    | ghost => exact h.elim

/-- A box is sealed: its cells never change again, and values that led to it read otherwise. -/
theorem Rel.turn (h : Rel P R x K C σ a w) {i : Nat} {B : Bx} {c : CB} {f : X → X} {good : X → Prop} (hB : σ.bx[i]? = some B) (hl : B.live = true) (hL : B.isLoop = false) (hc : C[i]? = some c) (hcell : ∀ z, (f z).isCell = z.isCell)
    (hrep : ∀ z v, good z → Rep K C z v → Rep (K.shut c w) C (f z) v) (hgt : ∀ z, z ∈ σ.tm.map (·.2) → good z) (hgb : ∀ A, A ∈ σ.bx → ∀ z, z ∈ A.vals → good z) :
    Rel P R x (K.shut c w) C ⟨σ.tm.map fun q => (q.1, f q.2), (σ.bx.map (Bx.mapX f)).set i .dead⟩ a w := by
  have hK := shut_le h.inv hB hl hc
  have hget : ∀ (j : Nat) (A : Bx), ((σ.bx.map (Bx.mapX f)).set i .dead)[j]? = some A → A.live = true → j ≠ i ∧ ∃ A0, σ.bx[j]? = some A0 ∧ A = A0.mapX f ∧ A0.live = true := by
    intro j A e hlA
    rw [List.getElem?_set] at e
    split at e
    · split at e
      · simp only [Option.some.injEq] at e; subst e; simp [Bx.live] at hlA
      · simp at e
    · rename_i hij
      rw [List.getElem?_map] at e
      obtain ⟨A0, h1, rfl⟩ := Option.map_eq_some_iff.1 e
      exact ⟨fun e => hij e.symm, A0, h1, rfl, by rwa [live_mapX] at hlA⟩
  have hown : ∀ b o, Owns C ((σ.bx.map (Bx.mapX f)).set i .dead) b o → Owns C σ.bx b o ∧ ¬ c.owns b o := by
    rintro b o ⟨j, d, A, hd, hA, hlA, hw⟩
    obtain ⟨hne, A0, h1, rfl, h2⟩ := hget j A hA hlA
    exact ⟨⟨j, d, A0, hd, h1, h2, hw⟩, fun hw' => h.inv.disj j i d c A0 B b o hne hd hc h1 hB h2 hl hw hw'⟩
  have hmine : ∀ b o, c.owns b o → Owns C σ.bx b o := fun b o hw => ⟨i, c, B, hc, hB, hl, hw⟩
  refine { h with inv := ⟨?_, by simpa using h.inv.size, ?_, ?_, ?_⟩, tm := h.tm.turn hgt hrep, k0 := h.k0.trans hK, knew := ?_, own := fun b o ho => h.own b o (hown b o ho).1, defs := ?_, loops := ?_ }
  · intro b o v e
    by_cases hw : c.owns b o
    · rw [shut_own hw] at e; exact e
    · rw [shut_other hw] at e; exact h.inv.known b o v e
  · intro b o ho
    rw [shut_other (hown b o ho).2]; exact h.inv.apart b o (hown b o ho).1
  · intro j k d e A A' b o hne hd he hA hA' hlA hlA' hw
    obtain ⟨_, A0, h1, rfl, h2⟩ := hget j A hA hlA
    obtain ⟨_, A1, h3, rfl, h4⟩ := hget k A' hA' hlA'
    exact h.inv.disj j k d e A0 A1 b o hne hd he h1 h3 h2 h4 hw
  · intro j A d hA hd
    by_cases hlA : A.live = true
    · obtain ⟨_, A0, h1, rfl, h2⟩ := hget j A hA hlA
      exact (h.inv.box j A0 d h1 hd).turn hK hcell (hgb A0 (List.mem_of_getElem? h1)) hrep
    · cases A <;> first | trivial | simp [Bx.live] at hlA
  · intro b o v e
    by_cases hw : c.owns b o
    · exact .inr (h.own b o (hmine b o hw))
    · rw [shut_other hw] at e; exact h.knew b o v e
  · obtain ⟨rs, h1, h2, h3⟩ := h.defs.marks
    exact ⟨⟨rs, h1, h2, fun r hr => ⟨(h3 r hr).1, (h3 r hr).2.1, fun o ho => (h3 r hr).2.2 o (hown r o ho).1⟩⟩, h.defs.round⟩
  · intro j hj hl'
    obtain ⟨A, hA, hl''⟩ := h.loops j hj hl'
    have hne : i ≠ j := fun e => by subst e; rw [hB] at hA; cases hA; rw [hL] at hl''; cases hl''
    exact ⟨A.mapX f, by dsimp only; rw [List.getElem?_set_ne hne]; simp [hA], by rw [isLoop_mapX]; exact hl''⟩

theorem cell_frz (i sz : Nat) (es : List (List X)) (z : X) : (z.frz i sz es).isCell = z.isCell := by
  cases z with
  | bs j off len => simp only [X.frz]; split <;> rfl
  | _ => rfl
theorem cell_fix (i : Nat) (vs : List X) (z : X) : (z.fix i vs).isCell = z.isCell := by
  cases z with
  | ptr j e o => simp only [X.fix]; split <;> rfl
  | _ => rfl

theorem withinL_iff {i n : Nat} : ∀ {cs : List X}, withinL i n cs = true ↔ ∀ z, z ∈ cs → z.within i n = true
  | [] => by simp [withinL]
  | z :: r => by simp [withinL, withinL_iff (cs := r)]

theorem Rep.frz {bx : List Bx} (hI : Inv P R K C bx w) {i sz : Nat} {es : List (List X)} {c : CB} (hb : bx[i]? = some (.row sz es)) (hc : C[i]? = some c) {z : X} {v : Value} (h : Rep K C z v) : z.within i es.length = true → Rep (K.shut c w) C (z.frz i sz es) v := by
  have hK := shut_le hI hb rfl hc
  induction h with
  | v h => exact fun _ => .v h
  | slNil => exact fun _ => .slNil
  | sl vals hlen ht hcap hcell hk hr ih => exact fun _ => .sl vals hlen ht hcap hcell (fun i j z e => hK _ _ _ (hk i j z e)) (fun i j z e => (hr i j z e).mono hK (CLe.refl _))
  | bs hc' hcap hlen =>
    rename_i C j off len b base hi sz' cap
    intro hw
    simp only [X.frz]
    split
    · rename_i hji
      have : j = i := by simpa using hji
      subst this
      simp only [X.within, hji, Bool.not_true, Bool.false_or, decide_eq_true_eq] at hw
      rw [hc] at hc'
      simp only [Option.some.injEq] at hc'; subst hc'
      obtain ⟨arr, el, g1, g2, g3, hbl, hf⟩ := (hI.box j _ _ hb hc).flat
      subst g1
      have hlen' : ((es.drop off).take len).length = len := by simp; omega
      have := (((hf.drop off).take len).mono hK).rep (K := K.shut (.at b base hi sz') w) (C := C) (t := false) (b := b) (o := base + off * sz') (cap := cap) (fun k u hu => ?_) (by simp) (by omega)
      · rw [hlen'] at this; exact this
      · rw [List.getElem?_take] at hu
        split at hu
        · rename_i hk1
          rw [List.getElem?_drop, List.getElem?_take] at hu
          split at hu
          · rename_i hk2
            rw [List.getElem?_drop, toArray_getElem?] at hu
            have hown : (CB.at b base hi sz').owns b (base + off * sz' + k) := ⟨rfl, by omega, by omega⟩
            rw [shut_own hown]
            simp only [World.cell?, hbl]
            rw [show base + off * sz' + k = base + (off * sz' + k) by omega]
            simpa using hu
          · simp at hu
        · simp at hu
    · exact .bs hc' hcap hlen
  | bsNil hc' hob =>
    intro hw
    simp only [X.frz]
    split
    · simp only [List.take_zero]; exact .empty hob (fun _ => rfl) (fun _ => rfl)
    · exact .bsNil hc' hob
  | ptr hc' => exact fun _ => .ptr hc'
  | dp vals hcell hk hr ih => exact fun _ => .dp vals hcell (fun j z e => hK _ _ _ (hk j z e)) (fun j z e => (hr j z e).mono hK (CLe.refl _))
  | fn hs hr ih =>
    intro hw
    simp only [X.frz, frzL_eq]
    refine .fn (by simpa using hs) (fun j z v e e' => ?_)
    rw [List.getElem?_map] at e
    obtain ⟨u, hu, rfl⟩ := Option.map_eq_some_iff.1 e
    exact ih j u v hu e' hI hc (withinL_iff.1 hw u (List.mem_of_getElem? hu))
  | agg hs hcell hr ih =>
    intro hw
    simp only [X.frz, frzL_eq]
    refine .agg (by simpa using hs) (fun z hz => ?_) (fun j z v e e' => ?_)
    · obtain ⟨u, hu, rfl⟩ := List.mem_map.1 hz
      rw [cell_frz]; exact hcell u hu
    rw [List.getElem?_map] at e
    obtain ⟨u, hu, rfl⟩ := Option.map_eq_some_iff.1 e
    exact ih j u v hu e' hI hc (withinL_iff.1 hw u (List.mem_of_getElem? hu))
  | tup hs hr ih =>
    intro hw
    simp only [X.frz, frzL_eq]
    refine .tup (by simpa using hs) (fun j z v e e' => ?_)
    rw [List.getElem?_map] at e
    obtain ⟨u, hu, rfl⟩ := Option.map_eq_some_iff.1 e
    exact ih j u v hu e' hI hc (withinL_iff.1 hw u (List.mem_of_getElem? hu))
  | yl hc' => exact fun _ => .yl hc'

theorem Rep.fix {bx : List Bx} (hI : Inv P R K C bx w) {i : Nat} {vs : List X} {c : CB} (hb : bx[i]? = some (.var vs)) (hc : C[i]? = some c) (hn : refsL vs = []) {z : X} {v : Value} (h : Rep K C z v) : Rep (K.shut c w) C (z.fix i vs) v := by
  have hK := shut_le hI hb rfl hc
  induction h with
  | v h => exact .v h
  | slNil => exact .slNil
  | sl vals hlen ht hcap hcell hk hr ih => exact .sl vals hlen ht hcap hcell (fun i j z e => hK _ _ _ (hk i j z e)) (fun i j z e => (hr i j z e).mono hK (CLe.refl _))
  | bs hc' hcap hlen => exact .bs hc' hcap hlen
  | bsNil hc' hob => exact .bsNil hc' hob
  | ptr hc' =>
    rename_i C j e o b base hi sz
    simp only [X.fix]
    split
    · rename_i hji
      simp only [Bool.and_eq_true, beq_iff_eq] at hji
      obtain ⟨rfl, rfl⟩ := hji
      rw [hc] at hc'
      simp only [Option.some.injEq] at hc'; subst hc'
      obtain ⟨rfl, g2, arr, el, hbl, hr⟩ := hI.box j _ _ hb hc
      have key : ∀ (k : Nat) (y : X), (vs.drop o)[k]? = some y → ∃ u, arr[o + k]? = some u ∧ o + k < vs.length ∧ y ∈ vs ∧ Rep K C y u := by
        intro k y e
        rw [List.getElem?_drop] at e
        obtain ⟨u, hu, hr'⟩ := hr.get e
        exact ⟨u, by simpa using hu, (List.getElem?_eq_some_iff.1 e).1, List.mem_of_getElem? e, hr'⟩
      rw [show 0 + 0 * sz + o = o by omega]
      refine .dp (fun k => arr.getD (o + k) undef) (fun k y e => ?_) (fun k y e => ?_) (fun k y e => ?_)
      · obtain ⟨u, _, _, hm, _⟩ := key k y e; exact hr.cell y hm
      · obtain ⟨u, hu, hlt, _, _⟩ := key k y e
        have hown : (CB.at b 0 hi sz).owns b (o + k) := ⟨rfl, by omega, by omega⟩
        rw [shut_own hown]
        simp only [World.cell?, hbl]
        have hd : arr.getD (o + k) undef = u := by simp [hu]
        rw [hd]; simpa using hu
      · obtain ⟨u, hu, hlt, hm, hr'⟩ := key k y e
        have hd : arr.getD (o + k) undef = u := by simp [hu]
        rw [hd]
        have hy : y.refs = [] := List.eq_nil_iff_forall_not_mem.2 fun q hq => by
          have : q ∈ refsL vs := mem_refsL.2 ⟨y, hm, hq⟩
          rw [hn] at this; simp at this
        exact (hr'.noRef hy).mono hK (CLe.refl _)
    · exact .ptr hc'
  | dp vals hcell hk hr ih => exact .dp vals hcell (fun j z e => hK _ _ _ (hk j z e)) (fun j z e => (hr j z e).mono hK (CLe.refl _))
  | fn hs hr ih =>
    simp only [X.fix, fixL_eq]
    refine .fn (by simpa using hs) (fun j z v e e' => ?_)
    rw [List.getElem?_map] at e
    obtain ⟨u, hu, rfl⟩ := Option.map_eq_some_iff.1 e
    exact ih j u v hu e' hI hc
  | agg hs hcell hr ih =>
    simp only [X.fix, fixL_eq]
    refine .agg (by simpa using hs) (fun z hz => ?_) (fun j z v e e' => ?_)
    · obtain ⟨u, hu, rfl⟩ := List.mem_map.1 hz
      rw [cell_fix]; exact hcell u hu
    rw [List.getElem?_map] at e
    obtain ⟨u, hu, rfl⟩ := Option.map_eq_some_iff.1 e
    exact ih j u v hu e' hI hc
  | tup hs hr ih =>
    simp only [X.fix, fixL_eq]
    refine .tup (by simpa using hs) (fun j z v e e' => ?_)
    rw [List.getElem?_map] at e
    obtain ⟨u, hu, rfl⟩ := Option.map_eq_some_iff.1 e
    exact ih j u v hu e' hI hc
  | yl hc' => exact .yl hc'

def RelE (P : Program) (R : CodeRel) (x : Ctx) (σ : St) (a : Act) (w : World) : Prop := ∃ K C, Rel P R x K C σ a w

theorem freeze_sound {i : Nat} {σ' : St} (h : Rel P R x K C σ a w) (e : freeze i σ = some σ') : RelE P R x σ' a w := by
  unfold freeze at e
  split at e
  · rename_i sz es hb
    split at e
    · rename_i hw
      simp only [Option.some.injEq] at e; subst e
      obtain ⟨c, hc, _⟩ := h.inv.get hb
      simp only [rowOkB, Bool.and_eq_true, List.all_eq_true] at hw
      have := h.turn (f := X.frz i sz es) (good := fun z => z.within i es.length = true) hb rfl rfl hc (cell_frz i sz es) (fun z v hg hr => hr.frz h.inv hb hc hg) (withinL_iff.1 hw.1) (fun A hA z hz => by
        have hA' := hw.2 A hA
        cases A with
        | var cs => exact withinL_iff.1 hA' z hz
        | loop st p tm ps a b => exact withinL_iff.1 hA' z hz
        | row => simp [Bx.vals] at hz
        | dead => simp [Bx.vals] at hz)
      have e1 : Bx.frz i sz es = Bx.mapX (X.frz i sz es) := funext (frzB_eq i sz es)
      rw [e1]
      exact ⟨_, _, this⟩
    · simp at e
  · simp at e

theorem freezeV_sound {i : Nat} {σ' : St} (h : Rel P R x K C σ a w) (e : freezeV i σ = some σ') : RelE P R x σ' a w := by
  unfold freezeV at e
  split at e
  · rename_i vs hb
    split at e
    · rename_i hw
      simp only [Option.some.injEq] at e; subst e
      obtain ⟨c, hc, _⟩ := h.inv.get hb
      have := h.turn (f := X.fix i vs) (good := fun _ => True) hb rfl rfl hc (cell_fix i vs) (fun z v _ hr => hr.fix h.inv hb hc (List.isEmpty_iff.1 hw)) (fun _ _ => trivial) (fun _ _ _ _ => trivial)
      have e1 : Bx.fix i vs = Bx.mapX (X.fix i vs) := funext (fixB_eq i vs)
      rw [e1]
      exact ⟨_, _, this⟩
    · simp at e
  · simp at e

theorem freezes_sound : ∀ {l : List Nat} {σ σ' : St} {K : Kn} {C : List CB}, Rel P R x K C σ a w → freezes l σ = some σ' → RelE P R x σ' a w
  | [], σ, σ', K, C, h, e => by simp only [freezes, Option.some.injEq] at e; subst e; exact ⟨_, _, h⟩
  | i :: r, σ, σ', K, C, h, e => by
    simp only [freezes] at e
    split at e
    · obtain ⟨σ1, h1, h2⟩ := Option.bind_eq_some_iff.1 e
      obtain ⟨K', C', h3⟩ := freeze_sound h h1
      exact freezes_sound h3 h2
    · exact freezes_sound h e

/-- A box that owns nothing. -/
theorem Rel.push0 (h : Rel P R x K C σ a w) {B : Bx} {c : CB} (hB : BoxOk P R K (C ++ [c]) w B c) (hc : ∀ b o, ¬ c.owns b o) : Rel P R x K (C ++ [c]) ⟨σ.tm, σ.bx ++ [B]⟩ a w := by
  refine { h with inv := h.inv.push hB (fun b o hw => absurd hw (hc b o)) (fun b o hw => absurd hw (hc b o)), tm := h.tm.mono (KLe.refl _) (CLe.append _ _), own := ?_, cin := ?_, defs := ?_, loops := ?_ }
  · intro b o ho
    rcases owns_push h.inv.size ho with ho | ho
    · exact h.own b o ho
    · exact absurd ho (hc b o)
  · intro i d e; exact CLe.append _ _ _ _ (h.cin i d e)
  · obtain ⟨rs, h1, h2, h3⟩ := h.defs.marks
    refine ⟨⟨rs, h1, h2, fun r hr => ⟨(h3 r hr).1, (h3 r hr).2.1, fun k ho => ?_⟩⟩, h.defs.round⟩
    rcases owns_push h.inv.size ho with ho | ho
    · exact (h3 r hr).2.2 k ho
    · exact absurd ho (hc r k)
  · intro i hi hl
    obtain ⟨B', hB', hl'⟩ := h.loops i hi hl
    exact ⟨B', by rw [List.getElem?_append_left (List.getElem?_eq_some_iff.1 hB').1]; exact hB', hl'⟩

theorem rep_empty {t : Bool} {sz : Nat} {v : Value} (h : Rep K C (.sl t sz []) v) (ht : t = true) : ∃ ob, v = .slice ob 0 0 ∧ ∀ ad, ob = some ad → ad.spot = none := by
  generalize hz : X.sl t sz [] = z at h
  cases h with
  | slNil => exact ⟨none, rfl, fun _ e => by cases e⟩
  | sl vals hlen ht' hcap hcell hk hr =>
    simp only [X.sl.injEq] at hz
    obtain ⟨rfl, rfl, rfl⟩ := hz
    have := ht' ht
    subst this
    exact ⟨_, rfl, fun ad e => by cases e; rfl⟩
  | _ => simp at hz

theorem ghost_sound {g : Gh} {σ' : St} (h : Rel P R x K C σ a w) (e : ghost σ g = some σ') : RelE P R x σ' a w := by
  have same : σ = σ' → RelE P R x σ' a w := fun e => ⟨K, C, e ▸ h⟩
  cases g with
  | thaw s o =>
    have hg := fun sz => h.push0 (B := .row sz []) (c := .ghost) rfl (fun _ _ hw => hw)
    have hgc : (C ++ [CB.ghost])[σ.bx.length]? = some .ghost := by rw [← h.inv.size]; simp
    simp only [ghost] at e
    split at e
    · split at e
      · rename_i sz hs
        simp only [Option.some.injEq] at e; subst e
        obtain ⟨v, hv, hr⟩ := h.tm s _ hs
        obtain ⟨ob, rfl, hob⟩ := rep_empty hr rfl
        refine ⟨K, C ++ [.ghost], (hg sz).tms fun n y ey => ?_⟩
        simp only [lk] at ey
        split at ey
        · rename_i hk
          simp only [beq_iff_eq] at hk
          subst hk
          simp only [Option.some.injEq] at ey; subst ey
          exact ⟨_, hv, .bsNil hgc hob⟩
        · exact (hg sz).tm n y ey
      · simp only [Option.some.injEq] at e; exact same e
    · rename_i o
      split at e
      · rename_i i o' hs
        split at e
        · rename_i cs hb
          split at e
          · rename_i sz hcs
            simp only [Option.some.injEq] at e; subst e
            obtain ⟨c, hc, hbox⟩ := h.inv.get hb
            have hc' := CLe.append C [CB.ghost] i c hc
            have hb' : (σ.bx ++ [Bx.row sz []])[i]? = some (.var cs) := by
              rw [List.getElem?_append_left (List.getElem?_eq_some_iff.1 hb).1]; exact hb
            have hbox' : BoxOk P R K (C ++ [.ghost]) w (.var (cs.set (o' + o) (.bs σ.bx.length 0 0))) c := by
              cases c with
              | «at» =>
                obtain ⟨h1, h2, arr, el, hbl, hr⟩ := hbox
                refine ⟨h1, by simpa using h2, arr, el, hbl, by simpa using hr.len, fun z hz => ?_, fun j z v ez ev => ?_⟩
                · rcases List.mem_or_eq_of_mem_set hz with hz | rfl
                  · exact hr.cell z hz
                  · rfl
                · rw [List.getElem?_set] at ez
                  split at ez
                  · rename_i hj
                    split at ez
                    · simp only [Option.some.injEq] at ez; subst ez; subst hj
                      obtain ⟨ob, rfl, hob⟩ := rep_empty (hr.rep _ _ _ hcs ev) rfl
                      exact .bsNil hgc hob
                    · simp at ez
                  · exact (hr.rep j z v ez ev).mono (KLe.refl _) (CLe.append _ _)
              | ghost => exact hbox.elim
              | obj => exact hbox.elim
            have := (hg sz).setBox hb' rfl hc' (.refl _ w) hbox' (fun e => by cases e)
            refine ⟨K, C ++ [.ghost], ?_⟩
            have e1 : (σ.bx ++ [Bx.row sz []]).set i (.var (cs.set (o' + o) (.bs σ.bx.length 0 0))) = σ.bx.set i (.var (cs.set (o' + o) (.bs σ.bx.length 0 0))) ++ [.row sz []] := by
              rw [List.set_append_left _ _ (List.getElem?_eq_some_iff.1 hb).1]
            rw [← e1]; exact this
          · simp only [Option.some.injEq] at e; exact same e
        · simp only [Option.some.injEq] at e; exact same e
      · simp only [Option.some.injEq] at e; exact same e
  | frz s o =>
    simp only [ghost] at e
    split at e
    · split at e
      · exact freeze_sound h e
      · simp only [Option.some.injEq] at e; exact same e
      · simp at e
    · split at e
      · split at e
        · split at e
          · exact freeze_sound h e
          · simp only [Option.some.injEq] at e; exact same e
          · simp at e
        · simp at e
      · simp at e
  | frzA s =>
    simp only [ghost] at e
    split at e
    · split at e
      · exact freezes_sound h e
      · simp only [Option.some.injEq] at e; exact same e
    · exact freezes_sound h e
    · simp only [Option.some.injEq] at e; exact same e
  | frzV s =>
    simp only [ghost] at e
    split at e
    · exact freezeV_sound h e
    · simp only [Option.some.injEq] at e; exact same e

theorem ghosts_sound : ∀ {l : List Gh} {σ σ' : St} {K : Kn} {C : List CB}, Rel P R x K C σ a w → ghosts l σ = some σ' → RelE P R x σ' a w
  | [], σ, σ', K, C, h, e => by simp only [ghosts, Option.some.injEq] at e; subst e; exact ⟨_, _, h⟩
  | g :: r, σ, σ', K, C, h, e => by
    simp only [ghosts] at e
    split at e
    · simp at e
    · rename_i σ1 h1
      obtain ⟨K', C', h3⟩ := ghost_sound h h1
      exact ghosts_sound h3 e

end Go.Em
