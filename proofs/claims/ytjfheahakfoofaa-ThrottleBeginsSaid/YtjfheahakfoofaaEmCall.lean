/- The abstract machine: what a call's contract says to its caller. -/
import Derived.Test.YtjfheahakfoofaaEmApp
namespace Go.Em
variable {P : Program} {R : CodeRel} {x : Ctx} {K : Kn} {C : List CB} {σ : St} {a : Act} {w : World}

def Fr (r : Option Nat) : Fence := { Fence.wide with round := r }

/-- Behind a call: what came in has been kept, but for what was handed in to be written. -/
structure PostK (P : Program) (R : CodeRel) (K : Kn) (C : List CB) (inb : List Bx) (w : World) (res : X) (outb : List Bx) (v : Value) (w' : World) (K' : Kn) (E : List CB) : Prop where
  inv : Inv P R K' (C ++ E) outb w'
  res : Rep K' (C ++ E) res v
  kle : KLe K K'
  knew : ∀ (b o : Nat) (u : Value), K' b o = some u → K b o = some u ∨ Owns C inb b o ∨ w.heap.size ≤ b
  own : ∀ (b o : Nat), Owns (C ++ E) outb b o → Owns C inb b o ∨ w.heap.size ≤ b
  frame : FrameOk (Owns C inb) w w'
  loops : ∀ (i : Nat) (B : Bx), inb[i]? = some B → B.isLoop = true → ∃ B', outb[i]? = some B' ∧ B'.isLoop = true

def Post (P : Program) (R : CodeRel) (K : Kn) (C : List CB) (inb : List Bx) (w : World) (res : X) (outb : List Bx) (e : Ending) (w' : World) : Prop :=
  ∃ (v : Value) (K' : Kn) (E : List CB), e = .returned v ∧ PostK P R K C inb w res outb v w' K' E

def ArgsRep (K : Kn) (C : List CB) (args : List X) (cargs : Array Value) : Prop :=
  cargs.size = args.length ∧ ∀ (j : Nat) (y : X) (v : Value), args[j]? = some y → cargs[j]? = some v → Rep K C y v

def FSem (P : Program) (R : CodeRel) (f : FuncId) (args : List X) (inb : List Bx) (res : X) (outb : List Bx) : Prop :=
  ∀ (K : Kn) (C : List CB) (w : World) (cargs : Array Value), Inv P R K C inb w → ArgsRep K C args cargs → Calls P f cargs w (Post P R K C inb w res outb)

def YSem (P : Program) (R : CodeRel) (args : List X) (inb : List Bx) (res : X) (outb : List Bx) : Prop :=
  ∃ (i : Nat) (as : List X), args = .yl i :: as ∧ ∀ (K : Kn) (C : List CB) (w : World) (cargs : Array Value) (l : Nat) (r : Option Nat), Inv P R K C inb w → C[i]? = some (.obj l) → ArgsRep K C as cargs →
    ∃ (f : FuncId) (tmps : Array Value) (assign body : Code), (Instr.yield l cargs).run P w = .ok (.round l f tmps assign body) w ∧ RoundIn (Fr r) 0 P l f tmps assign body w (Post P R K C inb w res outb)

def FnOk (P : Program) (f : FuncId) : Prop := ∀ (args : Array Value) (w : World), (callFunc f args).run P w = .ok (.enter f args) w

structure GamOk (P : Program) (R : CodeRel) (Γ : Gam) : Prop where
  fn : ∀ (f : FuncId) (args : List X) (inb : List Bx) (res : X) (outb : List Bx), Γ (.fn f) args inb = some (res, outb) → FnOk P f ∧ FSem P R f args inb res outb
  yl : ∀ (args : List X) (inb : List Bx) (res : X) (outb : List Bx), Γ .yl args inb = some (res, outb) → YSem P R args inb res outb

/-! ### Boxes, picked and put back -/
theorem getBs_get {bx : List Bx} : ∀ {sel : List Nat} {l : List Bx}, getBs bx sel = some l → l.length = sel.length ∧ ∀ (j i : Nat), sel[j]? = some i → ∃ B, bx[i]? = some B ∧ l[j]? = some B
  | [], l, h => by simp only [getBs, Option.some.injEq] at h; subst h; simp
  | i :: r, l, h => by
    simp only [getBs] at h
    cases hb : bx[i]? with
    | none => simp [hb] at h
    | some b =>
      simp only [hb] at h
      obtain ⟨l', hl, rfl⟩ := Option.map_eq_some_iff.1 h
      obtain ⟨h1, h2⟩ := getBs_get hl
      refine ⟨by simp [h1], fun j i' e => ?_⟩
      cases j with
      | zero => simp at e; subst e; exact ⟨b, hb, rfl⟩
      | succ j => simp at e; obtain ⟨B, h3, h4⟩ := h2 j i' e; exact ⟨B, h3, by simpa using h4⟩

theorem nodupN_iff : ∀ {l : List Nat}, nodupN l = true ↔ l.Nodup
  | [] => by simp [nodupN]
  | n :: r => by
    have : memN n r = true ↔ n ∈ r := memN_iff
    simp only [nodupN, Bool.and_eq_true, Bool.not_eq_true', List.nodup_cons, nodupN_iff (l := r)]
    rw [← this]; simp

theorem idxN_at {l : List Nat} (h : l.Nodup) {j i : Nat} (e : l[j]? = some i) : idxN i l = j := by
  have hm : i ∈ l := List.mem_of_getElem? e
  have h1 := idxN_get hm
  have hj := (List.getElem?_eq_some_iff.1 e).1
  have hk := (List.getElem?_eq_some_iff.1 h1).1
  exact (List.getElem?_inj hk h).1 (by rw [h1, e])

theorem isLoop_ren (f : Nat → Nat) (B : Bx) : (B.ren f).isLoop = B.isLoop := by cases B <;> rfl
theorem live_ren (f : Nat → Nat) (B : Bx) : (B.ren f).live = B.live := by cases B <;> rfl

theorem lk_renT (f : Nat → Nat) : ∀ (tm : List (Nat × X)) (n : Nat), lk (renT f tm) n = (lk tm n).map (X.ren f)
  | [], n => rfl
  | (k, y) :: r, n => by
    have ih := lk_renT f r n
    simp only [renT, List.map_cons, lk] at ih ⊢
    split
    · rfl
    · exact ih

theorem lk_mem {tm : List (Nat × X)} {n : Nat} {y : X} : lk tm n = some y → ∃ p, p ∈ tm ∧ p.2 = y := by
  induction tm with
  | nil => intro h; simp [lk] at h
  | cons p r ih =>
    obtain ⟨k, z⟩ := p
    intro h
    simp only [lk] at h
    split at h
    · simp only [Option.some.injEq] at h; exact ⟨(k, z), by simp, h⟩
    · obtain ⟨q, hq, e⟩ := ih h; exact ⟨q, by simp [hq], e⟩

theorem refs_of_lk {tm : List (Nat × X)} {n i : Nat} {y : X} (h : lk tm n = some y) (hi : i ∈ y.refs) : i ∈ refsL (tm.map (·.2)) := by
  obtain ⟨p, hp, rfl⟩ := lk_mem h
  exact mem_refsL.2 ⟨p.2, List.mem_map.2 ⟨p, hp, rfl⟩, hi⟩

theorem TmOk.ren {C' : List CB} {f : Nat → Nat} {tm : List (Nat × X)} {tmps : Array Value} (h : TmOk K C tm tmps) (hC : ∀ i, i ∈ refsL (tm.map (·.2)) → ∀ c, C[i]? = some c → C'[f i]? = some c) : TmOk K C' (renT f tm) tmps := by
  intro n y e
  rw [lk_renT] at e
  obtain ⟨z, hz, rfl⟩ := Option.map_eq_some_iff.1 e
  obtain ⟨v, hv, hr⟩ := h n z hz
  exact ⟨v, hv, hr.ren fun i hi => hC i (refs_of_lk hz hi)⟩

theorem CRep.ren {C' : List CB} {f : Nat → Nat} {xs : List X} {vs : List Value} (h : CRep K C xs vs) (hC : ∀ i, i ∈ refsL xs → ∀ c, C[i]? = some c → C'[f i]? = some c) : CRep K C' (renL f xs) vs := by
  refine ⟨by rw [renL_eq]; simpa using h.len, fun y hy => ?_, fun j y v e e' => ?_⟩
  · rw [renL_eq] at hy
    obtain ⟨z, hz, rfl⟩ := List.mem_map.1 hy
    rw [isCell_ren]; exact h.cell z hz
  · rw [renL_eq, List.getElem?_map] at e
    obtain ⟨z, hz, rfl⟩ := Option.map_eq_some_iff.1 e
    exact (h.rep j z v hz e').ren fun i hi => hC i (mem_refsL.2 ⟨z, List.mem_of_getElem? hz, hi⟩)

theorem BoxOk.ren {C' : List CB} {f : Nat → Nat} {B : Bx} {c : CB} (h : BoxOk P R K C w B c) (hC : ∀ i, i ∈ B.refs → ∀ c, C[i]? = some c → C'[f i]? = some c) : BoxOk P R K C' w (B.ren f) c := by
  cases B with
  | dead => trivial
  | var cs => cases c with
    | «at» =>
      obtain ⟨h1, h2, arr, el, hb, hr⟩ := h
      exact ⟨h1, by rw [h2, renL_eq]; simp, arr, el, hb, hr.ren hC⟩
    | ghost => exact h.elim
    | obj => exact h.elim
  | row sz es => cases c with
    | «at» => exact h
    | ghost => exact h
    | obj => exact h.elim
  | loop st p tm ps a b => cases c with
    | obj =>
      obtain ⟨l, hl, ho⟩ := h
      exact ⟨l, hl, ho.hst, ho.hpend, ho.htm.ren hC, ho.hps, ho.hin, ho.hcode⟩
    | «at» => exact h.elim
    | ghost => exact h.elim

/-- A choice of boxes, renumbered, is in order by itself. -/
theorem Inv.pick {bx inb : List Bx} {sel : List Nat} (h : Inv P R K C bx w) (e : pickB bx sel = some inb) :
    ∃ C1 : List CB, Inv P R K C1 inb w ∧ C1.length = sel.length ∧ (∀ (j i : Nat) (c : CB), sel[j]? = some i → C[i]? = some c → C1[j]? = some c) ∧
      (∀ (j i : Nat), sel[j]? = some i → ∃ B, bx[i]? = some B ∧ inb[j]? = some (B.ren (idxN · sel))) ∧ inb.length = sel.length ∧ sel.Nodup ∧ (∀ (j : Nat) (c : CB), C1[j]? = some c → ∃ i, sel[j]? = some i ∧ C[i]? = some c) ∧
      (∀ i, i ∈ sel → ∀ c, C[i]? = some c → C1[idxN i sel]? = some c) := by
  unfold pickB at e
  split at e
  · simp at e
  · rename_i l hl
    split at e
    · rename_i hc
      simp only [Option.some.injEq] at e; subst e
      simp only [Bool.and_eq_true, List.all_eq_true] at hc
      have hnd := nodupN_iff.1 hc.1
      obtain ⟨hlen, hget⟩ := getBs_get hl
      have hC1 : ∀ (j i : Nat) (c : CB), sel[j]? = some i → C[i]? = some c → (sel.map fun i => C.getD i .ghost)[j]? = some c := by
        intro j i c e1 e2; simp [e1, List.getD, e2]
      have hC1' : ∀ (j : Nat) (c : CB), (sel.map fun i => C.getD i .ghost)[j]? = some c → ∃ i, sel[j]? = some i ∧ C[i]? = some c := by
        intro j c e1
        rw [List.getElem?_map] at e1
        obtain ⟨i, hi, rfl⟩ := Option.map_eq_some_iff.1 e1
        obtain ⟨B, hB, _⟩ := hget j i hi
        obtain ⟨c, hc, _⟩ := h.get hB
        exact ⟨i, hi, by simp [List.getD, hc]⟩
      have hidx : ∀ i, i ∈ sel → ∀ c, C[i]? = some c → (sel.map fun i => C.getD i .ghost)[idxN i sel]? = some c := fun i hi c e => hC1 _ i c (idxN_get hi) e
      have hin : ∀ (j i : Nat), sel[j]? = some i → ∃ B, bx[i]? = some B ∧ (l.map (Bx.ren (idxN · sel)))[j]? = some (B.ren (idxN · sel)) := by
        intro j i e1
        obtain ⟨B, h1, h2⟩ := hget j i e1
        exact ⟨B, h1, by simp [h2]⟩
      have hin' : ∀ (j : Nat) (B' : Bx), (l.map (Bx.ren (idxN · sel)))[j]? = some B' → ∃ i B, sel[j]? = some i ∧ bx[i]? = some B ∧ B' = B.ren (idxN · sel) ∧ subN B.refs sel = true := by
        intro j B' e1
        have hj : j < sel.length := by
          have := (List.getElem?_eq_some_iff.1 e1).1; simp at this; omega
        obtain ⟨B, h1, h2⟩ := hget j sel[j] (List.getElem?_eq_getElem hj)
        rw [List.getElem?_map, h2] at e1
        simp only [Option.map_some, Option.some.injEq] at e1
        exact ⟨sel[j], B, List.getElem?_eq_getElem hj, h1, e1.symm, hc.2 B (List.mem_of_getElem? h2)⟩
      have howns : ∀ (b o : Nat), Owns (sel.map fun i => C.getD i .ghost) (l.map (Bx.ren (idxN · sel))) b o → Owns C bx b o := by
        rintro b o ⟨j, c, B', h1, h2, h3, h4⟩
        obtain ⟨i, B, e1, e2, rfl, _⟩ := hin' j B' h2
        obtain ⟨i', e3, e4⟩ := hC1' j c h1
        rw [e1] at e3; cases e3
        exact ⟨i, c, B, e4, e2, by rwa [live_ren] at h3, h4⟩
      refine ⟨sel.map fun i => C.getD i .ghost, ⟨h.known, by simp [hlen], fun b o ho => h.apart b o (howns b o ho), ?_, ?_⟩, by simp, hC1, hin, by simp [hlen], hnd, hC1', hidx⟩
      · intro j k c d A B b o hne hc' hd hA hB hlA hlB hw
        obtain ⟨i, A0, e1, e2, rfl, _⟩ := hin' j A hA
        obtain ⟨i', B0, f1, f2, rfl, _⟩ := hin' k B hB
        obtain ⟨i2, e3, e4⟩ := hC1' j c hc'
        obtain ⟨i3, f3, f4⟩ := hC1' k d hd
        rw [e1] at e3; cases e3
        rw [f1] at f3; cases f3
        rw [live_ren] at hlA hlB
        refine h.disj i i' c d A0 B0 b o (fun hii => hne ?_) e4 f4 e2 f2 hlA hlB hw
        subst hii
        rw [← idxN_at hnd e1, ← idxN_at hnd f1]
      · intro j B' c hB hc'
        obtain ⟨i, B, e1, e2, rfl, e5⟩ := hin' j B' hB
        obtain ⟨i', e3, e4⟩ := hC1' j c hc'
        rw [e1] at e3; cases e3
        exact (h.box i B c e2 e4).ren fun k hk => hidx k (subN_iff.1 e5 k hk)
    · simp at e

theorem setBs_length : ∀ (sel : List Nat) (s bx : List Bx), (setBs sel s bx).length = bx.length
  | [], _, _ => by simp [setBs]
  | _ :: _, [], _ => by simp [setBs]
  | i :: r, b :: s, bx => by simp [setBs, setBs_length r s]

theorem setBs_other : ∀ (sel : List Nat) (s bx : List Bx) (i : Nat), i ∉ sel → (setBs sel s bx)[i]? = bx[i]?
  | [], _, _, _, _ => by simp [setBs]
  | _ :: _, [], _, _, _ => by simp [setBs]
  | k :: r, b :: s, bx, i, h => by
    simp only [List.mem_cons, not_or] at h
    rw [setBs, setBs_other r s _ i h.2, List.getElem?_set_ne (fun e => h.1 e.symm)]

theorem setBs_at : ∀ (sel : List Nat) (s bx : List Bx) (j i : Nat) (B : Bx), sel.Nodup → sel[j]? = some i → s[j]? = some B → i < bx.length → (setBs sel s bx)[i]? = some B
  | [], _, _, _, _, _, _, h, _, _ => by simp at h
  | _ :: _, [], _, _, _, _, _, _, h, _ => by simp at h
  | k :: r, b :: s, bx, j, i, B, hn, h1, h2, h3 => by
    rw [List.nodup_cons] at hn
    cases j with
    | zero =>
      simp at h1 h2; subst h1; subst h2
      rw [setBs, setBs_other r s _ _ hn.1]; simp [h3]
    | succ j =>
      simp at h1 h2
      rw [setBs]
      exact setBs_at r s _ j i B hn.2 h1 h2 (by simpa using h3)

/-- What the contract of a call on a choice of the boxes says of all of them. -/
theorem call_back (h : Rel P R x K C σ a w) {sel : List Nat} {inb outb : List Bx} {C1 : List CB} {y : X} {v : Value} {w' : World} {K' : Kn} {E : List CB}
    (hC1' : ∀ (j : Nat) (c : CB), C1[j]? = some c → ∃ i, sel[j]? = some i ∧ C[i]? = some c) (hl1 : C1.length = sel.length)
    (hin : ∀ (j i : Nat), sel[j]? = some i → ∃ B, σ.bx[i]? = some B ∧ inb[j]? = some (B.ren (idxN · sel))) (hinl : inb.length = sel.length) (hnd : sel.Nodup)
    (hp : PostK P R K C1 inb w y outb v w' K' E) (hle : sel.length ≤ outb.length) :
    let back := fun j => if j < sel.length then sel.getD j 0 else σ.bx.length + (j - sel.length)
    Rel P R x K' (C ++ E) ⟨σ.tm, setBs sel (outb.map (Bx.ren back)) σ.bx ++ (outb.map (Bx.ren back)).drop sel.length⟩ a w' ∧ Rep K' (C ++ E) (y.ren back) v := by
  intro back
  have hCs : C.length = σ.bx.length := h.inv.size
  have hEl : (C1 ++ E).length = outb.length := hp.inv.size
  rw [List.length_append, hl1] at hEl
  -- the places go with the numbers
  have hback : ∀ (j : Nat) (c : CB), (C1 ++ E)[j]? = some c → (C ++ E)[back j]? = some c := by
    intro j c e
    by_cases hj : j < sel.length
    · rw [List.getElem?_append_left (by omega)] at e
      obtain ⟨i, h1, h2⟩ := hC1' j c e
      have : back j = i := by simp only [back, hj, if_true, List.getD, h1]; rfl
      rw [this, List.getElem?_append_left (List.getElem?_eq_some_iff.1 h2).1]; exact h2
    · rw [List.getElem?_append_right (by omega), hl1] at e
      have : back j = σ.bx.length + (j - sel.length) := by simp only [back, hj, if_false]
      rw [this, List.getElem?_append_right (by omega), hCs, Nat.add_sub_cancel_left]; exact e
  have hown1 : ∀ (b o : Nat), Owns C1 inb b o → ∃ i c B, i ∈ sel ∧ C[i]? = some c ∧ σ.bx[i]? = some B ∧ B.live = true ∧ c.owns b o := by
    rintro b o ⟨j, c, B', h1, h2, h3, h4⟩
    obtain ⟨i, e1, e2⟩ := hC1' j c h1
    obtain ⟨B, e3, e4⟩ := hin j i e1
    rw [e4] at h2; cases h2
    exact ⟨i, c, B, List.mem_of_getElem? e1, e2, e3, by rwa [live_ren] at h3, h4⟩
  have hown1' : ∀ (b o : Nat), Owns C1 inb b o → Owns C σ.bx b o := by
    intro b o ho
    obtain ⟨i, c, B, _, h2, h3, h4, h5⟩ := hown1 b o ho
    exact ⟨i, c, B, h2, h3, h4, h5⟩
  -- each box of the whole: one that was left alone, or one that came back
  generalize hout : outb.map (Bx.ren back) = outs
  have houtl : outs.length = outb.length := by rw [← hout]; simp
  have hsplit : ∀ (i : Nat) (B : Bx), (setBs sel outs σ.bx ++ outs.drop sel.length)[i]? = some B → (i ∉ sel ∧ i < σ.bx.length ∧ σ.bx[i]? = some B) ∨ (∃ (j : Nat) (B0 : Bx), back j = i ∧ outb[j]? = some B0 ∧ B = B0.ren back) := by
    intro i B e
    by_cases hi : i < σ.bx.length
    · rw [List.getElem?_append_left (by rw [setBs_length]; exact hi)] at e
      by_cases hm : i ∈ sel
      · have hj := idxN_get hm
        have hjl := (List.getElem?_eq_some_iff.1 hj).1
        have ho : outs[idxN i sel]? = some outs[idxN i sel] := List.getElem?_eq_getElem (by omega)
        rw [setBs_at sel outs σ.bx (idxN i sel) i _ hnd hj ho hi] at e
        simp only [Option.some.injEq] at e
        have hob : outb[idxN i sel]? = some outb[idxN i sel] := List.getElem?_eq_getElem (by omega)
        refine .inr ⟨idxN i sel, _, ?_, hob, ?_⟩
        · simp only [back, hjl, if_true, List.getD, hj]; rfl
        · rw [← e]; subst hout; simp
      · rw [setBs_other sel outs σ.bx i hm] at e
        exact .inl ⟨hm, hi, e⟩
    · rw [List.getElem?_append_right (by rw [setBs_length]; omega), setBs_length, List.getElem?_drop] at e
      have hlt := (List.getElem?_eq_some_iff.1 e).1
      refine .inr ⟨sel.length + (i - σ.bx.length), outb[sel.length + (i - σ.bx.length)]'(by omega), ?_, List.getElem?_eq_getElem (by omega), ?_⟩
      · have : ¬ (sel.length + (i - σ.bx.length) < sel.length) := by omega
        simp only [back, this, if_false]; omega
      · rw [← hout, List.getElem?_map] at e
        have hob : outb[sel.length + (i - σ.bx.length)]? = some (outb[sel.length + (i - σ.bx.length)]'(by omega)) := List.getElem?_eq_getElem (by omega)
        rw [hob] at e
        simp only [Option.map_some, Option.some.injEq] at e
        exact e.symm
  have hbinj : ∀ j k, j < outb.length → k < outb.length → back j = back k → j = k := by
    intro j k hj hk e
    have hlt : ∀ j, j < sel.length → sel.getD j 0 < σ.bx.length := by
      intro j hj
      obtain ⟨B, hB, _⟩ := hin j sel[j] (List.getElem?_eq_getElem hj)
      have := (List.getElem?_eq_some_iff.1 hB).1
      simpa [List.getD, hj] using this
    by_cases h1 : j < sel.length
    · by_cases h2 : k < sel.length
      · simp only [back, h1, h2, if_true] at e
        have e1 : sel[j]? = some (sel.getD j 0) := by simp [List.getD, h1]
        have e2 : sel[k]? = some (sel.getD k 0) := by simp [List.getD, h2]
        rw [← idxN_at hnd e1, ← idxN_at hnd e2, e]
      · simp only [back, h1, h2, if_true, if_false] at e
        have := hlt j h1; omega
    · by_cases h2 : k < sel.length
      · simp only [back, h1, h2, if_true, if_false] at e
        have := hlt k h2; omega
      · simp only [back, h1, h2, if_false] at e; omega
  have hcof : ∀ (j : Nat) (B0 : Bx) (c : CB), outb[j]? = some B0 → (C ++ E)[back j]? = some c → (C1 ++ E)[j]? = some c := by
    intro j B0 c h1 h2
    obtain ⟨c', h3, _⟩ := hp.inv.get h1
    rw [hback j c' h3] at h2; cases h2; exact h3
  have hcold : ∀ (i : Nat) (c : CB), i < σ.bx.length → (C ++ E)[i]? = some c → C[i]? = some c := by
    intro i c hi e; rwa [List.getElem?_append_left (by omega)] at e
  have hownW : ∀ (b o : Nat), Owns (C ++ E) (setBs sel outs σ.bx ++ outs.drop sel.length) b o →
      (∃ i c B, i ∉ sel ∧ C[i]? = some c ∧ σ.bx[i]? = some B ∧ B.live = true ∧ c.owns b o) ∨ Owns (C1 ++ E) outb b o := by
    rintro b o ⟨i, c, B, h1, h2, h3, h4⟩
    rcases hsplit i B h2 with ⟨hm, hi, hB⟩ | ⟨j, B0, rfl, hB, rfl⟩
    · exact .inl ⟨i, c, B, hm, hcold i c hi h1, hB, h3, h4⟩
    · exact .inr ⟨j, c, B0, hcof j B0 c hB h1, hB, by rwa [live_ren] at h3, h4⟩
  have hleft : ∀ (i : Nat) (c : CB) (B : Bx) (b o : Nat), i ∉ sel → C[i]? = some c → σ.bx[i]? = some B → B.live = true → c.owns b o → ¬ Owns C1 inb b o := by
    intro i c B b o hm hc hB hl hw ho
    obtain ⟨k, d, A, hk, hd, hA, hlA, hw'⟩ := hown1 b o ho
    exact h.inv.disj i k c d B A b o (fun e => hm (e ▸ hk)) hc hd hB hA hl hlA hw hw'
  have hleftlt : ∀ (i : Nat) (c : CB) (B : Bx) (b o : Nat), C[i]? = some c → σ.bx[i]? = some B → B.live = true → c.owns b o → b < w.heap.size :=
    fun i c B b o hc hB hl hw => h.inv.owns_lt ⟨i, c, B, hc, hB, hl, hw⟩
  refine ⟨{ h with inv := ?_, tm := ?_, k0 := h.k0.trans hp.kle, knew := ?_, own := ?_, cin := ?_, frame := ?_, defs := ?_, loops := ?_ }, hp.res.ren fun i _ c e => hback i c e⟩
  · refine ⟨hp.inv.known, ?_, ?_, ?_, ?_⟩
    · simp only [List.length_append, List.length_drop, setBs_length]; omega
    · intro b o ho
      rcases hownW b o ho with ⟨i, c, B, hm, hc, hB, hl, hw⟩ | ho
      · cases e : K' b o with
        | none => rfl
        | some u =>
          rcases hp.knew b o u e with h1 | h1 | h1
          · rw [h.inv.apart b o ⟨i, c, B, hc, hB, hl, hw⟩] at h1; cases h1
          · exact absurd h1 (hleft i c B b o hm hc hB hl hw)
          · have := hleftlt i c B b o hc hB hl hw; omega
      · exact hp.inv.apart b o ho
    · intro i k c d A B b o hne hc hd hA hB hlA hlB hw hw'
      rcases hsplit i A hA with ⟨hm, hi, hA1⟩ | ⟨j, A0, rfl, hA1, rfl⟩
      · rcases hsplit k B hB with ⟨hm', hk, hB1⟩ | ⟨j', B0, rfl, hB1, rfl⟩
        · exact h.inv.disj i k c d A B b o hne (hcold i c hi hc) (hcold k d hk hd) hA1 hB1 hlA hlB hw hw'
        · have ho : Owns (C1 ++ E) outb b o := ⟨j', d, B0, hcof j' B0 d hB1 hd, hB1, by rwa [live_ren] at hlB, hw'⟩
          rcases hp.own b o ho with h1 | h1
          · exact hleft i c A b o hm (hcold i c hi hc) hA1 hlA hw h1
          · have := hleftlt i c A b o (hcold i c hi hc) hA1 hlA hw; omega
      · rcases hsplit k B hB with ⟨hm', hk, hB1⟩ | ⟨j', B0, rfl, hB1, rfl⟩
        · have ho : Owns (C1 ++ E) outb b o := ⟨j, c, A0, hcof j A0 c hA1 hc, hA1, by rwa [live_ren] at hlA, hw⟩
          rcases hp.own b o ho with h1 | h1
          · exact hleft k d B b o hm' (hcold k d hk hd) hB1 hlB hw' h1
          · have := hleftlt k d B b o (hcold k d hk hd) hB1 hlB hw'; omega
        · rw [live_ren] at hlA hlB
          exact hp.inv.disj j j' c d A0 B0 b o (fun e => hne (by rw [e])) (hcof j A0 c hA1 hc) (hcof j' B0 d hB1 hd) hA1 hB1 hlA hlB hw hw'
    · intro i B c hB hc
      rcases hsplit i B hB with ⟨hm, hi, hB1⟩ | ⟨j, B0, rfl, hB1, rfl⟩
      · by_cases hl : B.live = true
        · exact (h.inv.box i B c hB1 (hcold i c hi hc)).mono hp.kle (CLe.append _ _) hp.frame (fun b o hw => hleft i c B b o hm (hcold i c hi hc) hB1 hl hw)
        · cases B <;> first | trivial | simp [Bx.live] at hl
      · exact (hp.inv.box j B0 c hB1 (hcof j B0 c hB1 hc)).ren fun k _ d e => hback k d e
  · exact h.tm.mono hp.kle (CLe.append _ _)
  · intro b o u e
    rcases hp.knew b o u e with h1 | h1 | h1
    · exact h.knew b o u h1
    · exact .inr (h.own b o (hown1' b o h1))
    · exact .inr (.inr (Nat.le_trans h.frame.size h1))
  · intro b o ho
    rcases hownW b o ho with ⟨i, c, B, hm, hc, hB, hl, hw⟩ | ho
    · exact h.own b o ⟨i, c, B, hc, hB, hl, hw⟩
    · rcases hp.own b o ho with h1 | h1
      · exact h.own b o (hown1' b o h1)
      · exact .inr (Nat.le_trans h.frame.size h1)
  · intro i c e; exact CLe.append _ _ _ _ (h.cin i c e)
  · refine h.frame.trans hp.frame (fun b o hlt ho => ?_)
    rcases h.own b o (hown1' b o ho) with h1 | h1
    · exact h1
    · omega
  · obtain ⟨rs, h1, h2, h3⟩ := h.defs.marks
    refine ⟨⟨rs, h1, h2, fun r hr => ⟨hp.frame.obj (h3 r hr).1 trivial (o₀ := 0) (fun ho => (h3 r hr).2.2 0 (hown1' r 0 ho)), (h3 r hr).2.1, fun o ho => ?_⟩⟩, h.defs.round⟩
    rcases hownW r o ho with ⟨i, c, B, hm, hc, hB, hl, hw⟩ | ho
    · exact (h3 r hr).2.2 o ⟨i, c, B, hc, hB, hl, hw⟩
    · rcases hp.own r o ho with h4 | h4
      · exact (h3 r hr).2.2 o (hown1' r o h4)
      · have := (Array.getElem?_eq_some_iff.1 (h3 r hr).1).1; omega
  · intro i hi hl
    obtain ⟨B, hB, hl'⟩ := h.loops i hi hl
    have hib := (List.getElem?_eq_some_iff.1 hB).1
    show ∃ B', (setBs sel outs σ.bx ++ outs.drop sel.length)[i]? = some B' ∧ B'.isLoop = true
    rw [List.getElem?_append_left (by rw [setBs_length]; exact hib)]
    by_cases hm : i ∈ sel
    · have hj := idxN_get hm
      obtain ⟨B0, e1, e2⟩ := hin _ i hj
      rw [hB] at e1; cases e1
      obtain ⟨B', e3, e4⟩ := hp.loops _ _ e2 (by rw [isLoop_ren]; exact hl')
      refine ⟨B'.ren back, setBs_at sel outs σ.bx (idxN i sel) i _ hnd hj ?_ hib, by rw [isLoop_ren]; exact e4⟩
      rw [← hout]; simp [e3]
    · exact ⟨B, by rw [setBs_other sel outs σ.bx i hm]; exact hB, hl'⟩

end Go.Em
