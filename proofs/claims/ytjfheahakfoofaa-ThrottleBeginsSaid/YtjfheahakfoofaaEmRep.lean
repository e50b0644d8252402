/- The abstract machine: what its values mean in a world. -/
import Derived.Test.YtjfheahakfoofaaEmDefs
import Derived.Laws.Cells
import Derived.Laws.CopyRow
import Derived.Laws.Entries
namespace Go.Em

/-- Cells that are known never to change again. -/
abbrev Kn := Nat → Nat → Option Value

/-- Where a box lies: 'at': a block, its first cell, the end of what is owned there, the cells of an element · 'ghost': nowhere (an empty row) · 'obj': a block that is no row of cells. -/
inductive CB where
  | at (b base hi sz : Nat)
  | ghost
  | obj (b : Nat)

def CB.owns : CB → Nat → Nat → Prop
  | .at b base hi _, b', o => b' = b ∧ base ≤ o ∧ o < hi
  | .obj b, b', _ => b' = b
  | .ghost, _, _ => False

def okV : Value → Bool
  | .bool _ | .int _ _ | .float _ _ | .string _ | .pointer none | .map none | .nilFunc | .nilIface => true
  | .tuple vs => vs.isEmpty
  | _ => false

def at2 (es : List (List X)) (i j : Nat) : Option X := (es[i]?).bind (·[j]?)

/-- An abstract value reads as a value. -/
inductive Rep (K : Kn) : List CB → X → Value → Prop
  | v {C : List CB} {x : Value} (h : okV x = true) : Rep K C (.v x) x
  | slNil {C : List CB} {t : Bool} {sz : Nat} : Rep K C (.sl t sz []) (.slice none 0 0)
  | sl {C : List CB} {t : Bool} {es : List (List X)} {b o sz cap : Nat} (vals : Nat → Nat → Value) (hlen : ∀ (e : List X), e ∈ es → e.length = sz)
      (htight : t = true → cap = es.length) (hcap : es.length ≤ cap)
      (hcell : ∀ (i j : Nat) (x : X), at2 es i j = some x → x.isCell = true)
      (hk : ∀ (i j : Nat) (x : X), at2 es i j = some x → K b (o + i * sz + j) = some (vals i j))
      (hr : ∀ (i j : Nat) (x : X), at2 es i j = some x → Rep K [] x (vals i j)) : Rep K C (.sl t sz es) (.slice (some ⟨b, o, none⟩) es.length cap)
  | bs {C : List CB} {i off len b base hi sz cap : Nat} (hc : C[i]? = some (.at b base hi sz)) (hcap : base + (off + cap) * sz ≤ hi) (hlen : len ≤ cap) :
      Rep K C (.bs i off len) (.slice (some ⟨b, base + off * sz, none⟩) len cap)
  | bsNil {C : List CB} {i : Nat} {ob : Option Addr} (hc : C[i]? = some .ghost) (hob : ∀ ad, ob = some ad → ad.spot = none) : Rep K C (.bs i 0 0) (.slice ob 0 0)
  | ptr {C : List CB} {i e o b base hi sz : Nat} (hc : C[i]? = some (.at b base hi sz)) : Rep K C (.ptr i e o) (.pointer (some ⟨b, base + e * sz + o, none⟩))
  | dp {C : List CB} {cs : List X} {b o : Nat} (vals : Nat → Value) (hcell : ∀ (j : Nat) (x : X), cs[j]? = some x → x.isCell = true)
      (hk : ∀ (j : Nat) (x : X), cs[j]? = some x → K b (o + j) = some (vals j)) (hr : ∀ (j : Nat) (x : X), cs[j]? = some x → Rep K [] x (vals j)) :
      Rep K C (.dp cs) (.pointer (some ⟨b, o, none⟩))
  | fn {C : List CB} {f : FuncId} {caps : List X} {vs : Array Value} (hs : vs.size = caps.length)
      (hr : ∀ (j : Nat) (x : X) (v : Value), caps[j]? = some x → vs[j]? = some v → Rep K C x v) : Rep K C (.fn f caps) (.func (.func f) #[] vs)
  | agg {C : List CB} {cs : List X} {vs : Array Value} (hs : vs.size = cs.length) (hcell : ∀ (x : X), x ∈ cs → x.isCell = true)
      (hr : ∀ (j : Nat) (x : X) (v : Value), cs[j]? = some x → vs[j]? = some v → Rep K C x v) : Rep K C (.agg cs) (.agg vs)
  | tup {C : List CB} {xs : List X} {vs : Array Value} (hs : vs.size = xs.length)
      (hr : ∀ (j : Nat) (x : X) (v : Value), xs[j]? = some x → vs[j]? = some v → Rep K C x v) : Rep K C (.tup xs) (.tuple vs)
  | yl {C : List CB} {i b : Nat} (hc : C[i]? = some (.obj b)) : Rep K C (.yl i) (.func (.yield b) #[] #[])

def KLe (K K' : Kn) : Prop := ∀ (b o : Nat) (v : Value), K b o = some v → K' b o = some v
theorem KLe.refl (K : Kn) : KLe K K := fun _ _ _ h => h
theorem KLe.trans {K K' K'' : Kn} (h : KLe K K') (h' : KLe K' K'') : KLe K K'' := fun b o v e => h' b o v (h b o v e)

def CLe (C C' : List CB) : Prop := ∀ (i : Nat) (c : CB), C[i]? = some c → C'[i]? = some c
theorem CLe.refl (C : List CB) : CLe C C := fun _ _ h => h
theorem CLe.nil (C : List CB) : CLe [] C := fun _ _ h => by simp at h
theorem CLe.append (C E : List CB) : CLe C (C ++ E) := fun i c h => by
  rw [List.getElem?_append_left (List.getElem?_eq_some_iff.1 h).1]; exact h
theorem CLe.trans {C C' C'' : List CB} (h : CLe C C') (h' : CLe C' C'') : CLe C C'' := fun i c e => h' i c (h i c e)

theorem Rep.mono {K K' : Kn} (hK : KLe K K') {C : List CB} {x : X} {v : Value} (h : Rep K C x v) : ∀ {C' : List CB}, CLe C C' → Rep K' C' x v := by
  induction h with
  | v h => exact fun _ => .v h
  | slNil => exact fun _ => .slNil
  | sl vals hlen ht hcap hcell hk _ ih => exact fun _ => .sl vals hlen ht hcap hcell (fun i j x e => hK _ _ _ (hk i j x e)) (fun i j x e => ih i j x e (CLe.refl _))
  | bs hc hcap hlen => exact fun hC => .bs (hC _ _ hc) hcap hlen
  | bsNil hc hob => exact fun hC => .bsNil (hC _ _ hc) hob
  | ptr hc => exact fun hC => .ptr (hC _ _ hc)
  | dp vals hcell hk _ ih => exact fun _ => .dp vals hcell (fun j x e => hK _ _ _ (hk j x e)) (fun j x e => ih j x e (CLe.refl _))
  | fn hs _ ih => exact fun hC => .fn hs (fun j x v e e' => ih j x v e e' hC)
  | agg hs hcell _ ih => exact fun hC => .agg hs hcell (fun j x v e e' => ih j x v e e' hC)
  | tup hs _ ih => exact fun hC => .tup hs (fun j x v e e' => ih j x v e e' hC)
  | yl hc => exact fun hC => .yl (hC _ _ hc)

/-- An empty slice, wherever it lies. -/
theorem Rep.empty {K : Kn} {C : List CB} {t : Bool} {sz cap : Nat} {ob : Option Addr} (hob : ∀ ad, ob = some ad → ad.spot = none) (hn : ob = none → cap = 0) (ht : t = true → cap = 0) : Rep K C (.sl t sz []) (.slice ob 0 cap) := by
  cases ob with
  | none => rw [hn rfl]; exact .slNil
  | some ad =>
    obtain ⟨b, o, s⟩ := ad
    have := hob _ rfl
    dsimp only at this; subst this
    exact .sl (fun _ _ => undef) (by simp) (by simpa using ht) (by simp) (by simp [at2]) (by simp [at2]) (by simp [at2])

/-- Cells, one by one. -/
structure CRep (K : Kn) (C : List CB) (xs : List X) (vs : List Value) : Prop where
  len : vs.length = xs.length
  cell : ∀ (x : X), x ∈ xs → x.isCell = true
  rep : ∀ (j : Nat) (x : X) (v : Value), xs[j]? = some x → vs[j]? = some v → Rep K C x v

theorem CRep.mono {K K' : Kn} {C C' : List CB} {xs : List X} {vs : List Value} (h : CRep K C xs vs) (hK : KLe K K') (hC : CLe C C') : CRep K' C' xs vs :=
  ⟨h.len, h.cell, fun j x v e e' => (h.rep j x v e e').mono hK hC⟩

theorem CRep.nil {K : Kn} {C : List CB} : CRep K C [] [] := ⟨rfl, by simp, by simp⟩

theorem CRep.cons {K : Kn} {C : List CB} {x : X} {v : Value} {xs : List X} {vs : List Value} (hc : x.isCell = true) (h : Rep K C x v) (t : CRep K C xs vs) :
    CRep K C (x :: xs) (v :: vs) :=
  ⟨by simp [t.len], by (simp only [List.mem_cons]; intro y hy; rcases hy with rfl | hy; exact hc; exact t.cell y hy),
   fun j y u e e' => by cases j with
    | zero => simp at e e'; subst e; subst e'; exact h
    | succ j => simp at e e'; exact t.rep j y u e e'⟩

theorem CRep.append {K : Kn} {C : List CB} {xs ys : List X} {vs us : List Value} (h : CRep K C xs vs) (t : CRep K C ys us) : CRep K C (xs ++ ys) (vs ++ us) := by
  refine ⟨by simp [h.len, t.len], ?_, ?_⟩
  · intro x hx; rcases List.mem_append.1 hx with hx | hx; exact h.cell x hx; exact t.cell x hx
  · intro j x v e e'
    by_cases hj : j < xs.length
    · rw [List.getElem?_append_left hj] at e
      rw [List.getElem?_append_left (by rw [h.len]; exact hj)] at e'
      exact h.rep j x v e e'
    · rw [List.getElem?_append_right (by omega)] at e
      rw [List.getElem?_append_right (by rw [h.len]; omega), h.len] at e'
      exact t.rep _ x v e e'

theorem CRep.take {K : Kn} {C : List CB} {xs : List X} {vs : List Value} (h : CRep K C xs vs) (n : Nat) : CRep K C (xs.take n) (vs.take n) := by
  refine ⟨by simp [h.len], fun x hx => h.cell x (List.mem_of_mem_take hx), fun j x v e e' => ?_⟩
  rw [List.getElem?_take] at e e'
  split at e
  · rename_i hj; rw [if_pos hj] at e'; exact h.rep j x v e e'
  · simp at e

theorem CRep.drop {K : Kn} {C : List CB} {xs : List X} {vs : List Value} (h : CRep K C xs vs) (n : Nat) : CRep K C (xs.drop n) (vs.drop n) := by
  refine ⟨by simp [h.len], fun x hx => h.cell x (List.mem_of_mem_drop hx), fun j x v e e' => ?_⟩
  rw [List.getElem?_drop] at e e'
  exact h.rep _ x v e e'

theorem CRep.get {K : Kn} {C : List CB} {xs : List X} {vs : List Value} (h : CRep K C xs vs) {j : Nat} {x : X} (e : xs[j]? = some x) :
    ∃ v, vs[j]? = some v ∧ Rep K C x v := by
  have hj : j < vs.length := by rw [h.len]; exact (List.getElem?_eq_some_iff.1 e).1
  exact ⟨vs[j], List.getElem?_eq_getElem hj, h.rep j x _ e (List.getElem?_eq_getElem hj)⟩

theorem CRep.get' {K : Kn} {C : List CB} {xs : List X} {vs : List Value} (h : CRep K C xs vs) {j : Nat} {v : Value} (e : vs[j]? = some v) :
    ∃ x, xs[j]? = some x ∧ Rep K C x v := by
  have hj : j < xs.length := by rw [← h.len]; exact (List.getElem?_eq_some_iff.1 e).1
  exact ⟨xs[j], List.getElem?_eq_getElem hj, h.rep j _ v (List.getElem?_eq_getElem hj) e⟩

theorem CRep.splice {K : Kn} {C : List CB} {xs new xs' : List X} {vs us : List Value} {o : Nat} (h : CRep K C xs vs) (hn : CRep K C new us) (e : splice xs o new = some xs') :
    CRep K C xs' (vs.take o ++ us ++ vs.drop (o + us.length)) ∧ o + us.length ≤ vs.length := by
  unfold Em.splice at e
  split at e
  · rename_i hle
    simp only [Option.some.injEq] at e
    subst e
    refine ⟨?_, by rw [hn.len, h.len]; exact hle⟩
    rw [hn.len]
    exact ((h.take o).append hn).append (h.drop _)
  · simp at e

theorem okV_cell {v : Value} (h : okV v = true) (h1 : X.ok1 (.v v) = true) : v.oneCell' = true := by
  cases v <;> simp_all [okV, X.ok1, Value.oneCell']

theorem isCell_ok1 {x : X} (h : x.isCell = true) : x.ok1 = true := by
  unfold X.isCell at h; unfold X.ok1
  split <;> simp_all

theorem Rep.oneCell {K : Kn} {C : List CB} {x : X} {v : Value} (h : Rep K C x v) (hc : x.isCell = true) : v.oneCell' = true := by
  cases h with
  | v h => exact okV_cell h (isCell_ok1 hc)
  | agg => simp [X.isCell] at hc
  | tup => simp [X.isCell] at hc
  | _ => rfl

theorem CRep.oneCell {K : Kn} {C : List CB} {xs : List X} {vs : List Value} (h : CRep K C xs vs) : ∀ v, v ∈ vs → v.oneCell' = true := by
  intro v hv
  obtain ⟨j, hj, rfl⟩ := List.mem_iff_getElem.1 hv
  obtain ⟨x, hx, hr⟩ := h.get' (List.getElem?_eq_getElem hj)
  exact hr.oneCell (h.cell x (List.mem_of_getElem? hx))

/-- The cells of a value that can be stored. -/
theorem Rep.cells {K : Kn} {C : List CB} {x : X} {v : Value} (h : Rep K C x v) (h1 : x.ok1 = true) : CRep K C x.cells v.cells.toList := by
  cases h with
  | agg hs hcell hr => exact ⟨by simpa [Value.cells, X.cells] using hs, hcell, fun j x v e e' => hr j x v e (by simpa [Value.cells] using e')⟩
  | v h =>
    have hc := okV_cell h h1
    have e : v.cells.toList = [v] := by cases v <;> simp_all [Value.cells, Value.oneCell']
    have e' : (X.v v).isCell = true := by cases v <;> simp_all [X.isCell, Value.oneCell']
    rw [e]
    exact CRep.cons e' (.v h) CRep.nil
  | tup => simp [X.ok1] at h1
  | slNil => exact CRep.cons rfl .slNil CRep.nil
  | sl vals hlen ht hcap hcell hk hr => exact CRep.cons rfl (.sl vals hlen ht hcap hcell hk hr) CRep.nil
  | bs hc hcap hlen => exact CRep.cons rfl (.bs hc hcap hlen) CRep.nil
  | bsNil hc hob => exact CRep.cons rfl (.bsNil hc hob) CRep.nil
  | ptr hc => exact CRep.cons rfl (.ptr hc) CRep.nil
  | dp vals hcell hk hr => exact CRep.cons rfl (.dp vals hcell hk hr) CRep.nil
  | fn hs hr => exact CRep.cons rfl (.fn hs hr) CRep.nil
  | yl hc => exact CRep.cons rfl (.yl hc) CRep.nil

/-! ### Renumbering -/
theorem memN_iff {n : Nat} : ∀ {l : List Nat}, memN n l = true ↔ n ∈ l
  | [] => by simp [memN]
  | m :: r => by simp [memN, memN_iff (l := r)]

theorem subN_iff {l s : List Nat} : subN l s = true ↔ ∀ i, i ∈ l → i ∈ s := by simp [subN, memN_iff]

theorem idxN_get {n : Nat} : ∀ {l : List Nat}, n ∈ l → l[idxN n l]? = some n
  | m :: r, h => by
    unfold idxN
    by_cases e : n = m
    · simp [e]
    · have : (n == m) = false := by simpa using e
      simp only [this]
      have hr : n ∈ r := by rcases List.mem_cons.1 h with h | h; exact absurd h e; exact h
      simpa using idxN_get hr

theorem mem_refsL {i : Nat} : ∀ {cs : List X}, i ∈ refsL cs ↔ ∃ x, x ∈ cs ∧ i ∈ x.refs
  | [] => by simp [refsL]
  | x :: r => by simp [refsL, mem_refsL (cs := r)]

theorem renL_eq (f : Nat → Nat) : ∀ cs : List X, renL f cs = cs.map (X.ren f)
  | [] => rfl
  | x :: r => by simp [renL, renL_eq f r]

theorem isCell_ren (f : Nat → Nat) (x : X) : (x.ren f).isCell = x.isCell := by
  cases x <;> simp [X.ren, X.isCell]

/-- Renumbered along f: whatever box is named, its place goes with it. -/
theorem Rep.ren {K : Kn} {C C' : List CB} {f : Nat → Nat} {x : X} {v : Value} (h : Rep K C x v)
    (hC : ∀ i, i ∈ x.refs → ∀ c, C[i]? = some c → C'[f i]? = some c) : Rep K C' (x.ren f) v := by
  induction h with
  | v h => exact .v h
  | slNil => exact .slNil
  | sl vals hlen ht hcap hcell hk hr => exact .sl vals hlen ht hcap hcell hk hr
  | bs hc hcap hlen => exact .bs (hC _ (by simp [X.refs]) _ hc) hcap hlen
  | bsNil hc hob => exact .bsNil (hC _ (by simp [X.refs]) _ hc) hob
  | ptr hc => exact .ptr (hC _ (by simp [X.refs]) _ hc)
  | dp vals hcell hk hr => exact .dp vals hcell hk hr
  | fn hs _ ih =>
    refine .fn (by simpa [renL_eq] using hs) (fun j y v e e' => ?_)
    rw [renL_eq, List.getElem?_map] at e
    obtain ⟨y', hy, rfl⟩ := Option.map_eq_some_iff.1 e
    exact ih j y' v hy e' (fun i hi => hC i (by rw [X.refs, mem_refsL]; exact ⟨y', List.mem_of_getElem? hy, hi⟩))
  | agg hs hcell _ ih =>
    refine .agg (by simpa [renL_eq] using hs) (fun y hy => ?_) (fun j y v e e' => ?_)
    · rw [renL_eq] at hy
      obtain ⟨z, hz, rfl⟩ := List.mem_map.1 hy
      rw [isCell_ren]; exact hcell z hz
    rw [renL_eq, List.getElem?_map] at e
    obtain ⟨y', hy, rfl⟩ := Option.map_eq_some_iff.1 e
    exact ih j y' v hy e' (fun i hi => hC i (by rw [X.refs, mem_refsL]; exact ⟨y', List.mem_of_getElem? hy, hi⟩))
  | tup hs _ ih =>
    refine .tup (by simpa [renL_eq] using hs) (fun j y v e e' => ?_)
    rw [renL_eq, List.getElem?_map] at e
    obtain ⟨y', hy, rfl⟩ := Option.map_eq_some_iff.1 e
    exact ih j y' v hy e' (fun i hi => hC i (by rw [X.refs, mem_refsL]; exact ⟨y', List.mem_of_getElem? hy, hi⟩))
  | yl hc => exact .yl (hC _ (by simp [X.refs]) _ hc)

/-- A value without references reads the same whatever the places. -/
theorem Rep.noRef {K : Kn} {C C' : List CB} {x : X} {v : Value} (h : Rep K C x v) (hx : x.refs = []) : Rep K C' x v := by
  induction h with
  | v h => exact .v h
  | slNil => exact .slNil
  | sl vals hlen ht hcap hcell hk hr => exact .sl vals hlen ht hcap hcell hk hr
  | bs => simp [X.refs] at hx
  | bsNil => simp [X.refs] at hx
  | ptr => simp [X.refs] at hx
  | dp vals hcell hk hr => exact .dp vals hcell hk hr
  | fn hs _ ih =>
    refine .fn hs (fun j y v e e' => ih j y v e e' ?_)
    have : ∀ i, i ∉ y.refs := fun i hi => by
      have : i ∈ refsL _ := mem_refsL.2 ⟨y, List.mem_of_getElem? e, hi⟩
      simp only [X.refs] at hx; rw [hx] at this; simp at this
    exact List.eq_nil_iff_forall_not_mem.2 this
  | agg hs hcell _ ih =>
    refine .agg hs hcell (fun j y v e e' => ih j y v e e' ?_)
    have : ∀ i, i ∉ y.refs := fun i hi => by
      have : i ∈ refsL _ := mem_refsL.2 ⟨y, List.mem_of_getElem? e, hi⟩
      simp only [X.refs] at hx; rw [hx] at this; simp at this
    exact List.eq_nil_iff_forall_not_mem.2 this
  | tup hs _ ih =>
    refine .tup hs (fun j y v e e' => ih j y v e e' ?_)
    have : ∀ i, i ∉ y.refs := fun i hi => by
      have : i ∈ refsL _ := mem_refsL.2 ⟨y, List.mem_of_getElem? e, hi⟩
      simp only [X.refs] at hx; rw [hx] at this; simp at this
    exact List.eq_nil_iff_forall_not_mem.2 this
  | yl => simp [X.refs] at hx

/-! ### Boxes in a world -/
/-- The state of a loop's record. -/
def PendOk : Option Ex → Option Code → Prop
  | none, none => True
  | some .ret, some .ret => True
  | some (.exit i), some (.exit j) => i = j
  | _, _ => False

def TmOk (K : Kn) (C : List CB) (tm : List (Nat × X)) (tmps : Array Value) : Prop :=
  ∀ (n : Nat) (x : X), lk tm n = some x → ∃ v, tmps[n]? = some v ∧ Rep K C x v

/-- What holds of the code that a round runs; left open here. -/
abbrev CodeRel := Nat → Code → Code → Em.C → Em.C → Prop

structure LoopOk (_P : Program) (R : CodeRel) (K : Kn) (C : List CB) (st : LoopState) (pend : Option Ex) (tm : List (Nat × X)) (ps : List Nat) (a b : Em.C) (l : Loop) : Prop where
  hst : l.state = st
  hpend : PendOk pend l.pending
  htm : TmOk K C tm l.tmps
  hps : l.params.toList = ps
  hin : ∀ (p : Nat), p ∈ ps → p < l.tmps.size
  hcode : R l.tmps.size l.assign l.body a b

def BoxOk (P : Program) (R : CodeRel) (K : Kn) (C : List CB) (w : World) : Bx → CB → Prop
  | .dead, _ => True
  | .var cs, .at b base hi _ => base = 0 ∧ hi = cs.length ∧ ∃ (arr : Array Value) (el : TypeId), w.heap[b]? = some (.cells arr el (0, 0)) ∧ CRep K C cs arr.toList
  | .row sz es, .at b base hi sz' => sz' = sz ∧ base + es.length * sz ≤ hi ∧ (∀ (e : List X), e ∈ es → e.length = sz) ∧
      ∃ (arr : Array Value) (el : TypeId), w.heap[b]? = some (.cells arr el (0, 0)) ∧ hi ≤ arr.size ∧
        ∀ (i j : Nat) (x : X), at2 es i j = some x → x.isCell = true ∧ ∃ v, arr[base + i * sz + j]? = some v ∧ Rep K [] x v
  | .row _ es, .ghost => es = []
  | .loop st p tm ps a c, .obj b => ∃ l : Loop, w.heap[b]? = some (.loop l) ∧ LoopOk P R K C st p tm ps a c l
  | _, _ => False

def Bx.live : Bx → Bool
  | .dead => false
  | _ => true

/-- The cells that the boxes own. -/
def Owns (C : List CB) (bx : List Bx) (b o : Nat) : Prop := ∃ (i : Nat) (c : CB) (B : Bx), C[i]? = some c ∧ bx[i]? = some B ∧ B.live = true ∧ c.owns b o

structure Inv (P : Program) (R : CodeRel) (K : Kn) (C : List CB) (bx : List Bx) (w : World) : Prop where
  known : ∀ (b o : Nat) (v : Value), K b o = some v → w.cell? ⟨b, o, none⟩ = some v
  size : C.length = bx.length
  apart : ∀ (b o : Nat), Owns C bx b o → K b o = none
  disj : ∀ (i j : Nat) (c d : CB) (A B : Bx) (b o : Nat), i ≠ j → C[i]? = some c → C[j]? = some d → bx[i]? = some A → bx[j]? = some B → A.live = true → B.live = true → c.owns b o → ¬ d.owns b o
  box : ∀ (i : Nat) (B : Bx) (c : CB), bx[i]? = some B → C[i]? = some c → BoxOk P R K C w B c

/-! ### What a stretch of the run leaves as it was -/
def noCells : Option Obj → Prop
  | some (.cells _ _ _) => False
  | _ => True

def ObjFr (S : Nat → Prop) (o o' : Option Obj) : Prop :=
  ((∀ i, S i) ∧ noCells o ∧ noCells o') ∨ o = o' ∨ ∃ (cs cs' : Array Value) (el : TypeId) (fr : Nat × Nat), o = some (.cells cs el fr) ∧ o' = some (.cells cs' el fr) ∧ cs.size = cs'.size ∧ ∀ i, ¬ S i → cs[i]? = cs'[i]?

structure FrameOk (S : Nat → Nat → Prop) (w w' : World) : Prop where
  os : w'.os = w.os
  tape : w'.tape = w.tape
  output : w'.output = w.output
  size : w.heap.size ≤ w'.heap.size
  block : ∀ b, b < w.heap.size → ObjFr (S b) w.heap[b]? w'.heap[b]?

theorem ObjFr.refl (S : Nat → Prop) (o : Option Obj) : ObjFr S o o := .inr (.inl rfl)

theorem ObjFr.trans {S S' : Nat → Prop} {a b c : Option Obj} (h : ObjFr S a b) (h' : ObjFr S' b c) (hs : ∀ i, S' i → S i) : ObjFr S a c := by
  rcases h with ⟨h, ha, hb⟩ | rfl | ⟨cs, cs', el, fr, rfl, rfl, hz, he⟩
  · refine .inl ⟨h, ha, ?_⟩
    rcases h' with ⟨_, _, hc⟩ | rfl | ⟨cs, cs', el, fr, rfl, rfl, hz, he⟩
    · exact hc
    · exact hb
    · exact hb.elim
  · rcases h' with ⟨h', ha, hc⟩ | rfl | ⟨cs, cs', el, fr, h1, h2, hz, he⟩
    · exact .inl ⟨fun i => hs i (h' i), ha, hc⟩
    · exact .inr (.inl rfl)
    · exact .inr (.inr ⟨cs, cs', el, fr, h1, h2, hz, fun i hi => he i fun h => hi (hs i h)⟩)
  · rcases h' with ⟨_, ha, _⟩ | rfl | ⟨ds, ds', el', fr', h1, h2, hz', he'⟩
    · exact ha.elim
    · exact .inr (.inr ⟨cs, cs', el, fr, rfl, rfl, hz, he⟩)
    · simp only [Option.some.injEq, Obj.cells.injEq] at h1
      obtain ⟨rfl, rfl, rfl⟩ := h1
      exact .inr (.inr ⟨cs, ds', _, _, rfl, h2, hz.trans hz', fun i hi => (he i hi).trans (he' i fun h => hi (hs i h))⟩)

theorem FrameOk.refl (S : Nat → Nat → Prop) (w : World) : FrameOk S w w := ⟨rfl, rfl, rfl, Nat.le_refl _, fun _ _ => .refl _ _⟩

/-- Two stretches: what the second may touch is what the first may touch, or new. -/
theorem FrameOk.trans {S S' : Nat → Nat → Prop} {a b c : World} (h : FrameOk S a b) (h' : FrameOk S' b c) (hs : ∀ k o, k < a.heap.size → S' k o → S k o) : FrameOk S a c :=
  ⟨h'.os.trans h.os, h'.tape.trans h.tape, h'.output.trans h.output, Nat.le_trans h.size h'.size,
   fun k hk => (h.block k hk).trans (h'.block k (Nat.lt_of_lt_of_le hk h.size)) fun i hi => hs k i hk hi⟩

theorem FrameOk.mono {S S' : Nat → Nat → Prop} {a b : World} (h : FrameOk S a b) (hs : ∀ k o, k < a.heap.size → S k o → S' k o) : FrameOk S' a b :=
  ⟨h.os, h.tape, h.output, h.size, fun k hk => by
    rcases h.block k hk with ⟨h, ha, hb⟩ | h | ⟨cs, cs', el, fr, h1, h2, hz, he⟩
    · exact .inl ⟨fun i => hs k i hk (h i), ha, hb⟩
    · exact .inr (.inl h)
    · exact .inr (.inr ⟨cs, cs', el, fr, h1, h2, hz, fun i hi => he i fun h => hi (hs k i hk h)⟩)⟩

theorem FrameOk.drew (S : Nat → Nat → Prop) (w : World) : FrameOk S w w.drew := ⟨rfl, rfl, rfl, Nat.le_refl _, fun _ _ => .refl _ _⟩

theorem FrameOk.alloc (S : Nat → Nat → Prop) (w : World) (o : Obj) : FrameOk S w (w.alloc o) :=
  ⟨rfl, rfl, rfl, by simp, fun k hk => .inr (.inl (by show _ = (w.heap.push o)[k]?; rw [Array.getElem?_push, if_neg (Nat.ne_of_lt hk)]))⟩

theorem FrameOk.cell {S : Nat → Nat → Prop} {w w' : World} (h : FrameOk S w w') {b o : Nat} {v : Value} (hc : w.cell? ⟨b, o, none⟩ = some v) (hn : ¬ S b o) :
    w'.cell? ⟨b, o, none⟩ = some v := by
  have hb : b < w.heap.size := World.block_lt_of_cell? _ _ hc
  rcases h.block b hb with ⟨h, _, _⟩ | h | ⟨cs, cs', el, fr, h1, h2, hz, he⟩
  · exact absurd (h o) hn
  · simpa only [World.cell?, h] using hc
  · simp only [World.cell?, h1, h2] at hc ⊢; simpa [he o hn] using hc

/-- A row of cells of which a stretch is not touched. -/
theorem FrameOk.row {S : Nat → Nat → Prop} {w w' : World} (h : FrameOk S w w') {b : Nat} {arr : Array Value} {el : TypeId} {fr : Nat × Nat}
    (hb : w.heap[b]? = some (.cells arr el fr)) :
    ∃ arr', w'.heap[b]? = some (.cells arr' el fr) ∧ arr'.size = arr.size ∧ ∀ o, ¬ S b o → arr'[o]? = arr[o]? := by
  have hlt : b < w.heap.size := (Array.getElem?_eq_some_iff.1 hb).1
  rcases h.block b hlt with ⟨_, h, _⟩ | h | ⟨cs, cs', el', fr', h1, h2, hz, he⟩
  · rw [hb] at h; exact h.elim
  · exact ⟨arr, by rw [← h, hb], rfl, fun _ _ => rfl⟩
  · rw [hb] at h1
    simp only [Option.some.injEq, Obj.cells.injEq] at h1
    obtain ⟨rfl, rfl, rfl⟩ := h1
    exact ⟨cs', h2, hz.symm, fun o ho => (he o ho).symm⟩

theorem FrameOk.obj {S : Nat → Nat → Prop} {w w' : World} (h : FrameOk S w w') {b : Nat} {o : Obj} (hb : w.heap[b]? = some o) (ho : noCells (some o))
    {o₀ : Nat} (hn : ¬ S b o₀) : w'.heap[b]? = some o := by
  have hlt : b < w.heap.size := (Array.getElem?_eq_some_iff.1 hb).1
  rcases h.block b hlt with ⟨h, _, _⟩ | h | ⟨cs, cs', el', fr', h1, h2, hz, he⟩
  · exact absurd (h o₀) hn
  · rw [← h, hb]
  · rw [hb] at h1
    rw [h1] at ho; exact ho.elim

/-- A store into a row. -/
theorem FrameOk.setRow {S : Nat → Nat → Prop} {w : World} {g : Nat} {arr arr' : Array Value} {el : TypeId} (hg : w.heap[g]? = some (.cells arr el (0, 0)))
    (hz : arr'.size = arr.size) (he : ∀ o, ¬ S g o → arr[o]? = arr'[o]?) : FrameOk S w (w.setRow g arr') :=
  ⟨rfl, rfl, rfl, by simp, fun k _ => by
    by_cases hk : k = g
    · subst hk
      exact .inr (.inr ⟨arr, arr', el, _, hg, setRow_heap w k arr arr' el _ hg, hz.symm, he⟩)
    · rw [setRow_other w g k arr' hk]; exact .refl _ _⟩

/-- A turn of a block that is no row. -/
theorem FrameOk.setObj {S : Nat → Nat → Prop} {w : World} {g : Nat} {o o' : Obj} (hg : w.heap[g]? = some o) (ho : noCells (some o)) (ho' : noCells (some o'))
    (hs : ∀ i, S g i) : FrameOk S w { w with heap := w.heap.setIfInBounds g o' } :=
  ⟨rfl, rfl, rfl, by simp, fun k hk => by
    by_cases h : k = g
    · subst h
      refine .inl ⟨hs, by rw [hg]; exact ho, ?_⟩
      show noCells ((w.heap.setIfInBounds k o')[k]?)
      rw [Array.getElem?_setIfInBounds_self_of_lt hk]; exact ho'
    · refine .inr (.inl ?_)
      show _ = (w.heap.setIfInBounds g o')[k]?
      rw [Array.getElem?_setIfInBounds_ne (fun e => h e.symm)]⟩

end Go.Em
