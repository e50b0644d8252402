/- The abstract machine: each operation that is no call is sound. -/
import Derived.Test.YtjfheahakfoofaaEmInv
namespace Go.Em
variable {P : Program} {R : CodeRel} {x : Ctx} {K : Kn} {C : List CB} {σ : St} {a : Act} {w : World}

/-! ### Operands -/
theorem cellX_rep {sz : Nat} {v : Value} {y : X} (h : cellX sz v = some y) (K : Kn) (C : List CB) : Rep K C y v ∧ y.isCell = true := by
  unfold cellX at h
  split at h <;> first
    | (simp only [Option.some.injEq] at h; subst h; exact ⟨.v rfl, rfl⟩)
    | (simp only [Option.some.injEq] at h; subst h; exact ⟨.slNil, rfl⟩)
    | simp at h

theorem cellsX_rep (K : Kn) (C : List CB) : ∀ {vs : List Value} {szs : List Nat} {l : List X}, cellsX szs vs = some l → CRep K C l vs
  | [], _, l, h => by simp [cellsX] at h; subst h; exact .nil
  | v :: r, szs, l, h => by
    simp only [cellsX] at h
    cases hv : cellX (hd0 szs) v with
    | none => simp [hv] at h
    | some y =>
      simp only [hv] at h
      obtain ⟨t, ht, rfl⟩ := Option.map_eq_some_iff.1 h
      obtain ⟨hr, hc⟩ := cellX_rep hv K C
      exact .cons hc hr (cellsX_rep K C ht)

theorem constX_rep {t : TypeId} {v : Value} {y : X} (h : constX P t v = some y) (K : Kn) (C : List CB) : Rep K C y v := by
  unfold constX at h
  split at h
  · rename_i cs
    obtain ⟨l, hl, rfl⟩ := Option.map_eq_some_iff.1 h
    have hr := cellsX_rep K C hl
    exact .agg (by simpa using hr.len) hr.cell (fun j x v e e' => hr.rep j x v e (by simpa using e'))
  · exact (cellX_rep h K C).1

theorem ev_rep {o : Operand} {q : Opd} {y : X} {t : TypeId} (h : TmOk K C σ.tm a.tmps) (htr : trOpd P t o = some q) (he : σ.ev q = some y) : Rep K C y (a.eval o) := by
  cases o with
  | tmp n =>
    simp only [trOpd, Option.some.injEq] at htr; subst htr
    obtain ⟨v, hv, hr⟩ := h n y he
    have : a.eval (.tmp n) = v := by simp [Act.eval, Array.getD_eq_getD_getElem?, hv]
    rw [this]; exact hr
  | const v =>
    simp only [trOpd] at htr
    obtain ⟨z, hz, rfl⟩ := Option.map_eq_some_iff.1 htr
    simp only [St.ev, Option.some.injEq] at he; subst he
    exact constX_rep hz K C
  | global g => simp [trOpd] at htr
  | func f =>
    simp only [trOpd, Option.some.injEq] at htr; subst htr
    simp only [St.ev, Option.some.injEq] at he; subst he
    exact .fn (by simp) (by simp)

theorem evs_rep (h : TmOk K C σ.tm a.tmps) : ∀ {os : List Operand} {ts : List TypeId} {qs : List Opd} {ys : List X}, trOpds P ts os = some qs → evs σ qs = some ys →
    ys.length = os.length ∧ ∀ (j : Nat) (y : X) (v : Value), ys[j]? = some y → (os.map a.eval)[j]? = some v → Rep K C y v
  | [], ts, qs, ys, h1, h2 => by
    simp only [trOpds, Option.some.injEq] at h1; subst h1
    simp only [evs, Option.some.injEq] at h2; subst h2
    simp
  | o :: r, ts, qs, ys, h1, h2 => by
    simp only [trOpds] at h1
    cases ho : trOpd P (hd0 ts) o with
    | none => simp [ho] at h1
    | some q =>
      simp only [ho] at h1
      obtain ⟨qs', hq, rfl⟩ := Option.map_eq_some_iff.1 h1
      simp only [evs] at h2
      cases he : σ.ev q with
      | none => simp [he] at h2
      | some y =>
        simp only [he] at h2
        obtain ⟨ys', hy, rfl⟩ := Option.map_eq_some_iff.1 h2
        obtain ⟨i1, i2⟩ := evs_rep h hq hy
        refine ⟨by simp [i1], fun j z v e e' => ?_⟩
        cases j with
        | zero => simp at e e'; subst e; subst e'; exact ev_rep h ho he
        | succ j => simp at e e'; exact i2 j z v e (by simpa using e')

theorem natX_rep {y : X} {v : Value} {n : Nat} (h : Rep K C y v) (e : natX y = some n) : v = .int .i64 n := by
  unfold natX at e
  split at e
  · split at e
    · rename_i hn
      simp only [Option.some.injEq] at e
      cases h; subst e; simp [Int.toNat_of_nonneg hn]
    · simp at e
  · simp at e

/-! ### What the types say -/
theorem sizeP_run {t : TypeId} {n : Nat} (h : sizeP P t = some n) (w : World) : (sizeOf t).run P w = .ok n w := by
  unfold sizeP at h
  obtain ⟨i, hi, rfl⟩ := Option.map_eq_some_iff.1 h
  simp [sizeOf, typeInfo, hi]

theorem aggP_run {t : TypeId} {r : Option Nat} (h : aggP P t = some r) (w : World) :
    (isAgg t).run P w = .ok r.isSome w ∧ ∀ n, r = some n → (sizeOf t).run P w = .ok n w := by
  unfold aggP at h
  split at h
  · rename_i hu hs
    simp only [Option.some.injEq] at h; subst h
    exact ⟨by simp [isAgg, run_underlying hu], fun n e => by cases e; exact sizeP_run hs w⟩
  · rename_i hu hs
    simp only [Option.some.injEq] at h; subst h
    exact ⟨by simp [isAgg, run_underlying hu], fun n e => by cases e; exact sizeP_run hs w⟩
  · rename_i d n hn1 hn2 hu hs
    simp only [Option.some.injEq] at h; subst h
    refine ⟨?_, fun n e => by cases e⟩
    simp only [isAgg, Sem.run_bind, run_underlying hu, Result.andThen_ok]
    rfl
  · simp at h

theorem addr_add (b o i : Nat) : (⟨b, o, none⟩ : Addr).add i = ⟨b, o + i, none⟩ := by unfold Addr.add; split <;> simp_all

theorem run_loadVar_one {t : TypeId} {b o : Nat} {v : Value} (h : aggP P t = some none) (hc : w.cell? ⟨b, o, none⟩ = some v) :
    (loadVar t ⟨b, o, none⟩).run P w = .ok v w := by
  simp [loadVar, (aggP_run h w).1, hc]

theorem run_loadVar_agg {t : TypeId} {b o n : Nat} {vs : List Value} (h : aggP P t = some (some n)) (hl : vs.length = n)
    (hc : ∀ j v, vs[j]? = some v → w.cell? ⟨b, o + j, none⟩ = some v) : (loadVar t ⟨b, o, none⟩).run P w = .ok (.agg vs.toArray) w := by
  have := run_loadCells_list (P := P) w ⟨b, o, none⟩ vs (fun j v hv => by rw [addr_add]; exact hc j v hv)
  simp [loadVar, (aggP_run h w).1, (aggP_run h w).2 n rfl, ← hl, this]

theorem zeroP_run {t : TypeId} {l : List X} (h : zeroP P t = some l) (w : World) :
    ∃ z, (zeroValue t).run P w = .ok z w ∧ (∀ (K : Kn) (C : List CB), CRep K C l z.cells.toList) ∧ sizeP P t = some l.length ∧ 0 < l.length := by
  unfold zeroP at h
  split at h
  · rename_i z n hz hn
    split at h
    · rename_i l' hl
      split at h
      · rename_i hc
        simp only [Option.some.injEq] at h; subst h
        simp only [Bool.and_eq_true, beq_iff_eq, decide_eq_true_eq] at hc
        obtain ⟨i, hi, hiz⟩ := Option.bind_eq_some_iff.1 hz
        exact ⟨z, by simp [zeroValue, typeInfo, hi, hiz], fun K C => cellsX_rep K C hl, by rw [hn, hc.1], by omega⟩
      · simp at h
    · simp at h
  · simp at h

/-! ### Loads -/
theorem at2_some {es : List (List X)} {i j : Nat} {y : X} : at2 es i j = some y ↔ ∃ e, es[i]? = some e ∧ e[j]? = some y := by
  simp [at2, Option.bind_eq_some_iff]

theorem toArray_getElem? (arr : Array Value) (j : Nat) : arr.toList[j]? = arr[j]? := by simp

/-- The cells at a pointer. -/
theorem loadCs_rep (h : Inv P R K C σ.bx w) {p : X} {pv : Value} {cs : List X} (hp : Rep K C p pv) (e : loadCs σ p = some cs) :
    ∃ b o vs, pv = .pointer (some ⟨b, o, none⟩) ∧ CRep K C cs vs ∧ ∀ j v, vs[j]? = some v → w.cell? ⟨b, o + j, none⟩ = some v := by
  unfold loadCs at e
  split at e
  · rename_i i el o
    cases hp with
    | ptr hc =>
      rename_i b base hi sz
      split at e
      · rename_i cs0 hb
        split at e
        · rename_i h0
          simp only [Option.some.injEq] at e; subst e
          have h0 : el = 0 := by simpa using h0
          subst h0
          obtain ⟨h1, h2, arr, t, hbl, hr⟩ := h.box i _ _ hb hc
          subst h1
          refine ⟨_, _, arr.toList.drop o, rfl, hr.drop o, fun j v hv => ?_⟩
          rw [List.getElem?_drop, toArray_getElem?] at hv
          simpa [World.cell?, hbl] using hv
        · simp at e
      · rename_i sz' es hb
        obtain ⟨e0, he0, rfl⟩ := Option.map_eq_some_iff.1 e
        obtain ⟨h1, h2, h3, arr, t, hbl, hl, hr⟩ := h.box i _ _ hb hc
        subst h1
        have hlen := h3 e0 (List.mem_of_getElem? he0)
        have hi1 := (List.getElem?_eq_some_iff.1 he0).1
        have hm : el * sz + sz ≤ es.length * sz := by
          have := Nat.mul_le_mul_right sz (show el + 1 ≤ es.length from hi1)
          rw [Nat.add_mul, Nat.one_mul] at this; exact this
        have hcr : CRep K C e0 ((arr.toList.drop (base + el * sz)).take sz) := by
          refine ⟨by simp [hlen]; omega, fun y hy => ?_, fun j y v ey ev => ?_⟩
          · obtain ⟨j, hj, rfl⟩ := List.mem_iff_getElem.1 hy
            exact (hr el j _ (at2_some.2 ⟨e0, he0, List.getElem?_eq_getElem hj⟩)).1
          · obtain ⟨_, u, hu, hru⟩ := hr el j y (at2_some.2 ⟨e0, he0, ey⟩)
            have hj := (List.getElem?_eq_some_iff.1 ey).1
            rw [List.getElem?_take, if_pos (by omega), List.getElem?_drop, toArray_getElem?, hu] at ev
            cases ev
            exact hru.mono (KLe.refl _) (CLe.nil _)
        refine ⟨_, _, ((arr.toList.drop (base + el * sz)).take sz).drop o, rfl, hcr.drop o, fun j v hv => ?_⟩
        rw [List.getElem?_drop, List.getElem?_take] at hv
        split at hv
        · rw [List.getElem?_drop, toArray_getElem?] at hv
          have : base + el * sz + (o + j) = base + el * sz + o + j := by omega
          rw [this] at hv
          simpa [World.cell?, hbl] using hv
        · simp at hv
      · simp at e
  · cases hp with
    | dp vals hcell hk hr =>
      rename_i b o
      simp only [Option.some.injEq] at e; subst e
      rename_i cs0
      refine ⟨b, o, (List.range cs0.length).map vals, rfl, ⟨by simp, fun y hy => ?_, fun j y v ey ev => ?_⟩, fun j v hv => ?_⟩
      · obtain ⟨j, hj, rfl⟩ := List.mem_iff_getElem.1 hy
        exact hcell j _ (List.getElem?_eq_getElem hj)
      · have hj := (List.getElem?_eq_some_iff.1 ey).1
        simp [hj] at ev; subst ev
        exact (hr j y ey).mono (KLe.refl _) (CLe.nil _)
      · rw [List.getElem?_map] at hv
        obtain ⟨j', hj', rfl⟩ := Option.map_eq_some_iff.1 hv
        have hj := (List.getElem?_eq_some_iff.1 hj').1
        simp at hj
        have : j' = j := by simpa [hj] using hj'.symm
        subst this
        exact h.known _ _ _ (hk j' _ (List.getElem?_eq_getElem hj))
  · simp at e

theorem loadX_rep (h : Inv P R K C σ.bx w) {p y : X} {pv : Value} {n : Option Nat} {t : TypeId} (ht : aggP P t = some n) (hp : Rep K C p pv) (e : loadX σ n p = some y) :
    ∃ b o v, pv = .pointer (some ⟨b, o, none⟩) ∧ (loadVar t ⟨b, o, none⟩).run P w = .ok v w ∧ Rep K C y v := by
  unfold loadX at e
  cases hcs : loadCs σ p with
  | none => simp [hcs] at e
  | some cs =>
    simp only [hcs] at e
    obtain ⟨b, o, vs, rfl, hr, hc⟩ := loadCs_rep h hp hcs
    cases n with
    | none =>
      have e0 : cs[0]? = some y := by simpa [List.head?_eq_getElem?] using e
      obtain ⟨v, hv, hrv⟩ := hr.get e0
      exact ⟨b, o, v, rfl, run_loadVar_one ht (by simpa using hc 0 v hv), hrv⟩
    | some n =>
      simp only at e
      split at e
      · rename_i hlen
        simp only [Option.some.injEq] at e; subst e
        have hlen : (cs.take n).length = n := by simpa using hlen
        have ht' := hr.take n
        refine ⟨b, o, .agg (vs.take n).toArray, rfl, run_loadVar_agg ht (by rw [ht'.len]; exact hlen) (fun j v hv => ?_), ?_⟩
        · rw [List.getElem?_take] at hv
          split at hv
          · exact hc j v hv
          · simp at hv
        · exact .agg (by simpa using ht'.len) ht'.cell (fun j z v ez ev => ht'.rep j z v ez (by simpa using ev))
      · simp at e

/-! ### The operations -/
def Did (n : Next) (v : Value) : Prop := n = .value v ∨ (n = .skip ∧ v = undef)

/-- An operation was carried out; what it hands back, and the world behind it. -/
def OpOk (P : Program) (R : CodeRel) (x : Ctx) (σ : St) (a : Act) (w : World) (o : Oper) (y : X) (bx : List Bx) : Prop :=
  ∃ (K' : Kn) (C' : List CB) (nx : Next) (v : Value) (w' : World), (execOp a.eval o).run P w = .ok nx w' ∧ Did nx v ∧ Em.Rel P R x K' C' ⟨σ.tm, bx⟩ a w' ∧ Rep K' C' y v

theorem OpOk.still {o : Oper} {y : X} {v : Value} (h : Rel P R x K C σ a w) (hr : (execOp a.eval o).run P w = .ok (.value v) w) (hy : Rep K C y v) : OpOk P R x σ a w o y σ.bx :=
  ⟨K, C, _, v, w, hr, .inl rfl, h, hy⟩

variable {o : Oper} {y : X} {bx : List Bx} {fp : FP} {A : Ann} {Γ : Gam}

theorem alloc_get (w : World) (o : Obj) : (w.alloc o).heap[w.heap.size]? = some o := by
  show (w.heap.push o)[w.heap.size]? = _
  simp

theorem rep_ptr0 {i b hi sz : Nat} (hc : C[i]? = some (.at b 0 hi sz)) : Rep K C (.ptr i 0 0) (.pointer (some ⟨b, 0, none⟩)) := by
  have := Rep.ptr (K := K) (e := 0) (o := 0) hc
  simpa using this

theorem rep_v {u v : Value} (h : Rep K C (.v u) v) : v = u := by cases h; rfl

/-- How each operation comes out of the translation: the tactic's frame. -/
theorem op_mov {z : Operand} {q : Opd} {t : TypeId} (h : Rel P R x K C σ a w) (ho : o.op = .move z ∨ o.op = .assign z) (hq : trOpd P t z = some q) (hy : σ.ev q = some y) : OpOk P R x σ a w o y σ.bx := by
  refine .still h (v := a.eval z) ?_ (ev_rep h.tm hq hy)
  rcases ho with ho | ho <;> simp [execOp, ho]

theorem op_pick {c p q : Operand} {c' p' q' : Opd} {t1 t2 t3 : TypeId} {b : Bool} {y1 y2 : X} (h : Rel P R x K C σ a w) (ho : o.op = .pick c p q) (hc : trOpd P t1 c = some c') (hp : trOpd P t2 p = some p') (hq : trOpd P t3 q = some q')
    (ec : σ.ev c' = some (.v (.bool b))) (ep : σ.ev p' = some y1) (eq : σ.ev q' = some y2) : OpOk P R x σ a w o (if b then y1 else y2) σ.bx := by
  have r1 := ev_rep h.tm hc ec
  have r2 := ev_rep h.tm hp ep
  have r3 := ev_rep h.tm hq eq
  have e1 : a.eval c = .bool b := rep_v r1
  refine .still h (v := if b then a.eval p else a.eval q) ?_ ?_
  · simp [execOp, ho, e1, asBool]
  · cases b
    · exact r3
    · exact r2

theorem op_load {t t1 : TypeId} {z : Operand} {q : Opd} {n : Option Nat} {p : X} (h : Rel P R x K C σ a w) (ho : o.op = .load t z) (ht : aggP P t = some n) (hq : trOpd P t1 z = some q) (hp : σ.ev q = some p)
    (e : loadX σ n p = some y) : OpOk P R x σ a w o y σ.bx := by
  obtain ⟨b, off, v, hv, hrun, hr⟩ := loadX_rep h.inv ht (ev_rep h.tm hq hp) e
  exact .still h (v := v) (by simp [execOp, ho, Instr.loadAt, hv, Instr.sureAddr, hrun]) hr

theorem op_alloc {t : TypeId} {l : List X} (h : Rel P R x K C σ a w) (ho : o.op = .alloc t) (hz : zeroP P t = some l) : OpOk P R x σ a w o (.ptr σ.bx.length 0 0) (σ.bx ++ [.var l]) := by
  obtain ⟨z, hrun, hr, _, hpos⟩ := zeroP_run hz w
  have hc : (C ++ [CB.at w.heap.size 0 l.length l.length])[σ.bx.length]? = some (.at w.heap.size 0 l.length l.length) := by
    rw [← h.inv.size]; simp
  refine ⟨K, C ++ [.at w.heap.size 0 l.length l.length], _, .pointer (some ⟨w.heap.size, 0, none⟩), w.alloc (.cells z.cells t), ?_, .inl rfl, ?_, ?_⟩
  · simp [execOp, ho, Instr.alloc, hrun, newVar, newRow]
  · refine h.push _ ⟨rfl, rfl, z.cells, t, alloc_get _ _, (hr K _)⟩ (fun b k hw => hw.1)
  · exact rep_ptr0 hc

theorem op_box {t t1 : TypeId} {z : Operand} {q : Opd} {p : X} (h : Rel P R x K C σ a w) (ho : o.op = .box t z) (hq : trOpd P t1 z = some q) (hp : σ.ev q = some p) (h1 : p.ok1 = true) :
    OpOk P R x σ a w o (.ptr σ.bx.length 0 0) (σ.bx ++ [.var p.cells]) := by
  have hr := (ev_rep h.tm hq hp).cells h1
  have hc : (C ++ [CB.at w.heap.size 0 p.cells.length p.cells.length])[σ.bx.length]? = some (.at w.heap.size 0 p.cells.length p.cells.length) := by
    rw [← h.inv.size]; simp
  refine ⟨K, C ++ [.at w.heap.size 0 p.cells.length p.cells.length], _, .pointer (some ⟨w.heap.size, 0, none⟩), w.alloc (.cells (a.eval z).cells t), ?_, .inl rfl, ?_, ?_⟩
  · simp [execOp, ho, Instr.box, newVar, newRow]
  · refine h.push _ ⟨rfl, rfl, (a.eval z).cells, t, alloc_get _ _, hr.mono (KLe.refl _) (CLe.append _ _)⟩ (fun b k hw => hw.1)
  · exact rep_ptr0 hc

theorem op_faddr {t t1 : TypeId} {z : Operand} {q : Opd} {f : Nat} {fs : Array Field} {fd : Field} {n : Nat} {p : X} (h : Rel P R x K C σ a w) (ho : o.op = .fieldAddr t z f) (hu : P.underlying t = some (.struct fs)) (hf : fs[f]? = some fd)
    (hn : sizeP P fd.type = some (n + 1)) (hq : trOpd P t1 z = some q) (hp : σ.ev q = some p)
    (e : (match p with | .ptr i e o => some (X.ptr i e (o + fd.offset)) | .dp cs => some (.dp (cs.drop fd.offset)) | _ => none) = some y) : OpOk P R x σ a w o y σ.bx := by
  have hr := ev_rep h.tm hq hp
  have key : ∀ b k, a.eval z = .pointer (some ⟨b, k, none⟩) → Rep K C y (.pointer (some ⟨b, k + fd.offset, none⟩)) → OpOk P R x σ a w o y σ.bx := by
    intro b k hv hy
    refine .still h (v := .pointer (some ⟨b, k + fd.offset, none⟩)) ?_ hy
    simp [execOp, ho, Instr.fieldAt, run_underlying hu, hf, hv, Instr.sureAddr, fieldPlace, sizeP_run hn w, addr_add]
  split at e
  · rename_i i el k
    simp only [Option.some.injEq] at e; subst e
    generalize hv : a.eval z = v at hr
    cases hr with
    | ptr hc => exact key _ _ hv (by rw [Nat.add_assoc]; exact .ptr hc)
  · rename_i cs
    simp only [Option.some.injEq] at e; subst e
    generalize hv : a.eval z = v at hr
    cases hr with
    | dp vals hcell hk hr =>
      rename_i b k
      refine key _ _ hv (.dp (fun j => vals (fd.offset + j)) (fun j z e => hcell (fd.offset + j) z (by simpa using e)) (fun j z e => ?_) (fun j z e => hr _ z (by simpa using e)))
      rw [Nat.add_assoc]; exact hk _ z (by simpa using e)
  · simp at e

theorem rep_int {k : IntKind} {n : Int} {v : Value} (h : Rep K C (.v (.int k n)) v) : v = .int k n := by cases h; rfl
theorem pureOf_run {α : Type} {s : Sem α} {v : α} (h : pureOf s = some v) (w : World) : s.run P w = .ok v w := by
  cases s <;> simp [pureOf] at h; subst h; rfl

theorem pureOf_ite {α : Type} {c : Prop} [Decidable c] {s t : Sem α} {v : α} (h : pureOf (if c then s else t) = some v) : (c ∧ pureOf s = some v) ∨ (¬ c ∧ pureOf t = some v) := by
  split at h
  · rename_i hc; exact .inl ⟨hc, h⟩
  · rename_i hc; exact .inr ⟨hc, h⟩

theorem okV_int (k : IntKind) (n : Int) : okV (.int k n) = true := rfl

theorem binV_int_ok {op : BinOp} {k k' : IntKind} {m n : Int} {z : Value} (e : pureOf (binOp op 0 (.int k m) (.int k' n)) = some z) : okV z = true := by
  have sh : ∀ op, pureOf (Op.shift op k m k' n) = some z → okV z = true := by
    intro op e
    unfold Op.shift at e
    split at e
    · simp [runtimePanic, pureOf, program, bind, Sem.bind] at e
    · dsimp only at e; split at e <;> simp [pureOf, pure, stuck] at e <;> (subst e; rfl)
  have ar : ∀ op, pureOf (Op.intArith op k m n) = some z → okV z = true := by
    intro op e
    unfold Op.intArith at e
    split at e <;> simp [pureOf, pure, stuck] at e <;> (subst e; rfl)
  have dv : ∀ op, pureOf (Op.intDiv op k m n) = some z → okV z = true := by
    intro op e
    unfold Op.intDiv at e
    split at e
    · simp [runtimePanic, pureOf, program, bind, Sem.bind] at e
    · split at e <;> simp [pureOf, pure, stuck] at e <;> (subst e; rfl)
  have bt : ∀ op, pureOf (Op.intBits op k m n) = some z → okV z = true := by
    intro op e
    unfold Op.intBits at e
    dsimp only at e
    split at e <;> simp [pureOf, pure, stuck] at e <;> (subst e; rfl)
  have cm : ∀ op, pureOf (Op.intCmp op m n) = some z → okV z = true := by
    intro op e
    unfold Op.intCmp at e
    split at e <;> simp [pureOf, pure, stuck] at e <;> (subst e; rfl)
  cases op <;> simp only [binOp] at e <;> first
    | exact sh _ e
    | (split at e
       · simp [pureOf, stuck] at e
       · first | exact ar _ e | exact dv _ e | exact bt _ e | exact cm _ e)

theorem binV_ok {op : BinOp} {u v z : Value} (e : binV op u v = some z) : okV z = true := by
  unfold binV at e
  split at e
  · exact binV_int_ok e
  · rename_i m n
    by_cases hc : ((m.size + n.size : Nat) : Int) > IntKind.i64.max
    · cases op <;> simp only [binOp, Op.stringOp, hc, if_true] at e <;> first
        | (simp [pureOf, pure, stuck, unsupported] at e; done)
        | (simp only [pureOf, pure, Option.some.injEq] at e; subst e; rfl)
    · cases op <;> simp only [binOp, Op.stringOp, hc, if_false] at e <;> first
        | (simp [pureOf, pure, stuck] at e; done)
        | (simp only [pureOf, pure, Option.some.injEq] at e; subst e; rfl)
  · simp at e

theorem binOp_type {op : BinOp} {t : TypeId} {u v z : Value} (e : binV op u v = some z) (w : World) : (binOp op t u v).run P w = .ok z w := by
  unfold binV at e
  split at e
  · rw [show binOp op t (.int _ _) (.int _ _) = binOp op 0 (.int _ _) (.int _ _) from by cases op <;> rfl]
    exact pureOf_run e w
  · rw [show binOp op t (.string _) (.string _) = binOp op 0 (.string _) (.string _) from by cases op <;> rfl]
    exact pureOf_run e w
  · simp at e

theorem eqGuard_scalar {op : BinOp} {t : TypeId} {p q : Operand} {u v z : Value} (e : binV op u v = some z) (w : World) : (eqGuard op t p q u v).run P w = .ok () w := by
  unfold binV at e
  split at e
  · unfold eqGuard; split <;> simp
  · unfold eqGuard; split <;> simp
  · simp at e

theorem op_bin {op : BinOp} {t t1 t2 u : TypeId} {p q : Operand} {p' q' : Opd} {m n z : Value} (h : Rel P R x K C σ a w) (ho : o.op = .binOp op t p q u) (hp : trOpd P t1 p = some p') (hq : trOpd P t2 q = some q')
    (ep : σ.ev p' = some (.v m)) (eq : σ.ev q' = some (.v n)) (e : binV op m n = some z) : OpOk P R x σ a w o (.v z) σ.bx := by
  have r1 := rep_v (ev_rep h.tm hp ep)
  have r2 := rep_v (ev_rep h.tm hq eq)
  refine .still h (v := z) ?_ (.v (binV_ok e))
  simp [execOp, ho, r1, r2, eqGuard_scalar e w, binOp_type e w]

theorem equalIn_bool {t : TypeId} (hu : P.underlying t = some .bool) (d : Nat) (m n : Bool) (w : World) : (Op.equalIn (d + 1) t (.bool m) (.bool n)).run P w = .ok (m == n) w := by
  simp [Op.equalIn, run_underlying hu]

theorem op_beq {op : BinOp} {t t1 t2 u : TypeId} {p q : Operand} {p' q' : Opd} {m n : Bool} (h : Rel P R x K C σ a w) (ho : o.op = .binOp op t p q u) (hu : P.underlying t = some .bool) (hop : op = .eql ∨ op = .neq) (hp : trOpd P t1 p = some p') (hq : trOpd P t2 q = some q')
    (ep : σ.ev p' = some (.v (.bool m))) (eq : σ.ev q' = some (.v (.bool n))) : OpOk P R x σ a w o (.v (.bool (if op = .neq then !(m == n) else m == n))) σ.bx := by
  have r1 := rep_v (ev_rep h.tm hp ep)
  have r2 := rep_v (ev_rep h.tm hq eq)
  refine .still h (v := .bool (if op = .neq then !(m == n) else m == n)) ?_ (.v rfl)
  have he : (Op.equal t (.bool m) (.bool n)).run P w = .ok (m == n) w := equalIn_bool hu 9999 m n w
  have hg : (eqGuard op t p q (.bool m) (.bool n)).run P w = .ok () w := by unfold eqGuard; split <;> rfl
  have b1 : binOp .eql t (.bool m) (.bool n) = (do pure (.bool (← Op.equal t (.bool m) (.bool n))) : Sem Value) := rfl
  have b2 : binOp .neq t (.bool m) (.bool n) = (do pure (.bool (!(← Op.equal t (.bool m) (.bool n)))) : Sem Value) := rfl
  generalize Op.equal t (.bool m) (.bool n) = s at he b1 b2
  have hb : (binOp op t (.bool m) (.bool n)).run P w = .ok (.bool (if op = .neq then !(m == n) else m == n)) w := by
    rcases hop with rfl | rfl
    · rw [b1]; simp [he]
    · rw [b2]; simp [he]
  simp only [execOp, ho, r1, r2, Sem.run_bind, hg, hb, Result.andThen_ok]
  rfl

theorem op_un {op : UnOp} {t t1 : TypeId} {p : Operand} {p' : Opd} {m z : Value} (h : Rel P R x K C σ a w) (ho : o.op = .unOp op t p) (hp : trOpd P t1 p = some p') (ep : σ.ev p' = some (.v m)) (e : unV op m = some z) :
    OpOk P R x σ a w o (.v z) σ.bx := by
  have r1 := rep_v (ev_rep h.tm hp ep)
  unfold unV at e
  split at e
  · refine .still h (v := z) (by simp [execOp, ho, r1, pureOf_run e w]) (.v ?_)
    rename_i k n
    cases op
    · exact binV_int_ok (op := .sub) (k := k) (k' := k) (m := 0) (n := n) (by simpa [binOp, Op.unary] using e)
    · exact binV_int_ok (op := .xor) (k := k) (k' := k) (m := if k.signed then -1 else k.max) (n := n) (by simpa [binOp, Op.unary] using e)
    · simp [Op.unary, pureOf, stuck] at e
    · simp [Op.unary, pureOf, stuck] at e
  · refine .still h (v := z) (by simp [execOp, ho, r1, pureOf_run e w]) (.v ?_)
    cases op <;> simp [Op.unary, pureOf, pure, stuck] at e
    subst e; rfl
  · simp at e

end Go.Em
