/- The abstract machine: slicing, least and greatest, append are sound. -/
import Derived.Test.YtjfheahakfoofaaEmOps3
namespace Go.Em
variable {P : Program} {R : CodeRel} {x : Ctx} {K : Kn} {C : List CB} {σ : St} {a : Act} {w : World}
variable {o : Oper} {y : X} {bx : List Bx} {fp : FP} {A : Ann} {Γ : Gam}

theorem sliceBound_run {n y : Nat} (code : BoundsCode) (h : n ≤ y) (w : World) : (Instr.sliceBound (.int .i64 (n : Int)) y code).run P w = .ok n w := by
  simp [Instr.sliceBound, asIntOf, h]

/-- What stands at a bound. -/
def BoundIs (a : Act) (d : Nat) : Option Operand → Nat → Prop
  | none, n => n = d
  | some p, n => a.eval p = .int .i64 (n : Int)

theorem optNat_is {d n : Nat} {lo : Option Operand} {lo' : Option Opd} (ht : TmOk K C σ.tm a.tmps) (hl : trOpt P lo = some lo') (e : optNat σ d lo' = some n) : BoundIs a d lo n := by
  cases lo with
  | none =>
    simp only [trOpt, Option.some.injEq] at hl; subst hl
    simp only [optNat, Option.some.injEq] at e
    exact e.symm
  | some p =>
    simp only [trOpt] at hl
    obtain ⟨q, hq, rfl⟩ := Option.map_eq_some_iff.1 hl
    simp only [optNat] at e
    obtain ⟨z, hz, hn⟩ := Option.bind_eq_some_iff.1 e
    exact natX_rep (ev_rep ht hq hz) hn

theorem sliceBounds_run {len cap l h m : Nat} {lo hi mx : Option Operand} (hl : BoundIs a 0 lo l) (hh : BoundIs a len hi h) (hm : BoundIs a cap mx m) (h1 : l ≤ h) (h2 : h ≤ m) (h3 : m ≤ cap) (hmx : mx = none ∨ hi.isSome = true) (isSlice : Bool) (w : World) :
    (Instr.sliceBounds isSlice len cap (lo.map a.eval) (hi.map a.eval) (mx.map a.eval)).run P w = .ok (l, h, m) w := by
  cases mx with
  | none =>
    simp only [BoundIs] at hm; subst hm
    cases hi with
    | none =>
      simp only [BoundIs] at hh; subst hh
      cases lo with
      | none => simp only [BoundIs] at hl; subst hl; simp [Instr.sliceBounds]
      | some p => simp only [BoundIs] at hl; simp [Instr.sliceBounds, hl, sliceBound_run _ h1]
    | some q =>
      simp only [BoundIs] at hh
      cases lo with
      | none => simp only [BoundIs] at hl; subst hl; simp [Instr.sliceBounds, hh, sliceBound_run _ h2]
      | some p => simp only [BoundIs] at hl; simp [Instr.sliceBounds, hl, hh, sliceBound_run _ h1, sliceBound_run _ h2]
  | some r =>
    simp only [BoundIs] at hm
    cases hi with
    | none => simp at hmx
    | some q =>
      simp only [BoundIs] at hh
      cases lo with
      | none => simp only [BoundIs] at hl; subst hl; simp [Instr.sliceBounds, hh, hm, sliceBound_run _ h2, sliceBound_run _ h3]
      | some p => simp only [BoundIs] at hl; simp [Instr.sliceBounds, hl, hh, hm, sliceBound_run _ h1, sliceBound_run _ h2, sliceBound_run _ h3]

theorem run_slice {t e : TypeId} {p : Operand} {lo hi mx : Option Operand} {ob : Option Addr} {len cap l h m sz : Nat} (ho : o.op = .slice t p lo hi mx) (hu : P.underlying t = some (.slice e)) (hs : sizeP P e = some sz)
    (hv : a.eval p = .slice ob len cap) (hl : BoundIs a 0 lo l) (hh : BoundIs a len hi h) (hm : BoundIs a cap mx m) (h1 : l ≤ h) (h2 : h ≤ m) (h3 : m ≤ cap) (hmx : mx = none ∨ hi.isSome = true) :
    (execOp a.eval o).run P w = .ok (.value (.slice (if m = l then ob else ob.map (·.add (l * sz))) (h - l) (m - l))) w := by
  have hb := sliceBounds_run (P := P) hl hh hm h1 h2 h3 hmx true w
  simp only [execOp, ho, Instr.sliceAt, Sem.run_bind, run_underlying hu, Result.andThen_ok, Instr.slice, hv, hb, sizeP_run hs w]
  rfl

theorem op_slice_sl {t t1 e : TypeId} {p : Operand} {p' : Opd} {lo hi mx : Option Operand} {lo' hi' mx' : Option Opd} {tt : Bool} {es : List (List X)} {sz l h : Nat} (hr : Rel P R x K C σ a w) (ho : o.op = .slice t p lo hi mx) (hu : P.underlying t = some (.slice e)) (hs : sizeP P e = some sz)
    (hp : trOpd P t1 p = some p') (hlo : trOpt P lo = some lo') (hhi : trOpt P hi = some hi') (hmx : trOpt P mx = some mx') (ep : σ.ev p' = some (.sl tt sz es)) (el : optNat σ 0 lo' = some l) (eh : optNat σ es.length hi' = some h)
    (h1 : l ≤ h) (h2 : h ≤ es.length) (tf : Bool) (hcase : (mx = none ∧ tf = (tt && h == es.length)) ∨ (∃ m, mx = some m ∧ hi.isSome = true ∧ BoundIs a 0 mx h ∧ tf = true)) :
    OpOk P R x σ a w o (.sl tf sz ((es.take h).drop l)) σ.bx := by
  have hrep := ev_rep hr.tm hp ep
  have bl := optNat_is hr.tm hlo el
  have bh := optNat_is hr.tm hhi eh
  have hlen : ((es.take h).drop l).length = h - l := by simp; omega
  generalize hv : a.eval p = v at hrep
  have fin : ∀ ob cap, v = .slice ob es.length cap → es.length ≤ cap → (tt = true → cap = es.length) → (ob = none → cap = 0) → (∀ b o', ob = some ⟨b, o', none⟩ → ∃ fl, Flat K sz es fl ∧ ∀ k v, fl[k]? = some v → K b (o' + k) = some v) →
      (∀ ad, ob = some ad → ad.spot = none) → OpOk P R x σ a w o (.sl tf sz ((es.take h).drop l)) σ.bx := by
    intro ob cap hvo hcap htt hnone hfl hspot
    subst hvo
    have main : ∀ m, BoundIs a cap mx m → h ≤ m → m ≤ cap → (mx = none ∨ hi.isSome = true) → (tf = true → m = h) → OpOk P R x σ a w o (.sl tf sz ((es.take h).drop l)) σ.bx := by
      intro m bm hhm hmc hor htf
      refine .still hr (run_slice ho hu hs hv bl bh bm h1 hhm hmc hor) ?_
      cases ob with
      | none =>
        have hc0 := hnone rfl
        have : (es.take h).drop l = [] := List.eq_nil_of_length_eq_zero (by omega)
        rw [this]
        have e1 : h - l = 0 := by omega
        have e2 : m - l = 0 := by omega
        rw [e1, e2]
        split <;> exact .slNil
      | some ad =>
        obtain ⟨b, o', sp⟩ := ad
        have := hspot _ rfl
        simp only at this; subst this
        obtain ⟨fl, hf, hk⟩ := hfl b o' rfl
        rw [← hlen]
        by_cases hml : m = l
        · rw [if_pos hml]
          have : (es.take h).drop l = [] := List.eq_nil_of_length_eq_zero (by omega)
          rw [this]
          exact (Flat.nil (K := K) (sz := sz)).rep (fun k v hv => by simp at hv) (fun _ => by simp; omega) (by simp)
        · rw [if_neg hml]
          simp only [Option.map_some, addr_add]
          refine ((hf.take h).drop l).rep (fun k v hv => ?_) (fun e => by rw [hlen, htf e]) (by omega)
          rw [List.getElem?_drop, List.getElem?_take] at hv
          split at hv
          · have := hk _ v hv; rw [← Nat.add_assoc] at this; exact this
          · simp at hv
    rcases hcase with ⟨rfl, rfl⟩ | ⟨m, rfl, hsome, bm, rfl⟩
    · refine main cap rfl (by omega) (Nat.le_refl _) (.inl rfl) (fun e => ?_)
      simp only [Bool.and_eq_true, beq_iff_eq] at e
      rw [htt e.1, e.2]
    · exact main h bm (Nat.le_refl _) (by omega) (.inr hsome) (fun _ => rfl)
  have hrep' := hrep
  cases hrep with
  | slNil => exact fin none 0 rfl (by simp) (fun _ => rfl) (fun _ => rfl) (fun _ _ e => by cases e) (fun _ e => by cases e)
  | sl vals hle ht hcap hcell hk hrr =>
    refine fin _ _ rfl hcap ht (fun e => by cases e) (fun b' o'' e => ?_) (fun ad e => by cases e; rfl)
    cases e
    exact hrep'.flat

theorem op_slice_bs {t t1 e : TypeId} {p : Operand} {p' : Opd} {lo hi : Option Operand} {lo' hi' : Option Opd} {i off len sz l h : Nat} (hr : Rel P R x K C σ a w) (ho : o.op = .slice t p lo hi none) (hu : P.underlying t = some (.slice e)) (hs : sizeP P e = some sz)
    (hp : trOpd P t1 p = some p') (hlo : trOpt P lo = some lo') (hhi : trOpt P hi = some hi') (ep : σ.ev p' = some (.bs i off len)) (el : optNat σ 0 lo' = some l) (eh : optNat σ len hi' = some h)
    (h1 : l ≤ h) (h2 : h ≤ len) (hy : (l = h ∧ y = .sl false sz []) ∨ (l ≠ h ∧ (∃ es, σ.bx[i]? = some (.row sz es)) ∧ y = .bs i (off + l) (h - l))) : OpOk P R x σ a w o y σ.bx := by
  have hrep := ev_rep hr.tm hp ep
  have bl := optNat_is hr.tm hlo el
  have bh := optNat_is hr.tm hhi eh
  generalize hv : a.eval p = v at hrep
  cases hrep with
  | bs hc hcap hlen =>
    rename_i b base hi0 sz' cap
    refine .still hr (run_slice ho hu hs hv bl bh rfl h1 (by omega) (Nat.le_refl _) (.inl rfl)) ?_
    rcases hy with ⟨e1, rfl⟩ | ⟨e1, ⟨es, hb⟩, rfl⟩
    · subst e1
      rw [Nat.sub_self]
      split
      · exact (Flat.nil (K := K) (sz := sz)).rep (fun k v hv => by simp at hv) (fun e => by simp at e) (by simp)
      · simp only [Option.map_some, addr_add]
        exact (Flat.nil (K := K) (sz := sz)).rep (fun k v hv => by simp at hv) (fun e => by simp at e) (by simp)
    · obtain ⟨hszz, _⟩ := hr.inv.box i _ _ hb hc
      subst hszz
      rw [if_neg (by omega)]
      simp only [Option.map_some, addr_add]
      have := Rep.bs (K := K) (off := off + l) (len := h - l) (cap := cap - l) hc (by rw [show off + l + (cap - l) = off + cap by omega]; exact hcap) (by omega)
      rw [Nat.add_mul, ← Nat.add_assoc] at this; exact this
  | bsNil hc hob =>
    refine .still hr (run_slice ho hu hs hv bl bh rfl h1 (by omega) (Nat.le_refl _) (.inl rfl)) ?_
    have e1 : h = 0 := by omega
    have e2 : l = 0 := by omega
    subst e1; subst e2
    rcases hy with ⟨_, rfl⟩ | ⟨e1, _⟩
    · simp only [Nat.sub_self, if_true]
      exact .empty hob (fun _ => rfl) (fun _ => rfl)
    · exact absurd rfl e1

theorem op_sslice {t t1 : TypeId} {p : Operand} {p' : Opd} {lo hi : Option Operand} {lo' hi' : Option Opd} {s : ByteArray} {l h : Nat} (hr : Rel P R x K C σ a w) (ho : o.op = .slice t p lo hi none) (hu : P.underlying t = some .string)
    (hp : trOpd P t1 p = some p') (hlo : trOpt P lo = some lo') (hhi : trOpt P hi = some hi') (ep : σ.ev p' = some (.v (.string s))) (el : optNat σ 0 lo' = some l) (eh : optNat σ s.size hi' = some h)
    (h1 : l ≤ h) (h2 : h ≤ s.size) : OpOk P R x σ a w o (.v (.string (s.extract l h))) σ.bx := by
  have r1 := rep_v (ev_rep hr.tm hp ep)
  have bl := optNat_is hr.tm hlo el
  have bh := optNat_is hr.tm hhi eh
  refine .still hr (v := .string (s.extract l h)) ?_ (.v rfl)
  have hb := sliceBounds_run (P := P) (mx := none) bl bh (m := s.size) rfl h1 h2 (Nat.le_refl _) (.inl rfl) false w
  simp only [Option.map_none] at hb
  simp only [execOp, ho, Instr.sliceAt, Sem.run_bind, run_underlying hu, Result.andThen_ok, Instr.slice, r1, Option.map_none, Option.isSome_none]
  rw [if_neg (by simp)]
  simp only [Sem.run_bind, hb, Result.andThen_ok]
  rfl

theorem max_fold {isMax : Bool} (f : Value → Value → Sem Value) (hf : ∀ m n : Int, f (.int .i64 m) (.int .i64 n) = pure (.int .i64 (if isMax then (if n > m then n else m) else (if n < m then n else m)))) :
    ∀ {ys : List X} {vs : List Value} {m z : Int}, vs.length = ys.length → (∀ (j : Nat) (y : X) (v : Value), ys[j]? = some y → vs[j]? = some v → Rep K C y v) → mmV isMax m ys = some z → (vs.foldlM f (.int .i64 m)).run P w = .ok (.int .i64 z) w
  | [], vs, m, z, h1, h2, h3 => by
    have : vs = [] := List.eq_nil_of_length_eq_zero (by simpa using h1)
    subst this
    simp only [mmV, Option.some.injEq] at h3; subst h3; simp
  | y :: r, [], m, z, h1, h2, h3 => by simp at h1
  | y :: r, v :: vs, m, z, h1, h2, h3 => by
    unfold mmV at h3
    split at h3
    · rename_i e1 e2; simp at e2
    · rename_i m' n r' e1
      simp only [List.cons.injEq] at e1
      obtain ⟨rfl, rfl⟩ := e1
      have hv := rep_v (h2 0 _ v rfl rfl)
      subst hv
      simp only [List.foldlM_cons, hf, pure_bind]
      exact max_fold f hf (by simpa using h1) (fun j y v e e' => h2 (j + 1) y v (by simpa using e) (by simpa using e')) h3
    · simp at h3

theorem op_mm {isMax : Bool} {args : Array Operand} {tys : Array TypeId} {qs : List Opd} {ys : List X} {m z : Int} (h : Rel P R x K C σ a w) (ho : o.op = .call ⟨.builtin (if isMax then .max else .min), args, tys⟩) (hq : trOpds P tys.toList args.toList = some qs)
    (he : evs σ qs = some (.v (.int .i64 m) :: ys)) (hm : mmV isMax m ys = some z) : OpOk P R x σ a w o (.v (.int .i64 z)) σ.bx := by
  obtain ⟨h1, h2⟩ := evs_rep h.tm hq he
  refine .still h (v := .int .i64 z) ?_ (.v rfl)
  have hargs : ∃ p r, args.toList = p :: r := by
    cases hl : args.toList with
    | nil => rw [hl] at h1; simp at h1
    | cons p r => exact ⟨p, r, rfl⟩
  obtain ⟨p, r, hl⟩ := hargs
  rw [hl] at h1 h2
  have hp := rep_v (h2 0 _ (a.eval p) rfl rfl)
  have hlist : (args.map a.eval).toList = .int .i64 m :: r.map a.eval := by simp [hl, hp]
  have hfold := fun f hf => max_fold (P := P) (w := w) (K := K) (C := C) (isMax := isMax) f hf (ys := ys) (vs := r.map a.eval) (by simpa using h1.symm) (fun j y v e e' => h2 (j + 1) y v (by simpa using e) (by simpa using e')) hm
  cases isMax
  · have := hfold Builtin.min2 (fun m n => by simp [Builtin.min2])
    simp only [execOp, ho, resolve, invoke, builtin, Sem.run_bind, Sem.run_pure, Result.andThen_ok, Builtin.min_, hlist, this, Bool.false_eq_true, if_false]
  · have := hfold Builtin.max2 (fun m n => by simp [Builtin.max2])
    simp only [execOp, ho, resolve, invoke, builtin, Sem.run_bind, Sem.run_pure, Result.andThen_ok, Builtin.max_, hlist, this, if_true]

/-! ### append -/
theorem run_app_fit {t0 t1 ty e e1 : TypeId} {sz : Nat} {ob oc : Option Addr} {n cap m c : Nat} (h0 : P.underlying t0 = some (.slice e)) (h1 : P.underlying t1 = some (.slice e1)) (hs : sizeP P e = some sz) (news : List Value) (w' : World)
    (hf : (Builtin.firstCells sz m (.slice oc m c)).run P w = .ok news.toArray w) (hroom : n + m ≤ cap)
    (hst : ∀ ad, ob = some ad → (storeCells (ad.add (n * sz)) news).run P w = .ok () w') (hno : ob = none → w' = w) :
    (Builtin.append_ #[t0, t1] ty #[.slice ob n cap, .slice oc m c]).run P w = .ok (.slice ob (n + m) cap) w' := by
  cases ob with
  | none =>
    have := hno rfl; subst this
    simp [Builtin.append_, run_underlying h0, run_underlying h1, sizeP_run hs, Builtin.lenOf, hroom, hf]
  | some ad =>
    simp [Builtin.append_, run_underlying h0, run_underlying h1, sizeP_run hs, Builtin.lenOf, hroom, hf, hst ad rfl]

theorem run_app_grow {t0 t1 ty e e1 : TypeId} {sz bytes : Nat} {z : List X} {ob oc : Option Addr} {n cap m c : Nat} (h0 : P.underlying t0 = some (.slice e)) (h1 : P.underlying t1 = some (.slice e1)) (hs : sizeP P e = some sz) (hb : bytesP P e = some bytes) (hz : zeroP P e = some z) (olds news : List Value)
    (ho : ∀ w' : World, w'.heap = w.heap → (Builtin.firstCells sz n (.slice ob n cap)).run P w' = .ok olds.toArray w') (hf : ∀ w' : World, w'.heap = w.heap → (Builtin.firstCells sz m (.slice oc m c)).run P w' = .ok news.toArray w')
    (hroom : cap < n + m) (hbig : (n + m) * bytes ≤ 140737488355328) (h63 : n + m < 2 ^ 62) (hpos : 0 < bytes) :
    ∃ rest : List Value, (Builtin.append_ #[t0, t1] ty #[.slice ob n cap, .slice oc m c]).run P w = .ok (.slice (some ⟨w.heap.size, 0, none⟩) (n + m) (grownCap w (n + m) cap e)) (w.drew.alloc (.cells (olds ++ news ++ rest).toArray e)) ∧
      rest.length = (grownCap w (n + m) cap e - (n + m)) * sz := by
  obtain ⟨zv, hrun, hr, hsz, hp⟩ := zeroP_run hz w
  have hzs : zv.cells.size = sz := by have := (hr (fun _ _ => none) []).len; rw [hs] at hsz; simp at hsz this; omega
  unfold bytesP at hb
  obtain ⟨i, hi, rfl⟩ := Option.map_eq_some_iff.1 hb
  have hiz : i.zero = some zv := by
    simp only [zeroValue, typeInfo, Sem.run_bind, run_program, Result.andThen_ok, hi] at hrun
    simp only [Sem.run_pure, Result.andThen_ok] at hrun
    split at hrun
    · rename_i v hv; simp at hrun; rw [hv, hrun]
    · simp at hrun
  have his : i.size = sz := by simpa [sizeP, hi] using hs
  have hn : ¬ (n + m ≤ cap) := by omega
  have hfit := growslice_fits (need := n + m) (old := cap) (bytes := i.bytes) hroom hbig
  have h63' : ¬ (9223372036854775807 < ((n : Int) + (m : Int))) := by omega
  have h48' : ¬ (281474976710656 < Builtin.nextslicecap (n + m) cap * i.bytes) := by omega
  refine ⟨(Builtin.zeroCells zv.cells (grownCap w (n + m) cap e - (n + m))).toList, ?_, by simp [Builtin.zeroCells, hzs]⟩
  have hd := ho w.drew rfl
  have hw := hf w.drew rfl
  simp [Builtin.append_, run_underlying h0, run_underlying h1, sizeOf, typeInfo, zeroValue, hi, hiz, his, Builtin.lenOf, hn, h63', h48', Question.forced, hd, hw, newRow, grownCap]
  congr 2
  apply Array.ext'; simp

/-- The cells of a slice, whatever it lies in. -/
theorem src_rep (h : Inv P R K C σ.bx w) {z : X} {v : Value} {sz : Nat} {new : List (List X)} (hr : Rep K C z v) (e : srcOf σ.bx z = some (sz, new)) :
    ∃ oc c news, v = .slice oc new.length c ∧ Flat K sz new news ∧ (∀ w' : World, w'.heap = w.heap → (Builtin.firstCells sz new.length (.slice oc new.length c)).run P w' = .ok news.toArray w') ∧
      (∀ ad, oc = some ad → ad.spot = none ∧ ∀ k u, news[k]? = some u → w.cell? ⟨ad.block, ad.off + k, none⟩ = some u) := by
  have fc : ∀ (b o' m c : Nat) (news : List Value), news.length = m * sz → (∀ k u, news[k]? = some u → w.cell? ⟨b, o' + k, none⟩ = some u) → ∀ w' : World, w'.heap = w.heap →
      (Builtin.firstCells sz m (.slice (some ⟨b, o', none⟩) m c)).run P w' = .ok news.toArray w' := by
    intro b o' m c news hl hn w' hw
    refine run_firstCells_some w' sz m ⟨b, o', none⟩ m c news hl (fun j u hu => ?_)
    rw [addr_add]
    have := hn j u hu
    simp only [World.cell?, hw] at this ⊢; exact this
  unfold srcOf at e
  split at e
  · rename_i t s es
    simp only [Option.some.injEq, Prod.mk.injEq] at e
    obtain ⟨rfl, rfl⟩ := e
    have hr' := hr
    cases hr with
    | slNil => exact ⟨none, 0, [], rfl, Flat.nil, fun w' _ => by simp [Builtin.firstCells], fun _ e => by cases e⟩
    | sl vals hle ht hcap hcell hk hrr =>
      obtain ⟨fl, hf, hkk⟩ := hr'.flat
      exact ⟨_, _, fl, rfl, hf, fc _ _ _ _ fl hf.len (fun k u hu => h.known _ _ _ (hkk k u hu)), fun ad e => by cases e; exact ⟨rfl, fun k u hu => h.known _ _ _ (hkk k u hu)⟩⟩
  · rename_i i off len
    unfold rowOf at e
    split at e
    · rename_i s es hb
      split at e
      · rename_i hle
        simp only [Option.some.injEq, Prod.mk.injEq] at e
        obtain ⟨rfl, rfl⟩ := e
        have hlen : ((es.drop off).take len).length = len := by simp; omega
        cases hr with
        | bs hc hcap hlc =>
          rename_i b base hi sz' cap
          obtain ⟨arr, el, h1, h2, h3, hbl, hf⟩ := (h.box i _ _ hb hc).flat
          subst h1
          have hcells : ∀ k u, (((((arr.toList.drop base).take (es.length * sz')).drop (off * sz')).take (len * sz')))[k]? = some u → w.cell? ⟨b, base + off * sz' + k, none⟩ = some u := by
            intro k u hu
            rw [List.getElem?_take] at hu
            split at hu
            · rw [List.getElem?_drop, List.getElem?_take] at hu
              split at hu
              · rw [List.getElem?_drop, toArray_getElem?] at hu
                simp only [World.cell?, hbl]
                rw [show base + off * sz' + k = base + (off * sz' + k) by omega]
                simpa using hu
              · simp at hu
            · simp at hu
          have hf2 := (hf.drop off).take len
          refine ⟨_, cap, _, by rw [hlen], hf2, ?_, fun ad e => by cases e; exact ⟨rfl, hcells⟩⟩
          rw [hlen]
          exact fc _ _ _ _ _ (by rw [hf2.len, hlen]) hcells
        | bsNil hc hob =>
          have he : ((es.drop 0).take 0) = [] := by simp
          rw [he]
          rename_i ob
          refine ⟨ob, 0, [], rfl, Flat.nil, fun w' hw => ?_, fun ad e => ⟨hob ad e, by simp⟩⟩
          cases ob with
          | none => simp [Builtin.firstCells]
          | some ad =>
            obtain ⟨b1, o1, s1⟩ := ad
            have := hob _ rfl
            dsimp only at this; subst this
            exact fc b1 o1 0 0 [] (by simp) (by simp) w' hw
      · simp at e
    · simp at e
  · simp at e

theorem op_app_sl {t0 t1 e e1 : TypeId} {args : Array Operand} {tys : Array TypeId} {ps pz : Operand} {qs qz : Opd} {ts tz : TypeId} {sz bytes : Nat} {z : List X} {es new : List (List X)} {yz : X} (h : Rel P R x K C σ a w) (ho : o.op = .call ⟨.builtin .append, args, tys⟩) (ha : args.toList = [ps, pz])
    (h0 : tys[0]? = some t0) (h1 : tys[1]? = some t1) (hu0 : P.underlying t0 = some (.slice e)) (hu1 : P.underlying t1 = some (.slice e1)) (hs : sizeP P e = some sz) (hb : bytesP P e = some bytes) (hz : zeroP P e = some z) (hpos : 0 < bytes)
    (hps : trOpd P ts ps = some qs) (hpz : trOpd P tz pz = some qz) (eps : σ.ev qs = some (.sl true sz es)) (epz : σ.ev qz = some yz) (hsrc : srcOf σ.bx yz = some (sz, new)) (hroom : roomOk (es.length + new.length) bytes = true) :
    (new = [] → OpOk P R x σ a w o (.sl true sz es) σ.bx) ∧ OpOk P R x σ a w o (.sl false sz (es ++ new)) σ.bx ∧
      (new ≠ [] → OpOk P R x σ a w o (.bs σ.bx.length 0 (es.length + new.length)) (σ.bx ++ [.row sz (es ++ new)])) := by
  have ha' : args = #[ps, pz] := by rw [← Array.toArray_toList (xs := args), ha]
  subst ha'
  have htys : ∃ rest, tys = (t0 :: t1 :: rest).toArray := by
    have e0 : tys = tys.toList.toArray := by simp
    cases hl : tys.toList with
    | nil => rw [e0, hl] at h0; simp at h0
    | cons a0 r => cases r with
      | nil => rw [e0, hl] at h1; simp at h1
      | cons b0 r =>
        rw [e0, hl] at h0 h1; simp at h0 h1; subst h0; subst h1
        exact ⟨r, by rw [e0, hl]⟩
  obtain ⟨rest, rfl⟩ := htys
  simp only [roomOk, Bool.and_eq_true, decide_eq_true_eq] at hroom
  have r1 := ev_rep h.tm hps eps
  have r2 := ev_rep h.tm hpz epz
  obtain ⟨oc, c, news, hv2, hf2, hfc, _⟩ := src_rep h.inv r2 hsrc
  have hexec : (execOp a.eval o).run P w = ((Builtin.append_ (t0 :: t1 :: rest).toArray o.type #[a.eval ps, a.eval pz]).run P w).andThen fun v w' => .ok (.value v) w' := by
    simp only [execOp, ho, resolve, invoke, builtin, Sem.run_bind, Sem.run_pure, Result.andThen_ok, List.map_toArray, List.map_cons, List.map_nil]
  have hargs : Builtin.append_ (t0 :: t1 :: rest).toArray o.type #[a.eval ps, a.eval pz] = Builtin.append_ #[t0, t1] o.type #[a.eval ps, a.eval pz] := by
    simp [Builtin.append_]
  rw [hargs] at hexec
  rw [hv2] at hexec
  generalize hv1 : a.eval ps = v1 at r1 hexec
  -- what came in, by its cells
  have hin : ∃ ob cap olds, v1 = .slice ob es.length cap ∧ cap = es.length ∧ Flat K sz es olds ∧ (∀ w' : World, w'.heap = w.heap → (Builtin.firstCells sz es.length (.slice ob es.length cap)).run P w' = .ok olds.toArray w') := by
    obtain ⟨ob, cap, olds, e1, e2, e3, _⟩ := src_rep (σ := σ) h.inv r1 (z := .sl true sz es) rfl
    refine ⟨ob, cap, olds, e1, ?_, e2, e3⟩
    subst e1
    cases r1 with
    | slNil => rfl
    | sl vals hle ht => exact ht rfl
  obtain ⟨ob, cap, olds, rfl, hcap, hfo, hfco⟩ := hin
  have stay : new = [] → (execOp a.eval o).run P w = .ok (.value (.slice ob es.length cap)) w := by
    intro hn
    subst hn
    have hnews : news = [] := List.eq_nil_of_length_eq_zero (by simpa using hf2.len)
    subst hnews
    have := run_app_fit (P := P) (ty := o.type) (ob := ob) (n := es.length) (cap := cap) hu0 hu1 hs [] w (hfc w rfl) (by simp; omega) (fun ad _ => by simp [storeCells]) (fun _ => rfl)
    rw [hexec, this]
    simp
  have grow : new ≠ [] → ∃ (tail : List Value) (m : Nat), (execOp a.eval o).run P w = .ok (.value (.slice (some ⟨w.heap.size, 0, none⟩) (es.length + new.length) m)) (w.drew.alloc (.cells (olds ++ news ++ tail).toArray e)) ∧ es.length + new.length ≤ m ∧ tail.length = (m - (es.length + new.length)) * sz := by
    intro hn
    have hpn : 0 < new.length := List.length_pos_iff.2 hn
    obtain ⟨tail, hrun, htl⟩ := run_app_grow (P := P) (ty := o.type) hu0 hu1 hs hb hz olds news hfco hfc (by omega) (by omega) hroom.2 hpos
    exact ⟨tail, _, by rw [hexec, hrun]; rfl, grownCap_ge _ _ _ _, htl⟩
  have hfl := hfo.append hf2
  refine ⟨fun hn => .still h (stay hn) r1, ?_, fun hn => ?_⟩
  · by_cases hn : new = []
    · refine .still h (stay hn) ?_
      subst hn
      rw [List.append_nil]
      cases r1 with
      | slNil => exact .slNil
      | sl vals hle ht hc hcell hk hrr => exact .sl vals hle (by simp) hc hcell hk hrr
    · obtain ⟨tail, m, hrun, hm, _⟩ := grow hn
      have hd := h.still (FrameOk.drew nowhere w)
      refine ⟨_, C, _, _, _, hrun, .inl rfl, hd.learn (olds ++ news ++ tail).toArray e, ?_⟩
      rw [← List.length_append]
      refine (hfl.mono (Kn.add_le hd.inv _)).rep (fun k v hv => ?_) (by simp) (by simpa using hm)
      simp only [Kn.add, World.size_drew, if_true, Nat.zero_add]
      rw [List.getElem?_toArray, List.getElem?_append_left (List.getElem?_eq_some_iff.1 hv).1]; exact hv
  · obtain ⟨tail, m, hrun, hm, htl⟩ := grow hn
    have hd := h.still (FrameOk.drew nowhere w)
    have hsz : (olds ++ news ++ tail).toArray.size = m * sz := by
      have := hfl.len
      simp only [List.length_append] at this
      simp only [List.size_toArray, List.length_append, this, htl, ← Nat.add_mul]
      congr 1; omega
    have hc2 : (C ++ [CB.at w.heap.size 0 (m * sz) sz])[σ.bx.length]? = some (.at w.heap.size 0 (m * sz) sz) := by
      rw [← h.inv.size]; simp
    refine ⟨K, C ++ [.at w.heap.size 0 (m * sz) sz], _, _, _, hrun, .inl rfl, ?_, ?_⟩
    · refine hd.push _ (hfl.box (alloc_get w.drew _) (fun k v hv => ?_) ?_ (by omega)) (fun b k hw => hw.1)
      · rw [Nat.zero_add, List.getElem?_toArray, List.getElem?_append_left (List.getElem?_eq_some_iff.1 hv).1]; exact hv
      · rw [Nat.zero_add, List.length_append]; exact Nat.mul_le_mul_right _ hm
    · have := Rep.bs (K := K) (off := 0) (len := es.length + new.length) (cap := m) hc2 (by simp) hm
      simpa using this

end Go.Em
