/- The abstract machine: every operation of the translation is sound. -/
import Derived.Test.YtjfheahakfoofaaEmStep
namespace Go.Em
variable {P : Program} {R : CodeRel} {x : Ctx} {K : Kn} {C : List CB} {σ : St} {a : Act} {w : World}
variable {o : Oper} {y : X} {bx : List Bx} {A : Ann} {Γ : Gam} {fp : FP}

theorem map_some {α β : Type} {f : α → β} {o : Option α} {b : β} (h : o.map f = some b) : ∃ a, o = some a ∧ f a = b := Option.map_eq_some_iff.1 h

theorem trOpds_two {ts : List TypeId} {l : List Operand} {p q : Opd} (h : trOpds P ts l = some [p, q]) : ∃ a b t t', l = [a, b] ∧ trOpd P t a = some p ∧ trOpd P t' b = some q := by
  cases l with
  | nil => simp [trOpds] at h
  | cons a r =>
    simp only [trOpds] at h
    cases ha : trOpd P (hd0 ts) a with
    | none => simp [ha] at h
    | some p' =>
      simp only [ha] at h
      obtain ⟨l', hl, e⟩ := map_some h
      cases e
      cases r with
      | nil => simp [trOpds] at hl
      | cons b s =>
        simp only [trOpds] at hl
        cases hb : trOpd P (hd0 ts.tail) b with
        | none => simp [hb] at hl
        | some q' =>
          simp only [hb] at hl
          obtain ⟨l'', hl', e⟩ := map_some hl
          cases e
          cases s with
          | nil => exact ⟨a, b, _, _, rfl, ha, hb⟩
          | cons c u =>
            simp only [trOpds] at hl'
            cases hc : trOpd P (hd0 ts.tail.tail) c with
            | none => simp [hc] at hl'
            | some q'' => simp only [hc] at hl'; obtain ⟨_, _, e⟩ := map_some hl'; cases e

theorem trOpds_one {ts : List TypeId} {l : List Operand} {p : Opd} (h : trOpds P ts l = some [p]) : ∃ a t, l = [a] ∧ trOpd P t a = some p := by
  cases l with
  | nil => simp [trOpds] at h
  | cons a r =>
    simp only [trOpds] at h
    cases ha : trOpd P (hd0 ts) a with
    | none => simp [ha] at h
    | some p' =>
      simp only [ha] at h
      obtain ⟨l', hl, e⟩ := map_some h
      cases e
      cases r with
      | nil => exact ⟨a, _, rfl, ha⟩
      | cons b s =>
        simp only [trOpds] at hl
        cases hb : trOpd P (hd0 ts.tail) b with
        | none => simp [hb] at hl
        | some q' => simp only [hb] at hl; obtain ⟨_, _, e⟩ := map_some hl; cases e

theorem step_len {tys : Array TypeId} {args : Array Operand} {qs : List Opd} {i : I} (h : Rel P R x K C σ a w) (ho : o.op = .call ⟨.builtin .len, args, tys⟩) 
    (htr : (match (tys[0]?).bind P.underlying, qs with | some (.slice _), [x] => some (I.len x) | some .string, [x] => some (.slen x) | _, _ => none) = some i) (hq : trOpds P tys.toList args.toList = some qs) (hs : stepI Γ σ i = some (y, bx, fp)) : Upon P R x σ a w o y bx := by
  split at htr
  · rename_i e q hu
    simp only [Option.some.injEq] at htr; subst htr
    obtain ⟨t, ht, hut⟩ := Option.bind_eq_some_iff.1 hu
    obtain ⟨p, tp, hl, hp⟩ := trOpds_one hq
    simp only [stepI] at hs
    split at hs
    · rename_i es hev
      simp only [Option.some.injEq, Prod.mk.injEq] at hs
      obtain ⟨rfl, rfl, _⟩ := hs
      obtain ⟨ob, cap, hv⟩ := rep_len (ev_rep h.tm hp hev) rfl
      exact (OpOk.still h (run_builtin_len ho hl ht hut hv (.inl ⟨_, _, _, rfl, rfl⟩)) (.v rfl)).upon
    · rename_i n hev
      simp only [Option.some.injEq, Prod.mk.injEq] at hs
      obtain ⟨rfl, rfl, _⟩ := hs
      obtain ⟨ob, cap, hv⟩ := rep_len (ev_rep h.tm hp hev) rfl
      exact (OpOk.still h (run_builtin_len ho hl ht hut hv (.inl ⟨_, _, _, rfl, rfl⟩)) (.v rfl)).upon
    · simp at hs
  · rename_i q hu
    simp only [Option.some.injEq] at htr; subst htr
    obtain ⟨t, ht, hut⟩ := Option.bind_eq_some_iff.1 hu
    obtain ⟨p, tp, hl, hp⟩ := trOpds_one hq
    simp only [stepI] at hs
    split at hs
    · rename_i s hev
      simp only [Option.some.injEq, Prod.mk.injEq] at hs
      obtain ⟨rfl, rfl, _⟩ := hs
      exact (OpOk.still h (run_builtin_len ho hl ht hut (rep_v (ev_rep h.tm hp hev)) (.inr ⟨s, rfl, rfl, rfl⟩)) (.v rfl)).upon
    · simp at hs
  · simp at htr

theorem step_mm {isMax : Bool} {tys : Array TypeId} {args : Array Operand} {qs : List Opd} (h : Rel P R x K C σ a w) (ho : o.op = .call ⟨.builtin (if isMax then .max else .min), args, tys⟩) (hq : trOpds P tys.toList args.toList = some qs)
    (hs : stepI Γ σ (.mm isMax qs) = some (y, bx, fp)) : Upon P R x σ a w o y bx := by
  simp only [stepI] at hs
  split at hs
  · rename_i m r hev
    obtain ⟨z, hz, e⟩ := map_some hs
    simp only [Prod.mk.injEq] at e
    obtain ⟨rfl, rfl, _⟩ := e
    exact (op_mm h ho hq hev hz).upon
  · simp at hs

theorem step_app {tys : Array TypeId} {args : Array Operand} {qs : List Opd} {i : I} (h : Rel P R x K C σ a w) (ho : o.op = .call ⟨.builtin .append, args, tys⟩) {own : Bool}
    (htr : (match (tys[0]?).bind P.underlying, (tys[1]?).bind P.underlying, qs with
        | some (.slice e), some (.slice _), [s, x] => match sizeP P e, bytesP P e, zeroP P e with
          | some n, some (b + 1), some _ => some (I.app own n (b + 1) s x)
          | _, _, _ => none
        | _, _, _ => none) = some i) (hq : trOpds P tys.toList args.toList = some qs) (hs : stepI Γ σ i = some (y, bx, fp)) : Upon P R x σ a w o y bx := by
  split at htr
  · rename_i e e1 s z hu0 hu1
    split at htr
    · rename_i n b zr hn hb hz
      simp only [Option.some.injEq] at htr; subst htr
      obtain ⟨t0, ht0, hut0⟩ := Option.bind_eq_some_iff.1 hu0
      obtain ⟨t1, ht1, hut1⟩ := Option.bind_eq_some_iff.1 hu1
      obtain ⟨p, q, tp, tq, hl, hp, hqq⟩ := trOpds_two hq
      simp only [stepI] at hs
      split at hs
      · rename_i ys yz evs evz
        split at hs
        · simp at hs
        · rename_i sz' new hsrc
          split at hs
          · simp at hs
          · rename_i hsz
            have hsz : sz' = n := by simpa using hsz
            subst hsz
            split at hs
            · rename_i sz0 es
              split at hs
              · rename_i hc
                simp only [Bool.and_eq_true, beq_iff_eq] at hc
                obtain ⟨rfl, hroom⟩ := hc
                obtain ⟨k1, k2, k3⟩ := op_app_sl h ho hl ht0 ht1 hut0 hut1 hn hb hz (by omega) hp hqq evs evz hsrc hroom
                split at hs
                · split at hs
                  · rename_i hemp
                    simp only [Option.some.injEq, Prod.mk.injEq] at hs
                    obtain ⟨rfl, rfl, _⟩ := hs
                    exact (k1 (List.isEmpty_iff.1 hemp)).upon
                  · rename_i hemp
                    simp only [Option.some.injEq, Prod.mk.injEq] at hs
                    obtain ⟨rfl, rfl, _⟩ := hs
                    exact (k3 (fun e => hemp (by simp [e]))).upon
                · simp only [Option.some.injEq, Prod.mk.injEq] at hs
                  obtain ⟨rfl, rfl, _⟩ := hs
                  exact k2.upon
              · simp at hs
            · rename_i ib off len
              split at hs
              · rename_i sz0 es hbx
                split at hs
                · rename_i hc
                  simp only [Bool.and_eq_true, beq_iff_eq] at hc
                  obtain ⟨⟨⟨rfl, hend⟩, hroom⟩, _⟩ := hc
                  simp only [Option.some.injEq, Prod.mk.injEq] at hs
                  obtain ⟨rfl, rfl, _⟩ := hs
                  exact (op_app_bs h ho hl ht0 ht1 hut0 hut1 hn hb hz (by omega) hp hqq evs evz hsrc hbx hend hroom).upon
                · simp at hs
              · simp at hs
            · simp at hs
      · simp at hs
    · simp at htr
  · simp at htr

theorem step_iaddr {arr : Option Nat} {t t1 t2 e : TypeId} {z iz : Operand} {z' i' : Opd} {sz : Nat} (h : Rel P R x K C σ a w) (ho : o.op = .indexAddr t z iz) (hu : (arr = none ∧ P.underlying t = some (.slice e)) ∨ (∃ m, arr = some m ∧ P.underlying t = some (.array m e))) (hs : sizeP P e = some sz)
    (hz : trOpd P t1 z = some z') (hi : trOpd P t2 iz = some i') (hst : stepI Γ σ (.iaddr arr sz z' i') = some (y, bx, fp)) : Upon P R x σ a w o y bx := by
  simp only [stepI] at hst
  split at hst
  · rename_i yz n ez en
    obtain ⟨yi, ei, hn⟩ := Option.bind_eq_some_iff.1 en
    split at hst
    · rename_i t' s es
      split at hst
      · rename_i hss
        have hss : s = sz := by simpa using hss
        subst hss
        obtain ⟨e0, he, e'⟩ := map_some hst
        simp only [Prod.mk.injEq] at e'
        obtain ⟨rfl, rfl, _⟩ := e'
        rcases hu with ⟨_, hu⟩ | ⟨m, hm, _⟩
        · exact (op_iaddr_sl h ho hu hs hz hi ez ei hn he).upon
        · cases hm
      · simp at hst
    · rename_i ib off len
      split at hst
      · rename_i s es hb
        split at hst
        · rename_i hc
          simp only [Bool.and_eq_true, beq_iff_eq, decide_eq_true_eq] at hc
          obtain ⟨rfl, hlt⟩ := hc
          simp only [Option.some.injEq, Prod.mk.injEq] at hst
          obtain ⟨rfl, rfl, _⟩ := hst
          rcases hu with ⟨_, hu⟩ | ⟨m, hm, _⟩
          · exact (op_iaddr_bs h ho hu hs hz hi ez ei hn hb hlt).upon
          · cases hm
        · simp at hst
      · simp at hst
    · rename_i len ip ep op
      split at hst
      · rename_i hlt
        simp only [Option.some.injEq, Prod.mk.injEq] at hst
        obtain ⟨rfl, rfl, _⟩ := hst
        rcases hu with ⟨hm, _⟩ | ⟨m, hm, hu⟩
        · cases hm
        · cases hm; exact (op_iaddr_arr h ho hu hs hz hi ez ei hn hlt rfl).upon
      · simp at hst
    · rename_i len cs
      split at hst
      · rename_i hlt
        simp only [Option.some.injEq, Prod.mk.injEq] at hst
        obtain ⟨rfl, rfl, _⟩ := hst
        rcases hu with ⟨hm, _⟩ | ⟨m, hm, hu⟩
        · cases hm
        · cases hm; exact (op_iaddr_arr h ho hu hs hz hi ez ei hn hlt rfl).upon
      · simp at hst
    · simp at hst
  · simp at hst

theorem step_slice {t t1 e : TypeId} {z : Operand} {lo hi mx : Option Operand} {z' : Opd} {lo' hi' mx' : Option Opd} {sz : Nat} (h : Rel P R x K C σ a w) (ho : o.op = .slice t z lo hi mx) (hu : P.underlying t = some (.slice e)) (hs : sizeP P e = some sz)
    (hz : trOpd P t1 z = some z') (hlo : trOpt P lo = some lo') (hhi : trOpt P hi = some hi') (hmx : trOpt P mx = some mx') (hor : mx = none ∨ hi.isSome = true) (hst : stepI Γ σ (.slice sz z' lo' hi' mx') = some (y, bx, fp)) : Upon P R x σ a w o y bx := by
  simp only [stepI] at hst
  split at hst
  · rename_i tt s es ez
    split at hst
    · rename_i l hh el eh
      split at hst
      · rename_i hc
        simp only [Bool.and_eq_true, beq_iff_eq, decide_eq_true_eq] at hc
        obtain ⟨⟨rfl, h1⟩, h2⟩ := hc
        cases mx with
        | none =>
          simp only [trOpt, Option.some.injEq] at hmx; subst hmx
          simp only [Option.some.injEq, Prod.mk.injEq] at hst
          obtain ⟨rfl, rfl, _⟩ := hst
          exact (op_slice_sl h ho hu hs hz hlo hhi rfl ez el eh h1 h2 _ (.inl ⟨rfl, rfl⟩)).upon
        | some m =>
          have hmx0 := hmx
          simp only [trOpt] at hmx
          obtain ⟨qm, hqm, rfl⟩ := map_some hmx
          simp only at hst
          split at hst
          · rename_i mv hm
            split at hst
            · rename_i heq
              have heq : hh = mv := by simpa using heq
              subst heq
              simp only [Option.some.injEq, Prod.mk.injEq] at hst
              obtain ⟨rfl, rfl, _⟩ := hst
              have hsome : hi.isSome = true := by rcases hor with h3 | h3; cases h3; exact h3
              refine (op_slice_sl h ho hu hs hz hlo hhi hmx0 ez el eh h1 h2 true (.inr ⟨m, rfl, hsome, ?_, rfl⟩)).upon
              exact optNat_is h.tm hmx0 hm
            · simp at hst
          · simp at hst
      · simp at hst
    · simp at hst
  · rename_i i off len ez
    split at hst
    · rename_i l hh el eh
      have hmn : mx = none := by
        cases mx with
        | none => rfl
        | some m => simp only [trOpt] at hmx; obtain ⟨_, _, e⟩ := map_some hmx; cases e
      subst hmn
      split at hst
      · rename_i hc
        simp only [Bool.and_eq_true, decide_eq_true_eq] at hc
        split at hst
        · rename_i heq
          have heq : l = hh := by simpa using heq
          simp only [Option.some.injEq, Prod.mk.injEq] at hst
          obtain ⟨rfl, rfl, _⟩ := hst
          exact (op_slice_bs h ho hu hs hz hlo hhi ez el eh hc.1 hc.2 (.inl ⟨heq, rfl⟩)).upon
        · rename_i hne
          split at hst
          · rename_i s es hb
            split at hst
            · rename_i hss
              have hss : s = sz := by simpa using hss
              subst hss
              simp only [Option.some.injEq, Prod.mk.injEq] at hst
              obtain ⟨rfl, rfl, _⟩ := hst
              exact (op_slice_bs h ho hu hs hz hlo hhi ez el eh hc.1 hc.2 (.inr ⟨fun e => hne (by simp [e]), ⟨es, hb⟩, rfl⟩)).upon
            · simp at hst
          · simp at hst
      · simp at hst
    · simp at hst
  · simp at hst

theorem trOpt_some {lo : Option Operand} {lo' : Option Opd} (h : trOpt P lo = some lo') : lo'.isSome = lo.isSome := by
  cases lo with
  | none => simp only [trOpt, Option.some.injEq] at h; subst h; rfl
  | some p => simp only [trOpt] at h; obtain ⟨q, _, rfl⟩ := map_some h; rfl

set_option maxHeartbeats 1600000 in
theorem stepI_sound {i : I} (hΓ : GamOk P R Γ) (h : Rel P R x K C σ a w) (htr : trOp P A o = some i) (hs : stepI Γ σ i = some (y, bx, fp)) : Upon P R x σ a w o y bx := by
  unfold trOp at htr
  split at htr
  · rename_i z ho
    obtain ⟨q, hq, rfl⟩ := map_some htr
    simp only [stepI] at hs
    obtain ⟨v, hv, e⟩ := map_some hs
    simp only [Prod.mk.injEq] at e; obtain ⟨rfl, rfl, _⟩ := e
    exact (op_mov h (.inl ho) hq hv).upon
  · rename_i z ho
    obtain ⟨q, hq, rfl⟩ := map_some htr
    simp only [stepI] at hs
    obtain ⟨v, hv, e⟩ := map_some hs
    simp only [Prod.mk.injEq] at e; obtain ⟨rfl, rfl, _⟩ := e
    exact (op_mov h (.inr ho) hq hv).upon
  · rename_i c p q ho
    split at htr
    · rename_i c' p' q' hc hp hq
      simp only [Option.some.injEq] at htr; subst htr
      simp only [stepI] at hs
      split at hs
      · rename_i t y1 y2 e1 e2 e3
        simp only [Option.some.injEq, Prod.mk.injEq] at hs; obtain ⟨rfl, rfl, _⟩ := hs
        exact (op_pick h ho hc hp hq e1 e2 e3).upon
      · simp at hs
    · simp at htr
  · rename_i e ho
    obtain ⟨l, hl, rfl⟩ := map_some htr
    simp only [stepI, Option.some.injEq, Prod.mk.injEq] at hs
    obtain ⟨rfl, rfl, _⟩ := hs
    exact (op_alloc h ho hl).upon
  · rename_i t z ho
    obtain ⟨q, hq, rfl⟩ := map_some htr
    simp only [stepI] at hs
    split at hs
    · simp at hs
    · rename_i v hv
      split at hs
      · rename_i h1
        simp only [Option.some.injEq, Prod.mk.injEq] at hs; obtain ⟨rfl, rfl, _⟩ := hs
        exact (op_box h ho hq hv h1).upon
      · simp at hs
  · rename_i t parts ho
    split at htr
    · rename_i fs z hu hz
      split at htr
      · rename_i hall
        obtain ⟨qs, hq, rfl⟩ := map_some htr
        simp only [stepI] at hs
        split at hs
        · simp at hs
        · rename_i ps hp
          obtain ⟨cs, hf, e⟩ := map_some hs
          simp only [Prod.mk.injEq] at e; obtain ⟨rfl, rfl, _⟩ := e
          exact (op_build_struct h ho hu hz hall hq hp hf).upon
      · simp at htr
    · rename_i m e z hu hz
      obtain ⟨n, hn, htr⟩ := Option.bind_eq_some_iff.1 htr
      obtain ⟨qs, hq, rfl⟩ := map_some htr
      simp only [stepI] at hs
      split at hs
      · simp at hs
      · rename_i ps hp
        obtain ⟨cs, hf, e⟩ := map_some hs
        simp only [Prod.mk.injEq] at e; obtain ⟨rfl, rfl, _⟩ := e
        exact (op_build_arr h ho hu hz hn hq hp hf).upon
    · simp at htr
  · rename_i t len parts ho
    split at htr
    · rename_i e hu
      split at htr
      · rename_i z ps0 hz hq
        split at htr
        · rename_i hl
          simp only [Option.some.injEq] at htr; subst htr
          simp only [stepI] at hs
          split at hs
          · simp at hs
          · rename_i ps hp
            split at hs
            · rename_i hlen
              have hlen : len = ps.length := by simpa using hlen
              obtain ⟨es, hf, e⟩ := map_some hs
              simp only [Prod.mk.injEq] at e; obtain ⟨rfl, rfl, _⟩ := e
              exact (op_bslice h ho hu hz hl hq hp hlen hf).upon
            · simp at hs
        · simp at htr
      · simp at htr
    · simp at htr
  · rename_i t z ho
    split at htr
    · rename_i n q hn hq
      simp only [Option.some.injEq] at htr; subst htr
      simp only [stepI] at hs
      split at hs
      · simp at hs
      · rename_i p hp
        obtain ⟨v, hv, e⟩ := map_some hs
        simp only [Prod.mk.injEq] at e; obtain ⟨rfl, rfl, _⟩ := e
        exact (op_load h ho hn hq hp hv).upon
    · simp at htr
  · rename_i t p z ho
    split at htr
    · rename_i n p' z' hn hp hz
      simp only [Option.some.injEq] at htr; subst htr
      simp only [stepI] at hs
      split at hs
      · rename_i yp yz e1 e2
        obtain ⟨bx', hb, e⟩ := map_some hs
        simp only [Prod.mk.injEq] at e; obtain ⟨rfl, rfl, _⟩ := e
        exact (op_store h ho hn hp hz e1 e2 hb).upon
      · simp at hs
    · simp at htr
  · rename_i z ho
    obtain ⟨q, hq, rfl⟩ := map_some htr
    simp only [stepI] at hs
    split at hs <;> first
      | (rename_i hv
         simp only [Option.some.injEq, Prod.mk.injEq] at hs; obtain ⟨rfl, rfl, _⟩ := hs
         exact (op_nilck h ho hq hv rfl).upon)
      | simp at hs
  · rename_i op t p q u ho
    split at htr
    · rename_i p' q' hp hq
      split at htr
      · rename_i hu
        simp only [Option.some.injEq] at htr; subst htr
        simp only [stepI] at hs
        split at hs
        · rename_i m n e1 e2
          simp only [Option.some.injEq, Prod.mk.injEq] at hs; obtain ⟨rfl, rfl, _⟩ := hs
          have := op_beq h ho hu (.inl rfl) hp hq e1 e2
          simpa using this.upon
        · simp at hs
      · rename_i hu
        simp only [Option.some.injEq] at htr; subst htr
        simp only [stepI] at hs
        split at hs
        · rename_i m n e1 e2
          simp only [Option.some.injEq, Prod.mk.injEq] at hs; obtain ⟨rfl, rfl, _⟩ := hs
          have := op_beq h ho hu (.inr rfl) hp hq e1 e2
          simpa using this.upon
        · simp at hs
      · rename_i e hu
        split at htr
        · simp only [Option.some.injEq] at htr; subst htr
          simp only [stepI] at hs
          split at hs <;> first
            | (rename_i hv
               simp only [Option.some.injEq, Prod.mk.injEq] at hs; obtain ⟨rfl, rfl, _⟩ := hs
               have := op_snil h ho hu (.inl rfl) rfl hp hv rfl
               simpa using this.upon)
            | simp at hs
        · simp at htr
      · rename_i e hu
        split at htr
        · simp only [Option.some.injEq] at htr; subst htr
          simp only [stepI] at hs
          split at hs <;> first
            | (rename_i hv
               simp only [Option.some.injEq, Prod.mk.injEq] at hs; obtain ⟨rfl, rfl, _⟩ := hs
               have := op_snil h ho hu (.inr rfl) rfl hp hv rfl
               simpa using this.upon)
            | simp at hs
        · simp at htr
      · simp only [Option.some.injEq] at htr; subst htr
        simp only [stepI] at hs
        split at hs
        · rename_i m n e1 e2
          obtain ⟨z, hz, e⟩ := map_some hs
          simp only [Prod.mk.injEq] at e; obtain ⟨rfl, rfl, _⟩ := e
          exact (op_bin h ho hp hq e1 e2 hz).upon
        · simp at hs
      · simp only [Option.some.injEq] at htr; subst htr
        simp only [stepI] at hs
        split at hs
        · rename_i m n e1 e2
          obtain ⟨z, hz, e⟩ := map_some hs
          simp only [Prod.mk.injEq] at e; obtain ⟨rfl, rfl, _⟩ := e
          exact (op_bin h ho hp hq e1 e2 hz).upon
        · simp at hs
      · simp at htr
    · simp at htr
  · rename_i op t z ho
    obtain ⟨q, hq, rfl⟩ := map_some htr
    simp only [stepI] at hs
    split at hs
    · rename_i m e1
      obtain ⟨u, hu, e⟩ := map_some hs
      simp only [Prod.mk.injEq] at e; obtain ⟨rfl, rfl, _⟩ := e
      exact (op_un h ho hq e1 hu).upon
    · simp at hs
  · rename_i s d z ho
    split at htr
    · rename_i ks k q hsu hdu hq
      simp only [Option.some.injEq] at htr; subst htr
      simp only [stepI] at hs
      split at hs
      · rename_i k' n e1
        simp only [Option.some.injEq, Prod.mk.injEq] at hs; obtain ⟨rfl, rfl, _⟩ := hs
        exact (op_conv h ho hsu hdu hq e1).upon
      · simp at hs
    · rename_i q hsu hdu hq
      simp only [Option.some.injEq] at htr; subst htr
      simp only [stepI] at hs
      split at hs
      · rename_i b e1
        simp only [Option.some.injEq, Prod.mk.injEq] at hs; obtain ⟨rfl, rfl, _⟩ := hs
        exact (op_idc h ho hsu hdu hq e1).upon
      · simp at hs
    · simp at htr
  · rename_i f first caps ho
    split at htr
    · rename_i hf
      obtain ⟨qs, hq, rfl⟩ := map_some htr
      simp only [stepI] at hs
      obtain ⟨cs, hc, e⟩ := map_some hs
      simp only [Prod.mk.injEq] at e; obtain ⟨rfl, rfl, _⟩ := e
      exact (op_mkfn h ho hf hq hc).upon
    · simp at htr
  · rename_i t l c ho
    split at htr
    · rename_i e hu
      split at htr
      · rename_i z b l' c' hz hb hl hc
        simp only [Option.some.injEq] at htr; subst htr
        simp only [stepI] at hs
        split at hs
        · rename_i n m e1 e2
          obtain ⟨yl, el, nl⟩ := Option.bind_eq_some_iff.1 e1
          obtain ⟨yc, ec, nc⟩ := Option.bind_eq_some_iff.1 e2
          split at hs
          · rename_i hcnd
            simp only [Bool.and_eq_true, decide_eq_true_eq] at hcnd
            simp only [Option.some.injEq, Prod.mk.injEq] at hs; obtain ⟨rfl, rfl, _⟩ := hs
            exact (op_mksl h ho hu hz hb hl hc el ec nl nc hcnd.1 hcnd.2).upon
          · simp at hs
        · simp at hs
      · simp at htr
    · simp at htr
  · rename_i t z lo hi mx ho
    split at htr
    · rename_i z' lo' hi' hu hz hlo hhi hmx
      simp only [Option.some.injEq] at htr; subst htr
      have hmn : mx = none := by
        cases mx with
        | none => rfl
        | some m => simp only [trOpt] at hmx; obtain ⟨_, _, e⟩ := map_some hmx; cases e
      subst hmn
      simp only [stepI] at hs
      split at hs
      · rename_i s es
        split at hs
        · rename_i l hh el eh
          split at hs
          · rename_i hc
            simp only [Bool.and_eq_true, decide_eq_true_eq] at hc
            simp only [Option.some.injEq, Prod.mk.injEq] at hs; obtain ⟨rfl, rfl, _⟩ := hs
            exact (op_sslice h ho hu hz hlo hhi es el eh hc.1 hc.2).upon
          · simp at hs
        · simp at hs
      · simp at hs
    · rename_i e z' lo' hi' mx' hu hz hlo hhi hmx
      split at htr
      · rename_i hor
        obtain ⟨n, hn, rfl⟩ := map_some htr
        refine step_slice h ho hu hn hz hlo hhi hmx ?_ hs
        rw [Bool.or_eq_true] at hor
        rcases hor with h1 | h1
        · left
          have := trOpt_some hmx
          cases mx with
          | none => rfl
          | some m => cases mx' <;> simp_all
        · right; rw [← trOpt_some hhi]; exact h1
      · simp at htr
    · simp at htr
  · rename_i t z f ho
    split at htr
    · rename_i fs hu
      split at htr
      · rename_i fd q hf hq
        split at htr
        · rename_i n hn
          simp only [Option.some.injEq] at htr; subst htr
          simp only [stepI] at hs
          split at hs
          · rename_i i e k hv
            simp only [Option.some.injEq, Prod.mk.injEq] at hs; obtain ⟨rfl, rfl, _⟩ := hs
            exact (op_faddr h ho hu hf hn hq hv rfl).upon
          · rename_i cs hv
            simp only [Option.some.injEq, Prod.mk.injEq] at hs; obtain ⟨rfl, rfl, _⟩ := hs
            exact (op_faddr h ho hu hf hn hq hv rfl).upon
          · simp at hs
        · simp at htr
      · simp at htr
    · simp at htr
  · rename_i t z f ho
    split at htr
    · rename_i fs hu
      split at htr
      · rename_i fd q hf hq
        obtain ⟨n, hn, rfl⟩ := map_some htr
        simp only [stepI] at hs
        split at hs
        · rename_i cs hv
          cases n with
          | none =>
            simp only at hs
            obtain ⟨v, hv', e⟩ := map_some hs
            simp only [Prod.mk.injEq] at e; obtain ⟨rfl, rfl, _⟩ := e
            exact (op_field h ho hu hf rfl hn hq hv hv').upon
          | some n =>
            simp only at hs
            split at hs
            · rename_i hl
              simp only [Option.some.injEq, Prod.mk.injEq] at hs; obtain ⟨rfl, rfl, _⟩ := hs
              exact (op_field h ho hu hf rfl hn hq hv (by simp only [hl, if_true])).upon
            · simp at hs
        · simp at hs
      · simp at htr
    · simp at htr
  · rename_i t z i ho
    split at htr
    · rename_i e z' i' hu hz hi
      obtain ⟨n, hn, rfl⟩ := map_some htr
      exact step_iaddr h ho (.inl ⟨rfl, hu⟩) hn hz hi hs
    · rename_i m e z' i' hu hz hi
      obtain ⟨n, hn, rfl⟩ := map_some htr
      exact step_iaddr h ho (.inr ⟨m, rfl, hu⟩) hn hz hi hs
    · simp at htr
  · rename_i t z i ho
    split at htr
    · rename_i m e z' i' hu hz hi
      split at htr
      · rename_i n r hn hr
        simp only [Option.some.injEq] at htr; subst htr
        simp only [stepI] at hs
        split at hs
        · rename_i cs j hv hj
          obtain ⟨yi, ei, hn'⟩ := Option.bind_eq_some_iff.1 hj
          split at hs
          · rename_i hlt
            cases r with
            | none =>
              simp only at hs
              obtain ⟨v, hv', e⟩ := map_some hs
              simp only [Prod.mk.injEq] at e; obtain ⟨rfl, rfl, _⟩ := e
              exact (op_aidx h ho hu hn hr hz hi hv ei hn' hlt hv').upon
            | some k =>
              simp only at hs
              split at hs
              · rename_i hl
                simp only [Option.some.injEq, Prod.mk.injEq] at hs; obtain ⟨rfl, rfl, _⟩ := hs
                exact (op_aidx h ho hu hn hr hz hi hv ei hn' hlt (by simp only [hl, if_true])).upon
              · simp at hs
          · simp at hs
        · simp at hs
      · simp at htr
    · rename_i z' i' hu hz hi
      simp only [Option.some.injEq] at htr; subst htr
      simp only [stepI] at hs
      split at hs
      · rename_i s n hv hj
        obtain ⟨yi, ei, hn'⟩ := Option.bind_eq_some_iff.1 hj
        split at hs
        · rename_i b hb
          simp only [Option.some.injEq, Prod.mk.injEq] at hs; obtain ⟨rfl, rfl, _⟩ := hs
          exact (op_sidx h ho hu hz hi hv ei hn' hb).upon
        · simp at hs
      · simp at hs
    · simp at htr
  · rename_i z i ho
    obtain ⟨q, hq, rfl⟩ := map_some htr
    simp only [stepI] at hs
    split at hs
    · rename_i xs hv
      obtain ⟨v, hv', e⟩ := map_some hs
      simp only [Prod.mk.injEq] at e; obtain ⟨rfl, rfl, _⟩ := e
      exact (op_extract h ho hq hv hv').upon
    · simp at hs
  · rename_i c ho
    split at htr
    · simp at htr
    · rename_i args hargs
      obtain ⟨cal, cargs, tys⟩ := c
      dsimp only at htr hargs
      split at htr
      · rename_i f
        obtain ⟨f', hf, rfl⟩ := map_some htr
        simp only [stepI] at hs
        split at hs
        · rename_i yf ys e1 e2
          exact op_call hΓ h ho hf hargs e1 e2 hs
        · simp at hs
      · exact step_len h ho htr hargs hs
      · simp only [Option.some.injEq] at htr; subst htr
        exact step_mm (isMax := true) h ho hargs hs
      · simp only [Option.some.injEq] at htr; subst htr
        exact step_mm (isMax := false) h ho hargs hs
      · exact step_app h ho htr hargs hs
      · simp at htr
  · simp at htr

end Go.Em
