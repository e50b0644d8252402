/- The abstract machine: running code is sound. -/
import Derived.Test.YtjfheahakfoofaaEmGhost
import Derived.RangeFuncRecord
import Derived.ControlIn
namespace Go.Em
variable {P : Program} {R : CodeRel} {x : Ctx} {K : Kn} {C : List CB} {σ : St} {a : Act} {w : World}
variable {Γ : Gam}

/-! ### A choice of the boxes -/
theorem Rel.pickAll (h : Rel P R x K C σ a w) {sel : List Nat} {bx : List Bx} (e : pickB σ.bx sel = some bx) (ht : sel.take x.C0.length = List.range x.C0.length) (htm : ∀ i, i ∈ refsL (σ.tm.map (·.2)) → i ∈ sel) :
    ∃ C1, Rel P R x K C1 ⟨renT (idxN · sel) σ.tm, bx⟩ a w ∧ C1.length = bx.length ∧ ∀ (y : X) (v : Value), (∀ i, i ∈ y.refs → i ∈ sel) → Rep K C y v → Rep K C1 (y.ren (idxN · sel)) v := by
  obtain ⟨C1, hI, hl1, hC1, hin, hinl, hnd, hC1', hidx⟩ := h.inv.pick e
  have hown : ∀ (b o : Nat), Owns C1 bx b o → Owns C σ.bx b o := by
    rintro b o ⟨j, c, B', h1, h2, h3, h4⟩
    obtain ⟨i, e1, e2⟩ := hC1' j c h1
    obtain ⟨B, e3, e4⟩ := hin j i e1
    rw [e4] at h2; cases h2
    exact ⟨i, c, B, e2, e3, by rwa [live_ren] at h3, h4⟩
  have hfirst : ∀ i, i < x.C0.length → sel[i]? = some i := by
    intro i hi
    have h1 : (sel.take x.C0.length)[i]? = some i := by rw [ht]; simp [hi]
    rw [List.getElem?_take, if_pos hi] at h1; exact h1
  refine ⟨C1, { h with inv := hI, tm := h.tm.ren fun i hi c hc => hidx i (htm i hi) c hc, own := fun b o ho => h.own b o (hown b o ho), cin := ?_, defs := ?_, loops := ?_ }, by omega, fun y v hy hr => hr.ren fun i hi c hc => hidx i (hy i hi) c hc⟩
  · intro i c hc
    exact hC1 i i c (hfirst i (List.getElem?_eq_some_iff.1 hc).1) (h.cin i c hc)
  · obtain ⟨rs, h1, h2, h3⟩ := h.defs.marks
    exact ⟨⟨rs, h1, h2, fun r hr => ⟨(h3 r hr).1, (h3 r hr).2.1, fun o ho => (h3 r hr).2.2 o (hown r o ho)⟩⟩, h.defs.round⟩
  · intro i hi hl
    obtain ⟨B, hB, hl'⟩ := h.loops i hi hl
    obtain ⟨B', e1, e2⟩ := hin i i (hfirst i hi)
    rw [hB] at e1; cases e1
    exact ⟨_, e2, by rw [isLoop_ren]; exact hl'⟩

theorem canon_sound {σ' : St} (h : Rel P R x K C σ a w) (e : canon x.C0.length σ = some σ') : RelE P R x σ' a w := by
  unfold canon at e
  dsimp only at e
  split at e
  · rename_i hc
    simp only [Bool.and_eq_true, beq_iff_eq] at hc
    obtain ⟨bx, hbx, rfl⟩ := map_some e
    obtain ⟨C1, h1, _, _⟩ := h.pickAll hbx hc.2 (subN_iff.1 hc.1)
    exact ⟨K, C1, h1⟩
  · simp at e

/-! ### Marks -/
theorem Rel.defers (h : Rel P R x K C σ a w) (hr : x.rnd = none) : Rel P R x K C σ { a with defers := mark w.heap.size :: a.defers } (w.alloc (.deferred (some []))) := by
  have hs := h.still (FrameOk.alloc nowhere w (.deferred (some [])))
  refine { hs with tm := hs.tm, nt := hs.nt, defs := ⟨?_, fun e => by rw [hr] at e; simp at e⟩ }
  obtain ⟨rs, h1, h2, h3⟩ := h.defs.marks
  obtain ⟨rs', h1', h2', h3'⟩ := hs.defs.marks
  refine ⟨w.heap.size :: rs, by simp [h1], List.nodup_cons.2 ⟨fun hm => ?_, h2⟩, fun r hm => ?_⟩
  · have := (Array.getElem?_eq_some_iff.1 (h3 _ hm).1).1; omega
  · rcases List.mem_cons.1 hm with rfl | hm
    · refine ⟨World.alloc_heap_new w _, h.frame.size, fun o ho => ?_⟩
      have := h.inv.owns_lt ho; omega
    · refine ⟨(FrameOk.alloc nowhere w (.deferred (some []))).obj (h3 r hm).1 trivial (o₀ := 0) id, (h3 r hm).2.1, (h3 r hm).2.2⟩

/-- What is said of the code of a loop. -/
def RCode (P : Program) : CodeRel := fun nt assign body a b => ∃ A, trCode P A nt assign = some a ∧ trCode P A nt body = some b

def exitOf : Ex → Exit
  | .norm => .normal
  | .exit i => .exit i
  | .ret => .ret

theorem getLoop_box (h : Rel P R x K C σ a w) {lr : Nat} (hr : x.rnd = some lr) : ∃ lp : Loop, w.heap[lr]? = some (.loop lp) := by
  obtain ⟨i, hi, hl, hc⟩ := h.rnd lr hr
  obtain ⟨B, hB, hlB⟩ := h.loops i hi hl
  have := h.inv.box i B _ hB (h.cin i _ hc)
  cases B with
  | loop st p tm ps am bm => obtain ⟨lp, h1, _⟩ := this; exact ⟨lp, h1⟩
  | _ => simp [Bx.isLoop] at hlB

theorem enter_sound {ps : Array Tmp} {assign body : Code} {am bm : Em.C} {live : List Nat} {nt : Nat} (hx : x.nt = nt) (h : Rel P (RCode P) x K C σ a w) (hps : ∀ p, p ∈ ps.toList → p < nt) {A : Ann} (ha : trCode P A nt assign = some am) (hb : trCode P A nt body = some bm) (fn : FuncId) :
    ∃ (l : Nat) (mk : List Deferred) (w1 : World), (Instr.enterLoop fn a.tmps ps assign body x.rnd).run P w = .ok (l, mk) w1 ∧
      Rel P (RCode P) x K (C ++ [.obj l]) ⟨σ.tm, σ.bx ++ [.loop .ready none (keep live σ.tm) ps.toList am bm]⟩ { a with defers := mk ++ a.defers } w1 := by
  have main : ∀ (mk : List Deferred) (w0 : World) (L : Loop), Rel P (RCode P) x K C σ { a with defers := mk ++ a.defers } w0 → L.state = .ready → L.pending = none → L.tmps = a.tmps → L.params = ps → L.assign = assign → L.body = body →
      Rel P (RCode P) x K (C ++ [.obj w0.heap.size]) ⟨σ.tm, σ.bx ++ [.loop .ready none (keep live σ.tm) ps.toList am bm]⟩ { a with defers := mk ++ a.defers } (w0.alloc (.loop L)) := by
    intro mk w0 L h0 e1 e2 e3 e4 e5 e6
    refine h0.push _ ⟨L, World.alloc_heap_new w0 _, e1, by rw [e2]; trivial, ?_, by rw [e4], fun p hp => ?_, ⟨A, ?_, ?_⟩⟩ (fun b k hw => hw)
    · rw [e3]; exact (h.tm.keep live).mono (KLe.refl _) (CLe.append _ _)
    · rw [e3, h.nt, hx]; exact hps p hp
    · rw [e3, h.nt, hx, e5]; exact ha
    · rw [e3, h.nt, hx, e6]; exact hb
  cases hr : x.rnd with
  | none =>
    refine ⟨w.heap.size + 1, [mark w.heap.size], _, run_enterLoop_outer _ _ _ _ _, ?_⟩
    have := main [mark w.heap.size] _ { state := .ready, pending := none, fn, tmps := a.tmps, params := ps, assign, body, defers := w.heap.size } (h.defers hr) rfl rfl rfl rfl rfl rfl
    rw [World.size_alloc] at this
    exact this
  | some lr =>
    obtain ⟨lp, hlp⟩ := getLoop_box h hr
    refine ⟨w.heap.size, [], w.alloc (.loop { state := .ready, pending := none, fn, tmps := a.tmps, params := ps, assign, body, defers := lp.defers }), ?_, main [] w _ h rfl rfl rfl rfl rfl rfl⟩
    unfold Instr.enterLoop
    simp only [Sem.run_bind, run_getLoop hlp, run_newObj_alloc, Result.andThen, Sem.run_pure]

theorem putObj_frame {S : Nat → Nat → Prop} {g : Nat} {o o' : Obj} (hg : w.heap[g]? = some o) (ho : noCells (some o)) (ho' : noCells (some o')) (hs : ∀ i, S g i) : FrameOk S w (w.putObj g o') := FrameOk.setObj hg ho ho' hs

theorem c0_le (h : Rel P R x K C σ a w) : x.C0.length ≤ C.length := by
  rcases Nat.lt_or_ge C.length x.C0.length with h1 | h1
  · have := h.cin C.length _ (List.getElem?_eq_getElem h1)
    rw [List.getElem?_eq_none (Nat.le_refl _)] at this; cases this
  · exact h1

/-- The record's state turns. -/
theorem Rel.setLoop (h : Rel P R x K C σ a w) {i l : Nat} {st st' : LoopState} {pend pend' : Option Ex} {tm : List (Nat × X)} {ps : List Nat} {am bm : Em.C} (hB : σ.bx[i]? = some (.loop st pend tm ps am bm)) (hc : C[i]? = some (.obj l)) {jump : Option Code} (hj : PendOk pend' jump) :
    ∃ lp : Loop, w.heap[l]? = some (.loop lp) ∧ lp.state = st ∧ PendOk pend lp.pending ∧ Rel P R x K C ⟨σ.tm, σ.bx.set i (.loop st' pend' tm ps am bm)⟩ a (w.putObj l (.loop { lp with state := st', pending := jump })) := by
  obtain ⟨lp, hl, ho⟩ := h.inv.box i _ _ hB hc
  refine ⟨lp, hl, ho.hst, ho.hpend, ?_⟩
  have hlt := (Array.getElem?_eq_some_iff.1 hl).1
  refine h.setBox hB rfl hc (putObj_frame hl trivial trivial fun _ => rfl) ⟨_, World.putObj_heap_same hlt, rfl, hj, ho.htm, ho.hps, ho.hin, ho.hcode⟩ (fun e => e)

theorem endRf_sound {i l : Nat} {σ' : St} {e : Ex} (h : Rel P R x K C σ a w) (hc : C[i]? = some (.obj l)) (hi : ¬ i < x.C0.length) (he : endRf i σ = some (e, σ')) :
    ∃ (jump : Option Code) (w' : World), (Instr.endLoop l).run P w = .ok jump w' ∧ RelE P R x σ' a w' ∧ ((jump = none ∧ e = .norm) ∨ (jump = some .ret ∧ e = .ret) ∨ ∃ k, jump = some (.exit k) ∧ e = .exit k) := by
  unfold endRf at he
  split at he
  · rename_i st pend tm ps am bm hB
    split at he
    · simp at he
    · rename_i hst
      simp only [Option.some.injEq, Prod.mk.injEq] at he
      obtain ⟨rfl, rfl⟩ := he
      obtain ⟨lp0, hl0, hs0, hp0, _⟩ := h.setLoop (st' := .exhausted) (pend' := none) (jump := none) hB hc trivial
      obtain ⟨lp, hl, hs, hp, hr⟩ := h.setLoop (st' := .exhausted) (pend' := pend) (jump := lp0.pending) hB hc hp0
      rw [hl0] at hl
      simp only [Option.some.injEq, Obj.loop.injEq] at hl
      subst hl
      have hk := hr.kill i (fun B e e' => hi)
      refine ⟨lp0.pending, _, run_endLoop hl0 (by rw [hs0]; exact hst), ⟨K, C, ?_⟩, ?_⟩
      · simpa using hk
      · cases pend with
        | none =>
          cases hpj : lp0.pending with
          | none => exact .inl ⟨rfl, rfl⟩
          | some c => rw [hpj] at hp0; exact hp0.elim
        | some ex =>
          cases hpj : lp0.pending with
          | none => rw [hpj] at hp0; cases ex <;> exact hp0.elim
          | some c =>
            rw [hpj] at hp0
            cases ex with
            | norm => exact hp0.elim
            | ret => cases c <;> first | exact hp0.elim | exact .inr (.inl ⟨rfl, rfl⟩)
            | exit k => cases c with
              | exit k' => exact .inr (.inr ⟨k', rfl, by simp only [PendOk] at hp0; rw [hp0]⟩)
              | _ => exact hp0.elim
  · simp at he

theorem invoke_fn {g : FuncId} {vs args : Array Value} (hok : FnOk P g) (w : World) : (invoke (.fn (.func g) vs) args).run P w = .ok (.enter g (args ++ vs)) w := by
  have h : invoke (.fn (.func g) vs) args = callFunc g (args ++ vs) := by simp only [invoke]
  rw [h]; exact hok _ w

theorem resolve_fn {f : Operand} {g : FuncId} {vs : Array Value} {l : Nat} (hv : a.eval f = .func (.func g) #[] vs) (w : World) : (resolve a.eval (rangeCall f l) 0).run P w = .ok { target := .fn (.func g) vs, args := #[.func (.yield l) #[] #[]] } w := by
  have h : a.eval (.const (.func (.yield l) #[] #[])) = .func (.yield l) #[] #[] := rfl
  simp [resolve, Deferred.ofValue, hv, h]

theorem run_sound (hΓ : GamOk P (RCode P) Γ) {A : Ann} {fu : Nat} : ∀ (c : Code) {m : Em.C}, trCode P A x.nt c = some m → ∀ {σ σ' : St} {e : Ex} {K : Kn} {C : List CB} {a : Act} {w : World} {Q : Exit → Act → World → Prop},
    Rel P (RCode P) x K C σ a w → run Γ x.C0.length fu m σ = some (e, σ') → (∀ K' C' a' w', Em.Rel P (RCode P) x K' C' σ' a' w' → Q (exitOf e) a' w') → c.wpIn (Fr x.rnd) 0 P Q a w := by
  intro c
  induction c with
  | skip =>
    intro m hm σ σ' e K C a w Q h hr hQ
    simp only [trCode, Option.some.injEq] at hm; subst hm
    simp only [run, Option.some.injEq, Prod.mk.injEq] at hr
    obtain ⟨rfl, rfl⟩ := hr
    exact wpIn_skip (hQ K C a w h)
  | exit id =>
    intro m hm σ σ' e K C a w Q h hr hQ
    simp only [trCode, Option.some.injEq] at hm; subst hm
    simp only [run, Option.some.injEq, Prod.mk.injEq] at hr
    obtain ⟨rfl, rfl⟩ := hr
    exact wpIn_exit (hQ K C a w h)
  | ret =>
    intro m hm σ σ' e K C a w Q h hr hQ
    simp only [trCode, Option.some.injEq] at hm; subst hm
    simp only [run, Option.some.injEq, Prod.mk.injEq] at hr
    obtain ⟨rfl, rfl⟩ := hr
    exact wpIn_ret (hQ K C a w h)
  | region id ops draw =>
    intro m hm σ σ' e K C a w Q h hr hQ
    simp only [trCode] at hm
    split at hm
    · simp only [Option.some.injEq] at hm; subst hm
      simp [run] at hr
    · rename_i l hl
      have key : ∀ ps, m = .reg (A.gh id) ps l (A.live id) → ((draw = true ∧ drawPairs ops l = some ps) ∨ draw = false) → (Code.region id ops draw).wpIn (Fr x.rnd) 0 P Q a w := by
        intro ps hmm hd
        subst hmm
        simp only [run] at hr
        split at hr
        · simp at hr
        · rename_i σ1 hg
          obtain ⟨K1, C1, h1⟩ := ghosts_sound h hg
          split at hr
          · simp at hr
          · rename_i σ2 fps hs
            split at hr
            · rename_i hp
              simp only [Option.some.injEq, Prod.mk.injEq] at hr
              obtain ⟨rfl, rfl⟩ := hr
              have fin : ∀ K' C' a' w', Em.Rel P (RCode P) x K' C' σ2 a' w' → Q .normal a' w' := fun K' C' a' w' h' => hQ K' C' a' w' (h'.tms (h'.tm.keep _))
              rcases hd with ⟨rfl, hd⟩ | rfl
              · exact region_draw hΓ h1 hl hd hs hp fin
              · exact region_text hΓ h1 hl hs fin
            · simp at hr
      cases draw with
      | true =>
        simp only [if_true] at hm
        obtain ⟨ps, hps, rfl⟩ := map_some hm
        exact key ps rfl (.inl ⟨rfl, hps⟩)
      | false =>
        simp only [Bool.false_eq_true, if_false, Option.some.injEq] at hm
        exact key [] hm.symm (.inr rfl)
  | seq c1 c2 ih1 ih2 =>
    intro m hm σ σ' e K C a w Q h hr hQ
    simp only [trCode] at hm
    split at hm
    · rename_i m1 m2 h1 h2
      simp only [Option.some.injEq] at hm; subst hm
      simp only [run] at hr
      split at hr
      · rename_i σ1 hs
        exact wpIn_seq (ih1 h1 h hs fun K' C' a' w' h' => ih2 h2 h' hr hQ)
      · rename_i hne
        refine wpIn_seq (ih1 h1 h hr fun K' C' a' w' h' => ?_)
        have := hQ K' C' a' w' h'
        cases e with
        | norm => exact absurd hr (hne σ')
        | exit k => exact this
        | ret => exact this
    · simp at hm
  | cond q c1 c2 ih1 ih2 =>
    intro m hm σ σ' e K C a w Q h hr hQ
    simp only [trCode] at hm
    split at hm
    · rename_i q' m1 m2 hq h1 h2
      simp only [Option.some.injEq] at hm; subst hm
      simp only [run] at hr
      split at hr
      · rename_i t ht
        have hv := rep_v (ev_rep h.tm hq ht)
        refine wpIn_cond_split hv (fun e => ?_) (fun e => ?_)
        · subst e; simp only [if_true] at hr; exact ih1 h1 h hr hQ
        · subst e; simp only [Bool.false_eq_true, if_false] at hr; exact ih2 h2 h hr hQ
      · simp at hr
    · simp at hm
  | block id c ih =>
    intro m hm σ σ' e K C a w Q h hr hQ
    simp only [trCode] at hm
    obtain ⟨m1, h1, rfl⟩ := map_some hm
    simp only [run] at hr
    refine wpIn_block ?_
    split at hr
    · rename_i j σ1 hs
      refine ih h1 h hs fun K' C' a' w' h' => ?_
      show (if j = id then Q .normal a' w' else Q (.exit j) a' w')
      by_cases hj : j = id
      · have : (j == id) = true := by simpa using hj
        rw [this] at hr
        simp only [if_true, Option.some.injEq, Prod.mk.injEq] at hr
        obtain ⟨rfl, rfl⟩ := hr
        rw [if_pos hj]; exact hQ K' C' a' w' h'
      · have : (j == id) = false := by simpa using hj
        rw [this] at hr
        simp only [Bool.false_eq_true, if_false, Option.some.injEq, Prod.mk.injEq] at hr
        obtain ⟨rfl, rfl⟩ := hr
        rw [if_neg hj]; exact hQ K' C' a' w' h'
    · rename_i hne
      refine ih h1 h hr fun K' C' a' w' h' => ?_
      have := hQ K' C' a' w' h'
      cases e with
      | norm => exact this
      | exit k => exact absurd hr (hne k σ')
      | ret => exact this
  | loop c ih =>
    intro m hm σ σ' e K C a w Q h hr hQ
    simp only [trCode] at hm
    obtain ⟨m1, h1, rfl⟩ := map_some hm
    simp only [run] at hr
    refine wpIn_loop_rounds fu ?_
    have key : ∀ (n : Nat) {σ : St} {K : Kn} {C : List CB} {a : Act} {w : World}, Rel P (RCode P) x K C σ a w → iter x.C0.length (run Γ x.C0.length fu m1) n σ = some (e, σ') → Code.roundsIn (Fr x.rnd) 0 P c Q n a w := by
      intro n
      induction n with
      | zero => intro σ K C a w h hr; simp [iter] at hr
      | succ n ihn =>
        intro σ K C a w h hr
        simp only [iter] at hr
        split at hr
        · simp at hr
        · rename_i σ1 hc
          obtain ⟨K1, C1, h2⟩ := canon_sound h hc
          rw [roundsIn_succ]
          split at hr
          · rename_i σ2 hs
            exact ih h1 h2 hs fun K' C' a' w' h' => ihn h' hr
          · rename_i hne
            refine ih h1 h2 hr fun K' C' a' w' h' => ?_
            have := hQ K' C' a' w' h'
            cases e with
            | norm => exact absurd hr (hne σ')
            | exit k => exact this
            | ret => exact this
    exact key fu h hr
  | rangeFunc f ps c1 c2 ih1 ih2 =>
    intro m hm σ σ' e K C a w Q h hr hQ
    simp only [trCode] at hm
    split at hm
    · rename_i f' am bm hf ha hb
      split at hm
      · simp at hm
      · rename_i hps
        simp only [Option.some.injEq] at hm
        obtain ⟨live, hlive⟩ : ∃ live, m = .rf f' ps.toList live am bm := ⟨_, hm.symm⟩
        subst hlive
        have hps' : ∀ p, p ∈ ps.toList → p < x.nt := by
          intro p hp
          simp only [Bool.not_eq_true', Bool.not_eq_false] at hps
          have := Array.all_eq_true_iff_forall_mem.1 hps p (by simpa using hp)
          simpa using this
        simp only [run] at hr
        split at hr
        · rename_i g caps hg
          split at hr
          · simp at hr
          · rename_i res bx sel hcall
            have rf := ev_rep h.tm hf hg
            generalize hv : a.eval f = v at rf
            cases rf with
            | fn hs hrep =>
              rename_i vs
              refine wpIn_rangeFunc fun fn _ => ?_
              obtain ⟨l, mk, w1, hen, h1⟩ := enter_sound (live := live) rfl h hps' ha hb fn
              have hcl : (C ++ [CB.obj l])[σ.bx.length]? = some (.obj l) := by rw [← h.inv.size]; simp
              have hargs : ArgsRep K (C ++ [.obj l]) (.yl σ.bx.length :: caps) (#[.func (.yield l) #[] #[]] ++ vs) := by
                have h0 : ArgsRep K (C ++ [.obj l]) [.yl σ.bx.length] #[.func (.yield l) #[] #[]] := ⟨rfl, fun j y u e e' => by
                  cases j with
                  | zero => simp at e e'; subst e; subst e'; exact .yl hcl
                  | succ j => simp at e⟩
                exact argsRep_append h0 ⟨hs, fun j y u e e' => (hrep j y u e e').mono (KLe.refl _) (CLe.append _ _)⟩
              obtain ⟨hok, hcalls⟩ := callRef_fn hΓ h1 hargs hcall
              have hinv := invoke_fn (vs := vs) (args := #[.func (.yield l) #[] #[]]) hok w1
              have hres := resolve_fn (P := P) (a := { a with defers := mk ++ a.defers }) (l := l) hv w1
              generalize (#[.func (.yield l) #[] #[]] ++ vs : Array Value) = cargs at hcalls hinv
              refine ⟨l, mk, w1, _, w1, g, cargs, w1, hen, hres, ?_, hinv, ?_, ?_⟩
              · exact fun _ _ => trivial
              · exact fun hd => by simp [Fr, Fence.wide] at hd
              refine callsIn_fr (hcalls.mono ?_)
              rintro e1 w' ⟨v, K', C', rfl, hle, hrel, _⟩
              obtain ⟨jump, w4, hend, ⟨K4, C4, h4⟩, hj⟩ := endRf_sound hrel (hle _ _ hcl) (by have := c0_le h; have := h.inv.size; omega) hr
              refine ⟨jump, w4, hend, ?_⟩
              rcases hj with ⟨rfl, rfl⟩ | ⟨rfl, rfl⟩ | ⟨k, rfl, rfl⟩
              · exact hQ _ _ _ _ h4
              · exact wpIn_ret (hQ _ _ _ _ h4)
              · exact wpIn_exit (hQ _ _ _ _ h4)
        · simp at hr
    · simp at hm
  | scope b ih => intro m hm; simp [trCode] at hm
  | label l => intro m hm; simp [trCode] at hm
  | goto l => intro m hm; simp [trCode] at hm
  | refuse y => intro m hm; simp [trCode] at hm

end Go.Em
