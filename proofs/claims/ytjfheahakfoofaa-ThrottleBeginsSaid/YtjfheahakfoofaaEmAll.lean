/- The abstract machine: rounds, and the machine as a whole. -/
import Derived.Test.YtjfheahakfoofaaEmFun
namespace Go.Em
variable {P : Program} {R : CodeRel} {x : Ctx} {K : Kn} {C : List CB} {σ : St} {a : Act} {w : World}
variable {Γ : Gam}

theorem zipPs_tm : ∀ {ps : List Nat} {as : List X} {vs : List Value} {tm tm' : List (Nat × X)} {tmps : Array Value}, zipPs ps as tm = some tm' → vs.length = as.length → (∀ (j : Nat) (y : X) (v : Value), as[j]? = some y → vs[j]? = some v → Rep K C y v) →
    (∀ p, p ∈ ps → p < tmps.size) → TmOk K C tm tmps → ps.length = as.length ∧ TmOk K C tm' ((ps.zip vs).foldl (fun tmps q => tmps.setIfInBounds q.1 q.2) tmps)
  | [], [], vs, tm, tm', tmps, e, hl, _, _, h => by
    simp only [zipPs, Option.some.injEq] at e; subst e
    exact ⟨rfl, h⟩
  | p :: ps, y :: as, [], tm, tm', tmps, e, hl, _, _, _ => by simp at hl
  | p :: ps, y :: as, v :: vs, tm, tm', tmps, e, hl, hr, hp, h => by
    simp only [zipPs] at e
    have h1 : TmOk K C ((p, y) :: tm) (tmps.setIfInBounds p v) := by
      intro n z ez
      simp only [lk] at ez
      split at ez
      · rename_i hn
        simp only [beq_iff_eq] at hn; subst hn
        simp only [Option.some.injEq] at ez; subst ez
        exact ⟨v, by rw [Array.getElem?_setIfInBounds_self_of_lt (hp p (by simp))], hr 0 y v rfl rfl⟩
      · rename_i hn
        obtain ⟨u, hu, hru⟩ := h n z ez
        exact ⟨u, by rw [Array.getElem?_setIfInBounds_ne (by simpa using hn)]; exact hu, hru⟩
    obtain ⟨g1, g2⟩ := zipPs_tm (vs := vs) e (by simpa using hl) (fun j z u ez eu => hr (j + 1) z u (by simpa using ez) (by simpa using eu)) (fun q hq => by simpa using hp q (by simp [hq])) h1
    exact ⟨by simp [g1], by simpa using g2⟩
  | [], _ :: _, _, _, _, _, e, _, _, _, _ => by simp [zipPs] at e
  | _ :: _, [], _, _, _, _, e, _, _, _, _ => by simp [zipPs] at e

theorem foldl_size : ∀ (l : List (Nat × Value)) (tmps : Array Value), (l.foldl (fun tmps q => tmps.setIfInBounds q.1 q.2) tmps).size = tmps.size
  | [], _ => rfl
  | q :: l, tmps => by simp [foldl_size l]

theorem endRound_sound {l i : Nat} {bx : List Bx} {pend : Option Ex} {st : LoopState} (h : Rel P R x K C σ a w) (hc : C[i]? = some (.obj l)) (jump : Option Code) (hj : PendOk pend jump) (hst : st = if jump.isNone then .ready else .done)
    (e : setLoop σ.bx i .busy st pend = some bx) : ∃ w', (Instr.endRound l jump).run P w = .ok (.bool jump.isNone) w' ∧ Rel P R x K C ⟨σ.tm, bx⟩ a w' := by
  unfold setLoop at e
  split at e
  · rename_i s p tm ps am bm hB
    split at e
    · simp only [Option.some.injEq] at e; subst e
      obtain ⟨lp, hl, _, _, hr⟩ := h.setLoop (st' := st) (pend' := pend) (jump := jump) hB hc hj
      refine ⟨_, run_endRound jump hl, ?_⟩
      rw [hst] at hr; rw [hst]; exact hr
    · simp at e
  · simp at e

theorem runY_sound (hΓ : GamOk P (RCode P) Γ) {fu : Nat} {args : List X} {inb outb : List Bx} {res : X} (e : runY Γ fu args inb = some (res, outb)) : YSem P (RCode P) args inb res outb := by
  unfold runY at e
  split at e
  · rename_i i as
    refine ⟨i, as, rfl, fun K C w cargs l r hI hi hargs => ?_⟩
    split at e
    · rename_i tm ps am bm hB
      obtain ⟨lp, hl, ho⟩ := hI.box i _ _ hB hi
      obtain ⟨A, hca, hcb⟩ := ho.hcode
      split at e
      · simp at e
      · rename_i tm' hz
        obtain ⟨hpl, htm⟩ := zipPs_tm (vs := cargs.toList) hz (by simpa using hargs.1) (fun j y v e1 e2 => hargs.2 j y v e1 (by simpa using e2)) ho.hin ho.htm
        have hsz : cargs.size = lp.params.size := by
          rw [hargs.1, ← hpl, ← ho.hps]; simp
        have hfold : (lp.params.zip cargs).foldl (fun tmps (t, a) => tmps.setIfInBounds t a) lp.tmps = (ps.zip cargs.toList).foldl (fun tmps q => tmps.setIfInBounds q.1 q.2) lp.tmps := by
          rw [← ho.hps, ← Array.toList_zip, Array.foldl_toList]
        refine ⟨_, _, _, _, run_yield hl hsz, ?_⟩
        rw [hfold]
        generalize htt : (ps.zip cargs.toList).foldl (fun tmps q => tmps.setIfInBounds q.1 q.2) lp.tmps = tmps at htm
        have hts : tmps.size = lp.tmps.size := by rw [← htt]; exact foldl_size _ _
        let x : Ctx := { nt := lp.tmps.size, K0 := K, C0 := C, loops := isLoopAt inb, w0 := w, Fp := Owns C inb, rnd := some l }
        have hloop : ∀ (i : Nat) (B : Bx), inb[i]? = some B → B.isLoop = true → x.loops i = true := fun i B hB hl => by simp only [x, isLoopAt_iff hB, hl]
        have hst : Rel P (RCode P) x K C ⟨tm', inb⟩ { tmps := tmps, defers := [] } w := by
          refine ⟨hI, htm, hts, KLe.refl _, fun b o v ev => .inl ev, fun b o ho => .inl ho, fun i c hc => hc, .refl _ _, ⟨⟨[], rfl, List.nodup_nil, fun r hr => by simp at hr⟩, fun _ => rfl⟩, fun i hi hl => ?_, fun l' hl' => ?_⟩
          · simp only [x, isLoopAt] at hl
            split at hl
            · rename_i B hB; exact ⟨B, hB, hl⟩
            · cases hl
          · simp only [x, Option.some.injEq] at hl'; subst hl'
            exact ⟨i, (List.getElem?_eq_some_iff.1 hi).1, hloop i _ hB rfl, hi⟩
        have hlenC : x.C0.length = inb.length := hI.size
        refine roundIn_of_wpIn trivial ?_
        have hF : (Fr r).inRound l = Fr x.rnd := rfl
        rw [hF]
        split at e
        · rename_i σ1 hrun
          rw [← hlenC] at hrun
          split at e
          · simp at e
          · rename_i bx hset
            refine run_sound (x := x) hΓ lp.assign hca hst hrun fun K1 C1 a1 w1 h1 => ?_
            have hc1 : C1[i]? = some (.obj l) := h1.cin i _ hi
            -- the round begins
            have hbeg : ∃ w2, (Instr.beginRound l).run P w1 = .ok () w2 ∧ Em.Rel P (RCode P) x K1 C1 ⟨σ1.tm, bx⟩ a1 w2 := by
              unfold beginL at hset
              split at hset
              · rename_i tm2 ps2 am2 bm2 hB2
                simp only [Option.some.injEq] at hset; subst hset
                obtain ⟨lp2, hl2, hs2, hp2, _⟩ := h1.setLoop (st' := .busy) (pend' := none) (jump := none) hB2 hc1 trivial
                obtain ⟨lp3, hl3, hs3, _, hr2⟩ := h1.setLoop (st' := .busy) (pend' := none) (jump := lp2.pending) hB2 hc1 hp2
                rw [hl2] at hl3
                simp only [Option.some.injEq, Obj.loop.injEq] at hl3
                subst hl3
                exact ⟨_, run_beginRound hl2 hs2, hr2⟩
              · simp at hset
            obtain ⟨w2, hb2, hr2⟩ := hbeg
            refine ⟨w2, hb2, ?_⟩
            have fin : ∀ (σ3 : St) (pend : Option Ex) (st : LoopState) (jump : Option Code), PendOk pend jump → (st = if jump.isNone then .ready else .done) → (setLoop σ3.bx i .busy st pend).bind (fun bx => pack inb.length (.v (.bool jump.isNone)) bx) = some (res, outb) →
                ∀ K3 C3 a3 w3, Em.Rel P (RCode P) x K3 C3 σ3 a3 w3 → ∃ v w', (Instr.endRound l jump).run P w3 = .ok v w' ∧ Post P (RCode P) K C inb w res outb (.returned v) w' := by
              intro σ3 pend st jump hj hst he K3 C3 a3 w3 h3
              obtain ⟨bx3, hset3, hpk⟩ := Option.bind_eq_some_iff.1 he
              obtain ⟨w4, hrun4, h4⟩ := endRound_sound h3 (h3.cin i _ hi) jump hj hst hset3
              obtain ⟨E, hE⟩ := pack_sound (σ := ⟨σ3.tm, bx3⟩) h4 rfl hlenC hloop (y := .v (.bool jump.isNone)) (.v rfl) hpk
              exact ⟨_, w4, hrun4, _, K3, E, rfl, hE⟩
            split at e
            · simp at e
            · rename_i σ3 hrun3
              rw [← hlenC] at hrun3
              exact run_sound (x := x) hΓ lp.body hcb hr2 hrun3 fun K3 C3 a3 w3 h3 => fin σ3 none .ready none trivial rfl e K3 C3 a3 w3 h3
            · rename_i ex σ3 hne hrun3
              rw [← hlenC] at hrun3
              refine run_sound (x := x) hΓ lp.body hcb hr2 hrun3 fun K3 C3 a3 w3 h3 => ?_
              cases ex with
              | norm => exact absurd rfl hne
              | ret => exact fin σ3 (some .ret) .done (some .ret) trivial rfl e K3 C3 a3 w3 h3
              | exit k => exact fin σ3 (some (.exit k)) .done (some (.exit k)) rfl rfl e K3 C3 a3 w3 h3
        · simp at e
    · simp at e
  · simp at e

/-- The functions of a table are those of the program, translated. -/
def TabOk (P : Program) (T : FuncId → Option Fun) : Prop := ∀ f fd, T f = some fd → ∃ A, trFun P A f = some fd
/-- What is said of the functions that are not walked. -/
def ExtOk (P : Program) (ext : Ext) : Prop := ∀ f g, ext f = some g → ∀ args inb res outb, g args inb = some (res, outb) → FnOk P f ∧ FSem P (RCode P) f args inb res outb

theorem callF_ok {T : FuncId → Option Fun} {ext : Ext} (hT : TabOk P T) (hE : ExtOk P ext) : ∀ n, GamOk P (RCode P) (callF T ext n)
  | 0 => ⟨fun f args inb res outb e => by simp [callF] at e, fun args inb res outb e => by simp [callF] at e⟩
  | n + 1 => by
    have ih := callF_ok hT hE n
    refine ⟨fun f args inb res outb e => ?_, fun args inb res outb e => ?_⟩
    · simp only [callF] at e
      split at e
      · rename_i g hg
        exact hE f g hg args inb res outb e
      · split at e
        · rename_i fd hfd
          obtain ⟨A, hA⟩ := hT f fd hfd
          exact runF_sound ih hA e
        · simp at e
    · simp only [callF] at e
      exact runY_sound ih e

end Go.Em
