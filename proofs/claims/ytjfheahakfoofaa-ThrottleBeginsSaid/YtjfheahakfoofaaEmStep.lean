/- The abstract machine: one operation, whatever it is, is sound. -/
import Derived.Test.YtjfheahakfoofaaEmCallX
namespace Go.Em
variable {P : Program} {R : CodeRel} {x : Ctx} {K : Kn} {C : List CB} {σ : St} {a : Act} {w : World}
variable {o : Oper} {y : X} {bx : List Bx} {A : Ann} {Γ : Gam} {fp : FP}

/-- An operation, taken up at its end. -/
def Upon (P : Program) (R : CodeRel) (x : Ctx) (σ : St) (a : Act) (w : World) (o : Oper) (y : X) (bx : List Bx) : Prop :=
  ∀ (r : Option Nat) (next : Act → World → Prop) (Q : Exit → Act → World → Prop),
    (∀ (K' : Kn) (C' : List CB) (v : Value) (w' : World), Em.Rel P R x K' C' ⟨σ.tm, bx⟩ a w' → Rep K' C' y v → next (a.put o.dst v) w') → o.uponIn (Fr r) 0 P a next Q ((execOp a.eval o).run P w)

theorem OpOk.upon (h : OpOk P R x σ a w o y bx) : Upon P R x σ a w o y bx := by
  obtain ⟨K', C', nx, v, w', hrun, hd, hrel, hrep⟩ := h
  intro r next Q hn
  rw [hrun]
  rcases hd with rfl | ⟨rfl, rfl⟩
  · exact hn K' C' v w' hrel hrep
  · exact hn K' C' undef w' hrel hrep

theorem callsIn_fr {r : Option Nat} {n : Nat} {f : FuncId} {args : Array Value} {Q : Ending → World → Prop} (h : Calls P f args w Q) : CallsIn (Fr r) n P f args w Q :=
  (callsIn_wide (n := n)).2 h

theorem evalArgs (args : Array Operand) (a : Act) : (args.map a.eval).toList = args.toList.map a.eval := by simp

theorem dataL_rep {K2 : Kn} {raw : Bool} (hI : Inv P R K C σ.bx w) (hK : KLe K K2) {args ds : List X} {cargs : Array Value} (h : ArgsRep K C args cargs) (e : dataL σ.bx raw args = some ds)
    (hrow : (∀ (b o : Nat) (u : Value), Owns C σ.bx b o → w.cell? ⟨b, o, none⟩ = some u → K2 b o = some u) ∨ rowsL args = []) : ArgsRep K2 C ds cargs := by
  obtain ⟨h1, h2⟩ := dataL_get e
  refine ⟨by rw [h.1, h1], fun j z v ez ev => ?_⟩
  have hj := (List.getElem?_eq_some_iff.1 ez).1
  obtain ⟨z', e1, e2⟩ := h2 j args[j] (List.getElem?_eq_getElem (by omega))
  rw [ez] at e1; cases e1
  refine (h.2 j _ v (List.getElem?_eq_getElem (by omega)) ev).data hI hK (hrow.imp_right fun hn => ?_) e2
  refine List.eq_nil_iff_forall_not_mem.2 fun i hi => ?_
  have : i ∈ rowsL args := mem_rowsL.2 ⟨args[j], List.getElem_mem _, hi⟩
  rw [hn] at this; simp at this

theorem argsRep_append {as cs : List X} {va vc : Array Value} (h : ArgsRep K C as va) (h' : ArgsRep K C cs vc) : ArgsRep K C (as ++ cs) (va ++ vc) := by
  refine ⟨by simp [h.1, h'.1], fun j z v e e' => ?_⟩
  by_cases hj : j < as.length
  · rw [List.getElem?_append_left hj] at e
    rw [Array.getElem?_append_left (by rw [h.1]; exact hj)] at e'
    exact h.2 j z v e e'
  · rw [List.getElem?_append_right (by omega)] at e
    rw [Array.getElem?_append_right (by rw [h.1]; omega), h.1] at e'
    exact h'.2 _ z v e e'

theorem op_call {f : Operand} {args : Array Operand} {tys : Array TypeId} {t1 : TypeId} {f' : Opd} {ts : List TypeId} {qs : List Opd} {own ref raw : Bool} {yf : X} {ys : List X} (hΓ : GamOk P R Γ) (h : Rel P R x K C σ a w) (ho : o.op = .call ⟨.value f, args, tys⟩) (hf : trOpd P t1 f = some f')
    (hq : trOpds P ts args.toList = some qs) (ef : σ.ev f' = some yf) (eq : evs σ qs = some ys) (e : callX Γ own ref raw yf ys σ.bx = some (y, bx, fp)) : Upon P R x σ a w o y bx := by
  have rf := ev_rep h.tm hf ef
  obtain ⟨q1, q2⟩ := evs_rep h.tm hq eq
  have hargs : ArgsRep K C ys (args.map a.eval) := ⟨by simp [q1], fun j z v e e' => q2 j z v e (by rw [← evalArgs, Array.getElem?_toList]; exact e')⟩
  have enter : ∀ (g : FuncId) (all : Array Value) (Q' : Ending → World → Prop), (execOp a.eval o).run P w = (callFunc g all).run P w → FnOk P g → Calls P g all w Q' → (∀ e w', Q' e w' → ∃ (v : Value) (K' : Kn) (C' : List CB), e = .returned v ∧ Em.Rel P R x K' C' ⟨σ.tm, bx⟩ a w' ∧ Rep K' C' y v) → Upon P R x σ a w o y bx := by
    intro g all Q' hrun hok hc hQ r next Q hn
    rw [hrun, hok all w]
    rw [Oper.uponIn_enter]
    refine ⟨fun hd => by simp [Fr, Fence.wide] at hd, callsIn_fr (hc.mono fun e w' hq => ?_)⟩
    obtain ⟨v, K', C', rfl, hr, hp⟩ := hQ e w' hq
    exact hn K' C' v w' hr hp
  generalize hvf : a.eval f = vf at rf
  unfold callX at e
  split at e
  · simp at e
  · rename_i as hconv
    split at e
    · -- a function
      rename_i g caps
      cases rf with
      | fn hs hr =>
        rename_i vs
        have hcaps : ArgsRep K C caps vs := ⟨hs, hr⟩
        have hrun : (execOp a.eval o).run P w = (callFunc g (args.map a.eval ++ vs)).run P w := by
          simp [execOp, ho, resolve, Deferred.ofValue, hvf, invoke]
        split at e
        · rename_i hc
          simp only [Bool.and_eq_true, Bool.not_eq_true'] at hc
          obtain ⟨⟨hc1, hc2⟩, hc3⟩ := hc
          rw [hc2] at hconv
          simp only [Bool.false_eq_true, if_false] at hconv
          split at e
          · simp at e
          · rename_i z hz
            split at e
            · rename_i hcond
              simp only [Bool.and_eq_true] at hcond
              simp only [Option.some.injEq, Prod.mk.injEq] at e
              obtain ⟨rfl, rfl, _⟩ := e
              by_cases hrows : rowsL ys = []
              · have hA := argsRep_append (dataL_rep h.inv (KLe.refl K) hargs hconv (.inr hrows)) hcaps
                obtain ⟨hok, hcalls⟩ := pureD_sound hΓ h hA hc3 hz hcond.1
                exact enter g _ _ hrun hok hcalls fun e w' hq => hq.step
              · have hpl : z.plain = true := by
                  rcases Bool.or_eq_true _ _ ▸ hcond.2 with h1 | h1
                  · exact absurd (List.isEmpty_iff.1 h1) hrows
                  · exact h1
                have hK : KLe K (seen w) := fun b o v e => h.inv.known b o v e
                have hA := argsRep_append (dataL_rep h.inv hK hargs hconv (.inl fun b o u _ hu => hu)) (⟨hcaps.1, fun j z v e e' => (hcaps.2 j z v e e').mono hK (CLe.refl _)⟩ : ArgsRep (seen w) C caps vs)
                obtain ⟨hok, hcalls⟩ := pureD_plain hΓ h hA hc3 hz hpl
                exact enter g _ _ hrun hok hcalls fun e w' hq => hq.step
            · simp at e
        · split at e
          · rename_i hcond
            have hA : ArgsRep K C as (args.map a.eval) := by
              cases hr' : ref with
              | true => rw [hr'] at hconv; simp at hconv; subst hconv; exact hargs
              | false =>
                rw [hr'] at hconv hcond
                simp only [Bool.false_eq_true, if_false] at hconv
                simp only [Bool.false_or] at hcond
                exact dataL_rep h.inv (KLe.refl K) hargs hconv (.inr (List.isEmpty_iff.1 hcond))
            split at e
            · simp at e
            · rename_i z bx' sel hz
              simp only [Option.some.injEq, Prod.mk.injEq] at e
              obtain ⟨rfl, rfl, _⟩ := e
              obtain ⟨hok, hcalls⟩ := callRef_fn hΓ h (argsRep_append hA hcaps) hz
              exact enter g _ _ hrun hok hcalls fun e w' hq => hq.step
          · simp at e
    · -- yield
      rename_i i
      cases rf with
      | yl hc =>
        rename_i l
        split at e
        · rename_i hcond
          have hA : ArgsRep K C as (args.map a.eval) := by
            cases hr' : ref with
            | true => rw [hr'] at hconv; simp at hconv; subst hconv; exact hargs
            | false =>
              rw [hr'] at hconv hcond
              simp only [Bool.false_eq_true, if_false] at hconv
              simp only [Bool.false_or] at hcond
              exact dataL_rep h.inv (KLe.refl K) hargs hconv (.inr (List.isEmpty_iff.1 hcond))
          split at e
          · simp at e
          · rename_i z bx' sel hz
            simp only [Option.some.injEq, Prod.mk.injEq] at e
            obtain ⟨rfl, rfl, _⟩ := e
            intro r next Q hn
            obtain ⟨f0, tmps, assign, body, hrun, hround⟩ := callRef_yl hΓ h hc hA hz r
            have hexec : (execOp a.eval o).run P w = .ok (.round l f0 tmps assign body) w := by
              simp [execOp, ho, resolve, Deferred.ofValue, hvf, invoke, hrun]
            rw [hexec, Oper.uponIn_round]
            refine ⟨fun hd => by simp [Fr, Fence.wide] at hd, hround.mono fun e w' hq => ?_⟩
            obtain ⟨v, K', C', rfl, hr, hp⟩ := hq.step
            exact hn K' C' v w' hr hp
        · simp at e
    · simp at e

end Go.Em
