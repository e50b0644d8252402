/- The abstract machine: a region, in whatever order it is taken. -/
import Derived.Test.YtjfheahakfoofaaEmSwap
namespace Go.Em
variable {P : Program} {R : CodeRel} {x : Ctx} {K : Kn} {C : List CB} {σ : St} {a : Act} {w : World}
variable {A : Ann} {Γ : Gam}

theorem trOpers_get {nt : Nat} {ops : Array Oper} : ∀ {m : List Oper} {l : List Ins}, trOpers P A nt ops m = some l → l.length = m.length ∧ ∀ (j : Nat) (i : Ins), l[j]? = some i → ∃ o, m[j]? = some o ∧ trOper P A nt ops o = some i
  | [], l, e => by simp only [trOpers, Option.some.injEq] at e; subst e; exact ⟨rfl, fun j i h => by simp at h⟩
  | o :: m, l, e => by
    simp only [trOpers] at e
    split at e
    · simp at e
    · rename_i i hi
      obtain ⟨q, hq, rfl⟩ := map_some e
      obtain ⟨h1, h2⟩ := trOpers_get hq
      refine ⟨by simp [h1], fun j k h => ?_⟩
      cases j with
      | zero => simp only [List.getElem?_cons_zero, Option.some.injEq] at h; subst h; exact ⟨o, rfl, hi⟩
      | succ j => simp only [List.getElem?_cons_succ] at h ⊢; exact h2 j k h

theorem trOp_defer {o : Oper} {i : I} (h : trOp P A o = some i) : ∀ c, o.op ≠ .defer c := by
  intro c e
  unfold trOp at h
  rw [e] at h
  simp at h

theorem trOper_spec {nt : Nat} {ops : Array Oper} {o : Oper} {i : Ins} (h : trOper P A nt ops o = some i) :
    i.dst = o.dst ∧ (∀ n, o.dst = some n → n < nt) ∧ trOp P A o = some i.op ∧
      ((o.guard = none ∧ i.g = none) ∨ ∃ j want s, o.guard = some (j, want) ∧ (ops[j]?).bind (·.dst) = some s ∧ i.g = some (s, want)) := by
  unfold trOper at h
  split at h
  · simp at h
  · rename_i hd
    have hd' : ∀ n, o.dst = some n → n < nt := by
      intro n e
      rw [e] at hd
      simpa [dstOk] using hd
    split at h
    · simp at h
    · rename_i op hop
      split at h
      · rename_i hg
        simp only [Option.some.injEq] at h; subst h
        exact ⟨rfl, hd', hop, .inl ⟨hg, rfl⟩⟩
      · rename_i j want hg
        split at h
        · rename_i s hs
          simp only [Option.some.injEq] at h; subst h
          exact ⟨rfl, hd', hop, .inr ⟨j, want, s, hg, hs, rfl⟩⟩
        · simp at h

theorem wpOps_one {r : Option Nat} {ops : Array Oper} {i : Nat} {L : List Nat} {Q : Exit → Act → World → Prop} {ins : Ins} {l : List Ins} {σ1 : St} {fp : FP} (hΓ : GamOk P R Γ) (h : Rel P R x K C σ a w)
    (hl : trOpers P A x.nt ops ops.toList = some l) (hi : l[i]? = some ins) (hs : step Γ ins σ = some (σ1, fp))
    (hn : ∀ K' C' a' w', Em.Rel P R x K' C' σ1 a' w' → wpOpsIn (Fr r) 0 P ops Q L a' w') : wpOpsIn (Fr r) 0 P ops Q (i :: L) a w := by
  obtain ⟨o, ho, ht⟩ := (trOpers_get hl).2 i ins hi
  obtain ⟨hd, hlt, hop, hg⟩ := trOper_spec ht
  have ho' : ops[i]? = some o := by simpa using ho
  have habout : ∀ f, o.about P w a.eval = some f → (Fr r).fn f := fun _ _ => trivial
  simp only [wpOpsIn, ho']
  have hgo : stepGo Γ ins σ = some (σ1, fp) → o.wpIn (Fr r) 0 P a w (wpOpsIn (Fr r) 0 P ops Q L) Q := by
    intro e
    unfold stepGo at e
    split at e
    · simp at e
    · rename_i y bx fp' hst
      simp only [Option.some.injEq, Prod.mk.injEq] at e
      obtain ⟨rfl, rfl⟩ := e
      refine ⟨habout, ?_⟩
      rw [Oper.semAt_eq _ _ _ (trOp_defer hop)]
      refine stepI_sound hΓ h hop hst r _ Q fun K' C' v w' hr hp => ?_
      have := hr.set hp o.dst hlt
      rw [← hd] at this ⊢
      exact hn K' C' _ w' this
  have hskip : stepSkip ins σ = some (σ1, fp) → wpOpsIn (Fr r) 0 P ops Q L (a.put o.dst undef) w := by
    intro e
    unfold stepSkip at e
    simp only [Option.some.injEq, Prod.mk.injEq] at e
    obtain ⟨rfl, rfl⟩ := e
    have := h.set (y := undefX) (v := undef) (.v rfl) o.dst hlt
    rw [← hd] at this ⊢
    exact hn K C _ w this
  unfold step at hs
  rcases hg with ⟨hg1, hg2⟩ | ⟨j, want, s, hg1, hg2, hg3⟩
  · rw [hg2] at hs
    simp only [Region.wanted, hg1, if_true]
    exact hgo hs
  · rw [hg3] at hs
    simp only [Region.wanted, hg1]
    dsimp only at hs
    split at hs
    · rename_i b hb
      obtain ⟨v, hv, hr⟩ := h.tm s _ hb
      have hv' := rep_v hr
      subst hv'
      have hy : yielded ops a.tmps j = some b := by simp [yielded, hg2, hv]
      rw [hy]
      by_cases hw : (b == want) = true
      · have e1 : (some b == some want) = true := by simpa using hw
        rw [if_pos hw] at hs
        simp only [e1, if_true]
        exact hgo hs
      · have e1 : ¬ (some b == some want) = true := by simpa using hw
        rw [if_neg hw] at hs
        rw [if_neg e1]
        exact ⟨habout, hskip hs⟩
    · rename_i t hb
      obtain ⟨v, hv, hr⟩ := h.tm s _ hb
      have hv' := rep_v hr
      subst hv'
      have hy : yielded ops a.tmps j = none := by simp [yielded, hg2, hv]
      rw [hy]
      have e1 : ¬ ((none : Option Bool) == some want) = true := by simp
      rw [if_neg e1]
      exact ⟨habout, hskip hs⟩
    · simp at hs

theorem runs_sound {r : Option Nat} {ops : Array Oper} {l : List Ins} {fps : List FP} {Q : Exit → Act → World → Prop} (hΓ : GamOk P R Γ) (hl : trOpers P A x.nt ops ops.toList = some l) {L : List Nat} {σ σ' : St} (hr : Runs Γ l fps L σ σ') :
    ∀ {K : Kn} {C : List CB} {a : Act} {w : World}, Rel P R x K C σ a w → (∀ K' C' a' w', Em.Rel P R x K' C' σ' a' w' → Q .normal a' w') → wpOpsIn (Fr r) 0 P ops Q L a w := by
  induction hr with
  | nil σ => intro K C a w h hn; exact hn K C a w h
  | cons h1 h2 h3 h4 ih =>
    intro K C a w h hn
    exact wpOps_one hΓ h hl h1 h3 fun K' C' a' w' h' => ih h' hn

theorem Rel.stEq {τ : St} (h : Rel P R x K C σ a w) (e : StEq σ τ) : Rel P R x K C τ a w := by
  obtain ⟨tm, bx⟩ := σ
  obtain ⟨tm', bx'⟩ := τ
  obtain ⟨h1, h2⟩ := e
  dsimp only at h1 h2
  subst h1
  exact h.tms fun n y hy => h.tm n y (by dsimp only; rw [h2]; exact hy)

theorem StEq.symm {σ τ : St} (h : StEq σ τ) : StEq τ σ := ⟨h.1.symm, fun n => (h.2 n).symm⟩

/-- A region that is taken as the text has it. -/
theorem region_text {r : Option Nat} {id : Nat} {ops : Array Oper} {l : List Ins} {fps : List FP} {Q : Exit → Act → World → Prop} {σ' : St} (hΓ : GamOk P R Γ) (h : Rel P R x K C σ a w) (hl : trOpers P A x.nt ops ops.toList = some l)
    (hs : steps Γ l σ = some (σ', fps)) (hn : ∀ K' C' a' w', Em.Rel P R x K' C' σ' a' w' → Q .normal a' w') : (Code.region id ops false).wpIn (Fr r) 0 P Q a w := by
  refine wpIn_region ?_
  have := runs_text hs
  rw [(trOpers_get hl).1, ← List.range_eq_range'] at this
  exact runs_sound hΓ hl (by simpa using this) h hn

/-- A region that draws its order. -/
theorem region_draw {r : Option Nat} {id : Nat} {ops : Array Oper} {l : List Ins} {fps : List FP} {ps : List (Nat × Nat)} {Q : Exit → Act → World → Prop} {σ' : St} (hΓ : GamOk P R Γ) (h : Rel P R x K C σ a w) (hl : trOpers P A x.nt ops ops.toList = some l)
    (hd : drawPairs ops l = some ps) (hs : steps Γ l σ = some (σ', fps)) (hp : pairsOk fps ps = true) (hn : ∀ K' C' a' w', Em.Rel P R x K' C' σ' a' w' → Q .normal a' w') : (Code.region id ops true).wpIn (Fr r) 0 P Q a w := by
  refine wpIn_region_draw fun t => ?_
  have he : edgesOk ops = true := by
    unfold drawPairs at hd
    dsimp only at hd
    split at hd
    · rename_i hc; rw [Bool.and_eq_true] at hc; exact hc.1
    · simp at hd
  obtain ⟨τ, h1, h2⟩ := runs_draw (by rw [(trOpers_get hl).1]; simp) hd hs hp (schedule_order he (P.follows .mixedOrders) t)
  exact runs_sound hΓ hl h1 (h.still (FrameOk.drew _ w)) fun K' C' a' w' hr => hn K' C' a' w' (hr.stEq h2.symm)

end Go.Em
