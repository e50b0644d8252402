/- The abstract machine: functions and rounds are sound. -/
import Derived.Test.YtjfheahakfoofaaEmRun
namespace Go.Em
variable {P : Program} {R : CodeRel} {x : Ctx} {K : Kn} {C : List CB} {σ : St} {a : Act} {w : World}
variable {Γ : Gam}

/-! ### What comes back -/
theorem pack_sound {inb outb : List Bx} {y y' : X} {v : Value} (h : Rel P R x K C σ a w) (hF : x.Fp = Owns x.C0 inb) (hlen : x.C0.length = inb.length) (hloops : ∀ (i : Nat) (B : Bx), inb[i]? = some B → B.isLoop = true → x.loops i = true)
    (hy : Rep K C y v) (e : pack inb.length y σ.bx = some (y', outb)) : ∃ E, PostK P R x.K0 x.C0 inb x.w0 y' outb v w K E := by
  unfold pack at e
  dsimp only at e
  split at e
  · rename_i hc
    simp only [Bool.and_eq_true, beq_iff_eq] at hc
    obtain ⟨bx, hbx, e1⟩ := map_some e
    simp only [Prod.mk.injEq] at e1
    obtain ⟨rfl, rfl⟩ := e1
    have h0 := h.tms (tm := []) (fun n z hz => by simp [lk] at hz)
    obtain ⟨C1, h1, hl1, h2⟩ := h0.pickAll (bx := bx) hbx (by rw [hlen]; exact hc.2) (fun i hi => by simp [refsL] at hi)
    have hle := c0_le h1
    have hC : C1 = x.C0 ++ C1.drop x.C0.length := by
      refine List.ext_getElem? fun i => ?_
      by_cases hi : i < x.C0.length
      · rw [List.getElem?_append_left hi, List.getElem?_eq_getElem hi]
        exact h1.cin i _ (List.getElem?_eq_getElem hi)
      · rw [List.getElem?_append_right (by omega), List.getElem?_drop]; congr 1; omega
    refine ⟨C1.drop x.C0.length, ?_⟩
    refine ⟨by rw [← hC]; exact h1.inv, by rw [← hC]; exact h2 y v (subN_iff.1 hc.1) hy, h1.k0, fun b o u eu => ?_, fun b o ho => ?_, ?_, fun i B hB hl => ?_⟩
    · have := h1.knew b o u eu; rw [hF] at this; exact this
    · rw [← hC] at ho
      have := h1.own b o ho; rw [hF] at this; exact this
    · have := h1.frame; rw [hF] at this; exact this
    · exact h1.loops i (by rw [hlen]; exact (List.getElem?_eq_some_iff.1 hB).1) (hloops i B hB hl)
  · simp at e

/-! ### Results -/
theorem resX_run (h : Rel P R x K C σ a w) (f : ResultVar → Sem Value) (h1 : ∀ t, f (.tmp t) = pure (a.tmps.getD t undef)) (h2 : ∀ t ty, f (.cell t ty) = (do loadVar ty (← asAddr (a.tmps.getD t undef)))) :
    ∀ (l : List ResultVar) {rs : List Rv} {xs : List X}, trRes P l = some rs → resX σ rs = some xs → ∃ vs : List Value, (l.mapM f).run P w = .ok vs w ∧ vs.length = xs.length ∧ ∀ (j : Nat) (y : X) (v : Value), xs[j]? = some y → vs[j]? = some v → Rep K C y v
  | [], rs, xs, e1, e2 => by
    simp only [trRes, Option.some.injEq] at e1; subst e1
    simp only [resX, Option.some.injEq] at e2; subst e2
    exact ⟨[], by simp, rfl, fun j y v e => by simp at e⟩
  | .tmp t :: r, rs, xs, e1, e2 => by
    simp only [trRes] at e1
    obtain ⟨rs', hrs, rfl⟩ := map_some e1
    simp only [resX] at e2
    split at e2
    · simp at e2
    · rename_i y hy
      obtain ⟨xs', hxs, rfl⟩ := map_some e2
      obtain ⟨vs, g1, g2, g3⟩ := resX_run h f h1 h2 r hrs hxs
      obtain ⟨v, hv, hr⟩ := h.tm t y hy
      have hd : a.tmps.getD t undef = v := by simp [hv]
      refine ⟨v :: vs, ?_, by simp [g2], fun j z u ez eu => ?_⟩
      · simp [List.mapM_cons, h1, g1, hd, Result.andThen]
      · cases j with
        | zero => simp at ez eu; subst ez; subst eu; exact hr
        | succ j => simp at ez eu; exact g3 j z u ez eu
  | .cell t ty :: r, rs, xs, e1, e2 => by
    simp only [trRes] at e1
    split at e1
    · rename_i n rs' hn hrs
      simp only [Option.some.injEq] at e1; subst e1
      simp only [resX] at e2
      split at e2
      · simp at e2
      · rename_i y hy
        obtain ⟨xs', hxs, rfl⟩ := map_some e2
        obtain ⟨vs, g1, g2, g3⟩ := resX_run h f h1 h2 r hrs hxs
        obtain ⟨p, hp, hl⟩ := Option.bind_eq_some_iff.1 hy
        obtain ⟨pv, hpv, hr⟩ := h.tm t p hp
        obtain ⟨b, o, v, rfl, hload, hrv⟩ := loadX_rep h.inv hn hr hl
        have hd : a.tmps.getD t undef = .pointer (some ⟨b, o, none⟩) := by simp [hpv]
        refine ⟨v :: vs, ?_, by simp [g2], fun j z u ez eu => ?_⟩
        · simp [List.mapM_cons, h2, Sem.run_bind, g1, hd, Result.andThen, asAddr, hload]
        · cases j with
          | zero => simp at ez eu; subst ez; subst eu; exact hrv
          | succ j => simp at ez eu; exact g3 j z u ez eu
    · simp at e1

def resF (tmps : Array Value) : ResultVar → Sem Value
  | .tmp t => pure (tmps.getD t undef)
  | .cell b t => do loadVar t (← asAddr (tmps.getD b undef))

theorem results_eq (fn : Func) (tmps : Array Value) : results fn tmps = (do let vs ← fn.results.mapM (resF tmps); pure (if h : vs.size = 1 then vs[0] else .tuple vs)) := by
  unfold results
  have : (fun v : ResultVar => resF tmps v) = resF tmps := rfl
  rw [← this]
  congr 2

theorem results_rep (h : Rel P R x K C σ a w) {fn : Func} {rs : List Rv} {xs : List X} (htr : trRes P fn.results.toList = some rs) (hx : resX σ rs = some xs) : ∃ v, (results fn a.tmps).run P w = .ok v w ∧ Rep K C (packRes xs) v := by
  obtain ⟨vs, h1, h2, h3⟩ := resX_run h (resF a.tmps) (fun _ => rfl) (fun _ _ => rfl) _ htr hx
  have hrun : (results fn a.tmps).run P w = .ok (if h : vs.toArray.size = 1 then vs.toArray[0] else .tuple vs.toArray) w := by
    rw [results_eq, Array.mapM_eq_mapM_toList]
    simp only [map_eq_pure_bind, Sem.run_bind]
    rw [h1]
    simp [Result.andThen]
  refine ⟨_, hrun, ?_⟩
  by_cases hl : xs.length = 1
  · obtain ⟨y, rfl⟩ := List.length_eq_one_iff.1 hl
    obtain ⟨v, rfl⟩ := List.length_eq_one_iff.1 (h2.trans hl)
    simp only [List.size_toArray, List.length_singleton, dif_pos, packRes]
    exact h3 0 y v rfl rfl
  · have hs : ¬ vs.toArray.size = 1 := by simpa [h2] using hl
    rw [dif_neg hs]
    have hp : packRes xs = .tup xs := by
      unfold packRes
      split
      · simp at hl
      · rfl
    rw [hp]
    exact .tup (by simp [h2]) fun j y v e e' => h3 j y v e (by simpa using e')

/-! ### The way out -/
theorem leaves_sound {fn : Func} {tmps : Array Value} {Rp : Ending → World → Prop} : ∀ (rs : List Nat) (w : World), (∀ r, r ∈ rs → w.heap[r]? = some (.deferred (some []))) → rs.Nodup →
    (∀ w', FrameOk (fun b _ => b ∈ rs) w w' → ∃ v, (results fn tmps).run P w' = .ok v w' ∧ Rp (.returned v) w') → LeavesInM (Fr none) 0 P fn tmps Rp (rs.map mark) .returning w
  | [], w, _, _, h => by
    obtain ⟨v, h1, h2⟩ := h w (.refl _ w)
    exact ⟨v, h1, h2⟩
  | r :: rs, w, hm, hn, h => by
    rw [List.nodup_cons] at hn
    have hr := hm r (by simp)
    refine ⟨by simp, .inl ⟨r, w.putObj r (.deferred none), rfl, run_takeDeferred hr, ?_⟩⟩
    refine leaves_sound rs _ (fun k hk => ?_) hn.2 (fun w' hf => h w' ?_)
    · rw [World.putObj_heap_other (fun e => by subst e; exact hn.1 hk)]; exact hm k (by simp [hk])
    · have h1 : FrameOk (fun b _ => b ∈ r :: rs) w (w.putObj r (.deferred none)) := putObj_frame hr trivial trivial (fun _ => by simp)
      exact h1.trans hf (fun b o _ hb => by simp [hb])

theorem Rel.unmark (h : Rel P R x K C σ a w) {rs : List Nat} (hm : ∀ r, r ∈ rs → w.heap[r]? = some (.deferred (some [])) ∧ x.w0.heap.size ≤ r ∧ ∀ o, ¬ Owns C σ.bx r o) {w' : World} (hf : FrameOk (fun b _ => b ∈ rs) w w') :
    Rel P R x K C σ { a with defers := [] } w' := by
  refine { h with inv := h.inv.frame hf (fun b o v e hb => ?_) (fun b o ho hb => (hm b hb).2.2 o ho), tm := h.tm, nt := h.nt, frame := h.frame.trans hf (fun b o hlt hb => ?_), defs := ⟨⟨[], rfl, List.nodup_nil, fun r hr => by simp at hr⟩, fun _ => rfl⟩ }
  · have := h.inv.known b o v e
    simp [World.cell?, (hm b hb).1] at this
  · have := (hm b hb).2.1; omega

theorem lk_zipTm : ∀ (xs : List X) (n k : Nat), lk (zipTm n xs) k = if n ≤ k then xs[k - n]? else none
  | [], n, k => by simp [zipTm, lk]
  | z :: r, n, k => by
    simp only [zipTm, lk, lk_zipTm r (n + 1) k]
    by_cases h : n = k
    · subst h; simp
    · have : (n == k) = false := by simpa using h
      rw [this]
      by_cases h2 : n + 1 ≤ k
      · rw [if_pos h2, if_pos (show n ≤ k by omega)]
        obtain ⟨d, rfl⟩ : ∃ d, k = n + 1 + d := ⟨k - (n + 1), by omega⟩
        rw [show n + 1 + d - (n + 1) = d by omega, show n + 1 + d - n = d + 1 by omega]
        simp
      · rw [if_neg h2, if_neg (show ¬ n ≤ k by omega)]; rfl

def isLoopAt (inb : List Bx) (i : Nat) : Bool := match inb[i]? with | some B => B.isLoop | none => false

theorem isLoopAt_iff {inb : List Bx} {i : Nat} {B : Bx} (h : inb[i]? = some B) : isLoopAt inb i = B.isLoop := by simp [isLoopAt, h]

theorem fnOk {f : FuncId} {fn : Func} (hf : P.funcs[f]? = some fn) (hn : ¬ fn.name = "runtime.NumGoroutine") (hb : ¬ fn.body = none) : FnOk P f := by
  intro args w
  simp [callFunc, program, Sem.run, hf, hn, hb]

theorem runF_sound (hΓ : GamOk P (RCode P) Γ) {f : FuncId} {fd : Fun} {A : Ann} {fu : Nat} {args : List X} {inb outb : List Bx} {res : X} (htr : trFun P A f = some fd) (e : runF Γ fu fd args inb = some (res, outb)) :
    FnOk P f ∧ FSem P (RCode P) f args inb res outb := by
  unfold trFun at htr
  split at htr
  · simp at htr
  · rename_i fn hfn
    split at htr
    · simp at htr
    · rename_i hname
      split at htr
      · rename_i m rs hm hrs
        split at htr
        · rename_i hle
          simp only [Option.some.injEq] at htr; subst htr
          obtain ⟨c, hb, hc⟩ := Option.bind_eq_some_iff.1 hm
          refine ⟨fnOk hfn (by simpa using hname) (by simp [hb]), ?_⟩
          intro K C w cargs hI hargs
          unfold runF at e
          split at e
          · rename_i hlen
            simp only [beq_iff_eq] at hlen
            have hsize : cargs.size ≤ fn.ntmps := by rw [hargs.1, hlen]; exact hle
            let x : Ctx := { nt := fn.ntmps, K0 := K, C0 := C, loops := isLoopAt inb, w0 := w, Fp := Owns C inb, rnd := none }
            have hst : Rel P (RCode P) x K C ⟨zipTm 0 args, inb⟩ { tmps := cargs ++ Array.replicate (fn.ntmps - cargs.size) undef, defers := [] } w := by
              refine ⟨hI, fun n y ey => ?_, ?_, KLe.refl _, fun b o v ev => .inl ev, fun b o ho => .inl ho, fun i c hc => hc, .refl _ _, ⟨⟨[], rfl, List.nodup_nil, fun r hr => by simp at hr⟩, fun _ => rfl⟩, fun i hi hl => ?_, fun l hl => by cases hl⟩
              · rw [lk_zipTm] at ey
                simp only [Nat.zero_le, if_true, Nat.sub_zero] at ey
                have hn := (List.getElem?_eq_some_iff.1 ey).1
                have hn' : n < cargs.size := by rw [hargs.1]; exact hn
                refine ⟨cargs[n], ?_, hargs.2 n y _ ey (Array.getElem?_eq_getElem hn')⟩
                rw [Array.getElem?_append_left hn', Array.getElem?_eq_getElem hn']
              · simp [x]; omega
              · simp only [x, isLoopAt] at hl
                split at hl
                · rename_i B hB; exact ⟨B, hB, hl⟩
                · cases hl
            have hlenC : x.C0.length = inb.length := hI.size
            have fin : ∀ (σ' : St) (K' : Kn) (C' : List CB) (a' : Act) (w' : World), Em.Rel P (RCode P) x K' C' σ' a' w' → ((resX σ' rs).bind fun xs => pack inb.length (packRes xs) σ'.bx) = some (res, outb) →
                LeavesInM (Fr none) 0 P fn a'.tmps (Post P (RCode P) K C inb w res outb) a'.defers .returning w' := by
              intro σ' K' C' a' w' hr he
              obtain ⟨xs, hxs, hpk⟩ := Option.bind_eq_some_iff.1 he
              obtain ⟨ms, hms, hnd, hmk⟩ := hr.defs.marks
              rw [hms]
              refine leaves_sound ms w' (fun r hr => (hmk r hr).1) hnd fun w'' hf => ?_
              have hr2 := hr.unmark hmk hf
              obtain ⟨v, hv, hrep⟩ := results_rep hr2 hrs hxs
              obtain ⟨E, hE⟩ := pack_sound hr2 rfl hlenC (fun i B hB hl => by simp only [x, isLoopAt_iff hB, hl]) hrep hpk
              exact ⟨v, hv, v, K', E, rfl, hE⟩
            refine (callsIn_wide (n := 0)).1 (callsIn_of_wp_marks (F := Fr none) hfn hb trivial ?_)
            split at e
            · rename_i σ' hrun
              rw [← hlenC] at hrun
              exact run_sound (x := x) hΓ c hc hst hrun fun K' C' a' w' hr => fin σ' K' C' a' w' hr e
            · rename_i σ' hrun
              rw [← hlenC] at hrun
              exact run_sound (x := x) hΓ c hc hst hrun fun K' C' a' w' hr => fin σ' K' C' a' w' hr e
            · simp at e
          · simp at e
        · simp at htr
      · simp at htr

end Go.Em
