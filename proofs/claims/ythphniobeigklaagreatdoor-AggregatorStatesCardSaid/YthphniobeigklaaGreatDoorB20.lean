/- Counts: what a group holds behind a put and a removal; with no condition, no time, and room, a group is full at every k-th message. -/
import Derived.Test.YthphniobeigklaaGreatDoorB19
set_option linter.all false
namespace Go.Proofs.YthphniobeigklaaGreatDoor.Ag
open Go Go.Em Go.Proofs.YthphniobeigklaaGreatDoor
set_option maxRecDepth 100000

theorem getG_mem {gs : List Ga} (hs : SrtG gs) {x : Ga} (hx : x ∈ gs) {q : Int} (h : x.g = q) : getG q gs = x := by
  subst h
  exact (kn_mem hs hx).2
theorem getG_non {gs : List Ga} {q : Int} (h : ∀ y, y ∈ gs → y.g ≠ q) : getG q gs = ⟨q, 0, []⟩ := by
  rcases getG_cases q gs with ⟨_, hm, e⟩ | ⟨_, e⟩
  · exact absurd e (h _ hm)
  · exact e
theorem knG_non {gs : List Ga} (hs : SrtG gs) {q : Int} (hk : knG q gs = false) : ∀ y, y ∈ gs → y.g ≠ q := fun y hy e => by
  have h := (kn_mem hs hy).1
  rw [e, hk] at h
  cases h
theorem putG_self (x : Ga) (gs : List Ga) : x ∈ putG x gs := by
  rw [putG_eq]
  exact List.mem_append_left _ (List.mem_append_right _ (List.mem_singleton.2 rfl))
theorem putG_old {x y : Ga} {gs : List Ga} (hy : y ∈ gs) (hne : y.g ≠ x.g) : y ∈ putG x gs := by
  have h : y ∈ gs.take (lowG x.g gs) ++ (if knG x.g gs then [getG x.g gs] else []) ++ gs.drop (lowG x.g gs + kn1 x.g gs) := by
    rw [← split_at x.g gs]
    exact hy
  rw [putG_eq]
  rcases List.mem_append.1 h with h | h
  · rcases List.mem_append.1 h with h | h
    · exact List.mem_append_left _ (List.mem_append_left _ h)
    · split at h
      · rw [List.mem_singleton.1 h, getG_g] at hne
        exact absurd rfl hne
      · cases h
  · exact List.mem_append_right _ h
theorem getG_put {gs : List Ga} (hs : SrtG gs) (x : Ga) (q : Int) : getG q (putG x gs) = if q = x.g then x else getG q gs := by
  split
  · rename_i h
    exact getG_mem (putG_srt hs) (putG_self x gs) h.symm
  · rename_i h
    rcases getG_cases q gs with ⟨_, hm, e⟩ | ⟨hk, e⟩
    · exact getG_mem (putG_srt hs) (putG_old hm (fun h2 => h (by rw [← e, h2]))) e
    · rw [e]
      exact getG_non fun y hy e2 => by
        rcases putG_mem hy with rfl | hy
        · exact h e2.symm
        · exact knG_non hs hk y hy e2
theorem getG_del {gs : List Ga} (hs : SrtG gs) {p : Int} (hk : knG p gs = true) (q : Int) : getG q (delG p gs) = if q = p then ⟨q, 0, []⟩ else getG q gs := by
  rcases getG_cases p gs with ⟨_, hm, hg⟩ | ⟨hk2, _⟩
  · have hd : ∀ y, y ∈ delG p gs ↔ y ∈ gs ∧ y.g ≠ p := fun y => by
      have h := del_mem hs hm (y := y)
      rw [hg] at h
      exact h
    split
    · rename_i h
      subst h
      exact getG_non fun y hy => ((hd y).1 hy).2
    · rename_i h
      rcases getG_cases q gs with ⟨_, hm2, e⟩ | ⟨hk2, e⟩
      · exact getG_mem (delG_srt hs) ((hd _).2 ⟨hm2, by rw [e]; exact h⟩) e
      · rw [e]
        exact getG_non fun y hy => knG_non hs hk2 y ((hd y).1 hy).1
  · rw [hk] at hk2
    cases hk2
end Go.Proofs.YthphniobeigklaaGreatDoor.Ag

/- Each message has one fate, or waits; outputs and their members: the plain law. -/
namespace Go.Proofs.YthphniobeigklaaGreatDoor.Ag
open Go Go.Em Go.Proofs.YthphniobeigklaaGreatDoor
set_option maxRecDepth 100000

theorem lexC_zero : ∀ (p q : List Int), lexC ordI p q = 0 → p = q
  | [], [], _ => rfl
  | [], _ :: _, h => by simp [lexC] at h
  | _ :: _, [], h => by simp [lexC] at h
  | a :: la, b :: lb, h => by
    unfold lexC at h
    split at h
    · rename_i h1
      rw [ordI_zero h1, lexC_zero la lb h]
    · rename_i h1
      exact absurd h h1
theorem cmpS_zero {a b : Stp} (h : cmpS a b = 0) : a = b := by
  obtain ⟨e, p⟩ := a
  obtain ⟨e', p'⟩ := b
  unfold cmpS at h
  simp only [orL] at h
  split at h
  · rename_i h1
    split at h
    · rename_i h2
      rw [ordI_zero h1, lexC_zero p p' h2]
    · rename_i h2
      exact absurd h h2
  · rename_i h1
    exact absurd h h1
def eqS (a b : Stp) : Bool := cmpS a b == 0
theorem eqS_iff (a b : Stp) : eqS a b = true ↔ a = b := ⟨fun h => cmpS_zero (by simpa [eqS] using h), fun h => by subst h; simp [eqS, cmpS_refl]⟩
def inS (p : Nat) : Stp := ⟨(p : Int) + 1, [1]⟩
theorem eqS_in (a b : Nat) : eqS (inS a) (inS b) = (a == b) := by
  rw [Bool.eq_iff_iff, eqS_iff]
  simp only [inS, beq_iff_eq, Stp.mk.injEq, and_true]
  omega
/-! ### Counts of a place -/
def cM (p : Nat) (M : List (Nat × Nat)) : Nat := M.countP fun m => m.1 == p
def cF (p : Nat) (F : List Fte) : Nat := F.countP fun f => eqS f.st (inS p)
def cG (p : Nat) (gs : List Ga) : Nat := (gs.map fun x => cM p x.M).sum
theorem cF_map (p : Nat) (q : Int) (M : List (Nat × Nat)) (g : Msg → Fte) (hg : ∀ m, (g m).st = m.st) : cF p ((M.map (msV q)).map g) = cM p M := by
  unfold cF cM
  rw [List.countP_map, List.countP_map]
  congr 1
  funext m
  show eqS (g (msV q m)).st (inS p) = _
  rw [hg]
  exact eqS_in ..
theorem cF_mrg (p : Nat) (q : Int) (M : List (Nat × Nat)) (nm : ByteArray) (s : Stp) : cF p (mrgF (M.map (msV q)) nm s) = cM p M := cF_map p q M _ fun _ => rfl
theorem cF_rej (p : Nat) (q : Int) (M : List (Nat × Nat)) (r : ByteArray) : cF p (rejF (M.map (msV q)) r) = cM p M := cF_map p q M _ fun _ => rfl
theorem cF_app (p : Nat) (a b : List Fte) : cF p (a ++ b) = cF p a + cF p b := List.countP_append
theorem cM_app (p : Nat) (a b : List (Nat × Nat)) : cM p (a ++ b) = cM p a + cM p b := List.countP_append
theorem cM_one (p : Nat) (m : Nat × Nat) : cM p [m] = if m.1 = p then 1 else 0 := by simp [cM, List.countP_cons]
theorem cF_one (p : Nat) (q : Int) (m : Nat × Nat) (r : ByteArray) : cF p (rejF [msV q m] r) = if m.1 = p then 1 else 0 := by rw [← cM_one]; exact cF_rej p q [m] r
theorem cF_none (p : Nat) (m : Nat × Nat) (r : ByteArray) : cF p (rejF [msN m] r) = if m.1 = p then 1 else 0 := by
  have h : cF p (rejF [msN m] r) = cF p (rejF [msV 0 m] r) := rfl
  rw [h, cF_one]
theorem cG_app (p : Nat) (a b : List Ga) : cG p (a ++ b) = cG p a + cG p b := by simp [cG]
theorem cG_split (p : Nat) (g : Int) (gs : List Ga) : cG p gs = cG p (gs.take (lowG g gs)) + cG p (if knG g gs then [getG g gs] else []) + cG p (gs.drop (lowG g gs + kn1 g gs)) := by
  conv => lhs; rw [split_at g gs]
  rw [cG_app, cG_app]
theorem cG_one (p : Nat) (x : Ga) : cG p [x] = cM p x.M := by simp [cG]
theorem cG_put (p : Nat) (x : Ga) (gs : List Ga) : cG p (putG x gs) + cM p (getG x.g gs).M = cG p gs + cM p x.M := by
  have e := cG_split p x.g gs
  rw [putG_eq, cG_app, cG_app, e, cG_one]
  cases hk : knG x.g gs with
  | true =>
    simp only [if_true]
    rw [cG_one]
    omega
  | false =>
    rw [getG_new hk]
    simp only [Bool.false_eq_true, if_false]
    have h0 : cG p [] = 0 := rfl
    have h2 : cM p [] = 0 := rfl
    omega
theorem cG_del {p : Nat} {g : Int} {gs : List Ga} (hk : knG g gs = true) : cG p (delG g gs) + cM p (getG g gs).M = cG p gs := by
  have e := cG_split p g gs
  have k1 : kn1 g gs = 1 := by unfold kn1; rw [hk]; rfl
  rw [e, k1, hk]
  unfold delG
  rw [cG_app]
  simp only [if_true]
  rw [cG_one]
  omega
theorem wait_count (p : Nat) (gs : List Ga) : (waitG gs).countP (fun m => eqS m.st (inS p)) = cG p gs := by
  induction gs with
  | nil => rfl
  | cons x r ih =>
    have e : waitG (x :: r) = x.M.map (msV x.g) ++ waitG r := by simp [waitG]
    have e2 : cG p (x :: r) = cM p x.M + cG p r := by simp [cG]
    rw [e, List.countP_append, ih, e2, List.countP_map]
    congr 1
    unfold cM
    congr 1
    funext m
    exact eqS_in ..
theorem ck_cnt {g0 : List Ga} {most : Int} {s : Stp} {c : Rs} {x : Ga} (p : Nat) (h : CkI g0 c) (hx : x ∈ c.gs) : cG p (clk1 most s c x).gs + cF p (clk1 most s c x).F = cG p c.gs + cF p c.F := by
  obtain ⟨hk, hg⟩ := kn_mem h.srt hx
  have hd := cG_del (p := p) hk
  rw [hg] at hd
  unfold clk1
  split
  · dsimp only
    rw [cF_app, cF_mrg]
    omega
  · dsimp only
    rw [cF_app, cF_rej]
    omega
theorem clk_cnt {g0 : List Ga} {most : Int} {s : Stp} (p : Nat) : ∀ (E : List Ga) (c : Rs), CkI g0 c → (∀ x, x ∈ E → x ∈ c.gs ∧ x.M ≠ []) → (E.Pairwise fun a b => a.g ≠ b.g) →
    cG p (E.foldl (clk1 most s) c).gs + cF p (E.foldl (clk1 most s) c).F = cG p c.gs + cF p c.F
  | [], c, _, _, _ => rfl
  | x :: E, c, h, hx, hp => by
    obtain ⟨hx1, hxE⟩ := hx x List.mem_cons_self
    have hp2 := List.pairwise_cons.1 hp
    have h1 := clk1_I (most := most) (s := s) h hx1 hxE
    have ih := clk_cnt (most := most) (s := s) p E (clk1 most s c x) h1 (fun y hy => by
      have hy2 := hx y (List.mem_cons_of_mem _ hy)
      refine ⟨?_, hy2.2⟩
      rw [clk1_gs]
      exact (del_mem h.srt hx1).2 ⟨hy2.1, fun e => hp2.1 y hy e.symm⟩) hp2.2
    rw [List.foldl_cons, ih]
    exact ck_cnt p h hx1
def inC (p : Nat) (x : Iv) : Nat := match x.v with
  | .c => 0
  | .m _ _ => if x.i = p then 1 else 0
theorem stp_cnt (p : Nat) {P : Pr} {gs : List Ga} {x : Iv} (h : GsI gs x.i) : cG p (stpI P gs x).gs + cF p (stpI P gs x).F = cG p gs + inC p x := by
  obtain ⟨i, now, v⟩ := x
  dsimp only at h
  unfold stpI inC
  cases v with
  | c =>
    dsimp only
    have h2 := clk_cnt (most := P.most) (s := clS i) (g0 := gs) p (exG now gs) ⟨gs, [], [], []⟩ ⟨h.srt, fun x hx => hx, Nat.le_refl _, rfl, Nat.le_refl 0, Nat.le_refl 0⟩ (fun x hx => ⟨(exG_mem x hx).1, h.ne x (exG_mem x hx).1⟩) (exG_ne h.srt)
    have h0 : cF p ([] : List Fte) = 0 := rfl
    unfold clkR
    rw [h2]
    dsimp only
    omega
  | m o n =>
    cases o with
    | none =>
      show cG p gs + cF p (rejF [msN (i, n)] (errT 49 57)) = cG p gs + if i = p then 1 else 0
      rw [cF_none]
    | some q =>
      dsimp only
      have hrej : ∀ r, cG p gs + cF p (rejF [msV q (i, n)] r) = cG p gs + if i = p then 1 else 0 := fun r => by rw [cF_one]
      have hadd : cM p (addM gs q (i, n)) = cM p (getG q gs).M + if i = p then 1 else 0 := by
        unfold addM
        rw [cM_app, cM_one]
      have hput := cG_put p ⟨q, if knG q gs = true then (getG q gs).t else tNew P.ti now, addM gs q (i, n)⟩ gs
      unfold stpM
      split
      · exact hrej _
      · split
        · exact hrej _
        · split
          · have hgs : cG p (if knG q gs = true then delG q gs else gs) + cM p (getG q gs).M = cG p gs := by
              rcases getG_cases q gs with ⟨hk, _, _⟩ | ⟨hk, e⟩
              · rw [hk, if_pos rfl]
                exact cG_del hk
              · rw [hk, if_neg (by simp), e]
                rfl
            unfold finR
            split
            · dsimp only
              rw [cF_mrg]
              omega
            · dsimp only
              rw [cF_rej]
              omega
          · dsimp only at hput ⊢
            have h0 : cF p ([] : List Fte) = 0 := rfl
            omega
def totF (p : Nat) (l : List Rs) : Nat := (l.map fun r => cF p r.F).sum
theorem tot_cnt (p : Nat) {P : Pr} (hP : P.ok) : ∀ (xs : List Iv) (gs : List Ga) (k : Nat), GsI gs k → IvsOk xs → (∀ x, x ∈ xs → k ≤ x.i) → totF p (rnL (stpI P) gs xs) + cG p (stL (stpI P) gs xs) = cG p gs + (xs.map (inC p)).sum
  | [], gs, k, h, _, _ => by simp [totF, rnL, stL]
  | x :: r, gs, k, h, hx, hk => by
    have hx0 := hx.ok x List.mem_cons_self
    have hk0 := hk x List.mem_cons_self
    have h0 := h.mono hk0
    have hs := stpI_ok hP h0 hx0
    have hp := List.pairwise_cons.1 hx.inc
    have ih := tot_cnt p hP r (stpI P gs x).gs (x.i + 1) hs.I ⟨fun y hy => hx.ok y (List.mem_cons_of_mem _ hy), hp.2⟩ (fun y hy => hp.1 y hy)
    have h1 := stp_cnt p (P := P) h0
    have e1 : totF p (rnL (stpI P) gs (x :: r)) = cF p (stpI P gs x).F + totF p (rnL (stpI P) (stpI P gs x).gs r) := by simp [totF, rnL]
    have e2 : stL (stpI P) gs (x :: r) = stL (stpI P) (stpI P gs x).gs r := rfl
    rw [e1, e2, List.map_cons, List.sum_cons]
    omega
theorem inC_lt (p : Nat) : ∀ (xs : List Iv), (∀ x, x ∈ xs → p < x.i) → (xs.map (inC p)).sum = 0
  | [], _ => rfl
  | x :: r, h => by
    have h1 := h x List.mem_cons_self
    have h2 : inC p x = 0 := by
      unfold inC
      split
      · rfl
      · exact if_neg (by omega)
    rw [List.map_cons, List.sum_cons, h2, inC_lt p r fun y hy => h y (List.mem_cons_of_mem _ hy)]
/-! ### Members -/
def selP (s : Stp) (f : Fte) : Bool := f.kind == 2 && (match f.into with
  | [a] => eqS a s
  | _ => false)
def selF (s : Stp) : List Fte → List Int
  | [] => []
  | f :: r => if selP s f then f.st.e :: selF s r else selF s r
theorem undS_inj {t : Stp} {a b : Nat} (h : undS t a = undS t b) : a = b := by
  have h1 := congrArg Stp.p h
  have h2 : t.p ++ [(a : Int)] = t.p ++ [(b : Int)] := h1
  have h3 := List.append_cancel_left h2
  have h4 : (a : Int) = b := by simpa using h3
  omega
/-- Fates as the code writes them. -/
def FteK (f : Fte) : Prop := (f.kind = 4 ∧ f.into = []) ∨ (f.kind = 2 ∧ ∃ a, f.into = [a])
structure OutI (t : Stp) (O : List Otp) (F : List Fte) : Prop where
  out : ∀ k (h : k < O.length), O[k].m.st = undS t k ∧ selF (undS t k) F = O[k].m.orig
  fat : ∀ f, f ∈ F → f.kind = 2 → ∃ k, k < O.length ∧ f.into = [undS t k]
  knd : ∀ f, f ∈ F → FteK f
  sts : ∀ f, f ∈ F → f.st.p.length ≤ 5
theorem OutI.nil (t : Stp) : OutI t [] [] := ⟨(fun _ h => nomatch h), (fun _ h => nomatch h), (fun _ h => nomatch h), (fun _ h => nomatch h)⟩
theorem OutI.none {t : Stp} {O : List Otp} {F : List Fte} (h : OutI t O F) : selF (undS t O.length) F = [] := by
  have : ∀ l : List Fte, (∀ f, f ∈ l → f ∈ F) → selF (undS t O.length) l = [] := by
    intro l
    induction l with
    | nil => intro _; rfl
    | cons f r ih =>
      intro hl
      have h1 : selP (undS t O.length) f = false := by
        have hf := hl f List.mem_cons_self
        rcases h.knd f hf with ⟨h2, _⟩ | ⟨h2, _⟩
        · simp [selP, h2]
        · obtain ⟨k, hk, h3⟩ := h.fat f hf h2
          have h4 : eqS (undS t k) (undS t O.length) = false := by
            cases h5 : eqS (undS t k) (undS t O.length) with
            | false => rfl
            | true =>
              have := undS_inj ((eqS_iff _ _).1 h5)
              omega
          simp [selP, h3, h4]
      show (if selP (undS t O.length) f then _ else selF (undS t O.length) r) = []
      rw [if_neg (by simp [h1])]
      exact ih fun g hg => hl g (List.mem_cons_of_mem _ hg)
  exact this F fun f hf => hf
end Go.Proofs.YthphniobeigklaaGreatDoor.Ag
