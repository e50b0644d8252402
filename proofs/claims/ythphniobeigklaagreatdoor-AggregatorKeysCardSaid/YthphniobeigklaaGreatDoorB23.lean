/- What becomes of one key does not hang on the others: the plain law. -/
import Derived.Test.YthphniobeigklaaGreatDoorB20
set_option linter.all false
namespace Go.Proofs.YthphniobeigklaaGreatDoor.Ag
open Go Go.Em Go.Proofs.YthphniobeigklaaGreatDoor
set_option maxRecDepth 100000

theorem knG_M {gs : List Ga} {i : Nat} (h : GsI gs i) (q : Int) : knG q gs = !(getG q gs).M.isEmpty := by
  rcases getG_cases q gs with ⟨hk, hm, _⟩ | ⟨hk, e⟩
  · rw [hk]
    have h1 := h.ne _ hm
    cases h2 : (getG q gs).M with
    | nil => exact absurd h2 h1
    | cons a r => rfl
  · rw [hk, e]
    rfl
/-- What the law compares of an output. -/
def sayM (m : Msg) : Int × Val × Int := (m.mass, m.body, m.st.e)
def isK (q : Int) (m : Msg) : Bool := match m.body with
  | .mk _ _ _ _ _ [_, (_, .mk _ k _ _ _ _), _] => k == q
  | _ => false
def keyO (q : Int) (O : List Otp) : List Msg := (O.map (·.m)).filter (isK q)
theorem isK_mrg (q p : Int) (M : List (Nat × Nat)) (s : Stp) : isK q (mrgM p M s) = (p == q) := rfl
theorem keyO_app (q : Int) (a b : List Otp) : keyO q (a ++ b) = keyO q a ++ keyO q b := by simp [keyO]
theorem keyO_one (q p : Int) (M : List (Nat × Nat)) (s : Stp) : keyO q [⟨0, mrgM p M s⟩] = if p = q then [mrgM p M s] else [] := by
  unfold keyO
  rw [List.map_cons, List.map_nil, List.filter_cons, isK_mrg]
  by_cases h : p = q
  · rw [if_pos h, if_pos (by simpa using h)]
    rfl
  · rw [if_neg h, if_neg (by simpa using h)]
    rfl
theorem filter_q (q : Int) {gs : List Ga} (hs : SrtG gs) : gs.filter (fun x => x.g == q) = if knG q gs then [getG q gs] else [] := by
  conv => lhs; rw [split_at q gs]
  rw [List.filter_append, List.filter_append]
  have h1 : (gs.take (lowG q gs)).filter (fun x => x.g == q) = [] := List.filter_eq_nil_iff.2 fun y hy => by
    have := take_lt q gs y hy
    simp only [beq_iff_eq]
    omega
  have h2 : (gs.drop (lowG q gs + kn1 q gs)).filter (fun x => x.g == q) = [] := List.filter_eq_nil_iff.2 fun y hy => by
    have := drop_gt hs y hy
    simp only [beq_iff_eq]
    omega
  rw [h1, h2, List.nil_append, List.append_nil]
  cases hk : knG q gs with
  | false => rfl
  | true =>
    rw [if_pos rfl, List.filter_cons, if_pos (by simp [getG_g])]
    rfl
/-- The group of a key, if its time has come. -/
def selG (q now : Int) (gs : List Ga) : List Ga := if knG q gs && expB now (getG q gs) then [getG q gs] else []
theorem exG_q (q now : Int) {gs : List Ga} (hs : SrtG gs) : (exG now gs).filter (fun x => x.g == q) = selG q now gs := by
  have h1 := (exG_perm now gs).filter (fun x => x.g == q)
  have h2 : (gs.filter (expB now)).filter (fun x => x.g == q) = selG q now gs := by
    rw [List.filter_filter]
    have h3 : gs.filter (fun a => (a.g == q) && expB now a) = (gs.filter (fun x => x.g == q)).filter (expB now) := by
      rw [List.filter_filter]
      congr 1
      funext a
      exact Bool.and_comm ..
    rw [h3, filter_q q hs]
    unfold selG
    cases knG q gs with
    | false => rfl
    | true =>
      rw [if_pos rfl, List.filter_cons, Bool.true_and]
      rfl
  rw [h2] at h1
  unfold selG at h1 ⊢
  split
  · rename_i h
    rw [if_pos h] at h1
    exact List.perm_singleton.1 h1
  · rename_i h
    rw [if_neg h] at h1
    exact List.perm_nil.1 h1
def sayG (most e : Int) (x : Ga) : List (Int × Val × Int) := if ((sumM x.M : Nat) : Int) ≤ most then [(massL (x.M.map (msV x.g)), resV (x.M.length : Nat) x.g (sumM x.M : Nat), e)] else []
theorem clk_say (q most : Int) (s : Stp) : ∀ (E : List Ga) (c : Rs), (keyO q (E.foldl (clk1 most s) c).O).map sayM = (keyO q c.O).map sayM ++ (E.filter (fun x => x.g == q)).flatMap (sayG most s.e)
  | [], c => by simp
  | x :: E, c => by
    rw [List.foldl_cons, clk_say q most s E]
    by_cases hq : x.g = q
    · have hf : (x :: E).filter (fun x => x.g == q) = x :: E.filter (fun x => x.g == q) := by rw [List.filter_cons, if_pos (by simpa using hq)]
      rw [hf, List.flatMap_cons, ← List.append_assoc]
      congr 1
      unfold clk1 sayG
      by_cases hm : ((sumM x.M : Nat) : Int) ≤ most
      · rw [if_pos hm, if_pos hm]
        dsimp only
        rw [keyO_app, keyO_one, if_pos hq, List.map_append]
        rfl
      · rw [if_neg hm, if_neg hm]
        dsimp only
        rw [List.append_nil]
    · have hf : (x :: E).filter (fun x => x.g == q) = E.filter (fun x => x.g == q) := by rw [List.filter_cons, if_neg (by simpa using hq)]
      rw [hf]
      congr 1
      unfold clk1
      by_cases hm : ((sumM x.M : Nat) : Int) ≤ most
      · rw [if_pos hm]
        dsimp only
        rw [keyO_app, keyO_one, if_neg hq, List.append_nil]
      · rw [if_neg hm]
theorem clk_get {gs : List Ga} {i : Nat} (h : GsI gs i) (most : Int) (k : Nat) (now q : Int) : getG q (clkR most k now gs).gs = if knG q gs && expB now (getG q gs) then ⟨q, 0, []⟩ else getG q gs := by
  obtain ⟨hc, hm⟩ := clkR_I h most k now
  have hf := exG_q q now h.srt
  unfold selG at hf
  split
  · rename_i hb
    rw [if_pos hb] at hf
    have hx : getG q gs ∈ exG now gs := by
      have : getG q gs ∈ (exG now gs).filter (fun x => x.g == q) := by rw [hf]; exact List.mem_singleton.2 rfl
      exact (List.mem_filter.1 this).1
    exact getG_non fun y hy => by
      have := ((hm y).1 hy).2 _ hx
      rw [getG_g] at this
      exact this
  · rename_i hb
    rw [if_neg hb] at hf
    have hx : ∀ x, x ∈ exG now gs → x.g ≠ q := fun x hx e => by
      have := List.filter_eq_nil_iff.1 hf x hx
      exact this (by simpa using e)
    rcases getG_cases q gs with ⟨_, hmem, hg⟩ | ⟨hk, e⟩
    · exact getG_mem hc.srt ((hm _).2 ⟨hmem, fun x hx2 => by rw [hg]; exact fun e => hx x hx2 e.symm⟩) hg
    · rw [e]
      exact getG_non fun y hy => knG_non h.srt hk y ((hm y).1 hy).1
/-- Two runs that agree on a key. -/
structure Same (q : Int) (gs gt : List Ga) : Prop where
  get : getG q gs = getG q gt
theorem same_clk {q now : Int} {gs gt : List Ga} {i j k : Nat} {P : Pr} (hs : GsI gs i) (ht : GsI gt j) (h : Same q gs gt) :
    Same q (stpI P gs ⟨k, now, .c⟩).gs (stpI P gt ⟨k, now, .c⟩).gs ∧ (keyO q (stpI P gs ⟨k, now, .c⟩).O).map sayM = (keyO q (stpI P gt ⟨k, now, .c⟩).O).map sayM := by
  have hk : knG q gs = knG q gt := by rw [knG_M hs, knG_M ht, h.get]
  refine ⟨⟨?_⟩, ?_⟩
  · show getG q (clkR P.most k now gs).gs = getG q (clkR P.most k now gt).gs
    rw [clk_get hs, clk_get ht, hk, h.get]
  · show (keyO q (clkR P.most k now gs).O).map sayM = (keyO q (clkR P.most k now gt).O).map sayM
    unfold clkR
    rw [clk_say, clk_say, exG_q q now hs.srt, exG_q q now ht.srt]
    unfold selG
    rw [hk, h.get]
theorem stpM_get {gs : List Ga} {i : Nat} (hs : GsI gs i) (P : Pr) (hli : P.li = 10) (p now : Int) (m : Nat × Nat) (q : Int) :
    (p ≠ q → getG q (stpM P.nu P.ti P.li P.most P.cd gs p now m).gs = getG q gs ∧ keyO q (stpM P.nu P.ti P.li P.most P.cd gs p now m).O = []) := by
  intro hpq
  have h4 := hs.few4
  have hdel : getG q (if knG p gs = true then delG p gs else gs) = getG q gs := by
    split
    · rename_i hk
      rw [getG_del hs.srt hk, if_neg (fun e => hpq e.symm)]
    · rfl
  unfold stpM
  rw [if_neg (by omega)]
  split
  · exact ⟨rfl, rfl⟩
  · split
    · unfold finR
      split
      · exact ⟨hdel, by rw [keyO_one, if_neg hpq]⟩
      · exact ⟨hdel, rfl⟩
    · dsimp only
      rw [getG_put hs.srt, if_neg (fun e => hpq e.symm)]
      exact ⟨rfl, rfl⟩
theorem stpM_own {gs gt : List Ga} {i j : Nat} (hs : GsI gs i) (ht : GsI gt j) (P : Pr) (hli : P.li = 10) (q now : Int) (m : Nat × Nat) (h : Same q gs gt) :
    Same q (stpM P.nu P.ti P.li P.most P.cd gs q now m).gs (stpM P.nu P.ti P.li P.most P.cd gt q now m).gs ∧ (stpM P.nu P.ti P.li P.most P.cd gs q now m).O = (stpM P.nu P.ti P.li P.most P.cd gt q now m).O := by
  have h4 := hs.few4
  have h4' := ht.few4
  have hk : knG q gs = knG q gt := by rw [knG_M hs, knG_M ht, h.get]
  have hadd : addM gs q m = addM gt q m := by unfold addM; rw [h.get]
  have hdel : getG q (if knG q gs = true then delG q gs else gs) = getG q (if knG q gt = true then delG q gt else gt) := by
    rw [hk]
    split
    · rename_i hk2
      rw [getG_del hs.srt (hk.trans hk2), getG_del ht.srt hk2, if_pos rfl, if_pos rfl]
    · exact h.get
  have c1 : ¬ (knG q gs = false ∧ P.li ≤ (gs.length : Int)) := by omega
  have c2 : ¬ (knG q gt = false ∧ P.li ≤ (gt.length : Int)) := by omega
  unfold stpM
  rw [if_neg c1, if_neg c2, hadd]
  split
  · exact ⟨h, rfl⟩
  · split
    · unfold finR
      split
      · exact ⟨⟨hdel⟩, rfl⟩
      · exact ⟨⟨hdel⟩, rfl⟩
    · refine ⟨⟨?_⟩, rfl⟩
      dsimp only
      rw [getG_put hs.srt, getG_put ht.srt, if_pos rfl, if_pos rfl, hk, h.get]
/-- Whether an input is kept when only one key's messages, and the clock, come. -/
def ownI (q : Int) (x : Iv) : Bool := match x.v with
  | .c => true
  | .m o _ => o == some q
def keyR (q : Int) (l : List Rs) : List Msg := l.flatMap fun r => keyO q r.O
theorem keyR_cons (q : Int) (r : Rs) (l : List Rs) : keyR q (r :: l) = keyO q r.O ++ keyR q l := by simp [keyR]
theorem keys_same {P : Pr} (hP : P.ok) (hli : P.li = 10) (q : Int) : ∀ (xs : List Iv) (gs gt : List Ga) (k : Nat), GsI gs k → GsI gt k → IvsOk xs → (∀ x, x ∈ xs → k ≤ x.i) → Same q gs gt →
    (keyR q (rnL (stpI P) gs xs)).map sayM = (keyR q (rnL (stpI P) gt (xs.filter (ownI q)))).map sayM
  | [], _, _, _, _, _, _, _, _ => rfl
  | x :: r, gs, gt, k, hs, ht, hx, hk, h => by
    have hx0 := hx.ok x List.mem_cons_self
    have hk0 := hk x List.mem_cons_self
    have hs0 := hs.mono hk0
    have ht0 := ht.mono hk0
    have hs1 := (stpI_ok hP hs0 hx0).I
    have ht1 := (stpI_ok hP ht0 hx0).I
    have hp := List.pairwise_cons.1 hx.inc
    have hr : IvsOk r := ⟨fun y hy => hx.ok y (List.mem_cons_of_mem _ hy), hp.2⟩
    have e1 : ∀ g, rnL (stpI P) g (x :: r) = stpI P g x :: rnL (stpI P) (stpI P g x).gs r := fun _ => rfl
    rw [e1, keyR_cons, List.map_append, List.filter_cons]
    cases ho : ownI q x with
    | true =>
      rw [if_pos rfl]
      have e2 : rnL (stpI P) gt (x :: r.filter (ownI q)) = stpI P gt x :: rnL (stpI P) (stpI P gt x).gs (r.filter (ownI q)) := rfl
      rw [e2, keyR_cons, List.map_append]
      have hstep : Same q (stpI P gs x).gs (stpI P gt x).gs ∧ (keyO q (stpI P gs x).O).map sayM = (keyO q (stpI P gt x).O).map sayM := by
        obtain ⟨i, now, v⟩ := x
        cases v with
        | c => exact same_clk hs ht h
        | m o n =>
          have hoq : o = some q := by simpa [ownI] using ho
          subst hoq
          have := stpM_own hs ht P hli q now (i, n) h
          exact ⟨this.1, by
            show (keyO q (stpM P.nu P.ti P.li P.most P.cd gs q now (i, n)).O).map sayM = _
            rw [this.2]
            rfl⟩
      rw [hstep.2, keys_same hP hli q r _ _ (x.i + 1) hs1 ht1 hr (fun y hy => hp.1 y hy) hstep.1]
    | false =>
      rw [if_neg (by simp)]
      have hstep : getG q (stpI P gs x).gs = getG q gs ∧ keyO q (stpI P gs x).O = [] := by
        obtain ⟨i, now, v⟩ := x
        cases v with
        | c => cases ho
        | m o n =>
          cases o with
          | none => exact ⟨rfl, rfl⟩
          | some p =>
            have hpq : p ≠ q := fun e => by subst e; simp [ownI] at ho
            exact stpM_get hs P hli p now (i, n) q hpq
      rw [hstep.2, List.map_nil, List.nil_append]
      exact keys_same hP hli q r _ _ (x.i + 1) hs1 (ht.mono (by omega)) hr (fun y hy => hp.1 y hy) ⟨hstep.1.trans h.get⟩
end Go.Proofs.YthphniobeigklaaGreatDoor.Ag

/- AggregatorKeys. -/
namespace Go.Proofs.YthphniobeigklaaGreatDoor.Ag
open Go Go.Em Go.Proofs.YthphniobeigklaaGreatDoor
set_option maxRecDepth 100000

/-! ### keyed -/
section
variable (rs acc : List (List X)) (q : Int) (i j k : Nat) (N : Nat)
def kyH : St := ⟨[(0, .sl false 7 rs), (1, num q), (5, .bs 0 0 k), (6, nat i)], [.row 10 acc]⟩
def kyE : St := ⟨[(0, .sl false 7 rs), (1, num q), (5, .bs 0 0 k), (6, nat i), (12, boolX false)], [.row 10 acc]⟩
def kzH : St := ⟨[(0, .sl false 7 rs), (1, num q), (5, .bs 0 0 k), (6, nat i), (7, nat j)], [.row 10 acc]⟩
def kzE : St := ⟨[(0, .sl false 7 rs), (1, num q), (5, .bs 0 0 k), (6, nat i), (7, nat j), (22, boolX false)], [.row 10 acc]⟩
theorem kz_canon : canon 0 (kzH rs acc q i j k) = some (kzH rs acc q i j k) := by kernel_rfl
theorem ky_end (h : ¬ i < rs.length) : run (callF tab ext N) 0 N (loopAt 15 0) (kyH rs acc q i k) = some (.exit 0, kyE rs acc q i k) :=
  run_of [(12, .b false)] [] (pf1 (nlt_nat h)) (lo' := []) (by kernel_rfl)
variable (ss os F L : List (List X)) (hr : rs[i]? = some [num 0, num 0, .sl false 10 ss, .sl false 11 os, .sl false 11 [], .sl false 6 F, .sl false 10 L])
include hr
theorem kz_end (h : ¬ j < os.length) : run (callF tab ext N) 0 N (loopAt 15 1) (kzH rs acc q i j k) = some (.exit 2, kzE rs acc q i j k) :=
  run_of [(18, .e [num 0, num 0, .sl false 10 ss, .sl false 11 os, .sl false 11 [], .sl false 6 F, .sl false 10 L]), (22, .b false)] [] (pf2 hr (nlt_nat h)) (lo' := []) (by kernel_rfl)
variable (pt e mm mx my p : Int) (pa og : List (List X)) (hj : j < os.length) (hj2 : j < 10000) (ho : os[j]? = some ([num pt, num e, .sl false 1 pa, num mm, .sl false 1 og] ++ (resV mx p my).cells))
include hj hj2 ho
theorem kz_no (hq : p ≠ q) : ∃ υ, run (callF tab ext N) 0 N (loopAt 15 1) (kzH rs acc q i j k) = some (.norm, υ) ∧ canon 0 υ = some (kzH rs acc q i (j + 1) k) := by
  have h48 : (p == q) = false := by simpa using hq
  exact rd_of [(18, .e [num 0, num 0, .sl false 10 ss, .sl false 11 os, .sl false 11 [], .sl false 6 F, .sl false 10 L]), (22, .b true), (27, .e [num 0, num 0, .sl false 10 ss, .sl false 11 os, .sl false 11 [], .sl false 6 F, .sl false 10 L]), (31, .e ([num pt, num e, .sl false 1 pa, num mm, .sl false 1 og] ++ (resV mx p my).cells)), (48, .b false), (24, .i (Int.ofNat (j + 1)))] (pf6 hr (lt_nat hj) hr ho h48 (next_nat (j := j) (by omega))) (by kernel_rfl)
theorem kz_yes (hq : p = q) (hk : k = acc.length) (hk2 : k < 100000) : ∃ υ, run (callF tab ext N) 0 N (loopAt 15 1) (kzH rs acc q i j k) = some (.norm, υ) ∧ canon 0 υ = some (kzH rs (acc ++ [[num e, .sl false 1 pa, num mm, .sl false 1 og] ++ (resV mx p my).cells]) q i (j + 1) (k + 1)) := by
  have h48 : (p == q) = true := by simpa using hq
  exact rd_of [(18, .e [num 0, num 0, .sl false 10 ss, .sl false 11 os, .sl false 11 [], .sl false 6 F, .sl false 10 L]), (22, .b true), (27, .e [num 0, num 0, .sl false 10 ss, .sl false 11 os, .sl false 11 [], .sl false 6 F, .sl false 10 L]), (31, .e ([num pt, num e, .sl false 1 pa, num mm, .sl false 1 og] ++ (resV mx p my).cells)), (48, .b true), (53, .app), (24, .i (Int.ofNat (j + 1)))] (pf7 hr (lt_nat hj) hr ho h48 (app_ok k 0 152 hk (by omega) (by omega)) (next_nat (j := j) (by omega))) (by kernel_rfl)
end
/-- Outputs as the steps write them. -/
def OutM (O : List Otp) : Prop := ∀ o, o ∈ O → ∃ p M s, o = ⟨0, mrgM p M s⟩
theorem clk_outM {most : Int} {t : Stp} : ∀ (E : List Ga) (c : Rs), OutM c.O → OutM (E.foldl (clk1 most t) c).O
  | [], c, h => h
  | x :: E, c, h => by
    rw [List.foldl_cons]
    refine clk_outM E _ ?_
    unfold clk1
    split
    · intro o ho
      rcases List.mem_append.1 ho with ho | ho
      · exact h o ho
      · exact ⟨_, _, _, List.mem_singleton.1 ho⟩
    · exact h
theorem stp_outM (P : Pr) (gs : List Ga) (x : Iv) : OutM (stpI P gs x).O := by
  obtain ⟨i, now, v⟩ := x
  have h0 : OutM [] := fun _ h => nomatch h
  unfold stpI
  cases v with
  | c => exact clk_outM (exG now gs) ⟨gs, [], [], []⟩ h0
  | m o n =>
    cases o with
    | none => exact h0
    | some q =>
      dsimp only
      unfold stpM
      split
      · exact h0
      · split
        · exact h0
        · split
          · unfold finR
            split
            · intro o ho
              exact ⟨_, _, _, List.mem_singleton.1 ho⟩
            · exact h0
          · exact h0
theorem kz_loop (rs : List (List X)) (q : Int) (i : Nat) (r : Rs) (hr : rs[i]? = some r.cells) (ho : OutM r.O) (hl : r.O.length ≤ 100) (A : List Msg) (hA : A.length ≤ 10000) (N : Nat) (hN : 200 ≤ N) :
    run (callF tab ext N) 0 N (.loop (loopAt 15 1)) (kzH rs (msgsC A) q i 0 A.length) = some (.exit 2, kzE rs (msgsC (A ++ keyO q r.O)) q i r.O.length (A ++ keyO q r.O).length) := by
  have hol := otpsC_length r.O
  refine loop_for (σ := fun j => kzH rs (msgsC (A ++ keyO q (r.O.take j))) q i j (A ++ keyO q (r.O.take j)).length) (k := r.O.length) ?_ (fun j hj => ?_) ?_ (by simp) (by omega)
  · have := kz_canon rs (msgsC A) q i 0 A.length
    simpa [keyO] using this
  · have hg := otpsC_get hj
    obtain ⟨p, M, s, e⟩ := ho _ (List.getElem_mem hj)
    have hkl : (keyO q (r.O.take j)).length ≤ j := by
      have h1 : (keyO q (r.O.take j)).length ≤ ((r.O.take j).map (·.m)).length := List.length_filter_le ..
      rw [List.length_map, List.length_take] at h1
      omega
    rw [List.take_succ_eq_append_getElem hj, keyO_app, e, keyO_one]
    rw [e] at hg
    have hBl : (A ++ keyO q (r.O.take j)).length ≤ 10100 := by rw [List.length_append]; omega
    by_cases hpq : p = q
    · rw [if_pos hpq, ← List.append_assoc]
      generalize A ++ keyO q (r.O.take j) = B at *
      have e2 : msgsC (B ++ [mrgM p M s]) = msgsC B ++ [[num s.e, .sl false 1 (intsC s.p), num (massL (M.map (msV p))), .sl false 1 (intsC (zsM M))] ++ (resV (M.length : Nat) p (sumM M : Nat)).cells] := by
        simp only [msgsC, List.map_append, List.map_cons, List.map_nil]
        rfl
      rw [e2, show (B ++ [mrgM p M s]).length = B.length + 1 by rw [List.length_append]; rfl]
      exact kz_yes rs (msgsC B) q i j B.length N _ _ _ _ hr 0 s.e (massL (M.map (msV p))) (M.length : Nat) (sumM M : Nat) p (intsC s.p) (intsC (zsM M)) (by omega) (by omega) hg hpq (msgsC_length B).symm (by omega)
    · rw [if_neg hpq, List.append_nil]
      exact kz_no rs _ q i j _ N _ _ _ _ hr 0 s.e (massL (M.map (msV p))) (M.length : Nat) (sumM M : Nat) p (intsC s.p) (intsC (zsM M)) (by omega) (by omega) hg hpq
  · rw [List.take_length]
    exact kz_end rs _ q i _ _ N _ _ _ _ hr (by omega)
theorem ky_round (rs A B : List (List X)) (q : Int) (i j k k2 : Nat) (N : Nat) (hi : i < rs.length) (hi2 : i < 1000) (h : run (callF tab ext N) 0 N (.loop (loopAt 15 1)) (kzH rs A q i 0 k) = some (.exit 2, kzE rs B q i j k2)) :
    ∃ υ, run (callF tab ext N) 0 N (loopAt 15 0) (kyH rs A q i k) = some (.norm, υ) ∧ canon 0 υ = some (kyH rs B q (i + 1) k2) :=
  rl_of [(12, .b true), (14, .i (Int.ofNat (i + 1)))] [(.exit 2, kzE rs B q i j k2)] (pf3 (lt_nat hi) h (next_nat (j := i) (by omega))) (by kernel_rfl)
theorem keyR_app (q : Int) (a b : List Rs) : keyR q (a ++ b) = keyR q a ++ keyR q b := by simp [keyR]
theorem keyed15 (q : Int) (l : List Rs) (hl : l.length ≤ 50) (ho : ∀ r, r ∈ l → OutM r.O ∧ r.O.length ≤ 100) (N : Nat) (hN : 300 ≤ N) : Gam.pureD (callF tab ext N) 15 [.sl false 7 (rssC l), num q] = some (.sl false 10 (msgsC (keyR q l))) := by
  obtain ⟨M, rfl⟩ : ∃ M, N = M + 1 := ⟨N - 1, by omega⟩
  have hrl := rssC_len l
  have hlen : ∀ a : List Rs, (∀ r, r ∈ a → r.O.length ≤ 100) → (keyR q a).length ≤ 100 * a.length := by
    intro a
    induction a with
    | nil => intro _; exact Nat.zero_le _
    | cons r a ih =>
      intro h
      have h1 := h r List.mem_cons_self
      have h2 := ih fun x hx => h x (List.mem_cons_of_mem _ hx)
      have h3 : (keyO q r.O).length ≤ (r.O.map (·.m)).length := List.length_filter_le ..
      rw [List.length_map] at h3
      rw [keyR_cons, List.length_append, List.length_cons]
      omega
  have hloop : run (callF tab ext M) 0 M (.loop (loopAt 15 0)) (kyH (rssC l) (msgsC []) q 0 0) = some (.exit 0, kyE (rssC l) (msgsC (keyR q l)) q l.length (keyR q l).length) := by
    refine loop_for (σ := fun i => kyH (rssC l) (msgsC (keyR q (l.take i))) q i (keyR q (l.take i)).length) (k := l.length) (by kernel_rfl) (fun i hi => ?_) ?_ (by simp) (by omega)
    · have hr : (rssC l)[i]? = some l[i].cells := by
        unfold rssC
        rw [List.getElem?_map, List.getElem?_eq_getElem hi, Option.map_some]
      obtain ⟨h1, h2⟩ := ho _ (List.getElem_mem hi)
      have h3 := hlen (l.take i) fun r hr => (ho r (List.mem_of_mem_take hr)).2
      rw [List.length_take] at h3
      have h4 := kz_loop (rssC l) q i l[i] hr h1 h2 (keyR q (l.take i)) (by omega) M (by omega)
      have e : keyR q (l.take (i + 1)) = keyR q (l.take i) ++ keyO q l[i].O := by
        rw [List.take_succ_eq_append_getElem hi, keyR_app]
        simp [keyR]
      rw [e]
      exact ky_round _ _ _ q i _ _ _ M (by omega) (by omega) h4
    · rw [List.take_length]
      exact ky_end _ _ q _ _ M (by omega)
  have hk := msgsC_length (keyR q l)
  generalize (keyR q l).length = n at *
  generalize msgsC (keyR q l) = K at *
  generalize rssC l = R at *
  exact pure_of [] [(.exit 0, kyE R K q l.length n)] (pf1 hloop) (x := .bs 0 0 n) (bx := [.row 10 K]) (by kernel_rfl) (data_bs rfl hk.symm)
end Go.Proofs.YthphniobeigklaaGreatDoor.Ag

/- AggregatorKeys, for all its arguments. -/
namespace Go.Proofs.YthphniobeigklaaGreatDoor.Ag
open Go Go.Em Go.Proofs.YthphniobeigklaaGreatDoor
set_option maxRecDepth 100000

section
variable (nu ti most : Int) (ex es ins acc : List (List X)) (q i k : Nat) (N : Nat)
def kwH : St := ⟨[(1, .sl false 4 es), (7, .ptr 0 0 0), (8, nat q), (9, .sl false 23 ins), (10, .bs 1 0 k), (11, nat i)], [.var (nodX nu ti 10 ex (tyX most) ruX), .row 23 acc]⟩
def kwE : St := ⟨[(1, .sl false 4 es), (7, .ptr 0 0 0), (8, nat q), (9, .sl false 23 ins), (10, .bs 1 0 k), (11, nat i), (28, boolX false)], [.var (nodX nu ti 10 ex (tyX most) ruX), .row 23 acc]⟩
theorem kw_canon : canon 0 (kwH nu ti most ex es ins acc q i k) = some (kwH nu ti most ex es ins acc q i k) := by kernel_rfl
theorem kw_end (h : ¬ i < ins.length) : run (callF tab ext N) 0 N (loopAt 4 0) (kwH nu ti most ex es ins acc q i k) = some (.exit 0, kwE nu ti most ex es ins acc q i k) :=
  run_of [(28, .b false)] [] (pf1 (nlt_nat h)) (lo' := []) (by kernel_rfl)
variable (hi : i < ins.length) (hi2 : i < 1000)
include hi hi2
theorem kw_no (row : List X) (e1 e2 e3 e4 : Nat) (he : ins[i]? = some (num 1 :: row)) (hv : es[i]? = some [u8X e1, u8X e2, u8X e3, u8X e4]) (hq : e2 % 5 ≠ q) :
    ∃ υ, run (callF tab ext N) 0 N (loopAt 4 0) (kwH nu ti most ex es ins acc q i k) = some (.norm, υ) ∧ canon 0 υ = some (kwH nu ti most ex es ins acc q (i + 1) k) := by
  have hm := Nat.mod_lt e2 (show 0 < 5 by omega)
  have h46 : (IntKind.i64.wrap (Int.ofNat (e2 % 5)) == Int.ofNat q) = false := beq_eq_false_iff_ne.2 (by rw [IntKind.wrap_i64]; simp only [Int.ofNat_eq_natCast]; omega)
  exact rd_of [(28, .b true), (33, .e (num 1 :: row)), (40, .e [u8X e1, u8X e2, u8X e3, u8X e4]), (46, .b false), (30, .i (Int.ofNat (i + 1)))] (pf5 (lt_nat hi) he hv h46 (next_nat (j := i) (by omega))) (by kernel_rfl)
variable (hk : k = acc.length) (hk2 : k < 10000)
include hk hk2
theorem kw_c (xi : Nat) (now : Int) (he : ins[i]? = some (clR true xi now)) :
    ∃ υ, run (callF tab ext N) 0 N (loopAt 4 0) (kwH nu ti most ex es ins acc q i k) = some (.norm, υ) ∧ canon 0 υ = some (kwH nu ti most ex es ins (acc ++ [clR true xi now]) q (i + 1) (k + 1)) :=
  rd_of [(28, .b true), (33, .e (clR true xi now)), (51, .e (clR true xi now)), (54, .app), (30, .i (Int.ofNat (i + 1)))] (pf5 (lt_nat hi) he he (app_ok k 1 304 hk (by omega) (by omega)) (next_nat (j := i) (by omega))) (by kernel_rfl)
theorem kw_yes (xi n e1 e2 e3 e4 : Nat) (now w : Int) (he : ins[i]? = some (inR true xi now (some w) n)) (hv : es[i]? = some [u8X e1, u8X e2, u8X e3, u8X e4]) (hq : e2 % 5 = q) :
    ∃ υ, run (callF tab ext N) 0 N (loopAt 4 0) (kwH nu ti most ex es ins acc q i k) = some (.norm, υ) ∧ canon 0 υ = some (kwH nu ti most ex es ins (acc ++ [inR true xi now (some w) n]) q (i + 1) (k + 1)) := by
  have hm := Nat.mod_lt e2 (show 0 < 5 by omega)
  have h46 : (IntKind.i64.wrap (Int.ofNat (e2 % 5)) == Int.ofNat q) = true := beq_iff_eq.2 (by rw [IntKind.wrap_i64]; simp only [Int.ofNat_eq_natCast]; omega)
  exact rd_of [(28, .b true), (33, .e (inR true xi now (some w) n)), (40, .e [u8X e1, u8X e2, u8X e3, u8X e4]), (46, .b true), (51, .e (inR true xi now (some w) n)), (54, .app), (30, .i (Int.ofNat (i + 1)))] (pfJ (lt_nat hi) he hv h46 he (app_ok k 1 304 hk (by omega) (by omega)) (next_nat (j := i) (by omega)) pf0) (by kernel_rfl)
end
theorem kw_loop (nu ti most : Int) (ex : List (List X)) (l : List Ev) (q : Nat) (hq : q < 4) (xs : List Iv) (hl : xs.length ≤ l.length) (hl4 : xs.length ≤ 40) (hv : ∀ j (h : j < xs.length), xs[j].v = evV (l[j]'(by omega))) (N : Nat) (hN : 1000 ≤ N) :
    run (callF tab ext N) 0 N (.loop (loopAt 4 0)) (kwH nu ti most ex (evC l) (insC xs) [] q 0 0) = some (.exit 0, kwE nu ti most ex (evC l) (insC xs) (insC (xs.filter (ownI q))) q xs.length (xs.filter (ownI q)).length) := by
  have hil := insC_len xs
  refine loop_for (σ := fun j => kwH nu ti most ex (evC l) (insC xs) (insC ((xs.take j).filter (ownI q))) q j ((xs.take j).filter (ownI q)).length) (k := xs.length) (kw_canon ..) (fun j hj => ?_) ?_ (by simp) (by omega)
  · have he := insC_get hj
    have hvj := hv j hj
    have hev : (evC l)[j]? = some [u8X (l[j]'(by omega)).a, u8X (l[j]'(by omega)).k, u8X (l[j]'(by omega)).n, u8X (l[j]'(by omega)).d] := evC_get (by omega)
    have hfl : ((xs.take j).filter (ownI q)).length ≤ j := by
      have h1 : ((xs.take j).filter (ownI q)).length ≤ (xs.take j).length := List.length_filter_le ..
      rw [List.length_take] at h1
      omega
    have hacc := (insC_len ((xs.take j).filter (ownI q))).symm
    have hsn : ∀ b, ownI q xs[j] = b → (xs.take (j + 1)).filter (ownI q) = (xs.take j).filter (ownI q) ++ if b then [xs[j]] else [] := fun b hb => by
      rw [List.take_succ_eq_append_getElem hj, List.filter_append, List.filter_cons, hb]
      rfl
    have hsnI : ∀ A : List Iv, ∀ x, insC (A ++ [x]) = insC A ++ [x.row true] := fun A x => by simp [insC]
    generalize (xs.take j).filter (ownI q) = A at *
    generalize l[j]'(by omega) = e at hvj hev
    generalize xs[j] = x at hvj he hsn
    obtain ⟨xi, now, v⟩ := x
    dsimp only at hvj
    unfold evV at hvj
    split at hvj
    · subst hvj
      rw [hsn true rfl, if_pos rfl, hsnI, List.length_append]
      exact kw_c nu ti most ex (evC l) (insC xs) (insC A) q j A.length N (by omega) (by omega) hacc (by omega) xi now he
    · by_cases h4 : e.k % 5 = 4
      · rw [if_pos h4] at hvj
        subst hvj
        rw [hsn false rfl, if_neg (by simp), List.append_nil]
        exact kw_no nu ti most ex (evC l) (insC xs) (insC A) q j A.length N (by omega) (by omega) _ _ _ _ _ he hev (by omega)
      · rw [if_neg h4] at hvj
        subst hvj
        by_cases hkq : e.k % 5 = q
        · have ho : ownI (q : Int) ⟨xi, now, .m (some ((e.k % 5 : Nat) : Int)) (e.n % 4)⟩ = true := by
            show (some ((e.k % 5 : Nat) : Int) == some (q : Int)) = true
            rw [hkq]
            simp
          rw [hsn true ho, if_pos rfl, hsnI, List.length_append]
          exact kw_yes nu ti most ex (evC l) (insC xs) (insC A) q j A.length N (by omega) (by omega) hacc (by omega) xi (e.n % 4) _ _ _ _ now _ he hev hkq
        · have ho : ownI (q : Int) ⟨xi, now, .m (some ((e.k % 5 : Nat) : Int)) (e.n % 4)⟩ = false := by
            show (some ((e.k % 5 : Nat) : Int) == some (q : Int)) = false
            rw [beq_eq_false_iff_ne]
            intro h
            have := Option.some.inj h
            omega
          rw [hsn false ho, if_neg (by simp), List.append_nil]
          exact kw_no nu ti most ex (evC l) (insC xs) (insC A) q j A.length N (by omega) (by omega) _ _ _ _ _ he hev hkq
  · rw [List.take_length]
    exact kw_end _ _ _ _ _ _ _ _ _ _ N (by omega)
section
variable (ka kb : List (List X)) (i : Nat) (N : Nat)
def kcH : St := ⟨[(12, .sl false 10 ka), (13, .sl false 10 kb), (14, nat i)], []⟩
def kcE : St := ⟨[(12, .sl false 10 ka), (13, .sl false 10 kb), (14, nat i), (73, boolX false)], []⟩
theorem kc_canon : canon 0 (kcH ka kb i) = some (kcH ka kb i) := by kernel_rfl
theorem kc_end (h : ¬ i < ka.length) : run (callF tab ext N) 0 N (loopAt 4 1) (kcH ka kb i) = some (.exit 2, kcE ka kb i) :=
  run_of [(73, .b false)] [] (pf1 (nlt_nat h)) (lo' := []) (by kernel_rfl)
theorem kc_round (e ma a1 a2 a3 : Int) (pa pb oa ob a5 a6 : List (List X)) (a4 : ByteArray) (hi : i < ka.length) (hi2 : i < 100000) (ha : ka[i]? = some [num e, .sl false 1 pa, num ma, .sl false 1 oa, num a1, num a2, num a3, strX a4, .sl false 6 a5, .sl false 7 a6]) (hb : kb[i]? = some [num e, .sl false 1 pb, num ma, .sl false 1 ob, num a1, num a2, num a3, strX a4, .sl false 6 a5, .sl false 7 a6])
    (h16 : Gam.pureD (callF tab ext N) 16 [.agg [num a1, num a2, num a3, strX a4, .sl false 6 a5, .sl false 7 a6], .agg [num a1, num a2, num a3, strX a4, .sl false 6 a5, .sl false 7 a6]] = some (boolX true)) :
    ∃ υ, run (callF tab ext N) 0 N (loopAt 4 1) (kcH ka kb i) = some (.norm, υ) ∧ canon 0 υ = some (kcH ka kb (i + 1)) := by
  have h2 : (ma != ma) = false := by simp
  have h3 : (e != e) = false := by simp
  exact rd_of [(73, .b true), (78, .e [num e, .sl false 1 pa, num ma, .sl false 1 oa, num a1, num a2, num a3, strX a4, .sl false 6 a5, .sl false 7 a6]), (83, .e [num e, .sl false 1 pb, num ma, .sl false 1 ob, num a1, num a2, num a3, strX a4, .sl false 6 a5, .sl false 7 a6]), (86, .b false), (90, .e [num e, .sl false 1 pa, num ma, .sl false 1 oa, num a1, num a2, num a3, strX a4, .sl false 6 a5, .sl false 7 a6]), (95, .e [num e, .sl false 1 pb, num ma, .sl false 1 ob, num a1, num a2, num a3, strX a4, .sl false 6 a5, .sl false 7 a6]), (98, .p (boolX true)), (104, .e [num e, .sl false 1 pa, num ma, .sl false 1 oa, num a1, num a2, num a3, strX a4, .sl false 6 a5, .sl false 7 a6]), (110, .e [num e, .sl false 1 pb, num ma, .sl false 1 ob, num a1, num a2, num a3, strX a4, .sl false 6 a5, .sl false 7 a6]), (114, .b false), (75, .i (Int.ofNat (i + 1)))]
    (pf11 (lt_nat hi) ha hb h2 ha hb h16 ha hb h3 (next_nat (j := i) (by omega))) (by kernel_rfl)
end
theorem kc_loop (A B : List Msg) (h : A.map sayM = B.map sayM) (hl : A.length ≤ 10000) (hs : ∀ m, m ∈ A → m.body.size ≤ 100) (N : Nat) (hN : 20000 ≤ N) : run (callF tab ext N) 0 N (.loop (loopAt 4 1)) (kcH (msgsC A) (msgsC B) 0) = some (.exit 2, kcE (msgsC A) (msgsC B) A.length) := by
  have hal := msgsC_length A
  have hlen : A.length = B.length := by
    have := congrArg List.length h
    rwa [List.length_map, List.length_map] at this
  refine loop_for (σ := fun i => kcH (msgsC A) (msgsC B) i) (k := A.length) (kc_canon ..) (fun i hi => ?_) (kc_end _ _ _ N (by omega)) (by simp) (by omega)
  have hi' : i < B.length := by omega
  have ha := msgsC_get hi
  have hb := msgsC_get hi'
  have hsz := hs _ (List.getElem_mem hi)
  have hsay : sayM A[i] = sayM B[i] := by
    have h1 : (A.map sayM)[i]? = (B.map sayM)[i]? := by rw [h]
    rw [List.getElem?_map, List.getElem?_map, List.getElem?_eq_getElem hi, List.getElem?_eq_getElem hi'] at h1
    exact Option.some.inj h1
  have h16 := eq_val N A[i].body A[i].body (by omega) (by omega)
  rw [cmpV_refl] at h16
  generalize A[i] = a at *
  generalize B[i] = b at *
  obtain ⟨⟨e, p⟩, ma, o, ⟨a1, a2, a3, a4, a5, a6⟩⟩ := a
  obtain ⟨⟨e', p'⟩, ma', o', bd'⟩ := b
  unfold sayM at hsay
  simp only [Prod.mk.injEq] at hsay
  obtain ⟨rfl, rfl, rfl⟩ := hsay
  exact kc_round _ _ i N e ma a1 a2 a3 (intsC p) (intsC p') (intsC o) (intsC o') (cellsL a5) (cellsF a6) a4 (by omega) (by omega) ha hb h16
theorem keyR_mem {q : Int} {l : List Rs} (ho : ∀ r, r ∈ l → OutM r.O) : ∀ m, m ∈ keyR q l → ∃ p M s, m = mrgM p M s := fun m hm => by
  obtain ⟨r, hr, hm⟩ := List.mem_flatMap.1 hm
  have h1 := (List.mem_filter.1 hm).1
  obtain ⟨o, ho2, rfl⟩ := List.mem_map.1 h1
  obtain ⟨p, M, s, rfl⟩ := ho r hr o ho2
  exact ⟨p, M, s, rfl⟩
theorem keys_all (a b c d e : Int) (hb : 0 ≤ b ∧ b < 256) (l : List Ev) (w : Int) (hw : 0 ≤ w ∧ w < 256) (N : Nat) (hN : 194001 ≤ N) : Gam.pureD (callF tab ext N) 4 [skX a b c d e, .sl false 4 (evC l), u8X w] = some (boolX true) := by
  obtain ⟨key, rfl⟩ := Int.eq_ofNat_of_zero_le hw.1
  obtain ⟨M, rfl⟩ : ∃ M, N = M + 1 := ⟨N - 1, by omega⟩
  have hlt := Nat.mod_lt key (show 0 < 4 by omega)
  have hP0 := skP_ok a b c d e hb
  have h11 := known11 M (by omega)
  have h13 := inputs13 l M (by omega)
  have h12 := sk12 a b c d e M (by omega)
  have hxs := inL_ok (l.take 40) (by rw [List.length_take]; omega)
  have hxl : (inL 0 0 (l.take 40)).length ≤ 40 := by rw [inL_len, List.length_take]; omega
  have hxl2 : (inL 0 0 (l.take 40)).length ≤ l.length := by rw [inL_len, List.length_take]; omega
  have hv : ∀ j (h : j < (inL 0 0 (l.take 40)).length), (inL 0 0 (l.take 40))[j].v = evV (l[j]'(by omega)) := fun j h => by
    rw [inL_get (l.take 40) 0 0 j (by rw [inL_len] at h; exact h)]
    exact congrArg evV List.getElem_take
  have hk : IntKind.i64.wrap ((Int.ofNat key).tmod 4) = Int.ofNat (key % 4) := by
    rw [show (Int.ofNat key).tmod 4 = ((key % 4 : Nat) : Int) from rfl, IntKind.wrap_i64]
    simp only [Int.ofNat_eq_natCast]
    omega
  generalize key % 4 = q at *
  generalize skP a b c d e = P0 at *
  have hl0 := kw_loop P0.nu P0.ti P0.most (exN P0.cd) l q hlt (inL 0 0 (l.take 40)) hxl2 hxl hv M (by omega)
  clear hv hxl2
  generalize inL 0 0 (l.take 40) = xs at *
  have hP : (Pr.mk P0.nu P0.ti 10 P0.most P0.cd).ok := ⟨hP0.cd, hP0.ti⟩
  generalize hPe : Pr.mk P0.nu P0.ti 10 P0.most P0.cd = P at hP
  have hli : P.li = 10 := by rw [← hPe]
  have hnode : P.node = .agg (nodX P0.nu P0.ti 10 (exN P0.cd) (tyX P0.most) ruX) := by rw [← hPe]; rfl
  have hys : IvsOk (xs.filter (ownI q)) := ⟨fun x hx => hxs.ok x (List.mem_filter.1 hx).1, hxs.inc.filter _⟩
  have hyl : (xs.filter (ownI q)).length ≤ 40 := by
    have : (xs.filter (ownI q)).length ≤ xs.length := List.length_filter_le ..
    omega
  have h14a := runAll hP hxs hxl M (by omega)
  have h14b := runAll hP hys hyl M (by omega)
  have out : ∀ zs : List Iv, IvsOk zs → ∀ r, r ∈ rnL (stpI P) [] zs → OutM r.O ∧ r.O.length ≤ 100 := fun zs hz r hr => by
    obtain ⟨j, hj, rfl⟩ := List.getElem_of_mem hr
    rw [rnL_len] at hj
    rw [rnL_get (stpI P) zs [] j hj]
    obtain ⟨hI, _⟩ := st_at hP hz j hj
    exact ⟨stp_outM P _ _, (stp_small (P := P) hI (hz.ok _ (List.getElem_mem hj))).no⟩
  have hla := rnL_len (stpI P) xs []
  have hlb := rnL_len (stpI P) (xs.filter (ownI q)) []
  have h15a := keyed15 q (rnL (stpI P) [] xs) (by omega) (out xs hxs) M (by omega)
  have h15b := keyed15 q (rnL (stpI P) [] (xs.filter (ownI q))) (by omega) (out _ hys) M (by omega)
  have hsame := keys_same hP hli q xs [] [] 0 GsI.nil GsI.nil hxs (fun _ _ => Nat.zero_le _) ⟨rfl⟩
  have hAm := keyR_mem (q := q) fun r hr => (out xs hxs r hr).1
  have hAl : (keyR q (rnL (stpI P) [] xs)).length ≤ 10000 := by
    have hgen : ∀ t : List Rs, (∀ r, r ∈ t → r.O.length ≤ 100) → (keyR q t).length ≤ 100 * t.length := by
      intro t
      induction t with
      | nil => intro _; exact Nat.zero_le _
      | cons r t ih =>
        intro h
        have h1 := h r List.mem_cons_self
        have h2 := ih fun x hx => h x (List.mem_cons_of_mem _ hx)
        have h3 : (keyO q r.O).length ≤ (r.O.map (·.m)).length := List.length_filter_le ..
        rw [List.length_map] at h3
        rw [keyR_cons, List.length_append, List.length_cons]
        omega
    have := hgen _ fun r hr => (out xs hxs r hr).2
    omega
  have hl1 := kc_loop _ _ hsame hAl (fun m hm => by
    obtain ⟨p, Mx, s, rfl⟩ := hAm m hm
    simp [mrgM, resV, kv, Val.size, sizeL, sizeF]) M (by omega)
  have h69 : (Int.ofNat (msgsC (keyR q (rnL (stpI P) [] xs))).length != Int.ofNat (msgsC (keyR q (rnL (stpI P) [] (xs.filter (ownI q))))).length) = false := by
    have := congrArg List.length hsame
    rw [List.length_map, List.length_map] at this
    rw [msgsC_length, msgsC_length, this]
    simp
  have hyc := insC_len (xs.filter (ownI q))
  rw [hnode] at h14a h14b
  generalize msgsC (keyR q (rnL (stpI P) [] xs)) = KA at *
  generalize msgsC (keyR q (rnL (stpI P) [] (xs.filter (ownI q)))) = KB at *
  generalize (keyR q (rnL (stpI P) [] xs)).length = nA at *
  generalize rssC (rnL (stpI P) [] xs) = RA at *
  generalize rssC (rnL (stpI P) [] (xs.filter (ownI q))) = RB at *
  generalize (xs.filter (ownI q)).length = ny at *
  generalize insC (xs.filter (ownI q)) = IB at *
  generalize xs.length = nx at *
  generalize insC xs = IA at *
  have hl0' : run (callF tab ext M) 0 M (.loop (loopAt 4 0)) ⟨[(1, .sl false 4 (evC l)), (7, .ptr 1 0 0), (8, nat q), (9, .sl false 23 IA), (10, .bs 2 0 0), (11, num 0)], [.var [u8X a, u8X b, u8X c, u8X d, u8X e], .var (nodX P0.nu P0.ti 10 (exN P0.cd) (tyX P0.most) ruX), .row 23 []]⟩ = some (.exit 0, kwE P0.nu P0.ti P0.most (exN P0.cd) (evC l) IA IB q nx ny) := by
    rw [← hl0]
    exact loop_canon (by kernel_rfl) (kw_canon ..)
  have hl1' : run (callF tab ext M) 0 M (.loop (loopAt 4 1)) ⟨[(12, .sl false 10 KA), (13, .sl false 10 KB), (14, num 0)], [.var (nodX P0.nu P0.ti 10 (exN P0.cd) (tyX P0.most) ruX), .dead]⟩ = some (.exit 2, kcE KA KB nA) := by
    rw [← hl1]
    exact loop_canon (by kernel_rfl) (kc_canon ..)
  have hgh : 0 + ny ≤ IB.length := by omega
  have h14b' : Gam.pureD (callF tab ext M) 14 [.agg (nodX P0.nu P0.ti 10 (exN P0.cd) (tyX P0.most) ruX), .sl false 23 (List.take ny IB)] = some (.sl false 7 RB) := by
    rw [List.take_of_length_le (by omega)]
    exact h14b
  exact pure_of [(15, .p (boolX true)), (18, .p P0.node), (22, .i (Int.ofNat q)), (24, .p (.sl false 23 IA)), (57, .p (.sl false 7 RA)), (59, .p (.sl false 10 KA)), (62, .p (.sl false 7 RB)), (64, .p (.sl false 10 KB)), (69, .b false)] [(.exit 0, kwE P0.nu P0.ti P0.most (exN P0.cd) (evC l) IA IB q nx ny), (.exit 2, kcE KA KB nA)]
    (pf12 h11 h12 hk h13 hl0' hgh h14a h15a h14b' h15b h69 hl1') (x := boolX true) (bx := []) (by kernel_rfl) rfl
end Go.Proofs.YthphniobeigklaaGreatDoor.Ag
