/- Row 49. -/
import Derived.Test.YthphniobeigklaaGreatDoorA19
import Derived.Test.YthphniobeigklaaGreatDoorA22
set_option linter.all false
-- out of ACmp
namespace Go.Proofs.YthphniobeigklaaGreatDoor
open Go.Em
set_option maxRecDepth 100000

/-! ### slices.CompareFunc, 98 -/
section
variable (g : Nat) (l m : List (List X)) (n j : Nat)
def ch98 : St := ⟨[(0, .sl false 1 l), (1, .sl false 1 m), (2, .fn g []), (11, .sl false 1 l), (12, nat n), (13, nat j)], []⟩
def ce98 : St := ⟨[(0, .sl false 1 l), (1, .sl false 1 m), (2, .fn g []), (11, .sl false 1 l), (12, nat n), (13, nat j), (14, boolX false)], []⟩
theorem ch98_canon : canon 0 (ch98 g l m n j) = some (ch98 g l m n j) := by kernel_rfl
end
theorem cmp98_loop (M g : Nat) (la lb : List Int) (r : Int → Int → Int) (hr : ∀ a b, a ∈ la → b ∈ lb → Gam.pureD (callF tab ext M) g [num a, num b] = some (num (r a b))) (hl : la.length < 4000000) : ∀ d j F, j + d = la.length → d < F →
    (∃ bx, iter 0 (run (callF tab ext M) 0 M (loopAt 76 0)) F (ch98 g (intsC la) (intsC lb) (intsC la).length j) = some (.ret, ⟨[(6, num (lexC r (la.drop j) (lb.drop j)))], bx⟩)) ∨
    (lexC r (la.drop j) (lb.drop j) = (if la.length < lb.length then -1 else 0) ∧ iter 0 (run (callF tab ext M) 0 M (loopAt 76 0)) F (ch98 g (intsC la) (intsC lb) (intsC la).length j) = some (.exit 0, ce98 g (intsC la) (intsC lb) (intsC la).length (intsC la).length))
  | 0, j, F, hj, hF => by
    obtain ⟨F', rfl⟩ : ∃ F', F = F' + 1 := ⟨F - 1, by omega⟩
    have hj' : j = la.length := by omega
    subst hj'
    have hn := intsC_length la
    have h : run (callF tab ext M) 0 M (loopAt 76 0) (ch98 g (intsC la) (intsC lb) la.length la.length) = some (.exit 0, ce98 g (intsC la) (intsC lb) la.length la.length) :=
      run_of [(14, .b false)] [] (pf1 (nlt_nat (Nat.lt_irrefl la.length))) (lo' := []) (by kernel_rfl)
    right
    refine ⟨?_, by grind[iter_end,ch98_canon]⟩
    rw [List.drop_length]
    by_cases hb : la.length < lb.length
    · rw [if_pos hb, ← List.getElem_cons_drop hb]; rfl
    · rw [if_neg hb, List.drop_eq_nil_of_le (by omega)]; rfl
  | d + 1, j, F, hj, hF => by
    obtain ⟨F', rfl⟩ : ∃ F', F = F' + 1 := ⟨F - 1, by omega⟩
    have hn := intsC_length la
    have hm := intsC_length lb
    have hj' : j < la.length := by omega
    have hd : la.drop j = la[j] :: la.drop (j + 1) := by rw [← List.getElem_cons_drop hj']
    have hg := intsC_get hj'
    have hma := List.getElem_mem hj'
    rw [hd]
    generalize la[j] = a at hg hma
    skip
    by_cases hb : j < lb.length
    · have hdb : lb.drop j = lb[j] :: lb.drop (j + 1) := by rw [← List.getElem_cons_drop hb]
      have hgb := intsC_get hb
      have hmb := List.getElem_mem hb
      rw [hdb]
      generalize lb[j] = b at hgb hmb
      skip
      have hc := hr _ _ hma hmb
      rw [lexC]
      by_cases h : r a b = 0
      · rw [if_pos h]
        have hs : ∃ bx, run (callF tab ext M) 0 M (loopAt 76 0) (ch98 g (intsC la) (intsC lb) (intsC la).length j) = some (.norm, ⟨(ch98 g (intsC la) (intsC lb) (intsC la).length (j + 1)).tm, bx⟩) :=
          ⟨[], run_of [(14, .b true), (16, .e [num a]), (21, .b false), (24, .e [num b]), (29, .p (num (r a b))), (31, .b false), (33, .i (Int.ofNat (j + 1)))] []
            (pf7 (lt_nat (j := j) (k := (intsC la).length) (by omega)) hg (ge_false (j := j) (k := (intsC lb).length) (by omega)) hgb hc (ne_false h) (next_nat (j := j) (by omega))) (lo' := []) (by kernel_rfl)⟩
        obtain ⟨bx, hs⟩ := hs
        have hcn : canon 0 ⟨(ch98 g (intsC la) (intsC lb) (intsC la).length (j + 1)).tm, bx⟩ = some (ch98 g (intsC la) (intsC lb) (intsC la).length (j + 1)) := by kernel_rfl
        have := cmp98_loop M g la lb r hr hl d (j + 1) F' (by omega) (by omega)
        have hi : iter 0 (run (callF tab ext M) 0 M (loopAt 76 0)) (F' + 1) (ch98 g (intsC la) (intsC lb) (intsC la).length j) = iter 0 (run (callF tab ext M) 0 M (loopAt 76 0)) F' (ch98 g (intsC la) (intsC lb) (intsC la).length (j + 1)) :=
          (iter_step (ch98_canon _ _ _ _ _) hs rfl).trans (iter_canon hcn (ch98_canon _ _ _ _ _))
        grind
      · rw [if_neg h]
        left
        exact ⟨_, iter_end (ch98_canon _ _ _ _ _) (run_of [(14, .b true), (16, .e [num a]), (21, .b false), (24, .e [num b]), (29, .p (num (r a b))), (31, .b true)] []
            (pf6 (lt_nat (j := j) (k := (intsC la).length) (by omega)) hg (ge_false (j := j) (k := (intsC lb).length) (by omega)) hgb hc (ne_true h)) (lo' := []) (σ' := ⟨[(6, num (r a b))], []⟩) (by kernel_rfl)) (by simp)⟩
    · left
      rw [List.drop_eq_nil_of_le (by omega : lb.length ≤ j), lexC]
      exact ⟨_, iter_end (ch98_canon _ _ _ _ _) (run_of [(14, .b true), (16, .e [num a]), (21, .b true)] []
            (pf3 (lt_nat (j := j) (k := (intsC la).length) (by omega)) hg (ge_true (j := j) (k := (intsC lb).length) (by omega))) (lo' := []) (σ' := ⟨[(6, num 1)], []⟩) (by kernel_rfl)) (by simp)⟩
theorem cmp98_pure (M g : Nat) (la lb : List Int) (r : Int → Int → Int) (hr : ∀ a b, a ∈ la → b ∈ lb → Gam.pureD (callF tab ext M) g [num a, num b] = some (num (r a b))) (hl : la.length < 4000000) (hN : la.length < M) :
    Gam.pureD (callF tab ext (M + 1)) 76 [.sl false 1 (intsC la), .sl false 1 (intsC lb), .fn g []] = some (num (lexC r la lb)) := by
  have hn := intsC_length la
  have hm := intsC_length lb
  rcases cmp98_loop M g la lb r hr hl la.length 0 M (by omega) hN with ⟨bx, h⟩ | ⟨h0, h⟩
  · exact pure_of [] [(.ret, ⟨[(6, num (lexC r la lb))], bx⟩)] (pf1 h) (x := num (lexC r la lb)) (bx := []) (by kernel_rfl) rfl
  · have h0' : lexC r la lb = (if la.length < lb.length then -1 else 0) := h0
    rw [h0']
    by_cases hb : la.length < lb.length
    · rw [if_pos hb]
      exact pure_of [(38, .b true)] [(.exit 0, ce98 g (intsC la) (intsC lb) (intsC la).length (intsC la).length)] (pf2 h (lt_nat (j := (intsC la).length) (k := (intsC lb).length) (by omega))) (x := num (-1)) (bx := []) (by kernel_rfl) rfl
    · rw [if_neg hb]
      exact pure_of [(38, .b false)] [(.exit 0, ce98 g (intsC la) (intsC lb) (intsC la).length (intsC la).length)] (pf2 h (nlt_nat (j := (intsC la).length) (k := (intsC lb).length) (by omega))) (x := num 0) (bx := []) (by kernel_rfl) rfl

/-! ### slices.CompareFunc, 104 -/
section
variable (g : Nat) (l m : List (List X)) (n j : Nat)
end
/-! ### slices.CompareFunc, 105 -/
section
variable (g : Nat) (l m : List (List X)) (n j : Nat)
end
end Go.Proofs.YthphniobeigklaaGreatDoor

-- out of ACmp2
namespace Go.Proofs.YthphniobeigklaaGreatDoor
open Go.Em
set_option maxRecDepth 100000

theorem cmp_stamp (N : Nat) (a b : Stp) (h : a.p.length + 12 ≤ N) (hs : a.p.length < 1000000) : Gam.pureD (callF tab ext N) 41 [.agg a.cells, .agg b.cells] = some (num (cmpS a b)) := by
  obtain ⟨M, rfl⟩ : ∃ M, N = M + 12 := ⟨N - 12, by omega⟩
  obtain ⟨e, p⟩ := a
  obtain ⟨e', p'⟩ := b
  have h1 : Gam.pureD (callF tab ext (M + 11)) 76 [.sl false 1 (intsC p), .sl false 1 (intsC p'), .fn 77 []] = some (num (lexC ordI p p')) :=
    cmp98_pure (M + 10) 77 p p' ordI (fun x y _ _ => pure_of [(7, .p (num (ordI x y)))] [] (pf1 (cmp_int (M + 5) x y)) (x := num (ordI x y)) (bx := []) (by kernel_rfl) rfl) (by grind) (by grind)
  have ho := or_pure (M + 10) [ordI e e', lexC ordI p p'] (by simp) (by simp)
  exact pure_of [(9, .p (num (ordI e e'))), (14, .p (num (lexC ordI p p'))), (16, .p (num (cmpS ⟨e, p⟩ ⟨e', p'⟩)))] [] (pf3 (cmp_int (M + 7) e e') h1 ho) (x := num (cmpS ⟨e, p⟩ ⟨e', p'⟩)) (bx := []) (by kernel_rfl) rfl
theorem eq_stamp (N : Nat) (a b : Stp) (h : a.p.length + 13 ≤ N) (hs : a.p.length < 1000000) : Gam.pureD (callF tab ext N) 21 [.agg a.cells, .agg b.cells] = some (boolX (cmpS a b == 0)) := by
  obtain ⟨M, rfl⟩ : ∃ M, N = M + 1 := ⟨N - 1, by omega⟩
  have hc := cmp_stamp M a b (by omega) hs
  exact pure_of [(7, .p (num (cmpS a b)))] [] (pf1 hc) (x := boolX (cmpS a b == 0)) (bx := []) (by kernel_rfl) rfl
end Go.Proofs.YthphniobeigklaaGreatDoor

-- out of ARefl
namespace Go.Proofs.YthphniobeigklaaGreatDoor
open Go.Em
set_option maxRecDepth 100000

theorem ftesC_get {l : List Fte} {j : Nat} (h : j < l.length) : (ftesC l)[j]? = some l[j].cells := by grind[ftesC]
/-! ### Sizes -/
section
variable (l m : List (List X)) (j : Nat)
end
section
variable (l m : List (List X)) (j : Nat)
end
section
variable (a : List X) (z : List (List X)) (j : Nat)
end
end Go.Proofs.YthphniobeigklaaGreatDoor

namespace Go.Proofs.YthphniobeigklaaGreatDoor.Ag
open Go Go.Em Go.Proofs.YthphniobeigklaaGreatDoor
set_option maxRecDepth 100000

theorem lexC_zero : ∀ (p q : List Int), lexC ordI p q = 0 → p = q
  | [], [], _ => rfl
  | [], _ :: _, h => by simp [lexC] at h
  | _ :: _, [], h => by simp [lexC] at h
  | a :: la, b :: lb, h => by
    unfold lexC at h
    split at h
    · rename_i h1
      rw [ordI_zero h1, lexC_zero la lb h]
    · rename_i h1
      exact absurd h h1
theorem cmpS_zero {a b : Stp} (h : cmpS a b = 0) : a = b := by
  obtain ⟨e, p⟩ := a
  obtain ⟨e', p'⟩ := b
  unfold cmpS at h
  simp only [orL] at h
  split at h
  · rename_i h1
    split at h
    · rename_i h2
      rw [ordI_zero h1, lexC_zero p p' h2]
    · rename_i h2
      exact absurd h h2
  · rename_i h1
    exact absurd h h1
def eqS (a b : Stp) : Bool := cmpS a b == 0
theorem eqS_iff (a b : Stp) : eqS a b = true ↔ a = b := ⟨fun h => cmpS_zero (by simpa [eqS] using h), fun h => by subst h; simp [eqS, cmpS_refl]⟩
def inS (p : Nat) : Stp := ⟨(p : Int) + 1, [1]⟩
theorem eqS_in (a b : Nat) : eqS (inS a) (inS b) = (a == b) := by
  rw [Bool.eq_iff_iff, eqS_iff]
  simp only [inS, beq_iff_eq, Stp.mk.injEq, and_true]
  omega
/-! ### Counts of a place -/
def cM (p : Nat) (M : List (Nat × Nat)) : Nat := M.countP fun m => m.1 == p
def cF (p : Nat) (F : List Fte) : Nat := F.countP fun f => eqS f.st (inS p)
def cG (p : Nat) (gs : List Ga) : Nat := (gs.map fun x => cM p x.M).sum
theorem cF_map (p : Nat) (q : Int) (M : List (Nat × Nat)) (g : Msg → Fte) (hg : ∀ m, (g m).st = m.st) : cF p ((M.map (msV q)).map g) = cM p M := by
  unfold cF cM
  rw [List.countP_map, List.countP_map]
  congr 1
  funext m
  show eqS (g (msV q m)).st (inS p) = _
  rw [hg]
  exact eqS_in ..
theorem cF_mrg (p : Nat) (q : Int) (M : List (Nat × Nat)) (nm : ByteArray) (s : Stp) : cF p (mrgF (M.map (msV q)) nm s) = cM p M := cF_map p q M _ fun _ => rfl
theorem cF_rej (p : Nat) (q : Int) (M : List (Nat × Nat)) (r : ByteArray) : cF p (rejF (M.map (msV q)) r) = cM p M := cF_map p q M _ fun _ => rfl
theorem cF_app (p : Nat) (a b : List Fte) : cF p (a ++ b) = cF p a + cF p b := List.countP_append
theorem cM_app (p : Nat) (a b : List (Nat × Nat)) : cM p (a ++ b) = cM p a + cM p b := List.countP_append
theorem cM_one (p : Nat) (m : Nat × Nat) : cM p [m] = if m.1 = p then 1 else 0 := by simp [cM, List.countP_cons]
theorem cF_one (p : Nat) (q : Int) (m : Nat × Nat) (r : ByteArray) : cF p (rejF [msV q m] r) = if m.1 = p then 1 else 0 := by rw [← cM_one]; exact cF_rej p q [m] r
theorem cF_none (p : Nat) (m : Nat × Nat) (r : ByteArray) : cF p (rejF [msN m] r) = if m.1 = p then 1 else 0 := by
  have h : cF p (rejF [msN m] r) = cF p (rejF [msV 0 m] r) := rfl
  rw [h, cF_one]
theorem cG_app (p : Nat) (a b : List Ga) : cG p (a ++ b) = cG p a + cG p b := by simp [cG]
theorem cG_split (p : Nat) (g : Int) (gs : List Ga) : cG p gs = cG p (gs.take (lowG g gs)) + cG p (if knG g gs then [getG g gs] else []) + cG p (gs.drop (lowG g gs + kn1 g gs)) := by
  conv => lhs; rw [split_at g gs]
  rw [cG_app, cG_app]
theorem cG_one (p : Nat) (x : Ga) : cG p [x] = cM p x.M := by simp [cG]
theorem cG_put (p : Nat) (x : Ga) (gs : List Ga) : cG p (putG x gs) + cM p (getG x.g gs).M = cG p gs + cM p x.M := by
  have e := cG_split p x.g gs
  rw [putG_eq, cG_app, cG_app, e, cG_one]
  cases hk : knG x.g gs with
  | true =>
    simp only [if_true]
    rw [cG_one]
    omega
  | false =>
    rw [getG_new hk]
    simp only [Bool.false_eq_true, if_false]
    have h0 : cG p [] = 0 := rfl
    have h2 : cM p [] = 0 := rfl
    omega
theorem cG_del {p : Nat} {g : Int} {gs : List Ga} (hk : knG g gs = true) : cG p (delG g gs) + cM p (getG g gs).M = cG p gs := by
  have e := cG_split p g gs
  have k1 : kn1 g gs = 1 := by unfold kn1; rw [hk]; rfl
  rw [e, k1, hk]
  unfold delG
  rw [cG_app]
  simp only [if_true]
  rw [cG_one]
  omega
theorem wait_count (p : Nat) (gs : List Ga) : (waitG gs).countP (fun m => eqS m.st (inS p)) = cG p gs := by
  induction gs with
  | nil => rfl
  | cons x r ih =>
    have e : waitG (x :: r) = x.M.map (msV x.g) ++ waitG r := by simp [waitG]
    have e2 : cG p (x :: r) = cM p x.M + cG p r := by simp [cG]
    rw [e, List.countP_append, ih, e2, List.countP_map]
    congr 1
    unfold cM
    congr 1
    funext m
    exact eqS_in ..
theorem ck_cnt {g0 : List Ga} {most : Int} {s : Stp} {c : Rs} {x : Ga} (p : Nat) (h : CkI g0 c) (hx : x ∈ c.gs) : cG p (clk1 most s c x).gs + cF p (clk1 most s c x).F = cG p c.gs + cF p c.F := by
  obtain ⟨hk, hg⟩ := kn_mem h.srt hx
  have hd := cG_del (p := p) hk
  rw [hg] at hd
  unfold clk1
  split
  · dsimp only
    rw [cF_app, cF_mrg]
    omega
  · dsimp only
    rw [cF_app, cF_rej]
    omega
theorem clk_cnt {g0 : List Ga} {most : Int} {s : Stp} (p : Nat) : ∀ (E : List Ga) (c : Rs), CkI g0 c → (∀ x, x ∈ E → x ∈ c.gs ∧ x.M ≠ []) → (E.Pairwise fun a b => a.g ≠ b.g) →
    cG p (E.foldl (clk1 most s) c).gs + cF p (E.foldl (clk1 most s) c).F = cG p c.gs + cF p c.F
  | [], c, _, _, _ => rfl
  | x :: E, c, h, hx, hp => by
    obtain ⟨hx1, hxE⟩ := hx x List.mem_cons_self
    have hp2 := List.pairwise_cons.1 hp
    have h1 := clk1_I (most := most) (s := s) h hx1 hxE
    have ih := clk_cnt (most := most) (s := s) p E (clk1 most s c x) h1 (fun y hy => by
      have hy2 := hx y (List.mem_cons_of_mem _ hy)
      refine ⟨?_, hy2.2⟩
      rw [clk1_gs]
      exact (del_mem h.srt hx1).2 ⟨hy2.1, fun e => hp2.1 y hy e.symm⟩) hp2.2
    rw [List.foldl_cons, ih]
    exact ck_cnt p h hx1
def inC (p : Nat) (x : Iv) : Nat := match x.v with
  | .c => 0
  | .m _ _ => if x.i = p then 1 else 0
theorem stp_cnt (p : Nat) {P : Pr} {gs : List Ga} {x : Iv} (h : GsI gs x.i) : cG p (stpI P gs x).gs + cF p (stpI P gs x).F = cG p gs + inC p x := by
  obtain ⟨i, now, v⟩ := x
  dsimp only at h
  unfold stpI inC
  cases v with
  | c =>
    dsimp only
    have h2 := clk_cnt (most := P.most) (s := clS i) (g0 := gs) p (exG now gs) ⟨gs, [], [], []⟩ ⟨h.srt, fun x hx => hx, Nat.le_refl _, rfl, Nat.le_refl 0, Nat.le_refl 0⟩ (fun x hx => ⟨(exG_mem x hx).1, h.ne x (exG_mem x hx).1⟩) (exG_ne h.srt)
    have h0 : cF p ([] : List Fte) = 0 := rfl
    unfold clkR
    rw [h2]
    dsimp only
    omega
  | m o n =>
    cases o with
    | none =>
      show cG p gs + cF p (rejF [msN (i, n)] (errT 49 57)) = cG p gs + if i = p then 1 else 0
      rw [cF_none]
    | some q =>
      dsimp only
      have hrej : ∀ r, cG p gs + cF p (rejF [msV q (i, n)] r) = cG p gs + if i = p then 1 else 0 := fun r => by rw [cF_one]
      have hadd : cM p (addM gs q (i, n)) = cM p (getG q gs).M + if i = p then 1 else 0 := by
        unfold addM
        rw [cM_app, cM_one]
      have hput := cG_put p ⟨q, if knG q gs = true then (getG q gs).t else tNew P.ti now, addM gs q (i, n)⟩ gs
      unfold stpM
      split
      · exact hrej _
      · split
        · exact hrej _
        · split
          · have hgs : cG p (if knG q gs = true then delG q gs else gs) + cM p (getG q gs).M = cG p gs := by
              rcases getG_cases q gs with ⟨hk, _, _⟩ | ⟨hk, e⟩
              · rw [hk, if_pos rfl]
                exact cG_del hk
              · rw [hk, if_neg (by simp), e]
                rfl
            unfold finR
            split
            · dsimp only
              rw [cF_mrg]
              omega
            · dsimp only
              rw [cF_rej]
              omega
          · dsimp only at hput ⊢
            have h0 : cF p ([] : List Fte) = 0 := rfl
            omega
def totF (p : Nat) (l : List Rs) : Nat := (l.map fun r => cF p r.F).sum
theorem tot_cnt (p : Nat) {P : Pr} (hP : P.ok) : ∀ (xs : List Iv) (gs : List Ga) (k : Nat), GsI gs k → IvsOk xs → (∀ x, x ∈ xs → k ≤ x.i) → totF p (rnL (stpI P) gs xs) + cG p (stL (stpI P) gs xs) = cG p gs + (xs.map (inC p)).sum
  | [], gs, k, h, _, _ => by simp [totF, rnL, stL]
  | x :: r, gs, k, h, hx, hk => by
    have hx0 := hx.ok x List.mem_cons_self
    have hk0 := hk x List.mem_cons_self
    have h0 := h.mono hk0
    have hs := stpI_ok hP h0 hx0
    have hp := List.pairwise_cons.1 hx.inc
    have ih := tot_cnt p hP r (stpI P gs x).gs (x.i + 1) hs.I ⟨fun y hy => hx.ok y (List.mem_cons_of_mem _ hy), hp.2⟩ (fun y hy => hp.1 y hy)
    have h1 := stp_cnt p (P := P) h0
    have e1 : totF p (rnL (stpI P) gs (x :: r)) = cF p (stpI P gs x).F + totF p (rnL (stpI P) (stpI P gs x).gs r) := by simp [totF, rnL]
    have e2 : stL (stpI P) gs (x :: r) = stL (stpI P) (stpI P gs x).gs r := rfl
    rw [e1, e2, List.map_cons, List.sum_cons]
    omega
theorem inC_lt (p : Nat) : ∀ (xs : List Iv), (∀ x, x ∈ xs → p < x.i) → (xs.map (inC p)).sum = 0
  | [], _ => rfl
  | x :: r, h => by
    have h1 := h x List.mem_cons_self
    have h2 : inC p x = 0 := by
      unfold inC
      split
      · rfl
      · exact if_neg (by omega)
    rw [List.map_cons, List.sum_cons, h2, inC_lt p r fun y hy => h y (List.mem_cons_of_mem _ hy)]
theorem inC_one : ∀ (xs : List Iv), (xs.Pairwise fun a b => a.i < b.i) → ∀ x, x ∈ xs → x.v ≠ .c → (xs.map (inC x.i)).sum = 1
  | [], _, x, h, _ => nomatch h
  | y :: r, hp, x, hx, hv => by
    have hp2 := List.pairwise_cons.1 hp
    rw [List.map_cons, List.sum_cons]
    rcases List.mem_cons.1 hx with rfl | hx
    · rw [inC_lt x.i r hp2.1]
      unfold inC
      split
      · rename_i e
        exact absurd e hv
      · rw [if_pos rfl]
    · have h1 := hp2.1 x hx
      have h2 : inC x.i y = 0 := by
        unfold inC
        split
        · rfl
        · exact if_neg (by omega)
      rw [h2, inC_one r hp2.2 x hx hv]
/-- One fate, or it waits. -/
theorem once_at {P : Pr} (hP : P.ok) {xs : List Iv} (hx : IvsOk xs) {x : Iv} (hm : x ∈ xs) (hv : x.v ≠ .c) : totF x.i (rnL (stpI P) [] xs) + (waitG (stL (stpI P) [] xs)).countP (fun m => eqS m.st (inS x.i)) = 1 := by
  have h := tot_cnt x.i hP xs [] 0 GsI.nil hx (fun _ _ => Nat.zero_le _)
  have h0 : cG x.i [] = 0 := rfl
  rw [wait_count, h, h0, inC_one xs hx.inc x hm hv]
/-! ### Members -/
def selP (s : Stp) (f : Fte) : Bool := f.kind == 2 && (match f.into with
  | [a] => eqS a s
  | _ => false)
def selF (s : Stp) : List Fte → List Int
  | [] => []
  | f :: r => if selP s f then f.st.e :: selF s r else selF s r
theorem selF_app (s : Stp) (b : List Fte) : ∀ a : List Fte, selF s (a ++ b) = selF s a ++ selF s b
  | [] => rfl
  | f :: r => by
    show (if selP s f then f.st.e :: selF s (r ++ b) else selF s (r ++ b)) = (if selP s f then f.st.e :: selF s r else selF s r) ++ selF s b
    rw [selF_app s b r]
    split <;> rfl
theorem selF_mrg (q : Int) (nm : ByteArray) (s : Stp) : ∀ M : List (Nat × Nat), selF s (mrgF (M.map (msV q)) nm s) = zsM M
  | [] => rfl
  | m :: r => by
    have ih := selF_mrg q nm s r
    have h : selP s (Fte.mk (msV q m).st 2 nm [s] ⟨#[]⟩) = true := by simp [selP, (eqS_iff s s).2 rfl]
    show (if selP s (Fte.mk (msV q m).st 2 nm [s] ⟨#[]⟩) then (msV q m).st.e :: selF s (mrgF (r.map (msV q)) nm s) else _) = _
    rw [if_pos h, ih]
    rfl
theorem selF_ne (nm : ByteArray) (s t : Stp) (hst : t ≠ s) : ∀ ms : List Msg, selF s (mrgF ms nm t) = []
  | [] => rfl
  | m :: r => by
    have ih := selF_ne nm s t hst r
    have h : selP s (Fte.mk m.st 2 nm [t] ⟨#[]⟩) = false := by
      have : eqS t s = false := by
        cases h : eqS t s with
        | false => rfl
        | true => exact absurd ((eqS_iff t s).1 h) hst
      simp [selP, this]
    show (if selP s (Fte.mk m.st 2 nm [t] ⟨#[]⟩) then m.st.e :: selF s (mrgF r nm t) else selF s (mrgF r nm t)) = _
    rw [if_neg (by simp [h]), ih]
theorem selF_rej (r : ByteArray) (s : Stp) : ∀ ms : List Msg, selF s (rejF ms r) = []
  | [] => rfl
  | m :: l => by
    have ih := selF_rej r s l
    exact ih
theorem undS_inj {t : Stp} {a b : Nat} (h : undS t a = undS t b) : a = b := by
  have h1 := congrArg Stp.p h
  have h2 : t.p ++ [(a : Int)] = t.p ++ [(b : Int)] := h1
  have h3 := List.append_cancel_left h2
  have h4 : (a : Int) = b := by simpa using h3
  omega
/-- Fates as the code writes them. -/
def FteK (f : Fte) : Prop := (f.kind = 4 ∧ f.into = []) ∨ (f.kind = 2 ∧ ∃ a, f.into = [a])
structure OutI (t : Stp) (O : List Otp) (F : List Fte) : Prop where
  out : ∀ k (h : k < O.length), O[k].m.st = undS t k ∧ selF (undS t k) F = O[k].m.orig
  fat : ∀ f, f ∈ F → f.kind = 2 → ∃ k, k < O.length ∧ f.into = [undS t k]
  knd : ∀ f, f ∈ F → FteK f
  sts : ∀ f, f ∈ F → f.st.p.length ≤ 5
theorem OutI.nil (t : Stp) : OutI t [] [] := ⟨(fun _ h => nomatch h), (fun _ h => nomatch h), (fun _ h => nomatch h), (fun _ h => nomatch h)⟩
theorem msV_short (q : Int) (M : List (Nat × Nat)) : ∀ m, m ∈ M.map (msV q) → m.st.p.length ≤ 5 := fun m hm => by
  obtain ⟨p, _, rfl⟩ := List.mem_map.1 hm
  show [(1 : Int)].length ≤ 5
  decide
theorem OutI.none {t : Stp} {O : List Otp} {F : List Fte} (h : OutI t O F) : selF (undS t O.length) F = [] := by
  have : ∀ l : List Fte, (∀ f, f ∈ l → f ∈ F) → selF (undS t O.length) l = [] := by
    intro l
    induction l with
    | nil => intro _; rfl
    | cons f r ih =>
      intro hl
      have h1 : selP (undS t O.length) f = false := by
        have hf := hl f List.mem_cons_self
        rcases h.knd f hf with ⟨h2, _⟩ | ⟨h2, _⟩
        · simp [selP, h2]
        · obtain ⟨k, hk, h3⟩ := h.fat f hf h2
          have h4 : eqS (undS t k) (undS t O.length) = false := by
            cases h5 : eqS (undS t k) (undS t O.length) with
            | false => rfl
            | true =>
              have := undS_inj ((eqS_iff _ _).1 h5)
              omega
          simp [selP, h3, h4]
      show (if selP (undS t O.length) f then _ else selF (undS t O.length) r) = []
      rw [if_neg (by simp [h1])]
      exact ih fun g hg => hl g (List.mem_cons_of_mem _ hg)
  exact this F fun f hf => hf
theorem OutI.mrg {t : Stp} {O : List Otp} {F : List Fte} (h : OutI t O F) (q : Int) (M : List (Nat × Nat)) (nm : ByteArray) : OutI t (O ++ [⟨0, mrgM q M (undS t O.length)⟩]) (F ++ mrgF (M.map (msV q)) nm (undS t O.length)) := by
  refine ⟨fun k hk => ?_, fun f hf h2 => ?_, fun f hf => ?_, fun f hf => ?_⟩
  · rw [List.length_append, List.length_singleton] at hk
    rw [selF_app]
    by_cases hlt : k < O.length
    · rw [List.getElem_append_left hlt, selF_ne nm _ _ (fun e => by have := undS_inj e; omega), List.append_nil]
      exact h.out k hlt
    · obtain rfl : k = O.length := by omega
      rw [h.none, List.nil_append, selF_mrg, List.getElem_append_right (Nat.le_refl _)]
      simp only [Nat.sub_self, List.getElem_cons_zero]
      exact ⟨rfl, rfl⟩
  · rw [List.length_append, List.length_singleton]
    rcases List.mem_append.1 hf with hf | hf
    · obtain ⟨k, hk, e⟩ := h.fat f hf h2
      exact ⟨k, by omega, e⟩
    · obtain ⟨m, _, rfl⟩ := List.mem_map.1 hf
      exact ⟨O.length, by omega, rfl⟩
  · rcases List.mem_append.1 hf with hf | hf
    · exact h.knd f hf
    · obtain ⟨m, _, rfl⟩ := List.mem_map.1 hf
      exact .inr ⟨rfl, _, rfl⟩
  · rcases List.mem_append.1 hf with hf | hf
    · exact h.sts f hf
    · obtain ⟨m, hm, rfl⟩ := List.mem_map.1 hf
      exact msV_short q M m hm
theorem OutI.rej {t : Stp} {O : List Otp} {F : List Fte} (h : OutI t O F) (ms : List Msg) (hms : ∀ m, m ∈ ms → m.st.p.length ≤ 5) (r : ByteArray) : OutI t O (F ++ rejF ms r) := by
  refine ⟨fun k hk => ?_, fun f hf h2 => ?_, fun f hf => ?_, fun f hf => ?_⟩
  · rw [selF_app, selF_rej, List.append_nil]
    exact h.out k hk
  · rcases List.mem_append.1 hf with hf | hf
    · exact h.fat f hf h2
    · obtain ⟨m, _, rfl⟩ := List.mem_map.1 hf
      cases h2
  · rcases List.mem_append.1 hf with hf | hf
    · exact h.knd f hf
    · obtain ⟨m, _, rfl⟩ := List.mem_map.1 hf
      exact .inl ⟨rfl, rfl⟩
  · rcases List.mem_append.1 hf with hf | hf
    · exact h.sts f hf
    · obtain ⟨m, hm, rfl⟩ := List.mem_map.1 hf
      exact hms m hm
theorem clk_out {most : Int} {t : Stp} : ∀ (E : List Ga) (c : Rs), OutI t c.O c.F → OutI t (E.foldl (clk1 most t) c).O (E.foldl (clk1 most t) c).F
  | [], c, h => h
  | x :: E, c, h => by
    rw [List.foldl_cons]
    refine clk_out E _ ?_
    unfold clk1
    split
    · exact h.mrg x.g x.M aggT
    · exact h.rej _ (msV_short x.g x.M) _
/-- The stamp of an input. -/
def ivS (x : Iv) : Stp := match x.v with
  | .c => clS x.i
  | .m _ _ => inS x.i
theorem stp_out (P : Pr) (gs : List Ga) (x : Iv) : OutI (ivS x) (stpI P gs x).O (stpI P gs x).F := by
  obtain ⟨i, now, v⟩ := x
  unfold stpI ivS
  cases v with
  | c => exact clk_out (exG now gs) ⟨gs, [], [], []⟩ (OutI.nil _)
  | m o n =>
    cases o with
    | none => exact (OutI.nil (inS i)).rej [msN (i, n)] (fun m hm => by rw [List.mem_singleton.1 hm]; show [(1 : Int)].length ≤ 5; decide) _
    | some q =>
      dsimp only
      unfold stpM
      split
      · exact (OutI.nil (inS i)).rej [msV q (i, n)] (msV_short q [(i, n)]) _
      · split
        · exact (OutI.nil (inS i)).rej [msV q (i, n)] (msV_short q [(i, n)]) _
        · split
          · unfold finR
            split
            · exact (OutI.nil (inS i)).mrg q (addM gs q (i, n)) aggT
            · exact (OutI.nil (inS i)).rej _ (msV_short q (addM gs q (i, n))) _
          · exact OutI.nil _
end Go.Proofs.YthphniobeigklaaGreatDoor.Ag

namespace Go.Proofs.YthphniobeigklaaGreatDoor.Ag
open Go Go.Em Go.Proofs.YthphniobeigklaaGreatDoor
set_option maxRecDepth 100000

section
variable (es : List (List X)) (se mm a1 a2 a3 : Int) (sp og : List Int) (a4 : ByteArray) (a5 : List Val) (a6 : List (ByteArray × Val)) (n j : Nat) (N : Nat)
def meB : List X := [num se, .sl false 1 (intsC sp), num mm, .sl false 1 (intsC og), num a1, num a2, num a3, strX a4, .sl false 6 (cellsL a5), .sl false 7 (cellsF a6)]
def meH : St := ⟨[(0, .sl false 6 es), (3, .ptr 0 0 0), (5, nat n), (6, nat j)], [.var (meB se mm a1 a2 a3 sp og a4 a5 a6)]⟩
def meE : St := ⟨[(0, .sl false 6 es), (3, .ptr 0 0 0), (5, nat n), (6, nat j), (10, boolX false)], [.var (meB se mm a1 a2 a3 sp og a4 a5 a6)]⟩
theorem me_canon : canon 0 (meH es se mm a1 a2 a3 sp og a4 a5 a6 n j) = some (meH es se mm a1 a2 a3 sp og a4 a5 a6 n j) := by kernel_rfl
theorem me_end (h : ¬ j < es.length) : run (callF tab ext N) 0 N (loopAt 23 0) (meH es se mm a1 a2 a3 sp og a4 a5 a6 n j) = some (.exit 0, meE es se mm a1 a2 a3 sp og a4 a5 a6 n j) :=
  run_of [(10, .b false)] [] (pf1 (nlt_nat h)) (lo' := []) (by kernel_rfl)
variable (e : Int) (fp : List (List X)) (nm tx : ByteArray) (hj : j < es.length) (hj2 : j < 10000)
include hj hj2
theorem me_4 (hf : es[j]? = some [num e, .sl false 1 fp, num 4, strX nm, .sl false 2 [], strX tx]) :
    ∃ υ, run (callF tab ext N) 0 N (loopAt 23 0) (meH es se mm a1 a2 a3 sp og a4 a5 a6 n j) = some (.norm, υ) ∧ canon 0 υ = some (meH es se mm a1 a2 a3 sp og a4 a5 a6 n (j + 1)) :=
  rd_of [(10, .b true), (15, .e [num e, .sl false 1 fp, num 4, strX nm, .sl false 2 [], strX tx]), (12, .i (Int.ofNat (j + 1)))] (pf3 (lt_nat hj) hf (next_nat (j := j) (by omega))) (by kernel_rfl)
variable (ae : Int) (ap : List (List X)) (hf : es[j]? = some [num e, .sl false 1 fp, num 2, strX nm, .sl false 2 [[num ae, .sl false 1 ap]], strX tx])
include hf
theorem me_ne (h21 : Gam.pureD (callF tab ext N) 21 [.agg [num ae, .sl false 1 ap], .agg [num se, .sl false 1 (intsC sp)]] = some (boolX false)) :
    ∃ υ, run (callF tab ext N) 0 N (loopAt 23 0) (meH es se mm a1 a2 a3 sp og a4 a5 a6 n j) = some (.norm, υ) ∧ canon 0 υ = some (meH es se mm a1 a2 a3 sp og a4 a5 a6 n (j + 1)) :=
  rd_of [(10, .b true), (15, .e [num e, .sl false 1 fp, num 2, strX nm, .sl false 2 [[num ae, .sl false 1 ap]], strX tx]), (22, .e [num e, .sl false 1 fp, num 2, strX nm, .sl false 2 [[num ae, .sl false 1 ap]], strX tx]), (31, .e [num e, .sl false 1 fp, num 2, strX nm, .sl false 2 [[num ae, .sl false 1 ap]], strX tx]), (38, .p (boolX false)), (12, .i (Int.ofNat (j + 1)))] (pf6 (lt_nat hj) hf hf hf h21 (next_nat (j := j) (by omega))) (by kernel_rfl)
theorem me_eq (h21 : Gam.pureD (callF tab ext N) 21 [.agg [num ae, .sl false 1 ap], .agg [num se, .sl false 1 (intsC sp)]] = some (boolX true)) (hn : n < (intsC og).length) (hn2 : n < 10000) (ho : (intsC og)[n]? = some [num e]) :
    ∃ υ, run (callF tab ext N) 0 N (loopAt 23 0) (meH es se mm a1 a2 a3 sp og a4 a5 a6 n j) = some (.norm, υ) ∧ canon 0 υ = some (meH es se mm a1 a2 a3 sp og a4 a5 a6 (n + 1) (j + 1)) := by
  have h2 : decide (Int.ofNat n ≥ Int.ofNat (intsC og).length) = false := decide_eq_false (by simp only [Int.ofNat_eq_natCast]; omega)
  have h3 : (e != e) = false := by simp
  exact rd_of [(10, .b true), (15, .e [num e, .sl false 1 fp, num 2, strX nm, .sl false 2 [[num ae, .sl false 1 ap]], strX tx]), (22, .e [num e, .sl false 1 fp, num 2, strX nm, .sl false 2 [[num ae, .sl false 1 ap]], strX tx]), (31, .e [num e, .sl false 1 fp, num 2, strX nm, .sl false 2 [[num ae, .sl false 1 ap]], strX tx]), (38, .p (boolX true)), (44, .b false), (49, .e [num e]), (53, .e [num e, .sl false 1 fp, num 2, strX nm, .sl false 2 [[num ae, .sl false 1 ap]], strX tx]), (57, .b false), (60, .i (Int.ofNat (n + 1))), (12, .i (Int.ofNat (j + 1)))] (pf11 (lt_nat hj) hf hf hf h21 h2 ho hf h3 (next_nat (j := n) (by omega)) (next_nat (j := j) (by omega))) (by kernel_rfl)
end
theorem selF_take (s : Stp) (F : List Fte) (j : Nat) (h : j < F.length) : selF s (F.take (j + 1)) = selF s (F.take j) ++ (if selP s F[j] then [F[j].st.e] else []) := by
  rw [List.take_succ_eq_append_getElem h, selF_app]
  rfl
theorem selF_at {s : Stp} {F : List Fte} {j : Nat} (h : j < F.length) (hp : selP s F[j] = true) : (selF s F)[(selF s (F.take j)).length]? = some F[j].st.e := by
  have e : selF s F = selF s (F.take (j + 1)) ++ selF s (F.drop (j + 1)) := by rw [← selF_app, List.take_append_drop]
  rw [e, selF_take s F j h, if_pos hp, List.append_assoc, List.getElem?_append_right (Nat.le_refl _), Nat.sub_self]
  rfl
/-- The members of an output of a step. -/
theorem members23 {t : Stp} {O : List Otp} {F : List Fte} (h : OutI t O F) (ht : t.p.length ≤ 9) (hl : F.length < 1000) (m : Msg) (hm : selF m.st F = m.orig) (N : Nat) (hN : 1100 ≤ N) :
    Gam.pureD (callF tab ext N) 23 [.sl false 6 (ftesC F), .agg m.cells] = some (boolX true) := by
  obtain ⟨M, rfl⟩ : ∃ M, N = M + 1 := ⟨N - 1, by omega⟩
  have hfl := ftesC_length F
  obtain ⟨⟨se, sp⟩, mm, og, ⟨a1, a2, a3, a4, a5, a6⟩⟩ := m
  dsimp only at hm
  have hloop : run (callF tab ext M) 0 M (.loop (loopAt 23 0)) (meH (ftesC F) se mm a1 a2 a3 sp og a4 a5 a6 0 0) = some (.exit 0, meE (ftesC F) se mm a1 a2 a3 sp og a4 a5 a6 og.length F.length) := by
    refine loop_for (σ := fun j => meH (ftesC F) se mm a1 a2 a3 sp og a4 a5 a6 (selF ⟨se, sp⟩ (F.take j)).length j) (k := F.length) (me_canon ..) (fun j hj => ?_) ?_ (by simp) (by omega)
    · have hmem := List.getElem_mem hj
      have hg := ftesC_get hj
      have hft := h.fat F[j] hmem
      rw [selF_take _ _ _ hj]
      rcases h.knd F[j] hmem with ⟨h1, h2⟩ | ⟨h1, a, h2⟩
      · have hp : selP ⟨se, sp⟩ F[j] = false := by simp [selP, h1]
        rw [if_neg (by simp [hp]), List.append_nil]
        generalize F[j] = f at h1 h2 hg
        obtain ⟨⟨e, fp⟩, kd, nm, it, tx⟩ := f
        dsimp only at h1 h2
        subst h1 h2
        exact me_4 (ftesC F) se mm a1 a2 a3 sp og a4 a5 a6 _ j M e (intsC fp) nm tx (by omega) (by omega) hg
      · obtain ⟨k, _, h3⟩ := hft h1
        have hap : a.p.length ≤ 10 := by
          have h4 : [a] = [undS t k] := by rw [← h2, h3]
          have h5 : a = undS t k := by simpa using h4
          rw [h5]
          show (t.p ++ [(k : Int)]).length ≤ 10
          rw [List.length_append, List.length_singleton]
          omega
        have h21 := eq_stamp M a ⟨se, sp⟩ (by omega) (by omega)
        have hp : selP ⟨se, sp⟩ F[j] = eqS a ⟨se, sp⟩ := by simp [selP, h1, h2]
        have hat := selF_at (s := ⟨se, sp⟩) hj
        rw [hp] at hat ⊢
        change Gam.pureD (callF tab ext M) 21 [.agg a.cells, .agg (Stp.mk se sp).cells] = some (boolX (eqS a ⟨se, sp⟩)) at h21
        rw [hm] at hat
        have hnl : (selF ⟨se, sp⟩ (F.take j)).length ≤ F.length := by
          have : ∀ l : List Fte, (selF ⟨se, sp⟩ l).length ≤ l.length := by
            intro l
            induction l with
            | nil => exact Nat.le_refl 0
            | cons f r ih =>
              show (if selP ⟨se, sp⟩ f then f.st.e :: selF ⟨se, sp⟩ r else selF ⟨se, sp⟩ r).length ≤ r.length + 1
              split
              · rw [List.length_cons]; omega
              · omega
          have h1 := this (F.take j)
          rw [List.length_take] at h1
          omega
        generalize F[j] = f at h1 h2 hg hat ⊢
        cases hb : eqS a ⟨se, sp⟩ with
        | false =>
          rw [hb] at h21
          rw [if_neg (by simp), List.append_nil]
          obtain ⟨⟨e, fp⟩, kd, nm, it, tx⟩ := f
          obtain ⟨ae, ap⟩ := a
          dsimp only at h1 h2
          subst h1 h2
          exact me_ne (ftesC F) se mm a1 a2 a3 sp og a4 a5 a6 _ j M e (intsC fp) nm tx (by omega) (by omega) ae (intsC ap) hg h21
        | true =>
          rw [hb] at h21
          have hat := hat hb
          rw [if_pos rfl, List.length_append, List.length_singleton]
          generalize (selF ⟨se, sp⟩ (F.take j)).length = n at hat hnl ⊢
          have hlt : n < og.length := (List.getElem?_eq_some_iff.1 hat).1
          have ho : (intsC og)[n]? = some [num f.st.e] := by
            unfold intsC
            rw [List.getElem?_map, hat]
            rfl
          obtain ⟨⟨e, fp⟩, kd, nm, it, tx⟩ := f
          obtain ⟨ae, ap⟩ := a
          dsimp only at h1 h2
          subst h1 h2
          exact me_eq (ftesC F) se mm a1 a2 a3 sp og a4 a5 a6 n j M e (intsC fp) nm tx (by omega) (by omega) ae (intsC ap) hg h21 (by simp [intsC]; omega) (by omega) ho
    · rw [List.take_length, hm]
      exact me_end (ftesC F) se mm a1 a2 a3 sp og a4 a5 a6 _ _ M (by omega)
  have h65 : (Int.ofNat og.length == Int.ofNat (intsC og).length) = true := by simp [intsC]
  generalize ftesC F = es at *
  generalize og.length = n at *
  exact pure_of [(65, .b true)] [(.exit 0, meE es se mm a1 a2 a3 sp og a4 a5 a6 n F.length)] (pf2 hloop h65) (x := boolX true) (bx := []) (by kernel_rfl) rfl
end Go.Proofs.YthphniobeigklaaGreatDoor.Ag

namespace Go.Proofs.YthphniobeigklaaGreatDoor.Ag
open Go Go.Em Go.Proofs.YthphniobeigklaaGreatDoor
set_option maxRecDepth 100000

section
variable (ins rs ws : List (List X)) (i n k j : Nat) (N : Nat)
def oiH : St := ⟨[(5, .sl false 23 ins), (6, .sl false 7 rs), (8, .sl false 10 ws), (9, nat i)], []⟩
def oiE : St := ⟨[(5, .sl false 23 ins), (6, .sl false 7 rs), (8, .sl false 10 ws), (9, nat i), (40, boolX false)], []⟩
def okH : St := ⟨[(5, .sl false 23 ins), (6, .sl false 7 rs), (8, .sl false 10 ws), (9, nat i), (10, nat n), (11, nat k)], []⟩
def okE : St := ⟨[(5, .sl false 23 ins), (6, .sl false 7 rs), (8, .sl false 10 ws), (9, nat i), (10, nat n), (11, nat k), (52, boolX false)], []⟩
def ojH : St := ⟨[(5, .sl false 23 ins), (6, .sl false 7 rs), (8, .sl false 10 ws), (9, nat i), (10, nat n), (11, nat k), (12, nat j)], []⟩
def ojE : St := ⟨[(5, .sl false 23 ins), (6, .sl false 7 rs), (8, .sl false 10 ws), (9, nat i), (10, nat n), (11, nat k), (12, nat j), (62, boolX false)], []⟩
def owH : St := ⟨[(5, .sl false 23 ins), (6, .sl false 7 rs), (8, .sl false 10 ws), (9, nat i), (10, nat n), (13, nat k)], []⟩
def owE : St := ⟨[(5, .sl false 23 ins), (6, .sl false 7 rs), (8, .sl false 10 ws), (9, nat i), (10, nat n), (13, nat k), (85, boolX false)], []⟩
theorem oi_canon : canon 0 (oiH ins rs ws i) = some (oiH ins rs ws i) := by kernel_rfl
theorem ok_canon : canon 0 (okH ins rs ws i n k) = some (okH ins rs ws i n k) := by kernel_rfl
theorem oj_canon : canon 0 (ojH ins rs ws i n k j) = some (ojH ins rs ws i n k j) := by kernel_rfl
theorem ow_canon : canon 0 (owH ins rs ws i n k) = some (owH ins rs ws i n k) := by kernel_rfl
theorem oi_end (h : ¬ i < ins.length) : run (callF tab ext N) 0 N (loopAt 6 0) (oiH ins rs ws i) = some (.exit 0, oiE ins rs ws i) :=
  run_of [(40, .b false)] [] (pf1 (nlt_nat h)) (lo' := []) (by kernel_rfl)
theorem ok_end (h : ¬ k < rs.length) : run (callF tab ext N) 0 N (loopAt 6 1) (okH ins rs ws i n k) = some (.exit 2, okE ins rs ws i n k) :=
  run_of [(52, .b false)] [] (pf1 (nlt_nat h)) (lo' := []) (by kernel_rfl)
theorem ow_end (h : ¬ k < ws.length) : run (callF tab ext N) 0 N (loopAt 6 3) (owH ins rs ws i n k) = some (.exit 6, owE ins rs ws i n k) :=
  run_of [(85, .b false)] [] (pf1 (nlt_nat h)) (lo' := []) (by kernel_rfl)
section
variable (ss os F L : List (List X)) (hr : rs[k]? = some [num 0, num 0, .sl false 10 ss, .sl false 11 os, .sl false 11 [], .sl false 6 F, .sl false 10 L])
include hr
theorem oj_end (h : ¬ j < F.length) : run (callF tab ext N) 0 N (loopAt 6 2) (ojH ins rs ws i n k j) = some (.exit 4, ojE ins rs ws i n k j) :=
  run_of [(58, .e [num 0, num 0, .sl false 10 ss, .sl false 11 os, .sl false 11 [], .sl false 6 F, .sl false 10 L]), (62, .b false)] [] (pf2 hr (nlt_nat h)) (lo' := []) (by kernel_rfl)
variable (e kd : Int) (fp it rest : List (List X)) (nm tx : ByteArray) (hj : j < F.length) (hj2 : j < 10000) (hf : F[j]? = some [num e, .sl false 1 fp, num kd, strX nm, .sl false 2 it, strX tx])
variable (now : Int) (xi : Nat) (row : List X) (he : ins[i]? = some (num 1 :: num now :: nat (xi + 1) :: .sl true 1 [[num 1]] :: row))
include hj hj2 hf he
theorem oj_y (hn : n < 10000) (h21 : Gam.pureD (callF tab ext N) 21 [.agg [num e, .sl false 1 fp], .agg [nat (xi + 1), .sl false 1 [[num 1]]]] = some (boolX true)) :
    ∃ υ, run (callF tab ext N) 0 N (loopAt 6 2) (ojH ins rs ws i n k j) = some (.norm, υ) ∧ canon 0 υ = some (ojH ins rs ws i (n + 1) k (j + 1)) :=
  rd_of [(58, .e [num 0, num 0, .sl false 10 ss, .sl false 11 os, .sl false 11 [], .sl false 6 F, .sl false 10 L]), (62, .b true), (67, .e [num 0, num 0, .sl false 10 ss, .sl false 11 os, .sl false 11 [], .sl false 6 F, .sl false 10 L]), (71, .e [num e, .sl false 1 fp, num kd, strX nm, .sl false 2 it, strX tx]), (76, .e (num 1 :: num now :: nat (xi + 1) :: .sl true 1 [[num 1]] :: row)), (79, .p (boolX true)), (81, .i (Int.ofNat (n + 1))), (64, .i (Int.ofNat (j + 1)))] (pf8 hr (lt_nat hj) hr hf he h21 (next_nat (j := n) (by omega)) (next_nat (j := j) (by omega))) (by kernel_rfl)
theorem oj_n (h21 : Gam.pureD (callF tab ext N) 21 [.agg [num e, .sl false 1 fp], .agg [nat (xi + 1), .sl false 1 [[num 1]]]] = some (boolX false)) :
    ∃ υ, run (callF tab ext N) 0 N (loopAt 6 2) (ojH ins rs ws i n k j) = some (.norm, υ) ∧ canon 0 υ = some (ojH ins rs ws i n k (j + 1)) :=
  rd_of [(58, .e [num 0, num 0, .sl false 10 ss, .sl false 11 os, .sl false 11 [], .sl false 6 F, .sl false 10 L]), (62, .b true), (67, .e [num 0, num 0, .sl false 10 ss, .sl false 11 os, .sl false 11 [], .sl false 6 F, .sl false 10 L]), (71, .e [num e, .sl false 1 fp, num kd, strX nm, .sl false 2 it, strX tx]), (76, .e (num 1 :: num now :: nat (xi + 1) :: .sl true 1 [[num 1]] :: row)), (79, .p (boolX false)), (64, .i (Int.ofNat (j + 1)))] (pf7 hr (lt_nat hj) hr hf he h21 (next_nat (j := j) (by omega))) (by kernel_rfl)
end
section
variable (e : Int) (fp : List (List X)) (mr : List X) (hk : k < ws.length) (hk2 : k < 10000) (hm : ws[k]? = some (num e :: .sl false 1 fp :: mr))
variable (now : Int) (xi : Nat) (row : List X) (he : ins[i]? = some (num 1 :: num now :: nat (xi + 1) :: .sl true 1 [[num 1]] :: row))
include hk hk2 hm he
theorem ow_y (hn : n < 10000) (h21 : Gam.pureD (callF tab ext N) 21 [.agg [num e, .sl false 1 fp], .agg [nat (xi + 1), .sl false 1 [[num 1]]]] = some (boolX true)) :
    ∃ υ, run (callF tab ext N) 0 N (loopAt 6 3) (owH ins rs ws i n k) = some (.norm, υ) ∧ canon 0 υ = some (owH ins rs ws i (n + 1) (k + 1)) :=
  rd_of [(85, .b true), (90, .e (num e :: .sl false 1 fp :: mr)), (95, .e (num 1 :: num now :: nat (xi + 1) :: .sl true 1 [[num 1]] :: row)), (98, .p (boolX true)), (100, .i (Int.ofNat (n + 1))), (87, .i (Int.ofNat (k + 1)))] (pf6 (lt_nat hk) hm he h21 (next_nat (j := n) (by omega)) (next_nat (j := k) (by omega))) (by kernel_rfl)
theorem ow_n (h21 : Gam.pureD (callF tab ext N) 21 [.agg [num e, .sl false 1 fp], .agg [nat (xi + 1), .sl false 1 [[num 1]]]] = some (boolX false)) :
    ∃ υ, run (callF tab ext N) 0 N (loopAt 6 3) (owH ins rs ws i n k) = some (.norm, υ) ∧ canon 0 υ = some (owH ins rs ws i n (k + 1)) :=
  rd_of [(85, .b true), (90, .e (num e :: .sl false 1 fp :: mr)), (95, .e (num 1 :: num now :: nat (xi + 1) :: .sl true 1 [[num 1]] :: row)), (98, .p (boolX false)), (87, .i (Int.ofNat (k + 1)))] (pf5 (lt_nat hk) hm he h21 (next_nat (j := k) (by omega))) (by kernel_rfl)
end
end
/-! ### The loops -/
theorem row_m {x : Iv} (hv : x.v ≠ .c) : ∃ row, x.row true = num 1 :: num x.now :: nat (x.i + 1) :: .sl true 1 [[num 1]] :: row := by
  obtain ⟨i, now, v⟩ := x
  cases v with
  | c => exact absurd rfl hv
  | m o n => exact ⟨_, rfl⟩
theorem row_c {x : Iv} (hv : x.v = .c) : x.row true = clR true x.i x.now := by
  obtain ⟨i, now, v⟩ := x
  dsimp only at hv
  subst hv
  rfl
theorem in_cells (i : Nat) : (inS i).cells = [nat (i + 1), .sl false 1 [[num 1]]] := rfl
theorem cF_snoc (p : Nat) (F : List Fte) (j : Nat) (h : j < F.length) : cF p (F.take (j + 1)) = cF p (F.take j) + if eqS F[j].st (inS p) then 1 else 0 := by
  rw [List.take_succ_eq_append_getElem h, cF_app]
  congr 1
  simp [cF, List.countP_cons]
theorem cF_le (p : Nat) (F : List Fte) : cF p F ≤ F.length := List.countP_le_length
theorem oj_loop (ins rs ws : List (List X)) (i n k : Nat) (x : Iv) (hv : x.v ≠ .c) (he : ins[i]? = some (x.row true)) (r : Rs) (hr : rs[k]? = some r.cells) (hl : r.F.length ≤ 1000) (hs : ∀ f, f ∈ r.F → f.st.p.length ≤ 5) (hn : n ≤ 1000) (N : Nat) (hN : 2000 ≤ N) :
    run (callF tab ext N) 0 N (.loop (loopAt 6 2)) (ojH ins rs ws i n k 0) = some (.exit 4, ojE ins rs ws i (n + cF x.i r.F) k r.F.length) := by
  have hfl := ftesC_length r.F
  obtain ⟨row, hrow⟩ := row_m hv
  rw [hrow] at he
  refine loop_for (σ := fun j => ojH ins rs ws i (n + cF x.i (r.F.take j)) k j) (k := r.F.length) (oj_canon ..) (fun j hj => ?_) ?_ (by simp) (by omega)
  · have hle := cF_le x.i (r.F.take j)
    rw [List.length_take] at hle
    have hg := ftesC_get hj
    have hst := hs _ (List.getElem_mem hj)
    have h21 := eq_stamp N r.F[j].st (inS x.i) (by omega) (by omega)
    rw [in_cells] at h21
    change Gam.pureD (callF tab ext N) 21 [.agg r.F[j].st.cells, .agg [nat (x.i + 1), .sl false 1 [[num 1]]]] = some (boolX (eqS r.F[j].st (inS x.i))) at h21
    rw [cF_snoc x.i r.F j hj]
    generalize r.F[j] = f at hg h21 ⊢
    generalize cF x.i (r.F.take j) = c at hle ⊢
    cases hb : eqS f.st (inS x.i) with
    | true =>
      rw [hb] at h21
      rw [if_pos rfl]
      obtain ⟨⟨e, fp⟩, kd, nm, it, tx⟩ := f
      exact oj_y ins rs ws i (n + c) k j N _ _ _ _ hr e kd (intsC fp) (stpsC it) nm tx (by omega) (by omega) hg x.now x.i row he (by omega) h21
    | false =>
      rw [hb] at h21
      rw [if_neg (by simp)]
      obtain ⟨⟨e, fp⟩, kd, nm, it, tx⟩ := f
      exact oj_n ins rs ws i (n + c) k j N _ _ _ _ hr e kd (intsC fp) (stpsC it) nm tx (by omega) (by omega) hg x.now x.i row he h21
  · rw [List.take_length]
    exact oj_end ins rs ws i _ k _ N _ _ _ _ hr (by omega)
theorem totF_snoc (p : Nat) (l : List Rs) (k : Nat) (h : k < l.length) : totF p (l.take (k + 1)) = totF p (l.take k) + cF p l[k].F := by
  rw [List.take_succ_eq_append_getElem h]
  unfold totF
  rw [List.map_append, List.sum_append, List.map_cons, List.map_nil, List.sum_cons, List.sum_nil, Nat.add_zero]
theorem totF_take (p : Nat) (l : List Rs) (k : Nat) : totF p (l.take k) ≤ totF p l := by
  have h : totF p l = totF p (l.take k) + totF p (l.drop k) := by
    unfold totF
    rw [← List.sum_append, ← List.map_append, List.take_append_drop]
  omega
theorem ok_loop (ins ws : List (List X)) (i : Nat) (x : Iv) (hv : x.v ≠ .c) (he : ins[i]? = some (x.row true)) (l : List Rs) (hl : l.length ≤ 1000) (hF : ∀ r, r ∈ l → r.F.length ≤ 1000 ∧ ∀ f, f ∈ r.F → f.st.p.length ≤ 5) (ht : totF x.i l ≤ 1000) (N : Nat) (hN : 3000 ≤ N) :
    run (callF tab ext N) 0 N (.loop (loopAt 6 1)) (okH ins (rssC l) ws i 0 0) = some (.exit 2, okE ins (rssC l) ws i (totF x.i l) l.length) := by
  have hll := rssC_len l
  refine loop_for (σ := fun k => okH ins (rssC l) ws i (totF x.i (l.take k)) k) (k := l.length) (ok_canon ..) (fun k hk => ?_) ?_ (by simp) (by omega)
  · have h1 := totF_take x.i l k
    have hr : (rssC l)[k]? = some l[k].cells := by
      unfold rssC
      rw [List.getElem?_map, List.getElem?_eq_getElem hk, Option.map_some]
    obtain ⟨h2, h3⟩ := hF _ (List.getElem_mem hk)
    have hloop := oj_loop ins (rssC l) ws i (totF x.i (l.take k)) k x hv he l[k] hr h2 h3 (by omega) N (by omega)
    rw [totF_snoc _ _ _ hk]
    generalize totF x.i (l.take k) + cF x.i l[k].F = n' at hloop ⊢
    generalize totF x.i (l.take k) = n at hloop ⊢
    generalize l[k].F.length = j at hloop
    have hk2 : k < (rssC l).length := by omega
    generalize rssC l = R at hloop hk2 ⊢
    exact rl_of [(52, .b true), (54, .i (Int.ofNat (k + 1)))] [(.exit 4, ojE ins R ws i n' k j)] (pf3 (lt_nat hk2) hloop (next_nat (j := k) (by omega))) (by kernel_rfl)
  · rw [List.take_length]
    exact ok_end ins _ ws i _ _ N (by omega)
def cW (p : Nat) (ws : List Msg) : Nat := ws.countP fun m => eqS m.st (inS p)
theorem ow_loop (ins rs : List (List X)) (i n : Nat) (x : Iv) (hv : x.v ≠ .c) (he : ins[i]? = some (x.row true)) (ws : List Msg) (hl : ws.length ≤ 1000) (hs : ∀ m, m ∈ ws → m.st.p.length ≤ 5) (hn : n ≤ 1000) (N : Nat) (hN : 2000 ≤ N) :
    run (callF tab ext N) 0 N (.loop (loopAt 6 3)) (owH ins rs (msgsC ws) i n 0) = some (.exit 6, owE ins rs (msgsC ws) i (n + cW x.i ws) ws.length) := by
  have hwl := msgsC_length ws
  obtain ⟨row, hrow⟩ := row_m hv
  rw [hrow] at he
  refine loop_for (σ := fun k => owH ins rs (msgsC ws) i (n + cW x.i (ws.take k)) k) (k := ws.length) (ow_canon ..) (fun k hk => ?_) ?_ (by simp) (by omega)
  · have hle : cW x.i (ws.take k) ≤ (ws.take k).length := List.countP_le_length
    rw [List.length_take] at hle
    have hg := msgsC_get hk
    have hst := hs _ (List.getElem_mem hk)
    have h21 := eq_stamp N ws[k].st (inS x.i) (by omega) (by omega)
    rw [in_cells] at h21
    change Gam.pureD (callF tab ext N) 21 [.agg ws[k].st.cells, .agg [nat (x.i + 1), .sl false 1 [[num 1]]]] = some (boolX (eqS ws[k].st (inS x.i))) at h21
    have hc : cW x.i (ws.take (k + 1)) = cW x.i (ws.take k) + if eqS ws[k].st (inS x.i) then 1 else 0 := by
      unfold cW
      rw [List.take_succ_eq_append_getElem hk, List.countP_append]
      congr 1
      simp [List.countP_cons]
    rw [hc]
    generalize ws[k] = m at hg h21 ⊢
    generalize cW x.i (ws.take k) = c at hle ⊢
    cases hb : eqS m.st (inS x.i) with
    | true =>
      rw [hb] at h21
      rw [if_pos rfl]
      obtain ⟨⟨e, fp⟩, m2, m3, m4⟩ := m
      exact ow_y ins rs (msgsC ws) i (n + c) k N e (intsC fp) _ (by omega) (by omega) hg x.now x.i row he (by omega) h21
    | false =>
      rw [hb] at h21
      rw [if_neg (by simp)]
      obtain ⟨⟨e, fp⟩, m2, m3, m4⟩ := m
      exact ow_n ins rs (msgsC ws) i (n + c) k N e (intsC fp) _ (by omega) (by omega) hg x.now x.i row he h21
  · rw [List.take_length]
    exact ow_end ins rs _ i _ _ N (by omega)
theorem oi_c (ins rs ws : List (List X)) (i : Nat) (xi : Nat) (now : Int) (hi : i < ins.length) (hi2 : i < 1000) (he : ins[i]? = some (clR true xi now)) (N : Nat) :
    ∃ υ, run (callF tab ext N) 0 N (loopAt 6 0) (oiH ins rs ws i) = some (.norm, υ) ∧ canon 0 υ = some (oiH ins rs ws (i + 1)) :=
  rd_of [(40, .b true), (45, .e (clR true xi now)), (42, .i (Int.ofNat (i + 1)))] (pf3 (lt_nat hi) he (next_nat (j := i) (by omega))) (by kernel_rfl)
theorem oi_m (ins rs ws : List (List X)) (i n k j : Nat) (xi : Nat) (now : Int) (row : List X) (hi : i < ins.length) (hi2 : i < 1000) (he : ins[i]? = some (num 1 :: num now :: nat (xi + 1) :: .sl true 1 [[num 1]] :: row)) (N : Nat)
    (h1 : run (callF tab ext N) 0 N (.loop (loopAt 6 1)) (okH ins rs ws i 0 0) = some (.exit 2, okE ins rs ws i n k))
    (h2 : run (callF tab ext N) 0 N (.loop (loopAt 6 3)) (owH ins rs ws i n 0) = some (.exit 6, owE ins rs ws i 1 j)) :
    ∃ υ, run (callF tab ext N) 0 N (loopAt 6 0) (oiH ins rs ws i) = some (.norm, υ) ∧ canon 0 υ = some (oiH ins rs ws (i + 1)) :=
  rl_of [(40, .b true), (45, .e (num 1 :: num now :: nat (xi + 1) :: .sl true 1 [[num 1]] :: row)), (42, .i (Int.ofNat (i + 1)))] [(.exit 2, okE ins rs ws i n k), (.exit 6, owE ins rs ws i 1 j)] (pf5 (lt_nat hi) he h1 h2 (next_nat (j := i) (by omega))) (by kernel_rfl)
/-! ### Outputs -/
section
variable (ins rs : List (List X)) (i k : Nat) (N : Nat)
def obH : St := ⟨[(5, .sl false 23 ins), (6, .sl false 7 rs), (14, nat i)], []⟩
def obE : St := ⟨[(5, .sl false 23 ins), (6, .sl false 7 rs), (14, nat i), (106, boolX false)], []⟩
def ocH : St := ⟨[(5, .sl false 23 ins), (6, .sl false 7 rs), (14, nat i), (15, nat k)], []⟩
def ocE : St := ⟨[(5, .sl false 23 ins), (6, .sl false 7 rs), (14, nat i), (15, nat k), (116, boolX false)], []⟩
theorem ob_canon : canon 0 (obH ins rs i) = some (obH ins rs i) := by kernel_rfl
theorem oc_canon : canon 0 (ocH ins rs i k) = some (ocH ins rs i k) := by kernel_rfl
theorem ob_end (h : ¬ i < rs.length) : run (callF tab ext N) 0 N (loopAt 6 4) (obH ins rs i) = some (.exit 8, obE ins rs i) :=
  run_of [(106, .b false)] [] (pf1 (nlt_nat h)) (lo' := []) (by kernel_rfl)
variable (ss op F L : List (List X)) (hr : rs[i]? = some [num 0, num 0, .sl false 10 ss, .sl false 11 op, .sl false 11 [], .sl false 6 F, .sl false 10 L])
include hr
theorem oc_end (h : ¬ k < op.length) : run (callF tab ext N) 0 N (loopAt 6 5) (ocH ins rs i k) = some (.exit 10, ocE ins rs i k) :=
  run_of [(112, .e [num 0, num 0, .sl false 10 ss, .sl false 11 op, .sl false 11 [], .sl false 6 F, .sl false 10 L]), (116, .b false)] [] (pf2 hr (nlt_nat h)) (lo' := []) (by kernel_rfl)
theorem oc_round (pt e kd now mm a1 a2 a3 : Int) (pa ou og : List (List X)) (row : List X) (a4 : ByteArray) (a5 a6 : List (List X)) (hk : k < op.length) (hk2 : k < 1000) (ho : op[k]? = some [num pt, num e, .sl false 1 ou, num mm, .sl false 1 og, num a1, num a2, num a3, strX a4, .sl false 6 a5, .sl false 7 a6])
    (he : ins[i]? = some (num kd :: num now :: num e :: .sl true 1 pa :: row))
    (h22 : Gam.pureD (callF tab ext N) 22 [.agg [num e, .sl false 1 pa], nat k] = some (.agg [num e, .sl false 1 ou]))
    (h21 : Gam.pureD (callF tab ext N) 21 [.agg [num e, .sl false 1 ou], .agg [num e, .sl false 1 ou]] = some (boolX true))
    (h23 : Gam.pureD (callF tab ext N) 23 [.sl false 6 F, .agg [num e, .sl false 1 ou, num mm, .sl false 1 og, num a1, num a2, num a3, strX a4, .sl false 6 a5, .sl false 7 a6]] = some (boolX true)) :
    ∃ υ, run (callF tab ext N) 0 N (loopAt 6 5) (ocH ins rs i k) = some (.norm, υ) ∧ canon 0 υ = some (ocH ins rs i (k + 1)) :=
  rd_of [(112, .e [num 0, num 0, .sl false 10 ss, .sl false 11 op, .sl false 11 [], .sl false 6 F, .sl false 10 L]), (116, .b true), (121, .e [num 0, num 0, .sl false 10 ss, .sl false 11 op, .sl false 11 [], .sl false 6 F, .sl false 10 L]), (125, .e [num pt, num e, .sl false 1 ou, num mm, .sl false 1 og, num a1, num a2, num a3, strX a4, .sl false 6 a5, .sl false 7 a6]), (132, .e (num kd :: num now :: num e :: .sl true 1 pa :: row)), (136, .p (.agg [num e, .sl false 1 ou])), (137, .p (boolX true)), (142, .e [num 0, num 0, .sl false 10 ss, .sl false 11 op, .sl false 11 [], .sl false 6 F, .sl false 10 L]), (146, .p (boolX true)), (118, .i (Int.ofNat (k + 1)))]
    (pf10 hr (lt_nat hk) hr ho he h22 h21 hr h23 (next_nat (j := k) (by omega))) (by kernel_rfl)
end
end Go.Proofs.YthphniobeigklaaGreatDoor.Ag

namespace Go.Proofs.YthphniobeigklaaGreatDoor.Ag
open Go Go.Em Go.Proofs.YthphniobeigklaaGreatDoor
set_option maxRecDepth 100000

theorem row_any (x : Iv) : ∃ kd row, x.row true = num kd :: num x.now :: num (ivS x).e :: .sl true 1 (intsC (ivS x).p) :: row := by
  obtain ⟨i, now, v⟩ := x
  cases v with
  | c => exact ⟨2, _, rfl⟩
  | m o n => exact ⟨1, _, rfl⟩
theorem ivS_short (x : Iv) : (ivS x).p.length ≤ 9 := by
  obtain ⟨i, now, v⟩ := x
  cases v with
  | c => show [(0 : Int), 3].length ≤ 9; decide
  | m o n => show [(1 : Int)].length ≤ 9; decide
theorem oc_loop (ins rs : List (List X)) (i : Nat) (x : Iv) (he : ins[i]? = some (x.row true)) (r : Rs) (hr : rs[i]? = some r.cells) (ho : OutI (ivS x) r.O r.F) (hl : r.O.length ≤ 500) (hF : r.F.length < 1000) (N : Nat) (hN : 190000 ≤ N) :
    run (callF tab ext N) 0 N (.loop (loopAt 6 5)) (ocH ins rs i 0) = some (.exit 10, ocE ins rs i r.O.length) := by
  have hol := otpsC_length r.O
  obtain ⟨kd, row, hrow⟩ := row_any x
  have hsh := ivS_short x
  rw [hrow] at he
  refine loop_for (σ := fun k => ocH ins rs i k) (k := r.O.length) (oc_canon ..) (fun k hk => ?_) ?_ (by simp) (by omega)
  · have hg := otpsC_get hk
    obtain ⟨hst, hm⟩ := ho.out k hk
    have h22 := under22 (ivS x) ⟨by omega⟩ k N (by omega)
    have hul : (undS (ivS x) k).p.length ≤ 10 := by
      show ((ivS x).p ++ [(k : Int)]).length ≤ 10
      rw [List.length_append, List.length_singleton]
      omega
    have h21 := eq_stamp N (undS (ivS x) k) (undS (ivS x) k) (by omega) (by omega)
    rw [cmpS_refl] at h21
    rw [← hst] at hm
    have h23 := members23 ho hsh hF r.O[k].m hm N (by omega)
    generalize r.O[k] = o at hg hst hm h23
    obtain ⟨pt, ⟨st, mm, og, ⟨a1, a2, a3, a4, a5, a6⟩⟩⟩ := o
    dsimp only at hst
    subst hst
    exact oc_round ins rs i k N _ _ _ _ hr pt (ivS x).e kd x.now mm a1 a2 a3 (intsC (ivS x).p) (intsC (undS (ivS x) k).p) (intsC og) row a4 (cellsL a5) (cellsF a6) (by omega) (by omega) hg he h22 h21 h23
  · exact oc_end ins rs i _ N _ _ _ _ hr (by omega)
theorem ob_round (ins rs : List (List X)) (i k N : Nat) (hi : i < rs.length) (hi2 : i < 1000) (h : run (callF tab ext N) 0 N (.loop (loopAt 6 5)) (ocH ins rs i 0) = some (.exit 10, ocE ins rs i k)) :
    ∃ υ, run (callF tab ext N) 0 N (loopAt 6 4) (obH ins rs i) = some (.norm, υ) ∧ canon 0 υ = some (obH ins rs (i + 1)) :=
  rl_of [(106, .b true), (108, .i (Int.ofNat (i + 1)))] [(.exit 10, ocE ins rs i k)] (pf3 (lt_nat hi) h (next_nat (j := i) (by omega))) (by kernel_rfl)
section
variable (a b c d e : Int) (es ins rs ws ss os F L : List (List X)) (P : Pr) (n k k2 : Nat) (M : Nat)
variable (h11 : Gam.pureD (callF tab ext M) 11 [] = some (boolX true)) (h13 : Gam.pureD (callF tab ext M) 13 [.sl false 4 es] = some (.sl false 23 ins)) (h12 : Gam.pureD (callF tab ext M) 12 [skX a b c d e] = some P.node) (h14 : Gam.pureD (callF tab ext M) 14 [P.node, .sl false 23 ins] = some (.sl false 7 rs))
variable (h20 : Gam.pureD (callF tab ext M) 20 [.agg [num 0, num 0, .sl false 10 ss]] = some (.sl false 10 ws))
variable (hl1 : run (callF tab ext M) 0 M (.loop (loopAt 6 0)) (oiH ins rs ws 0) = some (.exit 0, oiE ins rs ws k)) (hl2 : run (callF tab ext M) 0 M (.loop (loopAt 6 4)) (obH ins rs 0) = some (.exit 8, obE ins rs k2))
include h11 h13 h12 h14 h20 hl1 hl2
theorem once_y (hn : rs.length = n + 1) (hn2 : n < 1000) (hr : rs[n]? = some [num 0, num 0, .sl false 10 ss, .sl false 11 os, .sl false 11 [], .sl false 6 F, .sl false 10 L]) : Gam.pureD (callF tab ext (M + 1)) 6 [skX a b c d e, .sl false 4 es] = some (boolX true) := by
  have h27 : decide (Int.ofNat rs.length > 0) = true := decide_eq_true (by rw [hn]; simp only [Int.ofNat_eq_natCast]; omega)
  have h31 : IntKind.i64.wrap (Int.ofNat rs.length - 1) = Int.ofNat n := by rw [hn, IntKind.wrap_i64]; simp only [Int.ofNat_eq_natCast]; omega
  have hl1' : run (callF tab ext M) 0 M (.loop (loopAt 6 0)) ⟨[(5, .sl false 23 ins), (6, .sl false 7 rs), (8, .sl false 10 ws), (9, num 0)], [.var [u8X a, u8X b, u8X c, u8X d, u8X e], .var [num 0, num 0, .sl false 10 ss]]⟩ = some (.exit 0, oiE ins rs ws k) := by
    rw [← hl1]
    exact loop_canon (by kernel_rfl) (oi_canon ..)
  exact pure_of [(17, .p (boolX true)), (20, .p (.sl false 23 ins)), (22, .p P.node), (24, .p (.sl false 7 rs)), (27, .b true), (31, .i (Int.ofNat n)), (32, .e [num 0, num 0, .sl false 10 ss, .sl false 11 os, .sl false 11 [], .sl false 6 F, .sl false 10 L]), (36, .p (.sl false 10 ws))] [(.exit 0, oiE ins rs ws k), (.exit 8, obE ins rs k2)] (pf10 h11 h13 h12 h14 h27 h31 hr h20 hl1' hl2) (x := boolX true) (bx := []) (by kernel_rfl) rfl
end
section
variable (a b c d e : Int) (es ins rs ws : List (List X)) (P : Pr) (k k2 : Nat) (M : Nat)
variable (h11 : Gam.pureD (callF tab ext M) 11 [] = some (boolX true)) (h13 : Gam.pureD (callF tab ext M) 13 [.sl false 4 es] = some (.sl false 23 ins)) (h12 : Gam.pureD (callF tab ext M) 12 [skX a b c d e] = some P.node) (h14 : Gam.pureD (callF tab ext M) 14 [P.node, .sl false 23 ins] = some (.sl false 7 rs))
variable (hl1 : run (callF tab ext M) 0 M (.loop (loopAt 6 0)) (oiH ins rs ws 0) = some (.exit 0, oiE ins rs ws k)) (hl2 : run (callF tab ext M) 0 M (.loop (loopAt 6 4)) (obH ins rs 0) = some (.exit 8, obE ins rs k2))
include h11 h13 h12 h14 hl1 hl2
theorem once_n (hn : rs.length = 0) (h20 : Gam.pureD (callF tab ext M) 20 [.agg [num 0, num 0, .sl false 10 []]] = some (.sl false 10 ws)) : Gam.pureD (callF tab ext (M + 1)) 6 [skX a b c d e, .sl false 4 es] = some (boolX true) := by
  have h27 : decide (Int.ofNat rs.length > 0) = false := decide_eq_false (by rw [hn]; decide)
  have hl1' : run (callF tab ext M) 0 M (.loop (loopAt 6 0)) ⟨[(5, .sl false 23 ins), (6, .sl false 7 rs), (8, .sl false 10 ws), (9, num 0)], [.var [u8X a, u8X b, u8X c, u8X d, u8X e], .var [num 0, num 0, .sl true 10 []]]⟩ = some (.exit 0, oiE ins rs ws k) := by
    rw [← hl1]
    exact loop_canon (by kernel_rfl) (oi_canon ..)
  exact pure_of [(17, .p (boolX true)), (20, .p (.sl false 23 ins)), (22, .p P.node), (24, .p (.sl false 7 rs)), (27, .b false), (36, .p (.sl false 10 ws))] [(.exit 0, oiE ins rs ws k), (.exit 8, obE ins rs k2)] (pf8 h11 h13 h12 h14 h27 h20 hl1' hl2) (x := boolX true) (bx := []) (by kernel_rfl) rfl
end
theorem waitG_short (gs : List Ga) : ∀ m, m ∈ waitG gs → m.st.p.length ≤ 5 := fun m hm => by
  obtain ⟨x, _, hm⟩ := List.mem_flatMap.1 hm
  exact msV_short x.g x.M m hm
theorem once_all (a b c d e : Int) (hb : 0 ≤ b ∧ b < 256) (l : List Ev) (N : Nat) (hN : 194001 ≤ N) : Gam.pureD (callF tab ext N) 6 [skX a b c d e, .sl false 4 (evC l)] = some (boolX true) := by
  obtain ⟨M, rfl⟩ : ∃ M, N = M + 1 := ⟨N - 1, by omega⟩
  have hP := skP_ok a b c d e hb
  have hk := known11 M (by omega)
  have h13 := inputs13 l M (by omega)
  have h12 := sk12 a b c d e M (by omega)
  have hxs := inL_ok (l.take 40) (by rw [List.length_take]; omega)
  have hxl : (inL 0 0 (l.take 40)).length ≤ 40 := by rw [inL_len, List.length_take]; omega
  have h14 := runAll hP hxs hxl M (by omega)
  generalize inL 0 0 (l.take 40) = xs at *
  generalize skP a b c d e = P at *
  have hil := insC_len xs
  have hlen := rnL_len (stpI P) xs []
  have hfat : ∀ j (h : j < xs.length), (stpI P (stL (stpI P) [] (xs.take j)) xs[j]).F.length ≤ 100 ∧ (stpI P (stL (stpI P) [] (xs.take j)) xs[j]).O.length ≤ 100 := fun j h => by
    obtain ⟨hI, hh⟩ := st_at hP hxs j h
    have hxo := hxs.ok _ (List.getElem_mem h)
    have hi := hxo.i
    have hst := (stpI_ok hP hI hxo).fat
    have hsm := (stp_small (P := P) hI hxo).no
    refine ⟨?_, hsm⟩
    revert hst
    split <;> omega
  have hF : ∀ r, r ∈ rnL (stpI P) [] xs → r.F.length ≤ 1000 ∧ ∀ f, f ∈ r.F → f.st.p.length ≤ 5 := fun r hr => by
    obtain ⟨j, hj, rfl⟩ := List.getElem_of_mem hr
    rw [hlen] at hj
    rw [rnL_get (stpI P) xs [] j hj]
    have h1 := (hfat j hj).1
    exact ⟨by omega, (stp_out P _ _).sts⟩
  obtain ⟨k', hG, hGh, hk'⟩ := stL_ok hP xs [] 0 GsI.nil (Nat.le_refl 0) hxs (fun _ _ => Nat.zero_le _)
  have hk40 : k' ≤ 40 := by
    rcases hk' with rfl | ⟨x, hx, rfl⟩
    · omega
    · have := (hxs.ok x hx).i
      omega
  have h20 := waiting_pure (gst (stL (stpI P) [] xs)) (gst_small _ (hG.sm hk40)) M (by omega)
  rw [accOf_gst] at h20
  have hwl : (waitG (stL (stpI P) [] xs)).length ≤ 1000 := by rw [waitG_len]; omega
  have hl1 : run (callF tab ext M) 0 M (.loop (loopAt 6 0)) (oiH (insC xs) (rssC (rnL (stpI P) [] xs)) (msgsC (waitG (stL (stpI P) [] xs))) 0) = some (.exit 0, oiE (insC xs) (rssC (rnL (stpI P) [] xs)) (msgsC (waitG (stL (stpI P) [] xs))) (insC xs).length) := by
    refine loop_for (σ := fun i => oiH (insC xs) (rssC (rnL (stpI P) [] xs)) (msgsC (waitG (stL (stpI P) [] xs))) i) (k := (insC xs).length) (oi_canon ..) (fun i hi => ?_) (oi_end _ _ _ _ M (by omega)) (by simp) (by omega)
    have hi' : i < xs.length := by omega
    have he := insC_get hi'
    have hmem := List.getElem_mem hi'
    by_cases hv : xs[i].v = .c
    · rw [row_c hv] at he
      exact oi_c _ _ _ i _ _ hi (by omega) he M
    · have hone := once_at hP hxs hmem hv
      have h1 := ok_loop (insC xs) (msgsC (waitG (stL (stpI P) [] xs))) i xs[i] hv he (rnL (stpI P) [] xs) (by omega) hF (by omega) M (by omega)
      have h2 := ow_loop (insC xs) (rssC (rnL (stpI P) [] xs)) i (totF xs[i].i (rnL (stpI P) [] xs)) xs[i] hv he (waitG (stL (stpI P) [] xs)) hwl (waitG_short _) (by omega) M (by omega)
      have e1 : totF xs[i].i (rnL (stpI P) [] xs) + cW xs[i].i (waitG (stL (stpI P) [] xs)) = 1 := hone
      rw [e1] at h2
      obtain ⟨row, hrow⟩ := row_m hv
      rw [hrow] at he
      exact oi_m _ _ _ i _ _ _ _ _ row hi (by omega) he M h1 h2
  have hl2 : run (callF tab ext M) 0 M (.loop (loopAt 6 4)) (obH (insC xs) (rssC (rnL (stpI P) [] xs)) 0) = some (.exit 8, obE (insC xs) (rssC (rnL (stpI P) [] xs)) xs.length) := by
    have hrl := rssC_len (rnL (stpI P) [] xs)
    refine loop_for (σ := fun i => obH (insC xs) (rssC (rnL (stpI P) [] xs)) i) (k := xs.length) (ob_canon ..) (fun i hi => ?_) (ob_end _ _ _ M (by omega)) (by simp) (by omega)
    have he := insC_get hi
    have hr : (rssC (rnL (stpI P) [] xs))[i]? = some (stpI P (stL (stpI P) [] (xs.take i)) xs[i]).cells := by
      have := rnL_get (stpI P) xs [] i hi
      unfold rssC
      rw [List.getElem?_map, List.getElem?_eq_getElem (by omega), Option.map_some, this]
    have hf := hfat i hi
    have hc := oc_loop (insC xs) (rssC (rnL (stpI P) [] xs)) i xs[i] he _ hr (stp_out P _ _) (by omega) (by omega) M (by omega)
    exact ob_round _ _ i _ M (by omega) (by omega) hc
  have hrl := rssC_len (rnL (stpI P) [] xs)
  by_cases h0 : xs.length = 0
  · have hx0 : xs = [] := List.length_eq_zero_iff.1 h0
    subst hx0
    exact once_n a b c d e (evC l) _ _ _ P _ _ M hk h13 h12 h14 hl1 hl2 rfl h20
  · have hlast : (rssC (rnL (stpI P) [] xs))[xs.length - 1]? = some (stpI P (stL (stpI P) [] (xs.take (xs.length - 1))) (xs[xs.length - 1]'(by omega))).cells := by
      have := rnL_get (stpI P) xs [] (xs.length - 1) (by omega)
      unfold rssC
      rw [List.getElem?_map, List.getElem?_eq_getElem (by omega), Option.map_some, this]
    have hgs : stL (stpI P) [] xs = (stpI P (stL (stpI P) [] (xs.take (xs.length - 1))) (xs[xs.length - 1]'(by omega))).gs := by
      rw [← stL_snoc, ← List.take_succ_eq_append_getElem (show xs.length - 1 < xs.length by omega), List.take_of_length_le (by omega)]
    rw [hgs] at h20 hl1
    generalize stpI P (stL (stpI P) [] (xs.take (xs.length - 1))) (xs[xs.length - 1]'(by omega)) = r at *
    exact once_y a b c d e (evC l) _ _ _ _ _ _ _ P (xs.length - 1) _ _ M hk h13 h12 h14 h20 hl1 hl2 (by omega) (by omega) hlast
end Go.Proofs.YthphniobeigklaaGreatDoor.Ag

