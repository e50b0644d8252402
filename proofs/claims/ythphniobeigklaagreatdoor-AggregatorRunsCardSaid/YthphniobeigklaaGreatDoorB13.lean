/- aggregator.complete as a whole. -/
import Derived.Laws.Bits64
import Derived.Test.YthphniobeigklaaGreatDoorB12
set_option linter.all false
namespace Go.Proofs.YthphniobeigklaaGreatDoor.Ag
open Go Go.Em Go.Proofs.YthphniobeigklaaGreatDoor
set_option maxRecDepth 100000

theorem cond_c2g (g w : Bool) (b : Bd) (hb : b.2 < 4) (c k : Int) (es : List (List X)) (N : Nat) (hN : 400 ≤ N) : Gam.pureD (callF tab ext N) 39 [.agg c2X, envX (condFsG g w b es c k)] = some (.tup [boolX false, num (if b.2 = 0 then 15 else 0)]) := by
  obtain ⟨M, rfl⟩ : ∃ M, N = M + 400 := ⟨N - 400, by omega⟩
  obtain ⟨o, n⟩ := b
  have h4 : n = 0 ∨ n = 1 ∨ n = 2 ∨ n = 3 := by dsimp only at hb; omega
  cases o with
  | none =>
    rcases h4 with rfl | rfl | rfl | rfl
    · exact c2_n0 g w c k es M
    · exact c2_n1 g w c k es M
    · exact c2_n2 g w c k es M
    · exact c2_n3 g w c k es M
  | some q =>
    rcases h4 with rfl | rfl | rfl | rfl
    · exact c2_s0 g w q c k es M
    · exact c2_s1 g w q c k es M
    · exact c2_s2 g w q c k es M
    · exact c2_s3 g w q c k es M
theorem cond_c2 (b : Bd) (hb : b.2 < 4) (c k : Int) (es : List (List X)) (N : Nat) (hN : 400 ≤ N) : Gam.pureD (callF tab ext N) 39 [.agg c2X, envX (condFs b es c k)] = some (.tup [boolX false, num (if b.2 = 0 then 15 else 0)]) := by
  rw [condFs_G]
  exact cond_c2g false false b hb c k es N hN
/-- What the condition says. -/
def condR (cd : Nat) (l : List Bd) (b : Bd) : Bool × Int := match cd with
  | 1 => (decide (5 < sumN (nsOf l)), 0)
  | 2 => (false, if b.2 = 0 then 15 else 0)
  | _ => (false, 0)
def compR (nu : Int) (cd : Nat) (l : List Bd) (b : Bd) : Bool × Int := if 0 < nu ∧ nu ≤ (l.length : Int) then (true, 0) else condR cd l b
section
variable (nu ti li : Int) (ty ru : List (List X)) (l : List Bd) (b : Bd) (k : Int)
theorem r110 (w : Bool) (cd : Nat) (hcd : cd < 4) (ht : Tiny (nsOf l)) (hl : l.length ≤ 256) (h0 : 0 < l.length) (hlast : l[l.length - 1]? = some b) (N : Nat) (hN : 9000 ≤ N) :
    Gam.pureD (callF tab ext N) 110 [.agg (nodX nu ti li (exN cd) ty ru), .agg (kv k).cells, .sl false 6 (bdG w l)] = some (.tup [boolX (condR cd l b).1, num (condR cd l b).2]) := by
  obtain ⟨M, rfl⟩ : ∃ M, N = M + 400 := ⟨N - 400, by omega⟩
  have hlt : l.length - 1 < l.length := by omega
  have hb : l[l.length - 1] = b := by
    rw [List.getElem?_eq_getElem hlt] at hlast
    exact Option.some.inj hlast
  have hb4 : b.2 < 4 := ht _ (List.mem_map.2 ⟨b, by rw [← hb]; exact List.getElem_mem _, rfl⟩)
  have h90 := group90G w l hl k (M + 399) (by omega)
  have h111 := withAt b l hl k (M + 399) (by omega)
  have hg := bdG_get w hlt
  rw [hb] at hg
  have hc1 := cond_c1 (condEnv b l (l.length : Nat) k) ht h0 hl (M + 399) (by omega)
  have hc2 := cond_c2 b hb4 (l.length : Nat) k (bdC l) (M + 399) (by omega)
  rw [← bdG_len w l] at h90 h111 hg hc1 hc2
  have hsub : IntKind.i64.wrap (Int.ofNat (bdG w l).length - 1) = Int.ofNat ((bdG w l).length - 1) := by rw [IntKind.wrap_i64]; have := bdG_len w l; simp only [Int.ofNat_eq_natCast]; omega
  have h4 : cd = 0 ∨ cd = 1 ∨ cd = 2 ∨ cd = 3 := by omega
  generalize bdC l = es at *
  generalize bdG w l = fs at *
  obtain ⟨o, n⟩ := b
  rcases h4 with rfl | rfl | rfl | rfl
  · exact pure_of [] [] pf0 (x := .tup [boolX false, num 0]) (bx := []) (by kernel_rfl) rfl
  · show _ = some (X.tup [boolX (decide (5 < sumN (nsOf l))), num 0])
    generalize sumN (nsOf l) = s at *
    cases o with
    | none => exact pure_of [(17, .p (envX (groupFs es (fs.length : Nat) k))), (21, .i (Int.ofNat (fs.length - 1))), (22, .e (bodyG w none n)), (24, .p (.tup [envX (condFs (none, n) es (fs.length : Nat) k), num 0])), (37, .p (.tup [boolX (decide (5 < s)), num 0]))] [] (pf5 h90 hsub hg h111 hc1) (x := .tup [boolX (decide (5 < s)), num 0]) (bx := []) (by kernel_rfl) rfl
    | some q => exact pure_of [(17, .p (envX (groupFs es (fs.length : Nat) k))), (21, .i (Int.ofNat (fs.length - 1))), (22, .e (bodyG w (some q) n)), (24, .p (.tup [envX (condFs (some q, n) es (fs.length : Nat) k), num 0])), (37, .p (.tup [boolX (decide (5 < s)), num 0]))] [] (pf5 h90 hsub hg h111 hc1) (x := .tup [boolX (decide (5 < s)), num 0]) (bx := []) (by kernel_rfl) rfl
  · show _ = some (X.tup [boolX false, num (if (o, n).2 = 0 then 15 else 0)])
    generalize (if (o, n).2 = 0 then (15 : Int) else 0) = e at *
    cases o with
    | none => exact pure_of [(17, .p (envX (groupFs es (fs.length : Nat) k))), (21, .i (Int.ofNat (fs.length - 1))), (22, .e (bodyG w none n)), (24, .p (.tup [envX (condFs (none, n) es (fs.length : Nat) k), num 0])), (37, .p (.tup [boolX false, num e]))] [] (pf5 h90 hsub hg h111 hc2) (x := .tup [boolX false, num e]) (bx := []) (by kernel_rfl) rfl
    | some q => exact pure_of [(17, .p (envX (groupFs es (fs.length : Nat) k))), (21, .i (Int.ofNat (fs.length - 1))), (22, .e (bodyG w (some q) n)), (24, .p (.tup [envX (condFs (some q, n) es (fs.length : Nat) k), num 0])), (37, .p (.tup [boolX false, num e]))] [] (pf5 h90 hsub hg h111 hc2) (x := .tup [boolX false, num e]) (bx := []) (by kernel_rfl) rfl
  · exact pure_of [] [] pf0 (x := .tup [boolX false, num 0]) (bx := []) (by kernel_rfl) rfl
/-! ### The two tests, one after the other -/
def coH (es : List (List X)) (cd j : Nat) : St := ⟨[(2, .sl false 6 es), (3, .ptr 0 0 0), (4, .ptr 1 0 0), (12, .sl false 1 [[.fn 108 []], [.fn 110 []]]), (13, nat 2), (14, nat j)], [.var (nodX nu ti li (exN cd) ty ru), .var (kv k).cells]⟩
def coR (cd : Nat) (x : Bool) (e : Int) : St := ⟨[(6, boolX x), (7, num e)], [.var (nodX nu ti li (exN cd) ty ru), .var (kv k).cells]⟩
def coE (es : List (List X)) (cd : Nat) : St := ⟨[(2, .sl false 6 es), (3, .ptr 0 0 0), (4, .ptr 1 0 0), (12, .sl false 1 [[.fn 108 []], [.fn 110 []]]), (13, nat 2), (14, nat 2), (15, boolX false)], [.var (nodX nu ti li (exN cd) ty ru), .var (kv k).cells]⟩
theorem co_canon (es : List (List X)) (cd j : Nat) : canon 0 (coH nu ti li ty ru k es cd j) = some (coH nu ti li ty ru k es cd j) := by kernel_rfl
section
variable (es : List (List X)) (cd : Nat) (N : Nat)
theorem co_0t (h : Gam.pureD (callF tab ext N) 108 [.agg (nodX nu ti li (exN cd) ty ru), .agg (kv k).cells, .sl false 6 es] = some (.tup [boolX true, num 0])) : ∃ υ, run (callF tab ext N) 0 N (loopAt 38 0) (coH nu ti li ty ru k es cd 0) = some (.ret, υ) ∧ υ = coR nu ti li ty ru k cd true 0 :=
  ⟨_, run_of [(23, .p (.tup [boolX true, num 0]))] [] (pf1 h) (lo' := []) (by kernel_rfl), rfl⟩
theorem co_0f (h : Gam.pureD (callF tab ext N) 108 [.agg (nodX nu ti li (exN cd) ty ru), .agg (kv k).cells, .sl false 6 es] = some (.tup [boolX false, num 0])) : ∃ υ, run (callF tab ext N) 0 N (loopAt 38 0) (coH nu ti li ty ru k es cd 0) = some (.norm, υ) ∧ canon 0 υ = some (coH nu ti li ty ru k es cd 1) :=
  rd_of [(23, .p (.tup [boolX false, num 0]))] (pf1 h) (by kernel_rfl)
theorem co_1t (x : Bool) (e : Int) (h : Gam.pureD (callF tab ext N) 110 [.agg (nodX nu ti li (exN cd) ty ru), .agg (kv k).cells, .sl false 6 es] = some (.tup [boolX x, num e])) (hx : x = true ∨ e ≠ 0) : run (callF tab ext N) 0 N (loopAt 38 0) (coH nu ti li ty ru k es cd 1) = some (.ret, coR nu ti li ty ru k cd x e) := by
  cases x with
  | true => exact run_of [(23, .p (.tup [boolX true, num e]))] [] (pf1 h) (lo' := []) (by kernel_rfl)
  | false =>
    have h1 : (e != 0) = true := by simpa using hx
    exact run_of [(23, .p (.tup [boolX false, num e])), (29, .b true)] [] (pf2 h h1) (lo' := []) (by kernel_rfl)
theorem co_1f (h : Gam.pureD (callF tab ext N) 110 [.agg (nodX nu ti li (exN cd) ty ru), .agg (kv k).cells, .sl false 6 es] = some (.tup [boolX false, num 0])) : ∃ υ, run (callF tab ext N) 0 N (loopAt 38 0) (coH nu ti li ty ru k es cd 1) = some (.norm, υ) ∧ canon 0 υ = some (coH nu ti li ty ru k es cd 2) :=
  rd_of [(23, .p (.tup [boolX false, num 0]))] (pf1 h) (by kernel_rfl)
theorem co_end : run (callF tab ext N) 0 N (loopAt 38 0) (coH nu ti li ty ru k es cd 2) = some (.exit 0, coE nu ti li ty ru k es cd) :=
  run_of [] [] pf0 (lo' := []) (by kernel_rfl)
end
theorem r108 (cd : Nat) (es : List (List X)) (N : Nat) : Gam.pureD (callF tab ext (N + 11)) 108 [.agg (nodX nu ti li (exN cd) ty ru), .agg (kv k).cells, .sl false 6 es] = some (.tup [boolX (decide (0 < nu ∧ nu ≤ (es.length : Int))), num 0]) := by
  have h := enough109 nu ti li (exN cd) ty ru es.length N
  generalize decide (0 < nu ∧ nu ≤ (es.length : Int)) = x at *
  exact pure_of [(11, .p (boolX x))] [] (pf1 h) (x := .tup [boolX x, num 0]) (bx := []) (by kernel_rfl) rfl
theorem complete38 (w : Bool) (cd : Nat) (hcd : cd < 4) (ht : Tiny (nsOf l)) (hl : l.length ≤ 256) (h0 : 0 < l.length) (hlast : l[l.length - 1]? = some b) (N : Nat) (hN : 9100 ≤ N) :
    Gam.pureD (callF tab ext N) 38 [.agg (nodX nu ti li (exN cd) ty ru), .agg (kv k).cells, .sl false 6 (bdG w l)] = some (.tup [boolX (compR nu cd l b).1, num (compR nu cd l b).2]) := by
  obtain ⟨M, rfl⟩ : ∃ M, N = M + 12 := ⟨N - 12, by omega⟩
  have h1 := r108 nu ti li ty ru k cd (bdG w l) M
  have h2 := r110 nu ti li ty ru l b k w cd hcd ht hl h0 hlast (M + 11) (by omega)
  rw [bdG_len] at h1
  have fin : ∀ x e, run (callF tab ext (M + 11)) 0 (M + 11) (.loop (loopAt 38 0)) (coH nu ti li ty ru k (bdG w l) cd 0) = some (.ret, coR nu ti li ty ru k cd x e) → Gam.pureD (callF tab ext (M + 12)) 38 [.agg (nodX nu ti li (exN cd) ty ru), .agg (kv k).cells, .sl false 6 (bdG w l)] = some (.tup [boolX x, num e]) := fun x e h =>
    pure_of [] [(.ret, coR nu ti li ty ru k cd x e)] (pf1 h) (x := .tup [boolX x, num e]) (bx := []) (by kernel_rfl) rfl
  unfold compR
  by_cases hc : 0 < nu ∧ nu ≤ (l.length : Int)
  · rw [if_pos hc]
    rw [decide_eq_true hc] at h1
    obtain ⟨υ, h3, rfl⟩ := co_0t nu ti li ty ru k (bdG w l) cd (M + 11) h1
    exact fin true 0 (iter_end (co_canon nu ti li ty ru k (bdG w l) cd 0) h3 (by simp))
  · rw [if_neg hc]
    rw [decide_eq_false hc] at h1
    obtain ⟨υ, h3, h4⟩ := co_0f nu ti li ty ru k (bdG w l) cd (M + 11) h1
    generalize condR cd l b = q at *
    obtain ⟨x, e⟩ := q
    dsimp only at h2 ⊢
    by_cases hq : x = true ∨ e ≠ 0
    · exact fin x e (iter_step (co_canon nu ti li ty ru k (bdG w l) cd 0) h3 (iter_end h4 (co_1t nu ti li ty ru k (bdG w l) cd (M + 11) x e h2 hq) (by simp)))
    · have hx : x = false := by cases x with | true => exact absurd (.inl rfl) hq | false => rfl
      have he : e = 0 := by by_cases h : e = 0; exact h; exact absurd (.inr h) hq
      subst hx
      subst he
      obtain ⟨υ2, h5, h6⟩ := co_1f nu ti li ty ru k (bdG w l) cd (M + 11) h2
      have h7 : run (callF tab ext (M + 11)) 0 (M + 11) (.loop (loopAt 38 0)) (coH nu ti li ty ru k (bdG w l) cd 0) = some (.exit 0, coE nu ti li ty ru k (bdG w l) cd) := iter_step (co_canon nu ti li ty ru k (bdG w l) cd 0) h3 (iter_step h4 h5 (iter_end h6 (co_end nu ti li ty ru k (bdG w l) cd (M + 11)) (by simp)))
      exact pure_of [] [(.exit 0, coE nu ti li ty ru k (bdG w l) cd)] (pf1 h7) (x := .tup [boolX false, num 0]) (bx := []) (by kernel_rfl) rfl
end
end Go.Proofs.YthphniobeigklaaGreatDoor.Ag

/- aggregator.Complete and the model's complete. -/
namespace Go.Proofs.YthphniobeigklaaGreatDoor.Ag
open Go Go.Em Go.Proofs.YthphniobeigklaaGreatDoor
set_option maxRecDepth 100000

section
variable (nu ti li : Int) (ty ru : List (List X)) (l : List Bd) (b : Bd) (k : Int)
theorem complete18_0 (cd : Nat) (es : List (List X)) (h : es.length = 0) (N : Nat) : Gam.pureD (callF tab ext (N + 10)) 18 [.agg (nodX nu ti li (exN cd) ty ru), .agg (kv k).cells, .sl false 6 es] = some (.tup [boolX false, num 4]) := by
  have h1 : (Int.ofNat es.length == 0) = true := by rw [h]; rfl
  exact pure_of [(11, .b true)] [] (pf1 h1) (x := .tup [boolX false, num 4]) (bx := []) (by kernel_rfl) rfl
theorem complete18_m (cd : Nat) (es : List (List X)) (h : 256 < es.length) (N : Nat) : Gam.pureD (callF tab ext (N + 10)) 18 [.agg (nodX nu ti li (exN cd) ty ru), .agg (kv k).cells, .sl false 6 es] = some (.tup [boolX false, num 9]) := by
  have h1 : (Int.ofNat es.length == 0) = false := by simp only [Int.ofNat_eq_natCast, beq_eq_false_iff_ne, ne_eq]; omega
  have h2 : decide (Int.ofNat es.length > 256) = true := decide_eq_true (by simp only [Int.ofNat_eq_natCast]; omega)
  exact pure_of [(11, .b false), (15, .b true)] [] (pf2 h1 h2) (x := .tup [boolX false, num 9]) (bx := []) (by kernel_rfl) rfl
theorem complete18 (w : Bool) (cd : Nat) (hcd : cd < 4) (ht : Tiny (nsOf l)) (hl : l.length ≤ 256) (h0 : 0 < l.length) (hlast : l[l.length - 1]? = some b) (N : Nat) (hN : 9200 ≤ N) :
    Gam.pureD (callF tab ext N) 18 [.agg (nodX nu ti li (exN cd) ty ru), .agg (kv k).cells, .sl false 6 (bdG w l)] = some (.tup [boolX (compR nu cd l b).1, num (compR nu cd l b).2]) := by
  obtain ⟨M, rfl⟩ : ∃ M, N = M + 10 := ⟨N - 10, by omega⟩
  have h3 := complete38 nu ti li ty ru l b k w cd hcd ht hl h0 hlast (M + 9) (by omega)
  have hn := bdG_len w l
  have h1 : (Int.ofNat (bdG w l).length == 0) = false := by simp only [Int.ofNat_eq_natCast, beq_eq_false_iff_ne, ne_eq]; omega
  have h2 : decide (Int.ofNat (bdG w l).length > 256) = false := decide_eq_false (by simp only [Int.ofNat_eq_natCast]; omega)
  generalize compR nu cd l b = q at *
  obtain ⟨x, e⟩ := q
  dsimp only at h3 ⊢
  generalize bdG w l = es at *
  exact pure_of [(11, .b false), (15, .b false), (19, .p (.tup [boolX x, num e]))] [] (pf3 h1 h2 h3) (x := .tup [boolX x, num e]) (bx := []) (by kernel_rfl) rfl
theorem m19_t (cd : Nat) (es : List (List X)) (h : 0 < nu ∧ nu ≤ (es.length : Int)) (N : Nat) : Gam.pureD (callF tab ext (N + 10)) 19 [.agg (nodX nu ti li (exN cd) ty ru), .agg (kv k).cells, .sl false 6 es] = some (.tup [boolX true, num 0]) := by
  have h1 : decide (nu > 0) = true := decide_eq_true h.1
  have h2 : decide (Int.ofNat es.length ≥ nu) = true := decide_eq_true h.2
  exact pure_of [(11, .b true), (17, .b true)] [] (pf2 h1 h2) (x := .tup [boolX true, num 0]) (bx := []) (by kernel_rfl) rfl
theorem m19_0 (cd : Nat) (hcd : cd = 0 ∨ cd = 3) (es : List (List X)) (h : ¬ (0 < nu ∧ nu ≤ (es.length : Int))) (N : Nat) : Gam.pureD (callF tab ext (N + 10)) 19 [.agg (nodX nu ti li (exN cd) ty ru), .agg (kv k).cells, .sl false 6 es] = some (.tup [boolX false, num 0]) := by
  by_cases h1 : 0 < nu
  · have h2 : decide (nu > 0) = true := decide_eq_true h1
    have h3 : decide (Int.ofNat es.length ≥ nu) = false := decide_eq_false fun h4 => h ⟨h1, h4⟩
    rcases hcd with rfl | rfl
    · exact pure_of [(11, .b true), (17, .b false)] [] (pf2 h2 h3) (x := .tup [boolX false, num 0]) (bx := []) (by kernel_rfl) rfl
    · exact pure_of [(11, .b true), (17, .b false)] [] (pf2 h2 h3) (x := .tup [boolX false, num 0]) (bx := []) (by kernel_rfl) rfl
  · have h2 : decide (nu > 0) = false := decide_eq_false h1
    rcases hcd with rfl | rfl
    · exact pure_of [(11, .b false)] [] (pf1 h2) (x := .tup [boolX false, num 0]) (bx := []) (by kernel_rfl) rfl
    · exact pure_of [(11, .b false)] [] (pf1 h2) (x := .tup [boolX false, num 0]) (bx := []) (by kernel_rfl) rfl
theorem m19_1 (w : Bool) (es : List (List X)) (h : ¬ (0 < nu ∧ nu ≤ (es.length : Int))) (m : Nat) (x : Bool) (e : Int) (N : Nat)
    (hsub : IntKind.i64.wrap (Int.ofNat es.length - 1) = Int.ofNat m) (hg : es[m]? = some (bodyG w b.1 b.2))
    (hc : Gam.pureD (callF tab ext (N + 299)) 39 [.agg c1X, envX (condFsG true w b es (es.length : Nat) k)] = some (.tup [boolX x, num e])) :
    Gam.pureD (callF tab ext (N + 300)) 19 [.agg (nodX nu ti li (exN 1) ty ru), .agg (kv k).cells, .sl false 6 es] = some (.tup [boolX x, num e]) := by
  obtain ⟨o, n⟩ := b
  by_cases h1 : 0 < nu
  · have h2 : decide (nu > 0) = true := decide_eq_true h1
    have h3 : decide (Int.ofNat es.length ≥ nu) = false := decide_eq_false fun h4 => h ⟨h1, h4⟩
    cases o with
    | none => exact pure_of [(11, .b true), (17, .b false), (26, .i (Int.ofNat m)), (27, .e (bodyG w none n)), (46, .p (.tup [boolX x, num e]))] [] (pf5 h2 h3 hsub hg hc) (x := .tup [boolX x, num e]) (bx := []) (by kernel_rfl) rfl
    | some q => exact pure_of [(11, .b true), (17, .b false), (26, .i (Int.ofNat m)), (27, .e (bodyG w (some q) n)), (46, .p (.tup [boolX x, num e]))] [] (pf5 h2 h3 hsub hg hc) (x := .tup [boolX x, num e]) (bx := []) (by kernel_rfl) rfl
  · have h2 : decide (nu > 0) = false := decide_eq_false h1
    cases o with
    | none => exact pure_of [(11, .b false), (26, .i (Int.ofNat m)), (27, .e (bodyG w none n)), (46, .p (.tup [boolX x, num e]))] [] (pf4 h2 hsub hg hc) (x := .tup [boolX x, num e]) (bx := []) (by kernel_rfl) rfl
    | some q => exact pure_of [(11, .b false), (26, .i (Int.ofNat m)), (27, .e (bodyG w (some q) n)), (46, .p (.tup [boolX x, num e]))] [] (pf4 h2 hsub hg hc) (x := .tup [boolX x, num e]) (bx := []) (by kernel_rfl) rfl
theorem m19_2 (w : Bool) (es : List (List X)) (h : ¬ (0 < nu ∧ nu ≤ (es.length : Int))) (m : Nat) (x : Bool) (e : Int) (N : Nat)
    (hsub : IntKind.i64.wrap (Int.ofNat es.length - 1) = Int.ofNat m) (hg : es[m]? = some (bodyG w b.1 b.2))
    (hc : Gam.pureD (callF tab ext (N + 299)) 39 [.agg c2X, envX (condFsG true w b es (es.length : Nat) k)] = some (.tup [boolX x, num e])) :
    Gam.pureD (callF tab ext (N + 300)) 19 [.agg (nodX nu ti li (exN 2) ty ru), .agg (kv k).cells, .sl false 6 es] = some (.tup [boolX x, num e]) := by
  obtain ⟨o, n⟩ := b
  by_cases h1 : 0 < nu
  · have h2 : decide (nu > 0) = true := decide_eq_true h1
    have h3 : decide (Int.ofNat es.length ≥ nu) = false := decide_eq_false fun h4 => h ⟨h1, h4⟩
    cases o with
    | none => exact pure_of [(11, .b true), (17, .b false), (26, .i (Int.ofNat m)), (27, .e (bodyG w none n)), (46, .p (.tup [boolX x, num e]))] [] (pf5 h2 h3 hsub hg hc) (x := .tup [boolX x, num e]) (bx := []) (by kernel_rfl) rfl
    | some q => exact pure_of [(11, .b true), (17, .b false), (26, .i (Int.ofNat m)), (27, .e (bodyG w (some q) n)), (46, .p (.tup [boolX x, num e]))] [] (pf5 h2 h3 hsub hg hc) (x := .tup [boolX x, num e]) (bx := []) (by kernel_rfl) rfl
  · have h2 : decide (nu > 0) = false := decide_eq_false h1
    cases o with
    | none => exact pure_of [(11, .b false), (26, .i (Int.ofNat m)), (27, .e (bodyG w none n)), (46, .p (.tup [boolX x, num e]))] [] (pf4 h2 hsub hg hc) (x := .tup [boolX x, num e]) (bx := []) (by kernel_rfl) rfl
    | some q => exact pure_of [(11, .b false), (26, .i (Int.ofNat m)), (27, .e (bodyG w (some q) n)), (46, .p (.tup [boolX x, num e]))] [] (pf4 h2 hsub hg hc) (x := .tup [boolX x, num e]) (bx := []) (by kernel_rfl) rfl
theorem model19 (w : Bool) (cd : Nat) (hcd : cd < 4) (ht : Tiny (nsOf l)) (hl : l.length ≤ 256) (h0 : 0 < l.length) (hlast : l[l.length - 1]? = some b) (N : Nat) (hN : 9200 ≤ N) :
    Gam.pureD (callF tab ext N) 19 [.agg (nodX nu ti li (exN cd) ty ru), .agg (kv k).cells, .sl false 6 (bdG w l)] = some (.tup [boolX (compR nu cd l b).1, num (compR nu cd l b).2]) := by
  obtain ⟨M, rfl⟩ : ∃ M, N = M + 300 := ⟨N - 300, by omega⟩
  have hlt : l.length - 1 < l.length := by omega
  have hb : l[l.length - 1] = b := by
    rw [List.getElem?_eq_getElem hlt] at hlast
    exact Option.some.inj hlast
  have hb4 : b.2 < 4 := ht _ (List.mem_map.2 ⟨b, by rw [← hb]; exact List.getElem_mem _, rfl⟩)
  have hg := bdG_get w hlt
  rw [hb] at hg
  have hn := bdG_len w l
  have hsub : IntKind.i64.wrap (Int.ofNat (bdG w l).length - 1) = Int.ofNat (l.length - 1) := by rw [IntKind.wrap_i64]; simp only [Int.ofNat_eq_natCast]; omega
  unfold compR
  by_cases hc : 0 < nu ∧ nu ≤ (l.length : Int)
  · rw [if_pos hc]
    exact m19_t nu ti li ty ru k cd (bdG w l) (by rw [hn]; exact hc) (M + 290)
  · rw [if_neg hc]
    have hc' : ¬ (0 < nu ∧ nu ≤ ((bdG w l).length : Int)) := by rw [hn]; exact hc
    have h4 : cd = 0 ∨ cd = 1 ∨ cd = 2 ∨ cd = 3 := by omega
    rcases h4 with rfl | rfl | rfl | rfl
    · exact m19_0 nu ti li ty ru k 0 (.inl rfl) (bdG w l) hc' (M + 290)
    · exact m19_1 nu ti li ty ru b k w (bdG w l) hc' _ _ _ M hsub hg (by
        rw [hn]
        exact cond_c1 (condEnvG true w b l (l.length : Nat) k) ht h0 hl (M + 299) (by omega))
    · exact m19_2 nu ti li ty ru b k w (bdG w l) hc' _ _ _ M hsub hg (by
        rw [hn]
        exact cond_c2g true w b hb4 (l.length : Nat) k (bdG w l) (M + 299) (by omega))
    · exact m19_0 nu ti li ty ru k 3 (.inr rfl) (bdG w l) hc' (M + 290)
end
end Go.Proofs.YthphniobeigklaaGreatDoor.Ag

/- The node of a sketch. -/
namespace Go.Proofs.YthphniobeigklaaGreatDoor.Ag
open Go Go.Em Go.Proofs.YthphniobeigklaaGreatDoor
set_option maxRecDepth 100000

def u8X (n : Int) : X := .v (.int .u8 n)
def skX (a b c d e : Int) : X := .agg [u8X a, u8X b, u8X c, u8X d, u8X e]
/-- The fields of the result's type. -/
def tyX (most : Int) : List (List X) :=
  [[num 1, strX keyNm, num 1, num 2, num 0, num 255, num 0, .sl true 1 [], .sl true 7 [], .sl true 11 [], .sl true 6 []],
   [num 2, strX countNm, num 1, num 2, num 1, num 256, num 0, .sl true 1 [], .sl true 7 [], .sl true 11 [], .sl true 6 []],
   [num 3, strX sumNm, num 1, num 2, num 0, num most, num 0, .sl true 1 [], .sl true 7 [], .sl true 11 [], .sl true 6 []]]
/-- The rules. -/
def ruX : List (List X) :=
  [[strX keyNm, num 2, num 0, strX keyNm, .sl false 6 [], .sl false 5 []],
   [strX countNm, num 2, num 0, strX countNm, .sl false 6 [], .sl false 5 []],
   [strX sumNm, num 26, num 0, strX sumT, .sl true 6 [], .sl true 5 []]]
def mostOf (e : Int) : Int := if e.tmod 2 = 1 then 9 else 999999999999999
def cdOf (d : Int) : Nat := if d.tmod 4 = 1 then 1 else if d.tmod 4 = 2 then 2 else 0
def nuOf (a : Int) : Int := IntKind.i64.wrap (a.tmod 5)
def tiOf (b : Int) : Int := IntKind.i64.wrap (10 * IntKind.i64.wrap (b.tmod 4))
def liOf (c : Int) : Int := IntKind.i64.wrap (1 + IntKind.i64.wrap (c.tmod 4))
theorem node12 (a b c d e : Int) (N : Nat) : Gam.pureD (callF tab ext (N + 300)) 12 [skX a b c d e] = some (.agg (nodX (nuOf a) (tiOf b) (liOf c) (exN (cdOf d)) (tyX (mostOf e)) ruX)) := by
  unfold mostOf cdOf
  by_cases h1 : d.tmod 4 = 1
  · have g1 : (d.tmod 4 == 1) = true := beq_iff_eq.2 h1
    rw [if_pos h1]
    by_cases h2 : e.tmod 2 = 1
    · have g2 : (e.tmod 2 == 1) = true := beq_iff_eq.2 h2
      rw [if_pos h2]
      exact pure_of [(29, .b true), (57, .b true)] [] (pf2 g1 g2) (x := .agg [strX aggT, num 4, num 0, num 0, num (IntKind.i64.wrap (a.tmod 5)), num (IntKind.i64.wrap (10 * IntKind.i64.wrap (b.tmod 4))), num (IntKind.i64.wrap (1 + IntKind.i64.wrap (c.tmod 4))), strX ⟨#[]⟩, num 9, num 0, num 0, num 0, .sl true 1 [], .sl true 7 [], .sl true 11 (tyX 9), .sl true 7 [], .bs 0 0 2, .sl true 6 ruX, .sl true 2 [], .sl true 1 []]) (bx := [.row 5 (exN 1)]) (by kernel_rfl) (by kernel_rfl)
    · have g2 : (e.tmod 2 == 1) = false := beq_eq_false_iff_ne.2 h2
      rw [if_neg h2]
      exact pure_of [(29, .b true), (57, .b false)] [] (pf2 g1 g2) (x := .agg [strX aggT, num 4, num 0, num 0, num (IntKind.i64.wrap (a.tmod 5)), num (IntKind.i64.wrap (10 * IntKind.i64.wrap (b.tmod 4))), num (IntKind.i64.wrap (1 + IntKind.i64.wrap (c.tmod 4))), strX ⟨#[]⟩, num 9, num 0, num 0, num 0, .sl true 1 [], .sl true 7 [], .sl true 11 (tyX 999999999999999), .sl true 7 [], .bs 0 0 2, .sl true 6 ruX, .sl true 2 [], .sl true 1 []]) (bx := [.row 5 (exN 1)]) (by kernel_rfl) (by kernel_rfl)
  · have g1 : (d.tmod 4 == 1) = false := beq_eq_false_iff_ne.2 h1
    rw [if_neg h1]
    by_cases h3 : d.tmod 4 = 2
    · have g3 : (d.tmod 4 == 2) = true := beq_iff_eq.2 h3
      rw [if_pos h3]
      by_cases h2 : e.tmod 2 = 1
      · have g2 : (e.tmod 2 == 1) = true := beq_iff_eq.2 h2
        rw [if_pos h2]
        exact pure_of [(29, .b false), (40, .b true), (57, .b true)] [] (pf3 g1 g3 g2) (x := .agg [strX aggT, num 4, num 0, num 0, num (IntKind.i64.wrap (a.tmod 5)), num (IntKind.i64.wrap (10 * IntKind.i64.wrap (b.tmod 4))), num (IntKind.i64.wrap (1 + IntKind.i64.wrap (c.tmod 4))), strX ⟨#[]⟩, num 9, num 0, num 0, num 0, .sl true 1 [], .sl true 7 [], .sl true 11 (tyX 9), .sl true 7 [], .bs 0 0 2, .sl true 6 ruX, .sl true 2 [], .sl true 1 []]) (bx := [.row 5 (exN 2)]) (by kernel_rfl) (by kernel_rfl)
      · have g2 : (e.tmod 2 == 1) = false := beq_eq_false_iff_ne.2 h2
        rw [if_neg h2]
        exact pure_of [(29, .b false), (40, .b true), (57, .b false)] [] (pf3 g1 g3 g2) (x := .agg [strX aggT, num 4, num 0, num 0, num (IntKind.i64.wrap (a.tmod 5)), num (IntKind.i64.wrap (10 * IntKind.i64.wrap (b.tmod 4))), num (IntKind.i64.wrap (1 + IntKind.i64.wrap (c.tmod 4))), strX ⟨#[]⟩, num 9, num 0, num 0, num 0, .sl true 1 [], .sl true 7 [], .sl true 11 (tyX 999999999999999), .sl true 7 [], .bs 0 0 2, .sl true 6 ruX, .sl true 2 [], .sl true 1 []]) (bx := [.row 5 (exN 2)]) (by kernel_rfl) (by kernel_rfl)
    · have g3 : (d.tmod 4 == 2) = false := beq_eq_false_iff_ne.2 h3
      rw [if_neg h3]
      by_cases h2 : e.tmod 2 = 1
      · have g2 : (e.tmod 2 == 1) = true := beq_iff_eq.2 h2
        rw [if_pos h2]
        exact pure_of [(29, .b false), (40, .b false), (57, .b true)] [] (pf3 g1 g3 g2) (x := .agg [strX aggT, num 4, num 0, num 0, num (IntKind.i64.wrap (a.tmod 5)), num (IntKind.i64.wrap (10 * IntKind.i64.wrap (b.tmod 4))), num (IntKind.i64.wrap (1 + IntKind.i64.wrap (c.tmod 4))), strX ⟨#[]⟩, num 9, num 0, num 0, num 0, .sl true 1 [], .sl true 7 [], .sl true 11 (tyX 9), .sl true 7 [], .sl true 5 (exN 0), .sl true 6 ruX, .sl true 2 [], .sl true 1 []]) (bx := []) (by kernel_rfl) (by kernel_rfl)
      · have g2 : (e.tmod 2 == 1) = false := beq_eq_false_iff_ne.2 h2
        rw [if_neg h2]
        exact pure_of [(29, .b false), (40, .b false), (57, .b false)] [] (pf3 g1 g3 g2) (x := .agg [strX aggT, num 4, num 0, num 0, num (IntKind.i64.wrap (a.tmod 5)), num (IntKind.i64.wrap (10 * IntKind.i64.wrap (b.tmod 4))), num (IntKind.i64.wrap (1 + IntKind.i64.wrap (c.tmod 4))), strX ⟨#[]⟩, num 9, num 0, num 0, num 0, .sl true 1 [], .sl true 7 [], .sl true 11 (tyX 999999999999999), .sl true 7 [], .sl true 5 (exN 0), .sl true 6 ruX, .sl true 2 [], .sl true 1 []]) (bx := []) (by kernel_rfl) (by kernel_rfl)
end Go.Proofs.YthphniobeigklaaGreatDoor.Ag

/- mapping.Apply at the environment of a group. -/
namespace Go.Proofs.YthphniobeigklaaGreatDoor.Ag
open Go Go.Em Go.Proofs.YthphniobeigklaaGreatDoor
set_option maxRecDepth 100000

def recV (fs : List (List X)) : List X := [num 9, num 0, num 0, strX ⟨#[]⟩, .sl false 6 [], .sl false 7 fs]
def tyV (most : Int) : List X := [num 9, num 0, num 0, num 0, .sl false 1 [], .sl false 7 [], .sl false 11 (tyX most)]
def tyI (lo hi : Int) : List X := [num 2, num lo, num hi, num 0, .sl false 1 [], .sl false 7 [], .sl false 11 []]
def finX (ok done : Bool) : List Bx := [.var [.fn 241 [.ptr 1 0 0], boolX done], .var [boolX ok]]
/-- The result of a group: count, key, sum. -/
def resV (c k s : Int) : Val := .mk 9 0 0 ⟨#[]⟩ [] [(countNm, kv c), (keyNm, kv k), (sumNm, kv s)]
theorem out_in (lo hi x : Int) (nm : ByteArray) (h : lo ≤ x ∧ x ≤ hi) (N : Nat) : callF tab ext (N + 20) (.fn 298) [.ptr 0 0 0, .agg (tyI lo hi), strX nm, num x] (finX true false) = some (.tup [], finX true false) :=
  callF_of [(11, .b false), (16, .b false)] [] (pf2 (show decide (x < lo) = false from decide_eq_false (by omega)) (show decide (x > hi) = false from decide_eq_false (by omega))) (by kernel_rfl)
theorem out_out (lo hi x : Int) (nm : ByteArray) (h : lo ≤ x) (h2 : hi < x) (N : Nat) : callF tab ext (N + 20) (.fn 298) [.ptr 0 0 0, .agg (tyI lo hi), strX nm, num x] (finX true false) = some (.tup [], finX false true) :=
  callF_of [(11, .b false), (16, .b true)] [] (pf2 (show decide (x < lo) = false from decide_eq_false (by omega)) (show decide (x > hi) = true from decide_eq_true (by omega))) (by kernel_rfl)
theorem find_int (lo hi x : Int) (nm : ByteArray) (a b : Bool) (N : Nat) (h : callF tab ext (N + 20) (.fn 298) [.ptr 0 0 0, .agg (tyI lo hi), strX nm, num x] (finX true false) = some (.tup [], finX a b)) :
    callF tab ext (N + 21) (.fn 242) [.ptr 0 0 0, .agg (tyI lo hi), .agg (kv x).cells, strX nm] (finX true false) = some (.tup [], finX a b) :=
  callF_of [(55, .r (.tup []) (finX a b))] [] (pf1 h) (by kernel_rfl)
section
variable (c k s most : Int) (a b : Bool) (N : Nat)
def frH (j : Nat) (a b : Bool) : St := ⟨[(0, .ptr 0 0 0), (3, strX ⟨#[]⟩), (5, .ptr 2 0 0), (6, .ptr 3 0 0), (17, .sl false 11 (tyX most)), (18, num 3), (19, nat j)], finX a b ++ [.var (tyV most), .var (resV c k s).cells]⟩
def frE (a b : Bool) : St := ⟨[(0, .ptr 0 0 0), (3, strX ⟨#[]⟩), (5, .ptr 2 0 0), (6, .ptr 3 0 0), (17, .sl false 11 (tyX most)), (18, num 3), (19, nat 3), (20, boolX false)], finX a b ++ [.var (tyV most), .var (resV c k s).cells]⟩
theorem fr_canon : canon 2 (frH c k s most 0 true false) = some (frH c k s most 0 true false) := by kernel_rfl
theorem fr_0 (h1 : callF tab ext (N + 60) (.fn 242) [.ptr 0 0 0, .agg (tyI 0 255), .agg (kv k).cells, strX keyNm] (finX true false) = some (.tup [], finX true false)) :
    ∃ υ, run (callF tab ext (N + 60)) 2 (N + 60) (loopAt 300 0) (frH c k s most 0 true false) = some (.norm, υ) ∧ canon 2 υ = some (frH c k s most 1 true false) :=
  rd_of [(39, .r (.tup []) (finX true false))] (pf1 h1) (by kernel_rfl)
theorem fr_1 (h2 : callF tab ext (N + 60) (.fn 242) [.ptr 0 0 0, .agg (tyI 1 256), .agg (kv c).cells, strX countNm] (finX true false) = some (.tup [], finX true false)) :
    ∃ υ, run (callF tab ext (N + 60)) 2 (N + 60) (loopAt 300 0) (frH c k s most 1 true false) = some (.norm, υ) ∧ canon 2 υ = some (frH c k s most 2 true false) :=
  rd_of [(39, .r (.tup []) (finX true false))] (pf1 h2) (by kernel_rfl)
theorem fr_2 (h3 : callF tab ext (N + 60) (.fn 242) [.ptr 0 0 0, .agg (tyI 0 most), .agg (kv s).cells, strX sumNm] (finX true false) = some (.tup [], finX a b)) :
    ∃ υ, run (callF tab ext (N + 60)) 2 (N + 60) (loopAt 300 0) (frH c k s most 2 true false) = some (.norm, υ) ∧ canon 2 υ = some (frH c k s most 3 a b) :=
  rd_of [(39, .r (.tup []) (finX a b))] (pf1 h3) (by kernel_rfl)
theorem fr_3 : run (callF tab ext (N + 60)) 2 (N + 60) (loopAt 300 0) (frH c k s most 3 a b) = some (.exit 0, frE c k s most a b) :=
  run_of [] [] pf0 (lo' := []) (by kernel_rfl)
theorem find_rec (h1 : callF tab ext (N + 60) (.fn 242) [.ptr 0 0 0, .agg (tyI 0 255), .agg (kv k).cells, strX keyNm] (finX true false) = some (.tup [], finX true false))
    (h2 : callF tab ext (N + 60) (.fn 242) [.ptr 0 0 0, .agg (tyI 1 256), .agg (kv c).cells, strX countNm] (finX true false) = some (.tup [], finX true false))
    (h3 : callF tab ext (N + 60) (.fn 242) [.ptr 0 0 0, .agg (tyI 0 most), .agg (kv s).cells, strX sumNm] (finX true false) = some (.tup [], finX a b)) :
    callF tab ext (N + 61) (.fn 300) [.ptr 0 0 0, .agg (tyV most), .agg (resV c k s).cells, strX ⟨#[]⟩] (finX true false) = some (.tup [], finX a b) := by
  obtain ⟨υ0, a1, b1⟩ := fr_0 c k s most N h1
  obtain ⟨υ1, a2, b2⟩ := fr_1 c k s most N h2
  obtain ⟨υ2, a3, b3⟩ := fr_2 c k s most a b N h3
  have hl : run (callF tab ext (N + 60)) 2 (N + 60) (.loop (loopAt 300 0)) (frH c k s most 0 true false) = some (.exit 0, frE c k s most a b) := iter_step (fr_canon ..) a1 (iter_step b1 a2 (iter_step b2 a3 (iter_end b3 (fr_3 ..) (by simp))))
  exact callF_of [] [(.exit 0, frE c k s most a b)] (pf1 hl) (by kernel_rfl)
theorem find_top (h : callF tab ext (N + 61) (.fn 300) [.ptr 0 0 0, .agg (tyV most), .agg (resV c k s).cells, strX ⟨#[]⟩] (finX true false) = some (.tup [], finX a b)) :
    callF tab ext (N + 62) (.fn 242) [.ptr 0 0 0, .agg (tyV most), .agg (resV c k s).cells, strX ⟨#[]⟩] (finX true false) = some (.tup [], finX a b) :=
  callF_of [(145, .r (.tup []) (finX a b))] [] (pf1 h) (by kernel_rfl)
theorem fits_top (h : callF tab ext (N + 62) (.fn 242) [.ptr 0 0 0, .agg (tyV most), .agg (resV c k s).cells, strX ⟨#[]⟩] (finX true false) = some (.tup [], finX a b)) :
    Gam.pureD (callF tab ext (N + 63)) 171 [.agg (tyV most), .agg (resV c k s).cells] = some (boolX a) :=
  pure_of [(11, .r (.tup []) (finX a b))] [] (pf1 h) (x := boolX a) (bx := []) (by kernel_rfl) rfl
theorem comp170 : Gam.pureD (callF tab ext (N + 300)) 170 [.agg (tyV most), .agg (resV c k s).cells] = some (.agg (resV c k s).cells) := by kernel_rfl
end
section
variable (c k s most : Int) (hc : 1 ≤ c ∧ c ≤ 256) (hk : 0 ≤ k ∧ k ≤ 255) (h0 : 0 ≤ s)
include hc hk h0
theorem fits171 (N : Nat) (hN : 200 ≤ N) : Gam.pureD (callF tab ext N) 171 [.agg (tyV most), .agg (resV c k s).cells] = some (boolX (decide (s ≤ most))) := by
  obtain ⟨M, rfl⟩ : ∃ M, N = M + 63 := ⟨N - 63, by omega⟩
  have h1 := find_int 0 255 k keyNm true false (M + 39) (out_in 0 255 k keyNm hk (M + 39))
  have h2 := find_int 1 256 c countNm true false (M + 39) (out_in 1 256 c countNm hc (M + 39))
  by_cases hs : s ≤ most
  · rw [decide_eq_true hs]
    exact fits_top c k s most true false M (find_top c k s most true false M (find_rec c k s most true false M h1 h2 (find_int 0 most s sumNm true false (M + 39) (out_in 0 most s sumNm ⟨h0, hs⟩ (M + 39)))))
  · rw [decide_eq_false hs]
    exact fits_top c k s most false true M (find_top c k s most false true M (find_rec c k s most false true M h1 h2 (find_int 0 most s sumNm false true (M + 39) (out_out 0 most s sumNm h0 (by omega) (M + 39)))))
theorem complete119 (N : Nat) (hN : 2000 ≤ N) : Gam.pureD (callF tab ext N) 119 [.agg (tyV most), .agg (resV c k s).cells] = some (if s ≤ most then .tup [.agg (resV c k s).cells, num 0] else .tup [.agg (Val.mk 0 0 0 ⟨#[]⟩ [] []).cells, num 18]) := by
  obtain ⟨M, rfl⟩ : ∃ M, N = M + 301 := ⟨N - 301, by omega⟩
  have h1 := comp170 c k s most M
  have h2 := fits171 c k s most hc hk h0 (M + 300) (by omega)
  have h3 := clone_val (M + 300) (resV c k s) (by simp [resV, kv, Val.size, sizeL, sizeF]) (by simp [resV, kv, Val.size, sizeL, sizeF])
  by_cases hs : s ≤ most
  · rw [if_pos hs]
    rw [decide_eq_true hs] at h2
    exact pure_of [(9, .p (.agg (resV c k s).cells)), (12, .p (boolX true)), (16, .p (.agg (resV c k s).cells))] [] (pf3 h1 h2 h3) (x := .tup [.agg (resV c k s).cells, num 0]) (bx := []) (by kernel_rfl) rfl
  · rw [if_neg hs]
    rw [decide_eq_false hs] at h2
    exact pure_of [(9, .p (.agg (resV c k s).cells)), (12, .p (boolX false))] [] (pf2 h1 h2) (x := .tup [.agg [num 0, num 0, num 0, strX ⟨#[]⟩, .sl true 6 [], .sl true 7 []], num 18]) (bx := []) (by kernel_rfl) rfl
end
/-! ### value.Check of small values -/
def RoundOk (v : Val) : Prop := ∀ (lev : Int) (n : Nat), lev ≤ 8 → n < 4000 → ∀ N, 60010 ≤ N → callF tab ext N .yl [.yl 0, num lev, .agg v.cells] (goC n) = some (boolX true, goC (n + 1))
theorem round_kv (x : Int) (hx : -999999999999999 ≤ x ∧ x ≤ 999999999999999) : RoundOk (kv x) := by
  intro lev n hl hn N hN
  obtain ⟨M, rfl⟩ : ∃ M, N = M + 61 := ⟨N - 61, by omega⟩
  have h1 := next_nat (j := n) (by omega)
  have h2 : decide (Int.ofNat (n + 1) > 4096) = false := decide_eq_false (by simp only [Int.ofNat_eq_natCast]; omega)
  have h3 : decide (lev > 8) = false := decide_eq_false (by omega)
  have h4 : Gam.pureD (callF tab ext (M + 60)) 211 [.agg (kv x).cells] = some (num 0) := by
    have a : decide (x < -999999999999999) = false := decide_eq_false (by omega)
    have b : decide (x > 999999999999999) = false := decide_eq_false (by omega)
    have h : Gam.pureD (callF tab ext (M + 59)) 210 [num x, num (-999999999999999), num 999999999999999] = some (num 0) := pure_of [(9, .b false), (13, .b false)] [] (pf2 a b) (x := num 0) (bx := []) (by kernel_rfl) rfl
    exact pure_of [(5, .p (num 0))] [] (pf1 h) (x := num 0) (bx := []) (by kernel_rfl) rfl
  exact yield_of [(14, .i (Int.ofNat (n + 1))), (17, .b false), (20, .b false), (42, .p (num 0))] (pf4 h1 h2 h3 h4) (by kernel_rfl)
theorem visit_flat (v : Val) (hr : RoundOk v) (hw : v.wide) (hs : v.size < 60) (hp : ∀ u, u ∈ partsV v → ∀ (lev n : Nat), lev ≤ 8 → n + 1 < 3000 → ∀ N, 60050 ≤ N → callF tab ext N (.fn 224) [.agg u.cells, nat lev, .yl 0] (goC n) = some (boolX true, goC (n + 1))) : ∀ (lev n : Nat), lev ≤ 7 → n + (1 + (partsV v).length) < 3000 → ∀ N, 60100 ≤ N → callF tab ext N (.fn 224) [.agg v.cells, nat lev, .yl 0] (goC n) = some (boolX true, goC (n + (1 + (partsV v).length))) := by
  intro lev n hl hn N hN
  obtain ⟨M, rfl⟩ : ∃ M, N = M + 1 := ⟨N - 1, by omega⟩
  have h1 := hr (Int.ofNat lev) n (by simp only [Int.ofNat_eq_natCast]; omega) (by omega) M (by omega)
  have h2 := parts_wide M v (few_of_wide hw) (by omega)
  have hc := cellsL_length (partsV v)
  have hloop : run (callF tab ext M) 4 M (.loop (loopAt 224 0)) (viH' (cellsL (partsV v)) lev (cellsL (partsV v)).length 0 (n + 1) v.cells) = some (.exit 0, viE (cellsL (partsV v)) lev (cellsL (partsV v)).length (cellsL (partsV v)).length (n + (1 + (partsV v).length))) := by
    refine loop_for (σ := fun j => viH (cellsL (partsV v)) lev (cellsL (partsV v)).length j (n + 1 + j)) (k := (cellsL (partsV v)).length) (vi_canon' ..) (fun j hj => ?_) ?_ (by simp) (by omega)
    · have hj' : j < (partsV v).length := by omega
      have hg := cellsL_get hj'
      have hu := hp _ (List.getElem_mem hj') (lev + 1) (n + 1 + j) (by omega) (by omega) M (by omega)
      generalize (partsV v)[j] = u at hg hu
      obtain ⟨u1, u2, u3, u4, u5, u6⟩ := u
      exact ⟨_, run_of [(18, .b true), (19, .e (Val.mk u1 u2 u3 u4 u5 u6).cells), (23, .i (Int.ofNat (lev + 1))), (25, .r (boolX true) (goC (n + 1 + j + 1))), (27, .i (Int.ofNat (j + 1)))] [] (pf5 (lt_nat hj) hg (next_nat (j := lev) (by omega)) hu (next_nat (j := j) (by omega))) (lo' := []) (by kernel_rfl), vi_canon' (cellsL (partsV v)) lev (cellsL (partsV v)).length (j + 1) (n + 1 + j + 1) (Val.mk u1 u2 u3 u4 u5 u6).cells⟩
    · rw [show n + 1 + (cellsL (partsV v)).length = n + (1 + (partsV v).length) by omega]
      exact run_of [(18, .b false)] [] (pf1 (nlt_nat (Nat.lt_irrefl (cellsL (partsV v)).length))) (lo' := []) (by kernel_rfl)
  generalize n + (1 + (partsV v).length) = m at *
  generalize cellsL (partsV v) = ps at *
  obtain ⟨k, i, s, t, l, f⟩ := v
  exact callF_of [(12, .r (boolX true) (goC (n + 1))), (15, .p (.sl false 6 ps))] [(.exit 0, viE ps lev ps.length ps.length m)] (pf3 h1 h2 hloop) (by kernel_rfl)
theorem visit_leaf (x : Int) (hx : -999999999999999 ≤ x ∧ x ≤ 999999999999999) : ∀ (lev n : Nat), lev ≤ 8 → n + 1 < 3000 → ∀ N, 60050 ≤ N → callF tab ext N (.fn 224) [.agg (kv x).cells, nat lev, .yl 0] (goC n) = some (boolX true, goC (n + 1)) := by
  intro lev n hl hn N hN
  obtain ⟨M, rfl⟩ : ∃ M, N = M + 31 := ⟨N - 31, by omega⟩
  have h1 := round_kv x hx (Int.ofNat lev) n (by simp only [Int.ofNat_eq_natCast]; omega) (by omega) (M + 30) (by omega)
  have h2 : Gam.pureD (callF tab ext (M + 30)) 289 [.agg (kv x).cells] = some (.sl false 6 []) := parts_wide (M + 30) (kv x) (few_of_wide (wide_of (by simp [kv, Val.size, sizeL, sizeF]))) (by simp [kv, Val.size, sizeL, sizeF])
  exact callF_of [(12, .r (boolX true) (goC (n + 1))), (15, .p (.sl false 6 []))] [] (pf2 h1 h2) (by kernel_rfl)
theorem chk_of (v : Val) (m : Nat) (h : ∀ N, 60100 ≤ N → callF tab ext N (.fn 224) [.agg v.cells, nat 1, .yl 0] (goC 0) = some (boolX true, goC m)) (N : Nat) (hN : 60200 ≤ N) : Gam.pureD (callF tab ext N) 104 [.agg v.cells] = some (num 0) := by
  obtain ⟨M, rfl⟩ : ∃ M, N = M + 4 := ⟨N - 4, by omega⟩
  have h := h (M + 2) (by omega)
  obtain ⟨k, i, s, t, l, f⟩ := v
  have hpre : Gam.pureD (callF tab ext (M + 3)) 149 [.agg (Val.mk k i s t l f).cells] = some (.fn 223 [.dp (Val.mk k i s t l f).cells]) :=
    pure_of [] [] pf0 (x := .fn 223 [.dp (Val.mk k i s t l f).cells]) (bx := []) (by kernel_rfl) rfl
  have hrul : Gam.pureD (callF tab ext (M + 3)) 148 [] = some (.agg rulesX) :=
    pure_of [] [] pf0 (x := .agg rulesX) (bx := []) (by kernel_rfl) rfl
  have h5 : callF tab ext (M + 3) (.fn 223) [.yl 0, .dp (Val.mk k i s t l f).cells] (goC 0) = some (.tup [], goC m) :=
    callF_of [(5, .r (boolX true) (goC m))] [] (pf1 h) (by kernel_rfl)
  have hrf : run (callF tab ext (M + 3)) 0 (M + 3) (.rf (.t 10) [11, 12] [2, 3, 4] (rfAt 104).1 (rfAt 104).2) (rfSt (Val.mk k i s t l f).cells) = some (.norm, rfFin (Val.mk k i s t l f).cells 0 m) :=
    rf_of (g := 223) (caps := [.dp (Val.mk k i s t l f).cells]) (y := .tup []) (outb := goC m)
      (q := (.tup [], [.var (Val.mk k i s t l f).cells, .var [num 0], .var rulesX, .var [nat m], recC .ready none], [4, 1, 2, 3])) h5 (by kernel_rfl) (by kernel_rfl) (by kernel_rfl)
  exact pure_of [(8, .p (.agg rulesX)), (10, .p (.fn 223 [.dp (Val.mk k i s t l f).cells]))] [(.norm, rfFin (Val.mk k i s t l f).cells 0 m)] (pf3 hrul hpre hrf) (x := num 0) (bx := []) (by kernel_rfl) rfl
theorem chk_kv (x : Int) (hx : -999999999999999 ≤ x ∧ x ≤ 999999999999999) (N : Nat) (hN : 60200 ≤ N) : Gam.pureD (callF tab ext N) 104 [.agg (kv x).cells] = some (num 0) :=
  chk_of (kv x) 1 (fun M hM => visit_leaf x hx 1 0 (by omega) (by omega) M (by omega)) N hN
theorem round_res (c k s : Int) : RoundOk (resV c k s) := by
  intro lev n hl hn N hN
  obtain ⟨M, rfl⟩ : ∃ M, N = M + 201 := ⟨N - 201, by omega⟩
  have h1 := next_nat (j := n) (by omega)
  have h2 : decide (Int.ofNat (n + 1) > 4096) = false := decide_eq_false (by simp only [Int.ofNat_eq_natCast]; omega)
  have h3 : decide (lev > 8) = false := decide_eq_false (by omega)
  exact yield_of [(14, .i (Int.ofNat (n + 1))), (17, .b false), (20, .b false)] (pf3 h1 h2 h3) (by kernel_rfl)
def Num15 (x : Int) : Prop := -999999999999999 ≤ x ∧ x ≤ 999999999999999
theorem chk_res (c k s : Int) (hc : Num15 c) (hk : Num15 k) (hs : Num15 s) (N : Nat) (hN : 60200 ≤ N) : Gam.pureD (callF tab ext N) 104 [.agg (resV c k s).cells] = some (num 0) :=
  chk_of (resV c k s) _ (fun M hM => visit_flat (resV c k s) (round_res c k s) (wide_of (by simp [resV, kv, Val.size, sizeL, sizeF])) (by simp [resV, kv, Val.size, sizeL, sizeF]) (fun u hu => by
    have : u = kv c ∨ u = kv k ∨ u = kv s := by simpa [partsV, resV] using hu
    rcases this with rfl | rfl | rfl
    · exact visit_leaf c hc
    · exact visit_leaf k hk
    · exact visit_leaf s hs) 1 0 (by omega) (by simp [partsV, resV]) M hM) N hN
theorem round_bd (o : Option Int) (x : Nat) : RoundOk (bodyV o x) := by
  intro lev n hl hn N hN
  obtain ⟨M, rfl⟩ : ∃ M, N = M + 201 := ⟨N - 201, by omega⟩
  have h1 := next_nat (j := n) (by omega)
  have h2 : decide (Int.ofNat (n + 1) > 4096) = false := decide_eq_false (by simp only [Int.ofNat_eq_natCast]; omega)
  have h3 : decide (lev > 8) = false := decide_eq_false (by omega)
  cases o with
  | none => exact yield_of [(14, .i (Int.ofNat (n + 1))), (17, .b false), (20, .b false)] (pf3 h1 h2 h3) (by kernel_rfl)
  | some q => exact yield_of [(14, .i (Int.ofNat (n + 1))), (17, .b false), (20, .b false)] (pf3 h1 h2 h3) (by kernel_rfl)
theorem chk_bd (q : Int) (x : Nat) (hq : Num15 q) (hx : x ≤ 1000) (N : Nat) (hN : 60200 ≤ N) : Gam.pureD (callF tab ext N) 104 [.agg (bodyV (some q) x).cells] = some (num 0) :=
  chk_of (bodyV (some q) x) _ (fun M hM => visit_flat (bodyV (some q) x) (round_bd (some q) x) (wide_of (by simp [bodyV, kv, Val.size, sizeL, sizeF])) (by simp [bodyV, kv, Val.size, sizeL, sizeF]) (fun u hu => by
    have : u = kv q ∨ u = kv x := by simpa [partsV, bodyV] using hu
    rcases this with rfl | rfl
    · exact visit_leaf q hq
    · exact visit_leaf x (by omega)) 1 0 (by omega) (by simp [partsV, bodyV]) M hM) N hN
end Go.Proofs.YthphniobeigklaaGreatDoor.Ag

/- mapping.Apply at the environment of a group: the rules, one after the other; the whole. -/
namespace Go.Proofs.YthphniobeigklaaGreatDoor.Ag
open Go Go.Em Go.Proofs.YthphniobeigklaaGreatDoor
set_option maxRecDepth 100000

noncomputable def recA (st : LoopState) (p : Option Ex) : Bx := .loop st p [(5, .ptr 2 0 0), (10, .ptr 3 0 0), (11, .ptr 4 0 0), (12, .ptr 5 0 0)] [31, 32] (rfAt 89).1 (rfAt 89).2
noncomputable def gA (most : Int) (fs : List (List X)) : List Bx := [recA .ready none, .var [.ptr 6 0 0], .var (tyV most), .var (recV fs), .var [num 0], .var [boolX false], .var [num 0]]
noncomputable def recY : Bx := .loop .ready none [(5, .ptr 1 0 0), (10, .ptr 2 0 0), (11, .ptr 3 0 0), (12, .ptr 4 0 0)] [31, 32] (rfAt 89).1 (rfAt 89).2
noncomputable def gY (most : Int) (fs : List (List X)) : List Bx := [recY, .var (tyV most), .var (recV fs), .var [num 0], .var [boolX false]]
def tgX : List (List X) := [[.sl false 3 [[num 1, num 0, strX keyNm]]], [.sl false 3 [[num 1, num 0, strX countNm]]], [.sl false 3 [[num 1, num 0, strX sumNm]]]]
noncomputable def itA (most : Int) (env fs : List (List X)) (j : Nat) : St := ⟨[(0, .yl 0), (2, .dp (recV env)), (3, .ptr 1 0 0), (5, .sl false 1 tgX), (13, .sl false 6 ruX), (14, num 3), (15, nat j)], gA most fs⟩
noncomputable def itE (most : Int) (env fs : List (List X)) : St := ⟨[(0, .yl 0), (2, .dp (recV env)), (3, .ptr 1 0 0), (5, .sl false 1 tgX), (13, .sl false 6 ruX), (14, num 3), (15, nat 3), (16, boolX false)], gA most fs⟩
def keyX : List X := [num 2, num 0, strX keyNm, .sl false 6 [], .sl false 5 []]
def countX : List X := [num 2, num 0, strX countNm, .sl false 6 [], .sl false 5 []]
theorem tg167 (N : Nat) : Gam.pureD (callF tab ext (N + 300)) 167 [.agg [.sl false 6 ruX]] = some (.sl false 1 tgX) := by kernel_rfl
theorem form115 (N : Nat) : Gam.pureD (callF tab ext (N + 300)) 115 [.agg [.sl false 6 ruX]] = some (num 0) := by kernel_rfl
theorem ev_key (k c : Int) (es : List (List X)) (N : Nat) : Gam.pureD (callF tab ext (N + 300)) 55 [.agg keyX, envX (groupFs es c k)] = some (.tup [.agg (kv k).cells, num 0]) := by kernel_rfl
theorem ev_count (k c : Int) (es : List (List X)) (N : Nat) : Gam.pureD (callF tab ext (N + 300)) 55 [.agg countX, envX (groupFs es c k)] = some (.tup [.agg (kv c).cells, num 0]) := by kernel_rfl
section
variable (most c k s : Int) (env : List (List X)) (N : Nat)
theorem y_key : callF tab ext (N + 300) .yl [.yl 0, .sl false 3 [[num 1, num 0, strX keyNm]], .agg (kv k).cells] (gY most []) = some (boolX true, gY most [strX keyNm :: (kv k).cells]) := by kernel_rfl
theorem y_count : callF tab ext (N + 300) .yl [.yl 0, .sl false 3 [[num 1, num 0, strX countNm]], .agg (kv c).cells] (gY most [strX keyNm :: (kv k).cells]) = some (boolX true, gY most [strX countNm :: (kv c).cells, strX keyNm :: (kv k).cells]) := by kernel_rfl
theorem y_sum : callF tab ext (N + 300) .yl [.yl 0, .sl false 3 [[num 1, num 0, strX sumNm]], .agg (kv s).cells] (gY most [strX countNm :: (kv c).cells, strX keyNm :: (kv k).cells]) = some (boolX true, gY most [strX countNm :: (kv c).cells, strX keyNm :: (kv k).cells, strX sumNm :: (kv s).cells]) := by kernel_rfl
theorem it_canon0 : canon 7 (itA most env [] 0) = some (itA most env [] 0) := by kernel_rfl
theorem it_0 (h0 : Gam.pureD (callF tab ext (N + 300)) 55 [.agg keyX, envX env] = some (.tup [.agg (kv k).cells, num 0])) :
    ∃ υ, run (callF tab ext (N + 300)) 7 (N + 300) (loopAt 166 0) (itA most env [] 0) = some (.norm, υ) ∧ canon 7 υ = some (itA most env [strX keyNm :: (kv k).cells] 1) :=
  rd_of [(24, .p (.tup [.agg (kv k).cells, num 0])), (38, .r (boolX true) (gY most [strX keyNm :: (kv k).cells]))] (pf2 h0 (y_key most k N)) (by kernel_rfl)
theorem it_1 (h0 : Gam.pureD (callF tab ext (N + 300)) 55 [.agg countX, envX env] = some (.tup [.agg (kv c).cells, num 0])) :
    ∃ υ, run (callF tab ext (N + 300)) 7 (N + 300) (loopAt 166 0) (itA most env [strX keyNm :: (kv k).cells] 1) = some (.norm, υ) ∧ canon 7 υ = some (itA most env [strX countNm :: (kv c).cells, strX keyNm :: (kv k).cells] 2) :=
  rd_of [(24, .p (.tup [.agg (kv c).cells, num 0])), (38, .r (boolX true) (gY most [strX countNm :: (kv c).cells, strX keyNm :: (kv k).cells]))] (pf2 h0 (y_count most c k N)) (by kernel_rfl)
theorem it_2 (h0 : Gam.pureD (callF tab ext (N + 300)) 55 [.agg sumX, envX env] = some (.tup [.agg (kv s).cells, num 0])) :
    ∃ υ, run (callF tab ext (N + 300)) 7 (N + 300) (loopAt 166 0) (itA most env [strX countNm :: (kv c).cells, strX keyNm :: (kv k).cells] 2) = some (.norm, υ) ∧ canon 7 υ = some (itA most env [strX countNm :: (kv c).cells, strX keyNm :: (kv k).cells, strX sumNm :: (kv s).cells] 3) :=
  rd_of [(24, .p (.tup [.agg (kv s).cells, num 0])), (38, .r (boolX true) (gY most [strX countNm :: (kv c).cells, strX keyNm :: (kv k).cells, strX sumNm :: (kv s).cells]))] (pf2 h0 (y_sum most c k s N)) (by kernel_rfl)
theorem it_3 (fs : List (List X)) : run (callF tab ext (N + 300)) 7 (N + 300) (loopAt 166 0) (itA most env fs 3) = some (.exit 0, itE most env fs) :=
  run_of [] [] pf0 (lo' := []) (by kernel_rfl)
end
def resFs (c k s : Int) : List (List X) := [strX countNm :: (kv c).cells, strX keyNm :: (kv k).cells, strX sumNm :: (kv s).cells]
theorem it166 (most c k s : Int) (es : List (List X)) (N : Nat) (hs : Gam.pureD (callF tab ext (N + 300)) 55 [.agg sumX, envX (groupFs es c k)] = some (.tup [.agg (kv s).cells, num 0])) :
    callF tab ext (N + 301) (.fn 166) [.yl 0, .dp [.sl false 6 ruX], .dp (recV (groupFs es c k)), .ptr 1 0 0] (gA most []) = some (.tup [], gA most (resFs c k s)) := by
  obtain ⟨υ0, a1, b1⟩ := it_0 most k (groupFs es c k) N (ev_key k c es N)
  obtain ⟨υ1, a2, b2⟩ := it_1 most c k (groupFs es c k) N (ev_count k c es N)
  obtain ⟨υ2, a3, b3⟩ := it_2 most c k s (groupFs es c k) N hs
  have hl : run (callF tab ext (N + 300)) 7 (N + 300) (.loop (loopAt 166 0)) (itA most (groupFs es c k) [] 0) = some (.exit 0, itE most (groupFs es c k) (resFs c k s)) := iter_step (it_canon0 ..) a1 (iter_step b1 a2 (iter_step b2 a3 (iter_end b3 (it_3 ..) (by simp))))
  generalize groupFs es c k = env at *
  exact callF_of [(11, .p (.sl false 1 tgX))] [(.exit 0, itE most env (resFs c k s))] (pf2 (tg167 N) hl) (by kernel_rfl)
/-! ### Apply -/
def apB (most : Int) (env fs : List (List X)) : List Bx := [.var [.sl false 6 ruX], .var (recV env), .var (tyV most), .var [num 0, num 0, num 0, strX ⟨#[]⟩, .sl true 6 [], .sl true 7 []], .var [num 0], .var (recV fs), .var [num 0], .var [boolX false], .var [.ptr 4 0 0]]
def apS (most : Int) (env fs : List (List X)) : St := ⟨[(5, .ptr 2 0 0), (6, .ptr 3 0 0), (9, .ptr 4 0 0), (10, .ptr 5 0 0), (11, .ptr 6 0 0), (12, .ptr 7 0 0), (30, .fn 166 [.dp [.sl false 6 ruX], .dp (recV env), .ptr 8 0 0])], apB most env fs⟩
def apE (most : Int) (env fs : List (List X)) : St := ⟨[(5, .ptr 2 0 0), (6, .ptr 3 0 0), (9, .ptr 4 0 0), (10, .ptr 5 0 0), (11, .ptr 6 0 0), (12, .ptr 7 0 0), (30, .fn 166 [.dp [.sl false 6 ruX], .dp (recV env), .ptr 8 0 0])], apB most env fs ++ [.dead]⟩
theorem ap_rf (most c k s : Int) (es : List (List X)) (N : Nat) (hs : Gam.pureD (callF tab ext (N + 300)) 55 [.agg sumX, envX (groupFs es c k)] = some (.tup [.agg (kv s).cells, num 0])) :
    run (callF tab ext (N + 301)) 0 (N + 301) (.rf (.t 30) [31, 32] [5, 10, 11, 12] (rfAt 89).1 (rfAt 89).2) (apS most (groupFs es c k) []) = some (.norm, apE most (groupFs es c k) (resFs c k s)) := by
  have h5 := it166 most c k s es N hs
  generalize groupFs es c k = env at *
  exact rf_of (g := 166) (caps := [.dp [.sl false 6 ruX], .dp (recV env), .ptr 8 0 0]) (y := .tup []) (outb := gA most (resFs c k s))
      (q := (.tup [], apB most env (resFs c k s) ++ [.loop .ready none [(5, .ptr 2 0 0), (10, .ptr 5 0 0), (11, .ptr 6 0 0), (12, .ptr 7 0 0)] [31, 32] (rfAt 89).1 (rfAt 89).2], [9, 8, 2, 5, 6, 7, 4])) h5 (by kernel_rfl) (by kernel_rfl) (by kernel_rfl)
theorem apply_env (most c k s : Int) (es : List (List X)) (hc : 1 ≤ c ∧ c ≤ 256) (hk : 0 ≤ k ∧ k ≤ 255) (h0 : 0 ≤ s ∧ s ≤ 100000) (N : Nat) (hN : 61000 ≤ N) (hs : ∀ M, 5001 ≤ M → Gam.pureD (callF tab ext M) 55 [.agg sumX, envX (groupFs es c k)] = some (.tup [.agg (kv s).cells, num 0])) :
    Gam.pureD (callF tab ext N) 89 [.agg [.sl false 6 ruX], envX (groupFs es c k), .agg (tyV most)] = some (if s ≤ most then .tup [.agg (resV c k s).cells, num 0] else .tup [.agg (Val.mk 0 0 0 ⟨#[]⟩ [] []).cells, num 18]) := by
  obtain ⟨M, rfl⟩ : ∃ M, N = M + 302 := ⟨N - 302, by omega⟩
  have h1 := ap_rf most c k s es M (hs _ (by omega))
  have h2 := form115 (M + 1)
  have h3 := complete119 c k s most hc hk h0.1 (M + 301) (by omega)
  have h4 := chk_res c k s ⟨by omega, by omega⟩ ⟨by omega, by omega⟩ ⟨by omega, by omega⟩ (M + 301) (by omega)
  generalize groupFs es c k = env at *
  by_cases hle : s ≤ most
  · rw [if_pos hle] at h3 ⊢
    exact pure_of [(18, .p (num 0)), (68, .p (.tup [.agg (resV c k s).cells, num 0])), (76, .p (num 0))] [(.norm, apE most env (resFs c k s))] (pf4 h2 h1 h3 h4) (x := .tup [.agg (resV c k s).cells, num 0]) (bx := []) (by kernel_rfl) rfl
  · rw [if_neg hle] at h3 ⊢
    exact pure_of [(18, .p (num 0)), (68, .p (.tup [.agg (Val.mk 0 0 0 ⟨#[]⟩ [] []).cells, num 18]))] [(.norm, apE most env (resFs c k s))] (pf3 h2 h1 h3) (x := .tup [.agg [num 0, num 0, num 0, strX ⟨#[]⟩, .sl true 6 [], .sl true 7 []], num 18]) (bx := []) (by kernel_rfl) rfl
theorem apply89 (most k : Int) (l : List Bd) (ht : Tiny (nsOf l)) (h0 : 0 < l.length) (hl : l.length ≤ 256) (hk : 0 ≤ k ∧ k ≤ 255) (N : Nat) (hN : 61000 ≤ N) :
    Gam.pureD (callF tab ext N) 89 [.agg [.sl false 6 ruX], envX (groupFs (bdC l) (l.length : Nat) k), .agg (tyV most)] = some (if ((sumN (nsOf l) : Nat) : Int) ≤ most then .tup [.agg (resV (l.length : Nat) k (sumN (nsOf l) : Nat)).cells, num 0] else .tup [.agg (Val.mk 0 0 0 ⟨#[]⟩ [] []).cells, num 18]) := by
  have hle := sumN_le ht
  rw [nsOf_len] at hle
  exact apply_env most (l.length : Nat) k (sumN (nsOf l) : Nat) (bdC l) ⟨by omega, by omega⟩ hk ⟨by omega, by omega⟩ N hN fun M hM => ev_sum (groupEnv l (l.length : Nat) k) ht h0 hl M hM
end Go.Proofs.YthphniobeigklaaGreatDoor.Ag

/- (*aggregator.builder).finish: a group is merged, or all its messages are rejected. -/
namespace Go.Proofs.YthphniobeigklaaGreatDoor.Ag
open Go Go.Em Go.Proofs.YthphniobeigklaaGreatDoor
set_option maxRecDepth 100000

def typT : ByteArray := ⟨#[116, 121, 112, 101]⟩
/-- A message of a group: its place among the inputs, its number. -/
def msV (q : Int) (m : Nat × Nat) : Msg := ⟨⟨(m.1 : Int) + 1, [1]⟩, 100 + (m.1 : Int), [(m.1 : Int) + 1], bodyV (some q) m.2⟩
theorem msV_ok (q : Int) (m : Nat × Nat) : (msV q m).ok := ⟨⟨by simp [msV]⟩, by simp [msV], by
  have := bodyV_size (some q) m.2
  show (bodyV (some q) m.2).size ≤ 60000
  omega⟩
def gB (q : Int) (M : List (Nat × Nat)) : List Bd := M.map fun m => (some q, m.2)
theorem gB_len (q : Int) (M : List (Nat × Nat)) : (gB q M).length = M.length := by simp [gB]
theorem bodC_ms (q : Int) (M : List (Nat × Nat)) : bodC (M.map (msV q)) = bdC (gB q M) := by simp [bodC, bdC, gB, msV]
def sumM (M : List (Nat × Nat)) : Nat := sumN (M.map (·.2))
theorem nsOf_gB (q : Int) (M : List (Nat × Nat)) : nsOf (gB q M) = M.map (·.2) := by simp [nsOf, gB]
def rejF (ms : List Msg) (r : ByteArray) : List Fte := ms.map fun m => Fte.mk m.st 4 aggT [] r
/-! ### All messages are rejected -/
section
variable (nu ti li : Int) (ex ty ru ss O F L ms : List (List X)) (r : ByteArray) (no nf nl n j : Nat) (w : Bool) (N : Nat)
def raB : List Bx := if w then [.var [.ptr 1 0 0], .var (bX nu ti li ex ty ru ss 2 no 3 nf 4 nl), .row 11 O, .row 6 F, .row 10 L] else [.var [.ptr 1 0 0], .var (bX nu ti li ex ty ru ss 2 no 5 nf 6 nl), .row 11 O, .dead, .dead, .row 6 F, .row 10 L]
def rbH : St := ⟨[(0, strX r), (2, .ptr 0 0 0), (6, .sl false 10 ms), (7, nat n), (8, nat j)], raB nu ti li ex ty ru ss O F L no nf nl w⟩
def rbE : St := ⟨[(0, strX r), (2, .ptr 0 0 0), (6, .sl false 10 ms), (7, nat n), (8, nat j), (9, boolX false)], raB nu ti li ex ty ru ss O F L no nf nl w⟩
theorem rb_canon : canon 5 (rbH nu ti li ex ty ru ss O F L ms r no nf nl n j w) = some (rbH nu ti li ex ty ru ss O F L ms r no nf nl n j w) := by
  cases w with
  | true => kernel_rfl
  | false => kernel_rfl
theorem rb_end (h : ¬ j < n) : run (callF tab ext N) 5 N (loopAt 88 0) (rbH nu ti li ex ty ru ss O F L ms r no nf nl n j false) = some (.exit 0, rbE nu ti li ex ty ru ss O F L ms r no nf nl n j false) :=
  run_of [(9, .b false)] [] (pf1 (nlt_nat h)) (lo' := []) (by kernel_rfl)
theorem rb_round (m : Msg) (hm : m.ok) (he : ms[j]? = some m.cells) (hj : j < n) (hn : n < 5000) (hf : nf = F.length) (hl : nl = L.length) (hf2 : nf < 5000) (hl2 : nl < 5000) (hN : 190100 ≤ N) :
    ∃ υ, run (callF tab ext N) 5 N (loopAt 88 0) (rbH nu ti li ex ty ru ss O F L ms r no nf nl n j w) = some (.norm, υ) ∧ canon 5 υ = some (rbH nu ti li ex ty ru ss O (F ++ [(Fte.mk m.st 4 aggT [] r).cells]) (L ++ [m.cells]) ms r no (nf + 1) (nl + 1) n (j + 1) false) := by
  have h := rej80 nu ti li ex ty ru ss O F L m hm r no nf nl hf hl (by omega) (by omega) N hN
  have h1 := lt_nat hj
  have h2 := next_nat (j := j) (by omega)
  generalize F ++ [(Fte.mk m.st 4 aggT [] r).cells] = F2 at *
  generalize hL : L ++ [m.cells] = L2 at *
  clear hL
  obtain ⟨⟨e, p⟩, mm, o, ⟨a1, a2, a3, a4, a5, a6⟩⟩ := m
  cases w with
  | true => exact rd_of [(9, .b true), (10, .e (Msg.mk ⟨e, p⟩ mm o (.mk a1 a2 a3 a4 a5 a6)).cells), (15, .r (.tup []) [.var (bX nu ti li ex ty ru ss 1 no 4 (nf + 1) 5 (nl + 1)), .row 11 O, .dead, .dead, .row 6 F2, .row 10 L2]), (16, .i (Int.ofNat (j + 1)))] (pf4 h1 he h h2) (by kernel_rfl)
  | false => exact rd_of [(9, .b true), (10, .e (Msg.mk ⟨e, p⟩ mm o (.mk a1 a2 a3 a4 a5 a6)).cells), (15, .r (.tup []) [.var (bX nu ti li ex ty ru ss 1 no 4 (nf + 1) 5 (nl + 1)), .row 11 O, .dead, .dead, .row 6 F2, .row 10 L2]), (16, .i (Int.ofNat (j + 1)))] (pf4 h1 he h h2) (by kernel_rfl)
end
theorem ra88 (nu ti li : Int) (ex ty ru ss O : List (List X)) (F : List Fte) (L ms : List Msg) (r : ByteArray) (no : Nat) (h0 : 0 < ms.length) (hm : ∀ m, m ∈ ms → m.ok) (hn : ms.length < 1000) (hf : F.length < 2000) (hl : L.length < 2000) (N : Nat) (hN : 190110 ≤ N) :
    callF tab ext N (.fn 88) [strX r, .dp [.sl false 10 (msgsC ms)], .ptr 0 0 0] [.var [.ptr 1 0 0], .var (bX nu ti li ex ty ru ss 2 no 3 F.length 4 L.length), .row 11 O, .row 6 (ftesC F), .row 10 (msgsC L)] =
      some (.tup [], [.var [.ptr 1 0 0], .var (bX nu ti li ex ty ru ss 2 no 5 (F ++ rejF ms r).length 6 (L ++ ms).length), .row 11 O, .dead, .dead, .row 6 (ftesC (F ++ rejF ms r)), .row 10 (msgsC (L ++ ms))]) := by
  obtain ⟨M, rfl⟩ : ∃ M, N = M + 1 := ⟨N - 1, by omega⟩
  have hk := msgsC_length ms
  have hlF := ftesC_length F
  have hlL := msgsC_length L
  have hrun : run (callF tab ext M) 5 M (.loop (loopAt 88 0)) (rbH nu ti li ex ty ru ss O (ftesC F) (msgsC L) (msgsC ms) r no F.length L.length (msgsC ms).length 0 true) = some (.exit 0, rbE nu ti li ex ty ru ss O (ftesC (F ++ rejF ms r)) (msgsC (L ++ ms)) (msgsC ms) r no (F ++ rejF ms r).length (L ++ ms).length (msgsC ms).length (msgsC ms).length false) := by
    refine loop_for (σ := fun j => rbH nu ti li ex ty ru ss O (ftesC (F ++ rejF (ms.take j) r)) (msgsC (L ++ ms.take j)) (msgsC ms) r no (F ++ rejF (ms.take j) r).length (L ++ ms.take j).length (msgsC ms).length j (decide (j = 0))) (k := (msgsC ms).length) ?_ (fun j hj => ?_) ?_ (by simp) (by omega)
    · have := rb_canon nu ti li ex ty ru ss O (ftesC F) (msgsC L) (msgsC ms) r no F.length L.length (msgsC ms).length 0 true
      simpa [rejF] using this
    · have hj' : j < ms.length := by omega
      have e1 : F ++ rejF (ms.take (j + 1)) r = (F ++ rejF (ms.take j) r) ++ [Fte.mk ms[j].st 4 aggT [] r] := by
        unfold rejF
        rw [List.take_succ_eq_append_getElem hj', List.map_append, List.append_assoc]
        rfl
      have e2 : L ++ ms.take (j + 1) = (L ++ ms.take j) ++ [ms[j]] := by rw [List.take_succ_eq_append_getElem hj', List.append_assoc]
      have q1 : (F ++ rejF (ms.take j) r).length ≤ F.length + j := by simp [rejF]; omega
      have q2 : (L ++ ms.take j).length ≤ L.length + j := by simp; omega
      rw [e1, e2, show decide (j + 1 = 0) = false from decide_eq_false (by omega)]
      generalize F ++ rejF (ms.take j) r = Fj at *
      generalize L ++ ms.take j = Lj at *
      have := rb_round nu ti li ex ty ru ss O (ftesC Fj) (msgsC Lj) (msgsC ms) r no Fj.length Lj.length (msgsC ms).length j (decide (j = 0)) M ms[j] (hm _ (List.getElem_mem hj')) (msgsC_get hj') hj (by omega) (ftesC_length Fj).symm (msgsC_length Lj).symm (by omega) (by omega) (by omega)
      have a1 : ftesC (Fj ++ [Fte.mk ms[j].st 4 aggT [] r]) = ftesC Fj ++ [(Fte.mk ms[j].st 4 aggT [] r).cells] := by simp [ftesC]
      have a2 : msgsC (Lj ++ [ms[j]]) = msgsC Lj ++ [ms[j].cells] := by simp [msgsC]
      have a3 : (Fj ++ [Fte.mk ms[j].st 4 aggT [] r]).length = Fj.length + 1 := by simp
      have a4 : (Lj ++ [ms[j]]).length = Lj.length + 1 := by simp
      rw [a1, a2, a3, a4]
      exact this
    · rw [List.take_of_length_le (by omega), show decide ((msgsC ms).length = 0) = false from decide_eq_false (by omega)]
      exact rb_end nu ti li ex ty ru ss O _ _ _ r no _ _ _ _ M (by omega)
  generalize ftesC (F ++ rejF ms r) = F2 at *
  generalize msgsC (L ++ ms) = L2 at *
  generalize (F ++ rejF ms r).length = nf2 at *
  generalize (L ++ ms).length = nl2 at *
  generalize ftesC F = F1 at *
  generalize msgsC L = L1 at *
  generalize msgsC ms = M1 at *
  exact callF_of [] [(.exit 0, rbE nu ti li ex ty ru ss O F2 L2 M1 r no nf2 nl2 M1.length M1.length false)] (pf1 hrun) (by kernel_rfl)
/-! ### finish -/
def zsM (M : List (Nat × Nat)) : List Int := M.map fun m => (m.1 : Int) + 1
/-- The message into which a group is merged. -/
def mrgM (q : Int) (M : List (Nat × Nat)) (s : Stp) : Msg := ⟨s, massL (M.map (msV q)), zsM M, resV (M.length : Nat) q (sumM M : Nat)⟩
structure GrpOk (q : Int) (M : List (Nat × Nat)) : Prop where
  pos : 0 < M.length
  len : M.length < 49
  key : 0 ≤ q ∧ q ≤ 255
  place : ∀ m, m ∈ M → m.1 < 1000 ∧ m.2 < 4
  srt : M.Pairwise fun a b => a.1 < b.1
theorem zsM_inc {M : List (Nat × Nat)} (h : M.Pairwise fun a b => a.1 < b.1) : Inc (zsM M) := by
  unfold Inc zsM
  rw [List.pairwise_map]
  exact h.imp fun hab => by omega
theorem GrpOk.tiny {q : Int} {M : List (Nat × Nat)} (h : GrpOk q M) : Tiny (nsOf (gB q M)) := by
  rw [nsOf_gB]
  intro x hx
  obtain ⟨m, hm, rfl⟩ := List.mem_map.1 hx
  exact (h.place m hm).2
theorem GrpOk.ms {q : Int} {M : List (Nat × Nat)} (h : GrpOk q M) : ∀ m, m ∈ M.map (msV q) → m.ok ∧ 0 ≤ m.mass ∧ m.mass ≤ 100000 := fun m hm => by
  obtain ⟨x, hx, rfl⟩ := List.mem_map.1 hm
  have := (h.place x hx).1
  refine ⟨msV_ok q x, ?_⟩
  show 0 ≤ 100 + (x.1 : Int) ∧ 100 + (x.1 : Int) ≤ 100000
  omega
section
variable (nu ti li most : Int) (ex ss : List (List X)) (O : List Otp) (F : List Fte) (L : List Msg) (q : Int) (M : List (Nat × Nat)) (t : Stp)
/-- The builder's boxes. -/
def bdB : List Bx := [.var (bX nu ti li ex (tyX most) ruX ss 1 O.length 2 F.length 3 L.length), .row 11 (otpsC O), .row 6 (ftesC F), .row 10 (msgsC L)]
/-- Behind a merge; behind a rejection. -/
def bdM : List Bx := [.var (bX nu ti li ex (tyX most) ruX ss 4 O.length 5 F.length 3 L.length), .dead, .dead, .row 10 (msgsC L), .row 11 (otpsC O), .row 6 (ftesC F)]
def bdR : List Bx := [.var (bX nu ti li ex (tyX most) ruX ss 1 O.length 4 F.length 5 L.length), .row 11 (otpsC O), .dead, .dead, .row 6 (ftesC F), .row 10 (msgsC L)]
variable (h : GrpOk q M) (ht : t.ok) (ht2 : t.p.length < 1000) (hO : O.length < 2000) (hF : F.length < 2000) (hL : L.length < 2000)
include h ht ht2 hO hF hL
omit hO in
theorem fin_no (hs : most < (sumM M : Nat)) (N : Nat) (hN : 191000 ≤ N) :
    callF tab ext N (.fn 50) [.ptr 0 0 0, .agg (kv q).cells, .sl false 10 (msgsC (M.map (msV q))), .agg t.cells] (bdB nu ti li most ex ss O F L) =
      some (.tup [], bdR nu ti li most ex ss O (F ++ rejF (M.map (msV q)) typT) (L ++ M.map (msV q))) := by
  obtain ⟨K, rfl⟩ : ∃ K, N = K + 601 := ⟨N - 601, by omega⟩
  have hpos := h.pos
  have hlen := h.len
  have h83 := bodies83 (M.map (msV q)) (by rw [List.length_map]; omega) (K + 600) (by omega)
  rw [bodC_ms] at h83
  have h90 := group90 (gB q M) (by rw [gB_len]; omega) q (K + 600) (by omega)
  have h89 := apply89 most q (gB q M) h.tiny (by rw [gB_len]; omega) (by rw [gB_len]; omega) h.key (K + 600) (by omega)
  rw [nsOf_gB] at h89
  rw [show sumN (M.map (·.2)) = sumM M from rfl, if_neg (by omega)] at h89
  have h88 := ra88 nu ti li ex (tyX most) ruX ss (otpsC O) F L (M.map (msV q)) typT O.length (by rw [List.length_map]; omega) (fun m hm => (h.ms m hm).1) (by rw [List.length_map]; omega) hF hL (K + 600) (by omega)
  unfold bdB bdR
  generalize groupFs (bdC (gB q M)) ((gB q M).length : Nat) q = env at *
  generalize bdC (gB q M) = bs at *
  generalize F ++ rejF (M.map (msV q)) typT = F2 at *
  generalize L ++ M.map (msV q) = L2 at *
  generalize F2.length = nf2 at *
  generalize L2.length = nl2 at *
  generalize ftesC F2 = F2c at *
  generalize msgsC L2 = L2c at *
  generalize msgsC (M.map (msV q)) = ms at *
  generalize ftesC F = Fc at *
  generalize msgsC L = Lc at *
  generalize otpsC O = Oc at *
  generalize O.length = no at *
  generalize F.length = nf at *
  generalize L.length = nl at *
  obtain ⟨e, p⟩ := t
  exact callF_of [(22, .p (.sl false 6 bs)), (23, .p (envX env)), (29, .p (.tup [.agg (Val.mk 0 0 0 ⟨#[]⟩ [] []).cells, num 18])), (37, .r (.tup []) [.var [.ptr 1 0 0], .var (bX nu ti li ex (tyX most) ruX ss 2 no 5 nf2 6 nl2), .row 11 Oc, .dead, .dead, .row 6 F2c, .row 10 L2c])] [] (pf4 h83 h90 h89 h88) (by kernel_rfl)
omit hL in
theorem fin_ok (hs : ((sumM M : Nat) : Int) ≤ most) (N : Nat) (hN : 191000 ≤ N) :
    callF tab ext N (.fn 50) [.ptr 0 0 0, .agg (kv q).cells, .sl false 10 (msgsC (M.map (msV q))), .agg t.cells] (bdB nu ti li most ex ss O F L) =
      some (.tup [], bdM nu ti li most ex ss (O ++ [⟨0, mrgM q M (undS t O.length)⟩]) (F ++ mrgF (M.map (msV q)) aggT (undS t O.length)) L) := by
  obtain ⟨K, rfl⟩ : ∃ K, N = K + 601 := ⟨N - 601, by omega⟩
  have hpos := h.pos
  have hlen := h.len
  have h83 := bodies83 (M.map (msV q)) (by rw [List.length_map]; omega) (K + 600) (by omega)
  rw [bodC_ms] at h83
  have h90 := group90 (gB q M) (by rw [gB_len]; omega) q (K + 600) (by omega)
  have h89 := apply89 most q (gB q M) h.tiny (by rw [gB_len]; omega) (by rw [gB_len]; omega) h.key (K + 600) (by omega)
  rw [nsOf_gB] at h89
  rw [show sumN (M.map (·.2)) = sumM M from rfl, if_pos hs] at h89
  have h22 := under22 t ht O.length (K + 600) (by omega)
  have hu : (undS t O.length).ok := ⟨by simp [undS]; omega⟩
  have h91 := merge91 (M.map (msV q)) (zsM M) (by rw [List.length_map]; omega) (by unfold zsM; rw [List.length_map]; omega) (fun m hm => (h.ms m hm).2) (by simp [zsM, msV]) (zsM_inc h.srt) (undS t O.length) hu (resV (M.length : Nat) q (sumM M : Nat)) (by simp [resV, kv, Val.ok, Val.size, sizeL, sizeF]) (K + 600) (by omega)
  have h92 := merged92 (M.map (msV q)) (fun m hm => (h.ms m hm).1.st) (by rw [List.length_map]; omega) aggT (undS t O.length) hu (K + 600) (by omega)
  have e1 : otpsC (O ++ [⟨0, mrgM q M (undS t O.length)⟩]) = otpsC O ++ [num 0 :: (mrgM q M (undS t O.length)).cells] := by simp [otpsC, Otp.cells]
  have e2 : ftesC (F ++ mrgF (M.map (msV q)) aggT (undS t O.length)) = ftesC F ++ ftesC (mrgF (M.map (msV q)) aggT (undS t O.length)) := by simp [ftesC]
  have e3 : (F ++ mrgF (M.map (msV q)) aggT (undS t O.length)).length = F.length + (ftesC (mrgF (M.map (msV q)) aggT (undS t O.length))).length := by rw [List.length_append, ftesC_length]
  have hml : (ftesC (mrgF (M.map (msV q)) aggT (undS t O.length))).length < 1000 := by rw [ftesC_length]; simp [mrgF]; omega
  unfold bdB bdM
  rw [e1, e2, e3, List.length_append, List.length_singleton]
  rw [gB_len] at h90 h89
  have hA := app_ok (acc := otpsC O) O.length 1 160 (otpsC_length O).symm (by omega) (by omega)
  have hB : 0 + F.length = (ftesC F).length ∧ roomOk (F.length + (ftesC (mrgF (M.map (msV q)) aggT (undS t O.length))).length) 96 = true ∧ memN 2 [] = false :=
    ⟨by rw [ftesC_length]; omega, room_of (by omega) (by omega), rfl⟩
  show _ = some (X.tup [], ([.var (bX nu ti li ex (tyX most) ruX ss 4 (O.length + 1) 5 (F.length + (ftesC (mrgF (M.map (msV q)) aggT (undS t O.length))).length) 3 L.length), .dead, .dead, .row 10 (msgsC L), .row 11 (otpsC O ++ [num 0 :: (num (undS t O.length).e :: .sl false 1 (intsC (undS t O.length).p) :: num (massL (M.map (msV q))) :: .sl false 1 (intsC (zsM M)) :: recV (resFs (M.length : Nat) q (sumM M : Nat)))]), .row 6 (ftesC F ++ ftesC (mrgF (M.map (msV q)) aggT (undS t O.length)))] : List Bx))
  have h91' : Gam.pureD (callF tab ext (K + 600)) 91 [.sl false 10 (msgsC (M.map (msV q))), .agg (undS t O.length).cells, .agg (resV (M.length : Nat) q (sumM M : Nat)).cells] = some (.tup [.agg (num (undS t O.length).e :: .sl false 1 (intsC (undS t O.length).p) :: num (massL (M.map (msV q))) :: .sl false 1 (intsC (zsM M)) :: recV (resFs (M.length : Nat) q (sumM M : Nat))), num 0]) := h91
  clear h91 e1 e2 e3
  generalize groupFs (bdC (gB q M)) (M.length : Nat) q = env at *
  generalize bdC (gB q M) = bs at *
  generalize ftesC (mrgF (M.map (msV q)) aggT (undS t O.length)) = fl at *
  generalize massL (M.map (msV q)) = mz at *
  generalize intsC (zsM M) = oz at *
  generalize ((M.length : Nat) : Int) = c at *
  generalize ((sumM M : Nat) : Int) = s at *
  generalize msgsC (M.map (msV q)) = ms at *
  generalize undS t O.length = u at *
  generalize ftesC F = Fc at *
  generalize msgsC L = Lc at *
  generalize otpsC O = Oc at *
  generalize O.length = no at *
  generalize F.length = nf at *
  generalize L.length = nl at *
  obtain ⟨e, p⟩ := t
  obtain ⟨ue, up⟩ := u
  exact callF_of [(22, .p (.sl false 6 bs)), (23, .p (envX env)), (29, .p (.tup [.agg (resV c q s).cells, num 0])), (45, .p (.agg (Stp.mk ue up).cells)), (50, .p (.tup [.agg (num ue :: .sl false 1 (intsC up) :: num mz :: .sl false 1 oz :: recV (resFs c q s)), num 0])), (66, .app), (83, .p (.sl false 6 fl)), (84, .app)] [] (pf8 h83 h90 h89 h22 h91' hA h92 hB) (by kernel_rfl)
end
end Go.Proofs.YthphniobeigklaaGreatDoor.Ag

/- How many messages a state holds. -/
namespace Go.Proofs.YthphniobeigklaaGreatDoor
open Go.Em
set_option maxRecDepth 100000

def heH (l : List (List X)) (n j k : Nat) : St := ⟨[(3, nat k), (7, .sl false 10 l), (8, nat n), (9, nat j)], []⟩
theorem add_len {a b : Nat} (h : a + b < 4294967296) : IntKind.i64.wrap (Int.ofNat a + Int.ofNat b) = Int.ofNat (a + b) := by
  rw [IntKind.wrap_i64]; simp only [Int.ofNat_eq_natCast]; omega
theorem accOf_take {ss : List Slt} {j : Nat} (hj : j < ss.length) : accOf (ss.take (j + 1)) = accOf (ss.take j) ++ ss[j].items := by
  rw [List.take_succ_eq_append_getElem hj, accOf_append]
theorem held_pure (s : Stt) (hs : s.small) (N : Nat) (hN : 60020 ≤ N) : Gam.pureD (callF tab ext N) 29 [.agg s.cells] = some (nat (accOf s.slots).length) := by
  obtain ⟨M, rfl⟩ : ∃ M, N = M + 1 := ⟨N - 1, by omega⟩
  have hl := hs.slots
  have hx := hs.slot
  obtain ⟨a, b, ss⟩ := s
  dsimp only at hl hx ⊢
  have hn := sltsC_length ss
  have hloop : run (callF tab ext M) 0 M (.loop (loopAt 29 0)) ⟨(heH (sltsC ss) (sltsC ss).length 0 0).tm, [.var [num a, num b, .sl false 10 (sltsC ss)]]⟩ = some (.exit 0, ⟨[(3, nat (accOf ss).length), (7, .sl false 10 (sltsC ss)), (8, nat (sltsC ss).length), (9, nat (sltsC ss).length), (10, boolX false)], []⟩) := by
    refine loop_for (σ := fun j => heH (sltsC ss) (sltsC ss).length j (accOf (ss.take j)).length) (k := (sltsC ss).length) (by kernel_rfl) (fun j hj => ?_) ?_ (by simp) (by omega)
    · have hj' : j < ss.length := by omega
      have hg := sltsC_get hj'
      have hla := accOf_length (ss.take j) fun x hxx => (hx x (List.mem_of_mem_take hxx)).2.1
      have hlt : (ss.take j).length ≤ 100 := by rw [List.length_take]; omega
      have hi := (hx _ (List.getElem_mem hj')).2.1
      rw [accOf_take hj', List.length_append]
      generalize ss[j] = x at hg hi
      obtain ⟨⟨k0, i0, s0, t0, l0, f0⟩, n0, d0, items, vals⟩ := x
      have hm := msgsC_length items
      dsimp only at hi ⊢
      rw [← hm]
      exact ⟨⟨(heH (sltsC ss) (sltsC ss).length (j + 1) ((accOf (ss.take j)).length + (msgsC items).length)).tm, [.var (slotC k0 i0 s0 t0 (cellsL l0) (cellsF f0) n0 d0 (msgsC items) (cellsL vals))]⟩,
        run_of [(10, .b true), (11, .e (slotC k0 i0 s0 t0 (cellsL l0) (cellsF f0) n0 d0 (msgsC items) (cellsL vals))), (17, .i (Int.ofNat ((accOf (ss.take j)).length + (msgsC items).length))), (18, .i (Int.ofNat (j + 1)))] []
          (pf4 (lt_nat hj) hg (add_len (a := (accOf (ss.take j)).length) (b := (msgsC items).length) (by omega)) (next_nat (j := j) (by omega))) (lo' := []) (by kernel_rfl), by kernel_rfl⟩
    · have e : ss.take (sltsC ss).length = ss := List.take_of_length_le (by omega)
      rw [e]
      exact run_of [(10, .b false)] [] (pf1 (nlt_nat (Nat.lt_irrefl (sltsC ss).length))) (lo' := []) (by kernel_rfl)
  exact pure_of [] [(.exit 0, ⟨[(3, nat (accOf ss).length), (7, .sl false 10 (sltsC ss)), (8, nat (sltsC ss).length), (9, nat (sltsC ss).length), (10, boolX false)], []⟩)] (pf1 hloop) (x := nat (accOf ss).length) (bx := []) (by kernel_rfl) rfl
end Go.Proofs.YthphniobeigklaaGreatDoor

/- The search for a key among the slots. -/
namespace Go.Proofs.YthphniobeigklaaGreatDoor
open Go.Em
set_option maxRecDepth 100000
def dSlt : Slt := ⟨.mk 0 0 0 ⟨#[]⟩ [] [], 0, 0, [], []⟩

theorem cmp116 (N : Nat) (hN : 180020 ≤ N) (x : Slt) (key : Val) (hx : x.key.ok) : Gam.pureD (callF tab ext N) 114 [.agg x.cells, .agg key.cells] = some (num (cmpV x.key key)) := by
  obtain ⟨M, rfl⟩ : ∃ M, N = M + 1 := ⟨N - 1, by omega⟩
  have h := cmp_val 60000 M x.key key hx (by omega) (by unfold Val.ok at hx; omega)
  obtain ⟨⟨k, i, s, tx, vl, fl⟩, n2, c, ms, vs⟩ := x
  obtain ⟨k', i', s', tx', vl', fl'⟩ := key
  dsimp only at h ⊢
  generalize cmpV (.mk k i s tx vl fl) (.mk k' i' s' tx' vl' fl') = r at h
  exact pure_of [(8, .p (num r))] [] (pf1 h) (x := num r) (bx := []) (by kernel_rfl) rfl

theorem half_nat {s : Nat} (h : s < 4294967296) : IntKind.i64.wrap (Int.ofNat (s / 2)) = Int.ofNat (s / 2) := by
  grind[IntKind.wrap_i64]
theorem u64_nat {s : Nat} (h : s < 4294967296) : IntKind.u64.wrap (Int.ofNat s) = Int.ofNat s := by
  grind[IntKind.wrap_u64]
theorem shr_nat {s : Nat} : (Int.ofNat s).fdiv (2 ^ min (Int.toNat 1) IntKind.u64.bits) = Int.ofNat (s / 2) := by
  have e : (2 : Int) ^ min (Int.toNat 1) IntKind.u64.bits = 2 := by decide
  grind
theorem add_nat {a b : Nat} (h : a < 4294967296) (h' : b < 4294967296) : IntKind.i64.wrap (Int.ofNat a + Int.ofNat b) = Int.ofNat (a + b) := by
  grind[IntKind.wrap_i64]

/-- Where a search ends. -/
inductive Srch (ss : List Slt) (key : Val) : Nat → Nat → Nat → Prop
  | stop (lo : Nat) : Srch ss key lo lo lo
  | lt {lo hi r : Nat} (h : lo < hi) (hc : cmpV (ss.getD ((lo + hi) / 2) dSlt).key key < 0) (hr : Srch ss key ((lo + hi) / 2 + 1) hi r) : Srch ss key lo hi r
  | ge {lo hi r : Nat} (h : lo < hi) (hc : ¬ cmpV (ss.getD ((lo + hi) / 2) dSlt).key key < 0) (hr : Srch ss key lo ((lo + hi) / 2) r) : Srch ss key lo hi r
theorem srch_ex (ss : List Slt) (key : Val) : ∀ (d lo hi : Nat), lo ≤ hi → hi - lo ≤ d → ∃ r, lo ≤ r ∧ r ≤ hi ∧ Srch ss key lo hi r
  | 0, lo, hi, h, hd => by
    obtain rfl : lo = hi := by omega
    exact ⟨lo, Nat.le_refl _, Nat.le_refl _, .stop lo⟩
  | d + 1, lo, hi, h, hd => by
    by_cases hlt : lo < hi
    · by_cases hc : cmpV (ss.getD ((lo + hi) / 2) dSlt).key key < 0
      · obtain ⟨r, h1, h2, h3⟩ := srch_ex ss key d ((lo + hi) / 2 + 1) hi (by omega) (by omega)
        exact ⟨r, by omega, h2, .lt hlt hc h3⟩
      · obtain ⟨r, h1, h2, h3⟩ := srch_ex ss key d lo ((lo + hi) / 2) (by omega) (by omega)
        exact ⟨r, h1, by omega, .ge hlt hc h3⟩
    · obtain rfl : lo = hi := by omega
      exact ⟨lo, Nat.le_refl _, Nat.le_refl _, .stop lo⟩

/-- Where a key stands among slots: what is before it is less, what is at its place is not. -/
structure Spot (ss : List Slt) (key : Val) (i : Nat) : Prop where
  before : 0 < i → cmpV (ss.getD (i - 1) dSlt).key key < 0
  behind : i < ss.length → ¬ cmpV (ss.getD i dSlt).key key < 0
theorem srch_spot {ss : List Slt} {key : Val} {lo hi r : Nat} (h : Srch ss key lo hi r) (h1 : 0 < lo → cmpV (ss.getD (lo - 1) dSlt).key key < 0) (h2 : hi < ss.length → ¬ cmpV (ss.getD hi dSlt).key key < 0) : Spot ss key r := by
  induction h with
  | stop lo => exact ⟨h1, h2⟩
  | lt _ hc _ ih => exact ih (fun _ => by simpa using hc) h2
  | ge _ hc _ ih => exact ih h1 (fun _ => hc)

section
variable (l : List (List X)) (k i s : Int) (tx : ByteArray) (vl fl : List (List X)) (n lo hi : Nat)
def keyC : List X := [num k, num i, num s, strX tx, .sl false 6 vl, .sl false 7 fl]
def seH : St := ⟨[(0, .sl false 10 l), (2, .fn 114 []), (4, .ptr 0 0 0), (8, nat n), (9, nat lo), (10, nat hi)], [.var (keyC k i s tx vl fl)]⟩
def seE : St := ⟨[(0, .sl false 10 l), (2, .fn 114 []), (4, .ptr 0 0 0), (8, nat n), (9, nat lo), (10, nat hi), (17, boolX false)], [.var (keyC k i s tx vl fl)]⟩
theorem se_canon : canon 0 (seH l k i s tx vl fl n lo hi) = some (seH l k i s tx vl fl n lo hi) := by kernel_rfl
theorem se_end (h : ¬ lo < hi) (M : Nat) : run (callF tab ext M) 0 M (loopAt 113 0) (seH l k i s tx vl fl n lo hi) = some (.exit 0, seE l k i s tx vl fl n lo hi) :=
  run_of [(17, .b false)] [] (pf1 (nlt_nat h)) (lo' := []) (by kernel_rfl)
theorem se_step (x : Slt) (r : Int) (hlt : lo < hi) (hh : hi < 4294967) (hg : l[(lo + hi) / 2]? = some x.cells) (M : Nat) (hc : Gam.pureD (callF tab ext M) 114 [.agg x.cells, .agg (keyC k i s tx vl fl)] = some (num r)) :
    (r < 0 → run (callF tab ext M) 0 M (loopAt 113 0) (seH l k i s tx vl fl n lo hi) = some (.norm, seH l k i s tx vl fl n ((lo + hi) / 2 + 1) hi)) ∧
    (¬ r < 0 → run (callF tab ext M) 0 M (loopAt 113 0) (seH l k i s tx vl fl n lo hi) = some (.norm, seH l k i s tx vl fl n lo ((lo + hi) / 2))) := by
  have h1 := lt_nat hlt
  have h2 := add_nat (a := lo) (b := hi) (by omega) (by omega)
  have h3 := u64_nat (s := lo + hi) (by omega)
  have h4 := shr_nat (s := lo + hi)
  have h5 := half_nat (s := lo + hi) (by omega)
  have h6 := next_nat (j := (lo + hi) / 2) (by omega)
  obtain ⟨⟨k', i', s', tx', vl', fl'⟩, n2, c, ms, vs⟩ := x
  constructor
  · intro hr
    have h7 : decide (r < 0) = true := decide_eq_true hr
    exact run_of [(17, .b true), (20, .i (Int.ofNat (lo + hi))), (21, .i (Int.ofNat (lo + hi))), (22, .i (Int.ofNat ((lo + hi) / 2))), (23, .i (Int.ofNat ((lo + hi) / 2))), (27, .e (slotC k' i' s' tx' (cellsL vl') (cellsF fl') n2 c (msgsC ms) (cellsL vs))), (30, .p (num r)), (31, .b true), (33, .i (Int.ofNat ((lo + hi) / 2 + 1)))] []
      (pf9 h1 h2 h3 h4 h5 hg hc h7 h6) (lo' := []) (by kernel_rfl)
  · intro hr
    have h7 : decide (r < 0) = false := decide_eq_false hr
    exact run_of [(17, .b true), (20, .i (Int.ofNat (lo + hi))), (21, .i (Int.ofNat (lo + hi))), (22, .i (Int.ofNat ((lo + hi) / 2))), (23, .i (Int.ofNat ((lo + hi) / 2))), (27, .e (slotC k' i' s' tx' (cellsL vl') (cellsF fl') n2 c (msgsC ms) (cellsL vs))), (30, .p (num r)), (31, .b false)] []
      (pf8 h1 h2 h3 h4 h5 hg hc h7) (lo' := []) (by kernel_rfl)
end

/-- The search: an index, and whether the key is there. -/
theorem find_ex2 (s : Stt) (hs : s.small) (key : Val) : ∃ (i : Nat) (b : Bool), i ≤ s.slots.length ∧ (b = true → ∃ h : i < s.slots.length, cmpV s.slots[i].key key = 0) ∧ (b = false → Spot s.slots key i ∧ ∀ h : i < s.slots.length, ¬ cmpV s.slots[i].key key = 0) ∧ ∀ N, 190040 ≤ N → Gam.pureD (callF tab ext N) 86 [.agg s.cells, .agg key.cells] = some (.tup [nat i, boolX b]) := by
  obtain ⟨a, b0, ss⟩ := s
  have hl : ss.length ≤ 100 := hs.slots
  have hx : ∀ x, x ∈ ss → x.ok := fun x h => (hs.slot x h).1
  have hlen := sltsC_length ss
  obtain ⟨r, _, hr, hS⟩ := srch_ex ss key ss.length 0 ss.length (by omega) (by omega)
  have hSp := srch_spot hS (fun h => absurd h (by omega)) (fun h => absurd h (by omega))
  have hcmp : ∀ (j : Nat) (hj : j < ss.length) (N : Nat), 180020 ≤ N → Gam.pureD (callF tab ext N) 114 [.agg ss[j].cells, .agg key.cells] = some (num (cmpV ss[j].key key)) := fun j hj N hN => cmp116 N hN _ _ (hx _ (List.getElem_mem hj)).key
  have hgd : ∀ (j : Nat) (hj : j < ss.length), ss.getD j dSlt = ss[j] := fun j hj => by rw [List.getD_eq_getElem?_getD, List.getElem?_eq_getElem hj]; rfl
  obtain ⟨k, i, s, tx, vl, fl⟩ := key
  have hloop : ∀ M, 190000 ≤ M → ∀ τ, canon 0 τ = some (seH (sltsC ss) k i s tx (cellsL vl) (cellsF fl) (sltsC ss).length 0 (sltsC ss).length) → run (callF tab ext M) 0 M (.loop (loopAt 113 0)) τ = some (.exit 0, seE (sltsC ss) k i s tx (cellsL vl) (cellsF fl) (sltsC ss).length r r) := fun M hM τ hτ => by
    refine loop_dec (α := Nat × Nat) (σ := fun a => seH (sltsC ss) k i s tx (cellsL vl) (cellsF fl) (sltsC ss).length a.1 a.2) (I := fun a => a.2 ≤ ss.length ∧ Srch ss (.mk k i s tx vl fl) a.1 a.2 r) (μ := fun a => a.2 - a.1) (fun a ha => ?_) (by simp) (a := (0, (sltsC ss).length)) ⟨by dsimp only; omega, by rw [hlen]; exact hS⟩ hτ (by dsimp only; omega)
    obtain ⟨lo, hi⟩ := a
    obtain ⟨ha1, ha2⟩ := ha
    dsimp only at ha1 ha2 ⊢
    cases ha2 with
    | stop =>
      right
      exact se_end _ _ _ _ _ _ _ _ _ _ (Nat.lt_irrefl _) M
    | lt h hc hr' =>
      left
      have hh : (lo + hi) / 2 < ss.length := by omega
      rw [hgd _ hh] at hc
      have := (se_step (sltsC ss) k i s tx (cellsL vl) (cellsF fl) (sltsC ss).length lo hi ss[(lo + hi) / 2] _ h (by omega) (sltsC_get hh) M (hcmp _ hh M (by omega))).1 hc
      exact ⟨_, ((lo + hi) / 2 + 1, hi), this, se_canon .., ⟨ha1, hr'⟩, by dsimp only; omega⟩
    | ge h hc hr' =>
      left
      have hh : (lo + hi) / 2 < ss.length := by omega
      rw [hgd _ hh] at hc
      have := (se_step (sltsC ss) k i s tx (cellsL vl) (cellsF fl) (sltsC ss).length lo hi ss[(lo + hi) / 2] _ h (by omega) (sltsC_get hh) M (hcmp _ hh M (by omega))).2 hc
      exact ⟨_, (lo, (lo + hi) / 2), this, se_canon .., ⟨by dsimp only; omega, hr'⟩, by dsimp only; omega⟩
  by_cases hlt : r < ss.length
  · refine ⟨r, cmpV ss[r].key (.mk k i s tx vl fl) == 0, hr, fun h => ⟨hlt, eq_of_beq h⟩, fun h => ⟨hSp, fun _ hz => by rw [hz] at h; cases h⟩, fun N hN => ?_⟩
    obtain ⟨M, rfl⟩ : ∃ M, N = M + 2 := ⟨N - 2, by omega⟩
    have hc := hcmp r hlt M (by omega)
    have hg := sltsC_get hlt
    generalize cmpV ss[r].key (.mk k i s tx vl fl) = z at hc ⊢
    generalize ss[r] = x at hc hg
    have hl0 := hloop M (by omega) ⟨[(0, .sl false 10 (sltsC ss)), (2, .fn 114 []), (4, .ptr 0 0 0), (8, nat (sltsC ss).length), (9, num 0), (10, nat (sltsC ss).length)], [.var (keyC k i s tx (cellsL vl) (cellsF fl))]⟩ (by kernel_rfl)
    have h1 : decide (Int.ofNat r < Int.ofNat (sltsC ss).length) = true := lt_nat (by omega)
    have h115 : Gam.pureD (callF tab ext (M + 1)) 113 [.sl false 10 (sltsC ss), .agg (Val.mk k i s tx vl fl).cells, .fn 114 []] = some (.tup [nat r, boolX (z == 0)]) := by
      obtain ⟨⟨k', i', s', tx', vl', fl'⟩, n2, c, ms, vs⟩ := x
      cases h2 : (z == 0) with
      | true => exact pure_of [(38, .b true), (43, .e (slotC k' i' s' tx' (cellsL vl') (cellsF fl') n2 c (msgsC ms) (cellsL vs))), (46, .p (num z)), (47, .b true)] [(.exit 0, seE (sltsC ss) k i s tx (cellsL vl) (cellsF fl) (sltsC ss).length r r)] (pf5 hl0 h1 hg hc h2) (x := .tup [nat r, boolX true]) (bx := []) (by kernel_rfl) rfl
      | false => exact pure_of [(38, .b true), (43, .e (slotC k' i' s' tx' (cellsL vl') (cellsF fl') n2 c (msgsC ms) (cellsL vs))), (46, .p (num z)), (47, .b false)] [(.exit 0, seE (sltsC ss) k i s tx (cellsL vl) (cellsF fl) (sltsC ss).length r r)] (pf5 hl0 h1 hg hc h2) (x := .tup [nat r, boolX false]) (bx := []) (by kernel_rfl) rfl
    exact pure_of [(9, .p (.tup [nat r, boolX (z == 0)]))] [] (pf1 h115) (x := .tup [nat r, boolX (z == 0)]) (bx := []) (by kernel_rfl) rfl
  · refine ⟨r, false, hr, fun h => (by cases h), fun _ => ⟨hSp, fun h => absurd h hlt⟩, fun N hN => ?_⟩
    obtain ⟨M, rfl⟩ : ∃ M, N = M + 2 := ⟨N - 2, by omega⟩
    have hl0 := hloop M (by omega) ⟨[(0, .sl false 10 (sltsC ss)), (2, .fn 114 []), (4, .ptr 0 0 0), (8, nat (sltsC ss).length), (9, num 0), (10, nat (sltsC ss).length)], [.var (keyC k i s tx (cellsL vl) (cellsF fl))]⟩ (by kernel_rfl)
    have h1 : decide (Int.ofNat r < Int.ofNat (sltsC ss).length) = false := nlt_nat (by omega)
    have h115 : Gam.pureD (callF tab ext (M + 1)) 113 [.sl false 10 (sltsC ss), .agg (Val.mk k i s tx vl fl).cells, .fn 114 []] = some (.tup [nat r, boolX false]) :=
      pure_of [(38, .b false)] [(.exit 0, seE (sltsC ss) k i s tx (cellsL vl) (cellsF fl) (sltsC ss).length r r)] (pf2 hl0 h1) (x := .tup [nat r, boolX false]) (bx := []) (by kernel_rfl) rfl
    exact pure_of [(9, .p (.tup [nat r, boolX false]))] [] (pf1 h115) (x := .tup [nat r, boolX false]) (bx := []) (by kernel_rfl) rfl
end Go.Proofs.YthphniobeigklaaGreatDoor

/- A slot is put into a state, at any index. -/
namespace Go.Proofs.YthphniobeigklaaGreatDoor
open Go.Em
set_option maxRecDepth 100000

theorem rowOf_get {bx : List Bx} {i sz n : Nat} {es : List (List X)} (h : bx[i]? = some (.row sz es)) (hn : n = es.length) : rowOf bx i 0 n = some (sz, es) := by
  subst hn
  simp [rowOf, h]

theorem ins_call (N : Nat) (rows : List (List X)) (n i : Nat) (x : List X) (hn : n = rows.length) (hi : i ≤ n) (hl : n ≤ 2000000) :
    callF tab ext (N + 1) (.fn 100) [.bs 0 0 n, nat i, .sl true 10 [x]] [.row 10 rows] = some (.bs 1 0 (n + 1), [.dead, .row 10 (rows.take i ++ [x] ++ rows.drop i)]) := by
  have e : callF tab ext (N + 1) (.fn 100) [.bs 0 0 n, nat i, .sl true 10 [x]] [.row 10 rows] = insExt 10 [.bs 0 0 n, nat i, .sl true 10 [x]] [.row 10 rows] := rfl
  rw [e]
  show (if 10 = 10 ∧ 10 = 10 ∧ n = rows.length ∧ n ≤ 2000000 ∧ 0 ≤ Int.ofNat i ∧ (Int.ofNat i).toNat ≤ n then some (X.bs 1 0 (n + 1), [Bx.dead, Bx.row 10 (rows.take (Int.ofNat i).toNat ++ [x] ++ rows.drop (Int.ofNat i).toNat)]) else none) = _
  rw [if_pos ⟨rfl, rfl, hn, hl, Int.natCast_nonneg i, hi⟩]
  rfl
theorem small_int {k : Nat} (h : k < 1024) : decide (Int.ofNat k ≥ 1024) = false := decide_eq_false (by simp only [Int.ofNat_eq_natCast]; omega)
/-- The slots with one more, or with one in the place of another. -/
def putS (b : Bool) (i : Nat) (x : Slt) (ss : List Slt) : List Slt := if b then ss.set i x else ss.take i ++ [x] ++ ss.drop i

theorem put_at (s : Stt) (hs : s.small) (x : Slt) (hx : x.ok) (i : Nat) (b : Bool) (hi : i ≤ s.slots.length) (hb : b = true → i < s.slots.length) (hf : ∀ N, 190040 ≤ N → Gam.pureD (callF tab ext N) 86 [.agg s.cells, .agg x.key.cells] = some (.tup [nat i, boolX b])) (N : Nat) (hN : 190050 ≤ N) :
    Gam.pureD (callF tab ext N) 62 [.agg s.cells, .agg x.cells] = some (.tup [.agg (Stt.mk s.n s.t (putS b i x s.slots)).cells, num 0]) := by
  obtain ⟨M, rfl⟩ : ∃ M, N = M + 2 := ⟨N - 2, by omega⟩
  have hf := hf (M + 1) (by omega)
  have hst := clone_state (M + 1) s hs.ok (by omega)
  have hcl := clone_slot_pure (M + 1) x hx (by omega)
  have hl := hs.slots
  have hn := sltsC_length s.slots
  obtain ⟨a, c, ss⟩ := s
  dsimp only at hi hb hf hst hl hn ⊢
  unfold putS
  cases b with
  | true =>
    rw [if_pos rfl]
    have hi' := hb rfl
    have hg := sltsC_get hi'
    have e1 : sltsC (ss.set i x) = (sltsC ss).set (0 + i) x.cells := by simp [sltsC, List.map_set]
    have hlt : i < (sltsC ss).length := by omega
    obtain ⟨⟨k, j, z, tx, vl, fl⟩, n2, t2, ms, vs⟩ := x
    have h0 : rowOf [Bx.row 10 ((sltsC ss).set (0 + i) (slotC k j z tx (cellsL vl) (cellsF fl) n2 t2 (msgsC ms) (cellsL vs)))] 0 0 (sltsC ss).length = some (10, (sltsC ss).set (0 + i) (slotC k j z tx (cellsL vl) (cellsF fl) n2 t2 (msgsC ms) (cellsL vs))) := rowOf_get rfl (by simp)
    have hd : (X.tup [.agg [num a, num c, .bs 0 0 (sltsC ss).length], num 0]).data [Bx.row 10 ((sltsC ss).set (0 + i) (slotC k j z tx (cellsL vl) (cellsF fl) n2 t2 (msgsC ms) (cellsL vs)))] false = some (.tup [.agg (Stt.mk a c (ss.set i ⟨.mk k j z tx vl fl, n2, t2, ms, vs⟩)).cells, num 0]) := by
      simp only [X.data, dataL, num, h0, Option.map_some, Stt.cells, e1]; rfl
    generalize hgo : ss[i] = o at hg
    obtain ⟨⟨k', j', z', tx', vl', fl'⟩, n2', t2', ms', vs'⟩ := o
    exact pure_of [(13, .p (.tup [nat i, boolX true])), (26, .o (.agg [num a, num c, .bs 0 0 (sltsC ss).length]) [.row 10 (sltsC ss)]), (32, .p (.agg (slotC k j z tx (cellsL vl) (cellsF fl) n2 t2 (msgsC ms) (cellsL vs)))), (33, .at), (1000033, .st (slotC k' j' z' tx' (cellsL vl') (cellsF fl') n2' t2' (msgsC ms') (cellsL vs')))] []
      (pf5 hf hst hcl hlt (show (sltsC ss)[0 + i]? = some (slotC k' j' z' tx' (cellsL vl') (cellsF fl') n2' t2' (msgsC ms') (cellsL vs')) by rw [Nat.zero_add]; exact hg)) (x := .tup [.agg [num a, num c, .bs 0 0 (sltsC ss).length], num 0]) (bx := [.row 10 ((sltsC ss).set (0 + i) (slotC k j z tx (cellsL vl) (cellsF fl) n2 t2 (msgsC ms) (cellsL vs)))]) (by kernel_rfl) hd
  | false =>
    rw [if_neg (by simp)]
    have e1 : sltsC (ss.take i ++ [x] ++ ss.drop i) = (sltsC ss).take i ++ [x.cells] ++ (sltsC ss).drop i := by simp [sltsC, List.map_take, List.map_drop]
    have h22 : decide (Int.ofNat (sltsC ss).length ≥ 1024) = false := small_int (by omega)
    have hins := ins_call M (sltsC ss) (sltsC ss).length i x.cells rfl (by omega) (by omega)
    obtain ⟨⟨k, j, z, tx, vl, fl⟩, n2, t2, ms, vs⟩ := x
    have h0 : rowOf [Bx.row 10 ((sltsC ss).take i ++ [slotC k j z tx (cellsL vl) (cellsF fl) n2 t2 (msgsC ms) (cellsL vs)] ++ (sltsC ss).drop i)] 0 0 ((sltsC ss).length + 1) = some (10, (sltsC ss).take i ++ [slotC k j z tx (cellsL vl) (cellsF fl) n2 t2 (msgsC ms) (cellsL vs)] ++ (sltsC ss).drop i) := rowOf_get rfl (by simp; omega)
    have hd : (X.tup [.agg [num a, num c, .bs 0 0 ((sltsC ss).length + 1)], num 0]).data [Bx.row 10 ((sltsC ss).take i ++ [slotC k j z tx (cellsL vl) (cellsF fl) n2 t2 (msgsC ms) (cellsL vs)] ++ (sltsC ss).drop i)] false = some (.tup [.agg (Stt.mk a c (ss.take i ++ [⟨.mk k j z tx vl fl, n2, t2, ms, vs⟩] ++ ss.drop i)).cells, num 0]) := by
      simp only [X.data, dataL, num, h0, Option.map_some, Stt.cells, e1]; rfl
    exact pure_of [(13, .p (.tup [nat i, boolX false])), (22, .b false), (26, .o (.agg [num a, num c, .bs 0 0 (sltsC ss).length]) [.row 10 (sltsC ss)]), (38, .p (.agg (slotC k j z tx (cellsL vl) (cellsF fl) n2 t2 (msgsC ms) (cellsL vs)))), (40, .r (.bs 1 0 ((sltsC ss).length + 1)) [.dead, .row 10 ((sltsC ss).take i ++ [slotC k j z tx (cellsL vl) (cellsF fl) n2 t2 (msgsC ms) (cellsL vs)] ++ (sltsC ss).drop i)])] []
      (pf5 hf h22 hst hcl hins) (x := .tup [.agg [num a, num c, .bs 0 0 ((sltsC ss).length + 1)], num 0]) (bx := [.row 10 ((sltsC ss).take i ++ [slotC k j z tx (cellsL vl) (cellsF fl) n2 t2 (msgsC ms) (cellsL vs)] ++ (sltsC ss).drop i)]) (by kernel_rfl) hd
end Go.Proofs.YthphniobeigklaaGreatDoor

/- slots.Get. -/
namespace Go.Proofs.YthphniobeigklaaGreatDoor
open Go.Em
set_option maxRecDepth 100000

end Go.Proofs.YthphniobeigklaaGreatDoor

/- The aggregator at several groups: the place of a group, what slots.Get, Put, Remove, Held hand back. -/
namespace Go.Proofs.YthphniobeigklaaGreatDoor.Ag
open Go Go.Em Go.Proofs.YthphniobeigklaaGreatDoor
set_option maxRecDepth 100000

theorem ordI_lt {a b : Int} : ordI a b < 0 ↔ a < b := by
  unfold ordI
  split
  · simp [*]
  · split
    · omega
    · omega
theorem ordI_self (a : Int) : ordI a a = 0 := by unfold ordI; rw [if_neg (Int.lt_irrefl _), if_neg (Int.lt_irrefl _)]
theorem cmpB_nil : cmpB ⟨#[]⟩ ⟨#[]⟩ = 0 := by decide
theorem cmp_kv (a k : Int) : cmpV (kv a) (kv k) = ordI a k := by
  unfold kv cmpV
  simp only [orL, ordI_self, cmpB_nil, cmpVL, cmpVF, if_true]
  split
  · rename_i h; exact h.symm
  · rfl
theorem kv_ok (k : Int) : (kv k).ok := by unfold Val.ok kv; simp [Val.size, sizeL, sizeF]
/-- slots.Get, as it hands the group's rows over. -/
def getX (b : Bool) (x : Slt) : X × List Bx := if b then (.tup [.agg (x.key.cells ++ [num x.n, num x.t, .bs 0 0 (msgsC x.items).length, .bs 1 0 (cellsL x.vals).length]), boolX true], [.row 10 (msgsC x.items), .row 6 (cellsL x.vals)])
  else (.tup [.agg [num 0, num 0, num 0, strX ⟨#[]⟩, .sl true 6 [], .sl true 7 [], num 0, num 0, .sl true 10 [], .sl true 6 []], boolX false], [])
theorem get_ex3 (s : Stt) (hs : s.small) (key : Val) : ∃ (i : Nat) (b : Bool) (x : Slt), i ≤ s.slots.length ∧ (b = true → ∃ h : i < s.slots.length, cmpV s.slots[i].key key = 0 ∧ x = s.slots[i]) ∧ (b = false → Spot s.slots key i ∧ ∀ h : i < s.slots.length, ¬ cmpV s.slots[i].key key = 0) ∧ (∀ N, 190050 ≤ N → callF tab ext N (.fn 81) [.agg s.cells, .agg key.cells] [] = some (getX b x)) ∧ ∀ N, 190040 ≤ N → Gam.pureD (callF tab ext N) 86 [.agg s.cells, .agg key.cells] = some (.tup [nat i, boolX b]) := by
  obtain ⟨i, b, hi, h1, h2, hf⟩ := find_ex2 s hs key
  have hf0 := hf
  have hok := hs.ok.slot
  obtain ⟨a, c, ss⟩ := s
  obtain ⟨k1, k2, k3, k4, k5, k6⟩ := key
  dsimp only at hi h1 h2 hok
  cases b with
  | false =>
    refine ⟨i, false, dSlt, hi, fun h => (by cases h), fun _ => h2 rfl, fun N hN => ?_, hf0⟩
    obtain ⟨M, rfl⟩ : ∃ M, N = M + 1 := ⟨N - 1, by omega⟩
    have hf := hf M (by omega)
    exact callF_of [(11, .p (.tup [nat i, boolX false]))] [] (pf1 hf) (by kernel_rfl)
  | true =>
    obtain ⟨hlt, hc⟩ := h1 rfl
    refine ⟨i, true, ss[i], hi, fun _ => ⟨hlt, hc, rfl⟩, fun h => (by cases h), fun N hN => ?_, hf0⟩
    obtain ⟨M, rfl⟩ : ∃ M, N = M + 1 := ⟨N - 1, by omega⟩
    have hf := hf M (by omega)
    have hg := sltsC_get hlt
    have hxo := hok _ (List.getElem_mem hlt)
    generalize ss[i] = x at hg hxo ⊢
    obtain ⟨⟨x1, x2, x3, x4, x5, x6⟩, n, t, ms, vs⟩ := x
    have hcl : callF tab ext M (.fn 79) [.agg (Slt.mk ⟨x1, x2, x3, x4, x5, x6⟩ n t ms vs).cells] [] = some (.agg [num x1, num x2, num x3, strX x4, .sl false 6 (cellsL x5), .sl false 7 (cellsF x6), num n, num t, .bs 0 0 (msgsC ms).length, .bs 1 0 (cellsL vs).length], [.row 10 (msgsC ms), .row 6 (cellsL vs)]) := clone_slot M _ hxo (by omega)
    exact callF_of [(11, .p (.tup [nat i, boolX true])), (20, .e (Slt.mk ⟨x1, x2, x3, x4, x5, x6⟩ n t ms vs).cells), (22, .o (.agg [num x1, num x2, num x3, strX x4, .sl false 6 (cellsL x5), .sl false 7 (cellsF x6), num n, num t, .bs 0 0 (msgsC ms).length, .bs 1 0 (cellsL vs).length]) [.row 10 (msgsC ms), .row 6 (cellsL vs)])] [] (pf3 hf hg hcl) (by kernel_rfl)
/-- A group: its key, the time at which it ends, its messages (place among the inputs, number). -/
structure Ga where
  g : Int
  t : Int
  M : List (Nat × Nat)
def Ga.slt (x : Ga) : Slt := ⟨kv x.g, 0, x.t, x.M.map (msV x.g), []⟩
def gst (gs : List Ga) : Stt := ⟨0, 0, gs.map Ga.slt⟩
def SrtG (gs : List Ga) : Prop := gs.Pairwise fun a b => a.g < b.g
/-- Few groups, few messages. -/
def SmG (gs : List Ga) : Prop := gs.length ≤ 100 ∧ ∀ x, x ∈ gs → x.M.length ≤ 100
def lowG (g : Int) : List Ga → Nat
  | [] => 0
  | p :: r => if p.g < g then lowG g r + 1 else 0
def knG (g : Int) (gs : List Ga) : Bool := match gs[lowG g gs]? with
  | some x => x.g == g
  | none => false
/-- The group of a key, or a new one. -/
def getG (g : Int) (gs : List Ga) : Ga := match gs[lowG g gs]? with
  | some x => if x.g = g then x else ⟨g, 0, []⟩
  | none => ⟨g, 0, []⟩
theorem slt_ok (x : Ga) (h : x.M.length ≤ 101) : x.slt.ok :=
  ⟨kv_ok x.g, by simp [Ga.slt]; omega, fun m hm => by
    obtain ⟨p, _, rfl⟩ := List.mem_map.1 hm
    exact msV_ok x.g p, by simp [Ga.slt], fun v hv => by cases hv⟩
theorem gst_small (gs : List Ga) (h : SmG gs) : (gst gs).small := ⟨by simp [gst]; have := h.1; omega, fun x hx => by
  obtain ⟨y, hy, rfl⟩ := List.mem_map.1 hx
  have := h.2 y hy
  exact ⟨slt_ok y (by omega), by simp [Ga.slt]; omega, by simp [Ga.slt]⟩⟩
theorem lowG_le (g : Int) : ∀ gs : List Ga, lowG g gs ≤ gs.length
  | [] => Nat.le_refl _
  | p :: r => by
    unfold lowG
    split
    · have := lowG_le g r; simp; omega
    · omega
theorem lowG_eq (g : Int) : ∀ (gs : List Ga) (i : Nat), i ≤ gs.length → (∀ j (h : j < gs.length), j < i → gs[j].g < g) → (∀ h : i < gs.length, ¬ gs[i].g < g) → lowG g gs = i
  | [], i, h, _, _ => by simp at h; simp [lowG, h]
  | p :: r, 0, _, _, h2 => by
    have := h2 (by simp)
    simp only [List.getElem_cons_zero] at this
    unfold lowG
    rw [if_neg this]
  | p :: r, i + 1, h, h1, h2 => by
    have h3 := h1 0 (by simp) (by omega)
    simp only [List.getElem_cons_zero] at h3
    unfold lowG
    rw [if_pos h3, lowG_eq g r i (by simpa using h) (fun j hj hji => h1 (j + 1) (by simp; omega) (by omega)) (fun hi => h2 (by simp; omega))]
theorem key_get {gs : List Ga} {j : Nat} (h : j < gs.length) (g : Int) : cmpV ((gs.map Ga.slt).getD j dSlt).key (kv g) = ordI gs[j].g g := by
  rw [List.getD_eq_getElem?_getD, List.getElem?_eq_getElem (by simpa using h)]
  simp only [List.getElem_map, Option.getD_some]
  exact cmp_kv ..
theorem srtG_get {gs : List Ga} (h : SrtG gs) {i j : Nat} (hi : i < j) (hj : j < gs.length) : (gs[i]'(by omega)).g < gs[j].g := List.pairwise_iff_getElem.1 h i j (by omega) hj hi
theorem getG_at (gs : List Ga) (hs : SrtG gs) (hm : SmG gs) (g : Int) :
    (∀ N, 190050 ≤ N → callF tab ext N (.fn 81) [.agg (gst gs).cells, .agg (kv g).cells] [] = some (getX (knG g gs) (getG g gs).slt)) ∧ ∀ N, 190040 ≤ N → Gam.pureD (callF tab ext N) 86 [.agg (gst gs).cells, .agg (kv g).cells] = some (.tup [nat (lowG g gs), boolX (knG g gs)]) := by
  obtain ⟨i, b, x, hi, h1, h2, hg, hf⟩ := get_ex3 (gst gs) (gst_small gs hm) (kv g)
  have hl : (gst gs).slots.length = gs.length := by simp [gst]
  rw [hl] at hi
  cases b with
  | true =>
    obtain ⟨hlt, hc, hx⟩ := h1 rfl
    rw [hl] at hlt
    have hk : gs[i].g = g := ordI_zero (by
      have := cmp_kv gs[i].g g
      rw [← this]
      have e : (gst gs).slots[i] = gs[i].slt := by simp [gst]
      rw [e] at hc
      exact hc)
    have hlow : lowG g gs = i := lowG_eq g gs i hi (fun j hj hji => by have := srtG_get hs hji hlt; omega) (fun _ => by omega)
    have hkn : knG g gs = true := by unfold knG; rw [hlow, List.getElem?_eq_getElem hlt]; simpa using hk
    have hgt : getG g gs = gs[i] := by unfold getG; rw [hlow, List.getElem?_eq_getElem hlt]; simp [hk]
    have e : (gst gs).slots[i] = gs[i].slt := by simp [gst]
    rw [hkn, hgt, hlow]
    rw [e] at hx
    subst hx
    exact ⟨hg, hf⟩
  | false =>
    obtain ⟨hsp, hne⟩ := h2 rfl
    have hlow : lowG g gs = i := lowG_eq g gs i hi (fun j hj hji => by
      have hb := hsp.before (by omega)
      show gs[j].g < g
      rw [show (gst gs).slots = gs.map Ga.slt from rfl, key_get (show i - 1 < gs.length by omega)] at hb
      have h3 := ordI_lt.1 hb
      by_cases hj1 : j = i - 1
      · subst hj1; exact h3
      · have := srtG_get hs (show j < i - 1 by omega) (by omega); omega) (fun hlt => by
      have hb := hsp.behind (by rw [hl]; exact hlt)
      rw [show (gst gs).slots = gs.map Ga.slt from rfl, key_get hlt] at hb
      exact fun h => hb (ordI_lt.2 h))
    have hnk : ∀ h : i < gs.length, gs[i].g ≠ g := fun h e => hne (by rw [hl]; exact h) (by
      have e2 : (gst gs).slots[i]'(by rw [hl]; exact h) = gs[i].slt := by simp [gst]
      rw [e2]
      show cmpV (kv gs[i].g) (kv g) = 0
      rw [cmp_kv, e, ordI_self])
    have hkn : knG g gs = false := by
      unfold knG
      rw [hlow]
      by_cases h : i < gs.length
      · rw [List.getElem?_eq_getElem h]; simpa using hnk h
      · rw [List.getElem?_eq_none (by omega)]
    rw [hkn, hlow]
    exact ⟨hg, hf⟩
/-- A group is put at its place. -/
def putG (x : Ga) (gs : List Ga) : List Ga := gs.take (lowG x.g gs) ++ [x] ++ gs.drop (lowG x.g gs + if knG x.g gs then 1 else 0)
theorem putG_at (gs : List Ga) (hs : SrtG gs) (hm : SmG gs) (x : Ga) (hx : x.M.length ≤ 101) (N : Nat) (hN : 190050 ≤ N) :
    Gam.pureD (callF tab ext N) 62 [.agg (gst gs).cells, .agg x.slt.cells] = some (.tup [.agg (gst (putG x gs)).cells, num 0]) := by
  have hl : (gst gs).slots.length = gs.length := by simp [gst]
  have hlow := lowG_le x.g gs
  have hkn : knG x.g gs = true → lowG x.g gs < gs.length := fun h => by
    unfold knG at h
    by_cases hlt : lowG x.g gs < gs.length
    · exact hlt
    · rw [List.getElem?_eq_none (by omega)] at h; cases h
  have key := put_at (gst gs) (gst_small gs hm) x.slt (slt_ok x hx) (lowG x.g gs) (knG x.g gs) (by rw [hl]; exact hlow) (fun h => by
    rw [hl]; exact hkn h) (getG_at gs hs hm x.g).2 N hN
  rw [key]
  have e : putS (knG x.g gs) (lowG x.g gs) x.slt (gst gs).slots = (putG x gs).map Ga.slt := by
    unfold putS putG
    cases hk : knG x.g gs with
    | true =>
      rw [if_pos rfl, if_pos rfl]
      show (gs.map Ga.slt).set _ _ = _
      rw [List.set_eq_take_append_cons_drop, if_pos (by simpa using hkn hk)]
      simp [List.map_take, List.map_drop]
    | false => simp [gst, List.map_take, List.map_drop]
  rw [e]
  rfl
end Go.Proofs.YthphniobeigklaaGreatDoor.Ag
