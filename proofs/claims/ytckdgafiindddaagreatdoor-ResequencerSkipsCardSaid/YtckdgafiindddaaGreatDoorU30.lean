/- slots.Due, and slots.Expired before it. -/
import Derived.Test.YtckdgafiindddaaGreatDoorU27
set_option linter.all false
namespace Go.Proofs.YtckdgafiindddaaGreatDoor
open Go.Em
set_option maxRecDepth 100000

def dueStep (p : Int × Bool) (x : Slt) : Int × Bool := if decide (x.t > 0) && (!p.2 || decide (x.t < p.1)) then (x.t, true) else p
def dueOf (ss : List Slt) : Int × Bool := ss.foldl dueStep (0, false)
theorem dueOf_take {ss : List Slt} {j : Nat} (hj : j < ss.length) : dueOf (ss.take (j + 1)) = dueStep (dueOf (ss.take j)) ss[j] := by
  unfold dueOf
  rw [List.take_succ_eq_append_getElem hj, List.foldl_append]; rfl
theorem due_pure (s : Stt) (hs : s.slots.length ≤ 60000) (N : Nat) (hN : 60010 ≤ N) : Gam.pureD (callF tab ext N) 13 [.agg s.cells] = some (.tup [num (dueOf s.slots).1, boolX (dueOf s.slots).2]) := by
  obtain ⟨M, rfl⟩ : ∃ M, N = M + 1 := ⟨N - 1, by omega⟩
  obtain ⟨a, b, ss⟩ := s
  dsimp only at hs ⊢
  have hn := sltsC_length ss
  have hl : run (callF tab ext M) 0 M (.loop (loopAt 13 0)) ⟨[(2, num 0), (3, boolX false), (7, .sl false 10 (sltsC ss)), (8, nat (sltsC ss).length), (9, num 0)], [.var [num a, num b, .sl false 10 (sltsC ss)]]⟩ =
      some (.exit 0, ⟨[(2, num (dueOf ss).1), (3, boolX (dueOf ss).2), (7, .sl false 10 (sltsC ss)), (8, nat (sltsC ss).length), (9, nat (sltsC ss).length), (10, boolX false)], []⟩) := by
    refine loop_for (σ := fun j => ⟨[(2, num (dueOf (ss.take j)).1), (3, boolX (dueOf (ss.take j)).2), (7, .sl false 10 (sltsC ss)), (8, nat (sltsC ss).length), (9, nat j)], []⟩) (k := (sltsC ss).length) (by kernel_rfl) (fun j hj => ?_) ?_ (by simp) (by omega)
    · have hj' : j < ss.length := by omega
      have hi := sltsC_get hj'
      have hnx := next_nat (j := j) (by omega)
      simp only [dueOf_take hj']
      generalize dueOf (ss.take j) = p
      obtain ⟨d, f⟩ := p
      unfold dueStep
      dsimp only
      generalize ss[j] = x at hi ⊢
      obtain ⟨⟨x1, x2, x3, x4, x5, x6⟩, x7, x8, ms, vs⟩ := x
      dsimp only
      cases h1 : (decide (x8 > 0)) with
      | true =>
        cases f with
        | true =>
          cases h3 : (decide (x8 < d)) with
          | true => exact ⟨_, run_of (σ' := ⟨[(2, num x8), (3, boolX true), (7, .sl false 10 (sltsC ss)), (8, nat (sltsC ss).length), (9, nat (j + 1))], [.var (slotC x1 x2 x3 x4 (cellsL x5) (cellsF x6) x7 x8 (msgsC ms) (cellsL vs))]⟩) [(10, .b true), (11, .e (Slt.mk ⟨x1, x2, x3, x4, x5, x6⟩ x7 x8 ms vs).cells), (15, .b true), (23, .b true), (28, .i (Int.ofNat (j + 1)))] [] (pf5 (lt_nat hj) hi h1 h3 hnx) (lo' := []) (by kernel_rfl), by kernel_rfl⟩
          | false => exact ⟨_, run_of (σ' := ⟨[(2, num d), (3, boolX true), (7, .sl false 10 (sltsC ss)), (8, nat (sltsC ss).length), (9, nat (j + 1))], [.var (slotC x1 x2 x3 x4 (cellsL x5) (cellsF x6) x7 x8 (msgsC ms) (cellsL vs))]⟩) [(10, .b true), (11, .e (Slt.mk ⟨x1, x2, x3, x4, x5, x6⟩ x7 x8 ms vs).cells), (15, .b true), (23, .b false), (28, .i (Int.ofNat (j + 1)))] [] (pf5 (lt_nat hj) hi h1 h3 hnx) (lo' := []) (by kernel_rfl), by kernel_rfl⟩
        | false => exact ⟨_, run_of (σ' := ⟨[(2, num x8), (3, boolX true), (7, .sl false 10 (sltsC ss)), (8, nat (sltsC ss).length), (9, nat (j + 1))], [.var (slotC x1 x2 x3 x4 (cellsL x5) (cellsF x6) x7 x8 (msgsC ms) (cellsL vs))]⟩) [(10, .b true), (11, .e (Slt.mk ⟨x1, x2, x3, x4, x5, x6⟩ x7 x8 ms vs).cells), (15, .b true), (28, .i (Int.ofNat (j + 1)))] [] (pf4 (lt_nat hj) hi h1 hnx) (lo' := []) (by kernel_rfl), by kernel_rfl⟩
      | false => exact ⟨_, run_of (σ' := ⟨[(2, num d), (3, boolX f), (7, .sl false 10 (sltsC ss)), (8, nat (sltsC ss).length), (9, nat (j + 1))], [.var (slotC x1 x2 x3 x4 (cellsL x5) (cellsF x6) x7 x8 (msgsC ms) (cellsL vs))]⟩) [(10, .b true), (11, .e (Slt.mk ⟨x1, x2, x3, x4, x5, x6⟩ x7 x8 ms vs).cells), (15, .b false), (28, .i (Int.ofNat (j + 1)))] [] (pf4 (lt_nat hj) hi h1 hnx) (lo' := []) (by kernel_rfl), by kernel_rfl⟩
    · have : List.take (sltsC ss).length ss = ss := by rw [hn, List.take_length]
      simp only [this]
      generalize dueOf ss = p
      exact run_of [(10, .b false)] [] (pf1 (nlt_nat (Nat.lt_irrefl (sltsC ss).length))) (lo' := []) (by kernel_rfl)
  generalize dueOf ss = p at hl ⊢
  exact pure_of [] [(.exit 0, ⟨[(2, num p.1), (3, boolX p.2), (7, .sl false 10 (sltsC ss)), (8, nat (sltsC ss).length), (9, nat (sltsC ss).length), (10, boolX false)], []⟩)] (pf1 hl) (x := .tup [num p.1, boolX p.2]) (bx := []) (by kernel_rfl) rfl

end Go.Proofs.YtckdgafiindddaaGreatDoor

/- ResequencerSkips: the plain law. -/
namespace Go.Proofs.YtckdgafiindddaaGreatDoor
open Go.Em
set_option maxRecDepth 100000

theorem due_mem (l : List Slt) : ∀ p : Int × Bool, l.foldl dueStep p = p ∨ ∃ x, x ∈ l ∧ x.t > 0 ∧ l.foldl dueStep p = (x.t, true) := by
  induction l with
  | nil => intro p; exact .inl rfl
  | cons y r ih =>
    intro p
    rw [List.foldl_cons]
    have hs : dueStep p y = p ∨ y.t > 0 ∧ dueStep p y = (y.t, true) := by
      unfold dueStep
      split
      · rename_i h
        rw [Bool.and_eq_true] at h
        exact .inr ⟨of_decide_eq_true h.1, rfl⟩
      · exact .inl rfl
    rcases ih (dueStep p y) with h | ⟨x, hx, ht, h⟩
    · rcases hs with h2 | ⟨h2, h3⟩
      · exact .inl (h.trans h2)
      · exact .inr ⟨y, List.mem_cons_self, h2, h.trans h3⟩
    · exact .inr ⟨x, List.mem_cons_of_mem _ hx, ht, h⟩
theorem dueG {gs : List Gp} {d : Int} (h : dueOf (gst gs).slots = (d, true)) : ∃ x, x ∈ gs ∧ x.t = d ∧ 0 < d := by
  rcases due_mem (gst gs).slots (0, false) with h1 | ⟨y, hy, ht, h1⟩
  · have : dueOf (gst gs).slots = (0, false) := h1
    rw [h] at this
    cases this
  · have h2 : dueOf (gst gs).slots = (y.t, true) := h1
    rw [h] at h2
    obtain ⟨x, hx, rfl⟩ := List.mem_map.1 hy
    have h3 : d = x.slt.t := congrArg Prod.fst h2
    exact ⟨x, hx, h3.symm, by rw [h3]; exact ht⟩
/-- What a clock input at or behind the least deadline does. -/
theorem skip_plain {gs : List Gp} (h : StI gs) {d : Int} (hd : dueOf (gst gs).slots = (d, true)) (t now : Int) (ht : 1 ≤ t) (hn : d ≤ now) (k : Nat) :
    ∃ x p r, x ∈ gs ∧ x.H = p :: r ∧ StI (clkC k t now gs).gs ∧ heldG (clkC k t now gs).gs + (clkC k t now gs).O.length = heldG gs ∧ (∃ R, (clkC k t now gs).O = ⟨0, { mqg x.g p with st := undS (clkS k) 0 }⟩ :: R) ∧
      clkG t now x ∈ (clkC k t now gs).gs ∧ p.1 < (clkG t now x).nx ∧ ∀ y, y ∈ (clkC k t now gs).gs → ¬ (0 < y.t ∧ y.t ≤ now) := by
  obtain ⟨z, hz, hzt, hd0⟩ := dueG hd
  have hE := exG_mem (now := now) h
  have hne := exG_ne (now := now) h
  have hall : ∀ y, y ∈ gs → 0 < y.t ∧ y.t ≤ now → y ∈ exG now gs := fun y hy hyt => (exG_perm now gs).mem_iff.2 (List.mem_filter.2 ⟨hy, decide_eq_true hyt⟩)
  have hzE := hall z hz ⟨by omega, by omega⟩
  have h0 : CkI (clkS k) gs [] ⟨gs, [], []⟩ := ⟨h, by simp, by simp, undI_nil _, numI_nil _, rfl⟩
  have key := clk_fold t now (exG now gs) ⟨gs, [], []⟩ h0 hE hne
  have e : clkC k t now gs = (exG now gs).foldl (clk1 (clkS k) t now) ⟨gs, [], []⟩ := rfl
  rw [← e] at key
  obtain ⟨a1, a2, _, a4, _⟩ := key
  have hq : ∀ y, y ∈ (clkC k t now gs).gs → ¬ (0 < y.t ∧ y.t ≤ now) := fun y hy hyt => by
    rcases a2 y hy with ⟨b1, b2⟩ | ⟨x, _, rfl⟩
    · exact b2 y (hall y b1 hyt) rfl
    · have := clkG_t (now := now) ht x
      omega
  cases hEc : exG now gs with
  | nil => rw [hEc] at hzE; cases hzE
  | cons x E =>
    rw [hEc] at hE hne
    obtain ⟨hx, hxne⟩ := hE x List.mem_cons_self
    have h1 := clk1_I h0 t now hx hxne
    have hp' := List.pairwise_cons.1 hne
    obtain ⟨_, _, _, _, R, hR⟩ := clk_fold t now E (clk1 (clkS k) t now ⟨gs, [], []⟩ x) h1 (fun y hy => ⟨clk1_mem (hE y (List.mem_cons_of_mem _ hy)).1 (hp'.1 y hy), (hE y (List.mem_cons_of_mem _ hy)).2⟩) hp'.2
    rw [← List.foldl_cons, ← hEc, ← e] at hR
    have hcx := a4 x (by rw [hEc]; exact List.mem_cons_self)
    have hkp := relK_pos hxne
    obtain ⟨g, nx, xt, H⟩ := x
    cases H with
    | nil => exact absurd rfl hxne
    | cons p r =>
      have hm : clkM ⟨g, nx, xt, p :: r⟩ = mqg g p :: (r.take (relK ⟨g, nx, xt, p :: r⟩ - 1)).map (mqg g) := by
        unfold clkM
        generalize relK ⟨g, nx, xt, p :: r⟩ = K at hkp
        cases K with
        | zero => omega
        | succ K => rfl
      refine ⟨⟨g, nx, xt, p :: r⟩, p, r, hx, rfl, a1.st, a1.cnt, ?_, hcx, ?_, hq⟩
      · rw [hR]
        show ∃ R', ([] ++ sentO2 (clkS k) 0 (clkM _)) ++ R = _ :: R'
        rw [hm]
        unfold sentO2
        rw [List.mapIdx_cons, List.nil_append, List.cons_append]
        exact ⟨_, rfl⟩
      · show p.1 < v0 _ + relK _
        show p.1 < p.1 + relK _
        omega
theorem due_after {gs : List Gp} {now : Int} (h : ∀ y, y ∈ gs → ¬ (0 < y.t ∧ y.t ≤ now)) (hb : (dueOf (gst gs).slots).2 = true) : now < (dueOf (gst gs).slots).1 := by
  obtain ⟨x, hx, h1, h2⟩ := dueG (gs := gs) (d := (dueOf (gst gs).slots).1) (by rw [← hb])
  have := h x hx
  omega
theorem knG_of_mem {gs : List Gp} (hs : SrtG gs) {y : Gp} (hy : y ∈ gs) : knG y.g gs = true := by
  cases hk : knG y.g gs with
  | true => rfl
  | false =>
    obtain ⟨i, hi, rfl⟩ := List.getElem_of_mem hy
    have hlow : lowG gs[i].g gs = i := lowG_eq _ gs i (by omega) (fun j hj hji => srtG_get hs hji hi) (fun _ => by omega)
    unfold knG at hk
    rw [hlow, List.getElem?_eq_getElem hi] at hk
    simp at hk
theorem late_rej {l : Int} {gs : List Gp} {g : Int} {n : Nat} (h : n < (getG g gs).nx) : rejP l gs g n = lateT := by
  unfold rejP refT
  rw [if_pos (by omega)]
theorem next57 {gs : List Gp} (h : StI gs) {y : Gp} (hy : y ∈ gs) (N : Nat) (hN : 200000 ≤ N) : Gam.pureD (callF tab ext N) 15 [.agg (gst gs).cells, .agg (kv y.g).cells] = some (nat y.nx) := by
  obtain ⟨M, rfl⟩ : ∃ M, N = M + 1 := ⟨N - 1, by omega⟩
  have h1 := (getG_at gs h.srt h.gsI.sm y.g).1 M (by omega)
  rw [knG_of_mem h.srt hy, getG_of_mem h.srt hy] at h1
  have hd : ∀ (g nx xt : Int) (ms vs : List (List X)), X.data [.row 10 ms, .row 6 vs] false (.tup [.agg (slR 2 g 0 nx xt ⟨#[]⟩ [] [] ms.length vs.length), boolX true]) = some (.tup [.agg (slC 2 g 0 nx xt ⟨#[]⟩ [] [] ms vs), boolX true]) := fun g nx xt ms vs => by
    have h3 := data_agg (dataL_cons (x := num 2) rfl (dataL_cons (x := num g) rfl (dataL_cons (x := num 0) rfl (dataL_cons (x := strX ⟨#[]⟩) rfl (dataL_cons (x := .sl false 6 []) rfl (dataL_cons (x := .sl false 7 []) rfl (dataL_cons (x := num nx) rfl (dataL_cons (x := num xt) rfl (dataL_cons (data_bs (bx := [.row 10 ms, .row 6 vs]) (i := 0) rfl (rfl : ms.length = _)) (dataL_cons (data_bs (bx := [.row 10 ms, .row 6 vs]) (i := 1) rfl (rfl : vs.length = _)) (r := []) rfl))))))))))
    have h4 := dataL_cons h3 (dataL_cons (x := boolX true) (r := []) rfl rfl)
    simp only [X.data]
    exact congrArg (Option.map X.tup) h4
  exact expected57 M (gst gs) (kv y.g) y.slt true (pureD_of h1 (hd y.g y.nx y.t (msgsC (y.H.map (mqg y.g))) (cellsL ((nq y.H).map kv))))
end Go.Proofs.YtckdgafiindddaaGreatDoor

/- ResequencerSkips comes to true on the machine. -/
namespace Go.Proofs.YtckdgafiindddaaGreatDoor
open Go.Em
set_option maxRecDepth 100000

section
variable (es A B ss sp R F : List (List X)) (tm la : Nat) (d now d2 g n nx e mm a1 a2 a3 : Int) (us o a5 a6 : List (List X)) (a4 : ByteArray) (m2 : List X) (b2 : Bool) (e2 : Int) (us2 : List (List X)) (N : Nat)
theorem sk_none (htm : tm < 256) (hk : Gam.pureD (callF tab ext N) 6 [] = some (boolX true)) (h53 : Gam.pureD (callF tab ext N) 8 [num (Int.ofNat (tm + 1)), num 5] = some (.agg (nodR (Int.ofNat (tm + 1)) 5).cells))
    (h59 : Gam.pureD (callF tab ext N) 7 [.agg (nodR (Int.ofNat (tm + 1)) 5).cells, .sl false 4 es] = some (.tup [.sl false 10 A, .sl false 10 B, .agg [num 0, num 0, .sl false 10 ss], boolX true]))
    (h65 : Gam.pureD (callF tab ext N) 13 [.agg [num 0, num 0, .sl false 10 ss]] = some (.tup [num d, boolX false])) :
    callF tab ext (N + 1) (.fn 5) [.sl false 4 es, u8 tm, u8 la] [] = some (.v (.bool true), []) := by
  have e1 := wrap_small (y := tm) (by omega)
  have e3 : IntKind.i64.wrap (1 + Int.ofNat tm) = Int.ofNat (tm + 1) := by rw [IntKind.wrap_i64]; simp only [Int.ofNat_eq_natCast]; omega
  exact callF_of [(21, .p (boolX true)), (24, .i (Int.ofNat tm)), (25, .i (Int.ofNat (tm + 1))), (26, .p (.agg (nodR (Int.ofNat (tm + 1)) 5).cells)), (30, .p (.tup [.sl false 10 A, .sl false 10 B, .agg [num 0, num 0, .sl false 10 ss], boolX true])), (37, .p (.tup [num d, boolX false]))] []
    (pf6 hk e1 e3 h53 h59 h65) (by kernel_rfl)
theorem sk_some (htm : tm < 256) (hla : la < 256) (hnow : now = d + Int.ofNat la) (hd0 : 0 ≤ d) (hd1 : d ≤ 1000000) (hk : Gam.pureD (callF tab ext N) 6 [] = some (boolX true)) (h53 : Gam.pureD (callF tab ext N) 8 [num (Int.ofNat (tm + 1)), num 5] = some (.agg (nodR (Int.ofNat (tm + 1)) 5).cells))
    (h59 : Gam.pureD (callF tab ext N) 7 [.agg (nodR (Int.ofNat (tm + 1)) 5).cells, .sl false 4 es] = some (.tup [.sl false 10 A, .sl false 10 B, .agg [num 0, num 0, .sl false 10 ss], boolX true]))
    (h65 : Gam.pureD (callF tab ext N) 13 [.agg [num 0, num 0, .sl false 10 ss]] = some (.tup [num d, boolX true]))
    (h52 : Gam.pureD (callF tab ext N) 14 [.agg (nodR (Int.ofNat (tm + 1)) 5).cells, .agg [num 0, num 0, .sl false 10 ss], .agg (clkI 90 now).cells] = some (.agg (oqC ([num 0, num e, .sl false 1 us, num mm, .sl false 1 o, num a1, num a2, num a3, strX a4, .sl false 6 a5, .sl false 7 a6] :: R) F [] sp)))
    (h65b : Gam.pureD (callF tab ext N) 13 [.agg [num 0, num 0, .sl false 10 sp]] = some (.tup [num d2, boolX b2])) (hb : b2 = true → now < d2)
    (h60 : Gam.pureD (callF tab ext N) 10 [.agg [num e, .sl false 1 us, num mm, .sl false 1 o, num a1, num a2, num a3, strX a4, .sl false 6 a5, .sl false 7 a6]] = some (num g)) (h58 : Gam.pureD (callF tab ext N) 16 [num g] = some (.agg (kv g).cells))
    (h57 : Gam.pureD (callF tab ext N) 15 [.agg [num 0, num 0, .sl false 10 sp], .agg (kv g).cells] = some (num nx))
    (h55 : Gam.pureD (callF tab ext N) 11 [.agg [num e, .sl false 1 us, num mm, .sl false 1 o, num a1, num a2, num a3, strX a4, .sl false 6 a5, .sl false 7 a6]] = some (num n))
    (h54 : Gam.pureD (callF tab ext N) 17 [num 95, num g, num n, num now] = some (.agg (inpR 96 g n now).cells))
    (h52b : Gam.pureD (callF tab ext N) 14 [.agg (nodR (Int.ofNat (tm + 1)) 5).cells, .agg [num 0, num 0, .sl false 10 sp], .agg (inpR 96 g n now).cells] = some (.agg [num 0, num 0, .sl false 10 sp, .sl false 11 [], .sl false 11 [], .sl false 6 [[num e2, .sl false 1 us2, num 4, strX ordT, .sl false 2 [], strX lateT]], .sl false 10 [m2]]))
    (hn : n < nx) (h50 : Gam.pureD (callF tab ext N) 18 [.agg [num 0, num 0, .sl false 10 sp], .agg [num 0, num 0, .sl false 10 sp]] = some (boolX true)) :
    callF tab ext (N + 1) (.fn 5) [.sl false 4 es, u8 tm, u8 la] [] = some (.v (.bool true), []) := by
  have e1 := wrap_small (y := tm) (by omega)
  have e3 : IntKind.i64.wrap (1 + Int.ofNat tm) = Int.ofNat (tm + 1) := by rw [IntKind.wrap_i64]; simp only [Int.ofNat_eq_natCast]; omega
  have e4 := wrap_small (y := la) (by omega)
  have e5 : IntKind.i64.wrap (d + Int.ofNat la) = now := by rw [IntKind.wrap_i64]; simp only [Int.ofNat_eq_natCast] at *; omega
  have e6 : decide (nx > n) = true := decide_eq_true hn
  cases b2 with
  | true =>
    have e7 : decide (d2 ≤ now) = false := decide_eq_false (by have := hb rfl; omega)
    exact callF_of [(21, .p (boolX true)), (24, .i (Int.ofNat tm)), (25, .i (Int.ofNat (tm + 1))), (26, .p (.agg (nodR (Int.ofNat (tm + 1)) 5).cells)), (30, .p (.tup [.sl false 10 A, .sl false 10 B, .agg [num 0, num 0, .sl false 10 ss], boolX true])), (37, .p (.tup [num d, boolX true])), (49, .i (Int.ofNat la)), (50, .i now), (57, .p (.agg (oqC ([num 0, num e, .sl false 1 us, num mm, .sl false 1 o, num a1, num a2, num a3, strX a4, .sl false 6 a5, .sl false 7 a6] :: R) F [] sp))), (61, .p (.tup [num d2, boolX true])), (68, .b false), (74, .b false), (90, .p (num g)), (91, .p (.agg (kv g).cells)), (92, .p (num nx)), (97, .p (num g)), (99, .p (num n)), (101, .p (.agg (inpR 96 g n now).cells)), (102, .p (.agg [num 0, num 0, .sl false 10 sp, .sl false 11 [], .sl false 11 [], .sl false 6 [[num e2, .sl false 1 us2, num 4, strX ordT, .sl false 2 [], strX lateT]], .sl false 10 [m2]])), (105, .p (num n)), (106, .b true), (126, .p (boolX true))] []
      (pfJ hk e1 e3 h53 h59 h65 e4 (pfJ e5 h52 h65b e7 (rfl : false = false) h60 h58 (pf8 h57 h60 h55 h54 h52b h55 e6 h50))) (by kernel_rfl)
  | false =>
    exact callF_of [(21, .p (boolX true)), (24, .i (Int.ofNat tm)), (25, .i (Int.ofNat (tm + 1))), (26, .p (.agg (nodR (Int.ofNat (tm + 1)) 5).cells)), (30, .p (.tup [.sl false 10 A, .sl false 10 B, .agg [num 0, num 0, .sl false 10 ss], boolX true])), (37, .p (.tup [num d, boolX true])), (49, .i (Int.ofNat la)), (50, .i now), (57, .p (.agg (oqC ([num 0, num e, .sl false 1 us, num mm, .sl false 1 o, num a1, num a2, num a3, strX a4, .sl false 6 a5, .sl false 7 a6] :: R) F [] sp))), (61, .p (.tup [num d2, boolX false])), (74, .b false), (90, .p (num g)), (91, .p (.agg (kv g).cells)), (92, .p (num nx)), (97, .p (num g)), (99, .p (num n)), (101, .p (.agg (inpR 96 g n now).cells)), (102, .p (.agg [num 0, num 0, .sl false 10 sp, .sl false 11 [], .sl false 11 [], .sl false 6 [[num e2, .sl false 1 us2, num 4, strX ordT, .sl false 2 [], strX lateT]], .sl false 10 [m2]])), (105, .p (num n)), (106, .b true), (126, .p (boolX true))] []
      (pfJ hk e1 e3 h53 h59 h65 e4 (pfJ e5 h52 h65b (rfl : false = false) h60 h58 h57 (pf7 h60 h55 h54 h52b h55 e6 h50))) (by kernel_rfl)
end
/-! ### Deadlines are near -/
theorem dlP_le {t now : Int} (ht : 0 ≤ t) (hn : 0 ≤ now) (k : Nat) : dlP t now k ≤ now + t := by
  unfold dlP
  split
  · omega
  · exact Int.le_refl _
def NearI (t : Int) (q : Rn) : Prop := ∀ x, x ∈ q.gs → x.t ≤ q.now + t
theorem near_step {t l : Int} (ht : 0 ≤ t) {q : Rn} {m : Nat} (hq : RnX q m) (h : NearI t q) (a : Arv) : NearI t (arA t l q a) := by
  have h0 := hq.I.lo
  have hd : (0 : Int) ≤ (a.d : Int) := by omega
  unfold arA
  split
  · intro y hy
    have hck : CkI (clkS q.i) q.gs [] ⟨q.gs, [], []⟩ := ⟨hq.I.st, by simp, by simp, undI_nil _, numI_nil _, rfl⟩
    have key := (clk_fold t (q.now + (a.d : Int)) (exG (q.now + (a.d : Int)) q.gs) ⟨q.gs, [], []⟩ hck (exG_mem hq.I.st) (exG_ne hq.I.st)).2.1 y hy
    show y.t ≤ q.now + (a.d : Int) + t
    rcases key with ⟨h1, _⟩ | ⟨x, _, rfl⟩
    · have := h y h1; omega
    · exact dlP_le ht (by omega) _
  · intro y hy
    show y.t ≤ q.now + (a.d : Int) + t
    have hy' : y ∈ stG t l (q.now + (a.d : Int)) q.gs (Int.ofNat (a.g % 4)) (a.n % 16 + 1) q.i := hy
    unfold stG at hy'
    split at hy'
    · have := h y hy'; omega
    · rcases putG_mem hy' with rfl | hy'
      · have hg : (getG (Int.ofNat (a.g % 4)) q.gs).t ≤ q.now + (a.d : Int) + t := by
          cases hk : knG (Int.ofNat (a.g % 4)) q.gs with
          | true => have := h _ (getG_mem hk); omega
          | false => rw [getG_new hk]; show (0 : Int) ≤ _; omega
        unfold recG
        split
        · dsimp only
          split
          · exact dlP_le ht (by omega) _
          · exact hg
        · exact dlP_le ht (by omega) _
      · have := h y hy'; omega
theorem near_run (t l : Int) (ht : 0 ≤ t) (av : List Arv) (h : ∀ a, a ∈ av → a.ok) : NearI t (rnA t l av) := by
  have key : ∀ (av : List Arv) (q : Rn) (m : Nat), RnX q m → NearI t q → (∀ a, a ∈ av → a.ok) → NearI t (av.foldl (arA t l) q) := by
    intro av
    induction av with
    | nil => intro q m _ hn _; exact hn
    | cons a r ih =>
      intro q m hq hn ha
      exact ih (arA t l q a) _ (rnX_step hq t l a (ha a List.mem_cons_self)) (near_step ht hq hn a) (fun b hb => ha b (List.mem_cons_of_mem _ hb))
  exact key av rn0 0 rnX_0 (fun x hx => by cases hx) h
/-- A clock input behind the least deadline, on the machine. -/
theorem skip_run {gs : List Gp} (hst : StI gs) (hh : heldG gs ≤ 1000) (hnear : ∀ x, x ∈ gs → x.t ≤ 100000) {d : Int} (hdd : dueOf (gst gs).slots = (d, true)) (tm la : Nat) (htm : tm < 256) (hla : la < 256) : ∃ (x : Gp) (p : Nat × Nat) (R : List Otp) (F : List Fte) (gs2 : List Gp) (nx : Nat), 0 ≤ d ∧ d ≤ 100000 ∧ StI gs2 ∧ p.1 < nx ∧ 1 ≤ p.1 ∧ p.1 ≤ 16 ∧
    Gam.pureD (callF tab ext 202100) 14 [.agg (nodR (Int.ofNat (tm + 1)) 5).cells, .agg (gst gs).cells, .agg (clkI (((89 : Nat) : Int) + 1) (d + Int.ofNat la)).cells] = some (.agg (oqC (otpsC (⟨0, { mqg x.g p with st := undS (clkS 89) 0 }⟩ :: R)) (ftesC F) [] (sltsC (gst gs2).slots))) ∧
    Gam.pureD (callF tab ext 202100) 15 [.agg (gst gs2).cells, .agg (kv x.g).cells] = some (nat nx) ∧
    Gam.pureD (callF tab ext 202100) 14 [.agg (nodR (Int.ofNat (tm + 1)) 5).cells, .agg (gst gs2).cells, .agg (inpR (((95 : Nat) : Int) + 1) x.g p.1 (d + Int.ofNat la)).cells] = some (.agg (ouG gs2 [] [(Fte.mk ⟨((95 : Nat) : Int) + 1, [1]⟩ 4 ordT [] lateT).cells] [mqg x.g (p.1, 95)])) ∧
    ((dueOf (gst gs2).slots).2 = true → d + Int.ofNat la < (dueOf (gst gs2).slots).1) := by
  have ht1 : (1 : Int) ≤ Int.ofNat (tm + 1) := by simp only [Int.ofNat_eq_natCast]; omega
  have ht2 : Int.ofNat (tm + 1) ≤ 256 := by simp only [Int.ofNat_eq_natCast]; omega
  obtain ⟨z, hz, hzt, hd0⟩ := dueG hdd
  have hd1 := hnear z hz
  have hd2 : d + Int.ofNat la ≤ 1000000 := by simp only [Int.ofNat_eq_natCast]; omega
  have hla0 : (0 : Int) ≤ Int.ofNat la := by simp
  obtain ⟨x, p, r, hx, hH, hst2, hcn2, ⟨R, hO⟩, hin, hlt, hq⟩ := skip_plain hst hdd (Int.ofNat (tm + 1)) (d + Int.ofNat la) ht1 (by omega) 89
  have h52 := clk_at hst 89 (Int.ofNat (tm + 1)) 5 (d + Int.ofNat la) (by omega) (by omega) (by omega) hd2 hh 202100 (by omega)
  rw [hO] at h52
  have hp16 := (hst.gj x hx).1.h16 p (by rw [hH]; exact List.mem_cons_self)
  have hgx : getG x.g (clkC 89 (Int.ofNat (tm + 1)) (d + Int.ofNat la) gs).gs = clkG (Int.ofNat (tm + 1)) (d + Int.ofNat la) x := getG_of_mem hst2.srt hin
  have h57 := next57 hst2 hin 202100 (by omega)
  have hrej : rejP 5 (clkC 89 (Int.ofNat (tm + 1)) (d + Int.ofNat la) gs).gs x.g p.1 = lateT := late_rej (by rw [hgx]; exact hlt)
  have h52b := step_rej (clkC 89 (Int.ofNat (tm + 1)) (d + Int.ofNat la) gs).gs hst2.gsI (Int.ofNat (tm + 1)) 5 x.g (d + Int.ofNat la) p.1 95 hp16.1 (by omega) 202100 (by omega) (by rw [hrej]; exact .inl rfl)
  rw [hrej] at h52b
  exact ⟨x, p, R, (clkC 89 (Int.ofNat (tm + 1)) (d + Int.ofNat la) gs).F, (clkC 89 (Int.ofNat (tm + 1)) (d + Int.ofNat la) gs).gs, (clkG (Int.ofNat (tm + 1)) (d + Int.ofNat la) x).nx, by omega, by omega, hst2, hlt, hp16.1, hp16.2, h52, h57, h52b, due_after hq⟩
theorem sk_join (es A B : List (List X)) (gs gs2 : List Gp) (g : Int) (pn pk nx : Nat) (R : List Otp) (F : List Fte) (d : Int) (tm la : Nat) (htm : tm < 256) (hla : la < 256) (hd0 : 0 ≤ d) (hd1 : d ≤ 100000) (hst2 : StI gs2) (hn : pn < nx)
    (hk : Gam.pureD (callF tab ext 202100) 6 [] = some (boolX true)) (h53 : Gam.pureD (callF tab ext 202100) 8 [num (Int.ofNat (tm + 1)), num 5] = some (.agg (nodR (Int.ofNat (tm + 1)) 5).cells))
    (h59 : Gam.pureD (callF tab ext 202100) 7 [.agg (nodR (Int.ofNat (tm + 1)) 5).cells, .sl false 4 es] = some (.tup [.sl false 10 A, .sl false 10 B, .agg (gst gs).cells, boolX true]))
    (h65 : Gam.pureD (callF tab ext 202100) 13 [.agg (gst gs).cells] = some (.tup [num d, boolX true]))
    (h52 : Gam.pureD (callF tab ext 202100) 14 [.agg (nodR (Int.ofNat (tm + 1)) 5).cells, .agg (gst gs).cells, .agg (clkI (((89 : Nat) : Int) + 1) (d + Int.ofNat la)).cells] = some (.agg (oqC (otpsC (⟨0, { mqg g (pn, pk) with st := undS (clkS 89) 0 }⟩ :: R)) (ftesC F) [] (sltsC (gst gs2).slots))))
    (h57 : Gam.pureD (callF tab ext 202100) 15 [.agg (gst gs2).cells, .agg (kv g).cells] = some (nat nx))
    (h52b : Gam.pureD (callF tab ext 202100) 14 [.agg (nodR (Int.ofNat (tm + 1)) 5).cells, .agg (gst gs2).cells, .agg (inpR (((95 : Nat) : Int) + 1) g pn (d + Int.ofNat la)).cells] = some (.agg (ouG gs2 [] [(Fte.mk ⟨((95 : Nat) : Int) + 1, [1]⟩ 4 ordT [] lateT).cells] [mqg g (pn, 95)])))
    (hafter : (dueOf (gst gs2).slots).2 = true → d + Int.ofNat la < (dueOf (gst gs2).slots).1) : callF tab ext 202101 (.fn 5) [.sl false 4 es, u8 tm, u8 la] [] = some (.v (.bool true), []) := by
  have h65b := due_pure (gst gs2) (by have := hst2.few; show (List.map Gp.slt _).length ≤ 60000; rw [List.length_map]; omega) 202100 (by omega)
  have h50 := stt_refl 202100 (gst gs2) (gst_small _ hst2.gsI.sm).ok (by omega)
  have hw : WfM { mqg g (pn, pk) with st := undS (clkS 89) 0 } := ⟨g, pn, pk, _, rfl⟩
  have h60 := group_wf hw 202000
  have h55 := number_wf hw 202000
  have h54 := input54 202000 95 g (pn : Int) (d + Int.ofNat la)
  have h58 := int58 202040 g
  exact sk_some es A B (sltsC (gst gs).slots) (sltsC (gst gs2).slots) (otpsC R) (ftesC F) tm la d (d + Int.ofNat la) (dueOf (gst gs2).slots).1 g (pn : Int) (nx : Int) 90 1048576 9 0 0 (intsC [0, 3, 0]) (intsC [(pk : Int) + 1]) [] (cellsF [(⟨#[103]⟩, kv g), (⟨#[110]⟩, kv (pn : Int))]) ⟨#[]⟩ (mqg g (pn, 95)).cells (dueOf (gst gs2).slots).2 96 (intsC [1]) 202100 htm hla rfl hd0 (by omega) hk h53 h59 h65 h52 h65b hafter h60 h58 h57 h55 h54 h52b (by omega) h50
theorem rskips_all (av : List Arv) (hok : ∀ a, a ∈ av → a.ok) (tm la : Nat) (htm : tm < 256) (hla : la < 256) : callF tab ext 202101 (.fn 5) [.sl false 4 (arvC av), u8 tm, u8 la] [] = some (.v (.bool true), []) := by
  have hk := known34_at 201700
  have hok40 : ∀ a, a ∈ av.take 40 → a.ok := fun a ha => hok a (List.mem_of_mem_take ha)
  obtain ⟨hX, hi⟩ := rnA_X (Int.ofNat (tm + 1)) 5 (av.take 40) hok40
  have ht1 : (1 : Int) ≤ Int.ofNat (tm + 1) := by simp only [Int.ofNat_eq_natCast]; omega
  have ht2 : Int.ofNat (tm + 1) ≤ 256 := by simp only [Int.ofNat_eq_natCast]; omega
  have hnear := near_run (Int.ofNat (tm + 1)) 5 (by omega) (av.take 40) hok40
  have hlen : (av.take 40).length ≤ 40 := by rw [List.length_take]; omega
  have hcl := cntA_le (av.take 40)
  have hcnt := hX.cnt
  have h53 := node53 202000 (Int.ofNat (tm + 1)) 5
  have h59 := run59A (Int.ofNat (tm + 1)) 5 (by omega) (by omega) av hok 202100 (by omega)
  have hst := hX.I.st
  have hhi := hX.I.hi
  generalize rnA (Int.ofNat (tm + 1)) 5 (av.take 40) = q at *
  have h65 := due_pure (gst q.gs) (by have := hst.few; simp [gst]; omega) 202100 (by omega)
  cases hb : (dueOf (gst q.gs).slots).2 with
  | false =>
    rw [hb] at h65
    exact sk_none (arvC av) _ _ (sltsC (gst q.gs).slots) tm la _ 202100 htm hk h53 h59 h65
  | true =>
    have hdd : dueOf (gst q.gs).slots = ((dueOf (gst q.gs).slots).1, true) := by rw [← hb]
    rw [hb] at h65
    obtain ⟨x, p, R, F, gs2, nx, a1, a2, a3, a4, a5, a6, a7, a8, a9, a0⟩ := skip_run hst (by omega) (fun x hx => by have := hnear x hx; omega) hdd tm la htm hla
    exact sk_join (arvC av) _ _ q.gs gs2 x.g p.1 p.2 nx R F _ tm la htm hla a1 a2 a3 a4 hk h53 h59 h65 a7 a8 a9 a0
end Go.Proofs.YtckdgafiindddaaGreatDoor
