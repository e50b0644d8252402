/- Counts: what a group holds behind a put and a removal; with no condition, no time, and room, a group is full at every k-th message. -/
import Derived.Test.YthphniobeigklaaGreatDoorA19
set_option linter.all false
namespace Go.Proofs.YthphniobeigklaaGreatDoor.Ag
open Go Go.Em Go.Proofs.YthphniobeigklaaGreatDoor
set_option maxRecDepth 100000

theorem getG_mem {gs : List Ga} (hs : SrtG gs) {x : Ga} (hx : x ∈ gs) {q : Int} (h : x.g = q) : getG q gs = x := by
  subst h
  exact (kn_mem hs hx).2
theorem getG_non {gs : List Ga} {q : Int} (h : ∀ y, y ∈ gs → y.g ≠ q) : getG q gs = ⟨q, 0, []⟩ := by
  rcases getG_cases q gs with ⟨_, hm, e⟩ | ⟨_, e⟩
  · exact absurd e (h _ hm)
  · exact e
theorem knG_non {gs : List Ga} (hs : SrtG gs) {q : Int} (hk : knG q gs = false) : ∀ y, y ∈ gs → y.g ≠ q := fun y hy e => by
  have h := (kn_mem hs hy).1
  rw [e, hk] at h
  cases h
theorem putG_self (x : Ga) (gs : List Ga) : x ∈ putG x gs := by
  rw [putG_eq]
  exact List.mem_append_left _ (List.mem_append_right _ (List.mem_singleton.2 rfl))
theorem putG_old {x y : Ga} {gs : List Ga} (hy : y ∈ gs) (hne : y.g ≠ x.g) : y ∈ putG x gs := by
  have h : y ∈ gs.take (lowG x.g gs) ++ (if knG x.g gs then [getG x.g gs] else []) ++ gs.drop (lowG x.g gs + kn1 x.g gs) := by
    rw [← split_at x.g gs]
    exact hy
  rw [putG_eq]
  rcases List.mem_append.1 h with h | h
  · rcases List.mem_append.1 h with h | h
    · exact List.mem_append_left _ (List.mem_append_left _ h)
    · split at h
      · rw [List.mem_singleton.1 h, getG_g] at hne
        exact absurd rfl hne
      · cases h
  · exact List.mem_append_right _ h
theorem getG_put {gs : List Ga} (hs : SrtG gs) (x : Ga) (q : Int) : getG q (putG x gs) = if q = x.g then x else getG q gs := by
  split
  · rename_i h
    exact getG_mem (putG_srt hs) (putG_self x gs) h.symm
  · rename_i h
    rcases getG_cases q gs with ⟨_, hm, e⟩ | ⟨hk, e⟩
    · exact getG_mem (putG_srt hs) (putG_old hm (fun h2 => h (by rw [← e, h2]))) e
    · rw [e]
      exact getG_non fun y hy e2 => by
        rcases putG_mem hy with rfl | hy
        · exact h e2.symm
        · exact knG_non hs hk y hy e2
theorem getG_del {gs : List Ga} (hs : SrtG gs) {p : Int} (hk : knG p gs = true) (q : Int) : getG q (delG p gs) = if q = p then ⟨q, 0, []⟩ else getG q gs := by
  rcases getG_cases p gs with ⟨_, hm, hg⟩ | ⟨hk2, _⟩
  · have hd : ∀ y, y ∈ delG p gs ↔ y ∈ gs ∧ y.g ≠ p := fun y => by
      have h := del_mem hs hm (y := y)
      rw [hg] at h
      exact h
    split
    · rename_i h
      subst h
      exact getG_non fun y hy => ((hd y).1 hy).2
    · rename_i h
      rcases getG_cases q gs with ⟨_, hm2, e⟩ | ⟨hk2, e⟩
      · exact getG_mem (delG_srt hs) ((hd _).2 ⟨hm2, by rw [e]; exact h⟩) e
      · rw [e]
        exact getG_non fun y hy => knG_non hs hk2 y ((hd y).1 hy).1
  · rw [hk] at hk2
    cases hk2
/-- A node without a condition and a time, with room for all keys. -/
def cnP (k : Nat) : Pr := ⟨(k : Int), 0, 10, 999999999999999, 0⟩
theorem cnP_ok (k : Nat) : (cnP k).ok := ⟨by show 0 < 4; omega, ⟨Int.le_refl 0, (by show (0 : Int) ≤ 100; decide)⟩⟩
def keyI (x : Iv) : Option Int := match x.v with
  | .c => none
  | .m o _ => o
/-- How many messages have come with a key. -/
def seenL (q : Int) : List Iv → Nat
  | [] => 0
  | x :: r => seenL q r + if keyI x = some q then 1 else 0
theorem seenL_snoc (q : Int) (x : Iv) : ∀ l : List Iv, seenL q (l ++ [x]) = seenL q l + if keyI x = some q then 1 else 0
  | [] => rfl
  | y :: r => by
    show seenL q (r ++ [x]) + _ = seenL q r + _ + _
    rw [seenL_snoc q x r]
    omega
theorem seenL_le (q : Int) : ∀ l : List Iv, seenL q l ≤ l.length
  | [] => Nat.le_refl 0
  | x :: r => by
    have := seenL_le q r
    show seenL q r + _ ≤ r.length + 1
    split <;> omega
structure CnI (k : Nat) (f : Int → Nat) (gs : List Ga) : Prop where
  tz : ∀ x, x ∈ gs → x.t = 0
  ln : ∀ q, (getG q gs).M.length = f q % k
theorem cn_clk {k i : Nat} {f : Int → Nat} {gs : List Ga} {now : Int} (h : CnI k f gs) : stpI (cnP k) gs ⟨i, now, .c⟩ = ⟨gs, [], [], []⟩ := by
  have he : exG now gs = [] := List.eq_nil_iff_forall_not_mem.2 fun x hx => by
    have h1 := exG_mem x hx
    have h2 := h.tz x h1.1
    omega
  show clkR _ i now gs = _
  unfold clkR
  rw [he]
  rfl
def upd (f : Int → Nat) (q : Int) : Int → Nat := fun p => f p + if some q = some p then 1 else 0
theorem cn_key {k i n : Nat} (hk : 0 < k) {f : Int → Nat} {gs : List Ga} {now q : Int} (hI : GsI gs i) (hi : i < 40) (hq : 0 ≤ q ∧ q ≤ 3) (hn : n < 4) (h : CnI k f gs) :
    CnI k (upd f q) (stpI (cnP k) gs ⟨i, now, .m (some q) n⟩).gs ∧
    (((f q + 1) % k ≠ 0 ∧ (stpI (cnP k) gs ⟨i, now, .m (some q) n⟩).O = []) ∨
     ((f q + 1) % k = 0 ∧ ∃ s, (stpI (cnP k) gs ⟨i, now, .m (some q) n⟩).O = [⟨0, mrgM q (addM gs q (i, n)) s⟩] ∧ (addM gs q (i, n)).length = k)) := by
  have hgo := hI.grp hi q hq n hn
  have h4 := hI.few4
  have hal : (addM gs q (i, n)).length = f q % k + 1 := by
    have := h.ln q
    simp [addM, this]
  have hlt := Nat.mod_lt (f q) hk
  have hgl := hgo.len
  have hsum : ((sumM (addM gs q (i, n)) : Nat) : Int) ≤ 999999999999999 := by
    have h1 := sumN_le hgo.tiny
    have h2 : sumM (addM gs q (i, n)) = sumN (nsOf (gB q (addM gs q (i, n)))) := by rw [nsOf_gB]; rfl
    have h3 : (nsOf (gB q (addM gs q (i, n)))).length = (addM gs q (i, n)).length := by rw [nsOf_gB, List.length_map]
    omega
  have hmod : (f q + 1) % k = if f q % k + 1 = k then 0 else f q % k + 1 := by
    have e : (f q + 1) % k = (f q % k + 1) % k := by rw [Nat.add_mod, Nat.add_mod (f q % k) 1 k, Nat.mod_mod]
    rw [e]
    split
    · rename_i h1
      rw [h1, Nat.mod_self]
    · exact Nat.mod_eq_of_lt (by omega)
  have hother : ∀ p, p ≠ q → upd f q p = f p := fun p hp => by
    unfold upd
    rw [if_neg (fun e => hp (Option.some.inj e).symm)]
    rfl
  have hown : upd f q q = f q + 1 := by
    unfold upd
    rw [if_pos rfl]
  show CnI k (upd f q) (stpM (k : Int) 0 10 999999999999999 0 gs q now (i, n)).gs ∧ (((f q + 1) % k ≠ 0 ∧ (stpM (k : Int) 0 10 999999999999999 0 gs q now (i, n)).O = []) ∨ ((f q + 1) % k = 0 ∧ ∃ s, (stpM (k : Int) 0 10 999999999999999 0 gs q now (i, n)).O = [⟨0, mrgM q (addM gs q (i, n)) s⟩] ∧ (addM gs q (i, n)).length = k))
  unfold stpM
  rw [if_neg (by omega)]
  by_cases hd : f q % k + 1 = k
  · have hc : cmpM (k : Int) 0 q (addM gs q (i, n)) (i, n) = (true, 0) := by
      unfold cmpM compR
      rw [if_pos (by rw [gB_len, hal]; omega)]
    rw [hc, if_neg (by simp), if_pos rfl]
    unfold finR
    rw [if_pos hsum]
    rw [if_pos hd] at hmod
    refine ⟨?_, .inr ⟨hmod, (undS (msV q (i, n)).st 0), rfl, by omega⟩⟩
    dsimp only
    cases hkn : knG q gs with
    | true =>
      rw [if_pos rfl]
      refine ⟨fun x hx => h.tz x (delG_mem hx), fun p => ?_⟩
      rw [getG_del hI.srt hkn]
      split
      · rename_i e
        subst e
        rw [hown, hmod]
        rfl
      · rename_i e
        rw [hother p e]
        exact h.ln p
    | false =>
      rw [if_neg (by simp)]
      refine ⟨h.tz, fun p => ?_⟩
      by_cases e : p = q
      · subst e
        rw [hown, hmod, getG_new hkn]
        rfl
      · rw [hother p e]
        exact h.ln p
  · have hc : cmpM (k : Int) 0 q (addM gs q (i, n)) (i, n) = (false, 0) := by
      unfold cmpM compR
      rw [if_neg (by rw [gB_len, hal]; omega)]
      rfl
    rw [hc, if_neg (by simp), if_neg (by simp)]
    rw [if_neg hd] at hmod
    refine ⟨⟨fun x hx => ?_, fun p => ?_⟩, .inl ⟨by omega, rfl⟩⟩
    · rcases putG_mem hx with rfl | hx
      · show (if knG q gs = true then (getG q gs).t else tNew 0 now) = 0
        split
        · rcases getG_cases q gs with ⟨_, hm, _⟩ | ⟨_, e⟩
          · exact h.tz _ hm
          · rw [e]
        · rfl
      · exact h.tz x hx
    · dsimp only
      rw [getG_put hI.srt]
      dsimp only
      split
      · rename_i e
        subst e
        rw [hown, hmod]
        exact hal
      · rename_i e
        rw [hother p e]
        exact h.ln p
end Go.Proofs.YthphniobeigklaaGreatDoor.Ag

/- AggregatorCounts. -/
namespace Go.Proofs.YthphniobeigklaaGreatDoor.Ag
open Go Go.Em Go.Proofs.YthphniobeigklaaGreatDoor
set_option maxRecDepth 100000

section
variable (es ins rs : List (List X)) (k0 i a b c d : Nat) (N : Nat)
def cnH : St := ⟨[(1, .sl false 4 es), (5, nat (k0 + 1)), (7, .sl false 23 ins), (8, .sl false 7 rs), (9, .ptr 0 0 0), (10, nat i)], [.var [nat a, nat b, nat c, nat d]]⟩
def cnE : St := ⟨[(1, .sl false 4 es), (5, nat (k0 + 1)), (7, .sl false 23 ins), (8, .sl false 7 rs), (9, .ptr 0 0 0), (10, nat i), (31, boolX false)], [.var [nat a, nat b, nat c, nat d]]⟩
theorem cn_canon : canon 0 (cnH es ins rs k0 i a b c d) = some (cnH es ins rs k0 i a b c d) := by kernel_rfl
theorem cn_end (h : ¬ i < ins.length) : run (callF tab ext N) 0 N (loopAt 3 0) (cnH es ins rs k0 i a b c d) = some (.exit 0, cnE es ins rs k0 i a b c d) :=
  run_of [(31, .b false)] [] (pf1 (nlt_nat h)) (lo' := []) (by kernel_rfl)
variable (hi : i < ins.length) (hi2 : i < 1000)
include hi hi2
section
variable (ss F L : List (List X)) (hr : rs[i]? = some [num 0, num 0, .sl false 10 ss, .sl false 11 [], .sl false 11 [], .sl false 6 F, .sl false 10 L])
include hr
theorem cn_c (xi : Nat) (now : Int) (he : ins[i]? = some (clR true xi now)) :
    ∃ υ, run (callF tab ext N) 0 N (loopAt 3 0) (cnH es ins rs k0 i a b c d) = some (.norm, υ) ∧ canon 0 υ = some (cnH es ins rs k0 (i + 1) a b c d) :=
  rd_of [(31, .b true), (36, .e (clR true xi now)), (51, .e [num 0, num 0, .sl false 10 ss, .sl false 11 [], .sl false 11 [], .sl false 6 F, .sl false 10 L]), (33, .i (Int.ofNat (i + 1)))] (pf4 (lt_nat hi) he hr (next_nat (j := i) (by omega))) (by kernel_rfl)
theorem cn_n (xi q e1 e2 e3 e4 : Nat) (now : Int) (he : ins[i]? = some (inR true xi now none q)) (hv : es[i]? = some [u8X e1, u8X e2, u8X e3, u8X e4]) (h4 : e2 % 5 = 4) :
    ∃ υ, run (callF tab ext N) 0 N (loopAt 3 0) (cnH es ins rs k0 i a b c d) = some (.norm, υ) ∧ canon 0 υ = some (cnH es ins rs k0 (i + 1) a b c d) := by
  have h2 : (Int.ofNat (e2 % 5) == 4) = true := beq_iff_eq.2 (by rw [h4]; rfl)
  exact rd_of [(31, .b true), (36, .e (inR true xi now none q)), (43, .e [u8X e1, u8X e2, u8X e3, u8X e4]), (47, .b true), (51, .e [num 0, num 0, .sl false 10 ss, .sl false 11 [], .sl false 11 [], .sl false 6 F, .sl false 10 L]), (33, .i (Int.ofNat (i + 1)))] (pf6 (lt_nat hi) he hv h2 hr (next_nat (j := i) (by omega))) (by kernel_rfl)
theorem cn_w0 (xi n e1 e2 e3 e4 : Nat) (now w : Int) (he : ins[i]? = some (inR true xi now (some w) n)) (hv : es[i]? = some [u8X e1, u8X e2, u8X e3, u8X e4]) (hq : e2 % 5 = 0) (hs : a < 1000) (hm : (a + 1) % (k0 + 1) ≠ 0) :
    ∃ υ, run (callF tab ext N) 0 N (loopAt 3 0) (cnH es ins rs k0 i a b c d) = some (.norm, υ) ∧ canon 0 υ = some (cnH es ins rs k0 (i + 1) (a + 1) b c d) := by
  have hk : (Int.ofNat e2).tmod 5 = Int.ofNat 0 := by rw [← hq]; rfl
  have h2 : (Int.ofNat ((a + 1) % (k0 + 1)) == 0) = false := beq_eq_false_iff_ne.2 (by simp only [Int.ofNat_eq_natCast]; omega)
  exact rd_of [(31, .b true), (36, .e (inR true xi now (some w) n)), (43, .e [u8X e1, u8X e2, u8X e3, u8X e4]), (46, .i 0), (58, .e [u8X e1, u8X e2, u8X e3, u8X e4]), (61, .i 0), (66, .i (Int.ofNat (a + 1))), (70, .e [num 0, num 0, .sl false 10 ss, .sl false 11 [], .sl false 11 [], .sl false 6 F, .sl false 10 L]), (80, .b false), (84, .e [num 0, num 0, .sl false 10 ss, .sl false 11 [], .sl false 11 [], .sl false 6 F, .sl false 10 L]), (33, .i (Int.ofNat (i + 1)))] (pf11 (lt_nat hi) he hv hk hv hk (next_nat (j := a) (by omega)) hr h2 hr (next_nat (j := i) (by omega))) (by kernel_rfl)
theorem cn_w1 (xi n e1 e2 e3 e4 : Nat) (now w : Int) (he : ins[i]? = some (inR true xi now (some w) n)) (hv : es[i]? = some [u8X e1, u8X e2, u8X e3, u8X e4]) (hq : e2 % 5 = 1) (hs : b < 1000) (hm : (b + 1) % (k0 + 1) ≠ 0) :
    ∃ υ, run (callF tab ext N) 0 N (loopAt 3 0) (cnH es ins rs k0 i a b c d) = some (.norm, υ) ∧ canon 0 υ = some (cnH es ins rs k0 (i + 1) a (b + 1) c d) := by
  have hk : (Int.ofNat e2).tmod 5 = Int.ofNat 1 := by rw [← hq]; rfl
  have h2 : (Int.ofNat ((b + 1) % (k0 + 1)) == 0) = false := beq_eq_false_iff_ne.2 (by simp only [Int.ofNat_eq_natCast]; omega)
  exact rd_of [(31, .b true), (36, .e (inR true xi now (some w) n)), (43, .e [u8X e1, u8X e2, u8X e3, u8X e4]), (46, .i 1), (58, .e [u8X e1, u8X e2, u8X e3, u8X e4]), (61, .i 1), (66, .i (Int.ofNat (b + 1))), (70, .e [num 0, num 0, .sl false 10 ss, .sl false 11 [], .sl false 11 [], .sl false 6 F, .sl false 10 L]), (80, .b false), (84, .e [num 0, num 0, .sl false 10 ss, .sl false 11 [], .sl false 11 [], .sl false 6 F, .sl false 10 L]), (33, .i (Int.ofNat (i + 1)))] (pf11 (lt_nat hi) he hv hk hv hk (next_nat (j := b) (by omega)) hr h2 hr (next_nat (j := i) (by omega))) (by kernel_rfl)
theorem cn_w2 (xi n e1 e2 e3 e4 : Nat) (now w : Int) (he : ins[i]? = some (inR true xi now (some w) n)) (hv : es[i]? = some [u8X e1, u8X e2, u8X e3, u8X e4]) (hq : e2 % 5 = 2) (hs : c < 1000) (hm : (c + 1) % (k0 + 1) ≠ 0) :
    ∃ υ, run (callF tab ext N) 0 N (loopAt 3 0) (cnH es ins rs k0 i a b c d) = some (.norm, υ) ∧ canon 0 υ = some (cnH es ins rs k0 (i + 1) a b (c + 1) d) := by
  have hk : (Int.ofNat e2).tmod 5 = Int.ofNat 2 := by rw [← hq]; rfl
  have h2 : (Int.ofNat ((c + 1) % (k0 + 1)) == 0) = false := beq_eq_false_iff_ne.2 (by simp only [Int.ofNat_eq_natCast]; omega)
  exact rd_of [(31, .b true), (36, .e (inR true xi now (some w) n)), (43, .e [u8X e1, u8X e2, u8X e3, u8X e4]), (46, .i 2), (58, .e [u8X e1, u8X e2, u8X e3, u8X e4]), (61, .i 2), (66, .i (Int.ofNat (c + 1))), (70, .e [num 0, num 0, .sl false 10 ss, .sl false 11 [], .sl false 11 [], .sl false 6 F, .sl false 10 L]), (80, .b false), (84, .e [num 0, num 0, .sl false 10 ss, .sl false 11 [], .sl false 11 [], .sl false 6 F, .sl false 10 L]), (33, .i (Int.ofNat (i + 1)))] (pf11 (lt_nat hi) he hv hk hv hk (next_nat (j := c) (by omega)) hr h2 hr (next_nat (j := i) (by omega))) (by kernel_rfl)
theorem cn_w3 (xi n e1 e2 e3 e4 : Nat) (now w : Int) (he : ins[i]? = some (inR true xi now (some w) n)) (hv : es[i]? = some [u8X e1, u8X e2, u8X e3, u8X e4]) (hq : e2 % 5 = 3) (hs : d < 1000) (hm : (d + 1) % (k0 + 1) ≠ 0) :
    ∃ υ, run (callF tab ext N) 0 N (loopAt 3 0) (cnH es ins rs k0 i a b c d) = some (.norm, υ) ∧ canon 0 υ = some (cnH es ins rs k0 (i + 1) a b c (d + 1)) := by
  have hk : (Int.ofNat e2).tmod 5 = Int.ofNat 3 := by rw [← hq]; rfl
  have h2 : (Int.ofNat ((d + 1) % (k0 + 1)) == 0) = false := beq_eq_false_iff_ne.2 (by simp only [Int.ofNat_eq_natCast]; omega)
  exact rd_of [(31, .b true), (36, .e (inR true xi now (some w) n)), (43, .e [u8X e1, u8X e2, u8X e3, u8X e4]), (46, .i 3), (58, .e [u8X e1, u8X e2, u8X e3, u8X e4]), (61, .i 3), (66, .i (Int.ofNat (d + 1))), (70, .e [num 0, num 0, .sl false 10 ss, .sl false 11 [], .sl false 11 [], .sl false 6 F, .sl false 10 L]), (80, .b false), (84, .e [num 0, num 0, .sl false 10 ss, .sl false 11 [], .sl false 11 [], .sl false 6 F, .sl false 10 L]), (33, .i (Int.ofNat (i + 1)))] (pf11 (lt_nat hi) he hv hk hv hk (next_nat (j := d) (by omega)) hr h2 hr (next_nat (j := i) (by omega))) (by kernel_rfl)
end
theorem cn_d0 (ss F L pa og : List (List X)) (me mm mx my : Int) (hr : rs[i]? = some [num 0, num 0, .sl false 10 ss, .sl false 11 [[num 0, num me, .sl false 1 pa, num mm, .sl false 1 og] ++ (resV mx 0 my).cells], .sl false 11 [], .sl false 6 F, .sl false 10 L]) (ho : og.length = k0 + 1)
    (xi n e1 e2 e3 e4 : Nat) (now w : Int) (he : ins[i]? = some (inR true xi now (some w) n)) (hv : es[i]? = some [u8X e1, u8X e2, u8X e3, u8X e4]) (hq : e2 % 5 = 0) (hs : a < 1000) (hm : (a + 1) % (k0 + 1) = 0) :
    ∃ υ, run (callF tab ext N) 0 N (loopAt 3 0) (cnH es ins rs k0 i a b c d) = some (.norm, υ) ∧ canon 0 υ = some (cnH es ins rs k0 (i + 1) (a + 1) b c d) := by
  have hk : (Int.ofNat e2).tmod 5 = Int.ofNat 0 := by rw [← hq]; rfl
  have h2 : (Int.ofNat ((a + 1) % (k0 + 1)) == 0) = true := beq_iff_eq.2 (by rw [hm]; rfl)
  have h3 : (Int.ofNat og.length != Int.ofNat (k0 + 1)) = false := by rw [ho]; simp
  exact rd_of [(31, .b true), (36, .e (inR true xi now (some w) n)), (43, .e [u8X e1, u8X e2, u8X e3, u8X e4]), (46, .i 0), (58, .e [u8X e1, u8X e2, u8X e3, u8X e4]), (61, .i 0), (66, .i (Int.ofNat (a + 1))), (70, .e [num 0, num 0, .sl false 10 ss, .sl false 11 [[num 0, num me, .sl false 1 pa, num mm, .sl false 1 og] ++ (resV mx 0 my).cells], .sl false 11 [], .sl false 6 F, .sl false 10 L]), (80, .b true), (84, .e [num 0, num 0, .sl false 10 ss, .sl false 11 [[num 0, num me, .sl false 1 pa, num mm, .sl false 1 og] ++ (resV mx 0 my).cells], .sl false 11 [], .sl false 6 F, .sl false 10 L]), (92, .e [num 0, num 0, .sl false 10 ss, .sl false 11 [[num 0, num me, .sl false 1 pa, num mm, .sl false 1 og] ++ (resV mx 0 my).cells], .sl false 11 [], .sl false 6 F, .sl false 10 L]), (101, .b false), (105, .e [num 0, num 0, .sl false 10 ss, .sl false 11 [[num 0, num me, .sl false 1 pa, num mm, .sl false 1 og] ++ (resV mx 0 my).cells], .sl false 11 [], .sl false 6 F, .sl false 10 L]), (33, .i (Int.ofNat (i + 1)))] (pf14 (lt_nat hi) he hv hk hv hk (next_nat (j := a) (by omega)) hr h2 hr hr h3 hr (next_nat (j := i) (by omega))) (by kernel_rfl)
theorem cn_d1 (ss F L pa og : List (List X)) (me mm mx my : Int) (hr : rs[i]? = some [num 0, num 0, .sl false 10 ss, .sl false 11 [[num 0, num me, .sl false 1 pa, num mm, .sl false 1 og] ++ (resV mx 1 my).cells], .sl false 11 [], .sl false 6 F, .sl false 10 L]) (ho : og.length = k0 + 1)
    (xi n e1 e2 e3 e4 : Nat) (now w : Int) (he : ins[i]? = some (inR true xi now (some w) n)) (hv : es[i]? = some [u8X e1, u8X e2, u8X e3, u8X e4]) (hq : e2 % 5 = 1) (hs : b < 1000) (hm : (b + 1) % (k0 + 1) = 0) :
    ∃ υ, run (callF tab ext N) 0 N (loopAt 3 0) (cnH es ins rs k0 i a b c d) = some (.norm, υ) ∧ canon 0 υ = some (cnH es ins rs k0 (i + 1) a (b + 1) c d) := by
  have hk : (Int.ofNat e2).tmod 5 = Int.ofNat 1 := by rw [← hq]; rfl
  have h2 : (Int.ofNat ((b + 1) % (k0 + 1)) == 0) = true := beq_iff_eq.2 (by rw [hm]; rfl)
  have h3 : (Int.ofNat og.length != Int.ofNat (k0 + 1)) = false := by rw [ho]; simp
  exact rd_of [(31, .b true), (36, .e (inR true xi now (some w) n)), (43, .e [u8X e1, u8X e2, u8X e3, u8X e4]), (46, .i 1), (58, .e [u8X e1, u8X e2, u8X e3, u8X e4]), (61, .i 1), (66, .i (Int.ofNat (b + 1))), (70, .e [num 0, num 0, .sl false 10 ss, .sl false 11 [[num 0, num me, .sl false 1 pa, num mm, .sl false 1 og] ++ (resV mx 1 my).cells], .sl false 11 [], .sl false 6 F, .sl false 10 L]), (80, .b true), (84, .e [num 0, num 0, .sl false 10 ss, .sl false 11 [[num 0, num me, .sl false 1 pa, num mm, .sl false 1 og] ++ (resV mx 1 my).cells], .sl false 11 [], .sl false 6 F, .sl false 10 L]), (92, .e [num 0, num 0, .sl false 10 ss, .sl false 11 [[num 0, num me, .sl false 1 pa, num mm, .sl false 1 og] ++ (resV mx 1 my).cells], .sl false 11 [], .sl false 6 F, .sl false 10 L]), (101, .b false), (105, .e [num 0, num 0, .sl false 10 ss, .sl false 11 [[num 0, num me, .sl false 1 pa, num mm, .sl false 1 og] ++ (resV mx 1 my).cells], .sl false 11 [], .sl false 6 F, .sl false 10 L]), (33, .i (Int.ofNat (i + 1)))] (pf14 (lt_nat hi) he hv hk hv hk (next_nat (j := b) (by omega)) hr h2 hr hr h3 hr (next_nat (j := i) (by omega))) (by kernel_rfl)
theorem cn_d2 (ss F L pa og : List (List X)) (me mm mx my : Int) (hr : rs[i]? = some [num 0, num 0, .sl false 10 ss, .sl false 11 [[num 0, num me, .sl false 1 pa, num mm, .sl false 1 og] ++ (resV mx 2 my).cells], .sl false 11 [], .sl false 6 F, .sl false 10 L]) (ho : og.length = k0 + 1)
    (xi n e1 e2 e3 e4 : Nat) (now w : Int) (he : ins[i]? = some (inR true xi now (some w) n)) (hv : es[i]? = some [u8X e1, u8X e2, u8X e3, u8X e4]) (hq : e2 % 5 = 2) (hs : c < 1000) (hm : (c + 1) % (k0 + 1) = 0) :
    ∃ υ, run (callF tab ext N) 0 N (loopAt 3 0) (cnH es ins rs k0 i a b c d) = some (.norm, υ) ∧ canon 0 υ = some (cnH es ins rs k0 (i + 1) a b (c + 1) d) := by
  have hk : (Int.ofNat e2).tmod 5 = Int.ofNat 2 := by rw [← hq]; rfl
  have h2 : (Int.ofNat ((c + 1) % (k0 + 1)) == 0) = true := beq_iff_eq.2 (by rw [hm]; rfl)
  have h3 : (Int.ofNat og.length != Int.ofNat (k0 + 1)) = false := by rw [ho]; simp
  exact rd_of [(31, .b true), (36, .e (inR true xi now (some w) n)), (43, .e [u8X e1, u8X e2, u8X e3, u8X e4]), (46, .i 2), (58, .e [u8X e1, u8X e2, u8X e3, u8X e4]), (61, .i 2), (66, .i (Int.ofNat (c + 1))), (70, .e [num 0, num 0, .sl false 10 ss, .sl false 11 [[num 0, num me, .sl false 1 pa, num mm, .sl false 1 og] ++ (resV mx 2 my).cells], .sl false 11 [], .sl false 6 F, .sl false 10 L]), (80, .b true), (84, .e [num 0, num 0, .sl false 10 ss, .sl false 11 [[num 0, num me, .sl false 1 pa, num mm, .sl false 1 og] ++ (resV mx 2 my).cells], .sl false 11 [], .sl false 6 F, .sl false 10 L]), (92, .e [num 0, num 0, .sl false 10 ss, .sl false 11 [[num 0, num me, .sl false 1 pa, num mm, .sl false 1 og] ++ (resV mx 2 my).cells], .sl false 11 [], .sl false 6 F, .sl false 10 L]), (101, .b false), (105, .e [num 0, num 0, .sl false 10 ss, .sl false 11 [[num 0, num me, .sl false 1 pa, num mm, .sl false 1 og] ++ (resV mx 2 my).cells], .sl false 11 [], .sl false 6 F, .sl false 10 L]), (33, .i (Int.ofNat (i + 1)))] (pf14 (lt_nat hi) he hv hk hv hk (next_nat (j := c) (by omega)) hr h2 hr hr h3 hr (next_nat (j := i) (by omega))) (by kernel_rfl)
theorem cn_d3 (ss F L pa og : List (List X)) (me mm mx my : Int) (hr : rs[i]? = some [num 0, num 0, .sl false 10 ss, .sl false 11 [[num 0, num me, .sl false 1 pa, num mm, .sl false 1 og] ++ (resV mx 3 my).cells], .sl false 11 [], .sl false 6 F, .sl false 10 L]) (ho : og.length = k0 + 1)
    (xi n e1 e2 e3 e4 : Nat) (now w : Int) (he : ins[i]? = some (inR true xi now (some w) n)) (hv : es[i]? = some [u8X e1, u8X e2, u8X e3, u8X e4]) (hq : e2 % 5 = 3) (hs : d < 1000) (hm : (d + 1) % (k0 + 1) = 0) :
    ∃ υ, run (callF tab ext N) 0 N (loopAt 3 0) (cnH es ins rs k0 i a b c d) = some (.norm, υ) ∧ canon 0 υ = some (cnH es ins rs k0 (i + 1) a b c (d + 1)) := by
  have hk : (Int.ofNat e2).tmod 5 = Int.ofNat 3 := by rw [← hq]; rfl
  have h2 : (Int.ofNat ((d + 1) % (k0 + 1)) == 0) = true := beq_iff_eq.2 (by rw [hm]; rfl)
  have h3 : (Int.ofNat og.length != Int.ofNat (k0 + 1)) = false := by rw [ho]; simp
  exact rd_of [(31, .b true), (36, .e (inR true xi now (some w) n)), (43, .e [u8X e1, u8X e2, u8X e3, u8X e4]), (46, .i 3), (58, .e [u8X e1, u8X e2, u8X e3, u8X e4]), (61, .i 3), (66, .i (Int.ofNat (d + 1))), (70, .e [num 0, num 0, .sl false 10 ss, .sl false 11 [[num 0, num me, .sl false 1 pa, num mm, .sl false 1 og] ++ (resV mx 3 my).cells], .sl false 11 [], .sl false 6 F, .sl false 10 L]), (80, .b true), (84, .e [num 0, num 0, .sl false 10 ss, .sl false 11 [[num 0, num me, .sl false 1 pa, num mm, .sl false 1 og] ++ (resV mx 3 my).cells], .sl false 11 [], .sl false 6 F, .sl false 10 L]), (92, .e [num 0, num 0, .sl false 10 ss, .sl false 11 [[num 0, num me, .sl false 1 pa, num mm, .sl false 1 og] ++ (resV mx 3 my).cells], .sl false 11 [], .sl false 6 F, .sl false 10 L]), (101, .b false), (105, .e [num 0, num 0, .sl false 10 ss, .sl false 11 [[num 0, num me, .sl false 1 pa, num mm, .sl false 1 og] ++ (resV mx 3 my).cells], .sl false 11 [], .sl false 6 F, .sl false 10 L]), (33, .i (Int.ofNat (i + 1)))] (pf14 (lt_nat hi) he hv hk hv hk (next_nat (j := d) (by omega)) hr h2 hr hr h3 hr (next_nat (j := i) (by omega))) (by kernel_rfl)
end
/-- The loop's round, any event. -/
theorem cn_round (es ins rs : List (List X)) (k0 i : Nat) (f : Int → Nat) (x : Iv) (r : Rs) (e : Ev) (N : Nat) (hi : i < ins.length) (hi2 : i < 1000) (he : ins[i]? = some (x.row true)) (hv : es[i]? = some [u8X e.a, u8X e.k, u8X e.n, u8X e.d]) (hx : x.v = evV e)
    (hr : rs[i]? = some r.cells) (hf : ∀ q, f q < 1000) (h0 : keyI x = none → r.O = [])
    (h1 : ∀ q n, x.v = .m (some q) n → ((f q + 1) % (k0 + 1) ≠ 0 ∧ r.O = []) ∨ ((f q + 1) % (k0 + 1) = 0 ∧ ∃ s M, r.O = [⟨0, mrgM q M s⟩] ∧ M.length = k0 + 1)) :
    ∃ υ, run (callF tab ext N) 0 N (loopAt 3 0) (cnH es ins rs k0 i (f 0) (f 1) (f 2) (f 3)) = some (.norm, υ) ∧ canon 0 υ = some (cnH es ins rs k0 (i + 1) (f 0 + if keyI x = some 0 then 1 else 0) (f 1 + if keyI x = some 1 then 1 else 0) (f 2 + if keyI x = some 2 then 1 else 0) (f 3 + if keyI x = some 3 then 1 else 0)) := by
  obtain ⟨xi, now, v⟩ := x
  dsimp only at hx
  obtain ⟨gs, O, F, L⟩ := r
  dsimp only at h0 h1
  unfold evV at hx
  split at hx
  · subst hx
    have hO := h0 rfl
    subst hO
    exact cn_c es ins rs k0 i _ _ _ _ N hi hi2 _ _ _ hr xi now he
  · by_cases h4 : e.k % 5 = 4
    · rw [if_pos h4] at hx
      subst hx
      have hO := h0 rfl
      subst hO
      exact cn_n es ins rs k0 i _ _ _ _ N hi hi2 _ _ _ hr xi _ _ _ _ _ now he hv h4
    · rw [if_neg h4] at hx
      have h5 := Nat.mod_lt e.k (show 0 < 5 by omega)
      have hc : e.k % 5 = 0 ∨ e.k % 5 = 1 ∨ e.k % 5 = 2 ∨ e.k % 5 = 3 := by omega
      rcases hc with hq | hq | hq | hq
      · rw [hq] at hx
        subst hx
        rcases h1 0 _ rfl with ⟨hm, hO⟩ | ⟨hm, s, M, hO, hM⟩
        · subst hO
          exact cn_w0 es ins rs k0 i _ _ _ _ N hi hi2 _ _ _ hr xi _ _ _ _ _ now _ he hv hq (hf _) hm
        · subst hO
          exact cn_d0 es ins rs k0 i _ _ _ _ N hi hi2 _ _ _ (intsC s.p) (intsC (zsM M)) s.e (massL (M.map (msV 0))) (M.length : Nat) (sumM M : Nat) hr (by simp only [intsC, zsM, List.length_map]; exact hM) xi _ _ _ _ _ now _ he hv hq (hf _) hm
      · rw [hq] at hx
        subst hx
        rcases h1 1 _ rfl with ⟨hm, hO⟩ | ⟨hm, s, M, hO, hM⟩
        · subst hO
          exact cn_w1 es ins rs k0 i _ _ _ _ N hi hi2 _ _ _ hr xi _ _ _ _ _ now _ he hv hq (hf _) hm
        · subst hO
          exact cn_d1 es ins rs k0 i _ _ _ _ N hi hi2 _ _ _ (intsC s.p) (intsC (zsM M)) s.e (massL (M.map (msV 1))) (M.length : Nat) (sumM M : Nat) hr (by simp only [intsC, zsM, List.length_map]; exact hM) xi _ _ _ _ _ now _ he hv hq (hf _) hm
      · rw [hq] at hx
        subst hx
        rcases h1 2 _ rfl with ⟨hm, hO⟩ | ⟨hm, s, M, hO, hM⟩
        · subst hO
          exact cn_w2 es ins rs k0 i _ _ _ _ N hi hi2 _ _ _ hr xi _ _ _ _ _ now _ he hv hq (hf _) hm
        · subst hO
          exact cn_d2 es ins rs k0 i _ _ _ _ N hi hi2 _ _ _ (intsC s.p) (intsC (zsM M)) s.e (massL (M.map (msV 2))) (M.length : Nat) (sumM M : Nat) hr (by simp only [intsC, zsM, List.length_map]; exact hM) xi _ _ _ _ _ now _ he hv hq (hf _) hm
      · rw [hq] at hx
        subst hx
        rcases h1 3 _ rfl with ⟨hm, hO⟩ | ⟨hm, s, M, hO, hM⟩
        · subst hO
          exact cn_w3 es ins rs k0 i _ _ _ _ N hi hi2 _ _ _ hr xi _ _ _ _ _ now _ he hv hq (hf _) hm
        · subst hO
          exact cn_d3 es ins rs k0 i _ _ _ _ N hi hi2 _ _ _ (intsC s.p) (intsC (zsM M)) s.e (massL (M.map (msV 3))) (M.length : Nat) (sumM M : Nat) hr (by simp only [intsC, zsM, List.length_map]; exact hM) xi _ _ _ _ _ now _ he hv hq (hf _) hm
def updK (f : Int → Nat) (o : Option Int) : Int → Nat := fun p => f p + if o = some p then 1 else 0
theorem updK_none (f : Int → Nat) : updK f none = f := funext fun p => by simp [updK]
theorem cn_loop (l : List Ev) (k0 : Nat) (xs : List Iv) (hxs : IvsOk xs) (hl : xs.length ≤ l.length) (hl4 : xs.length ≤ 40) (hv : ∀ j (h : j < xs.length), xs[j].v = evV (l[j]'(by omega))) (N : Nat) (hN : 1000 ≤ N) :
    ∃ a b c d, run (callF tab ext N) 0 N (.loop (loopAt 3 0)) (cnH (evC l) (insC xs) (rssC (rnL (stpI (cnP (k0 + 1))) [] xs)) k0 0 0 0 0 0) = some (.exit 0, cnE (evC l) (insC xs) (rssC (rnL (stpI (cnP (k0 + 1))) [] xs)) k0 xs.length a b c d) := by
  have hP := cnP_ok (k0 + 1)
  have hil := insC_len xs
  have inv : ∀ j, j ≤ xs.length → CnI (k0 + 1) (fun q => seenL q (xs.take j)) (stL (stpI (cnP (k0 + 1))) [] (xs.take j)) := by
    intro j
    induction j with
    | zero => intro _; exact ⟨(fun x hx => nomatch hx), (fun q => (Nat.zero_mod _).symm)⟩
    | succ j ih =>
      intro hj
      have hj' : j < xs.length := by omega
      have h := ih (by omega)
      obtain ⟨hI, hh⟩ := st_at hP hxs j hj'
      have hxo := hxs.ok _ (List.getElem_mem hj')
      rw [List.take_succ_eq_append_getElem hj', stL_snoc]
      have e : (fun q => seenL q (xs.take j ++ [xs[j]])) = updK (fun q => seenL q (xs.take j)) (keyI xs[j]) := funext fun q => seenL_snoc q _ _
      rw [e]
      generalize stL (stpI (cnP (k0 + 1))) [] (xs.take j) = gs at *
      generalize (fun q => seenL q (xs.take j)) = f at *
      generalize xs[j] = x at *
      obtain ⟨i, now, v⟩ := x
      obtain ⟨hi, hnow, hvv⟩ := hxo
      dsimp only at hi hnow hvv hI
      cases v with
      | c =>
        rw [cn_clk h, show keyI ⟨i, now, .c⟩ = none from rfl, updK_none]
        exact h
      | m o n =>
        obtain ⟨hn, hq⟩ := hvv o n rfl
        cases o with
        | none =>
          rw [show keyI ⟨i, now, .m none n⟩ = none from rfl, updK_none]
          exact h
        | some q => exact (cn_key (now := now) (by omega) hI hi (hq q rfl) hn h).1
  refine ⟨_, _, _, _, loop_for (σ := fun j => cnH (evC l) (insC xs) (rssC (rnL (stpI (cnP (k0 + 1))) [] xs)) k0 j (seenL 0 (xs.take j)) (seenL 1 (xs.take j)) (seenL 2 (xs.take j)) (seenL 3 (xs.take j))) (k := xs.length) (cn_canon ..) (fun j hj => ?_) (cn_end _ _ _ _ _ _ _ _ _ N (by omega)) (by simp) (by omega)⟩
  obtain ⟨hI, hh⟩ := st_at hP hxs j hj
  have h := inv j (by omega)
  have hxo := hxs.ok _ (List.getElem_mem hj)
  have hr : (rssC (rnL (stpI (cnP (k0 + 1))) [] xs))[j]? = some (stpI (cnP (k0 + 1)) (stL (stpI (cnP (k0 + 1))) [] (xs.take j)) xs[j]).cells := by
    have hlen := rnL_len (stpI (cnP (k0 + 1))) xs []
    have := rnL_get (stpI (cnP (k0 + 1))) xs [] j hj
    unfold rssC
    rw [List.getElem?_map, List.getElem?_eq_getElem (by omega), Option.map_some, this]
  have hf : ∀ q, seenL q (xs.take j) < 1000 := fun q => by
    have := seenL_le q (xs.take j)
    rw [List.length_take] at this
    omega
  have hvj := hv j hj
  have hin := insC_get hj
  rw [List.take_succ_eq_append_getElem hj, seenL_snoc, seenL_snoc, seenL_snoc, seenL_snoc]
  refine cn_round (evC l) (insC xs) _ k0 j (fun q => seenL q (xs.take j)) xs[j] _ (l[j]'(by omega)) N (by omega) (by omega) hin (evC_get (by omega)) hvj hr hf (fun h0 => ?_) (fun q n hq => ?_)
  · revert hxo h0 hI
    generalize xs[j] = x
    intro hI hxo h0
    obtain ⟨i, now, v⟩ := x
    cases v with
    | c => rw [cn_clk h]
    | m o n =>
      cases o with
      | none => rfl
      | some q => cases h0
  · revert hxo hq hI
    generalize xs[j] = x
    intro hI hxo hq
    obtain ⟨i, now, v⟩ := x
    dsimp only at hq
    subst hq
    obtain ⟨hi, hnow, hvv⟩ := hxo
    dsimp only at hi hvv hI
    obtain ⟨hn, hq⟩ := hvv _ _ rfl
    rcases (cn_key (now := now) (by omega) hI hi (hq q rfl) hn h).2 with h1 | ⟨h1, s, h2, h3⟩
    · exact .inl h1
    · exact .inr ⟨h1, s, _, h2, h3⟩
theorem counts_all (w : Int) (hw : 0 ≤ w ∧ w < 256) (l : List Ev) (N : Nat) (hN : 194001 ≤ N) : Gam.pureD (callF tab ext N) 3 [u8X w, .sl false 4 (evC l)] = some (boolX true) := by
  obtain ⟨nu, rfl⟩ := Int.eq_ofNat_of_zero_le hw.1
  obtain ⟨M, rfl⟩ : ∃ M, N = M + 1 := ⟨N - 1, by omega⟩
  have hlt := Nat.mod_lt nu (show 0 < 4 by omega)
  have h11 := known11 M (by omega)
  have h13 := inputs13 l M (by omega)
  have h12 : Gam.pureD (callF tab ext M) 12 [skX 0 0 0 0 0] = some (.agg (nodX 0 0 1 (exN 0) (tyX 999999999999999) ruX)) := (sk12 0 0 0 0 0 M (by omega)).trans (by kernel_rfl)
  have hxs := inL_ok (l.take 40) (by rw [List.length_take]; omega)
  have hxl : (inL 0 0 (l.take 40)).length ≤ 40 := by rw [inL_len, List.length_take]; omega
  have hxl2 : (inL 0 0 (l.take 40)).length ≤ l.length := by rw [inL_len, List.length_take]; omega
  have hv : ∀ j (h : j < (inL 0 0 (l.take 40)).length), (inL 0 0 (l.take 40))[j].v = evV (l[j]'(by omega)) := fun j h => by
    rw [inL_get (l.take 40) 0 0 j (by rw [inL_len] at h; exact h)]
    exact congrArg evV List.getElem_take
  have h14 := runAll (cnP_ok (nu % 4 + 1)) hxs hxl M (by omega)
  obtain ⟨a, b, c, d, hloop⟩ := cn_loop l (nu % 4) _ hxs hxl2 hxl hv M (by omega)
  clear hv hxl2 hxl
  generalize inL 0 0 (l.take 40) = xs at *
  have hk0 : IntKind.i64.wrap ((Int.ofNat nu).tmod 4) = Int.ofNat (nu % 4) := by
    rw [show (Int.ofNat nu).tmod 4 = ((nu % 4 : Nat) : Int) from rfl, IntKind.wrap_i64]
    simp only [Int.ofNat_eq_natCast]
    omega
  have hk : IntKind.i64.wrap (1 + Int.ofNat (nu % 4)) = Int.ofNat (nu % 4 + 1) := by
    rw [IntKind.wrap_i64]
    simp only [Int.ofNat_eq_natCast]
    omega
  generalize rssC (rnL (stpI (cnP (nu % 4 + 1))) [] xs) = R at *
  change Gam.pureD (callF tab ext M) 14 [.agg (nodX (Int.ofNat (nu % 4 + 1)) 0 10 (exN 0) (tyX 999999999999999) ruX), .sl false 23 (insC xs)] = _ at h14
  generalize nu % 4 = k0 at *
  generalize xs.length = n at *
  generalize insC xs = I at *
  have hloop' : run (callF tab ext M) 0 M (.loop (loopAt 3 0)) ⟨[(1, .sl false 4 (evC l)), (5, nat (k0 + 1)), (7, .sl false 23 I), (8, .sl false 7 R), (9, .ptr 1 0 0), (10, num 0)], [.var (nodX (Int.ofNat (k0 + 1)) 0 10 (exN 0) (tyX 999999999999999) ruX), .var [num 0, num 0, num 0, num 0]]⟩ = some (.exit 0, cnE (evC l) I R k0 n a b c d) := by
    rw [← hloop]
    exact loop_canon (by kernel_rfl) (cn_canon ..)
  exact pure_of [(12, .p (boolX true)), (16, .i (Int.ofNat k0)), (17, .i (Int.ofNat (k0 + 1))), (19, .p (.agg (nodX 0 0 1 (exN 0) (tyX 999999999999999) ruX))), (24, .p (.sl false 23 I)), (27, .p (.sl false 7 R))] [(.exit 0, cnE (evC l) I R k0 n a b c d)] (pf7 h11 hk0 hk h12 h13 h14 hloop') (x := boolX true) (bx := []) (by kernel_rfl) rfl
end Go.Proofs.YthphniobeigklaaGreatDoor.Ag
