/- What is due, and what a tick does. -/
import Derived.WalkKit
import Derived.Deep.LoopGhost
import Derived.Shelf.Spec.SlicesInsertGrow
import Derived.Test.YtjfheahakfoofaaGreatDoorBalances16
namespace Go.Proofs.YtjfheahakfoofaaGreatDoor
open Go.Em

/-- A tick does what is due. -/
def DueOk (d : Int × Bool) (o : Ocm) (s : Stt) (t : Int) : Prop :=
  (d.2 = true ∧ d.1 ≤ t ∧ 0 < o.outs.length ∧ o.fates.length = o.outs.length) ∨ ((d.2 = false ∨ (d.2 = true ∧ ¬ d.1 ≤ t)) ∧ o = plainO s)

theorem thr_due (n : Nod) (hn : n.number ≤ 9223372036854775807) (s : Stt) (b : Stp) (h0 : 0 ≤ s.n) (h1 : s.n ≤ 999999999999999) (h2 : 0 ≤ s.t) (t : Int) (h3 : s.t ≤ t) (h4 : t ≤ 17592186044416) : DueOk (dueT n s) (clkF n s b t) s t := by
  obtain ⟨w1, w2, w3, w4⟩ := win_next (p := perF n.time) h2 h3 h4
  have hp := perF_le n.time
  have hcn : cntF (perF n.time) s.n s.t t = if winF (perF n.time) t > s.t then 0 else s.n := by
    unfold cntF numF
    by_cases hh : winF (perF n.time) t > s.t
    · rw [if_pos hh, if_pos hh]
    · rw [if_neg hh, if_neg hh]; split <;> omega
  have hnf : 0 ≤ numF n.number ∧ numF n.number ≤ 9223372036854775807 := by unfold numF; split <;> omega
  have hmax : maxI 0 s.n = s.n := by unfold maxI; split <;> omega
  have hmost : mostF n s t = numF n.number - cntF (perF n.time) s.n s.t t := by
    unfold mostF
    rw [hcn, IntKind.wrap_i64]
    split <;> omega
  have hsum : IntKind.i64.wrap (winF (perF n.time) s.t + Int.ofNat (perF n.time + 1)) = winF (perF n.time) s.t + Int.ofNat (perF n.time + 1) := by
    rw [IntKind.wrap_i64]
    simp only [Int.ofNat_eq_natCast] at hp ⊢
    omega
  unfold clkF dueT
  rw [hmax, hsum, hmost, hcn]
  dsimp only
  generalize winF (perF n.time) s.t + Int.ofNat (perF n.time + 1) = wp at w1 w2 ⊢
  generalize winF (perF n.time) t = wt at w1 w2 ⊢
  generalize numF n.number = nf at hnf ⊢
  have hk : relN (accOf s.slots) (nf - if wt > s.t then 0 else s.n) = 0 ↔ ((accOf s.slots).length = 0 ∨ nf ≤ if wt > s.t then 0 else s.n) := by
    unfold relN
    omega
  generalize hkk : relN (accOf s.slots) (nf - if wt > s.t then 0 else s.n) = k at hk ⊢
  by_cases hz : k = 0
  · rw [if_pos hz]
    refine .inr ⟨?_, rfl⟩
    have hz' := hk.1 hz
    by_cases e1 : (accOf s.slots).length = 0
    · rw [if_pos e1]; exact .inl rfl
    · rw [if_neg e1]
      have e2 := hz'.resolve_left e1
      by_cases e3 : nf = 0
      · rw [if_pos e3]; exact .inl rfl
      · rw [if_neg e3]
        by_cases e4 : s.n ≥ nf
        · rw [if_pos e4]
          by_cases e5 : wp > 17592186044416
          · rw [if_pos e5]; exact .inl rfl
          · rw [if_neg e5]
            refine .inr ⟨rfl, fun hle => ?_⟩
            have := w1 hle
            rw [if_pos this] at e2
            omega
        · exfalso
          split at e2 <;> omega
  · rw [if_neg hz]
    refine .inl ?_
    have hz' : ¬ ((accOf s.slots).length = 0 ∨ nf ≤ if wt > s.t then 0 else s.n) := fun h => hz (hk.2 h)
    have e1 : ¬ (accOf s.slots).length = 0 := fun h => hz' (.inl h)
    have e2 : ¬ nf ≤ if wt > s.t then 0 else s.n := fun h => hz' (.inr h)
    have hl : (outsF b (accOf s.slots) k).length = k := by simp [outsF]
    have hf : (fatesF n.name b (accOf s.slots) k).length = k := by simp [fatesF]
    rw [if_neg e1]
    have e3 : ¬ nf = 0 := fun h => by
      apply e2; rw [h]; split <;> omega
    rw [if_neg e3]
    have hout : 0 < (outsF b (accOf s.slots) k).length ∧ (fatesF n.name b (accOf s.slots) k).length = (outsF b (accOf s.slots) k).length := by rw [hl, hf]; omega
    by_cases e4 : s.n ≥ nf
    · rw [if_pos e4]
      have e6 : wt > s.t := by
        apply Classical.byContradiction
        intro hne
        rw [if_neg hne] at e2
        exact e2 e4
      have e7 : wp ≤ t := by
        apply Classical.byContradiction
        intro hne
        exact w2 (by omega) e6
      rw [if_neg (show ¬ wp > 17592186044416 by omega)]
      exact ⟨rfl, e7, hout⟩
    · rw [if_neg e4, if_neg (show ¬ s.t > 17592186044416 by omega)]
      exact ⟨rfl, h3, hout⟩

/-! ### A delay -/
theorem minTo_spec (ss : List Slt) : ∀ j, 0 < j → j ≤ ss.length → (∃ i, i < j ∧ minTo ss j = (ss.getD i dSlt).t) ∧ ∀ i, i < j → minTo ss j ≤ (ss.getD i dSlt).t
  | 0, h, _ => absurd h (by omega)
  | j + 1, _, hj => by
    by_cases h0 : j = 0
    · subst h0
      rw [minTo, if_pos (Or.inl rfl)]
      exact ⟨⟨0, by omega, rfl⟩, fun i hi => by
        have e : i = 0 := Nat.lt_one_iff.1 hi
        subst e
        exact Int.le_refl _⟩
    · obtain ⟨⟨i0, hi0, e0⟩, hall⟩ := minTo_spec ss j (by omega) (by omega)
      rw [minTo]
      by_cases hlt : (ss.getD j dSlt).t < minTo ss j
      · rw [if_pos (Or.inr hlt)]
        refine ⟨⟨j, by omega, rfl⟩, fun i hi => ?_⟩
        by_cases hij : i < j
        · have := hall i hij; omega
        · obtain rfl : i = j := by omega
          exact Int.le_refl _
      · rw [if_neg (fun h => h.elim h0 hlt)]
        refine ⟨⟨i0, by omega, e0⟩, fun i hi => ?_⟩
        by_cases hij : i < j
        · exact hall i hij
        · obtain rfl : i = j := by omega
          omega
theorem del_due (n : Nod) (s : Stt) (hd : delayedS s = true) (b : Stp) (t : Int) (h4 : t ≤ 17592186044416) : DueOk (dueD s) (delF n s b t) s t := by
  obtain ⟨sn, st, ss⟩ := s
  have hitems : ∀ x, x ∈ ss → 0 < x.items.length := fun x hx => by
    simp only [delayedS, Bool.and_eq_true, Bool.not_eq_true'] at hd
    have := List.all_eq_true.1 hd.2.2 x hx
    obtain ⟨⟨k, i, s, tx, vl, fl⟩, n2, c, ms, vs⟩ := x
    simp only [badD, Bool.not_eq_true', Bool.or_eq_false_iff, beq_eq_false_iff_ne, ne_eq] at this
    have h := this.1
    rw [msgsC_length] at h
    simp only [Int.ofNat_eq_natCast] at h ⊢
    omega
  have hget : ∀ i, i < ss.length → ss.getD i dSlt ∈ ss := fun i hi => by
    rw [List.getD_eq_getElem?_getD, List.getElem?_eq_getElem hi]; exact List.getElem_mem hi
  have hnone : (∀ x, x ∈ ss → ¬ x.t ≤ t) → delF n ⟨sn, st, ss⟩ b t = plainO ⟨sn, st, ss⟩ := fun h => by
    have e1 : goL t ss = [] := by
      unfold goL
      rw [List.filter_eq_nil_iff.2 fun x hx => by simpa using h x hx]; rfl
    have e2 : stayL t ss = ss := List.filter_eq_self.2 fun x hx => by simpa using h x hx
    unfold delF
    dsimp only
    rw [e1, e2]; rfl
  unfold dueD
  dsimp only
  by_cases e1 : (accOf ss).length = 0
  · rw [if_pos e1]
    refine .inr ⟨.inl rfl, hnone fun x hx => ?_⟩
    have : x.items.length ≤ (accOf ss).length := by
      obtain ⟨l1, l2, rfl⟩ := List.append_of_mem hx
      simp only [accOf, List.flatMap_append, List.flatMap_cons, List.length_append]; omega
    have := hitems x hx
    omega
  · rw [if_neg e1]
    have hpos : 0 < ss.length := by
      apply Nat.pos_of_ne_zero
      intro h
      obtain rfl := List.length_eq_zero_iff.1 h
      exact e1 rfl
    obtain ⟨⟨i0, hi0, e0⟩, hall⟩ := minTo_spec ss ss.length hpos (Nat.le_refl _)
    have hall' : ∀ x, x ∈ ss → minTo ss ss.length ≤ x.t := fun x hx => by
      obtain ⟨i, hi, rfl⟩ := List.mem_iff_getElem.1 hx
      have := hall i hi
      rw [List.getD_eq_getElem?_getD, List.getElem?_eq_getElem hi] at this
      exact this
    by_cases hle : minTo ss ss.length ≤ t
    · rw [if_neg (show ¬ minTo ss ss.length > 17592186044416 by omega)]
      refine .inl ⟨rfl, hle, ?_, ?_⟩
      · have hm := hget i0 hi0
        have hlen : 0 < (goL t ss).length := by
          have h1 : ss.getD i0 dSlt ∈ ss.filter fun x => decide (x.t ≤ t) := List.mem_filter.2 ⟨hm, by rw [e0] at hle; exact decide_eq_true hle⟩
          unfold goL
          obtain ⟨l1, l2, h2⟩ := List.append_of_mem h1
          rw [h2]
          have := hitems _ hm
          simp only [accOf, List.flatMap_append, List.flatMap_cons, List.length_append]; omega
        show 0 < (outsF b (goL t ss) (goL t ss).length).length
        simpa [outsF] using hlen
      · show (fatesF n.name b (goL t ss) (goL t ss).length).length = (outsF b (goL t ss) (goL t ss).length).length
        simp [outsF, fatesF]
    · have hn := hnone fun x hx h => hle (Int.le_trans (hall' x hx) h)
      by_cases hgt : minTo ss ss.length > 17592186044416
      · rw [if_pos hgt]; exact .inr ⟨.inl rfl, hn⟩
      · rw [if_neg hgt]; exact .inr ⟨.inr ⟨rfl, hle⟩, hn⟩
end Go.Proofs.YtjfheahakfoofaaGreatDoor

/- ThrottleDue comes to true. -/
namespace Go.Proofs.YtjfheahakfoofaaGreatDoor
open Go.Em

def tick (t : Int) : Inp := ⟨2, t, ⟨7, [0, 3]⟩, ⟨⟨0, []⟩, 0, [], nulV⟩, 0, false, false, nulV⟩
theorem tick_ok (t : Int) : (tick t).ok :=
  ⟨show ([0, 3] : List Int).length ≤ 100 by decide, ⟨⟨show ([] : List Int).length ≤ 60000 by decide⟩, show ([] : List Int).length ≤ 60000 by decide, show nulV.size ≤ 60000 by decide⟩⟩
theorem ticks_pure (N : Nat) (t : Int) : Gam.pureD (callF tab ext (N + 1)) 22 [num 7, num t] = some (.agg (tick t).cells) :=
  pure_of [] [] pf0 (x := .agg ([num 2, num t, num 7, .sl true 1 ([[num 0], [num 3]]), num 0, .sl true 1 [], num 0, .sl true 1 [], num 0, num 0, num 0, noText, .sl true 6 [], .sl true 7 [], num 0, boolX false, boolX false, num 0, num 0, num 0, noText, .sl true 6 [], .sl true 7 []])) (bx := []) (by kernel_rfl) rfl
theorem step_del (N : Nat) (hN : 190070 ≤ N) (n : Nod) (hk : n.kind = 8) (s : Stt) (hs : s.small) (hacc : (accOf s.slots).length ≤ 3000) (t : Int) : Gam.pureD (callF tab ext N) 11 [.agg n.cells, .agg s.cells, .agg (tick t).cells] = some (.agg (delF n s ⟨7, [0, 3]⟩ (clampF t 0 maxTime)).cells) := by
  obtain ⟨M, rfl⟩ : ∃ M, N = M + 1 := ⟨N - 1, by omega⟩
  have hcl := clone_state_pure M s hs.ok (by omega)
  obtain ⟨ci, hci, h1, h2, h3⟩ := cin_of (tick t)
  have h := delay_clk M (by omega) n s hs hacc ci ⟨7, [0, 3]⟩ (by decide) h2 h3
  rw [h1] at h
  have h1 : (n.kind == 8) = true := by simpa using hk
  change Gam.pureD (callF tab ext M) 30 [.agg n.cells, .agg s.cells, .agg (ci.cells (tick t).kind)] = some (.agg (delF n s ⟨7, [0, 3]⟩ (clampF t 0 maxTime)).cells) at h
  rw [← hci] at h
  generalize delF n s ⟨7, [0, 3]⟩ (clampF t 0 maxTime) = oc at h
  exact pure_of [(8, .p (.agg s.cells)), (11, .b true), (15, .p (.agg oc.cells))] [] (pf3 hcl h1 h) (x := .agg oc.cells) (bx := []) (by kernel_rfl) rfl
theorem outs_pos {l : List Otp} (h : 0 < l.length) : Int.ofNat (otpsC l).length > 0 := by
  have : (otpsC l).length = l.length := by simp [otpsC]
  simp only [Int.ofNat_eq_natCast]; omega
theorem accOf_bound : ∀ {l : List Slt}, (∀ x, x ∈ l → x.items.length ≤ 4) → (accOf l).length ≤ 4 * l.length
  | [], _ => by simp [accOf]
  | x :: r, h => by
    have h1 := accOf_bound (l := r) fun y hy => h y (List.mem_cons_of_mem _ hy)
    have h2 := h x (by simp)
    simp only [accOf, List.flatMap_cons, List.length_append, List.length_cons] at h1 ⊢
    omega
theorem shortS_acc (s : Stt) : (accOf (shortS s).slots).length ≤ 24 := by
  have h := accOf_bound (l := (s.slots.take 6).map shortL) fun x hx => by
    obtain ⟨y, _, rfl⟩ := List.mem_map.1 hx
    show ((y.items.take 4).map shortM).length ≤ 4
    rw [List.length_map, List.length_take]; omega
  rw [List.length_map, List.length_take] at h
  show (accOf ((s.slots.take 6).map shortL)).length ≤ 24
  omega

/-- A node whose number is one of int's. -/
def isNode9 (c : List X) : Prop := isNode c ∧ ∀ z, c[4]? = some (num z) → z ≤ 9223372036854775807
theorem node_of9 {c : List X} (h : isNode9 c) : ∃ nd nd' : Nod, c = nd.cells ∧ nd'.number ≤ 9223372036854775807 ∧ ∀ N, 220 ≤ N → Gam.pureD (callF tab ext N) 19 [.agg nd.cells] = some (.agg nd'.cells) := by
  obtain ⟨⟨name, k1, k2, k3, k4, k5, k6, text, T, ty, ex, ru, ca, ne, rfl, hT, hty, hex, hru, hca⟩, h4⟩ := h
  obtain ⟨a, b, c, d, w, e, f, a', b', c', d', w', e', f', ty', ex', ru', ca', ne', rfl, hc⟩ := short_node name text k1 k2 k3 k4 k5 k6 T ty ex ru ca ne hT hty hex hru hca
  exact ⟨⟨name, k1, k2, k3, k4, k5, k6, text, (a, b, c, d), w, e, f, ty, ex, ca, ru, ne⟩, ⟨cutT 60 name, k1, k2, k3, k4, k5, k6, cutT 60 text, (a', b', c', d'), w', e', f', ty', ex', ca', ru', ne'⟩, rfl, h4 k4 rfl, hc⟩

set_option maxRecDepth 100000 in
theorem due_all (cn : List X) (hcn : isNode9 cn) (s0 : Stt) (tm : Int) : callF tab ext 190301 (.fn 7) [.agg cn, .agg s0.cells, num tm] [] = some (.v (.bool true), []) := by
  obtain ⟨n0, n, rfl, hnum, hn⟩ := node_of9 hcn
  have hn := hn 190300 (by omega)
  have hs := short_state s0 190300 (by omega)
  have hsm := shortS_small s0
  have hac := shortS_acc s0
  generalize shortS s0 = s at hs hsm hac
  obtain ⟨c, hc⟩ := state_comes s hsm
  have hk := known_at 189900
  obtain ⟨t, hmx⟩ : ∃ t, maxI s.t (minI tm 17592186044416) = t := ⟨_, rfl⟩
  have htick := ticks_pure 190299 t
  have he := stt_refl 190300 s hsm.ok (by omega)
  have hbt : s.t ≤ 17592186044416 → s.t ≤ t ∧ t ≤ 17592186044416 := fun h => by
    subst hmx
    unfold maxI minI
    split <;> split <;> omega
  cases h1 : (!(n.kind == 8)) with
  | true =>
    have hm := check_pure { n with kind := 7 } s hsm c hc 190300 (by omega)
    have hd := due_thr 190300 (by omega) { n with kind := 7 } (show (7 : Int) ≠ 8 by decide) s hsm
    generalize hf : checkF { n with kind := 7 } s c = f at hm
    by_cases hz : f = 0
    · subst hz
      have hcr : c = 0 ∧ rightS s = true := by
        unfold checkF at hf
        rw [if_pos rfl] at hf
        split at hf
        · rename_i h; exact absurd hf h
        · rename_i h
          split at hf
          · rename_i h'; exact ⟨Classical.byContradiction h, h'⟩
          · cases hf
      obtain ⟨rfl, hr⟩ := hcr
      obtain ⟨_, b2, b3, b4⟩ := state_numb s hc
      have b1 : 0 ≤ s.n := by
        simp only [rightS, Bool.and_eq_true, Bool.not_eq_true', decide_eq_false_iff_not] at hr
        omega
      obtain ⟨t1, t2⟩ := hbt b4
      have hst := step_thr 190300 (by omega) { n with kind := 7 } (show (7 : Int) ≠ 8 by decide) s (thr_of hr) hsm (tick t) (tick_ok t)
      have e1 : thrF { n with kind := 7 } s (tick t) = clkF { n with kind := 7 } s ⟨7, [0, 3]⟩ t := by
        unfold thrF
        rw [if_neg (show ¬ (tick t).kind = 1 by show ¬ (2 : Int) = 1; decide), if_pos (show (tick t).kind = 2 from rfl)]
        have : nowF (tick t) = t := clamp_self (t := t) (by omega) t2
        rw [this]; rfl
      rw [e1] at hst
      have hdo := thr_due { n with kind := 7 } hnum s ⟨7, [0, 3]⟩ b1 b2 b3 t t1 t2
      have ht0 : decide (t < 0) = false := decide_eq_false (by omega)
      generalize clkF { n with kind := 7 } s ⟨7, [0, 3]⟩ t = o at hst hdo
      generalize dueT { n with kind := 7 } s = d at hd hdo
      rcases hdo with ⟨g1, g2, g3, g4⟩ | ⟨g, rfl⟩
      · have h5 : decide (d.1 ≤ t) = true := decide_eq_true g2
        have h6 : decide (Int.ofNat (otpsC o.outs).length > 0) = true := decide_eq_true (outs_pos g3)
        have h7 : (Int.ofNat (ftesC o.fates).length == Int.ofNat (otpsC o.outs).length) = true := by
          have e2 : (otpsC o.outs).length = o.outs.length := by simp [otpsC]
          have e3 : (ftesC o.fates).length = o.fates.length := by simp [ftesC]
          rw [e2, e3, g4]; simp
        exact callF_of [(11, .p (.agg n.cells)), (13, .p (.agg s.cells)), (16, .b true), (22, .i t), (23, .p (boolX true)), (28, .p (num 0)), (33, .b false), (39, .p (.tup [num d.1, boolX d.2])), (41, .b true), (45, .p (.agg (tick t).cells)), (46, .p (.agg o.cells)), (51, .b true), (56, .b true), (64, .b true)] []
          (pf14 hn hs h1 hmx hk hm ht0 hd g1 htick hst h5 h6 h7) (by kernel_rfl)
      · rcases g with g1 | ⟨g1, g2⟩
        · exact callF_of [(11, .p (.agg n.cells)), (13, .p (.agg s.cells)), (16, .b true), (22, .i t), (23, .p (boolX true)), (28, .p (num 0)), (33, .b false), (39, .p (.tup [num d.1, boolX d.2])), (41, .b false), (45, .p (.agg (tick t).cells)), (46, .p (.agg (plainO s).cells)), (82, .p (boolX true))] []
            (pf12 hn hs h1 hmx hk hm ht0 hd g1 htick hst he) (by kernel_rfl)
        · have h5 : decide (d.1 ≤ t) = false := decide_eq_false g2
          exact callF_of [(11, .p (.agg n.cells)), (13, .p (.agg s.cells)), (16, .b true), (22, .i t), (23, .p (boolX true)), (28, .p (num 0)), (33, .b false), (39, .p (.tup [num d.1, boolX d.2])), (41, .b true), (45, .p (.agg (tick t).cells)), (46, .p (.agg (plainO s).cells)), (51, .b false), (82, .p (boolX true))] []
            (pf13 hn hs h1 hmx hk hm ht0 hd g1 htick hst h5 he) (by kernel_rfl)
    · have hz' : (!(f == 0)) = true := by simp [hz]
      exact callF_of [(11, .p (.agg n.cells)), (13, .p (.agg s.cells)), (16, .b true), (22, .i t), (23, .p (boolX true)), (28, .p (num f)), (29, .b true), (35, .p (boolX true))] [] (pf8 hn hs h1 hmx hk hm hz' hk) (by kernel_rfl)
  | false =>
    have hk8 : n.kind = 8 := by simpa using h1
    have hm := check_pure n s hsm c hc 190300 (by omega)
    have hd := due_del 190300 (by omega) n hk8 s hsm
    generalize hf : checkF n s c = f at hm
    by_cases hz : f = 0
    · subst hz
      have hcr : c = 0 ∧ delayedS s = true := by
        unfold checkF at hf
        rw [if_neg (by omega), if_pos hk8] at hf
        split at hf
        · rename_i h; exact absurd hf h
        · rename_i h
          split at hf
          · rename_i h'; exact ⟨Classical.byContradiction h, h'⟩
          · cases hf
      obtain ⟨rfl, hr⟩ := hcr
      obtain ⟨_, b2, b3, b4⟩ := state_numb s hc
      obtain ⟨t1, t2⟩ := hbt b4
      have hst := step_del 190300 (by omega) n hk8 s hsm (by omega) t
      rw [clamp_self (by omega) t2] at hst
      have hdo := del_due n s hr ⟨7, [0, 3]⟩ t t2
      have ht0 : decide (t < 0) = false := decide_eq_false (by omega)
      generalize delF n s ⟨7, [0, 3]⟩ t = o at hst hdo
      generalize dueD s = d at hd hdo
      rcases hdo with ⟨g1, g2, g3, g4⟩ | ⟨g, rfl⟩
      · have h5 : decide (d.1 ≤ t) = true := decide_eq_true g2
        have h6 : decide (Int.ofNat (otpsC o.outs).length > 0) = true := decide_eq_true (outs_pos g3)
        have h7 : (Int.ofNat (ftesC o.fates).length == Int.ofNat (otpsC o.outs).length) = true := by
          have e2 : (otpsC o.outs).length = o.outs.length := by simp [otpsC]
          have e3 : (ftesC o.fates).length = o.fates.length := by simp [ftesC]
          rw [e2, e3, g4]; simp
        exact callF_of [(11, .p (.agg n.cells)), (13, .p (.agg s.cells)), (16, .b false), (22, .i t), (23, .p (boolX true)), (28, .p (num 0)), (33, .b false), (39, .p (.tup [num d.1, boolX d.2])), (41, .b true), (45, .p (.agg (tick t).cells)), (46, .p (.agg o.cells)), (51, .b true), (56, .b true), (64, .b true)] []
          (pf14 hn hs h1 hmx hk hm ht0 hd g1 htick hst h5 h6 h7) (by kernel_rfl)
      · rcases g with g1 | ⟨g1, g2⟩
        · exact callF_of [(11, .p (.agg n.cells)), (13, .p (.agg s.cells)), (16, .b false), (22, .i t), (23, .p (boolX true)), (28, .p (num 0)), (33, .b false), (39, .p (.tup [num d.1, boolX d.2])), (41, .b false), (45, .p (.agg (tick t).cells)), (46, .p (.agg (plainO s).cells)), (82, .p (boolX true))] []
            (pf12 hn hs h1 hmx hk hm ht0 hd g1 htick hst he) (by kernel_rfl)
        · have h5 : decide (d.1 ≤ t) = false := decide_eq_false g2
          exact callF_of [(11, .p (.agg n.cells)), (13, .p (.agg s.cells)), (16, .b false), (22, .i t), (23, .p (boolX true)), (28, .p (num 0)), (33, .b false), (39, .p (.tup [num d.1, boolX d.2])), (41, .b true), (45, .p (.agg (tick t).cells)), (46, .p (.agg (plainO s).cells)), (51, .b false), (82, .p (boolX true))] []
            (pf13 hn hs h1 hmx hk hm ht0 hd g1 htick hst h5 he) (by kernel_rfl)
    · have hz' : (!(f == 0)) = true := by simp [hz]
      exact callF_of [(11, .p (.agg n.cells)), (13, .p (.agg s.cells)), (16, .b false), (22, .i t), (23, .p (boolX true)), (28, .p (num f)), (29, .b true), (35, .p (boolX true))] [] (pf8 hn hs h1 hmx hk hm hz' hk) (by kernel_rfl)
end Go.Proofs.YtjfheahakfoofaaGreatDoor

/- The arguments of the laws: what reads as data of their types is a node, a state, an input. -/
namespace Go.Proofs.YtjfheahakfoofaaGreatDoor
open Go.Em Go.RowKit
set_option maxRecDepth 100000

theorem Tryz.own : ownKnob Tryz.prog.godebug = none := by kernel_rfl
theorem Tryz.laidOut : laidOutB Tryz.prog = true := by kernel_rfl
theorem Tryz.rowed : mapsRowed Tryz.prog = true := by kernel_rfl
def tys : List TypeId := [3, 4, 9, 22, 23, 24, 26, 27, 28, 30, 31, 32, 34, 35, 37, 39, 40, 41, 43, 45, 47, 56, 78, 98, 100, 103, 144, 146]
theorem tys_ok : dataTys Tryz.prog tys = true := by kernel_rfl
theorem tys_size : tys.all (fun t => decide (t < Tryz.prog.types.size)) = true := by kernel_rfl
theorem tys_lt {t : TypeId} (h : t ∈ tys) : t < Tryz.prog.types.size := of_decide_eq_true (List.all_eq_true.1 tys_size t h)
theorem tys_kids : Kids Tryz.prog (fun t => t ∈ tys ∧ t < Tryz.prog.types.size) := kids_data (kids_rows Tryz.laidOut Tryz.rowed) tys_ok
def fieldsOf (P : Program) (t : TypeId) : Array Field := match P.underlying t with
  | some (.struct fs) => fs
  | _ => #[]
theorem under3 : Tryz.prog.underlying 3 = some (.int .i64) := by kernel_rfl
theorem under4 : Tryz.prog.underlying 4 = some .bool := by kernel_rfl
theorem under9 : Tryz.prog.underlying 9 = some .string := by kernel_rfl
theorem under26 : Tryz.prog.underlying 26 = some (.struct (fieldsOf Tryz.prog 26)) := by kernel_rfl
theorem fields26 : (fieldsOf Tryz.prog 26).toList.map (·.type) = [3, 3, 3, 3, 22, 23, 24] := by kernel_rfl
theorem under30 : Tryz.prog.underlying 30 = some (.struct (fieldsOf Tryz.prog 30)) := by kernel_rfl
theorem fields30 : (fieldsOf Tryz.prog 30).toList.map (·.type) = [28] := by kernel_rfl
theorem under34 : Tryz.prog.underlying 34 = some (.struct (fieldsOf Tryz.prog 34)) := by kernel_rfl
theorem fields34 : (fieldsOf Tryz.prog 34).toList.map (·.type) = [9, 3, 3, 3, 3, 3, 3, 9, 26, 23, 27, 30, 31, 32] := by kernel_rfl
theorem under37 : Tryz.prog.underlying 37 = some (.struct (fieldsOf Tryz.prog 37)) := by kernel_rfl
theorem fields37 : (fieldsOf Tryz.prog 37).toList.map (·.type) = [3, 3, 35] := by kernel_rfl
theorem under39 : Tryz.prog.underlying 39 = some (.struct (fieldsOf Tryz.prog 39)) := by kernel_rfl
theorem fields39 : (fieldsOf Tryz.prog 39).toList.map (·.type) = [3, 32] := by kernel_rfl
theorem under43 : Tryz.prog.underlying 43 = some (.struct (fieldsOf Tryz.prog 43)) := by kernel_rfl
theorem fields43 : (fieldsOf Tryz.prog 43).toList.map (·.type) = [3, 3, 3, 9, 40, 41] := by kernel_rfl
theorem under45 : Tryz.prog.underlying 45 = some (.struct (fieldsOf Tryz.prog 45)) := by kernel_rfl
theorem fields45 : (fieldsOf Tryz.prog 45).toList.map (·.type) = [39, 3, 32, 43] := by kernel_rfl
theorem under47 : Tryz.prog.underlying 47 = some (.struct (fieldsOf Tryz.prog 47)) := by kernel_rfl
theorem fields47 : (fieldsOf Tryz.prog 47).toList.map (·.type) = [3, 3, 39, 45, 3, 4, 4, 43] := by kernel_rfl
theorem under78 : Tryz.prog.underlying 78 = some (.struct (fieldsOf Tryz.prog 78)) := by kernel_rfl
theorem fields78 : (fieldsOf Tryz.prog 78).toList.map (·.type) = [43, 3, 3, 56, 40] := by kernel_rfl
theorem under98 : Tryz.prog.underlying 98 = some (.struct (fieldsOf Tryz.prog 98)) := by kernel_rfl
theorem fields98 : (fieldsOf Tryz.prog 98).toList.map (·.type) = [3, 3, 9, 40, 27] := by kernel_rfl
theorem under100 : Tryz.prog.underlying 100 = some (.struct (fieldsOf Tryz.prog 100)) := by kernel_rfl
theorem fields100 : (fieldsOf Tryz.prog 100).toList.map (·.type) = [9, 98] := by kernel_rfl
theorem under103 : Tryz.prog.underlying 103 = some (.struct (fieldsOf Tryz.prog 103)) := by kernel_rfl
theorem fields103 : (fieldsOf Tryz.prog 103).toList.map (·.type) = [9, 30] := by kernel_rfl
theorem under144 : Tryz.prog.underlying 144 = some (.struct (fieldsOf Tryz.prog 144)) := by kernel_rfl
theorem fields144 : (fieldsOf Tryz.prog 144).toList.map (·.type) = [3, 9, 3, 26, 40] := by kernel_rfl
theorem under146 : Tryz.prog.underlying 146 = some (.struct (fieldsOf Tryz.prog 146)) := by kernel_rfl
theorem fields146 : (fieldsOf Tryz.prog 146).toList.map (·.type) = [9, 43] := by kernel_rfl
theorem under22 : Tryz.prog.underlying 22 = some (.slice 9) := by kernel_rfl
theorem under23 : Tryz.prog.underlying 23 = some (.slice 26) := by kernel_rfl
theorem under24 : Tryz.prog.underlying 24 = some (.slice 144) := by kernel_rfl
theorem under27 : Tryz.prog.underlying 27 = some (.slice 98) := by kernel_rfl
theorem under28 : Tryz.prog.underlying 28 = some (.slice 100) := by kernel_rfl
theorem under31 : Tryz.prog.underlying 31 = some (.slice 103) := by kernel_rfl
theorem under32 : Tryz.prog.underlying 32 = some (.slice 3) := by kernel_rfl
theorem under35 : Tryz.prog.underlying 35 = some (.slice 78) := by kernel_rfl
theorem under40 : Tryz.prog.underlying 40 = some (.slice 43) := by kernel_rfl
theorem under41 : Tryz.prog.underlying 41 = some (.slice 146) := by kernel_rfl
theorem under56 : Tryz.prog.underlying 56 = some (.slice 45) := by kernel_rfl
theorem cells3 : Tryz.prog.cellsOf 3 = 1 := by kernel_rfl
theorem cells9 : Tryz.prog.cellsOf 9 = 1 := by kernel_rfl
theorem cells26 : Tryz.prog.cellsOf 26 = 7 := by kernel_rfl
theorem cells43 : Tryz.prog.cellsOf 43 = 6 := by kernel_rfl
theorem cells45 : Tryz.prog.cellsOf 45 = 10 := by kernel_rfl
theorem cells78 : Tryz.prog.cellsOf 78 = 10 := by kernel_rfl
theorem cells98 : Tryz.prog.cellsOf 98 = 5 := by kernel_rfl
theorem cells100 : Tryz.prog.cellsOf 100 = 6 := by kernel_rfl
theorem cells103 : Tryz.prog.cellsOf 103 = 2 := by kernel_rfl
theorem cells144 : Tryz.prog.cellsOf 144 = 11 := by kernel_rfl
theorem cells146 : Tryz.prog.cellsOf 146 = 7 := by kernel_rfl

variable {n : Nat} {xs : List X}
theorem shape_num (h : Shape Tryz.prog n 3 xs) : ∃ z, xs = [num z] := by
  obtain ⟨v, rfl, _⟩ := shape_int under3 h
  exact ⟨v, rfl⟩
theorem shape_text (h : Shape Tryz.prog n 9 xs) : ∃ s, xs = [strX s] := by
  obtain ⟨v, rfl, _⟩ := shape_string under9 h
  exact ⟨v, rfl⟩
theorem shape_flag (h : Shape Tryz.prog n 4 xs) : ∃ b, xs = [boolX b] := shape_bool under4 h
theorem shape_sl22 (h : Shape Tryz.prog n 22 xs) : ∃ es, xs = [.sl false 1 es] ∧ ∃ m, m < n ∧ ∀ c, c ∈ es → Shape Tryz.prog m 9 c := by
  obtain ⟨es, rfl, _, h⟩ := shape_slice under22 h
  rw [cells9]
  exact ⟨es, rfl, h⟩
theorem shape_sl23 (h : Shape Tryz.prog n 23 xs) : ∃ es, xs = [.sl false 7 es] ∧ ∃ m, m < n ∧ ∀ c, c ∈ es → Shape Tryz.prog m 26 c := by
  obtain ⟨es, rfl, _, h⟩ := shape_slice under23 h
  rw [cells26]
  exact ⟨es, rfl, h⟩
theorem shape_sl24 (h : Shape Tryz.prog n 24 xs) : ∃ es, xs = [.sl false 11 es] ∧ ∃ m, m < n ∧ ∀ c, c ∈ es → Shape Tryz.prog m 144 c := by
  obtain ⟨es, rfl, _, h⟩ := shape_slice under24 h
  rw [cells144]
  exact ⟨es, rfl, h⟩
theorem shape_sl27 (h : Shape Tryz.prog n 27 xs) : ∃ es, xs = [.sl false 5 es] ∧ ∃ m, m < n ∧ ∀ c, c ∈ es → Shape Tryz.prog m 98 c := by
  obtain ⟨es, rfl, _, h⟩ := shape_slice under27 h
  rw [cells98]
  exact ⟨es, rfl, h⟩
theorem shape_sl28 (h : Shape Tryz.prog n 28 xs) : ∃ es, xs = [.sl false 6 es] ∧ ∃ m, m < n ∧ ∀ c, c ∈ es → Shape Tryz.prog m 100 c := by
  obtain ⟨es, rfl, _, h⟩ := shape_slice under28 h
  rw [cells100]
  exact ⟨es, rfl, h⟩
theorem shape_sl31 (h : Shape Tryz.prog n 31 xs) : ∃ es, xs = [.sl false 2 es] ∧ ∃ m, m < n ∧ ∀ c, c ∈ es → Shape Tryz.prog m 103 c := by
  obtain ⟨es, rfl, _, h⟩ := shape_slice under31 h
  rw [cells103]
  exact ⟨es, rfl, h⟩
theorem shape_sl32 (h : Shape Tryz.prog n 32 xs) : ∃ es, xs = [.sl false 1 es] ∧ ∃ m, m < n ∧ ∀ c, c ∈ es → Shape Tryz.prog m 3 c := by
  obtain ⟨es, rfl, _, h⟩ := shape_slice under32 h
  rw [cells3]
  exact ⟨es, rfl, h⟩
theorem shape_sl35 (h : Shape Tryz.prog n 35 xs) : ∃ es, xs = [.sl false 10 es] ∧ ∃ m, m < n ∧ ∀ c, c ∈ es → Shape Tryz.prog m 78 c := by
  obtain ⟨es, rfl, _, h⟩ := shape_slice under35 h
  rw [cells78]
  exact ⟨es, rfl, h⟩
theorem shape_sl40 (h : Shape Tryz.prog n 40 xs) : ∃ es, xs = [.sl false 6 es] ∧ ∃ m, m < n ∧ ∀ c, c ∈ es → Shape Tryz.prog m 43 c := by
  obtain ⟨es, rfl, _, h⟩ := shape_slice under40 h
  rw [cells43]
  exact ⟨es, rfl, h⟩
theorem shape_sl41 (h : Shape Tryz.prog n 41 xs) : ∃ es, xs = [.sl false 7 es] ∧ ∃ m, m < n ∧ ∀ c, c ∈ es → Shape Tryz.prog m 146 c := by
  obtain ⟨es, rfl, _, h⟩ := shape_slice under41 h
  rw [cells146]
  exact ⟨es, rfl, h⟩
theorem shape_sl56 (h : Shape Tryz.prog n 56 xs) : ∃ es, xs = [.sl false 10 es] ∧ ∃ m, m < n ∧ ∀ c, c ∈ es → Shape Tryz.prog m 45 c := by
  obtain ⟨es, rfl, _, h⟩ := shape_slice under56 h
  rw [cells45]
  exact ⟨es, rfl, h⟩
theorem shape_st26 (h : Shape Tryz.prog n 26 xs) : ∃ m, m < n ∧ ∃ x0 x1 x2 x3 x4 x5 x6, xs = x0 ++ (x1 ++ (x2 ++ (x3 ++ (x4 ++ (x5 ++ (x6 ++ [])))))) ∧ Shape Tryz.prog m 3 x0 ∧ Shape Tryz.prog m 3 x1 ∧ Shape Tryz.prog m 3 x2 ∧ Shape Tryz.prog m 3 x3 ∧ Shape Tryz.prog m 22 x4 ∧ Shape Tryz.prog m 23 x5 ∧ Shape Tryz.prog m 24 x6 := by
  obtain ⟨m, hm, hk⟩ := shape_struct under26 h
  rw [fields26] at hk
  obtain ⟨x0, r0, rfl, h0, hk⟩ := hk
  obtain ⟨x1, r1, rfl, h1, hk⟩ := hk
  obtain ⟨x2, r2, rfl, h2, hk⟩ := hk
  obtain ⟨x3, r3, rfl, h3, hk⟩ := hk
  obtain ⟨x4, r4, rfl, h4, hk⟩ := hk
  obtain ⟨x5, r5, rfl, h5, hk⟩ := hk
  obtain ⟨x6, r6, rfl, h6, hk⟩ := hk
  have hk : r6 = [] := hk
  subst hk
  exact ⟨m, hm, x0, x1, x2, x3, x4, x5, x6, rfl, h0, h1, h2, h3, h4, h5, h6⟩
theorem shape_st30 (h : Shape Tryz.prog n 30 xs) : ∃ m, m < n ∧ ∃ x0, xs = x0 ++ [] ∧ Shape Tryz.prog m 28 x0 := by
  obtain ⟨m, hm, hk⟩ := shape_struct under30 h
  rw [fields30] at hk
  obtain ⟨x0, r0, rfl, h0, hk⟩ := hk
  have hk : r0 = [] := hk
  subst hk
  exact ⟨m, hm, x0, rfl, h0⟩
theorem shape_st34 (h : Shape Tryz.prog n 34 xs) : ∃ m, m < n ∧ ∃ x0 x1 x2 x3 x4 x5 x6 x7 x8 x9 x10 x11 x12 x13, xs = x0 ++ (x1 ++ (x2 ++ (x3 ++ (x4 ++ (x5 ++ (x6 ++ (x7 ++ (x8 ++ (x9 ++ (x10 ++ (x11 ++ (x12 ++ (x13 ++ []))))))))))))) ∧ Shape Tryz.prog m 9 x0 ∧ Shape Tryz.prog m 3 x1 ∧ Shape Tryz.prog m 3 x2 ∧ Shape Tryz.prog m 3 x3 ∧ Shape Tryz.prog m 3 x4 ∧ Shape Tryz.prog m 3 x5 ∧ Shape Tryz.prog m 3 x6 ∧ Shape Tryz.prog m 9 x7 ∧ Shape Tryz.prog m 26 x8 ∧ Shape Tryz.prog m 23 x9 ∧ Shape Tryz.prog m 27 x10 ∧ Shape Tryz.prog m 30 x11 ∧ Shape Tryz.prog m 31 x12 ∧ Shape Tryz.prog m 32 x13 := by
  obtain ⟨m, hm, hk⟩ := shape_struct under34 h
  rw [fields34] at hk
  obtain ⟨x0, r0, rfl, h0, hk⟩ := hk
  obtain ⟨x1, r1, rfl, h1, hk⟩ := hk
  obtain ⟨x2, r2, rfl, h2, hk⟩ := hk
  obtain ⟨x3, r3, rfl, h3, hk⟩ := hk
  obtain ⟨x4, r4, rfl, h4, hk⟩ := hk
  obtain ⟨x5, r5, rfl, h5, hk⟩ := hk
  obtain ⟨x6, r6, rfl, h6, hk⟩ := hk
  obtain ⟨x7, r7, rfl, h7, hk⟩ := hk
  obtain ⟨x8, r8, rfl, h8, hk⟩ := hk
  obtain ⟨x9, r9, rfl, h9, hk⟩ := hk
  obtain ⟨x10, r10, rfl, h10, hk⟩ := hk
  obtain ⟨x11, r11, rfl, h11, hk⟩ := hk
  obtain ⟨x12, r12, rfl, h12, hk⟩ := hk
  obtain ⟨x13, r13, rfl, h13, hk⟩ := hk
  have hk : r13 = [] := hk
  subst hk
  exact ⟨m, hm, x0, x1, x2, x3, x4, x5, x6, x7, x8, x9, x10, x11, x12, x13, rfl, h0, h1, h2, h3, h4, h5, h6, h7, h8, h9, h10, h11, h12, h13⟩
theorem shape_st37 (h : Shape Tryz.prog n 37 xs) : ∃ m, m < n ∧ ∃ x0 x1 x2, xs = x0 ++ (x1 ++ (x2 ++ [])) ∧ Shape Tryz.prog m 3 x0 ∧ Shape Tryz.prog m 3 x1 ∧ Shape Tryz.prog m 35 x2 := by
  obtain ⟨m, hm, hk⟩ := shape_struct under37 h
  rw [fields37] at hk
  obtain ⟨x0, r0, rfl, h0, hk⟩ := hk
  obtain ⟨x1, r1, rfl, h1, hk⟩ := hk
  obtain ⟨x2, r2, rfl, h2, hk⟩ := hk
  have hk : r2 = [] := hk
  subst hk
  exact ⟨m, hm, x0, x1, x2, rfl, h0, h1, h2⟩
theorem shape_st39 (h : Shape Tryz.prog n 39 xs) : ∃ m, m < n ∧ ∃ x0 x1, xs = x0 ++ (x1 ++ []) ∧ Shape Tryz.prog m 3 x0 ∧ Shape Tryz.prog m 32 x1 := by
  obtain ⟨m, hm, hk⟩ := shape_struct under39 h
  rw [fields39] at hk
  obtain ⟨x0, r0, rfl, h0, hk⟩ := hk
  obtain ⟨x1, r1, rfl, h1, hk⟩ := hk
  have hk : r1 = [] := hk
  subst hk
  exact ⟨m, hm, x0, x1, rfl, h0, h1⟩
theorem shape_st43 (h : Shape Tryz.prog n 43 xs) : ∃ m, m < n ∧ ∃ x0 x1 x2 x3 x4 x5, xs = x0 ++ (x1 ++ (x2 ++ (x3 ++ (x4 ++ (x5 ++ []))))) ∧ Shape Tryz.prog m 3 x0 ∧ Shape Tryz.prog m 3 x1 ∧ Shape Tryz.prog m 3 x2 ∧ Shape Tryz.prog m 9 x3 ∧ Shape Tryz.prog m 40 x4 ∧ Shape Tryz.prog m 41 x5 := by
  obtain ⟨m, hm, hk⟩ := shape_struct under43 h
  rw [fields43] at hk
  obtain ⟨x0, r0, rfl, h0, hk⟩ := hk
  obtain ⟨x1, r1, rfl, h1, hk⟩ := hk
  obtain ⟨x2, r2, rfl, h2, hk⟩ := hk
  obtain ⟨x3, r3, rfl, h3, hk⟩ := hk
  obtain ⟨x4, r4, rfl, h4, hk⟩ := hk
  obtain ⟨x5, r5, rfl, h5, hk⟩ := hk
  have hk : r5 = [] := hk
  subst hk
  exact ⟨m, hm, x0, x1, x2, x3, x4, x5, rfl, h0, h1, h2, h3, h4, h5⟩
theorem shape_st45 (h : Shape Tryz.prog n 45 xs) : ∃ m, m < n ∧ ∃ x0 x1 x2 x3, xs = x0 ++ (x1 ++ (x2 ++ (x3 ++ []))) ∧ Shape Tryz.prog m 39 x0 ∧ Shape Tryz.prog m 3 x1 ∧ Shape Tryz.prog m 32 x2 ∧ Shape Tryz.prog m 43 x3 := by
  obtain ⟨m, hm, hk⟩ := shape_struct under45 h
  rw [fields45] at hk
  obtain ⟨x0, r0, rfl, h0, hk⟩ := hk
  obtain ⟨x1, r1, rfl, h1, hk⟩ := hk
  obtain ⟨x2, r2, rfl, h2, hk⟩ := hk
  obtain ⟨x3, r3, rfl, h3, hk⟩ := hk
  have hk : r3 = [] := hk
  subst hk
  exact ⟨m, hm, x0, x1, x2, x3, rfl, h0, h1, h2, h3⟩
theorem shape_st47 (h : Shape Tryz.prog n 47 xs) : ∃ m, m < n ∧ ∃ x0 x1 x2 x3 x4 x5 x6 x7, xs = x0 ++ (x1 ++ (x2 ++ (x3 ++ (x4 ++ (x5 ++ (x6 ++ (x7 ++ []))))))) ∧ Shape Tryz.prog m 3 x0 ∧ Shape Tryz.prog m 3 x1 ∧ Shape Tryz.prog m 39 x2 ∧ Shape Tryz.prog m 45 x3 ∧ Shape Tryz.prog m 3 x4 ∧ Shape Tryz.prog m 4 x5 ∧ Shape Tryz.prog m 4 x6 ∧ Shape Tryz.prog m 43 x7 := by
  obtain ⟨m, hm, hk⟩ := shape_struct under47 h
  rw [fields47] at hk
  obtain ⟨x0, r0, rfl, h0, hk⟩ := hk
  obtain ⟨x1, r1, rfl, h1, hk⟩ := hk
  obtain ⟨x2, r2, rfl, h2, hk⟩ := hk
  obtain ⟨x3, r3, rfl, h3, hk⟩ := hk
  obtain ⟨x4, r4, rfl, h4, hk⟩ := hk
  obtain ⟨x5, r5, rfl, h5, hk⟩ := hk
  obtain ⟨x6, r6, rfl, h6, hk⟩ := hk
  obtain ⟨x7, r7, rfl, h7, hk⟩ := hk
  have hk : r7 = [] := hk
  subst hk
  exact ⟨m, hm, x0, x1, x2, x3, x4, x5, x6, x7, rfl, h0, h1, h2, h3, h4, h5, h6, h7⟩
theorem shape_st78 (h : Shape Tryz.prog n 78 xs) : ∃ m, m < n ∧ ∃ x0 x1 x2 x3 x4, xs = x0 ++ (x1 ++ (x2 ++ (x3 ++ (x4 ++ [])))) ∧ Shape Tryz.prog m 43 x0 ∧ Shape Tryz.prog m 3 x1 ∧ Shape Tryz.prog m 3 x2 ∧ Shape Tryz.prog m 56 x3 ∧ Shape Tryz.prog m 40 x4 := by
  obtain ⟨m, hm, hk⟩ := shape_struct under78 h
  rw [fields78] at hk
  obtain ⟨x0, r0, rfl, h0, hk⟩ := hk
  obtain ⟨x1, r1, rfl, h1, hk⟩ := hk
  obtain ⟨x2, r2, rfl, h2, hk⟩ := hk
  obtain ⟨x3, r3, rfl, h3, hk⟩ := hk
  obtain ⟨x4, r4, rfl, h4, hk⟩ := hk
  have hk : r4 = [] := hk
  subst hk
  exact ⟨m, hm, x0, x1, x2, x3, x4, rfl, h0, h1, h2, h3, h4⟩
theorem shape_st98 (h : Shape Tryz.prog n 98 xs) : ∃ m, m < n ∧ ∃ x0 x1 x2 x3 x4, xs = x0 ++ (x1 ++ (x2 ++ (x3 ++ (x4 ++ [])))) ∧ Shape Tryz.prog m 3 x0 ∧ Shape Tryz.prog m 3 x1 ∧ Shape Tryz.prog m 9 x2 ∧ Shape Tryz.prog m 40 x3 ∧ Shape Tryz.prog m 27 x4 := by
  obtain ⟨m, hm, hk⟩ := shape_struct under98 h
  rw [fields98] at hk
  obtain ⟨x0, r0, rfl, h0, hk⟩ := hk
  obtain ⟨x1, r1, rfl, h1, hk⟩ := hk
  obtain ⟨x2, r2, rfl, h2, hk⟩ := hk
  obtain ⟨x3, r3, rfl, h3, hk⟩ := hk
  obtain ⟨x4, r4, rfl, h4, hk⟩ := hk
  have hk : r4 = [] := hk
  subst hk
  exact ⟨m, hm, x0, x1, x2, x3, x4, rfl, h0, h1, h2, h3, h4⟩
theorem shape_st100 (h : Shape Tryz.prog n 100 xs) : ∃ m, m < n ∧ ∃ x0 x1, xs = x0 ++ (x1 ++ []) ∧ Shape Tryz.prog m 9 x0 ∧ Shape Tryz.prog m 98 x1 := by
  obtain ⟨m, hm, hk⟩ := shape_struct under100 h
  rw [fields100] at hk
  obtain ⟨x0, r0, rfl, h0, hk⟩ := hk
  obtain ⟨x1, r1, rfl, h1, hk⟩ := hk
  have hk : r1 = [] := hk
  subst hk
  exact ⟨m, hm, x0, x1, rfl, h0, h1⟩
theorem shape_st103 (h : Shape Tryz.prog n 103 xs) : ∃ m, m < n ∧ ∃ x0 x1, xs = x0 ++ (x1 ++ []) ∧ Shape Tryz.prog m 9 x0 ∧ Shape Tryz.prog m 30 x1 := by
  obtain ⟨m, hm, hk⟩ := shape_struct under103 h
  rw [fields103] at hk
  obtain ⟨x0, r0, rfl, h0, hk⟩ := hk
  obtain ⟨x1, r1, rfl, h1, hk⟩ := hk
  have hk : r1 = [] := hk
  subst hk
  exact ⟨m, hm, x0, x1, rfl, h0, h1⟩
theorem shape_st144 (h : Shape Tryz.prog n 144 xs) : ∃ m, m < n ∧ ∃ x0 x1 x2 x3 x4, xs = x0 ++ (x1 ++ (x2 ++ (x3 ++ (x4 ++ [])))) ∧ Shape Tryz.prog m 3 x0 ∧ Shape Tryz.prog m 9 x1 ∧ Shape Tryz.prog m 3 x2 ∧ Shape Tryz.prog m 26 x3 ∧ Shape Tryz.prog m 40 x4 := by
  obtain ⟨m, hm, hk⟩ := shape_struct under144 h
  rw [fields144] at hk
  obtain ⟨x0, r0, rfl, h0, hk⟩ := hk
  obtain ⟨x1, r1, rfl, h1, hk⟩ := hk
  obtain ⟨x2, r2, rfl, h2, hk⟩ := hk
  obtain ⟨x3, r3, rfl, h3, hk⟩ := hk
  obtain ⟨x4, r4, rfl, h4, hk⟩ := hk
  have hk : r4 = [] := hk
  subst hk
  exact ⟨m, hm, x0, x1, x2, x3, x4, rfl, h0, h1, h2, h3, h4⟩
theorem shape_st146 (h : Shape Tryz.prog n 146 xs) : ∃ m, m < n ∧ ∃ x0 x1, xs = x0 ++ (x1 ++ []) ∧ Shape Tryz.prog m 9 x0 ∧ Shape Tryz.prog m 43 x1 := by
  obtain ⟨m, hm, hk⟩ := shape_struct under146 h
  rw [fields146] at hk
  obtain ⟨x0, r0, rfl, h0, hk⟩ := hk
  obtain ⟨x1, r1, rfl, h1, hk⟩ := hk
  have hk : r1 = [] := hk
  subst hk
  exact ⟨m, hm, x0, x1, rfl, h0, h1⟩

theorem shape_val : ∀ (n : Nat) (xs : List X), Shape Tryz.prog n 43 xs → ∃ v : Val, xs = v.cells := by
  intro n
  induction n using Nat.strongRecOn with
  | _ n ih =>
    intro xs h
    obtain ⟨m, hm, x0, x1, x2, x3, x4, x5, rfl, h0, h1, h2, h3, h4, h5⟩ := shape_st43 h
    obtain ⟨k, rfl⟩ := shape_num h0
    obtain ⟨i, rfl⟩ := shape_num h1
    obtain ⟨s, rfl⟩ := shape_num h2
    obtain ⟨t, rfl⟩ := shape_text h3
    obtain ⟨es, rfl, m1, hm1, he⟩ := shape_sl40 h4
    obtain ⟨fs, rfl, m2, hm2, hf⟩ := shape_sl41 h5
    obtain ⟨l, rfl⟩ := list_of Val.cells fun c hc => ih m1 (by omega) c (he c hc)
    obtain ⟨f, rfl⟩ := list_of (fun p : ByteArray × Val => strX p.1 :: p.2.cells) (es := fs) fun c hc => by
      obtain ⟨m3, hm3, y0, y1, rfl, g0, g1⟩ := shape_st146 (hf c hc)
      obtain ⟨nm, rfl⟩ := shape_text g0
      obtain ⟨v, rfl⟩ := ih m3 (by omega) y1 g1
      exact ⟨(nm, v), by simp⟩
    exact ⟨.mk k i s t l f, by rw [Val.cells, cellsL_eq, cellsF_eq]; rfl⟩
theorem shape_vals (h : Shape Tryz.prog n 40 xs) : ∃ l : List Val, xs = [.sl false 6 (cellsL l)] := by
  obtain ⟨es, rfl, m, _, he⟩ := shape_sl40 h
  obtain ⟨l, rfl⟩ := list_of Val.cells fun c hc => shape_val m c (he c hc)
  exact ⟨l, by rw [cellsL_eq]⟩
theorem shape_isVals {es : List (List X)} {m : Nat} (h : ∀ c, c ∈ es → Shape Tryz.prog m 43 c) : ∀ c, c ∈ es → isVal c := fun c hc => shape_val m c (h c hc)
theorem shape_ints (h : Shape Tryz.prog n 32 xs) : ∃ l : List Int, xs = [.sl false 1 (intsC l)] := by
  obtain ⟨es, rfl, m, _, he⟩ := shape_sl32 h
  obtain ⟨l, rfl⟩ := list_of (fun z : Int => [num z]) fun c hc => shape_num (he c hc)
  exact ⟨l, rfl⟩
theorem shape_stp (h : Shape Tryz.prog n 39 xs) : ∃ s : Stp, xs = s.cells := by
  obtain ⟨m, hm, x0, x1, rfl, h0, h1⟩ := shape_st39 h
  obtain ⟨e, rfl⟩ := shape_num h0
  obtain ⟨p, rfl⟩ := shape_ints h1
  exact ⟨⟨e, p⟩, rfl⟩
theorem shape_msg (h : Shape Tryz.prog n 45 xs) : ∃ s : Msg, xs = s.cells := by
  obtain ⟨m, hm, x0, x1, x2, x3, rfl, h0, h1, h2, h3⟩ := shape_st45 h
  obtain ⟨s, rfl⟩ := shape_stp h0
  obtain ⟨k, rfl⟩ := shape_num h1
  obtain ⟨p, rfl⟩ := shape_ints h2
  obtain ⟨v, rfl⟩ := shape_val _ _ h3
  exact ⟨⟨s, k, p, v⟩, by simp [Msg.cells, Stp.cells]⟩
theorem shape_msgs (h : Shape Tryz.prog n 56 xs) : ∃ l : List Msg, xs = [.sl false 10 (msgsC l)] := by
  obtain ⟨es, rfl, m, _, he⟩ := shape_sl56 h
  obtain ⟨l, rfl⟩ := list_of Msg.cells fun c hc => shape_msg (he c hc)
  exact ⟨l, rfl⟩
theorem shape_slt (h : Shape Tryz.prog n 78 xs) : ∃ s : Slt, xs = s.cells := by
  obtain ⟨m, hm, x0, x1, x2, x3, x4, rfl, h0, h1, h2, h3, h4⟩ := shape_st78 h
  obtain ⟨⟨k, i, s, t, l, f⟩, rfl⟩ := shape_val _ _ h0
  obtain ⟨a, rfl⟩ := shape_num h1
  obtain ⟨b, rfl⟩ := shape_num h2
  obtain ⟨ms, rfl⟩ := shape_msgs h3
  obtain ⟨vs, rfl⟩ := shape_vals h4
  exact ⟨⟨.mk k i s t l f, a, b, ms, vs⟩, rfl⟩
theorem shape_stt (h : Shape Tryz.prog n 37 xs) : ∃ s : Stt, xs = s.cells := by
  obtain ⟨m, hm, x0, x1, x2, rfl, h0, h1, h2⟩ := shape_st37 h
  obtain ⟨a, rfl⟩ := shape_num h0
  obtain ⟨b, rfl⟩ := shape_num h1
  obtain ⟨es, rfl, m', _, he⟩ := shape_sl35 h2
  obtain ⟨l, rfl⟩ := list_of Slt.cells fun c hc => shape_slt (he c hc)
  exact ⟨⟨a, b, l⟩, rfl⟩
theorem shape_inp (h : Shape Tryz.prog n 47 xs) : ∃ i : Inp, xs = i.cells := by
  obtain ⟨m, hm, x0, x1, x2, x3, x4, x5, x6, x7, rfl, h0, h1, h2, h3, h4, h5, h6, h7⟩ := shape_st47 h
  obtain ⟨a, rfl⟩ := shape_num h0
  obtain ⟨b, rfl⟩ := shape_num h1
  obtain ⟨s, rfl⟩ := shape_stp h2
  obtain ⟨g, rfl⟩ := shape_msg h3
  obtain ⟨x, rfl⟩ := shape_num h4
  obtain ⟨b1, rfl⟩ := shape_flag h5
  obtain ⟨b2, rfl⟩ := shape_flag h6
  obtain ⟨v, rfl⟩ := shape_val _ _ h7
  exact ⟨⟨a, b, s, g, x, b1, b2, v⟩, by simp [Inp.cells, Msg.cells, Stp.cells]⟩
theorem shape_exp : ∀ (k : Nat) {n : Nat} {xs : List X}, Shape Tryz.prog n 98 xs → isExp k xs
  | 0, n, xs, h => by
    obtain ⟨m, hm, x0, x1, x2, x3, x4, rfl, h0, h1, h2, h3, h4⟩ := shape_st98 h
    obtain ⟨o, rfl⟩ := shape_num h0
    obtain ⟨i, rfl⟩ := shape_num h1
    obtain ⟨t, rfl⟩ := shape_text h2
    obtain ⟨vs, rfl, m1, _, hv⟩ := shape_sl40 h3
    obtain ⟨es, rfl, m2, _, he⟩ := shape_sl27 h4
    exact ⟨o, i, t, vs, es, rfl, shape_isVals hv⟩
  | k + 1, n, xs, h => by
    obtain ⟨m, hm, x0, x1, x2, x3, x4, rfl, h0, h1, h2, h3, h4⟩ := shape_st98 h
    obtain ⟨o, rfl⟩ := shape_num h0
    obtain ⟨i, rfl⟩ := shape_num h1
    obtain ⟨t, rfl⟩ := shape_text h2
    obtain ⟨vs, rfl, m1, _, hv⟩ := shape_sl40 h3
    obtain ⟨es, rfl, m2, _, he⟩ := shape_sl27 h4
    exact ⟨o, i, t, vs, es, rfl, shape_isVals hv, fun x hx => shape_exp k (he x hx)⟩
theorem shape_typ : ∀ (k : Nat) {n : Nat} {xs : List X}, Shape Tryz.prog n 26 xs → isTyp k xs
  | 0, n, xs, h => by
    obtain ⟨m, hm, x0, x1, x2, x3, x4, x5, x6, rfl, h0, h1, h2, h3, h4, h5, h6⟩ := shape_st26 h
    obtain ⟨a, rfl⟩ := shape_num h0
    obtain ⟨b, rfl⟩ := shape_num h1
    obtain ⟨c, rfl⟩ := shape_num h2
    obtain ⟨d, rfl⟩ := shape_num h3
    obtain ⟨w, rfl, m1, _, hw⟩ := shape_sl22 h4
    obtain ⟨e, rfl, m2, _, he⟩ := shape_sl23 h5
    obtain ⟨f, rfl, m3, _, hf⟩ := shape_sl24 h6
    exact ⟨a, b, c, d, w, e, f, rfl, fun x hx => shape_text (hw x hx)⟩
  | k + 1, n, xs, h => by
    obtain ⟨m, hm, x0, x1, x2, x3, x4, x5, x6, rfl, h0, h1, h2, h3, h4, h5, h6⟩ := shape_st26 h
    obtain ⟨a, rfl⟩ := shape_num h0
    obtain ⟨b, rfl⟩ := shape_num h1
    obtain ⟨c, rfl⟩ := shape_num h2
    obtain ⟨d, rfl⟩ := shape_num h3
    obtain ⟨w, rfl, m1, _, hw⟩ := shape_sl22 h4
    obtain ⟨e, rfl, m2, _, he⟩ := shape_sl23 h5
    obtain ⟨f, rfl, m3, _, hf⟩ := shape_sl24 h6
    refine ⟨a, b, c, d, w, e, f, rfl, fun x hx => shape_text (hw x hx), fun x hx => shape_typ k (he x hx), fun x hx => ?_⟩
    obtain ⟨m4, _, y0, y1, y2, T, y4, rfl, g0, g1, g2, g3, g4⟩ := shape_st144 (hf x hx)
    obtain ⟨p, rfl⟩ := shape_num g0
    obtain ⟨t, rfl⟩ := shape_text g1
    obtain ⟨y, rfl⟩ := shape_num g2
    obtain ⟨de, rfl, m5, _, hd⟩ := shape_sl40 g4
    exact ⟨p, t, y, T, de, by simp, shape_typ k g3, shape_isVals hd⟩
theorem shape_rule (h : Shape Tryz.prog n 100 xs) : isRule xs := by
  obtain ⟨m, hm, x0, x1, rfl, h0, h1⟩ := shape_st100 h
  obtain ⟨t, rfl⟩ := shape_text h0
  exact ⟨t, x1, by simp, shape_exp 3 h1⟩
theorem shape_rules (h : Shape Tryz.prog n 30 xs) : ∃ es, xs = [.sl false 6 es] ∧ ∀ x, x ∈ es → isRule x := by
  obtain ⟨m, hm, x0, rfl, h0⟩ := shape_st30 h
  obtain ⟨es, rfl, m1, _, he⟩ := shape_sl28 h0
  exact ⟨es, rfl, fun x hx => shape_rule (he x hx)⟩
theorem shape_call (h : Shape Tryz.prog n 103 xs) : isCall xs := by
  obtain ⟨m, hm, x0, x1, rfl, h0, h1⟩ := shape_st103 h
  obtain ⟨t, rfl⟩ := shape_text h0
  obtain ⟨es, rfl, he⟩ := shape_rules h1
  exact ⟨t, es, rfl, he⟩
theorem shape_node (h : Shape Tryz.prog n 34 xs) : isNode xs := by
  obtain ⟨m, hm, x0, x1, x2, x3, x4, x5, x6, x7, T, x9, x10, x11, x12, x13, rfl, h0, h1, h2, h3, h4, h5, h6, h7, h8, h9, h10, h11, h12, h13⟩ := shape_st34 h
  obtain ⟨name, rfl⟩ := shape_text h0
  obtain ⟨k1, rfl⟩ := shape_num h1
  obtain ⟨k2, rfl⟩ := shape_num h2
  obtain ⟨k3, rfl⟩ := shape_num h3
  obtain ⟨k4, rfl⟩ := shape_num h4
  obtain ⟨k5, rfl⟩ := shape_num h5
  obtain ⟨k6, rfl⟩ := shape_num h6
  obtain ⟨text, rfl⟩ := shape_text h7
  obtain ⟨ty, rfl, _, _, hty⟩ := shape_sl23 h9
  obtain ⟨ex, rfl, _, _, hex⟩ := shape_sl27 h10
  obtain ⟨ru, rfl, hru⟩ := shape_rules h11
  obtain ⟨ca, rfl, _, _, hca⟩ := shape_sl31 h12
  obtain ⟨ne, rfl, _, _, hne⟩ := shape_sl32 h13
  exact ⟨name, k1, k2, k3, k4, k5, k6, text, T, ty, ex, ru, ca, ne, by simp, shape_typ 3 h8, fun x hx => shape_typ 3 (hty x hx), fun x hx => shape_exp 3 (hex x hx), hru, fun x hx => shape_call (hca x hx)⟩
end Go.Proofs.YtjfheahakfoofaaGreatDoor

/- ThrottleDelays comes to true. -/
namespace Go.Proofs.YtjfheahakfoofaaGreatDoor
open Go.Em

theorem delayed_items {s : Stt} (hd : delayedS s = true) : ∀ x, x ∈ s.slots → x.items ≠ [] := fun x hx e => by
  simp only [delayedS, Bool.and_eq_true, Bool.not_eq_true'] at hd
  have := List.all_eq_true.1 hd.2.2 x hx
  obtain ⟨⟨k, i, s, tx, vl, fl⟩, n2, c, ms, vs⟩ := x
  dsimp only at e
  subst e
  simp [badD, msgsC] at this
theorem delF_ok {n : Nod} {s : Stt} (hs : s.small) (hacc : (accOf s.slots).length ≤ 3000) {b : Stp} (hb : b.p.length ≤ 100) (now : Int) : (delF n s b now).ok := by
  have h1 := goL_le now s.slots
  have hok : ∀ m, m ∈ goL now s.slots → m.ok := fun m hm => accOf_ok hs m (goL_mem hm)
  refine Ocm.ok_of ⟨?_, fun x hx => (hs.slot x (List.mem_filter.1 hx).1).1⟩ ⟨?_, outsF_ok hb hok (Nat.le_refl _)⟩ ⟨?_, fatesF_ok hb hok (Nat.le_refl _)⟩ (nilP _)
  · have := hs.slots
    have h2 : (stayL now s.slots).length ≤ s.slots.length := List.length_filter_le _ _
    show (stayL now s.slots).length ≤ 60000
    omega
  · show (outsF b (goL now s.slots) (goL now s.slots).length).length ≤ 60000
    simp [outsF]; omega
  · show (fatesF n.name b (goL now s.slots) (goL now s.slots).length).length ≤ 60000
    simp [fatesF]; omega

set_option maxRecDepth 100000 in
theorem delay_both (n : Nod) (hk : n.kind = 8) (s : Stt) (hs : s.small) (hne : ∀ x, x ∈ s.slots → x.items ≠ []) (hacc : (accOf s.slots).length ≤ 3000) (i : Inp) (hi : i.ok) : StepBoth n s i := by
  by_cases h1 : i.kind = 1
  · exact dmsg_step n hk s hs hne i hi h1
  have k8 : (n.kind == 8) = true := by simpa using hk
  by_cases h2 : i.kind = 2
  · refine ⟨delF n s i.st (nowF i), delF_ok hs hacc hi.st _, .inr (.inl ⟨h2, rfl⟩), fun N hN => ?_, fun N hN => mdel_clk N (by omega) n hk s hs hne hacc i hi h2⟩
    obtain ⟨M, rfl⟩ : ∃ M, N = M + 1 := ⟨N - 1, by omega⟩
    have hcl := clone_state_pure M s hs.ok (by omega)
    obtain ⟨ci, hci, e1, e2, e3⟩ := cin_of i
    have h := delay_clk M (by omega) n s hs hacc ci i.st hi.st e2 e3
    rw [e1] at h
    rw [h2] at hci
    rw [hci]
    change Gam.pureD (callF tab ext M) 30 [.agg n.cells, .agg s.cells, .agg (ci.cells 2)] = some (.agg (delF n s i.st (nowF i)).cells) at h
    generalize delF n s i.st (nowF i) = oc at h ⊢
    exact pure_of [(8, .p (.agg s.cells)), (11, .b true), (15, .p (.agg oc.cells))] [] (pf3 hcl k8 h) (x := .agg oc.cells) (bx := []) (by kernel_rfl) rfl
  · refine ⟨plainO s, plainO_ok hs.ok, .inr (.inr ⟨h1, h2, rfl⟩), fun N hN => ?_, fun N hN => ?_⟩
    · obtain ⟨M, rfl⟩ : ∃ M, N = M + 3 := ⟨N - 3, by omega⟩
      have hcl := clone_state_pure (M + 2) s hs.ok (by omega)
      have hnow := clamp_pure M i.time 0 17592186044416
      generalize clampF i.time 0 17592186044416 = now at hnow
      have k1 : (i.kind == 1) = false := by simp [h1]
      have k2 : (i.kind == 2) = false := by simp [h2]
      obtain ⟨kd, tm, ⟨se, sp⟩, ⟨⟨e, p⟩, ms, o, ⟨a1, a2, a3, a4, a5, a6⟩⟩, x, b1, b2, ⟨c1, c2, c3, c4, c5, c6⟩⟩ := i
      dsimp only at k1 k2 hnow
      have h30 : Gam.pureD (callF tab ext (M + 2)) 30 [.agg n.cells, .agg s.cells, .agg (inX se kd tm (intsC sp) e (intsC p) ms (intsC o) a1 a2 a3 a4 (cellsL a5) (cellsF a6) x b1 b2 c1 c2 c3 c4 (cellsL c5) (cellsF c6))] = some (.agg (plainO s).cells) :=
        pure_of [(15, .p (num now)), (19, .b false), (46, .b false)] [] (pf3 hnow k1 k2) (x := .agg [num s.n, num s.t, .sl false 10 (sltsC s.slots), .sl true 11 [], .sl true 11 [], .sl true 6 [], .sl true 10 []]) (bx := []) (by kernel_rfl) rfl
      generalize plainO s = oc at h30 ⊢
      exact pure_of [(8, .p (.agg s.cells)), (11, .b true), (15, .p (.agg oc.cells))] [] (pf3 hcl k8 h30) (x := .agg oc.cells) (bx := []) (by kernel_rfl) rfl
    · obtain ⟨M, rfl⟩ : ∃ M, N = M + 1 := ⟨N - 1, by omega⟩
      have hnow : (if 0 < (if 17592186044416 < i.time then 17592186044416 else i.time) then (if 17592186044416 < i.time then 17592186044416 else i.time) else 0) = nowF i := by
        unfold nowF clampF maxTime
        rw [minI_comm]; rfl
      have k1 : (i.kind == 1) = false := by simp [h1]
      have k2 : (i.kind == 2) = false := by simp [h2]
      generalize nowF i = now at hnow
      obtain ⟨kd, tm, ⟨se, sp⟩, ⟨⟨e, p⟩, ms, o, ⟨a1, a2, a3, a4, a5, a6⟩⟩, x, b1, b2, ⟨c1, c2, c3, c4, c5, c6⟩⟩ := i
      dsimp only at k1 k2 hnow
      exact pure_of [(15, .i now), (19, .b false), (51, .b false), (99, .b false), (109, .b false)] [] (pf5 hnow k1 k2 k1 k2) (x := .agg [num s.n, num s.t, .sl false 10 (sltsC s.slots), .sl true 11 [], .sl true 11 [], .sl true 6 [], .sl true 10 []]) (bx := []) (by kernel_rfl) rfl

set_option maxRecDepth 100000 in
theorem delays_all (cn : List X) (hcn : isNode cn) (s : Stt) (i : Inp) : callF tab ext 190301 (.fn 6) [.agg cn, .agg s.cells, .agg i.cells] [] = some (.v (.bool true), []) := by
  obtain ⟨nd, nd', rfl, hn⟩ := node_of hcn
  have hg := given_pure nd nd' hn s i 190300 (by omega)
  have hs := shortS_small s
  have hac := shortS_acc s
  have hi := shortN_ok i
  generalize shortS s = s' at hg hs hac
  generalize shortN i = i' at hg hi
  obtain ⟨c, hc⟩ := state_comes s' hs
  have hm := mcheck_pure { nd' with kind := 8 } s' hs c hc 190300 (by omega)
  have hk := known_at 189900
  generalize hf : checkF { nd' with kind := 8 } s' c = f at hm
  by_cases hz : f = 0
  · subst hz
    have hd : delayedS s' = true := by
      unfold checkF at hf
      rw [if_neg (show ¬ (8 : Int) = 7 by decide), if_pos rfl] at hf
      split at hf
      · rename_i h; exact absurd hf h
      · split at hf
        · rename_i h; exact h
        · cases hf
    obtain ⟨o, ho, _, h1, h2⟩ := delay_both { nd' with kind := 8 } rfl s' hs (delayed_items hd) (by omega) i' hi
    have h1 := h1 190300 (by omega)
    have h2 := h2 190300 (by omega)
    have h3 := ocm_same true 190300 o ho (by omega)
    rw [inX_cells] at hg
    rw [inX_cells i'] at hg h1 h2
    obtain ⟨kd, tm, ⟨se, sp⟩, ⟨⟨e, p⟩, ms, o', ⟨a1, a2, a3, a4, a5, a6⟩⟩, x, b1, b2, ⟨c1, c2, c3, c4, c5, c6⟩⟩ := i'
    rw [inX_cells]
    obtain ⟨kd', tm', ⟨se', sp'⟩, ⟨⟨e', p'⟩, ms', o'', ⟨a1', a2', a3', a4', a5', a6'⟩⟩, x', b1', b2', ⟨c1', c2', c3', c4', c5', c6'⟩⟩ := i
    dsimp only at hg h1 h2 ⊢
    exact callF_of [(11, .p (.tup [.agg nd'.cells, .agg s'.cells, .agg (inX se kd tm (intsC sp) e (intsC p) ms (intsC o') a1 a2 a3 a4 (cellsL a5) (cellsF a6) x b1 b2 c1 c2 c3 c4 (cellsL c5) (cellsF c6))])), (16, .p (boolX true)), (21, .p (num 0)), (28, .p (.agg o.cells)), (32, .p (.agg (o.cellsB true))), (33, .p (boolX true))] [] (pf6 hg hk hm h1 h2 h3) (by kernel_rfl)
  · have hz' : (!(f == 0)) = true := by simp [hz]
    rw [inX_cells] at hg
    rw [inX_cells i'] at hg
    obtain ⟨kd, tm, ⟨se, sp⟩, ⟨⟨e, p⟩, ms, o', ⟨a1, a2, a3, a4, a5, a6⟩⟩, x, b1, b2, ⟨c1, c2, c3, c4, c5, c6⟩⟩ := i'
    rw [inX_cells]
    obtain ⟨kd', tm', ⟨se', sp'⟩, ⟨⟨e', p'⟩, ms', o'', ⟨a1', a2', a3', a4', a5', a6'⟩⟩, x', b1', b2', ⟨c1', c2', c3', c4', c5', c6'⟩⟩ := i
    dsimp only at hg ⊢
    exact callF_of [(11, .p (.tup [.agg nd'.cells, .agg s'.cells, .agg (inX se kd tm (intsC sp) e (intsC p) ms (intsC o') a1 a2 a3 a4 (cellsL a5) (cellsF a6) x b1 b2 c1 c2 c3 c4 (cellsL c5) (cellsF c6))])), (16, .p (boolX true)), (21, .p (num f)), (22, .b true), (24, .p (boolX true))] [] (pf5 hg hk hm hz' hk) (by kernel_rfl)
end Go.Proofs.YtjfheahakfoofaaGreatDoor

/- Masses of messages. -/
namespace Go.Proofs.YtjfheahakfoofaaGreatDoor
open Go.Em

def sumM : List Msg → Int
  | [] => 0
  | m :: r => m.mass + sumM r
theorem sumM_append : ∀ l m : List Msg, sumM (l ++ m) = sumM l + sumM m
  | [], m => by simp [sumM]
  | x :: r, m => by simp only [List.cons_append, sumM, sumM_append r m]; omega
/-- A mass as layer 31 bounds it. -/
def lightM (m : Msg) : Prop := 0 ≤ m.mass ∧ m.mass ≤ 1099511627776
theorem sumM_bound : ∀ {l : List Msg}, (∀ m, m ∈ l → lightM m) → 0 ≤ sumM l ∧ sumM l ≤ 1099511627776 * Int.ofNat l.length
  | [], _ => by simp [sumM]
  | x :: r, h => by
    obtain ⟨h1, h2⟩ := sumM_bound (l := r) fun m hm => h m (List.mem_cons_of_mem _ hm)
    obtain ⟨h3, h4⟩ := h x (by simp)
    simp only [sumM, List.length_cons, Int.ofNat_eq_natCast] at h1 h2 ⊢
    omega
theorem heavy_light (N : Nat) (m : Msg) (h : lightM m) : Gam.pureD (callF tab ext (N + 1)) 36 [num m.mass] = some (boolX false) :=
  pure_of [(4, .b false), (7, .b false)] [] (pf2 (decide_eq_false (show ¬ m.mass < 0 by have := h.1; omega)) (decide_eq_false (show ¬ m.mass > 1099511627776 by have := h.2; omega))) (x := boolX false) (bx := []) (by kernel_rfl) rfl
theorem f78_light (N : Nat) (m : Msg) (h : lightM m) : Gam.pureD (callF tab ext (N + 2)) 78 [.agg m.cells] = some (boolX false) := by
  have hv := heavy_light N m h
  obtain ⟨⟨e, p⟩, ms, o, ⟨a1, a2, a3, a4, a5, a6⟩⟩ := m
  exact pure_of [(5, .p (boolX false))] [] (pf1 hv) (x := boolX false) (bx := []) (by kernel_rfl) rfl
def i8H (l : List (List X)) (n j : Nat) : St := ⟨[(0, .sl false 10 l), (1, .fn 78 []), (7, nat n), (8, nat j)], []⟩
theorem i8_canon (l : List (List X)) (n j : Nat) : canon 0 (i8H l n j) = some (i8H l n j) := by kernel_rfl
def msH (l : List (List X)) (n j : Nat) (s : Int) : St := ⟨[(3, num s), (13, .sl false 10 l), (14, nat n), (15, nat j)], []⟩
def msN (l : List (List X)) (n j : Nat) (s : Int) (x : List X) : St := ⟨[(3, num s), (13, .sl false 10 l), (14, nat n), (15, nat (j + 1))], [.var x]⟩
theorem ms_canon (l : List (List X)) (n j : Nat) (s : Int) (x : List X) : canon 0 (msN l n j s x) = some (msH l n (j + 1) s) := by kernel_rfl
theorem none_heavy (N : Nat) (hN : 1010 ≤ N) (ms : List Msg) (hl : ms.length ≤ 1000) (h : ∀ m, m ∈ ms → lightM m) : Gam.pureD (callF tab ext N) 77 [.sl false 10 (msgsC ms), .fn 78 []] = some (boolX false) := by
  obtain ⟨M, rfl⟩ : ∃ M, N = M + 4 := ⟨N - 4, by omega⟩
  have hn := msgsC_length ms
  have hloop : run (callF tab ext (M + 2)) 0 (M + 2) (.loop (loopAt 112 0)) ⟨[(0, .sl false 10 (msgsC ms)), (1, .fn 78 []), (7, nat (msgsC ms).length), (8, num 0)], []⟩ = some (.exit 0, ⟨[(0, .sl false 10 (msgsC ms)), (1, .fn 78 []), (7, nat (msgsC ms).length), (8, nat (msgsC ms).length), (9, boolX false)], []⟩) := by
    refine loop_for (σ := fun j => i8H (msgsC ms) (msgsC ms).length j) (k := (msgsC ms).length) (by kernel_rfl) (fun j hj => ?_) ?_ (by simp) (by omega)
    · have hj' : j < ms.length := by omega
      have hg := msgsC_get hj'
      have hc := f78_light M _ (h _ (List.getElem_mem hj'))
      have hnx := next_nat (j := j) (by omega)
      generalize ms[j] = m at hg hc
      obtain ⟨⟨e, p⟩, mm, o, ⟨a1, a2, a3, a4, a5, a6⟩⟩ := m
      exact ⟨i8H (msgsC ms) (msgsC ms).length (j + 1), run_of [(9, .b true), (14, .e (Msg.mk ⟨e, p⟩ mm o (.mk a1 a2 a3 a4 a5 a6)).cells), (16, .p (boolX false)), (18, .i (Int.ofNat (j + 1)))] [] (pf4 (lt_nat hj) hg hc hnx) (lo' := []) (by kernel_rfl), i8_canon ..⟩
    · exact run_of [(9, .b false)] [] (pf1 (nlt_nat (Nat.lt_irrefl (msgsC ms).length))) (lo' := []) (by kernel_rfl)
  have h112 : Gam.pureD (callF tab ext (M + 3)) 112 [.sl false 10 (msgsC ms), .fn 78 []] = some (num (-1)) :=
    pure_of [] [(.exit 0, ⟨[(0, .sl false 10 (msgsC ms)), (1, .fn 78 []), (7, nat (msgsC ms).length), (8, nat (msgsC ms).length), (9, boolX false)], []⟩)] (pf1 hloop) (x := num (-1)) (bx := []) (by kernel_rfl) rfl
  exact pure_of [(7, .p (num (-1)))] [] (pf1 h112) (x := boolX false) (bx := []) (by kernel_rfl) rfl
theorem mass_msgs (N : Nat) (hN : 1020 ≤ N) (ms : List Msg) (hl : ms.length ≤ 1000) (h : ∀ m, m ∈ ms → lightM m) : Gam.pureD (callF tab ext N) 32 [.sl false 10 (msgsC ms)] = some (num (sumM ms)) := by
  obtain ⟨M, rfl⟩ : ∃ M, N = M + 1 := ⟨N - 1, by omega⟩
  have hn := msgsC_length ms
  have hnone := none_heavy M (by omega) ms hl h
  have h8 : decide (Int.ofNat (msgsC ms).length > 1024) = false := decide_eq_false (by simp only [Int.ofNat_eq_natCast]; omega)
  have hloop : run (callF tab ext M) 0 M (.loop (loopAt 32 0)) ⟨[(3, num 0), (13, .sl false 10 (msgsC ms)), (14, nat (msgsC ms).length), (15, num 0)], []⟩ = some (.exit 0, ⟨[(3, num (sumM ms)), (13, .sl false 10 (msgsC ms)), (14, nat (msgsC ms).length), (15, nat (msgsC ms).length), (16, boolX false)], []⟩) := by
    refine loop_for (σ := fun j => msH (msgsC ms) (msgsC ms).length j (sumM (ms.take j))) (k := (msgsC ms).length) (by kernel_rfl) (fun j hj => ?_) ?_ (by simp) (by omega)
    · have hj' : j < ms.length := by omega
      have hg := msgsC_get hj'
      have hlm := h _ (List.getElem_mem hj')
      have hb := sumM_bound (l := ms.take j) fun m hm => h m (List.mem_of_mem_take hm)
      have hnx := next_nat (j := j) (by omega)
      have e1 : sumM (ms.take (j + 1)) = sumM (ms.take j) + ms[j].mass := by
        rw [List.take_succ_eq_append_getElem hj', sumM_append]; simp [sumM]
      have hlt : (ms.take j).length ≤ 1000 := by rw [List.length_take]; omega
      have hw : IntKind.i64.wrap (sumM (ms.take j) + ms[j].mass) = sumM (ms.take (j + 1)) := by
        rw [e1, IntKind.wrap_i64]
        obtain ⟨h1, h2⟩ := hlm
        obtain ⟨h3, h4⟩ := hb
        simp only [Int.ofNat_eq_natCast] at h4
        omega
      generalize sumM (ms.take (j + 1)) = s1 at hw
      generalize sumM (ms.take j) = s0 at hw ⊢
      generalize ms[j] = m at hg hw
      obtain ⟨⟨e, p⟩, mm, o, ⟨a1, a2, a3, a4, a5, a6⟩⟩ := m
      exact ⟨msN (msgsC ms) (msgsC ms).length j s1 (Msg.mk ⟨e, p⟩ mm o (.mk a1 a2 a3 a4 a5 a6)).cells, run_of [(16, .b true), (17, .e (Msg.mk ⟨e, p⟩ mm o (.mk a1 a2 a3 a4 a5 a6)).cells), (22, .i s1), (23, .i (Int.ofNat (j + 1)))] [] (pf4 (lt_nat hj) hg hw hnx) (lo' := []) (by kernel_rfl), ms_canon ..⟩
    · have e : ms.take (msgsC ms).length = ms := List.take_of_length_le (by omega)
      rw [e]
      exact run_of [(16, .b false)] [] (pf1 (nlt_nat (Nat.lt_irrefl (msgsC ms).length))) (lo' := []) (by kernel_rfl)
  exact pure_of [(8, .b false), (11, .p (boolX false))] [(.exit 0, ⟨[(3, num (sumM ms)), (13, .sl false 10 (msgsC ms)), (14, nat (msgsC ms).length), (15, nat (msgsC ms).length), (16, boolX false)], []⟩)] (pf3 h8 hnone hloop) (x := num (sumM ms)) (bx := []) (by kernel_rfl) rfl
theorem mass_state (N : Nat) (hN : 190040 ≤ N) (s : Stt) (hs : s.small) (hl : (accOf s.slots).length ≤ 1000) (h : ∀ m, m ∈ accOf s.slots → lightM m) : Gam.pureD (callF tab ext N) 13 [.agg s.cells] = some (num (sumM (accOf s.slots))) := by
  obtain ⟨M, rfl⟩ : ∃ M, N = M + 1 := ⟨N - 1, by omega⟩
  have hw := waiting_pure s hs M (by omega)
  have hm := mass_msgs M (by omega) (accOf s.slots) hl h
  generalize sumM (accOf s.slots) = z at hm ⊢
  exact pure_of [(4, .p (.sl false 10 (msgsC (accOf s.slots)))), (5, .p (num z))] [] (pf2 hw hm) (x := num z) (bx := []) (by kernel_rfl) rfl
end Go.Proofs.YtjfheahakfoofaaGreatDoor

/- What a step keeps: numbers and masses of messages. -/
namespace Go.Proofs.YtjfheahakfoofaaGreatDoor
open Go.Em

theorem accOf_set {ss : List Slt} {i : Nat} (h : i < ss.length) (x : Slt) : accOf (ss.set i x) = accOf (ss.take i) ++ x.items ++ accOf (ss.drop (i + 1)) := by
  rw [List.set_eq_take_append_cons_drop, if_pos h]
  simp [accOf]
theorem accOf_at {ss : List Slt} {i : Nat} (h : i < ss.length) : accOf ss = accOf (ss.take i) ++ ss[i].items ++ accOf (ss.drop (i + 1)) := by
  have := accOf_set h ss[i]
  rw [List.set_getElem_self] at this
  exact this
/-- A list of messages that is another one with one more, in some place. -/
def OneMore (m : Msg) (l l' : List Msg) : Prop := ∃ a b, l = a ++ b ∧ l' = a ++ [m] ++ b
theorem OneMore.length {m : Msg} {l l' : List Msg} (h : OneMore m l l') : l'.length = l.length + 1 := by
  obtain ⟨a, b, rfl, rfl⟩ := h
  simp; omega
theorem OneMore.sum {m : Msg} {l l' : List Msg} (h : OneMore m l l') : sumM l' = sumM l + m.mass := by
  obtain ⟨a, b, rfl, rfl⟩ := h
  simp only [sumM_append, sumM]; omega
theorem OneMore.mem {m : Msg} {l l' : List Msg} (h : OneMore m l l') : ∀ x, x ∈ l' → x = m ∨ x ∈ l := by
  obtain ⟨a, b, rfl, rfl⟩ := h
  intro x hx
  simp only [List.mem_append, List.mem_singleton] at hx ⊢
  rcases hx with (hx | hx) | hx
  · exact .inr (.inl hx)
  · exact .inl hx
  · exact .inr (.inr hx)
theorem gainS_one {b : Bool} {i : Nat} {key : Val} {t : Int} {m : Msg} {ss : List Slt} (hb : b = true → i < ss.length) : OneMore m (accOf ss) (accOf (gainS b i key t m ss)) := by
  unfold gainS putS
  cases b with
  | true =>
    have h := hb rfl
    rw [if_pos rfl, if_pos rfl, accOf_set h]
    have e : ss.getD i dSlt = ss[i] := by rw [List.getD_eq_getElem?_getD, List.getElem?_eq_getElem h]; rfl
    rw [e]
    refine ⟨accOf (ss.take i) ++ ss[i].items, accOf (ss.drop (i + 1)), accOf_at h, ?_⟩
    show accOf (ss.take i) ++ (ss[i].items ++ [m]) ++ accOf (ss.drop (i + 1)) = _
    simp
  | false =>
    rw [if_neg (by simp), if_neg (by simp)]
    refine ⟨accOf (ss.take i), accOf (ss.drop i), ?_, ?_⟩
    · unfold accOf; rw [← List.flatMap_append, List.take_append_drop]
    · simp [accOf]
theorem sum_out {b : Stp} {ms : List Msg} {k : Nat} (hk : k ≤ ms.length) : sumM ((outsF b ms k).map (·.m)) = sumM (ms.take k) := by
  induction k with
  | zero => simp [outsF, sumM]
  | succ k ih =>
    have hk' : k < ms.length := by omega
    have e1 : outsF b ms (k + 1) = outsF b ms k ++ [outM b (ms.getD k dM) k] := by simp [outsF, List.range_succ]
    rw [e1, List.map_append, sumM_append, ih (by omega), List.take_succ_eq_append_getElem hk', sumM_append]
    have e2 : ms.getD k dM = ms[k] := by rw [List.getD_eq_getElem?_getD, List.getElem?_eq_getElem hk']; rfl
    rw [e2]
    simp [sumM, outM, moveF]
theorem sum_split (now : Int) : ∀ ss : List Slt, sumM (accOf ss) = sumM (goL now ss) + sumM (accOf (stayL now ss))
  | [] => rfl
  | x :: r => by
    have ih := sum_split now r
    have e1 : accOf (x :: r) = x.items ++ accOf r := by simp [accOf]
    rw [e1, sumM_append, ih]
    unfold goL stayL
    rw [List.filter_cons, List.filter_cons]
    by_cases h : x.t ≤ now
    · rw [if_pos (decide_eq_true h), if_neg (by simpa using h)]
      have e2 : accOf (x :: r.filter fun x => decide (x.t ≤ now)) = x.items ++ accOf (r.filter fun x => decide (x.t ≤ now)) := by simp [accOf]
      rw [e2, sumM_append]; omega
    · rw [if_neg (by simpa using h), if_pos (by simpa using h)]
      have e2 : accOf (x :: r.filter fun x => !decide (x.t ≤ now)) = x.items ++ accOf (r.filter fun x => !decide (x.t ≤ now)) := by simp [accOf]
      rw [e2, sumM_append]; omega
end Go.Proofs.YtjfheahakfoofaaGreatDoor

/- The balance's two loops. -/
namespace Go.Proofs.YtjfheahakfoofaaGreatDoor
open Go.Em

def b1H (o : Ocm) (s : Int) (j : Nat) : St := ⟨[(7, .ptr 0 0 0), (8, num s), (9, nat j)], [.var o.cells]⟩
def b2H (o : Ocm) (s : Int) (j : Nat) : St := ⟨[(7, .ptr 0 0 0), (8, num s), (10, nat j)], [.var o.cells]⟩
theorem b1_canon (o : Ocm) (s : Int) (j : Nat) : canon 0 (b1H o s j) = some (b1H o s j) := by kernel_rfl
theorem b2_canon (o : Ocm) (s : Int) (j : Nat) : canon 0 (b2H o s j) = some (b2H o s j) := by kernel_rfl
theorem wrap_self {z : Int} (h0 : -9223372036854775808 ≤ z) (h1 : z ≤ 9223372036854775807) : IntKind.i64.wrap z = z := by
  rw [IntKind.wrap_i64]; omega
theorem bal_loop2 (M : Nat) (hM : 100 ≤ M) (o : Ocm) (S : Int) (hS : -1000000000000000 ≤ S ∧ S ≤ 1000000000000000) (hl : o.letters.length ≤ 40) (hm : ∀ m, m ∈ o.letters → lightM m) {τ : St} (hτ : canon 0 τ = some (b2H o S 0)) :
    run (callF tab ext M) 0 M (.loop (loopAt 3 1)) τ = some (.exit 2, ⟨[(7, .ptr 0 0 0), (8, num (S - sumM o.letters)), (10, nat (msgsC o.letters).length), (90, boolX false)], [.var o.cells]⟩) := by
  have hn := msgsC_length o.letters
  refine loop_for (σ := fun j => b2H o (S - sumM (o.letters.take j)) j) (k := (msgsC o.letters).length) (by rw [hτ, List.take_zero]; simp [sumM]) (fun j hj => ?_) ?_ (by simp) (by omega)
  · have hj' : j < o.letters.length := by omega
    have hg := msgsC_get hj'
    have hlm := hm _ (List.getElem_mem hj')
    have hb := sumM_bound (l := o.letters.take j) fun m h => hm m (List.mem_of_mem_take h)
    have hnx := next_nat (j := j) (by omega)
    have hlt : (o.letters.take j).length ≤ 40 := by rw [List.length_take]; omega
    have e1 : sumM (o.letters.take (j + 1)) = sumM (o.letters.take j) + o.letters[j].mass := by
      rw [List.take_succ_eq_append_getElem hj', sumM_append]; simp [sumM]
    have hw : IntKind.i64.wrap (S - sumM (o.letters.take j) - o.letters[j].mass) = S - sumM (o.letters.take (j + 1)) := by
      rw [e1]
      obtain ⟨h1, h2⟩ := hlm
      obtain ⟨h3, h4⟩ := hb
      simp only [Int.ofNat_eq_natCast] at h4
      rw [wrap_self (by omega) (by omega)]; omega
    generalize S - sumM (o.letters.take (j + 1)) = s1 at hw ⊢
    generalize S - sumM (o.letters.take j) = s0 at hw ⊢
    generalize o.letters[j] = m at hg hw
    obtain ⟨⟨e, p⟩, mm, og, ⟨a1, a2, a3, a4, a5, a6⟩⟩ := m
    exact ⟨b2H o s1 (j + 1), run_of [(90, .b true), (97, .e (Msg.mk ⟨e, p⟩ mm og (.mk a1 a2 a3 a4 a5 a6)).cells), (100, .i s1), (92, .i (Int.ofNat (j + 1)))] [] (pf4 (lt_nat hj) hg hw hnx) (lo' := []) (by kernel_rfl), b2_canon ..⟩
  · have e : o.letters.take (msgsC o.letters).length = o.letters := List.take_of_length_le (by omega)
    rw [e]
    exact run_of [(90, .b false)] [] (pf1 (nlt_nat (Nat.lt_irrefl (msgsC o.letters).length))) (lo' := []) (by kernel_rfl)
theorem bal_loop1 (M : Nat) (hM : 100 ≤ M) (o : Ocm) (S : Int) (hS : -1000000000000000 ≤ S ∧ S ≤ 1000000000000000) (hl : o.outs.length ≤ 40) (hm : ∀ m, m ∈ o.outs.map (·.m) → lightM m) {τ : St} (hτ : canon 0 τ = some (b1H o S 0)) :
    run (callF tab ext M) 0 M (.loop (loopAt 3 0)) τ = some (.exit 0, ⟨[(7, .ptr 0 0 0), (8, num (S - sumM (o.outs.map (·.m)))), (9, nat (otpsC o.outs).length), (74, boolX false)], [.var o.cells]⟩) := by
  have hn := otpsC_length o.outs
  refine loop_for (σ := fun j => b1H o (S - sumM ((o.outs.map (·.m)).take j)) j) (k := (otpsC o.outs).length) (by rw [hτ, List.take_zero]; simp [sumM]) (fun j hj => ?_) ?_ (by simp) (by omega)
  · have hj' : j < o.outs.length := by omega
    have hj2 : j < (o.outs.map (·.m)).length := by simpa using hj'
    have hg : (otpsC o.outs)[j]? = some o.outs[j].cells := by simp [otpsC, hj']
    have hlm := hm _ (List.getElem_mem hj2)
    have hb := sumM_bound (l := (o.outs.map (·.m)).take j) fun m h => hm m (List.mem_of_mem_take h)
    have hnx := next_nat (j := j) (by omega)
    have hlt : ((o.outs.map (·.m)).take j).length ≤ 40 := by rw [List.length_take, List.length_map]; omega
    have e0 : (o.outs.map (·.m))[j] = o.outs[j].m := by simp
    rw [e0] at hlm
    have e1 : sumM ((o.outs.map (·.m)).take (j + 1)) = sumM ((o.outs.map (·.m)).take j) + o.outs[j].m.mass := by
      rw [List.take_succ_eq_append_getElem hj2, sumM_append, e0]; simp [sumM]
    have hw : IntKind.i64.wrap (S - sumM ((o.outs.map (·.m)).take j) - o.outs[j].m.mass) = S - sumM ((o.outs.map (·.m)).take (j + 1)) := by
      rw [e1]
      obtain ⟨h1, h2⟩ := hlm
      obtain ⟨h3, h4⟩ := hb
      simp only [Int.ofNat_eq_natCast] at h4
      rw [wrap_self (by omega) (by omega)]; omega
    generalize S - sumM ((o.outs.map (·.m)).take (j + 1)) = s1 at hw ⊢
    generalize S - sumM ((o.outs.map (·.m)).take j) = s0 at hw ⊢
    generalize o.outs[j] = x at hg hw
    obtain ⟨pt, ⟨⟨e, p⟩, mm, og, ⟨a1, a2, a3, a4, a5, a6⟩⟩⟩ := x
    exact ⟨b1H o s1 (j + 1), run_of [(74, .b true), (81, .e (Otp.mk pt ⟨⟨e, p⟩, mm, og, .mk a1 a2 a3 a4 a5 a6⟩).cells), (85, .i s1), (76, .i (Int.ofNat (j + 1)))] [] (pf4 (lt_nat hj) hg hw hnx) (lo' := []) (by kernel_rfl), b1_canon ..⟩
  · have e : (o.outs.map (·.m)).take (otpsC o.outs).length = o.outs.map (·.m) := List.take_of_length_le (by rw [List.length_map]; omega)
    rw [e]
    exact run_of [(74, .b false)] [] (pf1 (nlt_nat (Nat.lt_irrefl (otpsC o.outs).length))) (lo' := []) (by kernel_rfl)
end Go.Proofs.YtjfheahakfoofaaGreatDoor

/- Masses of cut messages; the state behind a release of a throttle. -/
namespace Go.Proofs.YtjfheahakfoofaaGreatDoor
open Go.Em

theorem light_short (m : Msg) : lightM (shortM m) := by
  show 0 ≤ cutM2 (cutM1 m.mass) ∧ cutM2 (cutM1 m.mass) ≤ 1099511627776
  unfold cutM2 cutM1
  constructor <;> (split <;> split <;> omega)
theorem light_shortS (s : Stt) : ∀ m, m ∈ accOf (shortS s).slots → lightM m := fun m hm => by
  obtain ⟨x, hx, hm⟩ := List.mem_flatMap.1 hm
  obtain ⟨y, _, rfl⟩ := List.mem_map.1 hx
  obtain ⟨z, _, rfl⟩ := List.mem_map.1 hm
  exact light_short z
theorem acc_rest {s : Stt} (ht : Thr s) (k : Nat) (hk : k ≤ (accOf s.slots).length) : accOf (restF s k).slots = (accOf s.slots).drop k := by
  cases ht with
  | none a b => simp [restF, accOf]
  | one a b items vals h =>
    have e : (accOf [(⟨nulV, 0, 0, items, vals⟩ : Slt)]) = items := by simp [accOf]
    dsimp only at hk ⊢
    rw [e] at hk ⊢
    unfold restF
    dsimp only
    split
    · simp [accOf]
    · rename_i hlt
      simp only [accOf, List.flatMap_nil]
      rw [List.drop_eq_nil_of_le]
      omega
end Go.Proofs.YtjfheahakfoofaaGreatDoor

/- What a step of a throttle or a delay keeps. -/
namespace Go.Proofs.YtjfheahakfoofaaGreatDoor
open Go.Em

/-- What comes in with an input. -/
def inM (i : Inp) : Int := if i.kind = 1 then i.m.mass else 0
/-- Masses are kept, and there are not many. -/
structure BalOk (o : Ocm) (s : Stt) (i : Inp) : Prop where
  outs : o.outs.length ≤ 24
  letters : o.letters.length ≤ 1
  held : (accOf o.s.slots).length ≤ 25
  light : ∀ m, m ∈ accOf o.s.slots → lightM m
  lightO : ∀ m, m ∈ o.outs.map (·.m) → lightM m
  lightL : ∀ m, m ∈ o.letters → lightM m
  sum : sumM (accOf o.s.slots) + sumM (o.outs.map (·.m)) + sumM o.letters = sumM (accOf s.slots) + inM i
theorem bal_plain {s : Stt} {i : Inp} (h1 : i.kind ≠ 1) (hl : (accOf s.slots).length ≤ 24) (hm : ∀ m, m ∈ accOf s.slots → lightM m) : BalOk (plainO s) s i :=
  ⟨by simp [plainO], by simp [plainO], by show (accOf s.slots).length ≤ 25; omega, hm, fun m h => by simp [plainO] at h, fun m h => by simp [plainO] at h, by simp [plainO, sumM, inM, h1]⟩
theorem bal_rej {n : Nod} {s : Stt} {i : Inp} (h1 : i.kind = 1) (hl : (accOf s.slots).length ≤ 24) (hm : ∀ m, m ∈ accOf s.slots → lightM m) (hi : lightM i.m) : BalOk (rejF n s i.m) s i :=
  ⟨by simp [rejF], by simp [rejF], by show (accOf s.slots).length ≤ 25; omega, hm, fun m h => by simp [rejF] at h, fun m h => by simp [rejF] at h; rw [h]; exact hi, by simp [rejF, sumM, inM, h1]⟩
theorem bal_more {s s' : Stt} {i : Inp} (h1 : i.kind = 1) (hl : (accOf s.slots).length ≤ 24) (hm : ∀ m, m ∈ accOf s.slots → lightM m) (hi : lightM i.m) (h : OneMore i.m (accOf s.slots) (accOf s'.slots)) : BalOk (plainO s') s i :=
  ⟨by simp [plainO], by simp [plainO], by show (accOf s'.slots).length ≤ 25; rw [h.length]; omega, fun m hmm => by rcases h.mem m hmm with rfl | h2
                                                                                                                   · exact hi
                                                                                                                   · exact hm m h2, fun m h => by simp [plainO] at h, fun m h => by simp [plainO] at h, by simp [plainO, sumM, inM, h1, h.sum]⟩
end Go.Proofs.YtjfheahakfoofaaGreatDoor

/- What a release keeps. -/
namespace Go.Proofs.YtjfheahakfoofaaGreatDoor
open Go.Em

theorem out_light {b : Stp} {ms : List Msg} {k : Nat} (hk : k ≤ ms.length) (hm : ∀ m, m ∈ ms → lightM m) : ∀ m, m ∈ (outsF b ms k).map (·.m) → lightM m := fun m h => by
  obtain ⟨x, hx, rfl⟩ := List.mem_map.1 h
  obtain ⟨i, hi, rfl⟩ := List.mem_map.1 hx
  exact hm (ms.getD i dM) (getD_mem (by have := List.mem_range.1 hi; omega))
theorem stay_sub {now : Int} {ss : List Slt} {m : Msg} (h : m ∈ accOf (stayL now ss)) : m ∈ accOf ss := by
  obtain ⟨x, hx, hm⟩ := List.mem_flatMap.1 h
  exact List.mem_flatMap.2 ⟨x, (List.mem_filter.1 hx).1, hm⟩
theorem stay_le (now : Int) : ∀ ss : List Slt, (accOf (stayL now ss)).length ≤ (accOf ss).length
  | [] => Nat.le_refl _
  | x :: r => by
    have := stay_le now r
    unfold stayL at this ⊢
    rw [List.filter_cons]
    split
    · simp only [accOf, List.flatMap_cons, List.length_append] at this ⊢; omega
    · simp only [accOf, List.flatMap_cons, List.length_append] at this ⊢; omega
theorem bal_del {n : Nod} {s : Stt} {i : Inp} (b : Stp) (now : Int) (h1 : i.kind = 2) (hl : (accOf s.slots).length ≤ 24) (hm : ∀ m, m ∈ accOf s.slots → lightM m) : BalOk (delF n s b now) s i := by
  have hg := goL_le now s.slots
  have hs := stay_le now s.slots
  have hsp := sum_split now s.slots
  refine ⟨?_, by simp [delF], ?_, fun m h => hm m (stay_sub h), out_light (Nat.le_refl _) fun m h => hm m (goL_mem h), fun m h => by simp [delF] at h, ?_⟩
  · show (outsF b (goL now s.slots) (goL now s.slots).length).length ≤ 24
    simp [outsF]; omega
  · show (accOf (stayL now s.slots)).length ≤ 25
    omega
  · have e : sumM ((outsF b (goL now s.slots) (goL now s.slots).length).map (·.m)) = sumM (goL now s.slots) := by rw [sum_out (Nat.le_refl _), List.take_length]
    show sumM (accOf (stayL now s.slots)) + sumM ((outsF b (goL now s.slots) (goL now s.slots).length).map (·.m)) + sumM [] = _
    rw [e, hsp]
    simp [sumM, inM, h1]; omega
end Go.Proofs.YtjfheahakfoofaaGreatDoor

/- What a throttle's step keeps, and a delay's. -/
namespace Go.Proofs.YtjfheahakfoofaaGreatDoor
open Go.Em

theorem addF_more {s : Stt} (ht : Thr s) (m : Msg) : OneMore m (accOf s.slots) (accOf (addF s m).slots) := by
  cases ht with
  | none a b => exact ⟨[], [], by simp [accOf], by simp [addF, accOf]⟩
  | one a b items vals h => exact ⟨items, [], by simp [accOf], by simp [addF, accOf]⟩
theorem bal_thr {n : Nod} {s : Stt} {i : Inp} (ht : Thr s) (hl : (accOf s.slots).length ≤ 24) (hm : ∀ m, m ∈ accOf s.slots → lightM m) (hi : lightM i.m) : BalOk (thrF n s i) s i := by
  unfold thrF
  by_cases h1 : i.kind = 1
  · rw [if_pos h1]
    unfold arrF
    split
    · refine ⟨by simp, by simp, by show (accOf s.slots).length ≤ 25; omega, hm, fun m h => ?_, fun m h => by simp at h, ?_⟩
      · simp at h; rw [h]; exact hi
      · show sumM (accOf s.slots) + sumM [i.m] + sumM [] = _
        simp [sumM, inM, h1]
    · split
      · exact bal_more h1 hl hm hi (addF_more ht i.m)
      · exact bal_rej h1 hl hm hi
  · rw [if_neg h1]
    by_cases h2 : i.kind = 2
    · rw [if_pos h2]
      unfold clkF
      dsimp only
      have hle : relN (accOf s.slots) (mostF n s (nowF i)) ≤ (accOf s.slots).length := Nat.min_le_left _ _
      generalize relN (accOf s.slots) (mostF n s (nowF i)) = k at hle ⊢
      split
      · exact bal_plain h1 hl hm
      · have hthr : Thr (leftF (perF n.time) s (nowF i) (Int.ofNat k)) := by
          cases ht with
          | none a b => exact .none _ _
          | one a b items vals h => exact .one _ _ items vals h
        have hacc := acc_rest hthr k hle
        have hsl : (leftF (perF n.time) s (nowF i) (Int.ofNat k)).slots = s.slots := rfl
        rw [hsl] at hacc
        refine ⟨?_, by simp, ?_, fun m h => ?_, out_light hle hm, fun m h => by simp at h, ?_⟩
        · show (outsF i.st (accOf s.slots) k).length ≤ 24
          simp [outsF]; omega
        · show (accOf (restF _ k).slots).length ≤ 25
          rw [hacc, List.length_drop]; omega
        · change m ∈ accOf (restF _ k).slots at h
          rw [hacc] at h
          exact hm m (List.mem_of_mem_drop h)
        · show sumM (accOf (restF _ k).slots) + sumM ((outsF i.st (accOf s.slots) k).map (·.m)) + sumM [] = _
          rw [hacc, sum_out hle]
          have : sumM (accOf s.slots) = sumM ((accOf s.slots).take k) + sumM ((accOf s.slots).drop k) := by rw [← sumM_append, List.take_append_drop]
          rw [this]
          simp [sumM, inM, h1]; omega
    · rw [if_neg h2]
      exact bal_plain h1 hl hm
theorem bal_delay {n : Nod} {s : Stt} {i : Inp} {o : Ocm} (hq : DelQ n s i o) (hl : (accOf s.slots).length ≤ 24) (hm : ∀ m, m ∈ accOf s.slots → lightM m) (hi : lightM i.m) : BalOk o s i := by
  rcases hq with ⟨h1, rfl | ⟨j, b, t, hb, rfl⟩⟩ | ⟨h2, rfl⟩ | ⟨h1, _, rfl⟩
  · exact bal_rej h1 hl hm hi
  · exact bal_more h1 hl hm hi (gainS_one hb)
  · exact bal_del _ _ h2 hl hm
  · exact bal_plain h1 hl hm
end Go.Proofs.YtjfheahakfoofaaGreatDoor

/- The state behind a step is small. -/
namespace Go.Proofs.YtjfheahakfoofaaGreatDoor
open Go.Em

/-- Sizes as layer 31 makes them, with room. -/
structure Stt.tiny (s : Stt) : Prop where
  slots : s.slots.length ≤ 50
  slot : ∀ x, x ∈ s.slots → x.ok ∧ x.items.length ≤ 50 ∧ x.vals.length ≤ 50
theorem Stt.tiny.small {s : Stt} (h : s.tiny) : s.small := ⟨by have := h.slots; omega, fun x hx => by
  obtain ⟨h1, h2, h3⟩ := h.slot x hx
  exact ⟨h1, by omega, by omega⟩⟩
theorem tiny_gain {s : Stt} (h : s.tiny) {m : Msg} (hm : m.ok) {b : Bool} {i : Nat} {key : Val} (hk : key.ok) {t : Int} (hb : b = true → i < s.slots.length) : (Stt.mk s.n s.t (gainS b i key t m s.slots)).small := by
  refine ⟨?_, fun y hy => ?_⟩
  · have := h.slots
    have := putS_length (b := b) (i := i) (x := if b then { s.slots.getD i dSlt with items := (s.slots.getD i dSlt).items ++ [m] } else ⟨key, 0, t, [m], []⟩) (ss := s.slots)
    show (gainS b i key t m s.slots).length ≤ 100
    unfold gainS
    omega
  · rcases putS_mem hy with rfl | h'
    · cases b with
      | true =>
        rw [if_pos rfl]
        have hi := hb rfl
        have e : s.slots.getD i dSlt = s.slots[i] := by rw [List.getD_eq_getElem?_getD, List.getElem?_eq_getElem hi]; rfl
        rw [e]
        obtain ⟨h1, h2, h3⟩ := h.slot _ (List.getElem_mem hi)
        refine ⟨⟨h1.key, ?_, fun z hz => ?_, h1.vals, h1.val⟩, ?_, by dsimp only; omega⟩
        · show (s.slots[i].items ++ [m]).length ≤ 60000
          simp; omega
        · rcases List.mem_append.1 hz with hz | hz
          · exact h1.item z hz
          · rw [List.mem_singleton.1 hz]; exact hm
        · show (s.slots[i].items ++ [m]).length ≤ 100
          simp; omega
      | false =>
        rw [if_neg (by simp)]
        exact ⟨⟨hk, by simp, fun z hz => by rw [List.mem_singleton.1 hz]; exact hm, by simp, fun z hz => by cases hz⟩, by simp, by simp⟩
    · exact (h.small.slot y h')
end Go.Proofs.YtjfheahakfoofaaGreatDoor

/- The states behind a throttle's step and a delay's are small. -/
namespace Go.Proofs.YtjfheahakfoofaaGreatDoor
open Go.Em

theorem small_del {n : Nod} {s : Stt} {i : Inp} {o : Ocm} (hq : DelQ n s i o) (h : s.tiny) (hm : i.m.ok) : o.s.small := by
  rcases hq with ⟨_, rfl | ⟨j, b, t, hb, rfl⟩⟩ | ⟨_, rfl⟩ | ⟨_, _, rfl⟩
  · exact h.small
  · exact tiny_gain h hm (keyV_ok t) hb
  · refine ⟨?_, fun x hx => h.small.slot x (List.mem_filter.1 hx).1⟩
    have := h.slots
    have h2 : (stayL (nowF i) s.slots).length ≤ s.slots.length := List.length_filter_le _ _
    show (stayL (nowF i) s.slots).length ≤ 100
    omega
  · exact h.small
theorem shortS_tiny (s : Stt) : (shortS s).tiny := by
  have hs := shortS_small s
  refine ⟨?_, fun x hx => ⟨(hs.slot x hx).1, ?_, ?_⟩⟩
  · show ((s.slots.take 6).map shortL).length ≤ 50
    rw [List.length_map, List.length_take]; omega
  · obtain ⟨y, _, rfl⟩ := List.mem_map.1 hx
    show ((y.items.take 4).map shortM).length ≤ 50
    rw [List.length_map, List.length_take]; omega
  · obtain ⟨y, _, rfl⟩ := List.mem_map.1 hx
    show ((y.vals.take 4).map (shortV 3)).length ≤ 50
    rw [List.length_map, List.length_take]; omega
end Go.Proofs.YtjfheahakfoofaaGreatDoor

/- The state behind a throttle's step is small. -/
namespace Go.Proofs.YtjfheahakfoofaaGreatDoor
open Go.Em

theorem small_rest {s : Stt} (h : s.small) (k : Nat) : (restF s k).small := by
  obtain ⟨a, b, ss⟩ := s
  cases ss with
  | nil => exact h
  | cons x r =>
    unfold restF
    dsimp only
    obtain ⟨h1, h2, h3⟩ := h.slot x (by simp)
    split
    · refine ⟨by simp, fun y hy => ?_⟩
      rw [List.mem_singleton.1 hy]
      refine ⟨⟨h1.key, ?_, fun m hm => h1.item m (List.mem_of_mem_drop hm), h1.vals, h1.val⟩, ?_, h3⟩
      · show (x.items.drop k).length ≤ 60000
        rw [List.length_drop]; omega
      · show (x.items.drop k).length ≤ 100
        rw [List.length_drop]; omega
    · exact ⟨by simp, fun y hy => by cases hy⟩
theorem small_left {s : Stt} (h : s.small) (p : Nat) (a k : Int) : (leftF p s a k).small := ⟨h.slots, h.slot⟩
end Go.Proofs.YtjfheahakfoofaaGreatDoor

/- The state behind a throttle's step is small: all cases. -/
namespace Go.Proofs.YtjfheahakfoofaaGreatDoor
open Go.Em

theorem small_add {s : Stt} (h : s.tiny) {m : Msg} (hm : m.ok) : (addF s m).small := by
  obtain ⟨a, b, ss⟩ := s
  cases ss with
  | nil =>
    refine ⟨by simp [addF], fun y hy => ?_⟩
    rw [List.mem_singleton.1 hy]
    exact ⟨⟨by unfold Val.ok nulV; simp [Val.size, sizeL, sizeF], by simp, fun z hz => by rw [List.mem_singleton.1 hz]; exact hm, by simp, fun z hz => by cases hz⟩, by simp, by simp⟩
  | cons x r =>
    obtain ⟨h1, h2, h3⟩ := h.slot x (by simp)
    refine ⟨by simp [addF], fun y hy => ?_⟩
    rw [List.mem_singleton.1 hy]
    refine ⟨⟨h1.key, ?_, fun z hz => ?_, h1.vals, h1.val⟩, ?_, by dsimp only; omega⟩
    · show (x.items ++ [m]).length ≤ 60000
      simp; omega
    · rcases List.mem_append.1 hz with hz | hz
      · exact h1.item z hz
      · rw [List.mem_singleton.1 hz]; exact hm
    · show (x.items ++ [m]).length ≤ 100
      simp; omega
theorem small_thr {n : Nod} {s : Stt} {i : Inp} (h : s.tiny) (hi : i.ok) : (thrF n s i).s.small := by
  unfold thrF
  split
  · unfold arrF
    split
    · exact small_left h.small _ _ _
    · split
      · exact small_add h hi.m
      · exact h.small
  · split
    · unfold clkF
      dsimp only
      split
      · exact h.small
      · exact small_rest (small_left h.small _ _ _) _
    · exact h.small
end Go.Proofs.YtjfheahakfoofaaGreatDoor

/- ThrottleBalances comes to true: the joining. -/
namespace Go.Proofs.YtjfheahakfoofaaGreatDoor
open Go.Em

/-- What a step keeps, for a state that the document's check passes. -/
theorem step_bal (n : Nod) (s : Stt) (h : s.tiny) (hl : (accOf s.slots).length ≤ 24) (hm : ∀ m, m ∈ accOf s.slots → lightM m) (i : Inp) (hi : i.ok) (hli : lightM i.m) (c : Int) (hc : checkF n s c = 0) :
    ∃ o : Ocm, BalOk o s i ∧ o.s.small ∧ ∀ N, 190200 ≤ N → Gam.pureD (callF tab ext N) 11 [.agg n.cells, .agg s.cells, .agg i.cells] = some (.agg o.cells) := by
  unfold checkF at hc
  split at hc
  · rename_i hk
    split at hc
    · rename_i h0; exact absurd hc h0
    · split at hc
      · rename_i hr
        have ht := thr_of hr
        exact ⟨thrF n s i, bal_thr ht hl hm hli, small_thr h hi, fun N hN => step_thr N (by omega) n (by omega) s ht h.small i hi⟩
      · cases hc
  · split at hc
    · rename_i hk
      split at hc
      · rename_i h0; exact absurd hc h0
      · split at hc
        · rename_i hr
          obtain ⟨o, _, hq, h1, _⟩ := delay_both n hk s h.small (delayed_items hr) (by omega) i hi
          exact ⟨o, bal_delay hq hl hm hli, small_del hq h hi.m, h1⟩
        · cases hc
    · cases hc
end Go.Proofs.YtjfheahakfoofaaGreatDoor

/- ThrottleBalances comes to true. -/
namespace Go.Proofs.YtjfheahakfoofaaGreatDoor
open Go.Em

theorem gt_of {a b : Int} (h : b < a) : decide (a > b) = true := decide_eq_true h
theorem ngt_of {a b : Int} (h : ¬ b < a) : decide (a > b) = false := decide_eq_false h

set_option maxRecDepth 100000 in
theorem balances_all (cn : List X) (hcn : isNode cn) (s : Stt) (i : Inp) : callF tab ext 190301 (.fn 3) [.agg cn, .agg s.cells, .agg i.cells] [] = some (.v (.bool true), []) := by
  obtain ⟨nd, nd', rfl, hn⟩ := node_of hcn
  have hg := given_pure nd nd' hn s i 190300 (by omega)
  have htn := shortS_tiny s
  have hac := shortS_acc s
  have hlt := light_shortS s
  have hi := shortN_ok i
  have hli : lightM (shortN i).m := light_short i.m
  generalize shortS s = s' at hg htn hac hlt
  generalize shortN i = i' at hg hi hli
  obtain ⟨c, hc⟩ := state_comes s' htn.small
  have hm := mcheck_pure nd' s' htn.small c hc 190300 (by omega)
  have hk := known_at 189900
  generalize hf : checkF nd' s' c = f at hm
  obtain ⟨ci, hci, _, _, _⟩ := cin_of i
  obtain ⟨ci', hci', _, _, _⟩ := cin_of i'
  rw [hci, hci'] at hg
  rw [hci]
  have hms : ci'.ms = i'.m.mass := by
    have := hci'
    rw [inX_cells] at this
    obtain ⟨kd, tm, ⟨se, sp⟩, ⟨⟨e, p⟩, ms, o', ⟨a1, a2, a3, a4, a5, a6⟩⟩, x, b1, b2, ⟨c1, c2, c3, c4, c5, c6⟩⟩ := i'
    simp only [Cin.cells, inX, List.cons.injEq, num, X.v.injEq, Value.int.injEq, true_and] at this
    exact this.2.2.2.2.2.1.symm
  by_cases hz : f = 0
  · subst hz
    obtain ⟨o, hb, hos, h11⟩ := step_bal nd' s' htn hac hlt i' hi hli c hf
    have h11 := h11 190300 (by omega)
    rw [hci'] at h11
    have hh := held_pure s' htn.small 190300 (by omega)
    have hho := held_pure o.s hos 190300 (by omega)
    have hM := mass_state 190300 (by omega) s' htn.small (by omega) hlt
    have hMo := mass_state 190300 (by omega) o.s hos (by have := hb.held; omega) hb.light
    have hb0 := sumM_bound hlt
    have hb1 := sumM_bound hb.light
    have h2 := hb.held
    have h3 := hb.outs
    have h4 := hb.letters
    have hb2 := sumM_bound hb.lightO
    have hb3 := sumM_bound hb.lightL
    have hsum := hb.sum
    have hlo := hb.lightO
    have hll := hb.lightL
    have hmo : (o.outs.map (·.m)).length = o.outs.length := List.length_map _
    have hlO := otpsC_length o.outs
    have hlL := msgsC_length o.letters
    simp only [Int.ofNat_eq_natCast] at hb0 hb1 hb2 hb3
    have g34 : decide (Int.ofNat (accOf s'.slots).length > 24) = false := ngt_of (by simp only [Int.ofNat_eq_natCast]; omega)
    have g39 : decide (Int.ofNat (otpsC o.outs).length > 30) = false := ngt_of (by simp only [Int.ofNat_eq_natCast]; omega)
    have g45 : decide (Int.ofNat (msgsC o.letters).length > 1) = false := ngt_of (by simp only [Int.ofNat_eq_natCast]; omega)
    have g51 : decide (Int.ofNat (accOf o.s.slots).length > 30) = false := ngt_of (by simp only [Int.ofNat_eq_natCast]; omega)
    have hw : IntKind.i64.wrap (sumM (accOf s'.slots) - sumM (accOf o.s.slots)) = sumM (accOf s'.slots) - sumM (accOf o.s.slots) := wrap_self (by omega) (by omega)
    generalize hS0 : sumM (accOf s'.slots) - sumM (accOf o.s.slots) = S0 at hw
    by_cases h1 : i'.kind = 1
    · have hin : inM i' = i'.m.mass := by unfold inM; rw [if_pos h1]
      rw [hin] at hsum
      obtain ⟨hl1, hl2⟩ := hli
      have hw1 : IntKind.i64.wrap (S0 + ci'.ms) = S0 + ci'.ms := wrap_self (by omega) (by omega)
      generalize hS1 : S0 + ci'.ms = S1 at hw1
      have hfin : (S1 - sumM (o.outs.map (·.m)) - sumM o.letters == 0) = true := by
        have : S1 - sumM (o.outs.map (·.m)) - sumM o.letters = 0 := by omega
        rw [this]; rfl
      have L1 := bal_loop1 190300 (by omega) o S1 (by omega) (by omega) hlo (τ := ⟨[(7, .ptr 3 0 0), (8, num S1), (9, num 0)], [.var nd'.cells, .var s'.cells, .var (ci'.cells 1), .var o.cells]⟩) (by kernel_rfl)
      have L2 := bal_loop2 190300 (by omega) o (S1 - sumM (o.outs.map (·.m))) (by omega) (by omega) hll (τ := ⟨[(7, .ptr 0 0 0), (8, num (S1 - sumM (o.outs.map (·.m)))), (10, num 0)], [.var o.cells]⟩) (by kernel_rfl)
      clear hS1 hS0 hsum hb0 hb1 hb2 hb3 hf hlt hlo hll
      generalize S1 - sumM (o.outs.map (·.m)) = S2 at hfin L1 L2
      generalize S2 - sumM o.letters = S3 at hfin L2
      generalize sumM (accOf s'.slots) = m1 at hM hw
      generalize sumM (accOf o.s.slots) = m2 at hMo hw
      generalize (accOf s'.slots).length = k1 at hh g34
      generalize (accOf o.s.slots).length = k2 at hho g51
      rw [h1] at hg h11
      exact callF_of [(15, .p (.tup [.agg nd'.cells, .agg s'.cells, .agg (ci'.cells 1)])), (19, .p (boolX true)), (24, .p (num 0)), (31, .p (.agg o.cells)), (33, .p (nat k1)), (34, .b false), (39, .b false), (45, .b false), (50, .p (nat k2)), (51, .b false), (57, .p (num m1)), (60, .p (num m2)), (61, .i S0), (69, .i S1), (102, .b true)]
        [(.exit 0, ⟨[(7, .ptr 0 0 0), (8, num S2), (9, nat (otpsC o.outs).length), (74, boolX false)], [.var o.cells]⟩), (.exit 2, ⟨[(7, .ptr 0 0 0), (8, num S3), (10, nat (msgsC o.letters).length), (90, boolX false)], [.var o.cells]⟩)]
        (ps := [_, _, _, _, _, _, _, _, _, _, _, _, _, _, _, _, _]) ⟨hg, hk, hm, h11, hh, g34, g39, g45, hho, g51, hM, hMo, hw, hw1, L1, L2, hfin, trivial⟩ (by kernel_rfl)
    · have hin : inM i' = 0 := by unfold inM; rw [if_neg h1]
      rw [hin] at hsum
      have k1' : (i'.kind == 1) = false := by simp [h1]
      have hfin : (S0 - sumM (o.outs.map (·.m)) - sumM o.letters == 0) = true := by
        have : S0 - sumM (o.outs.map (·.m)) - sumM o.letters = 0 := by omega
        rw [this]; rfl
      have L1 := bal_loop1 190300 (by omega) o S0 (by omega) (by omega) hlo (τ := ⟨[(7, .ptr 3 0 0), (8, num S0), (9, num 0)], [.var nd'.cells, .var s'.cells, .var (ci'.cells i'.kind), .var o.cells]⟩) (by kernel_rfl)
      have L2 := bal_loop2 190300 (by omega) o (S0 - sumM (o.outs.map (·.m))) (by omega) (by omega) hll (τ := ⟨[(7, .ptr 0 0 0), (8, num (S0 - sumM (o.outs.map (·.m)))), (10, num 0)], [.var o.cells]⟩) (by kernel_rfl)
      clear hS0 hsum hb0 hb1 hb2 hb3 hf hlt hlo hll
      generalize S0 - sumM (o.outs.map (·.m)) = S2 at hfin L1 L2
      generalize S2 - sumM o.letters = S3 at hfin L2
      generalize sumM (accOf s'.slots) = m1 at hM hw
      generalize sumM (accOf o.s.slots) = m2 at hMo hw
      generalize (accOf s'.slots).length = k1 at hh g34
      generalize (accOf o.s.slots).length = k2 at hho g51
      generalize i'.kind = kd at hg h11 k1' L1
      exact callF_of [(15, .p (.tup [.agg nd'.cells, .agg s'.cells, .agg (ci'.cells kd)])), (19, .p (boolX true)), (24, .p (num 0)), (31, .p (.agg o.cells)), (33, .p (nat k1)), (34, .b false), (39, .b false), (45, .b false), (50, .p (nat k2)), (51, .b false), (57, .p (num m1)), (60, .p (num m2)), (61, .i S0), (64, .b false), (102, .b true)]
        [(.exit 0, ⟨[(7, .ptr 0 0 0), (8, num S2), (9, nat (otpsC o.outs).length), (74, boolX false)], [.var o.cells]⟩), (.exit 2, ⟨[(7, .ptr 0 0 0), (8, num S3), (10, nat (msgsC o.letters).length), (90, boolX false)], [.var o.cells]⟩)]
        (ps := [_, _, _, _, _, _, _, _, _, _, _, _, _, _, _, _, _]) ⟨hg, hk, hm, h11, hh, g34, g39, g45, hho, g51, hM, hMo, hw, k1', L1, L2, hfin, trivial⟩ (by kernel_rfl)
  · have hz' : (!(f == 0)) = true := by simp [hz]
    exact callF_of [(15, .p (.tup [.agg nd'.cells, .agg s'.cells, .agg (ci'.cells i'.kind)])), (19, .p (boolX true)), (24, .p (num f)), (25, .b true), (27, .p (boolX true))] [] (pf5 hg hk hm hz' hk) (by kernel_rfl)
end Go.Proofs.YtjfheahakfoofaaGreatDoor

/- slices.Insert at the slots: copies of elements of more than one cell. -/
namespace Go.Proofs.YtjfheahakfoofaaGreatDoor
open Go.Em Go.RowKit Go.Lib

theorem run_copy_k {P : Program} (w : World) (dT sT ty elem : TypeId) (k : Nat) (b o dLen dCap : Nat) (a : Addr) (sLen sCap : Nat) (cs : List Value)
    (hu : P.underlying dT = some (.slice elem)) (hs : (P.info? elem).map (·.size) = some k) (hn : cs.length = Nat.min sLen dLen * k)
    (hsrc : ∀ j v, cs[j]? = some v → w.cell? (a.add j) = some v) (hc : ∀ j, j < cs.length → (w.cell? ⟨b, o + j, none⟩).isSome = true) (hf : ∀ j, j < cs.length → w.frozen? ⟨b, o + j, none⟩ = false) (h1 : ∀ v ∈ cs, v.oneCell' = true) :
    (Builtin.copy_ #[dT, sT] ty #[.slice (some ⟨b, o, none⟩) dLen dCap, .slice (some a) sLen sCap]).run P w = .ok (goInt (Nat.min sLen dLen)) (w.setCells b o cs) := by
  have hl := run_loadCells_list (P := P) w a cs hsrc
  have hst := run_storeCells_cells (P := P) b o cs 0 w (by simpa using hc) (by simpa using hf) h1
  cases hq : P.info? elem with
  | none => simp [hq] at hs
  | some i =>
    have hi : i.size = k := by simpa [hq] using hs
    simp [Builtin.copy_, run_underlying hu, Builtin.lenOf, Builtin.firstCells, sizeOf, typeInfo, hq, hi, ← hn, hl, hst]

/-- The model's entry for slices.overlaps: two blocks, the second of which is plain memory. -/
theorem run_overlaps_own {P : Program} (w : World) (tS tR e : TypeId) (ht : P.underlying tS = some (.slice e)) (size : Nat) (hz : ∀ w, (Go.sizeOf e).run P w = .ok size w)
    (a b : Addr) (la ca lb cb : Nat) (hne : a.block ≠ b.block) (tA tB : TypeId) (kA kB : Nat)
    (hsa : w.shape? a.block = some (tA, kA)) (hsb : w.shape? b.block = some (tB, kB)) (hkB : kB ≠ 0) (hkA : kA ≠ 0)
    (hfb : w.frozen? b = false) (hfe : w.frozen? { block := b.block, off := kB } = false) :
    (Extern.SlicesOverlaps.overlaps #[tS, tS] #[tR] #[.slice (some a) la ca, .slice (some b) lb cb]).run P w = .ok (.bool false) w := by
  have hnb : (a.block != b.block) = true := by simpa using hne
  have hnb' : (a.block == b.block) = false := by simpa using hne
  change Sem.run P (α := Value) (do
    let some t := (#[tS, tS] : Array TypeId)[0]? | stuck "slices.overlaps: no parameter types"
    let .slice elem ← underlying t | stuck "slices.overlaps: slice type expected"
    let size ← sizeOf elem
    match (some a : Option Addr), (some b : Option Addr) with
    | some a, some b =>
      if la = 0 ∨ lb = 0 ∨ size = 0 then pure (Value.bool false)
      else if a.block != b.block && (← frozen a) && (← frozen b) then unsupported .addressObserved
      else do
        if a.block != b.block then do
          noView a; noView b
          if ← mayBeOne a b then return Value.bool ((← choose (.extern "sameAddr.stringBytes" 2)) == 1)
        pure (Value.bool (a.block == b.block && a.off < b.off + lb * size && b.off < a.off + la * size))
    | _, _ => pure (Value.bool false)) w = _
  by_cases h0 : la = 0 ∨ lb = 0 ∨ size = 0
  · simp [run_underlying ht, hz, h0]
  · cases kB with
    | zero => exact absurd rfl hkB
    | succ kB =>
      obtain ⟨kA, rfl⟩ : ∃ k, kA = k + 1 := ⟨kA - 1, by omega⟩
      cases hfa : w.frozen? a with
      | true => simp [run_underlying ht, hz, h0, hnb, hnb', frozen, noView, viewAt, mayBeOne, stringish, shape, Sem.run, hsa, hsb, hfb, hfe, hfa]
      | false =>
        cases hfx : w.frozen? { block := a.block, off := kA + 1 } with
        | true => simp [run_underlying ht, hz, h0, hnb, hnb', frozen, noView, viewAt, mayBeOne, stringish, shape, Sem.run, hsa, hsb, hfb, hfe, hfa, hfx]
        | false => simp [run_underlying ht, hz, h0, hnb, hnb', frozen, noView, viewAt, mayBeOne, stringish, shape, Sem.run, hsa, hsb, hfb, hfe, hfa, hfx]
/-- .. and where both lie in one block, apart. -/
theorem run_overlaps_same {P : Program} (w : World) (tS tR e : TypeId) (ht : P.underlying tS = some (.slice e)) (size : Nat) (hz : ∀ w, (Go.sizeOf e).run P w = .ok size w)
    (a b : Addr) (la ca lb cb : Nat) (hsame : a.block = b.block) (hd : ¬ (a.off < b.off + lb * size ∧ b.off < a.off + la * size)) :
    (Extern.SlicesOverlaps.overlaps #[tS, tS] #[tR] #[.slice (some a) la ca, .slice (some b) lb cb]).run P w = .ok (.bool false) w := by
  have hnb : (a.block != b.block) = false := by simpa using hsame
  have hnb' : (a.block == b.block) = true := by simpa using hsame
  have hd' : (decide (a.off < b.off + lb * size) && decide (b.off < a.off + la * size)) = false := by
    cases h : (decide (a.off < b.off + lb * size) && decide (b.off < a.off + la * size)) with
    | false => rfl
    | true => exact absurd (by simpa using h) hd
  change Sem.run P (α := Value) (do
    let some t := (#[tS, tS] : Array TypeId)[0]? | stuck "slices.overlaps: no parameter types"
    let .slice elem ← underlying t | stuck "slices.overlaps: slice type expected"
    let size ← sizeOf elem
    match (some a : Option Addr), (some b : Option Addr) with
    | some a, some b =>
      if la = 0 ∨ lb = 0 ∨ size = 0 then pure (Value.bool false)
      else if a.block != b.block && (← frozen a) && (← frozen b) then unsupported .addressObserved
      else do
        if a.block != b.block then do
          noView a; noView b
          if ← mayBeOne a b then return Value.bool ((← choose (.extern "sameAddr.stringBytes" 2)) == 1)
        pure (Value.bool (a.block == b.block && a.off < b.off + lb * size && b.off < a.off + la * size))
    | _, _ => pure (Value.bool false)) w = _
  by_cases h0 : la = 0 ∨ lb = 0 ∨ size = 0
  · simp [run_underlying ht, hz, h0]
  · simp [run_underlying ht, hz, h0, hnb, hnb', hd', frozen, Sem.run]
end Go.Proofs.YtjfheahakfoofaaGreatDoor

/- slices.Insert at the slots, where there is room. -/
namespace Go.Proofs.YtjfheahakfoofaaGreatDoor
open Go.Em Go.RowKit Go.Lib

theorem und35 : Tryz.prog.underlying 35 = some (.slice 78) := by kernel_rfl
theorem und4 : Tryz.prog.underlying 4 = some .bool := by kernel_rfl
theorem info78 : (Tryz.prog.info? 78).map (·.size) = some 10 := by kernel_rfl
theorem size78 : ∀ w, (Go.sizeOf 78).run Tryz.prog w = .ok 10 w := Tryz.sizeOf78

set_option maxHeartbeats 4000000 in
set_option maxRecDepth 100000 in
theorem ins_shift (b off n c i vb voff vc : Nat) (cs vs : List Value) (w : World) (hi : i < n) (hroom : n + 1 ≤ c) (hn3 : n ≤ 1000) (hdis : ∀ j k, j < 10 → k < (n + 1) * 10 → vb = b → voff + j ≠ off + k)
    (hcl : cs.length = n * 10) (hvl : vs.length = 10)
    (hcs : ∀ j v, cs[j]? = some v → w.cell? ⟨b, off + j, none⟩ = some v) (hsp : ∀ j, j < (n + 1) * 10 → (w.cell? ⟨b, off + j, none⟩).isSome = true) (hfz : ∀ j, j < (n + 1) * 10 → w.frozen? ⟨b, off + j, none⟩ = false)
    (hvs : ∀ j v, vs[j]? = some v → w.cell? ⟨vb, voff + j, none⟩ = some v) (h1c : ∀ v ∈ cs, v.oneCell' = true) (h1v : ∀ v ∈ vs, v.oneCell' = true)
    (tA tB : TypeId) (kA kB : Nat) (hsa : w.shape? vb = some (tA, kA)) (hsb : w.shape? b = some (tB, kB)) (hkB : kB ≠ 0) (hkA : kA ≠ 0) (hfb : ∀ o, w.frozen? ⟨b, o, none⟩ = false) :
    Calls Tryz.prog 117 #[.slice (some ⟨b, off, none⟩) n c, .int .i64 i, .slice (some ⟨vb, voff, none⟩) 1 vc] w fun e w' =>
      e = .returned (.slice (some ⟨b, off, none⟩) (n + 1) c) ∧ w' = (w.drew.setCells b (off + (i + 1) * 10) (cs.drop (i * 10))).setCells b (off + i * 10) vs := by
  have hz2 : ¬ ((i : Int) = (n : Int)) := by omega
  have hov : ∀ cb, (callFunc 143 #[.slice (some ⟨vb, voff, none⟩) 1 vc, .slice (some ⟨b, off + (i + 1) * 10, none⟩) (n - i) cb]).run Tryz.prog w = .ok (.value (.bool false)) w := fun cb => by
    rw [run_callFunc_extern Tryz.func143 (by kernel_rfl) (by kernel_rfl) (by kernel_rfl) (e := Extern.SlicesOverlaps.overlaps #[35, 35] #[4]) (by kernel_rfl)]
    by_cases hvb : vb = b
    · rw [run_overlaps_same w 35 4 78 und35 10 size78 ⟨vb, voff, none⟩ ⟨b, off + (i + 1) * 10, none⟩ 1 vc (n - i) cb hvb (fun h => by
        obtain ⟨h1, h2⟩ := h
        dsimp only at h1 h2
        by_cases hlo : off + (i + 1) * 10 ≤ voff
        · exact hdis 0 (voff - off) (by omega) (by omega) hvb (by omega)
        · exact hdis (off + (i + 1) * 10 - voff) ((i + 1) * 10) (by omega) (by omega) hvb (by omega))]
      rfl
    · rw [run_overlaps_own w 35 4 78 und35 10 size78 ⟨vb, voff, none⟩ ⟨b, off + (i + 1) * 10, none⟩ 1 vc (n - i) cb hvb tA tB kA kB hsa hsb hkB hkA (hfb _) (hfb _)]
      rfl
  have hdl : (cs.drop (i * 10)).length = (n - i) * 10 := by rw [List.length_drop, hcl]; omega
  have hw1 : IntKind.i64.wrap ((i : Int) + 1) = (i : Int) + 1 := by rw [IntKind.wrap_i64]; omega
  have hb1 : (0 : Int) ≤ (i : Int) + 1 := by omega
  have hin : i ≤ n := by omega
  have htn : ((i : Int) + 1).toNat = i + 1 := by omega
  have hb2 : ¬ (c = i + 1) := by omega
  have hb3 : (i : Int) ≤ (n : Int) + 1 := by omega
  have hb4 : ¬ (c = i) := by omega
  have hcp1 : ∀ ty dc sc, (Builtin.copy_ #[35, 35] ty #[.slice (some ⟨b, off + (i + 1) * 10, none⟩) (n - i) dc, .slice (some ⟨b, off + i * 10, none⟩) (n + 1 - i) sc]).run Tryz.prog w.drew = .ok (goInt (Nat.min (n + 1 - i) (n - i))) (w.drew.setCells b (off + (i + 1) * 10) (cs.drop (i * 10))) := fun ty dc sc =>
    run_copy_k w.drew _ _ ty 78 10 b (off + (i + 1) * 10) (n - i) dc ⟨b, off + i * 10, none⟩ (n + 1 - i) sc (cs.drop (i * 10)) und35 info78 (by rw [hdl]; congr 1; simp only [Nat.min_def]; split <;> omega)
      (fun j v hj => by rw [Addr.add_lit, Nat.add_assoc]; exact hcs (i * 10 + j) v (by rwa [List.getElem?_drop] at hj))
      (fun j hj => by rw [Nat.add_assoc]; exact hsp _ (by omega)) (fun j hj => by rw [Nat.add_assoc]; exact hfz _ (by omega)) (fun v hv => h1c v (List.mem_of_mem_drop hv))
  obtain ⟨W1, hW1⟩ : ∃ W1, W1 = w.drew.setCells b (off + (i + 1) * 10) (cs.drop (i * 10)) := ⟨_, rfl⟩
  have hsp1 : ∀ k, k < (n + 1) * 10 → (W1.cell? ⟨b, off + k, none⟩).isSome = true := fun k hk => by
    rw [hW1]
    exact isSome_setCells b _ _ _ (fun j hj => by rw [Nat.add_assoc]; exact hsp _ (by omega)) _ (hsp k hk)
  have hcp2 : ∀ (W : World), (∀ x, W.cell? x = W1.cell? x) → (∀ x, W.frozen? x = W1.frozen? x) → ∀ ty dc, (Builtin.copy_ #[35, 35] ty #[.slice (some ⟨b, off + i * 10, none⟩) (n + 1 - i) dc, .slice (some ⟨vb, voff, none⟩) 1 vc]).run Tryz.prog W = .ok (goInt (Nat.min 1 (n + 1 - i))) (W.setCells b (off + i * 10) vs) := fun W hWc hWf ty dc =>
    run_copy_k W _ _ ty 78 10 b (off + i * 10) (n + 1 - i) dc ⟨vb, voff, none⟩ 1 vc vs und35 info78 (by rw [hvl]; simp only [Nat.min_def]; split <;> omega)
      (fun j v hj => by
        have hj' : j < 10 := by rw [← hvl]; exact (List.getElem?_eq_some_iff.1 hj).1
        rw [Addr.add_lit, hWc, hW1, World.cell?_setCells_out b _ _ _ _ (fun h _ => by
          dsimp only at h ⊢
          have h5 := hdis j (voff + j - off) hj'
          by_cases h6 : off ≤ voff + j ∧ voff + j - off < (n + 1) * 10
          · exact absurd (by omega) (h5 h6.2 h)
          · omega)]
        exact hvs j v hj)
      (fun j hj => by rw [hWc, Nat.add_assoc]; exact hsp1 _ (by omega)) (fun j hj => by rw [hWf, hW1, World.frozen?_setCells, Nat.add_assoc]; exact hfz _ (by omega)) h1v
  rw [← hW1] at hcp1
  have mixed : Tryz.prog.follows .mixedOrders = true := by kernel_rfl
  go_enter Tryz.func117, Tryz.ntmps117
  go_wp2_with (simp only [hov])
  go_region_law_o (refine step_copy_runI rfl _ _ 35 35 rfl _ _ (by simp [Act.eval, Act.put]) (by simp [Act.eval, Act.put]) (hcp1 _ _ _) ?_)
  go_wp2_with (at_builtin; refine wpList_copy_runI _ rfl _ _ 35 35 rfl _ _ rfl rfl (hcp2 _ (fun _ => rfl) (fun _ => rfl) _ _) ?_)
  go_ret
  first | exact ⟨rfl, rfl⟩ | exact ⟨rfl, by rw [hW1]⟩
end Go.Proofs.YtjfheahakfoofaaGreatDoor
