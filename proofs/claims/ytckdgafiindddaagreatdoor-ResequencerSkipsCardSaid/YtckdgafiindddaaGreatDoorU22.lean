/- manifoldlaw34.run: one round, at a message. -/
import Derived.Test.YtckdgafiindddaaGreatDoorU21
set_option linter.all false
namespace Go.Proofs.YtckdgafiindddaaGreatDoor
open Go.Em
set_option maxRecDepth 100000

theorem loop_canon {Γ : Gam} {nIn fu : Nat} {b : C} {τ σ : St} (h : canon nIn τ = some σ) (h2 : canon nIn σ = some σ) : run Γ nIn fu (.loop b) τ = run Γ nIn fu (.loop b) σ := by
  simp only [run]
  cases fu with
  | zero => simp only [iter]
  | succ k => simp only [iter, h, h2]
section
variable (t l : Int) (es S L ss O F Lt sp S2 : List (List X)) (n m i k n2 g x d : Nat) (now ms0 ms1 m0 m1 m3 : Int) (fl : Bool) (N : Nat)
def r0H : St := ⟨[(1, .sl false 4 es), (2, .ptr 0 0 0), (4, .bs 1 0 n), (5, .bs 2 0 m), (6, .ptr 3 0 0), (8, num now), (9, nat i)], [.var (nodR t l).cells, .row 10 S, .row 10 L, .var [num 0, num 0, .sl fl 10 ss]]⟩
def r0E : St := ⟨[(1, .sl false 4 es), (2, .ptr 0 0 0), (4, .bs 1 0 n), (5, .bs 2 0 m), (6, .ptr 3 0 0), (8, num now), (9, nat i), (21, boolX false)], [.var (nodR t l).cells, .row 10 S, .row 10 L, .var [num 0, num 0, .sl fl 10 ss]]⟩
theorem r0_end (h : ¬ (i < es.length ∧ i < 40)) : run (callF tab ext N) 0 N (loopAt 7 0) (r0H t l es S L ss n m i now fl) = some (.exit 0, r0E t l es S L ss n m i now fl) := by
  by_cases h1 : i < es.length
  · have h1' := lt_nat h1
    have h2 : decide (Int.ofNat i < 40) = false := decide_eq_false (by simp only [Int.ofNat_eq_natCast]; omega)
    exact run_of [(17, .b true), (20, .b false)] [] (pf2 h1' h2) (lo' := []) (by kernel_rfl)
  · exact run_of [(17, .b false)] [] (pf1 (nlt_nat h1)) (lo' := []) (by kernel_rfl)
theorem tmodN (v c : Nat) : (Int.ofNat v).tmod (Int.ofNat (c + 1)) = Int.ofNat (v % (c + 1)) := by
  show Int.tmod (v : Int) ((c + 1 : Nat) : Int) = _
  rw [Int.tmod_eq_emod_of_nonneg (by omega)]
  rfl
theorem r0_msg (hi : i < es.length) (hi2 : i < 40) (he : es[i]? = some [u8 g, u8 x, u8 d, boolX false]) (hd : d < 256) (hn0 : 0 ≤ now) (hn1 : now ≤ 1000000)
    (h52 : Gam.pureD (callF tab ext (N + 100)) 14 [.agg (nodR t l).cells, .agg [num 0, num 0, .sl false 10 ss], .agg (inpR ((i : Int) + 1) (Int.ofNat (g % 4)) (Int.ofNat (x % 16 + 1)) (now + (d : Int))).cells] = some (.agg (oqC O F Lt sp)))
    (h133 : Gam.pureD (callF tab ext (N + 100)) 20 [.agg [num 0, num 0, .sl false 10 ss]] = some (num ms0)) (hms : IntKind.i64.wrap (1048576 + ms0) = ms1)
    (hlo : run (callF tab ext (N + 100)) 0 (N + 100) (.loop (loopAt 7 1)) (r1H t l es S L ss O F Lt sp n m i 0 (now + (d : Int)) ms1 fl) = some (.exit 2, r1E t l es S2 L ss O F Lt sp n2 m i k (now + (d : Int)) m3 fl))
    (h133b : Gam.pureD (callF tab ext (N + 100)) 20 [.agg [num 0, num 0, .sl false 10 sp]] = some (num m0)) (h134 : Gam.pureD (callF tab ext (N + 100)) 21 [.sl false 10 Lt] = some (num m1)) (hm : IntKind.i64.wrap (m0 + m1) = m3)
    (hL : m = L.length) (hm2 : m + Lt.length ≤ 10000) :
    ∃ υ, run (callF tab ext (N + 100)) 0 (N + 100) (loopAt 7 0) (r0H t l es S L ss n m i now fl) = some (.norm, υ) ∧ canon 0 υ = some (r0H t l es S2 (L ++ Lt) sp n2 (m + Lt.length) (i + 1) (now + (d : Int)) false) := by
  have h1 := lt_nat hi
  have h2 : decide (Int.ofNat i < 40) = true := decide_eq_true (by simp only [Int.ofNat_eq_natCast]; omega)
  have h3 := wrap_small (y := d) (by omega)
  have h4 : IntKind.i64.wrap (now + Int.ofNat d) = now + (d : Int) := by rw [IntKind.wrap_i64]; simp only [Int.ofNat_eq_natCast]; omega
  have h5 := tmodN g 3
  have h6 := wrap_small (y := g % 4) (by omega)
  have h7 := tmodN x 15
  have h8 := wrap_small (y := x % 16) (by omega)
  have h9 : IntKind.i64.wrap (1 + Int.ofNat (x % 16)) = Int.ofNat (x % 16 + 1) := by rw [IntKind.wrap_i64]; simp only [Int.ofNat_eq_natCast]; omega
  have hnx := next_nat (j := i) (by omega)
  have h54 := input54 N (Int.ofNat i) (Int.ofNat (g % 4)) (Int.ofNat (x % 16 + 1)) (now + (d : Int))
  rw [hnx] at h54
  have hneq : (m3 != m3) = false := by simp
  have hroom : 0 + m = L.length ∧ roomOk (m + Lt.length) 152 = true ∧ false = false := ⟨by omega, room_of (by omega) (by omega), rfl⟩
  have hlo' : run (callF tab ext (N + 100)) 0 (N + 100) (.loop (loopAt 7 1)) ⟨[(1, .sl false 4 es), (2, .ptr 0 0 0), (4, .bs 1 0 n), (5, .bs 2 0 m), (6, .ptr 3 0 0), (8, num (now + (d : Int))), (9, nat i), (11, num ms1), (12, .ptr 5 0 0), (13, num 0)], [.var (nodR t l).cells, .row 10 S, .row 10 L, .var [num 0, num 0, .sl fl 10 ss], .var (inpR ((i : Int) + 1) (Int.ofNat (g % 4)) (Int.ofNat (x % 16 + 1)) (now + (d : Int))).cells, .var (oqC O F Lt sp)]⟩ = some (.exit 2, r1E t l es S2 L ss O F Lt sp n2 m i k (now + (d : Int)) m3 fl) := by
    rw [← hlo]
    exact loop_canon (by kernel_rfl) (r1_canon ..)
  refine ⟨⟨[(1, .sl false 4 es), (2, .ptr 0 0 0), (4, .bs 1 0 n2), (5, .bs 5 0 (m + Lt.length)), (6, .ptr 3 0 0), (8, num (now + (d : Int))), (9, nat (i + 1))], [.var (nodR t l).cells, .row 10 S2, .dead, .var [num 0, num 0, .sl false 10 sp], .var (oqC O F Lt sp), .row 10 (L ++ Lt)]⟩, ?_, by kernel_rfl⟩
  exact run_of [(17, .b true), (20, .b true), (27, .e [u8 g, u8 x, u8 d, boolX false]), (30, .i (Int.ofNat d)), (31, .i (now + (d : Int))), (35, .e [u8 g, u8 x, u8 d, boolX false]), (38, .i (Int.ofNat (g % 4))), (39, .i (Int.ofNat (g % 4))), (42, .e [u8 g, u8 x, u8 d, boolX false]), (45, .i (Int.ofNat (x % 16))), (46, .i (Int.ofNat (x % 16))), (47, .i (Int.ofNat (x % 16 + 1))), (49, .p (.agg (inpR ((i : Int) + 1) (Int.ofNat (g % 4)) (Int.ofNat (x % 16 + 1)) (now + (d : Int))).cells)), (52, .e [u8 g, u8 x, u8 d, boolX false]), (64, .p (.agg (oqC O F Lt sp))), (67, .p (num ms0)), (68, .i ms1), (97, .p (num m0)), (100, .p (num m1)), (101, .i m3), (102, .b false), (107, .app), (23, .i (Int.ofNat (i + 1)))] [(.exit 2, r1E t l es S2 L ss O F Lt sp n2 m i k (now + (d : Int)) m3 fl)]
    (pfJ h1 h2 he h3 h4 he h5 (pfJ h6 he h7 h8 h9 h54 he (pf10 h52 h133 hms hlo' h133b h134 hm hneq hroom hnx))) (lo' := []) (by kernel_rfl)
end
end Go.Proofs.YtckdgafiindddaaGreatDoor

/- The resequencer at several groups: a step in plain terms, what holds behind it. -/
namespace Go.Proofs.YtckdgafiindddaaGreatDoor
open Go.Em
set_option maxRecDepth 100000

/-- A group behind a message that is not rejected. -/
def recG (t now : Int) (x : Gp) (n k : Nat) : Gp :=
  if x.nx < n then ⟨x.g, x.nx, if x.H.length = 0 then dlP t now 1 else x.t, insL n k x.H⟩
  else ⟨x.g, n + 1 + runL (n + 1) x.H, dlP t now (x.H.length - runL (n + 1) x.H), x.H.drop (runL (n + 1) x.H)⟩
/-- The outputs. -/
def outG (x : Gp) (n k : Nat) : List Otp := if x.nx < n then [] else sentG x.g n k (x.H.take (runL (n + 1) x.H))
def rejB (l : Int) (gs : List Gp) (g : Int) (n : Nat) : Bool := !decide (rejP l gs g n = emptyT)
def stG (t l now : Int) (gs : List Gp) (g : Int) (n k : Nat) : List Gp := if rejB l gs g n then gs else putG (recG t now (getG g gs) n k) gs
def osG (l : Int) (gs : List Gp) (g : Int) (n k : Nat) : List Otp := if rejB l gs g n then [] else outG (getG g gs) n k
def lsG (l : Int) (gs : List Gp) (g : Int) (n k : Nat) : List Msg := if rejB l gs g n then [mqg g (n, k)] else []
theorem step_at (gs : List Gp) (hI : GsI gs) (t l g now : Int) (ht : 0 ≤ t) (ht2 : t ≤ 100000) (hw0 : 0 ≤ now) (hw2 : now ≤ 1000000) (n k : Nat) (hn1 : 1 ≤ n) (hn2 : n ≤ 1000) (N : Nat) (hN : 201000 ≤ N) :
    ∃ F, Gam.pureD (callF tab ext N) 14 [.agg (nodR t l).cells, .agg (gst gs).cells, .agg (inpR ((k : Int) + 1) g n now).cells] = some (.agg (ouG (stG t l now gs g n k) (otpsC (osG l gs g n k)) F (lsG l gs g n k))) := by
  unfold stG osG lsG rejB
  by_cases he : rejP l gs g n = emptyT
  · rw [decide_eq_true he]
    have hge := (rejP_empty he).1
    have hg := getG_g g gs
    simp only [Bool.not_true, Bool.false_eq_true, if_false]
    unfold recG outG
    by_cases hlt : (getG g gs).nx < n
    · rw [if_pos hlt, if_pos hlt, hg]
      exact ⟨[], step_hold gs hI t l g now ht ht2 hw0 hw2 n k hn1 hn2 N hN he hlt⟩
    · rw [if_neg hlt, if_neg hlt, hg]
      exact step_send gs hI t l g now ht ht2 hw0 hw2 n k hn1 hn2 N hN he (by omega)
  · rw [decide_eq_false he]
    simp only [Bool.not_false, if_true]
    exact ⟨_, step_rej gs hI t l g now n k hn1 hn2 N hN ((rejP_cases l gs g n).resolve_right he)⟩

/-! ### The place of a group -/
theorem take_lt (g : Int) : ∀ (gs : List Gp) (y : Gp), y ∈ gs.take (lowG g gs) → y.g < g
  | [], y, h => by simp [lowG] at h
  | p :: r, y, h => by
    unfold lowG at h
    split at h
    · rename_i hp
      rw [List.take_succ_cons] at h
      rcases List.mem_cons.1 h with rfl | h
      · exact hp
      · exact take_lt g r y h
    · simp at h
theorem low_not {g : Int} : ∀ {gs : List Gp} (h : lowG g gs < gs.length), ¬ gs[lowG g gs].g < g
  | [], h => by simp at h
  | p :: r, h => by
    by_cases hp : p.g < g
    · have e : lowG g (p :: r) = lowG g r + 1 := by show (if p.g < g then lowG g r + 1 else 0) = _; rw [if_pos hp]
      simp only [e] at h ⊢
      simpa using low_not (gs := r) (by simpa using h)
    · have e : lowG g (p :: r) = 0 := by show (if p.g < g then lowG g r + 1 else 0) = _; rw [if_neg hp]
      simp only [e, List.getElem_cons_zero]
      exact hp
def kn1 (g : Int) (gs : List Gp) : Nat := if knG g gs then 1 else 0
theorem kn1_eq {g : Int} {gs : List Gp} (hlt : lowG g gs < gs.length) : kn1 g gs = if gs[lowG g gs].g = g then 1 else 0 := by
  unfold kn1 knG
  rw [List.getElem?_eq_getElem hlt]
  simp
theorem drop_gt {g : Int} {gs : List Gp} (hs : SrtG gs) (y : Gp) (h : y ∈ gs.drop (lowG g gs + kn1 g gs)) : g < y.g := by
  have key : ∀ i (hi : i < gs.length), lowG g gs + kn1 g gs ≤ i → g < gs[i].g := fun i hi hle => by
    have hlt : lowG g gs < gs.length := by omega
    have h0 := low_not hlt
    rw [kn1_eq hlt] at hle
    by_cases hi0 : i = lowG g gs
    · subst hi0
      split at hle
      · omega
      · rename_i hk
        omega
    · have := srtG_get hs (show lowG g gs < i by omega) hi
      omega
  obtain ⟨j, hj, rfl⟩ := List.getElem_of_mem h
  rw [List.length_drop] at hj
  rw [List.getElem_drop]
  exact key _ _ (by omega)
theorem split_at (g : Int) (gs : List Gp) : gs = gs.take (lowG g gs) ++ (if knG g gs then [getG g gs] else []) ++ gs.drop (lowG g gs + kn1 g gs) := by
  unfold kn1
  cases hk : knG g gs with
  | false =>
    simp only [Bool.false_eq_true, if_false, Nat.add_zero, List.append_nil, List.take_append_drop]
  | true =>
    simp only [if_true]
    have hlt : lowG g gs < gs.length := by
      unfold knG at hk
      by_cases h : lowG g gs < gs.length
      · exact h
      · rw [List.getElem?_eq_none (by omega)] at hk; cases hk
    have hg : getG g gs = gs[lowG g gs] := by
      unfold knG at hk
      unfold getG
      rw [List.getElem?_eq_getElem hlt] at hk ⊢
      dsimp only at hk ⊢
      rw [if_pos (by simpa using hk)]
    rw [hg, List.append_assoc, List.singleton_append, ← List.drop_eq_getElem_cons hlt, List.take_append_drop]
theorem putG_eq (x : Gp) (gs : List Gp) : putG x gs = gs.take (lowG x.g gs) ++ [x] ++ gs.drop (lowG x.g gs + kn1 x.g gs) := rfl
theorem putG_mem {x y : Gp} {gs : List Gp} (h : y ∈ putG x gs) : y = x ∨ y ∈ gs := by
  rw [putG_eq] at h
  rcases List.mem_append.1 h with h | h
  · rcases List.mem_append.1 h with h | h
    · exact .inr (List.mem_of_mem_take h)
    · exact .inl (List.mem_singleton.1 h)
  · exact .inr (List.mem_of_mem_drop h)
theorem putG_srt {x : Gp} {gs : List Gp} (hs : SrtG gs) : SrtG (putG x gs) := by
  rw [putG_eq]
  unfold SrtG
  rw [List.append_assoc]
  refine List.pairwise_append.2 ⟨List.Pairwise.take hs, List.pairwise_cons.2 ⟨fun y hy => drop_gt hs y hy, List.Pairwise.drop hs⟩, fun a ha b hb => ?_⟩
  have h1 := take_lt x.g gs a ha
  rcases List.mem_cons.1 hb with rfl | hb
  · exact h1
  · have := drop_gt hs b hb; omega
theorem heldG_app (a b : List Gp) : heldG (a ++ b) = heldG a + heldG b := by
  unfold heldG accOf
  simp
theorem heldG_one (x : Gp) : heldG [x] = x.H.length := by
  unfold heldG accOf
  simp [Gp.slt, grpS]
theorem heldG_put (x : Gp) (gs : List Gp) : heldG (putG x gs) + (getG x.g gs).H.length = heldG gs + x.H.length := by
  have h := split_at x.g gs
  have e : heldG gs = heldG (gs.take (lowG x.g gs)) + heldG (if knG x.g gs then [getG x.g gs] else []) + heldG (gs.drop (lowG x.g gs + kn1 x.g gs)) := by
    conv => lhs; rw [h]
    rw [heldG_app, heldG_app]
  rw [putG_eq, heldG_app, heldG_app, heldG_one, e]
  cases hk : knG x.g gs with
  | true => simp only [if_true]; rw [heldG_one]; omega
  | false =>
    rw [getG_new hk]
    simp only [Bool.false_eq_true, if_false]
    have : heldG [] = 0 := rfl
    rw [this]
    simp only [List.length_nil]
    omega
end Go.Proofs.YtckdgafiindddaaGreatDoor

/- The resequencer at several groups: what holds behind a step. -/
namespace Go.Proofs.YtckdgafiindddaaGreatDoor
open Go.Em
set_option maxRecDepth 100000

theorem srt_len : ∀ (l : List Int) (lo c : Int), l.Pairwise (· < ·) → (∀ v, v ∈ l → lo < v ∧ v ≤ c) → (l.length : Int) + lo ≤ max lo c
  | [], lo, c, _, _ => by simp; omega
  | a :: r, lo, c, hp, hb => by
    have h1 := List.pairwise_cons.1 hp
    have h2 := srt_len r a c h1.2 (fun v hv => ⟨h1.1 v hv, (hb v (List.mem_cons_of_mem _ hv)).2⟩)
    have h3 := hb a List.mem_cons_self
    simp only [List.length_cons]; omega
/-- A group with numbers up to 16. -/
structure GJ (x : Gp) : Prop where
  pos : 1 ≤ x.nx
  top : x.nx ≤ 17
  srt : SrtL x.H
  gt : ∀ p, p ∈ x.H → x.nx < p.1
  le : ∀ p, p ∈ x.H → p.1 ≤ 16
  due : x.t ≠ 0 → x.H ≠ []
theorem GJ.gi {x : Gp} (h : GJ x) : GI x := by
  refine ⟨h.pos, by have := h.top; omega, h.srt, h.gt, ?_⟩
  have key := srt_len (nq x.H) 0 16 (nq_srt h.srt) (fun v hv => by
    obtain ⟨p, hp, rfl⟩ := List.mem_map.1 hv
    have h1 := h.gt p hp
    have h2 := h.le p hp
    omega)
  rw [nq_len] at key
  omega
theorem gi_rsI {x : Gp} (h : GI x) : ∃ L, RsI L x.nx x.H ∧ ∀ n, x.nx ≤ n → ¬ (n : Int) ∈ nq x.H → n ∉ L := by
  refine ⟨(List.range x.nx).filter (fun v => decide (1 ≤ v)) ++ x.H.map (·.1), ⟨h.pos, h.srt, h.gt, fun v => ?_⟩, fun n hn hnot hm => ?_⟩
  · rw [List.mem_append, List.mem_filter, List.mem_range]
    constructor
    · rintro (⟨h1, h2⟩ | h1)
      · exact .inl ⟨of_decide_eq_true h2, h1⟩
      · obtain ⟨p, hp, rfl⟩ := List.mem_map.1 h1
        exact .inr ⟨p.2, hp⟩
    · rintro (⟨h1, h2⟩ | ⟨k, hk⟩)
      · exact .inl ⟨h2, decide_eq_true h1⟩
      · exact .inr (List.mem_map.2 ⟨(v, k), hk, rfl⟩)
  · rcases List.mem_append.1 hm with h1 | h1
    · have := List.mem_range.1 (List.mem_filter.1 h1).1; omega
    · obtain ⟨p, hp, rfl⟩ := List.mem_map.1 h1
      exact hnot (List.mem_map.2 ⟨p, hp, rfl⟩)
theorem insL_mem {v k : Nat} {H : List (Nat × Nat)} {p : Nat × Nat} (h : p ∈ insL v k H) : p = (v, k) ∨ p ∈ H := by
  unfold insL at h
  rcases List.mem_append.1 h with h | h
  · rcases List.mem_append.1 h with h | h
    · exact .inr (List.mem_of_mem_take h)
    · exact .inl (List.mem_singleton.1 h)
  · exact .inr (List.mem_of_mem_drop h)
theorem insL_len (v k : Nat) (H : List (Nat × Nat)) : (insL v k H).length = H.length + 1 := by
  have := lowL_le v H
  unfold insL; simp; omega
theorem runL_top {n B : Nat} {H : List (Nat × Nat)} (h : ∀ p, p ∈ H → p.1 ≤ B) (hn : n ≤ B) : n + 1 + runL (n + 1) H ≤ B + 1 := by
  have hle := runL_le (n + 1) H
  by_cases h0 : runL (n + 1) H = 0
  · omega
  · have h1 := runL_get (n + 1) H (runL (n + 1) H - 1) (by omega)
    have h2 := h _ (List.getElem_mem (l := H) (n := runL (n + 1) H - 1) (by omega))
    omega
theorem recG_gj {x : Gp} (h : GJ x) (t now : Int) (n k : Nat) (hn : x.nx ≤ n) (hn2 : n ≤ 16) (hnot : ¬ (n : Int) ∈ nq x.H) : GJ (recG t now x n k) := by
  obtain ⟨L, hL, hnL⟩ := gi_rsI h.gi
  unfold recG
  by_cases hlt : x.nx < n
  · rw [if_pos hlt]
    have hr := rsI_hold (k := k) hL hlt (hnL n hn hnot)
    exact ⟨h.pos, h.top, hr.srt, hr.gt, fun p hp => by
      rcases insL_mem hp with rfl | hp
      · exact hn2
      · exact h.le p hp, fun _ e => by
      have := congrArg List.length (show insL n k x.H = [] from e)
      rw [insL_len] at this
      simp at this⟩
  · rw [if_neg hlt]
    obtain rfl : x.nx = n := by omega
    have hr := rsI_send hL
    exact ⟨hr.pos, runL_top h.le hn2, hr.srt, hr.gt, fun p hp => h.le p (List.mem_of_mem_drop hp), fun ht e => ht (by
      have e2 := congrArg List.length (show x.H.drop (runL (x.nx + 1) x.H) = [] from e)
      rw [List.length_drop] at e2
      show dlP t now (x.H.length - runL (x.nx + 1) x.H) = 0
      unfold dlP
      rw [if_pos (.inl e2)])⟩
theorem recG_g (t now : Int) (x : Gp) (n k : Nat) : (recG t now x n k).g = x.g := by
  unfold recG; split <;> rfl
/-- What holds of a state. -/
structure StI (gs : List Gp) : Prop where
  srt : SrtG gs
  gj : ∀ x, x ∈ gs → GJ x ∧ 0 ≤ x.g ∧ x.g ≤ 3
theorem stI_nil : StI [] := ⟨.nil, by simp⟩
theorem StI.gsI {gs : List Gp} (h : StI gs) : GsI gs := by
  refine ⟨h.srt, ?_, fun x hx => (h.gj x hx).1.gi⟩
  have key := srt_len (gs.map (·.g)) (-1) 3 (by rw [List.pairwise_map]; exact h.srt) (fun v hv => by
    obtain ⟨x, hx, rfl⟩ := List.mem_map.1 hv
    have := (h.gj x hx).2
    omega)
  rw [List.length_map] at key
  omega
theorem StI.get {gs : List Gp} (h : StI gs) (g : Int) : GJ (getG g gs) := by
  cases hk : knG g gs with
  | true => exact (h.gj _ (getG_mem hk)).1
  | false => rw [getG_new hk]; exact ⟨Nat.le_refl 1, by show 1 ≤ 17; decide, .nil, by simp, by simp, fun h => absurd rfl h⟩
theorem stG_stI {gs : List Gp} (h : StI gs) (t l now g : Int) (n k : Nat) (hg : 0 ≤ g ∧ g ≤ 3) (hn2 : n ≤ 16) : StI (stG t l now gs g n k) := by
  unfold stG rejB
  by_cases he : rejP l gs g n = emptyT
  · rw [decide_eq_true he]
    simp only [Bool.not_true, Bool.false_eq_true, if_false]
    obtain ⟨h1, h2⟩ := rejP_empty he
    refine ⟨putG_srt h.srt, fun x hx => ?_⟩
    rcases putG_mem hx with rfl | hx
    · refine ⟨recG_gj (h.get g) t now n k h1 hn2 h2, ?_⟩
      rw [recG_g, getG_g]
      exact hg
    · exact h.gj x hx
  · rw [decide_eq_false he]
    simpa using h
theorem outG_len {x : Gp} {n k : Nat} (hlt : ¬ x.nx < n) : (outG x n k).length = runL (n + 1) x.H + 1 := by
  have hle := runL_le (n + 1) x.H
  have htl : (x.H.take (runL (n + 1) x.H)).length = runL (n + 1) x.H := by rw [List.length_take]; omega
  unfold outG sentG
  rw [if_neg hlt]
  split
  · rename_i e
    rw [e] at htl
    simp only [List.length_nil] at htl
    rw [← htl]; rfl
  · unfold sentO
    rw [List.length_mapIdx, List.length_cons, List.length_map, htl]
/-- Every message is sent on, held or rejected. -/
theorem held_step (gs : List Gp) (t l now g : Int) (n k : Nat) : heldG (stG t l now gs g n k) + (osG l gs g n k).length + (lsG l gs g n k).length = heldG gs + 1 := by
  unfold stG osG lsG rejB
  by_cases he : rejP l gs g n = emptyT
  · rw [decide_eq_true he]
    simp only [Bool.not_true, Bool.false_eq_true, if_false, List.length_nil, Nat.add_zero]
    have hp := heldG_put (recG t now (getG g gs) n k) gs
    rw [recG_g, getG_g] at hp
    have hle := runL_le (n + 1) (getG g gs).H
    by_cases hlt : (getG g gs).nx < n
    · have e1 : (recG t now (getG g gs) n k).H.length = (getG g gs).H.length + 1 := by unfold recG; rw [if_pos hlt]; exact insL_len _ _ _
      have e2 : (outG (getG g gs) n k).length = 0 := by unfold outG; rw [if_pos hlt]; rfl
      rw [e1] at hp
      rw [e2]
      omega
    · have e1 : (recG t now (getG g gs) n k).H.length = (getG g gs).H.length - runL (n + 1) (getG g gs).H := by unfold recG; rw [if_neg hlt]; simp
      rw [e1] at hp
      rw [outG_len hlt]
      omega
  · rw [decide_eq_false he]
    simp
theorem osG_mass (l : Int) (gs : List Gp) (g : Int) (n k : Nat) : ∀ o, o ∈ osG l gs g n k → o.m.mass = 1048576 := fun o ho => by
  unfold osG at ho
  split at ho
  · cases ho
  · unfold outG at ho
    split at ho
    · cases ho
    · unfold sentG at ho
      split at ho
      · rw [List.mem_singleton.1 ho]; rfl
      · unfold sentO at ho
        obtain ⟨j, hj, rfl⟩ := List.mem_mapIdx.1 ho
        simp only
        have : ∀ m, m ∈ (mqg (getG g gs).g (n, k) :: (List.take (runL (n + 1) (getG g gs).H) (getG g gs).H).map (mqg (getG g gs).g)) → m.mass = 1048576 := fun m hm => by
          rcases List.mem_cons.1 hm with rfl | hm
          · rfl
          · obtain ⟨p, _, rfl⟩ := List.mem_map.1 hm; rfl
        exact this _ (List.getElem_mem _)
theorem lsG_mass (l : Int) (gs : List Gp) (g : Int) (n k : Nat) : AllMass (lsG l gs g n k) := fun m hm => by
  unfold lsG at hm
  split at hm
  · rw [List.mem_singleton.1 hm]; rfl
  · cases hm
end Go.Proofs.YtckdgafiindddaaGreatDoor

/- manifoldlaw34.run over messages: what it comes to. -/
namespace Go.Proofs.YtckdgafiindddaaGreatDoor
open Go.Em
set_option maxRecDepth 100000

structure Arv where
  g : Nat
  n : Nat
  d : Nat
  c : Bool
def Arv.cells (a : Arv) : List X := [u8 a.g, u8 a.n, u8 a.d, boolX a.c]
def arvC (l : List Arv) : List (List X) := l.map Arv.cells
def Arv.ok (a : Arv) : Prop := a.g < 256 ∧ a.n < 256 ∧ a.d < 256
theorem arvC_len (l : List Arv) : (arvC l).length = l.length := by simp [arvC]
theorem arvC_get {l : List Arv} {j : Nat} (h : j < l.length) : (arvC l)[j]? = some l[j].cells := by simp [arvC, h]
/-- Where a run stands: how many inputs, what was sent, the letters, the groups, the time. -/
structure Rn where
  i : Nat
  S : List Otp
  L : List Msg
  gs : List Gp
  now : Int
def rn0 : Rn := ⟨0, [], [], [], 0⟩
/-- A message arrives. -/
def arM (t l : Int) (q : Rn) (a : Arv) : Rn :=
  ⟨q.i + 1, q.S ++ osG l q.gs (Int.ofNat (a.g % 4)) (a.n % 16 + 1) q.i, q.L ++ lsG l q.gs (Int.ofNat (a.g % 4)) (a.n % 16 + 1) q.i, stG t l (q.now + (a.d : Int)) q.gs (Int.ofNat (a.g % 4)) (a.n % 16 + 1) q.i, q.now + (a.d : Int)⟩
def rnM (t l : Int) (av : List Arv) : Rn := av.foldl (arM t l) rn0
structure RnI (q : Rn) : Prop where
  st : StI q.gs
  cnt : heldG q.gs + q.S.length + q.L.length ≤ q.i
  mo : ∀ o, o ∈ q.S → o.m.mass = 1048576
  ml : AllMass q.L
  lo : 0 ≤ q.now
  hi : q.now ≤ (q.i : Int) * 255
theorem rnI_0 : RnI rn0 := ⟨stI_nil, Nat.le_refl 0, (fun o h => by cases h), (fun m h => by cases h), by decide, by decide⟩
theorem rnI_arM {t l : Int} {q : Rn} (h : RnI q) (a : Arv) (ha : a.ok) : RnI (arM t l q a) := by
  have hk := held_step q.gs t l (q.now + (a.d : Int)) (Int.ofNat (a.g % 4)) (a.n % 16 + 1) q.i
  have hc := h.cnt
  have hd := ha.2.2
  have h1 := h.lo
  have h2 := h.hi
  refine ⟨stG_stI h.st _ _ _ _ _ _ (by simp only [Int.ofNat_eq_natCast]; omega) (by omega), ?_, ?_, ?_, ?_, ?_⟩
  · simp only [arM, List.length_append]
    omega
  · intro o ho
    rcases List.mem_append.1 ho with ho | ho
    · exact h.mo o ho
    · exact osG_mass _ _ _ _ _ o ho
  · intro m hm
    rcases List.mem_append.1 hm with hm | hm
    · exact h.ml m hm
    · exact lsG_mass _ _ _ _ _ m hm
  · simp only [arM]; omega
  · simp only [arM]
    omega
theorem rnM_snoc (t l : Int) (av : List Arv) (j : Nat) (h : j < av.length) : rnM t l (av.take (j + 1)) = arM t l (rnM t l (av.take j)) av[j] := by
  unfold rnM
  rw [List.take_succ_eq_append_getElem h, List.foldl_append]
  rfl
theorem rnM_I (t l : Int) (av : List Arv) (h : ∀ a, a ∈ av → a.ok) : RnI (rnM t l av) ∧ (rnM t l av).i = av.length := by
  have key : ∀ (av : List Arv) (q : Rn), RnI q → (∀ a, a ∈ av → a.ok) → RnI (av.foldl (arM t l) q) ∧ (av.foldl (arM t l) q).i = q.i + av.length := by
    intro av
    induction av with
    | nil => intro q hq _; exact ⟨hq, rfl⟩
    | cons a r ih =>
      intro q hq ha
      have := ih (arM t l q a) (rnI_arM hq a (ha a List.mem_cons_self)) (fun b hb => ha b (List.mem_cons_of_mem _ hb))
      refine ⟨this.1, ?_⟩
      rw [List.foldl_cons, this.2, List.length_cons]
      show q.i + 1 + r.length = _
      omega
  have := key av rn0 rnI_0 h
  exact ⟨this.1, by rw [show rnM t l av = av.foldl (arM t l) rn0 from rfl, this.2]; show 0 + av.length = _; omega⟩
def rnSt (t l : Int) (es : List (List X)) (q : Rn) : St := r0H t l es (outsC q.S) (msgsC q.L) (sltsC (gst q.gs).slots) q.S.length q.L.length q.i q.now (q.i == 0)
theorem outsC_len (os : List Otp) : (outsC os).length = os.length := by simp [outsC]
theorem outsC_app (a b : List Otp) : outsC (a ++ b) = outsC a ++ outsC b := by simp [outsC]
theorem msgsC_app (a b : List Msg) : msgsC (a ++ b) = msgsC a ++ msgsC b := by simp [msgsC]
theorem run_round (t l : Int) (ht : 0 ≤ t) (ht2 : t ≤ 100000) (av : List Arv) (q : Rn) (hq : RnI q) (hi : q.i < av.length) (hi2 : q.i < 40) (ha : av[q.i].ok) (hc : av[q.i].c = false) (N : Nat) (hN : 202000 ≤ N) :
    ∃ υ, run (callF tab ext N) 0 N (loopAt 7 0) (rnSt t l (arvC av) q) = some (.norm, υ) ∧ canon 0 υ = some (rnSt t l (arvC av) (arM t l q av[q.i])) := by
  obtain ⟨M, rfl⟩ : ∃ M, N = M + 100 := ⟨N - 100, by omega⟩
  have hcnt := hq.cnt
  have h1 := hq.lo
  have h2 := hq.hi
  have hq2 := rnI_arM (t := t) (l := l) hq av[q.i] ha
  have hcnt2 := hq2.cnt
  have hget := arvC_get hi
  have hd := ha.2.2
  generalize av[q.i] = a at *
  obtain ⟨g, n, d, c⟩ := a
  dsimp only at hc hd
  subst hc
  obtain ⟨F, h52⟩ := step_at q.gs hq.st.gsI t l (Int.ofNat (g % 4)) (q.now + (d : Int)) ht ht2 (by omega) (by omega) (n % 16 + 1) q.i (by omega) (by omega) (M + 100) (by omega)
  have h133 := mass133 q.gs hq.st.gsI (by omega) (M + 100) (by omega)
  have h133b := mass133 (stG t l (q.now + (d : Int)) q.gs (Int.ofNat (g % 4)) (n % 16 + 1) q.i) hq2.st.gsI (by
    have : (arM t l q ⟨g, n, d, false⟩).i = q.i + 1 := rfl
    have e : (arM t l q ⟨g, n, d, false⟩).gs = stG t l (q.now + (d : Int)) q.gs (Int.ofNat (g % 4)) (n % 16 + 1) q.i := rfl
    rw [e] at hcnt2
    omega) (M + 100) (by omega)
  have hk := held_step q.gs t l (q.now + (d : Int)) (Int.ofNat (g % 4)) (n % 16 + 1) q.i
  have hom := osG_mass l q.gs (Int.ofNat (g % 4)) (n % 16 + 1) q.i
  have hlm := lsG_mass l q.gs (Int.ofNat (g % 4)) (n % 16 + 1) q.i
  have e2 : arM t l q ⟨g, n, d, false⟩ = ⟨q.i + 1, q.S ++ osG l q.gs (Int.ofNat (g % 4)) (n % 16 + 1) q.i, q.L ++ lsG l q.gs (Int.ofNat (g % 4)) (n % 16 + 1) q.i, stG t l (q.now + (d : Int)) q.gs (Int.ofNat (g % 4)) (n % 16 + 1) q.i, q.now + (d : Int)⟩ := rfl
  rw [e2]
  clear e2 hcnt2 hq2
  generalize stG t l (q.now + (d : Int)) q.gs (Int.ofNat (g % 4)) (n % 16 + 1) q.i = gs2 at *
  generalize osG l q.gs (Int.ofNat (g % 4)) (n % 16 + 1) q.i = os at *
  generalize lsG l q.gs (Int.ofNat (g % 4)) (n % 16 + 1) q.i = ls at *
  have h134 := mass134 ls (by omega) hlm (M + 100) (by omega)
  have hms : IntKind.i64.wrap (1048576 + (heldG q.gs : Int) * 1048576) = ((heldG q.gs : Int) + 1) * 1048576 := by rw [IntKind.wrap_i64]; omega
  have hlo := r1_loop t l (arvC av) (outsC q.S) (msgsC q.L) (sltsC (gst q.gs).slots) F (msgsC ls) (sltsC (gst gs2).slots) os q.L.length q.i (q.now + (d : Int)) (((heldG q.gs : Int) + 1) * 1048576) (q.i == 0) hom (by omega) (by rw [outsC_len]; omega) (by omega) (by omega) (M + 100) (by omega)
  rw [outsC_len] at hlo
  have hm3 : IntKind.i64.wrap ((heldG gs2 : Int) * 1048576 + (ls.length : Int) * 1048576) = ((heldG q.gs : Int) + 1) * 1048576 - (os.length : Int) * 1048576 := by rw [IntKind.wrap_i64]; omega
  have hml := msgsC_length q.L
  have hml2 := msgsC_length ls
  have key := r0_msg t l (arvC av) (outsC q.S) (msgsC q.L) (sltsC (gst q.gs).slots) (otpsC os) F (msgsC ls) (sltsC (gst gs2).slots) (outsC q.S ++ outsC os) q.S.length q.L.length q.i os.length (q.S.length + os.length) g n d q.now _ _ _ _ _ (q.i == 0) M (by rw [arvC_len]; exact hi) hi2 hget hd h1 (by omega) h52 h133 hms hlo h133b h134 hm3 hml.symm (by omega)
  rw [← outsC_app, ← msgsC_app, hml2] at key
  unfold rnSt
  dsimp only
  rw [List.length_append, List.length_append]
  exact key
theorem run_loop (t l : Int) (ht : 0 ≤ t) (ht2 : t ≤ 100000) (av : List Arv) (hok : ∀ a, a ∈ av → a.ok) (hc : ∀ a, a ∈ av → a.c = false) (hl : av.length ≤ 40) (N : Nat) (hN : 202000 ≤ N) (τ : St) (hτ : canon 0 τ = some (rnSt t l (arvC av) rn0)) :
    run (callF tab ext N) 0 N (.loop (loopAt 7 0)) τ = some (.exit 0, r0E t l (arvC av) (outsC (rnM t l av).S) (msgsC (rnM t l av).L) (sltsC (gst (rnM t l av).gs).slots) (rnM t l av).S.length (rnM t l av).L.length av.length (rnM t l av).now (av.length == 0)) := by
  refine loop_for (σ := fun j => rnSt t l (arvC av) (rnM t l (av.take j))) (k := av.length) hτ (fun j hj => ?_) ?_ (by simp) (by omega)
  · obtain ⟨hI, hi⟩ := rnM_I t l (av.take j) (fun a ha => hok a (List.mem_of_mem_take ha))
    rw [List.length_take, Nat.min_eq_left (by omega)] at hi
    have := run_round t l ht ht2 av (rnM t l (av.take j)) hI (by omega) (by omega) (hok _ (List.getElem_mem _)) (hc _ (List.getElem_mem _)) N hN
    rw [rnM_snoc t l av j hj]
    have e : av[(rnM t l (av.take j)).i]'(by omega) = av[j] := by simp only [hi]
    rw [e] at this
    exact this
  · rw [List.take_length]
    obtain ⟨_, hi⟩ := rnM_I t l av hok
    unfold rnSt
    rw [hi]
    exact r0_end t l (arvC av) _ _ _ _ _ av.length _ _ N (by rw [arvC_len]; omega)
end Go.Proofs.YtckdgafiindddaaGreatDoor

/- Arguments of the laws of layer 31 over arrivals, read as data. -/
namespace Go.Proofs.YtckdgafiindddaaGreatDoor
open Go.Em Go.ChangeShapes Go.WideShapes Go.ChangeAt Go.RowKit
set_option maxRecDepth 100000

def tysR : List TypeId := [4, 5, 22, 45]
theorem tysR_ok : dataTys Tryz.prog tysR = true := by kernel_rfl
theorem tysR_size : tysR.all (fun t => decide (t < Tryz.prog.types.size)) = true := by kernel_rfl
theorem tysR_lt {t : TypeId} (h : t ∈ tysR) : t < Tryz.prog.types.size := of_decide_eq_true (List.all_eq_true.1 tysR_size t h)
theorem tysR_kids : Kids Tryz.prog (fun t => t ∈ tysR ∧ t < Tryz.prog.types.size) := kids_data (kids_rows Tryz.laidOut Tryz.rowed) tysR_ok
theorem underR22 : Tryz.prog.underlying 22 = some (.slice 45) := by kernel_rfl
theorem cellsR45 : Tryz.prog.cellsOf 45 = 4 := by kernel_rfl
theorem underR45 : Tryz.prog.underlying 45 = some (.struct (fieldsOf Tryz.prog 45)) := by kernel_rfl
theorem fieldsR45 : (fieldsOf Tryz.prog 45).toList.map (·.type) = [5, 5, 5, 4] := by kernel_rfl
theorem shape_arv {n : Nat} {xs : List X} (h : Shape Tryz.prog n 45 xs) : ∃ a : Arv, a.ok ∧ xs = a.cells := by
  obtain ⟨m, hm, hk⟩ := shape_struct underR45 h
  rw [fieldsR45] at hk
  obtain ⟨x0, r0, rfl, h0, hk⟩ := hk
  obtain ⟨x1, r1, rfl, h1, hk⟩ := hk
  obtain ⟨x2, r2, rfl, h2, hk⟩ := hk
  obtain ⟨x3, r3, rfl, h3, hk⟩ := hk
  have hk : r3 = [] := hk
  subst hk
  obtain ⟨a, ha, rfl⟩ := shape_u8 h0
  obtain ⟨b, hb, rfl⟩ := shape_u8 h1
  obtain ⟨c, hc, rfl⟩ := shape_u8 h2
  obtain ⟨d, rfl⟩ := shape_bool under4 h3
  exact ⟨⟨a, b, c, d⟩, ⟨ha, hb, hc⟩, rfl⟩
theorem shape_arvs {n : Nat} {xs : List X} (h : Shape Tryz.prog n 22 xs) : ∃ l : List Arv, (∀ a, a ∈ l → a.ok) ∧ xs = [.sl false 4 (arvC l)] := by
  obtain ⟨es, rfl, _, m, _, hes⟩ := shape_slice underR22 h
  rw [cellsR45]
  have : ∀ es : List (List X), (∀ c, c ∈ es → Shape Tryz.prog m 45 c) → ∃ l : List Arv, (∀ a, a ∈ l → a.ok) ∧ es = arvC l := by
    intro es
    induction es with
    | nil => intro _; exact ⟨[], (fun k h => by cases h), rfl⟩
    | cons c r ih =>
      intro h
      obtain ⟨k, hk, rfl⟩ := shape_arv (h c (List.mem_cons_self ..))
      obtain ⟨l, hl, rfl⟩ := ih (fun c hc => h c (List.mem_cons_of_mem _ hc))
      refine ⟨k :: l, fun j hj => ?_, rfl⟩
      rcases List.mem_cons.1 hj with rfl | hj
      · exact hk
      · exact hl j hj
  obtain ⟨l, hl, rfl⟩ := this es hes
  exact ⟨l, hl, rfl⟩
end Go.Proofs.YtckdgafiindddaaGreatDoor

/- ResequencerGroups: the plain law: what is sent on for a group doesn't depend on the other groups. -/
namespace Go.Proofs.YtckdgafiindddaaGreatDoor
open Go.Em
set_option maxRecDepth 100000

/-! ### Looking up and putting -/
theorem getG_of_mem {gs : List Gp} (hs : SrtG gs) {y : Gp} (hy : y ∈ gs) : getG y.g gs = y := by
  obtain ⟨i, hi, rfl⟩ := List.getElem_of_mem hy
  have hlow : lowG gs[i].g gs = i := lowG_eq _ gs i (by omega) (fun j hj hji => srtG_get hs hji hi) (fun _ => by omega)
  unfold getG
  rw [hlow, List.getElem?_eq_getElem hi]
  simp
theorem getG_of_not {gs : List Gp} {g : Int} (h : ∀ y, y ∈ gs → y.g ≠ g) : getG g gs = ⟨g, 1, 0, []⟩ := by
  cases hk : knG g gs with
  | true => exact absurd (getG_g g gs) (h _ (getG_mem hk))
  | false => exact getG_new hk
theorem putG_self (x : Gp) (gs : List Gp) : x ∈ putG x gs := by
  rw [putG_eq]; simp
theorem putG_other {x y : Gp} {gs : List Gp} (hy : y ∈ gs) (hne : y.g ≠ x.g) : y ∈ putG x gs := by
  rw [split_at x.g gs] at hy
  rw [putG_eq]
  rcases List.mem_append.1 hy with hy | hy
  · rcases List.mem_append.1 hy with hy | hy
    · exact List.mem_append_left _ (List.mem_append_left _ hy)
    · split at hy
      · rw [List.mem_singleton.1 hy, getG_g] at hne
        exact absurd rfl hne
      · cases hy
  · exact List.mem_append_right _ hy
theorem getG_put_self {x : Gp} {gs : List Gp} (hs : SrtG gs) : getG x.g (putG x gs) = x := getG_of_mem (putG_srt hs) (putG_self x gs)
theorem getG_put_other {x : Gp} {gs : List Gp} (hs : SrtG gs) {g : Int} (hne : g ≠ x.g) : getG g (putG x gs) = getG g gs := by
  by_cases h : ∃ y, y ∈ gs ∧ y.g = g
  · obtain ⟨y, hy, rfl⟩ := h
    rw [getG_of_mem (putG_srt hs) (putG_other hy hne), getG_of_mem hs hy]
  · have h1 : ∀ y, y ∈ gs → y.g ≠ g := fun y hy e => h ⟨y, hy, e⟩
    rw [getG_of_not h1, getG_of_not (fun y hy e => by
      rcases putG_mem hy with rfl | hy
      · exact hne e.symm
      · exact h1 y hy e)]
/-! ### Only the numbers matter -/
theorem runL_fst : ∀ (m : Nat) (H K : List (Nat × Nat)), H.map (·.1) = K.map (·.1) → runL m H = runL m K
  | _, [], [], _ => rfl
  | _, [], _ :: _, h => by simp at h
  | _, _ :: _, [], h => by simp at h
  | m, p :: r, q :: s, h => by
    simp only [List.map_cons, List.cons.injEq] at h
    unfold runL
    rw [h.1, runL_fst (m + 1) r s h.2]
theorem lowL_fst : ∀ (v : Nat) (H K : List (Nat × Nat)), H.map (·.1) = K.map (·.1) → lowL v H = lowL v K
  | _, [], [], _ => rfl
  | _, [], _ :: _, h => by simp at h
  | _, _ :: _, [], h => by simp at h
  | v, p :: r, q :: s, h => by
    simp only [List.map_cons, List.cons.injEq] at h
    unfold lowL
    rw [h.1, lowL_fst v r s h.2]
theorem insL_fst {v k j : Nat} {H K : List (Nat × Nat)} (h : H.map (·.1) = K.map (·.1)) : (insL v k H).map (·.1) = (insL v j K).map (·.1) := by
  unfold insL
  rw [lowL_fst v H K h]
  simp only [List.map_append, List.map_take, List.map_drop, List.map_cons, List.map_nil, h]
/-- Two groups of one key that expect and hold the same numbers. -/
structure GR (x y : Gp) : Prop where
  g : x.g = y.g
  nx : x.nx = y.nx
  h : x.H.map (·.1) = y.H.map (·.1)
theorem GR.len {x y : Gp} (h : GR x y) : x.H.length = y.H.length := by
  have := congrArg List.length h.h
  simpa using this
theorem GR.nq {x y : Gp} (h : GR x y) : nq x.H = nq y.H := by
  have e : ∀ H : List (Nat × Nat), Go.Proofs.YtckdgafiindddaaGreatDoor.nq H = (H.map (·.1)).map fun v : Nat => (v : Int) := fun H => by unfold Go.Proofs.YtckdgafiindddaaGreatDoor.nq; rw [List.map_map]; rfl
  rw [e, e, h.h]
theorem GR.step {x y : Gp} (h : GR x y) (t now now' : Int) (n k j : Nat) : GR (recG t now x n k) (recG t now' y n j) := by
  unfold recG
  rw [h.nx, runL_fst (n + 1) x.H y.H h.h, h.len]
  split
  · exact ⟨h.g, rfl, insL_fst h.h⟩
  · exact ⟨h.g, rfl, by simp only [List.map_drop, h.h]⟩
def gOf (m : Msg) : Int := match m.body with
  | .mk _ _ _ _ _ ((_, .mk _ i _ _ _ _) :: _) => i
  | _ => 0
def nOf (m : Msg) : Int := match m.body with
  | .mk _ _ _ _ _ (_ :: (_, .mk _ i _ _ _ _) :: _) => i
  | _ => 0
/-- A message of a group with a number, under any stamp. -/
def WfM (m : Msg) : Prop := ∃ (g : Int) (n k : Nat) (s : Stp), m = { mqg g (n, k) with st := s }
theorem out_form (x : Gp) (n k : Nat) : (∀ o, o ∈ outG x n k → WfM o.m ∧ gOf o.m = x.g) ∧ (outG x n k).map (fun o => nOf o.m) = if x.nx < n then [] else (n : Int) :: (nq x.H).take (runL (n + 1) x.H) := by
  unfold outG
  by_cases hlt : x.nx < n
  · rw [if_pos hlt, if_pos hlt]
    exact ⟨fun o h => by (cases h), rfl⟩
  · rw [if_neg hlt, if_neg hlt]
    have e : (nq x.H).take (runL (n + 1) x.H) = nq (x.H.take (runL (n + 1) x.H)) := by unfold nq; rw [List.map_take]
    rw [e]
    generalize x.H.take (runL (n + 1) x.H) = L
    unfold sentG
    split
    · rename_i hL
      subst hL
      exact ⟨fun o h => by
        rw [List.mem_singleton.1 h]
        exact ⟨⟨x.g, n, k, (mqg x.g (n, k)).st, rfl⟩, rfl⟩, rfl⟩
    · have hm : ∀ m, m ∈ (mqg x.g (n, k) :: L.map (mqg x.g)) → ∃ p, m = mqg x.g p := fun m hm => by
        rcases List.mem_cons.1 hm with rfl | hm
        · exact ⟨_, rfl⟩
        · obtain ⟨p, _, rfl⟩ := List.mem_map.1 hm; exact ⟨p, rfl⟩
      refine ⟨fun o h => ?_, ?_⟩
      · unfold sentO at h
        obtain ⟨j, hj, rfl⟩ := List.mem_mapIdx.1 h
        obtain ⟨p, hp⟩ := hm _ (List.getElem_mem hj)
        simp only
        rw [hp]
        exact ⟨⟨x.g, p.1, p.2, _, rfl⟩, rfl⟩
      · have e2 : ∀ (l : List Msg) (s : Stp), (sentO s l).map (fun o => nOf o.m) = l.map nOf := fun l s => by
          unfold sentO
          apply List.ext_getElem
          · simp
          · intro i h1 h2
            simp [nOf]
        rw [e2, List.map_cons, List.map_map]
        rfl
/-- No group is full: up to 40 messages, a limit of 50. -/
theorem rejB_50 {gs : List Gp} (h : StI gs) (hh : heldG gs ≤ 40) (g : Int) (n : Nat) : rejB 50 gs g n = (decide (n < (getG g gs).nx) || decide ((n : Int) ∈ nq (getG g gs).H)) := by
  have hl := h.gsI.len
  have hlen : (getG g gs).H.length ≤ 16 := by
    have hj := h.get g
    have key := srt_len (nq (getG g gs).H) 0 16 (nq_srt hj.srt) (fun v hv => by
      obtain ⟨p, hp, rfl⟩ := List.mem_map.1 hv
      have h1 := hj.gt p hp
      have h2 := hj.le p hp
      omega)
    rw [nq_len] at key
    omega
  unfold rejB rejP refT
  by_cases h1 : n < (getG g gs).nx
  · rw [if_pos (by omega), decide_eq_true h1]; rfl
  · rw [if_neg (by omega), decide_eq_false h1]
    by_cases h2 : (n : Int) ∈ nq (getG g gs).H
    · rw [if_pos (by simpa using h2), decide_eq_true h2]; rfl
    · rw [if_neg (by simpa using h2), decide_eq_false h2, if_neg (by rintro ⟨_, h3⟩; omega), if_neg (by rintro ⟨_, h3 | h3⟩ <;> omega)]
      rfl
end Go.Proofs.YtckdgafiindddaaGreatDoor

/- ResequencerGroups: the two runs. -/
namespace Go.Proofs.YtckdgafiindddaaGreatDoor
open Go.Em
set_option maxRecDepth 100000

/-- A run, and the run without the messages of other groups. -/
structure RR (g : Int) (q p : Rn) : Prop where
  gr : GR (getG g q.gs) (getG g p.gs)
  nums : (q.S.filter (fun o => decide (gOf o.m = g))).map (fun o => nOf o.m) = p.S.map (fun o => nOf o.m)
  wq : ∀ o, o ∈ q.S → WfM o.m
  wp : ∀ o, o ∈ p.S → WfM o.m
theorem osG_wf (l : Int) (gs : List Gp) (g : Int) (n k : Nat) : ∀ o, o ∈ osG l gs g n k → WfM o.m ∧ gOf o.m = g := fun o ho => by
  unfold osG at ho
  split at ho
  · cases ho
  · have := (out_form (getG g gs) n k).1 o ho
    rw [getG_g] at this
    exact this
theorem filter_all {α : Type} {p : α → Bool} {l : List α} (h : ∀ a, a ∈ l → p a = true) : l.filter p = l := List.filter_eq_self.2 h
theorem filter_none {α : Type} {p : α → Bool} {l : List α} (h : ∀ a, a ∈ l → p a = false) : l.filter p = [] := List.filter_eq_nil_iff.2 fun a ha => by rw [h a ha]; simp
theorem rr_same {g : Int} {q p : Rn} (h : RR g q p) (hq : RnI q) (hp : RnI p) (hqi : q.i ≤ 40) (hpi : p.i ≤ 40) (a : Arv) (ha : Int.ofNat (a.g % 4) = g) : RR g (arM 0 50 q a) (arM 0 50 p a) := by
  have hr : rejB 50 q.gs g (a.n % 16 + 1) = rejB 50 p.gs g (a.n % 16 + 1) := by
    have h1 := hq.cnt
    have h2 := hp.cnt
    rw [rejB_50 hq.st (by omega), rejB_50 hp.st (by omega), h.gr.nx, h.gr.nq]
  have hw1 := osG_wf 50 q.gs g (a.n % 16 + 1) q.i
  have hw2 := osG_wf 50 p.gs g (a.n % 16 + 1) p.i
  have hout : (osG 50 q.gs g (a.n % 16 + 1) q.i).map (fun o => nOf o.m) = (osG 50 p.gs g (a.n % 16 + 1) p.i).map (fun o => nOf o.m) := by
    unfold osG
    rw [hr]
    split
    · rfl
    · rw [(out_form _ _ _).2, (out_form _ _ _).2, h.gr.nx, h.gr.nq, runL_fst _ _ _ h.gr.h]
  unfold arM
  rw [ha]
  refine ⟨?_, ?_, ?_, ?_⟩
  · show GR (getG g (stG 0 50 (q.now + (a.d : Int)) q.gs g (a.n % 16 + 1) q.i)) (getG g (stG 0 50 (p.now + (a.d : Int)) p.gs g (a.n % 16 + 1) p.i))
    unfold stG
    rw [hr]
    split
    · exact h.gr
    · have e1 : getG g (putG (recG 0 (q.now + (a.d : Int)) (getG g q.gs) (a.n % 16 + 1) q.i) q.gs) = recG 0 (q.now + (a.d : Int)) (getG g q.gs) (a.n % 16 + 1) q.i := by
        have := getG_put_self (x := recG 0 (q.now + (a.d : Int)) (getG g q.gs) (a.n % 16 + 1) q.i) hq.st.srt
        rw [recG_g, getG_g] at this
        exact this
      have e2 : getG g (putG (recG 0 (p.now + (a.d : Int)) (getG g p.gs) (a.n % 16 + 1) p.i) p.gs) = recG 0 (p.now + (a.d : Int)) (getG g p.gs) (a.n % 16 + 1) p.i := by
        have := getG_put_self (x := recG 0 (p.now + (a.d : Int)) (getG g p.gs) (a.n % 16 + 1) p.i) hp.st.srt
        rw [recG_g, getG_g] at this
        exact this
      rw [e1, e2]
      exact h.gr.step _ _ _ _ _ _
  · show ((q.S ++ _).filter _).map _ = (p.S ++ _).map _
    rw [List.filter_append, List.map_append, List.map_append, h.nums, filter_all (fun o ho => decide_eq_true (hw1 o ho).2), hout]
  · intro o ho
    rcases List.mem_append.1 ho with ho | ho
    · exact h.wq o ho
    · exact (hw1 o ho).1
  · intro o ho
    rcases List.mem_append.1 ho with ho | ho
    · exact h.wp o ho
    · exact (hw2 o ho).1
theorem rr_other {g : Int} {q p : Rn} (h : RR g q p) (hq : RnI q) (a : Arv) (ha : Int.ofNat (a.g % 4) ≠ g) : RR g (arM 0 50 q a) p := by
  have hw1 := osG_wf 50 q.gs (Int.ofNat (a.g % 4)) (a.n % 16 + 1) q.i
  refine ⟨?_, ?_, ?_, h.wp⟩
  · show GR (getG g (stG 0 50 (q.now + (a.d : Int)) q.gs (Int.ofNat (a.g % 4)) (a.n % 16 + 1) q.i)) (getG g p.gs)
    unfold stG
    split
    · exact h.gr
    · rw [getG_put_other hq.st.srt (by rw [recG_g, getG_g]; exact fun e => ha e.symm)]
      exact h.gr
  · show ((q.S ++ _).filter _).map _ = _
    rw [List.filter_append, filter_none (l := osG _ _ _ _ _) (fun o ho => decide_eq_false (by rw [(hw1 o ho).2]; exact ha)), List.append_nil, h.nums]
  · intro o ho
    rcases List.mem_append.1 ho with ho | ho
    · exact h.wq o ho
    · exact (hw1 o ho).1
def ownB (gg : Nat) (a : Arv) : Bool := decide (a.g % 4 = gg)
theorem rr_fold (gg : Nat) : ∀ (av : List Arv) (q p : Rn), RnI q → RnI p → q.i + av.length ≤ 40 → p.i ≤ q.i → (∀ a, a ∈ av → a.ok) → RR (Int.ofNat gg) q p →
    RR (Int.ofNat gg) (av.foldl (arM 0 50) q) ((av.filter (ownB gg)).foldl (arM 0 50) p)
  | [], q, p, _, _, _, _, _, h => h
  | a :: r, q, p, hq, hp, hl, hi, hok, h => by
    have ha := hok a List.mem_cons_self
    rw [List.length_cons] at hl
    rw [List.foldl_cons, List.filter_cons]
    by_cases e : a.g % 4 = gg
    · rw [show ownB gg a = true from decide_eq_true e, if_pos rfl, List.foldl_cons]
      exact rr_fold gg r _ _ (rnI_arM hq a ha) (rnI_arM hp a ha) (by show q.i + 1 + r.length ≤ 40; omega) (by show p.i + 1 ≤ q.i + 1; omega) (fun b hb => hok b (List.mem_cons_of_mem _ hb)) (rr_same h hq hp (by omega) (by omega) a (by rw [e]))
    · rw [show ownB gg a = false from decide_eq_false e, if_neg (by decide)]
      exact rr_fold gg r _ _ (rnI_arM hq a ha) hp (by show q.i + 1 + r.length ≤ 40; omega) (by show p.i ≤ q.i + 1; omega) (fun b hb => hok b (List.mem_cons_of_mem _ hb)) (rr_other h hq a (fun e2 => e (Int.ofNat.inj e2)))
theorem rr_runs (gg : Nat) (av : List Arv) (hl : av.length ≤ 40) (hok : ∀ a, a ∈ av → a.ok) : RR (Int.ofNat gg) (rnM 0 50 av) (rnM 0 50 (av.filter (ownB gg))) :=
  rr_fold gg av rn0 rn0 rnI_0 rnI_0 (by show 0 + av.length ≤ 40; omega) (Nat.le_refl _) hok ⟨⟨rfl, rfl, rfl⟩, rfl, (fun o h => by cases h), (fun o h => by cases h)⟩
/-- run hands back what it comes to. -/
theorem run59 (t l : Int) (ht : 0 ≤ t) (ht2 : t ≤ 100000) (av : List Arv) (hok : ∀ a, a ∈ av → a.ok) (hc : ∀ a, a ∈ av → a.c = false) (hl : av.length ≤ 40) (N : Nat) (hN : 202001 ≤ N) :
    Gam.pureD (callF tab ext N) 7 [.agg (nodR t l).cells, .sl false 4 (arvC av)] = some (.tup [.sl false 10 (outsC (rnM t l av).S), .sl false 10 (msgsC (rnM t l av).L), .agg (gst (rnM t l av).gs).cells, boolX true]) := by
  obtain ⟨M, rfl⟩ : ∃ M, N = M + 1 := ⟨N - 1, by omega⟩
  have h := run_loop t l ht ht2 av hok hc hl M (by omega) ⟨[(1, .sl false 4 (arvC av)), (2, .ptr 0 0 0), (4, .bs 2 0 0), (5, .bs 3 0 0), (6, .ptr 1 0 0), (8, num 0), (9, num 0)], [.var (nodR t l).cells, .var [num 0, num 0, .sl true 10 []], .row 10 [], .row 10 []]⟩ (by kernel_rfl)
  generalize rnM t l av = q at h ⊢
  obtain ⟨i, S, L, gs, now⟩ := q
  have hs := outsC_len S
  have hml := msgsC_length L
  exact pure_of [] [(.exit 0, r0E t l (arvC av) (outsC S) (msgsC L) (sltsC (gst gs).slots) S.length L.length av.length now (av.length == 0))] (pf1 h)
    (x := .tup [.bs 0 0 S.length, .bs 1 0 L.length, .agg [num 0, num 0, .sl (av.length == 0) 10 (sltsC (gst gs).slots)], boolX true]) (bx := [.row 10 (outsC S), .row 10 (msgsC L)]) (by kernel_rfl)
    (by
      have h1 := data_bs (bx := [.row 10 (outsC S), .row 10 (msgsC L)]) (i := 0) rfl hs.symm
      have h2 := data_bs (bx := [.row 10 (outsC S), .row 10 (msgsC L)]) (i := 1) rfl hml.symm
      have h3 := dataL_cons h1 (dataL_cons h2 (dataL_cons (x := .agg [num 0, num 0, .sl (av.length == 0) 10 (sltsC (gst gs).slots)]) (y := .agg (gst gs).cells) rfl (dataL_cons (x := boolX true) (r := []) rfl rfl)))
      simp only [X.data]
      rw [h3]
      rfl)
end Go.Proofs.YtckdgafiindddaaGreatDoor

/- ResequencerGroups: the walk of the law. -/
namespace Go.Proofs.YtckdgafiindddaaGreatDoor
open Go.Em
set_option maxRecDepth 100000

def clnA (a : Arv) : Arv := ⟨a.g, a.n, a.d, false⟩
section
variable (es A B : List (List X)) (n m i g x d gv : Nat) (c : Bool) (N : Nat)
def gbH : St := ⟨[(0, .sl false 4 es), (1, u8 gv), (5, .bs 0 0 n), (6, .bs 1 0 m), (7, nat i)], [.row 4 A, .row 4 B]⟩
def gbE (b : Bool) : St := ⟨[(0, .sl false 4 es), (1, u8 gv), (5, .bs 0 0 n), (6, .bs 1 0 m), (7, nat i), (28, boolX b)], [.row 4 A, .row 4 B]⟩
theorem gb_end (h : ¬ (i < es.length ∧ i < 40)) : run (callF tab ext N) 0 N (loopAt 4 0) (gbH es A B n m i gv) = some (.exit 0, gbE es A B n m i gv false) := by
  by_cases h1 : i < es.length
  · have h1' := lt_nat h1
    have h2 : decide (Int.ofNat i < 40) = false := decide_eq_false (by simp only [Int.ofNat_eq_natCast]; omega)
    exact run_of [(24, .b true), (27, .b false)] [] (pf2 h1' h2) (lo' := []) (by kernel_rfl)
  · exact run_of [(24, .b false)] [] (pf1 (nlt_nat h1)) (lo' := []) (by kernel_rfl)
theorem gb_round (hi : i < es.length) (hi2 : i < 40) (he : es[i]? = some [u8 g, u8 x, u8 d, boolX c]) (hn : n = A.length) (hm : m = B.length) (hn2 : n ≤ 1000) (hm2 : m ≤ 1000) :
    ∃ υ, run (callF tab ext N) 0 N (loopAt 4 0) (gbH es A B n m i gv) = some (.norm, υ) ∧ canon 0 υ = some (if g % 4 = gv % 4 then gbH es (A ++ [[u8 g, u8 x, u8 d, boolX false]]) (B ++ [[u8 g, u8 x, u8 d, boolX false]]) (n + 1) (m + 1) (i + 1) gv else gbH es (A ++ [[u8 g, u8 x, u8 d, boolX false]]) B (n + 1) m (i + 1) gv) := by
  have h1 := lt_nat hi
  have h2 : decide (Int.ofNat i < 40) = true := decide_eq_true (by simp only [Int.ofNat_eq_natCast]; omega)
  have h3 := app_ok (acc := A) n 0 4 (by omega) (by omega) (by omega)
  have h4 := app_ok (acc := B) m 0 4 (by omega) (by omega) (by omega)
  have h5 := tmodN g 3
  have h6 := tmodN gv 3
  have h7 := next_nat (j := i) (by omega)
  by_cases e : g % 4 = gv % 4
  · have h8 : (Int.ofNat (g % 4) == Int.ofNat (gv % 4)) = true := by rw [e]; exact BEq.rfl
    rw [if_pos e]
    exact rd_of [(24, .b true), (27, .b true), (33, .e [u8 g, u8 x, u8 d, boolX c]), (39, .app), (42, .i (Int.ofNat (g % 4))), (44, .i (Int.ofNat (gv % 4))), (45, .b true), (49, .app), (30, .i (Int.ofNat (i + 1)))] (pf9 h1 h2 he h3 h5 h6 h8 h4 h7) (by kernel_rfl)
  · have h8 : (Int.ofNat (g % 4) == Int.ofNat (gv % 4)) = false := by rw [beq_eq_false_iff_ne]; intro h; exact e (Int.ofNat.inj h)
    rw [if_neg e]
    exact rd_of [(24, .b true), (27, .b true), (33, .e [u8 g, u8 x, u8 d, boolX c]), (39, .app), (42, .i (Int.ofNat (g % 4))), (44, .i (Int.ofNat (gv % 4))), (45, .b false), (30, .i (Int.ofNat (i + 1)))] (pf8 h1 h2 he h3 h5 h6 h8 h7) (by kernel_rfl)
end
def allA (av : List Arv) : List Arv := av.map clnA
theorem gb_loop (av : List Arv) (gv : Nat) (N : Nat) (hN : 1000 ≤ N) (τ : St) (hτ : canon 0 τ = some (gbH (arvC av) [] [] 0 0 0 gv)) :
    run (callF tab ext N) 0 N (.loop (loopAt 4 0)) τ = some (.exit 0, gbE (arvC av) (arvC (allA (av.take 40))) (arvC ((allA (av.take 40)).filter (ownB (gv % 4)))) (allA (av.take 40)).length ((allA (av.take 40)).filter (ownB (gv % 4))).length (av.take 40).length gv false) := by
  have hal := arvC_len av
  have hk : (av.take 40).length = min 40 av.length := List.length_take ..
  refine loop_for (σ := fun j => gbH (arvC av) (arvC (allA (av.take j))) (arvC ((allA (av.take j)).filter (ownB (gv % 4)))) (allA (av.take j)).length ((allA (av.take j)).filter (ownB (gv % 4))).length j gv) (k := (av.take 40).length) hτ (fun j hj => ?_) ?_ (by simp) (by omega)
  · have hj2 : j < av.length := by omega
    have hl1 : (allA (av.take j)).length = j := by unfold allA; rw [List.length_map, List.length_take]; omega
    have hl2 := List.length_filter_le (ownB (gv % 4)) (allA (av.take j))
    have key := gb_round (arvC av) (arvC (allA (av.take j))) (arvC ((allA (av.take j)).filter (ownB (gv % 4)))) (allA (av.take j)).length ((allA (av.take j)).filter (ownB (gv % 4))).length j av[j].g av[j].n av[j].d gv av[j].c N (by omega) (by omega) (arvC_get hj2) (arvC_len _).symm (arvC_len _).symm (by omega) (by omega)
    have e1 : allA (av.take (j + 1)) = allA (av.take j) ++ [clnA av[j]] := by
      unfold allA
      rw [List.take_succ_eq_append_getElem hj2, List.map_append]
      rfl
    obtain ⟨υ, h1, h2⟩ := key
    refine ⟨υ, h1, ?_⟩
    rw [h2, e1, List.filter_append]
    have e2 : ∀ (l : List Arv) (a : Arv), arvC (l ++ [a]) = arvC l ++ [a.cells] := fun l a => by simp [arvC]
    by_cases e : av[j].g % 4 = gv % 4
    · have e3 : [clnA av[j]].filter (ownB (gv % 4)) = [clnA av[j]] := by
        rw [List.filter_cons, if_pos (show ownB (gv % 4) (clnA av[j]) = true from decide_eq_true e)]; rfl
      rw [if_pos e, e3, e2, e2, List.length_append, List.length_append]
      rfl
    · have e3 : [clnA av[j]].filter (ownB (gv % 4)) = [] := by
        rw [List.filter_cons, if_neg (by rw [show ownB (gv % 4) (clnA av[j]) = false from decide_eq_false e]; decide)]; rfl
      rw [if_neg e, e3, e2, List.append_nil, List.length_append]
      rfl
  · have e : av.take (av.take 40).length = av.take 40 := by
      rw [hk, List.take_eq_take_iff]
      omega
    rw [e]
    exact gb_end (arvC av) _ _ _ _ _ gv N (by omega)

/-! ### The two lists are compared -/
theorem number_wf {m : Msg} (h : WfM m) (N : Nat) : Gam.pureD (callF tab ext (N + 100)) 11 [.agg m.cells] = some (num (nOf m)) := by
  obtain ⟨g, n, k, ⟨e, p⟩, rfl⟩ := h
  kernel_rfl
theorem group_wf {m : Msg} (h : WfM m) (N : Nat) : Gam.pureD (callF tab ext (N + 100)) 10 [.agg m.cells] = some (num (gOf m)) := by
  obtain ⟨g, n, k, ⟨e, p⟩, rfl⟩ := h
  kernel_rfl
section
variable (A B : List (List X)) (k i gv : Nat) (N : Nat)
def gcH : St := ⟨[(1, u8 gv), (9, .sl false 10 A), (12, boolX true), (13, .sl false 10 B), (16, boolX true), (17, nat k), (18, nat i)], []⟩
def gcE : St := ⟨[(1, u8 gv), (9, .sl false 10 A), (12, boolX true), (13, .sl false 10 B), (16, boolX true), (17, nat k), (18, nat i), (69, boolX false)], []⟩
theorem gc_canon : canon 0 (gcH A B k i gv) = some (gcH A B k i gv) := by kernel_rfl
theorem gc_end (h : ¬ i < A.length) : run (callF tab ext N) 0 N (loopAt 4 1) (gcH A B k i gv) = some (.exit 2, gcE A B k i gv) :=
  run_of [(69, .b false)] [] (pf1 (nlt_nat h)) (lo' := []) (by kernel_rfl)
theorem gc_skip (m : Msg) (hw : WfM m) (hi : i < A.length) (hi2 : i < 1000) (hx : A[i]? = some m.cells) (hne : gOf m ≠ Int.ofNat (gv % 4)) :
    run (callF tab ext (N + 100)) 0 (N + 100) (loopAt 4 1) (gcH A B k i gv) = some (.norm, gcH A B k (i + 1) gv) := by
  have h1 := lt_nat hi
  have h2 := group_wf hw N
  have h3 := tmodN gv 3
  have h4 := wrap_small (y := gv % 4) (by omega)
  have h5 : (gOf m != Int.ofNat (gv % 4)) = true := by simpa using hne
  have h6 := next_nat (j := i) (by omega)
  generalize gOf m = z at h2 h5
  obtain ⟨⟨a1, a2⟩, a3, a4, a5, a6, a7, a8, a9, a0⟩ := m
  exact run_of [(69, .b true), (74, .e (Msg.mk ⟨a1, a2⟩ a3 a4 (.mk a5 a6 a7 a8 a9 a0)).cells), (76, .p (num z)), (78, .i (Int.ofNat (gv % 4))), (79, .i (Int.ofNat (gv % 4))), (80, .b true), (71, .i (Int.ofNat (i + 1)))] [] (pf7 h1 hx h2 h3 h4 h5 h6) (lo' := []) (by kernel_rfl)
theorem gc_both (m o : Msg) (hw : WfM m) (hwo : WfM o) (hi : i < A.length) (hi2 : i < 1000) (hx : A[i]? = some m.cells) (hg : gOf m = Int.ofNat (gv % 4)) (hk : k < B.length) (hk2 : k < 1000) (hy : B[k]? = some o.cells) (hn : nOf m = nOf o) :
    run (callF tab ext (N + 100)) 0 (N + 100) (loopAt 4 1) (gcH A B k i gv) = some (.norm, gcH A B (k + 1) (i + 1) gv) := by
  have h1 := lt_nat hi
  have h2 := group_wf hw N
  have h3 := tmodN gv 3
  have h4 := wrap_small (y := gv % 4) (by omega)
  have h5 : (gOf m != Int.ofNat (gv % 4)) = false := by rw [hg]; simp
  have h6 : decide (Int.ofNat k ≥ Int.ofNat B.length) = false := decide_eq_false (by simp only [Int.ofNat_eq_natCast, ge_iff_le]; omega)
  have h7 := number_wf hw N
  have h8 := number_wf hwo N
  have h9 : (nOf m != nOf o) = false := by rw [hn]; simp
  have h10 := next_nat (j := k) (by omega)
  have h11 := next_nat (j := i) (by omega)
  generalize gOf m = z at h2 h5
  generalize nOf m = z1 at h7 h9
  generalize nOf o = z2 at h8 h9
  obtain ⟨⟨a1, a2⟩, a3, a4, a5, a6, a7, a8, a9, a0⟩ := m
  obtain ⟨⟨b1, b2⟩, b3, b4, b5, b6, b7, b8, b9, b0⟩ := o
  exact run_of [(69, .b true), (74, .e (Msg.mk ⟨a1, a2⟩ a3 a4 (.mk a5 a6 a7 a8 a9 a0)).cells), (76, .p (num z)), (78, .i (Int.ofNat (gv % 4))), (79, .i (Int.ofNat (gv % 4))), (80, .b false), (84, .b false), (88, .e (Msg.mk ⟨a1, a2⟩ a3 a4 (.mk a5 a6 a7 a8 a9 a0)).cells), (90, .p (num z1)), (93, .e (Msg.mk ⟨b1, b2⟩ b3 b4 (.mk b5 b6 b7 b8 b9 b0)).cells), (95, .p (num z2)), (96, .b false), (99, .i (Int.ofNat (k + 1))), (71, .i (Int.ofNat (i + 1)))] []
    (pfJ h1 hx h2 h3 h4 h5 h6 (pf7 hx h7 hy h8 h9 h10 h11)) (lo' := []) (by kernel_rfl)
end
end Go.Proofs.YtckdgafiindddaaGreatDoor

/- ResequencerGroups comes to true on the machine. -/
namespace Go.Proofs.YtckdgafiindddaaGreatDoor
open Go.Em
set_option maxRecDepth 100000

theorem outsC_get {os : List Otp} {j : Nat} (h : j < os.length) : (outsC os)[j]? = some os[j].m.cells := by simp [outsC, h]
theorem filter_at {α : Type} (p : α → Bool) (l : List α) (i : Nat) (h : i < l.length) (hp : p l[i] = true) : (l.filter p)[((l.take i).filter p).length]? = some l[i] := by
  have e : l.filter p = (l.take i).filter p ++ l[i] :: (l.drop (i + 1)).filter p := by
    conv => lhs; rw [← List.take_append_drop i l]
    rw [List.filter_append, List.drop_eq_getElem_cons h, List.filter_cons, if_pos hp]
  rw [e, List.getElem?_append_right (Nat.le_refl _), Nat.sub_self]
  rfl
theorem gc_loop (S P : List Otp) (gv : Nat) (hS : ∀ o, o ∈ S → WfM o.m) (hP : ∀ o, o ∈ P → WfM o.m) (hl : S.length ≤ 100) (hn : (S.filter (fun o => decide (gOf o.m = Int.ofNat (gv % 4)))).map (fun o => nOf o.m) = P.map (fun o => nOf o.m)) (N : Nat) (hN : 1000 ≤ N) :
    run (callF tab ext N) 0 N (.loop (loopAt 4 1)) (gcH (outsC S) (outsC P) 0 0 gv) = some (.exit 2, gcE (outsC S) (outsC P) P.length S.length gv) := by
  obtain ⟨M, rfl⟩ : ∃ M, N = M + 100 := ⟨N - 100, by omega⟩
  have hlS := outsC_len S
  have hlP := outsC_len P
  have hnl : (S.filter (fun o => decide (gOf o.m = Int.ofNat (gv % 4)))).length = P.length := by
    have := congrArg List.length hn
    simpa using this
  have key := loop_for (Γ := callF tab ext (M + 100)) (nIn := 0) (fu := M + 100) (b := loopAt 4 1) (e := .exit 2) (τ := gcH (outsC S) (outsC P) 0 0 gv) (fin := gcE (outsC S) (outsC P) P.length S.length gv)
    (σ := fun j => gcH (outsC S) (outsC P) ((S.take j).filter (fun o => decide (gOf o.m = Int.ofNat (gv % 4)))).length j gv) (k := S.length) (gc_canon ..) (fun j hj => ?_) ?_ (by simp) (by omega)
  · exact key
  · have hw := hS _ (List.getElem_mem hj)
    have hsub : ((S.take j).filter (fun o => decide (gOf o.m = Int.ofNat (gv % 4)))).length ≤ j := by
      have := List.length_filter_le (fun o : Otp => decide (gOf o.m = Int.ofNat (gv % 4))) (S.take j)
      rw [List.length_take] at this
      omega
    rw [List.take_succ_eq_append_getElem hj, List.filter_append, List.length_append]
    by_cases e : gOf S[j].m = Int.ofNat (gv % 4)
    · have hf := filter_at (fun o : Otp => decide (gOf o.m = Int.ofNat (gv % 4))) S j hj (decide_eq_true e)
      have hk : ((S.take j).filter (fun o => decide (gOf o.m = Int.ofNat (gv % 4)))).length < P.length := by
        rw [← hnl]
        exact (List.getElem?_eq_some_iff.1 hf).1
      have e1 : [S[j]].filter (fun o => decide (gOf o.m = Int.ofNat (gv % 4))) = [S[j]] := by rw [List.filter_cons, if_pos (decide_eq_true e)]; rfl
      rw [e1]
      generalize ((S.take j).filter (fun o => decide (gOf o.m = Int.ofNat (gv % 4)))).length = k at *
      have hnn : nOf S[j].m = nOf P[k].m := by
        have h1 := congrArg (fun l : List Int => l[k]?) hn
        simp only [List.getElem?_map, hf, Option.map_some, List.getElem?_eq_getElem hk] at h1
        exact Option.some.inj h1
      exact ⟨_, gc_both (outsC S) (outsC P) k j gv M S[j].m P[k].m hw (hP _ (List.getElem_mem hk)) (by omega) (by omega) (outsC_get hj) e (by omega) (by omega) (outsC_get hk) hnn, gc_canon ..⟩
    · have e1 : [S[j]].filter (fun o => decide (gOf o.m = Int.ofNat (gv % 4))) = [] := by rw [List.filter_cons, if_neg (by simpa using e)]; rfl
      rw [e1]
      exact ⟨_, gc_skip (outsC S) (outsC P) _ j gv M S[j].m hw (by omega) (by omega) (outsC_get hj) e, gc_canon ..⟩
  · rw [List.take_length, hnl]
    exact gc_end (outsC S) (outsC P) P.length S.length gv (M + 100) (by omega)
theorem rg_fin (es A B C D L1 L2 S1 S2 : List (List X)) (gv n m i k j : Nat) (N : Nat) (hC : n = C.length) (hD : m = D.length) (hk : Gam.pureD (callF tab ext N) 6 [] = some (boolX true))
    (h1 : run (callF tab ext N) 0 N (.loop (loopAt 4 0)) ⟨[(0, .sl false 4 es), (1, u8 gv), (5, .bs 0 0 0), (6, .bs 1 0 0), (7, num 0)], [.row 4 [], .row 4 []]⟩ = some (.exit 0, gbE es C D n m i gv false))
    (h53 : Gam.pureD (callF tab ext N) 8 [num 0, num 50] = some (.agg (nodR 0 50).cells))
    (h59 : Gam.pureD (callF tab ext N) 7 [.agg (nodR 0 50).cells, .sl false 4 C] = some (.tup [.sl false 10 A, .sl false 10 L1, .agg [num 0, num 0, .sl false 10 S1], boolX true]))
    (h59b : Gam.pureD (callF tab ext N) 7 [.agg (nodR 0 50).cells, .sl false 4 D] = some (.tup [.sl false 10 B, .sl false 10 L2, .agg [num 0, num 0, .sl false 10 S2], boolX true]))
    (h2 : run (callF tab ext N) 0 N (.loop (loopAt 4 1)) (gcH A B 0 0 gv) = some (.exit 2, gcE A B k j gv)) (hkB : k = B.length) :
    callF tab ext (N + 1) (.fn 4) [.sl false 4 es, u8 gv] [] = some (.v (.bool true), []) := by
  have g1 : 0 + n ≤ C.length := by omega
  have g2 : 0 + m ≤ D.length := by omega
  have e1 : (C.drop 0).take n = C := by rw [List.drop_zero, List.take_of_length_le (by omega)]
  have e2 : (D.drop 0).take m = D := by rw [List.drop_zero, List.take_of_length_le (by omega)]
  rw [← e1] at h59
  rw [← e2] at h59b
  have h3 : (Int.ofNat k == Int.ofNat B.length) = true := by rw [hkB]; exact BEq.rfl
  have h2' : run (callF tab ext N) 0 N (.loop (loopAt 4 1)) ⟨[(1, u8 gv), (9, .sl false 10 A), (12, boolX true), (13, .sl false 10 B), (16, boolX true), (17, num 0), (18, num 0)], [.dead, .dead, .var [num 0, num 0, .sl false 10 S1], .var [num 0, num 0, .sl false 10 S2]]⟩ = some (.exit 2, gcE A B k j gv) := by
    rw [← h2]
    exact loop_canon (by kernel_rfl) (gc_canon ..)
  exact callF_of [(19, .p (boolX true)), (51, .p (.agg (nodR 0 50).cells)), (53, .p (.tup [.sl false 10 A, .sl false 10 L1, .agg [num 0, num 0, .sl false 10 S1], boolX true])), (59, .p (.agg (nodR 0 50).cells)), (61, .p (.tup [.sl false 10 B, .sl false 10 L2, .agg [num 0, num 0, .sl false 10 S2], boolX true])), (108, .b true)] [(.exit 0, gbE es C D n m i gv false), (.exit 2, gcE A B k j gv)]
    (pfJ hk h1 g1 h53 h59 g2 h53 (pf3 h59b h2' h3)) (by kernel_rfl)
theorem rgroups_all (av : List Arv) (hok : ∀ a, a ∈ av → a.ok) (gv : Nat) : callF tab ext 202101 (.fn 4) [.sl false 4 (arvC av), u8 gv] [] = some (.v (.bool true), []) := by
  have hk := known34_at 201700
  have hokA : ∀ a, a ∈ allA (av.take 40) → a.ok := fun a ha => by
    obtain ⟨b, hb, rfl⟩ := List.mem_map.1 ha
    exact hok b (List.mem_of_mem_take hb)
  have hcA : ∀ a, a ∈ allA (av.take 40) → a.c = false := fun a ha => by
    obtain ⟨b, hb, rfl⟩ := List.mem_map.1 ha
    rfl
  have hlA : (allA (av.take 40)).length ≤ 40 := by unfold allA; rw [List.length_map, List.length_take]; omega
  have hlF := List.length_filter_le (ownB (gv % 4)) (allA (av.take 40))
  have h1 := gb_loop av gv 202100 (by omega) ⟨[(0, .sl false 4 (arvC av)), (1, u8 gv), (5, .bs 0 0 0), (6, .bs 1 0 0), (7, num 0)], [.row 4 [], .row 4 []]⟩ (by kernel_rfl)
  have h53 := node53 202000 0 50
  have h59 := run59 0 50 (by omega) (by omega) (allA (av.take 40)) hokA hcA hlA 202100 (by omega)
  have h59b := run59 0 50 (by omega) (by omega) ((allA (av.take 40)).filter (ownB (gv % 4))) (fun a ha => hokA a ((List.mem_filter.1 ha).1)) (fun a ha => hcA a ((List.mem_filter.1 ha).1)) (by omega) 202100 (by omega)
  have hr := rr_runs (gv % 4) (allA (av.take 40)) hlA hokA
  obtain ⟨hI, hi⟩ := rnM_I 0 50 (allA (av.take 40)) hokA
  have hcnt := hI.cnt
  have h2 := gc_loop (rnM 0 50 (allA (av.take 40))).S (rnM 0 50 ((allA (av.take 40)).filter (ownB (gv % 4)))).S gv hr.wq hr.wp (by omega) hr.nums 202100 (by omega)
  exact rg_fin (arvC av) _ _ _ _ _ _ _ _ gv _ _ _ _ _ 202100 (arvC_len _).symm (arvC_len _).symm hk h1 h53 h59 h59b h2 (outsC_len _).symm
end Go.Proofs.YtckdgafiindddaaGreatDoor

/- slices.Insert at the slots, where there is room. -/
namespace Go.Proofs.YtckdgafiindddaaGreatDoor
open Go.Em Go.RowKit Go.Lib

theorem und35 : Tryz.prog.underlying 25 = some (.slice 83) := by kernel_rfl
theorem info78 : (Tryz.prog.info? 83).map (·.size) = some 10 := by kernel_rfl
theorem size78 : ∀ w, (Go.sizeOf 83).run Tryz.prog w = .ok 10 w := Tryz.sizeOf83

set_option maxHeartbeats 4000000 in
set_option maxRecDepth 100000 in
theorem ins_shift (b off n c i vb voff vc : Nat) (cs vs : List Value) (w : World) (hi : i < n) (hroom : n + 1 ≤ c) (hn3 : n ≤ 2000000) (hdis : ∀ j k, j < 10 → k < (n + 1) * 10 → vb = b → voff + j ≠ off + k)
    (hcl : cs.length = n * 10) (hvl : vs.length = 10)
    (hcs : ∀ j v, cs[j]? = some v → w.cell? ⟨b, off + j, none⟩ = some v) (hsp : ∀ j, j < (n + 1) * 10 → (w.cell? ⟨b, off + j, none⟩).isSome = true) (hfz : ∀ j, j < (n + 1) * 10 → w.frozen? ⟨b, off + j, none⟩ = false)
    (hvs : ∀ j v, vs[j]? = some v → w.cell? ⟨vb, voff + j, none⟩ = some v) (h1c : ∀ v ∈ cs, v.oneCell' = true) (h1v : ∀ v ∈ vs, v.oneCell' = true)
    (tA tB : TypeId) (kA kB : Nat) (hsa : w.shape? vb = some (tA, kA)) (hsb : w.shape? b = some (tB, kB)) (hkB : kB ≠ 0) (hkA : kA ≠ 0) (hfb : ∀ o, w.frozen? ⟨b, o, none⟩ = false) :
    Calls Tryz.prog 91 #[.slice (some ⟨b, off, none⟩) n c, .int .i64 i, .slice (some ⟨vb, voff, none⟩) 1 vc] w fun e w' =>
      e = .returned (.slice (some ⟨b, off, none⟩) (n + 1) c) ∧ w' = (w.drew.setCells b (off + (i + 1) * 10) (cs.drop (i * 10))).setCells b (off + i * 10) vs := by
  have hz2 : ¬ ((i : Int) = (n : Int)) := by omega
  have hov : ∀ cb, (callFunc 112 #[.slice (some ⟨vb, voff, none⟩) 1 vc, .slice (some ⟨b, off + (i + 1) * 10, none⟩) (n - i) cb]).run Tryz.prog w = .ok (.value (.bool false)) w := fun cb => by
    rw [run_callFunc_extern Tryz.func112 (by kernel_rfl) (by kernel_rfl) (by kernel_rfl) (e := Extern.SlicesOverlaps.overlaps #[25, 25] #[4]) (by kernel_rfl)]
    by_cases hvb : vb = b
    · rw [run_overlaps_same w 25 4 83 und35 10 size78 ⟨vb, voff, none⟩ ⟨b, off + (i + 1) * 10, none⟩ 1 vc (n - i) cb hvb (fun h => by
        obtain ⟨h1, h2⟩ := h
        dsimp only at h1 h2
        by_cases hlo : off + (i + 1) * 10 ≤ voff
        · exact hdis 0 (voff - off) (by omega) (by omega) hvb (by omega)
        · exact hdis (off + (i + 1) * 10 - voff) ((i + 1) * 10) (by omega) (by omega) hvb (by omega))]
      rfl
    · rw [run_overlaps_own w 25 4 83 und35 10 size78 ⟨vb, voff, none⟩ ⟨b, off + (i + 1) * 10, none⟩ 1 vc (n - i) cb hvb tA tB kA kB hsa hsb hkB hkA (hfb _) (hfb _)]
      rfl
  have hdl : (cs.drop (i * 10)).length = (n - i) * 10 := by rw [List.length_drop, hcl]; omega
  have hw1 : IntKind.i64.wrap ((i : Int) + 1) = (i : Int) + 1 := by rw [IntKind.wrap_i64]; omega
  have hb1 : (0 : Int) ≤ (i : Int) + 1 := by omega
  have hin : i ≤ n := by omega
  have htn : ((i : Int) + 1).toNat = i + 1 := by omega
  have hb2 : ¬ (c = i + 1) := by omega
  have hb3 : (i : Int) ≤ (n : Int) + 1 := by omega
  have hb4 : ¬ (c = i) := by omega
  have hcp1 : ∀ ty dc sc, (Builtin.copy_ #[25, 25] ty #[.slice (some ⟨b, off + (i + 1) * 10, none⟩) (n - i) dc, .slice (some ⟨b, off + i * 10, none⟩) (n + 1 - i) sc]).run Tryz.prog w.drew = .ok (goInt (Nat.min (n + 1 - i) (n - i))) (w.drew.setCells b (off + (i + 1) * 10) (cs.drop (i * 10))) := fun ty dc sc =>
    run_copy_k w.drew _ _ ty 83 10 b (off + (i + 1) * 10) (n - i) dc ⟨b, off + i * 10, none⟩ (n + 1 - i) sc (cs.drop (i * 10)) und35 info78 (by rw [hdl]; congr 1; simp only [Nat.min_def]; split <;> omega)
      (fun j v hj => by rw [Addr.add_lit, Nat.add_assoc]; exact hcs (i * 10 + j) v (by rwa [List.getElem?_drop] at hj))
      (fun j hj => by rw [Nat.add_assoc]; exact hsp _ (by omega)) (fun j hj => by rw [Nat.add_assoc]; exact hfz _ (by omega)) (fun v hv => h1c v (List.mem_of_mem_drop hv))
  obtain ⟨W1, hW1⟩ : ∃ W1, W1 = w.drew.setCells b (off + (i + 1) * 10) (cs.drop (i * 10)) := ⟨_, rfl⟩
  have hsp1 : ∀ k, k < (n + 1) * 10 → (W1.cell? ⟨b, off + k, none⟩).isSome = true := fun k hk => by
    rw [hW1]
    exact isSome_setCells b _ _ _ (fun j hj => by rw [Nat.add_assoc]; exact hsp _ (by omega)) _ (hsp k hk)
  have hcp2 : ∀ (W : World), (∀ x, W.cell? x = W1.cell? x) → (∀ x, W.frozen? x = W1.frozen? x) → ∀ ty dc, (Builtin.copy_ #[25, 25] ty #[.slice (some ⟨b, off + i * 10, none⟩) (n + 1 - i) dc, .slice (some ⟨vb, voff, none⟩) 1 vc]).run Tryz.prog W = .ok (goInt (Nat.min 1 (n + 1 - i))) (W.setCells b (off + i * 10) vs) := fun W hWc hWf ty dc =>
    run_copy_k W _ _ ty 83 10 b (off + i * 10) (n + 1 - i) dc ⟨vb, voff, none⟩ 1 vc vs und35 info78 (by rw [hvl]; simp only [Nat.min_def]; split <;> omega)
      (fun j v hj => by
        have hj' : j < 10 := by rw [← hvl]; exact (List.getElem?_eq_some_iff.1 hj).1
        rw [Addr.add_lit, hWc, hW1, World.cell?_setCells_out b _ _ _ _ (fun h _ => by
          dsimp only at h ⊢
          have h5 := hdis j (voff + j - off) hj'
          by_cases h6 : off ≤ voff + j ∧ voff + j - off < (n + 1) * 10
          · exact absurd (by omega) (h5 h6.2 h)
          · omega)]
        exact hvs j v hj)
      (fun j hj => by rw [hWc, Nat.add_assoc]; exact hsp1 _ (by omega)) (fun j hj => by rw [hWf, hW1, World.frozen?_setCells, Nat.add_assoc]; exact hfz _ (by omega)) h1v
  rw [← hW1] at hcp1
  have mixed : Tryz.prog.follows .mixedOrders = true := by kernel_rfl
  go_enter Tryz.func91, Tryz.ntmps91
  go_wp2_with (simp only [hov])
  go_region_law_o (refine step_copy_runI rfl _ _ 25 25 rfl _ _ (by simp [Act.eval, Act.put]) (by simp [Act.eval, Act.put]) (hcp1 _ _ _) ?_)
  go_wp2_with (at_builtin; refine wpList_copy_runI _ rfl _ _ 25 25 rfl _ _ rfl rfl (hcp2 _ (fun _ => rfl) (fun _ => rfl) _ _) ?_)
  go_ret
  first | exact ⟨rfl, rfl⟩ | exact ⟨rfl, by rw [hW1]⟩
end Go.Proofs.YtckdgafiindddaaGreatDoor

/- slices.Insert at the slots: at the end, and where there is no room. -/
namespace Go.Proofs.YtckdgafiindddaaGreatDoor
open Go.Em Go.RowKit Go.Lib

set_option maxHeartbeats 4000000 in
set_option maxRecDepth 100000 in
theorem ins_end (ob : Option Addr) (n c vb voff vc : Nat) (w w1 : World) (v : Value) (hnc : n ≤ c) (hn3 : n ≤ 2000000) (hnil : ob = none → n = 0 ∧ c = 0)
    (hrun : ∀ ty, (Builtin.append_ #[25, 25] ty #[.slice ob n c, .slice (some ⟨vb, voff, none⟩) 1 vc]).run Tryz.prog w = .ok v w1) :
    Calls Tryz.prog 91 #[.slice ob n c, .int .i64 n, .slice (some ⟨vb, voff, none⟩) 1 vc] w fun e w' => e = .returned v ∧ w' = w1 := by
  have mixed : Tryz.prog.follows .mixedOrders = true := by kernel_rfl
  go_enter Tryz.func91, Tryz.ntmps91
  cases ob with
  | none =>
    obtain ⟨rfl, rfl⟩ := hnil rfl
    go_wp2_with (at_builtin; refine Lib.wpList_append_run _ rfl _ _ _ _ rfl _ _ rfl rfl _ _ (hrun _) ?_)
    go_ret
    exact ⟨rfl, rfl⟩
  | some a =>
    obtain ⟨ab, ao, asp⟩ := a
    go_wp2_with (at_builtin; refine Lib.wpList_append_run _ rfl _ _ _ _ rfl _ _ rfl rfl _ _ (hrun _) ?_)
    all_goals (go_ret; exact ⟨rfl, rfl⟩)

def IsRow (r : Array Value) (l : List Value) : Prop := r = l.toArray
theorem info78b : (Tryz.prog.info? 83).map (fun i => (i.zero.map (·.cells.size), i.size, i.bytes)) = some (some 10, 10, 152) := by kernel_rfl
theorem und3 : Tryz.prog.underlying 3 = some (.int .i64) := by kernel_rfl

set_option maxHeartbeats 4000000 in
set_option maxRecDepth 100000 in
theorem ins_grow (b off n c i vb voff vc : Nat) (cs vs : List Value) (w : World) (hi : i < n) (hnc : n ≤ c) (hroom : c < n + 1) (hc63 : c ≤ 4000000) 
    (hcl : cs.length = n * 10) (hvl : vs.length = 10)
    (hcs : ∀ j v, cs[j]? = some v → w.cell? ⟨b, off + j, none⟩ = some v)
    (hvs : ∀ j v, vs[j]? = some v → w.cell? ⟨vb, voff + j, none⟩ = some v) (h1c : ∀ v ∈ cs, v.oneCell' = true) (h1v : ∀ v ∈ vs, v.oneCell' = true) :
    Calls Tryz.prog 91 #[.slice (some ⟨b, off, none⟩) n c, .int .i64 i, .slice (some ⟨vb, voff, none⟩) 1 vc] w fun e w' =>
      ∃ (G : Nat) (tl : List Value), n + 1 ≤ G ∧ e = .returned (.slice (some ⟨w.heap.size, 0, none⟩) (n + 1) G) ∧ tl.length = (G - i) * 10 ∧
      w' = (((w.alloc (.cells ((cs.take (i * 10)) ++ tl).toArray 83)).drew.setCells w.heap.size (i * 10) vs).drew).setCells w.heap.size ((i + 1) * 10) (cs.drop (i * 10)) := by
  obtain ⟨i0, hi0, hz0, hzs, hzb⟩ : ∃ i0, Tryz.prog.info? 83 = some i0 ∧ i0.zero.map (·.cells.size) = some 10 ∧ i0.size = 10 ∧ i0.bytes = 152 := by
    obtain ⟨i0, h1, h2⟩ := Option.map_eq_some_iff.1 info78b
    simp only [Prod.mk.injEq] at h2
    exact ⟨i0, h1, h2.1, h2.2.1, h2.2.2⟩
  obtain ⟨zv, hz0, hzc⟩ := Option.map_eq_some_iff.1 hz0
  have hz2 : ¬ ((i : Int) = (n : Int)) := by omega
  have hz3 : (c : Int) < (n : Int) + 1 := by omega
  have hbw : b < w.heap.size := block_lt_of_cell (hcs 0 _ (List.getElem?_eq_getElem (by omega)))
  have hvw : vb < w.heap.size := block_lt_of_cell (hvs 0 _ (List.getElem?_eq_getElem (by omega)))
  have hkk : (n : Int) + 1 - (i : Int) = ((n + 1 - i : Nat) : Int) := by omega
  have hik : i + (n + 1 - i) = n + 1 := by omega
  have hold : (Builtin.firstCells i0.size i (.slice (some ⟨b, off, none⟩) i c)).run Tryz.prog w.drew = .ok (cs.take (i * 10)).toArray w.drew := by
    rw [hzs]
    exact run_firstCells_some w.drew 10 i ⟨b, off, none⟩ i c (cs.take (i * 10)) (by rw [List.length_take]; omega) (fun j v hj => by
      rw [Addr.add_lit]
      rw [List.getElem?_take] at hj
      split at hj
      · exact hcs j v hj
      · cases hj)
  have hrz : ∀ ty, (Builtin.append_ #[25, 3] ty #[.slice (some ⟨b, off, none⟩) i c, .int .i64 ((n : Int) + 1 - (i : Int))]).run Tryz.prog w =
      .ok (.slice (some ⟨w.heap.size, 0, none⟩) (n + 1) (grownCap w (n + 1) c 83)) (w.drew.alloc (.cells ((cs.take (i * 10)).toArray ++ Builtin.zeroCells zv.cells (n + 1 - i) ++ Builtin.zeroCells zv.cells (grownCap w (n + 1) c 83 - (n + 1))) 83)) := fun ty => by
    have h := Lib.run_append_grow_zeros w 25 3 ty 83 i0 zv .i64 .i64 und35 und3 hi0 hz0 (some ⟨b, off, none⟩) i c (cs.take (i * 10)) hold (n + 1 - i) (by omega) (by omega) (by omega) (by omega) (by rw [hzb]; omega) (by rw [hzb, hik]; exact growslice_fits hroom (by omega))
    rw [hik] at h
    rw [hkk]
    exact h
  have hGn : n + 1 ≤ grownCap w (n + 1) c 83 := grownCap_ge w _ _ _
  have hG63 : grownCap w (n + 1) c 83 ≤ 9223372036854775807 := by
    have := grownCap_le_maxLen w (n + 1) c 83 (by unfold maxLen; omega)
    unfold maxLen at this
    omega
  generalize grownCap w (n + 1) c 83 = G at hrz hGn hG63
  have hzl : ∀ k, (Builtin.zeroCells zv.cells k).size = k * 10 := fun k => by simp [Builtin.zeroCells, hzc]
  obtain ⟨tl, htl⟩ : ∃ tl : List Value, (cs.take (i * 10)).toArray ++ Builtin.zeroCells zv.cells (n + 1 - i) ++ Builtin.zeroCells zv.cells (G - (n + 1)) = ((cs.take (i * 10)) ++ tl).toArray ∧ tl.length = (G - i) * 10 := by
    refine ⟨(Builtin.zeroCells zv.cells (n + 1 - i)).toList ++ (Builtin.zeroCells zv.cells (G - (n + 1))).toList, ?_, ?_⟩
    · apply Array.toList_inj.1; simp
    · rw [List.length_append, Array.length_toList, Array.length_toList, hzl, hzl]; omega
  obtain ⟨htl, htll⟩ := htl
  rw [htl] at hrz
  obtain ⟨ROW, hROW⟩ : ∃ ROW : Array Value, ROW = ((cs.take (i * 10)) ++ tl).toArray := ⟨_, rfl⟩
  have hRl : (n + 1) * 10 ≤ ROW.size := by
    rw [hROW]
    simp only [List.size_toArray, List.length_append, List.length_take, htll]
    omega
  rw [← hROW] at hrz
  obtain ⟨W1, hW1⟩ : ∃ W1, W1 = w.drew.alloc (.cells ROW 83) := ⟨_, rfl⟩
  rw [← hW1] at hrz
  have hN : ∀ j, j < (n + 1) * 10 → (W1.cell? ⟨w.heap.size, j, none⟩).isSome = true := fun j hj => by
    rw [hW1, World.cell?_alloc_at (w := w.drew) ROW _ w.heap.size j rfl, Array.getElem?_eq_getElem (by omega)]; rfl
  have hNf : ∀ j, W1.frozen? ⟨w.heap.size, j, none⟩ = false := fun j => by rw [hW1]; exact World.frozen?_alloc_at (w := w.drew) ROW _ w.heap.size j rfl
  have hOb : ∀ j v, w.cell? ⟨b, j, none⟩ = some v → W1.cell? ⟨b, j, none⟩ = some v := fun j v h => by rw [hW1, World.cell?_alloc_past (w := w.drew) _ b j hbw]; exact h
  have hOv : ∀ j v, w.cell? ⟨vb, j, none⟩ = some v → W1.cell? ⟨vb, j, none⟩ = some v := fun j v h => by rw [hW1, World.cell?_alloc_past (w := w.drew) _ vb j hvw]; exact h
  have hcpA : ∀ (W : World), (∀ x, W.cell? x = W1.cell? x) → (∀ x, W.frozen? x = W1.frozen? x) → ∀ ty dc, (Builtin.copy_ #[25, 25] ty #[.slice (some ⟨w.heap.size, i * 10, none⟩) (n + 1 - i) dc, .slice (some ⟨vb, voff, none⟩) 1 vc]).run Tryz.prog W = .ok (goInt (Nat.min 1 (n + 1 - i))) (W.setCells w.heap.size (i * 10) vs) := fun W hWc hWf ty dc =>
    run_copy_k W _ _ ty 83 10 w.heap.size (i * 10) (n + 1 - i) dc ⟨vb, voff, none⟩ 1 vc vs und35 info78 (by rw [hvl]; simp only [Nat.min_def]; split <;> omega)
      (fun j v hj => by rw [Addr.add_lit, hWc]; exact hOv _ v (hvs j v hj))
      (fun j hj => by rw [hWc]; exact hN _ (by omega)) (fun j hj => by rw [hWf]; exact hNf _) h1v
  have hGi : ¬ (G = i) := by omega
  have hGim : ¬ (G = i + 1) := by omega
  have hci : ¬ (c = i) := by omega
  have hbN : b ≠ w.heap.size := by omega
  have hdl : (cs.drop (i * 10)).length = (n - i) * 10 := by rw [List.length_drop, hcl]; omega
  have hcpB : ∀ (W : World), (∀ x, W.cell? x = (W1.setCells w.heap.size (i * 10) vs).cell? x) → (∀ x, W.frozen? x = (W1.setCells w.heap.size (i * 10) vs).frozen? x) → ∀ ty dc sc, (Builtin.copy_ #[25, 25] ty #[.slice (some ⟨w.heap.size, (i + 1) * 10, none⟩) (n - i) dc, .slice (some ⟨b, off + i * 10, none⟩) (n - i) sc]).run Tryz.prog W = .ok (goInt (Nat.min (n - i) (n - i))) (W.setCells w.heap.size ((i + 1) * 10) (cs.drop (i * 10))) := fun W hWc hWf ty dc sc =>
    run_copy_k W _ _ ty 83 10 w.heap.size ((i + 1) * 10) (n - i) dc ⟨b, off + i * 10, none⟩ (n - i) sc (cs.drop (i * 10)) und35 info78 (by rw [hdl]; simp)
      (fun j v hj => by
        rw [Addr.add_lit, hWc, World.cell?_setCells_out _ _ _ _ _ (fun h _ => absurd h hbN), Nat.add_assoc]
        exact hOb _ v (hcs (i * 10 + j) v (by rwa [List.getElem?_drop] at hj)))
      (fun j hj => by rw [hWc]; exact isSome_setCells _ _ _ _ (fun t ht => hN _ (by omega)) _ (hN _ (by omega)))
      (fun j hj => by rw [hWf, World.frozen?_setCells]; exact hNf _) (fun v hv => h1c v (List.mem_of_mem_drop hv))
  subst hW1
  have hE1 : ∀ x, ((w.alloc (.cells ROW 83)).drew).cell? x = (w.drew.alloc (.cells ROW 83)).cell? x := fun x => rfl
  have hE2 : ∀ x, ((w.alloc (.cells ROW 83)).drew).frozen? x = (w.drew.alloc (.cells ROW 83)).frozen? x := fun x => rfl
  have hF1 : ∀ x, (((w.alloc (.cells ROW 83)).drew.setCells w.heap.size (i * 10) vs).drew).cell? x = ((w.drew.alloc (.cells ROW 83)).setCells w.heap.size (i * 10) vs).cell? x := fun x => rfl
  have hF2 : ∀ x, (((w.alloc (.cells ROW 83)).drew.setCells w.heap.size (i * 10) vs).drew).frozen? x = ((w.drew.alloc (.cells ROW 83)).setCells w.heap.size (i * 10) vs).frozen? x := fun x => rfl
  have hw1 : IntKind.i64.wrap ((i : Int) + 1) = (i : Int) + 1 := by rw [IntKind.wrap_i64]; omega
  have hb1 : (0 : Int) ≤ (i : Int) + 1 := by omega
  have hin : i ≤ n := by omega
  have htn : ((i : Int) + 1).toNat = i + 1 := by omega
  have hb3 : (i : Int) ≤ (n : Int) := by omega
  have mixed : Tryz.prog.follows .mixedOrders = true := by kernel_rfl
  have hkeep : IsRow ROW ((cs.take (i * 10)) ++ tl) := hROW
  clear hkk hik hold hRl htl hROW
  go_enter Tryz.func91, Tryz.ntmps91
  go_wp2_with (first
    | (at_builtin; refine Lib.wpList_append_run _ rfl _ _ _ _ rfl _ _ rfl rfl _ _ (hrz _) ?_)
    | (at_builtin; refine wpList_copy_runI _ rfl _ _ 25 25 rfl _ _ rfl rfl (hcpA _ hE1 hE2 _ _) ?_)
    | (at_builtin; refine wpList_copy_runI _ rfl _ _ 25 25 rfl _ _ rfl rfl (hcpB _ (fun _ => rfl) (fun _ => rfl) _ _ _) ?_))
  go_region_law_o (refine step_copy_runI rfl _ _ 25 25 rfl (.slice (some ⟨w.heap.size, (i + 1) * 10, none⟩) (n - i) (G - (i + 1))) (.slice (some ⟨b, off + i * 10, none⟩) (n - i) (c - i)) (by simp [Act.eval, Act.put]) (by simp [Act.eval, Act.put]) (hcpB _ hF1 hF2 3 (G - (i + 1)) (c - i)) ?_)
  go_wp2
  go_ret
  exact ⟨G, tl, hGn, rfl, htll, by unfold IsRow at hkeep; rw [← hkeep]⟩
end Go.Proofs.YtckdgafiindddaaGreatDoor

/- slices.Insert at the slots: what it says to its caller. -/
namespace Go.Proofs.YtckdgafiindddaaGreatDoor
open Go.Em Go.RowKit Go.Lib

section
variable {P : Program} {R : CodeRel} {K : Kn}
theorem post_move {w w' : World} {c0 c' : CB} {sz : Nat} {rows new : List (List X)} {res : X} {v : Value} (hI : Inv P R K [c0] [.row sz rows] w) (hf : FrameOk c0.owns w w') (hown : ∀ b o, c'.owns b o → c0.owns b o ∨ w.heap.size ≤ b)
    (hB : BoxOk P R K ([c0] ++ [c']) w' (.row sz new) c') (hres : Rep K ([c0] ++ [c']) res v) : Post P R K [c0] [.row sz rows] w res [.dead, .row sz new] (.returned v) w' := by
  have hdead : ∀ b o, ¬ Owns [c0] [Bx.dead] b o := by
    rintro b o ⟨i, c, B, h1, h2, h3, h4⟩
    cases i with
    | zero => simp at h2; subst h2; simp [Bx.live] at h3
    | succ i => simp at h2
  have hin : ∀ b o, c0.owns b o → Owns [c0] [Bx.row sz rows] b o := fun b o h => ⟨0, c0, .row sz rows, rfl, rfl, rfl, h⟩
  have hk := hI.kill 0
  have hk' : Inv P R K [c0] [.dead] w' := Inv.frame hk hf (fun b o v e ho => by
    have := hI.apart b o (hin b o ho); rw [this] at e; cases e) (fun b o ho => absurd ho (hdead b o))
  refine ⟨v, K, [c'], rfl, ⟨hk'.push hB (fun b o ho => ?_) (fun b o _ => hdead b o), hres, KLe.refl _, fun b o u e => .inl e, fun b o ho => ?_, hf.mono fun b o _ h => hin b o h, fun i B e hl => ?_⟩⟩
  · rcases hown b o ho with h | h
    · exact hI.apart b o (hin b o h)
    · cases hk : K b o with
      | none => rfl
      | some u => have := hI.known_lt hk; omega
  · obtain ⟨i, c, B, h1, h2, h3, h4⟩ := ho
    match i, h1, h2 with
    | 0, h1, h2 => simp at h2; subst h2; simp [Bx.live] at h3
    | 1, h1, h2 =>
      simp at h1; subst h1
      rcases hown b o h4 with h | h
      · exact .inl (hin b o h)
      · exact .inr h
    | i + 2, h1, h2 => simp at h2
  · cases i with
    | zero => simp at e; subst e; cases hl
    | succ i => simp at e

theorem splice_get (l vs : List Value) (o q : Nat) (h : o + vs.length ≤ l.length) : (l.take o ++ vs ++ l.drop (o + vs.length)).toArray[q]? = if q < o then l[q]? else if q < o + vs.length then vs[q - o]? else l[q]? := by
  have hT : (l.take o).length = o := by rw [List.length_take]; omega
  rw [List.getElem?_toArray]
  by_cases h5 : q < o
  · rw [if_pos h5, List.append_assoc, List.getElem?_append_left (by omega), List.getElem?_take, if_pos h5]
  · rw [if_neg h5, List.append_assoc, List.getElem?_append_right (by omega), hT]
    by_cases h6 : q < o + vs.length
    · rw [if_pos h6, List.getElem?_append_left (by omega)]
    · rw [if_neg h6, List.getElem?_append_right (by omega), List.getElem?_drop]
      congr 1; omega
theorem setCells_row (W : World) (b o : Nat) (arr : Array Value) (el : TypeId) (vs : List Value) (hb : W.heap[b]? = some (.cells arr el (0, 0))) (hl : o + vs.length ≤ arr.size) (h1 : ∀ v ∈ vs, v.oneCell' = true) :
    W.setCells b o vs = W.setRow b (arr.toList.take o ++ vs ++ arr.toList.drop (o + vs.length)).toArray := by
  have hc : ∀ j, j < vs.length → (W.cell? ⟨b, o + j, none⟩).isSome = true := fun j hj => by
    simp only [World.cell?, hb]
    rw [Array.getElem?_eq_getElem (by omega)]; rfl
  have hf : ∀ j, j < vs.length → W.frozen? ⟨b, o + j, none⟩ = false := fun j hj => by simp [World.frozen?, hb]
  have e1 := run_storeCells_cells (P := Tryz.prog) b o vs 0 W (by simpa using hc) (by simpa using hf) h1
  have e2 := run_storeCells_at Tryz.prog b o el vs 0 arr W hb (by omega) h1
  rw [e1] at e2
  simp only [Nat.add_zero] at e2
  injection e2

/-- The new row, where the elements lay or in a place of its own. -/
theorem ins_flat {K : Kn} {rows : List (List X)} {x : List X} {cs vs : List Value} (hf : Flat K 10 rows cs) (hv : Flat K 10 [x] vs) (i : Nat) : Flat K 10 (rows.take i ++ [x] ++ rows.drop i) (cs.take (i * 10) ++ vs ++ cs.drop (i * 10)) :=
  ((hf.take i).append hv).append (hf.drop i)
theorem ins_get {cs vs : List Value} {n i k : Nat} {v : Value} (hcl : cs.length = n * 10) (hvl : vs.length = 10) (hi : i ≤ n) (h : (cs.take (i * 10) ++ vs ++ cs.drop (i * 10))[k]? = some v) :
    (k < i * 10 ∧ cs[k]? = some v) ∨ (i * 10 ≤ k ∧ k < (i + 1) * 10 ∧ vs[k - i * 10]? = some v) ∨ ((i + 1) * 10 ≤ k ∧ k < (n + 1) * 10 ∧ cs[k - 10]? = some v) := by
  have hT : (cs.take (i * 10)).length = i * 10 := by rw [List.length_take]; omega
  by_cases h1 : k < i * 10
  · rw [List.append_assoc, List.getElem?_append_left (by omega), List.getElem?_take, if_pos h1] at h
    exact .inl ⟨h1, h⟩
  · rw [List.append_assoc, List.getElem?_append_right (by omega), hT] at h
    by_cases h2 : k < (i + 1) * 10
    · rw [List.getElem?_append_left (by omega)] at h
      exact .inr (.inl ⟨by omega, h2, h⟩)
    · rw [List.getElem?_append_right (by omega), List.getElem?_drop] at h
      have e : i * 10 + (k - i * 10 - vs.length) = k - 10 := by omega
      rw [e] at h
      have := (List.getElem?_eq_some_iff.1 h).1
      exact .inr (.inr ⟨by omega, by omega, h⟩)

set_option maxRecDepth 100000 in
theorem ins_sem {R : CodeRel} (n i : Nat) (t : Bool) (x : List X) (rows : List (List X)) (hi : i ≤ n) (hn : n = rows.length) (hn2 : n ≤ 2000000) :
    FSem Tryz.prog R 91 [.bs 0 0 n, .v (.int .i64 (Int.ofNat i)), .sl t 10 [x]] [.row 10 rows] (.bs 1 0 (n + 1)) [.dead, .row 10 (rows.take i ++ [x] ++ rows.drop i)] := by
  intro K C w cargs hI ha
  have hs : cargs.size = 3 := ha.1
  have r0 := ha.2 0 _ cargs[0] rfl (Array.getElem?_eq_getElem (by omega))
  have r1 := ha.2 1 _ cargs[1] rfl (Array.getElem?_eq_getElem (by omega))
  have r2 := ha.2 2 _ cargs[2] rfl (Array.getElem?_eq_getElem (by omega))
  have hca : cargs = #[cargs[0], cargs[1], cargs[2]] := by
    refine Array.ext (by simp [hs]) fun j h1 h2 => ?_
    match j, h1, h2 with
    | 0, _, _ => rfl
    | 1, _, _ => rfl
    | 2, _, _ => rfl
    | j + 3, h1, _ => omega
  rw [hca]
  generalize cargs[0] = v0 at r0
  generalize cargs[1] = v1 at r1
  generalize cargs[2] = v2 at r2
  obtain rfl := rep_v r1
  obtain ⟨c0, hC⟩ : ∃ c0, C = [c0] := by
    have := hI.size
    match C, this with
    | [c0], _ => exact ⟨c0, rfl⟩
  subst hC
  obtain ⟨vb, vo, c2, rfl⟩ : ∃ vb vo c2, v2 = .slice (some ⟨vb, vo, none⟩) 1 c2 := by
    generalize hx : X.sl t 10 [x] = y at r2
    cases r2 <;> try cases hx
    exact ⟨_, _, _, rfl⟩
  obtain ⟨vs, hv, hvK⟩ := r2.flat
  have hvl : vs.length = 10 := by simpa using hv.len
  have hvs : ∀ j v, vs[j]? = some v → w.cell? ⟨vb, vo + j, none⟩ = some v := fun j v h => hI.known _ _ _ (hvK j v h)
  have h1v := hv.oneCell
  obtain ⟨tA, kA, hsa, hkA⟩ : ∃ tA kA, w.shape? vb = some (tA, kA) ∧ kA ≠ 0 := by
    have h0 := hvs 0 _ (List.getElem?_eq_getElem (by omega))
    unfold World.cell? at h0
    split at h0
    · rename_i arr el fr hh
      refine ⟨el, arr.size, by simp [World.shape?, hh], fun e => ?_⟩
      have := (Array.getElem?_eq_some_iff.1 h0).1
      omega
    · cases h0
  have hvfc : ∀ w' : World, w'.heap = w.heap → (Builtin.firstCells 10 1 (.slice (some ⟨vb, vo, none⟩) 1 c2)).run Tryz.prog w' = .ok vs.toArray w' := fun w' hw => by
    refine run_firstCells_some w' 10 1 ⟨vb, vo, none⟩ 1 c2 vs (by omega) (fun j u hu => ?_)
    rw [Addr.add_lit]
    have := hvs j u hu
    simp only [World.cell?, hw] at this ⊢; exact this
  have hz78 : (zeroP Tryz.prog 83).isSome = true := by kernel_rfl
  obtain ⟨z78, hz78⟩ := Option.isSome_iff_exists.1 hz78
  have hs78 : sizeP Tryz.prog 83 = some 10 := by kernel_rfl
  have hb78 : bytesP Tryz.prog 83 = some 152 := by kernel_rfl
  -- a new row, at the end
  have endGrow : ∀ (ob : Option Addr) (c : Nat) (olds : List Value), i = n → n ≤ c → c < n + 1 → (ob = none → n = 0 ∧ c = 0) → Flat K 10 rows olds → (∀ w' : World, w'.heap = w.heap → (Builtin.firstCells 10 n (.slice ob n c)).run Tryz.prog w' = .ok olds.toArray w') →
      Calls Tryz.prog 91 #[.slice ob n c, .int .i64 (Int.ofNat i), .slice (some ⟨vb, vo, none⟩) 1 c2] w (Post Tryz.prog R K [c0] [.row 10 rows] w (.bs 1 0 (n + 1)) [.dead, .row 10 (rows.take i ++ [x] ++ rows.drop i)]) := by
    intro ob c olds hin hnc hcn hnil hfo hfco
    subst hin
    have hex : ∃ rest : List Value, (∀ ty, (Builtin.append_ #[25, 25] ty #[.slice ob i c, .slice (some ⟨vb, vo, none⟩) 1 c2]).run Tryz.prog w = .ok (.slice (some ⟨w.heap.size, 0, none⟩) (i + 1) (grownCap w (i + 1) c 83)) (w.drew.alloc (.cells (olds ++ vs ++ rest).toArray 83))) ∧ rest.length = (grownCap w (i + 1) c 83 - (i + 1)) * 10 := by
      obtain ⟨rest, h1, h2⟩ := run_app_grow (P := Tryz.prog) (w := w) (ty := 0) (ob := ob) (oc := some ⟨vb, vo, none⟩) (n := i) (cap := c) (m := 1) (c := c2) und35 und35 hs78 hb78 hz78 olds vs hfco hvfc hcn (by omega) (by omega) (by omega)
      exact ⟨rest, fun ty => h1, h2⟩
    obtain ⟨rest, hrun, hrl⟩ := hex
    have hm := grownCap_ge w (i + 1) c 83
    generalize grownCap w (i + 1) c 83 = m at hrun hrl hm
    refine (ins_end ob i c vb vo c2 w _ _ hnc hn2 hnil hrun).mono ?_
    rintro e w' ⟨rfl, rfl⟩
    have hfl := hfo.append hv
    have e1 : rows.take i ++ [x] ++ rows.drop i = rows ++ [x] := by
      rw [hn, List.take_length, List.drop_length, List.append_nil]
    rw [e1]
    have hol : olds.length = i * 10 := by rw [hfo.len, ← hn]
    have hsz : (olds ++ vs ++ rest).toArray.size = m * 10 := by
      simp only [List.size_toArray, List.length_append, hol, hvl, hrl]; omega
    refine post_move (c' := .at w.heap.size 0 (m * 10) 10) hI (FrameOk.trans (FrameOk.drew _ w) (FrameOk.alloc (S := c0.owns) _ _) (fun _ _ _ h => h)) (fun b o h => .inr (by rw [h.1]; exact Nat.le_refl _)) (hfl.box (alloc_get w.drew _) (fun k v hk => ?_) (by simp only [List.length_append, List.length_singleton]; omega) (by omega)) ?_
    · rw [Nat.zero_add, List.getElem?_toArray, List.getElem?_append_left (List.getElem?_eq_some_iff.1 hk).1]; exact hk
    · have := @Rep.bs K ([c0] ++ [.at w.heap.size 0 (m * 10) 10]) 1 0 (i + 1) w.heap.size 0 (m * 10) 10 m rfl (by omega) (by omega)
      simpa using this
  generalize hx0 : X.bs 0 0 n = y0 at r0
  cases r0 <;> try cases hx0
  case bsNil ob hc =>
    have e0 : c0 = .ghost := by simpa using hc
    subst e0
    have hi0 : i = 0 := by omega
    have hr0 : rows = [] := List.eq_nil_of_length_eq_zero hn.symm
    refine endGrow ob 0 [] hi0 (Nat.le_refl _) (by omega) (fun _ => ⟨rfl, rfl⟩) (by rw [hr0]; exact Flat.nil) (fun w' _ => ?_)
    cases ob <;> simp [Builtin.firstCells, loadCells, loadCellsFrom]
  case bs b base hi' sz cap hc hcap hlen =>
    have e0 : c0 = .at b base hi' sz := by simpa using hc
    subst e0
    obtain ⟨arr, el, g1, g2, g3, hbl, hfe⟩ := (hI.box 0 _ _ rfl rfl).flat
    subst g1
    simp only [Nat.zero_mul, Nat.zero_add, Nat.add_zero] at hcap ⊢
    generalize hcd : (arr.toList.drop base).take (rows.length * 10) = cs at hfe
    have hcl : cs.length = n * 10 := by rw [hfe.len, ← hn]
    have hcar : ∀ j v, cs[j]? = some v → arr[base + j]? = some v := fun j v h => by
      rw [← hcd, List.getElem?_take] at h
      split at h
      · rw [List.getElem?_drop] at h; simpa using h
      · cases h
    have hcs : ∀ j v, cs[j]? = some v → w.cell? ⟨b, base + j, none⟩ = some v := fun j v h => by
      simp only [World.cell?, hbl]; exact hcar j v h
    have h1c := hfe.oneCell
    have hnk : ∀ o, base ≤ o → o < hi' → K b o = none := fun o h1 h2 => hI.apart b o ⟨0, _, _, rfl, rfl, rfl, ⟨rfl, h1, h2⟩⟩
    have hfz : ∀ o, w.frozen? ⟨b, o, none⟩ = false := fun o => by simp [World.frozen?, hbl]
    have hflat := ins_flat hfe hv i
    by_cases hin : i = n
    · by_cases hfit : n + 1 ≤ cap
      · subst hin
        have hst := run_storeCells_at Tryz.prog b (base + i * 10) el vs 0 arr w hbl (by omega) h1v
        simp only [Nat.add_zero] at hst
        have hrun : ∀ ty, (Builtin.append_ #[25, 25] ty #[.slice (some ⟨b, base, none⟩) i cap, .slice (some ⟨vb, vo, none⟩) 1 c2]).run Tryz.prog w = .ok (.slice (some ⟨b, base, none⟩) (i + 1) cap) (w.setRow b (arr.toList.take (base + i * 10) ++ vs ++ arr.toList.drop (base + i * 10 + vs.length)).toArray) := fun ty =>
          run_app_fit (P := Tryz.prog) (ty := ty) (ob := some ⟨b, base, none⟩) und35 und35 hs78 vs _ (hvfc w rfl) hfit (fun ad e => by cases e; rw [Addr.add_lit]; exact hst) (fun e => by cases e)
        refine (ins_end _ i cap vb vo c2 w _ _ (by omega) hn2 (fun e => by cases e) hrun).mono ?_
        rintro e w' ⟨rfl, rfl⟩
        have hget : ∀ q, (arr.toList.take (base + i * 10) ++ vs ++ arr.toList.drop (base + i * 10 + vs.length)).toArray[q]? = if q < base + i * 10 then arr[q]? else if q < base + i * 10 + vs.length then vs[q - (base + i * 10)]? else arr[q]? := fun q => by
          rw [splice_get _ _ _ _ (by have : arr.toList.length = arr.size := Array.length_toList; omega)]; simp
        have hsize : (arr.toList.take (base + i * 10) ++ vs ++ arr.toList.drop (base + i * 10 + vs.length)).toArray.size = arr.size := by simp; omega
        generalize (arr.toList.take (base + i * 10) ++ vs ++ arr.toList.drop (base + i * 10 + vs.length)).toArray = arr' at hget hsize
        refine post_move (c' := .at b base hi' 10) hI (FrameOk.setRow hbl hsize fun q hq => ?_) (fun b' o' h => .inl h) (hflat.box (setRow_heap w b arr arr' el _ hbl) (fun k v hk => ?_) (by rw [hflat.len.symm.trans (by simp; omega : _ = (i + 1) * 10)]; omega) (by omega)) ?_
        · rw [hget]
          have hout : ¬ (base ≤ q ∧ q < hi') := fun hh => hq ⟨rfl, hh.1, hh.2⟩
          by_cases h5 : q < base + i * 10
          · rw [if_pos h5]
          · rw [if_neg h5, if_neg (by omega)]
        · rw [hget]
          rcases ins_get hcl hvl (Nat.le_refl _) hk with ⟨h1, h2⟩ | ⟨h1, h2, h3⟩ | ⟨h1, h2, h3⟩
          · rw [if_pos (by omega)]; exact hcar k v h2
          · rw [if_neg (by omega), if_pos (by omega), ← h3]; congr 1; omega
          · omega
        · have := @Rep.bs K ([.at b base hi' 10] ++ [.at b base hi' 10]) 1 0 (i + 1) b base hi' 10 cap rfl (by omega) hfit
          simpa using this
      · refine endGrow (some ⟨b, base, none⟩) cap cs hin (by omega) (by omega) (fun e => by cases e) hfe (fun w' hw => ?_)
        refine run_firstCells_some w' 10 n ⟨b, base, none⟩ n cap cs (by omega) (fun j u hu => ?_)
        rw [Addr.add_lit]
        have := hcs j u hu
        simp only [World.cell?, hw] at this ⊢; exact this
    · have hil : i < n := by omega
      by_cases hfit : n + 1 ≤ cap
      · have hlb : arr.toList.length = arr.size := Array.length_toList
        have hsh : w.shape? b = some (el, arr.size) := by simp [World.shape?, hbl]
        refine (ins_shift b base n cap i vb vo c2 cs vs w hil hfit hn2 (fun j k hj hk e hne => ?_) hcl hvl hcs (fun j hj => ?_) (fun j _ => hfz _) hvs h1c h1v tA el kA arr.size hsa hsh (by omega) hkA hfz).mono ?_
        · have hk1 := hvK j _ (List.getElem?_eq_getElem (by omega))
          rw [e, hne, hnk _ (by omega) (by omega)] at hk1
          cases hk1
        · simp only [World.cell?, hbl]
          rw [Array.getElem?_eq_getElem (by omega)]; rfl
        rintro e w' ⟨rfl, rfl⟩
        have hdl : (cs.drop (i * 10)).length = (n - i) * 10 := by rw [List.length_drop, hcl]; omega
        have hbl2 : w.drew.heap[b]? = some (.cells arr el (0, 0)) := hbl
        rw [setCells_row w.drew b _ arr el _ hbl2 (by omega) (fun v hv' => h1c v (List.mem_of_mem_drop hv'))]
        have hget1 := fun q => splice_get arr.toList (cs.drop (i * 10)) (base + (i + 1) * 10) q (by omega)
        have hsz1 : (arr.toList.take (base + (i + 1) * 10) ++ cs.drop (i * 10) ++ arr.toList.drop (base + (i + 1) * 10 + (cs.drop (i * 10)).length)).toArray.size = arr.size := by
          simp only [List.size_toArray, List.length_append, List.length_take, List.length_drop, hlb]; omega
        generalize (arr.toList.take (base + (i + 1) * 10) ++ cs.drop (i * 10) ++ arr.toList.drop (base + (i + 1) * 10 + (cs.drop (i * 10)).length)).toArray = arr1 at hget1 hsz1 ⊢
        have hb1 := setRow_heap w.drew b arr arr1 el (0, 0) hbl2
        have hlb1 : arr1.toList.length = arr1.size := Array.length_toList
        rw [setCells_row _ b _ arr1 el _ hb1 (by omega) h1v]
        have hget2 := fun q => splice_get arr1.toList vs (base + i * 10) q (by omega)
        have hsz2 : (arr1.toList.take (base + i * 10) ++ vs ++ arr1.toList.drop (base + i * 10 + vs.length)).toArray.size = arr1.size := by
          simp only [List.size_toArray, List.length_append, List.length_take, List.length_drop, hlb1]; omega
        generalize (arr1.toList.take (base + i * 10) ++ vs ++ arr1.toList.drop (base + i * 10 + vs.length)).toArray = arr2 at hget2 hsz2 ⊢
        have hb2 := setRow_heap _ b arr1 arr2 el (0, 0) hb1
        simp only [Array.getElem?_toList] at hget1 hget2
        refine post_move (c' := .at b base hi' 10) hI (FrameOk.trans (FrameOk.drew _ w) (FrameOk.trans (FrameOk.setRow hbl2 hsz1 fun q hq => ?_) (FrameOk.setRow (S := (CB.at b base hi' 10).owns) hb1 hsz2 fun q hq => ?_) (fun _ _ _ h => h)) (fun _ _ _ h => h)) (fun b' o' h => .inl h) (hflat.box hb2 (fun k v hk => ?_) ?_ (by omega)) ?_
        · rw [hget1]
          have hout : ¬ (base ≤ q ∧ q < hi') := fun hh => hq ⟨rfl, hh.1, hh.2⟩
          by_cases h5 : q < base + (i + 1) * 10
          · rw [if_pos h5]
          · rw [if_neg h5, if_neg (by omega)]
        · rw [hget2]
          have hout : ¬ (base ≤ q ∧ q < hi') := fun hh => hq ⟨rfl, hh.1, hh.2⟩
          by_cases h5 : q < base + i * 10
          · rw [if_pos h5]
          · rw [if_neg h5, if_neg (by omega)]
        · rw [hget2]
          rcases ins_get hcl hvl hi hk with ⟨h1, h2⟩ | ⟨h1, h2, h3⟩ | ⟨h1, h2, h3⟩
          · rw [if_pos (by omega), hget1, if_pos (by omega)]; exact hcar k v h2
          · rw [if_neg (by omega), if_pos (by omega), ← h3]; congr 1; omega
          · rw [if_neg (by omega), if_neg (by omega), hget1, if_neg (by omega), if_pos (by omega), List.getElem?_drop, ← h3]; congr 1; omega
        · have := hflat.len
          simp only [List.length_append, List.length_take, List.length_drop, List.length_singleton]
          omega
        · have := @Rep.bs K ([.at b base hi' 10] ++ [.at b base hi' 10]) 1 0 (n + 1) b base hi' 10 cap rfl (by omega) hfit
          simpa using this
      · refine (ins_grow b base n cap i vb vo c2 cs vs w hil (by omega) (by omega) (by omega) hcl hvl hcs hvs h1c h1v).mono ?_
        rintro e w' ⟨G, tl, hG, rfl, htl, rfl⟩
        have hdl : (cs.drop (i * 10)).length = (n - i) * 10 := by rw [List.length_drop, hcl]; omega
        have hTl : (cs.take (i * 10)).length = i * 10 := by rw [List.length_take]; omega
        generalize hA : (cs.take (i * 10) ++ tl).toArray = A
        have hAs : A.size = G * 10 := by rw [← hA, List.size_toArray, List.length_append, hTl, htl]; omega
        have hlA : A.toList.length = A.size := Array.length_toList
        have hb0 : (w.alloc (.cells A 83)).drew.heap[w.heap.size]? = some (.cells A 83 (0, 0)) := alloc_get w _
        rw [setCells_row _ _ _ A 83 _ hb0 (by omega) h1v]
        have hget1 := fun q => splice_get A.toList vs (i * 10) q (by omega)
        have hsz1 : (A.toList.take (i * 10) ++ vs ++ A.toList.drop (i * 10 + vs.length)).toArray.size = A.size := by
          simp only [List.size_toArray, List.length_append, List.length_take, List.length_drop, hlA]; omega
        generalize (A.toList.take (i * 10) ++ vs ++ A.toList.drop (i * 10 + vs.length)).toArray = arr1 at hget1 hsz1 ⊢
        have hb1 := setRow_heap _ w.heap.size A arr1 83 (0, 0) hb0
        have hlb1 : arr1.toList.length = arr1.size := Array.length_toList
        have hb1' : ((w.alloc (.cells A 83)).drew.setRow w.heap.size arr1).drew.heap[w.heap.size]? = some (.cells arr1 83 (0, 0)) := hb1
        rw [setCells_row _ _ _ arr1 83 _ hb1' (by omega) (fun v hv' => h1c v (List.mem_of_mem_drop hv'))]
        have hget2 := fun q => splice_get arr1.toList (cs.drop (i * 10)) ((i + 1) * 10) q (by omega)
        have hsz2 : (arr1.toList.take ((i + 1) * 10) ++ cs.drop (i * 10) ++ arr1.toList.drop ((i + 1) * 10 + (cs.drop (i * 10)).length)).toArray.size = arr1.size := by
          simp only [List.size_toArray, List.length_append, List.length_take, List.length_drop, hlb1]; omega
        generalize (arr1.toList.take ((i + 1) * 10) ++ cs.drop (i * 10) ++ arr1.toList.drop ((i + 1) * 10 + (cs.drop (i * 10)).length)).toArray = arr2 at hget2 hsz2 ⊢
        have hb2 := setRow_heap _ w.heap.size arr1 arr2 83 (0, 0) hb1'
        simp only [Array.getElem?_toList] at hget1 hget2
        have hfr : FrameOk (CB.at b base hi' 10).owns w (((w.alloc (.cells A 83)).drew.setRow w.heap.size arr1).drew.setRow w.heap.size arr2) := by
          have f1 : FrameOk (fun p _ => p = w.heap.size) w (((w.alloc (.cells A 83)).drew.setRow w.heap.size arr1).drew.setRow w.heap.size arr2) :=
            FrameOk.trans (FrameOk.alloc (S := fun p _ => p = w.heap.size) w _) (FrameOk.trans (FrameOk.drew _ _) (FrameOk.trans (FrameOk.setRow hb0 hsz1 fun q hq => absurd rfl hq) (FrameOk.trans (FrameOk.drew _ _) (FrameOk.setRow hb1' hsz2 fun q hq => absurd rfl hq) (fun _ _ _ h => h)) (fun _ _ _ h => h)) (fun _ _ _ h => h)) (fun _ _ _ h => h)
          exact f1.mono fun p o hp h => by omega
        refine post_move (c' := .at w.heap.size 0 (G * 10) 10) hI hfr (fun b' o' h => .inr (by rw [h.1]; exact Nat.le_refl _)) (hflat.box hb2 (fun k v hk => ?_) ?_ (by omega)) ?_
        · rw [Nat.zero_add, hget2]
          rcases ins_get hcl hvl hi hk with ⟨h1, h2⟩ | ⟨h1, h2, h3⟩ | ⟨h1, h2, h3⟩
          · rw [if_pos (by omega), hget1, if_pos (by omega), ← hA, List.getElem?_toArray, List.getElem?_append_left (by omega), List.getElem?_take, if_pos h1]; exact h2
          · rw [if_pos (by omega), hget1, if_neg (by omega), if_pos (by omega)]; exact h3
          · rw [if_neg (by omega), if_pos (by omega), List.getElem?_drop, ← h3]; congr 1; omega
        · simp only [List.length_append, List.length_take, List.length_drop, List.length_singleton]
          omega
        · have := @Rep.bs K ([.at b base hi' 10] ++ [.at w.heap.size 0 (G * 10) 10]) 1 0 (n + 1) w.heap.size 0 (G * 10) 10 G rfl (by omega) (by omega)
          simpa using this
end
end Go.Proofs.YtckdgafiindddaaGreatDoor

/- slices.Insert at the slots: copies of elements of more than one cell. -/
namespace Go.Proofs.YtckdgafiindddaaGreatDoor.Im
open Go.Em Go.RowKit Go.Lib

theorem run_copy_k {P : Program} (w : World) (dT sT ty elem : TypeId) (k : Nat) (b o dLen dCap : Nat) (a : Addr) (sLen sCap : Nat) (cs : List Value)
    (hu : P.underlying dT = some (.slice elem)) (hs : (P.info? elem).map (·.size) = some k) (hn : cs.length = Nat.min sLen dLen * k)
    (hsrc : ∀ j v, cs[j]? = some v → w.cell? (a.add j) = some v) (hc : ∀ j, j < cs.length → (w.cell? ⟨b, o + j, none⟩).isSome = true) (hf : ∀ j, j < cs.length → w.frozen? ⟨b, o + j, none⟩ = false) (h1 : ∀ v ∈ cs, v.oneCell' = true) :
    (Builtin.copy_ #[dT, sT] ty #[.slice (some ⟨b, o, none⟩) dLen dCap, .slice (some a) sLen sCap]).run P w = .ok (goInt (Nat.min sLen dLen)) (w.setCells b o cs) := by
  have hl := run_loadCells_list (P := P) w a cs hsrc
  have hst := run_storeCells_cells (P := P) b o cs 0 w (by simpa using hc) (by simpa using hf) h1
  cases hq : P.info? elem with
  | none => simp [hq] at hs
  | some i =>
    have hi : i.size = k := by simpa [hq] using hs
    simp [Builtin.copy_, run_underlying hu, Builtin.lenOf, Builtin.firstCells, sizeOf, typeInfo, hq, hi, ← hn, hl, hst]

/-- The model's entry for slices.overlaps: two blocks, the second of which is plain memory. -/
theorem run_overlaps_own {P : Program} (w : World) (tS tR e : TypeId) (ht : P.underlying tS = some (.slice e)) (size : Nat) (hz : ∀ w, (Go.sizeOf e).run P w = .ok size w)
    (a b : Addr) (la ca lb cb : Nat) (hne : a.block ≠ b.block) (tA tB : TypeId) (kA kB : Nat)
    (hsa : w.shape? a.block = some (tA, kA)) (hsb : w.shape? b.block = some (tB, kB)) (hkB : kB ≠ 0) (hkA : kA ≠ 0)
    (hfb : w.frozen? b = false) (hfe : w.frozen? { block := b.block, off := kB } = false) :
    (Extern.SlicesOverlaps.overlaps #[tS, tS] #[tR] #[.slice (some a) la ca, .slice (some b) lb cb]).run P w = .ok (.bool false) w := by
  have hnb : (a.block != b.block) = true := by simpa using hne
  have hnb' : (a.block == b.block) = false := by simpa using hne
  change Sem.run P (α := Value) (do
    let some t := (#[tS, tS] : Array TypeId)[0]? | stuck "slices.overlaps: no parameter types"
    let .slice elem ← underlying t | stuck "slices.overlaps: slice type expected"
    let size ← sizeOf elem
    match (some a : Option Addr), (some b : Option Addr) with
    | some a, some b =>
      if la = 0 ∨ lb = 0 ∨ size = 0 then pure (Value.bool false)
      else if a.block != b.block && (← frozen a) && (← frozen b) then unsupported .addressObserved
      else do
        if a.block != b.block then do
          noView a; noView b
          if ← mayBeOne a b then return Value.bool ((← choose (.extern "sameAddr.stringBytes" 2)) == 1)
        pure (Value.bool (a.block == b.block && a.off < b.off + lb * size && b.off < a.off + la * size))
    | _, _ => pure (Value.bool false)) w = _
  by_cases h0 : la = 0 ∨ lb = 0 ∨ size = 0
  · simp [run_underlying ht, hz, h0]
  · cases kB with
    | zero => exact absurd rfl hkB
    | succ kB =>
      obtain ⟨kA, rfl⟩ : ∃ k, kA = k + 1 := ⟨kA - 1, by omega⟩
      cases hfa : w.frozen? a with
      | true => simp [run_underlying ht, hz, h0, hnb, hnb', frozen, noView, viewAt, mayBeOne, stringish, shape, Sem.run, hsa, hsb, hfb, hfe, hfa]
      | false =>
        cases hfx : w.frozen? { block := a.block, off := kA + 1 } with
        | true => simp [run_underlying ht, hz, h0, hnb, hnb', frozen, noView, viewAt, mayBeOne, stringish, shape, Sem.run, hsa, hsb, hfb, hfe, hfa, hfx]
        | false => simp [run_underlying ht, hz, h0, hnb, hnb', frozen, noView, viewAt, mayBeOne, stringish, shape, Sem.run, hsa, hsb, hfb, hfe, hfa, hfx]
/-- .. and where both lie in one block, apart. -/
theorem run_overlaps_same {P : Program} (w : World) (tS tR e : TypeId) (ht : P.underlying tS = some (.slice e)) (size : Nat) (hz : ∀ w, (Go.sizeOf e).run P w = .ok size w)
    (a b : Addr) (la ca lb cb : Nat) (hsame : a.block = b.block) (hd : ¬ (a.off < b.off + lb * size ∧ b.off < a.off + la * size)) :
    (Extern.SlicesOverlaps.overlaps #[tS, tS] #[tR] #[.slice (some a) la ca, .slice (some b) lb cb]).run P w = .ok (.bool false) w := by
  have hnb : (a.block != b.block) = false := by simpa using hsame
  have hnb' : (a.block == b.block) = true := by simpa using hsame
  have hd' : (decide (a.off < b.off + lb * size) && decide (b.off < a.off + la * size)) = false := by
    cases h : (decide (a.off < b.off + lb * size) && decide (b.off < a.off + la * size)) with
    | false => rfl
    | true => exact absurd (by simpa using h) hd
  change Sem.run P (α := Value) (do
    let some t := (#[tS, tS] : Array TypeId)[0]? | stuck "slices.overlaps: no parameter types"
    let .slice elem ← underlying t | stuck "slices.overlaps: slice type expected"
    let size ← sizeOf elem
    match (some a : Option Addr), (some b : Option Addr) with
    | some a, some b =>
      if la = 0 ∨ lb = 0 ∨ size = 0 then pure (Value.bool false)
      else if a.block != b.block && (← frozen a) && (← frozen b) then unsupported .addressObserved
      else do
        if a.block != b.block then do
          noView a; noView b
          if ← mayBeOne a b then return Value.bool ((← choose (.extern "sameAddr.stringBytes" 2)) == 1)
        pure (Value.bool (a.block == b.block && a.off < b.off + lb * size && b.off < a.off + la * size))
    | _, _ => pure (Value.bool false)) w = _
  by_cases h0 : la = 0 ∨ lb = 0 ∨ size = 0
  · simp [run_underlying ht, hz, h0]
  · simp [run_underlying ht, hz, h0, hnb, hnb', hd', frozen, Sem.run]
end Go.Proofs.YtckdgafiindddaaGreatDoor.Im
