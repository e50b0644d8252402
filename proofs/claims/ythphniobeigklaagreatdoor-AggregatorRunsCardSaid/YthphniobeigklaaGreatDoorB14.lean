/- The aggregator at several groups: Remove, Held; what holds of the places. -/
import Derived.Test.YthphniobeigklaaGreatDoorB13
set_option linter.all false
namespace Go.Proofs.YthphniobeigklaaGreatDoor.Ag
open Go Go.Em Go.Proofs.YthphniobeigklaaGreatDoor
set_option maxRecDepth 100000

/-! ### The place of a group -/
theorem take_lt (g : Int) : ∀ (gs : List Ga) (y : Ga), y ∈ gs.take (lowG g gs) → y.g < g
  | [], y, h => by simp [lowG] at h
  | p :: r, y, h => by
    unfold lowG at h
    split at h
    · rename_i hp
      rw [List.take_succ_cons] at h
      rcases List.mem_cons.1 h with rfl | h
      · exact hp
      · exact take_lt g r y h
    · simp at h
theorem low_not {g : Int} : ∀ {gs : List Ga} (h : lowG g gs < gs.length), ¬ gs[lowG g gs].g < g
  | [], h => by simp at h
  | p :: r, h => by
    by_cases hp : p.g < g
    · have e : lowG g (p :: r) = lowG g r + 1 := by show (if p.g < g then lowG g r + 1 else 0) = _; rw [if_pos hp]
      simp only [e] at h ⊢
      simpa using low_not (gs := r) (by simpa using h)
    · have e : lowG g (p :: r) = 0 := by show (if p.g < g then lowG g r + 1 else 0) = _; rw [if_neg hp]
      simp only [e, List.getElem_cons_zero]
      exact hp
def kn1 (g : Int) (gs : List Ga) : Nat := if knG g gs then 1 else 0
theorem kn1_eq {g : Int} {gs : List Ga} (hlt : lowG g gs < gs.length) : kn1 g gs = if gs[lowG g gs].g = g then 1 else 0 := by
  unfold kn1 knG
  rw [List.getElem?_eq_getElem hlt]
  simp
theorem drop_gt {g : Int} {gs : List Ga} (hs : SrtG gs) (y : Ga) (h : y ∈ gs.drop (lowG g gs + kn1 g gs)) : g < y.g := by
  have key : ∀ i (hi : i < gs.length), lowG g gs + kn1 g gs ≤ i → g < gs[i].g := fun i hi hle => by
    have hlt : lowG g gs < gs.length := by omega
    have h0 := low_not hlt
    rw [kn1_eq hlt] at hle
    by_cases hi0 : i = lowG g gs
    · subst hi0
      split at hle
      · omega
      · rename_i hk
        omega
    · have := srtG_get hs (show lowG g gs < i by omega) hi
      omega
  obtain ⟨j, hj, rfl⟩ := List.getElem_of_mem h
  rw [List.length_drop] at hj
  rw [List.getElem_drop]
  exact key _ _ (by omega)
theorem split_at (g : Int) (gs : List Ga) : gs = gs.take (lowG g gs) ++ (if knG g gs then [getG g gs] else []) ++ gs.drop (lowG g gs + kn1 g gs) := by
  unfold kn1
  cases hk : knG g gs with
  | false =>
    simp only [Bool.false_eq_true, if_false, Nat.add_zero, List.append_nil, List.take_append_drop]
  | true =>
    simp only [if_true]
    have hlt : lowG g gs < gs.length := by
      unfold knG at hk
      by_cases h : lowG g gs < gs.length
      · exact h
      · rw [List.getElem?_eq_none (by omega)] at hk; cases hk
    have hg : getG g gs = gs[lowG g gs] := by
      unfold knG at hk
      unfold getG
      rw [List.getElem?_eq_getElem hlt] at hk ⊢
      dsimp only at hk ⊢
      rw [if_pos (by simpa using hk)]
    rw [hg, List.append_assoc, List.singleton_append, ← List.drop_eq_getElem_cons hlt, List.take_append_drop]
theorem putG_eq (x : Ga) (gs : List Ga) : putG x gs = gs.take (lowG x.g gs) ++ [x] ++ gs.drop (lowG x.g gs + kn1 x.g gs) := rfl
theorem putG_mem {x y : Ga} {gs : List Ga} (h : y ∈ putG x gs) : y = x ∨ y ∈ gs := by
  rw [putG_eq] at h
  rcases List.mem_append.1 h with h | h
  · rcases List.mem_append.1 h with h | h
    · exact .inr (List.mem_of_mem_take h)
    · exact .inl (List.mem_singleton.1 h)
  · exact .inr (List.mem_of_mem_drop h)
theorem putG_srt {x : Ga} {gs : List Ga} (hs : SrtG gs) : SrtG (putG x gs) := by
  rw [putG_eq]
  unfold SrtG
  rw [List.append_assoc]
  refine List.pairwise_append.2 ⟨List.Pairwise.take hs, List.pairwise_cons.2 ⟨fun y hy => drop_gt hs y hy, List.Pairwise.drop hs⟩, fun a ha b hb => ?_⟩
  have h1 := take_lt x.g gs a ha
  rcases List.mem_cons.1 hb with rfl | hb
  · exact h1
  · have := drop_gt hs b hb; omega
theorem putG_len (x : Ga) (gs : List Ga) : (putG x gs).length ≤ gs.length + 1 := by
  rw [putG_eq]
  simp only [List.length_append, List.length_take, List.length_drop, List.length_singleton]
  omega

/-- A group is taken out. -/
def delG (g : Int) (gs : List Ga) : List Ga := gs.take (lowG g gs) ++ gs.drop (lowG g gs + 1)
theorem delG_mem {g : Int} {y : Ga} {gs : List Ga} (h : y ∈ delG g gs) : y ∈ gs := by
  unfold delG at h
  rcases List.mem_append.1 h with h | h
  · exact List.mem_of_mem_take h
  · exact List.mem_of_mem_drop h
theorem delG_srt {g : Int} {gs : List Ga} (hs : SrtG gs) : SrtG (delG g gs) := by
  unfold delG SrtG at *
  have h : (gs.take (lowG g gs) ++ gs.drop (lowG g gs + 1)).Sublist gs := by
    conv => rhs; rw [← List.take_append_drop (lowG g gs) gs]
    exact (List.Sublist.refl _).append (by rw [← List.drop_drop]; exact List.drop_sublist 1 _)
  exact hs.sublist h
theorem delG_len (g : Int) (gs : List Ga) : (delG g gs).length ≤ gs.length := by
  unfold delG
  simp only [List.length_append, List.length_take, List.length_drop]
  omega
theorem knG_lt {g : Int} {gs : List Ga} (h : knG g gs = true) : lowG g gs < gs.length := by
  unfold knG at h
  by_cases hlt : lowG g gs < gs.length
  · exact hlt
  · rw [List.getElem?_eq_none (by omega)] at h; cases h
theorem rem49 (gs : List Ga) (hs : SrtG gs) (hm : SmG gs) (g : Int) (hk : knG g gs = true) (N : Nat) (hN : 190050 ≤ N) :
    Gam.pureD (callF tab ext N) 49 [.agg (gst gs).cells, .agg (kv g).cells] = some (.tup [.agg (gst (delG g gs)).cells, boolX true]) := by
  obtain ⟨M, rfl⟩ : ∃ M, N = M + 1 := ⟨N - 1, by omega⟩
  have h86 := (getG_at gs hs hm g).2 M (by omega)
  rw [hk] at h86
  have h46 := clone_state M (gst gs) (gst_small gs hm).ok (by omega)
  have hlt := knG_lt hk
  have hsl : (sltsC (gst gs).slots).length = gs.length := by rw [sltsC_length]; simp [gst]
  have e : sltsC (gst (delG g gs)).slots = (sltsC (gst gs).slots).take (lowG g gs) ++ (sltsC (gst gs).slots).drop (lowG g gs + 1) := by
    simp [sltsC, gst, delG, List.map_take, List.map_drop]
  have hbig := hm.1
  have h87 : callF tab ext M (.fn 87) [.bs 0 0 (sltsC (gst gs).slots).length, nat (lowG g gs), nat (lowG g gs + 1)] [.row 10 (sltsC (gst gs).slots)] = some (.bs 1 0 ((sltsC (gst gs).slots).length - 1), [.dead, .row 10 (sltsC (gst (delG g gs)).slots)]) := by
    rw [e]
    obtain ⟨K, rfl⟩ : ∃ K, M = K + 1 := ⟨M - 1, by omega⟩
    show delExt 10 [.bs 0 0 (sltsC (gst gs).slots).length, nat (lowG g gs), nat (lowG g gs + 1)] [.row 10 (sltsC (gst gs).slots)] = _
    unfold delExt
    have hz1 : (Int.ofNat (lowG g gs)).toNat = lowG g gs := rfl
    have hz2 : (Int.ofNat (lowG g gs + 1)).toNat = lowG g gs + 1 := rfl
    simp only [nat, hz1, hz2]
    rw [if_pos ⟨trivial, trivial, by omega, by simp only [Int.ofNat_eq_natCast]; omega, by simp only [Int.ofNat_eq_natCast]; omega, by omega⟩]
    have e2 : (sltsC (gst gs).slots).length - (lowG g gs + 1 - lowG g gs) = (sltsC (gst gs).slots).length - 1 := by omega
    rw [e2]
  have hd : (sltsC (gst gs).slots).length - 1 = (sltsC (gst (delG g gs)).slots).length := by
    rw [hsl, sltsC_length]
    simp [gst, delG]
    omega
  have hn := next_nat (j := lowG g gs) (by omega)
  show Gam.pureD _ _ [.agg [num 0, num 0, .sl false 10 (sltsC (gst gs).slots)], _] = some (.tup [.agg [num 0, num 0, .sl false 10 (sltsC (gst (delG g gs)).slots)], _])
  have h86' : Gam.pureD (callF tab ext M) 86 [.agg [num 0, num 0, .sl false 10 (sltsC (gst gs).slots)], .agg (kv g).cells] = some (.tup [nat (lowG g gs), boolX true]) := h86
  have h46' : callF tab ext M (.fn 46) [.agg [num 0, num 0, .sl false 10 (sltsC (gst gs).slots)]] [] = some (.agg [num 0, num 0, .bs 0 0 (sltsC (gst gs).slots).length], [.row 10 (sltsC (gst gs).slots)]) := h46
  clear e h46 h86
  generalize sltsC (gst (delG g gs)).slots = s2 at *
  generalize sltsC (gst gs).slots = ss at *
  generalize lowG g gs = i at *
  exact pure_of [(12, .p (.tup [nat i, boolX true])), (19, .o (.agg [num 0, num 0, .bs 0 0 ss.length]) [.row 10 ss]), (24, .i (Int.ofNat (i + 1))), (25, .r (.bs 1 0 (ss.length - 1)) [.dead, .row 10 s2])] [] (pf4 h86' h46' hn h87) (x := .tup [.agg [num 0, num 0, .bs 0 0 (ss.length - 1)], boolX true]) (bx := [.row 10 s2]) (by kernel_rfl)
    (data_tup (dataL_cons (data_agg (dataL_cons rfl (dataL_cons rfl (dataL_cons (data_bs rfl hd) rfl)))) (dataL_cons rfl rfl)))
theorem getG_new {g : Int} {gs : List Ga} (hk : knG g gs = false) : getG g gs = ⟨g, 0, []⟩ := by
  unfold knG at hk
  unfold getG
  split at hk
  · rw [if_neg (by simpa using hk)]
  · rfl
def heldG (gs : List Ga) : Nat := (gs.map fun x => x.M.length).sum
theorem held29 (gs : List Ga) (hm : SmG gs) (N : Nat) (hN : 60020 ≤ N) : Gam.pureD (callF tab ext N) 29 [.agg (gst gs).cells] = some (nat (heldG gs)) := by
  have h := held_pure (gst gs) (gst_small gs hm) N hN
  have e : (accOf (gst gs).slots).length = heldG gs := by
    unfold accOf gst heldG
    simp [List.length_flatMap, Ga.slt, Function.comp_def]
  rw [e] at h
  exact h
theorem heldG_app (a b : List Ga) : heldG (a ++ b) = heldG a + heldG b := by simp [heldG]
theorem heldG_put (x : Ga) (gs : List Ga) : heldG (putG x gs) + (getG x.g gs).M.length = heldG gs + x.M.length := by
  have h := split_at x.g gs
  have e : heldG gs = heldG (gs.take (lowG x.g gs)) + heldG (if knG x.g gs then [getG x.g gs] else []) + heldG (gs.drop (lowG x.g gs + kn1 x.g gs)) := by
    conv => lhs; rw [h]
    rw [heldG_app, heldG_app]
  rw [putG_eq, heldG_app, heldG_app, e]
  have h1 : heldG [x] = x.M.length := by simp [heldG]
  rw [h1]
  cases hk : knG x.g gs with
  | true =>
    simp only [if_true]
    have : heldG [getG x.g gs] = (getG x.g gs).M.length := by simp [heldG]
    omega
  | false =>
    rw [getG_new hk]
    simp only [Bool.false_eq_true, if_false, List.length_nil]
    have : heldG [] = 0 := rfl
    omega
theorem heldG_del {g : Int} {gs : List Ga} (hk : knG g gs = true) : heldG (delG g gs) + (getG g gs).M.length = heldG gs := by
  have h := split_at g gs
  have e : heldG gs = heldG (gs.take (lowG g gs)) + heldG (if knG g gs then [getG g gs] else []) + heldG (gs.drop (lowG g gs + kn1 g gs)) := by
    conv => lhs; rw [h]
    rw [heldG_app, heldG_app]
  have k1 : kn1 g gs = 1 := by unfold kn1; rw [hk]; rfl
  rw [e, k1, hk]
  unfold delG
  rw [heldG_app]
  have : heldG [getG g gs] = (getG g gs).M.length := by simp [heldG]
  simp only [if_true]
  omega
end Go.Proofs.YthphniobeigklaaGreatDoor.Ag

/- Slots sorted by their times (insertion). -/
namespace Go.Proofs.YthphniobeigklaaGreatDoor.Tm
open Go Go.Em Go.Proofs.YthphniobeigklaaGreatDoor Go.Proofs.YthphniobeigklaaGreatDoor.Ag
set_option maxRecDepth 100000

/-- The slot at j sinks to its place. -/
def bub : Nat → List Slt → List Slt
  | 0, L => L
  | j + 1, L => if (L.getD (j + 1) dSlt).t < (L.getD j dSlt).t then bub j ((L.set (j + 1) (L.getD j dSlt)).set j (L.getD (j + 1) dSlt)) else L
theorem bub_length : ∀ (j : Nat) (L : List Slt), (bub j L).length = L.length
  | 0, _ => rfl
  | j + 1, L => by
    unfold bub
    split
    · rw [bub_length]; simp
    · rfl
def isort : Nat → List Slt → List Slt
  | 0, L => L
  | k + 1, L => bub (k + 1) (isort k L)
theorem isort_length : ∀ (k : Nat) (L : List Slt), (isort k L).length = L.length
  | 0, _ => rfl
  | k + 1, L => by unfold isort; rw [bub_length, isort_length k L]
theorem cmpT (a b : Slt) (N : Nat) : Gam.pureD (callF tab ext (N + 20)) 85 [.agg a.cells, .agg b.cells] = some (num (ordI a.t b.t)) := by
  have h := cmp_int (N + 10) a.t b.t
  obtain ⟨⟨a1, a2, a3, a4, a5, a6⟩, a7, a8, a9, a0⟩ := a
  obtain ⟨⟨b1, b2, b3, b4, b5, b6⟩, b7, b8, b9, b0⟩ := b
  exact pure_of [(9, .p (num (ordI a8 b8)))] [] (pf1 h) (x := num (ordI a8 b8)) (bx := []) (by kernel_rfl) rfl
theorem pfI {a b c d e : Prop} {l : List Prop} (h1 : a) (h2 : b) (h3 : c) (h4 : d) (h5 : e) (h : allP l) : allP (a :: b :: c :: d :: e :: l) := ⟨h1, h2, h3, h4, h5, h⟩
section
variable (n i j : Nat) (rows : List (List X))
def isH : St := ⟨[(0, .bs 0 0 n), (1, num 0), (2, nat n), (3, .fn 85 []), (8, nat i), (9, nat j)], [.row 10 rows]⟩
def isE : St := ⟨[(0, .bs 0 0 n), (1, num 0), (2, nat n), (3, .fn 85 []), (8, nat i), (9, nat j), (34, boolX false)], [.row 10 rows]⟩
theorem isH_canon : canon 1 (isH n i j rows) = some (isH n i j rows) := by kernel_rfl
theorem i_zero (N : Nat) : run (callF tab ext N) 1 N (loopAt 159 1) (isH n i 0 rows) = some (.exit 2, isE n i 0 rows) :=
  run_of [(20, .b false)] [] (pf1 (show decide (Int.ofNat 0 > 0) = false by decide)) (lo' := []) (by kernel_rfl)
end
theorem i_step (n i j : Nat) (L : List Slt) (hn : n = L.length) (h100 : L.length ≤ 100) (hj : j + 1 < L.length) (N : Nat) (hN : 100 ≤ N) :
    (¬ L[j + 1].t < (L[j]'(by omega)).t → run (callF tab ext N) 1 N (loopAt 159 1) (isH n i (j + 1) (sltsC L)) = some (.exit 2, isE n i (j + 1) (sltsC L))) ∧
    (L[j + 1].t < (L[j]'(by omega)).t → run (callF tab ext N) 1 N (loopAt 159 1) (isH n i (j + 1) (sltsC L)) = some (.norm, isH n i j (sltsC ((L.set (j + 1) (L[j]'(by omega))).set j L[j + 1])))) := by
  obtain ⟨M, rfl⟩ : ∃ M, N = M + 20 := ⟨N - 20, by omega⟩
  have hlen := sltsC_length L
  have ga := sltsC_get hj
  have gb := sltsC_get (show j < L.length by omega)
  have h1 : decide (Int.ofNat (j + 1) > 0) = true := decide_eq_true (by grind)
  have h2 : (Int.ofNat (j + 1)).toNat < n := by simp; omega
  have h3 : (Int.ofNat j).toNat < n := by simp; omega
  have hw : IntKind.i64.wrap (Int.ofNat (j + 1) - 1) = Int.ofNat j := by rw [IntKind.wrap_i64]; simp only [Int.ofNat_eq_natCast]; omega
  have hc := cmpT L[j + 1] (L[j]'(by omega)) M
  have e2 : sltsC ((L.set (j + 1) (L[j]'(by omega))).set j L[j + 1]) = ((sltsC L).set (0 + (j + 1)) (L[j]'(by omega)).cells).set (0 + j) L[j + 1].cells := by simp [sltsC, List.map_set]
  rw [e2]
  generalize L[j + 1] = a at *
  generalize (L[j]'(by omega)) = b at *
  have ga' : (sltsC L)[0 + (Int.ofNat (j + 1)).toNat]? = some a.cells := by rw [Nat.zero_add]; exact ga
  have gb' : (sltsC L)[0 + (Int.ofNat j).toNat]? = some b.cells := by rw [Nat.zero_add]; exact gb
  have gs : ((sltsC L).set (0 + (Int.ofNat (j + 1)).toNat) b.cells)[0 + (Int.ofNat j).toNat]? = some b.cells := by
    rw [List.getElem?_set_ne (by grind)]; exact gb'
  have ho : ordI a.t b.t < 0 ↔ a.t < b.t := ordI_lt
  obtain ⟨⟨a1, a2, a3, a4, a5, a6⟩, a7, a8, a9, a0⟩ := a
  obtain ⟨⟨b1, b2, b3, b4, b5, b6⟩, b7, b8, b9, b0⟩ := b
  dsimp only at ho hc ⊢
  generalize ordI a8 b8 = r at hc ho
  constructor
  · intro h
    have h7 := decide_eq_false (fun hh => h (ho.1 hh))
    exact run_of [(20, .b true), (25, .at), (26, .ld (Slt.mk ⟨a1, a2, a3, a4, a5, a6⟩ a7 a8 a9 a0).cells), (29, .i (Int.ofNat j)), (30, .at), (31, .ld (Slt.mk ⟨b1, b2, b3, b4, b5, b6⟩ b7 b8 b9 b0).cells), (32, .p (num r)), (33, .b false)] []
      (pf8 h1 h2 ga' hw h3 gb' hc h7) (lo' := []) (by kernel_rfl)
  · intro h
    have h7 := decide_eq_true (ho.2 h)
    exact run_of [(20, .b true), (25, .at), (26, .ld (Slt.mk ⟨a1, a2, a3, a4, a5, a6⟩ a7 a8 a9 a0).cells), (29, .i (Int.ofNat j)), (30, .at), (31, .ld (Slt.mk ⟨b1, b2, b3, b4, b5, b6⟩ b7 b8 b9 b0).cells), (32, .p (num r)), (33, .b true), (41, .i (Int.ofNat j)), (44, .i (Int.ofNat j)), (45, .at), (46, .ld (Slt.mk ⟨b1, b2, b3, b4, b5, b6⟩ b7 b8 b9 b0).cells), (49, .at), (50, .ld (Slt.mk ⟨a1, a2, a3, a4, a5, a6⟩ a7 a8 a9 a0).cells), (51, .at), (1000051, .st (Slt.mk ⟨a1, a2, a3, a4, a5, a6⟩ a7 a8 a9 a0).cells), (52, .at), (1000052, .st (Slt.mk ⟨b1, b2, b3, b4, b5, b6⟩ b7 b8 b9 b0).cells), (36, .i (Int.ofNat j))] []
      (pfI h1 h2 ga' hw h3 (pf14 gb' hc h7 hw hw h3 gb' h2 ga' h2 ga' h3 gs hw)) (lo' := []) (by kernel_rfl)
theorem i_loop (n i : Nat) (N : Nat) (hN : 200 ≤ N) : ∀ (j : Nat) (L : List Slt) (F : Nat) (τ : St), n = L.length → L.length ≤ 100 → (j < L.length ∨ j = 0) → j < F → canon 1 τ = some (isH n i j (sltsC L)) → ∃ j', iter 1 (run (callF tab ext N) 1 N (loopAt 159 1)) F τ = some (.exit 2, isE n i j' (sltsC (bub j L)))
  | 0, L, F, τ, _, _, _, hF, hτ => by
    obtain ⟨F, rfl⟩ : ∃ G, F = G + 1 := ⟨F - 1, by omega⟩
    exact ⟨0, iter_end hτ (i_zero n i (sltsC L) N) (by simp)⟩
  | j + 1, L, F, τ, hn, h100, hj, hF, hτ => by
    obtain ⟨F, rfl⟩ : ∃ G, F = G + 1 := ⟨F - 1, by omega⟩
    have hj' : j + 1 < L.length := by omega
    have hs := i_step n i j L hn h100 hj' N (by omega)
    have g1 : L.getD (j + 1) dSlt = L[j + 1] := by rw [List.getD_eq_getElem?_getD, List.getElem?_eq_getElem hj']; rfl
    have g2 : L.getD j dSlt = L[j]'(by omega) := by rw [List.getD_eq_getElem?_getD, List.getElem?_eq_getElem (by omega)]; rfl
    unfold bub
    rw [g1, g2]
    by_cases h : L[j + 1].t < (L[j]'(by omega)).t
    · rw [if_pos h]
      obtain ⟨j', hi⟩ := i_loop n i N hN j ((L.set (j + 1) (L[j]'(by omega))).set j L[j + 1]) F _ (by grind) (by grind) (by grind) (by omega) (isH_canon ..)
      exact ⟨j', iter_step hτ (hs.2 h) hi⟩
    · rw [if_neg h]
      grind[iter_end]

section
variable (n i : Nat) (rows : List (List X))
def oH : St := ⟨[(0, .bs 0 0 n), (1, num 0), (2, nat n), (3, .fn 85 []), (8, nat i)], [.row 10 rows]⟩
def oE : St := ⟨[(0, .bs 0 0 n), (1, num 0), (2, nat n), (3, .fn 85 []), (8, nat i), (14, boolX false)], [.row 10 rows]⟩
theorem oH_canon : canon 1 (oH n i rows) = some (oH n i rows) := by kernel_rfl
end
theorem o_loop (L : List Slt) (h100 : L.length ≤ 100) (N : Nat) (hN : 200 ≤ N) :
    run (callF tab ext N) 1 N (.loop (loopAt 159 0)) (oH L.length 1 (sltsC L)) = some (.exit 0, oE L.length (L.length - 1 + 1) (sltsC (isort (L.length - 1) L))) := by
  refine loop_for (σ := fun k => oH L.length (k + 1) (sltsC (isort k L))) (k := L.length - 1) (oH_canon ..) (fun k hk => ?_) ?_ (by simp) (by omega)
  · have hl := isort_length k L
    obtain ⟨j', hi⟩ := i_loop L.length (k + 1) N hN (k + 1) (isort k L) N (isH L.length (k + 1) (k + 1) (sltsC (isort k L))) hl.symm (by omega) (by omega) (by omega) (isH_canon ..)
    have hi : run (callF tab ext N) 1 N (.loop (loopAt 159 1)) (isH L.length (k + 1) (k + 1) (sltsC (isort k L))) = some (.exit 2, isE L.length (k + 1) j' (sltsC (isort (k + 1) L))) := hi
    exact ⟨oH L.length (k + 1 + 1) (sltsC (isort (k + 1) L)), run_of [(14, .b true), (16, .i (Int.ofNat (k + 1 + 1)))] [(.exit 2, isE L.length (k + 1) j' (sltsC (isort (k + 1) L)))] (pf3 (lt_nat (j := k + 1) (k := L.length) (by omega)) hi (next_nat (j := k + 1) (by omega))) (lo' := []) (by kernel_rfl), oH_canon ..⟩
  · exact run_of [(14, .b false)] [] (pf1 (nlt_nat (j := L.length - 1 + 1) (k := L.length) (by omega))) (lo' := []) (by kernel_rfl)
theorem sort300 (L : List Slt) (h100 : L.length ≤ 100) (N : Nat) (hN : 201 ≤ N) : callF tab ext N (.fn 159) [.bs 0 0 L.length, num 0, nat L.length, .fn 85 []] [.row 10 (sltsC L)] = some (.tup [], [.row 10 (sltsC (isort (L.length - 1) L))]) := by
  obtain ⟨M, rfl⟩ : ∃ M, N = M + 1 := ⟨N - 1, by omega⟩
  exact callF_of [] [(.exit 0, oE L.length (L.length - 1 + 1) (sltsC (isort (L.length - 1) L)))] (pf1 (o_loop L h100 M (by omega))) (by kernel_rfl)
section
variable (n : Nat) (rows : List (List X))
def s0H : St := ⟨[(0, .bs 0 0 n), (1, nat n), (2, .fn 85 []), (6, num 20), (7, num 0), (8, num 20)], [.row 10 rows]⟩
def s0E : St := ⟨[(0, .bs 0 0 n), (1, nat n), (2, .fn 85 []), (6, num 20), (7, num 0), (8, num 20), (13, boolX false)], [.row 10 rows]⟩
def s2H : St := ⟨[(0, .bs 0 0 n), (1, nat n), (2, .fn 85 []), (6, num 20)], [.row 10 rows]⟩
def s2E : St := ⟨[(0, .bs 0 0 n), (1, nat n), (2, .fn 85 []), (6, num 20), (30, boolX false)], [.row 10 rows]⟩
end
theorem sort216 (L : List Slt) (h : L.length < 20) (N : Nat) (hN : 203 ≤ N) : callF tab ext N (.fn 112) [.bs 0 0 L.length, nat L.length, .fn 85 []] [.row 10 (sltsC L)] = some (.tup [], [.row 10 (sltsC (isort (L.length - 1) L))]) := by
  obtain ⟨M, rfl⟩ : ∃ M, N = M + 1 := ⟨N - 1, by omega⟩
  have h1 := sort300 L (by omega) M (by omega)
  have e1 : decide ((20 : Int) ≤ Int.ofNat L.length) = false := decide_eq_false (by grind)
  have e2 : decide ((20 : Int) < Int.ofNat L.length) = false := decide_eq_false (by grind)
  have hl0 : run (callF tab ext M) 1 M (.loop (loopAt 112 0)) (s0H L.length (sltsC L)) = some (.exit 0, s0E L.length (sltsC L)) :=
    loop_for (σ := fun _ => s0H L.length (sltsC L)) (k := 0) (by kernel_rfl) (fun j hj => by omega) (run_of [(13, .b false)] [] (pf1 e1) (lo' := []) (by kernel_rfl)) (by simp) (by omega)
  have hl2 : run (callF tab ext M) 1 M (.loop (loopAt 112 1)) (s2H L.length (sltsC (isort (L.length - 1) L))) = some (.exit 2, s2E L.length (sltsC (isort (L.length - 1) L))) :=
    loop_for (σ := fun _ => s2H L.length (sltsC (isort (L.length - 1) L))) (k := 0) (by kernel_rfl) (fun j hj => by omega) (run_of [(30, .b false)] [] (pf1 e2) (lo' := []) (by kernel_rfl)) (by simp) (by omega)
  generalize sltsC (isort (L.length - 1) L) = R at *
  exact callF_of [(27, .r (.tup []) [.row 10 R])] [(.exit 0, s0E L.length (sltsC L)), (.exit 2, s2E L.length R)] (pf3 hl0 h1 hl2) (by kernel_rfl)
theorem sort141 (L : List Slt) (h : L.length < 20) (N : Nat) (hN : 204 ≤ N) : callF tab ext N (.fn 84) [.bs 0 0 L.length, .fn 85 []] [.row 10 (sltsC L)] = some (.tup [], [.row 10 (sltsC (isort (L.length - 1) L))]) := by
  obtain ⟨M, rfl⟩ : ∃ M, N = M + 1 := ⟨N - 1, by omega⟩
  exact callF_of [(8, .r (.tup []) [.row 10 (sltsC (isort (L.length - 1) L))])] [] (pf1 (sort216 L h M (by omega))) (by kernel_rfl)
end Go.Proofs.YthphniobeigklaaGreatDoor.Tm

/- slots.Expired: copies of the slots whose time has come, sorted by their times. -/
namespace Go.Proofs.YthphniobeigklaaGreatDoor.Ag
open Go Go.Em Go.Proofs.YthphniobeigklaaGreatDoor
set_option maxRecDepth 100000

def expS (d : Int) (x : Slt) : Bool := decide (x.t > 0) && decide (x.t ≤ d)
section
variable (es acc : List (List X)) (d : Int) (n j : Nat) (N : Nat)
def exH : St := ⟨[(1, num d), (5, .bs 0 0 n), (9, .sl false 10 es), (10, nat es.length), (11, nat j)], [.row 10 acc]⟩
def exE : St := ⟨[(1, num d), (5, .bs 0 0 n), (9, .sl false 10 es), (10, nat es.length), (11, nat j), (12, boolX false)], [.row 10 acc]⟩
theorem ex_end (h : ¬ j < es.length) : run (callF tab ext N) 0 N (loopAt 48 0) (exH es acc d n j) = some (.exit 0, exE es acc d n j) :=
  run_of [(12, .b false)] [] (pf1 (nlt_nat h)) (lo' := []) (by kernel_rfl)
theorem ex_skip (x : Slt) (hj : j < es.length) (hj2 : j < 100000) (hx : es[j]? = some x.cells) (h : expS d x = false) :
    ∃ υ, run (callF tab ext N) 0 N (loopAt 48 0) (exH es acc d n j) = some (.norm, υ) ∧ canon 0 υ = some (exH es acc d n (j + 1)) := by
  have hnx := next_nat (j := j) (by omega)
  have h0 := lt_nat hj
  unfold expS at h
  obtain ⟨⟨x1, x2, x3, x4, x5, x6⟩, x7, x8, ms, vs⟩ := x
  dsimp only at h
  cases h1 : (decide (x8 > 0)) with
  | true =>
    rw [h1, Bool.true_and] at h
    exact rd_of [(12, .b true), (13, .e (Slt.mk ⟨x1, x2, x3, x4, x5, x6⟩ x7 x8 ms vs).cells), (17, .b true), (22, .b false), (29, .i (Int.ofNat (j + 1)))] (pf5 h0 hx h1 h hnx) (by kernel_rfl)
  | false => exact rd_of [(12, .b true), (13, .e (Slt.mk ⟨x1, x2, x3, x4, x5, x6⟩ x7 x8 ms vs).cells), (17, .b false), (29, .i (Int.ofNat (j + 1)))] (pf4 h0 hx h1 hnx) (by kernel_rfl)
theorem ex_take (x : Slt) (hj : j < es.length) (hj2 : j < 100000) (hx : es[j]? = some x.cells) (h : expS d x = true) (hn : n = acc.length) (hn2 : n < 100000) (hc : Gam.pureD (callF tab ext N) 79 [.agg x.cells] = some (.agg x.cells)) :
    ∃ υ, run (callF tab ext N) 0 N (loopAt 48 0) (exH es acc d n j) = some (.norm, υ) ∧ canon 0 υ = some (exH es (acc ++ [x.cells]) d (n + 1) (j + 1)) := by
  have hnx := next_nat (j := j) (by omega)
  have h0 := lt_nat hj
  have ha := app_ok (acc := acc) n 0 152 (by omega) (by omega) (by omega)
  unfold expS at h
  rw [Bool.and_eq_true] at h
  obtain ⟨⟨x1, x2, x3, x4, x5, x6⟩, x7, x8, ms, vs⟩ := x
  exact rd_of [(12, .b true), (13, .e (Slt.mk ⟨x1, x2, x3, x4, x5, x6⟩ x7 x8 ms vs).cells), (17, .b true), (22, .b true), (26, .p (.agg (Slt.mk ⟨x1, x2, x3, x4, x5, x6⟩ x7 x8 ms vs).cells)), (28, .app), (29, .i (Int.ofNat (j + 1)))] (pf7 h0 hx h.1 h.2 hc ha hnx) (by kernel_rfl)
end
theorem sltsC_app (a b : List Slt) : sltsC (a ++ b) = sltsC a ++ sltsC b := by simp [sltsC]
theorem expired_pure (s : Stt) (hs : s.small) (d : Int) (hF : (s.slots.filter (expS d)).length < 20) (N : Nat) (hN : 190010 ≤ N) :
    Gam.pureD (callF tab ext N) 48 [.agg s.cells, num d] = some (.sl false 10 (sltsC (Tm.isort ((s.slots.filter (expS d)).length - 1) (s.slots.filter (expS d))))) := by
  obtain ⟨M, rfl⟩ : ∃ M, N = M + 1 := ⟨N - 1, by omega⟩
  obtain ⟨a, b, ss⟩ := s
  have hok := hs.2
  have hsl := hs.1
  dsimp only at hok hsl hF ⊢
  have hlen := sltsC_length ss
  have hl : run (callF tab ext M) 0 M (.loop (loopAt 48 0)) ⟨[(1, num d), (5, .bs 1 0 0), (9, .sl false 10 (sltsC ss)), (10, nat (sltsC ss).length), (11, num 0)], [.var [num a, num b, .sl false 10 (sltsC ss)], .row 10 []]⟩ = some (.exit 0, exE (sltsC ss) (sltsC (ss.filter (expS d))) d (ss.filter (expS d)).length (sltsC ss).length) := by
    refine loop_for (σ := fun j => exH (sltsC ss) (sltsC ((ss.take j).filter (expS d))) d ((ss.take j).filter (expS d)).length j) (k := (sltsC ss).length) (by kernel_rfl) (fun j hj => ?_) ?_ (by simp) (by omega)
    · have hj' : j < ss.length := by omega
      have hx := sltsC_get hj'
      have hle := List.length_filter_le (expS d) (ss.take j)
      rw [List.length_take] at hle
      rw [List.take_succ_eq_append_getElem hj', List.filter_append, List.length_append, sltsC_app]
      cases he : expS d ss[j] with
      | true =>
        have e1 : [ss[j]].filter (expS d) = [ss[j]] := by rw [List.filter_cons, if_pos he]; rfl
        rw [e1]
        exact ex_take (sltsC ss) _ d _ j M ss[j] (by omega) (by omega) hx he (sltsC_length _).symm (by omega) (clone_slot_pure M ss[j] (hok _ (List.getElem_mem hj')).1 (by omega))
      | false =>
        have e1 : [ss[j]].filter (expS d) = [] := by rw [List.filter_cons, if_neg (by rw [he]; decide)]; rfl
        rw [e1]
        have e2 : sltsC (List.filter (expS d) (List.take j ss)) ++ sltsC [] = sltsC (List.filter (expS d) (List.take j ss)) := List.append_nil _
        rw [e2]
        exact ex_skip (sltsC ss) _ d _ j M ss[j] (by omega) (by omega) hx he
    · have e : ss.take (sltsC ss).length = ss := by rw [hlen, List.take_length]
      rw [e]
      exact ex_end (sltsC ss) _ d _ _ M (by omega)
  have hso := Tm.sort141 (ss.filter (expS d)) hF M (by omega)
  have hil := Tm.isort_length ((ss.filter (expS d)).length - 1) (ss.filter (expS d))
  have hrl := sltsC_length (Tm.isort ((ss.filter (expS d)).length - 1) (ss.filter (expS d)))
  generalize Tm.isort ((ss.filter (expS d)).length - 1) (ss.filter (expS d)) = R at *
  generalize ss.filter (expS d) = F at *
  exact pure_of [(31, .r (.tup []) [.row 10 (sltsC R)])] [(.exit 0, exE (sltsC ss) (sltsC F) d F.length (sltsC ss).length)] (pf2 hl hso) (x := .bs 0 0 F.length) (bx := [.row 10 (sltsC R)]) (by kernel_rfl) (data_bs (bx := [.row 10 (sltsC R)]) (i := 0) rfl (by rw [hrl, hil]))
end Go.Proofs.YthphniobeigklaaGreatDoor.Ag

/- (*aggregator.builder).message: what becomes of a message, path by path (printed by gen_ms.py). -/
namespace Go.Proofs.YthphniobeigklaaGreatDoor.Ag
open Go Go.Em Go.Proofs.YthphniobeigklaaGreatDoor
set_option maxRecDepth 100000

def errT (a b : UInt8) : ByteArray := ⟨#[101, 114, 114, 111, 114, 32, a, b]⟩
def fullT : ByteArray := ⟨#[102, 117, 108, 108]⟩
def msgX (e mm : Int) (o : Option Int) (n : Nat) : List X := [num e, .sl false 1 [[num 1]], num mm, .sl false 1 [[num e]]] ++ (bodyV o n).cells
/-- An input: a message. -/
def inpX (e mm now : Int) (o : Option Int) (n : Nat) : List X := [num 1, num now, num e, .sl false 1 [[num 1]]] ++ msgX e mm o n ++ [num 0, boolX false, boolX false, num 0, num 0, num 0, strX ⟨#[]⟩, .sl false 6 [], .sl false 7 []]
def rejC (e : Int) (r : ByteArray) : List X := [num e, .sl false 1 [[num 1]], num 4, strX aggT, .sl false 2 [], strX r]
section
variable (nu ti li most : Int) (ex ss s2 : List (List X))
/-- The builder behind one rejection. -/
def bx1 (f m : List X) : List Bx := [.var (bX nu ti li ex (tyX most) ruX ss 1 0 4 1 5 1), .row 11 [], .dead, .dead, .row 6 [f], .row 10 [m]]
def bx0 : List Bx := [.var (bX nu ti li ex (tyX most) ruX ss 1 0 2 0 3 0), .row 11 [], .row 6 [], .row 10 []]
/-- The state behind the first region. -/
def twS (q' : Option Int) (now' e' mm' : Int) (n' : Nat) : St := ⟨[(0, .ptr 0 0 0), (3, .ptr 4 0 0), (4, .ptr 5 0 0), (5, .ptr 6 0 0)], bx0 nu ti li most (eKey :: ex) ss ++ [.var (inpX e' mm' now' q' n'), .var (msgX e' mm' q' n'), .var [num 0, num 0, .sl false 10 ss]]⟩
def getT (q t : Int) (k : Nat) : X := .tup [.agg ((kv q).cells ++ [num 0, num t, .bs 0 0 k, .bs 1 0 0]), boolX true]
def getF : X := .tup [.agg [num 0, num 0, num 0, strX ⟨#[]⟩, .sl true 6 [], .sl true 7 [], num 0, num 0, .sl true 10 [], .sl true 6 []], boolX false]
def slX (q t : Int) (ms : List (List X)) : List X := (kv q).cells ++ [num 0, num t, .sl false 10 ms, .sl false 6 []]
variable (q now e mm t : Int) (n k h : Nat) (ms bds : List (List X)) (O : List Otp) (F : List Fte) (L : List Msg) (N : Nat)
theorem m_none (h27 : decide (Int.ofNat (eKey :: ex).length > 0) = true) : callF tab ext (N + 601) (.fn 47) [.ptr 0 0 0, .agg (inpX e mm now none n)] (bx0 nu ti li most (eKey :: ex) ss) = some (.tup [], bx1 nu ti li most (eKey :: ex) ss (rejC e (errT 49 57)) (msgX e mm none n)) :=
  callF_of [(27, .b true)] [] (pf2 (Eq.refl (twS nu ti li most ex ss none now e mm n)) h27) (by kernel_rfl)
theorem m_full (h27 : decide (Int.ofNat (eKey :: ex).length > 0) = true) (h81 : callF tab ext (N + 600) (.fn 81) [.agg [num 0, num 0, .sl false 10 ss], .agg (kv q).cells] [] = some (getF, [])) (h82 : decide (Int.ofNat ss.length ≥ li) = true) :
    callF tab ext (N + 601) (.fn 47) [.ptr 0 0 0, .agg (inpX e mm now (some q) n)] (bx0 nu ti li most (eKey :: ex) ss) = some (.tup [], bx1 nu ti li most (eKey :: ex) ss (rejC e fullT) (msgX e mm (some q) n)) :=
  callF_of [(27, .b true), (68, .o getF []), (82, .b true)] [] (pf4 (Eq.refl (twS nu ti li most ex ss (some q) now e mm n)) h27 h81 h82) (by kernel_rfl)
end
end Go.Proofs.YthphniobeigklaaGreatDoor.Ag

/- (*aggregator.builder).message: a known group (printed by gen_ms.py). -/
namespace Go.Proofs.YthphniobeigklaaGreatDoor.Ag
open Go Go.Em Go.Proofs.YthphniobeigklaaGreatDoor
set_option maxRecDepth 100000

section
variable (nu ti li most : Int) (ex ss s2 : List (List X))
variable (q now e mm t : Int) (n k h : Nat) (ms bds : List (List X)) (O : List Otp) (F : List Fte) (L : List Msg) (N : Nat)
theorem mT_err (h27 : decide (Int.ofNat (eKey :: ex).length > 0) = true) (h81 : callF tab ext (N + 600) (.fn 81) [.agg [num 0, num 0, .sl false 10 ss], .agg (kv q).cells] [] = some (getT q t k, [.row 10 ms, .row 6 []])) (h29 : Gam.pureD (callF tab ext (N + 600)) 29 [.agg [num 0, num 0, .sl false 10 ss]] = some (nat h)) (h87 : decide (Int.ofNat h ≥ 256) = false) (hA : 0 + k = ms.length ∧ roomOk (k + 1) 152 = true ∧ memN 5 [] = false) (hg : 0 + (k + 1) ≤ (ms ++ [msgX e mm (some q) n]).length) (h83 : Gam.pureD (callF tab ext (N + 600)) 83 [.sl false 10 (List.take (k + 1) (ms ++ [msgX e mm (some q) n]))] = some (.sl false 6 bds)) (h38 : Gam.pureD (callF tab ext (N + 600)) 38 [.agg (nodX nu ti li (eKey :: ex) (tyX most) ruX), .agg (kv q).cells, .sl false 6 bds] = some (.tup [boolX false, num 15])) :
    callF tab ext (N + 601) (.fn 47) [.ptr 0 0 0, .agg (inpX e mm now (some q) n)] (bx0 nu ti li most (eKey :: ex) ss) = some (.tup [], bx1 nu ti li most (eKey :: ex) ss (rejC e (errT 49 53)) (msgX e mm (some q) n)) :=
  callF_of [(27, .b true), (68, .o (getT q t k) [.row 10 ms, .row 6 []]), (86, .p (nat h)), (87, .b false), (116, .app), (126, .p (.sl false 6 bds)), (127, .p (.tup [boolX false, num 15]))] [] (pf10 (Eq.refl (twS nu ti li most ex ss (some q) now e mm n)) h27 h81 h29 h87 hA hg (Nat.le_refl 0) h83 h38) (by kernel_rfl)
theorem mT_putn (h27 : decide (Int.ofNat (eKey :: ex).length > 0) = true) (h81 : callF tab ext (N + 600) (.fn 81) [.agg [num 0, num 0, .sl false 10 ss], .agg (kv q).cells] [] = some (getT q t k, [.row 10 ms, .row 6 []])) (h29 : Gam.pureD (callF tab ext (N + 600)) 29 [.agg [num 0, num 0, .sl false 10 ss]] = some (nat h)) (h87 : decide (Int.ofNat h ≥ 256) = false) (hA : 0 + k = ms.length ∧ roomOk (k + 1) 152 = true ∧ memN 5 [] = false) (hg : 0 + (k + 1) ≤ (ms ++ [msgX e mm (some q) n]).length) (h83 : Gam.pureD (callF tab ext (N + 600)) 83 [.sl false 10 (List.take (k + 1) (ms ++ [msgX e mm (some q) n]))] = some (.sl false 6 bds)) (h38 : Gam.pureD (callF tab ext (N + 600)) 38 [.agg (nodX nu ti li (eKey :: ex) (tyX most) ruX), .agg (kv q).cells, .sl false 6 bds] = some (.tup [boolX false, num 0])) (h62 : Gam.pureD (callF tab ext (N + 600)) 62 [.agg [num 0, num 0, .sl false 10 ss], .agg (slX q t (List.take (k + 1) (ms ++ [msgX e mm (some q) n])))] = some (.tup [.agg [num 0, num 0, .sl false 10 s2], num 0])) :
    callF tab ext (N + 601) (.fn 47) [.ptr 0 0 0, .agg (inpX e mm now (some q) n)] (bx0 nu ti li most (eKey :: ex) ss) = some (.tup [], bx0 nu ti li most (eKey :: ex) s2) :=
  callF_of [(27, .b true), (68, .o (getT q t k) [.row 10 ms, .row 6 []]), (86, .p (nat h)), (87, .b false), (116, .app), (126, .p (.sl false 6 bds)), (127, .p (.tup [boolX false, num 0])), (133, .p (.tup [.agg [num 0, num 0, .sl false 10 s2], num 0]))] [] (pf11 (Eq.refl (twS nu ti li most ex ss (some q) now e mm n)) h27 h81 h29 h87 hA hg (Nat.le_refl 0) h83 h38 h62) (by kernel_rfl)
theorem mT_doneM (h27 : decide (Int.ofNat (eKey :: ex).length > 0) = true) (h81 : callF tab ext (N + 600) (.fn 81) [.agg [num 0, num 0, .sl false 10 ss], .agg (kv q).cells] [] = some (getT q t k, [.row 10 ms, .row 6 []])) (h29 : Gam.pureD (callF tab ext (N + 600)) 29 [.agg [num 0, num 0, .sl false 10 ss]] = some (nat h)) (h87 : decide (Int.ofNat h ≥ 256) = false) (hA : 0 + k = ms.length ∧ roomOk (k + 1) 152 = true ∧ memN 5 [] = false) (hg : 0 + (k + 1) ≤ (ms ++ [msgX e mm (some q) n]).length) (h83 : Gam.pureD (callF tab ext (N + 600)) 83 [.sl false 10 (List.take (k + 1) (ms ++ [msgX e mm (some q) n]))] = some (.sl false 6 bds)) (h38 : Gam.pureD (callF tab ext (N + 600)) 38 [.agg (nodX nu ti li (eKey :: ex) (tyX most) ruX), .agg (kv q).cells, .sl false 6 bds] = some (.tup [boolX true, num 0])) (h49 : Gam.pureD (callF tab ext (N + 600)) 49 [.agg [num 0, num 0, .sl false 10 ss], .agg (kv q).cells] = some (.tup [.agg [num 0, num 0, .sl false 10 s2], boolX true])) (h50 : callF tab ext (N + 600) (.fn 50) [.ptr 0 0 0, .agg (kv q).cells, .sl false 10 (List.take (k + 1) (ms ++ [msgX e mm (some q) n])), .agg [num e, .sl false 1 [[num 1]]]] (bx0 nu ti li most (eKey :: ex) s2) = some (.tup [], bdM nu ti li most (eKey :: ex) s2 O F L)) :
    callF tab ext (N + 601) (.fn 47) [.ptr 0 0 0, .agg (inpX e mm now (some q) n)] (bx0 nu ti li most (eKey :: ex) ss) = some (.tup [], bdM nu ti li most (eKey :: ex) s2 O F L) :=
  callF_of [(27, .b true), (68, .o (getT q t k) [.row 10 ms, .row 6 []]), (86, .p (nat h)), (87, .b false), (116, .app), (126, .p (.sl false 6 bds)), (127, .p (.tup [boolX true, num 0])), (161, .p (.tup [.agg [num 0, num 0, .sl false 10 s2], boolX true])), (173, .r (.tup []) (bdM nu ti li most (eKey :: ex) s2 O F L))] [] (pf12 (Eq.refl (twS nu ti li most ex ss (some q) now e mm n)) h27 h81 h29 h87 hA hg (Nat.le_refl 0) h83 h38 h49 h50) (by kernel_rfl)
theorem mT_doneR (h27 : decide (Int.ofNat (eKey :: ex).length > 0) = true) (h81 : callF tab ext (N + 600) (.fn 81) [.agg [num 0, num 0, .sl false 10 ss], .agg (kv q).cells] [] = some (getT q t k, [.row 10 ms, .row 6 []])) (h29 : Gam.pureD (callF tab ext (N + 600)) 29 [.agg [num 0, num 0, .sl false 10 ss]] = some (nat h)) (h87 : decide (Int.ofNat h ≥ 256) = false) (hA : 0 + k = ms.length ∧ roomOk (k + 1) 152 = true ∧ memN 5 [] = false) (hg : 0 + (k + 1) ≤ (ms ++ [msgX e mm (some q) n]).length) (h83 : Gam.pureD (callF tab ext (N + 600)) 83 [.sl false 10 (List.take (k + 1) (ms ++ [msgX e mm (some q) n]))] = some (.sl false 6 bds)) (h38 : Gam.pureD (callF tab ext (N + 600)) 38 [.agg (nodX nu ti li (eKey :: ex) (tyX most) ruX), .agg (kv q).cells, .sl false 6 bds] = some (.tup [boolX true, num 0])) (h49 : Gam.pureD (callF tab ext (N + 600)) 49 [.agg [num 0, num 0, .sl false 10 ss], .agg (kv q).cells] = some (.tup [.agg [num 0, num 0, .sl false 10 s2], boolX true])) (h50 : callF tab ext (N + 600) (.fn 50) [.ptr 0 0 0, .agg (kv q).cells, .sl false 10 (List.take (k + 1) (ms ++ [msgX e mm (some q) n])), .agg [num e, .sl false 1 [[num 1]]]] (bx0 nu ti li most (eKey :: ex) s2) = some (.tup [], bdR nu ti li most (eKey :: ex) s2 O F L)) :
    callF tab ext (N + 601) (.fn 47) [.ptr 0 0 0, .agg (inpX e mm now (some q) n)] (bx0 nu ti li most (eKey :: ex) ss) = some (.tup [], bdR nu ti li most (eKey :: ex) s2 O F L) :=
  callF_of [(27, .b true), (68, .o (getT q t k) [.row 10 ms, .row 6 []]), (86, .p (nat h)), (87, .b false), (116, .app), (126, .p (.sl false 6 bds)), (127, .p (.tup [boolX true, num 0])), (161, .p (.tup [.agg [num 0, num 0, .sl false 10 s2], boolX true])), (173, .r (.tup []) (bdR nu ti li most (eKey :: ex) s2 O F L))] [] (pf12 (Eq.refl (twS nu ti li most ex ss (some q) now e mm n)) h27 h81 h29 h87 hA hg (Nat.le_refl 0) h83 h38 h49 h50) (by kernel_rfl)
end
end Go.Proofs.YthphniobeigklaaGreatDoor.Ag

/- (*aggregator.builder).message: a new group without a time (printed by gen_ms.py). -/
namespace Go.Proofs.YthphniobeigklaaGreatDoor.Ag
open Go Go.Em Go.Proofs.YthphniobeigklaaGreatDoor
set_option maxRecDepth 100000

section
variable (nu ti li most : Int) (ex ss s2 : List (List X))
variable (q now e mm t : Int) (n k h : Nat) (ms bds : List (List X)) (O : List Otp) (F : List Fte) (L : List Msg) (N : Nat)
theorem mF_err (h27 : decide (Int.ofNat (eKey :: ex).length > 0) = true) (h81 : callF tab ext (N + 600) (.fn 81) [.agg [num 0, num 0, .sl false 10 ss], .agg (kv q).cells] [] = some (getF, [])) (h82 : decide (Int.ofNat ss.length ≥ li) = false) (h29 : Gam.pureD (callF tab ext (N + 600)) 29 [.agg [num 0, num 0, .sl false 10 ss]] = some (nat h)) (h87 : decide (Int.ofNat h ≥ 256) = false) (h101 : decide (ti > 0) = false) (h83 : Gam.pureD (callF tab ext (N + 600)) 83 [.sl false 10 ([msgX e mm (some q) n])] = some (.sl false 6 bds)) (h38 : Gam.pureD (callF tab ext (N + 600)) 38 [.agg (nodX nu ti li (eKey :: ex) (tyX most) ruX), .agg (kv q).cells, .sl false 6 bds] = some (.tup [boolX false, num 15])) :
    callF tab ext (N + 601) (.fn 47) [.ptr 0 0 0, .agg (inpX e mm now (some q) n)] (bx0 nu ti li most (eKey :: ex) ss) = some (.tup [], bx1 nu ti li most (eKey :: ex) ss (rejC e (errT 49 53)) (msgX e mm (some q) n)) :=
  callF_of [(27, .b true), (68, .o getF []), (82, .b false), (86, .p (nat h)), (87, .b false), (101, .b false), (126, .p (.sl false 6 bds)), (127, .p (.tup [boolX false, num 15]))] [] (pf10 (Eq.refl (twS nu ti li most ex ss (some q) now e mm n)) h27 h81 h82 h29 h87 h101 (Nat.le_refl 1) h83 h38) (by kernel_rfl)
theorem mF_putn (h27 : decide (Int.ofNat (eKey :: ex).length > 0) = true) (h81 : callF tab ext (N + 600) (.fn 81) [.agg [num 0, num 0, .sl false 10 ss], .agg (kv q).cells] [] = some (getF, [])) (h82 : decide (Int.ofNat ss.length ≥ li) = false) (h29 : Gam.pureD (callF tab ext (N + 600)) 29 [.agg [num 0, num 0, .sl false 10 ss]] = some (nat h)) (h87 : decide (Int.ofNat h ≥ 256) = false) (h101 : decide (ti > 0) = false) (h83 : Gam.pureD (callF tab ext (N + 600)) 83 [.sl false 10 ([msgX e mm (some q) n])] = some (.sl false 6 bds)) (h38 : Gam.pureD (callF tab ext (N + 600)) 38 [.agg (nodX nu ti li (eKey :: ex) (tyX most) ruX), .agg (kv q).cells, .sl false 6 bds] = some (.tup [boolX false, num 0])) (h62 : Gam.pureD (callF tab ext (N + 600)) 62 [.agg [num 0, num 0, .sl false 10 ss], .agg (slX q 0 ([msgX e mm (some q) n]))] = some (.tup [.agg [num 0, num 0, .sl false 10 s2], num 0])) :
    callF tab ext (N + 601) (.fn 47) [.ptr 0 0 0, .agg (inpX e mm now (some q) n)] (bx0 nu ti li most (eKey :: ex) ss) = some (.tup [], bx0 nu ti li most (eKey :: ex) s2) :=
  callF_of [(27, .b true), (68, .o getF []), (82, .b false), (86, .p (nat h)), (87, .b false), (101, .b false), (126, .p (.sl false 6 bds)), (127, .p (.tup [boolX false, num 0])), (133, .p (.tup [.agg [num 0, num 0, .sl false 10 s2], num 0]))] [] (pf11 (Eq.refl (twS nu ti li most ex ss (some q) now e mm n)) h27 h81 h82 h29 h87 h101 (Nat.le_refl 1) h83 h38 h62) (by kernel_rfl)
theorem mF_doneM (h27 : decide (Int.ofNat (eKey :: ex).length > 0) = true) (h81 : callF tab ext (N + 600) (.fn 81) [.agg [num 0, num 0, .sl false 10 ss], .agg (kv q).cells] [] = some (getF, [])) (h82 : decide (Int.ofNat ss.length ≥ li) = false) (h29 : Gam.pureD (callF tab ext (N + 600)) 29 [.agg [num 0, num 0, .sl false 10 ss]] = some (nat h)) (h87 : decide (Int.ofNat h ≥ 256) = false) (h101 : decide (ti > 0) = false) (h83 : Gam.pureD (callF tab ext (N + 600)) 83 [.sl false 10 ([msgX e mm (some q) n])] = some (.sl false 6 bds)) (h38 : Gam.pureD (callF tab ext (N + 600)) 38 [.agg (nodX nu ti li (eKey :: ex) (tyX most) ruX), .agg (kv q).cells, .sl false 6 bds] = some (.tup [boolX true, num 0])) (h50 : callF tab ext (N + 600) (.fn 50) [.ptr 0 0 0, .agg (kv q).cells, .sl false 10 ([msgX e mm (some q) n]), .agg [num e, .sl false 1 [[num 1]]]] (bx0 nu ti li most (eKey :: ex) ss) = some (.tup [], bdM nu ti li most (eKey :: ex) ss O F L)) :
    callF tab ext (N + 601) (.fn 47) [.ptr 0 0 0, .agg (inpX e mm now (some q) n)] (bx0 nu ti li most (eKey :: ex) ss) = some (.tup [], bdM nu ti li most (eKey :: ex) ss O F L) :=
  callF_of [(27, .b true), (68, .o getF []), (82, .b false), (86, .p (nat h)), (87, .b false), (101, .b false), (126, .p (.sl false 6 bds)), (127, .p (.tup [boolX true, num 0])), (173, .r (.tup []) (bdM nu ti li most (eKey :: ex) ss O F L))] [] (pf11 (Eq.refl (twS nu ti li most ex ss (some q) now e mm n)) h27 h81 h82 h29 h87 h101 (Nat.le_refl 1) h83 h38 h50) (by kernel_rfl)
theorem mF_doneR (h27 : decide (Int.ofNat (eKey :: ex).length > 0) = true) (h81 : callF tab ext (N + 600) (.fn 81) [.agg [num 0, num 0, .sl false 10 ss], .agg (kv q).cells] [] = some (getF, [])) (h82 : decide (Int.ofNat ss.length ≥ li) = false) (h29 : Gam.pureD (callF tab ext (N + 600)) 29 [.agg [num 0, num 0, .sl false 10 ss]] = some (nat h)) (h87 : decide (Int.ofNat h ≥ 256) = false) (h101 : decide (ti > 0) = false) (h83 : Gam.pureD (callF tab ext (N + 600)) 83 [.sl false 10 ([msgX e mm (some q) n])] = some (.sl false 6 bds)) (h38 : Gam.pureD (callF tab ext (N + 600)) 38 [.agg (nodX nu ti li (eKey :: ex) (tyX most) ruX), .agg (kv q).cells, .sl false 6 bds] = some (.tup [boolX true, num 0])) (h50 : callF tab ext (N + 600) (.fn 50) [.ptr 0 0 0, .agg (kv q).cells, .sl false 10 ([msgX e mm (some q) n]), .agg [num e, .sl false 1 [[num 1]]]] (bx0 nu ti li most (eKey :: ex) ss) = some (.tup [], bdR nu ti li most (eKey :: ex) ss O F L)) :
    callF tab ext (N + 601) (.fn 47) [.ptr 0 0 0, .agg (inpX e mm now (some q) n)] (bx0 nu ti li most (eKey :: ex) ss) = some (.tup [], bdR nu ti li most (eKey :: ex) ss O F L) :=
  callF_of [(27, .b true), (68, .o getF []), (82, .b false), (86, .p (nat h)), (87, .b false), (101, .b false), (126, .p (.sl false 6 bds)), (127, .p (.tup [boolX true, num 0])), (173, .r (.tup []) (bdR nu ti li most (eKey :: ex) ss O F L))] [] (pf11 (Eq.refl (twS nu ti li most ex ss (some q) now e mm n)) h27 h81 h82 h29 h87 h101 (Nat.le_refl 1) h83 h38 h50) (by kernel_rfl)
end
end Go.Proofs.YthphniobeigklaaGreatDoor.Ag

/- (*aggregator.builder).message: a new group with a time (printed by gen_ms.py). -/
namespace Go.Proofs.YthphniobeigklaaGreatDoor.Ag
open Go Go.Em Go.Proofs.YthphniobeigklaaGreatDoor
set_option maxRecDepth 100000

section
variable (nu ti li most : Int) (ex ss s2 : List (List X))
variable (q now e mm t : Int) (n k h : Nat) (ms bds : List (List X)) (O : List Otp) (F : List Fte) (L : List Msg) (N : Nat)
theorem mG_err (h27 : decide (Int.ofNat (eKey :: ex).length > 0) = true) (h81 : callF tab ext (N + 600) (.fn 81) [.agg [num 0, num 0, .sl false 10 ss], .agg (kv q).cells] [] = some (getF, [])) (h82 : decide (Int.ofNat ss.length ≥ li) = false) (h29 : Gam.pureD (callF tab ext (N + 600)) 29 [.agg [num 0, num 0, .sl false 10 ss]] = some (nat h)) (h87 : decide (Int.ofNat h ≥ 256) = false) (h101 : decide (ti > 0) = true) (h109 : Gam.pureD (callF tab ext (N + 600)) 82 [num now, num ti] = some (num t)) (h83 : Gam.pureD (callF tab ext (N + 600)) 83 [.sl false 10 ([msgX e mm (some q) n])] = some (.sl false 6 bds)) (h38 : Gam.pureD (callF tab ext (N + 600)) 38 [.agg (nodX nu ti li (eKey :: ex) (tyX most) ruX), .agg (kv q).cells, .sl false 6 bds] = some (.tup [boolX false, num 15])) :
    callF tab ext (N + 601) (.fn 47) [.ptr 0 0 0, .agg (inpX e mm now (some q) n)] (bx0 nu ti li most (eKey :: ex) ss) = some (.tup [], bx1 nu ti li most (eKey :: ex) ss (rejC e (errT 49 53)) (msgX e mm (some q) n)) :=
  callF_of [(27, .b true), (68, .o getF []), (82, .b false), (86, .p (nat h)), (87, .b false), (101, .b true), (109, .p (num t)), (126, .p (.sl false 6 bds)), (127, .p (.tup [boolX false, num 15]))] [] (pf11 (Eq.refl (twS nu ti li most ex ss (some q) now e mm n)) h27 h81 h82 h29 h87 h101 h109 (Nat.le_refl 1) h83 h38) (by kernel_rfl)
theorem mG_putn (h27 : decide (Int.ofNat (eKey :: ex).length > 0) = true) (h81 : callF tab ext (N + 600) (.fn 81) [.agg [num 0, num 0, .sl false 10 ss], .agg (kv q).cells] [] = some (getF, [])) (h82 : decide (Int.ofNat ss.length ≥ li) = false) (h29 : Gam.pureD (callF tab ext (N + 600)) 29 [.agg [num 0, num 0, .sl false 10 ss]] = some (nat h)) (h87 : decide (Int.ofNat h ≥ 256) = false) (h101 : decide (ti > 0) = true) (h109 : Gam.pureD (callF tab ext (N + 600)) 82 [num now, num ti] = some (num t)) (h83 : Gam.pureD (callF tab ext (N + 600)) 83 [.sl false 10 ([msgX e mm (some q) n])] = some (.sl false 6 bds)) (h38 : Gam.pureD (callF tab ext (N + 600)) 38 [.agg (nodX nu ti li (eKey :: ex) (tyX most) ruX), .agg (kv q).cells, .sl false 6 bds] = some (.tup [boolX false, num 0])) (h62 : Gam.pureD (callF tab ext (N + 600)) 62 [.agg [num 0, num 0, .sl false 10 ss], .agg (slX q t ([msgX e mm (some q) n]))] = some (.tup [.agg [num 0, num 0, .sl false 10 s2], num 0])) :
    callF tab ext (N + 601) (.fn 47) [.ptr 0 0 0, .agg (inpX e mm now (some q) n)] (bx0 nu ti li most (eKey :: ex) ss) = some (.tup [], bx0 nu ti li most (eKey :: ex) s2) :=
  callF_of [(27, .b true), (68, .o getF []), (82, .b false), (86, .p (nat h)), (87, .b false), (101, .b true), (109, .p (num t)), (126, .p (.sl false 6 bds)), (127, .p (.tup [boolX false, num 0])), (133, .p (.tup [.agg [num 0, num 0, .sl false 10 s2], num 0]))] [] (pf12 (Eq.refl (twS nu ti li most ex ss (some q) now e mm n)) h27 h81 h82 h29 h87 h101 h109 (Nat.le_refl 1) h83 h38 h62) (by kernel_rfl)
theorem mG_doneM (h27 : decide (Int.ofNat (eKey :: ex).length > 0) = true) (h81 : callF tab ext (N + 600) (.fn 81) [.agg [num 0, num 0, .sl false 10 ss], .agg (kv q).cells] [] = some (getF, [])) (h82 : decide (Int.ofNat ss.length ≥ li) = false) (h29 : Gam.pureD (callF tab ext (N + 600)) 29 [.agg [num 0, num 0, .sl false 10 ss]] = some (nat h)) (h87 : decide (Int.ofNat h ≥ 256) = false) (h101 : decide (ti > 0) = true) (h109 : Gam.pureD (callF tab ext (N + 600)) 82 [num now, num ti] = some (num t)) (h83 : Gam.pureD (callF tab ext (N + 600)) 83 [.sl false 10 ([msgX e mm (some q) n])] = some (.sl false 6 bds)) (h38 : Gam.pureD (callF tab ext (N + 600)) 38 [.agg (nodX nu ti li (eKey :: ex) (tyX most) ruX), .agg (kv q).cells, .sl false 6 bds] = some (.tup [boolX true, num 0])) (h50 : callF tab ext (N + 600) (.fn 50) [.ptr 0 0 0, .agg (kv q).cells, .sl false 10 ([msgX e mm (some q) n]), .agg [num e, .sl false 1 [[num 1]]]] (bx0 nu ti li most (eKey :: ex) ss) = some (.tup [], bdM nu ti li most (eKey :: ex) ss O F L)) :
    callF tab ext (N + 601) (.fn 47) [.ptr 0 0 0, .agg (inpX e mm now (some q) n)] (bx0 nu ti li most (eKey :: ex) ss) = some (.tup [], bdM nu ti li most (eKey :: ex) ss O F L) :=
  callF_of [(27, .b true), (68, .o getF []), (82, .b false), (86, .p (nat h)), (87, .b false), (101, .b true), (109, .p (num t)), (126, .p (.sl false 6 bds)), (127, .p (.tup [boolX true, num 0])), (173, .r (.tup []) (bdM nu ti li most (eKey :: ex) ss O F L))] [] (pf12 (Eq.refl (twS nu ti li most ex ss (some q) now e mm n)) h27 h81 h82 h29 h87 h101 h109 (Nat.le_refl 1) h83 h38 h50) (by kernel_rfl)
theorem mG_doneR (h27 : decide (Int.ofNat (eKey :: ex).length > 0) = true) (h81 : callF tab ext (N + 600) (.fn 81) [.agg [num 0, num 0, .sl false 10 ss], .agg (kv q).cells] [] = some (getF, [])) (h82 : decide (Int.ofNat ss.length ≥ li) = false) (h29 : Gam.pureD (callF tab ext (N + 600)) 29 [.agg [num 0, num 0, .sl false 10 ss]] = some (nat h)) (h87 : decide (Int.ofNat h ≥ 256) = false) (h101 : decide (ti > 0) = true) (h109 : Gam.pureD (callF tab ext (N + 600)) 82 [num now, num ti] = some (num t)) (h83 : Gam.pureD (callF tab ext (N + 600)) 83 [.sl false 10 ([msgX e mm (some q) n])] = some (.sl false 6 bds)) (h38 : Gam.pureD (callF tab ext (N + 600)) 38 [.agg (nodX nu ti li (eKey :: ex) (tyX most) ruX), .agg (kv q).cells, .sl false 6 bds] = some (.tup [boolX true, num 0])) (h50 : callF tab ext (N + 600) (.fn 50) [.ptr 0 0 0, .agg (kv q).cells, .sl false 10 ([msgX e mm (some q) n]), .agg [num e, .sl false 1 [[num 1]]]] (bx0 nu ti li most (eKey :: ex) ss) = some (.tup [], bdR nu ti li most (eKey :: ex) ss O F L)) :
    callF tab ext (N + 601) (.fn 47) [.ptr 0 0 0, .agg (inpX e mm now (some q) n)] (bx0 nu ti li most (eKey :: ex) ss) = some (.tup [], bdR nu ti li most (eKey :: ex) ss O F L) :=
  callF_of [(27, .b true), (68, .o getF []), (82, .b false), (86, .p (nat h)), (87, .b false), (101, .b true), (109, .p (num t)), (126, .p (.sl false 6 bds)), (127, .p (.tup [boolX true, num 0])), (173, .r (.tup []) (bdR nu ti li most (eKey :: ex) ss O F L))] [] (pf12 (Eq.refl (twS nu ti li most ex ss (some q) now e mm n)) h27 h81 h82 h29 h87 h101 h109 (Nat.le_refl 1) h83 h38 h50) (by kernel_rfl)
end
end Go.Proofs.YthphniobeigklaaGreatDoor.Ag

/- aggregator.Step at a message. -/
namespace Go.Proofs.YthphniobeigklaaGreatDoor.Ag
open Go Go.Em Go.Proofs.YthphniobeigklaaGreatDoor
set_option maxRecDepth 100000

/-- What a step comes to. -/
structure Rs where
  gs : List Ga
  O : List Otp
  F : List Fte
  L : List Msg
def Rs.cells (r : Rs) : List X := [num 0, num 0, .sl false 10 (sltsC (gst r.gs).slots), .sl false 11 (otpsC r.O), .sl false 11 [], .sl false 6 (ftesC r.F), .sl false 10 (msgsC r.L)]
section
variable (nu ti li most : Int) (ex ss s2 : List (List X)) (x : List X) (O : List Otp) (F : List Fte) (L : List Msg) (N : Nat)
def rsX : List X := [num 0, num 0, .sl false 10 s2, .sl false 11 (otpsC O), .sl false 11 [], .sl false 6 (ftesC F), .sl false 10 (msgsC L)]
variable (e mm now : Int) (o : Option Int) (n : Nat)
theorem st_M (h46 : Gam.pureD (callF tab ext (N + 600)) 46 [.agg [num 0, num 0, .sl false 10 ss]] = some (.agg [num 0, num 0, .sl false 10 ss])) (h47 : callF tab ext (N + 600) (.fn 47) [.ptr 0 0 0, .agg (inpX e mm now o n)] (bx0 nu ti li most ex ss) = some (.tup [], bdM nu ti li most ex s2 O F L)) :
    Gam.pureD (callF tab ext (N + 601)) 27 [.agg (nodX nu ti li ex (tyX most) ruX), .agg [num 0, num 0, .sl false 10 ss], .agg (inpX e mm now o n)] = some (.agg (rsX s2 O F L)) := by
  have d1 := otpsC_length O
  have d2 := ftesC_length F
  have d3 := msgsC_length L
  unfold bdM at h47
  unfold rsX
  generalize otpsC O = Oc at *
  generalize ftesC F = Fc at *
  generalize msgsC L = Lc at *
  generalize O.length = no at *
  generalize F.length = nf at *
  generalize L.length = nl at *
  cases o with
  | none => exact pure_of [(12, .p (.agg [num 0, num 0, .sl false 10 ss])), (22, .r (.tup []) [.var (bX nu ti li ex (tyX most) ruX s2 4 no 5 nf 3 nl), .dead, .dead, .row 10 Lc, .row 11 Oc, .row 6 Fc])] [] (pf2 h46 h47) (x := .agg [num 0, num 0, .sl false 10 s2, .bs 0 0 no, .sl true 11 [], .bs 1 0 nf, .bs 2 0 nl]) (bx := [.row 11 Oc, .row 6 Fc, .row 10 Lc]) (by kernel_rfl) (data_agg (dataL_cons rfl (dataL_cons rfl (dataL_cons rfl (dataL_cons (data_bs rfl d1.symm) (dataL_cons rfl (dataL_cons (data_bs rfl d2.symm) (dataL_cons (data_bs rfl d3.symm) rfl))))))))
  | some q => exact pure_of [(12, .p (.agg [num 0, num 0, .sl false 10 ss])), (22, .r (.tup []) [.var (bX nu ti li ex (tyX most) ruX s2 4 no 5 nf 3 nl), .dead, .dead, .row 10 Lc, .row 11 Oc, .row 6 Fc])] [] (pf2 h46 h47) (x := .agg [num 0, num 0, .sl false 10 s2, .bs 0 0 no, .sl true 11 [], .bs 1 0 nf, .bs 2 0 nl]) (bx := [.row 11 Oc, .row 6 Fc, .row 10 Lc]) (by kernel_rfl) (data_agg (dataL_cons rfl (dataL_cons rfl (dataL_cons rfl (dataL_cons (data_bs rfl d1.symm) (dataL_cons rfl (dataL_cons (data_bs rfl d2.symm) (dataL_cons (data_bs rfl d3.symm) rfl))))))))
theorem st_R (h46 : Gam.pureD (callF tab ext (N + 600)) 46 [.agg [num 0, num 0, .sl false 10 ss]] = some (.agg [num 0, num 0, .sl false 10 ss])) (h47 : callF tab ext (N + 600) (.fn 47) [.ptr 0 0 0, .agg (inpX e mm now o n)] (bx0 nu ti li most ex ss) = some (.tup [], bdR nu ti li most ex s2 O F L)) :
    Gam.pureD (callF tab ext (N + 601)) 27 [.agg (nodX nu ti li ex (tyX most) ruX), .agg [num 0, num 0, .sl false 10 ss], .agg (inpX e mm now o n)] = some (.agg (rsX s2 O F L)) := by
  have d1 := otpsC_length O
  have d2 := ftesC_length F
  have d3 := msgsC_length L
  unfold bdR at h47
  unfold rsX
  generalize otpsC O = Oc at *
  generalize ftesC F = Fc at *
  generalize msgsC L = Lc at *
  generalize O.length = no at *
  generalize F.length = nf at *
  generalize L.length = nl at *
  cases o with
  | none => exact pure_of [(12, .p (.agg [num 0, num 0, .sl false 10 ss])), (22, .r (.tup []) [.var (bX nu ti li ex (tyX most) ruX s2 1 no 4 nf 5 nl), .row 11 Oc, .dead, .dead, .row 6 Fc, .row 10 Lc])] [] (pf2 h46 h47) (x := .agg [num 0, num 0, .sl false 10 s2, .bs 0 0 no, .sl true 11 [], .bs 1 0 nf, .bs 2 0 nl]) (bx := [.row 11 Oc, .row 6 Fc, .row 10 Lc]) (by kernel_rfl) (data_agg (dataL_cons rfl (dataL_cons rfl (dataL_cons rfl (dataL_cons (data_bs rfl d1.symm) (dataL_cons rfl (dataL_cons (data_bs rfl d2.symm) (dataL_cons (data_bs rfl d3.symm) rfl))))))))
  | some q => exact pure_of [(12, .p (.agg [num 0, num 0, .sl false 10 ss])), (22, .r (.tup []) [.var (bX nu ti li ex (tyX most) ruX s2 1 no 4 nf 5 nl), .row 11 Oc, .dead, .dead, .row 6 Fc, .row 10 Lc])] [] (pf2 h46 h47) (x := .agg [num 0, num 0, .sl false 10 s2, .bs 0 0 no, .sl true 11 [], .bs 1 0 nf, .bs 2 0 nl]) (bx := [.row 11 Oc, .row 6 Fc, .row 10 Lc]) (by kernel_rfl) (data_agg (dataL_cons rfl (dataL_cons rfl (dataL_cons rfl (dataL_cons (data_bs rfl d1.symm) (dataL_cons rfl (dataL_cons (data_bs rfl d2.symm) (dataL_cons (data_bs rfl d3.symm) rfl))))))))
theorem st_B (q : Int) (h46 : Gam.pureD (callF tab ext (N + 600)) 46 [.agg [num 0, num 0, .sl false 10 ss]] = some (.agg [num 0, num 0, .sl false 10 ss])) (h47 : callF tab ext (N + 600) (.fn 47) [.ptr 0 0 0, .agg (inpX e mm now (some q) n)] (bx0 nu ti li most ex ss) = some (.tup [], bx0 nu ti li most ex s2)) :
    Gam.pureD (callF tab ext (N + 601)) 27 [.agg (nodX nu ti li ex (tyX most) ruX), .agg [num 0, num 0, .sl false 10 ss], .agg (inpX e mm now (some q) n)] = some (.agg (rsX s2 [] [] [])) :=
  pure_of [(12, .p (.agg [num 0, num 0, .sl false 10 ss])), (22, .r (.tup []) (bx0 nu ti li most ex s2))] [] (pf2 h46 h47) (x := .agg [num 0, num 0, .sl false 10 s2, .bs 0 0 0, .sl true 11 [], .bs 1 0 0, .bs 2 0 0]) (bx := [.row 11 [], .row 6 [], .row 10 []]) (by kernel_rfl) rfl
end
/-! ### A message's step, in plain terms -/
def tNew (ti now : Int) : Int := if 0 < ti then now + ti else 0
def finR (most : Int) (t : Stp) (q : Int) (M : List (Nat × Nat)) (gs : List Ga) : Rs :=
  if ((sumM M : Nat) : Int) ≤ most then ⟨gs, [⟨0, mrgM q M (undS t 0)⟩], mrgF (M.map (msV q)) aggT (undS t 0), []⟩ else ⟨gs, [], rejF (M.map (msV q)) typT, M.map (msV q)⟩
def cmpM (nu : Int) (cd : Nat) (q : Int) (M : List (Nat × Nat)) (m : Nat × Nat) : Bool × Int := compR nu cd (gB q M) (some q, m.2)
def addM (gs : List Ga) (q : Int) (m : Nat × Nat) : List (Nat × Nat) := (getG q gs).M ++ [m]
def stpM (nu ti li most : Int) (cd : Nat) (gs : List Ga) (q now : Int) (m : Nat × Nat) : Rs :=
  if knG q gs = false ∧ li ≤ (gs.length : Int) then ⟨gs, [], rejF [msV q m] fullT, [msV q m]⟩
  else if (cmpM nu cd q (addM gs q m) m).2 ≠ 0 then ⟨gs, [], rejF [msV q m] (errT 49 53), [msV q m]⟩
  else if (cmpM nu cd q (addM gs q m) m).1 then finR most (msV q m).st q (addM gs q m) (if knG q gs then delG q gs else gs)
  else ⟨putG ⟨q, if knG q gs then (getG q gs).t else tNew ti now, addM gs q m⟩ gs, [], [], []⟩
/-- A message without a key. -/
def msN (m : Nat × Nat) : Msg := ⟨⟨(m.1 : Int) + 1, [1]⟩, 100 + (m.1 : Int), [(m.1 : Int) + 1], bodyV none m.2⟩
def stpN (gs : List Ga) (m : Nat × Nat) : Rs := ⟨gs, [], rejF [msN m] (errT 49 57), [msN m]⟩
def exR (cd : Nat) : List (List X) := (exN cd).tail
theorem exN_eq : ∀ cd : Nat, exN cd = eKey :: exR cd
  | 0 => rfl
  | 1 => rfl
  | 2 => rfl
  | _ + 3 => rfl
theorem ex_pos (r : List (List X)) : decide (Int.ofNat (eKey :: r).length > 0) = true := decide_eq_true (by simp only [List.length_cons, Int.ofNat_eq_natCast]; omega)
theorem later82 (now ti : Int) (h : 0 ≤ now ∧ now ≤ 100000) (h2 : 0 ≤ ti ∧ ti ≤ 100000) (N : Nat) : Gam.pureD (callF tab ext (N + 10)) 82 [num now, num ti] = some (num (now + ti)) := by
  have e : IntKind.i64.wrap (now + ti) = now + ti := by rw [IntKind.wrap_i64]; omega
  have h1 : decide (now > IntKind.i64.wrap (17592186044416 - ti)) = false := decide_eq_false (by rw [IntKind.wrap_i64]; omega)
  exact pure_of [(8, .b false), (11, .i (now + ti))] [] (pf2 h1 e) (x := num (now + ti)) (bx := []) (by kernel_rfl) rfl
end Go.Proofs.YthphniobeigklaaGreatDoor.Ag

/- aggregator.Step at a message, at any groups. -/
namespace Go.Proofs.YthphniobeigklaaGreatDoor.Ag
open Go Go.Em Go.Proofs.YthphniobeigklaaGreatDoor
set_option maxRecDepth 100000

/-- What holds of the groups that wait, before the message with place i. -/
structure GsI (gs : List Ga) (i : Nat) : Prop where
  srt : SrtG gs
  few : gs.length ≤ 100
  key : ∀ x, x ∈ gs → 0 ≤ x.g ∧ x.g ≤ 3
  ne : ∀ x, x ∈ gs → x.M ≠ []
  inc : ∀ x, x ∈ gs → x.M.Pairwise fun a b => a.1 < b.1
  place : ∀ x, x ∈ gs → ∀ m, m ∈ x.M → m.1 < i ∧ m.2 < 4
  tim : ∀ x, x ∈ gs → 0 ≤ x.t ∧ x.t ≤ 200000
theorem inc_len : ∀ (M : List (Nat × Nat)) (lo i : Nat), (M.Pairwise fun a b => a.1 < b.1) → (∀ m, m ∈ M → lo ≤ m.1 ∧ m.1 < i) → M.length + lo ≤ max lo i
  | [], lo, i, _, _ => by simp; omega
  | a :: r, lo, i, hp, hb => by
    have h1 := List.pairwise_cons.1 hp
    have h3 := hb a List.mem_cons_self
    have h2 := inc_len r (a.1 + 1) i h1.2 (fun m hm => ⟨h1.1 m hm, (hb m (List.mem_cons_of_mem _ hm)).2⟩)
    simp only [List.length_cons]; omega
theorem GsI.len {gs : List Ga} {i : Nat} (h : GsI gs i) : ∀ x, x ∈ gs → x.M.length ≤ i := fun x hx => by
  have := inc_len x.M 0 i (h.inc x hx) (fun m hm => ⟨Nat.zero_le _, (h.place x hx m hm).1⟩)
  omega
theorem GsI.sm {gs : List Ga} {i : Nat} (h : GsI gs i) (hi : i ≤ 40) : SmG gs := ⟨h.few, fun x hx => by have := h.len x hx; omega⟩
theorem getG_cases (g : Int) (gs : List Ga) : (knG g gs = true ∧ getG g gs ∈ gs ∧ (getG g gs).g = g) ∨ (knG g gs = false ∧ getG g gs = ⟨g, 0, []⟩) := by
  cases hk : knG g gs with
  | false => exact .inr ⟨rfl, getG_new hk⟩
  | true =>
    left
    unfold knG at hk
    unfold getG
    split at hk
    · rename_i y hy
      have e : y.g = g := by simpa using hk
      rw [if_pos e]
      exact ⟨rfl, List.mem_of_getElem? hy, e⟩
    · cases hk
theorem GsI.grp {gs : List Ga} {i : Nat} (h : GsI gs i) (hi : i < 40) (q : Int) (hq : 0 ≤ q ∧ q ≤ 3) (n : Nat) (hn : n < 4) : GrpOk q (addM gs q (i, n)) := by
  have key : (getG q gs).M.length ≤ i ∧ ((getG q gs).M.Pairwise fun a b => a.1 < b.1) ∧ ∀ m, m ∈ (getG q gs).M → m.1 < i ∧ m.2 < 4 := by
    rcases getG_cases q gs with ⟨_, hm, _⟩ | ⟨_, e⟩
    · exact ⟨h.len _ hm, h.inc _ hm, h.place _ hm⟩
    · rw [e]; exact ⟨Nat.zero_le _, .nil, by simp⟩
  unfold addM
  refine ⟨by simp, by simp; omega, by omega, fun m hm => ?_, List.pairwise_append.2 ⟨key.2.1, List.pairwise_singleton .., fun a ha b hb => ?_⟩⟩
  · rcases List.mem_append.1 hm with hm | hm
    · have := key.2.2 m hm; omega
    · rw [List.mem_singleton.1 hm]; exact ⟨by show i < 1000; omega, hn⟩
  · rw [List.mem_singleton.1 hb]; exact (key.2.2 a ha).1
theorem compR_cases (nu : Int) (cd : Nat) (l : List Bd) (b : Bd) : compR nu cd l b = (true, 0) ∨ compR nu cd l b = (false, 0) ∨ compR nu cd l b = (false, 15) := by
  unfold compR
  split
  · exact .inl rfl
  · unfold condR
    split
    · cases decide (5 < sumN (nsOf l)) <;> simp
    · split <;> simp
    · simp
section
variable (nu ti li most : Int) (cd : Nat) (gs : List Ga) (q now : Int) (i n : Nat)
variable (hcd : cd < 4) (h : GsI gs i) (hi : i < 40) (hq : 0 ≤ q ∧ q ≤ 3) (hn : n < 4) (hnow : 0 ≤ now ∧ now ≤ 100000) (hti : 0 ≤ ti ∧ ti ≤ 100000) (hheld : heldG gs < 200)
include hcd h hi hq hn hnow hti hheld
theorem msg47 (N : Nat) (hN : 192000 ≤ N) : ∃ B, callF tab ext N (.fn 47) [.ptr 0 0 0, .agg (inpX ((i : Int) + 1) (100 + (i : Int)) now (some q) n)] (bx0 nu ti li most (exN cd) (sltsC (gst gs).slots)) = some (.tup [], B) ∧
    (B = bdM nu ti li most (exN cd) (sltsC (gst (stpM nu ti li most cd gs q now (i, n)).gs).slots) (stpM nu ti li most cd gs q now (i, n)).O (stpM nu ti li most cd gs q now (i, n)).F (stpM nu ti li most cd gs q now (i, n)).L ∨
     B = bdR nu ti li most (exN cd) (sltsC (gst (stpM nu ti li most cd gs q now (i, n)).gs).slots) (stpM nu ti li most cd gs q now (i, n)).O (stpM nu ti li most cd gs q now (i, n)).F (stpM nu ti li most cd gs q now (i, n)).L ∨
     (B = bx0 nu ti li most (exN cd) (sltsC (gst (stpM nu ti li most cd gs q now (i, n)).gs).slots) ∧ (stpM nu ti li most cd gs q now (i, n)).O = [] ∧ (stpM nu ti li most cd gs q now (i, n)).F = [] ∧ (stpM nu ti li most cd gs q now (i, n)).L = [])) := by
  obtain ⟨K, rfl⟩ : ∃ K, N = K + 601 := ⟨N - 601, by omega⟩
  have hsm := h.sm (by omega)
  have hgrp := h.grp hi q hq n hn
  have hgl := hgrp.len
  have h81 := (getG_at gs h.srt hsm q).1 (K + 600) (by omega)
  have h29 := held29 gs hsm (K + 600) (by omega)
  have h87 : decide (Int.ofNat (heldG gs) ≥ 256) = false := decide_eq_false (by simp only [Int.ofNat_eq_natCast]; omega)
  have hsl : (sltsC (gst gs).slots).length = gs.length := by rw [sltsC_length]; simp [gst]
  have h38 := complete38 nu ti li (tyX most) ruX (gB q (addM gs q (i, n))) (some q, n) q false cd hcd hgrp.tiny (by rw [gB_len]; omega) (by rw [gB_len]; exact hgrp.pos) (by simp [gB, addM]) (K + 600) (by omega)
  rw [bdG_false] at h38
  have h83 := bodies83 ((addM gs q (i, n)).map (msV q)) (by rw [List.length_map]; omega) (K + 600) (by omega)
  rw [bodC_ms] at h83
  have hst : (msV q (i, n)).st.ok := (msV_ok q (i, n)).st
  have hmsg : (msV q (i, n)).cells = msgX ((i : Int) + 1) (100 + (i : Int)) (some q) n := rfl
  have hput := putG_at gs h.srt hsm ⟨q, if knG q gs then (getG q gs).t else tNew ti now, addM gs q (i, n)⟩ (by show (addM gs q (i, n)).length ≤ 101; omega) (K + 600) (by omega)
  unfold stpM
  rw [exN_eq] at h38 ⊢
  change Gam.pureD (callF tab ext (K + 600)) 29 [.agg [num 0, num 0, .sl false 10 (sltsC (gst gs).slots)]] = _ at h29
  change callF tab ext (K + 600) (.fn 81) [.agg [num 0, num 0, .sl false 10 (sltsC (gst gs).slots)], .agg (kv q).cells] [] = _ at h81
  have hc : cmpM nu cd q (addM gs q (i, n)) (i, n) = compR nu cd (gB q (addM gs q (i, n))) (some q, n) := rfl
  rw [hc]
  have hcc := compR_cases nu cd (gB q (addM gs q (i, n))) (some q, n)
  generalize compR nu cd (gB q (addM gs q (i, n))) (some q, n) = c at *
  have hM : (addM gs q (i, n)).map (msV q) = (getG q gs).M.map (msV q) ++ [msV q (i, n)] := by simp [addM]
  have hMc : msgsC ((addM gs q (i, n)).map (msV q)) = msgsC ((getG q gs).M.map (msV q)) ++ [msgX ((i : Int) + 1) (100 + (i : Int)) (some q) n] := by
    rw [hM]; simp only [msgsC, List.map_append, List.map_cons, List.map_nil]; rfl
  have fin : ∀ gs' : List Ga, ((((sumM (addM gs q (i, n)) : Nat) : Int) ≤ most) ∧ callF tab ext (K + 600) (.fn 50) [.ptr 0 0 0, .agg (kv q).cells, .sl false 10 (msgsC ((addM gs q (i, n)).map (msV q))), .agg [num ((i : Int) + 1), .sl false 1 [[num 1]]]] (bx0 nu ti li most (eKey :: exR cd) (sltsC (gst gs').slots)) =
        some (.tup [], bdM nu ti li most (eKey :: exR cd) (sltsC (gst gs').slots) [⟨0, mrgM q (addM gs q (i, n)) (undS (msV q (i, n)).st 0)⟩] (mrgF ((addM gs q (i, n)).map (msV q)) aggT (undS (msV q (i, n)).st 0)) [])) ∨
      ((¬ ((sumM (addM gs q (i, n)) : Nat) : Int) ≤ most) ∧ callF tab ext (K + 600) (.fn 50) [.ptr 0 0 0, .agg (kv q).cells, .sl false 10 (msgsC ((addM gs q (i, n)).map (msV q))), .agg [num ((i : Int) + 1), .sl false 1 [[num 1]]]] (bx0 nu ti li most (eKey :: exR cd) (sltsC (gst gs').slots)) =
        some (.tup [], bdR nu ti li most (eKey :: exR cd) (sltsC (gst gs').slots) [] (rejF ((addM gs q (i, n)).map (msV q)) typT) ((addM gs q (i, n)).map (msV q)))) := fun gs' => by
    by_cases hs : ((sumM (addM gs q (i, n)) : Nat) : Int) ≤ most
    · exact .inl ⟨hs, fin_ok nu ti li most (eKey :: exR cd) (sltsC (gst gs').slots) [] [] [] q (addM gs q (i, n)) (msV q (i, n)).st hgrp hst (by simp [msV]) (by simp) (by simp) hs (K + 600) (by omega)⟩
    · exact .inr ⟨hs, fin_no nu ti li most (eKey :: exR cd) (sltsC (gst gs').slots) [] [] [] q (addM gs q (i, n)) (msV q (i, n)).st hgrp hst (by simp [msV]) (by simp) (by simp) (by omega) (K + 600) (by omega)⟩
  rcases getG_cases q gs with ⟨hk, hmem, hg⟩ | ⟨hk, hg⟩
  · -- a known group
    rw [hk] at h81 hput ⊢
    rw [if_neg (by simp)]
    have hsl2 : getX true (getG q gs).slt = (getT q (getG q gs).t (msgsC ((getG q gs).M.map (msV q))).length, [.row 10 (msgsC ((getG q gs).M.map (msV q))), .row 6 []]) := by
      unfold getX Ga.slt getT
      rw [hg]
      rfl
    rw [hsl2] at h81
    have hA := app_ok (acc := msgsC ((getG q gs).M.map (msV q))) (msgsC ((getG q gs).M.map (msV q))).length 5 152 rfl (by
      have := h.len _ hmem
      rw [msgsC_length, List.length_map]; omega) (by omega)
    have hG : 0 + ((msgsC ((getG q gs).M.map (msV q))).length + 1) ≤ (msgsC ((getG q gs).M.map (msV q)) ++ [msgX ((i : Int) + 1) (100 + (i : Int)) (some q) n]).length := by simp
    have htk : List.take ((msgsC ((getG q gs).M.map (msV q))).length + 1) (msgsC ((getG q gs).M.map (msV q)) ++ [msgX ((i : Int) + 1) (100 + (i : Int)) (some q) n]) = msgsC ((addM gs q (i, n)).map (msV q)) := by
      rw [hMc, List.take_of_length_le (by simp)]
    simp only [if_true] at hput ⊢
    have h49 := rem49 gs h.srt hsm q hk (K + 600) (by omega)
    rcases hcc with rfl | rfl | rfl
    · simp only [ne_eq, not_true_eq_false, if_false, if_true]
      unfold finR
      rcases fin (delG q gs) with ⟨hs, h50⟩ | ⟨hs, h50⟩
      · rw [if_pos hs]
        exact ⟨_, mT_doneM nu ti li most (exR cd) (sltsC (gst gs).slots) (sltsC (gst (delG q gs)).slots) q now _ _ (getG q gs).t n _ (heldG gs) (msgsC ((getG q gs).M.map (msV q))) (bdC (gB q (addM gs q (i, n)))) _ _ _ K (ex_pos _) h81 h29 h87 hA hG (by rw [htk]; exact h83) h38 h49 (by rw [htk]; exact h50), .inl rfl⟩
      · rw [if_neg hs]
        exact ⟨_, mT_doneR nu ti li most (exR cd) (sltsC (gst gs).slots) (sltsC (gst (delG q gs)).slots) q now _ _ (getG q gs).t n _ (heldG gs) (msgsC ((getG q gs).M.map (msV q))) (bdC (gB q (addM gs q (i, n)))) _ _ _ K (ex_pos _) h81 h29 h87 hA hG (by rw [htk]; exact h83) h38 h49 (by rw [htk]; exact h50), .inr (.inl rfl)⟩
    · simp only [ne_eq, not_true_eq_false, if_false, Bool.false_eq_true]
      exact ⟨_, mT_putn nu ti li most (exR cd) (sltsC (gst gs).slots) _ q now _ _ (getG q gs).t n _ (heldG gs) (msgsC ((getG q gs).M.map (msV q))) (bdC (gB q (addM gs q (i, n)))) K (ex_pos _) h81 h29 h87 hA hG (by rw [htk]; exact h83) h38 (by rw [htk]; exact hput), .inr (.inr ⟨rfl, by simp⟩)⟩
    · rw [if_pos (by simp)]
      exact ⟨_, mT_err nu ti li most (exR cd) (sltsC (gst gs).slots) q now _ _ (getG q gs).t n _ (heldG gs) (msgsC ((getG q gs).M.map (msV q))) (bdC (gB q (addM gs q (i, n)))) K (ex_pos _) h81 h29 h87 hA hG (by rw [htk]; exact h83) h38, .inr (.inl rfl)⟩
  · -- a new group
    rw [hk] at h81 hput ⊢
    have hM1 : addM gs q (i, n) = [(i, n)] := by unfold addM; rw [hg]; rfl
    have hMs : msgsC ((addM gs q (i, n)).map (msV q)) = [msgX ((i : Int) + 1) (100 + (i : Int)) (some q) n] := by rw [hM1]; rfl
    by_cases hfull : li ≤ (gs.length : Int)
    · rw [if_pos ⟨rfl, hfull⟩]
      exact ⟨_, m_full nu ti li most (exR cd) (sltsC (gst gs).slots) q now _ _ n K (ex_pos _) h81 (decide_eq_true (by simp only [Int.ofNat_eq_natCast]; omega)), .inr (.inl rfl)⟩
    · rw [if_neg (by simp [hfull])]
      have h82 : decide (Int.ofNat (sltsC (gst gs).slots).length ≥ li) = false := decide_eq_false (by simp only [Int.ofNat_eq_natCast]; omega)
      simp only [Bool.false_eq_true, if_false] at hput ⊢
      unfold tNew at hput ⊢
      rw [hMs] at h83 fin
      by_cases ht : 0 < ti
      · have h101 : decide (ti > 0) = true := decide_eq_true ht
        have h109 := later82 now ti hnow hti (K + 590)
        rw [if_pos ht] at hput ⊢
        rcases hcc with rfl | rfl | rfl
        · simp only [ne_eq, not_true_eq_false, if_false, if_true]
          unfold finR
          rcases fin gs with ⟨hs, h50⟩ | ⟨hs, h50⟩
          · rw [if_pos hs]
            exact ⟨_, mG_doneM nu ti li most (exR cd) (sltsC (gst gs).slots) q now _ _ (now + ti) n (heldG gs) (bdC (gB q (addM gs q (i, n)))) _ _ _ K (ex_pos _) h81 h82 h29 h87 h101 h109 h83 h38 h50, .inl rfl⟩
          · rw [if_neg hs]
            exact ⟨_, mG_doneR nu ti li most (exR cd) (sltsC (gst gs).slots) q now _ _ (now + ti) n (heldG gs) (bdC (gB q (addM gs q (i, n)))) _ _ _ K (ex_pos _) h81 h82 h29 h87 h101 h109 h83 h38 h50, .inr (.inl rfl)⟩
        · simp only [ne_eq, not_true_eq_false, if_false, Bool.false_eq_true]
          exact ⟨_, mG_putn nu ti li most (exR cd) (sltsC (gst gs).slots) _ q now _ _ (now + ti) n (heldG gs) (bdC (gB q (addM gs q (i, n)))) K (ex_pos _) h81 h82 h29 h87 h101 h109 h83 h38 (by rw [← hMs]; exact hput), .inr (.inr ⟨rfl, by simp⟩)⟩
        · rw [if_pos (by simp)]
          exact ⟨_, mG_err nu ti li most (exR cd) (sltsC (gst gs).slots) q now _ _ (now + ti) n (heldG gs) (bdC (gB q (addM gs q (i, n)))) K (ex_pos _) h81 h82 h29 h87 h101 h109 h83 h38, .inr (.inl rfl)⟩
      · have h101 : decide (ti > 0) = false := decide_eq_false ht
        rw [if_neg ht] at hput ⊢
        rcases hcc with rfl | rfl | rfl
        · simp only [ne_eq, not_true_eq_false, if_false, if_true]
          unfold finR
          rcases fin gs with ⟨hs, h50⟩ | ⟨hs, h50⟩
          · rw [if_pos hs]
            exact ⟨_, mF_doneM nu ti li most (exR cd) (sltsC (gst gs).slots) q now _ _ n (heldG gs) (bdC (gB q (addM gs q (i, n)))) _ _ _ K (ex_pos _) h81 h82 h29 h87 h101 h83 h38 h50, .inl rfl⟩
          · rw [if_neg hs]
            exact ⟨_, mF_doneR nu ti li most (exR cd) (sltsC (gst gs).slots) q now _ _ n (heldG gs) (bdC (gB q (addM gs q (i, n)))) _ _ _ K (ex_pos _) h81 h82 h29 h87 h101 h83 h38 h50, .inr (.inl rfl)⟩
        · simp only [ne_eq, not_true_eq_false, if_false, Bool.false_eq_true]
          exact ⟨_, mF_putn nu ti li most (exR cd) (sltsC (gst gs).slots) _ q now _ _ n (heldG gs) (bdC (gB q (addM gs q (i, n)))) K (ex_pos _) h81 h82 h29 h87 h101 h83 h38 (by rw [← hMs]; exact hput), .inr (.inr ⟨rfl, by simp⟩)⟩
        · rw [if_pos (by simp)]
          exact ⟨_, mF_err nu ti li most (exR cd) (sltsC (gst gs).slots) q now _ _ n (heldG gs) (bdC (gB q (addM gs q (i, n)))) K (ex_pos _) h81 h82 h29 h87 h101 h83 h38, .inr (.inl rfl)⟩
/-- The step at a message. -/
theorem step_msg (N : Nat) (hN : 193000 ≤ N) : Gam.pureD (callF tab ext N) 27 [.agg (nodX nu ti li (exN cd) (tyX most) ruX), .agg (gst gs).cells, .agg (inpX ((i : Int) + 1) (100 + (i : Int)) now (some q) n)] = some (.agg (stpM nu ti li most cd gs q now (i, n)).cells) := by
  obtain ⟨K, rfl⟩ : ∃ K, N = K + 601 := ⟨N - 601, by omega⟩
  obtain ⟨B, h47, hB⟩ := msg47 nu ti li most cd gs q now i n hcd h hi hq hn hnow hti hheld (K + 600) (by omega)
  have h46 := clone_state_pure (K + 600) (gst gs) (gst_small gs (h.sm (by omega))).ok (by omega)
  rcases hB with rfl | rfl | ⟨rfl, e1, e2, e3⟩
  · exact st_M nu ti li most (exN cd) _ _ _ _ _ K _ _ now (some q) n h46 h47
  · exact st_R nu ti li most (exN cd) _ _ _ _ _ K _ _ now (some q) n h46 h47
  · have := st_B nu ti li most (exN cd) _ _ K _ _ now n q h46 h47
    unfold Rs.cells
    rw [e1, e2, e3]
    exact this
end
theorem step_none (nu ti li most : Int) (cd : Nat) (gs : List Ga) (now : Int) (i n : Nat) (hsm : SmG gs) (N : Nat) (hN : 193000 ≤ N) :
    Gam.pureD (callF tab ext N) 27 [.agg (nodX nu ti li (exN cd) (tyX most) ruX), .agg (gst gs).cells, .agg (inpX ((i : Int) + 1) (100 + (i : Int)) now none n)] = some (.agg (stpN gs (i, n)).cells) := by
  obtain ⟨K, rfl⟩ : ∃ K, N = K + 1202 := ⟨N - 1202, by omega⟩
  have h46 := clone_state_pure (K + 1201) (gst gs) (gst_small gs hsm).ok (by omega)
  have h47 := m_none nu ti li most (exR cd) (sltsC (gst gs).slots) now ((i : Int) + 1) (100 + (i : Int)) n (K + 600) (ex_pos _)
  rw [← exN_eq] at h47
  exact st_R nu ti li most (exN cd) _ _ [] (rejF [msN (i, n)] (errT 49 57)) [msN (i, n)] (K + 601) _ _ now none n h46 h47
end Go.Proofs.YthphniobeigklaaGreatDoor.Ag

/- Inputs; a run of the aggregator over inputs. -/
namespace Go.Proofs.YthphniobeigklaaGreatDoor.Ag
open Go Go.Em Go.Proofs.YthphniobeigklaaGreatDoor
set_option maxRecDepth 100000

/-- What comes: a message with or without a key, and a number; the clock. -/
inductive Ei where
  | m (o : Option Int) (n : Nat)
  | c
/-- An input: its place among the events, the time, what comes. -/
structure Iv where
  i : Nat
  now : Int
  v : Ei
def inR (w : Bool) (i : Nat) (now : Int) (o : Option Int) (n : Nat) : List X := [num 1, num now, nat (i + 1), .sl w 1 [[num 1]], nat (i + 1), .sl w 1 [[num 1]], nat (100 + i), .sl w 1 [[nat (i + 1)]]] ++ bodyG w o n ++ [num 0, boolX false, boolX false, num 0, num 0, num 0, strX ⟨#[]⟩, .sl w 6 [], .sl w 7 []]
def clR (w : Bool) (i : Nat) (now : Int) : List X := [num 2, num now, nat (i + 1), .sl w 1 [[num 0], [num 3]], num 0, .sl w 1 [], num 0, .sl w 1 [], num 0, num 0, num 0, strX ⟨#[]⟩, .sl w 6 [], .sl w 7 [], num 0, boolX false, boolX false, num 0, num 0, num 0, strX ⟨#[]⟩, .sl w 6 [], .sl w 7 []]
def Iv.row (w : Bool) (x : Iv) : List X := match x.v with
  | .m o n => inR w x.i x.now o n
  | .c => clR w x.i x.now
def insC (xs : List Iv) : List (List X) := xs.map (Iv.row true)
theorem insC_len (xs : List Iv) : (insC xs).length = xs.length := by simp [insC]
theorem insC_get {xs : List Iv} {j : Nat} (h : j < xs.length) : (insC xs)[j]? = some (xs[j].row true) := by simp [insC, h]
def rssC (l : List Rs) : List (List X) := l.map Rs.cells
theorem rssC_len (l : List Rs) : (rssC l).length = l.length := by simp [rssC]
/-- States and outcomes of a run. -/
def stL (S : List Ga → Iv → Rs) : List Ga → List Iv → List Ga
  | gs, [] => gs
  | gs, x :: r => stL S (S gs x).gs r
def rnL (S : List Ga → Iv → Rs) : List Ga → List Iv → List Rs
  | _, [] => []
  | gs, x :: r => S gs x :: rnL S (S gs x).gs r
theorem stL_snoc (S : List Ga → Iv → Rs) (x : Iv) : ∀ (a : List Iv) (gs : List Ga), stL S gs (a ++ [x]) = (S (stL S gs a) x).gs
  | [], _ => rfl
  | y :: r, gs => stL_snoc S x r (S gs y).gs
theorem rnL_snoc (S : List Ga → Iv → Rs) (x : Iv) : ∀ (a : List Iv) (gs : List Ga), rnL S gs (a ++ [x]) = rnL S gs a ++ [S (stL S gs a) x]
  | [], _ => rfl
  | y :: r, gs => congrArg (S gs y :: ·) (rnL_snoc S x r (S gs y).gs)
theorem rnL_len (S : List Ga → Iv → Rs) : ∀ (a : List Iv) (gs : List Ga), (rnL S gs a).length = a.length
  | [], _ => rfl
  | y :: r, gs => congrArg (· + 1) (rnL_len S r (S gs y).gs)
theorem rnL_get (S : List Ga → Iv → Rs) : ∀ (a : List Iv) (gs : List Ga) (j : Nat) (h : j < a.length), (rnL S gs a)[j]'(by rw [rnL_len]; exact h) = S (stL S gs (a.take j)) a[j]
  | y :: r, gs, 0, _ => rfl
  | y :: r, gs, j + 1, h => rnL_get S r (S gs y).gs j (by simpa using h)
section
variable (nu ti li most : Int) (ex ins acc ss : List (List X)) (j : Nat) (w : Bool) (N : Nat)
def roH : St := ⟨[(1, .sl false 23 ins), (2, .ptr 0 0 0), (5, .bs 1 0 j), (6, .ptr 2 0 0), (7, nat j)], [.var (nodX nu ti li ex (tyX most) ruX), .row 7 acc, .var [num 0, num 0, .sl w 10 ss]]⟩
def roE : St := ⟨[(1, .sl false 23 ins), (2, .ptr 0 0 0), (5, .bs 1 0 j), (6, .ptr 2 0 0), (7, nat j), (12, boolX false)], [.var (nodX nu ti li ex (tyX most) ruX), .row 7 acc, .var [num 0, num 0, .sl w 10 ss]]⟩
theorem ro_canon : canon 0 (roH nu ti li most ex ins acc ss j w) = some (roH nu ti li most ex ins acc ss j w) := by kernel_rfl
theorem ro_end (h : ¬ j < ins.length) : run (callF tab ext N) 0 N (loopAt 14 0) (roH nu ti li most ex ins acc ss j w) = some (.exit 0, roE nu ti li most ex ins acc ss j w) :=
  run_of [(12, .b false)] [] (pf1 (nlt_nat h)) (lo' := []) (by kernel_rfl)
theorem ro_round (x : Iv) (s2 O F L : List (List X)) (hj : j < ins.length) (hl : ins.length < 10000) (he : ins[j]? = some (x.row true)) (ha : j = acc.length)
    (h27 : Gam.pureD (callF tab ext N) 27 [.agg (nodX nu ti li ex (tyX most) ruX), .agg [num 0, num 0, .sl false 10 ss], .agg (x.row false)] = some (.agg [num 0, num 0, .sl false 10 s2, .sl false 11 O, .sl false 11 [], .sl false 6 F, .sl false 10 L])) :
    ∃ υ, run (callF tab ext N) 0 N (loopAt 14 0) (roH nu ti li most ex ins acc ss j w) = some (.norm, υ) ∧ canon 0 υ = some (roH nu ti li most ex ins (acc ++ [[num 0, num 0, .sl false 10 s2, .sl false 11 O, .sl false 11 [], .sl false 6 F, .sl false 10 L]]) s2 (j + 1) false) := by
  have h1 := lt_nat hj
  have h2 := next_nat (j := j) (by omega)
  have h3 := app_ok (acc := acc) j 2 136 ha (by omega) (by omega)
  obtain ⟨i, now, v⟩ := x
  cases v with
  | m o n =>
    cases o with
    | none => exact rd_of [(12, .b true), (19, .e (inR true i now none n)), (21, .p (.agg [num 0, num 0, .sl false 10 s2, .sl false 11 O, .sl false 11 [], .sl false 6 F, .sl false 10 L])), (25, .app), (14, .i (Int.ofNat (j + 1)))] (pf5 h1 he h27 h3 h2) (by kernel_rfl)
    | some q => exact rd_of [(12, .b true), (19, .e (inR true i now (some q) n)), (21, .p (.agg [num 0, num 0, .sl false 10 s2, .sl false 11 O, .sl false 11 [], .sl false 6 F, .sl false 10 L])), (25, .app), (14, .i (Int.ofNat (j + 1)))] (pf5 h1 he h27 h3 h2) (by kernel_rfl)
  | c => exact rd_of [(12, .b true), (19, .e (clR true i now)), (21, .p (.agg [num 0, num 0, .sl false 10 s2, .sl false 11 O, .sl false 11 [], .sl false 6 F, .sl false 10 L])), (25, .app), (14, .i (Int.ofNat (j + 1)))] (pf5 h1 he h27 h3 h2) (by kernel_rfl)
end
/-- The package's run. -/
theorem run14 (S : List Ga → Iv → Rs) (nu ti li most : Int) (ex : List (List X)) (xs : List Iv) (hl : xs.length < 1000) (N : Nat) (hN : 1100 ≤ N)
    (hs : ∀ j (hj : j < xs.length), Gam.pureD (callF tab ext N) 27 [.agg (nodX nu ti li ex (tyX most) ruX), .agg (gst (stL S [] (xs.take j))).cells, .agg (xs[j].row false)] = some (.agg (S (stL S [] (xs.take j)) xs[j]).cells)) :
    Gam.pureD (callF tab ext (N + 1)) 14 [.agg (nodX nu ti li ex (tyX most) ruX), .sl false 23 (insC xs)] = some (.sl false 7 (rssC (rnL S [] xs))) := by
  have hn := insC_len xs
  have h1 : run (callF tab ext N) 0 N (.loop (loopAt 14 0)) (roH nu ti li most ex (insC xs) [] [] 0 true) = some (.exit 0, roE nu ti li most ex (insC xs) (rssC (rnL S [] xs)) (sltsC (gst (stL S [] xs)).slots) (insC xs).length (decide ((insC xs).length = 0))) := by
    refine loop_for (σ := fun j => roH nu ti li most ex (insC xs) (rssC (rnL S [] (xs.take j))) (sltsC (gst (stL S [] (xs.take j))).slots) j (decide (j = 0))) (k := (insC xs).length) (ro_canon ..) (fun j hj => ?_) ?_ (by simp) (by omega)
    · have hj' : j < xs.length := by omega
      rw [List.take_succ_eq_append_getElem hj', stL_snoc, rnL_snoc, show decide (j + 1 = 0) = false from decide_eq_false (by omega)]
      have e : rssC (rnL S [] (xs.take j) ++ [S (stL S [] (xs.take j)) xs[j]]) = rssC (rnL S [] (xs.take j)) ++ [(S (stL S [] (xs.take j)) xs[j]).cells] := by simp [rssC]
      rw [e]
      exact ro_round nu ti li most ex (insC xs) _ _ j _ N xs[j] _ _ _ _ hj (by omega) (insC_get hj') (by rw [rssC_len, rnL_len, List.length_take]; omega) (hs j hj')
    · rw [List.take_of_length_le (by omega)]
      exact ro_end nu ti li most ex (insC xs) _ _ _ _ N (by omega)
  have hlen : (insC xs).length = (rssC (rnL S [] xs)).length := by rw [hn, rssC_len, rnL_len]
  generalize decide ((insC xs).length = 0) = w at *
  generalize rssC (rnL S [] xs) = R at *
  generalize sltsC (gst (stL S [] xs)).slots = ss at *
  generalize insC xs = I at *
  have h1' : run (callF tab ext N) 0 N (.loop (loopAt 14 0)) ⟨[(1, .sl false 23 I), (2, .ptr 0 0 0), (5, .bs 2 0 0), (6, .ptr 1 0 0), (7, num 0)], [.var (nodX nu ti li ex (tyX most) ruX), .var [num 0, num 0, .sl true 10 []], .row 7 []]⟩ = some (.exit 0, roE nu ti li most ex I R ss I.length w) := by
    rw [← h1]
    exact loop_canon (by kernel_rfl) (ro_canon ..)
  exact pure_of [] [(.exit 0, roE nu ti li most ex I R ss I.length w)] (pf1 h1') (x := .bs 0 0 I.length) (bx := [.row 7 R]) (by kernel_rfl) (data_bs rfl hlen)
end Go.Proofs.YthphniobeigklaaGreatDoor.Ag

/- The groups whose time has come. -/
namespace Go.Proofs.YthphniobeigklaaGreatDoor.Ag
open Go Go.Em Go.Proofs.YthphniobeigklaaGreatDoor
set_option maxRecDepth 100000

/-! ### Groups sorted by their times -/
def dG : Ga := ⟨0, 0, []⟩
def bubG : Nat → List Ga → List Ga
  | 0, L => L
  | j + 1, L => if (L.getD (j + 1) dG).t < (L.getD j dG).t then bubG j ((L.set (j + 1) (L.getD j dG)).set j (L.getD (j + 1) dG)) else L
def isortG : Nat → List Ga → List Ga
  | 0, L => L
  | k + 1, L => bubG (k + 1) (isortG k L)
theorem bubG_length : ∀ (j : Nat) (L : List Ga), (bubG j L).length = L.length
  | 0, _ => rfl
  | j + 1, L => by
    unfold bubG
    split
    · rw [bubG_length]; simp
    · rfl
theorem isortG_length : ∀ (k : Nat) (L : List Ga), (isortG k L).length = L.length
  | 0, _ => rfl
  | k + 1, L => by unfold isortG; rw [bubG_length, isortG_length k L]
theorem bub_map : ∀ (j : Nat) (L : List Ga), (j < L.length ∨ j = 0) → Tm.bub j (L.map Ga.slt) = (bubG j L).map Ga.slt
  | 0, _, _ => rfl
  | j + 1, L, h => by
    have hj : j + 1 < L.length := by omega
    have g1 : (L.map Ga.slt).getD (j + 1) dSlt = L[j + 1].slt := by rw [List.getD_eq_getElem?_getD, List.getElem?_eq_getElem (by simpa using hj)]; simp
    have g2 : (L.map Ga.slt).getD j dSlt = (L[j]'(by omega)).slt := by rw [List.getD_eq_getElem?_getD, List.getElem?_eq_getElem (by simp; omega)]; simp
    have g3 : L.getD (j + 1) dG = L[j + 1] := by rw [List.getD_eq_getElem?_getD, List.getElem?_eq_getElem hj]; rfl
    have g4 : L.getD j dG = L[j]'(by omega) := by rw [List.getD_eq_getElem?_getD, List.getElem?_eq_getElem (by omega)]; rfl
    unfold Tm.bub bubG
    rw [g1, g2, g3, g4]
    show (if L[j + 1].t < (L[j]'(by omega)).t then _ else _) = _
    split
    · rw [← List.map_set, ← List.map_set]
      exact bub_map j _ (by simp; omega)
    · rfl
theorem isort_map : ∀ (k : Nat) (L : List Ga), (k < L.length ∨ k = 0) → Tm.isort k (L.map Ga.slt) = (isortG k L).map Ga.slt
  | 0, _, _ => rfl
  | k + 1, L, h => by
    unfold Tm.isort isortG
    rw [isort_map k L (by omega)]
    exact bub_map (k + 1) _ (by rw [isortG_length]; exact h)
theorem bubG_perm : ∀ (j : Nat) (L : List Ga), (j < L.length ∨ j = 0) → (bubG j L).Perm L
  | 0, _, _ => List.Perm.refl _
  | j + 1, L, h => by
    have hj : j + 1 < L.length := by omega
    have g3 : L.getD (j + 1) dG = L[j + 1] := by rw [List.getD_eq_getElem?_getD, List.getElem?_eq_getElem hj]; rfl
    have g4 : L.getD j dG = L[j]'(by omega) := by rw [List.getD_eq_getElem?_getD, List.getElem?_eq_getElem (by omega)]; rfl
    unfold bubG
    rw [g3, g4]
    split
    · exact (bubG_perm j _ (by simp; omega)).trans (List.set_set_perm hj (by omega))
    · exact List.Perm.refl _
theorem isortG_perm : ∀ (k : Nat) (L : List Ga), (k < L.length ∨ k = 0) → (isortG k L).Perm L
  | 0, _, _ => List.Perm.refl _
  | k + 1, L, h => by
    unfold isortG
    exact (bubG_perm (k + 1) _ (by rw [isortG_length]; exact h)).trans (isortG_perm k L (by omega))
def expB (now : Int) (x : Ga) : Bool := decide (0 < x.t ∧ x.t ≤ now)
/-- The groups whose time has come, in order. -/
def exG (now : Int) (gs : List Ga) : List Ga := isortG ((gs.filter (expB now)).length - 1) (gs.filter (expB now))
theorem exG_perm (now : Int) (gs : List Ga) : (exG now gs).Perm (gs.filter (expB now)) := isortG_perm _ _ (by omega)

theorem exp_filter (now : Int) (gs : List Ga) : (gst gs).slots.filter (expS now) = (gs.filter (expB now)).map Ga.slt := by
  show (gs.map Ga.slt).filter (expS now) = _
  rw [List.filter_map]
  congr 1
  apply List.filter_congr
  intro x _
  show (decide (x.t > 0) && decide (x.t ≤ now)) = decide (0 < x.t ∧ x.t ≤ now)
  rw [Bool.decide_and]
theorem exp48 {gs : List Ga} (h : SmG gs) (h4 : gs.length < 20) (now : Int) (N : Nat) (hN : 190010 ≤ N) : Gam.pureD (callF tab ext N) 48 [.agg (gst gs).cells, num now] = some (.sl false 10 (sltsC ((exG now gs).map Ga.slt))) := by
  have hl := List.length_filter_le (expB now) gs
  have key := expired_pure (gst gs) (gst_small gs h) now (by rw [exp_filter, List.length_map]; omega) N hN
  rw [exp_filter, List.length_map, isort_map _ _ (by omega)] at key
  exact key
theorem exG_mem {now : Int} {gs : List Ga} : ∀ x, x ∈ exG now gs → x ∈ gs ∧ 0 < x.t ∧ x.t ≤ now := fun x hx => by
  have h1 := List.mem_filter.1 ((exG_perm now gs).mem_iff.1 hx)
  exact ⟨h1.1, of_decide_eq_true h1.2⟩
theorem exG_ne {now : Int} {gs : List Ga} (h : SrtG gs) : (exG now gs).Pairwise fun a b => a.g ≠ b.g := by
  have h1 : (gs.filter (expB now)).Pairwise fun a b => a.g ≠ b.g := (List.Pairwise.filter _ h).imp fun hab e => by omega
  exact (List.Perm.pairwise_iff (fun hab e => hab e.symm) (exG_perm now gs)).2 h1
theorem exG_len (now : Int) (gs : List Ga) : (exG now gs).length ≤ gs.length := by
  have h1 := (exG_perm now gs).length_eq
  have h2 := List.length_filter_le (expB now) gs
  omega
theorem kn_mem {gs : List Ga} (hs : SrtG gs) {x : Ga} (hx : x ∈ gs) : knG x.g gs = true ∧ getG x.g gs = x := by
  obtain ⟨j, hj, rfl⟩ := List.getElem_of_mem hx
  have hlow : lowG gs[j].g gs = j := lowG_eq _ gs j (by omega) (fun k hk hkj => srtG_get hs hkj hj) (fun _ => by omega)
  unfold knG getG
  rw [hlow, List.getElem?_eq_getElem hj]
  simp
theorem del_mem {gs : List Ga} (hs : SrtG gs) {x y : Ga} (hx : x ∈ gs) : y ∈ delG x.g gs ↔ y ∈ gs ∧ y.g ≠ x.g := by
  obtain ⟨j, hj, rfl⟩ := List.getElem_of_mem hx
  have hlow : lowG gs[j].g gs = j := lowG_eq _ gs j (by omega) (fun k hk hkj => srtG_get hs hkj hj) (fun _ => by omega)
  unfold delG
  rw [hlow]
  constructor
  · intro h
    rcases List.mem_append.1 h with h | h
    · obtain ⟨k, hk, rfl⟩ := List.getElem_of_mem h
      rw [List.length_take] at hk
      rw [List.getElem_take]
      have := srtG_get hs (show k < j by omega) hj
      exact ⟨List.getElem_mem _, by omega⟩
    · obtain ⟨k, hk, rfl⟩ := List.getElem_of_mem h
      rw [List.length_drop] at hk
      rw [List.getElem_drop]
      have := srtG_get hs (show j < j + 1 + k by omega) (by omega)
      exact ⟨List.getElem_mem _, by omega⟩
  · rintro ⟨h, hne⟩
    obtain ⟨k, hk, rfl⟩ := List.getElem_of_mem h
    have hkj : k ≠ j := fun e => by subst e; exact hne rfl
    by_cases hlt : k < j
    · exact List.mem_append.2 (.inl (List.mem_take_iff_getElem.2 ⟨k, by omega, rfl⟩))
    · exact List.mem_append.2 (.inr (List.mem_drop_iff_getElem.2 ⟨k - (j + 1), by omega, by congr 1; omega⟩))
/-! ### A clock input, in plain terms -/
def clk1 (most : Int) (s : Stp) (c : Rs) (x : Ga) : Rs :=
  if ((sumM x.M : Nat) : Int) ≤ most then ⟨delG x.g c.gs, c.O ++ [⟨0, mrgM x.g x.M (undS s c.O.length)⟩], c.F ++ mrgF (x.M.map (msV x.g)) aggT (undS s c.O.length), c.L⟩
  else ⟨delG x.g c.gs, c.O, c.F ++ rejF (x.M.map (msV x.g)) typT, c.L ++ x.M.map (msV x.g)⟩
def clS (i : Nat) : Stp := ⟨(i : Int) + 1, [0, 3]⟩
def clkR (most : Int) (i : Nat) (now : Int) (gs : List Ga) : Rs := (exG now gs).foldl (clk1 most (clS i)) ⟨gs, [], [], []⟩
structure CkI (g0 : List Ga) (c : Rs) : Prop where
  srt : SrtG c.gs
  sub : ∀ x, x ∈ c.gs → x ∈ g0
  len : c.gs.length ≤ g0.length
  fat : heldG c.gs + c.F.length = heldG g0
  out : c.O.length ≤ c.F.length
  let' : c.L.length ≤ c.F.length
theorem clk1_I {g0 : List Ga} {most : Int} {s : Stp} {c : Rs} {x : Ga} (h : CkI g0 c) (hx : x ∈ c.gs) (hne : x.M ≠ []) : CkI g0 (clk1 most s c x) := by
  obtain ⟨hk, hg⟩ := kn_mem h.srt hx
  have hh := heldG_del hk
  rw [hg] at hh
  have hl := delG_len x.g c.gs
  have hpos : 0 < x.M.length := List.length_pos_iff.2 hne
  have hf := h.fat
  have ho := h.out
  have hle := h.let'
  have hlen := h.len
  unfold clk1
  split
  · refine ⟨delG_srt h.srt, fun y hy => h.sub y (delG_mem hy), by dsimp only; omega, ?_, ?_, ?_⟩
    · simp only [List.length_append, mrgF, List.length_map]; omega
    · simp only [List.length_append, mrgF, List.length_map, List.length_singleton]; omega
    · simp only [List.length_append, mrgF, List.length_map]; omega
  · refine ⟨delG_srt h.srt, fun y hy => h.sub y (delG_mem hy), by dsimp only; omega, ?_, ?_, ?_⟩
    · simp only [List.length_append, rejF, List.length_map]; omega
    · simp only [List.length_append, rejF, List.length_map]; omega
    · simp only [List.length_append, rejF, List.length_map]; omega
theorem clk1_gs (most : Int) (s : Stp) (c : Rs) (x : Ga) : (clk1 most s c x).gs = delG x.g c.gs := by unfold clk1; split <;> rfl
theorem clk_fold {g0 : List Ga} {most : Int} {s : Stp} : ∀ (E : List Ga) (c : Rs), CkI g0 c → (∀ x, x ∈ E → x ∈ c.gs ∧ x.M ≠ []) → (E.Pairwise fun a b => a.g ≠ b.g) →
    CkI g0 (E.foldl (clk1 most s) c) ∧ (∀ y, y ∈ (E.foldl (clk1 most s) c).gs ↔ y ∈ c.gs ∧ ∀ x, x ∈ E → y.g ≠ x.g)
  | [], c, h, _, _ => ⟨h, fun y => by simp⟩
  | x :: E, c, h, hx, hp => by
    obtain ⟨hx1, hxE⟩ := hx x List.mem_cons_self
    have hp2 := List.pairwise_cons.1 hp
    have h1 := clk1_I (most := most) (s := s) h hx1 hxE
    have ih := clk_fold (most := most) (s := s) E (clk1 most s c x) h1 (fun y hy => by
      have hy2 := hx y (List.mem_cons_of_mem _ hy)
      refine ⟨?_, hy2.2⟩
      rw [clk1_gs]
      exact (del_mem h.srt hx1).2 ⟨hy2.1, fun e => hp2.1 y hy e.symm⟩) hp2.2
    refine ⟨ih.1, fun y => ?_⟩
    rw [List.foldl_cons, ih.2 y, clk1_gs, del_mem h.srt hx1]
    constructor
    · rintro ⟨⟨h3, h4⟩, h5⟩
      refine ⟨h3, fun z hz => ?_⟩
      rcases List.mem_cons.1 hz with rfl | hz
      · exact h4
      · exact h5 z hz
    · rintro ⟨h3, h4⟩
      exact ⟨⟨h3, h4 x List.mem_cons_self⟩, fun z hz => h4 z (List.mem_cons_of_mem _ hz)⟩
end Go.Proofs.YthphniobeigklaaGreatDoor.Ag

/- aggregator.Step at a clock input. -/
namespace Go.Proofs.YthphniobeigklaaGreatDoor.Ag
open Go Go.Em Go.Proofs.YthphniobeigklaaGreatDoor
set_option maxRecDepth 100000

def zeO : List X := [num 0, num 0, .sl true 10 [], .sl true 11 [], .sl true 11 [], .sl true 6 [], .sl true 10 []]
section
variable (nu ti li most : Int) (ex es ss s2 : List (List X)) (i : Nat) (now : Int) (O O2 : List Otp) (F F2 : List Fte) (L L2 : List Msg) (n j : Nat) (N : Nat)
def ckB : List Bx := [.var (clR false i now), .var zeO, .var (bX nu ti li ex (tyX most) ruX ss 3 O.length 4 F.length 5 L.length), .row 11 (otpsC O), .row 6 (ftesC F), .row 10 (msgsC L)]
def ckH : St := ⟨[(5, .ptr 0 0 0), (6, .ptr 1 0 0), (7, .ptr 2 0 0), (28, .sl false 10 es), (29, nat n), (30, nat j)], ckB nu ti li most ex ss i now O F L⟩
def ckE : St := ⟨[(5, .ptr 0 0 0), (6, .ptr 1 0 0), (7, .ptr 2 0 0), (28, .sl false 10 es), (29, nat n), (30, nat j), (31, boolX false)], ckB nu ti li most ex ss i now O F L⟩
theorem ck_canon : canon 0 (ckH nu ti li most ex es ss i now O F L n j) = some (ckH nu ti li most ex es ss i now O F L n j) := by kernel_rfl
theorem ck_end (h : ¬ j < n) : run (callF tab ext N) 0 N (loopAt 27 0) (ckH nu ti li most ex es ss i now O F L n j) = some (.exit 1, ckE nu ti li most ex es ss i now O F L n j) :=
  run_of [(31, .b false)] [] (pf1 (nlt_nat h)) (lo' := []) (by kernel_rfl)
theorem ck_M (q t : Int) (ms : List (List X)) (hj : j < n) (hn : n < 1000) (he : es[j]? = some (slX q t ms))
    (h49 : Gam.pureD (callF tab ext N) 49 [.agg [num 0, num 0, .sl false 10 ss], .agg (kv q).cells] = some (.tup [.agg [num 0, num 0, .sl false 10 s2], boolX true]))
    (h50 : callF tab ext N (.fn 50) [.ptr 0 0 0, .agg (kv q).cells, .sl false 10 ms, .agg [nat (i + 1), .sl false 1 [[num 0], [num 3]]]] (bdB nu ti li most ex s2 O F L) = some (.tup [], bdM nu ti li most ex s2 O2 F2 L2)) :
    ∃ υ, run (callF tab ext N) 0 N (loopAt 27 0) (ckH nu ti li most ex es ss i now O F L n j) = some (.norm, υ) ∧ canon 0 υ = some (ckH nu ti li most ex es s2 i now O2 F2 L2 n (j + 1)) :=
  rd_of [(31, .b true), (32, .e (slX q t ms)), (43, .p (.tup [.agg [num 0, num 0, .sl false 10 s2], boolX true])), (56, .r (.tup []) (bdM nu ti li most ex s2 O2 F2 L2)), (57, .i (Int.ofNat (j + 1)))] (pf5 (lt_nat hj) he h49 h50 (next_nat (j := j) (by omega))) (by kernel_rfl)
theorem ck_R (q t : Int) (ms : List (List X)) (hj : j < n) (hn : n < 1000) (he : es[j]? = some (slX q t ms))
    (h49 : Gam.pureD (callF tab ext N) 49 [.agg [num 0, num 0, .sl false 10 ss], .agg (kv q).cells] = some (.tup [.agg [num 0, num 0, .sl false 10 s2], boolX true]))
    (h50 : callF tab ext N (.fn 50) [.ptr 0 0 0, .agg (kv q).cells, .sl false 10 ms, .agg [nat (i + 1), .sl false 1 [[num 0], [num 3]]]] (bdB nu ti li most ex s2 O F L) = some (.tup [], bdR nu ti li most ex s2 O2 F2 L2)) :
    ∃ υ, run (callF tab ext N) 0 N (loopAt 27 0) (ckH nu ti li most ex es ss i now O F L n j) = some (.norm, υ) ∧ canon 0 υ = some (ckH nu ti li most ex es s2 i now O2 F2 L2 n (j + 1)) :=
  rd_of [(31, .b true), (32, .e (slX q t ms)), (43, .p (.tup [.agg [num 0, num 0, .sl false 10 s2], boolX true])), (56, .r (.tup []) (bdR nu ti li most ex s2 O2 F2 L2)), (57, .i (Int.ofNat (j + 1)))] (pf5 (lt_nat hj) he h49 h50 (next_nat (j := j) (by omega))) (by kernel_rfl)
theorem ck_fn (h46 : Gam.pureD (callF tab ext N) 46 [.agg [num 0, num 0, .sl false 10 ss]] = some (.agg [num 0, num 0, .sl false 10 ss])) (h48 : Gam.pureD (callF tab ext N) 48 [.agg [num 0, num 0, .sl false 10 ss], num now] = some (.sl false 10 es))
    (hl : run (callF tab ext N) 0 N (.loop (loopAt 27 0)) (ckH nu ti li most ex es ss i now [] [] [] es.length 0) = some (.exit 1, ckE nu ti li most ex es s2 i now O F L n j)) :
    Gam.pureD (callF tab ext (N + 1)) 27 [.agg (nodX nu ti li ex (tyX most) ruX), .agg [num 0, num 0, .sl false 10 ss], .agg (clR false i now)] = some (.agg (rsX s2 O F L)) := by
  have d1 := otpsC_length O
  have d2 := ftesC_length F
  have d3 := msgsC_length L
  have hl' : run (callF tab ext N) 0 N (.loop (loopAt 27 0)) ⟨[(5, .ptr 2 0 0), (6, .ptr 3 0 0), (7, .ptr 4 0 0), (28, .sl false 10 es), (29, nat es.length), (30, num 0)], [.var (nodX nu ti li ex (tyX most) ruX), .var [num 0, num 0, .sl false 10 ss], .var (clR false i now), .var zeO, .var (bX nu ti li ex (tyX most) ruX ss 5 0 6 0 7 0), .row 11 [], .row 6 [], .row 10 []]⟩ = some (.exit 1, ckE nu ti li most ex es s2 i now O F L n j) := by
    rw [← hl]
    exact loop_canon (by kernel_rfl) (ck_canon ..)
  unfold ckE ckB at hl'
  unfold rsX
  generalize otpsC O = Oc at *
  generalize ftesC F = Fc at *
  generalize msgsC L = Lc at *
  generalize O.length = no at *
  generalize F.length = nf at *
  generalize L.length = nl at *
  exact pure_of [(12, .p (.agg [num 0, num 0, .sl false 10 ss])), (28, .p (.sl false 10 es))] [(.exit 1, ⟨[(5, .ptr 0 0 0), (6, .ptr 1 0 0), (7, .ptr 2 0 0), (28, .sl false 10 es), (29, nat n), (30, nat j), (31, boolX false)], [.var (clR false i now), .var zeO, .var (bX nu ti li ex (tyX most) ruX s2 3 no 4 nf 5 nl), .row 11 Oc, .row 6 Fc, .row 10 Lc]⟩)] (pf3 h46 h48 hl')
    (x := .agg [num 0, num 0, .sl false 10 s2, .bs 0 0 no, .sl true 11 [], .bs 1 0 nf, .bs 2 0 nl]) (bx := [.row 11 Oc, .row 6 Fc, .row 10 Lc]) (by kernel_rfl) (data_agg (dataL_cons rfl (dataL_cons rfl (dataL_cons rfl (dataL_cons (data_bs rfl d1.symm) (dataL_cons rfl (dataL_cons (data_bs rfl d2.symm) (dataL_cons (data_bs rfl d3.symm) rfl))))))))
end
theorem GsI.grpOk {gs : List Ga} {k : Nat} (h : GsI gs k) (hk : k ≤ 40) {x : Ga} (hx : x ∈ gs) : GrpOk x.g x.M := by
  have h1 := h.key x hx
  have h2 := h.len x hx
  exact ⟨List.length_pos_iff.2 (h.ne x hx), by omega, by omega, fun m hm => by have := h.place x hx m hm; omega, h.inc x hx⟩
theorem GsI.few4 {gs : List Ga} {k : Nat} (h : GsI gs k) : gs.length ≤ 4 := by
  have key : ∀ (l : List Int) (lo c : Int), l.Pairwise (· < ·) → (∀ v, v ∈ l → lo < v ∧ v ≤ c) → (l.length : Int) + lo ≤ max lo c := by
    intro l
    induction l with
    | nil => intro lo c _ _; simp; omega
    | cons a r ih =>
      intro lo c hp hb
      have h1 := List.pairwise_cons.1 hp
      have h2 := ih a c h1.2 (fun v hv => ⟨h1.1 v hv, (hb v (List.mem_cons_of_mem _ hv)).2⟩)
      have h3 := hb a List.mem_cons_self
      simp only [List.length_cons]; omega
  have k := key (gs.map (·.g)) (-1) 3 (by rw [List.pairwise_map]; exact h.srt) (fun v hv => by
    obtain ⟨x, hx, rfl⟩ := List.mem_map.1 hv
    have := h.key x hx
    omega)
  rw [List.length_map] at k
  omega
/-- The step at a clock input. -/
theorem step_clk (nu ti li most : Int) (cd : Nat) (gs : List Ga) (now : Int) (i : Nat) (h : GsI gs i) (hi : i ≤ 40) (hheld : heldG gs < 200) (N : Nat) (hN : 193000 ≤ N) :
    Gam.pureD (callF tab ext N) 27 [.agg (nodX nu ti li (exN cd) (tyX most) ruX), .agg (gst gs).cells, .agg (clR false i now)] = some (.agg (clkR most i now gs).cells) := by
  obtain ⟨M, rfl⟩ : ∃ M, N = M + 1 := ⟨N - 1, by omega⟩
  have hsm := h.sm hi
  have h4 := h.few4
  have h46 := clone_state_pure M (gst gs) (gst_small gs hsm).ok (by omega)
  have h48 := exp48 hsm (by omega) now M (by omega)
  have hE := exG_mem (now := now) (gs := gs)
  have hne := exG_ne (now := now) h.srt
  have hEl := exG_len now gs
  have key : ∀ j, j ≤ (exG now gs).length → CkI gs (((exG now gs).take j).foldl (clk1 most (clS i)) ⟨gs, [], [], []⟩) ∧ ∀ hj : j < (exG now gs).length, (exG now gs)[j] ∈ (((exG now gs).take j).foldl (clk1 most (clS i)) ⟨gs, [], [], []⟩).gs := fun j _ => by
    have := clk_fold (most := most) (s := clS i) (g0 := gs) ((exG now gs).take j) ⟨gs, [], [], []⟩ ⟨h.srt, fun x hx => hx, Nat.le_refl _, rfl, Nat.le_refl 0, Nat.le_refl 0⟩ (fun x hx => ⟨(hE x (List.mem_of_mem_take hx)).1, h.ne x (hE x (List.mem_of_mem_take hx)).1⟩) hne.take
    refine ⟨this.1, fun hj => (this.2 _).2 ⟨(hE _ (List.getElem_mem hj)).1, fun x hx => ?_⟩⟩
    obtain ⟨k, hk, rfl⟩ := List.getElem_of_mem hx
    rw [List.length_take] at hk
    rw [List.getElem_take]
    exact fun e => List.pairwise_iff_getElem.1 hne k j (by omega) hj (by omega) e.symm
  have hel : (sltsC ((exG now gs).map Ga.slt)).length = (exG now gs).length := by rw [sltsC_length, List.length_map]
  refine ck_fn nu ti li most (exN cd) (sltsC ((exG now gs).map Ga.slt)) (sltsC (gst gs).slots) (sltsC (gst (clkR most i now gs).gs).slots) i now (clkR most i now gs).O (clkR most i now gs).F (clkR most i now gs).L (sltsC ((exG now gs).map Ga.slt)).length (exG now gs).length M h46 h48 ?_
  refine loop_for (σ := fun j => ckH nu ti li most (exN cd) (sltsC ((exG now gs).map Ga.slt)) (sltsC (gst (((exG now gs).take j).foldl (clk1 most (clS i)) ⟨gs, [], [], []⟩).gs).slots) i now (((exG now gs).take j).foldl (clk1 most (clS i)) ⟨gs, [], [], []⟩).O (((exG now gs).take j).foldl (clk1 most (clS i)) ⟨gs, [], [], []⟩).F (((exG now gs).take j).foldl (clk1 most (clS i)) ⟨gs, [], [], []⟩).L (sltsC ((exG now gs).map Ga.slt)).length j) (k := (exG now gs).length) (ck_canon ..) (fun j hj => ?_) ?_ (by simp) (by omega)
  · obtain ⟨hc, hm⟩ := key j (by omega)
    have hmem := hm hj
    have hmg := (hE _ (List.getElem_mem hj)).1
    rw [List.take_succ_eq_append_getElem hj, List.foldl_append]
    simp only [List.foldl_cons, List.foldl_nil]
    have he : (sltsC ((exG now gs).map Ga.slt))[j]? = some (exG now gs)[j].slt.cells := by
      have := sltsC_get (l := (exG now gs).map Ga.slt) (j := j) (by simpa using hj)
      rw [this]
      simp
    generalize ((exG now gs).take j).foldl (clk1 most (clS i)) ⟨gs, [], [], []⟩ = c at *
    generalize (exG now gs)[j] = x at *
    clear key
    obtain ⟨hk, _⟩ := kn_mem hc.srt hmem
    have hcl := hc.len
    have hcs : SmG c.gs := ⟨by omega, fun y hy => hsm.2 y (hc.sub y hy)⟩
    have h49 := rem49 c.gs hc.srt hcs x.g hk M (by omega)
    have hf := hc.fat
    have ho := hc.out
    have hle := hc.let'
    have hgo := h.grpOk hi hmg
    have hst : (clS i).ok := ⟨by simp [clS]⟩
    unfold clk1
    by_cases hs : ((sumM x.M : Nat) : Int) ≤ most
    · rw [if_pos hs]
      have h50 := fin_ok nu ti li most (exN cd) (sltsC (gst (delG x.g c.gs)).slots) c.O c.F c.L x.g x.M (clS i) hgo hst (by simp [clS]) (by omega) (by omega) hs M (by omega)
      exact ck_M nu ti li most (exN cd) _ _ _ i now c.O _ c.F _ c.L _ _ j M x.g x.t (msgsC (x.M.map (msV x.g))) (by omega) (by omega) he h49 h50
    · rw [if_neg hs]
      have h50 := fin_no nu ti li most (exN cd) (sltsC (gst (delG x.g c.gs)).slots) c.O c.F c.L x.g x.M (clS i) hgo hst (by simp [clS]) (by omega) (by omega) (by omega) M (by omega)
      exact ck_R nu ti li most (exN cd) _ _ _ i now c.O _ c.F _ c.L _ _ j M x.g x.t (msgsC (x.M.map (msV x.g))) (by omega) (by omega) he h49 h50
  · rw [List.take_length]
    exact ck_end nu ti li most (exN cd) _ _ i now _ _ _ _ _ M (by omega)
end Go.Proofs.YthphniobeigklaaGreatDoor.Ag
