/- AggregatorFull: states whose messages bear tight slices are copied to plain ones, and are the same as these. -/
import Derived.Test.YthphniobeigklaaGreatDoorB15
set_option linter.all false
namespace Go.Proofs.YthphniobeigklaaGreatDoor.Ag
open Go Go.Em Go.Proofs.YthphniobeigklaaGreatDoor
set_option maxRecDepth 100000

def fB : Val := bodyV (some 0) 0
def fM (i : Nat) : Msg := ⟨⟨((i + 1 : Nat) : Int), [1]⟩, 1, [((i + 1 : Nat) : Int)], fB⟩
/-- As the law builds a message. -/
def fX (i : Nat) : List X := [nat (i + 1), .sl true 1 [[num 1]], num 1, .sl true 1 [[nat (i + 1)]]] ++ fB.cells
def fL (a k : Nat) : List Msg := (List.range' a k).map fM
def fT (a k : Nat) : List (List X) := (List.range' a k).map fX
/-- A slot as the law builds it. -/
def rwT (q : Int) (M : List (List X)) : List X := (kv q).cells ++ [num 0, num 0, .sl false 10 M, .sl true 6 []]
def rwP (q : Int) (M : List (List X)) : List X := slotC 2 q 0 ⟨#[]⟩ [] [] 0 0 M []
theorem fL_len (a k : Nat) : (fL a k).length = k := by simp [fL]
theorem fT_len (a k : Nat) : (fT a k).length = k := by simp [fT]
theorem fL_get {a k j : Nat} (h : j < k) : (msgsC (fL a k))[j]? = some (fM (a + j)).cells := by
  unfold msgsC fL
  rw [List.getElem?_map, List.getElem?_map, List.getElem?_range' h]
  simp
theorem fT_get {a k j : Nat} (h : j < k) : (fT a k)[j]? = some (fX (a + j)) := by
  unfold fT
  rw [List.getElem?_map, List.getElem?_range' h]
  simp
theorem fM_ok (i : Nat) : (fM i).ok := ⟨⟨by simp [fM]⟩, by simp [fM], by
  have := bodyV_size (some 0) 0
  show (bodyV (some 0) 0).size ≤ 60000
  omega⟩
theorem fL_take {a k j : Nat} (h : j < k) : msgsC (fL a (j + 1)) = msgsC (fL a j) ++ [(fM (a + j)).cells] := by
  unfold fL msgsC
  rw [List.range'_concat]
  simp
theorem cT_round (items acc : List (List X)) (q : Int) (i n j : Nat) (he : items[j]? = some (fX i)) (hj : j < n) (hn : n < 10000) (ha : j = acc.length) (N : Nat) (hN : 190001 ≤ N) :
    ∃ υ, run (callF tab ext N) 0 N (loopAt 79 0) (YthphniobeigklaaGreatDoor.csH items acc [] n j 2 q 0 ⟨#[]⟩ [] [] 0 0) = some (.norm, υ) ∧ canon 0 υ = some (YthphniobeigklaaGreatDoor.csH items (acc ++ [(fM i).cells]) [] n (j + 1) 2 q 0 ⟨#[]⟩ [] [] 0 0) :=
  rd_of [(17, .b true), (18, .e (fX i)), (22, .p (.agg (fM i).cells)), (24, .app), (25, .i (Int.ofNat (j + 1)))] (pf5 (lt_nat hj) he (clone_msg N (fM i) (fM_ok i) hN) (app_ok j 2 152 ha (by omega) (by omega)) (next_nat (j := j) (by omega))) (by kernel_rfl)
theorem clone79T (q : Int) (a k : Nat) (hk : k ≤ 300) (N : Nat) (hN : 190005 ≤ N) : Gam.pureD (callF tab ext N) 79 [.agg (rwP q (fT a k))] = some (.agg (rwP q (msgsC (fL a k)))) := by
  obtain ⟨M, rfl⟩ : ∃ M, N = M + 1 := ⟨N - 1, by omega⟩
  have hl := fT_len a k
  have hm : (msgsC (fL a k)).length = k := by rw [msgsC_length, fL_len]
  have hkv := clone_val M (kv q) (by have := kv_ok q; unfold Val.ok at this; omega) (by have := kv_ok q; unfold Val.ok at this; omega)
  have h1 : run (callF tab ext M) 0 M (.loop (loopAt 79 0)) (YthphniobeigklaaGreatDoor.csH (fT a k) [] [] (fT a k).length 0 2 q 0 ⟨#[]⟩ [] [] 0 0) = some (.exit 0, YthphniobeigklaaGreatDoor.csE (fT a k) (msgsC (fL a k)) [] (fT a k).length (fT a k).length 2 q 0 ⟨#[]⟩ [] [] 0 0) := by
    refine loop_for (σ := fun j => YthphniobeigklaaGreatDoor.csH (fT a k) (msgsC (fL a j)) [] (fT a k).length j 2 q 0 ⟨#[]⟩ [] [] 0 0) (k := (fT a k).length) (YthphniobeigklaaGreatDoor.cs_canon ..) (fun j hj => ?_) ?_ (by simp) (by omega)
    · have hj' : j < k := by omega
      rw [fL_take hj']
      exact cT_round _ _ q (a + j) _ j (fT_get hj') hj (by omega) (by rw [msgsC_length, fL_len]) M (by omega)
    · rw [hl]
      exact run_of [(17, .b false)] [] (pf1 (nlt_nat (Nat.lt_irrefl k))) (lo' := []) (by kernel_rfl)
  have h2 : run (callF tab ext M) 0 M (.loop (loopAt 79 1)) (cvH (fT a k) (msgsC (fL a k)) [] [] 0 (fT a k).length 0 2 q 0 ⟨#[]⟩ [] [] 0 0) = some (.exit 2, cvE (fT a k) (msgsC (fL a k)) [] [] 0 (fT a k).length 0 2 q 0 ⟨#[]⟩ [] [] 0 0) :=
    loop_for (σ := fun _ => cvH (fT a k) (msgsC (fL a k)) [] [] 0 (fT a k).length 0 2 q 0 ⟨#[]⟩ [] [] 0 0) (k := 0) (cv_canon ..) (fun j hj => absurd hj (Nat.not_lt_zero j)) (run_of [] [] pf0 (lo' := []) (by kernel_rfl)) (by simp) (by omega)
  have hroom : 0 ≤ (fT a k).length ∧ roomOk (fT a k).length 152 = true := ⟨Nat.zero_le _, room_of (by omega) (by omega)⟩
  have hd : (X.agg [num 2, num q, num 0, strX ⟨#[]⟩, .sl false 6 [], .sl false 7 [], num 0, num 0, .bs 0 0 (fT a k).length, .bs 1 0 0]).data [.row 10 (msgsC (fL a k)), .row 6 []] false = some (.agg (rwP q (msgsC (fL a k)))) :=
    data_agg (dataL_cons rfl (dataL_cons rfl (dataL_cons rfl (dataL_cons rfl (dataL_cons rfl (dataL_cons rfl (dataL_cons rfl (dataL_cons rfl (dataL_cons (data_bs rfl (by omega)) (dataL_cons (data_bs rfl rfl) rfl))))))))))
  generalize msgsC (fL a k) = P at *
  generalize fT a k = T at *
  exact pure_of [(12, .mk), (45, .p (.agg (kv q).cells))] [(.exit 0, YthphniobeigklaaGreatDoor.csE T P [] T.length T.length 2 q 0 ⟨#[]⟩ [] [] 0 0), (.exit 2, cvE T P [] [] 0 T.length 0 2 q 0 ⟨#[]⟩ [] [] 0 0)] (pf4 hroom h1 h2 hkv) (x := .agg [num 2, num q, num 0, strX ⟨#[]⟩, .sl false 6 [], .sl false 7 [], num 0, num 0, .bs 0 0 T.length, .bs 1 0 0]) (bx := [.row 10 P, .row 6 []]) (by kernel_rfl) hd
/-! ### The state -/
def fsT (A B : List (List X)) : List (List X) := [rwT 0 A, rwT 1 B]
def fsP (A B : List (List X)) : List (List X) := [rwP 0 A, rwP 1 B]
theorem sT_round (l acc M P : List (List X)) (q : Int) (n j : Nat) (he : l[j]? = some (rwT q M)) (hj : j < n) (hn : n < 10000) (ha : j = acc.length) (N : Nat) (hc : Gam.pureD (callF tab ext N) 79 [.agg (rwP q M)] = some (.agg (rwP q P))) :
    ∃ υ, run (callF tab ext N) 0 N (loopAt 46 0) (stH 0 0 l acc n j) = some (.norm, υ) ∧ canon 0 υ = some (stH 0 0 l (acc ++ [rwP q P]) n (j + 1)) := by
  have h9 := pf5 (lt_nat hj) he hc (app_ok j 2 152 ha (by omega) (by omega)) (next_nat (j := j) (by omega))
  exact rd_of [(14, .b true), (15, .e (rwT q M)), (19, .p (.agg (rwP q P))), (21, .app), (22, .i (Int.ofNat (j + 1)))] h9 (by kernel_rfl)
theorem clone46T (a k b m : Nat) (hk : k ≤ 300) (hm : m ≤ 300) (N : Nat) (hN : 190010 ≤ N) : Gam.pureD (callF tab ext N) 46 [.agg [num 0, num 0, .sl false 10 (fsT (fT a k) (fT b m))]] = some (.agg [num 0, num 0, .sl false 10 (fsP (msgsC (fL a k)) (msgsC (fL b m)))]) := by
  obtain ⟨M, rfl⟩ : ∃ M, N = M + 10 := ⟨N - 10, by omega⟩
  have c1 := clone79T 0 a k hk (M + 9) (by omega)
  have c2 := clone79T 1 b m hm (M + 9) (by omega)
  generalize msgsC (fL a k) = P at *
  generalize fT a k = T at *
  generalize msgsC (fL b m) = P2 at *
  generalize fT b m = T2 at *
  obtain ⟨υ1, a1, b1⟩ := sT_round (fsT T T2) [] T P 0 2 0 rfl (by omega) (by omega) rfl (M + 9) c1
  obtain ⟨υ2, a2, b2⟩ := sT_round (fsT T T2) [rwP 0 P] T2 P2 1 2 1 rfl (by omega) (by omega) rfl (M + 9) c2
  have h1 : run (callF tab ext (M + 9)) 0 (M + 9) (.loop (loopAt 46 0)) (stH 0 0 (fsT T T2) [] 2 0) = some (.exit 0, stE 0 0 (fsT T T2) (fsP P P2) 2 2) :=
    iter_step (st_canon ..) a1 (iter_step b1 a2 (iter_end b2 (run_of [(14, .b false)] [] (pf1 (nlt_nat (Nat.lt_irrefl 2))) (lo' := []) (by kernel_rfl)) (by simp)))
  exact pure_of [] [(.exit 0, stE 0 0 (fsT T T2) (fsP P P2) 2 2)] (pf1 h1) (x := .agg [num 0, num 0, .bs 0 0 2]) (bx := [.row 10 (fsP P P2)]) (by kernel_rfl) (data_agg (dataL_cons rfl (dataL_cons rfl (dataL_cons (data_bs rfl rfl) rfl))))
/-! ### Equal -/
theorem eT_round (g : Nat) (l m : List (List X)) (i n j : Nat) (h1 : l[j]? = some (fM i).cells) (h2 : m[j]? = some (fX i)) (hj : j < n) (hn : n < 10000) (N : Nat) (hc : Gam.pureD (callF tab ext N) g [.agg (fM i).cells, .agg (fM i).cells] = some (boolX true)) :
    ∃ υ, run (callF tab ext N) 0 N (loopAt 93 0) (eh94 g l m n j) = some (.norm, υ) ∧ canon 0 υ = some (eh94 g l m n (j + 1)) := by
  have h9 := pf5 (lt_nat hj) h1 h2 hc (next_nat (j := j) (by omega))
  exact rd_of [(18, .b true), (20, .e (fM i).cells), (24, .e (fX i)), (29, .p (boolX true)), (31, .i (Int.ofNat (j + 1)))] h9 (by kernel_rfl)
theorem eq93T (a k : Nat) (hk : k ≤ 300) (N : Nat) (hN : 190003 ≤ N) : Gam.pureD (callF tab ext N) 93 [.sl false 10 (msgsC (fL a k)), .sl false 10 (fT a k), .fn 63 []] = some (boolX true) := by
  obtain ⟨M, rfl⟩ : ∃ M, N = M + 1 := ⟨N - 1, by omega⟩
  have hl := fT_len a k
  have hm : (msgsC (fL a k)).length = k := by rw [msgsC_length, fL_len]
  have h1 : run (callF tab ext M) 0 M (.loop (loopAt 93 0)) (eh94 63 (msgsC (fL a k)) (fT a k) (msgsC (fL a k)).length 0) = some (.exit 0, ee94 63 (msgsC (fL a k)) (fT a k) (msgsC (fL a k)).length (msgsC (fL a k)).length) := by
    refine loop_for (σ := fun j => eh94 63 (msgsC (fL a k)) (fT a k) (msgsC (fL a k)).length j) (k := (msgsC (fL a k)).length) (eh94_canon ..) (fun j hj => ?_) ?_ (by simp) (by omega)
    · exact eT_round 63 _ _ (a + j) _ j (fL_get (by omega)) (fT_get (by omega)) hj (by omega) M (msg_refl M _ (fM_ok _) (by omega))
    · exact run_of [(18, .b false)] [] (pf1 (nlt_nat (Nat.lt_irrefl (msgsC (fL a k)).length))) (lo' := []) (by kernel_rfl)
  have h2 : (Int.ofNat (msgsC (fL a k)).length != Int.ofNat (fT a k).length) = false := by rw [hl, hm]; simp
  generalize msgsC (fL a k) = P at *
  generalize fT a k = T at *
  exact pure_of [(14, .b false)] [(.exit 0, ee94 63 P T P.length P.length)] (pf2 h2 h1) (x := boolX true) (bx := []) (by kernel_rfl) rfl
theorem eq52T (q : Int) (a k : Nat) (hk : k ≤ 300) (N : Nat) (hN : 190005 ≤ N) : Gam.pureD (callF tab ext N) 52 [.agg (rwP q (msgsC (fL a k))), .agg (rwP q (fT a k))] = some (boolX true) := by
  obtain ⟨M, rfl⟩ : ∃ M, N = M + 2 := ⟨N - 2, by omega⟩
  have h1 := val_refl (M + 1) (kv q) (kv_ok q) (by omega)
  have h2 := eq93T a k hk (M + 1) (by omega)
  have h3 := eqr95 M 16 [] (fun a ha => nomatch ha) (by simp) (by simp; omega)
  generalize msgsC (fL a k) = P at *
  generalize fT a k = T at *
  exact pure_of [(9, .p (boolX true)), (29, .p (boolX true)), (36, .p (boolX true))] [] (pf3 h1 h2 h3) (x := boolX true) (bx := []) (by kernel_rfl) rfl
theorem eS_round (l m P T : List (List X)) (q : Int) (n j : Nat) (h1 : l[j]? = some (rwP q P)) (h2 : m[j]? = some (rwT q T)) (hj : j < n) (hn : n < 10000) (N : Nat) (hc : Gam.pureD (callF tab ext N) 52 [.agg (rwP q P), .agg (rwP q T)] = some (boolX true)) :
    ∃ υ, run (callF tab ext N) 0 N (loopAt 51 0) (eh60 52 l m n j) = some (.norm, υ) ∧ canon 0 υ = some (eh60 52 l m n (j + 1)) := by
  have h9 := pf5 (lt_nat hj) h1 h2 hc (next_nat (j := j) (by omega))
  exact rd_of [(18, .b true), (20, .e (rwP q P)), (24, .e (rwT q T)), (29, .p (boolX true)), (31, .i (Int.ofNat (j + 1)))] h9 (by kernel_rfl)
theorem eq28T (a k b m : Nat) (hk : k ≤ 300) (hm : m ≤ 300) (N : Nat) (hN : 190010 ≤ N) : Gam.pureD (callF tab ext N) 28 [.agg [num 0, num 0, .sl false 10 (fsP (msgsC (fL a k)) (msgsC (fL b m)))], .agg [num 0, num 0, .sl false 10 (fsT (fT a k) (fT b m))]] = some (boolX true) := by
  obtain ⟨M, rfl⟩ : ∃ M, N = M + 11 := ⟨N - 11, by omega⟩
  have c1 := eq52T 0 a k hk (M + 9) (by omega)
  have c2 := eq52T 1 b m hm (M + 9) (by omega)
  generalize msgsC (fL a k) = P at *
  generalize fT a k = T at *
  generalize msgsC (fL b m) = P2 at *
  generalize fT b m = T2 at *
  obtain ⟨υ1, a1, b1⟩ := eS_round (fsP P P2) (fsT T T2) P T 0 2 0 rfl rfl (by omega) (by omega) (M + 9) c1
  obtain ⟨υ2, a2, b2⟩ := eS_round (fsP P P2) (fsT T T2) P2 T2 1 2 1 rfl rfl (by omega) (by omega) (M + 9) c2
  have h1 : run (callF tab ext (M + 9)) 0 (M + 9) (.loop (loopAt 51 0)) (eh60 52 (fsP P P2) (fsT T T2) 2 0) = some (.exit 0, ee60 52 (fsP P P2) (fsT T T2) 2 2) :=
    iter_step (eh60_canon ..) a1 (iter_step b1 a2 (iter_end b2 (run_of [(18, .b false)] [] (pf1 (nlt_nat (Nat.lt_irrefl 2))) (lo' := []) (by kernel_rfl)) (by simp)))
  have h51 : Gam.pureD (callF tab ext (M + 10)) 51 [.sl false 10 (fsP P P2), .sl false 10 (fsT T T2), .fn 52 []] = some (boolX true) :=
    pure_of [] [(.exit 0, ee60 52 (fsP P P2) (fsT T T2) 2 2)] (pf1 h1) (x := boolX true) (bx := []) (by kernel_rfl) rfl
  exact pure_of [(22, .p (boolX true))] [] (pf1 h51) (x := boolX true) (bx := []) (by kernel_rfl) rfl
end Go.Proofs.YthphniobeigklaaGreatDoor.Ag

/- AggregatorFull: the step at the law's state. -/
namespace Go.Proofs.YthphniobeigklaaGreatDoor.Ag
open Go Go.Em Go.Proofs.YthphniobeigklaaGreatDoor
set_option maxRecDepth 100000

/-- The state, plain. -/
def fS (k m : Nat) : Stt := ⟨0, 0, [⟨kv 0, 0, 0, fL 0 k, []⟩, ⟨kv 1, 0, 0, fL k m, []⟩]⟩
theorem fSlt_ok (q : Int) (a k : Nat) (hk : k ≤ 300) : (Slt.mk (kv q) 0 0 (fL a k) []).ok :=
  ⟨kv_ok q, by show (fL a k).length ≤ 60000; rw [fL_len]; omega, fun m hm => by
    obtain ⟨i, _, rfl⟩ := List.mem_map.1 hm
    exact fM_ok i, by simp, by simp⟩
theorem fS_small (k m : Nat) (hk : k ≤ 300) (hm : m ≤ 300) : (fS k m).small := ⟨by simp [fS], fun x hx => by
  have h := fun q a k (hk : k ≤ 300) => fSlt_ok q a k hk
  rcases List.mem_cons.1 hx with rfl | hx
  · exact ⟨h 0 0 k hk, by show (fL 0 k).length ≤ 300; rw [fL_len]; exact hk, by simp⟩
  · rw [List.mem_singleton.1 hx]
    exact ⟨h 1 k m hm, by show (fL k m).length ≤ 300; rw [fL_len]; exact hm, by simp⟩⟩
theorem fS_get (k m : Nat) (hk : k ≤ 300) (hm : m ≤ 300) :
    (∀ N, 190050 ≤ N → callF tab ext N (.fn 81) [.agg (fS k m).cells, .agg (kv 0).cells] [] = some (getX true ⟨kv 0, 0, 0, fL 0 k, []⟩)) ∧ ∀ N, 190040 ≤ N → Gam.pureD (callF tab ext N) 86 [.agg (fS k m).cells, .agg (kv 0).cells] = some (.tup [nat 0, boolX true]) := by
  obtain ⟨i, b, x, hi, h1, h2, hg, hf⟩ := get_ex3 (fS k m) (fS_small k m hk hm) (kv 0)
  have hl : (fS k m).slots.length = 2 := rfl
  rw [hl] at hi
  have c0 : cmpV (kv 0) (kv 0) = 0 := by rw [cmp_kv]; rfl
  have c1 : cmpV (kv 1) (kv 0) = 1 := by rw [cmp_kv]; rfl
  have e0 : ((fS k m).slots.getD 0 dSlt).key = kv 0 := rfl
  have e1 : ((fS k m).slots.getD 1 dSlt).key = kv 1 := rfl
  cases b with
  | true =>
    obtain ⟨hlt, hc, hx⟩ := h1 rfl
    have hi2 : i = 0 ∨ i = 1 := by rw [hl] at hlt; omega
    rcases hi2 with rfl | rfl
    · subst hx
      exact ⟨hg, hf⟩
    · have : cmpV (kv 1) (kv 0) = 0 := hc
      rw [c1] at this
      cases this
  | false =>
    exfalso
    obtain ⟨hsp, hne⟩ := h2 rfl
    have hi2 : i = 0 ∨ i = 1 ∨ i = 2 := by omega
    rcases hi2 with rfl | rfl | rfl
    · exact hne (by rw [hl]; omega) c0
    · have h := hsp.before (by omega)
      rw [show 1 - 1 = 0 from rfl, e0, c0] at h
      omega
    · have h := hsp.before (by omega)
      rw [show 2 - 1 = 1 from rfl, e1, c1] at h
      omega
def m300 : Msg := ⟨⟨300, [1]⟩, 1, [300], fB⟩
theorem m300_ok : m300.ok := ⟨⟨by simp [m300]⟩, by simp [m300], by
  have := bodyV_size (some 0) 0
  show (bodyV (some 0) 0).size ≤ 60000
  omega⟩
theorem f_held (k m : Nat) (hk : k ≤ 300) (hm : m ≤ 300) (N : Nat) (hN : 60020 ≤ N) : Gam.pureD (callF tab ext N) 29 [.agg (fS k m).cells] = some (nat (k + m)) := by
  have h := held_pure (fS k m) (fS_small k m hk hm) N hN
  have e : (accOf (fS k m).slots).length = k + m := by simp [accOf, fS, fL_len]
  rw [e] at h
  exact h
section
variable (nu ti li most : Int) (ex ss sT : List (List X)) (N : Nat)
theorem m_full2 (q now e mm t : Int) (n k h : Nat) (ms : List (List X)) (h27 : decide (Int.ofNat (eKey :: ex).length > 0) = true) (h81 : callF tab ext (N + 600) (.fn 81) [.agg [num 0, num 0, .sl false 10 ss], .agg (kv q).cells] [] = some (getT q t k, [.row 10 ms, .row 6 []])) (h29 : Gam.pureD (callF tab ext (N + 600)) 29 [.agg [num 0, num 0, .sl false 10 ss]] = some (nat h)) (h87 : decide (Int.ofNat h ≥ 256) = true) :
    callF tab ext (N + 601) (.fn 47) [.ptr 0 0 0, .agg (inpX e mm now (some q) n)] (bx0 nu ti li most (eKey :: ex) ss) = some (.tup [], bx1 nu ti li most (eKey :: ex) ss (rejC e fullT) (msgX e mm (some q) n)) :=
  callF_of [(27, .b true), (68, .o (getT q t k) [.row 10 ms, .row 6 []]), (86, .p (nat h)), (87, .b true)] [] (pf5 (Eq.refl (twS nu ti li most ex ss (some q) now e mm n)) h27 h81 h29 h87) (by kernel_rfl)
theorem st_R2 (q e mm now : Int) (n : Nat) (f m : List X) (h46 : Gam.pureD (callF tab ext (N + 601)) 46 [.agg [num 0, num 0, .sl false 10 sT]] = some (.agg [num 0, num 0, .sl false 10 ss])) (h47 : callF tab ext (N + 601) (.fn 47) [.ptr 0 0 0, .agg (inpX e mm now (some q) n)] (bx0 nu ti li most ex ss) = some (.tup [], bx1 nu ti li most ex ss f m)) :
    Gam.pureD (callF tab ext (N + 602)) 27 [.agg (nodX nu ti li ex (tyX most) ruX), .agg [num 0, num 0, .sl false 10 sT], .agg (inpX e mm now (some q) n)] = some (.agg [num 0, num 0, .sl false 10 ss, .sl false 11 [], .sl false 11 [], .sl false 6 [f], .sl false 10 [m]]) :=
  pure_of [(12, .p (.agg [num 0, num 0, .sl false 10 ss])), (22, .r (.tup []) (bx1 nu ti li most ex ss f m))] [] (pf2 h46 h47) (x := .agg [num 0, num 0, .sl false 10 ss, .bs 0 0 0, .sl true 11 [], .bs 1 0 1, .bs 2 0 1]) (bx := [.row 11 [], .row 6 [f], .row 10 [m]]) (by kernel_rfl) rfl
theorem st_B2 (q e mm now : Int) (n : Nat) (s2 : List (List X)) (h46 : Gam.pureD (callF tab ext (N + 601)) 46 [.agg [num 0, num 0, .sl false 10 sT]] = some (.agg [num 0, num 0, .sl false 10 ss])) (h47 : callF tab ext (N + 601) (.fn 47) [.ptr 0 0 0, .agg (inpX e mm now (some q) n)] (bx0 nu ti li most ex ss) = some (.tup [], bx0 nu ti li most ex s2)) :
    Gam.pureD (callF tab ext (N + 602)) 27 [.agg (nodX nu ti li ex (tyX most) ruX), .agg [num 0, num 0, .sl false 10 sT], .agg (inpX e mm now (some q) n)] = some (.agg [num 0, num 0, .sl false 10 s2, .sl false 11 [], .sl false 11 [], .sl false 6 [], .sl false 10 []]) :=
  pure_of [(12, .p (.agg [num 0, num 0, .sl false 10 ss])), (22, .r (.tup []) (bx0 nu ti li most ex s2))] [] (pf2 h46 h47) (x := .agg [num 0, num 0, .sl false 10 s2, .bs 0 0 0, .sl true 11 [], .bs 1 0 0, .bs 2 0 0]) (bx := [.row 11 [], .row 6 [], .row 10 []]) (by kernel_rfl) rfl
end
/-- More than the limit: the message is rejected, the state stays. -/
theorem full_more (k m : Nat) (hk : k ≤ 256) (hkm : k + m = 256) (N : Nat) (hN : 193000 ≤ N) :
    Gam.pureD (callF tab ext N) 27 [.agg (nodX 0 0 5 [eKey] (tyX 999999999999999) ruX), .agg [num 0, num 0, .sl false 10 (fsT (fT 0 k) (fT k m))], .agg (inpX 300 1 0 (some 0) 0)] =
      some (.agg [num 0, num 0, .sl false 10 (fsP (msgsC (fL 0 k)) (msgsC (fL k m))), .sl false 11 [], .sl false 11 [], .sl false 6 [rejC 300 fullT], .sl false 10 [msgX 300 1 (some 0) 0]]) := by
  obtain ⟨K, rfl⟩ : ∃ K, N = K + 602 := ⟨N - 602, by omega⟩
  have h46 := clone46T 0 k k m (by omega) (by omega) (K + 601) (by omega)
  have h81 := (fS_get k m (by omega) (by omega)).1 (K + 600) (by omega)
  have h29 := f_held k m (by omega) (by omega) (K + 600) (by omega)
  rw [hkm] at h29
  change Gam.pureD (callF tab ext (K + 600)) 29 [.agg [num 0, num 0, .sl false 10 (fsP (msgsC (fL 0 k)) (msgsC (fL k m)))]] = _ at h29
  change callF tab ext (K + 600) (.fn 81) [.agg [num 0, num 0, .sl false 10 (fsP (msgsC (fL 0 k)) (msgsC (fL k m)))], .agg (kv 0).cells] [] = some (getT 0 0 (msgsC (fL 0 k)).length, [.row 10 (msgsC (fL 0 k)), .row 6 []]) at h81
  exact st_R2 0 0 5 999999999999999 [eKey] _ _ K 0 300 1 0 0 _ _ h46 (m_full2 0 0 5 999999999999999 [] _ K 0 0 300 1 0 0 _ 256 _ (ex_pos []) h81 h29 (by decide))
def fP (k m : Nat) : Stt := ⟨0, 0, [⟨kv 0, 0, 0, fL 0 k ++ [m300], []⟩, ⟨kv 1, 0, 0, fL k m, []⟩]⟩
/-- Up to the limit: the message is kept. -/
theorem full_less (k m : Nat) (hk : k ≤ 254) (hkm : k + m = 255) (N : Nat) (hN : 193000 ≤ N) :
    Gam.pureD (callF tab ext N) 27 [.agg (nodX 0 0 5 [eKey] (tyX 999999999999999) ruX), .agg [num 0, num 0, .sl false 10 (fsT (fT 0 k) (fT k m))], .agg (inpX 300 1 0 (some 0) 0)] =
      some (.agg [num 0, num 0, .sl false 10 (sltsC (fP k m).slots), .sl false 11 [], .sl false 11 [], .sl false 6 [], .sl false 10 []]) := by
  obtain ⟨K, rfl⟩ : ∃ K, N = K + 602 := ⟨N - 602, by omega⟩
  have h46 := clone46T 0 k k m (by omega) (by omega) (K + 601) (by omega)
  have h81 := (fS_get k m (by omega) (by omega)).1 (K + 600) (by omega)
  have h86 := (fS_get k m (by omega) (by omega)).2
  have h29 := f_held k m (by omega) (by omega) (K + 600) (by omega)
  rw [hkm] at h29
  have hlen : (fL 0 k ++ [m300]).length = k + 1 := by rw [List.length_append, fL_len]; rfl
  have hms : msgsC (fL 0 k ++ [m300]) = msgsC (fL 0 k) ++ [msgX 300 1 (some 0) 0] := by simp only [msgsC, List.map_append, List.map_cons, List.map_nil]; rfl
  have h83 := bodies83 (fL 0 k ++ [m300]) (by omega) (K + 600) (by omega)
  have hb : bodC (fL 0 k ++ [m300]) = bdG false (List.replicate (k + 1) (some 0, 0)) := by
    rw [bdG_false]
    apply List.ext_getElem?
    intro j
    by_cases hj : j < k + 1
    · have h1 : (fL 0 k ++ [m300])[j]? = some (fL 0 k ++ [m300])[j] := List.getElem?_eq_getElem (by omega)
      have h2 : (fL 0 k ++ [m300])[j].body = fB := by
        rcases List.mem_append.1 (List.getElem_mem (show j < (fL 0 k ++ [m300]).length by omega)) with h | h
        · obtain ⟨i, _, e⟩ := List.mem_map.1 h
          rw [← e]; rfl
        · rw [List.mem_singleton.1 h]; rfl
      unfold bodC bdC
      rw [List.getElem?_map, List.getElem?_map, h1, List.getElem?_replicate, if_pos hj, Option.map_some, Option.map_some, h2]
      rfl
    · rw [List.getElem?_eq_none (by unfold bodC; rw [List.length_map]; omega), List.getElem?_eq_none (by unfold bdC; rw [List.length_map, List.length_replicate]; omega)]
  have h38 := complete38 0 0 5 (tyX 999999999999999) ruX (List.replicate (k + 1) (some 0, 0)) (some 0, 0) 0 false 0 (by omega) (by
    intro n hn
    unfold nsOf at hn
    obtain ⟨b, hb, rfl⟩ := List.mem_map.1 hn
    rw [(List.mem_replicate.1 hb).2]
    decide) (by rw [List.length_replicate]; omega) (by rw [List.length_replicate]; omega) (by rw [List.length_replicate, List.getElem?_replicate, if_pos (by omega)]) (K + 600) (by omega)
  rw [← hb] at h38
  have hcr : compR 0 0 (List.replicate (k + 1) (some (0 : Int), 0)) (some 0, 0) = (false, 0) := rfl
  rw [hcr] at h38
  have h62 := put_at (fS k m) (fS_small k m (by omega) (by omega)) ⟨kv 0, 0, 0, fL 0 k ++ [m300], []⟩ ⟨kv_ok 0, by show (fL 0 k ++ [m300]).length ≤ 60000; omega, fun x hx => by
    rcases List.mem_append.1 hx with hx | hx
    · obtain ⟨i, _, rfl⟩ := List.mem_map.1 hx
      exact fM_ok i
    · rw [List.mem_singleton.1 hx]; exact m300_ok, by simp, by simp⟩ 0 true (Nat.zero_le _) (fun _ => by show 0 < 2; omega) h86 (K + 600) (by omega)
  have hml : (msgsC (fL 0 k)).length = k := by rw [msgsC_length, fL_len]
  change Gam.pureD (callF tab ext (K + 600)) 29 [.agg [num 0, num 0, .sl false 10 (fsP (msgsC (fL 0 k)) (msgsC (fL k m)))]] = _ at h29
  change callF tab ext (K + 600) (.fn 81) [.agg [num 0, num 0, .sl false 10 (fsP (msgsC (fL 0 k)) (msgsC (fL k m)))], .agg (kv 0).cells] [] = some (getT 0 0 (msgsC (fL 0 k)).length, [.row 10 (msgsC (fL 0 k)), .row 6 []]) at h81
  change Gam.pureD (callF tab ext (K + 600)) 62 [.agg [num 0, num 0, .sl false 10 (fsP (msgsC (fL 0 k)) (msgsC (fL k m)))], .agg (slX 0 0 (msgsC (fL 0 k ++ [m300])))] = some (.tup [.agg [num 0, num 0, .sl false 10 (sltsC (fP k m).slots)], num 0]) at h62
  have ht : List.take ((msgsC (fL 0 k)).length + 1) (msgsC (fL 0 k) ++ [msgX 300 1 (some 0) 0]) = msgsC (fL 0 k ++ [m300]) := by
    rw [hms, List.take_of_length_le (by simp)]
  refine st_B2 0 0 5 999999999999999 [eKey] _ _ K 0 300 1 0 0 _ h46 (mT_putn 0 0 5 999999999999999 [] _ _ 0 0 300 1 0 0 (msgsC (fL 0 k)).length 255 (msgsC (fL 0 k)) (bodC (fL 0 k ++ [m300])) K (ex_pos []) h81 h29 (by decide) ?_ ?_ ?_ ?_ ?_)
  · exact ⟨by omega, room_of (by omega) (by omega), rfl⟩
  · simp
  · rw [ht]; exact h83
  · exact h38
  · rw [ht]; exact h62
end Go.Proofs.YthphniobeigklaaGreatDoor.Ag

/- AggregatorFull, for all its arguments. -/
namespace Go.Proofs.YthphniobeigklaaGreatDoor.Ag
open Go Go.Em Go.Proofs.YthphniobeigklaaGreatDoor
set_option maxRecDepth 100000

def flN : List X := nodX 0 0 5 [eKey] (tyX 999999999999999) ruX
def slB (q : Int) (i k : Nat) : List X := (kv q).cells ++ [num 0, num 0, .bs i 0 k, .sl true 6 []]
def flB (A B : List (List X)) (a b : Nat) : List Bx := [.var flN, .var [num 0, num 0, .sl true 10 []], .var (slB 0 5 a), .var (slB 1 6 b), .var fB.cells, .row 10 A, .row 10 B]
section
variable (t : Bool) (k total j a b : Nat) (A B : List (List X)) (N : Nat)
def flH : St := ⟨[(1, boolX t), (5, .ptr 0 0 0), (6, nat k), (7, nat total), (8, .ptr 1 0 0), (9, .ptr 2 0 0), (10, .ptr 3 0 0), (11, .ptr 4 0 0), (12, nat j)], flB A B a b⟩
def flE : St := ⟨[(1, boolX t), (5, .ptr 0 0 0), (6, nat k), (7, nat total), (8, .ptr 1 0 0), (9, .ptr 2 0 0), (10, .ptr 3 0 0), (11, .ptr 4 0 0), (12, nat j), (34, boolX false)], flB A B a b⟩
theorem fl_canon : canon 0 (flH t k total j a b A B) = some (flH t k total j a b A B) := by kernel_rfl
theorem fl_end (h : ¬ j < total) : run (callF tab ext N) 0 N (loopAt 8 0) (flH t k total j a b A B) = some (.exit 0, flE t k total j a b A B) :=
  run_of [(34, .b false)] [] (pf1 (nlt_nat h)) (lo' := []) (by kernel_rfl)
theorem fl_a (h : j < total) (hk : j < k) (h2 : j < 1000) (ha : a = A.length) (ha2 : a < 1000) :
    ∃ υ, run (callF tab ext (N + 600)) 0 (N + 600) (loopAt 8 0) (flH t k total j a b A B) = some (.norm, υ) ∧ canon 0 υ = some (flH t k total (j + 1) (a + 1) b (A ++ [fX j]) B) := by
  have h1 := lt_nat h
  have h3 := next_nat (j := j) (by omega)
  have h4 := lt_nat hk
  have h5 := app_ok (acc := A) a 5 152 ha (by omega) (by omega)
  have h9 := pf6 h1 h3 h3 h4 h5 h3
  exact rd_of [(34, .b true), (38, .i (Int.ofNat (j + 1))), (42, .i (Int.ofNat (j + 1))), (48, .b true), (53, .app), (36, .i (Int.ofNat (j + 1)))] h9 (by kernel_rfl)
theorem fl_b (h : j < total) (hk : ¬ j < k) (h2 : j < 1000) (hb : b = B.length) (hb2 : b < 1000) :
    ∃ υ, run (callF tab ext (N + 600)) 0 (N + 600) (loopAt 8 0) (flH t k total j a b A B) = some (.norm, υ) ∧ canon 0 υ = some (flH t k total (j + 1) a (b + 1) A (B ++ [fX j])) := by
  have h1 := lt_nat h
  have h3 := next_nat (j := j) (by omega)
  have h4 := nlt_nat hk
  have h5 := app_ok (acc := B) b 5 152 hb (by omega) (by omega)
  have h9 := pf6 h1 h3 h3 h4 h5 h3
  exact rd_of [(34, .b true), (38, .i (Int.ofNat (j + 1))), (42, .i (Int.ofNat (j + 1))), (48, .b false), (59, .app), (36, .i (Int.ofNat (j + 1)))] h9 (by kernel_rfl)
end
theorem fT_snoc (a k : Nat) : fT a (k + 1) = fT a k ++ [fX (a + k)] := by
  unfold fT
  rw [List.range'_concat]
  simp
theorem fl_loop (t : Bool) (k total : Nat) (hkt : k ≤ total) (ht : total ≤ 256) (N : Nat) :
    run (callF tab ext (N + 600)) 0 (N + 600) (.loop (loopAt 8 0)) (flH t k total 0 0 0 [] []) = some (.exit 0, flE t k total total k (total - k) (fT 0 k) (fT k (total - k))) := by
  refine loop_for (σ := fun j => flH t k total j (min j k) (j - k) (fT 0 (min j k)) (fT k (j - k))) (k := total) ?_ (fun j hj => ?_) ?_ (by simp) (by omega)
  · have h0 : min 0 k = 0 := Nat.zero_min k
    have h1 : 0 - k = 0 := Nat.zero_sub k
    rw [h0, h1]
    exact fl_canon ..
  · by_cases hk : j < k
    · rw [show min j k = j by omega, show min (j + 1) k = j + 1 by omega, show j + 1 - k = j - k by omega, fT_snoc, show 0 + j = j by omega]
      exact fl_a t k total j j (j - k) (fT 0 j) (fT k (j - k)) N hj hk (by omega) (by rw [fT_len]) (by omega)
    · rw [show min j k = k by omega, show min (j + 1) k = k by omega, show j + 1 - k = (j - k) + 1 by omega, fT_snoc, show k + (j - k) = j by omega]
      exact fl_b t k total j k (j - k) (fT 0 k) (fT k (j - k)) N hj hk (by omega) (by rw [fT_len]) (by omega)
  · rw [show min total k = k by omega]
    exact fl_end t k total total k (total - k) _ _ (N + 600) (by omega)
theorem full_all (w : Int) (hw : 0 ≤ w ∧ w < 256) (t : Bool) (N : Nat) (hN : 194001 ≤ N) : Gam.pureD (callF tab ext N) 8 [u8X w, boolX t] = some (boolX true) := by
  obtain ⟨M, rfl⟩ : ∃ M, N = M + 601 := ⟨N - 601, by omega⟩
  obtain ⟨s, rfl⟩ := Int.eq_ofNat_of_zero_le hw.1
  have hk : IntKind.i64.wrap (1 + (IntKind.i64.wrap ((s : Nat) : Int)).tmod 254) = Int.ofNat (1 + s % 254) := by
    have e : IntKind.i64.wrap ((s : Nat) : Int) = ((s : Nat) : Int) := by rw [IntKind.wrap_i64]; omega
    rw [e, show ((s : Nat) : Int).tmod 254 = ((s % 254 : Nat) : Int) from rfl, IntKind.wrap_i64]
    simp only [Int.ofNat_eq_natCast]
    omega
  have hlt := Nat.mod_lt s (show 0 < 254 by omega)
  have h11 := known11 (M + 600) (by omega)
  generalize hkk : 1 + s % 254 = k at *
  have gA : ∀ m, 0 + m ≤ (fT k m).length := fun m => by rw [fT_len]; omega
  have g0 : 0 + k ≤ (fT 0 k).length := by rw [fT_len]; omega
  have tk : ∀ a m, List.take m (fT a m) = fT a m := fun a m => List.take_of_length_le (by rw [fT_len]; exact Nat.le_refl m)
  cases t with
  | true =>
    have hl := fl_loop true k 256 (by omega) (by omega) M
    have h27 := full_more k (256 - k) (by omega) (by omega) (M + 600) (by omega)
    have h28 := eq28T 0 k k (256 - k) (by omega) (by omega) (M + 600) (by omega)
    have h27' := h27
    rw [← tk 0 k, ← tk k (256 - k)] at h27'
    have h28' : Gam.pureD (callF tab ext (M + 600)) 28 [.agg [num 0, num 0, .sl false 10 (fsP (msgsC (fL 0 k)) (msgsC (fL k (256 - k))))], .agg [num 0, num 0, .sl false 10 (fsT (List.take k (fT 0 k)) (List.take (256 - k) (fT k (256 - k))))]] = some (boolX true) := by
      rw [tk, tk]; exact h28
    have g1 := gA (256 - k)
    clear h27 h28 tk gA
    generalize msgsC (fL 0 k) = P at *
    generalize msgsC (fL k (256 - k)) = P2 at *
    generalize fT 0 k = T at *
    generalize fT k (256 - k) = T2 at *
    generalize 256 - k = m at *
    have h9 := pf7 hk hl g0 g1 h27' h11 h28'
    exact pure_of [(23, .i (Int.ofNat k)), (75, .p (.agg [num 0, num 0, .sl false 10 (fsP P P2), .sl false 11 [], .sl false 11 [], .sl false 6 [rejC 300 fullT], .sl false 10 [msgX 300 1 (some 0) 0]])), (76, .p (boolX true)), (101, .p (boolX true))] [(.exit 0, flE true k 256 256 k m T T2)] h9 (x := boolX true) (bx := []) (by kernel_rfl) rfl
  | false =>
    have hl := fl_loop false k 255 (by omega) (by omega) M
    have h27 := full_less k (255 - k) (by omega) (by omega) (M + 600) (by omega)
    have hsm : (fP k (255 - k)).small := ⟨by simp [fP], fun x hx => by
      rcases List.mem_cons.1 hx with rfl | hx
      · refine ⟨⟨kv_ok 0, by show (fL 0 k ++ [m300]).length ≤ 60000; rw [List.length_append, fL_len]; simp; omega, fun x hx => ?_, by simp, by simp⟩, by show (fL 0 k ++ [m300]).length ≤ 300; rw [List.length_append, fL_len]; simp; omega, by simp⟩
        rcases List.mem_append.1 hx with hx | hx
        · obtain ⟨i, _, rfl⟩ := List.mem_map.1 hx
          exact fM_ok i
        · rw [List.mem_singleton.1 hx]; exact m300_ok
      · rw [List.mem_singleton.1 hx]
        exact ⟨fSlt_ok 1 k _ (by omega), by show (fL k (255 - k)).length ≤ 300; rw [fL_len]; omega, by simp⟩⟩
    have h29 := held_pure (fP k (255 - k)) hsm (M + 600) (by omega)
    have e : (accOf (fP k (255 - k)).slots).length = 256 := by
      simp [accOf, fP, fL_len]
      omega
    rw [e] at h29
    change Gam.pureD (callF tab ext (M + 600)) 29 [.agg [num 0, num 0, .sl false 10 (sltsC (fP k (255 - k)).slots)]] = some (num 256) at h29
    have h27' := h27
    rw [← tk 0 k, ← tk k (255 - k)] at h27'
    have g1 := gA (255 - k)
    clear h27 tk gA hsm e
    generalize sltsC (fP k (255 - k)).slots = P at *
    generalize fT 0 k = T at *
    generalize fT k (255 - k) = T2 at *
    generalize 255 - k = m at *
    have h9 := pf7 hk hl g0 g1 h27' h11 h29
    exact pure_of [(23, .i (Int.ofNat k)), (75, .p (.agg [num 0, num 0, .sl false 10 P, .sl false 11 [], .sl false 11 [], .sl false 6 [], .sl false 10 []])), (76, .p (boolX true)), (116, .p (num 256))] [(.exit 0, flE false k 255 255 k m T T2)] h9 (x := boolX true) (bx := []) (by kernel_rfl) rfl
end Go.Proofs.YthphniobeigklaaGreatDoor.Ag
