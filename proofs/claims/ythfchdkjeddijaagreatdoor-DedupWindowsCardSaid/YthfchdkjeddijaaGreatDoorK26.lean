/- DedupWindows comes to true on the machine. -/
import Derived.Test.YthfchdkjeddijaaGreatDoorK19
namespace Go.Proofs.YthfchdkjeddijaaGreatDoor
open Go.Em
set_option maxRecDepth 100000

/-! ### The plain law -/
/-- Keys that are w apart at most differ. -/
def Apart (w : Nat) (acc : List Nat) : Prop := ∀ i j, i < j → j - i ≤ w → ∀ (h : j < acc.length) (h' : i < acc.length), acc[i] ≠ acc[j]
theorem apart_nil (w : Nat) : Apart w [] := fun i j _ _ h => by simp at h
theorem apart_snoc {w : Nat} {acc : List Nat} {k : Nat} (h : Apart w acc) (hk : ¬ inLast w acc k) : Apart w (acc ++ [k]) := by
  intro i j hij hw hj hi
  simp only [List.length_append, List.length_singleton] at hj
  by_cases hj' : j < acc.length
  · rw [List.getElem_append_left hj', List.getElem_append_left (by omega)]
    exact h i j hij hw hj' (by omega)
  · have hje : j = acc.length := by omega
    subst hje
    rw [List.getElem_append_left (by omega)]
    simp only [List.getElem_append_right (Nat.le_refl _), Nat.sub_self, List.getElem_singleton]
    intro e
    exact hk ⟨i, by omega, by omega, e⟩
def insD (ds : List Nat) (k : Nat) : List Nat := if k ∈ ds then ds else ds ++ [k]
theorem mem_insD {ds : List Nat} {k x : Nat} : x ∈ insD ds k ↔ x ∈ ds ∨ x = k := by
  unfold insD
  split
  · rename_i h
    exact ⟨.inl, fun h' => h'.elim id fun e => e ▸ h⟩
  · simp
theorem nodup_sub : ∀ (l ds : List Nat), l.Nodup → (∀ x, x ∈ l → x ∈ ds) → l.length ≤ ds.length
  | [], _, _, _ => Nat.zero_le _
  | x :: r, ds, hn, hs => by
    rw [List.nodup_cons] at hn
    have h1 : x ∈ ds := hs x (List.mem_cons_self ..)
    have := nodup_sub r (ds.erase x) hn.2 (fun y hy => (List.mem_erase_of_ne (by intro e; subst e; exact hn.1 hy)).2 (hs y (List.mem_cons_of_mem _ hy)))
    rw [List.length_erase_of_mem h1] at this
    have := List.length_pos_of_mem h1
    simp only [List.length_cons]; omega
/-- Between two equal keys, at least w others were seen. -/
theorem apart_count {w : Nat} {acc ds : List Nat} (h : Apart w acc) {i k : Nat} (hik : i < k) (hk : k < acc.length) (e : acc[k] = acc[i]'(by omega)) (hds : ∀ j, i < j → j < k → ∀ hj : j < acc.length, acc[j] ∈ ds) : w ≤ ds.length := by
  have hlt : w < k - i := Nat.lt_of_not_le fun hle => h i k hik hle hk (by omega) e.symm
  have hl : ((acc.drop (k - w)).take w).length = w := by simp; omega
  rw [← hl]
  refine nodup_sub _ _ ?_ fun x hx => ?_
  · rw [List.Nodup, List.pairwise_iff_getElem]
    intro a b ha hb hab
    simp only [List.length_take, List.length_drop] at ha hb
    rw [List.getElem_take, List.getElem_take, List.getElem_drop, List.getElem_drop]
    exact h _ _ (by omega) (by omega) (by omega) (by omega)
  · obtain ⟨a, ha, rfl⟩ := List.getElem_of_mem hx
    simp only [List.length_take, List.length_drop] at ha
    rw [List.getElem_take, List.getElem_drop]
    exact hds _ (by omega) (by omega) (by omega)

/-! ### The map -/
def uEnts (ds : List Nat) : List (Value × X) := ds.map fun k => (Value.int .u8 (Int.ofNat k), X.v (.bool true))
theorem find_u (k : Nat) : ∀ (ds : List Nat) (i : Nat), (k ∈ ds → ∃ j, j < ds.length ∧ ds[j]? = some k ∧ mapFind (.int .u8 (Int.ofNat k)) (uEnts ds) i = some (some (i + j, .v (.bool true)))) ∧ (k ∉ ds → mapFind (.int .u8 (Int.ofNat k)) (uEnts ds) i = some none)
  | [], i => ⟨fun h => (by cases h), fun _ => rfl⟩
  | d :: r, i => by
    have hks : keySame (.int .u8 (Int.ofNat k)) (.int .u8 (Int.ofNat d)) = some (Int.ofNat k == Int.ofNat d) := rfl
    by_cases e : k = d
    · subst e
      have hb : (Int.ofNat k == Int.ofNat k) = true := BEq.rfl
      refine ⟨fun _ => ⟨0, by simp, rfl, ?_⟩, fun h => absurd (List.mem_cons_self ..) h⟩
      simp only [uEnts, List.map_cons, mapFind, hks, hb, Nat.add_zero]
    · have hb : (Int.ofNat k == Int.ofNat d) = false := by
        rw [beq_eq_false_iff_ne]; intro h; exact e (Int.ofNat.inj h)
      obtain ⟨h1, h2⟩ := find_u k r (i + 1)
      have hstep : mapFind (.int .u8 (Int.ofNat k)) (uEnts (d :: r)) i = mapFind (.int .u8 (Int.ofNat k)) (uEnts r) (i + 1) := by
        conv => lhs; simp only [uEnts, List.map_cons, mapFind, hks, hb]
        rfl
      refine ⟨fun h => ?_, fun h => ?_⟩
      · obtain ⟨j, hj, hg, hf⟩ := h1 (by rcases List.mem_cons.1 h with h | h; exact absurd h e; exact h)
        exact ⟨j + 1, by simpa using hj, by simpa using hg, by rw [hstep, hf, show i + 1 + j = i + (j + 1) by omega]⟩
      · rw [hstep]; exact h2 (fun h' => h (List.mem_cons_of_mem _ h'))
theorem set_same {α : Type} : ∀ {l : List α} {j : Nat} {x : α}, l[j]? = some x → l.set j x = l
  | y :: l, 0, x, h => by simp at h; simp [h]
  | y :: l, j + 1, x, h => by simp at h; simp [set_same h]
theorem put_u (ds : List Nat) (k : Nat) : mapPut (.int .u8 (Int.ofNat k)) (.v (.bool true)) (uEnts ds) = some (uEnts (insD ds k)) := by
  obtain ⟨h1, h2⟩ := find_u k ds 0
  unfold mapPut insD
  by_cases h : k ∈ ds
  · obtain ⟨j, hj, hg, hf⟩ := h1 h
    rw [hf, if_pos h]
    simp only [Nat.zero_add]
    rw [set_same]
    simp [uEnts, hg]
  · rw [h2 h, if_neg h]
    simp [uEnts]

/-! ### The walk -/
section
variable (kk ac : List (List X)) (w i len y : Nat) (fl : Bool) (a b : Int) (rows : List (List X)) (M : Nat)
def dwE : St := ⟨[(0, .sl false 1 kk), (5, nat w), (6, .ptr 0 0 0), (7, .bs 1 0 len), (8, nat i), (24, boolX false)], drB ac fl a b rows⟩
theorem dw_end (h : ¬ (i < kk.length ∧ i < 40)) : run (callF tab ext M) 0 M (loopAt 4 0) (drH kk ac w i len fl a b rows) = some (.exit 0, dwE kk ac w i len fl a b rows) := by
  by_cases h1 : i < kk.length
  · have h1' := lt_nat h1
    have h2 : decide (Int.ofNat i < 40) = false := decide_eq_false (by simp only [Int.ofNat_eq_natCast]; omega)
    exact run_of [(20, .b true), (23, .b false)] [] (pf2 h1' h2) (lo' := []) (by kernel_rfl)
  · exact run_of [(20, .b false)] [] (pf1 (nlt_nat h1)) (lo' := []) (by kernel_rfl)
variable (h : i < kk.length) (h40 : i < 40) (hy : kk[i]? = some [u8 y]) (hyl : y < 256) (hM : 1000 ≤ M)
include h h40 hy hyl hM
theorem dw_dup (a2 b2 : Int) (rows2 : List (List X)) (hs : Gam.pureD (callF tab ext M) 13 [.agg (nodeW (Int.ofNat w)), .agg [num a, num b, .sl false 10 rows], .agg (inpK (Int.ofNat (i + 1)) (Int.ofNat y))] = some (.agg (rejO a2 b2 rows2 (Int.ofNat (i + 1)) (Int.ofNat y) ⟨#[100, 117, 112, 108, 105, 99, 97, 116, 101]⟩))) :
    ∃ υ, run (callF tab ext M) 0 M (loopAt 4 0) (drH kk ac w i len fl a b rows) = some (.norm, υ) ∧ canon 0 υ = some (drH kk ac w (i + 1) len false a2 b2 rows2) := by
  have h1 := lt_nat h
  have h2 : decide (Int.ofNat i < 40) = true := decide_eq_true (by simp only [Int.ofNat_eq_natCast]; omega)
  have h5 := wrap_small (y := y) (by omega)
  have h6 := next_nat (j := i) (by omega)
  obtain ⟨K, rfl⟩ : ∃ K, M = K + 100 := ⟨M - 100, by omega⟩
  have h7 := node_pure K (Int.ofNat w)
  have h8 := input_pure K (Int.ofNat i) (Int.ofNat y)
  rw [h6] at h8
  have h9 := passes_no (K + 100) (by omega) a2 b2 rows2 (Int.ofNat (i + 1)) (Int.ofNat y) ⟨#[100, 117, 112, 108, 105, 99, 97, 116, 101]⟩
  refine ⟨⟨[(0, .sl false 1 kk), (5, nat w), (6, .ptr 0 0 0), (7, .bs 1 0 len), (8, nat (i + 1))], [.var [num a2, num b2, .sl false 10 rows2], .row 1 ac, .var (rejO a2 b2 rows2 (Int.ofNat (i + 1)) (Int.ofNat y) ⟨#[100, 117, 112, 108, 105, 99, 97, 116, 101]⟩)]⟩, run_of [(20, .b true), (23, .b true), (28, .p (.agg (nodeW (Int.ofNat w)))), (33, .e [u8 y]), (35, .i (Int.ofNat y)), (36, .p (.agg (inpK (Int.ofNat (i + 1)) (Int.ofNat y)))), (37, .p (.agg (rejO a2 b2 rows2 (Int.ofNat (i + 1)) (Int.ofNat y) ⟨#[100, 117, 112, 108, 105, 99, 97, 116, 101]⟩))), (39, .p (boolX false)), (26, .i (Int.ofNat (i + 1)))] [] (pf9 h1 h2 h7 hy h5 h8 hs h9 h6) (lo' := []) (by kernel_rfl), by kernel_rfl⟩
theorem dw_new (hlen : len < 100) (a2 b2 : Int) (rows2 : List (List X)) (hs : Gam.pureD (callF tab ext M) 13 [.agg (nodeW (Int.ofNat w)), .agg [num a, num b, .sl false 10 rows], .agg (inpK (Int.ofNat (i + 1)) (Int.ofNat y))] = some (.agg (passO a2 b2 rows2 (Int.ofNat (i + 1)) (Int.ofNat y)))) (hal : 0 + len = ac.length) :
    ∃ υ, run (callF tab ext M) 0 M (loopAt 4 0) (drH kk ac w i len fl a b rows) = some (.norm, υ) ∧ canon 0 υ = some (drH kk (List.drop 0 ac ++ [[X.v (Value.int .u8 (Int.ofNat y))]]) w (i + 1) (len + 1) false a2 b2 rows2) := by
  have h1 := lt_nat h
  have h2 : decide (Int.ofNat i < 40) = true := decide_eq_true (by simp only [Int.ofNat_eq_natCast]; omega)
  have h5 := wrap_small (y := y) (by omega)
  have h6 := next_nat (j := i) (by omega)
  have ha := app_ok (acc := ac) len 0 1 (by omega) (by omega) (by omega)
  obtain ⟨K, rfl⟩ : ∃ K, M = K + 100 := ⟨M - 100, by omega⟩
  have h7 := node_pure K (Int.ofNat w)
  have h8 := input_pure K (Int.ofNat i) (Int.ofNat y)
  rw [h6] at h8
  have h9 := passes_yes (K + 100) (by omega) a2 b2 rows2 (Int.ofNat (i + 1)) (Int.ofNat y)
  refine ⟨⟨[(0, .sl false 1 kk), (5, nat w), (6, .ptr 0 0 0), (7, .bs 3 0 (len + 1)), (8, nat (i + 1))], [.var [num a2, num b2, .sl false 10 rows2], .dead, .var (passO a2 b2 rows2 (Int.ofNat (i + 1)) (Int.ofNat y)), .row 1 (List.drop 0 ac ++ [[X.v (Value.int .u8 (Int.ofNat y))]])]⟩, run_of [(20, .b true), (23, .b true), (28, .p (.agg (nodeW (Int.ofNat w)))), (33, .e [u8 y]), (35, .i (Int.ofNat y)), (36, .p (.agg (inpK (Int.ofNat (i + 1)) (Int.ofNat y)))), (37, .p (.agg (passO a2 b2 rows2 (Int.ofNat (i + 1)) (Int.ofNat y)))), (39, .p (boolX true)), (43, .e [u8 y]), (46, .app), (26, .i (Int.ofNat (i + 1)))] [] (pf11 h1 h2 h7 hy h5 h8 hs h9 hy ha h6) (lo' := []) (by kernel_rfl), by kernel_rfl⟩
end
theorem dw_loop (keys : List Nat) (hk : ∀ k, k ∈ keys → k < 256) (w : Nat) (hw : 0 < w) (M : Nat) (hM : 190500 ≤ M) (τ : St) (hτ : canon 0 τ = some (drH (u8s keys) (u8s []) w 0 0 true 0 0 [])) :
    ∃ (acc : List Nat) (i : Nat) (fl : Bool) (a b : Int) (rows : List (List X)), Apart w acc ∧ acc.length ≤ 40 ∧ run (callF tab ext M) 0 M (.loop (loopAt 4 0)) τ = some (.exit 0, dwE (u8s keys) (u8s acc) w i acc.length fl a b rows) := by
  have := loop_ex (Γ := callF tab ext M) (nIn := 0) (fu := M) (b := loopAt 4 0) (α := Nat × List Nat × List (Int × Int) × Bool)
    (σ := fun q => drH (u8s keys) (u8s q.2.1) w q.1 q.2.1.length q.2.2.2 (Int.ofNat q.2.1.length) 0 (sltsC (q.2.2.1.map ks)))
    (I := fun q => Win w q.2.1 q.2.2.1 ∧ Apart w q.2.1 ∧ q.2.1.length ≤ q.1 ∧ q.1 ≤ 40) (μ := fun q => 40 - q.1)
    (Q := fun e fin => ∃ (acc : List Nat) (i : Nat) (fl : Bool) (a b : Int) (rows : List (List X)), Apart w acc ∧ acc.length ≤ 40 ∧ e = .exit 0 ∧ fin = dwE (u8s keys) (u8s acc) w i acc.length fl a b rows)
    (fun q hq => ?_) (a := (0, [], [], true)) ⟨win_nil w, apart_nil w, Nat.le_refl _, by decide⟩ hτ (by dsimp only; omega)
  · obtain ⟨e, fin, hr, acc, i, fl, a, b, rows, h1, h2, rfl, rfl⟩ := this
    exact ⟨acc, i, fl, a, b, rows, h1, h2, hr⟩
  · obtain ⟨i, acc, L, fl⟩ := q
    obtain ⟨hwin, hap, hai, hi40⟩ := hq
    dsimp only at hwin hap hai hi40 ⊢
    by_cases hc : i < (u8s keys).length ∧ i < 40
    · left
      obtain ⟨hi, h40⟩ := hc
      have hik : i < keys.length := by rw [u8s_length] at hi; exact hi
      have hy := u8s_get hik
      have hyl := hk _ (List.getElem_mem hik)
      rcases one_step w hw acc L hwin (by omega) (Int.ofNat (i + 1)) keys[i] with ⟨hl, hs⟩ | ⟨hl, M', hM', hs⟩
      · obtain ⟨υ, h1, h2⟩ := dw_dup (u8s keys) (u8s acc) w i acc.length keys[i] fl (Int.ofNat acc.length) 0 (sltsC (L.map ks)) M hi h40 hy hyl (by omega) _ _ _ (hs M (by omega))
        exact ⟨υ, (i + 1, acc, L, false), h1, h2, ⟨hwin, hap, by dsimp only; omega, by dsimp only; omega⟩, by dsimp only; omega⟩
      · obtain ⟨υ, h1, h2⟩ := dw_new (u8s keys) (u8s acc) w i acc.length keys[i] fl (Int.ofNat acc.length) 0 (sltsC (L.map ks)) M hi h40 hy hyl (by omega) (by omega) _ _ _ (hs M (by omega)) (by rw [u8s_length]; omega)
        rw [u8s_snoc, show acc.length + 1 = (acc ++ [keys[i]]).length by simp] at h2
        exact ⟨υ, (i + 1, acc ++ [keys[i]], M', false), h1, h2, ⟨hM', apart_snoc hap hl, by simp only [List.length_append, List.length_singleton]; omega, by dsimp only; omega⟩, by dsimp only; omega⟩
    · right
      exact ⟨_, _, dw_end (u8s keys) (u8s acc) w i acc.length fl (Int.ofNat acc.length) 0 (sltsC (L.map ks)) M hc, by simp, acc, i, fl, _, _, _, hap, by omega, rfl, rfl⟩

section
variable (ac : List (List X)) (es es' : List (Value × X)) (w len i k x y : Nat) (M : Nat)
def dpH : St := ⟨[(5, nat w), (7, .bs 0 0 len), (10, nat i), (11, .mp 1), (12, nat k)], [.row 1 ac, .map es]⟩
theorem dp_canon : canon 0 (dpH ac es w len i k) = some (dpH ac es w len i k) := by kernel_rfl
variable (hk : k < len) (hi : i < len) (hx : ac[0 + k]? = some [u8 x]) (hy : ac[0 + i]? = some [u8 y])
include hk hi hx hy
theorem dp_hit (e : x = y) (hw : w ≤ es.length) : run (callF tab ext M) 0 M (loopAt 4 2) (dpH ac es w len i k) = some (.exit 4, ⟨[(5, nat w), (7, .bs 0 0 len), (10, nat i), (76, boolX false)], [.row 1 ac, .map es]⟩) := by
  have h1 := lt_nat hk
  have h2 : (Int.ofNat x == Int.ofNat y) = true := by rw [e]; exact BEq.rfl
  have h3 : decide (Int.ofNat es.length < Int.ofNat w) = false := nlt_nat (by omega)
  exact run_of [(61, .b true), (66, .at), (67, .ld [u8 x]), (70, .at), (71, .ld [u8 y]), (72, .b true), (76, .b false)] [] (pf7 h1 hk hx hi hy h2 h3) (lo' := []) (by kernel_rfl)
theorem dp_miss (hl : len < 1000) (e : x ≠ y) (hp : mapPut (.int .u8 (Int.ofNat x)) (.v (.bool true)) es = some es') : run (callF tab ext M) 0 M (loopAt 4 2) (dpH ac es w len i k) = some (.norm, dpH ac es' w len i (k + 1)) := by
  have h1 := lt_nat hk
  have h2 : (Int.ofNat x == Int.ofNat y) = false := by rw [beq_eq_false_iff_ne]; intro h; exact e (Int.ofNat.inj h)
  have h3 := next_nat (j := k) (by omega)
  exact run_of [(61, .b true), (66, .at), (67, .ld [u8 x]), (70, .at), (71, .ld [u8 y]), (72, .b false), (80, .at), (81, .ld [u8 x]), (1000077, .pm es'), (63, .i (Int.ofNat (k + 1)))] [] (pf10 h1 hk hx hi hy h2 hk hx hp h3) (lo' := []) (by kernel_rfl)
end
theorem dp_end (ac : List (List X)) (es : List (Value × X)) (w len i k M : Nat) (hk : ¬ k < len) : run (callF tab ext M) 0 M (loopAt 4 2) (dpH ac es w len i k) = some (.exit 4, ⟨[(5, nat w), (7, .bs 0 0 len), (10, nat i), (11, .mp 1), (12, nat k), (61, boolX false)], [.row 1 ac, .map es]⟩) :=
  run_of [(61, .b false)] [] (pf1 (nlt_nat hk)) (lo' := []) (by kernel_rfl)

theorem dp_loop (acc : List Nat) (w i : Nat) (hap : Apart w acc) (hi : i < acc.length) (hl : acc.length < 1000) (M : Nat) (hM : 1100 ≤ M) (τ : St) (hτ : canon 0 τ = some (dpH (u8s acc) (uEnts []) w acc.length i (i + 1))) :
    ∃ ds k, run (callF tab ext M) 0 M (.loop (loopAt 4 2)) τ = some (.exit 4, ⟨[(5, nat w), (7, .bs 0 0 acc.length), (10, nat i), (76, boolX false)], [.row 1 (u8s acc), .map ds]⟩) ∨ run (callF tab ext M) 0 M (.loop (loopAt 4 2)) τ = some (.exit 4, ⟨[(5, nat w), (7, .bs 0 0 acc.length), (10, nat i), (11, .mp 1), (12, nat k), (61, boolX false)], [.row 1 (u8s acc), .map ds]⟩) := by
  have := loop_ex (Γ := callF tab ext M) (nIn := 0) (fu := M) (b := loopAt 4 2) (α := Nat × List Nat)
    (σ := fun q => dpH (u8s acc) (uEnts q.2) w acc.length i q.1)
    (I := fun q => i < q.1 ∧ q.1 ≤ acc.length ∧ ∀ j, i < j → j < q.1 → ∀ hj : j < acc.length, acc[j] ∈ q.2) (μ := fun q => acc.length - q.1)
    (Q := fun e fin => e = .exit 4 ∧ ∃ ds k, fin = ⟨[(5, nat w), (7, .bs 0 0 acc.length), (10, nat i), (76, boolX false)], [.row 1 (u8s acc), .map ds]⟩ ∨ fin = ⟨[(5, nat w), (7, .bs 0 0 acc.length), (10, nat i), (11, .mp 1), (12, nat k), (61, boolX false)], [.row 1 (u8s acc), .map ds]⟩)
    (fun q hq => ?_) (a := (i + 1, [])) ⟨by dsimp only; omega, by dsimp only; omega, fun j h1 h2 _ => by dsimp only at h2; omega⟩ hτ (by dsimp only; omega)
  · obtain ⟨e, fin, hr, rfl, ds, k, h | h⟩ := this
    · exact ⟨ds, k, .inl (h ▸ hr)⟩
    · exact ⟨ds, k, .inr (h ▸ hr)⟩
  · obtain ⟨k, ds⟩ := q
    obtain ⟨h1, h2, h3⟩ := hq
    dsimp only at h1 h2 h3 ⊢
    by_cases hk : k < acc.length
    · have hx : (u8s acc)[0 + k]? = some [u8 acc[k]] := by rw [Nat.zero_add]; exact u8s_get hk
      have hy : (u8s acc)[0 + i]? = some [u8 acc[i]] := by rw [Nat.zero_add]; exact u8s_get hi
      by_cases e : acc[k] = acc[i]
      · right
        have hw := apart_count hap h1 hk e h3
        exact ⟨_, _, dp_hit (u8s acc) (uEnts ds) w acc.length i k acc[k] acc[i] M hk hi hx hy e (by simp [uEnts]; exact hw), by simp, rfl, uEnts ds, k, .inl rfl⟩
      · left
        refine ⟨_, (k + 1, insD ds acc[k]), dp_miss (u8s acc) (uEnts ds) _ w acc.length i k acc[k] acc[i] M hk hi hx hy hl e (put_u ds acc[k]), dp_canon .., ⟨by dsimp only; omega, by dsimp only; omega, fun j hj1 hj2 hj3 => ?_⟩, by dsimp only; omega⟩
        dsimp only at hj2 ⊢
        rw [mem_insD]
        by_cases hjk : j = k
        · subst hjk; exact .inr rfl
        · exact .inl (h3 j hj1 (by omega) hj3)
    · right
      exact ⟨_, _, dp_end (u8s acc) (uEnts ds) w acc.length i k M hk, by simp, rfl, uEnts ds, k, .inr rfl⟩

section
variable (ac : List (List X)) (w len i M : Nat)
def dqH : St := ⟨[(5, nat w), (7, .bs 0 0 len), (10, nat i)], [.row 1 ac]⟩
def dqE : St := ⟨[(5, nat w), (7, .bs 0 0 len), (10, nat i), (52, boolX false)], [.row 1 ac]⟩
theorem dq_end (h : ¬ i < len) : run (callF tab ext M) 0 M (loopAt 4 1) (dqH ac w len i) = some (.exit 2, dqE ac w len i) := run_of [(52, .b false)] [] (pf1 (nlt_nat h)) (lo' := []) (by kernel_rfl)
theorem dq_step1 (hi : i < len) (hl : len < 1000) (ds : List (Value × X)) (hr : run (callF tab ext M) 0 M (.loop (loopAt 4 2)) (dpH ac [] w len i (i + 1)) = some (.exit 4, ⟨[(5, nat w), (7, .bs 0 0 len), (10, nat i), (76, boolX false)], [.row 1 ac, .map ds]⟩)) :
    run (callF tab ext M) 0 M (loopAt 4 1) (dqH ac w len i) = some (.norm, ⟨[(5, nat w), (7, .bs 0 0 len), (10, nat (i + 1))], [.row 1 ac, .map ds]⟩) := by
  have h1 := lt_nat hi
  have h2 := next_nat (j := i) (by omega)
  exact run_of [(52, .b true), (57, .i (Int.ofNat (i + 1))), (54, .i (Int.ofNat (i + 1)))] [(.exit 4, ⟨[(5, nat w), (7, .bs 0 0 len), (10, nat i), (76, boolX false)], [.row 1 ac, .map ds]⟩)] (pf4 h1 h2 hr h2) (lo' := []) (by kernel_rfl)
theorem dq_step2 (hi : i < len) (hl : len < 1000) (ds : List (Value × X)) (k : Nat) (hr : run (callF tab ext M) 0 M (.loop (loopAt 4 2)) (dpH ac [] w len i (i + 1)) = some (.exit 4, ⟨[(5, nat w), (7, .bs 0 0 len), (10, nat i), (11, .mp 1), (12, nat k), (61, boolX false)], [.row 1 ac, .map ds]⟩)) :
    run (callF tab ext M) 0 M (loopAt 4 1) (dqH ac w len i) = some (.norm, ⟨[(5, nat w), (7, .bs 0 0 len), (10, nat (i + 1))], [.row 1 ac, .map ds]⟩) := by
  have h1 := lt_nat hi
  have h2 := next_nat (j := i) (by omega)
  exact run_of [(52, .b true), (57, .i (Int.ofNat (i + 1))), (54, .i (Int.ofNat (i + 1)))] [(.exit 4, ⟨[(5, nat w), (7, .bs 0 0 len), (10, nat i), (11, .mp 1), (12, nat k), (61, boolX false)], [.row 1 ac, .map ds]⟩)] (pf4 h1 h2 hr h2) (lo' := []) (by kernel_rfl)
end
theorem dq_loop (acc : List Nat) (w : Nat) (hap : Apart w acc) (hl : acc.length < 1000) (M : Nat) (hM : 1200 ≤ M) (τ : St) (hτ : canon 0 τ = some (dqH (u8s acc) w acc.length 0)) : run (callF tab ext M) 0 M (.loop (loopAt 4 1)) τ = some (.exit 2, dqE (u8s acc) w acc.length acc.length) := by
  refine loop_for (σ := fun i => dqH (u8s acc) w acc.length i) (k := acc.length) hτ (fun i hi => ?_) (dq_end _ _ _ _ _ (Nat.lt_irrefl _)) (by simp) (by omega)
  obtain ⟨ds, k, h | h⟩ := dp_loop acc w i hap hi hl M (by omega) _ (dp_canon ..)
  · exact ⟨_, dq_step1 (u8s acc) w acc.length i M hi hl ds h, by kernel_rfl⟩
  · exact ⟨_, dq_step2 (u8s acc) w acc.length i M hi hl ds k h, by kernel_rfl⟩
theorem dwins_fin (kk ac rows : List (List X)) (w len i : Nat) (fl : Bool) (a b : Int) (M : Nat) (h0 : IntKind.i64.wrap (Int.ofNat (w % 16)) = Int.ofNat (w % 16)) (h00 : IntKind.i64.wrap (Int.ofNat (w % 16) + 1) = Int.ofNat (w % 16 + 1))
    (hlo : run (callF tab ext M) 0 M (.loop (loopAt 4 0)) ⟨[(0, .sl false 1 kk), (5, nat (w % 16 + 1)), (6, .ptr 0 0 0), (7, .bs 1 0 0), (8, num 0)], [.var [num 0, num 0, .sl true 10 []], .row 1 []]⟩ = some (.exit 0, dwE kk ac (w % 16 + 1) i len fl a b rows))
    (hlo2 : run (callF tab ext M) 0 M (.loop (loopAt 4 1)) ⟨[(5, nat (w % 16 + 1)), (7, .bs 1 0 len), (10, num 0)], drB ac fl a b rows⟩ = some (.exit 2, dqE ac (w % 16 + 1) len len))
    (hk : Gam.pureD (callF tab ext M) 17 [] = some (boolX true)) : callF tab ext (M + 1) (.fn 4) [.sl false 1 kk, u8 w] [] = some (.v (.bool true), []) :=
  callF_of [(15, .i (Int.ofNat (w % 16))), (16, .i (Int.ofNat (w % 16 + 1))), (82, .p (boolX true))] [(.exit 0, dwE kk ac (w % 16 + 1) i len fl a b rows), (.exit 2, dqE ac (w % 16 + 1) len len)] (pf5 h0 h00 hlo hlo2 hk) (by kernel_rfl)
theorem dwins_all (keys : List Nat) (hk : ∀ k, k ∈ keys → k < 256) (w : Nat) : callF tab ext 190501 (.fn 4) [.sl false 1 (u8s keys), u8 w] [] = some (.v (.bool true), []) := by
  obtain ⟨acc, i, fl, a, b, rows, hap, hl, hlo⟩ := dw_loop keys hk (w % 16 + 1) (by omega) 190500 (by omega) ⟨[(0, .sl false 1 (u8s keys)), (5, nat (w % 16 + 1)), (6, .ptr 0 0 0), (7, .bs 1 0 0), (8, num 0)], [.var [num 0, num 0, .sl true 10 []], .row 1 []]⟩ (by kernel_rfl)
  have h1 := wrap_small (y := w % 16) (by omega)
  have h2 := next_nat (j := w % 16) (by omega)
  exact dwins_fin _ _ _ w acc.length i fl a b 190500 h1 h2 hlo (dq_loop acc _ hap (by omega) 190500 (by omega) _ (by kernel_rfl)) (known35_at 190100)
end Go.Proofs.YthfchdkjeddijaaGreatDoor
