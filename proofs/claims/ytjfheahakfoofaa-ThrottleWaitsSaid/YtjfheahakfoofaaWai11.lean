/- ThrottleOrders, walked: what has left, what was rejected, what is held is counted. -/
import Derived.Test.YtjfheahakfoofaaWai10
namespace Go.Proofs.Ytjfheahakfoofaa
open Go.Em

def bump (s : List Nat) (a : Nat) : List Nat := s.set a (s.getD a 0 + 1)
theorem rowN_set (s : List Nat) (a v : Nat) : (rowN s).set a [nat v] = rowN (s.set a v) := by simp [rowN, List.map_set]
theorem bump_length (s : List Nat) (a : Nat) : (bump s a).length = s.length := by simp [bump]
def bumps (s l : List Nat) : List Nat := l.foldl bump s
theorem bumps_length (l : List Nat) : ∀ s : List Nat, (bumps s l).length = s.length := by
  induction l with
  | nil => intro s; rfl
  | cons a l ih => intro s; simp only [bumps, List.foldl_cons] at ih ⊢; rw [ih, bump_length]
theorem bumps_snoc (s l : List Nat) (a : Nat) : bumps s (l ++ [a]) = bump (bumps s l) a := by simp [bumps]
theorem bump_get (s : List Nat) (a k : Nat) (ha : a < s.length) : (bump s a).getD k 0 = s.getD k 0 + if a = k then 1 else 0 := by
  unfold bump
  by_cases h : a = k
  · subst h; simp [List.getD, ha]
  · simp [List.getD, h]
theorem bumps_get (l : List Nat) : ∀ (s : List Nat) (k : Nat), (∀ a, a ∈ l → a < s.length) → (bumps s l).getD k 0 = s.getD k 0 + l.count k := by
  induction l with
  | nil => intro s k _; rfl
  | cons a l ih =>
    intro s k h
    have := ih (bump s a) k (fun b hb => by rw [bump_length]; exact h b (by simp [hb]))
    simp only [bumps, List.foldl_cons] at this ⊢
    rw [this, bump_get s a k (h a (by simp)), List.count_cons]
    simp only [beq_iff_eq]
    omega
theorem rowN_getD {s : List Nat} {a : Nat} (h : a < s.length) : (rowN s)[0 + a]? = some [nat (s.getD a 0)] := by
  rw [Nat.zero_add, rowN_get h]; simp [List.getD, h]
theorem pred_nat {j : Nat} (h : 0 < j) (hj : j < 4294967296) : IntKind.i64.wrap (Int.ofNat j - 1) = Int.ofNat (j - 1) := by
  rw [IntKind.wrap_i64]; simp only [Int.ofNat_eq_natCast]; omega
theorem lt_one {a : Nat} (h : 1 ≤ a) : decide (Int.ofNat a < 1) = false := by
  apply decide_eq_false; simp only [Int.ofNat_eq_natCast]; omega
theorem ge_nat {a b : Nat} (h : a < b) : decide (Int.ofNat a ≥ Int.ofNat b) = false := by
  apply decide_eq_false; simp only [Int.ofNat_eq_natCast]; omega

section
variable (mvs : List (List X)) (ln rn hn : List Nat) (seen : List Nat) (i : Nat)
def heldX (hn : List Nat) : List (List X) := notes (hn.map Int.ofNat)
theorem heldX_length (hn : List Nat) : (heldX hn).length = hn.length := by simp [heldX, notes]
theorem heldX_get {hn : List Nat} {j : Nat} (h : j < hn.length) : (heldX hn)[j]? = some (noteC (Int.ofNat hn[j])) := by simp [heldX, notes, h]

def o1H : St := ⟨[(1, .sl false 2 mvs), (9, .sl false 1 (rowN ln)), (10, .sl false 1 (rowN rn)), (12, .sl false 10 (heldX hn)), (13, .bs 0 0 (mvs.length + 1)), (14, nat i)], [.row 1 (rowN seen)]⟩
def o1S (a v : Nat) : St := ⟨[(1, .sl false 2 mvs), (9, .sl false 1 (rowN ln)), (10, .sl false 1 (rowN rn)), (12, .sl false 10 (heldX hn)), (13, .bs 0 0 (mvs.length + 1)), (14, nat (i + 1))], [.row 1 ((rowN seen).set (0 + a) [nat v])]⟩
def o1E : St := ⟨[(1, .sl false 2 mvs), (9, .sl false 1 (rowN ln)), (10, .sl false 1 (rowN rn)), (12, .sl false 10 (heldX hn)), (13, .bs 0 0 (mvs.length + 1)), (14, nat i), (65, .v (.bool false))], [.row 1 (rowN seen)]⟩
theorem o1_canon : canon 0 (o1H mvs ln rn hn seen i) = some (o1H mvs ln rn hn seen i) := by kernel_rfl
def o2H : St := ⟨[(1, .sl false 2 mvs), (9, .sl false 1 (rowN ln)), (10, .sl false 1 (rowN rn)), (12, .sl false 10 (heldX hn)), (13, .bs 0 0 (mvs.length + 1)), (15, nat i)], [.row 1 (rowN seen)]⟩
def o2S (a v : Nat) : St := ⟨[(1, .sl false 2 mvs), (9, .sl false 1 (rowN ln)), (10, .sl false 1 (rowN rn)), (12, .sl false 10 (heldX hn)), (13, .bs 0 0 (mvs.length + 1)), (15, nat (i + 1))], [.row 1 ((rowN seen).set (0 + a) [nat v])]⟩
def o2E : St := ⟨[(1, .sl false 2 mvs), (9, .sl false 1 (rowN ln)), (10, .sl false 1 (rowN rn)), (12, .sl false 10 (heldX hn)), (13, .bs 0 0 (mvs.length + 1)), (15, nat i), (110, .v (.bool false))], [.row 1 (rowN seen)]⟩
theorem o2_canon : canon 0 (o2H mvs ln rn hn seen i) = some (o2H mvs ln rn hn seen i) := by kernel_rfl
def o3H : St := ⟨[(1, .sl false 2 mvs), (9, .sl false 1 (rowN ln)), (12, .sl false 10 (heldX hn)), (13, .bs 0 0 (mvs.length + 1)), (16, nat i)], [.row 1 (rowN seen)]⟩
def o3S (a v : Nat) : St := ⟨[(1, .sl false 2 mvs), (9, .sl false 1 (rowN ln)), (12, .sl false 10 (heldX hn)), (13, .bs 0 0 (mvs.length + 1)), (16, nat (i + 1))], [.row 1 ((rowN seen).set (0 + a) [nat v])]⟩
def o3E : St := ⟨[(1, .sl false 2 mvs), (9, .sl false 1 (rowN ln)), (12, .sl false 10 (heldX hn)), (13, .bs 0 0 (mvs.length + 1)), (16, nat i), (139, .v (.bool false))], [.row 1 (rowN seen)]⟩
theorem o3_canon : canon 0 (o3H mvs ln hn seen i) = some (o3H mvs ln hn seen i) := by kernel_rfl
def o4H : St := ⟨[(1, .sl false 2 mvs), (13, .bs 0 0 (mvs.length + 1)), (18, nat i)], [.row 1 (rowN seen)]⟩
def o4E : St := ⟨[(1, .sl false 2 mvs), (13, .bs 0 0 (mvs.length + 1)), (18, nat i), (179, .v (.bool false))], [.row 1 (rowN seen)]⟩
theorem o4_canon : canon 0 (o4H mvs seen i) = some (o4H mvs seen i) := by kernel_rfl

theorem o1_first (hi : 0 < ln.length) (h1 : 1 ≤ ln[0]) (h2 : ln[0] ≤ mvs.length) (hs : seen.length = mvs.length + 1) (hc : seen.getD ln[0] 0 < 4294967296) :
    run (callF tab ext 399) 0 399 (loopOf tab 4 0) (o1H mvs ln rn hn seen 0) = some (.norm, o1S mvs ln rn hn seen 0 ln[0] (seen.getD ln[0] 0 + 1)) :=
  run_of [(65, .b true), (69, .b false), (85, .e [nat ln[0]]), (87, .b false), (92, .e [nat ln[0]]), (96, .b false), (101, .e [nat ln[0]]), (103, .at), (104, .ld [nat (seen.getD ln[0] 0)]), (105, .i (Int.ofNat (seen.getD ln[0] 0 + 1))), (106, .at), (1000106, .st [nat (seen.getD ln[0] 0)]), (67, .i (Int.ofNat 1))] []
    (pf13 (show decide (Int.ofNat 0 < Int.ofNat (rowN ln).length) = true from lt_nat (by rw [rowN_length]; exact hi)) (show decide (Int.ofNat 0 > 0) = false from rfl) (rowN_get hi) (lt_one h1) (rowN_get hi) (ngt_nat (j := ln[0]) (k := mvs.length) (by omega)) (rowN_get hi) (show ln[0] < mvs.length + 1 by omega) (rowN_getD (s := seen) (a := ln[0]) (by omega)) (next_nat (j := seen.getD ln[0] 0) hc) (show ln[0] < mvs.length + 1 by omega) (rowN_getD (s := seen) (a := ln[0]) (by omega)) (next_nat (j := 0) (by omega))) (lo' := []) (by kernel_rfl)
theorem o1_step (hi : i < ln.length) (h0 : 0 < i) (hi2 : i < 4294967) (hlt : ln[i - 1] < ln[i]) (h1 : 1 ≤ ln[i]) (h2 : ln[i] ≤ mvs.length) (hs : seen.length = mvs.length + 1) (hc : seen.getD ln[i] 0 < 4294967296) :
    run (callF tab ext 399) 0 399 (loopOf tab 4 0) (o1H mvs ln rn hn seen i) = some (.norm, o1S mvs ln rn hn seen i ln[i] (seen.getD ln[i] 0 + 1)) :=
  run_of [(65, .b true), (69, .b true), (73, .i (Int.ofNat (i - 1))), (74, .e [nat ln[i - 1]]), (78, .e [nat ln[i]]), (80, .b false), (85, .e [nat ln[i]]), (87, .b false), (92, .e [nat ln[i]]), (96, .b false), (101, .e [nat ln[i]]), (103, .at), (104, .ld [nat (seen.getD ln[i] 0)]), (105, .i (Int.ofNat (seen.getD ln[i] 0 + 1))), (106, .at), (1000106, .st [nat (seen.getD ln[i] 0)]), (67, .i (Int.ofNat (i + 1)))] []
    (allP_append.2 ⟨pf6 (show decide (Int.ofNat i < Int.ofNat (rowN ln).length) = true from lt_nat (by rw [rowN_length]; exact hi)) (show decide (Int.ofNat i > 0) = true from gt_nat (j := i) (k := 0) h0) (pred_nat (j := i) h0 (by omega)) (rowN_get (l := ln) (j := i - 1) (by omega)) (rowN_get hi) (ge_nat hlt),
     pf11 (rowN_get hi) (lt_one h1) (rowN_get hi) (ngt_nat (j := ln[i]) (k := mvs.length) (by omega)) (rowN_get hi) (show ln[i] < mvs.length + 1 by omega) (rowN_getD (s := seen) (a := ln[i]) (by omega)) (next_nat (j := seen.getD ln[i] 0) hc) (show ln[i] < mvs.length + 1 by omega) (rowN_getD (s := seen) (a := ln[i]) (by omega)) (next_nat (j := i) (by omega))⟩) (lo' := []) (by kernel_rfl)
theorem o1_end (hi : ¬ i < ln.length) : run (callF tab ext 399) 0 399 (loopOf tab 4 0) (o1H mvs ln rn hn seen i) = some (.exit 0, o1E mvs ln rn hn seen i) :=
  run_of [(65, .b false)] [] (pf1 (show decide (Int.ofNat i < Int.ofNat (rowN ln).length) = false from nlt_nat (by rw [rowN_length]; exact hi))) (lo' := []) (by kernel_rfl)

theorem o2_step (hi : i < rn.length) (hi2 : i < 4294967) (h1 : 1 ≤ rn[i]) (h2 : rn[i] ≤ mvs.length) (hs : seen.length = mvs.length + 1) (hc : seen.getD rn[i] 0 < 4294967296) :
    run (callF tab ext 399) 0 399 (loopOf tab 4 1) (o2H mvs ln rn hn seen i) = some (.norm, o2S mvs ln rn hn seen i rn[i] (seen.getD rn[i] 0 + 1)) :=
  run_of [(110, .b true), (115, .e [nat rn[i]]), (117, .b false), (121, .e [nat rn[i]]), (125, .b false), (130, .e [nat rn[i]]), (132, .at), (133, .ld [nat (seen.getD rn[i] 0)]), (134, .i (Int.ofNat (seen.getD rn[i] 0 + 1))), (135, .at), (1000135, .st [nat (seen.getD rn[i] 0)]), (112, .i (Int.ofNat (i + 1)))] []
    (pf12 (show decide (Int.ofNat i < Int.ofNat (rowN rn).length) = true from lt_nat (by rw [rowN_length]; exact hi)) (rowN_get hi) (lt_one h1) (rowN_get hi) (ngt_nat (j := rn[i]) (k := mvs.length) (by omega)) (rowN_get hi) (show rn[i] < mvs.length + 1 by omega) (rowN_getD (s := seen) (a := rn[i]) (by omega)) (next_nat (j := seen.getD rn[i] 0) hc) (show rn[i] < mvs.length + 1 by omega) (rowN_getD (s := seen) (a := rn[i]) (by omega)) (next_nat (j := i) (by omega))) (lo' := []) (by kernel_rfl)
theorem o2_end (hi : ¬ i < rn.length) : run (callF tab ext 399) 0 399 (loopOf tab 4 1) (o2H mvs ln rn hn seen i) = some (.exit 2, o2E mvs ln rn hn seen i) :=
  run_of [(110, .b false)] [] (pf1 (show decide (Int.ofNat i < Int.ofNat (rowN rn).length) = false from nlt_nat (by rw [rowN_length]; exact hi))) (lo' := []) (by kernel_rfl)

theorem first_note (N : Nat) (e : Int) : Gam.pureD (callF tab ext (N + 20)) 11 [.agg (noteC e)] = some (num e) := by kernel_rfl
theorem o3_none (hl : ln.length = 0) (hi : i < hn.length) (hi2 : i < 4294967) (h1 : 1 ≤ hn[i]) (h2 : hn[i] ≤ mvs.length) (hs : seen.length = mvs.length + 1) (hc : seen.getD hn[i] 0 < 4294967296) :
    run (callF tab ext 399) 0 399 (loopOf tab 4 2) (o3H mvs ln hn seen i) = some (.norm, o3S mvs ln hn seen i hn[i] (seen.getD hn[i] 0 + 1)) :=
  run_of [(139, .b true), (144, .e (noteC (Int.ofNat hn[i]))), (146, .p (nat hn[i])), (148, .b false), (153, .b false), (158, .b false), (172, .at), (173, .ld [nat (seen.getD hn[i] 0)]), (174, .i (Int.ofNat (seen.getD hn[i] 0 + 1))), (175, .at), (1000175, .st [nat (seen.getD hn[i] 0)]), (141, .i (Int.ofNat (i + 1)))] []
    (pf12 (show decide (Int.ofNat i < Int.ofNat (heldX hn).length) = true from lt_nat (by rw [heldX_length]; exact hi)) (heldX_get hi) (first_note 379 (Int.ofNat hn[i])) (lt_one h1) (ngt_nat (j := hn[i]) (k := mvs.length) (by omega)) (show decide (Int.ofNat (rowN ln).length > 0) = false from ngt_nat (j := (rowN ln).length) (k := 0) (by rw [rowN_length]; omega)) (show hn[i] < mvs.length + 1 by omega) (rowN_getD (s := seen) (a := hn[i]) (by omega)) (next_nat (j := seen.getD hn[i] 0) hc) (show hn[i] < mvs.length + 1 by omega) (rowN_getD (s := seen) (a := hn[i]) (by omega)) (next_nat (j := i) (by omega))) (lo' := []) (by kernel_rfl)
theorem o3_some (hl : 0 < ln.length) (hl2 : ln.length < 4294967) (hi : i < hn.length) (hi2 : i < 4294967) (h1 : 1 ≤ hn[i]) (h2 : hn[i] ≤ mvs.length) (h3 : ln[ln.length - 1] ≤ hn[i]) (hs : seen.length = mvs.length + 1) (hc : seen.getD hn[i] 0 < 4294967296) :
    run (callF tab ext 399) 0 399 (loopOf tab 4 2) (o3H mvs ln hn seen i) = some (.norm, o3S mvs ln hn seen i hn[i] (seen.getD hn[i] 0 + 1)) :=
  run_of [(139, .b true), (144, .e (noteC (Int.ofNat hn[i]))), (146, .p (nat hn[i])), (148, .b false), (153, .b false), (158, .b true), (164, .i (Int.ofNat (ln.length - 1))), (165, .e [nat ln[ln.length - 1]]), (167, .b false), (172, .at), (173, .ld [nat (seen.getD hn[i] 0)]), (174, .i (Int.ofNat (seen.getD hn[i] 0 + 1))), (175, .at), (1000175, .st [nat (seen.getD hn[i] 0)]), (141, .i (Int.ofNat (i + 1)))] []
    (allP_append.2 ⟨pf6 (show decide (Int.ofNat i < Int.ofNat (heldX hn).length) = true from lt_nat (by rw [heldX_length]; exact hi)) (heldX_get hi) (first_note 379 (Int.ofNat hn[i])) (lt_one h1) (ngt_nat (j := hn[i]) (k := mvs.length) (by omega)) (show decide (Int.ofNat (rowN ln).length > 0) = true from gt_nat (j := (rowN ln).length) (k := 0) (by rw [rowN_length]; omega)),
      pf9 (show IntKind.i64.wrap (Int.ofNat (rowN ln).length - 1) = Int.ofNat (ln.length - 1) by rw [rowN_length]; exact pred_nat hl (by omega)) (rowN_get (l := ln) (j := ln.length - 1) (by omega)) (nlt_nat (j := hn[i]) (k := ln[ln.length - 1]) (by omega)) (show hn[i] < mvs.length + 1 by omega) (rowN_getD (s := seen) (a := hn[i]) (by omega)) (next_nat (j := seen.getD hn[i] 0) hc) (show hn[i] < mvs.length + 1 by omega) (rowN_getD (s := seen) (a := hn[i]) (by omega)) (next_nat (j := i) (by omega))⟩) (lo' := []) (by kernel_rfl)
theorem o3_end (hi : ¬ i < hn.length) : run (callF tab ext 399) 0 399 (loopOf tab 4 2) (o3H mvs ln hn seen i) = some (.exit 4, o3E mvs ln hn seen i) :=
  run_of [(139, .b false)] [] (pf1 (show decide (Int.ofNat i < Int.ofNat (heldX hn).length) = false from nlt_nat (by rw [heldX_length]; exact hi))) (lo' := []) (by kernel_rfl)

theorem seen_get {seen : List Nat} {i v : Nat} (h : i + 1 < seen.length) (hc : seen.getD (i + 1) 0 = v) : (rowN seen)[0 + (i + 1)]? = some [nat v] := by
  rw [rowN_getD (s := seen) (a := i + 1) h, hc]
theorem o4_yes (w : Nat) (hm : mvs[i]? = some (moveC (w, true))) (hi : i < mvs.length) (hi2 : mvs.length < 4294967) (hs : seen.length = mvs.length + 1) (hc : seen.getD (i + 1) 0 = 1) :
    run (callF tab ext 399) 0 399 (loopOf tab 4 3) (o4H mvs seen i) = some (.norm, o4H mvs seen (i + 1)) :=
  run_of [(179, .b true), (184, .e (moveC (w, true))), (189, .i (Int.ofNat (i + 1))), (190, .at), (191, .ld [nat 1]), (181, .i (Int.ofNat (i + 1)))] []
    (pf6 (lt_nat hi) hm (next_nat (j := i) (by omega)) (show i + 1 < mvs.length + 1 by omega) (seen_get (by omega) hc) (next_nat (j := i) (by omega))) (lo' := []) (by kernel_rfl)
theorem o4_no (w : Nat) (hm : mvs[i]? = some (moveC (w, false))) (hi : i < mvs.length) (hi2 : mvs.length < 4294967) (hs : seen.length = mvs.length + 1) (hc : seen.getD (i + 1) 0 = 0) :
    run (callF tab ext 399) 0 399 (loopOf tab 4 3) (o4H mvs seen i) = some (.norm, o4H mvs seen (i + 1)) :=
  run_of [(179, .b true), (184, .e (moveC (w, false))), (189, .i (Int.ofNat (i + 1))), (190, .at), (191, .ld [nat 0]), (181, .i (Int.ofNat (i + 1)))] []
    (pf6 (lt_nat hi) hm (next_nat (j := i) (by omega)) (show i + 1 < mvs.length + 1 by omega) (seen_get (by omega) hc) (next_nat (j := i) (by omega))) (lo' := []) (by kernel_rfl)
theorem o4_end (hi : ¬ i < mvs.length) : run (callF tab ext 399) 0 399 (loopOf tab 4 3) (o4H mvs seen i) = some (.exit 6, o4E mvs seen i) :=
  run_of [(179, .b false)] [] (pf1 (nlt_nat hi)) (lo' := []) (by kernel_rfl)
end

end Go.Proofs.Ytjfheahakfoofaa

/- ThrottleOrders, walked: the loops as a whole, and the law. -/
namespace Go.Proofs.Ytjfheahakfoofaa
open Go.Em

/-- What ThrottleOrders asks of a run. -/
structure OrdOk (len l : Nat) (want : Nat → Nat) (ln rn hn : List Nat) : Prop where
  held : hn.length ≤ l
  inc : ∀ j (h : j + 1 < ln.length), ln[j] < ln[j + 1]
  lin : ∀ a, a ∈ ln → 1 ≤ a ∧ a ≤ len
  rin : ∀ a, a ∈ rn → 1 ≤ a ∧ a ≤ len
  hin : ∀ a, a ∈ hn → 1 ≤ a ∧ a ≤ len
  behind : ∀ a, a ∈ hn → ∀ b, b ∈ ln → b ≤ a
  cnt : ∀ i, i < len → ln.count (i + 1) + rn.count (i + 1) + hn.count (i + 1) = want i

theorem bumps_take (s l : List Nat) {j : Nat} (h : j < l.length) : bumps s (l.take (j + 1)) = bump (bumps s (l.take j)) l[j] := by
  rw [List.take_succ_eq_append_getElem h, bumps_snoc]
theorem bump_row (s : List Nat) (a : Nat) : (rowN s).set (0 + a) [nat (s.getD a 0 + 1)] = rowN (bump s a) := by
  rw [Nat.zero_add, rowN_set]; rfl
theorem bumps_small (s l : List Nat) (k m n : Nat) (hs : s.getD k 0 ≤ m) (hl : ∀ a, a ∈ l → a < s.length) (hn : l.length ≤ n) (hb : m + n < 4294967296) : (bumps s l).getD k 0 < 4294967296 := by
  rw [bumps_get l s k hl]
  have := List.count_le_length (a := k) (l := l)
  omega

section
variable (mvs : List (List X)) (ln rn hn : List Nat) (seen : List Nat)
theorem o1_canonS (i a v : Nat) : canon 0 (o1S mvs ln rn hn seen i a v) = some (o1S mvs ln rn hn seen i a v) := by kernel_rfl
theorem o2_canonS (i a v : Nat) : canon 0 (o2S mvs ln rn hn seen i a v) = some (o2S mvs ln rn hn seen i a v) := by kernel_rfl
theorem o3_canonS (i a v : Nat) : canon 0 (o3S mvs ln hn seen i a v) = some (o3S mvs ln hn seen i a v) := by kernel_rfl
theorem o1_eq (i a : Nat) : o1S mvs ln rn hn seen i a (seen.getD a 0 + 1) = o1H mvs ln rn hn (bump seen a) (i + 1) := by
  unfold o1S o1H; rw [bump_row]
theorem o2_eq (i a : Nat) : o2S mvs ln rn hn seen i a (seen.getD a 0 + 1) = o2H mvs ln rn hn (bump seen a) (i + 1) := by
  unfold o2S o2H; rw [bump_row]
theorem o3_eq (i a : Nat) : o3S mvs ln hn seen i a (seen.getD a 0 + 1) = o3H mvs ln hn (bump seen a) (i + 1) := by
  unfold o3S o3H; rw [bump_row]

theorem o1_loop (τ : St) (hτ : canon 0 τ = some (o1H mvs ln rn hn seen 0)) (hs : seen.length = mvs.length + 1) (hs2 : ∀ k, seen.getD k 0 ≤ 1000) (hl : ln.length < 390) (hin : ∀ a, a ∈ ln → 1 ≤ a ∧ a ≤ mvs.length) (hinc : ∀ j (h : j + 1 < ln.length), ln[j] < ln[j + 1]) :
    run (callF tab ext 399) 0 399 (.loop (loopOf tab 4 0)) τ = some (.exit 0, o1E mvs ln rn hn (bumps seen ln) ln.length) := by
  refine loop_for (σ := fun j => o1H mvs ln rn hn (bumps seen (ln.take j)) j) (k := ln.length) hτ (fun j hj => ?_) ?_ (by simp) (by omega)
  · have hm := hin ln[j] (List.getElem_mem hj)
    have hsm := bumps_small seen (ln.take j) ln[j] 1000 390 (hs2 _) (fun a ha => by have := hin a (List.mem_of_mem_take ha); omega) (by simp; omega) (by omega)
    have hlen : (bumps seen (ln.take j)).length = mvs.length + 1 := by rw [bumps_length, hs]
    refine ⟨o1S mvs ln rn hn (bumps seen (ln.take j)) j ln[j] ((bumps seen (ln.take j)).getD ln[j] 0 + 1), ?_, by rw [o1_canonS, o1_eq, bumps_take seen ln hj]⟩
    rcases Nat.eq_zero_or_pos j with h0 | h0
    · subst h0
      exact o1_first mvs ln rn hn _ hj hm.1 hm.2 hlen hsm
    · exact o1_step mvs ln rn hn _ j hj h0 (by omega) (by have := hinc (j - 1) (by omega); simpa [Nat.sub_add_cancel h0] using this) hm.1 hm.2 hlen hsm
  · rw [List.take_length]
    exact o1_end mvs ln rn hn _ ln.length (by omega)

theorem o2_loop (τ : St) (hτ : canon 0 τ = some (o2H mvs ln rn hn seen 0)) (hs : seen.length = mvs.length + 1) (hs2 : ∀ k, seen.getD k 0 ≤ 1000) (hl : rn.length < 390) (hin : ∀ a, a ∈ rn → 1 ≤ a ∧ a ≤ mvs.length) :
    run (callF tab ext 399) 0 399 (.loop (loopOf tab 4 1)) τ = some (.exit 2, o2E mvs ln rn hn (bumps seen rn) rn.length) := by
  refine loop_for (σ := fun j => o2H mvs ln rn hn (bumps seen (rn.take j)) j) (k := rn.length) hτ (fun j hj => ?_) ?_ (by simp) (by omega)
  · have hm := hin rn[j] (List.getElem_mem hj)
    have hsm := bumps_small seen (rn.take j) rn[j] 1000 390 (hs2 _) (fun a ha => by have := hin a (List.mem_of_mem_take ha); omega) (by simp; omega) (by omega)
    have hlen : (bumps seen (rn.take j)).length = mvs.length + 1 := by rw [bumps_length, hs]
    exact ⟨_, o2_step mvs ln rn hn _ j hj (by omega) hm.1 hm.2 hlen hsm, by rw [o2_canonS, o2_eq, bumps_take seen rn hj]⟩
  · rw [List.take_length]
    exact o2_end mvs ln rn hn _ rn.length (by omega)

theorem o3_loop (τ : St) (hτ : canon 0 τ = some (o3H mvs ln hn seen 0)) (hs : seen.length = mvs.length + 1) (hs2 : ∀ k, seen.getD k 0 ≤ 2000) (hl : hn.length < 390) (hl2 : ln.length < 390) (hin : ∀ a, a ∈ hn → 1 ≤ a ∧ a ≤ mvs.length) (hbe : ∀ a, a ∈ hn → ∀ b, b ∈ ln → b ≤ a) :
    run (callF tab ext 399) 0 399 (.loop (loopOf tab 4 2)) τ = some (.exit 4, o3E mvs ln hn (bumps seen hn) hn.length) := by
  refine loop_for (σ := fun j => o3H mvs ln hn (bumps seen (hn.take j)) j) (k := hn.length) hτ (fun j hj => ?_) ?_ (by simp) (by omega)
  · have hm := hin hn[j] (List.getElem_mem hj)
    have hsm := bumps_small seen (hn.take j) hn[j] 2000 390 (hs2 _) (fun a ha => by have := hin a (List.mem_of_mem_take ha); omega) (by simp; omega) (by omega)
    have hlen : (bumps seen (hn.take j)).length = mvs.length + 1 := by rw [bumps_length, hs]
    refine ⟨o3S mvs ln hn (bumps seen (hn.take j)) j hn[j] ((bumps seen (hn.take j)).getD hn[j] 0 + 1), ?_, by rw [o3_canonS, o3_eq, bumps_take seen hn hj]⟩
    rcases Nat.eq_zero_or_pos ln.length with h0 | h0
    · exact o3_none mvs ln hn _ j h0 hj (by omega) hm.1 hm.2 hlen hsm
    · exact o3_some mvs ln hn _ j h0 (by omega) hj (by omega) hm.1 hm.2 (hbe _ (List.getElem_mem hj) _ (List.getElem_mem _)) hlen hsm
  · rw [List.take_length]
    exact o3_end mvs ln hn _ hn.length (by omega)
end

def wantOf (l0 : List (Nat × Bool)) (i : Nat) : Nat := if (l0.getD i (0, false)).2 then 1 else 0
theorem o4_loop (l0 : List (Nat × Bool)) (seen : List Nat) (τ : St) (hτ : canon 0 τ = some (o4H (movesC l0) seen 0)) (hl : l0.length ≤ 60) (hs : seen.length = l0.length + 1) (hw : ∀ i, i < l0.length → seen.getD (i + 1) 0 = wantOf l0 i) :
    run (callF tab ext 399) 0 399 (.loop (loopOf tab 4 3)) τ = some (.exit 6, o4E (movesC l0) seen l0.length) := by
  refine loop_for (σ := fun j => o4H (movesC l0) seen j) (k := l0.length) hτ (fun j hj => ?_) (o4_end _ _ _ (by rw [movesC_length]; omega)) (by simp) (by omega)
  have h1 := hw j hj
  have hg : l0.getD j (0, false) = l0[j] := by simp [List.getD, hj]
  unfold wantOf at h1
  rw [hg] at h1
  refine ⟨_, ?_, o4_canon _ _ _⟩
  cases hb : l0[j].2 with
  | true =>
    rw [hb, if_pos rfl] at h1
    exact o4_yes _ _ j l0[j].1 (by rw [movesC_get hj, ← hb]) (by rw [movesC_length]; exact hj) (by rw [movesC_length]; omega) (by rw [movesC_length]; exact hs) h1
  | false =>
    rw [hb, if_neg (by simp)] at h1
    exact o4_no _ _ j l0[j].1 (by rw [movesC_get hj, ← hb]) (by rw [movesC_length]; exact hj) (by rw [movesC_length]; omega) (by rw [movesC_length]; exact hs) h1

noncomputable def oStart (kd : Int) (n p l : Nat) (mvs : List (List X)) (ln rn hn : List Nat) (c t : Int) (ss : List (List X)) : St :=
  ⟨[(1, .sl false 2 mvs), (9, .sl false 1 (rowN ln)), (10, .sl false 1 (rowN rn)), (12, .sl false 10 (heldX hn)), (13, .bs 3 0 (mvs.length + 1)), (14, nat 0)],
   [.var [.v (.int .u8 (Int.ofNat n)), .v (.int .u8 (Int.ofNat p)), .v (.int .u8 (Int.ofNat l))], .var (nodeV kd tName n p l), .var (stC c t ss), .row 1 (List.replicate (mvs.length + 1) [num 0])]⟩
theorem o_start (kd : Int) (n p l : Nat) (mvs : List (List X)) (ln rn hn : List Nat) (c t : Int) (ss : List (List X)) :
    canon 0 (oStart kd n p l mvs ln rn hn c t ss) = some (o1H mvs ln rn hn (List.replicate (mvs.length + 1) 0) 0) := by
  have e : rowN (List.replicate (mvs.length + 1) 0) = List.replicate (mvs.length + 1) [num 0] := by simp only [rowN, List.map_replicate]; rfl
  have h : canon 0 (oStart kd n p l mvs ln rn hn c t ss) = some ⟨[(1, .sl false 2 mvs), (9, .sl false 1 (rowN ln)), (10, .sl false 1 (rowN rn)), (12, .sl false 10 (heldX hn)), (13, .bs 0 0 (mvs.length + 1)), (14, nat 0)], [.row 1 (List.replicate (mvs.length + 1) [num 0])]⟩ := by kernel_rfl
  rw [h, ← e]
  rfl

def oLo (mvs : List (List X)) (ln rn hn : List Nat) : List (Ex × St) :=
  [(.exit 0, o1E mvs ln rn hn (bumps (List.replicate (mvs.length + 1) 0) ln) ln.length), (.exit 2, o2E mvs ln rn hn (bumps (bumps (List.replicate (mvs.length + 1) 0) ln) rn) rn.length),
   (.exit 4, o3E mvs ln hn (bumps (bumps (bumps (List.replicate (mvs.length + 1) 0) ln) rn) hn) hn.length), (.exit 6, o4E mvs (bumps (bumps (bumps (List.replicate (mvs.length + 1) 0) ln) rn) hn) mvs.length)]
theorem replicate_get (k n : Nat) : (List.replicate n 0).getD k 0 = 0 := by
  simp only [List.getD, List.getElem?_replicate]; split <;> rfl

theorem orders_true (delay : Bool) (n p l : Nat) (moves : List (List X)) (l0 : List (Nat × Bool)) (tn ln rn hn : List Nat) (c t : Int) (ss : List (List X)) (hn' : n < 256) (hp : p < 256) (hl : l < 256) (hmv : moves.take (min moves.length 60) = movesC l0)
    (hrun : Gam.pureD (callF tab ext 399) 7 [nodeT (if delay then 8 else 7) tName n p l, .sl false 2 (movesC l0)] = some (.tup [.sl false 1 (rowN tn), .sl false 1 (rowN ln), .sl false 1 (rowN rn), .agg (stC c t ss)]))
    (hwait : Gam.pureD (callF tab ext 399) 10 [.agg (stC c t ss)] = some (.sl false 10 (heldX hn)))
    (hlen : l0.length ≤ 60) (h1 : ln.length < 390) (h2 : rn.length < 390) (h3 : hn.length < 390) (hok : OrdOk l0.length l (wantOf l0) ln rn hn) :
    callF tab ext 400 (.fn 4) [boundsC n p l, .sl false 2 moves, .v (.bool delay)] [] = some (.v (.bool true), []) := by
  have hz : ∀ k, (List.replicate ((movesC l0).length + 1) 0).getD k 0 ≤ 1000 := fun k => by rw [replicate_get]; omega
  have hml : (movesC l0).length = l0.length := movesC_length l0
  have hin1 : ∀ a, a ∈ ln → 1 ≤ a ∧ a ≤ (movesC l0).length := fun a ha => by rw [hml]; exact hok.lin a ha
  have hin2 : ∀ a, a ∈ rn → 1 ≤ a ∧ a ≤ (movesC l0).length := fun a ha => by rw [hml]; exact hok.rin a ha
  have hin3 : ∀ a, a ∈ hn → 1 ≤ a ∧ a ≤ (movesC l0).length := fun a ha => by rw [hml]; exact hok.hin a ha
  have g1 : ∀ k, (bumps (List.replicate ((movesC l0).length + 1) 0) ln).getD k 0 = ln.count k := fun k => by
    rw [bumps_get _ _ _ (fun a ha => by have := hin1 a ha; simp; omega), replicate_get, Nat.zero_add]
  have g2 : ∀ k, (bumps (bumps (List.replicate ((movesC l0).length + 1) 0) ln) rn).getD k 0 = ln.count k + rn.count k := fun k => by
    rw [bumps_get _ _ _ (fun a ha => by have := hin2 a ha; rw [bumps_length]; simp; omega), g1]
  have g3 : ∀ k, (bumps (bumps (bumps (List.replicate ((movesC l0).length + 1) 0) ln) rn) hn).getD k 0 = ln.count k + rn.count k + hn.count k := fun k => by
    rw [bumps_get _ _ _ (fun a ha => by have := hin3 a ha; rw [bumps_length, bumps_length]; simp; omega), g2]
  have c1 : ∀ k, ln.count k ≤ 390 := fun k => by have := List.count_le_length (a := k) (l := ln); omega
  have c2 : ∀ k, rn.count k ≤ 390 := fun k => by have := List.count_le_length (a := k) (l := rn); omega
  have l1 : (List.replicate ((movesC l0).length + 1) 0).length = (movesC l0).length + 1 := by simp
  have l2 : (bumps (List.replicate ((movesC l0).length + 1) 0) ln).length = (movesC l0).length + 1 := by rw [bumps_length, l1]
  have l3 : (bumps (bumps (List.replicate ((movesC l0).length + 1) 0) ln) rn).length = (movesC l0).length + 1 := by rw [bumps_length, l2]
  have l4 : (bumps (bumps (bumps (List.replicate ((movesC l0).length + 1) 0) ln) rn) hn).length = l0.length + 1 := by rw [bumps_length, l3, hml]
  have r1 := fun (kd : Int) => o1_loop (movesC l0) ln rn hn _ (oStart kd n p l (movesC l0) ln rn hn c t ss) (o_start kd n p l (movesC l0) ln rn hn c t ss) l1 hz h1 hin1 hok.inc
  have r2 := o2_loop (movesC l0) ln rn hn _ _ (o2_canon (movesC l0) ln rn hn (bumps (List.replicate ((movesC l0).length + 1) 0) ln) 0) l2 (fun k => by rw [g1]; have := c1 k; omega) h2 hin2
  have r3 := o3_loop (movesC l0) ln hn _ _ (o3_canon (movesC l0) ln hn (bumps (bumps (List.replicate ((movesC l0).length + 1) 0) ln) rn) 0) l3 (fun k => by rw [g2]; have := c1 k; have := c2 k; omega) h3 h1 hin3 hok.behind
  have r4 := o4_loop l0 _ _ (o4_canon (movesC l0) (bumps (bumps (bumps (List.replicate ((movesC l0).length + 1) 0) ln) rn) hn) 0) hlen l4 (fun i hi => by rw [g3]; exact hok.cnt i hi)
  have hheld : decide (Int.ofNat (heldX hn).length > Int.ofNat l) = false := ngt_nat (by rw [heldX_length]; have := hok.held; omega)
  have hmk : (movesC l0).length + 1 ≤ (movesC l0).length + 1 ∧ roomOk ((movesC l0).length + 1) 8 = true := ⟨Nat.le_refl _, room_of (by omega) (by omega)⟩
  have hnx : IntKind.i64.wrap (Int.ofNat (movesC l0).length + 1) = Int.ofNat ((movesC l0).length + 1) := next_nat (by omega)
  rw [← hml] at r4
  rw [← hmv] at r1 r2 r3 r4 hmk hnx hrun
  cases delay with
  | false =>
    exact callF_of [(23, .i (Int.ofNat (min moves.length 60))), (24, .cut), (27, .i (Int.ofNat n)), (30, .i (Int.ofNat p)), (31, .i (Int.ofNat (p + 1))), (34, .i (Int.ofNat l)), (41, .p (.tup [.sl false 1 (rowN tn), .sl false 1 (rowN ln), .sl false 1 (rowN rn), .agg (stC c t ss)])), (47, .p (.sl false 10 (heldX hn))), (48, .p (.v (.bool true))), (55, .i (Int.ofNat l)), (56, .b false), (60, .i (Int.ofNat ((moves.take (min moves.length 60)).length + 1))), (61, .mk)]
      (oLo (moves.take (min moves.length 60)) ln rn hn)
      (allP_append.2 ⟨pf13 (min60 moves.length) (show 0 ≤ min moves.length 60 ∧ min moves.length 60 ≤ moves.length by omega) (byte_int hn') (byte_int hp) (one_int hp) (byte_int hl) hrun hwait known_399 (byte_int hl) hheld hnx hmk, pf4 (r1 7) r2 r3 r4⟩) (by kernel_rfl)
  | true =>
    exact callF_of [(23, .i (Int.ofNat (min moves.length 60))), (24, .cut), (27, .i (Int.ofNat n)), (30, .i (Int.ofNat p)), (31, .i (Int.ofNat (p + 1))), (34, .i (Int.ofNat l)), (41, .p (.tup [.sl false 1 (rowN tn), .sl false 1 (rowN ln), .sl false 1 (rowN rn), .agg (stC c t ss)])), (47, .p (.sl false 10 (heldX hn))), (48, .p (.v (.bool true))), (55, .i (Int.ofNat l)), (56, .b false), (60, .i (Int.ofNat ((moves.take (min moves.length 60)).length + 1))), (61, .mk)]
      (oLo (moves.take (min moves.length 60)) ln rn hn)
      (allP_append.2 ⟨pf13 (min60 moves.length) (show 0 ≤ min moves.length 60 ∧ min moves.length 60 ≤ moves.length by omega) (byte_int hn') (byte_int hp) (one_int hp) (byte_int hl) hrun hwait known_399 (byte_int hl) hheld hnx hmk, pf4 (r1 8) r2 r3 r4⟩) (by kernel_rfl)

end Go.Proofs.Ytjfheahakfoofaa

/- What leaves a throttle, what it holds, what it rejects: in order, once. -/
namespace Go.Proofs.Ytjfheahakfoofaa
open Go.Em

/-- Entries, as numbers. -/
def nats (l : List Int) : List Nat := l.map Int.toNat
theorem nats_length (l : List Int) : (nats l).length = l.length := by simp [nats]
structure Od (l0 : List (Nat × Bool)) (l i : Nat) (lf rj es : List Int) : Prop where
  pos : ∀ a, a ∈ lf ++ es ++ rj → 1 ≤ a ∧ a ≤ (i : Int)
  inc : (lf ++ es).Pairwise (· < ·)
  cnt : ∀ k : Nat, lf.count ((k : Int) + 1) + rj.count ((k : Int) + 1) + es.count ((k : Int) + 1) = if k < i then wantOf l0 k else 0
  held : es.length ≤ l

theorem od_tick {l0 : List (Nat × Bool)} {l i m : Nat} {lf rj es : List Int} (h : Od l0 l i lf rj es) : Od l0 l i (lf ++ es.take m) rj (es.drop m) := by
  have e : (lf ++ es.take m) ++ es.drop m = lf ++ es := by rw [List.append_assoc, List.take_append_drop]
  refine ⟨fun a ha => ?_, by rw [e]; exact h.inc, fun k => ?_, by have := h.held; simp; omega⟩
  · rw [e] at ha; exact h.pos a ha
  · have := h.cnt k
    have e2 : es.count ((k : Int) + 1) = (es.take m).count ((k : Int) + 1) + (es.drop m).count ((k : Int) + 1) := by
      rw [← List.count_append, List.take_append_drop]
    rw [List.count_append]; omega

theorem od_more {l0 : List (Nat × Bool)} {l i : Nat} {lf rj es : List Int} (h : Od l0 l i lf rj es) (hw : wantOf l0 i = 0) : Od l0 l (i + 1) lf rj es := by
  refine ⟨fun a ha => ?_, h.inc, fun k => ?_, h.held⟩
  · have := h.pos a ha; omega
  · have := h.cnt k
    by_cases hk : k < i
    · rw [if_pos (by omega)]; rw [if_pos hk] at this; exact this
    · by_cases hki : k = i
      · subst hki; rw [if_pos (by omega), hw]; rw [if_neg hk] at this; exact this
      · rw [if_neg (by omega)]; rw [if_neg hk] at this; exact this

theorem count_one (k i : Nat) : ([(i : Int) + 1]).count ((k : Int) + 1) = if k = i then 1 else 0 := by
  by_cases h : k = i
  · subst h; simp
  · rw [if_neg h, List.count_eq_zero]; simp; omega

theorem od_new {l0 : List (Nat × Bool)} {l i : Nat} {lf rj es lf' rj' es' : List Int} (h : Od l0 l i lf rj es) (hw : wantOf l0 i = 1)
    (hor : (es = [] ∧ lf' = lf ++ [(i : Int) + 1] ∧ es' = [] ∧ rj' = rj) ∨ (lf' = lf ∧ es' = es ++ [(i : Int) + 1] ∧ rj' = rj ∧ es.length < l) ∨ (lf' = lf ∧ es' = es ∧ rj' = rj ++ [(i : Int) + 1])) : Od l0 l (i + 1) lf' rj' es' := by
  have hc : ∀ k : Nat, lf'.count ((k : Int) + 1) + rj'.count ((k : Int) + 1) + es'.count ((k : Int) + 1) = if k < i + 1 then wantOf l0 k else 0 := by
    intro k
    have h1 := h.cnt k
    have h2 := count_one k i
    have h3 : lf'.count ((k : Int) + 1) + rj'.count ((k : Int) + 1) + es'.count ((k : Int) + 1) = lf.count ((k : Int) + 1) + rj.count ((k : Int) + 1) + es.count ((k : Int) + 1) + if k = i then 1 else 0 := by
      rcases hor with ⟨rfl, rfl, rfl, rfl⟩ | ⟨rfl, rfl, rfl, _⟩ | ⟨rfl, rfl, rfl⟩ <;> rw [List.count_append, h2] <;> omega
    rw [h3, h1]
    by_cases hk : k = i
    · subst hk; rw [if_neg (by omega), if_pos rfl, if_pos (by omega), hw]
    · rw [if_neg hk]
      by_cases hki : k < i
      · rw [if_pos hki, if_pos (by omega)]; rfl
      · rw [if_neg hki, if_neg (by omega)]
  have hlt : ∀ a, a ∈ lf ++ es → a < (i : Int) + 1 := fun a ha => by have := h.pos a (by rcases List.mem_append.1 ha with ha | ha <;> simp [ha]); omega
  rcases hor with ⟨rfl, rfl, rfl, rfl⟩ | ⟨rfl, rfl, rfl, hl⟩ | ⟨rfl, rfl, rfl⟩
  · refine ⟨fun a ha => ?_, ?_, hc, Nat.zero_le _⟩
    · simp only [List.append_nil, List.mem_append, List.mem_singleton] at ha
      rcases ha with (ha | rfl) | ha
      · have := h.pos a (by simp [ha]); omega
      · omega
      · have := h.pos a (by simp [ha]); omega
    · rw [List.append_nil, List.pairwise_append]
      have hi := h.inc
      rw [List.append_nil] at hi
      exact ⟨hi, by simp, fun a ha b hb => by rw [List.mem_singleton] at hb; subst hb; exact hlt a (by simp [ha])⟩
  · refine ⟨fun a ha => ?_, ?_, hc, by simp; omega⟩
    · simp only [List.mem_append, List.mem_singleton] at ha
      rcases ha with (ha | ha | rfl) | ha
      · have := h.pos a (by simp [ha]); omega
      · have := h.pos a (by simp [ha]); omega
      · omega
      · have := h.pos a (by simp [ha]); omega
    · rw [← List.append_assoc, List.pairwise_append]
      exact ⟨h.inc, by simp, fun a ha b hb => by rw [List.mem_singleton] at hb; subst hb; exact hlt a ha⟩
  · refine ⟨fun a ha => ?_, h.inc, hc, h.held⟩
    simp only [List.mem_append, List.mem_singleton] at ha
    rcases ha with (ha | ha) | ha | rfl
    · have := h.pos a (by simp [ha]); omega
    · have := h.pos a (by simp [ha]); omega
    · have := h.pos a (by simp [ha]); omega
    · omega

theorem od_move {n p l i : Nat} {l0 : List (Nat × Bool)} {x : Tr} (h : Od l0 l i x.lf x.rj x.q.es) : Od l0 l (i + 1) (moveR n p l i (l0.getD i (0, false)) x).lf (moveR n p l i (l0.getD i (0, false)) x).rj (moveR n p l i (l0.getD i (0, false)) x).q.es := by
  have h1 : Od l0 l i (tickR n p (l0.getD i (0, false)).1 x).lf (tickR n p (l0.getD i (0, false)).1 x).rj (tickR n p (l0.getD i (0, false)).1 x).q.es := by
    have e : (tickT n p (x.now + (l0.getD i (0, false)).1) x.q).es = x.q.es.drop (gone n p (x.now + (l0.getD i (0, false)).1) x.q) := by
      unfold tickT
      split
      · rename_i h0; rw [h0]; rfl
      · rfl
    have := od_tick (m := gone n p (x.now + (l0.getD i (0, false)).1) x.q) h
    simp only [tickR]
    rw [e]; exact this
  unfold moveR
  cases hb : (l0.getD i (0, false)).2 with
  | false =>
    rw [if_neg (by simp)]
    exact od_more h1 (by unfold wantOf; rw [hb]; rfl)
  | true =>
    rw [if_pos rfl]
    refine od_new h1 (by unfold wantOf; rw [hb]; rfl) ?_
    generalize tickR n p (l0.getD i (0, false)).1 x = y
    have hcast : Int.ofNat (i + 1) = (i : Int) + 1 := by simp
    by_cases hp : passes n p y.now y.q = true
    · left
      refine ⟨?_, by simp [arrR, leftT, hp], by simp [arrR, arrT, hp], by simp [arrR, rejT, hp]⟩
      simp only [passes, decide_eq_true_eq] at hp
      exact List.length_eq_zero_iff.1 hp.1
    · right
      by_cases hh : holds l y.q = true
      · left
        refine ⟨by simp [arrR, leftT, hp], by simp [arrR, arrT, hp, hh], by simp [arrR, rejT, hp, hh], ?_⟩
        simpa [holds] using hh
      · right
        exact ⟨by simp [arrR, leftT, hp], by simp [arrR, arrT, hp, hh], by simp [arrR, rejT, hp, hh]⟩

theorem seqR_od {n p l : Nat} {l0 : List (Nat × Bool)} : ∀ i, Od l0 l i (seqR n p l l0 i).lf (seqR n p l l0 i).rj (seqR n p l l0 i).q.es
  | 0 => ⟨by simp [seqR], by simp [seqR], by simp [seqR], by simp [seqR]⟩
  | i + 1 => od_move (seqR_od i)

theorem nats_back {l : List Int} (h : ∀ a, a ∈ l → 1 ≤ a) : (nats l).map Int.ofNat = l := by
  rw [nats, List.map_map]
  conv => rhs; rw [← List.map_id l]
  refine List.map_congr_left fun a ha => ?_
  have := h a ha
  simp only [Function.comp, Int.ofNat_eq_natCast, id]; omega
theorem nats_count {l : List Int} (h : ∀ a, a ∈ l → 1 ≤ a) (k : Nat) : (nats l).count (k + 1) = l.count ((k : Int) + 1) := by
  induction l with
  | nil => rfl
  | cons a l ih =>
    have h1 := h a (by simp)
    simp only [nats, List.map_cons] at ih ⊢
    rw [List.count_cons, List.count_cons, ih fun b hb => h b (by simp [hb])]
    congr 1
    by_cases ha : a = (k : Int) + 1
    · rw [if_pos (by simp; omega), if_pos (by simp [ha])]
    · rw [if_neg (by simp; omega), if_neg (by simp [ha])]

theorem ord_ok {l0 : List (Nat × Bool)} {l : Nat} {lf rj es : List Int} (h : Od l0 l l0.length lf rj es) : OrdOk l0.length l (wantOf l0) (nats lf) (nats rj) (nats es) ∧ rowI lf = rowN (nats lf) ∧ rowI rj = rowN (nats rj) ∧ notes es = heldX (nats es) := by
  have p1 : ∀ a, a ∈ lf → 1 ≤ a ∧ a ≤ (l0.length : Int) := fun a ha => h.pos a (by simp [ha])
  have p2 : ∀ a, a ∈ rj → 1 ≤ a ∧ a ≤ (l0.length : Int) := fun a ha => h.pos a (by simp [ha])
  have p3 : ∀ a, a ∈ es → 1 ≤ a ∧ a ≤ (l0.length : Int) := fun a ha => h.pos a (by simp [ha])
  have conv1 : ∀ {l : List Int}, (∀ a, a ∈ l → 1 ≤ a ∧ a ≤ (l0.length : Int)) → ∀ a, a ∈ nats l → 1 ≤ a ∧ a ≤ l0.length := by
    intro l hl a ha
    obtain ⟨b, hb, rfl⟩ := List.mem_map.1 ha
    have := hl b hb
    omega
  obtain ⟨i1, i2, i3⟩ := List.pairwise_append.1 h.inc
  refine ⟨⟨by simpa [nats] using h.held, fun j hj => ?_, conv1 p1, conv1 p2, conv1 p3, fun a ha b hb => ?_, fun i hi => ?_⟩, ?_, ?_, ?_⟩
  · have hj' : j + 1 < lf.length := by simpa [nats] using hj
    have := List.pairwise_iff_getElem.1 i1 j (j + 1) (by omega) hj' (by omega)
    have h1 := p1 lf[j] (List.getElem_mem _)
    simp only [nats, List.getElem_map]; omega
  · obtain ⟨a', ha', rfl⟩ := List.mem_map.1 ha
    obtain ⟨b', hb', rfl⟩ := List.mem_map.1 hb
    have := i3 b' hb' a' ha'
    omega
  · rw [nats_count fun a ha => (p1 a ha).1, nats_count fun a ha => (p2 a ha).1, nats_count fun a ha => (p3 a ha).1, h.cnt i, if_pos hi]
  · rw [← rowI_nat, nats_back fun a ha => (p1 a ha).1]
  · rw [← rowI_nat, nats_back fun a ha => (p2 a ha).1]
  · rw [heldX, nats_back fun a ha => (p3 a ha).1]

theorem waiting_held (N : Nat) (c t : Int) (es : List Int) (hl : es.length < 80) : Gam.pureD (callF tab ext (N + 85)) 10 [.agg (stC c t (slotsC (heldS es)))] = some (.sl false 10 (notes es)) := by
  by_cases he : es = []
  · subst he
    exact waiting_pure (N + 4) c t [] (by simp [allOf]) (by simp)
  · have hh : heldS es = [slot0 es] := by rw [heldS, if_neg he]
    rw [hh]
    exact waiting_one N c t es hl

theorem take_moves (l0 : List (Nat × Bool)) : (movesC l0).take (min (movesC l0).length 60) = movesC (l0.take 60) := by
  have hmv : movesC (l0.take 60) = (movesC l0).take (min (movesC l0).length 60) := by
    rw [movesC, movesC, List.map_take, List.length_map]
    rw [Nat.min_comm, List.take_eq_take_min]
    simp [Nat.min_comm]
  exact hmv.symm

theorem orders_throttle (n p l : Nat) (l0 : List (Nat × Bool)) (hm : okMoves l0) (hn : n < 256) (hp : p < 256) (hl : l < 256) :
    callF tab ext 400 (.fn 4) [boundsC n p l, .sl false 2 (movesC l0), .v (.bool false)] [] = some (.v (.bool true), []) := by
  have hm' : okMoves (l0.take 60) := fun m hx => hm m (List.mem_of_mem_take hx)
  have hlen : (l0.take 60).length ≤ 60 := by simp; omega
  have hb := seqR_bnd (n := n) (p := p) (l := l) hm' (l0.take 60).length
  have hrun := seq_pure 308 tName n p l (l0.take 60) hlen hm' hn hp hl
  have hod := seqR_od (n := n) (p := p) (l := l) (l0 := l0.take 60) (l0.take 60).length
  obtain ⟨hok, e1, e2, e3⟩ := ord_ok hod
  have hsum := hb.sum
  have hrj := hb.rj
  have hlf := hb.lf
  have hw := waiting_held 314 (Int.ofNat (seqR n p l (l0.take 60) (l0.take 60).length).q.c) (Int.ofNat (seqR n p l (l0.take 60) (l0.take 60).length).q.t) (seqR n p l (l0.take 60) (l0.take 60).length).q.es (by omega)
  rw [e3] at hw
  rw [e1, e2] at hrun
  exact orders_true false n p l (movesC l0) (l0.take 60) _ _ _ _ _ _ _ hn hp hl (take_moves l0) hrun hw hlen (by rw [nats_length]; omega) (by rw [nats_length]; omega) (by rw [nats_length]; omega) hok

end Go.Proofs.Ytjfheahakfoofaa

/- The runs of a delay. -/
namespace Go.Proofs.Ytjfheahakfoofaa
open Go.Em

theorem stepOk_d (N : Nat) (s : ByteArray) (n p l : Nat) (c t c' t' : Int) (ss ss' : List Sl) (os ls : List Ms) (fates : List (List X)) (kind a : Int) (st msg : List X) (h : ∃ e b, (st = [num e, .sl false 1 [[num 1]]] ∧ msg = noteC b) ∨ (st = [num e, .sl false 1 [[num 0], [num 3]]] ∧ msg = zMsg)) (hs : ss.length < 80) (hs2 : ∀ s, s ∈ ss → s.es.length < 80)
    (hst : Gam.pureD (callF tab ext (N + 89)) 21 [nodeT 8 s n p l, stateX c t ss, inX kind a st msg] = some (outX c' t' ss' (outsC os) fates (lettC ls) [])) :
    StepOk N 8 s n p l c t c' t' (false, slotsC ss) (slotsC ss') os ls fates (inX kind a st msg) := by
  obtain ⟨e, b, ⟨rfl, rfl⟩ | ⟨rfl, rfl⟩⟩ := h
  · exact pure_of (T := tab) (ext := ext) (N := N + 89) (f := 14) (args := [nodeT 8 s n p l, stateX c t ss, inX kind a [num e, .sl false 1 [[num 1]]] (noteC b)]) [(8, .p (stateX c t ss)), (15, .p (outX c' t' ss' (outsC os) fates (lettC ls) []))] []
      (pf2 (clone_pure (N + 6) c t ss hs hs2) hst) (x := outX c' t' ss' (outsC os) fates (lettC ls) []) (bx := []) (by kernel_rfl) (by kernel_rfl)
  · exact pure_of (T := tab) (ext := ext) (N := N + 89) (f := 14) (args := [nodeT 8 s n p l, stateX c t ss, inX kind a [num e, .sl false 1 [[num 0], [num 3]]] zMsg]) [(8, .p (stateX c t ss)), (15, .p (outX c' t' ss' (outsC os) fates (lettC ls) []))] []
      (pf2 (clone_pure (N + 6) c t ss hs hs2) hst) (x := outX c' t' ss' (outsC os) fates (lettC ls) []) (bx := []) (by kernel_rfl) (by kernel_rfl)

/-- A message is held until a time that is not before those that are held. -/
def addD (k : Nat) (e : Int) : List (Nat × List Int) → List (Nat × List Int)
  | [] => [(k, [e])]
  | d :: ds => if ds = [] then (if d.1 = k then [(k, d.2 ++ [e])] else [d, (k, [e])]) else d :: addD k e ds
theorem addD_concat (k : Nat) (e : Int) (d : Nat × List Int) : ∀ (ds : List (Nat × List Int)), addD k e (ds ++ [d]) = if d.1 = k then ds ++ [(k, d.2 ++ [e])] else ds ++ [d] ++ [(k, [e])]
  | [] => by simp [addD]
  | x :: ds => by
    have : ¬ ds ++ [d] = [] := by simp
    simp only [List.cons_append, addD, if_neg this, addD_concat k e d ds]
    split <;> simp

/-- The times are in order; none is later than k. -/
structure Ups (k : Nat) (ds : List (Nat × List Int)) : Prop where
  inc : (ds.map (·.1)).Pairwise (· < ·)
  le : ∀ d, d ∈ ds → d.1 ≤ k

theorem ups_cases {k : Nat} {ds : List (Nat × List Int)} (h : Ups k ds) : (∀ d, d ∈ ds → d.1 < k) ∨ ∃ ds0 es, ds = ds0 ++ [(k, es)] ∧ ∀ d, d ∈ ds0 → d.1 < k := by
  rcases List.eq_nil_or_concat ds with rfl | ⟨ds0, d, rfl⟩
  · left; intro d hd; cases hd
  · rw [List.concat_eq_append] at h ⊢
    have hinc := h.inc
    rw [List.map_append, List.pairwise_append] at hinc
    have hlt : ∀ x, x ∈ ds0 → x.1 < d.1 := fun x hx => hinc.2.2 x.1 (List.mem_map.2 ⟨x, hx, rfl⟩) d.1 (by simp)
    have hd := h.le d (by simp)
    by_cases hk : d.1 = k
    · right
      refine ⟨ds0, d.2, by rw [← hk], fun x hx => by have := hlt x hx; omega⟩
    · left
      intro x hx
      rcases List.mem_append.1 hx with hx | hx
      · have := hlt x hx; omega
      · rw [List.mem_singleton] at hx; subst hx; omega

theorem addD_new {k : Nat} {e : Int} {ds : List (Nat × List Int)} (h : ∀ d, d ∈ ds → d.1 < k) : addD k e ds = ds ++ [(k, [e])] := by
  rcases List.eq_nil_or_concat ds with rfl | ⟨ds0, d, rfl⟩
  · rfl
  · rw [List.concat_eq_append] at h ⊢
    have := h d (by simp)
    rw [addD_concat, if_neg (by omega)]
theorem addD_last {k : Nat} {e : Int} {ds : List (Nat × List Int)} {es : List Int} : addD k e (ds ++ [(k, es)]) = ds ++ [(k, es ++ [e])] := by
  rw [addD_concat, if_pos rfl]

theorem allD_append (a b : List (Nat × List Int)) : allD (a ++ b) = allD a ++ allD b := by simp [allD]
theorem allD_one (k : Nat) (es : List Int) : allD [(k, es)] = es := by simp [allD]
theorem addD_all {k : Nat} {e : Int} {ds : List (Nat × List Int)} (h : Ups k ds) : allD (addD k e ds) = allD ds ++ [e] := by
  rcases ups_cases h with h1 | ⟨ds0, es, rfl, h1⟩
  · rw [addD_new h1, allD_append, allD_one]
  · rw [addD_last, allD_append, allD_append, allD_one, allD_one, List.append_assoc]
theorem addD_ups {k : Nat} {e : Int} {ds : List (Nat × List Int)} (h : Ups k ds) : Ups k (addD k e ds) := by
  rcases ups_cases h with h1 | ⟨ds0, es, rfl, h1⟩
  · rw [addD_new h1]
    refine ⟨?_, fun d hd => ?_⟩
    · rw [List.map_append, List.pairwise_append]
      refine ⟨h.inc, by simp, fun a ha b hb => ?_⟩
      obtain ⟨d, hd, rfl⟩ := List.mem_map.1 ha
      simp at hb; subst hb
      exact h1 d hd
    · rcases List.mem_append.1 hd with hd | hd
      · exact h.le d hd
      · rw [List.mem_singleton] at hd; subst hd; exact Nat.le_refl _
  · rw [addD_last]
    refine ⟨?_, fun d hd => ?_⟩
    · have := h.inc
      simpa using this
    · rcases List.mem_append.1 hd with hd | hd
      · exact h.le d (by simp [hd])
      · rw [List.mem_singleton] at hd; subst hd; exact Nat.le_refl _
theorem addD_len (k : Nat) (e : Int) : ∀ (ds : List (Nat × List Int)), (addD k e ds).length ≤ ds.length + 1
  | [] => by simp [addD]
  | d :: ds => by
    have := addD_len k e ds
    simp only [addD]
    split
    · split <;> simp <;> omega
    · simp; omega
theorem keepD_ups {k now : Nat} {ds : List (Nat × List Int)} (h : Ups k ds) : Ups k (keepD now ds) :=
  ⟨(h.inc).sublist ((List.filter_sublist).map _), fun d hd => h.le d (List.mem_filter.1 hd).1⟩
theorem ups_mono {k k' : Nat} {ds : List (Nat × List Int)} (h : Ups k ds) (hk : k ≤ k') : Ups k' ds := ⟨h.inc, fun d hd => Nat.le_trans (h.le d hd) hk⟩
theorem rel_keep {now : Nat} : ∀ {ds : List (Nat × List Int)}, (ds.map (·.1)).Pairwise (· < ·) → relD now ds ++ allD (keepD now ds) = allD ds
  | [], _ => rfl
  | d :: ds, h => by
    rw [List.map_cons, List.pairwise_cons] at h
    by_cases hd : d.1 ≤ now
    · have ih := rel_keep (now := now) h.2
      simp only [relD, keepD, allD, List.filter_cons, hd, decide_true, if_true, List.flatMap_cons, Bool.not_true, Bool.false_eq_true, if_false] at ih ⊢
      rw [List.append_assoc, ih]
    · have hall : ∀ x, x ∈ ds → ¬ x.1 ≤ now := fun x hx => by have := h.1 x.1 (List.mem_map.2 ⟨x, hx, rfl⟩); omega
      have e1 : (d :: ds).filter (fun d => decide (d.1 ≤ now)) = [] := by
        rw [List.filter_eq_nil_iff]
        intro x hx
        rcases List.mem_cons.1 hx with rfl | hx
        · simpa using hd
        · simpa using hall x hx
      have e2 : (d :: ds).filter (fun d => !decide (d.1 ≤ now)) = d :: ds := by
        rw [List.filter_eq_self]
        intro x hx
        rcases List.mem_cons.1 hx with rfl | hx
        · simpa using hd
        · simpa using hall x hx
      simp only [relD, keepD, e1, e2]
      simp [allD]
theorem mem_all {ds : List (Nat × List Int)} {d : Nat × List Int} (h : d ∈ ds) : d.2.length ≤ (allD ds).length := by
  obtain ⟨a, b, rfl⟩ := List.append_of_mem h
  rw [allD_append]
  simp only [allD, List.flatMap_cons, List.length_append]
  omega

/-- A run of a delay. -/
structure Dr where
  now : Nat
  ts : List Nat
  lf : List Int
  rj : List Int
  ds : List (Nat × List Int)
section
variable (p l : Nat)
def tickE (w : Nat) (x : Dr) : Dr := ⟨x.now + w, x.ts ++ List.replicate (relD (x.now + w) x.ds).length (x.now + w), x.lf ++ relD (x.now + w) x.ds, x.rj, keepD (x.now + w) x.ds⟩
def arrE (e : Int) (x : Dr) : Dr := if (allD x.ds).length < l then ⟨x.now, x.ts, x.lf, x.rj, addD (x.now + (p + 1)) e x.ds⟩ else ⟨x.now, x.ts, x.lf, x.rj ++ [e], x.ds⟩
def moveE (i : Nat) (m : Nat × Bool) (x : Dr) : Dr := if m.2 then arrE p l (Int.ofNat (i + 1)) (tickE m.1 x) else tickE m.1 x
def seqE (l0 : List (Nat × Bool)) : Nat → Dr
  | 0 => ⟨0, [], [], [], []⟩
  | i + 1 => moveE p l i (l0.getD i (0, false)) (seqE l0 i)
end

structure BndE (p i : Nat) (x : Dr) : Prop where
  sum : x.ts.length + (allD x.ds).length ≤ i
  lf : x.lf.length = x.ts.length
  rj : x.rj.length ≤ i
  ds : x.ds.length ≤ i
  now : x.now ≤ 255 * i
  ups : Ups (x.now + (p + 1)) x.ds

theorem tickE_bnd {p i w : Nat} {x : Dr} (h : BndE p i x) (hw : w < 256) : (tickE w x).ts.length + (allD (tickE w x).ds).length ≤ i ∧ (tickE w x).lf.length = (tickE w x).ts.length ∧ (tickE w x).rj.length ≤ i ∧ (tickE w x).ds.length ≤ i ∧ (tickE w x).now ≤ 255 * i + 255 ∧ Ups ((tickE w x).now + (p + 1)) (tickE w x).ds := by
  have hk := rel_keep (now := x.now + w) h.ups.inc
  have hk2 := congrArg List.length hk
  rw [List.length_append] at hk2
  have h1 := h.sum
  refine ⟨?_, ?_, h.rj, ?_, ?_, ?_⟩
  · simp only [tickE, List.length_append, List.length_replicate]; omega
  · simp only [tickE, List.length_append, List.length_replicate, h.lf]
  · have := keepD_len (x.now + w) x.ds
    have := h.ds
    simp only [tickE]; omega
  · have := h.now; simp only [tickE]; omega
  · exact keepD_ups (ups_mono h.ups (by simp only [tickE]; omega))

theorem moveE_bnd {p l i : Nat} {m : Nat × Bool} {x : Dr} (h : BndE p i x) (hw : m.1 < 256) : BndE p (i + 1) (moveE p l i m x) := by
  obtain ⟨h1, h2, h3, h4, h5, h6⟩ := tickE_bnd h hw
  unfold moveE
  generalize tickE m.1 x = y at h1 h2 h3 h4 h5 h6
  split
  · unfold arrE
    split
    · refine ⟨?_, h2, Nat.le_succ_of_le h3, ?_, by dsimp only; omega, addD_ups h6⟩
      · dsimp only; rw [addD_all h6, List.length_append]; simp; omega
      · have := addD_len (y.now + (p + 1)) (Int.ofNat (i + 1)) y.ds
        dsimp only; omega
    · exact ⟨Nat.le_succ_of_le h1, h2, by simp; omega, Nat.le_succ_of_le h4, by dsimp only; omega, h6⟩
  · exact ⟨Nat.le_succ_of_le h1, h2, Nat.le_succ_of_le h3, Nat.le_succ_of_le h4, by omega, h6⟩

theorem seqE_bnd {p l : Nat} {l0 : List (Nat × Bool)} (h : okMoves l0) : ∀ i, BndE p i (seqE p l l0 i)
  | 0 => ⟨by simp [seqE, allD], rfl, by simp [seqE], by simp [seqE], by simp [seqE], ⟨by simp [seqE], by simp [seqE]⟩⟩
  | i + 1 => moveE_bnd (seqE_bnd h i) (okMoves_get h i)

theorem ode_move {p l i : Nat} {l0 : List (Nat × Bool)} {x : Dr} (hw : (l0.getD i (0, false)).1 < 256) (hb : BndE p i x) (h : Od l0 l i x.lf x.rj (allD x.ds)) : Od l0 l (i + 1) (moveE p l i (l0.getD i (0, false)) x).lf (moveE p l i (l0.getD i (0, false)) x).rj (allD (moveE p l i (l0.getD i (0, false)) x).ds) := by
  have hk := rel_keep (now := x.now + (l0.getD i (0, false)).1) hb.ups.inc
  have h1 : Od l0 l i (tickE (l0.getD i (0, false)).1 x).lf (tickE (l0.getD i (0, false)).1 x).rj (allD (tickE (l0.getD i (0, false)).1 x).ds) := by
    have := od_tick (m := (relD (x.now + (l0.getD i (0, false)).1) x.ds).length) h
    have e1 : (allD x.ds).take (relD (x.now + (l0.getD i (0, false)).1) x.ds).length = relD (x.now + (l0.getD i (0, false)).1) x.ds := by rw [← hk]; simp
    have e2 : (allD x.ds).drop (relD (x.now + (l0.getD i (0, false)).1) x.ds).length = allD (keepD (x.now + (l0.getD i (0, false)).1) x.ds) := by rw [← hk]; simp
    rw [e1, e2] at this
    exact this
  obtain ⟨_, _, _, _, _, hu⟩ := tickE_bnd hb hw
  unfold moveE
  cases hbb : (l0.getD i (0, false)).2 with
  | false =>
    rw [if_neg (by simp)]
    exact od_more h1 (by unfold wantOf; rw [hbb]; rfl)
  | true =>
    rw [if_pos rfl]
    refine od_new h1 (by unfold wantOf; rw [hbb]; rfl) ?_
    generalize tickE (l0.getD i (0, false)).1 x = y at hu
    right
    unfold arrE
    by_cases hl : (allD y.ds).length < l
    · left
      rw [if_pos hl]
      exact ⟨rfl, by rw [addD_all hu]; rfl, rfl, hl⟩
    · right
      rw [if_neg hl]
      exact ⟨rfl, rfl, rfl⟩

theorem seqE_od {p l : Nat} {l0 : List (Nat × Bool)} (h : okMoves l0) : ∀ i, Od l0 l i (seqE p l l0 i).lf (seqE p l l0 i).rj (allD (seqE p l l0 i).ds)
  | 0 => ⟨by simp [seqE, allD], by simp [seqE, allD], by simp [seqE, allD], by simp [seqE, allD]⟩
  | i + 1 => ode_move (okMoves_get h i) (seqE_bnd h i) (seqE_od h i)

def Dr.rs (x : Dr) : Rs := ⟨x.now, x.ts.map Int.ofNat, x.lf, x.rj, 0, 0, slotsC (dss x.ds)⟩

theorem d_add (N : Nat) (c t : Int) (ds : List (Nat × List Int)) (k : Nat) (e : Int) (hu : Ups k ds) (hn : ds.length < 79) (h2 : ∀ d, d ∈ ds → d.2.length < 79) :
    Gam.pureD (callF tab ext (N + 86)) 31 [stateX c t (dss ds), zSlotK k, .agg (noteC e)] = some (stateX c t (dss (addD k e ds))) := by
  rcases ups_cases hu with h1 | ⟨ds0, es, rfl, h1⟩
  · rw [addD_new h1]
    exact d_add_new N c t ds k e hn h1 (fun d hd => by have := h2 d hd; omega)
  · rw [addD_last]
    have := h2 (k, es) (by simp)
    exact d_add_last N c t ds0 k e es (by simp at hn; omega) h1 (fun d hd => by have := h2 d (by simp [hd]); omega) this

theorem moveE_ok (N : Nat) (s : ByteArray) (n p l : Nat) (i : Nat) (m : Nat × Bool) (x : Dr) (h : BndE p i x) (hi : i < 60) (hw : m.1 < 256) (hp : p < 256) (hl : l ≤ 256) :
    MoveOk N 8 s n p l i m x.rs (moveE p l i m x).rs := by
  have h1 := h.sum
  have h2 := h.lf
  have h3 := h.rj
  have h4 := h.ds
  have h5 := h.now
  obtain ⟨g1, g2, g3, g4, g5, g6⟩ := tickE_bnd h hw
  have hrl := relD_len (x.now + m.1) x.ds
  have hds : ∀ s, s ∈ dss x.ds → s.es.length < 80 := fun s hs => by
    obtain ⟨d, hd, rfl⟩ := List.mem_map.1 hs
    have := mem_all hd
    have e : (dslot d).es = d.2 := rfl
    rw [e]; omega
  have ht := d_tick (N + 2) s n p l 0 0 (Int.ofNat (i + 1)) (x.now + m.1) x.ds (by omega) (by omega) (by omega)
  rw [← movedM_outs] at ht
  have hs1 := stepOk_d N s n p l 0 0 0 0 (dss x.ds) (dss (keepD (x.now + m.1) x.ds)) (movedM (Int.ofNat (i + 1)) (relD (x.now + m.1) x.ds) (relD (x.now + m.1) x.ds).length) [] _ 2 (Int.ofNat (x.now + m.1)) _ zMsg ⟨Int.ofNat (i + 1), 0, .inr ⟨rfl, rfl⟩⟩ (by rw [dss_length]; omega) hds ht
  refine ⟨hw, by simp only [Dr.rs]; omega, by simp [Dr.rs]; omega, by simp [Dr.rs]; omega, by simp [Dr.rs]; omega, _, _, _, _, _, _, by rw [movedM_length]; omega, by simp, hs1, ?_⟩
  have hgl : (movedM (Int.ofNat (i + 1)) (relD (x.now + m.1) x.ds) (relD (x.now + m.1) x.ds).length).length = (relD (x.now + m.1) x.ds).length := movedM_length _ _ _
  have e1 : fsts (movedM (Int.ofNat (i + 1)) (relD (x.now + m.1) x.ds) (relD (x.now + m.1) x.ds).length) = relD (x.now + m.1) x.ds := by rw [movedM_fsts _ _ _ (Nat.le_refl _), List.take_length]
  have e2 : fsts [] = [] := rfl
  have e3 : ∀ a, nows a [] = [] := fun _ => rfl
  by_cases hb : m.2 = true
  · right
    refine ⟨hb, ?_⟩
    have hkl := keepD_len (x.now + m.1) x.ds
    have hkall : (allD (keepD (x.now + m.1) x.ds)).length ≤ i := by simp only [tickE] at g1; omega
    have hds2 : ∀ d, d ∈ keepD (x.now + m.1) x.ds → d.2.length < 79 := fun d hd => by have := mem_all hd; omega
    have hds3 : ∀ s, s ∈ dss (keepD (x.now + m.1) x.ds) → s.es.length < 80 := fun s hs => by
      obtain ⟨d, hd, rfl⟩ := List.mem_map.1 hs
      have := hds2 d hd
      have e : (dslot d).es = d.2 := rfl
      rw [e]; omega
    by_cases hll : (allD (keepD (x.now + m.1) x.ds)).length < l
    · have ha := d_hold (N + 2) s n p l 0 0 (keepD (x.now + m.1) x.ds) (x.now + m.1) (Int.ofNat (i + 1)) (addD (x.now + m.1 + (p + 1)) (Int.ofNat (i + 1)) (keepD (x.now + m.1) x.ds)) (by omega) (by omega) (by omega) (by omega) hl hll
        (d_add (N + 2) 0 0 (keepD (x.now + m.1) x.ds) (x.now + m.1 + (p + 1)) (Int.ofNat (i + 1)) g6 (by omega) hds2)
      have hs2 := stepOk_d N s n p l 0 0 0 0 (dss (keepD (x.now + m.1) x.ds)) (dss (addD (x.now + m.1 + (p + 1)) (Int.ofNat (i + 1)) (keepD (x.now + m.1) x.ds))) [] [] [] 1 (Int.ofNat (x.now + m.1)) _ (noteC (Int.ofNat (i + 1))) ⟨Int.ofNat (i + 1), Int.ofNat (i + 1), .inl ⟨rfl, rfl⟩⟩ (by rw [dss_length]; omega) hds3 ha
      refine ⟨_, _, _, _, _, _, by simp, by simp, hs2, ?_⟩
      simp only [moveE, hb, if_true, Dr.rs, arrE, tickE, hll, nows_const, hgl, e1, e2, List.map_append, List.append_nil, List.length_nil, List.replicate_zero, List.map_nil]
    · have ha := d_rej (N + 2) s n p l 0 0 (keepD (x.now + m.1) x.ds) (x.now + m.1) (Int.ofNat (i + 1)) (by omega) (by omega) (by omega) hl hll
      have hs2 := stepOk_d N s n p l 0 0 0 0 (dss (keepD (x.now + m.1) x.ds)) (dss (keepD (x.now + m.1) x.ds)) [] [noteM (Int.ofNat (i + 1))] [fateR s (Int.ofNat (i + 1))] 1 (Int.ofNat (x.now + m.1)) _ (noteC (Int.ofNat (i + 1))) ⟨Int.ofNat (i + 1), Int.ofNat (i + 1), .inl ⟨rfl, rfl⟩⟩ (by rw [dss_length]; omega) hds3 ha
      refine ⟨_, _, _, _, _, _, by simp, by simp, hs2, ?_⟩
      have e4 : fsts [noteM (Int.ofNat (i + 1))] = [Int.ofNat (i + 1)] := rfl
      simp only [moveE, hb, if_true, Dr.rs, arrE, tickE, hll, if_false, nows_const, hgl, e1, e2, e4, List.map_append, List.append_nil, List.length_nil, List.replicate_zero, List.map_nil]
  · left
    have hb' : m.2 = false := by simpa using hb
    refine ⟨hb', ?_⟩
    simp only [moveE, hb', Bool.false_eq_true, if_false, Dr.rs, tickE, nows_const, hgl, e1, e2, List.map_append, List.append_nil]

theorem seqE_pure (N : Nat) (s : ByteArray) (n p l : Nat) (l0 : List (Nat × Bool)) (hl0 : l0.length ≤ 60) (hm : okMoves l0) (hp : p < 256) (hl : l ≤ 256) :
    Gam.pureD (callF tab ext (N + 91)) 7 [nodeT 8 s n p l, .sl false 2 (movesC l0)] = some (.tup [.sl false 1 (rowN (seqE p l l0 l0.length).ts), .sl false 1 (rowI (seqE p l l0 l0.length).lf), .sl false 1 (rowI (seqE p l l0 l0.length).rj),
      .agg (stC 0 0 (slotsC (dss (seqE p l l0 l0.length).ds)))]) := by
  have h := run_pure N 8 s n p l l0 (fun i => (seqE p l l0 i).rs) (by simp [seqE, Dr.rs, rs0, slotsC, dss]) (by omega) (fun i hi => by
    have e : l0[i] = l0.getD i (0, false) := by simp [List.getD, hi]
    have := moveE_ok N s n p l i (l0.getD i (0, false)) (seqE p l l0 i) (seqE_bnd hm i) (by omega) (okMoves_get hm i) hp hl
    rw [e]
    exact this)
  rw [h]
  simp only [Dr.rs, rowI_nat]

theorem orders_delay (n p l : Nat) (l0 : List (Nat × Bool)) (hm : okMoves l0) (hn : n < 256) (hp : p < 256) (hl : l < 256) :
    callF tab ext 400 (.fn 4) [boundsC n p l, .sl false 2 (movesC l0), .v (.bool true)] [] = some (.v (.bool true), []) := by
  have hm' : okMoves (l0.take 60) := fun m hx => hm m (List.mem_of_mem_take hx)
  have hlen : (l0.take 60).length ≤ 60 := by simp; omega
  have hb := seqE_bnd (p := p) (l := l) hm' (l0.take 60).length
  have hrun := seqE_pure 308 tName n p l (l0.take 60) hlen hm' hp (by omega)
  have hod := seqE_od (p := p) (l := l) hm' (l0.take 60).length
  obtain ⟨hok, e1, e2, e3⟩ := ord_ok hod
  have hsum := hb.sum
  have hrj := hb.rj
  have hlf := hb.lf
  have hds := hb.ds
  have hw := waiting_d 314 0 0 (seqE p l (l0.take 60) (l0.take 60).length).ds (by omega) (by omega)
  rw [e3] at hw
  rw [e1, e2] at hrun
  exact orders_true true n p l (movesC l0) (l0.take 60) _ _ _ _ _ _ _ hn hp hl (take_moves l0) hrun hw hlen (by rw [nats_length]; omega) (by rw [nats_length]; omega) (by rw [nats_length]; omega) hok

end Go.Proofs.Ytjfheahakfoofaa

/- ThrottleWaits, walked. -/
namespace Go.Proofs.Ytjfheahakfoofaa
open Go.Em

def dName : ByteArray := ⟨#[100]⟩
theorem rowN_snoc (l : List Nat) (v : Nat) : rowN (l ++ [v]) = rowN l ++ [[nat v]] := by simp [rowN]
theorem row_at {w : Nat → Nat} {k j : Nat} (h : j < k) : (rowN ((List.range k).map w))[0 + j]? = some [nat (w j)] := by
  rw [Nat.zero_add, rowN_get (by simpa using h)]; simp
theorem ge_yes {a b : Nat} (h : b ≤ a) : decide (Int.ofNat a ≥ Int.ofNat b) = true := by
  apply decide_eq_true; simp only [Int.ofNat_eq_natCast]; omega
theorem ge_no {a b : Nat} (h : ¬ b ≤ a) : decide (Int.ofNat a ≥ Int.ofNat b) = false := by
  apply decide_eq_false; simp only [Int.ofNat_eq_natCast]; omega
theorem lt_zero (a : Nat) : decide (Int.ofNat a < 0) = false := by
  apply decide_eq_false; simp only [Int.ofNat_eq_natCast]; omega
theorem neq_no {a b : Nat} (h : a = b) : (!(Int.ofNat a == Int.ofNat b)) = false := by subst h; simp

section
variable (p : Nat) (mvs : List (List X)) (ts lf : List Nat) (w : Nat → Nat) (i k j : Nat) (a : Nat) (r : Int)
/-- Heads of the loop that adds up the times. -/
noncomputable def waH : St := ⟨[(1, .sl false 2 mvs), (5, .ptr 0 0 0), (6, .sl false 1 (rowN ts)), (7, .sl false 1 (rowN lf)), (10, .bs 1 0 i), (11, nat i)], [.var (nodeV 8 dName 0 p 256), .row 1 (rowN ((List.range i).map w))]⟩
noncomputable def waS : St := ⟨[(1, .sl false 2 mvs), (5, .ptr 0 0 0), (6, .sl false 1 (rowN ts)), (7, .sl false 1 (rowN lf)), (10, .bs 2 0 (i + 1)), (11, nat (i + 1))], [.var (nodeV 8 dName 0 p 256), .dead, .row 1 (rowN ((List.range i).map w) ++ [[nat a]])]⟩
noncomputable def waE : St := ⟨[(1, .sl false 2 mvs), (5, .ptr 0 0 0), (6, .sl false 1 (rowN ts)), (7, .sl false 1 (rowN lf)), (10, .bs 1 0 i), (11, nat i), (51, .v (.bool false))], [.var (nodeV 8 dName 0 p 256), .row 1 (rowN ((List.range i).map w))]⟩
theorem wa_canonS : canon 0 (waS p mvs ts lf w i a) = some ⟨[(1, .sl false 2 mvs), (5, .ptr 0 0 0), (6, .sl false 1 (rowN ts)), (7, .sl false 1 (rowN lf)), (10, .bs 1 0 (i + 1)), (11, nat (i + 1))], [.var (nodeV 8 dName 0 p 256), .row 1 (rowN ((List.range i).map w) ++ [[nat a]])]⟩ := by kernel_rfl
/-- Heads of the loop over the messages: 'k' times. -/
noncomputable def wbH : St := ⟨[(1, .sl false 2 mvs), (5, .ptr 0 0 0), (6, .sl false 1 (rowN ts)), (7, .sl false 1 (rowN lf)), (10, .bs 1 0 k), (13, nat a), (14, nat i)], [.var (nodeV 8 dName 0 p 256), .row 1 (rowN ((List.range k).map w))]⟩
noncomputable def wbE : St := ⟨[(1, .sl false 2 mvs), (5, .ptr 0 0 0), (6, .sl false 1 (rowN ts)), (7, .sl false 1 (rowN lf)), (10, .bs 1 0 k), (13, nat a), (14, nat i), (75, .v (.bool false))], [.var (nodeV 8 dName 0 p 256), .row 1 (rowN ((List.range k).map w))]⟩
theorem wb_canon : canon 0 (wbH p mvs ts lf w i k a) = some (wbH p mvs ts lf w i k a) := by kernel_rfl
/-- Heads of the loop that looks for the time of a release. -/
noncomputable def wcH : St := ⟨[(1, .sl false 2 mvs), (5, .ptr 0 0 0), (6, .sl false 1 (rowN ts)), (7, .sl false 1 (rowN lf)), (10, .bs 1 0 k), (13, nat a), (14, nat i), (15, num r), (16, nat j)], [.var (nodeV 8 dName 0 p 256), .row 1 (rowN ((List.range k).map w))]⟩
noncomputable def wcE : St := ⟨[(1, .sl false 2 mvs), (5, .ptr 0 0 0), (6, .sl false 1 (rowN ts)), (7, .sl false 1 (rowN lf)), (10, .bs 1 0 k), (13, nat a), (14, nat i), (15, num r), (16, nat j), (93, .v (.bool false))], [.var (nodeV 8 dName 0 p 256), .row 1 (rowN ((List.range k).map w))]⟩
theorem wc_canon : canon 0 (wcH p mvs ts lf w i k j a r) = some (wcH p mvs ts lf w i k j a r) := by kernel_rfl

theorem wa_first (m : Nat × Bool) (hm : mvs[0]? = some (moveC m)) (hl : 0 < mvs.length) (hw : m.1 < 256) (hs : w 0 = m.1) :
    run (callF tab ext 399) 0 399 (loopOf tab 5 0) (waH p mvs ts lf w 0) = some (.norm, waS p mvs ts lf w 0 (w 0)) :=
  run_of [(51, .b true), (55, .b false), (65, .e (moveC m)), (68, .i (Int.ofNat m.1)), (69, .i (Int.ofNat (w 0))), (71, .app), (53, .i (Int.ofNat 1))] []
    (pf7 (lt_nat hl) (show decide (Int.ofNat 0 > 0) = false from rfl) hm (byte_int hw) (show IntKind.i64.wrap (0 + Int.ofNat m.1) = Int.ofNat (w 0) by rw [hs, IntKind.wrap_i64]; simp only [Int.ofNat_eq_natCast]; omega) (app_c (i := 1) (bytes := 8) (j := 0) (len := (rowN ((List.range 0).map w)).length) rfl (by omega) (by omega)) (next_nat (j := 0) (by omega))) (lo' := []) (by kernel_rfl)
theorem wa_step (m : Nat × Bool) (hm : mvs[i]? = some (moveC m)) (h0 : 0 < i) (hl : i < mvs.length) (hl2 : mvs.length < 1000) (hw : m.1 < 256) (hs : w i = w (i - 1) + m.1) (hb : w (i - 1) < 1000000) :
    run (callF tab ext 399) 0 399 (loopOf tab 5 0) (waH p mvs ts lf w i) = some (.norm, waS p mvs ts lf w i (w i)) :=
  run_of [(51, .b true), (55, .b true), (58, .i (Int.ofNat (i - 1))), (59, .at), (60, .ld [nat (w (i - 1))]), (65, .e (moveC m)), (68, .i (Int.ofNat m.1)), (69, .i (Int.ofNat (w i))), (71, .app), (53, .i (Int.ofNat (i + 1)))] []
    (pf10 (lt_nat hl) (show decide (Int.ofNat i > 0) = true from gt_nat (j := i) (k := 0) h0) (pred_nat (j := i) h0 (by omega)) (show i - 1 < i by omega) (row_at (w := w) (k := i) (j := i - 1) (by omega)) hm (byte_int hw) (show IntKind.i64.wrap (Int.ofNat (w (i - 1)) + Int.ofNat m.1) = Int.ofNat (w i) by rw [hs]; exact add_nat (by omega) (by omega)) (app_c (i := 1) (bytes := 8) (j := i) (len := (rowN ((List.range i).map w)).length) (by simp [rowN]) (by omega) (by omega)) (next_nat (j := i) (by omega))) (lo' := []) (by kernel_rfl)
theorem wa_end (hl : ¬ i < mvs.length) : run (callF tab ext 399) 0 399 (loopOf tab 5 0) (waH p mvs ts lf w i) = some (.exit 0, waE p mvs ts lf w i) :=
  run_of [(51, .b false)] [] (pf1 (nlt_nat hl)) (lo' := []) (by kernel_rfl)

theorem wc_no (hj : j < mvs.length) (hk : mvs.length = k) (hk2 : k < 1000) (hi : i < k) (hb : w i < 1000000) (hp : p < 1000000) (hn : ¬ w i + (p + 1) ≤ w j) :
    run (callF tab ext 399) 0 399 (loopOf tab 5 2) (wcH p mvs ts lf w i k j a (-1)) = some (.norm, wcH p mvs ts lf w i k (j + 1) a (-1)) :=
  run_of [(89, .b true), (98, .at), (99, .ld [nat (w j)]), (102, .at), (103, .ld [nat (w i)]), (106, .i (Int.ofNat (w i + (p + 1)))), (107, .b false), (95, .i (Int.ofNat (j + 1)))] []
    (pf8 (lt_nat hj) (show j < k by omega) (row_at (w := w) (k := k) (j := j) (by omega)) (show i < k from hi) (row_at (w := w) (k := k) (j := i) hi) (add_nat (a := w i) (b := p + 1) (by omega) (by omega)) (ge_no (a := w j) (b := w i + (p + 1)) hn) (next_nat (j := j) (by omega))) (lo' := []) (by kernel_rfl)
theorem wc_yes (hj : j < mvs.length) (hk : mvs.length = k) (hk2 : k < 1000) (hi : i < k) (hb : w i < 1000000) (hp : p < 1000000) (hn : w i + (p + 1) ≤ w j) :
    run (callF tab ext 399) 0 399 (loopOf tab 5 2) (wcH p mvs ts lf w i k j a (-1)) = some (.norm, wcH p mvs ts lf w i k (j + 1) a (Int.ofNat (w j))) :=
  run_of [(89, .b true), (98, .at), (99, .ld [nat (w j)]), (102, .at), (103, .ld [nat (w i)]), (106, .i (Int.ofNat (w i + (p + 1)))), (107, .b true), (110, .at), (111, .ld [nat (w j)]), (95, .i (Int.ofNat (j + 1)))] []
    (pf10 (lt_nat hj) (show j < k by omega) (row_at (w := w) (k := k) (j := j) (by omega)) (show i < k from hi) (row_at (w := w) (k := k) (j := i) hi) (add_nat (a := w i) (b := p + 1) (by omega) (by omega)) (ge_yes (a := w j) (b := w i + (p + 1)) hn) (show j < k by omega) (row_at (w := w) (k := k) (j := j) (by omega)) (next_nat (j := j) (by omega))) (lo' := []) (by kernel_rfl)
theorem wc_end (hj : ¬ j < mvs.length) : run (callF tab ext 399) 0 399 (loopOf tab 5 2) (wcH p mvs ts lf w i k j a r) = some (.exit 4, wcE p mvs ts lf w i k j a r) :=
  run_of [(89, .b false)] [] (pf1 (nlt_nat hj)) (lo' := []) (by kernel_rfl)
theorem wc_stop (v : Nat) (hj : j < mvs.length) : run (callF tab ext 399) 0 399 (loopOf tab 5 2) (wcH p mvs ts lf w i k j a (Int.ofNat v)) = some (.exit 4, wcE p mvs ts lf w i k j a (Int.ofNat v)) :=
  run_of [(89, .b true), (92, .b false)] [] (pf2 (lt_nat hj) (lt_zero v)) (lo' := []) (by kernel_rfl)

/-- Nothing is found. -/
theorem wc_none (hk : mvs.length = k) (hk2 : k < 390) (hi : i < k) (hb : w i < 1000000) (hp : p < 1000000) (hno : ∀ j, i < j → j < k → ¬ w i + (p + 1) ≤ w j) :
    run (callF tab ext 399) 0 399 (.loop (loopOf tab 5 2)) (wcH p mvs ts lf w i k (i + 1) a (-1)) = some (.exit 4, wcE p mvs ts lf w i k k a (-1)) := by
  have h := loop_for (Γ := callF tab ext 399) (nIn := 0) (fu := 399) (b := loopOf tab 5 2) (σ := fun d => wcH p mvs ts lf w i k (i + 1 + d) a (-1)) (k := k - (i + 1)) (τ := wcH p mvs ts lf w i k (i + 1) a (-1)) (e := .exit 4) (fin := wcE p mvs ts lf w i k (i + 1 + (k - (i + 1))) a (-1)) (wc_canon p mvs ts lf w i k (i + 1) a (-1))
    (fun d hd => ⟨_, wc_no p mvs ts lf w i k (i + 1 + d) a (by omega) hk (by omega) hi hb hp (hno _ (by omega) (by omega)), wc_canon p mvs ts lf w i k (i + 1 + d + 1) a (-1)⟩) (wc_end p mvs ts lf w i k _ a (-1) (by omega)) (by simp) (by omega)
  have e : i + 1 + (k - (i + 1)) = k := by omega
  rw [e] at h
  exact h
/-- What is found. -/
theorem wc_some (m : Nat) (him : i < m) (hm : m < k) (hk : mvs.length = k) (hk2 : k < 390) (hb : w i < 1000000) (hp : p < 1000000) (hno : ∀ j, i < j → j < m → ¬ w i + (p + 1) ≤ w j) (hyes : w i + (p + 1) ≤ w m) :
    ∃ υ, run (callF tab ext 399) 0 399 (.loop (loopOf tab 5 2)) (wcH p mvs ts lf w i k (i + 1) a (-1)) = some (.exit 4, υ) ∧ υ = wcE p mvs ts lf w i k (m + 1) a (Int.ofNat (w m)) := by
  refine ⟨_, ?_, rfl⟩
  have h := loop_for (Γ := callF tab ext 399) (nIn := 0) (fu := 399) (b := loopOf tab 5 2) (σ := fun d => wcH p mvs ts lf w i k (i + 1 + d) a (if i + 1 + d ≤ m then -1 else Int.ofNat (w m))) (k := m - i) (τ := wcH p mvs ts lf w i k (i + 1) a (-1)) (e := .exit 4) (fin := wcE p mvs ts lf w i k (m + 1) a (Int.ofNat (w m)))
    (by rw [if_pos (by omega)]; exact wc_canon p mvs ts lf w i k (i + 1) a (-1))
    (fun d hd => by
      rw [if_pos (by omega)]
      by_cases hdm : i + 1 + d = m
      · rw [hdm, if_neg (by omega)]
        have e : i + 1 + (d + 1) = m + 1 := by omega
        rw [e]
        exact ⟨_, wc_yes p mvs ts lf w i k m a (by omega) hk (by omega) (by omega) hb hp hyes, wc_canon p mvs ts lf w i k (m + 1) a (Int.ofNat (w m))⟩
      · rw [if_pos (by omega)]
        exact ⟨_, wc_no p mvs ts lf w i k (i + 1 + d) a (by omega) hk (by omega) (by omega) hb hp (hno _ (by omega) (by omega)), wc_canon p mvs ts lf w i k (i + 1 + d + 1) a (-1)⟩)
    (by
      have e : i + 1 + (m - i) = m + 1 := by omega
      rw [e, if_neg (by omega)]
      by_cases hmk : m + 1 < mvs.length
      · exact wc_stop p mvs ts lf w i k (m + 1) a (w m) hmk
      · exact wc_end p mvs ts lf w i k (m + 1) a (Int.ofNat (w m)) hmk) (by simp) (by omega)
  exact h

theorem wb_skip (m : Nat) (hm : mvs[i]? = some (moveC (m, false))) (hi : i < mvs.length) (hl : mvs.length < 1000) :
    run (callF tab ext 399) 0 399 (loopOf tab 5 1) (wbH p mvs ts lf w i k a) = some (.norm, wbH p mvs ts lf w (i + 1) k a) :=
  run_of [(75, .b true), (80, .e (moveC (m, false))), (77, .i (Int.ofNat (i + 1)))] [] (pf3 (lt_nat hi) hm (next_nat (j := i) (by omega))) (lo' := []) (by kernel_rfl)
theorem wb_none (m : Nat) (hm : mvs[i]? = some (moveC (m, true))) (hi : i < k) (hk : mvs.length = k) (hk2 : k < 390) (hb : w i < 1000000) (hp : p < 1000000) (hno : ∀ j, i < j → j < k → ¬ w i + (p + 1) ≤ w j) :
    run (callF tab ext 399) 0 399 (loopOf tab 5 1) (wbH p mvs ts lf w i k a) = some (.norm, wbH p mvs ts lf w (i + 1) k a) :=
  run_of [(75, .b true), (80, .e (moveC (m, true))), (85, .i (Int.ofNat (i + 1))), (77, .i (Int.ofNat (i + 1)))] [(.exit 4, wcE p mvs ts lf w i k k a (-1))]
    (pf5 (lt_nat (j := i) (k := mvs.length) (by omega)) hm (next_nat (j := i) (by omega)) (wc_none p mvs ts lf w i k a hk hk2 hi hb hp hno) (next_nat (j := i) (by omega))) (lo' := []) (by kernel_rfl)
theorem wb_some (m0 m : Nat) (hm0 : mvs[i]? = some (moveC (m0, true))) (him : i < m) (hm : m < k) (hk : mvs.length = k) (hk2 : k < 390) (hb : w i < 1000000) (hp : p < 1000000) (hno : ∀ j, i < j → j < m → ¬ w i + (p + 1) ≤ w j) (hyes : w i + (p + 1) ≤ w m)
    (ha : a < lf.length) (ha2 : a < ts.length) (ha3 : lf.length < 1000) (h1 : lf[a] = i + 1) (h2 : ts[a] = w m) :
    run (callF tab ext 399) 0 399 (loopOf tab 5 1) (wbH p mvs ts lf w i k a) = some (.norm, wbH p mvs ts lf w (i + 1) k (a + 1)) := by
  obtain ⟨υ, hc, hυ⟩ := wc_some p mvs ts lf w i k a m him hm hk hk2 hb hp hno hyes
  subst hυ
  exact run_of [(75, .b true), (80, .e (moveC (m0, true))), (85, .i (Int.ofNat (i + 1))), (113, .b false), (117, .b false), (121, .e [nat lf[a]]), (124, .i (Int.ofNat (i + 1))), (125, .b false), (130, .e [nat ts[a]]), (133, .b false), (136, .i (Int.ofNat (a + 1))), (77, .i (Int.ofNat (i + 1)))] [(.exit 4, wcE p mvs ts lf w i k (m + 1) a (Int.ofNat (w m)))]
    (pf13 (lt_nat (j := i) (k := mvs.length) (by omega)) hm0 (next_nat (j := i) (by omega)) hc (lt_zero (w m)) (show decide (Int.ofNat a ≥ Int.ofNat (rowN lf).length) = false from ge_no (by rw [rowN_length]; omega)) (rowN_get ha) (next_nat (j := i) (by omega)) (neq_no h1) (rowN_get ha2) (neq_no h2) (next_nat (j := a) (by omega)) (next_nat (j := i) (by omega))) (lo' := []) (by kernel_rfl)
theorem wb_end (hi : ¬ i < mvs.length) : run (callF tab ext 399) 0 399 (loopOf tab 5 1) (wbH p mvs ts lf w i k a) = some (.exit 2, wbE p mvs ts lf w i k a) :=
  run_of [(75, .b false)] [] (pf1 (nlt_nat hi)) (lo' := []) (by kernel_rfl)
end

end Go.Proofs.Ytjfheahakfoofaa

/- ThrottleWaits, walked as a whole. -/
namespace Go.Proofs.Ytjfheahakfoofaa
open Go.Em

def goodW (p k : Nat) (w : Nat → Nat) (arr : Nat → Bool) (i : Nat) : Bool := arr i && decide (w i + (p + 1) ≤ w (k - 1))
/-- What ThrottleWaits asks of a run. -/
structure WaitOk (p k : Nat) (w : Nat → Nat) (arr : Nat → Bool) (ts lf : List Nat) : Prop where
  len : ts.length = lf.length
  out : lf = ((List.range k).filter (goodW p k w arr)).map (· + 1)
  rel : ∀ a (h : a < lf.length), ∃ i m, lf[a] = i + 1 ∧ i < m ∧ m < k ∧ (∀ j, i < j → j < m → ¬ w i + (p + 1) ≤ w j) ∧ w i + (p + 1) ≤ w m ∧ ts[a]? = some (w m)
  mono : ∀ i j, i ≤ j → w i ≤ w j
  small : ∀ i, i < k → w i < 1000000

theorem filter_at {k i : Nat} {g : Nat → Bool} (hi : i < k) (hg : g i = true) : ((List.range k).filter g)[((List.range i).filter g).length]? = some i := by
  have e : List.range k = List.range i ++ ([i] ++ (List.range (k - (i + 1))).map (i + 1 + ·)) := by
    have h1 : List.range k = List.range (i + 1) ++ (List.range (k - (i + 1))).map (i + 1 + ·) := by
      have := @List.range_add (i + 1) (k - (i + 1))
      rwa [show i + 1 + (k - (i + 1)) = k by omega] at this
    rw [h1, List.range_succ, List.append_assoc]
  rw [e, List.filter_append, List.getElem?_append_right (Nat.le_refl _), Nat.sub_self, List.filter_append, List.filter_cons, if_pos hg]
  rfl

section
variable (p : Nat) (l0 : List (Nat × Bool)) (w : Nat → Nat) (ts lf : List Nat)
def arrOf (l0 : List (Nat × Bool)) (i : Nat) : Bool := (l0.getD i (0, false)).2

theorem wb_loop (hl : l0.length ≤ 60) (hp : p < 1000000) (h : WaitOk p l0.length w (arrOf l0) ts lf) :
    run (callF tab ext 399) 0 399 (.loop (loopOf tab 5 1)) (wbH p (movesC l0) ts lf w 0 (movesC l0).length 0) = some (.exit 2, wbE p (movesC l0) ts lf w (movesC l0).length (movesC l0).length ((List.range (movesC l0).length).filter (goodW p (movesC l0).length w (arrOf l0))).length) := by
  have hml := movesC_length l0
  rw [hml]
  refine loop_for (σ := fun i => wbH p (movesC l0) ts lf w i l0.length ((List.range i).filter (goodW p l0.length w (arrOf l0))).length) (k := l0.length) (wb_canon p (movesC l0) ts lf w 0 l0.length 0) (fun i hi => ?_) (wb_end p (movesC l0) ts lf w l0.length l0.length _ (by omega)) (by simp) (by omega)
  have hg : l0.getD i (0, false) = l0[i] := by simp [List.getD, hi]
  have hcs : (List.range (i + 1)).filter (goodW p l0.length w (arrOf l0)) = (List.range i).filter (goodW p l0.length w (arrOf l0)) ++ if goodW p l0.length w (arrOf l0) i then [i] else [] := by
    rw [List.range_succ, List.filter_append]
    congr 1
    simp only [List.filter_cons, List.filter_nil]
  cases hb : l0[i].2 with
  | false =>
    have hgd : goodW p l0.length w (arrOf l0) i = false := by simp only [goodW, arrOf, hg, hb, Bool.false_and]
    refine ⟨_, wb_skip p (movesC l0) ts lf w i l0.length _ l0[i].1 (by rw [movesC_get hi, ← hb]) (by omega) (by omega), ?_⟩
    rw [hcs, hgd, if_neg (by simp), List.append_nil]
    exact wb_canon p (movesC l0) ts lf w (i + 1) l0.length _
  | true =>
    by_cases hle : w i + (p + 1) ≤ w (l0.length - 1)
    · have hgd : goodW p l0.length w (arrOf l0) i = true := by simp only [goodW, arrOf, hg, hb, Bool.true_and, hle, decide_true]
      have hat := filter_at (k := l0.length) (i := i) hi hgd
      have ha : ((List.range i).filter (goodW p l0.length w (arrOf l0))).length < lf.length := by
        rw [h.out, List.length_map]
        exact (List.getElem?_eq_some_iff.1 hat).1
      have hlf : lf[((List.range i).filter (goodW p l0.length w (arrOf l0))).length] = i + 1 := by
        have : lf[((List.range i).filter (goodW p l0.length w (arrOf l0))).length]? = some (i + 1) := by
          rw [h.out, List.getElem?_map, hat]; rfl
        rw [List.getElem?_eq_getElem ha] at this
        simpa using this
      obtain ⟨i', m, e1, e2, e3, e4, e5, e6⟩ := h.rel _ ha
      have hii : i' = i := by rw [hlf] at e1; omega
      subst hii
      have ha2 : ((List.range i').filter (goodW p l0.length w (arrOf l0))).length < ts.length := by rw [h.len]; exact ha
      have hlfl : lf.length ≤ l0.length := by
        rw [h.out, List.length_map]
        refine Nat.le_trans (List.length_filter_le _ _) ?_
        simp
      refine ⟨_, wb_some p (movesC l0) ts lf w i' l0.length _ l0[i'].1 m (by rw [movesC_get hi, ← hb]) e2 e3 hml (by omega) (h.small _ hi) hp e4 e5 ha ha2 (by omega) hlf (by rw [List.getElem?_eq_getElem ha2] at e6; simpa using e6), ?_⟩
      rw [hcs, hgd, if_pos rfl, List.length_append]
      exact wb_canon p (movesC l0) ts lf w (i' + 1) l0.length _
    · have hgd : goodW p l0.length w (arrOf l0) i = false := by simp only [goodW, hle, decide_false, Bool.and_false]
      refine ⟨_, wb_none p (movesC l0) ts lf w i l0.length _ l0[i].1 (by rw [movesC_get hi, ← hb]) hi hml (by omega) (h.small _ hi) hp (fun j hj hj2 => by have := h.mono j (l0.length - 1) (by omega); omega), ?_⟩
      rw [hcs, hgd, if_neg (by simp), List.append_nil]
      exact wb_canon p (movesC l0) ts lf w (i + 1) l0.length _

noncomputable def waStart (p : Nat) (mvs : List (List X)) (ts lf : List Nat) (ss : List (List X)) : St := ⟨[(1, .sl false 2 mvs), (5, .ptr 0 0 0), (6, .sl false 1 (rowN ts)), (7, .sl false 1 (rowN lf)), (10, .bs 2 0 0), (11, nat 0)], [.var (nodeV 8 dName 0 p 256), .var (stC 0 0 ss), .row 1 []]⟩
theorem wa_start (mvs : List (List X)) (ss : List (List X)) : canon 0 (waStart p mvs ts lf ss) = some (waH p mvs ts lf w 0) := by kernel_rfl

theorem wa_loop (ss : List (List X)) (hl : l0.length ≤ 60) (hm : okMoves l0) (h0 : 0 < l0.length → w 0 = (l0.getD 0 (0, false)).1) (hs : ∀ i, 0 < i → i < l0.length → w i = w (i - 1) + (l0.getD i (0, false)).1) (hb : ∀ i, i < l0.length → w i < 1000000) :
    run (callF tab ext 399) 0 399 (.loop (loopOf tab 5 0)) (waStart p (movesC l0) ts lf ss) = some (.exit 0, waE p (movesC l0) ts lf w (movesC l0).length) := by
  have hml := movesC_length l0
  rw [hml]
  refine loop_for (σ := fun i => waH p (movesC l0) ts lf w i) (k := l0.length) (wa_start p w ts lf (movesC l0) ss) (fun i hi => ?_) (wa_end p (movesC l0) ts lf w l0.length (by omega)) (by simp) (by omega)
  have hg : l0.getD i (0, false) = l0[i] := by simp [List.getD, hi]
  have hcan : canon 0 (waS p (movesC l0) ts lf w i (w i)) = some (waH p (movesC l0) ts lf w (i + 1)) := by
    rw [wa_canonS]
    unfold waH
    rw [List.range_succ, List.map_append, List.map_singleton, rowN_snoc]
  refine ⟨_, ?_, hcan⟩
  rcases Nat.eq_zero_or_pos i with hz | hz
  · subst hz
    exact wa_first p (movesC l0) ts lf w l0[0] (movesC_get hi) (by omega) (hm _ (List.getElem_mem hi)) (by rw [h0 hi, hg])
  · exact wa_step p (movesC l0) ts lf w i l0[i] (movesC_get hi) hz (by omega) (by omega) (hm _ (List.getElem_mem hi)) (by rw [hs i hz hi, hg]) (hb _ (by omega))
end

theorem waits_true (p : Nat) (moves : List (List X)) (l0 : List (Nat × Bool)) (w : Nat → Nat) (ts lf : List Nat) (ss : List (List X)) (hp : p < 256) (hmv : moves.take (min moves.length 60) = movesC l0) (hl : l0.length ≤ 60) (hm : okMoves l0)
    (hrun : Gam.pureD (callF tab ext 399) 7 [nodeT 8 dName 0 p 256, .sl false 2 (movesC l0)] = some (.tup [.sl false 1 (rowN ts), .sl false 1 (rowN lf), .sl false 1 [], .agg (stC 0 0 ss)]))
    (h0 : 0 < l0.length → w 0 = (l0.getD 0 (0, false)).1) (hs : ∀ i, 0 < i → i < l0.length → w i = w (i - 1) + (l0.getD i (0, false)).1) (h : WaitOk p l0.length w (arrOf l0) ts lf) :
    callF tab ext 400 (.fn 5) [.v (.int .u8 (Int.ofNat p)), .sl false 2 moves] [] = some (.v (.bool true), []) := by
  have hml := movesC_length l0
  have r1 := wa_loop p l0 w ts lf ss hl hm h0 hs h.small
  have r2 := wb_loop p l0 w ts lf hl (by omega) h
  have r3 : (Int.ofNat ((List.range (movesC l0).length).filter (goodW p (movesC l0).length w (arrOf l0))).length == Int.ofNat (rowN lf).length) = true := by
    rw [hml, rowN_length]
    conv => lhs; rhs; rw [h.out]
    rw [List.length_map]
    simp
  have r4 : (!(Int.ofNat (rowN ts).length == Int.ofNat (rowN lf).length)) = false := neq_no (by rw [rowN_length, rowN_length, h.len])
  rw [← hmv] at r1 r2 r3 hrun
  exact callF_of [(20, .i (Int.ofNat (min moves.length 60))), (21, .cut), (23, .i (Int.ofNat p)), (24, .i (Int.ofNat (p + 1))), (29, .p (.tup [.sl false 1 (rowN ts), .sl false 1 (rowN lf), .sl false 1 [], .agg (stC 0 0 ss)])), (34, .p (.v (.bool true))), (41, .b false), (140, .b true)]
    [(.exit 0, waE p (moves.take (min moves.length 60)) ts lf w (moves.take (min moves.length 60)).length),
     (.exit 2, wbE p (moves.take (min moves.length 60)) ts lf w (moves.take (min moves.length 60)).length (moves.take (min moves.length 60)).length ((List.range (moves.take (min moves.length 60)).length).filter (goodW p (moves.take (min moves.length 60)).length w (arrOf l0))).length)]
    (pf10 (min60 moves.length) (show 0 ≤ min moves.length 60 ∧ min moves.length 60 ≤ moves.length by omega) (byte_int hp) (one_int hp) hrun known_399 r4 r1 r2 r3) (by kernel_rfl)

end Go.Proofs.Ytjfheahakfoofaa

/- Delays end in time. -/
namespace Go.Proofs.Ytjfheahakfoofaa
open Go.Em

def pre (l0 : List (Nat × Bool)) (m : Nat) : Nat := ((l0.take m).map (·.1)).sum
theorem pre_succ (l0 : List (Nat × Bool)) (m : Nat) : pre l0 (m + 1) = pre l0 m + (l0.getD m (0, false)).1 := by
  unfold pre
  by_cases h : m < l0.length
  · rw [List.take_succ_eq_append_getElem h, List.map_append, List.sum_append]
    simp [List.getD, h]
  · have e : l0.getD m (0, false) = (0, false) := by simp [List.getD, List.getElem?_eq_none (Nat.le_of_not_lt h)]
    rw [e, List.take_of_length_le (by omega), List.take_of_length_le (by omega)]; rfl
theorem pre_mono (l0 : List (Nat × Bool)) {a b : Nat} (h : a ≤ b) : pre l0 a ≤ pre l0 b := by
  induction h with
  | refl => exact Nat.le_refl _
  | step _ ih => rw [pre_succ]; omega
theorem pre_small {l0 : List (Nat × Bool)} (h : okMoves l0) (m : Nat) : pre l0 m ≤ 255 * m := by
  induction m with
  | zero => simp [pre]
  | succ m ih => have := okMoves_get h m; rw [pre_succ]; omega

structure Wt (p : Nat) (l0 : List (Nat × Bool)) (m : Nat) (x : Dr) : Prop where
  now : x.now = pre l0 m
  all : x.lf ++ allD x.ds = ((List.range m).filter (arrOf l0)).map fun i : Nat => (i : Int) + 1
  due : ∀ d, d ∈ x.ds → ∀ e, e ∈ d.2 → ∃ i : Nat, i < m ∧ e = (i : Int) + 1 ∧ d.1 = pre l0 (i + 1) + (p + 1) ∧ x.now < d.1
  len : x.ts.length = x.lf.length
  rel : ∀ a (h : a < x.lf.length), ∃ i k : Nat, x.lf[a] = (i : Int) + 1 ∧ i < k ∧ k < m ∧ (∀ j, i < j → j < k → ¬ pre l0 (i + 1) + (p + 1) ≤ pre l0 (j + 1)) ∧ pre l0 (i + 1) + (p + 1) ≤ pre l0 (k + 1) ∧ x.ts[a]? = some (pre l0 (k + 1))
  rj : x.rj = []

theorem mem_allD {ds : List (Nat × List Int)} {e : Int} (h : e ∈ allD ds) : ∃ d, d ∈ ds ∧ e ∈ d.2 := by
  obtain ⟨d, h1, h2⟩ := List.mem_flatMap.1 h
  exact ⟨d, h1, h2⟩

theorem wt_move {p m : Nat} {l0 : List (Nat × Bool)} {x : Dr} (hm : m < 60) (hw : (l0.getD m (0, false)).1 < 256) (hb : BndE p m x) (h : Wt p l0 m x) : Wt p l0 (m + 1) (moveE p 256 m (l0.getD m (0, false)) x) := by
  have hnow : x.now + (l0.getD m (0, false)).1 = pre l0 (m + 1) := by rw [h.now, pre_succ]
  have hk := rel_keep (now := x.now + (l0.getD m (0, false)).1) hb.ups.inc
  obtain ⟨g1, _, _, _, _, hu⟩ := tickE_bnd hb hw
  have t1 : (tickE (l0.getD m (0, false)).1 x).now = pre l0 (m + 1) := hnow
  have t2 : (tickE (l0.getD m (0, false)).1 x).lf ++ allD (tickE (l0.getD m (0, false)).1 x).ds = ((List.range m).filter (arrOf l0)).map fun i : Nat => (i : Int) + 1 := by
    rw [← h.all]
    simp only [tickE]
    rw [List.append_assoc, hk]
  have t3 : ∀ d, d ∈ (tickE (l0.getD m (0, false)).1 x).ds → ∀ e, e ∈ d.2 → ∃ i : Nat, i < m + 1 ∧ e = (i : Int) + 1 ∧ d.1 = pre l0 (i + 1) + (p + 1) ∧ (tickE (l0.getD m (0, false)).1 x).now < d.1 := by
    intro d hd e he
    obtain ⟨hd1, hd2⟩ := List.mem_filter.1 hd
    obtain ⟨i, h1, h2, h3, _⟩ := h.due d hd1 e he
    refine ⟨i, by omega, h2, h3, ?_⟩
    have : ¬ d.1 ≤ x.now + (l0.getD m (0, false)).1 := by simpa using hd2
    simp only [tickE]; omega
  have t4 : (tickE (l0.getD m (0, false)).1 x).ts.length = (tickE (l0.getD m (0, false)).1 x).lf.length := by
    simp only [tickE, List.length_append, List.length_replicate, h.len]
  have t5 : ∀ a (h : a < (tickE (l0.getD m (0, false)).1 x).lf.length), ∃ i k : Nat, (tickE (l0.getD m (0, false)).1 x).lf[a] = (i : Int) + 1 ∧ i < k ∧ k < m + 1 ∧ (∀ j, i < j → j < k → ¬ pre l0 (i + 1) + (p + 1) ≤ pre l0 (j + 1)) ∧ pre l0 (i + 1) + (p + 1) ≤ pre l0 (k + 1) ∧ (tickE (l0.getD m (0, false)).1 x).ts[a]? = some (pre l0 (k + 1)) := by
    intro a ha
    simp only [tickE] at ha ⊢
    by_cases hal : a < x.lf.length
    · obtain ⟨i, k, e1, e2, e3, e4, e5, e6⟩ := h.rel a hal
      refine ⟨i, k, by rw [List.getElem_append_left hal]; exact e1, e2, by omega, e4, e5, ?_⟩
      rw [List.getElem?_append_left (by rw [h.len]; exact hal)]; exact e6
    · have hal2 : a - x.lf.length < (relD (x.now + (l0.getD m (0, false)).1) x.ds).length := by rw [List.length_append] at ha; omega
      have hmem := List.getElem_mem hal2
      obtain ⟨d, hd, he⟩ := mem_allD hmem
      obtain ⟨hd1, hd2⟩ := List.mem_filter.1 hd
      obtain ⟨i, h1, h2, h3, h4⟩ := h.due d hd1 _ he
      have hle : d.1 ≤ x.now + (l0.getD m (0, false)).1 := by simpa using hd2
      refine ⟨i, m, by rw [List.getElem_append_right (by omega)]; exact h2, h1, by omega, fun j hj hjm => ?_, by rw [← hnow]; omega, ?_⟩
      · have := pre_mono l0 (show j + 1 ≤ m by omega)
        have := h.now
        omega
      · rw [List.getElem?_append_right (by rw [h.len]; omega), List.getElem?_replicate, if_pos (by rw [h.len]; exact hal2), hnow]
  have tlen : (allD (tickE (l0.getD m (0, false)).1 x).ds).length < 256 := by omega
  have trj : (tickE (l0.getD m (0, false)).1 x).rj = [] := h.rj
  unfold moveE
  generalize tickE (l0.getD m (0, false)).1 x = y at t1 t2 t3 t4 t5 tlen trj hu
  cases hbb : (l0.getD m (0, false)).2 with
  | false =>
    rw [if_neg (by simp)]
    refine ⟨t1, ?_, t3, t4, t5, trj⟩
    rw [t2, List.range_succ, List.filter_append]
    have : arrOf l0 m = false := hbb
    simp [this]
  | true =>
    rw [if_pos rfl]
    unfold arrE
    rw [if_pos tlen]
    refine ⟨t1, ?_, fun d hd e he => ?_, t4, t5, trj⟩
    · dsimp only
      rw [addD_all hu, ← List.append_assoc, t2, List.range_succ, List.filter_append]
      have : arrOf l0 m = true := hbb
      simp [this]
    · dsimp only at hd ⊢
      rcases ups_cases hu with h1 | ⟨ds0, es, hds, h1⟩
      · rw [addD_new h1] at hd
        rcases List.mem_append.1 hd with hd | hd
        · exact t3 d hd e he
        · rw [List.mem_singleton] at hd; subst hd
          simp at he; subst he
          exact ⟨m, by omega, by simp, by dsimp only; rw [t1], by dsimp only; omega⟩
      · rw [hds] at hd t3
        rw [addD_last] at hd
        rcases List.mem_append.1 hd with hd | hd
        · exact t3 d (by simp [hd]) e he
        · rw [List.mem_singleton] at hd; subst hd
          rcases List.mem_append.1 he with he | he
          · exact t3 (y.now + (p + 1), es) (by simp) e he
          · simp at he; subst he
            exact ⟨m, by omega, by simp, by dsimp only; rw [t1], by dsimp only; omega⟩

theorem seqE_wt {p : Nat} {l0 : List (Nat × Bool)} (h : okMoves l0) : ∀ m, m ≤ 60 → Wt p l0 m (seqE p 256 l0 m)
  | 0, _ => ⟨by simp [seqE, pre], by simp [seqE, allD], by simp [seqE], by simp [seqE], by simp [seqE], by simp [seqE]⟩
  | m + 1, hm => wt_move (by omega) (okMoves_get h m) (seqE_bnd h m) (seqE_wt h m (by omega))

theorem wait_ok {p k : Nat} {l0 : List (Nat × Bool)} {x : Dr} (hm : okMoves l0) (hk : k ≤ 60) (h : Wt p l0 k x) : WaitOk p k (fun i => pre l0 (i + 1)) (arrOf l0) x.ts (nats x.lf) := by
  have hlfpos : ∀ e, e ∈ x.lf → ∃ i : Nat, e = (i : Int) + 1 ∧ pre l0 (i + 1) + (p + 1) ≤ pre l0 k := by
    intro e he
    obtain ⟨a, ha, rfl⟩ := List.mem_iff_getElem.1 he
    obtain ⟨i, m, e1, e2, e3, _, e5, _⟩ := h.rel a ha
    have := pre_mono l0 (show m + 1 ≤ k by omega)
    exact ⟨i, e1, by omega⟩
  have hdspos : ∀ e, e ∈ allD x.ds → ∃ i : Nat, e = (i : Int) + 1 ∧ ¬ pre l0 (i + 1) + (p + 1) ≤ pre l0 k := by
    intro e he
    obtain ⟨d, hd, he⟩ := mem_allD he
    obtain ⟨i, _, h2, h3, h4⟩ := h.due d hd e he
    have := h.now
    exact ⟨i, h2, by omega⟩
  have hf : (x.lf ++ allD x.ds).filter (fun e => decide (pre l0 e.toNat + (p + 1) ≤ pre l0 k)) = x.lf := by
    rw [List.filter_append]
    have e1 : x.lf.filter (fun e => decide (pre l0 e.toNat + (p + 1) ≤ pre l0 k)) = x.lf := by
      rw [List.filter_eq_self]
      intro e he
      obtain ⟨i, rfl, hi⟩ := hlfpos e he
      have : ((i : Int) + 1).toNat = i + 1 := by omega
      rw [this]; exact decide_eq_true hi
    have e2 : (allD x.ds).filter (fun e => decide (pre l0 e.toNat + (p + 1) ≤ pre l0 k)) = [] := by
      rw [List.filter_eq_nil_iff]
      intro e he
      obtain ⟨i, rfl, hi⟩ := hdspos e he
      have : ((i : Int) + 1).toNat = i + 1 := by omega
      rw [this]; simpa using hi
    rw [e1, e2, List.append_nil]
  rw [h.all, List.filter_map, List.filter_filter] at hf
  have hlf : nats x.lf = ((List.range k).filter (goodW p k (fun i => pre l0 (i + 1)) (arrOf l0))).map (· + 1) := by
    rw [← hf, nats, List.map_map]
    have e1 : (List.range k).filter (fun a => ((fun e : Int => decide (pre l0 e.toNat + (p + 1) ≤ pre l0 k)) ∘ fun i : Nat => (i : Int) + 1) a && arrOf l0 a) = (List.range k).filter (goodW p k (fun i => pre l0 (i + 1)) (arrOf l0)) := by
      refine List.filter_congr fun i hi => ?_
      have hik : i < k := by simpa using hi
      have e2 : ((i : Int) + 1).toNat = i + 1 := by omega
      have e3 : k - 1 + 1 = k := by omega
      simp only [goodW, Function.comp, e2, e3, Bool.and_comm]
    rw [e1]
    refine List.map_congr_left fun i _ => ?_
    simp only [Function.comp]; omega
  refine ⟨by rw [nats_length, h.len], hlf, fun a ha => ?_, fun i j hij => pre_mono l0 (by omega), fun i hi => ?_⟩
  · rw [nats_length] at ha
    obtain ⟨i, m, e1, e2, e3, e4, e5, e6⟩ := h.rel a ha
    refine ⟨i, m, ?_, e2, e3, e4, e5, e6⟩
    simp only [nats, List.getElem_map, e1]; omega
  · have := pre_small hm (i + 1)
    omega

theorem waits_all (p : Nat) (l0 : List (Nat × Bool)) (hm : okMoves l0) (hp : p < 256) :
    callF tab ext 400 (.fn 5) [.v (.int .u8 (Int.ofNat p)), .sl false 2 (movesC l0)] [] = some (.v (.bool true), []) := by
  have hm' : okMoves (l0.take 60) := fun m hx => hm m (List.mem_of_mem_take hx)
  have hlen : (l0.take 60).length ≤ 60 := by simp; omega
  have hrun := seqE_pure 308 dName 0 p 256 (l0.take 60) hlen hm' hp (Nat.le_refl _)
  have hwt := seqE_wt (p := p) hm' (l0.take 60).length hlen
  have hok := wait_ok hm' hlen hwt
  have hpos : ∀ a, a ∈ (seqE p 256 (l0.take 60) (l0.take 60).length).lf → 1 ≤ a := fun a ha => by
    obtain ⟨j, hj, rfl⟩ := List.mem_iff_getElem.1 ha
    obtain ⟨i, _, e1, _⟩ := hwt.rel j hj
    omega
  have e1 : rowI (seqE p 256 (l0.take 60) (l0.take 60).length).lf = rowN (nats (seqE p 256 (l0.take 60) (l0.take 60).length).lf) := by rw [← rowI_nat, nats_back hpos]
  rw [e1, hwt.rj] at hrun
  refine waits_true p (movesC l0) (l0.take 60) (fun i => pre (l0.take 60) (i + 1)) _ _ _ hp (take_moves l0) hlen hm' hrun (fun _ => ?_) (fun i hi _ => ?_) hok
  · rw [pre_succ]; simp [pre]
  · rw [pre_succ, Nat.sub_add_cancel hi]

end Go.Proofs.Ytjfheahakfoofaa
