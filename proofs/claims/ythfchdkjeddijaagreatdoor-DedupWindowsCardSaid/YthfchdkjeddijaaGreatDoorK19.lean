/- The keys of the last messages that were accepted, in slots: the plain law of DedupRuns and DedupWindows. -/
import Derived.Laws.Bits64
import Derived.Test.YthfchdkjeddijaaGreatDoorK10
import Derived.Test.YthfchdkjeddijaaGreatDoorK11
import Derived.Test.YthfchdkjeddijaaGreatDoorK13
import Derived.Test.YthfchdkjeddijaaGreatDoorK15
import Derived.Test.YthfchdkjeddijaaGreatDoorK17
namespace Go.Proofs.YthfchdkjeddijaaGreatDoor
open Go.Em

/-- The slot with the least number so far. -/
def minS : Slt → List Slt → Slt
  | m, [] => m
  | m, x :: r => minS (if x.n < m.n then x else m) r
/-- The index of the first slot with a number. -/
def firstN (n : Int) : List Slt → Nat
  | [] => 0
  | x :: r => if x.n = n then 0 else firstN n r + 1
def dropOld : List Slt → List Slt
  | [] => []
  | x :: r => (x :: r).eraseIdx (firstN (minS x r).n (x :: r))
/-- The oldest slots are dropped until there are w at most. -/
def trimS : Nat → Nat → List Slt → List Slt
  | 0, _, ss => ss
  | d + 1, w, ss => if w < ss.length then trimS d w (dropOld ss) else ss

theorem minS_mem : ∀ (r : List Slt) (m : Slt), minS m r = m ∨ minS m r ∈ r
  | [], m => .inl rfl
  | x :: r, m => by
    unfold minS
    split
    · rcases minS_mem r x with h | h
      · rw [h]; exact .inr (List.mem_cons_self ..)
      · exact .inr (List.mem_cons_of_mem _ h)
    · rcases minS_mem r m with h | h
      · exact .inl h
      · exact .inr (List.mem_cons_of_mem _ h)
theorem minS_le : ∀ (r : List Slt) (m : Slt), (minS m r).n ≤ m.n ∧ ∀ x, x ∈ r → (minS m r).n ≤ x.n
  | [], m => ⟨Int.le_refl _, fun x h => by cases h⟩
  | y :: r, m => by
    unfold minS
    split
    · rename_i hlt
      obtain ⟨h1, h2⟩ := minS_le r y
      refine ⟨by omega, fun x hx => ?_⟩
      rcases List.mem_cons.1 hx with rfl | hx
      · exact h1
      · exact h2 x hx
    · rename_i hlt
      obtain ⟨h1, h2⟩ := minS_le r m
      refine ⟨h1, fun x hx => ?_⟩
      rcases List.mem_cons.1 hx with rfl | hx
      · omega
      · exact h2 x hx
theorem firstN_lt {n : Int} : ∀ {l : List Slt}, (∃ x, x ∈ l ∧ x.n = n) → firstN n l < l.length
  | [], ⟨x, h, _⟩ => by cases h
  | y :: r, ⟨x, h, e⟩ => by
    unfold firstN
    split
    · simp
    · rename_i hne
      have : ∃ x, x ∈ r ∧ x.n = n := by
        rcases List.mem_cons.1 h with rfl | h
        · exact absurd e hne
        · exact ⟨x, h, e⟩
      have := firstN_lt this
      simp only [List.length_cons]; omega
theorem minS_in (x : Slt) (r : List Slt) : minS x r ∈ x :: r := by
  rcases minS_mem r x with h | h
  · rw [h]; exact List.mem_cons_self ..
  · exact List.mem_cons_of_mem _ h
theorem old_lt (x : Slt) (r : List Slt) : firstN (minS x r).n (x :: r) < (x :: r).length := firstN_lt ⟨_, minS_in x r, rfl⟩
theorem dropOld_length {ss : List Slt} (h : 0 < ss.length) : (dropOld ss).length = ss.length - 1 := by
  cases ss with
  | nil => simp at h
  | cons x r => unfold dropOld; rw [List.length_eraseIdx, if_pos (old_lt x r)]
theorem dropOld_sub (ss : List Slt) : (dropOld ss).Sublist ss := by
  cases ss with
  | nil => exact .slnil
  | cons x r => exact List.eraseIdx_sublist ..
theorem erase_first {n : Int} : ∀ {l : List Slt}, l.Pairwise (fun a b => a.n ≠ b.n) → ∀ x, x ∈ l.eraseIdx (firstN n l) ↔ x ∈ l ∧ ((∃ y, y ∈ l ∧ y.n = n) → x.n ≠ n)
  | [], _, x => by simp
  | y :: r, hp, x => by
    rw [List.pairwise_cons] at hp
    unfold firstN
    split
    · rename_i he
      simp only [List.eraseIdx_zero, List.tail_cons, List.mem_cons]
      constructor
      · intro h; exact ⟨.inr h, fun _ => by have := hp.1 x h; omega⟩
      · rintro ⟨rfl | h, h2⟩
        · exact absurd he (h2 ⟨_, .inl rfl, he⟩)
        · exact h
    · rename_i hne
      simp only [List.eraseIdx_cons_succ, List.mem_cons, erase_first hp.2 x]
      constructor
      · rintro (rfl | ⟨h, h2⟩)
        · exact ⟨.inl rfl, fun _ => hne⟩
        · refine ⟨.inr h, ?_⟩
          rintro ⟨z, rfl | hz, ez⟩
          · exact absurd ez hne
          · exact h2 ⟨z, hz, ez⟩
      · rintro ⟨rfl | h, h2⟩
        · exact .inl rfl
        · exact .inr ⟨h, fun ⟨z, hz, ez⟩ => h2 ⟨z, .inr hz, ez⟩⟩

def kv (k : Int) : Val := .mk 2 k 0 ⟨#[]⟩ [] []
def ks (p : Int × Int) : Slt := ⟨kv p.1, p.2, 0, [], []⟩

/-- The slots after keys were accepted. -/
structure Win (w : Nat) (acc : List Nat) (L : List (Int × Int)) : Prop where
  sorted : L.Pairwise (fun a b => a.1 < b.1)
  mem : ∀ p, p ∈ L ↔ ∃ j, acc.length - w ≤ j ∧ ∃ h : j < acc.length, p = ((acc[j] : Int), ((j : Int) + 1))
  len : L.length = min acc.length w

theorem win_nil (w : Nat) : Win w [] [] := ⟨.nil, fun p => by simp, by simp⟩
/-- Is a key one of the last w? -/
def inLast (w : Nat) (acc : List Nat) (k : Nat) : Prop := ∃ j, acc.length - w ≤ j ∧ ∃ h : j < acc.length, acc[j] = k
theorem win_key {w : Nat} {acc : List Nat} {L : List (Int × Int)} (h : Win w acc L) (k : Nat) : (∃ p, p ∈ L ∧ p.1 = (k : Int)) ↔ inLast w acc k := by
  constructor
  · rintro ⟨p, hp, e⟩
    obtain ⟨j, h1, h2, rfl⟩ := (h.mem p).1 hp
    dsimp only at e
    exact ⟨j, h1, h2, by omega⟩
  · rintro ⟨j, h1, h2, e⟩
    exact ⟨_, (h.mem _).2 ⟨j, h1, h2, rfl⟩, by dsimp only; omega⟩
theorem sorted_insert {L : List (Int × Int)} {i : Nat} {k n : Int} (hs : L.Pairwise (fun a b => a.1 < b.1)) (h1 : ∀ p, p ∈ L.take i → p.1 < k) (h2 : ∀ p, p ∈ L.drop i → k < p.1) : (L.take i ++ [(k, n)] ++ L.drop i).Pairwise (fun a b => a.1 < b.1) := by
  rw [List.append_assoc, List.pairwise_append]
  refine ⟨hs.sublist (List.take_sublist ..), ?_, fun a ha b hb => ?_⟩
  · rw [List.singleton_append, List.pairwise_cons]
    exact ⟨fun b hb => h2 b hb, hs.sublist (List.drop_sublist ..)⟩
  · rcases List.mem_append.1 hb with hb | hb
    · rw [List.mem_singleton.1 hb]; exact h1 a ha
    · have := h1 a ha; have := h2 b hb; omega
/-- A new key is put at its place. -/
theorem mem_insert {L : List (Int × Int)} {i : Nat} {q : Int × Int} (p : Int × Int) : p ∈ L.take i ++ [q] ++ L.drop i ↔ p ∈ L ∨ p = q := by
  have : p ∈ L ↔ p ∈ L.take i ∨ p ∈ L.drop i := by
    conv => lhs; rw [← List.take_append_drop i L]
    exact List.mem_append
  simp only [List.mem_append, List.mem_singleton, this]
  constructor
  · rintro ((h | h) | h)
    · exact .inl (.inl h)
    · exact .inr h
    · exact .inl (.inr h)
  · rintro ((h | h) | h)
    · exact .inl (.inl h)
    · exact .inr h
    · exact .inl (.inr h)
theorem trim_stop {d w : Nat} {ss : List Slt} (h : ¬ w < ss.length) : trimS d w ss = ss := by
  cases d with
  | zero => rfl
  | succ d => unfold trimS; rw [if_neg h]
theorem ks_n (p : Int × Int) : (ks p).n = p.2 := rfl
theorem map_sub : ∀ {l : List Slt} {L : List (Int × Int)}, l.Sublist (L.map ks) → ∃ M : List (Int × Int), M.Sublist L ∧ l = M.map ks := by
  intro l L h
  obtain ⟨M, h1, h2⟩ := List.sublist_map_iff.1 h
  exact ⟨M, h1, h2⟩
theorem ks_inj {p q : Int × Int} (h : ks p = ks q) : p = q := by
  obtain ⟨a, b⟩ := p; obtain ⟨c, d⟩ := q
  simp only [ks, kv, Slt.mk.injEq, Val.mk.injEq] at h
  simp [h.1, h.2.1]
theorem mem_ks {p : Int × Int} {L : List (Int × Int)} : ks p ∈ L.map ks ↔ p ∈ L := by
  constructor
  · intro h
    obtain ⟨q, hq, e⟩ := List.mem_map.1 h
    rw [← ks_inj e]; exact hq
  · intro h; exact List.mem_map.2 ⟨p, h, rfl⟩

theorem win_step {w : Nat} (hw : 0 < w) {acc : List Nat} {L : List (Int × Int)} (h : Win w acc L) {k i : Nat} (hi : i ≤ L.length) (hnew : ¬ inLast w acc k) (h1 : ∀ p, p ∈ L.take i → p.1 < (k : Int)) (h2 : ∀ p, p ∈ L.drop i → (k : Int) < p.1) :
    ∃ M, Win w (acc ++ [k]) M ∧ trimS (L.length + 1) w ((L.take i ++ [((k : Int), (acc.length : Int) + 1)] ++ L.drop i).map ks) = M.map ks := by
  let q : Int × Int := ((k : Int), (acc.length : Int) + 1)
  have hs := sorted_insert (n := (acc.length : Int) + 1) h.sorted h1 h2
  have hlen : (L.take i ++ [q] ++ L.drop i).length = L.length + 1 := by simp; omega
  have hmem : ∀ p, p ∈ L.take i ++ [q] ++ L.drop i ↔ ∃ j, acc.length - w ≤ j ∧ ∃ h : j < (acc ++ [k]).length, p = (((acc ++ [k])[j] : Int), ((j : Int) + 1)) := by
    intro p
    rw [mem_insert, h.mem]
    constructor
    · rintro (⟨j, h1, h2, rfl⟩ | rfl)
      · exact ⟨j, h1, by simp; omega, by rw [List.getElem_append_left h2]⟩
      · exact ⟨acc.length, by omega, by simp, by simp [q]⟩
    · rintro ⟨j, h1, h2, rfl⟩
      by_cases hj : j < acc.length
      · exact .inl ⟨j, h1, hj, by rw [List.getElem_append_left hj]⟩
      · have : j = acc.length := by simp at h2; omega
        subst this
        exact .inr (by simp [q])
  by_cases hlt : acc.length < w
  · refine ⟨L.take i ++ [q] ++ L.drop i, ⟨hs, fun p => ?_, by rw [hlen, h.len]; simp; omega⟩, trim_stop (by rw [List.length_map, hlen, h.len]; omega)⟩
    rw [hmem]
    have e1 : acc.length - w = 0 := by omega
    have e2 : (acc ++ [k]).length - w = 0 := by simp; omega
    rw [e1, e2]
  · have hL : L.length = w := by rw [h.len]; omega
    have hnums : ((L.take i ++ [q] ++ L.drop i).map ks).Pairwise (fun a b => a.n ≠ b.n) := by
      rw [List.pairwise_map]
      refine hs.imp_of_mem fun {a b} ha hb hab he => ?_
      obtain ⟨i', _, hi', rfl⟩ := (hmem a).1 ha
      obtain ⟨j', _, hj', rfl⟩ := (hmem b).1 hb
      rw [ks_n, ks_n] at he
      dsimp only at hab he
      have : i' = j' := by omega
      subst this
      omega
    have hget : ∃ x r, (L.take i ++ [q] ++ L.drop i).map ks = x :: r := by
      cases hx : (L.take i ++ [q] ++ L.drop i).map ks with
      | nil => have := congrArg List.length hx; simp at this
      | cons x r => exact ⟨x, r, rfl⟩
    obtain ⟨x, r, hxr⟩ := hget
    have hmin : (minS x r).n = (acc.length : Int) - w + 1 := by
      have hin := minS_in x r
      rw [← hxr] at hin
      obtain ⟨p, hp, ep⟩ := List.mem_map.1 hin
      obtain ⟨j, hj1, hj2, rfl⟩ := (hmem p).1 hp
      have hj0 : (((acc ++ [k])[acc.length - w]'(by simp; omega) : Int), (((acc.length - w : Nat) : Int) + 1)) ∈ L.take i ++ [q] ++ L.drop i := (hmem _).2 ⟨acc.length - w, Nat.le_refl _, by simp; omega, rfl⟩
      have hle : (minS x r).n ≤ ((acc.length - w : Nat) : Int) + 1 := by
        have hx := mem_ks.2 hj0
        rw [hxr] at hx
        obtain ⟨l1, l2⟩ := minS_le r x
        rcases List.mem_cons.1 hx with e | e
        · have l1' : (minS x r).n ≤ (ks (((acc ++ [k])[acc.length - w]'(by simp; omega) : Int), (((acc.length - w : Nat) : Int) + 1))).n := by rw [e]; exact l1
          exact l1'
        · exact l2 _ e
      rw [← ep, ks_n] at hle ⊢
      dsimp only at hle ⊢
      omega
    obtain ⟨M, hM1, hM2⟩ := map_sub (l := dropOld (x :: r)) (L := L.take i ++ [q] ++ L.drop i) (by rw [hxr]; exact dropOld_sub (x :: r))
    have hdl : (dropOld (x :: r)).length = w := by
      rw [dropOld_length (by simp)]
      have := congrArg List.length hxr
      rw [List.length_map, hlen] at this
      omega
    have hMl : M.length = w := by rw [hM2, List.length_map] at hdl; exact hdl
    refine ⟨M, ⟨hs.sublist hM1, fun p => ?_, by rw [hMl]; simp; omega⟩, ?_⟩
    · rw [← mem_ks, ← hM2]
      unfold dropOld
      rw [erase_first (hxr ▸ hnums), ← hxr, mem_ks, hmem, hmin]
      have hex : ∃ y, y ∈ (L.take i ++ [q] ++ L.drop i).map ks ∧ y.n = (acc.length : Int) - w + 1 := ⟨minS x r, by rw [hxr]; exact minS_in x r, hmin⟩
      constructor
      · rintro ⟨⟨j, hj1, hj2, rfl⟩, hne⟩
        have hne := hne hex
        rw [ks_n] at hne
        dsimp only at hne
        exact ⟨j, by simp; omega, hj2, rfl⟩
      · rintro ⟨j, hj1, hj2, rfl⟩
        simp only [List.length_append, List.length_singleton] at hj1
        refine ⟨⟨j, by omega, hj2, rfl⟩, fun _ => ?_⟩
        rw [ks_n]
        dsimp only
        omega
    · rw [hxr]
      show trimS (L.length + 1) w (x :: r) = _
      unfold trimS
      have hl1 : w < (x :: r).length := by rw [← hxr, List.length_map, hlen]; omega
      rw [if_pos hl1, trim_stop (by omega), hM2]
end Go.Proofs.YthfchdkjeddijaaGreatDoor

/- The search for a key among the slots. -/
namespace Go.Proofs.YthfchdkjeddijaaGreatDoor
open Go.Em
set_option maxRecDepth 100000
def dSlt : Slt := ⟨.mk 0 0 0 ⟨#[]⟩ [] [], 0, 0, [], []⟩

theorem cmp116 (N : Nat) (hN : 180020 ≤ N) (x : Slt) (key : Val) (hx : x.key.ok) : Gam.pureD (callF tab ext N) 153 [.agg x.cells, .agg key.cells] = some (num (cmpV x.key key)) := by
  obtain ⟨M, rfl⟩ : ∃ M, N = M + 1 := ⟨N - 1, by omega⟩
  have h := cmp_val 60000 M x.key key hx (by omega) (by unfold Val.ok at hx; omega)
  obtain ⟨⟨k, i, s, tx, vl, fl⟩, n2, c, ms, vs⟩ := x
  obtain ⟨k', i', s', tx', vl', fl'⟩ := key
  dsimp only at h ⊢
  generalize cmpV (.mk k i s tx vl fl) (.mk k' i' s' tx' vl' fl') = r at h
  exact pure_of [(8, .p (num r))] [] (pf1 h) (x := num r) (bx := []) (by kernel_rfl) rfl

theorem half_nat {s : Nat} (h : s < 4294967296) : IntKind.i64.wrap (Int.ofNat (s / 2)) = Int.ofNat (s / 2) := by
  rw [IntKind.wrap_i64]; simp only [Int.ofNat_eq_natCast]; omega
theorem u64_nat {s : Nat} (h : s < 4294967296) : IntKind.u64.wrap (Int.ofNat s) = Int.ofNat s := by
  rw [IntKind.wrap_u64]; simp only [Int.ofNat_eq_natCast]; omega
theorem shr_nat {s : Nat} : (Int.ofNat s).fdiv (2 ^ min (Int.toNat 1) IntKind.u64.bits) = Int.ofNat (s / 2) := by
  have e : (2 : Int) ^ min (Int.toNat 1) IntKind.u64.bits = 2 := by decide
  rw [e, Int.fdiv_eq_ediv_of_nonneg _ (by decide)]
  rfl
theorem add_nat {a b : Nat} (h : a < 4294967296) (h' : b < 4294967296) : IntKind.i64.wrap (Int.ofNat a + Int.ofNat b) = Int.ofNat (a + b) := by
  rw [IntKind.wrap_i64]; simp only [Int.ofNat_eq_natCast]; omega

/-- Where a search ends. -/
inductive Srch (ss : List Slt) (key : Val) : Nat → Nat → Nat → Prop
  | stop (lo : Nat) : Srch ss key lo lo lo
  | lt {lo hi r : Nat} (h : lo < hi) (hc : cmpV (ss.getD ((lo + hi) / 2) dSlt).key key < 0) (hr : Srch ss key ((lo + hi) / 2 + 1) hi r) : Srch ss key lo hi r
  | ge {lo hi r : Nat} (h : lo < hi) (hc : ¬ cmpV (ss.getD ((lo + hi) / 2) dSlt).key key < 0) (hr : Srch ss key lo ((lo + hi) / 2) r) : Srch ss key lo hi r
theorem srch_ex (ss : List Slt) (key : Val) : ∀ (d lo hi : Nat), lo ≤ hi → hi - lo ≤ d → ∃ r, lo ≤ r ∧ r ≤ hi ∧ Srch ss key lo hi r
  | 0, lo, hi, h, hd => by
    obtain rfl : lo = hi := by omega
    exact ⟨lo, Nat.le_refl _, Nat.le_refl _, .stop lo⟩
  | d + 1, lo, hi, h, hd => by
    by_cases hlt : lo < hi
    · by_cases hc : cmpV (ss.getD ((lo + hi) / 2) dSlt).key key < 0
      · obtain ⟨r, h1, h2, h3⟩ := srch_ex ss key d ((lo + hi) / 2 + 1) hi (by omega) (by omega)
        exact ⟨r, by omega, h2, .lt hlt hc h3⟩
      · obtain ⟨r, h1, h2, h3⟩ := srch_ex ss key d lo ((lo + hi) / 2) (by omega) (by omega)
        exact ⟨r, h1, by omega, .ge hlt hc h3⟩
    · obtain rfl : lo = hi := by omega
      exact ⟨lo, Nat.le_refl _, Nat.le_refl _, .stop lo⟩

/-- Where a key stands among slots: what is before it is less, what is at its place is not. -/
structure Spot (ss : List Slt) (key : Val) (i : Nat) : Prop where
  before : 0 < i → cmpV (ss.getD (i - 1) dSlt).key key < 0
  behind : i < ss.length → ¬ cmpV (ss.getD i dSlt).key key < 0
theorem srch_spot {ss : List Slt} {key : Val} {lo hi r : Nat} (h : Srch ss key lo hi r) (h1 : 0 < lo → cmpV (ss.getD (lo - 1) dSlt).key key < 0) (h2 : hi < ss.length → ¬ cmpV (ss.getD hi dSlt).key key < 0) : Spot ss key r := by
  induction h with
  | stop lo => exact ⟨h1, h2⟩
  | lt _ hc _ ih => exact ih (fun _ => by simpa using hc) h2
  | ge _ hc _ ih => exact ih h1 (fun _ => hc)

section
variable (l : List (List X)) (k i s : Int) (tx : ByteArray) (vl fl : List (List X)) (n lo hi : Nat)
def keyC : List X := [num k, num i, num s, strX tx, .sl false 6 vl, .sl false 7 fl]
def seH : St := ⟨[(0, .sl false 10 l), (2, .fn 153 []), (4, .ptr 0 0 0), (8, nat n), (9, nat lo), (10, nat hi)], [.var (keyC k i s tx vl fl)]⟩
def seE : St := ⟨[(0, .sl false 10 l), (2, .fn 153 []), (4, .ptr 0 0 0), (8, nat n), (9, nat lo), (10, nat hi), (17, boolX false)], [.var (keyC k i s tx vl fl)]⟩
theorem se_canon : canon 0 (seH l k i s tx vl fl n lo hi) = some (seH l k i s tx vl fl n lo hi) := by kernel_rfl
theorem se_end (h : ¬ lo < hi) (M : Nat) : run (callF tab ext M) 0 M (loopAt 152 0) (seH l k i s tx vl fl n lo hi) = some (.exit 0, seE l k i s tx vl fl n lo hi) :=
  run_of [(17, .b false)] [] (pf1 (nlt_nat h)) (lo' := []) (by kernel_rfl)
theorem se_step (x : Slt) (r : Int) (hlt : lo < hi) (hh : hi < 4294967) (hg : l[(lo + hi) / 2]? = some x.cells) (M : Nat) (hc : Gam.pureD (callF tab ext M) 153 [.agg x.cells, .agg (keyC k i s tx vl fl)] = some (num r)) :
    (r < 0 → run (callF tab ext M) 0 M (loopAt 152 0) (seH l k i s tx vl fl n lo hi) = some (.norm, seH l k i s tx vl fl n ((lo + hi) / 2 + 1) hi)) ∧
    (¬ r < 0 → run (callF tab ext M) 0 M (loopAt 152 0) (seH l k i s tx vl fl n lo hi) = some (.norm, seH l k i s tx vl fl n lo ((lo + hi) / 2))) := by
  have h1 := lt_nat hlt
  have h2 := add_nat (a := lo) (b := hi) (by omega) (by omega)
  have h3 := u64_nat (s := lo + hi) (by omega)
  have h4 := shr_nat (s := lo + hi)
  have h5 := half_nat (s := lo + hi) (by omega)
  have h6 := next_nat (j := (lo + hi) / 2) (by omega)
  obtain ⟨⟨k', i', s', tx', vl', fl'⟩, n2, c, ms, vs⟩ := x
  constructor
  · intro hr
    have h7 : decide (r < 0) = true := decide_eq_true hr
    exact run_of [(17, .b true), (20, .i (Int.ofNat (lo + hi))), (21, .i (Int.ofNat (lo + hi))), (22, .i (Int.ofNat ((lo + hi) / 2))), (23, .i (Int.ofNat ((lo + hi) / 2))), (27, .e (slotC k' i' s' tx' (cellsL vl') (cellsF fl') n2 c (msgsC ms) (cellsL vs))), (30, .p (num r)), (31, .b true), (33, .i (Int.ofNat ((lo + hi) / 2 + 1)))] []
      (pf9 h1 h2 h3 h4 h5 hg hc h7 h6) (lo' := []) (by kernel_rfl)
  · intro hr
    have h7 : decide (r < 0) = false := decide_eq_false hr
    exact run_of [(17, .b true), (20, .i (Int.ofNat (lo + hi))), (21, .i (Int.ofNat (lo + hi))), (22, .i (Int.ofNat ((lo + hi) / 2))), (23, .i (Int.ofNat ((lo + hi) / 2))), (27, .e (slotC k' i' s' tx' (cellsL vl') (cellsF fl') n2 c (msgsC ms) (cellsL vs))), (30, .p (num r)), (31, .b false)] []
      (pf8 h1 h2 h3 h4 h5 hg hc h7) (lo' := []) (by kernel_rfl)
end

/-- The search: an index, and whether the key is there. -/
theorem find_ex2 (s : Stt) (hs : s.small) (key : Val) : ∃ (i : Nat) (b : Bool), i ≤ s.slots.length ∧ (b = true → ∃ h : i < s.slots.length, cmpV s.slots[i].key key = 0) ∧ (b = false → Spot s.slots key i ∧ ∀ h : i < s.slots.length, ¬ cmpV s.slots[i].key key = 0) ∧ ∀ N, 190040 ≤ N → Gam.pureD (callF tab ext N) 95 [.agg s.cells, .agg key.cells] = some (.tup [nat i, boolX b]) := by
  obtain ⟨a, b0, ss⟩ := s
  have hl : ss.length ≤ 100 := hs.slots
  have hx : ∀ x, x ∈ ss → x.ok := fun x h => (hs.slot x h).1
  have hlen := sltsC_length ss
  obtain ⟨r, _, hr, hS⟩ := srch_ex ss key ss.length 0 ss.length (by omega) (by omega)
  have hSp := srch_spot hS (fun h => absurd h (by omega)) (fun h => absurd h (by omega))
  have hcmp : ∀ (j : Nat) (hj : j < ss.length) (N : Nat), 180020 ≤ N → Gam.pureD (callF tab ext N) 153 [.agg ss[j].cells, .agg key.cells] = some (num (cmpV ss[j].key key)) := fun j hj N hN => cmp116 N hN _ _ (hx _ (List.getElem_mem hj)).key
  have hgd : ∀ (j : Nat) (hj : j < ss.length), ss.getD j dSlt = ss[j] := fun j hj => by rw [List.getD_eq_getElem?_getD, List.getElem?_eq_getElem hj]; rfl
  obtain ⟨k, i, s, tx, vl, fl⟩ := key
  have hloop : ∀ M, 190000 ≤ M → ∀ τ, canon 0 τ = some (seH (sltsC ss) k i s tx (cellsL vl) (cellsF fl) (sltsC ss).length 0 (sltsC ss).length) → run (callF tab ext M) 0 M (.loop (loopAt 152 0)) τ = some (.exit 0, seE (sltsC ss) k i s tx (cellsL vl) (cellsF fl) (sltsC ss).length r r) := fun M hM τ hτ => by
    refine loop_dec (α := Nat × Nat) (σ := fun a => seH (sltsC ss) k i s tx (cellsL vl) (cellsF fl) (sltsC ss).length a.1 a.2) (I := fun a => a.2 ≤ ss.length ∧ Srch ss (.mk k i s tx vl fl) a.1 a.2 r) (μ := fun a => a.2 - a.1) (fun a ha => ?_) (by simp) (a := (0, (sltsC ss).length)) ⟨by dsimp only; omega, by rw [hlen]; exact hS⟩ hτ (by dsimp only; omega)
    obtain ⟨lo, hi⟩ := a
    obtain ⟨ha1, ha2⟩ := ha
    dsimp only at ha1 ha2 ⊢
    cases ha2 with
    | stop =>
      right
      exact se_end _ _ _ _ _ _ _ _ _ _ (Nat.lt_irrefl _) M
    | lt h hc hr' =>
      left
      have hh : (lo + hi) / 2 < ss.length := by omega
      rw [hgd _ hh] at hc
      have := (se_step (sltsC ss) k i s tx (cellsL vl) (cellsF fl) (sltsC ss).length lo hi ss[(lo + hi) / 2] _ h (by omega) (sltsC_get hh) M (hcmp _ hh M (by omega))).1 hc
      exact ⟨_, ((lo + hi) / 2 + 1, hi), this, se_canon .., ⟨ha1, hr'⟩, by dsimp only; omega⟩
    | ge h hc hr' =>
      left
      have hh : (lo + hi) / 2 < ss.length := by omega
      rw [hgd _ hh] at hc
      have := (se_step (sltsC ss) k i s tx (cellsL vl) (cellsF fl) (sltsC ss).length lo hi ss[(lo + hi) / 2] _ h (by omega) (sltsC_get hh) M (hcmp _ hh M (by omega))).2 hc
      exact ⟨_, (lo, (lo + hi) / 2), this, se_canon .., ⟨by dsimp only; omega, hr'⟩, by dsimp only; omega⟩
  by_cases hlt : r < ss.length
  · refine ⟨r, cmpV ss[r].key (.mk k i s tx vl fl) == 0, hr, fun h => ⟨hlt, eq_of_beq h⟩, fun h => ⟨hSp, fun _ hz => by rw [hz] at h; cases h⟩, fun N hN => ?_⟩
    obtain ⟨M, rfl⟩ : ∃ M, N = M + 2 := ⟨N - 2, by omega⟩
    have hc := hcmp r hlt M (by omega)
    have hg := sltsC_get hlt
    generalize cmpV ss[r].key (.mk k i s tx vl fl) = z at hc ⊢
    generalize ss[r] = x at hc hg
    have hl0 := hloop M (by omega) ⟨[(0, .sl false 10 (sltsC ss)), (2, .fn 153 []), (4, .ptr 0 0 0), (8, nat (sltsC ss).length), (9, num 0), (10, nat (sltsC ss).length)], [.var (keyC k i s tx (cellsL vl) (cellsF fl))]⟩ (by kernel_rfl)
    have h1 : decide (Int.ofNat r < Int.ofNat (sltsC ss).length) = true := lt_nat (by omega)
    have h115 : Gam.pureD (callF tab ext (M + 1)) 152 [.sl false 10 (sltsC ss), .agg (Val.mk k i s tx vl fl).cells, .fn 153 []] = some (.tup [nat r, boolX (z == 0)]) := by
      obtain ⟨⟨k', i', s', tx', vl', fl'⟩, n2, c, ms, vs⟩ := x
      cases h2 : (z == 0) with
      | true => exact pure_of [(38, .b true), (43, .e (slotC k' i' s' tx' (cellsL vl') (cellsF fl') n2 c (msgsC ms) (cellsL vs))), (46, .p (num z)), (47, .b true)] [(.exit 0, seE (sltsC ss) k i s tx (cellsL vl) (cellsF fl) (sltsC ss).length r r)] (pf5 hl0 h1 hg hc h2) (x := .tup [nat r, boolX true]) (bx := []) (by kernel_rfl) rfl
      | false => exact pure_of [(38, .b true), (43, .e (slotC k' i' s' tx' (cellsL vl') (cellsF fl') n2 c (msgsC ms) (cellsL vs))), (46, .p (num z)), (47, .b false)] [(.exit 0, seE (sltsC ss) k i s tx (cellsL vl) (cellsF fl) (sltsC ss).length r r)] (pf5 hl0 h1 hg hc h2) (x := .tup [nat r, boolX false]) (bx := []) (by kernel_rfl) rfl
    exact pure_of [(9, .p (.tup [nat r, boolX (z == 0)]))] [] (pf1 h115) (x := .tup [nat r, boolX (z == 0)]) (bx := []) (by kernel_rfl) rfl
  · refine ⟨r, false, hr, fun h => (by cases h), fun _ => ⟨hSp, fun h => absurd h hlt⟩, fun N hN => ?_⟩
    obtain ⟨M, rfl⟩ : ∃ M, N = M + 2 := ⟨N - 2, by omega⟩
    have hl0 := hloop M (by omega) ⟨[(0, .sl false 10 (sltsC ss)), (2, .fn 153 []), (4, .ptr 0 0 0), (8, nat (sltsC ss).length), (9, num 0), (10, nat (sltsC ss).length)], [.var (keyC k i s tx (cellsL vl) (cellsF fl))]⟩ (by kernel_rfl)
    have h1 : decide (Int.ofNat r < Int.ofNat (sltsC ss).length) = false := nlt_nat (by omega)
    have h115 : Gam.pureD (callF tab ext (M + 1)) 152 [.sl false 10 (sltsC ss), .agg (Val.mk k i s tx vl fl).cells, .fn 153 []] = some (.tup [nat r, boolX false]) :=
      pure_of [(38, .b false)] [(.exit 0, seE (sltsC ss) k i s tx (cellsL vl) (cellsF fl) (sltsC ss).length r r)] (pf2 hl0 h1) (x := .tup [nat r, boolX false]) (bx := []) (by kernel_rfl) rfl
    exact pure_of [(9, .p (.tup [nat r, boolX false]))] [] (pf1 h115) (x := .tup [nat r, boolX false]) (bx := []) (by kernel_rfl) rfl
end Go.Proofs.YthfchdkjeddijaaGreatDoor

/- A slot is put into a state, at any index. -/
namespace Go.Proofs.YthfchdkjeddijaaGreatDoor
open Go.Em
set_option maxRecDepth 100000

theorem rowOf_get {bx : List Bx} {i sz n : Nat} {es : List (List X)} (h : bx[i]? = some (.row sz es)) (hn : n = es.length) : rowOf bx i 0 n = some (sz, es) := by
  subst hn
  simp [rowOf, h]

theorem ins_call (N : Nat) (rows : List (List X)) (n i : Nat) (x : List X) (hn : n = rows.length) (hi : i ≤ n) (hl : n ≤ 1000) :
    callF tab ext (N + 1) (.fn 154) [.bs 0 0 n, nat i, .sl true 10 [x]] [.row 10 rows] = some (.bs 1 0 (n + 1), [.dead, .row 10 (rows.take i ++ [x] ++ rows.drop i)]) := by
  have e : callF tab ext (N + 1) (.fn 154) [.bs 0 0 n, nat i, .sl true 10 [x]] [.row 10 rows] = insExt 10 [.bs 0 0 n, nat i, .sl true 10 [x]] [.row 10 rows] := rfl
  rw [e]
  show (if 10 = 10 ∧ 10 = 10 ∧ n = rows.length ∧ n ≤ 1000 ∧ 0 ≤ Int.ofNat i ∧ (Int.ofNat i).toNat ≤ n then some (X.bs 1 0 (n + 1), [Bx.dead, Bx.row 10 (rows.take (Int.ofNat i).toNat ++ [x] ++ rows.drop (Int.ofNat i).toNat)]) else none) = _
  rw [if_pos ⟨rfl, rfl, hn, hl, Int.natCast_nonneg i, hi⟩]
  rfl
theorem small_int {k : Nat} (h : k < 1024) : decide (Int.ofNat k ≥ 1024) = false := decide_eq_false (by simp only [Int.ofNat_eq_natCast]; omega)
/-- The slots with one more, or with one in the place of another. -/
def putS (b : Bool) (i : Nat) (x : Slt) (ss : List Slt) : List Slt := if b then ss.set i x else ss.take i ++ [x] ++ ss.drop i

end Go.Proofs.YthfchdkjeddijaaGreatDoor

/- The oldest slot, and its index. -/
namespace Go.Proofs.YthfchdkjeddijaaGreatDoor
open Go.Em
set_option maxRecDepth 100000

theorem ordI_lt {a b : Int} : ordI a b < 0 ↔ a < b := by
  unfold ordI
  split
  · rename_i h; exact ⟨fun _ => h, fun _ => by decide⟩
  · split
    · rename_i h h2; exact ⟨fun h3 => absurd h3 (by decide), fun h3 => absurd h3 h⟩
    · rename_i h h2; exact ⟨fun h3 => absurd h3 (by decide), fun h3 => absurd h3 h⟩
theorem min1 (N : Nat) (a b : Slt) : Gam.pureD (callF tab ext (N + 6)) 156 [.agg a.cells, .agg b.cells] = some (num (ordI a.n b.n)) := by
  have h := cmp_int (N + 1) a.n b.n
  obtain ⟨⟨k, i, s, tx, vl, fl⟩, n, t, ms, vs⟩ := a
  obtain ⟨⟨k1, i1, s1, tx1, vl1, fl1⟩, n1, t1, ms1, vs1⟩ := b
  dsimp only at h ⊢
  generalize ordI n n1 = r at h
  exact pure_of [(9, .p (num r))] [] (pf1 h) (x := num r) (bx := []) (by kernel_rfl) rfl
def zslotX : List X := [num 0, num 0, num 0, noText, .sl true 6 [], .sl true 7 [], num 0, num 0, .sl true 10 [], .sl true 6 []]
def mnH (l : List (List X)) (m : Nat) (c : List X) (j : Nat) : St := ⟨[(0, .bs 0 0 m), (1, .fn 156 []), (4, .ptr 1 0 0), (5, .ptr 2 0 0), (6, nat j)], [.row 10 l, .var zslotX, .var c]⟩
def mnE (l : List (List X)) (m : Nat) (c : List X) (j : Nat) : St := ⟨[(0, .bs 0 0 m), (1, .fn 156 []), (4, .ptr 1 0 0), (5, .ptr 2 0 0), (6, nat j), (17, boolX false)], [.row 10 l, .var zslotX, .var c]⟩
theorem mn_canon (l : List (List X)) (m : Nat) (c : Slt) (j : Nat) : canon 1 (mnH l m c.cells j) = some (mnH l m c.cells j) := by
  obtain ⟨⟨k1, i1, s1, tx1, vl1, fl1⟩, n1, t1, ms1, vs1⟩ := c
  kernel_rfl
theorem mn_step (l : List (List X)) (m : Nat) (c x : Slt) (j : Nat) (hj : j < m) (hm : m < 1000000) (hg : l[0 + j]? = some x.cells) (M : Nat) : run (callF tab ext (M + 6)) 1 (M + 6) (loopAt 155 0) (mnH l m c.cells j) = some (.norm, mnH l m (if x.n < c.n then x else c).cells (j + 1)) := by
  have h1 := lt_nat hj
  have hc := min1 M x c
  have hn := next_nat (j := j) (by omega)
  have hlt := @ordI_lt x.n c.n
  obtain ⟨⟨k, i, s, tx, vl, fl⟩, n, t, ms, vs⟩ := x
  obtain ⟨⟨k1, i1, s1, tx1, vl1, fl1⟩, n1, t1, ms1, vs1⟩ := c
  dsimp only at hc hlt ⊢
  generalize ordI n n1 = r at hc hlt
  by_cases h : n < n1
  · rw [if_pos h]
    have h2 : decide (r < 0) = true := decide_eq_true (hlt.2 h)
    exact run_of [(17, .b true), (23, .at), (24, .ld (slotC k i s tx (cellsL vl) (cellsF fl) n t (msgsC ms) (cellsL vs))), (26, .p (num r)), (27, .b true), (30, .at), (31, .ld (slotC k i s tx (cellsL vl) (cellsF fl) n t (msgsC ms) (cellsL vs))), (19, .i (Int.ofNat (j + 1)))] [] (pf8 h1 hj hg hc h2 hj hg hn) (lo' := []) (by kernel_rfl)
  · rw [if_neg h]
    have h2 : decide (r < 0) = false := decide_eq_false (fun h3 => h (hlt.1 h3))
    exact run_of [(17, .b true), (23, .at), (24, .ld (slotC k i s tx (cellsL vl) (cellsF fl) n t (msgsC ms) (cellsL vs))), (26, .p (num r)), (27, .b false), (19, .i (Int.ofNat (j + 1)))] [] (pf6 h1 hj hg hc h2 hn) (lo' := []) (by kernel_rfl)
theorem mn_end (l : List (List X)) (m : Nat) (c : Slt) (M : Nat) : run (callF tab ext M) 1 M (loopAt 155 0) (mnH l m c.cells m) = some (.exit 0, mnE l m c.cells m) := by
  obtain ⟨⟨k1, i1, s1, tx1, vl1, fl1⟩, n1, t1, ms1, vs1⟩ := c
  exact run_of [(17, .b false)] [] (pf1 (nlt_nat (Nat.lt_irrefl m))) (lo' := []) (by kernel_rfl)

theorem minS_take (x : Slt) : ∀ (r : List Slt) (j : Nat) (h : j < r.length), minS x (r.take (j + 1)) = if r[j].n < (minS x (r.take j)).n then r[j] else minS x (r.take j)
  | y :: r, 0, _ => by simp [minS]
  | y :: r, j + 1, h => by
    simp only [List.take_succ_cons, minS, List.getElem_cons_succ]
    exact minS_take (if y.n < x.n then y else x) r j (by simpa using h)

/-- slices.MinFunc of a row of the call's own. -/
theorem min_call (x : Slt) (r : List Slt) (hl : r.length < 100000) (N : Nat) (hN : r.length + 20 ≤ N) : callF tab ext N (.fn 155) [.bs 0 0 (sltsC (x :: r)).length, .fn 156 []] [.row 10 (sltsC (x :: r))] = some (.agg (minS x r).cells, [.row 10 (sltsC (x :: r))]) := by
  obtain ⟨M, rfl⟩ : ∃ M, N = M + 7 := ⟨N - 7, by omega⟩
  have hlen := sltsC_length (x :: r)
  simp only [List.length_cons] at hlen
  have hloop : run (callF tab ext (M + 6)) 1 (M + 6) (.loop (loopAt 155 0)) (mnH (sltsC (x :: r)) (sltsC (x :: r)).length x.cells 1) = some (.exit 0, mnE (sltsC (x :: r)) (sltsC (x :: r)).length (minS x r).cells (sltsC (x :: r)).length) := by
    refine loop_for (σ := fun j => mnH (sltsC (x :: r)) (sltsC (x :: r)).length (minS x (r.take j)).cells (j + 1)) (k := r.length) (by simpa [minS] using mn_canon (sltsC (x :: r)) _ x 1) (fun j hj => ?_) ?_ (by simp) (by omega)
    · refine ⟨_, mn_step _ _ _ r[j] (j + 1) (by omega) (by omega) ?_ M, ?_⟩
      · rw [Nat.zero_add]; exact sltsC_get (l := x :: r) (j := j + 1) (by simpa using hj)
      · rw [← minS_take]; exact mn_canon ..
    · rw [List.take_length, ← hlen]
      exact mn_end ..
  have h9 : decide (Int.ofNat (sltsC (x :: r)).length < 1) = false := decide_eq_false (by simp only [Int.ofNat_eq_natCast]; omega)
  have hpos : 0 < (sltsC (x :: r)).length := by omega
  have hg : (sltsC (x :: r))[0]? = some x.cells := rfl
  generalize sltsC (x :: r) = l at hloop h9 hpos hg ⊢
  generalize minS x r = z at hloop ⊢
  obtain ⟨⟨k, i, s, tx, vl, fl⟩, n, t, ms, vs⟩ := x
  obtain ⟨⟨k1, i1, s1, tx1, vl1, fl1⟩, n1, t1, ms1, vs1⟩ := z
  exact callF_of [(9, .b false), (12, .at), (13, .ld (slotC k i s tx (cellsL vl) (cellsF fl) n t (msgsC ms) (cellsL vs)))] [(.exit 0, mnE l l.length (slotC k1 i1 s1 tx1 (cellsL vl1) (cellsF fl1) n1 t1 (msgsC ms1) (cellsL vs1)) l.length)] (pf4 h9 hpos hg hloop) (by kernel_rfl)
theorem old_call (x : Slt) (r : List Slt) (hl : r.length < 100000) (N : Nat) (hN : r.length + 30 ≤ N) : callF tab ext N (.fn 98) [.bs 0 0 (sltsC (x :: r)).length] [.row 10 (sltsC (x :: r))] = some (.agg (minS x r).cells, [.row 10 (sltsC (x :: r))]) := by
  obtain ⟨M, rfl⟩ : ∃ M, N = M + 1 := ⟨N - 1, by omega⟩
  have h := min_call x r hl M (by omega)
  generalize sltsC (x :: r) = l at h ⊢
  generalize minS x r = z at h ⊢
  obtain ⟨⟨k, i, s, tx, vl, fl⟩, n, t, ms, vs⟩ := z
  exact callF_of [(4, .r (.agg (slotC k i s tx (cellsL vl) (cellsF fl) n t (msgsC ms) (cellsL vs))) ([.row 10 l]))] [] (pf1 h) (by kernel_rfl)

/-! ### slices.IndexFunc -/
theorem same1 (N : Nat) (a b : Slt) : Gam.pureD (callF tab ext (N + 1)) 100 [.agg a.cells, .dp b.cells] = some (boolX (a.n == b.n)) := by
  obtain ⟨⟨k, i, s, tx, vl, fl⟩, n, t, ms, vs⟩ := a
  obtain ⟨⟨k1, i1, s1, tx1, vl1, fl1⟩, n1, t1, ms1, vs1⟩ := b
  exact pure_of [] [] pf0 (x := boolX (n == n1)) (bx := []) (by kernel_rfl) rfl
def aiH (l : List (List X)) (c : List X) (m j : Nat) : St := ⟨[(0, .sl false 10 l), (1, .fn 100 [.dp c]), (7, nat m), (8, nat j)], []⟩
theorem ai_canon (l : List (List X)) (c : List X) (m j : Nat) : canon 0 (aiH l c m j) = some (aiH l c m j) := by kernel_rfl
theorem ai_loop (ss : List Slt) (b : Slt) (hx : ∃ y, y ∈ ss ∧ y.n = b.n) (hl : ss.length < 100000) (M : Nat) (hM : ss.length + 20 ≤ M) : run (callF tab ext M) 0 M (.loop (loopAt 99 0)) (aiH (sltsC ss) b.cells (sltsC ss).length 0) = some (.ret, ⟨[(4, nat (firstN b.n ss))], []⟩) := by
  have hlt := firstN_lt hx
  have hlen := sltsC_length ss
  have hget : ∀ j (h : j < ss.length), j ≤ firstN b.n ss → (ss[j].n == b.n) = decide (j = firstN b.n ss) := by
    clear hlt hlen hM hl hx
    induction ss with
    | nil => intro j h; simp at h
    | cons y r ih =>
      intro j h hj
      unfold firstN at hj ⊢
      split
      · rename_i he
        rw [if_pos he] at hj
        have : j = 0 := by omega
        subst this
        simp [he]
      · rename_i hne
        rw [if_neg hne] at hj
        cases j with
        | zero => simp [hne]
        | succ j => simpa using ih j (by simpa using h) (by omega)
  obtain ⟨K, rfl⟩ : ∃ K, M = K + 1 := ⟨M - 1, by omega⟩
  refine loop_for (σ := fun j => aiH (sltsC ss) b.cells (sltsC ss).length j) (k := firstN b.n ss) (ai_canon ..) (fun j hj => ?_) ?_ (by simp) (by omega)
  · have h1 : decide (Int.ofNat j < Int.ofNat (sltsC ss).length) = true := lt_nat (by omega)
    have hjl : j < ss.length := by omega
    have hg := sltsC_get hjl
    have hc := same1 K ss[j] b
    rw [hget j hjl (by omega), decide_eq_false (by omega)] at hc
    have hn := next_nat (j := j) (by omega)
    generalize ss[j] = y at hg hc
    refine ⟨aiH (sltsC ss) b.cells (sltsC ss).length (j + 1), ?_, ai_canon ..⟩
    obtain ⟨⟨k, i, s, tx, vl, fl⟩, n, t, ms, vs⟩ := y
    obtain ⟨⟨k1, i1, s1, tx1, vl1, fl1⟩, n1, t1, ms1, vs1⟩ := b
    exact run_of [(9, .b true), (14, .e (slotC k i s tx (cellsL vl) (cellsF fl) n t (msgsC ms) (cellsL vs))), (16, .p (boolX false)), (18, .i (Int.ofNat (j + 1)))] [] (pf4 h1 hg hc hn) (lo' := []) (by kernel_rfl)
  · have h1 : decide (Int.ofNat (firstN b.n ss) < Int.ofNat (sltsC ss).length) = true := lt_nat (by omega)
    have hg := sltsC_get hlt
    have hc := same1 K ss[firstN b.n ss] b
    rw [hget _ hlt (Nat.le_refl _), decide_eq_true rfl] at hc
    generalize ss[firstN b.n ss] = y at hg hc
    generalize firstN b.n ss = j at h1 hg ⊢
    obtain ⟨⟨k, i, s, tx, vl, fl⟩, n, t, ms, vs⟩ := y
    obtain ⟨⟨k1, i1, s1, tx1, vl1, fl1⟩, n1, t1, ms1, vs1⟩ := b
    exact run_of [(9, .b true), (14, .e (slotC k i s tx (cellsL vl) (cellsF fl) n t (msgsC ms) (cellsL vs))), (16, .p (boolX true))] [] (pf3 h1 hg hc) (lo' := []) (by kernel_rfl)
theorem index_pure (ss : List Slt) (b : Slt) (hx : ∃ y, y ∈ ss ∧ y.n = b.n) (hl : ss.length < 100000) (N : Nat) (hN : ss.length + 30 ≤ N) : Gam.pureD (callF tab ext N) 99 [.sl false 10 (sltsC ss), .fn 100 [.dp b.cells]] = some (nat (firstN b.n ss)) := by
  obtain ⟨M, rfl⟩ : ∃ M, N = M + 1 := ⟨N - 1, by omega⟩
  have h := ai_loop ss b hx hl M (by omega)
  generalize firstN b.n ss = j at h ⊢
  generalize sltsC ss = l at h ⊢
  obtain ⟨⟨k1, i1, s1, tx1, vl1, fl1⟩, n1, t1, ms1, vs1⟩ := b
  exact pure_of [] [(.ret, ⟨[(4, nat j)], []⟩)] (pf1 h) (x := nat j) (bx := []) (by kernel_rfl) rfl
end Go.Proofs.YthfchdkjeddijaaGreatDoor

/- dedup.accept: the key is put, and the oldest slots are dropped. -/
namespace Go.Proofs.YthfchdkjeddijaaGreatDoor
open Go.Em
set_option maxRecDepth 100000

theorem put_call (s : Stt) (hs : s.small) (x : Slt) (hx : x.ok) (i : Nat) (b : Bool) (hi : i ≤ s.slots.length) (hb : b = true → i < s.slots.length) (hf : ∀ N, 190040 ≤ N → Gam.pureD (callF tab ext N) 95 [.agg s.cells, .agg x.key.cells] = some (.tup [nat i, boolX b])) (N : Nat) (hN : 190050 ≤ N) :
    callF tab ext N (.fn 97) [.agg s.cells, .agg x.cells] [] = some (.tup [.agg [num s.n, num s.t, .bs 0 0 (sltsC (putS b i x s.slots)).length], num 0], [.row 10 (sltsC (putS b i x s.slots))]) := by
  obtain ⟨M, rfl⟩ : ∃ M, N = M + 2 := ⟨N - 2, by omega⟩
  have hf := hf (M + 1) (by omega)
  have hst := clone_state (M + 1) s hs.ok (by omega)
  have hcl := clone_slot_pure (M + 1) x hx (by omega)
  have hl := hs.slots
  have hn := sltsC_length s.slots
  obtain ⟨a, c, ss⟩ := s
  dsimp only at hi hb hf hst hl hn ⊢
  unfold putS
  cases b with
  | true =>
    rw [if_pos rfl]
    have hi' := hb rfl
    have hg := sltsC_get hi'
    have e1 : sltsC (ss.set i x) = (sltsC ss).set (0 + i) x.cells := by simp [sltsC, List.map_set]
    have hlt : i < (sltsC ss).length := by omega
    have e2 : (sltsC (ss.set i x)).length = (sltsC ss).length := by simp [sltsC]
    rw [e2, e1]
    obtain ⟨⟨k, j, z, tx, vl, fl⟩, n2, t2, ms, vs⟩ := x
    generalize hgo : ss[i] = o at hg
    obtain ⟨⟨k', j', z', tx', vl', fl'⟩, n2', t2', ms', vs'⟩ := o
    exact callF_of [(13, .p (.tup [nat i, boolX true])), (26, .o (.agg [num a, num c, .bs 0 0 (sltsC ss).length]) [.row 10 (sltsC ss)]), (32, .p (.agg (slotC k j z tx (cellsL vl) (cellsF fl) n2 t2 (msgsC ms) (cellsL vs)))), (33, .at), (1000033, .st (slotC k' j' z' tx' (cellsL vl') (cellsF fl') n2' t2' (msgsC ms') (cellsL vs')))] []
      (pf5 hf hst hcl hlt (show (sltsC ss)[0 + i]? = some (slotC k' j' z' tx' (cellsL vl') (cellsF fl') n2' t2' (msgsC ms') (cellsL vs')) by rw [Nat.zero_add]; exact hg)) (by kernel_rfl)
  | false =>
    rw [if_neg (by simp)]
    have e1 : sltsC (ss.take i ++ [x] ++ ss.drop i) = (sltsC ss).take i ++ [x.cells] ++ (sltsC ss).drop i := by simp [sltsC, List.map_take, List.map_drop]
    have e2 : (sltsC (ss.take i ++ [x] ++ ss.drop i)).length = (sltsC ss).length + 1 := by rw [e1]; simp; omega
    rw [e2, e1]
    have h22 : decide (Int.ofNat (sltsC ss).length ≥ 1024) = false := small_int (by omega)
    have hins := ins_call M (sltsC ss) (sltsC ss).length i x.cells rfl (by omega) (by omega)
    obtain ⟨⟨k, j, z, tx, vl, fl⟩, n2, t2, ms, vs⟩ := x
    exact callF_of [(13, .p (.tup [nat i, boolX false])), (22, .b false), (26, .o (.agg [num a, num c, .bs 0 0 (sltsC ss).length]) [.row 10 (sltsC ss)]), (38, .p (.agg (slotC k j z tx (cellsL vl) (cellsF fl) n2 t2 (msgsC ms) (cellsL vs)))), (40, .r (.bs 1 0 ((sltsC ss).length + 1)) [.dead, .row 10 ((sltsC ss).take i ++ [slotC k j z tx (cellsL vl) (cellsF fl) n2 t2 (msgsC ms) (cellsL vs)] ++ (sltsC ss).drop i)])] []
      (pf5 hf h22 hst hcl hins) (by kernel_rfl)
theorem del_call (N : Nat) (rows : List (List X)) (n i : Nat) (hn : n = rows.length) (hi : i + 1 ≤ n) (hl : n ≤ 1000) :
    callF tab ext (N + 1) (.fn 101) [.bs 0 0 n, nat i, nat (i + 1)] [.row 10 rows] = some (.bs 1 0 (n - 1), [.dead, .row 10 (rows.eraseIdx i)]) := by
  have e : callF tab ext (N + 1) (.fn 101) [.bs 0 0 n, nat i, nat (i + 1)] [.row 10 rows] = delExt 10 [.bs 0 0 n, nat i, nat (i + 1)] [.row 10 rows] := rfl
  rw [e]
  show (if 10 = 10 ∧ n = rows.length ∧ n ≤ 1000 ∧ 0 ≤ Int.ofNat i ∧ Int.ofNat i < Int.ofNat (i + 1) ∧ (Int.ofNat (i + 1)).toNat ≤ n then some (X.bs 1 0 (n - ((Int.ofNat (i + 1)).toNat - (Int.ofNat i).toNat)), [Bx.dead, Bx.row 10 (rows.take (Int.ofNat i).toNat ++ rows.drop (Int.ofNat (i + 1)).toNat)]) else none) = _
  rw [if_pos ⟨rfl, hn, hl, Int.natCast_nonneg i, by simp only [Int.ofNat_eq_natCast]; omega, hi⟩]
  show some (X.bs 1 0 (n - (i + 1 - i)), [Bx.dead, Bx.row 10 (rows.take i ++ rows.drop (i + 1))]) = _
  rw [show n - (i + 1 - i) = n - 1 by omega, List.eraseIdx_eq_take_drop_succ]

def wN (w : Int) : Nat := (max 1 w).toNat
theorem wN_gt (n : Nat) (w : Int) : decide (Int.ofNat n > if true = true then if w > 1 then w else 1 else if w < 1 then w else 1) = decide (wN w < n) := by
  rw [if_pos rfl]
  apply decide_eq_decide.2
  unfold wN
  simp only [Int.ofNat_eq_natCast]
  split <;> omega
section
variable (nd : Nod) (nn ti : Int)
def axS (e : Bool) : List (Nat × X) := if e then [(29, boolX false)] else []
def acH (e : Bool) (rows : List (List X)) (n : Nat) : St := ⟨(3, .ptr 0 0 0) :: (4, .ptr 1 0 0) :: (6, .ptr 2 0 0) :: axS e, [.var nd.cells, .var [num nn, num ti, .bs 3 0 n], .var [num 0, num 0, .sl true 10 []], .row 10 rows]⟩
def acE (rows : List (List X)) (n : Nat) : St := ⟨[(3, .ptr 0 0 0), (4, .ptr 1 0 0), (6, .ptr 2 0 0), (37, boolX false)], [.var nd.cells, .var [num nn, num ti, .bs 3 0 n], .var [num 0, num 0, .sl true 10 []], .row 10 rows]⟩
theorem ac_end (e : Bool) (rows : List (List X)) (n : Nat) (h : ¬ wN nd.number < n) (M : Nat) : run (callF tab ext M) 0 M (loopAt 45 0) (acH nd nn ti e rows n) = some (.exit 0, acE nd nn ti rows n) := by
  have h1 := wN_gt n nd.number
  rw [decide_eq_false h] at h1
  obtain ⟨name, k1, k2, k3, w, k5, k6, text, ⟨a, b, c, d⟩, we, el, f, ty, ex, ca, ru, ne⟩ := nd
  cases e
  · exact run_of [(37, .b false)] [] (pf1 h1) (lo' := []) (by kernel_rfl)
  · exact run_of [(37, .b false)] [] (pf1 h1) (lo' := []) (by kernel_rfl)
theorem ac_step0 (e : Bool) (l l' : List (List X)) (z : Slt) (i : Nat) (M : Nat) (h1 : decide (Int.ofNat l.length > if true = true then if nd.number > 1 then nd.number else 1 else if nd.number < 1 then nd.number else 1) = true)
    (hold : callF tab ext M (.fn 98) [.bs 0 0 l.length] [.row 10 l] = some (.agg z.cells, [.row 10 l])) (hix : Gam.pureD (callF tab ext M) 99 [.sl false 10 l, .fn 100 [.dp z.cells]] = some (nat i)) (hi1 : IntKind.i64.wrap (Int.ofNat i + 1) = Int.ofNat (i + 1))
    (hdel : callF tab ext M (.fn 101) [.bs 0 0 l.length, nat i, nat (i + 1)] [.row 10 l] = some (.bs 1 0 (l.length - 1), [.dead, .row 10 l'])) :
    run (callF tab ext M) 0 M (loopAt 45 0) (acH nd nn ti e l l.length) = some (.norm, ⟨[(3, .ptr 0 0 0), (4, .ptr 1 0 0), (6, .ptr 2 0 0)], [.var nd.cells, .var [num nn, num ti, .bs 5 0 (l.length - 1)], .var [num 0, num 0, .sl true 10 []], .dead, .dead, .row 10 l']⟩) := by
  have hdd : dataL [.var nd.cells, .var [num nn, num ti, .bs 3 0 l.length], .var [num 0, num 0, .sl true 10 []], .row 10 l, .dead] false [X.bs 3 0 l.length, .fn 100 [.dp z.cells]] = some [.sl false 10 l, .fn 100 [.dp z.cells]] := by simp [dataL, X.data, rowOf]
  obtain ⟨⟨k, i1, s, tx, vl, fl⟩, n, t, ms, vs⟩ := z
  obtain ⟨name, k1, k2, k3, w, k5, k6, text, ⟨a, b, c, d⟩, we, el, f, ty, ex, ca, ru, ne⟩ := nd
  cases e
  · exact run_of [(37, .b true), (40, .r (.agg (slotC k i1 s tx (cellsL vl) (cellsF fl) n t (msgsC ms) (cellsL vs))) ([.row 10 l])), (44, .d ([.sl false 10 l, .fn 100 [.dp (slotC k i1 s tx (cellsL vl) (cellsF fl) n t (msgsC ms) (cellsL vs))]]) (nat i)), (49, .i (Int.ofNat (i + 1))), (50, .r (.bs 1 0 (l.length - 1)) ([.dead, .row 10 l']))] [] (pf5 h1 hold (And.intro hdd hix) hi1 hdel) (lo' := []) (by kernel_rfl)
  · exact run_of [(37, .b true), (40, .r (.agg (slotC k i1 s tx (cellsL vl) (cellsF fl) n t (msgsC ms) (cellsL vs))) ([.row 10 l])), (44, .d ([.sl false 10 l, .fn 100 [.dp (slotC k i1 s tx (cellsL vl) (cellsF fl) n t (msgsC ms) (cellsL vs))]]) (nat i)), (49, .i (Int.ofNat (i + 1))), (50, .r (.bs 1 0 (l.length - 1)) ([.dead, .row 10 l']))] [] (pf5 h1 hold (And.intro hdd hix) hi1 hdel) (lo' := []) (by kernel_rfl)
theorem ac_canon' (l' : List (List X)) (n : Nat) : canon 0 ⟨[(3, .ptr 0 0 0), (4, .ptr 1 0 0), (6, .ptr 2 0 0)], [.var nd.cells, .var [num nn, num ti, .bs 5 0 n], .var [num 0, num 0, .sl true 10 []], .dead, .dead, .row 10 l']⟩ = some (acH nd nn ti false l' n) := by kernel_rfl
theorem ac_step (e : Bool) (x : Slt) (r : List Slt) (hl : (x :: r).length ≤ 1000) (h : wN nd.number < (x :: r).length) (M : Nat) (hM : 1100 ≤ M) :
    ∃ υ, run (callF tab ext M) 0 M (loopAt 45 0) (acH nd nn ti e (sltsC (x :: r)) (sltsC (x :: r)).length) = some (.norm, υ) ∧ canon 0 υ = some (acH nd nn ti false (sltsC (dropOld (x :: r))) (sltsC (dropOld (x :: r))).length) := by
  have hlen := sltsC_length (x :: r)
  have h1 := wN_gt (sltsC (x :: r)).length nd.number
  have hw' : wN nd.number < (sltsC (x :: r)).length := by omega
  rw [decide_eq_true hw'] at h1
  have hlt := old_lt x r
  have hold := old_call x r (by simp only [List.length_cons] at hl; omega) M (by simp only [List.length_cons] at hl; omega)
  have hix := index_pure (x :: r) (minS x r) ⟨_, minS_in x r, rfl⟩ (by omega) M (by omega)
  have hi1 := next_nat (j := firstN (minS x r).n (x :: r)) (by omega)
  obtain ⟨K, rfl⟩ : ∃ K, M = K + 1 := ⟨M - 1, by omega⟩
  have hdel := del_call K (sltsC (x :: r)) (sltsC (x :: r)).length (firstN (minS x r).n (x :: r)) rfl (by omega) (by omega)
  have e3 : sltsC (dropOld (x :: r)) = (sltsC (x :: r)).eraseIdx (firstN (minS x r).n (x :: r)) := by
    simp [dropOld, sltsC, List.eraseIdx_eq_take_drop_succ, List.map_take, List.map_drop]
  have e4 : (sltsC (dropOld (x :: r))).length = (sltsC (x :: r)).length - 1 := by
    rw [sltsC_length, dropOld_length (by simp), hlen]
  rw [e4, e3]
  exact ⟨_, ac_step0 nd nn ti e _ _ (minS x r) _ (K + 1) h1 hold hix hi1 hdel, ac_canon' ..⟩
end

theorem acc_loop (nd : Nod) (nn ti : Int) : ∀ (d : Nat) (e : Bool) (ss : List Slt) (τ : St), canon 0 τ = some (acH nd nn ti e (sltsC ss) (sltsC ss).length) → ss.length ≤ 1000 → ss.length ≤ d → ∀ M, 1100 ≤ M → run (callF tab ext M) 0 M (.loop (loopAt 45 0)) τ = some (.exit 0, acE nd nn ti (sltsC (trimS d (wN nd.number) ss)) (sltsC (trimS d (wN nd.number) ss)).length) := by
  intro d e ss τ hτ hl hd M hM
  refine loop_dec (α := Bool × Nat × List Slt) (σ := fun a => acH nd nn ti a.1 (sltsC a.2.2) (sltsC a.2.2).length) (I := fun a => a.2.2.length ≤ 1000 ∧ a.2.2.length ≤ a.2.1 ∧ trimS a.2.1 (wN nd.number) a.2.2 = trimS d (wN nd.number) ss) (μ := fun a => a.2.2.length) (fun a ha => ?_) (by simp) (a := (e, d, ss)) ⟨hl, hd, rfl⟩ hτ (by dsimp only; omega)
  obtain ⟨e, d', ss'⟩ := a
  obtain ⟨h1, h2, h3⟩ := ha
  dsimp only at h1 h2 h3 ⊢
  by_cases hw : wN nd.number < ss'.length
  · left
    cases ss' with
    | nil => simp at hw
    | cons x r =>
      obtain ⟨υ, hr, hc⟩ := ac_step nd nn ti e x r h1 hw M hM
      obtain ⟨d'', rfl⟩ : ∃ d'', d' = d'' + 1 := ⟨d' - 1, by simp only [List.length_cons] at h2; omega⟩
      have hdl := dropOld_length (ss := x :: r) (by simp)
      refine ⟨υ, (false, d'', dropOld (x :: r)), hr, hc, ⟨by dsimp only; omega, by dsimp only; omega, ?_⟩, by dsimp only; omega⟩
      rw [← h3]
      conv => rhs; unfold trimS
      rw [if_pos hw]
  · right
    rw [trim_stop hw] at h3
    rw [← h3]
    have := sltsC_length ss'
    exact ac_end nd nn ti e _ _ (by omega) M

theorem accept_fin (nd : Nod) (key : Val) (a c : Int) (sl pl tl : List (List X)) (M : Nat) (h13 : decide (a ≥ 1099511627776) = false) (h17 : IntKind.i64.wrap (a + 1) = a + 1)
    (hput : callF tab ext M (.fn 97) [.agg [num (a + 1), num c, .sl false 10 sl], .agg (Slt.mk key (a + 1) 0 [] []).cells] [] = some (.tup [.agg [num (a + 1), num c, .bs 0 0 pl.length], num 0], [.row 10 pl]))
    (hloop : ∀ τ, canon 0 τ = some (acH nd (a + 1) c true pl pl.length) → run (callF tab ext M) 0 M (.loop (loopAt 45 0)) τ = some (.exit 0, acE nd (a + 1) c tl tl.length)) :
    Gam.pureD (callF tab ext (M + 1)) 45 [.agg nd.cells, .agg [num a, num c, .sl false 10 sl], .agg key.cells] = some (.tup [.agg [num (a + 1), num c, .sl false 10 tl], boolX true]) := by
  obtain ⟨k, i1, s1, tx, vl, fl⟩ := key
  obtain ⟨name, k1, k2, k3, w, k5, k6, text, ⟨a1, b1, c1, d1⟩, we, el, f, ty, ex, ca, ru, ne⟩ := nd
  have hloop := hloop ⟨[(3, .ptr 0 0 0), (4, .ptr 1 0 0), (6, .ptr 3 0 0), (29, boolX false)], [.var (Nod.mk name k1 k2 k3 w k5 k6 text (a1, b1, c1, d1) we el f ty ex ca ru ne).cells, .var [num (a + 1), num c, .bs 4 0 pl.length], .var [num k, num i1, num s1, strX tx, .sl false 6 (cellsL vl), .sl false 7 (cellsF fl)], .var [num 0, num 0, .sl true 10 []], .row 10 pl]⟩ (by kernel_rfl)
  have h0 : rowOf [Bx.row 10 tl] 0 0 tl.length = some (10, tl) := rowOf_get rfl rfl
  have hd : (X.tup [.agg [num (a + 1), num c, .bs 0 0 tl.length], boolX true]).data [Bx.row 10 tl] false = some (.tup [.agg [num (a + 1), num c, .sl false 10 tl], boolX true]) := by
    simp only [X.data, dataL, num, boolX, h0, Option.map_some]
  exact pure_of [(13, .b false), (17, .i (a + 1)), (25, .o (.tup [.agg [num (a + 1), num c, .bs 0 0 pl.length], num 0]) [.row 10 pl])] [(.exit 0, acE ⟨name, k1, k2, k3, w, k5, k6, text, (a1, b1, c1, d1), we, el, f, ty, ex, ca, ru, ne⟩ (a + 1) c tl tl.length)] (pf4 h13 h17 hput hloop) (x := .tup [.agg [num (a + 1), num c, .bs 0 0 tl.length], boolX true]) (bx := [.row 10 tl]) (by kernel_rfl) hd
/-- A key is accepted. -/
theorem accept_ex (nd : Nod) (s : Stt) (hs : s.small) (hl99 : s.slots.length < 100) (key : Val) (hkey : key.ok) (hn : s.n < 1099511627776) (hn2 : -1000000 ≤ s.n) (i : Nat) (b : Bool) (hi : i ≤ s.slots.length) (hb : b = true → i < s.slots.length)
    (hf : ∀ N, 190040 ≤ N → Gam.pureD (callF tab ext N) 95 [.agg (Stt.mk (s.n + 1) s.t s.slots).cells, .agg key.cells] = some (.tup [nat i, boolX b])) (N : Nat) (hN : 190060 ≤ N) :
    Gam.pureD (callF tab ext N) 45 [.agg nd.cells, .agg s.cells, .agg key.cells] = some (.tup [.agg (Stt.mk (s.n + 1) s.t (trimS (s.slots.length + 1) (wN nd.number) (putS b i ⟨key, s.n + 1, 0, [], []⟩ s.slots))).cells, boolX true]) := by
  obtain ⟨M, rfl⟩ : ∃ M, N = M + 1 := ⟨N - 1, by omega⟩
  obtain ⟨a, c, ss⟩ := s
  dsimp only at *
  have hput := put_call ⟨a + 1, c, ss⟩ ⟨hs.slots, hs.slot⟩ ⟨key, a + 1, 0, [], []⟩ ⟨hkey, by simp, by simp, by simp, by simp⟩ i b hi hb hf M (by omega)
  have hpl : (putS b i ⟨key, a + 1, 0, [], []⟩ ss).length ≤ ss.length + 1 := by
    unfold putS; split
    · simp
    · simp; omega
  have hs1 : ss.length ≤ 100 := hs.slots
  have hloop := fun τ hτ => acc_loop nd (a + 1) c (ss.length + 1) true (putS b i ⟨key, a + 1, 0, [], []⟩ ss) τ hτ (by omega) hpl M (by omega)
  have h13 : decide (a ≥ 1099511627776) = false := decide_eq_false (by omega)
  have h17 : IntKind.i64.wrap (a + 1) = a + 1 := by rw [IntKind.wrap_i64]; omega
  exact accept_fin nd key a c (sltsC ss) _ _ M h13 h17 hput hloop
end Go.Proofs.YthfchdkjeddijaaGreatDoor

/- DedupRuns, DedupWindows: the node, the input, and the key that the expression gives. -/
namespace Go.Proofs.YthfchdkjeddijaaGreatDoor
open Go.Em
set_option maxRecDepth 100000

def nodeW (w : Int) : List X := [strX ⟨#[111, 110, 99, 101]⟩, num 6, num 0, num 0, num w, num 0, num 0, strX ⟨#[]⟩, num 0, num 0, num 0, num 0, .sl false 1 [], .sl false 7 [], .sl false 11 [], .sl false 7 [], .sl false 5 [[num 2, num 0, strX ⟨#[98, 111, 100, 121, 46, 107]⟩, .sl true 6 [], .sl true 5 []]], .sl false 6 [], .sl false 2 [], .sl false 1 []]
def msgK (e k : Int) : List X := [num e, .sl false 1 [[num 1]], num 1048576, .sl false 1 [[num e]], num 9, num 0, num 0, strX ⟨#[]⟩, .sl false 6 [], .sl false 7 [[strX ⟨#[107]⟩, num 2, num k, num 0, strX ⟨#[]⟩, .sl false 6 [], .sl false 7 []]]]
def inpK (e k : Int) : List X := [num 1, num 0, num 0, .sl false 1 []] ++ msgK e k ++ [num 0, boolX false, boolX false, num 0, num 0, num 0, strX ⟨#[]⟩, .sl false 6 [], .sl false 7 []]
def keyK (k : Int) : List X := [num 2, num k, num 0, strX ⟨#[]⟩, .sl false 6 [], .sl false 7 []]
theorem node_pure (N : Nat) (w : Int) : Gam.pureD (callF tab ext (N + 100)) 14 [num w] = some (.agg (nodeW w)) := by kernel_rfl
theorem input_pure (N : Nat) (i k : Int) : Gam.pureD (callF tab ext (N + 100)) 15 [num i, num k] = some (.agg (inpK (IntKind.i64.wrap (i + 1)) k)) := by kernel_rfl
end Go.Proofs.YthfchdkjeddijaaGreatDoor

/- DedupRuns, DedupWindows: what a dedup's Step says of a message whose key is there, and of one that is taken. -/
namespace Go.Proofs.YthfchdkjeddijaaGreatDoor
open Go.Em
set_option maxRecDepth 100000

/-- The outcome of a message that is rejected. -/
def rejO (a b : Int) (cs : List (List X)) (e k : Int) (reason : ByteArray) : List X := [num a, num b, .sl false 10 cs, .sl false 11 [], .sl false 11 [], .sl false 6 [[num e, .sl false 1 [[num 1]], num 4, strX ⟨#[111, 110, 99, 101]⟩, .sl false 2 [], strX reason]], .sl false 10 [msgK e k]]
/-- The outcome of a message that is passed on. -/
def passO (a b : Int) (cs : List (List X)) (e k : Int) : List X := [num a, num b, .sl false 10 cs, .sl false 11 [num 0 :: msgK e k], .sl false 11 [], .sl false 6 [], .sl false 10 []]
theorem outcome_rej (N : Nat) (hN : 190320 ≤ N) (s : Stt) (hs : s.ok) (w e k : Int) (reason : ByteArray) :
    Gam.pureD (callF tab ext N) 39 [.agg s.cells, .sl false 1 [[.fn 93 [.dp (msgK e k), .dp (nodeW w), .dp [strX reason]]]]] = some (.agg (rejO s.n s.t (sltsC s.slots) e k reason)) := by
  obtain ⟨M, rfl⟩ : ∃ M, N = M + 1 := ⟨N - 1, by omega⟩
  have h1 := clone_state_pure M s hs (by omega)
  obtain ⟨K, rfl⟩ : ∃ K, M = K + 300 := ⟨M - 300, by omega⟩
  obtain ⟨a, b, ss⟩ := s
  exact pure_of [(9, .p (.agg (Stt.mk a b ss).cells))] [] (pf1 h1) (x := .agg [num a, num b, .sl false 10 (sltsC ss), .sl true 11 [], .sl true 11 [], .bs 0 0 1, .bs 1 0 1])
    (bx := [.row 6 [[num e, .sl false 1 [[num 1]], num 4, strX ⟨#[111, 110, 99, 101]⟩, .sl false 2 [], strX reason]], .row 10 [msgK e k]]) (by kernel_rfl) rfl
theorem outcome_pass (N : Nat) (hN : 190320 ≤ N) (s : Stt) (hs : s.ok) (a2 b2 : Int) (cs2 : List (List X)) (e k : Int) :
    Gam.pureD (callF tab ext N) 39 [.agg s.cells, .sl false 1 [[.fn 102 [.dp [num a2, num b2, .sl false 10 cs2]]], [.fn 103 [.dp (msgK e k)]]]] = some (.agg (passO a2 b2 cs2 e k)) := by
  obtain ⟨M, rfl⟩ : ∃ M, N = M + 1 := ⟨N - 1, by omega⟩
  have h1 := clone_state_pure M s hs (by omega)
  obtain ⟨K, rfl⟩ : ∃ K, M = K + 300 := ⟨M - 300, by omega⟩
  obtain ⟨a, b, ss⟩ := s
  exact pure_of [(9, .p (.agg (Stt.mk a b ss).cells))] [] (pf1 h1) (x := .agg [num a2, num b2, .sl false 10 cs2, .bs 0 0 1, .sl true 11 [], .sl true 6 [], .sl true 10 []])
    (bx := [.row 11 [num 0 :: msgK e k]]) (by kernel_rfl) rfl
/-- The key is there. -/
theorem step_dup (N : Nat) (hN : 190330 ≤ N) (s : Stt) (hs : s.ok) (w e k : Int) (x : Slt) (hg : Gam.pureD (callF tab ext (N - 1)) 44 [.agg s.cells, .agg (keyK k)] = some (.tup [.agg x.cells, boolX true])) :
    Gam.pureD (callF tab ext N) 13 [.agg (nodeW w), .agg s.cells, .agg (inpK e k)] = some (.agg (rejO s.n s.t (sltsC s.slots) e k ⟨#[100, 117, 112, 108, 105, 99, 97, 116, 101]⟩)) := by
  obtain ⟨M, rfl⟩ : ∃ M, N = M + 1 := ⟨N - 1, by omega⟩
  have hg : Gam.pureD (callF tab ext M) 44 [.agg s.cells, .agg (keyK k)] = some (.tup [.agg x.cells, boolX true]) := hg
  have h1 := outcome_rej M (by omega) s hs w e k ⟨#[100, 117, 112, 108, 105, 99, 97, 116, 101]⟩
  obtain ⟨K, rfl⟩ : ∃ K, M = K + 320 := ⟨M - 320, by omega⟩
  obtain ⟨a, b, ss⟩ := s
  obtain ⟨⟨x1, x2, x3, x4, x5, x6⟩, n, t, ms, vs⟩ := x
  exact pure_of [(41, .p (.tup [.agg (Slt.mk ⟨x1, x2, x3, x4, x5, x6⟩ n t ms vs).cells, boolX true])), (50, .p (.agg (rejO a b (sltsC ss) e k ⟨#[100, 117, 112, 108, 105, 99, 97, 116, 101]⟩)))] [] (pf2 hg h1) (x := .agg (rejO a b (sltsC ss) e k ⟨#[100, 117, 112, 108, 105, 99, 97, 116, 101]⟩)) (bx := []) (by kernel_rfl) rfl
/-- The key is new, and is taken. -/
theorem step_new (N : Nat) (hN : 190330 ≤ N) (s : Stt) (hs : s.ok) (w e k : Int) (x : Slt) (hg : Gam.pureD (callF tab ext (N - 1)) 44 [.agg s.cells, .agg (keyK k)] = some (.tup [.agg x.cells, boolX false]))
    (a2 b2 : Int) (cs2 : List (List X)) (ha : Gam.pureD (callF tab ext (N - 1)) 45 [.agg (nodeW w), .agg s.cells, .agg (keyK k)] = some (.tup [.agg [num a2, num b2, .sl false 10 cs2], boolX true])) :
    Gam.pureD (callF tab ext N) 13 [.agg (nodeW w), .agg s.cells, .agg (inpK e k)] = some (.agg (passO a2 b2 cs2 e k)) := by
  obtain ⟨M, rfl⟩ : ∃ M, N = M + 1 := ⟨N - 1, by omega⟩
  have hg : Gam.pureD (callF tab ext M) 44 [.agg s.cells, .agg (keyK k)] = some (.tup [.agg x.cells, boolX false]) := hg
  have ha : Gam.pureD (callF tab ext M) 45 [.agg (nodeW w), .agg s.cells, .agg (keyK k)] = some (.tup [.agg [num a2, num b2, .sl false 10 cs2], boolX true]) := ha
  have h1 := outcome_pass M (by omega) s hs a2 b2 cs2 e k
  obtain ⟨K, rfl⟩ : ∃ K, M = K + 320 := ⟨M - 320, by omega⟩
  obtain ⟨a, b, ss⟩ := s
  obtain ⟨⟨x1, x2, x3, x4, x5, x6⟩, n, t, ms, vs⟩ := x
  exact pure_of [(41, .p (.tup [.agg (Slt.mk ⟨x1, x2, x3, x4, x5, x6⟩ n t ms vs).cells, boolX false])), (55, .p (.tup [.agg [num a2, num b2, .sl false 10 cs2], boolX true])), (72, .p (.agg (passO a2 b2 cs2 e k)))] [] (pf3 hg ha h1) (x := .agg (passO a2 b2 cs2 e k)) (bx := []) (by kernel_rfl) rfl
end Go.Proofs.YthfchdkjeddijaaGreatDoor

/- slots.Get. -/
namespace Go.Proofs.YthfchdkjeddijaaGreatDoor
open Go.Em
set_option maxRecDepth 100000

theorem get_ex (s : Stt) (hs : s.small) (key : Val) : ∃ (i : Nat) (b : Bool) (x : Slt), i ≤ s.slots.length ∧ (b = true → ∃ h : i < s.slots.length, cmpV s.slots[i].key key = 0 ∧ x = s.slots[i]) ∧ (b = false → Spot s.slots key i ∧ ∀ h : i < s.slots.length, ¬ cmpV s.slots[i].key key = 0) ∧ ∀ N, 190050 ≤ N → Gam.pureD (callF tab ext N) 44 [.agg s.cells, .agg key.cells] = some (.tup [.agg x.cells, boolX b]) := by
  obtain ⟨i, b, hi, h1, h2, hf⟩ := find_ex2 s hs key
  have hok := hs.ok.slot
  obtain ⟨a, c, ss⟩ := s
  obtain ⟨k1, k2, k3, k4, k5, k6⟩ := key
  dsimp only at hi h1 h2 hok
  cases b with
  | false =>
    refine ⟨i, false, dSlt, hi, fun h => (by cases h), fun _ => h2 rfl, fun N hN => ?_⟩
    obtain ⟨M, rfl⟩ : ∃ M, N = M + 1 := ⟨N - 1, by omega⟩
    have hf := hf M (by omega)
    exact pure_of [(11, .p (.tup [nat i, boolX false]))] [] (pf1 hf) (x := .tup [.agg [num 0, num 0, num 0, strX ⟨#[]⟩, .sl true 6 [], .sl true 7 [], num 0, num 0, .sl true 10 [], .sl true 6 []], boolX false]) (bx := []) (by kernel_rfl) rfl
  | true =>
    obtain ⟨hlt, hc⟩ := h1 rfl
    refine ⟨i, true, ss[i], hi, fun _ => ⟨hlt, hc, rfl⟩, fun h => (by cases h), fun N hN => ?_⟩
    obtain ⟨M, rfl⟩ : ∃ M, N = M + 1 := ⟨N - 1, by omega⟩
    have hf := hf M (by omega)
    have hg := sltsC_get hlt
    have hxo := hok _ (List.getElem_mem hlt)
    generalize ss[i] = x at hg hxo ⊢
    obtain ⟨⟨x1, x2, x3, x4, x5, x6⟩, n, t, ms, vs⟩ := x
    have hcl : callF tab ext M (.fn 96) [.agg (Slt.mk ⟨x1, x2, x3, x4, x5, x6⟩ n t ms vs).cells] [] = some (.agg [num x1, num x2, num x3, strX x4, .sl false 6 (cellsL x5), .sl false 7 (cellsF x6), num n, num t, .bs 0 0 (msgsC ms).length, .bs 1 0 (cellsL vs).length], [.row 10 (msgsC ms), .row 6 (cellsL vs)]) := clone_slot M _ hxo (by omega)
    exact pure_of [(11, .p (.tup [nat i, boolX true])), (20, .e (Slt.mk ⟨x1, x2, x3, x4, x5, x6⟩ n t ms vs).cells), (22, .o (.agg [num x1, num x2, num x3, strX x4, .sl false 6 (cellsL x5), .sl false 7 (cellsF x6), num n, num t, .bs 0 0 (msgsC ms).length, .bs 1 0 (cellsL vs).length]) [.row 10 (msgsC ms), .row 6 (cellsL vs)])] [] (pf3 hf hg hcl)
      (x := .tup [.agg [num x1, num x2, num x3, strX x4, .sl false 6 (cellsL x5), .sl false 7 (cellsF x6), num n, num t, .bs 0 0 (msgsC ms).length, .bs 1 0 (cellsL vs).length], boolX true]) (bx := [.row 10 (msgsC ms), .row 6 (cellsL vs)]) (by kernel_rfl) (by simp [X.data, dataL, rowOf, Slt.cells, slotC, Val.cells, num, strX, boolX])
end Go.Proofs.YthfchdkjeddijaaGreatDoor

/- DedupRuns, DedupWindows: one step of a dedup over keys. -/
namespace Go.Proofs.YthfchdkjeddijaaGreatDoor
open Go.Em
set_option maxRecDepth 100000

theorem ordI_self (a : Int) : ordI a a = 0 := by unfold ordI; rw [if_neg (Int.lt_irrefl _), if_neg (Int.lt_irrefl _)]
theorem cmpB_nil : cmpB ⟨#[]⟩ ⟨#[]⟩ = 0 := by decide
theorem cmp_kv (a k : Int) : cmpV (kv a) (kv k) = ordI a k := by
  unfold kv cmpV
  simp only [orL, ordI_self, cmpB_nil, cmpVL, cmpVF, if_true]
  split
  · rename_i h; exact h.symm
  · rfl
def nodW (w : Int) : Nod := ⟨⟨#[111, 110, 99, 101]⟩, 6, 0, 0, w, 0, 0, ⟨#[]⟩, (0, 0, 0, 0), [], [], [], [], [[num 2, num 0, strX ⟨#[98, 111, 100, 121, 46, 107]⟩, .sl true 6 [], .sl true 5 []]], [], [], []⟩
theorem kv_ok (k : Int) : (kv k).ok := by unfold Val.ok kv; simp [Val.size, sizeL, sizeF]
theorem ks_ok (p : Int × Int) : (ks p).ok := ⟨kv_ok p.1, by simp [ks], by simp [ks], by simp [ks], by simp [ks]⟩
theorem ks_small {n t : Int} {L : List (Int × Int)} (h : L.length ≤ 100) : (Stt.mk n t (L.map ks)).small := ⟨by simpa using h, fun x hx => by
  obtain ⟨p, _, rfl⟩ := List.mem_map.1 hx
  exact ⟨ks_ok p, by simp [ks], by simp [ks]⟩⟩
theorem ordI_zero' {a b : Int} : ordI a b = 0 ↔ a = b := ⟨ordI_zero, fun h => by rw [h, ordI_self]⟩

/-- The place of a new key among sorted ones. -/
theorem spot_sides {L : List (Int × Int)} (hs : L.Pairwise (fun a b => a.1 < b.1)) {k : Int} {i : Nat} (hi : i ≤ L.length) (h : Spot (L.map ks) (kv k) i) (hne : ∀ h : i < (L.map ks).length, ¬ cmpV (L.map ks)[i].key (kv k) = 0) :
    (∀ p, p ∈ L.take i → p.1 < k) ∧ (∀ p, p ∈ L.drop i → k < p.1) := by
  have hkey : ∀ j (hj : j < L.length), cmpV ((L.map ks).getD j dSlt).key (kv k) = ordI L[j].1 k := fun j hj => by
    rw [List.getD_eq_getElem?_getD, List.getElem?_eq_getElem (by simpa using hj)]
    simp only [List.getElem_map, Option.getD_some]
    exact cmp_kv ..
  constructor
  · intro p hp
    obtain ⟨j, hj, rfl⟩ := List.getElem_of_mem hp
    rw [List.length_take] at hj
    have h0 : 0 < i := by omega
    have hb := h.before h0
    rw [hkey (i - 1) (by omega), ordI_lt] at hb
    rw [List.getElem_take]
    by_cases hj' : j = i - 1
    · subst hj'; exact hb
    · have := List.pairwise_iff_getElem.1 hs j (i - 1) (by omega) (by omega) (by omega)
      omega
  · intro p hp
    obtain ⟨j, hj, rfl⟩ := List.getElem_of_mem hp
    rw [List.length_drop] at hj
    have hil : i < L.length := by omega
    have hb := h.behind (by simpa using hil)
    rw [hkey i hil, ordI_lt] at hb
    have hne := hne (by simpa using hil)
    simp only [List.getElem_map] at hne
    have hne : ¬ L[i].1 = k := fun e => hne (by rw [show (ks L[i]).key = kv L[i].1 from rfl, cmp_kv, e, ordI_self])
    rw [List.getElem_drop]
    by_cases hj' : j = 0
    · subst hj'; simp only [Nat.add_zero]; omega
    · have := List.pairwise_iff_getElem.1 hs i (i + j) hil (by omega) (by omega)
      omega
theorem take_drop_mem {L : List (Int × Int)} (i : Nat) {p : Int × Int} (h : p ∈ L) : p ∈ L.take i ∨ p ∈ L.drop i := by
  rw [← List.take_append_drop i L] at h
  exact List.mem_append.1 h

theorem one_step (w : Nat) (hw : 0 < w) (acc : List Nat) (L : List (Int × Int)) (hwin : Win w acc L) (hacc : acc.length < 60) (e : Int) (k : Nat) :
    (inLast w acc k ∧ ∀ N, 190400 ≤ N → Gam.pureD (callF tab ext N) 13 [.agg (nodeW (Int.ofNat w)), .agg (Stt.mk (Int.ofNat acc.length) 0 (L.map ks)).cells, .agg (inpK e (Int.ofNat k))] = some (.agg (rejO (Int.ofNat acc.length) 0 (sltsC (L.map ks)) e (Int.ofNat k) ⟨#[100, 117, 112, 108, 105, 99, 97, 116, 101]⟩))) ∨
    (¬ inLast w acc k ∧ ∃ M, Win w (acc ++ [k]) M ∧ ∀ N, 190400 ≤ N → Gam.pureD (callF tab ext N) 13 [.agg (nodeW (Int.ofNat w)), .agg (Stt.mk (Int.ofNat acc.length) 0 (L.map ks)).cells, .agg (inpK e (Int.ofNat k))] = some (.agg (passO (Int.ofNat (acc ++ [k]).length) 0 (sltsC (M.map ks)) e (Int.ofNat k)))) := by
  have hL : L.length ≤ 60 := by have := hwin.len; omega
  have hsm : ∀ n t, (Stt.mk n t (L.map ks)).small := fun n t => ks_small (by omega)
  obtain ⟨i, b, x, hi, h1, h2, hg⟩ := get_ex _ (hsm (Int.ofNat acc.length) 0) (kv (Int.ofNat k))
  dsimp only at hi h1 h2
  cases b with
  | true =>
    left
    obtain ⟨hlt, hc, hx⟩ := h1 rfl
    have hlt' : i < L.length := by simpa using hlt
    simp only [List.getElem_map] at hc
    rw [show (ks L[i]).key = kv L[i].1 from rfl, cmp_kv, ordI_zero'] at hc
    exact ⟨(win_key hwin k).1 ⟨L[i], List.getElem_mem hlt', hc⟩, fun N hN => step_dup N (by omega) _ (hsm _ _).ok _ _ _ x (hg (N - 1) (by omega))⟩
  | false =>
    right
    obtain ⟨hsp, hne⟩ := h2 rfl
    obtain ⟨s1, s2⟩ := spot_sides hwin.sorted (by simpa using hi) hsp hne
    have hnew : ¬ inLast w acc k := fun hin => by
      obtain ⟨p, hp, ep⟩ := (win_key hwin k).2 hin
      rcases take_drop_mem i hp with h | h
      · have := s1 p h; simp only [Int.ofNat_eq_natCast] at this; omega
      · have := s2 p h; simp only [Int.ofNat_eq_natCast] at this; omega
    obtain ⟨i', b', hi', f1, f2, hf⟩ := find_ex2 _ (hsm (Int.ofNat acc.length + 1) 0) (kv (Int.ofNat k))
    dsimp only at hi' f1 f2
    have hb' : b' = false := by
      cases b' with
      | false => rfl
      | true =>
        obtain ⟨hlt, hc⟩ := f1 rfl
        have hlt' : i' < L.length := by simpa using hlt
        simp only [List.getElem_map] at hc
        rw [show (ks L[i']).key = kv L[i'].1 from rfl, cmp_kv, ordI_zero'] at hc
        exact absurd ((win_key hwin k).1 ⟨L[i'], List.getElem_mem hlt', hc⟩) hnew
    subst hb'
    obtain ⟨gsp, gne⟩ := f2 rfl
    obtain ⟨g1, g2⟩ := spot_sides hwin.sorted (by simpa using hi') gsp gne
    have hi'' : i' ≤ L.length := by simpa using hi'
    obtain ⟨M, hM, hM2⟩ := win_step hw hwin (k := k) (i := i') hi'' hnew g1 g2
    refine ⟨hnew, M, hM, fun N hN => ?_⟩
    have ha := accept_ex (nodW (Int.ofNat w)) ⟨Int.ofNat acc.length, 0, L.map ks⟩ (hsm _ _) (by simp only [List.length_map]; omega) (kv (Int.ofNat k)) (kv_ok _) (by simp only [Int.ofNat_eq_natCast]; omega) (by simp only [Int.ofNat_eq_natCast]; omega) i' false hi' (fun h => by cases h) hf (N - 1) (by omega)
    have e1 : putS false i' ⟨kv (Int.ofNat k), Int.ofNat acc.length + 1, 0, [], []⟩ (L.map ks) = (L.take i' ++ [((k : Int), (acc.length : Int) + 1)] ++ L.drop i').map ks := by
      simp [putS, ks, List.map_take, List.map_drop]
    have e2 : wN (nodW (Int.ofNat w)).number = w := by
      show (max 1 (Int.ofNat w)).toNat = w
      simp only [Int.ofNat_eq_natCast]; omega
    dsimp only at ha
    rw [e1, e2, List.length_map, hM2] at ha
    have e3 : Int.ofNat acc.length + 1 = Int.ofNat (acc ++ [k]).length := by simp
    rw [e3] at ha
    exact step_new N (by omega) _ (hsm _ _).ok _ _ _ x (hg (N - 1) (by omega)) (Int.ofNat (acc ++ [k]).length) 0 (sltsC (M.map ks)) ha
end Go.Proofs.YthfchdkjeddijaaGreatDoor

/- DedupRuns comes to true on the machine. -/
namespace Go.Proofs.YthfchdkjeddijaaGreatDoor
open Go.Em
set_option maxRecDepth 100000

def u8 (n : Nat) : X := .v (.int .u8 (Int.ofNat n))
def u8s (l : List Nat) : List (List X) := l.map fun n => [u8 n]
theorem u8s_get {l : List Nat} {j : Nat} (h : j < l.length) : (u8s l)[j]? = some [u8 l[j]] := by simp [u8s, h]
theorem u8s_length (l : List Nat) : (u8s l).length = l.length := by simp [u8s]
theorem u8s_snoc (l : List Nat) (k : Nat) : List.drop 0 (u8s l) ++ [[X.v (Value.int .u8 (Int.ofNat k))]] = u8s (l ++ [k]) := by simp [u8s, u8]
section
variable (kk ac : List (List X)) (w i len : Nat) (fl : Bool) (a b : Int) (rows : List (List X))
def drB : List Bx := [.var [num a, num b, .sl fl 10 rows], .row 1 ac]
def drH : St := ⟨[(0, .sl false 1 kk), (5, nat w), (6, .ptr 0 0 0), (7, .bs 1 0 len), (8, nat i)], drB ac fl a b rows⟩
def drI (is : Bool) (j : Nat) : St := ⟨[(0, .sl false 1 kk), (5, nat w), (6, .ptr 0 0 0), (7, .bs 1 0 len), (8, nat i), (9, boolX is), (10, nat j)], drB ac fl a b rows⟩
def drJ (is : Bool) (j : Nat) : St := ⟨[(0, .sl false 1 kk), (5, nat w), (6, .ptr 0 0 0), (7, .bs 1 0 len), (8, nat i), (9, boolX is), (10, nat j), (33, boolX false)], drB ac fl a b rows⟩
def drE : St := ⟨[(0, .sl false 1 kk), (5, nat w), (6, .ptr 0 0 0), (7, .bs 1 0 len), (8, nat i), (22, boolX false)], drB ac fl a b rows⟩
theorem drI_canon (is : Bool) (j : Nat) : canon 0 (drI kk ac w i len fl a b rows is j) = some (drI kk ac w i len fl a b rows is j) := by kernel_rfl
theorem drI_step (is : Bool) (j x y : Nat) (h : j < len) (hj : j < 1000) (hx : ac[0 + j]? = some [u8 x]) (hy : kk[i]? = some [u8 y]) (M : Nat) : run (callF tab ext M) 0 M (loopAt 3 1) (drI kk ac w i len fl a b rows is j) = some (.norm, drI kk ac w i len fl a b rows (is || decide (x = y)) (j + 1)) := by
  have h1 := lt_nat h
  have hn := next_nat (j := j) (by omega)
  cases is with
  | true => exact run_of [(33, .b true), (35, .i (Int.ofNat (j + 1)))] [] (pf2 h1 hn) (lo' := []) (by kernel_rfl)
  | false =>
    by_cases e : x = y
    · have h2 : (Int.ofNat x == Int.ofNat y) = true := by rw [e]; exact BEq.rfl
      rw [decide_eq_true e]
      exact run_of [(33, .b true), (40, .at), (41, .ld [u8 x]), (44, .e [u8 y]), (46, .b true), (35, .i (Int.ofNat (j + 1)))] [] (pf6 h1 h hx hy h2 hn) (lo' := []) (by kernel_rfl)
    · have h2 : (Int.ofNat x == Int.ofNat y) = false := by
        rw [beq_eq_false_iff_ne]; intro h; exact e (Int.ofNat.inj h)
      rw [decide_eq_false e]
      exact run_of [(33, .b true), (40, .at), (41, .ld [u8 x]), (44, .e [u8 y]), (46, .b false), (35, .i (Int.ofNat (j + 1)))] [] (pf6 h1 h hx hy h2 hn) (lo' := []) (by kernel_rfl)
theorem drI_end (is : Bool) (M : Nat) : run (callF tab ext M) 0 M (loopAt 3 1) (drI kk ac w i len fl a b rows is len) = some (.exit 2, drJ kk ac w i len fl a b rows is len) := by
  cases is <;> exact run_of [(33, .b false)] [] (pf1 (nlt_nat (Nat.lt_irrefl len))) (lo' := []) (by kernel_rfl)
end
/-- Is a key among those from j0 on, looked at up to j? -/
def seen (acc : List Nat) (k : Nat) : Nat → Nat → Bool
  | _, 0 => false
  | j, d + 1 => decide (acc.getD j 0 = k) || seen acc k (j + 1) d
theorem seen_snoc (acc : List Nat) (k : Nat) : ∀ (d j : Nat), seen acc k j (d + 1) = (seen acc k j d || decide (acc.getD (j + d) 0 = k))
  | 0, j => by simp [seen]
  | d + 1, j => by
    rw [seen, seen_snoc acc k d (j + 1), seen, Bool.or_assoc, show j + 1 + d = j + (d + 1) by omega]
theorem seen_iff (acc : List Nat) (k : Nat) : ∀ (d j : Nat), j + d = acc.length → (seen acc k j d = true ↔ ∃ i, j ≤ i ∧ ∃ h : i < acc.length, acc[i] = k)
  | 0, j, h => by
    constructor
    · intro h; exact absurd h (by simp [seen])
    · rintro ⟨i, h1, h2, _⟩; omega
  | d + 1, j, h => by
    simp only [seen, Bool.or_eq_true, decide_eq_true_eq]
    rw [seen_iff acc k d (j + 1) (by omega)]
    have hj : j < acc.length := by omega
    have e : acc.getD j 0 = acc[j] := by rw [List.getD_eq_getElem?_getD, List.getElem?_eq_getElem hj]; rfl
    rw [e]
    constructor
    · rintro (h1 | ⟨i, h1, h2, h3⟩)
      · exact ⟨j, Nat.le_refl _, hj, h1⟩
      · exact ⟨i, by omega, h2, h3⟩
    · rintro ⟨i, h1, h2, h3⟩
      by_cases hi : i = j
      · subst hi; exact .inl h3
      · exact .inr ⟨i, by omega, h2, h3⟩

theorem dr_in (kk : List (List X)) (acc : List Nat) (w i y : Nat) (fl : Bool) (a b : Int) (rows : List (List X)) (hy : kk[i]? = some [u8 y]) (hl : acc.length < 1000) (M : Nat) (hM : 1100 ≤ M) {τ : St} (hτ : canon 0 τ = some (drI kk (u8s acc) w i acc.length fl a b rows false (acc.length - w))) :
    run (callF tab ext M) 0 M (.loop (loopAt 3 1)) τ = some (.exit 2, drJ kk (u8s acc) w i acc.length fl a b rows (seen acc y (acc.length - w) (acc.length - (acc.length - w))) acc.length) := by
  refine loop_for (σ := fun d => drI kk (u8s acc) w i acc.length fl a b rows (seen acc y (acc.length - w) d) (acc.length - w + d)) (k := acc.length - (acc.length - w)) hτ (fun d hd => ?_) ?_ (by simp) (by omega)
  · have hlt : acc.length - w + d < acc.length := by omega
    refine ⟨_, drI_step kk (u8s acc) w i acc.length fl a b rows _ (acc.length - w + d) acc[acc.length - w + d] y hlt (by omega) (by rw [Nat.zero_add]; exact u8s_get hlt) hy M, ?_⟩
    have e : acc.getD (acc.length - w + d) 0 = acc[acc.length - w + d] := by rw [List.getD_eq_getElem?_getD, List.getElem?_eq_getElem hlt]; rfl
    rw [seen_snoc, e, Nat.add_assoc]
    exact drI_canon ..
  · rw [show acc.length - w + (acc.length - (acc.length - w)) = acc.length by omega]
    exact drI_end ..

theorem max_nat (a w : Nat) : (if true = true then if Int.ofNat a - Int.ofNat w > 0 then Int.ofNat a - Int.ofNat w else 0 else if Int.ofNat a - Int.ofNat w < 0 then Int.ofNat a - Int.ofNat w else 0) = Int.ofNat (a - w) := by
  simp only [if_true, Int.ofNat_eq_natCast]
  split <;> omega
theorem sub_wrap {a w : Nat} (h : a < 1000) (h2 : w < 1000) : IntKind.i64.wrap (Int.ofNat a - Int.ofNat w) = Int.ofNat a - Int.ofNat w := by
  rw [IntKind.wrap_i64]; simp only [Int.ofNat_eq_natCast]; omega
theorem wrap_small {y : Nat} (h : y < 1000) : IntKind.i64.wrap (Int.ofNat y) = Int.ofNat y := by
  rw [IntKind.wrap_i64]; simp only [Int.ofNat_eq_natCast]; omega

theorem loop_ex {α : Type} {Γ : Gam} {nIn fu : Nat} {b : C} {σ : α → St} {I : α → Prop} {μ : α → Nat} {Q : Ex → St → Prop}
    (hstep : ∀ a, I a → (∃ υ a', run Γ nIn fu b (σ a) = some (.norm, υ) ∧ canon nIn υ = some (σ a') ∧ I a' ∧ μ a' < μ a) ∨ ∃ e fin, run Γ nIn fu b (σ a) = some (e, fin) ∧ e ≠ .norm ∧ Q e fin)
    {a : α} {τ : St} (ha : I a) (hτ : canon nIn τ = some (σ a)) (hF : μ a < fu) : ∃ e fin, run Γ nIn fu (.loop b) τ = some (e, fin) ∧ Q e fin := by
  have key : ∀ d a F υ, μ a ≤ d → d < F → I a → canon nIn υ = some (σ a) → ∃ e fin, iter nIn (run Γ nIn fu b) F υ = some (e, fin) ∧ Q e fin := by
    intro d
    induction d with
    | zero =>
      intro a F υ hd hF hI hc
      obtain ⟨F', rfl⟩ : ∃ F', F = F' + 1 := ⟨F - 1, by omega⟩
      rcases hstep a hI with ⟨_, a', _, _, _, hlt⟩ | ⟨e, fin, h, hne, hQ⟩
      · omega
      · exact ⟨e, fin, iter_end hc h hne, hQ⟩
    | succ d ih =>
      intro a F υ hd hF hI hc
      obtain ⟨F', rfl⟩ : ∃ F', F = F' + 1 := ⟨F - 1, by omega⟩
      rcases hstep a hI with ⟨ω, a', h1, h2, h3, h4⟩ | ⟨e, fin, h, hne, hQ⟩
      · obtain ⟨e, fin, h5, h6⟩ := ih a' F' ω (by omega) (by omega) h3 h2
        exact ⟨e, fin, iter_step hc h1 h5, h6⟩
      · exact ⟨e, fin, iter_end hc h hne, hQ⟩
  simp only [run]
  exact key (μ a) a fu τ (Nat.le_refl _) hF ha hτ

section
variable (kk ac : List (List X)) (w i len y : Nat) (fl : Bool) (a b : Int) (rows : List (List X)) (M : Nat)
theorem passes_yes (N : Nat) (hN : 20 ≤ N) (a b : Int) (rows : List (List X)) (e k : Int) : Gam.pureD (callF tab ext N) 16 [.agg (passO a b rows e k)] = some (boolX true) := by
  obtain ⟨K, rfl⟩ : ∃ K, N = K + 20 := ⟨N - 20, by omega⟩
  kernel_rfl
theorem passes_no (N : Nat) (hN : 20 ≤ N) (a b : Int) (rows : List (List X)) (e k : Int) (r : ByteArray) : Gam.pureD (callF tab ext N) 16 [.agg (rejO a b rows e k r)] = some (boolX false) := by
  obtain ⟨K, rfl⟩ : ∃ K, N = K + 20 := ⟨N - 20, by omega⟩
  kernel_rfl
def drX : List (List X) := rows
theorem dr_end (h : ¬ (i < kk.length ∧ i < 40)) : run (callF tab ext M) 0 M (loopAt 3 0) (drH kk ac w i len fl a b rows) = some (.exit 0, drE kk ac w i len fl a b rows) := by
  by_cases h1 : i < kk.length
  · have h1' := lt_nat h1
    have h2 : decide (Int.ofNat i < 40) = false := decide_eq_false (by simp only [Int.ofNat_eq_natCast]; omega)
    exact run_of [(18, .b true), (21, .b false)] [] (pf2 h1' h2) (lo' := []) (by kernel_rfl)
  · exact run_of [(18, .b false)] [] (pf1 (nlt_nat h1)) (lo' := []) (by kernel_rfl)
variable (h : i < kk.length) (h40 : i < 40) (hlen : len < 100) (hw : w < 1000) (hy : kk[i]? = some [u8 y]) (hyl : y < 256) (hM : 1000 ≤ M)
include h h40 hlen hw hy hyl hM
theorem dr_dup (hin : run (callF tab ext M) 0 M (.loop (loopAt 3 1)) (drI kk ac w i len fl a b rows false (len - w)) = some (.exit 2, drJ kk ac w i len fl a b rows true len))
    (a2 b2 : Int) (rows2 : List (List X)) (hs : Gam.pureD (callF tab ext M) 13 [.agg (nodeW (Int.ofNat w)), .agg [num a, num b, .sl false 10 rows], .agg (inpK (Int.ofNat (i + 1)) (Int.ofNat y))] = some (.agg (rejO a2 b2 rows2 (Int.ofNat (i + 1)) (Int.ofNat y) ⟨#[100, 117, 112, 108, 105, 99, 97, 116, 101]⟩))) :
    ∃ υ, run (callF tab ext M) 0 M (loopAt 3 0) (drH kk ac w i len fl a b rows) = some (.norm, υ) ∧ canon 0 υ = some (drH kk ac w (i + 1) len false a2 b2 rows2) := by
  have h1 := lt_nat h
  have h2 : decide (Int.ofNat i < 40) = true := decide_eq_true (by simp only [Int.ofNat_eq_natCast]; omega)
  have h3 := sub_wrap (a := len) (w := w) (by omega) hw
  have h4 := max_nat len w
  have h5 := wrap_small (y := y) (by omega)
  have h6 := next_nat (j := i) (by omega)
  obtain ⟨K, rfl⟩ : ∃ K, M = K + 100 := ⟨M - 100, by omega⟩
  have h7 := node_pure K (Int.ofNat w)
  have h8 := input_pure K (Int.ofNat i) (Int.ofNat y)
  rw [h6] at h8
  have h9 := passes_no (K + 100) (by omega) a2 b2 rows2 (Int.ofNat (i + 1)) (Int.ofNat y) ⟨#[100, 117, 112, 108, 105, 99, 97, 116, 101]⟩
  refine ⟨⟨[(0, .sl false 1 kk), (5, nat w), (6, .ptr 0 0 0), (7, .bs 1 0 len), (8, nat (i + 1))], [.var [num a2, num b2, .sl false 10 rows2], .row 1 ac, .var (rejO a2 b2 rows2 (Int.ofNat (i + 1)) (Int.ofNat y) ⟨#[100, 117, 112, 108, 105, 99, 97, 116, 101]⟩)]⟩, run_of [(18, .b true), (21, .b true), (28, .i (Int.ofNat len - Int.ofNat w)), (29, .i (Int.ofNat (len - w))), (49, .p (.agg (nodeW (Int.ofNat w)))), (54, .e [u8 y]), (56, .i (Int.ofNat y)), (57, .p (.agg (inpK (Int.ofNat (i + 1)) (Int.ofNat y)))), (58, .p (.agg (rejO a2 b2 rows2 (Int.ofNat (i + 1)) (Int.ofNat y) ⟨#[100, 117, 112, 108, 105, 99, 97, 116, 101]⟩))), (60, .p (boolX false)), (24, .i (Int.ofNat (i + 1)))] [(.exit 2, drJ kk ac w i len fl a b rows true len)] (pf12 h1 h2 h3 h4 hin h7 hy h5 h8 hs h9 h6) (lo' := []) (by kernel_rfl), by kernel_rfl⟩
theorem dr_new (hin : run (callF tab ext M) 0 M (.loop (loopAt 3 1)) (drI kk ac w i len fl a b rows false (len - w)) = some (.exit 2, drJ kk ac w i len fl a b rows false len))
    (a2 b2 : Int) (rows2 : List (List X)) (hs : Gam.pureD (callF tab ext M) 13 [.agg (nodeW (Int.ofNat w)), .agg [num a, num b, .sl false 10 rows], .agg (inpK (Int.ofNat (i + 1)) (Int.ofNat y))] = some (.agg (passO a2 b2 rows2 (Int.ofNat (i + 1)) (Int.ofNat y)))) (hal : 0 + len = ac.length) :
    ∃ υ, run (callF tab ext M) 0 M (loopAt 3 0) (drH kk ac w i len fl a b rows) = some (.norm, υ) ∧ canon 0 υ = some (drH kk (List.drop 0 ac ++ [[X.v (Value.int .u8 (Int.ofNat y))]]) w (i + 1) (len + 1) false a2 b2 rows2) := by
  have h1 := lt_nat h
  have h2 : decide (Int.ofNat i < 40) = true := decide_eq_true (by simp only [Int.ofNat_eq_natCast]; omega)
  have h3 := sub_wrap (a := len) (w := w) (by omega) hw
  have h4 := max_nat len w
  have h5 := wrap_small (y := y) (by omega)
  have h6 := next_nat (j := i) (by omega)
  have ha := app_ok (acc := ac) len 0 1 (by omega) (by omega) (by omega)
  obtain ⟨K, rfl⟩ : ∃ K, M = K + 100 := ⟨M - 100, by omega⟩
  have h7 := node_pure K (Int.ofNat w)
  have h8 := input_pure K (Int.ofNat i) (Int.ofNat y)
  rw [h6] at h8
  have h9 := passes_yes (K + 100) (by omega) a2 b2 rows2 (Int.ofNat (i + 1)) (Int.ofNat y)
  refine ⟨⟨[(0, .sl false 1 kk), (5, nat w), (6, .ptr 0 0 0), (7, .bs 3 0 (len + 1)), (8, nat (i + 1))], [.var [num a2, num b2, .sl false 10 rows2], .dead, .var (passO a2 b2 rows2 (Int.ofNat (i + 1)) (Int.ofNat y)), .row 1 (List.drop 0 ac ++ [[X.v (Value.int .u8 (Int.ofNat y))]])]⟩, run_of [(18, .b true), (21, .b true), (28, .i (Int.ofNat len - Int.ofNat w)), (29, .i (Int.ofNat (len - w))), (49, .p (.agg (nodeW (Int.ofNat w)))), (54, .e [u8 y]), (56, .i (Int.ofNat y)), (57, .p (.agg (inpK (Int.ofNat (i + 1)) (Int.ofNat y)))), (58, .p (.agg (passO a2 b2 rows2 (Int.ofNat (i + 1)) (Int.ofNat y)))), (60, .p (boolX true)), (85, .e [u8 y]), (88, .app), (24, .i (Int.ofNat (i + 1)))] [(.exit 2, drJ kk ac w i len fl a b rows false len)] (pf14 h1 h2 h3 h4 hin h7 hy h5 h8 hs h9 hy ha h6) (lo' := []) (by kernel_rfl), by kernel_rfl⟩
end

/-- The rounds of DedupRuns. -/
theorem dr_loop (keys : List Nat) (hk : ∀ k, k ∈ keys → k < 256) (w : Nat) (hw : 0 < w) (hw2 : w < 1000) (M : Nat) (hM : 190500 ≤ M) (τ : St) (hτ : canon 0 τ = some (drH (u8s keys) (u8s []) w 0 0 true 0 0 [])) :
    ∃ (acc : List Nat) (L : List (Int × Int)) (i : Nat) (fl : Bool), Win w acc L ∧ acc.length ≤ 40 ∧ run (callF tab ext M) 0 M (.loop (loopAt 3 0)) τ = some (.exit 0, drE (u8s keys) (u8s acc) w i acc.length fl (Int.ofNat acc.length) 0 (sltsC (L.map ks))) := by
  have := loop_ex (Γ := callF tab ext M) (nIn := 0) (fu := M) (b := loopAt 3 0) (α := Nat × List Nat × List (Int × Int) × Bool)
    (σ := fun q => drH (u8s keys) (u8s q.2.1) w q.1 q.2.1.length q.2.2.2 (Int.ofNat q.2.1.length) 0 (sltsC (q.2.2.1.map ks)))
    (I := fun q => Win w q.2.1 q.2.2.1 ∧ q.2.1.length ≤ q.1 ∧ q.1 ≤ 40) (μ := fun q => 40 - q.1)
    (Q := fun e fin => ∃ (acc : List Nat) (L : List (Int × Int)) (i : Nat) (fl : Bool), Win w acc L ∧ acc.length ≤ 40 ∧ e = .exit 0 ∧ fin = drE (u8s keys) (u8s acc) w i acc.length fl (Int.ofNat acc.length) 0 (sltsC (L.map ks)))
    (fun q hq => ?_) (a := (0, [], [], true)) ⟨win_nil w, Nat.le_refl _, by decide⟩ hτ (by dsimp only; omega)
  · obtain ⟨e, fin, hr, acc, L, i, fl, h1, h2, rfl, rfl⟩ := this
    exact ⟨acc, L, i, fl, h1, h2, hr⟩
  · obtain ⟨i, acc, L, fl⟩ := q
    obtain ⟨hwin, hai, hi40⟩ := hq
    dsimp only at hwin hai hi40 ⊢
    by_cases hc : i < (u8s keys).length ∧ i < 40
    · left
      obtain ⟨hi, h40⟩ := hc
      have hik : i < keys.length := by rw [u8s_length] at hi; exact hi
      have hy := u8s_get hik
      have hyl := hk _ (List.getElem_mem hik)
      have hin := dr_in (u8s keys) acc w i keys[i] fl (Int.ofNat acc.length) 0 (sltsC (L.map ks)) hy (by omega) M (by omega) (drI_canon ..)
      have hseen := seen_iff acc keys[i] (acc.length - (acc.length - w)) (acc.length - w) (by omega)
      rcases one_step w hw acc L hwin (by omega) (Int.ofNat (i + 1)) keys[i] with ⟨hl, hs⟩ | ⟨hl, M', hM', hs⟩
      · rw [hseen.2 hl] at hin
        obtain ⟨υ, h1, h2⟩ := dr_dup (u8s keys) (u8s acc) w i acc.length keys[i] fl (Int.ofNat acc.length) 0 (sltsC (L.map ks)) M hi h40 (by omega) hw2 hy hyl (by omega) hin _ _ _ (hs M (by omega))
        exact ⟨υ, (i + 1, acc, L, false), h1, h2, ⟨hwin, by dsimp only; omega, by dsimp only; omega⟩, by dsimp only; omega⟩
      · have hf : seen acc keys[i] (acc.length - w) (acc.length - (acc.length - w)) = false := by
          cases hsn : seen acc keys[i] (acc.length - w) (acc.length - (acc.length - w)) with
          | false => rfl
          | true => exact absurd (hseen.1 hsn) hl
        rw [hf] at hin
        obtain ⟨υ, h1, h2⟩ := dr_new (u8s keys) (u8s acc) w i acc.length keys[i] fl (Int.ofNat acc.length) 0 (sltsC (L.map ks)) M hi h40 (by omega) hw2 hy hyl (by omega) hin _ _ _ (hs M (by omega)) (by rw [u8s_length]; omega)
        rw [u8s_snoc, show acc.length + 1 = (acc ++ [keys[i]]).length by simp] at h2
        exact ⟨υ, (i + 1, acc ++ [keys[i]], M', false), h1, h2, ⟨hM', by simp only [List.length_append, List.length_singleton]; omega, by dsimp only; omega⟩, by dsimp only; omega⟩
    · right
      exact ⟨_, _, dr_end (u8s keys) (u8s acc) w i acc.length fl (Int.ofNat acc.length) 0 (sltsC (L.map ks)) M hc, by simp, acc, L, i, fl, hwin, by omega, rfl, rfl⟩
theorem min_nat (a w : Nat) : (if false = true then if Int.ofNat w > Int.ofNat a then Int.ofNat w else Int.ofNat a else if Int.ofNat w < Int.ofNat a then Int.ofNat w else Int.ofNat a) = Int.ofNat (min a w) := by
  simp only [Bool.false_eq_true, if_false, Int.ofNat_eq_natCast]
  split <;> omega
theorem druns_fin (kk ac rows : List (List X)) (w len i : Nat) (fl : Bool) (M : Nat) (hw : IntKind.i64.wrap (IntKind.i64.wrap (Int.ofNat w) + 1) = Int.ofNat (w + 1)) (hlo : run (callF tab ext M) 0 M (.loop (loopAt 3 0)) ⟨[(0, .sl false 1 kk), (5, nat (w + 1)), (6, .ptr 0 0 0), (7, .bs 1 0 0), (8, num 0)], [.var [num 0, num 0, .sl true 10 []], .row 1 []]⟩ = some (.exit 0, drE kk ac (w + 1) i len fl (Int.ofNat len) 0 rows))
    (hk : Gam.pureD (callF tab ext M) 17 [] = some (boolX true)) (hr : rows.length = min len (w + 1)) : callF tab ext (M + 1) (.fn 3) [.sl false 1 kk, u8 w] [] = some (.v (.bool true), []) := by
  have h1 : (Int.ofNat len == Int.ofNat len) = true := BEq.rfl
  have h2 := min_nat len (w + 1)
  have h3 : (Int.ofNat rows.length == Int.ofNat (min len (w + 1))) = true := by rw [hr]; exact BEq.rfl
  exact callF_of [(14, .i (Int.ofNat (w + 1))), (91, .p (boolX true)), (97, .b true), (106, .i (Int.ofNat (min len (w + 1)))), (107, .b true)] [(.exit 0, drE kk ac (w + 1) i len fl (Int.ofNat len) 0 rows)] (pf6 hw hlo hk h1 h2 h3) (by kernel_rfl)
theorem druns_all (keys : List Nat) (hk : ∀ k, k ∈ keys → k < 256) (w : Nat) (hw : w < 256) : callF tab ext 190501 (.fn 3) [.sl false 1 (u8s keys), u8 w] [] = some (.v (.bool true), []) := by
  obtain ⟨acc, L, i, fl, hwin, hl, hlo⟩ := dr_loop keys hk (w + 1) (by omega) (by omega) 190500 (by omega) ⟨[(0, .sl false 1 (u8s keys)), (5, nat (w + 1)), (6, .ptr 0 0 0), (7, .bs 1 0 0), (8, num 0)], [.var [num 0, num 0, .sl true 10 []], .row 1 []]⟩ (by kernel_rfl)
  have h1 := wrap_small (y := w) (by omega)
  have h2 := next_nat (j := w) (by omega)
  exact druns_fin _ _ _ w acc.length i fl 190500 (by rw [h1]; exact h2) hlo (known35_at 190100) (by rw [sltsC_length, List.length_map]; exact hwin.len)
end Go.Proofs.YthfchdkjeddijaaGreatDoor

/- Arguments of DedupRuns and DedupWindows, read as data. -/
namespace Go.Proofs.YthfchdkjeddijaaGreatDoor
open Go.Em Go.ChangeShapes Go.WideShapes Go.ChangeAt Go.RowKit
set_option maxRecDepth 100000

def tysK : List TypeId := [5, 22]
theorem tysK_ok : dataTys Tryz.prog tysK = true := by kernel_rfl
theorem tysK_size : tysK.all (fun t => decide (t < Tryz.prog.types.size)) = true := by kernel_rfl
theorem tysK_lt {t : TypeId} (h : t ∈ tysK) : t < Tryz.prog.types.size := of_decide_eq_true (List.all_eq_true.1 tysK_size t h)
theorem tysK_kids : Kids Tryz.prog (fun t => t ∈ tysK ∧ t < Tryz.prog.types.size) := kids_data (kids_rows Tryz.laidOut Tryz.rowed) tysK_ok
theorem underK5 : Tryz.prog.underlying 5 = some (.int .u8) := by kernel_rfl
theorem underK22 : Tryz.prog.underlying 22 = some (.slice 5) := by kernel_rfl
theorem cellsK5 : Tryz.prog.cellsOf 5 = 1 := by kernel_rfl
theorem shape_u8 {n : Nat} {xs : List X} (h : Shape Tryz.prog n 5 xs) : ∃ k, k < 256 ∧ xs = [u8 k] := by
  obtain ⟨z, rfl, hz⟩ := shape_int underK5 h
  have h1 : 0 ≤ z ∧ z < 256 := by
    have h2 : IntKind.u8.min ≤ z ∧ z ≤ IntKind.u8.max := by simpa [Lit.wf] using hz
    have e1 : IntKind.u8.min = 0 := by decide
    have e2 : IntKind.u8.max = 255 := by decide
    omega
  refine ⟨z.toNat, by omega, ?_⟩
  unfold u8
  rw [show Int.ofNat z.toNat = z from Int.toNat_of_nonneg h1.1]
theorem shape_keys {n : Nat} {xs : List X} (h : Shape Tryz.prog n 22 xs) : ∃ l : List Nat, (∀ k, k ∈ l → k < 256) ∧ xs = [.sl false 1 (u8s l)] := by
  obtain ⟨es, rfl, _, m, _, hes⟩ := shape_slice underK22 h
  rw [cellsK5]
  have : ∀ es : List (List X), (∀ c, c ∈ es → Shape Tryz.prog m 5 c) → ∃ l : List Nat, (∀ k, k ∈ l → k < 256) ∧ es = u8s l := by
    intro es
    induction es with
    | nil => intro _; exact ⟨[], (fun k h => by cases h), rfl⟩
    | cons c r ih =>
      intro h
      obtain ⟨k, hk, rfl⟩ := shape_u8 (h c (List.mem_cons_self ..))
      obtain ⟨l, hl, rfl⟩ := ih (fun c hc => h c (List.mem_cons_of_mem _ hc))
      refine ⟨k :: l, fun j hj => ?_, rfl⟩
      rcases List.mem_cons.1 hj with rfl | hj
      · exact hk
      · exact hl j hj
  obtain ⟨l, hl, rfl⟩ := this es hes
  exact ⟨l, hl, rfl⟩
end Go.Proofs.YthfchdkjeddijaaGreatDoor
