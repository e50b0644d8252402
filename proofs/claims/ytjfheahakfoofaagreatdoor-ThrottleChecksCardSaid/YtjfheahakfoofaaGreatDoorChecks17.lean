/- The search for a key among the slots. -/
import Derived.Laws.Bits64
import Derived.Test.YtjfheahakfoofaaGreatDoorChecks16
namespace Go.Proofs.YtjfheahakfoofaaGreatDoor
open Go.Em

theorem cmp116 (N : Nat) (hN : 180020 ≤ N) (x : Slt) (key : Val) (hx : x.key.ok) : Gam.pureD (callF tab ext N) 116 [.agg x.cells, .agg key.cells] = some (num (cmpV x.key key)) := by
  obtain ⟨M, rfl⟩ : ∃ M, N = M + 1 := ⟨N - 1, by omega⟩
  have h := cmp_val 60000 M x.key key hx (by omega) (by unfold Val.ok at hx; omega)
  obtain ⟨⟨k, i, s, tx, vl, fl⟩, n2, c, ms, vs⟩ := x
  obtain ⟨k', i', s', tx', vl', fl'⟩ := key
  dsimp only at h ⊢
  generalize cmpV (.mk k i s tx vl fl) (.mk k' i' s' tx' vl' fl') = r at h
  exact pure_of [(8, .p (num r))] [] (pf1 h) (x := num r) (bx := []) (by kernel_rfl) rfl

theorem half_nat {s : Nat} (h : s < 4294967296) : IntKind.i64.wrap (Int.ofNat (s / 2)) = Int.ofNat (s / 2) := by
  rw [IntKind.wrap_i64]; simp only [Int.ofNat_eq_natCast]; omega
theorem u64_nat {s : Nat} (h : s < 4294967296) : IntKind.u64.wrap (Int.ofNat s) = Int.ofNat s := by
  rw [IntKind.wrap_u64]; simp only [Int.ofNat_eq_natCast]; omega
theorem shr_nat {s : Nat} : (Int.ofNat s).fdiv (2 ^ min (Int.toNat 1) IntKind.u64.bits) = Int.ofNat (s / 2) := by
  have e : (2 : Int) ^ min (Int.toNat 1) IntKind.u64.bits = 2 := by decide
  rw [e, Int.fdiv_eq_ediv_of_nonneg _ (by decide)]
  rfl
theorem add_nat {a b : Nat} (h : a < 4294967296) (h' : b < 4294967296) : IntKind.i64.wrap (Int.ofNat a + Int.ofNat b) = Int.ofNat (a + b) := by
  rw [IntKind.wrap_i64]; simp only [Int.ofNat_eq_natCast]; omega

/-- Where a search ends. -/
inductive Srch (ss : List Slt) (key : Val) : Nat → Nat → Nat → Prop
  | stop (lo : Nat) : Srch ss key lo lo lo
  | lt {lo hi r : Nat} (h : lo < hi) (hc : cmpV (ss.getD ((lo + hi) / 2) dSlt).key key < 0) (hr : Srch ss key ((lo + hi) / 2 + 1) hi r) : Srch ss key lo hi r
  | ge {lo hi r : Nat} (h : lo < hi) (hc : ¬ cmpV (ss.getD ((lo + hi) / 2) dSlt).key key < 0) (hr : Srch ss key lo ((lo + hi) / 2) r) : Srch ss key lo hi r
theorem srch_ex (ss : List Slt) (key : Val) : ∀ (d lo hi : Nat), lo ≤ hi → hi - lo ≤ d → ∃ r, lo ≤ r ∧ r ≤ hi ∧ Srch ss key lo hi r
  | 0, lo, hi, h, hd => by
    obtain rfl : lo = hi := by omega
    exact ⟨lo, Nat.le_refl _, Nat.le_refl _, .stop lo⟩
  | d + 1, lo, hi, h, hd => by
    by_cases hlt : lo < hi
    · by_cases hc : cmpV (ss.getD ((lo + hi) / 2) dSlt).key key < 0
      · obtain ⟨r, h1, h2, h3⟩ := srch_ex ss key d ((lo + hi) / 2 + 1) hi (by omega) (by omega)
        exact ⟨r, by omega, h2, .lt hlt hc h3⟩
      · obtain ⟨r, h1, h2, h3⟩ := srch_ex ss key d lo ((lo + hi) / 2) (by omega) (by omega)
        exact ⟨r, h1, by omega, .ge hlt hc h3⟩
    · obtain rfl : lo = hi := by omega
      exact ⟨lo, Nat.le_refl _, Nat.le_refl _, .stop lo⟩

/-- Where a key stands among slots: what is before it is less, what is at its place is not. -/
structure Spot (ss : List Slt) (key : Val) (i : Nat) : Prop where
  before : 0 < i → cmpV (ss.getD (i - 1) dSlt).key key < 0
  behind : i < ss.length → ¬ cmpV (ss.getD i dSlt).key key < 0
theorem srch_spot {ss : List Slt} {key : Val} {lo hi r : Nat} (h : Srch ss key lo hi r) (h1 : 0 < lo → cmpV (ss.getD (lo - 1) dSlt).key key < 0) (h2 : hi < ss.length → ¬ cmpV (ss.getD hi dSlt).key key < 0) : Spot ss key r := by
  induction h with
  | stop lo => exact ⟨h1, h2⟩
  | lt _ hc _ ih => exact ih (fun _ => by simpa using hc) h2
  | ge _ hc _ ih => exact ih h1 (fun _ => hc)

section
variable (l : List (List X)) (k i s : Int) (tx : ByteArray) (vl fl : List (List X)) (n lo hi : Nat)
def keyC : List X := [num k, num i, num s, strX tx, .sl false 6 vl, .sl false 7 fl]
def seH : St := ⟨[(0, .sl false 10 l), (2, .fn 116 []), (4, .ptr 0 0 0), (8, nat n), (9, nat lo), (10, nat hi)], [.var (keyC k i s tx vl fl)]⟩
def seE : St := ⟨[(0, .sl false 10 l), (2, .fn 116 []), (4, .ptr 0 0 0), (8, nat n), (9, nat lo), (10, nat hi), (17, boolX false)], [.var (keyC k i s tx vl fl)]⟩
theorem se_canon : canon 0 (seH l k i s tx vl fl n lo hi) = some (seH l k i s tx vl fl n lo hi) := by kernel_rfl
theorem se_end (h : ¬ lo < hi) (M : Nat) : run (callF tab ext M) 0 M (loopAt 115 0) (seH l k i s tx vl fl n lo hi) = some (.exit 0, seE l k i s tx vl fl n lo hi) :=
  run_of [(17, .b false)] [] (pf1 (nlt_nat h)) (lo' := []) (by kernel_rfl)
theorem se_step (x : Slt) (r : Int) (hlt : lo < hi) (hh : hi < 4294967) (hg : l[(lo + hi) / 2]? = some x.cells) (M : Nat) (hc : Gam.pureD (callF tab ext M) 116 [.agg x.cells, .agg (keyC k i s tx vl fl)] = some (num r)) :
    (r < 0 → run (callF tab ext M) 0 M (loopAt 115 0) (seH l k i s tx vl fl n lo hi) = some (.norm, seH l k i s tx vl fl n ((lo + hi) / 2 + 1) hi)) ∧
    (¬ r < 0 → run (callF tab ext M) 0 M (loopAt 115 0) (seH l k i s tx vl fl n lo hi) = some (.norm, seH l k i s tx vl fl n lo ((lo + hi) / 2))) := by
  have h1 := lt_nat hlt
  have h2 := add_nat (a := lo) (b := hi) (by omega) (by omega)
  have h3 := u64_nat (s := lo + hi) (by omega)
  have h4 := shr_nat (s := lo + hi)
  have h5 := half_nat (s := lo + hi) (by omega)
  have h6 := next_nat (j := (lo + hi) / 2) (by omega)
  obtain ⟨⟨k', i', s', tx', vl', fl'⟩, n2, c, ms, vs⟩ := x
  constructor
  · intro hr
    have h7 : decide (r < 0) = true := decide_eq_true hr
    exact run_of [(17, .b true), (20, .i (Int.ofNat (lo + hi))), (21, .i (Int.ofNat (lo + hi))), (22, .i (Int.ofNat ((lo + hi) / 2))), (23, .i (Int.ofNat ((lo + hi) / 2))), (27, .e (slotC k' i' s' tx' (cellsL vl') (cellsF fl') n2 c (msgsC ms) (cellsL vs))), (30, .p (num r)), (31, .b true), (33, .i (Int.ofNat ((lo + hi) / 2 + 1)))] []
      (pf9 h1 h2 h3 h4 h5 hg hc h7 h6) (lo' := []) (by kernel_rfl)
  · intro hr
    have h7 : decide (r < 0) = false := decide_eq_false hr
    exact run_of [(17, .b true), (20, .i (Int.ofNat (lo + hi))), (21, .i (Int.ofNat (lo + hi))), (22, .i (Int.ofNat ((lo + hi) / 2))), (23, .i (Int.ofNat ((lo + hi) / 2))), (27, .e (slotC k' i' s' tx' (cellsL vl') (cellsF fl') n2 c (msgsC ms) (cellsL vs))), (30, .p (num r)), (31, .b false)] []
      (pf8 h1 h2 h3 h4 h5 hg hc h7) (lo' := []) (by kernel_rfl)
end

/-- The search: an index, and whether the key is there. -/
theorem find_ex2 (s : Stt) (hs : s.small) (key : Val) : ∃ (i : Nat) (b : Bool), i ≤ s.slots.length ∧ (b = true → ∃ h : i < s.slots.length, cmpV s.slots[i].key key = 0) ∧ (b = false → Spot s.slots key i ∧ ∀ h : i < s.slots.length, ¬ cmpV s.slots[i].key key = 0) ∧ ∀ N, 190040 ≤ N → Gam.pureD (callF tab ext N) 87 [.agg s.cells, .agg key.cells] = some (.tup [nat i, boolX b]) := by
  obtain ⟨a, b0, ss⟩ := s
  have hl : ss.length ≤ 100 := hs.slots
  have hx : ∀ x, x ∈ ss → x.ok := fun x h => (hs.slot x h).1
  have hlen := sltsC_length ss
  obtain ⟨r, _, hr, hS⟩ := srch_ex ss key ss.length 0 ss.length (by omega) (by omega)
  have hSp := srch_spot hS (fun h => absurd h (by omega)) (fun h => absurd h (by omega))
  have hcmp : ∀ (j : Nat) (hj : j < ss.length) (N : Nat), 180020 ≤ N → Gam.pureD (callF tab ext N) 116 [.agg ss[j].cells, .agg key.cells] = some (num (cmpV ss[j].key key)) := fun j hj N hN => cmp116 N hN _ _ (hx _ (List.getElem_mem hj)).key
  have hgd : ∀ (j : Nat) (hj : j < ss.length), ss.getD j dSlt = ss[j] := fun j hj => by rw [List.getD_eq_getElem?_getD, List.getElem?_eq_getElem hj]; rfl
  obtain ⟨k, i, s, tx, vl, fl⟩ := key
  have hloop : ∀ M, 190000 ≤ M → ∀ τ, canon 0 τ = some (seH (sltsC ss) k i s tx (cellsL vl) (cellsF fl) (sltsC ss).length 0 (sltsC ss).length) → run (callF tab ext M) 0 M (.loop (loopAt 115 0)) τ = some (.exit 0, seE (sltsC ss) k i s tx (cellsL vl) (cellsF fl) (sltsC ss).length r r) := fun M hM τ hτ => by
    refine loop_dec (α := Nat × Nat) (σ := fun a => seH (sltsC ss) k i s tx (cellsL vl) (cellsF fl) (sltsC ss).length a.1 a.2) (I := fun a => a.2 ≤ ss.length ∧ Srch ss (.mk k i s tx vl fl) a.1 a.2 r) (μ := fun a => a.2 - a.1) (fun a ha => ?_) (by simp) (a := (0, (sltsC ss).length)) ⟨by dsimp only; omega, by rw [hlen]; exact hS⟩ hτ (by dsimp only; omega)
    obtain ⟨lo, hi⟩ := a
    obtain ⟨ha1, ha2⟩ := ha
    dsimp only at ha1 ha2 ⊢
    cases ha2 with
    | stop =>
      right
      exact se_end _ _ _ _ _ _ _ _ _ _ (Nat.lt_irrefl _) M
    | lt h hc hr' =>
      left
      have hh : (lo + hi) / 2 < ss.length := by omega
      rw [hgd _ hh] at hc
      have := (se_step (sltsC ss) k i s tx (cellsL vl) (cellsF fl) (sltsC ss).length lo hi ss[(lo + hi) / 2] _ h (by omega) (sltsC_get hh) M (hcmp _ hh M (by omega))).1 hc
      exact ⟨_, ((lo + hi) / 2 + 1, hi), this, se_canon .., ⟨ha1, hr'⟩, by dsimp only; omega⟩
    | ge h hc hr' =>
      left
      have hh : (lo + hi) / 2 < ss.length := by omega
      rw [hgd _ hh] at hc
      have := (se_step (sltsC ss) k i s tx (cellsL vl) (cellsF fl) (sltsC ss).length lo hi ss[(lo + hi) / 2] _ h (by omega) (sltsC_get hh) M (hcmp _ hh M (by omega))).2 hc
      exact ⟨_, (lo, (lo + hi) / 2), this, se_canon .., ⟨by dsimp only; omega, hr'⟩, by dsimp only; omega⟩
  by_cases hlt : r < ss.length
  · refine ⟨r, cmpV ss[r].key (.mk k i s tx vl fl) == 0, hr, fun h => ⟨hlt, eq_of_beq h⟩, fun h => ⟨hSp, fun _ hz => by rw [hz] at h; cases h⟩, fun N hN => ?_⟩
    obtain ⟨M, rfl⟩ : ∃ M, N = M + 2 := ⟨N - 2, by omega⟩
    have hc := hcmp r hlt M (by omega)
    have hg := sltsC_get hlt
    generalize cmpV ss[r].key (.mk k i s tx vl fl) = z at hc ⊢
    generalize ss[r] = x at hc hg
    have hl0 := hloop M (by omega) ⟨[(0, .sl false 10 (sltsC ss)), (2, .fn 116 []), (4, .ptr 0 0 0), (8, nat (sltsC ss).length), (9, num 0), (10, nat (sltsC ss).length)], [.var (keyC k i s tx (cellsL vl) (cellsF fl))]⟩ (by kernel_rfl)
    have h1 : decide (Int.ofNat r < Int.ofNat (sltsC ss).length) = true := lt_nat (by omega)
    have h115 : Gam.pureD (callF tab ext (M + 1)) 115 [.sl false 10 (sltsC ss), .agg (Val.mk k i s tx vl fl).cells, .fn 116 []] = some (.tup [nat r, boolX (z == 0)]) := by
      obtain ⟨⟨k', i', s', tx', vl', fl'⟩, n2, c, ms, vs⟩ := x
      cases h2 : (z == 0) with
      | true => exact pure_of [(38, .b true), (43, .e (slotC k' i' s' tx' (cellsL vl') (cellsF fl') n2 c (msgsC ms) (cellsL vs))), (46, .p (num z)), (47, .b true)] [(.exit 0, seE (sltsC ss) k i s tx (cellsL vl) (cellsF fl) (sltsC ss).length r r)] (pf5 hl0 h1 hg hc h2) (x := .tup [nat r, boolX true]) (bx := []) (by kernel_rfl) rfl
      | false => exact pure_of [(38, .b true), (43, .e (slotC k' i' s' tx' (cellsL vl') (cellsF fl') n2 c (msgsC ms) (cellsL vs))), (46, .p (num z)), (47, .b false)] [(.exit 0, seE (sltsC ss) k i s tx (cellsL vl) (cellsF fl) (sltsC ss).length r r)] (pf5 hl0 h1 hg hc h2) (x := .tup [nat r, boolX false]) (bx := []) (by kernel_rfl) rfl
    exact pure_of [(9, .p (.tup [nat r, boolX (z == 0)]))] [] (pf1 h115) (x := .tup [nat r, boolX (z == 0)]) (bx := []) (by kernel_rfl) rfl
  · refine ⟨r, false, hr, fun h => (by cases h), fun _ => ⟨hSp, fun h => absurd h hlt⟩, fun N hN => ?_⟩
    obtain ⟨M, rfl⟩ : ∃ M, N = M + 2 := ⟨N - 2, by omega⟩
    have hl0 := hloop M (by omega) ⟨[(0, .sl false 10 (sltsC ss)), (2, .fn 116 []), (4, .ptr 0 0 0), (8, nat (sltsC ss).length), (9, num 0), (10, nat (sltsC ss).length)], [.var (keyC k i s tx (cellsL vl) (cellsF fl))]⟩ (by kernel_rfl)
    have h1 : decide (Int.ofNat r < Int.ofNat (sltsC ss).length) = false := nlt_nat (by omega)
    have h115 : Gam.pureD (callF tab ext (M + 1)) 115 [.sl false 10 (sltsC ss), .agg (Val.mk k i s tx vl fl).cells, .fn 116 []] = some (.tup [nat r, boolX false]) :=
      pure_of [(38, .b false)] [(.exit 0, seE (sltsC ss) k i s tx (cellsL vl) (cellsF fl) (sltsC ss).length r r)] (pf2 hl0 h1) (x := .tup [nat r, boolX false]) (bx := []) (by kernel_rfl) rfl
    exact pure_of [(9, .p (.tup [nat r, boolX false]))] [] (pf1 h115) (x := .tup [nat r, boolX false]) (bx := []) (by kernel_rfl) rfl
end Go.Proofs.YtjfheahakfoofaaGreatDoor

/- A slot is put into a state, at any index. -/
namespace Go.Proofs.YtjfheahakfoofaaGreatDoor
open Go.Em

theorem rowOf_get {bx : List Bx} {i sz n : Nat} {es : List (List X)} (h : bx[i]? = some (.row sz es)) (hn : n = es.length) : rowOf bx i 0 n = some (sz, es) := by
  subst hn
  simp [rowOf, h]

theorem ins_call (N : Nat) (rows : List (List X)) (n i : Nat) (x : List X) (hn : n = rows.length) (hi : i ≤ n) (hl : n ≤ 1000) :
    callF tab ext (N + 1) (.fn 117) [.bs 0 0 n, nat i, .sl true 10 [x]] [.row 10 rows] = some (.bs 1 0 (n + 1), [.dead, .row 10 (rows.take i ++ [x] ++ rows.drop i)]) := by
  have e : callF tab ext (N + 1) (.fn 117) [.bs 0 0 n, nat i, .sl true 10 [x]] [.row 10 rows] = insExt [.bs 0 0 n, nat i, .sl true 10 [x]] [.row 10 rows] := rfl
  rw [e]
  show (if n = rows.length ∧ n ≤ 1000 ∧ 0 ≤ Int.ofNat i ∧ (Int.ofNat i).toNat ≤ n then some (X.bs 1 0 (n + 1), [Bx.dead, Bx.row 10 (rows.take (Int.ofNat i).toNat ++ [x] ++ rows.drop (Int.ofNat i).toNat)]) else none) = _
  rw [if_pos ⟨hn, hl, Int.natCast_nonneg i, hi⟩]
  rfl
theorem small_int {k : Nat} (h : k < 1024) : decide (Int.ofNat k ≥ 1024) = false := decide_eq_false (by simp only [Int.ofNat_eq_natCast]; omega)
/-- The slots with one more, or with one in the place of another. -/
def putS (b : Bool) (i : Nat) (x : Slt) (ss : List Slt) : List Slt := if b then ss.set i x else ss.take i ++ [x] ++ ss.drop i

theorem put_at (s : Stt) (hs : s.small) (x : Slt) (hx : x.ok) (i : Nat) (b : Bool) (hi : i ≤ s.slots.length) (hb : b = true → i < s.slots.length) (hf : ∀ N, 190040 ≤ N → Gam.pureD (callF tab ext N) 87 [.agg s.cells, .agg x.key.cells] = some (.tup [nat i, boolX b])) (N : Nat) (hN : 190050 ≤ N) :
    Gam.pureD (callF tab ext N) 88 [.agg s.cells, .agg x.cells] = some (.tup [.agg (Stt.mk s.n s.t (putS b i x s.slots)).cells, num 0]) := by
  obtain ⟨M, rfl⟩ : ∃ M, N = M + 2 := ⟨N - 2, by omega⟩
  have hf := hf (M + 1) (by omega)
  have hst := clone_state (M + 1) s hs.ok (by omega)
  have hcl := clone_slot_pure (M + 1) x hx (by omega)
  have hl := hs.slots
  have hn := sltsC_length s.slots
  obtain ⟨a, c, ss⟩ := s
  dsimp only at hi hb hf hst hl hn ⊢
  unfold putS
  cases b with
  | true =>
    rw [if_pos rfl]
    have hi' := hb rfl
    have hg := sltsC_get hi'
    have e1 : sltsC (ss.set i x) = (sltsC ss).set (0 + i) x.cells := by simp [sltsC, List.map_set]
    have hlt : i < (sltsC ss).length := by omega
    obtain ⟨⟨k, j, z, tx, vl, fl⟩, n2, t2, ms, vs⟩ := x
    have h0 : rowOf [Bx.row 10 ((sltsC ss).set (0 + i) (slotC k j z tx (cellsL vl) (cellsF fl) n2 t2 (msgsC ms) (cellsL vs)))] 0 0 (sltsC ss).length = some (10, (sltsC ss).set (0 + i) (slotC k j z tx (cellsL vl) (cellsF fl) n2 t2 (msgsC ms) (cellsL vs))) := rowOf_get rfl (by simp)
    have hd : (X.tup [.agg [num a, num c, .bs 0 0 (sltsC ss).length], num 0]).data [Bx.row 10 ((sltsC ss).set (0 + i) (slotC k j z tx (cellsL vl) (cellsF fl) n2 t2 (msgsC ms) (cellsL vs)))] false = some (.tup [.agg (Stt.mk a c (ss.set i ⟨.mk k j z tx vl fl, n2, t2, ms, vs⟩)).cells, num 0]) := by
      simp only [X.data, dataL, num, h0, Option.map_some, Stt.cells, e1]; rfl
    generalize hgo : ss[i] = o at hg
    obtain ⟨⟨k', j', z', tx', vl', fl'⟩, n2', t2', ms', vs'⟩ := o
    exact pure_of [(13, .p (.tup [nat i, boolX true])), (26, .o (.agg [num a, num c, .bs 0 0 (sltsC ss).length]) [.row 10 (sltsC ss)]), (32, .p (.agg (slotC k j z tx (cellsL vl) (cellsF fl) n2 t2 (msgsC ms) (cellsL vs)))), (33, .at), (1000033, .st (slotC k' j' z' tx' (cellsL vl') (cellsF fl') n2' t2' (msgsC ms') (cellsL vs')))] []
      (pf5 hf hst hcl hlt (show (sltsC ss)[0 + i]? = some (slotC k' j' z' tx' (cellsL vl') (cellsF fl') n2' t2' (msgsC ms') (cellsL vs')) by rw [Nat.zero_add]; exact hg)) (x := .tup [.agg [num a, num c, .bs 0 0 (sltsC ss).length], num 0]) (bx := [.row 10 ((sltsC ss).set (0 + i) (slotC k j z tx (cellsL vl) (cellsF fl) n2 t2 (msgsC ms) (cellsL vs)))]) (by kernel_rfl) hd
  | false =>
    rw [if_neg (by simp)]
    have e1 : sltsC (ss.take i ++ [x] ++ ss.drop i) = (sltsC ss).take i ++ [x.cells] ++ (sltsC ss).drop i := by simp [sltsC, List.map_take, List.map_drop]
    have h22 : decide (Int.ofNat (sltsC ss).length ≥ 1024) = false := small_int (by omega)
    have hins := ins_call M (sltsC ss) (sltsC ss).length i x.cells rfl (by omega) (by omega)
    obtain ⟨⟨k, j, z, tx, vl, fl⟩, n2, t2, ms, vs⟩ := x
    have h0 : rowOf [Bx.row 10 ((sltsC ss).take i ++ [slotC k j z tx (cellsL vl) (cellsF fl) n2 t2 (msgsC ms) (cellsL vs)] ++ (sltsC ss).drop i)] 0 0 ((sltsC ss).length + 1) = some (10, (sltsC ss).take i ++ [slotC k j z tx (cellsL vl) (cellsF fl) n2 t2 (msgsC ms) (cellsL vs)] ++ (sltsC ss).drop i) := rowOf_get rfl (by simp; omega)
    have hd : (X.tup [.agg [num a, num c, .bs 0 0 ((sltsC ss).length + 1)], num 0]).data [Bx.row 10 ((sltsC ss).take i ++ [slotC k j z tx (cellsL vl) (cellsF fl) n2 t2 (msgsC ms) (cellsL vs)] ++ (sltsC ss).drop i)] false = some (.tup [.agg (Stt.mk a c (ss.take i ++ [⟨.mk k j z tx vl fl, n2, t2, ms, vs⟩] ++ ss.drop i)).cells, num 0]) := by
      simp only [X.data, dataL, num, h0, Option.map_some, Stt.cells, e1]; rfl
    exact pure_of [(13, .p (.tup [nat i, boolX false])), (22, .b false), (26, .o (.agg [num a, num c, .bs 0 0 (sltsC ss).length]) [.row 10 (sltsC ss)]), (38, .p (.agg (slotC k j z tx (cellsL vl) (cellsF fl) n2 t2 (msgsC ms) (cellsL vs)))), (40, .r (.bs 1 0 ((sltsC ss).length + 1)) [.dead, .row 10 ((sltsC ss).take i ++ [slotC k j z tx (cellsL vl) (cellsF fl) n2 t2 (msgsC ms) (cellsL vs)] ++ (sltsC ss).drop i)])] []
      (pf5 hf h22 hst hcl hins) (x := .tup [.agg [num a, num c, .bs 0 0 ((sltsC ss).length + 1)], num 0]) (bx := [.row 10 ((sltsC ss).take i ++ [slotC k j z tx (cellsL vl) (cellsF fl) n2 t2 (msgsC ms) (cellsL vs)] ++ (sltsC ss).drop i)]) (by kernel_rfl) hd
end Go.Proofs.YtjfheahakfoofaaGreatDoor

/- A message is added to the slot with a key, by the program and by the document. -/
namespace Go.Proofs.YtjfheahakfoofaaGreatDoor
open Go.Em

theorem putS_mem {b : Bool} {i : Nat} {x : Slt} {ss : List Slt} {y : Slt} (h : y ∈ putS b i x ss) : y = x ∨ y ∈ ss := by
  unfold putS at h
  split at h
  · rcases List.mem_or_eq_of_mem_set h with h | h
    · exact .inr h
    · exact .inl h
  · simp only [List.mem_append, List.mem_singleton] at h
    rcases h with (h | h) | h
    · exact .inr (List.mem_of_mem_take h)
    · exact .inl h
    · exact .inr (List.mem_of_mem_drop h)
theorem putS_length {b : Bool} {i : Nat} {x : Slt} {ss : List Slt} : (putS b i x ss).length ≤ ss.length + 1 := by
  unfold putS
  split
  · simp
  · simp only [List.length_append, List.length_take, List.length_drop, List.length_singleton]; omega
theorem get_new (N : Nat) (s : Stt) (key : Val) (i : Nat) (hf : Gam.pureD (callF tab ext N) 87 [.agg s.cells, .agg key.cells] = some (.tup [nat i, boolX false])) :
    callF tab ext (N + 1) (.fn 109) [.agg s.cells, .agg key.cells] [] = some (.tup [.agg zSlot, boolX false], []) := by
  obtain ⟨k, j, z, tx, vl, fl⟩ := key
  exact callF_of [(11, .p (.tup [nat i, boolX false]))] [] (pf1 hf) (by kernel_rfl)
theorem get_old (N : Nat) (hN : 190005 ≤ N) (a c : Int) (l : List (List X)) (key : Val) (i : Nat) (k' j' z' : Int) (tx' : ByteArray) (vl' : List Val) (fl' : List (ByteArray × Val)) (n' t' : Int) (items : List Msg) (vals : List Val) (hx : (Slt.mk (.mk k' j' z' tx' vl' fl') n' t' items vals).ok)
    (hg : l[i]? = some (Slt.mk (.mk k' j' z' tx' vl' fl') n' t' items vals).cells) (hf : Gam.pureD (callF tab ext N) 87 [.agg [num a, num c, .sl false 10 l], .agg key.cells] = some (.tup [nat i, boolX true])) :
    callF tab ext (N + 1) (.fn 109) [.agg [num a, num c, .sl false 10 l], .agg key.cells] [] = some (.tup [.agg [num k', num j', num z', strX tx', .sl false 6 (cellsL vl'), .sl false 7 (cellsF fl'), num n', num t', .bs 0 0 (msgsC items).length, .bs 1 0 (cellsL vals).length], boolX true], [.row 10 (msgsC items), .row 6 (cellsL vals)]) := by
  have hcl := clone_slot N _ hx hN
  obtain ⟨k, j, z, tx, vl, fl⟩ := key
  exact callF_of [(11, .p (.tup [nat i, boolX true])), (20, .e (slotC k' j' z' tx' (cellsL vl') (cellsF fl') n' t' (msgsC items) (cellsL vals))), (22, .o (.agg [num k', num j', num z', strX tx', .sl false 6 (cellsL vl'), .sl false 7 (cellsF fl'), num n', num t', .bs 0 0 (msgsC items).length, .bs 1 0 (cellsL vals).length]) [.row 10 (msgsC items), .row 6 (cellsL vals)])] [] (pf3 hf hg hcl) (by kernel_rfl)

/-- A slot that holds nothing yet. -/
def newC (key : Val) (t : Int) : List X := match key with
  | .mk k j z tx vl fl => [num k, num j, num z, strX tx, .sl false 6 (cellsL vl), .sl false 7 (cellsF fl), num 0, num t, .sl true 10 [], .sl true 6 []]
/-- The slots behind the arrival of a message at a slot. -/
def gainS (b : Bool) (i : Nat) (key : Val) (t : Int) (m : Msg) (ss : List Slt) : List Slt := putS b i (if b then { ss.getD i dSlt with items := (ss.getD i dSlt).items ++ [m] } else ⟨key, 0, t, [m], []⟩) ss
theorem putS_ok {s : Stt} (hs : s.small) {x : Slt} (hx : x.ok) (b : Bool) (i : Nat) : (Stt.mk s.n s.t (putS b i x s.slots)).ok := by
  refine ⟨?_, fun y hy => ?_⟩
  · have := hs.slots
    have := putS_length (b := b) (i := i) (x := x) (ss := s.slots)
    show (putS b i x s.slots).length ≤ 60000
    omega
  · rcases putS_mem hy with rfl | h
    · exact hx
    · exact (hs.slot y h).1
set_option maxRecDepth 100000 in
theorem add_at (s : Stt) (hs : s.small) (hne : ∀ x, x ∈ s.slots → x.items ≠ []) (key : Val) (hk : key.ok) (t : Int) (m : Msg) (hm : m.ok) : ∃ (i : Nat) (b : Bool) (s' : Stt), ((b = true → i < s.slots.length) ∧ i ≤ s.slots.length ∧ (b = false → Spot s.slots key i ∧ ∀ h : i < s.slots.length, ¬ cmpV s.slots[i].key key = 0)) ∧ s' = ⟨s.n, s.t, gainS b i key t m s.slots⟩ ∧ s'.ok ∧
    (∀ N, 190070 ≤ N → Gam.pureD (callF tab ext N) 72 [.agg s.cells, .agg (newC key t), .agg m.cells] = some (.agg s'.cells)) ∧
    ∀ N, 190070 ≤ N → Gam.pureD (callF tab ext N) 48 [.agg s.cells, .agg key.cells, num t, .agg m.cells] = some (.agg s'.cells) := by
  obtain ⟨i, b, hi, hb2, hspt, hf⟩ := find_ex2 s hs key
  have hb : b = true → i < s.slots.length := fun h => (hb2 h).1
  have hl := hs.slots
  cases b with
  | false =>
    have hx : (Slt.mk key 0 t [m] []).ok := ⟨hk, by simp, fun z hz => by rw [List.mem_singleton.1 hz]; exact hm, by simp, fun z hz => by cases hz⟩
    have hp := put_at s hs _ hx i false hi hb hf
    have hs' := putS_ok hs hx false i
    have eg : gainS false i key t m s.slots = putS false i ⟨key, 0, t, [m], []⟩ s.slots := by unfold gainS; rw [if_neg (by simp)]
    refine ⟨i, false, _, ⟨hb, hi, hspt⟩, rfl, ?_⟩
    rw [eg]
    generalize Stt.mk s.n s.t (putS false i ⟨key, 0, t, [m], []⟩ s.slots) = s' at hp hs' ⊢
    refine ⟨hs', fun N hN => ?_, fun N hN => ?_⟩
    · obtain ⟨M, rfl⟩ : ∃ M, N = M + 2 := ⟨N - 2, by omega⟩
      have hget := get_new M s key i (hf M (by omega))
      have hcl := clone_msg (M + 1) m hm (by omega)
      have hp := hp (M + 1) (by omega)
      obtain ⟨⟨e, p⟩, ms, o, ⟨a1, a2, a3, a4, a5, a6⟩⟩ := m
      obtain ⟨k, j, z, tx, vl, fl⟩ := key
      exact pure_of [(15, .o (.tup [.agg zSlot, boolX false]) []), (23, .p (.agg (Msg.mk ⟨e, p⟩ ms o (.mk a1 a2 a3 a4 a5 a6)).cells)), (30, .p (.tup [.agg s'.cells, num 0]))] []
        (pf4 hget hcl (Nat.le_refl 1) hp) (x := .agg s'.cells) (bx := []) (by kernel_rfl) rfl
    · obtain ⟨M, rfl⟩ : ∃ M, N = M + 2 := ⟨N - 2, by omega⟩
      have hf := hf (M + 1) (by omega)
      have hp := hp (M + 1) (by omega)
      obtain ⟨⟨e, p⟩, ms, o, ⟨a1, a2, a3, a4, a5, a6⟩⟩ := m
      obtain ⟨k, j, z, tx, vl, fl⟩ := key
      exact pure_of [(20, .p (.tup [nat i, boolX false])), (51, .p (.tup [.agg s'.cells, num 0]))] [] (pf2 hf hp) (x := .agg s'.cells) (bx := []) (by kernel_rfl) rfl
  | true =>
    have hi' := hb rfl
    have hg := sltsC_get hi'
    obtain ⟨hok, hit, hva⟩ := hs.slot _ (List.getElem_mem hi')
    have hnz := hne _ (List.getElem_mem hi')
    have hky := cmpV_zero _ _ (hb2 rfl).2
    have hgd : s.slots.getD i dSlt = s.slots[i] := by rw [List.getD_eq_getElem?_getD, List.getElem?_eq_getElem hi']; rfl
    have eg : gainS true i key t m s.slots = putS true i { s.slots[i] with items := s.slots[i].items ++ [m] } s.slots := by unfold gainS; rw [if_pos rfl, hgd]
    generalize s.slots[i] = y at hg hok hit hva hnz hky eg
    obtain ⟨⟨k', j', z', tx', vl', fl'⟩, n', t', items, vals⟩ := y
    dsimp only at hit hva hnz hky eg
    have hx : (Slt.mk (.mk k' j' z' tx' vl' fl') n' t' (items ++ [m]) vals).ok := ⟨hok.key, by show (items ++ [m]).length ≤ 60000; simp; omega, fun z hz => by
      rcases List.mem_append.1 hz with hz | hz
      · exact hok.item z hz
      · rw [List.mem_singleton.1 hz]; exact hm, hok.vals, hok.val⟩
    have hp := put_at s hs _ hx i true hi hb (by rw [hky]; exact hf)
    have hs' := putS_ok hs hx true i
    have hn := msgsC_length items
    refine ⟨i, true, _, ⟨hb, hi, hspt⟩, rfl, ?_⟩
    rw [eg]
    generalize Stt.mk s.n s.t (putS true i ⟨.mk k' j' z' tx' vl' fl', n', t', items ++ [m], vals⟩ s.slots) = s' at hp hs' ⊢
    obtain ⟨a, c, ss⟩ := s
    dsimp only at hg hl
    refine ⟨hs', fun N hN => ?_, fun N hN => ?_⟩
    · obtain ⟨M, rfl⟩ : ∃ M, N = M + 2 := ⟨N - 2, by omega⟩
      have hget := get_old M (by omega) a c (sltsC ss) key i k' j' z' tx' vl' fl' n' t' items vals hok hg (hf M (by omega))
      have hcl := clone_msg (M + 1) m hm (by omega)
      have hp := hp (M + 1) (by omega)
      have e1 : (Slt.mk (.mk k' j' z' tx' vl' fl') n' t' (items ++ [m]) vals).cells = slotC k' j' z' tx' (cellsL vl') (cellsF fl') n' t' ((msgsC items ++ [m.cells]).take ((msgsC items).length + 1)) ((cellsL vals).take (cellsL vals).length) := by
        rw [List.take_of_length_le (by simp), List.take_of_length_le (Nat.le_refl _), ← msgsC_snoc]; rfl
      rw [e1] at hp
      obtain ⟨⟨e, p⟩, ms, o, ⟨a1, a2, a3, a4, a5, a6⟩⟩ := m
      obtain ⟨k, j, z, tx, vl, fl⟩ := key
      exact pure_of [(15, .o (.tup [.agg [num k', num j', num z', strX tx', .sl false 6 (cellsL vl'), .sl false 7 (cellsF fl'), num n', num t', .bs 0 0 (msgsC items).length, .bs 1 0 (cellsL vals).length], boolX true]) [.row 10 (msgsC items), .row 6 (cellsL vals)]), (23, .p (.agg (Msg.mk ⟨e, p⟩ ms o (.mk a1 a2 a3 a4 a5 a6)).cells)), (25, .app), (30, .p (.tup [.agg s'.cells, num 0]))] []
        (pf7 hget hcl (app_c (i := 4) (bytes := 152) (rfl : (msgsC items).length = (msgsC items).length) (by omega) (by omega)) (show 0 + ((msgsC items).length + 1) ≤ (msgsC items ++ [(Msg.mk ⟨e, p⟩ ms o (.mk a1 a2 a3 a4 a5 a6)).cells]).length by simp) (show 0 + (cellsL vals).length ≤ (cellsL vals).length by omega) (show 0 + (cellsL vals).length ≤ (cellsL vals).length by omega) hp)
        (x := .agg s'.cells) (bx := []) (by kernel_rfl) rfl
    · obtain ⟨M, rfl⟩ : ∃ M, N = M + 2 := ⟨N - 2, by omega⟩
      have hf := hf (M + 1) (by omega)
      have hp := hp (M + 1) (by omega)
      have e1 : (Slt.mk (.mk k' j' z' tx' vl' fl') n' t' (items ++ [m]) vals).cells = slotC k' j' z' tx' (cellsL vl') (cellsF fl') n' t' ((msgsC items ++ [m.cells]).take (0 + (msgsC items).length + 1)) (cellsL vals) := by
        rw [List.take_of_length_le (by simp), ← msgsC_snoc]; rfl
      rw [e1] at hp
      have hne' : (msgsC items).isEmpty = false := by
        cases items with
        | nil => exact absurd rfl hnz
        | cons => rfl
      have h26 : decide (Int.ofNat i ≥ 0) = true := decide_eq_true (Int.natCast_nonneg i)
      have h33 : decide (Int.ofNat i < Int.ofNat (sltsC ss).length) = true := lt_nat (by rw [sltsC_length]; exact hi')
      obtain ⟨⟨e, p⟩, ms, o, ⟨a1, a2, a3, a4, a5, a6⟩⟩ := m
      obtain ⟨k, j, z, tx, vl, fl⟩ := key
      exact pure_of [(20, .p (.tup [nat i, boolX true])), (26, .b true), (33, .b true), (38, .e (slotC k' j' z' tx' (cellsL vl') (cellsF fl') n' t' (msgsC items) (cellsL vals))), (43, .fresh), (46, .app), (51, .p (.tup [.agg s'.cells, num 0]))] []
        (pf8 hf h26 h33 hg (show (msgsC items).isEmpty = false ∧ roomOk (([] : List (List X)).length + (msgsC items).length) 152 = true from ⟨hne', room_of (by simp only [List.length_nil]; omega) (by simp only [List.length_nil]; omega)⟩)
          (show 0 + (0 + (msgsC items).length) = (msgsC items).length ∧ roomOk (0 + (msgsC items).length + 1) 152 = true ∧ memN 5 [] = false from ⟨by omega, room_of (by omega) (by omega), rfl⟩) (show 0 + (0 + (msgsC items).length + 1) ≤ (msgsC items ++ [(Msg.mk ⟨e, p⟩ ms o (.mk a1 a2 a3 a4 a5 a6)).cells]).length by simp) hp)
        (x := .agg s'.cells) (bx := []) (by kernel_rfl) rfl
end Go.Proofs.YtjfheahakfoofaaGreatDoor

/- When messages are due. -/
namespace Go.Proofs.YtjfheahakfoofaaGreatDoor
open Go.Em

/-- The least time of the first slots. -/
def minTo (ss : List Slt) : Nat → Int
  | 0 => 0
  | j + 1 => if j = 0 ∨ (ss.getD j dSlt).t < minTo ss j then (ss.getD j dSlt).t else minTo ss j
def dueT (n : Nod) (s : Stt) : Int × Bool :=
  if (accOf s.slots).length = 0 then (0, false)
  else if numF n.number = 0 then (0, false)
  else if maxI 0 s.n ≥ numF n.number then (if IntKind.i64.wrap (winF (perF n.time) s.t + Int.ofNat (perF n.time + 1)) > 17592186044416 then (0, false) else (IntKind.i64.wrap (winF (perF n.time) s.t + Int.ofNat (perF n.time + 1)), true))
  else if s.t > 17592186044416 then (0, false) else (s.t, true)
def dueD (s : Stt) : Int × Bool :=
  if (accOf s.slots).length = 0 then (0, false)
  else if minTo s.slots s.slots.length > 17592186044416 then (0, false) else (minTo s.slots s.slots.length, true)

def duH (l : List (List X)) (n j : Nat) (t : Int) : St := ⟨[(4, num t), (16, .sl false 10 l), (17, nat n), (18, nat j)], []⟩
def duN (l : List (List X)) (n j : Nat) (t : Int) (x : List X) : St := ⟨[(4, num t), (16, .sl false 10 l), (17, nat n), (18, nat (j + 1))], [.var x]⟩
end Go.Proofs.YtjfheahakfoofaaGreatDoor

/- A delay at a tick of the clock. -/
namespace Go.Proofs.YtjfheahakfoofaaGreatDoor
open Go.Em

def goL (now : Int) (ss : List Slt) : List Msg := accOf (ss.filter fun x => decide (x.t ≤ now))
def stayL (now : Int) (ss : List Slt) : List Slt := ss.filter fun x => !decide (x.t ≤ now)
theorem goL_snoc (now : Int) (ss : List Slt) (x : Slt) : goL now (ss ++ [x]) = if x.t ≤ now then goL now ss ++ x.items else goL now ss := by
  unfold goL
  rw [List.filter_append]
  split
  · rename_i h
    rw [List.filter_cons, if_pos (decide_eq_true h)]
    simp [accOf]
  · rename_i h
    rw [List.filter_cons, if_neg (by simpa using h)]
    simp
theorem stayL_snoc (now : Int) (ss : List Slt) (x : Slt) : stayL now (ss ++ [x]) = if x.t ≤ now then stayL now ss else stayL now ss ++ [x] := by
  unfold stayL
  rw [List.filter_append]
  split
  · rename_i h
    rw [List.filter_cons, if_neg (by simpa using h)]
    simp
  · rename_i h
    rw [List.filter_cons, if_pos (by simpa using h)]
    simp
theorem apps_ok {acc : List (List X)} (j m i bytes : Nat) (h : j = acc.length) (hj : j + m < 1000000) (hb : bytes < 1000) : 0 + j = acc.length ∧ roomOk (j + m) bytes = true ∧ memN i [] = false :=
  ⟨by omega, room_of (by have : (j + m) * bytes ≤ 1000000 * 1000 := Nat.mul_le_mul (by omega) (by omega); omega) (by omega), rfl⟩

/-- An input, by its cells. -/
structure Cin where
  se : Int
  tm : Int
  e : Int
  ms : Int
  a1 : Int
  a2 : Int
  a3 : Int
  x : Int
  c1 : Int
  c2 : Int
  c3 : Int
  sp : List (List X)
  mp : List (List X)
  o : List (List X)
  a5 : List (List X)
  a6 : List (List X)
  c5 : List (List X)
  c6 : List (List X)
  a4 : ByteArray
  c4 : ByteArray
  b1 : Bool
  b2 : Bool
def Cin.cells (i : Cin) (kd : Int) : List X := inX i.se kd i.tm i.sp i.e i.mp i.ms i.o i.a1 i.a2 i.a3 i.a4 i.a5 i.a6 i.x i.b1 i.b2 i.c1 i.c2 i.c3 i.c4 i.c5 i.c6
theorem cin_of (i : Inp) : ∃ c : Cin, i.cells = c.cells i.kind ∧ c.tm = i.time ∧ c.se = i.st.e ∧ c.sp = intsC i.st.p := by
  rw [inX_cells]
  obtain ⟨kd, tm, ⟨se, sp⟩, ⟨⟨e, p⟩, ms, o, ⟨a1, a2, a3, a4, a5, a6⟩⟩, x, b1, b2, ⟨c1, c2, c3, c4, c5, c6⟩⟩ := i
  exact ⟨⟨se, tm, e, ms, a1, a2, a3, x, c1, c2, c3, intsC sp, intsC p, intsC o, cellsL a5, cellsF a6, cellsL c5, cellsF c6, a4, c4, b1, b2⟩, rfl, rfl, rfl, rfl⟩

section
variable (nd : Nod) (ci : Cin) (a b : Int) (l acc rs its : List (List X)) (nn j q r : Nat) (now : Int) (sc : List X)
def dlZ : List X := [num 0, num 0, .sl true 10 [], .sl true 11 [], .sl true 11 [], .sl true 6 [], .sl true 10 []]
def dlO (i : Nat) : List X := [num a, num b, .bs i 0 r, .sl true 11 [], .sl true 11 [], .sl true 6 [], .sl true 10 []]
def dlTm (k j q : Nat) : List (Nat × X) := [(3, .ptr 0 0 0), (5, .ptr 1 0 0), (6, .ptr 2 0 0), (7, num now), (9, .ptr 3 0 0), (10, .bs k 0 q), (52, .sl false 10 l), (53, nat nn), (54, nat j)]
def dlH : St := ⟨dlTm l nn now 4 j q, [.var nd.cells, .var (ci.cells 2), .var dlZ, .var (dlO a b r 5), .row 10 acc, .row 10 rs]⟩
def dlA : St := ⟨dlTm l nn now 7 (j + 1) (q + its.length), [.var nd.cells, .var (ci.cells 2), .var dlZ, .var (dlO a b r 5), .dead, .row 10 rs, .var sc, .row 10 (acc ++ its)]⟩
def dlS : St := ⟨dlTm l nn now 4 (j + 1) q, [.var nd.cells, .var (ci.cells 2), .var dlZ, .var (dlO a b (r + 1) 7), .row 10 acc, .dead, .var sc, .row 10 (rs ++ [sc])]⟩
def dlE : St := ⟨dlTm l nn now 4 j q ++ [(55, boolX false)], [.var nd.cells, .var (ci.cells 2), .var dlZ, .var (dlO a b r 5), .row 10 acc, .row 10 rs]⟩
theorem dlA_canon : canon 0 (dlA nd ci a b l acc rs its nn j q r now sc) = some (dlH nd ci a b l (acc ++ its) rs nn (j + 1) (q + its.length) r now) := by kernel_rfl
theorem dlS_canon : canon 0 (dlS nd ci a b l acc rs nn j q r now sc) = some (dlH nd ci a b l acc (rs ++ [sc]) nn (j + 1) q (r + 1) now) := by kernel_rfl
end
theorem dl_round (M : Nat) (nd : Nod) (ci : Cin) (a b : Int) (l : List (List X)) (acc : List Msg) (rs : List Slt) (nn j : Nat) (now : Int) (x : Slt) (hj : j < nn) (hn : nn < 4294967296) (hg : l[j]? = some x.cells) (hq : acc.length + x.items.length < 100000) (hr : rs.length < 100000) :
    ∃ υ, run (callF tab ext M) 0 M (loopAt 30 0) (dlH nd ci a b l (msgsC acc) (sltsC rs) nn j acc.length rs.length now) = some (.norm, υ) ∧
      canon 0 υ = some (dlH nd ci a b l (msgsC (if x.t ≤ now then acc ++ x.items else acc)) (sltsC (if x.t ≤ now then rs else rs ++ [x])) nn (j + 1) (if x.t ≤ now then acc ++ x.items else acc).length (if x.t ≤ now then rs else rs ++ [x]).length now) := by
  have h1 := lt_nat hj
  have hnx := next_nat (j := j) (by omega)
  have ha := msgsC_length acc
  have hs := sltsC_length rs
  have hi := msgsC_length x.items
  have e1 : msgsC (acc ++ x.items) = msgsC acc ++ msgsC x.items := by simp [msgsC]
  have e2 : sltsC (rs ++ [x]) = sltsC rs ++ [x.cells] := by simp [sltsC]
  have e3 : (acc ++ x.items).length = acc.length + (msgsC x.items).length := by rw [List.length_append, hi]
  have e4 : (rs ++ [x]).length = rs.length + 1 := List.length_append.trans rfl
  cases h3 : (decide (x.t ≤ now)) with
  | true =>
    rw [if_pos (of_decide_eq_true h3), if_pos (of_decide_eq_true h3), e1, e3]
    have happ := apps_ok (acc := msgsC acc) acc.length (msgsC x.items).length 4 152 ha.symm (by omega) (by omega)
    obtain ⟨⟨k, i, s, tx, vl, fl⟩, n2, c, ms, vs⟩ := x
    exact ⟨dlA nd ci a b l (msgsC acc) (sltsC rs) (msgsC ms) nn j acc.length rs.length now (slotC k i s tx (cellsL vl) (cellsF fl) n2 c (msgsC ms) (cellsL vs)), run_of [(55, .b true), (56, .e (slotC k i s tx (cellsL vl) (cellsF fl) n2 c (msgsC ms) (cellsL vs))), (61, .b true), (65, .app), (74, .i (Int.ofNat (j + 1)))] [] (pf5 h1 hg h3 happ hnx) (lo' := []) (by kernel_rfl), dlA_canon ..⟩
  | false =>
    rw [if_neg (of_decide_eq_false h3), if_neg (of_decide_eq_false h3), e2, e4]
    have happ := apps_ok (acc := sltsC rs) rs.length 1 5 152 hs.symm (by omega) (by omega)
    obtain ⟨⟨k, i, s, tx, vl, fl⟩, n2, c, ms, vs⟩ := x
    exact ⟨dlS nd ci a b l (msgsC acc) (sltsC rs) nn j acc.length rs.length now (slotC k i s tx (cellsL vl) (cellsF fl) n2 c (msgsC ms) (cellsL vs)), run_of [(55, .b true), (56, .e (slotC k i s tx (cellsL vl) (cellsF fl) n2 c (msgsC ms) (cellsL vs))), (61, .b false), (71, .app), (74, .i (Int.ofNat (j + 1)))] [] (pf5 h1 hg h3 happ hnx) (lo' := []) (by kernel_rfl), dlS_canon ..⟩
def delF (n : Nod) (s : Stt) (b : Stp) (now : Int) : Ocm := ⟨⟨s.n, s.t, stayL now s.slots⟩, outsF b (goL now s.slots) (goL now s.slots).length, fatesF n.name b (goL now s.slots) (goL now s.slots).length, []⟩
theorem goL_le (now : Int) : ∀ ss : List Slt, (goL now ss).length ≤ (accOf ss).length
  | [] => Nat.le_refl _
  | x :: r => by
    have := goL_le now r
    unfold goL at this ⊢
    rw [List.filter_cons]
    split
    · simp only [accOf, List.flatMap_cons, List.length_append] at this ⊢; omega
    · simp only [accOf, List.flatMap_cons, List.length_append] at this ⊢; omega
theorem goL_mem {now : Int} {ss : List Slt} {m : Msg} (h : m ∈ goL now ss) : m ∈ accOf ss := by
  obtain ⟨x, hx, hm⟩ := List.mem_flatMap.1 h
  exact List.mem_flatMap.2 ⟨x, (List.mem_filter.1 hx).1, hm⟩
theorem accOf_take_le (ss : List Slt) (j : Nat) : (accOf (ss.take j)).length ≤ (accOf ss).length := by
  have : accOf ss = accOf (ss.take j) ++ accOf (ss.drop j) := by
    unfold accOf; rw [← List.flatMap_append, List.take_append_drop]
  rw [this, List.length_append]; omega

theorem dl_loop (M : Nat) (hM : 190000 ≤ M) (nd : Nod) (ci : Cin) (a b : Int) (ss : List Slt) (hs : ss.length ≤ 100) (hacc : (accOf ss).length ≤ 3000) (now : Int) {τ : St} (hτ : canon 0 τ = some (dlH nd ci a b (sltsC ss) [] [] (sltsC ss).length 0 0 0 now)) :
    run (callF tab ext M) 0 M (.loop (loopAt 30 0)) τ = some (.exit 1, dlE nd ci a b (sltsC ss) (msgsC (goL now ss)) (sltsC (stayL now ss)) (sltsC ss).length (sltsC ss).length (goL now ss).length (stayL now ss).length now) := by
  have hn := sltsC_length ss
  refine loop_for (σ := fun j => dlH nd ci a b (sltsC ss) (msgsC (goL now (ss.take j))) (sltsC (stayL now (ss.take j))) (sltsC ss).length j (goL now (ss.take j)).length (stayL now (ss.take j)).length now) (k := (sltsC ss).length) hτ (fun j hj => ?_) ?_ (by simp) (by omega)
  · have hj' : j < ss.length := by omega
    have hg := sltsC_get hj'
    have e1 : ss.take (j + 1) = ss.take j ++ [ss[j]] := List.take_succ_eq_append_getElem hj'
    have h1 := goL_le now (ss.take (j + 1))
    have h2 := accOf_take_le ss (j + 1)
    have h3 : (goL now (ss.take j)).length ≤ (accOf ss).length := Nat.le_trans (goL_le _ _) (accOf_take_le ss j)
    have h4 : (stayL now (ss.take j)).length ≤ 100 := Nat.le_trans (List.length_filter_le _ _) (by rw [List.length_take]; omega)
    have h5 : ss[j].items.length ≤ (accOf ss).length := by
      have : (accOf (ss.take (j + 1))).length = (accOf (ss.take j)).length + ss[j].items.length := by
        rw [e1, accOf_append, List.length_append]
      omega
    have := dl_round M nd ci a b (sltsC ss) (goL now (ss.take j)) (stayL now (ss.take j)) (sltsC ss).length j now ss[j] hj (by omega) hg (by omega) (by omega)
    rw [e1, goL_snoc, stayL_snoc]
    exact this
  · have e : ss.take (sltsC ss).length = ss := List.take_of_length_le (by omega)
    rw [e]
    exact run_of [(55, .b false)] [] (pf1 (nlt_nat (Nat.lt_irrefl (sltsC ss).length))) (lo' := []) (by kernel_rfl)

set_option maxRecDepth 100000 in
theorem delay_clk (N : Nat) (hN : 190060 ≤ N) (n : Nod) (s : Stt) (hs : s.small) (hacc : (accOf s.slots).length ≤ 3000) (ci : Cin) (b : Stp) (hb : b.p.length ≤ 100) (he : ci.se = b.e) (hp : ci.sp = intsC b.p) : Gam.pureD (callF tab ext N) 30 [.agg n.cells, .agg s.cells, .agg (ci.cells 2)] = some (.agg (delF n s b (clampF ci.tm 0 maxTime)).cells) := by
  obtain ⟨M, rfl⟩ : ∃ M, N = M + 3 := ⟨N - 3, by omega⟩
  have hnow := clamp_pure (M + 1) ci.tm 0 maxTime
  generalize clampF ci.tm 0 maxTime = now at hnow ⊢
  have hloop := dl_loop (M + 2) (by omega) n ci s.n s.t s.slots hs.slots hacc now
    (τ := ⟨[(3, .ptr 0 0 0), (5, .ptr 2 0 0), (6, .ptr 3 0 0), (7, num now), (9, .ptr 4 0 0), (10, .bs 5 0 0), (52, .sl false 10 (sltsC s.slots)), (53, nat ((sltsC s.slots).length)), (54, num 0)], [.var n.cells, .var s.cells, .var (ci.cells 2), .var dlZ, .var (dlO s.n s.t 0 6), .row 10 [], .row 10 []]⟩) (by kernel_rfl)
  have hle := goL_le now s.slots
  have hok : ∀ m, m ∈ goL now s.slots → m.ok := fun m hm => accOf_ok hs m (goL_mem hm)
  unfold delF
  have hml := msgsC_length (goL now s.slots)
  have hsl := sltsC_length (stayL now s.slots)
  have hrel : relN (goL now s.slots) (Int.ofNat (msgsC (goL now s.slots)).length) = (goL now s.slots).length := by
    unfold relN; simp only [Int.ofNat_eq_natCast, Int.toNat_natCast]; omega
  have hz := fun h => release_zero M n s.n s.t false (sltsC (stayL now s.slots)) (goL now s.slots) (Int.ofNat (msgsC (goL now s.slots)).length) b (by omega) (by omega) hok (by omega) h
  have hnz := fun h => release_some M n s.n s.t false (sltsC (stayL now s.slots)) (goL now s.slots) (Int.ofNat (msgsC (goL now s.slots)).length) b (by omega) (by omega) hok (by omega) h
  rw [hrel] at hz hnz
  have ho := outsF_length b (goL now s.slots) (goL now s.slots).length
  have hf := fatesF_length n.name b (goL now s.slots) (goL now s.slots).length
  rw [hml] at hz hnz
  rw [← hml] at hloop hz hnz
  rw [← hsl] at hloop
  unfold Stp.cells at hz hnz
  rw [← he, ← hp] at hz hnz
  have g1 : 0 + (msgsC (goL now s.slots)).length ≤ (msgsC (goL now s.slots)).length := by omega
  have g2 : 0 + (sltsC (stayL now s.slots)).length ≤ (sltsC (stayL now s.slots)).length := by omega
  generalize stayL now s.slots = st at hloop hz hnz g2 ⊢
  have ec : (sltsC st).take (sltsC st).length = sltsC st := List.take_length
  by_cases h0 : (msgsC (goL now s.slots)).length = 0
  · have hr := hz h0
    rw [← hml, h0]
    generalize msgsC (goL now s.slots) = mc at hloop hr g1
    have em : mc.take mc.length = mc := List.take_length
    replace hr : callF tab ext (M + 2) (.fn 73) [.ptr 0 0 0, .agg n.cells, .sl false 10 (mc.take mc.length), .agg [num ci.se, .sl false 1 ci.sp], num (Int.ofNat (mc.take mc.length).length)] [.var (out0 s.n s.t false ((sltsC st).take (sltsC st).length))] = some (nat 0, [.var (out0 s.n s.t false (sltsC st))]) := by
      rw [em, ec]; exact hr
    exact pure_of [(15, .p (num now)), (81, .r (nat 0) [.var (out0 s.n s.t false (sltsC st))])] [(.exit 1, dlE n ci s.n s.t (sltsC s.slots) mc (sltsC st) (sltsC s.slots).length (sltsC s.slots).length mc.length (sltsC st).length now)] (pf5 hnow hloop g1 g2 hr)
      (x := .agg [num s.n, num s.t, .sl false 10 (sltsC st), .sl true 11 [], .sl true 11 [], .sl true 6 [], .sl true 10 []]) (bx := []) (by kernel_rfl) rfl
  · have hr := hnz h0
    rw [← hml] at ho hf ⊢
    generalize outsF b (goL now s.slots) (msgsC (goL now s.slots)).length = os at hr ho ⊢
    generalize fatesF n.name b (goL now s.slots) (msgsC (goL now s.slots)).length = fs at hr hf ⊢
    generalize msgsC (goL now s.slots) = mc at hloop hr g1 ho hf
    have em : mc.take mc.length = mc := List.take_length
    replace hr : callF tab ext (M + 2) (.fn 73) [.ptr 0 0 0, .agg n.cells, .sl false 10 (mc.take mc.length), .agg [num ci.se, .sl false 1 ci.sp], num (Int.ofNat (mc.take mc.length).length)] [.var (out0 s.n s.t false ((sltsC st).take (sltsC st).length))] = some (nat mc.length, [.var (outJ s.n s.t false (sltsC st) 1 2 mc.length), .row 11 (otpsC os), .row 6 (ftesC fs)]) := by
      rw [em, ec]; exact hr
    have hd : (X.agg [num s.n, num s.t, .sl false 10 (sltsC st), .bs 0 0 mc.length, .sl true 11 [], .bs 1 0 mc.length, .sl true 10 []]).data [.row 11 (otpsC os), .row 6 (ftesC fs)] false = some (.agg (Ocm.mk ⟨s.n, s.t, st⟩ os fs []).cells) := by
      simp [X.data, dataL, rowOf, num, Ocm.cells, hf, ho, msgsC]
      exact ⟨List.take_of_length_le (Nat.le_of_eq ho), List.take_of_length_le (Nat.le_of_eq hf)⟩
    exact pure_of [(15, .p (num now)), (81, .r (nat mc.length) [.var (outJ s.n s.t false (sltsC st) 1 2 mc.length), .row 11 (otpsC os), .row 6 (ftesC fs)])] [(.exit 1, dlE n ci s.n s.t (sltsC s.slots) mc (sltsC st) (sltsC s.slots).length (sltsC s.slots).length mc.length (sltsC st).length now)] (pf5 hnow hloop g1 g2 hr)
      (x := .agg [num s.n, num s.t, .sl false 10 (sltsC st), .bs 0 0 mc.length, .sl true 11 [], .bs 1 0 mc.length, .sl true 10 []]) (bx := [.row 11 (otpsC os), .row 6 (ftesC fs)]) (by kernel_rfl) hd
end Go.Proofs.YtjfheahakfoofaaGreatDoor

/- A delay at a message, by the program and by the document. -/
namespace Go.Proofs.YtjfheahakfoofaaGreatDoor
open Go.Em

def keyV (d : Int) : Val := .mk 2 d 0 ⟨#[]⟩ [] []
theorem keyV_ok (d : Int) : (keyV d).ok := by
  show (keyV d).size ≤ 60000
  simp [keyV, Val.size, sizeL, sizeF]
theorem int_pure (N : Nat) (d : Int) : Gam.pureD (callF tab ext (N + 1)) 49 [num d] = some (.agg (keyV d).cells) :=
  pure_of [] [] pf0 (x := .agg [num 2, num d, num 0, noText, .sl true 6 [], .sl true 7 []]) (bx := []) (by kernel_rfl) rfl

/-- What a delay's step is. -/
def DelQ (n : Nod) (s : Stt) (i : Inp) (o : Ocm) : Prop :=
  (i.kind = 1 ∧ (o = rejF n s i.m ∨ ∃ (j : Nat) (b : Bool) (t : Int), ((b = true → j < s.slots.length) ∧ j ≤ s.slots.length ∧ (b = false → Spot s.slots (keyV t) j ∧ ∀ h : j < s.slots.length, ¬ cmpV s.slots[j].key (keyV t) = 0) ∧ 0 < t ∧ t ≤ 17592186044416) ∧ o = plainO ⟨s.n, s.t, gainS b j (keyV t) t i.m s.slots⟩)) ∨ (i.kind = 2 ∧ o = delF n s i.st (nowF i)) ∨ (i.kind ≠ 1 ∧ i.kind ≠ 2 ∧ o = plainO s)
/-- What a step comes to, by the program and by the document. -/
def StepBoth (n : Nod) (s : Stt) (i : Inp) : Prop := ∃ o : Ocm, o.ok ∧ DelQ n s i o ∧ (∀ N, 190200 ≤ N → Gam.pureD (callF tab ext N) 11 [.agg n.cells, .agg s.cells, .agg i.cells] = some (.agg o.cells)) ∧
  ∀ N, 190200 ≤ N → Gam.pureD (callF tab ext N) 18 [.agg n.cells, .agg s.cells, .agg i.cells] = some (.agg (o.cellsB true))

theorem nowF_range (i : Inp) : 0 ≤ nowF i ∧ nowF i ≤ 17592186044416 := by
  unfold nowF clampF maxI minI maxTime
  split <;> split <;> constructor <;> omega
theorem wrap_self {z : Int} (h0 : -9223372036854775808 ≤ z) (h1 : z ≤ 9223372036854775807) : IntKind.i64.wrap z = z := by
  rw [IntKind.wrap_i64]; omega

set_option maxRecDepth 100000 in
theorem dmsg_step (n : Nod) (hk : n.kind = 8) (s : Stt) (hs : s.small) (hne : ∀ x, x ∈ s.slots → x.items ≠ []) (i : Inp) (hi : i.ok) (h1 : i.kind = 1) : StepBoth n s i := by
  obtain ⟨due, hdue⟩ : ∃ due, minI (IntKind.i64.wrap (nowF i + Int.ofNat (perF n.time + 1))) 17592186044416 = due := ⟨_, rfl⟩
  have hdr : 0 < due ∧ due ≤ 17592186044416 := by
    have hn0 := nowF_range i
    have hp := perF_le n.time
    rw [← hdue, wrap_self (by simp only [Int.ofNat_eq_natCast]; omega) (by simp only [Int.ofNat_eq_natCast]; omega)]
    simp only [Int.ofNat_eq_natCast]
    unfold minI
    split <;> omega
  obtain ⟨j, bj, s', hbj, hsj, hs', ha, hb⟩ := add_at s hs hne (keyV due) (keyV_ok due) due i.m hi.m
  have k8 : (n.kind == 8) = true := by simpa using hk
  have hlen : (msgsC (accOf s.slots)).length = (accOf s.slots).length := msgsC_length _
  have hnow' : (if 0 < (if 17592186044416 < i.time then 17592186044416 else i.time) then (if 17592186044416 < i.time then 17592186044416 else i.time) else 0) = nowF i := by
    unfold nowF clampF maxTime
    rw [minI_comm]; rfl
  by_cases hc : Int.ofNat (accOf s.slots).length ≥ limF n.limit
  · refine ⟨rejF n s i.m, rejF_ok hs.ok hi.m, .inl ⟨h1, .inl rfl⟩, fun N hN => ?_, fun N hN => ?_⟩
    · obtain ⟨M, rfl⟩ : ∃ M, N = M + 4 := ⟨N - 4, by omega⟩
      have hcl := clone_state_pure (M + 3) s hs.ok (by omega)
      have hnow := clamp_pure (M + 1) i.time 0 17592186044416
      have hw := waiting_pure s hs (M + 2) (by omega)
      have hlim := limit_pure M n
      have hrej := reject_pure (M + 1) n s i.m hi.m (by omega)
      have hd : decide (Int.ofNat (msgsC (accOf s.slots)).length ≥ limF n.limit) = true := by rw [hlen]; exact decide_eq_true hc
      generalize clampF i.time 0 17592186044416 = now at hnow
      generalize rejF n s i.m = oc at hrej ⊢
      generalize limF n.limit = lim at hlim hd
      obtain ⟨kd, tm, ⟨se, sp⟩, ⟨⟨e, p⟩, ms, o, ⟨a1, a2, a3, a4, a5, a6⟩⟩, x, b1, b2, ⟨c1, c2, c3, c4, c5, c6⟩⟩ := i
      dsimp only at h1 hnow
      subst h1
      have h30 : Gam.pureD (callF tab ext (M + 3)) 30 [.agg n.cells, .agg s.cells, .agg (inX se 1 tm (intsC sp) e (intsC p) ms (intsC o) a1 a2 a3 a4 (cellsL a5) (cellsF a6) x b1 b2 c1 c2 c3 c4 (cellsL c5) (cellsF c6))] = some (.agg oc.cells) :=
        pure_of [(15, .p (num now)), (21, .p (.sl false 10 (msgsC (accOf s.slots)))), (24, .p (num lim)), (25, .b true), (30, .p (.agg oc.cells))] [] (pf5 hnow hw hlim hd hrej) (x := .agg oc.cells) (bx := []) (by kernel_rfl) rfl
      exact pure_of [(8, .p (.agg s.cells)), (11, .b true), (15, .p (.agg oc.cells))] [] (pf3 hcl k8 h30) (x := .agg oc.cells) (bx := []) (by kernel_rfl) rfl
    · obtain ⟨M, rfl⟩ : ∃ M, N = M + 3 := ⟨N - 3, by omega⟩
      have hp := mperiod_pure (M + 1) n
      have hh := mheld_pure s hs (M + 2) (by omega)
      have hlim := mlimit_pure (M + 1) n
      have hrej := full_pure (M + 1) n s i.m
      have hd : decide (Int.ofNat (accOf s.slots).length ≥ limF n.limit) = true := decide_eq_true hc
      generalize rejF n s i.m = oc at hrej ⊢
      generalize limF n.limit = lim at hlim hd
      generalize (accOf s.slots).length = hl at hh hd
      obtain ⟨kd, tm, ⟨se, sp⟩, ⟨⟨e, p⟩, ms, o, ⟨a1, a2, a3, a4, a5, a6⟩⟩, x, b1, b2, ⟨c1, c2, c3, c4, c5, c6⟩⟩ := i
      dsimp only at h1
      subst h1
      exact pure_of [(23, .b true), (27, .p (nat (perF n.time + 1))), (31, .p (nat hl)), (33, .p (num lim)), (34, .b true), (39, .p (.agg (oc.cellsB true)))] [] (pf6 k8 hp hh hlim hd hrej) (x := .agg (oc.cellsB true)) (bx := []) (by kernel_rfl) rfl
  · refine ⟨plainO s', plainO_ok hs', .inl ⟨h1, .inr ⟨j, bj, due, ⟨hbj.1, hbj.2.1, hbj.2.2, hdr.1, hdr.2⟩, by rw [hsj]⟩⟩, fun N hN => ?_, fun N hN => ?_⟩
    · obtain ⟨M, rfl⟩ : ∃ M, N = M + 4 := ⟨N - 4, by omega⟩
      have hcl := clone_state_pure (M + 3) s hs.ok (by omega)
      have hnow := clamp_pure (M + 1) i.time 0 17592186044416
      have hw := waiting_pure s hs (M + 2) (by omega)
      have hlim := limit_pure M n
      have hp := period_pure M n
      have hv := int_pure (M + 1) due
      have hadd := ha (M + 2) (by omega)
      have hd : decide (Int.ofNat (msgsC (accOf s.slots)).length ≥ limF n.limit) = false := by rw [hlen]; exact decide_eq_false hc
      have hdue' : minI (IntKind.i64.wrap (clampF i.time 0 17592186044416 + Int.ofNat (perF n.time + 1))) 17592186044416 = due := hdue
      generalize clampF i.time 0 17592186044416 = now at hnow hdue'
      generalize limF n.limit = lim at hlim hd
      obtain ⟨kd, tm, ⟨se, sp⟩, ⟨⟨e, p⟩, ms, o, ⟨a1, a2, a3, a4, a5, a6⟩⟩, x, b1, b2, ⟨c1, c2, c3, c4, c5, c6⟩⟩ := i
      dsimp only at h1 hnow
      subst h1
      have h30 : Gam.pureD (callF tab ext (M + 3)) 30 [.agg n.cells, .agg s.cells, .agg (inX se 1 tm (intsC sp) e (intsC p) ms (intsC o) a1 a2 a3 a4 (cellsL a5) (cellsF a6) x b1 b2 c1 c2 c3 c4 (cellsL c5) (cellsF c6))] = some (.agg (plainO s').cells) :=
        pure_of [(15, .p (num now)), (21, .p (.sl false 10 (msgsC (accOf s.slots)))), (24, .p (num lim)), (25, .b false), (33, .p (nat (perF n.time + 1))), (35, .i due), (38, .p (.agg (keyV due).cells)), (43, .p (.agg s'.cells))] [] (pf8 hnow hw hlim hd hp hdue' hv hadd)
          (x := .agg [num s'.n, num s'.t, .sl false 10 (sltsC s'.slots), .sl true 11 [], .sl true 11 [], .sl true 6 [], .sl true 10 []]) (bx := []) (by kernel_rfl) rfl
      generalize plainO s' = oc at h30 ⊢
      exact pure_of [(8, .p (.agg s.cells)), (11, .b true), (15, .p (.agg oc.cells))] [] (pf3 hcl k8 h30) (x := .agg oc.cells) (bx := []) (by kernel_rfl) rfl
    · obtain ⟨M, rfl⟩ : ∃ M, N = M + 3 := ⟨N - 3, by omega⟩
      have hp := mperiod_pure (M + 1) n
      have hh := mheld_pure s hs (M + 2) (by omega)
      have hlim := mlimit_pure (M + 1) n
      have hv := int_pure (M + 1) due
      have hadd := hb (M + 2) (by omega)
      have hd : decide (Int.ofNat (accOf s.slots).length ≥ limF n.limit) = false := decide_eq_false hc
      generalize limF n.limit = lim at hlim hd
      generalize (accOf s.slots).length = hl at hh hd
      generalize nowF i = now at hdue hnow'
      obtain ⟨kd, tm, ⟨se, sp⟩, ⟨⟨e, p⟩, ms, o, ⟨a1, a2, a3, a4, a5, a6⟩⟩, x, b1, b2, ⟨c1, c2, c3, c4, c5, c6⟩⟩ := i
      dsimp only at h1 hnow'
      subst h1
      exact pure_of [(15, .i now), (23, .b true), (27, .p (nat (perF n.time + 1))), (29, .i due), (31, .p (nat hl)), (33, .p (num lim)), (34, .b false), (42, .p (.agg (keyV due).cells)), (46, .p (.agg s'.cells))] [] (pf9 hnow' k8 hp hdue hh hlim hd hv hadd)
        (x := .agg [num s'.n, num s'.t, .sl false 10 (sltsC s'.slots), .sl true 11 [], .sl true 11 [], .sl true 6 [], .sl true 10 []]) (bx := []) (by kernel_rfl) rfl
end Go.Proofs.YtjfheahakfoofaaGreatDoor

/- released, at outputs that are there already. -/
namespace Go.Proofs.YtjfheahakfoofaaGreatDoor
open Go.Em

section
variable (n : Nod) (x0 y0 : Int) (tt : Bool) (rest outs fates l : List (List X)) (ix : List X) (q j : Nat) (se : Int) (p : List (List X))
def r2Tm (j : Nat) : List (Nat × X) := [(3, .sl false 10 l), (4, .ptr 2 0 0), (5, .ptr 3 0 0), (6, .ptr 4 0 0), (8, .ptr 5 0 0), (9, nat j)]
def r2O (a b q : Nat) : List X := [num x0, num y0, .sl tt 10 rest, .bs a 0 q, .sl true 11 [], .bs b 0 q, .sl true 10 []]
def r2S : St := ⟨r2Tm l j, [.row 11 outs, .row 6 fates, .var n.cells, .var (r2O x0 y0 tt rest 0 1 q), .var ix, .var zOut]⟩
def r2H : St := ⟨r2Tm l j, [.dead, .dead, .var n.cells, .var (r2O x0 y0 tt rest 6 7 q), .var ix, .var zOut, .row 11 outs, .row 6 fates]⟩
def r2SN : St := ⟨r2Tm l (j + 1), [.dead, .dead, .var n.cells, .var (r2O x0 y0 tt rest 9 10 (q + 1)), .var ix, .var zOut, .var [num se, .sl false 1 p], .dead, .dead, .row 11 outs, .row 6 fates]⟩
def r2SN0 : St := ⟨r2Tm l (j + 1), [.dead, .dead, .var n.cells, .var (r2O x0 y0 tt rest 7 8 (q + 1)), .var ix, .var zOut, .var [num se, .sl false 1 p], .row 11 outs, .row 6 fates]⟩
def r2HN : St := ⟨r2Tm l (j + 1), [.dead, .dead, .var n.cells, .var (r2O x0 y0 tt rest 11 12 (q + 1)), .var ix, .var zOut, .dead, .dead, .var [num se, .sl false 1 p], .dead, .dead, .row 11 outs, .row 6 fates]⟩
def r2HN0 : St := ⟨r2Tm l (j + 1), [.dead, .dead, .var n.cells, .var (r2O x0 y0 tt rest 9 10 (q + 1)), .var ix, .var zOut, .dead, .dead, .var [num se, .sl false 1 p], .row 11 outs, .row 6 fates]⟩
end
section
variable (n : Nod) (x0 y0 : Int) (tt : Bool) (rest outs fates l : List (List X)) (q j : Nat) (se : Int) (p : List (List X)) (kd tm e ms x a1 a2 a3 c1 c2 c3 : Int) (sp mp o a5 a6 c5 c6 : List (List X)) (a4 c4 : ByteArray) (b1 b2 : Bool)
theorem r2SN_canon : canon 2 (r2SN n x0 y0 tt rest outs fates l (inX se kd tm sp e mp ms o a1 a2 a3 a4 a5 a6 x b1 b2 c1 c2 c3 c4 c5 c6) q j se p) = some (r2H n x0 y0 tt rest outs fates l (inX se kd tm sp e mp ms o a1 a2 a3 a4 a5 a6 x b1 b2 c1 c2 c3 c4 c5 c6) (q + 1) (j + 1)) := by kernel_rfl
theorem r2SN0_canon : canon 2 (r2SN0 n x0 y0 tt rest outs fates l (inX se kd tm sp e mp ms o a1 a2 a3 a4 a5 a6 x b1 b2 c1 c2 c3 c4 c5 c6) q j se p) = some (r2H n x0 y0 tt rest outs fates l (inX se kd tm sp e mp ms o a1 a2 a3 a4 a5 a6 x b1 b2 c1 c2 c3 c4 c5 c6) (q + 1) (j + 1)) := by kernel_rfl
theorem r2HN_canon : canon 2 (r2HN n x0 y0 tt rest outs fates l (inX se kd tm sp e mp ms o a1 a2 a3 a4 a5 a6 x b1 b2 c1 c2 c3 c4 c5 c6) q j se p) = some (r2H n x0 y0 tt rest outs fates l (inX se kd tm sp e mp ms o a1 a2 a3 a4 a5 a6 x b1 b2 c1 c2 c3 c4 c5 c6) (q + 1) (j + 1)) := by kernel_rfl
theorem r2HN0_canon : canon 2 (r2HN0 n x0 y0 tt rest outs fates l (inX se kd tm sp e mp ms o a1 a2 a3 a4 a5 a6 x b1 b2 c1 c2 c3 c4 c5 c6) q j se p) = some (r2H n x0 y0 tt rest outs fates l (inX se kd tm sp e mp ms o a1 a2 a3 a4 a5 a6 x b1 b2 c1 c2 c3 c4 c5 c6) (q + 1) (j + 1)) := by kernel_rfl
end
theorem r2_first (M : Nat) (hM : 190010 ≤ M) (n : Nod) (x0 y0 : Int) (tt : Bool) (rest outs fates l : List (List X)) (q j : Nat) (i : Inp) (hi : i.ok) (m : Msg) (hm : m.ok) (hg : l[j]? = some m.cells) (hj : j < l.length) (hl : l.length < 4000) (ho : outs.length = q) (hf : fates.length = q) (hq : q < 4000) :
    ∃ υ, run (callF tab ext M) 2 M (loopAt 50 0) (r2S n x0 y0 tt rest outs fates l i.cells q j) = some (.norm, υ) ∧ canon 2 υ = some (r2H n x0 y0 tt rest (outs ++ [(outM i.st m q).cells]) (fates ++ [(fateM n.name i.st m q).cellsB true]) l i.cells (q + 1) (j + 1)) := by
  have hst := hi.st
  rw [inX_cells]
  obtain ⟨kd, tm, ⟨se, sp⟩, ⟨⟨ie, ip⟩, ims, io, ⟨g1, g2, g3, g4, g5, g6⟩⟩, x, b1, b2, ⟨c1, c2, c3, c4, c5, c6⟩⟩ := i
  dsimp only at hst ⊢
  have hc : (childF ⟨se, sp⟩ q).ok := ⟨by show (sp ++ [Int.ofNat q]).length ≤ 60000; simp; omega⟩
  obtain ⟨M', rfl⟩ : ∃ M', M = M' + 1 := ⟨M - 1, by omega⟩
  have hv := move_pure M' m hm (childF ⟨se, sp⟩ q) hc (by omega)
  have hn := intsC_length sp
  unfold outM fateM moveF
  unfold moveF at hv
  cases sp with
  | nil =>
    have e1 : childF ⟨se, []⟩ q = ⟨se, [Int.ofNat q]⟩ := rfl
    rw [e1] at hv ⊢
    obtain ⟨⟨e, p⟩, ms, o, ⟨a1, a2, a3, a4, a5, a6⟩⟩ := m
    exact ⟨r2SN0 n x0 y0 tt rest (outs ++ [(Otp.mk 0 ⟨⟨se, [Int.ofNat q]⟩, ms, o, .mk a1 a2 a3 a4 a5 a6⟩).cells]) (fates ++ [(Fte.mk ⟨e, p⟩ 1 n.name [⟨se, [Int.ofNat q]⟩] ⟨#[]⟩).cellsB true]) l _ q j se [[nat q]],
      run_of [(14, .b true), (34, .e (Msg.mk ⟨e, p⟩ ms o (.mk a1 a2 a3 a4 a5 a6)).cells), (37, .p (.agg (Msg.mk ⟨se, [Int.ofNat q]⟩ ms o (.mk a1 a2 a3 a4 a5 a6)).cells)), (40, .app), (46, .e (Msg.mk ⟨e, p⟩ ms o (.mk a1 a2 a3 a4 a5 a6)).cells), (55, .app), (16, .i (Int.ofNat (j + 1)))] []
        (pf7 (lt_nat (j := j) (k := l.length) hj) hg hv (app_c (i := 4) (bytes := 160) ho.symm (by omega) (by omega)) hg (app_c (i := 5) (bytes := 96) hf.symm (by omega) (by omega)) (next_nat (j := j) (by omega))) (lo' := []) (by kernel_rfl), r2SN0_canon ..⟩
  | cons s0 sp =>
    have e1 : (childF ⟨se, s0 :: sp⟩ q).cells = [num se, .sl false 1 ((intsC (s0 :: sp) ++ [[nat q]]).take (0 + (intsC (s0 :: sp)).length + 1))] := by
      rw [List.take_of_length_le (by simp), show intsC (s0 :: sp) ++ [[nat q]] = intsC (s0 :: sp ++ [Int.ofNat q]) from (intsC_snoc _ _).symm]; rfl
    rw [e1] at hv
    have e2 : ∀ w : Msg, (Otp.mk 0 { w with st := childF ⟨se, s0 :: sp⟩ q }).cells = num 0 :: num se :: .sl false 1 ((intsC (s0 :: sp) ++ [[nat q]]).take (0 + (intsC (s0 :: sp)).length + 1)) :: num w.mass :: .sl false 1 (intsC w.orig) :: w.body.cells := fun w => by
      rw [List.take_of_length_le (by simp), show intsC (s0 :: sp) ++ [[nat q]] = intsC (s0 :: sp ++ [Int.ofNat q]) from (intsC_snoc _ _).symm]; rfl
    have e3 : ∀ w : Msg, (Fte.mk w.st 1 n.name [childF ⟨se, s0 :: sp⟩ q] ⟨#[]⟩).cellsB true = [num w.st.e, .sl false 1 (intsC w.st.p), num 1, strX n.name, .sl true 2 [[num se, .sl false 1 ((intsC (s0 :: sp) ++ [[nat q]]).take (0 + (intsC (s0 :: sp)).length + 1))]], noText] := fun w => by
      rw [← e1]; rfl
    have e4 : ∀ w : Msg, ({ w with st := childF ⟨se, s0 :: sp⟩ q } : Msg).cells = num se :: .sl false 1 ((intsC (s0 :: sp) ++ [[nat q]]).take (0 + (intsC (s0 :: sp)).length + 1)) :: num w.mass :: .sl false 1 (intsC w.orig) :: w.body.cells := fun w => by
      rw [List.take_of_length_le (by simp), show intsC (s0 :: sp) ++ [[nat q]] = intsC (s0 :: sp ++ [Int.ofNat q]) from (intsC_snoc _ _).symm]; rfl
    rw [e4] at hv
    rw [e2, e3]
    obtain ⟨⟨e, p⟩, ms, o, ⟨a1, a2, a3, a4, a5, a6⟩⟩ := m
    have hlen : (intsC (s0 :: sp)).length ≤ 100 := by rw [hn]; exact hst
    exact ⟨r2SN n x0 y0 tt rest _ _ l _ q j se ((intsC (s0 :: sp) ++ [[nat q]]).take (0 + (intsC (s0 :: sp)).length + 1)),
      run_of [(14, .b true), (23, .fresh), (28, .app), (34, .e (Msg.mk ⟨e, p⟩ ms o (.mk a1 a2 a3 a4 a5 a6)).cells), (37, .p (.agg (num se :: .sl false 1 ((intsC (s0 :: sp) ++ [[nat q]]).take (0 + (intsC (s0 :: sp)).length + 1)) :: num ms :: .sl false 1 (intsC o) :: (Val.mk a1 a2 a3 a4 a5 a6).cells))), (40, .app), (46, .e (Msg.mk ⟨e, p⟩ ms o (.mk a1 a2 a3 a4 a5 a6)).cells), (55, .app), (16, .i (Int.ofNat (j + 1)))] []
        (pf10 (lt_nat (j := j) (k := l.length) hj) (show (intsC (s0 :: sp)).isEmpty = false ∧ roomOk (([] : List (List X)).length + (intsC (s0 :: sp)).length) 8 = true from ⟨rfl, room_of (by simp only [List.length_nil]; omega) (by simp only [List.length_nil]; omega)⟩)
          (show 0 + (0 + (intsC (s0 :: sp)).length) = (intsC (s0 :: sp)).length ∧ roomOk (0 + (intsC (s0 :: sp)).length + 1) 8 = true ∧ memN 7 [] = false from ⟨by omega, room_of (by omega) (by omega), rfl⟩)
          (show 0 + (0 + (intsC (s0 :: sp)).length + 1) ≤ (intsC (s0 :: sp) ++ [[nat q]]).length by simp) hg hv (app_c (i := 4) (bytes := 160) ho.symm (by omega) (by omega)) hg (app_c (i := 5) (bytes := 96) hf.symm (by omega) (by omega)) (next_nat (j := j) (by omega))) (lo' := []) (by kernel_rfl), r2SN_canon ..⟩
theorem r2_round (M : Nat) (hM : 190010 ≤ M) (n : Nod) (x0 y0 : Int) (tt : Bool) (rest outs fates l : List (List X)) (q j : Nat) (i : Inp) (hi : i.ok) (m : Msg) (hm : m.ok) (hg : l[j]? = some m.cells) (hj : j < l.length) (hl : l.length < 4000) (ho : outs.length = q) (hf : fates.length = q) (hq : q < 4000) :
    ∃ υ, run (callF tab ext M) 2 M (loopAt 50 0) (r2H n x0 y0 tt rest outs fates l i.cells q j) = some (.norm, υ) ∧ canon 2 υ = some (r2H n x0 y0 tt rest (outs ++ [(outM i.st m q).cells]) (fates ++ [(fateM n.name i.st m q).cellsB true]) l i.cells (q + 1) (j + 1)) := by
  have hst := hi.st
  rw [inX_cells]
  obtain ⟨kd, tm, ⟨se, sp⟩, ⟨⟨ie, ip⟩, ims, io, ⟨g1, g2, g3, g4, g5, g6⟩⟩, x, b1, b2, ⟨c1, c2, c3, c4, c5, c6⟩⟩ := i
  dsimp only at hst ⊢
  have hc : (childF ⟨se, sp⟩ q).ok := ⟨by show (sp ++ [Int.ofNat q]).length ≤ 60000; simp; omega⟩
  obtain ⟨M', rfl⟩ : ∃ M', M = M' + 1 := ⟨M - 1, by omega⟩
  have hv := move_pure M' m hm (childF ⟨se, sp⟩ q) hc (by omega)
  have hn := intsC_length sp
  unfold outM fateM moveF
  unfold moveF at hv
  cases sp with
  | nil =>
    have e1 : childF ⟨se, []⟩ q = ⟨se, [Int.ofNat q]⟩ := rfl
    rw [e1] at hv ⊢
    obtain ⟨⟨e, p⟩, ms, o, ⟨a1, a2, a3, a4, a5, a6⟩⟩ := m
    exact ⟨r2HN0 n x0 y0 tt rest (outs ++ [(Otp.mk 0 ⟨⟨se, [Int.ofNat q]⟩, ms, o, .mk a1 a2 a3 a4 a5 a6⟩).cells]) (fates ++ [(Fte.mk ⟨e, p⟩ 1 n.name [⟨se, [Int.ofNat q]⟩] ⟨#[]⟩).cellsB true]) l _ q j se [[nat q]],
      run_of [(14, .b true), (34, .e (Msg.mk ⟨e, p⟩ ms o (.mk a1 a2 a3 a4 a5 a6)).cells), (37, .p (.agg (Msg.mk ⟨se, [Int.ofNat q]⟩ ms o (.mk a1 a2 a3 a4 a5 a6)).cells)), (40, .app), (46, .e (Msg.mk ⟨e, p⟩ ms o (.mk a1 a2 a3 a4 a5 a6)).cells), (55, .app), (16, .i (Int.ofNat (j + 1)))] []
        (pf7 (lt_nat (j := j) (k := l.length) hj) hg hv (app_c (i := 4) (bytes := 160) ho.symm (by omega) (by omega)) hg (app_c (i := 5) (bytes := 96) hf.symm (by omega) (by omega)) (next_nat (j := j) (by omega))) (lo' := []) (by kernel_rfl), r2HN0_canon ..⟩
  | cons s0 sp =>
    have e1 : (childF ⟨se, s0 :: sp⟩ q).cells = [num se, .sl false 1 ((intsC (s0 :: sp) ++ [[nat q]]).take (0 + (intsC (s0 :: sp)).length + 1))] := by
      rw [List.take_of_length_le (by simp), show intsC (s0 :: sp) ++ [[nat q]] = intsC (s0 :: sp ++ [Int.ofNat q]) from (intsC_snoc _ _).symm]; rfl
    rw [e1] at hv
    have e2 : ∀ w : Msg, (Otp.mk 0 { w with st := childF ⟨se, s0 :: sp⟩ q }).cells = num 0 :: num se :: .sl false 1 ((intsC (s0 :: sp) ++ [[nat q]]).take (0 + (intsC (s0 :: sp)).length + 1)) :: num w.mass :: .sl false 1 (intsC w.orig) :: w.body.cells := fun w => by
      rw [List.take_of_length_le (by simp), show intsC (s0 :: sp) ++ [[nat q]] = intsC (s0 :: sp ++ [Int.ofNat q]) from (intsC_snoc _ _).symm]; rfl
    have e3 : ∀ w : Msg, (Fte.mk w.st 1 n.name [childF ⟨se, s0 :: sp⟩ q] ⟨#[]⟩).cellsB true = [num w.st.e, .sl false 1 (intsC w.st.p), num 1, strX n.name, .sl true 2 [[num se, .sl false 1 ((intsC (s0 :: sp) ++ [[nat q]]).take (0 + (intsC (s0 :: sp)).length + 1))]], noText] := fun w => by
      rw [← e1]; rfl
    have e4 : ∀ w : Msg, ({ w with st := childF ⟨se, s0 :: sp⟩ q } : Msg).cells = num se :: .sl false 1 ((intsC (s0 :: sp) ++ [[nat q]]).take (0 + (intsC (s0 :: sp)).length + 1)) :: num w.mass :: .sl false 1 (intsC w.orig) :: w.body.cells := fun w => by
      rw [List.take_of_length_le (by simp), show intsC (s0 :: sp) ++ [[nat q]] = intsC (s0 :: sp ++ [Int.ofNat q]) from (intsC_snoc _ _).symm]; rfl
    rw [e4] at hv
    rw [e2, e3]
    obtain ⟨⟨e, p⟩, ms, o, ⟨a1, a2, a3, a4, a5, a6⟩⟩ := m
    have hlen : (intsC (s0 :: sp)).length ≤ 100 := by rw [hn]; exact hst
    exact ⟨r2HN n x0 y0 tt rest _ _ l _ q j se ((intsC (s0 :: sp) ++ [[nat q]]).take (0 + (intsC (s0 :: sp)).length + 1)),
      run_of [(14, .b true), (23, .fresh), (28, .app), (34, .e (Msg.mk ⟨e, p⟩ ms o (.mk a1 a2 a3 a4 a5 a6)).cells), (37, .p (.agg (num se :: .sl false 1 ((intsC (s0 :: sp) ++ [[nat q]]).take (0 + (intsC (s0 :: sp)).length + 1)) :: num ms :: .sl false 1 (intsC o) :: (Val.mk a1 a2 a3 a4 a5 a6).cells))), (40, .app), (46, .e (Msg.mk ⟨e, p⟩ ms o (.mk a1 a2 a3 a4 a5 a6)).cells), (55, .app), (16, .i (Int.ofNat (j + 1)))] []
        (pf10 (lt_nat (j := j) (k := l.length) hj) (show (intsC (s0 :: sp)).isEmpty = false ∧ roomOk (([] : List (List X)).length + (intsC (s0 :: sp)).length) 8 = true from ⟨rfl, room_of (by simp only [List.length_nil]; omega) (by simp only [List.length_nil]; omega)⟩)
          (show 0 + (0 + (intsC (s0 :: sp)).length) = (intsC (s0 :: sp)).length ∧ roomOk (0 + (intsC (s0 :: sp)).length + 1) 8 = true ∧ memN 7 [] = false from ⟨by omega, room_of (by omega) (by omega), rfl⟩)
          (show 0 + (0 + (intsC (s0 :: sp)).length + 1) ≤ (intsC (s0 :: sp) ++ [[nat q]]).length by simp) hg hv (app_c (i := 4) (bytes := 160) ho.symm (by omega) (by omega)) hg (app_c (i := 5) (bytes := 96) hf.symm (by omega) (by omega)) (next_nat (j := j) (by omega))) (lo' := []) (by kernel_rfl), r2HN_canon ..⟩
end Go.Proofs.YtjfheahakfoofaaGreatDoor

/- released, as a call at outputs that are there already. -/
namespace Go.Proofs.YtjfheahakfoofaaGreatDoor
open Go.Em

def r2E (n : Nod) (x0 y0 : Int) (rest outs fates l : List (List X)) (ix : List X) (q j : Nat) : St := ⟨r2Tm l j ++ [(14, boolX false)], [.dead, .dead, .var n.cells, .var (r2O x0 y0 false rest 6 7 q), .var ix, .var zOut, .row 11 outs, .row 6 fates]⟩
theorem getD_app {A ms : List Msg} {j : Nat} : (A ++ ms).getD (A.length + j) dM = ms.getD j dM := by
  rw [List.getD_eq_getElem?_getD, List.getD_eq_getElem?_getD, List.getElem?_append_right (by omega)]
  congr 2; omega
set_option maxRecDepth 100000 in
theorem rel2_call (M : Nat) (hM : 190020 ≤ M) (n : Nod) (x0 y0 : Int) (rest : List (List X)) (i : Inp) (hi : i.ok) (A ms : List Msg) (hms : ∀ m, m ∈ ms → m.ok) (hne : ms ≠ []) (hA : A.length + ms.length < 4000) :
    callF tab ext (M + 1) (.fn 50) [.agg n.cells, .agg (r2O x0 y0 false rest 0 1 A.length), .agg i.cells, .sl false 10 (msgsC ms)] [.row 11 (otpsC (outsF i.st (A ++ ms) A.length)), .row 6 (ftesB true (fatesF n.name i.st (A ++ ms) A.length))]
      = some (.agg (r2O x0 y0 false rest 2 3 (A.length + ms.length)), [.dead, .dead, .row 11 (otpsC (outsF i.st (A ++ ms) (A.length + ms.length))), .row 6 (ftesB true (fatesF n.name i.st (A ++ ms) (A.length + ms.length)))]) := by
  have hn := msgsC_length ms
  have hpos : 0 < ms.length := List.length_pos_iff.2 hne
  have hround := fun j (hj : j < ms.length) => (show (ms.getD j dM).ok ∧ (msgsC ms)[j]? = some (ms.getD j dM).cells from ⟨hms _ (getD_mem hj), msgs_getD hj⟩)
  have hloop : run (callF tab ext M) 2 M (.loop (loopAt 50 0)) (r2S n x0 y0 false rest (otpsC (outsF i.st (A ++ ms) A.length)) (ftesB true (fatesF n.name i.st (A ++ ms) A.length)) (msgsC ms) i.cells A.length 0) = some (.exit 0, r2E n x0 y0 rest (otpsC (outsF i.st (A ++ ms) (A.length + ms.length))) (ftesB true (fatesF n.name i.st (A ++ ms) (A.length + ms.length))) (msgsC ms) i.cells (A.length + ms.length) ms.length) := by
    refine loop_for (σ := fun j => if j = 0 then r2S n x0 y0 false rest (otpsC (outsF i.st (A ++ ms) A.length)) (ftesB true (fatesF n.name i.st (A ++ ms) A.length)) (msgsC ms) i.cells A.length 0
      else r2H n x0 y0 false rest (otpsC (outsF i.st (A ++ ms) (A.length + j))) (ftesB true (fatesF n.name i.st (A ++ ms) (A.length + j))) (msgsC ms) i.cells (A.length + j) j) (k := ms.length) ?_ (fun j hj => ?_) ?_ (by simp) (by omega)
    · rw [if_pos rfl, inX_cells]
      obtain ⟨kd, tm, ⟨se, sp⟩, ⟨⟨ie, ip⟩, ims, io, ⟨g1, g2, g3, g4, g5, g6⟩⟩, x, b1, b2, ⟨c1, c2, c3, c4, c5, c6⟩⟩ := i
      kernel_rfl
    · obtain ⟨h1, h2⟩ := hround j hj
      rw [if_neg (show ¬ j + 1 = 0 by omega), ← Nat.add_assoc]
      by_cases hj0 : j = 0
      · subst hj0
        rw [if_pos rfl, Nat.add_zero]
        have h := r2_first M (by omega) n x0 y0 false rest (otpsC (outsF i.st (A ++ ms) A.length)) (ftesB true (fatesF n.name i.st (A ++ ms) A.length)) (msgsC ms) A.length 0 i hi (ms.getD 0 dM) h1 h2 (by omega) (by omega) (outsF_length _ _ _) (fatesB_length _ _ _ _ _) (by omega)
        have e := getD_app (A := A) (ms := ms) (j := 0)
        rw [Nat.add_zero] at e
        rw [← e, ← outsF_succ, ← ftesB_succ] at h
        exact h
      · rw [if_neg hj0]
        have h := r2_round M (by omega) n x0 y0 false rest (otpsC (outsF i.st (A ++ ms) (A.length + j))) (ftesB true (fatesF n.name i.st (A ++ ms) (A.length + j))) (msgsC ms) (A.length + j) j i hi (ms.getD j dM) h1 h2 (by omega) (by omega) (outsF_length _ _ _) (fatesB_length _ _ _ _ _) (by omega)
        rw [← getD_app (A := A) (ms := ms) (j := j), ← outsF_succ, ← ftesB_succ] at h
        exact h
    · rw [if_neg (by omega)]
      generalize otpsC (outsF i.st (A ++ ms) (A.length + ms.length)) = o1
      generalize ftesB true (fatesF n.name i.st (A ++ ms) (A.length + ms.length)) = f1
      generalize A.length + ms.length = q
      rw [← hn]
      exact run_of [(14, .b false)] [] (pf1 (nlt_nat (j := (msgsC ms).length) (k := (msgsC ms).length) (Nat.lt_irrefl _))) (lo' := []) (by kernel_rfl)
  generalize otpsC (outsF i.st (A ++ ms) (A.length + ms.length)) = o1 at hloop ⊢
  generalize ftesB true (fatesF n.name i.st (A ++ ms) (A.length + ms.length)) = f1 at hloop ⊢
  generalize otpsC (outsF i.st (A ++ ms) A.length) = o0 at hloop ⊢
  generalize ftesB true (fatesF n.name i.st (A ++ ms) A.length) = f0 at hloop ⊢
  generalize A.length + ms.length = q1 at hloop ⊢
  generalize A.length = q0 at hloop ⊢
  generalize ms.length = k at hloop
  rw [inX_cells] at hloop ⊢
  obtain ⟨kd, tm, ⟨se, sp⟩, ⟨⟨ie, ip⟩, ims, io, ⟨g1, g2, g3, g4, g5, g6⟩⟩, x, b1, b2, ⟨c1, c2, c3, c4, c5, c6⟩⟩ := i
  exact callF_of [] [(.exit 0, r2E n x0 y0 rest o1 f1 (msgsC ms) (inX se kd tm (intsC sp) ie (intsC ip) ims (intsC io) g1 g2 g3 g4 (cellsL g5) (cellsF g6) x b1 b2 c1 c2 c3 c4 (cellsL c5) (cellsF c6)) q1 k)] (pf1 hloop) (by kernel_rfl)
end Go.Proofs.YtjfheahakfoofaaGreatDoor

/- The document's delay at a tick of the clock. -/
namespace Go.Proofs.YtjfheahakfoofaaGreatDoor
open Go.Em

section
variable (n : Nod) (ci : Cin) (a b now : Int) (ss rest outs fates : List (List X)) (q r j : Nat) (sc : List X)
def mdTm (k r j : Nat) : List (Nat × X) := [(3, .ptr 0 0 0), (4, .ptr 1 0 0), (5, .ptr 2 0 0), (6, .ptr 3 0 0), (7, num now), (9, .ptr 4 0 0), (10, .bs k 0 r), (11, nat j)]
def mdSt : List X := [num a, num b, .sl false 10 ss]
def mdOut : List X := [num a, num b, .sl false 10 ss, .sl true 11 [], .sl true 11 [], .sl true 6 [], .sl true 10 []]
def md0 : St := ⟨mdTm now 5 r j, [.var n.cells, .var (mdSt a b ss), .var (ci.cells 2), .var zOut, .var (mdOut a b ss), .row 10 rest]⟩
def md1 : St := ⟨mdTm now 5 r j, [.var n.cells, .var (mdSt a b ss), .var (ci.cells 2), .var zOut, .var (r2O a b false ss 6 7 q), .row 10 rest, .row 11 outs, .row 6 fates]⟩
def mdD : St := ⟨mdTm now 5 r (j + 1), [.var n.cells, .var (mdSt a b ss), .var (ci.cells 2), .var zOut, .var (r2O a b false ss 8 9 q), .row 10 rest, .dead, .dead, .row 11 outs, .row 6 fates]⟩
def mdT0 : St := ⟨mdTm now 6 (r + 1) (j + 1), [.var n.cells, .var (mdSt a b ss), .var (ci.cells 2), .var zOut, .var (mdOut a b ss), .dead, .row 10 (rest ++ [sc])]⟩
def mdT1 : St := ⟨mdTm now 8 (r + 1) (j + 1), [.var n.cells, .var (mdSt a b ss), .var (ci.cells 2), .var zOut, .var (r2O a b false ss 6 7 q), .dead, .row 11 outs, .row 6 fates, .row 10 (rest ++ [sc])]⟩
theorem md1_canon : canon 0 (md1 n ci a b now ss rest outs fates q r j) = some (md1 n ci a b now ss rest outs fates q r j) := by kernel_rfl
theorem mdD_canon : canon 0 (mdD n ci a b now ss rest outs fates q r j) = some (md1 n ci a b now ss rest outs fates q r (j + 1)) := by kernel_rfl
theorem mdT0_canon : canon 0 (mdT0 n ci a b now ss rest r j sc) = some (md0 n ci a b now ss (rest ++ [sc]) (r + 1) (j + 1)) := by kernel_rfl
theorem mdT1_canon : canon 0 (mdT1 n ci a b now ss rest outs fates q r j sc) = some (md1 n ci a b now ss (rest ++ [sc]) outs fates q (r + 1) (j + 1)) := by kernel_rfl
end
theorem md_stay (M : Nat) (n : Nod) (ci : Cin) (a b now : Int) (ss rest : List (List X)) (r j : Nat) (x : Slt) (hj : j < ss.length) (hl : ss.length ≤ 1000) (hg : ss[j]? = some x.cells) (hx : ¬ x.t ≤ now) (hr : rest.length = r) (hr2 : r ≤ 1000) :
    (∃ υ, run (callF tab ext M) 0 M (loopAt 18 0) (md0 n ci a b now ss rest r j) = some (.norm, υ) ∧ canon 0 υ = some (md0 n ci a b now ss (rest ++ [x.cells]) (r + 1) (j + 1))) ∧
    ∀ (outs fates : List (List X)) (q : Nat), ∃ υ, run (callF tab ext M) 0 M (loopAt 18 0) (md1 n ci a b now ss rest outs fates q r j) = some (.norm, υ) ∧ canon 0 υ = some (md1 n ci a b now ss (rest ++ [x.cells]) outs fates q (r + 1) (j + 1)) := by
  have h1 := lt_nat hj
  have h3 : decide (x.t ≤ now) = false := decide_eq_false hx
  have hnx := next_nat (j := j) (by omega)
  have happ := apps_ok (acc := rest) r 1 5 152 hr.symm (by omega) (by omega)
  obtain ⟨⟨k, i, s, tx, vl, fl⟩, n2, c, ms, vs⟩ := x
  refine ⟨⟨mdT0 n ci a b now ss rest r j (slotC k i s tx (cellsL vl) (cellsF fl) n2 c (msgsC ms) (cellsL vs)), ?_, mdT0_canon ..⟩, fun outs fates q => ⟨mdT1 n ci a b now ss rest outs fates q r j (slotC k i s tx (cellsL vl) (cellsF fl) n2 c (msgsC ms) (cellsL vs)), ?_, mdT1_canon ..⟩⟩
  · exact run_of [(63, .b true), (69, .e (slotC k i s tx (cellsL vl) (cellsF fl) n2 c (msgsC ms) (cellsL vs))), (73, .b false), (88, .e (slotC k i s tx (cellsL vl) (cellsF fl) n2 c (msgsC ms) (cellsL vs))), (91, .app), (65, .i (Int.ofNat (j + 1)))] [] (pf6 h1 hg h3 hg happ hnx) (lo' := []) (by kernel_rfl)
  · exact run_of [(63, .b true), (69, .e (slotC k i s tx (cellsL vl) (cellsF fl) n2 c (msgsC ms) (cellsL vs))), (73, .b false), (88, .e (slotC k i s tx (cellsL vl) (cellsF fl) n2 c (msgsC ms) (cellsL vs))), (91, .app), (65, .i (Int.ofNat (j + 1)))] [] (pf6 h1 hg h3 hg happ hnx) (lo' := []) (by kernel_rfl)
theorem md_go (M : Nat) (n : Nod) (ci : Cin) (a b now : Int) (ss rest o1 f1 : List (List X)) (r j q1 : Nat) (x : Slt) (hj : j < ss.length) (hl : ss.length ≤ 1000) (hg : ss[j]? = some x.cells) (hx : x.t ≤ now) :
    (callF tab ext M (.fn 50) [.agg n.cells, .agg (mdOut a b ss), .agg (ci.cells 2), .sl false 10 (msgsC x.items)] [] = some (.agg (r2O a b false ss 0 1 q1), [.row 11 o1, .row 6 f1]) →
      ∃ υ, run (callF tab ext M) 0 M (loopAt 18 0) (md0 n ci a b now ss rest r j) = some (.norm, υ) ∧ canon 0 υ = some (md1 n ci a b now ss rest o1 f1 q1 r (j + 1))) ∧
    ∀ (outs fates : List (List X)) (q : Nat), callF tab ext M (.fn 50) [.agg n.cells, .agg (r2O a b false ss 0 1 q), .agg (ci.cells 2), .sl false 10 (msgsC x.items)] [.row 11 outs, .row 6 fates] = some (.agg (r2O a b false ss 2 3 q1), [.dead, .dead, .row 11 o1, .row 6 f1]) →
      ∃ υ, run (callF tab ext M) 0 M (loopAt 18 0) (md1 n ci a b now ss rest outs fates q r j) = some (.norm, υ) ∧ canon 0 υ = some (md1 n ci a b now ss rest o1 f1 q1 r (j + 1)) := by
  have h1 := lt_nat hj
  have h3 : decide (x.t ≤ now) = true := decide_eq_true hx
  have hnx := next_nat (j := j) (by omega)
  obtain ⟨⟨k, i, s, tx, vl, fl⟩, n2, c, ms, vs⟩ := x
  refine ⟨fun hrel => ⟨md1 n ci a b now ss rest o1 f1 q1 r (j + 1), ?_, md1_canon ..⟩, fun outs fates q hrel => ⟨mdD n ci a b now ss rest o1 f1 q1 r j, ?_, mdD_canon ..⟩⟩
  · exact run_of [(63, .b true), (69, .e (slotC k i s tx (cellsL vl) (cellsF fl) n2 c (msgsC ms) (cellsL vs))), (73, .b true), (80, .e (slotC k i s tx (cellsL vl) (cellsF fl) n2 c (msgsC ms) (cellsL vs))), (83, .r (.agg (r2O a b false ss 0 1 q1)) [.row 11 o1, .row 6 f1]), (65, .i (Int.ofNat (j + 1)))] [] (pf6 h1 hg h3 hg hrel hnx) (lo' := []) (by kernel_rfl)
  · exact run_of [(63, .b true), (69, .e (slotC k i s tx (cellsL vl) (cellsF fl) n2 c (msgsC ms) (cellsL vs))), (73, .b true), (80, .e (slotC k i s tx (cellsL vl) (cellsF fl) n2 c (msgsC ms) (cellsL vs))), (83, .r (.agg (r2O a b false ss 2 3 q1)) [.dead, .dead, .row 11 o1, .row 6 f1]), (65, .i (Int.ofNat (j + 1)))] [] (pf6 h1 hg h3 hg hrel hnx) (lo' := []) (by kernel_rfl)
end Go.Proofs.YtjfheahakfoofaaGreatDoor

/- The document's delay at a tick of the clock: the whole. -/
namespace Go.Proofs.YtjfheahakfoofaaGreatDoor
open Go.Em

theorem outsF_pre (b : Stp) (A ms : List Msg) : outsF b (A ++ ms) A.length = outsF b A A.length := by
  unfold outsF
  refine List.map_congr_left fun i hi => ?_
  have hi' := List.mem_range.1 hi
  rw [List.getD_eq_getElem?_getD, List.getD_eq_getElem?_getD, List.getElem?_append_left hi']
theorem fatesF_pre (nm : ByteArray) (b : Stp) (A ms : List Msg) : fatesF nm b (A ++ ms) A.length = fatesF nm b A A.length := by
  unfold fatesF
  refine List.map_congr_left fun i hi => ?_
  have hi' := List.mem_range.1 hi
  rw [List.getD_eq_getElem?_getD, List.getD_eq_getElem?_getD, List.getElem?_append_left hi']

/-- The state of the loop behind the first slots. -/
def mdAt (n : Nod) (ci : Cin) (b : Stp) (a c now : Int) (ss : List Slt) (pre : List Slt) (j : Nat) : St :=
  if (goL now pre).length = 0 then md0 n ci a c now (sltsC ss) (sltsC (stayL now pre)) (stayL now pre).length j
  else md1 n ci a c now (sltsC ss) (sltsC (stayL now pre)) (otpsC (outsF b (goL now pre) (goL now pre).length)) (ftesB true (fatesF n.name b (goL now pre) (goL now pre).length)) (goL now pre).length (stayL now pre).length j
def mdEnd (n : Nod) (ci : Cin) (b : Stp) (a c now : Int) (ss : List Slt) : St := ⟨(mdAt n ci b a c now ss ss (sltsC ss).length).tm ++ [(63, boolX false)], (mdAt n ci b a c now ss ss (sltsC ss).length).bx⟩

theorem md_loop (M : Nat) (hM : 190030 ≤ M) (n : Nod) (i : Inp) (hi : i.ok) (ci : Cin) (hci : i.cells = ci.cells 2) (a c now : Int) (ss : List Slt) (hs : ss.length ≤ 100) (hne : ∀ x, x ∈ ss → x.items ≠ []) (hok : ∀ m, m ∈ accOf ss → m.ok) (hacc : (accOf ss).length ≤ 3000) {τ : St} (hτ : canon 0 τ = some (md0 n ci a c now (sltsC ss) [] 0 0)) :
    run (callF tab ext M) 0 M (.loop (loopAt 18 0)) τ = some (.exit 1, mdEnd n ci i.st a c now ss) := by
  have hn := sltsC_length ss
  refine loop_for (σ := fun j => mdAt n ci i.st a c now ss (ss.take j) j) (k := (sltsC ss).length) (by rw [hτ]; rfl) (fun j hj => ?_) ?_ (by simp) (by omega)
  · have hj' : j < ss.length := by omega
    have hg := sltsC_get hj'
    have e1 : ss.take (j + 1) = ss.take j ++ [ss[j]] := List.take_succ_eq_append_getElem hj'
    have h1 : (goL now (ss.take j)).length ≤ (accOf ss).length := Nat.le_trans (goL_le _ _) (accOf_take_le ss j)
    have h2 : (stayL now (ss.take j)).length ≤ 100 := Nat.le_trans (List.length_filter_le _ _) (by rw [List.length_take]; omega)
    have hmem := List.getElem_mem hj'
    have hxn := hne _ hmem
    have hxo : ∀ m, m ∈ ss[j].items → m.ok := fun m hm => hok m (List.mem_flatMap.2 ⟨_, hmem, hm⟩)
    have h3 : (goL now (ss.take j)).length + ss[j].items.length ≤ (accOf ss).length := by
      have h5 : (accOf (ss.take (j + 1))).length = (accOf (ss.take j)).length + ss[j].items.length := by rw [e1, accOf_append, List.length_append]
      have h6 := accOf_take_le ss (j + 1)
      have h7 := goL_le now (ss.take j)
      omega
    have hrl := sltsC_length (stayL now (ss.take j))
    obtain ⟨M', rfl⟩ : ∃ M', M = M' + 1 := ⟨M - 1, by omega⟩
    unfold mdAt
    rw [e1, goL_snoc, stayL_snoc]
    generalize ss[j] = x at hg hxn hxo h3
    generalize hA : goL now (ss.take j) = A at h1 h3
    generalize stayL now (ss.take j) = St at h2 hrl
    have hpos : 0 < x.items.length := List.length_pos_iff.2 hxn
    by_cases hx : x.t ≤ now
    · rw [if_pos hx, if_pos hx, if_neg (show ¬ (A ++ x.items).length = 0 by rw [List.length_append]; omega)]
      by_cases h0 : A.length = 0
      · obtain rfl : A = [] := List.length_eq_zero_iff.1 h0
        rw [if_pos h0, List.nil_append]
        have hrel := mreleased_pure M' (by omega) n a c (sltsC ss) i hi x.items hxo (by omega)
        rw [hci] at hrel
        exact (md_go (M' + 1) n ci a c now (sltsC ss) (sltsC St) _ _ St.length j _ x hj (by omega) hg hx).1 hrel
      · rw [if_neg h0, List.length_append]
        have hrel := rel2_call M' (by omega) n a c (sltsC ss) i hi A x.items hxo hxn (by omega)
        rw [outsF_pre, fatesF_pre, hci] at hrel
        exact (md_go (M' + 1) n ci a c now (sltsC ss) (sltsC St) _ _ St.length j _ x hj (by omega) hg hx).2 _ _ _ hrel
    · rw [if_neg hx, if_neg hx]
      have h := md_stay (M' + 1) n ci a c now (sltsC ss) (sltsC St) St.length j x hj (by omega) hg hx hrl (by omega)
      have e2 : sltsC (St ++ [x]) = sltsC St ++ [x.cells] := by simp [sltsC]
      have e3 : (St ++ [x]).length = St.length + 1 := List.length_append.trans rfl
      rw [e2, e3]
      by_cases h0 : A.length = 0
      · rw [if_pos h0, if_pos h0]; exact h.1
      · rw [if_neg h0, if_neg h0]; exact h.2 _ _ _
  · have e : ss.take (sltsC ss).length = ss := List.take_of_length_le (by omega)
    rw [e]
    unfold mdEnd mdAt
    by_cases h0 : (goL now ss).length = 0
    · rw [if_pos h0]
      exact run_of [(63, .b false)] [] (pf1 (nlt_nat (Nat.lt_irrefl (sltsC ss).length))) (lo' := []) (by kernel_rfl)
    · rw [if_neg h0]
      exact run_of [(63, .b false)] [] (pf1 (nlt_nat (Nat.lt_irrefl (sltsC ss).length))) (lo' := []) (by kernel_rfl)

set_option maxRecDepth 100000 in
theorem mdel_clk (N : Nat) (hN : 190060 ≤ N) (n : Nod) (hk : n.kind = 8) (s : Stt) (hs : s.small) (hne : ∀ x, x ∈ s.slots → x.items ≠ []) (hacc : (accOf s.slots).length ≤ 3000) (i : Inp) (hi : i.ok) (h2 : i.kind = 2) :
    Gam.pureD (callF tab ext N) 18 [.agg n.cells, .agg s.cells, .agg i.cells] = some (.agg ((delF n s i.st (nowF i)).cellsB true)) := by
  obtain ⟨M, rfl⟩ : ∃ M, N = M + 1 := ⟨N - 1, by omega⟩
  obtain ⟨ci, hci, c1, c2, c3⟩ := cin_of i
  rw [h2] at hci
  have k8 : (n.kind == 8) = true := by simpa using hk
  have hnow' : (if 0 < (if 17592186044416 < ci.tm then 17592186044416 else ci.tm) then (if 17592186044416 < ci.tm then 17592186044416 else ci.tm) else 0) = nowF i := by
    rw [c1]
    unfold nowF clampF maxTime
    rw [minI_comm]; rfl
  generalize nowF i = now at hnow' ⊢
  have hloop := md_loop M (by omega) n i hi ci hci s.n s.t now s.slots hs.slots hne (accOf_ok hs) hacc
    (τ := ⟨[(3, .ptr 0 0 0), (4, .ptr 1 0 0), (5, .ptr 2 0 0), (6, .ptr 3 0 0), (7, num now), (9, .ptr 4 0 0), (10, .bs 5 0 0), (11, num 0)], [.var n.cells, .var s.cells, .var (ci.cells 2), .var zOut, .var (mdOut s.n s.t (sltsC s.slots)), .row 10 []]⟩) (by kernel_rfl)
  rw [hci]
  unfold mdEnd mdAt at hloop
  unfold delF
  have hsl := sltsC_length (stayL now s.slots)
  have ho := outsF_length i.st (goL now s.slots) (goL now s.slots).length
  have hf := fatesB_length true n.name i.st (goL now s.slots) (goL now s.slots).length
  by_cases h0 : (goL now s.slots).length = 0
  · rw [if_pos h0, ← hsl] at hloop
    rw [h0]
    generalize stayL now s.slots = st at hloop ⊢
    have hd : (X.agg [num s.n, num s.t, .bs 0 0 (sltsC st).length, .sl true 11 [], .sl true 11 [], .sl true 6 [], .sl true 10 []]).data [.row 10 (sltsC st)] false = some (.agg ((Ocm.mk ⟨s.n, s.t, st⟩ (outsF i.st (goL now s.slots) 0) (fatesF n.name i.st (goL now s.slots) 0) []).cellsB true)) := by
      simp [X.data, dataL, rowOf, num, Ocm.cellsB, msgsC, otpsC, ftesB, outsF, fatesF]
    exact pure_of [(15, .i now), (55, .b true)] [(.exit 1, ⟨(md0 n ci s.n s.t now (sltsC s.slots) (sltsC st) (sltsC st).length (sltsC s.slots).length).tm ++ [(63, boolX false)], (md0 n ci s.n s.t now (sltsC s.slots) (sltsC st) (sltsC st).length (sltsC s.slots).length).bx⟩)] (pf3 hnow' k8 hloop)
      (x := .agg [num s.n, num s.t, .bs 0 0 (sltsC st).length, .sl true 11 [], .sl true 11 [], .sl true 6 [], .sl true 10 []]) (bx := [.row 10 (sltsC st)]) (by kernel_rfl) hd
  · rw [if_neg h0, ← hsl] at hloop
    generalize stayL now s.slots = st at hloop ⊢
    generalize outsF i.st (goL now s.slots) (goL now s.slots).length = os at hloop ho ⊢
    generalize fatesF n.name i.st (goL now s.slots) (goL now s.slots).length = fs at hloop hf ⊢
    generalize (goL now s.slots).length = q at hloop ho hf
    have hd : (X.agg [num s.n, num s.t, .bs 0 0 (sltsC st).length, .bs 1 0 q, .sl true 11 [], .bs 2 0 q, .sl true 10 []]).data [.row 10 (sltsC st), .row 11 (otpsC os), .row 6 (ftesB true fs)] false = some (.agg ((Ocm.mk ⟨s.n, s.t, st⟩ os fs []).cellsB true)) := by
      subst ho
      simp [X.data, dataL, rowOf, num, Ocm.cellsB, hf, msgsC]
      rw [List.take_of_length_le (Nat.le_of_eq hf)]
    exact pure_of [(15, .i now), (55, .b true)] [(.exit 1, ⟨(md1 n ci s.n s.t now (sltsC s.slots) (sltsC st) (otpsC os) (ftesB true fs) q (sltsC st).length (sltsC s.slots).length).tm ++ [(63, boolX false)], (md1 n ci s.n s.t now (sltsC s.slots) (sltsC st) (otpsC os) (ftesB true fs) q (sltsC st).length (sltsC s.slots).length).bx⟩)] (pf3 hnow' k8 hloop)
      (x := .agg [num s.n, num s.t, .bs 0 0 (sltsC st).length, .bs 1 0 q, .sl true 11 [], .bs 2 0 q, .sl true 10 []]) (bx := [.row 10 (sltsC st), .row 11 (otpsC os), .row 6 (ftesB true fs)]) (by kernel_rfl) hd
end Go.Proofs.YtjfheahakfoofaaGreatDoor

/- A tick of the clock, and what is due: the plain law. -/
namespace Go.Proofs.YtjfheahakfoofaaGreatDoor
open Go.Em

/-! ### What a state that passes says of its numbers -/
def numbF (x y : Int) : Int := if x < -999999999999999 then 2 else if 999999999999999 < x then 2 else if y < 0 then 2 else if 17592186044416 < y then 2 else 0
/-! ### Windows -/
end Go.Proofs.YtjfheahakfoofaaGreatDoor
