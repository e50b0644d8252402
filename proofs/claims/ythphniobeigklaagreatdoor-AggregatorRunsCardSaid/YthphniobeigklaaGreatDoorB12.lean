/- path.Find at items[*].n, exactly. -/
import Derived.Test.YthphniobeigklaaGreatDoorB11
set_option linter.all false
namespace Go.Proofs.YthphniobeigklaaGreatDoor.Ag
open Go Go.Em Go.Proofs.YthphniobeigklaaGreatDoor
set_option maxRecDepth 100000

def kNm : ByteArray := ⟨#[107]⟩
def nNm : ByteArray := ⟨#[110]⟩
def itemsNm : ByteArray := ⟨#[105, 116, 101, 109, 115]⟩
def kv (n : Int) : Val := .mk 2 n 0 ⟨#[]⟩ [] []
/-- The body of a message, with or without a key. -/
def bodyV : Option Int → Nat → Val
  | some k, n => .mk 9 0 0 ⟨#[]⟩ [] [(kNm, kv k), (nNm, kv n)]
  | none, n => .mk 9 0 0 ⟨#[]⟩ [] [(nNm, kv n)]
abbrev Bd := Option Int × Nat
def bdC (l : List Bd) : List (List X) := l.map fun b => (bodyV b.1 b.2).cells
def kvs (l : List Bd) : List (List X) := l.map fun b => (kv b.2).cells
/-- A list of bodies as a value. -/
def itemsC (es : List (List X)) : List X := [num 8, num 0, num 0, strX ⟨#[]⟩, .sl false 6 es, .sl false 7 []]
/-- A list, with or without a row of fields. -/
def itemsG (g : Bool) (es : List (List X)) : List X := [num 8, num 0, num 0, strX ⟨#[]⟩, .sl false 6 es, .sl g 7 []]
theorem bdC_len (l : List Bd) : (bdC l).length = l.length := by simp [bdC]
theorem bdC_get {l : List Bd} {j : Nat} (h : j < l.length) : (bdC l)[j]? = some (bodyV l[j].1 l[j].2).cells := by simp [bdC, h]
theorem kvs_len (l : List Bd) : (kvs l).length = l.length := by simp [kvs]
theorem kvs_get {l : List Bd} {j : Nat} (h : j < l.length) : (kvs l)[j]? = some (kv l[j].2).cells := by simp [kvs, h]
/-- A body, tight or not. -/
def bodyG (w : Bool) : Option Int → Nat → List X
  | some k, n => [num 9, num 0, num 0, strX ⟨#[]⟩, .sl w 6 [], .sl w 7 [strX kNm :: (kv k).cells, strX nNm :: (kv n).cells]]
  | none, n => [num 9, num 0, num 0, strX ⟨#[]⟩, .sl w 6 [], .sl w 7 [strX nNm :: (kv n).cells]]
theorem bodyG_false (o : Option Int) (n : Nat) : bodyG false o n = (bodyV o n).cells := by cases o <;> rfl
def bdG (w : Bool) (l : List Bd) : List (List X) := l.map fun b => bodyG w b.1 b.2
theorem bdG_false (l : List Bd) : bdG false l = bdC l := by
  unfold bdG bdC
  exact List.map_congr_left fun b _ => bodyG_false b.1 b.2
theorem bdG_len (w : Bool) (l : List Bd) : (bdG w l).length = l.length := by simp [bdG]
theorem bdG_get (w : Bool) {l : List Bd} {j : Nat} (h : j < l.length) : (bdG w l)[j]? = some (bodyG w l[j].1 l[j].2) := by simp [bdG, h]
def partC (k : Int) (nm : ByteArray) : List X := [num k, num 0, strX nm]
def ps3 : List (List X) := [partC 1 itemsNm, partC 3 ⟨#[]⟩, partC 1 nNm]
section
variable (t2 fl : Bool) (ps now acc es : List (List X)) (pk pi : Int) (nm : ByteArray) (np j n m i : Nat) (N : Nat)
def fiH : St := ⟨[(1, .sl t2 3 ps), (9, .ptr 0 0 0), (10, .bs 1 0 m), (23, .sl t2 3 ps), (24, nat np), (25, nat j), (29, .sl fl 6 now), (30, nat n), (31, nat i)], [.var [num pk, num pi, strX nm], .row 6 acc]⟩
def fiE : St := ⟨[(1, .sl t2 3 ps), (9, .ptr 0 0 0), (10, .bs 1 0 m), (23, .sl t2 3 ps), (24, nat np), (25, nat j), (29, .sl fl 6 now), (30, nat n), (31, nat i), (32, boolX false)], [.var [num pk, num pi, strX nm], .row 6 acc]⟩
theorem fi_canon : canon 0 (fiH t2 fl ps now acc pk pi nm np j n m i) = some (fiH t2 fl ps now acc pk pi nm np j n m i) := by kernel_rfl
theorem fi_end (h : ¬ i < n) : run (callF tab ext N) 0 N (loopAt 189 1) (fiH t2 fl ps now acc pk pi nm np j n m i) = some (.exit 2, fiE t2 fl ps now acc pk pi nm np j n m i) :=
  run_of [(32, .b false)] [] (pf1 (nlt_nat h)) (lo' := []) (by kernel_rfl)
theorem fi_round (a b c : Int) (d : ByteArray) (f1 f2 : Bool) (l0 fs0 r : List (List X)) (hi : i < n) (hi2 : i < 100000) (hm : m = acc.length) (hm2 : m + r.length < 100000) (he : now[i]? = some [num a, num b, num c, strX d, .sl f1 6 l0, .sl f2 7 fs0])
    (h253 : Gam.pureD (callF tab ext N) 253 [.agg [num pk, num pi, strX nm], .agg [num a, num b, num c, strX d, .sl false 6 l0, .sl false 7 fs0]] = some (boolX true))
    (h254 : Gam.pureD (callF tab ext N) 254 [.agg [num pk, num pi, strX nm], .agg [num a, num b, num c, strX d, .sl false 6 l0, .sl false 7 fs0]] = some (.sl false 6 r)) :
    ∃ υ, run (callF tab ext N) 0 N (loopAt 189 1) (fiH t2 fl ps now acc pk pi nm np j n m i) = some (.norm, υ) ∧ canon 0 υ = some (fiH t2 fl ps now (acc ++ r) pk pi nm np j n (m + r.length) (i + 1)) := by
  have h1 := lt_nat hi
  have h2 := next_nat (j := i) (by omega)
  have h3 : 0 + m = acc.length ∧ roomOk (m + r.length) 88 = true ∧ false = false := ⟨by omega, room_of (by omega) (by omega), rfl⟩
  exact rd_of [(32, .b true), (33, .e [num a, num b, num c, strX d, .sl f1 6 l0, .sl f2 7 fs0]), (37, .p (boolX true)), (42, .p (.sl false 6 r)), (43, .app), (44, .i (Int.ofNat (i + 1)))] (pf6 h1 he h253 h254 h3 h2) (by kernel_rfl)
end
theorem lead_n (b : Bd) (N : Nat) : Gam.pureD (callF tab ext (N + 60)) 253 [.agg (partC 1 nNm), .agg (bodyV b.1 b.2).cells] = some (boolX true) ∧ Gam.pureD (callF tab ext (N + 60)) 254 [.agg (partC 1 nNm), .agg (bodyV b.1 b.2).cells] = some (.sl false 6 [(kv b.2).cells]) := by
  obtain ⟨o, n⟩ := b
  cases o with
  | none => exact ⟨by kernel_rfl, by kernel_rfl⟩
  | some k => exact ⟨by kernel_rfl, by kernel_rfl⟩
theorem lead_all (es : List (List X)) (N : Nat) : Gam.pureD (callF tab ext (N + 60)) 253 [.agg (partC 3 ⟨#[]⟩), .agg (itemsC es)] = some (boolX true) ∧ Gam.pureD (callF tab ext (N + 60)) 254 [.agg (partC 3 ⟨#[]⟩), .agg (itemsC es)] = some (.sl false 6 es) := ⟨by kernel_rfl, by kernel_rfl⟩
/-- One value alone. -/
theorem fi_one (t2 fl : Bool) (ps : List (List X)) (pk : Int) (nm : ByteArray) (np j : Nat) (a b c : Int) (d : ByteArray) (f1 f2 : Bool) (l0 fs0 r : List (List X)) (hr : r.length ≤ 10000) (N : Nat) (hN : 100 ≤ N)
    (h253 : Gam.pureD (callF tab ext N) 253 [.agg (partC pk nm), .agg [num a, num b, num c, strX d, .sl false 6 l0, .sl false 7 fs0]] = some (boolX true))
    (h254 : Gam.pureD (callF tab ext N) 254 [.agg (partC pk nm), .agg [num a, num b, num c, strX d, .sl false 6 l0, .sl false 7 fs0]] = some (.sl false 6 r)) :
    run (callF tab ext N) 0 N (.loop (loopAt 189 1)) (fiH t2 fl ps [[num a, num b, num c, strX d, .sl f1 6 l0, .sl f2 7 fs0]] [] pk 0 nm np j 1 0 0) = some (.exit 2, fiE t2 fl ps [[num a, num b, num c, strX d, .sl f1 6 l0, .sl f2 7 fs0]] r pk 0 nm np j 1 r.length 1) := by
  refine loop_for (σ := fun i => if i = 0 then fiH t2 fl ps [[num a, num b, num c, strX d, .sl f1 6 l0, .sl f2 7 fs0]] [] pk 0 nm np j 1 0 0 else fiH t2 fl ps [[num a, num b, num c, strX d, .sl f1 6 l0, .sl f2 7 fs0]] r pk 0 nm np j 1 r.length 1) (k := 1) ?_ (fun i hi => ?_) ?_ (by simp) (by omega)
  · rw [if_pos rfl]
    exact fi_canon ..
  · obtain rfl : i = 0 := by omega
    have key := fi_round t2 fl ps [[num a, num b, num c, strX d, .sl f1 6 l0, .sl f2 7 fs0]] [] pk 0 nm np j 1 0 0 N a b c d f1 f2 l0 fs0 r (by omega) (by omega) rfl (by omega) rfl h253 h254
    rw [Nat.zero_add, List.nil_append] at key
    exact key
  · rw [if_neg (by decide)]
    exact fi_end t2 fl ps _ _ pk 0 nm np j 1 _ 1 N (by omega)
theorem fi_many (w : Bool) (t2 : Bool) (ps : List (List X)) (np j : Nat) (l : List Bd) (hl : l.length ≤ 1000) (N : Nat) (hN : 2000 ≤ N) :
    run (callF tab ext N) 0 N (.loop (loopAt 189 1)) (fiH t2 false ps (bdG w l) [] 1 0 nNm np j (bdG w l).length 0 0) = some (.exit 2, fiE t2 false ps (bdG w l) (kvs l) 1 0 nNm np j (bdG w l).length l.length l.length) := by
  obtain ⟨M, rfl⟩ : ∃ M, N = M + 60 := ⟨N - 60, by omega⟩
  have hn := bdG_len w l
  have key := loop_for (Γ := callF tab ext (M + 60)) (nIn := 0) (fu := M + 60) (b := loopAt 189 1) (e := .exit 2) (k := l.length) (τ := fiH t2 false ps (bdG w l) [] 1 0 nNm np j (bdG w l).length 0 0) (fin := fiE t2 false ps (bdG w l) (kvs l) 1 0 nNm np j (bdG w l).length l.length l.length)
    (σ := fun i => fiH t2 false ps (bdG w l) (kvs (l.take i)) 1 0 nNm np j (bdG w l).length i i) (fi_canon ..) (fun i hi => ?_) ?_ (by simp) (by omega)
  · exact key
  · have hg := bdG_get w hi
    obtain ⟨h1, h2⟩ := lead_n l[i] M
    have e : kvs (l.take (i + 1)) = kvs (l.take i) ++ [(kv l[i].2).cells] := by
      unfold kvs
      rw [List.take_succ_eq_append_getElem hi, List.map_append]
      rfl
    rw [e]
    have hlen : (kvs (l.take i)).length = i := by rw [kvs_len, List.length_take]; omega
    generalize l[i] = b at *
    obtain ⟨o, n⟩ := b
    cases o with
    | none => exact fi_round t2 false ps (bdG w l) (kvs (l.take i)) 1 0 nNm np j (bdG w l).length i i (M + 60) 9 0 0 ⟨#[]⟩ w w [] _ [(kv n).cells] (by omega) (by omega) hlen.symm (by show i + 1 < _; omega) hg h1 h2
    | some k => exact fi_round t2 false ps (bdG w l) (kvs (l.take i)) 1 0 nNm np j (bdG w l).length i i (M + 60) 9 0 0 ⟨#[]⟩ w w [] _ [(kv n).cells] (by omega) (by omega) hlen.symm (by show i + 1 < _; omega) hg h1 h2
  · rw [List.take_length]
    exact fi_end t2 false ps (bdG w l) (kvs l) 1 0 nNm np j (bdG w l).length l.length l.length (M + 60) (by omega)
/-! ### The parts, one after the other -/
section
variable (t2 fl : Bool) (es acc : List (List X)) (np n j : Nat) (N : Nat)
def foH0 (envC : List X) : St := ⟨[(1, .sl t2 3 ps3), (7, .sl true 6 [envC]), (23, .sl t2 3 ps3), (24, nat 3), (25, nat 0)], []⟩
def foH : St := ⟨[(1, .sl t2 3 ps3), (7, .bs 0 0 n), (23, .sl t2 3 ps3), (24, nat 3), (25, nat j)], [.row 6 acc]⟩
def foE : St := ⟨[(1, .sl t2 3 ps3), (7, .bs 0 0 n), (23, .sl t2 3 ps3), (24, nat 3), (25, nat j), (26, boolX false)], [.row 6 acc]⟩
theorem fo_end : run (callF tab ext N) 0 N (loopAt 189 0) (foH t2 acc n 3) = some (.exit 0, foE t2 acc n 3) :=
  run_of [] [] pf0 (lo' := []) (by kernel_rfl)
theorem fo_0 (g : Bool) (a b c : Int) (d : ByteArray) (f1 f2 : Bool) (l0 fs0 : List (List X)) (hl : run (callF tab ext N) 0 N (.loop (loopAt 189 1)) (fiH t2 true ps3 [[num a, num b, num c, strX d, .sl f1 6 l0, .sl f2 7 fs0]] [] 1 0 itemsNm 3 0 1 0 0) = some (.exit 2, fiE t2 true ps3 [[num a, num b, num c, strX d, .sl f1 6 l0, .sl f2 7 fs0]] [itemsG g es] 1 0 itemsNm 3 0 1 1 1)) :
    ∃ υ, run (callF tab ext N) 0 N (loopAt 189 0) (foH0 t2 [num a, num b, num c, strX d, .sl f1 6 l0, .sl f2 7 fs0]) = some (.norm, υ) ∧ canon 0 υ = some (foH t2 [itemsG g es] 1 1) :=
  rl_of [] [(.exit 2, fiE t2 true ps3 [[num a, num b, num c, strX d, .sl f1 6 l0, .sl f2 7 fs0]] [itemsG g es] 1 0 itemsNm 3 0 1 1 1)] (pf1 hl) (by kernel_rfl)
theorem fo_1 (g : Bool) (hl : run (callF tab ext N) 0 N (.loop (loopAt 189 1)) (fiH t2 false ps3 [itemsG g es] [] 3 0 ⟨#[]⟩ 3 1 1 0 0) = some (.exit 2, fiE t2 false ps3 [itemsG g es] es 3 0 ⟨#[]⟩ 3 1 1 n 1)) :
    ∃ υ, run (callF tab ext N) 0 N (loopAt 189 0) (foH t2 [itemsG g es] 1 1) = some (.norm, υ) ∧ canon 0 υ = some (foH t2 es n 2) := by
  have hl' : run (callF tab ext N) 0 N (.loop (loopAt 189 1)) ⟨[(1, .sl t2 3 ps3), (9, .ptr 1 0 0), (10, .bs 2 0 0), (23, .sl t2 3 ps3), (24, nat 3), (25, nat 1), (29, .sl false 6 [itemsG g es]), (30, nat 1), (31, nat 0)], [.dead, .var (partC 3 ⟨#[]⟩), .row 6 []]⟩ = some (.exit 2, fiE t2 false ps3 [itemsG g es] es 3 0 ⟨#[]⟩ 3 1 1 n 1) := by
    rw [← hl]
    exact loop_canon (by kernel_rfl) (fi_canon ..)
  have h0 : 0 + 1 ≤ [itemsG g es].length := Nat.le_refl 1
  exact rl_of [] [(.exit 2, fiE t2 false ps3 [itemsG g es] es 3 0 ⟨#[]⟩ 3 1 1 n 1)] (pf2 h0 hl') (by kernel_rfl)
theorem fo_2 (hn : n = es.length) (m : Nat) (hl : run (callF tab ext N) 0 N (.loop (loopAt 189 1)) (fiH t2 false ps3 es [] 1 0 nNm 3 2 es.length 0 0) = some (.exit 2, fiE t2 false ps3 es acc 1 0 nNm 3 2 es.length m n)) :
    ∃ υ, run (callF tab ext N) 0 N (loopAt 189 0) (foH t2 es n 2) = some (.norm, υ) ∧ canon 0 υ = some (foH t2 acc m 3) := by
  have e1 : (es.drop 0).take n = es := by rw [List.drop_zero, List.take_of_length_le (by omega)]
  have hl' : run (callF tab ext N) 0 N (.loop (loopAt 189 1)) ⟨[(1, .sl t2 3 ps3), (9, .ptr 1 0 0), (10, .bs 2 0 0), (23, .sl t2 3 ps3), (24, nat 3), (25, nat 2), (29, .sl false 6 ((es.drop 0).take n)), (30, nat ((es.drop 0).take n).length), (31, nat 0)], [.dead, .var (partC 1 nNm), .row 6 []]⟩ = some (.exit 2, fiE t2 false ps3 es acc 1 0 nNm 3 2 es.length m n) := by
    rw [← hl, e1]
    exact loop_canon (by kernel_rfl) (fi_canon ..)
  have h0 : 0 + n ≤ es.length := by omega
  exact rl_of [] [(.exit 2, fiE t2 false ps3 es acc 1 0 nNm 3 2 es.length m n)] (pf2 h0 hl') (by kernel_rfl)
end
end Go.Proofs.YthphniobeigklaaGreatDoor.Ag

/- path.Find at items[*].n as a whole; the sum of an expression. -/
namespace Go.Proofs.YthphniobeigklaaGreatDoor.Ag
open Go Go.Em Go.Proofs.YthphniobeigklaaGreatDoor
set_option maxRecDepth 100000

theorem clone_kv (n : Int) (N : Nat) : Gam.pureD (callF tab ext (N + 60)) 75 [.agg (kv n).cells] = some (.agg (kv n).cells) := by kernel_rfl
section
variable (es acc : List (List X)) (m n i : Nat) (N : Nat)
def fcH : St := ⟨[(13, .bs 0 0 m), (55, .sl false 6 es), (56, nat n), (57, nat i)], [.row 6 acc]⟩
def fcE : St := ⟨[(13, .bs 0 0 m), (55, .sl false 6 es), (56, nat n), (57, nat i), (58, boolX false)], [.row 6 acc]⟩
theorem fc_end (h : ¬ i < n) : run (callF tab ext N) 0 N (loopAt 189 2) (fcH es acc m n i) = some (.exit 4, fcE es acc m n i) :=
  run_of [(58, .b false)] [] (pf1 (nlt_nat h)) (lo' := []) (by kernel_rfl)
theorem fc_round (x : Int) (hi : i < n) (hi2 : i < 100000) (hm : m = acc.length) (hm2 : m < 100000) (he : es[i]? = some (kv x).cells) :
    ∃ υ, run (callF tab ext (N + 60)) 0 (N + 60) (loopAt 189 2) (fcH es acc m n i) = some (.norm, υ) ∧ canon 0 υ = some (fcH es (acc ++ [(kv x).cells]) (m + 1) n (i + 1)) := by
  have h1 := lt_nat hi
  have h2 := next_nat (j := i) (by omega)
  have h3 := app_ok (acc := acc) m 0 88 (by omega) (by omega) (by omega)
  exact rd_of [(58, .b true), (59, .e (kv x).cells), (63, .p (.agg (kv x).cells)), (65, .app), (66, .i (Int.ofNat (i + 1)))] (pf5 h1 he (clone_kv x N) h3 h2) (by kernel_rfl)
end
theorem fc_loop (l : List Bd) (hl : l.length ≤ 1000) (N : Nat) (hN : 2000 ≤ N) (τ : St) (hτ : canon 0 τ = some (fcH (kvs l) [] 0 l.length 0)) :
    run (callF tab ext N) 0 N (.loop (loopAt 189 2)) τ = some (.exit 4, fcE (kvs l) (kvs l) l.length l.length l.length) := by
  obtain ⟨M, rfl⟩ : ∃ M, N = M + 60 := ⟨N - 60, by omega⟩
  refine loop_for (σ := fun i => fcH (kvs l) (kvs (l.take i)) i l.length i) (k := l.length) hτ (fun i hi => ?_) ?_ (by simp) (by omega)
  · have hg := kvs_get hi
    have e : kvs (l.take (i + 1)) = kvs (l.take i) ++ [(kv l[i].2).cells] := by
      unfold kvs
      rw [List.take_succ_eq_append_getElem hi, List.map_append]
      rfl
    rw [e]
    exact fc_round (kvs l) (kvs (l.take i)) i l.length i M l[i].2 hi (by omega) (by rw [kvs_len, List.length_take]; omega) (by omega) hg
  · rw [List.take_length]
    exact fc_end (kvs l) (kvs l) l.length l.length l.length (M + 60) (by omega)
theorem fo_loop (g w : Bool) (l : List Bd) (hl : l.length ≤ 1000) (fs : List (List X)) (N : Nat) (hN : 3000 ≤ N)
    (h253 : Gam.pureD (callF tab ext N) 253 [.agg (partC 1 itemsNm), .agg [num 9, num 0, num 0, strX ⟨#[]⟩, .sl false 6 [], .sl false 7 fs]] = some (boolX true))
    (h254 : Gam.pureD (callF tab ext N) 254 [.agg (partC 1 itemsNm), .agg [num 9, num 0, num 0, strX ⟨#[]⟩, .sl false 6 [], .sl false 7 fs]] = some (.sl false 6 [itemsG g (bdG w l)])) :
    run (callF tab ext N) 0 N (.loop (loopAt 189 0)) (foH0 false [num 9, num 0, num 0, strX ⟨#[]⟩, .sl false 6 [], .sl false 7 fs]) = some (.exit 0, foE false (kvs l) l.length 3) := by
  obtain ⟨M, rfl⟩ : ∃ M, N = M + 60 := ⟨N - 60, by omega⟩
  obtain ⟨a1, a2⟩ := lead_all (bdG w l) M
  have hn := bdG_len w l
  have i0 := fi_one false true ps3 1 itemsNm 3 0 9 0 0 ⟨#[]⟩ false false [] fs [itemsG g (bdG w l)] (by simp) (M + 60) (by omega) h253 h254
  have i1 := fi_one false false ps3 3 ⟨#[]⟩ 3 1 8 0 0 ⟨#[]⟩ false g (bdG w l) [] (bdG w l) (by omega) (M + 60) (by omega) a1 a2
  have i2 := fi_many w false ps3 3 2 l hl (M + 60) (by omega)
  refine loop_for (σ := fun j => if j = 0 then foH0 false [num 9, num 0, num 0, strX ⟨#[]⟩, .sl false 6 [], .sl false 7 fs] else if j = 1 then foH false [itemsG g (bdG w l)] 1 1 else if j = 2 then foH false (bdG w l) (bdG w l).length 2 else foH false (kvs l) l.length 3) (k := 3) (by kernel_rfl) (fun j hj => ?_) (fo_end false (kvs l) l.length (M + 60)) (by simp) (by omega)
  have hj3 : j = 0 ∨ j = 1 ∨ j = 2 := by omega
  rcases hj3 with rfl | rfl | rfl
  · exact fo_0 false (bdG w l) (M + 60) g 9 0 0 ⟨#[]⟩ false false [] fs i0
  · exact fo_1 false (bdG w l) (bdG w l).length (M + 60) g i1
  · exact fo_2 false (bdG w l) (kvs l) (bdG w l).length (M + 60) rfl l.length (by rw [← hn] at i2 ⊢; exact i2)
theorem find189 {g w : Bool} (l : List Bd) (hl : l.length ≤ 1000) (h0 : 0 < l.length) (fs : List (List X)) (N : Nat) (hN : 3001 ≤ N)
    (h253 : ∀ M, 3000 ≤ M → Gam.pureD (callF tab ext M) 253 [.agg (partC 1 itemsNm), .agg [num 9, num 0, num 0, strX ⟨#[]⟩, .sl false 6 [], .sl false 7 fs]] = some (boolX true))
    (h254 : ∀ M, 3000 ≤ M → Gam.pureD (callF tab ext M) 254 [.agg (partC 1 itemsNm), .agg [num 9, num 0, num 0, strX ⟨#[]⟩, .sl false 6 [], .sl false 7 fs]] = some (.sl false 6 [itemsG g (bdG w l)])) :
    Gam.pureD (callF tab ext N) 189 [.agg [num 9, num 0, num 0, strX ⟨#[]⟩, .sl false 6 [], .sl false 7 fs], .sl false 3 ps3] = some (.tup [.sl false 6 (kvs l), num 0]) := by
  obtain ⟨M, rfl⟩ : ∃ M, N = M + 101 := ⟨N - 101, by omega⟩
  have hf := fo_loop g w l hl fs (M + 100) (by omega) (h253 _ (by omega)) (h254 _ (by omega))
  have e1 : ((kvs l).drop 0).take l.length = kvs l := by rw [List.drop_zero, List.take_of_length_le (by rw [kvs_len]; omega)]
  have hc := fc_loop l hl (M + 100) (by omega) ⟨[(13, .bs 1 0 0), (55, .sl false 6 ((kvs l).drop 0 |>.take l.length)), (56, nat ((kvs l).drop 0 |>.take l.length).length), (57, nat 0)], [.dead, .row 6 []]⟩ (by
    rw [e1, kvs_len]
    kernel_rfl)
  have h1 : (Int.ofNat l.length == 0) = false := by simp only [Int.ofNat_eq_natCast, beq_eq_false_iff_ne, ne_eq]; omega
  have h2 : 0 + l.length ≤ (kvs l).length := by rw [kvs_len]; omega
  exact pure_of [(49, .b false)] [(.exit 0, foE false (kvs l) l.length 3), (.exit 4, fcE (kvs l) (kvs l) l.length l.length l.length)] (pf4 hf h1 h2 hc)
    (x := .tup [.bs 0 0 l.length, num 0]) (bx := [.row 6 (kvs l)]) (by kernel_rfl) (data_tup (dataL_cons (data_bs rfl (kvs_len l).symm) (dataL_cons rfl rfl)))
end Go.Proofs.YthphniobeigklaaGreatDoor.Ag

/- The sum of an expression: sum(items[*].n). -/
namespace Go.Proofs.YthphniobeigklaaGreatDoor.Ag
open Go Go.Em Go.Proofs.YthphniobeigklaaGreatDoor
set_option maxRecDepth 100000

def sumT : ByteArray := ⟨#[105, 116, 101, 109, 115, 91, 42, 93, 46, 110]⟩
/-- The expression. -/
def sumX : List X := [num 26, num 0, strX sumT, .sl false 6 [], .sl false 5 []]
/-- The evaluator's box: an environment, no error. -/
def macB (fs : List (List X)) : Bx := .var [num 9, num 0, num 0, strX ⟨#[]⟩, .sl false 6 [], .sl false 7 fs, num 0]
def nsOf (l : List Bd) : List Nat := l.map (·.2)
theorem nsOf_len (l : List Bd) : (nsOf l).length = l.length := by simp [nsOf]
section
variable (fs es ns : List (List X)) (np n j : Nat) (N : Nat)
def suH : St := ⟨[(0, .ptr 0 0 0), (3, .ptr 1 0 0), (4, .ptr 2 0 0), (9, .bs 3 0 n), (37, .sl false 6 es), (38, nat np), (39, nat j)], [macB fs, .var sumX, .var [num 0, num 0, num 0, strX ⟨#[]⟩, .sl true 6 [], .sl true 7 []], .row 2 ns]⟩
def suE : St := ⟨[(0, .ptr 0 0 0), (3, .ptr 1 0 0), (4, .ptr 2 0 0), (9, .bs 3 0 n), (37, .sl false 6 es), (38, nat np), (39, nat j), (40, boolX false)], [macB fs, .var sumX, .var [num 0, num 0, num 0, strX ⟨#[]⟩, .sl true 6 [], .sl true 7 []], .row 2 ns]⟩
theorem su_canon : canon 1 (suH fs es ns np n j) = some (suH fs es ns np n j) := by kernel_rfl
theorem su_end (h : ¬ j < np) : run (callF tab ext N) 1 N (loopAt 133 0) (suH fs es ns np n j) = some (.exit 0, suE fs es ns np n j) :=
  run_of [(40, .b false)] [] (pf1 (nlt_nat h)) (lo' := []) (by kernel_rfl)
theorem su_round (x : Nat) (hj : j < np) (hj2 : j < 100000) (hn : n = ns.length) (hn2 : n < 100000) (he : es[j]? = some (kv x).cells) :
    ∃ υ, run (callF tab ext (N + 60)) 1 (N + 60) (loopAt 133 0) (suH fs es ns np n j) = some (.norm, υ) ∧ canon 1 υ = some (suH fs es (ns ++ [[nat x, num 0]]) np (n + 1) (j + 1)) := by
  have h1 := lt_nat hj
  have h2 := next_nat (j := j) (by omega)
  have h3 := app_ok (acc := ns) n 0 16 (by omega) (by omega) (by omega)
  exact rd_of [(40, .b true), (41, .e (kv x).cells), (70, .app), (71, .i (Int.ofNat (j + 1)))] (pf4 h1 he h3 h2) (by kernel_rfl)
end
theorem su_loop (fs : List (List X)) (l : List Bd) (hl : l.length ≤ 1000) (N : Nat) (hN : 2000 ≤ N) :
    run (callF tab ext N) 1 N (.loop (loopAt 133 0)) (suH fs (kvs l) [] (kvs l).length 0 0) = some (.exit 0, suE fs (kvs l) (nsC (nsOf l)) (kvs l).length l.length l.length) := by
  obtain ⟨M, rfl⟩ : ∃ M, N = M + 60 := ⟨N - 60, by omega⟩
  have hk := kvs_len l
  refine loop_for (σ := fun i => suH fs (kvs l) (nsC (nsOf (l.take i))) (kvs l).length i i) (k := l.length) (su_canon ..) (fun i hi => ?_) ?_ (by simp) (by omega)
  · have e : nsC (nsOf (l.take (i + 1))) = nsC (nsOf (l.take i)) ++ [[nat l[i].2, num 0]] := by
      unfold nsC nsOf
      rw [List.take_succ_eq_append_getElem hi, List.map_append, List.map_append]
      rfl
    rw [e]
    exact su_round fs (kvs l) (nsC (nsOf (l.take i))) (kvs l).length i i M l[i].2 (by omega) (by omega) (by rw [nsC_len, nsOf_len, List.length_take]; omega) (by omega) (kvs_get hi)
  · rw [List.take_length]
    exact su_end fs (kvs l) (nsC (nsOf l)) (kvs l).length l.length l.length (M + 60) (by omega)
/-- An environment in which items are bodies. -/
structure EnvOk (g w : Bool) (fs : List (List X)) (l : List Bd) : Prop where
  h253 : ∀ M, 3000 ≤ M → Gam.pureD (callF tab ext M) 253 [.agg (partC 1 itemsNm), .agg [num 9, num 0, num 0, strX ⟨#[]⟩, .sl false 6 [], .sl false 7 fs]] = some (boolX true)
  h254 : ∀ M, 3000 ≤ M → Gam.pureD (callF tab ext M) 254 [.agg (partC 1 itemsNm), .agg [num 9, num 0, num 0, strX ⟨#[]⟩, .sl false 6 [], .sl false 7 fs]] = some (.sl false 6 [itemsG g (bdG w l)])
theorem sum133 {g w : Bool} {fs : List (List X)} {l : List Bd} (h : EnvOk g w fs l) (ht : Tiny (nsOf l)) (h0 : 0 < l.length) (hl : l.length ≤ 256) (N : Nat) (hN : 4000 ≤ N) :
    callF tab ext N (.fn 133) [.ptr 0 0 0, .agg sumX] [macB fs] = some (.agg (kv (sumN (nsOf l) : Nat)).cells, [macB fs]) := by
  obtain ⟨M, rfl⟩ : ∃ M, N = M + 201 := ⟨N - 201, by omega⟩
  have h189 := find189 l (by omega) h0 fs (M + 200) (by omega) h.h253 h.h254
  have hlo := su_loop fs l (by omega) (M + 200) (by omega)
  have h191 := sum191 (nsOf l) ht (by rw [nsOf_len]; omega) (M + 200) (by omega)
  have hd : dataL [macB fs, .var sumX, .var [num 0, num 0, num 0, strX ⟨#[]⟩, .sl true 6 [], .sl true 7 []], .row 2 (nsC (nsOf l))] false [.bs 3 0 l.length] = some [.sl false 2 (nsC (nsOf l))] := dataL_cons (data_bs rfl (by rw [nsC_len, nsOf_len])) rfl
  have h74 : decide (Int.ofNat l.length > 256) = false := decide_eq_false (by simp only [Int.ofNat_eq_natCast]; omega)
  generalize sumN (nsOf l) = s at *
  exact callF_of [(28, .p (.tup [.sl false 6 (kvs l), num 0])), (74, .b false), (82, .d [.sl false 2 (nsC (nsOf l))] (.tup [.agg [nat s, num 0], num 0]))] [(.exit 0, suE fs (kvs l) (nsC (nsOf l)) (kvs l).length l.length l.length)]
    (pf4 h189 hlo h74 (And.intro hd h191)) (by kernel_rfl)
end Go.Proofs.YthphniobeigklaaGreatDoor.Ag

/- The checks of stamps and of messages come to an end. -/
namespace Go.Proofs.YthphniobeigklaaGreatDoor
open Go.Em
set_option maxRecDepth 100000

/-! ### slices.IndexFunc, slices.ContainsFunc of numbers -/
def ixH (l : List (List X)) (n j : Nat) : St := ⟨[(0, .sl false 1 l), (1, .fn 291 []), (7, nat n), (8, nat j)], []⟩
theorem ix_canon (l : List (List X)) (n j : Nat) : canon 0 (ixH l n j) = some (ixH l n j) := by kernel_rfl
end Go.Proofs.YthphniobeigklaaGreatDoor

/- The rules of the kinds of values come to an end. -/
namespace Go.Proofs.YthphniobeigklaaGreatDoor
open Go.Em
set_option maxRecDepth 100000

/-- A loop that looks for something: it returns at some round, or comes to its end. -/
theorem scan {b : C} {H : Nat → St} {e : Ex} {fin τ : St} {n B : Nat} (good : St → Prop) (h0 : canon 0 τ = some (H 0))
    (hstep : ∀ j, j < n → (∃ r, good r ∧ ∀ M, B ≤ M → run (callF tab ext M) 0 M b (H j) = some (.ret, r)) ∨ (∃ υ, canon 0 υ = some (H (j + 1)) ∧ ∀ M, B ≤ M → run (callF tab ext M) 0 M b (H j) = some (.norm, υ)))
    (hend : ∀ M, B ≤ M → run (callF tab ext M) 0 M b (H n) = some (e, fin)) (hne : e ≠ .norm) :
    (∃ r, good r ∧ ∀ M, B ≤ M → n < M → run (callF tab ext M) 0 M (.loop b) τ = some (.ret, r)) ∨ (∀ M, B ≤ M → n < M → run (callF tab ext M) 0 M (.loop b) τ = some (e, fin)) := by
  have key : ∀ d j, j + d = n → (∃ r, good r ∧ ∀ M F υ, B ≤ M → d < F → canon 0 υ = some (H j) → iter 0 (run (callF tab ext M) 0 M b) F υ = some (.ret, r)) ∨ (∀ M F υ, B ≤ M → d < F → canon 0 υ = some (H j) → iter 0 (run (callF tab ext M) 0 M b) F υ = some (e, fin)) := by
    intro d
    induction d with
    | zero =>
      intro j hj
      have hjn : j = n := by omega
      subst hjn
      right
      intro M F υ hM hF hc
      obtain ⟨F', rfl⟩ : ∃ F', F = F' + 1 := ⟨F - 1, by omega⟩
      grind[iter_end]
    | succ d ih =>
      intro j hj
      rcases hstep j (by omega) with ⟨r, hr, h⟩ | ⟨ω, hω, h⟩
      · left
        refine ⟨r, hr, fun M F υ hM hF hc => ?_⟩
        obtain ⟨F', rfl⟩ : ∃ F', F = F' + 1 := ⟨F - 1, by omega⟩
        grind[iter_end]
      · rcases ih (j + 1) (by omega) with ⟨r, hr, h'⟩ | h'
        · left
          refine ⟨r, hr, fun M F υ hM hF hc => ?_⟩
          obtain ⟨F', rfl⟩ : ∃ F', F = F' + 1 := ⟨F - 1, by omega⟩<;>simp_all[iter_step]
        · right
          intro M F υ hM hF hc
          obtain ⟨F', rfl⟩ : ∃ F', F = F' + 1 := ⟨F - 1, by omega⟩<;>simp_all[iter_step]
  grind[run]

def nullV : Val → Bool
  | .mk k i s t l f => (k == 0) && ((i == 0) && ((s == 0) && ((t.toList == (⟨#[]⟩ : ByteArray).toList) && ((Int.ofNat (cellsL l).length == 0) && (Int.ofNat (cellsF f).length == 0)))))
theorem null_val (N : Nat) (v : Val) : Gam.pureD (callF tab ext (N + 1)) 58 [.agg v.cells] = some (boolX (nullV v)) := by
  obtain ⟨k, i, s, t, l, f⟩ := v
  cases h1 : (k == 0) with
  | true =>
    cases h2 : (i == 0) with
    | true =>
      cases h3 : (s == 0) with
      | true =>
        cases h4 : (t.toList == (⟨#[]⟩ : ByteArray).toList) with
        | true =>
          cases h5 : (Int.ofNat (cellsL l).length == 0) with
          | true =>
            cases h6 : (Int.ofNat (cellsF f).length == 0) with
            | true =>
              rw [show nullV (Val.mk k i s t l f) = true from by grind[nullV]]
              exact pure_of [(5, .b true), (9, .b true), (14, .b true), (19, .b true), (25, .b true), (31, .b true)] [] (pf6 h1 h2 h3 h4 h5 h6) (x := boolX true) (bx := []) (by kernel_rfl) rfl
            | false =>
              rw [show nullV (Val.mk k i s t l f) = false from by grind[nullV]]
              exact pure_of [(5, .b true), (9, .b true), (14, .b true), (19, .b true), (25, .b true), (31, .b false)] [] (pf6 h1 h2 h3 h4 h5 h6) (x := boolX false) (bx := []) (by kernel_rfl) rfl
          | false =>
            rw [show nullV (Val.mk k i s t l f) = false from by grind[nullV]]
            exact pure_of [(5, .b true), (9, .b true), (14, .b true), (19, .b true), (25, .b false)] [] (pf5 h1 h2 h3 h4 h5) (x := boolX false) (bx := []) (by kernel_rfl) rfl
        | false =>
          rw [show nullV (Val.mk k i s t l f) = false from by grind[nullV]]
          exact pure_of [(5, .b true), (9, .b true), (14, .b true), (19, .b false)] [] (pf4 h1 h2 h3 h4) (x := boolX false) (bx := []) (by kernel_rfl) rfl
      | false =>
        rw [show nullV (Val.mk k i s t l f) = false from by grind[nullV]]
        exact pure_of [(5, .b true), (9, .b true), (14, .b false)] [] (pf3 h1 h2 h3) (x := boolX false) (bx := []) (by kernel_rfl) rfl
    | false =>
      rw [show nullV (Val.mk k i s t l f) = false from by grind[nullV]]
      exact pure_of [(5, .b true), (9, .b false)] [] (pf2 h1 h2) (x := boolX false) (bx := []) (by kernel_rfl) rfl
  | false =>
    rw [show nullV (Val.mk k i s t l f) = false from by grind[nullV]]
    exact pure_of [(5, .b false)] [] (pf1 h1) (x := boolX false) (bx := []) (by kernel_rfl) rfl
/-! ### first -/
def fiH (l : List (List X)) (n j : Nat) : St := ⟨[(5, .sl false 1 l), (6, nat n), (7, nat j)], []⟩
end Go.Proofs.YthphniobeigklaaGreatDoor

/- The rule of records comes to an end. -/
namespace Go.Proofs.YthphniobeigklaaGreatDoor
open Go.Em
set_option maxRecDepth 100000

section
variable (k i s : Int) (t : ByteArray) (l f : List (List X)) (n j : Nat)
end
theorem pred_nat {j : Nat} (h : j < 4294967296) : IntKind.i64.wrap (Int.ofNat (j + 1) - 1) = Int.ofNat j := by
  grind[IntKind.wrap_i64]
theorem pos_nat {j : Nat} : decide (0 < Int.ofNat (j + 1)) = true := by grind
theorem zero_nat : decide (0 < Int.ofNat 0) = false := rfl
end Go.Proofs.YthphniobeigklaaGreatDoor

/- The check of a value comes to an end. -/
namespace Go.Proofs.YthphniobeigklaaGreatDoor
open Go.Em
set_option maxRecDepth 100000

/-- No list of a value is very long: its own ones; all of them. -/
def Val.few : Val → Prop
  | .mk _ _ _ _ l f => l.length ≤ 2000000 ∧ f.length ≤ 2000000
mutual
def Val.wide : Val → Prop
  | .mk _ _ _ _ l f => (l.length ≤ 2000000 ∧ f.length ≤ 2000000) ∧ wideL l ∧ wideF f
def wideL : List Val → Prop
  | [] => True
  | v :: r => v.wide ∧ wideL r
def wideF : List (ByteArray × Val) → Prop
  | [] => True
  | (_, v) :: r => v.wide ∧ wideF r
end
theorem few_of_wide {v : Val} (h : v.wide) : v.few := by
  obtain ⟨k, i, s, t, l, f⟩ := v
  simp only [Val.wide] at h
  exact h.1
mutual
theorem wide_of : ∀ {v : Val}, v.size ≤ 2000000 → v.wide
  | .mk k i s t l f, h => by
    simp only [Val.size] at h
    have := sizeL_length l
    have := sizeF_length f
    simp only [Val.wide]
    exact ⟨⟨by omega, by omega⟩, wideL_of (by omega), wideF_of (by omega)⟩
theorem wideL_of : ∀ {l : List Val}, sizeL l ≤ 2000000 → wideL l
  | [], _ => by grind[wideL]
  | v :: r, h => by
    simp only [sizeL] at h
    simp only [wideL]
    exact ⟨wide_of (by omega), wideL_of (by omega)⟩
theorem wideF_of : ∀ {l : List (ByteArray × Val)}, sizeF l ≤ 2000000 → wideF l
  | [], _ => by grind[wideF]
  | (n, v) :: r, h => by
    simp only [sizeF] at h
    simp only [wideF]
    exact ⟨wide_of (by omega), wideF_of (by omega)⟩
end
theorem app_wide {acc : List (List X)} (j i bytes : Nat) (h : j = acc.length) (hj : j < 3000000) (hb : bytes < 1000) : 0 + j = acc.length ∧ roomOk (j + 1) bytes = true ∧ memN i [] = false :=
  ⟨by omega, room_of (by have : (j + 1) * bytes ≤ 3000000 * 1000 := Nat.mul_le_mul (by omega) (by omega); omega) (by omega), rfl⟩
/-- The values of which a value consists directly. -/
def partsV : Val → List Val
  | .mk k _ _ _ l f => if k = 8 ∨ k = 10 then l else if k = 9 then f.map (·.2) else []
def paH (f acc : List (List X)) (n j : Nat) : St := ⟨[(3, .bs 0 0 j), (16, .sl false 7 f), (17, nat n), (18, nat j)], [.row 6 acc]⟩
def paH' (f acc : List (List X)) (n j : Nat) (x y : List X) : St := ⟨[(3, .bs 2 0 (j + 1)), (16, .sl false 7 f), (17, nat n), (18, nat (j + 1))], [.dead, .var x, .row 6 (acc ++ [y])]⟩
theorem pa_canon' (f acc : List (List X)) (n j : Nat) (x y : List X) : canon 0 (paH' f acc n j x y) = some (paH f (acc ++ [y]) n (j + 1)) := by kernel_rfl
theorem parts_wide (N : Nat) (v : Val) (hv : v.few) (hN : v.size + 10 ≤ N) : Gam.pureD (callF tab ext N) 289 [.agg v.cells] = some (.sl false 6 (cellsL (partsV v))) := by
  obtain ⟨M, rfl⟩ : ∃ M, N = M + 1 := ⟨N - 1, by omega⟩
  obtain ⟨k, i, s, t, l, f⟩ := v
  simp only [Val.size] at hN
  have hv := hv.2
  have hf := sizeF_length f
  have hn := cellsF_length f
  simp only [partsV]
  cases h1 : (k == 8) with
  | true =>
    have : k = 8 := by simpa using h1
    rw [if_pos (Or.inl this)]
    exact pure_of [(9, .b true)] [] (pf1 h1) (x := .sl false 6 (cellsL l)) (bx := []) (by kernel_rfl) rfl
  | false =>
    have n8 : k ≠ 8 := by simpa using h1
    cases h2 : (k == 10) with
    | true =>
      have : k = 10 := by simpa using h2
      rw [if_pos (Or.inr this)]
      exact pure_of [(9, .b false), (10, .b true)] [] (pf2 h1 h2) (x := .sl false 6 (cellsL l)) (bx := []) (by kernel_rfl) rfl
    | false =>
      have n10 : k ≠ 10 := by simpa using h2
      rw [if_neg (by grind)]
      cases h3 : (k == 9) with
      | false =>
        have n9 : k ≠ 9 := by simpa using h3
        rw [if_neg n9]
        exact pure_of [(9, .b false), (10, .b false), (14, .b false)] [] (pf3 h1 h2 h3) (x := .sl true 6 []) (bx := []) (by kernel_rfl) rfl
      | true =>
        have : k = 9 := by simpa using h3
        rw [if_pos this]
        have hloop : run (callF tab ext M) 0 M (.loop (loopAt 289 0)) ⟨[(3, .bs 1 0 0), (16, .sl false 7 (cellsF f)), (17, nat (cellsF f).length), (18, nat 0)], [.var (Val.mk k i s t l f).cells, .row 6 []]⟩ = some (.exit 1, ⟨[(3, .bs 0 0 (cellsF f).length), (16, .sl false 7 (cellsF f)), (17, nat (cellsF f).length), (18, nat (cellsF f).length), (19, boolX false)], [.row 6 (cellsL (f.map (·.2)))]⟩) := by
          refine loop_for (σ := fun j => paH (cellsF f) ((cellsL (f.map (·.2))).take j) (cellsF f).length j) (k := (cellsF f).length) (by kernel_rfl) (fun j hj => ?_) ?_ (by simp) (by omega)
          · have hj' : j < f.length := by omega
            have hg := cellsF_get hj'
            have hg2 : (cellsL (f.map (·.2)))[j]? = some f[j].2.cells := by rw [cellsL_eq]; simp [hj']
            have ht := take_succ_get hg2
            have hlen : j = ((cellsL (f.map (·.2))).take j).length := by rw [List.length_take, cellsL_length, List.length_map]; omega
            generalize f[j] = p at hg ht
            obtain ⟨p0, p1, p2, p3, p4, p5, p6⟩ := p
            refine ⟨paH' (cellsF f) ((cellsL (f.map (·.2))).take j) (cellsF f).length j (strX p0 :: (Val.mk p1 p2 p3 p4 p5 p6).cells) (Val.mk p1 p2 p3 p4 p5 p6).cells, run_of [(19, .b true), (20, .e (strX p0 :: (Val.mk p1 p2 p3 p4 p5 p6).cells)), (26, .app), (27, .i (Int.ofNat (j + 1)))] []
              (pf4 (lt_nat (j := j) (k := (cellsF f).length) (by omega)) hg (app_wide (acc := (cellsL (f.map (·.2))).take j) j 0 88 hlen (by omega) (by omega)) (next_nat (j := j) (by omega))) (lo' := []) (by kernel_rfl), ?_⟩
            grind[pa_canon']
          · have ht : (cellsL (f.map (·.2))).take (cellsF f).length = cellsL (f.map (·.2)) := List.take_of_length_le (by grind[cellsL_length])
            rw [ht]
            exact run_of [(19, .b false)] [] (pf1 (nlt_nat (Nat.lt_irrefl (cellsF f).length))) (lo' := []) (by kernel_rfl)
        have hd : (X.bs 0 0 (cellsF f).length).data [.row 6 (cellsL (f.map (·.2)))] false = some (.sl false 6 (cellsL (f.map (·.2)))) := by
          have hl : (cellsL (f.map (·.2))).length = (cellsF f).length := by rw [cellsL_length, List.length_map, hn]
          simp only [X.data, rowOf, List.getElem?_cons_zero, Nat.zero_add, hl, Nat.le_refl, if_true, Option.map_some, List.drop_zero]
          rw [List.take_of_length_le (by omega)]
        exact pure_of [(9, .b false), (10, .b false), (14, .b true)] [(.exit 1, ⟨[(3, .bs 0 0 (cellsF f).length), (16, .sl false 7 (cellsF f)), (17, nat (cellsF f).length), (18, nat (cellsF f).length), (19, boolX false)], [.row 6 (cellsL (f.map (·.2)))]⟩)]
          (pf4 h1 h2 h3 hloop) (bx := [.row 6 (cellsL (f.map (·.2)))]) (by kernel_rfl) hd

/-! ### A round of the check -/
def rfsOf : C → List (C × C)
  | .seq a b | .cond _ a b => rfsOf a ++ rfsOf b
  | .block _ b | .loop b => rfsOf b
  | .rf _ _ _ a b => (a, b) :: (rfsOf a ++ rfsOf b)
  | _ => []
noncomputable def rfAt (f : Nat) : C × C := match tab f with
  | some fd => (rfsOf fd.body).getD 0 (.skip, .skip)
  | none => (.skip, .skip)
noncomputable def recC (st : LoopState) (p : Option Ex) : Bx := .loop st p [(2, .ptr 1 0 0), (3, .ptr 2 0 0), (4, .ptr 3 0 0)] [11, 12] (rfAt 104).1 (rfAt 104).2
def rulesX : List X := [.v .nilFunc, .fn 209 [], .fn 211 [], .fn 212 [], .fn 214 [], .fn 217 [], .fn 218 [], .fn 219 [], .fn 220 [], .fn 221 [], .fn 222 []]
noncomputable def goC (n : Nat) : List Bx := [recC .ready none, .var [num 0], .var rulesX, .var [nat n]]
theorem null_at (v : Val) (N : Nat) (hN : 60009 ≤ N) : Gam.pureD (callF tab ext N) 58 [.agg v.cells] = some (boolX (nullV v)) := by
  obtain ⟨M, rfl⟩ : ∃ M, N = M + 1 := ⟨N - 1, by omega⟩<;>simp_all[null_val]
end Go.Proofs.YthphniobeigklaaGreatDoor

/- The visits of a value come to an end; so does its check. -/
namespace Go.Proofs.YthphniobeigklaaGreatDoor
open Go.Em
set_option maxRecDepth 100000

section
variable (ps : List (List X)) (lev len j n m : Nat) (c : Int) (u : List X)
noncomputable def viH : St := ⟨[(1, nat lev), (2, .yl 0), (15, .sl false 6 ps), (16, nat len), (17, nat j)], goC n⟩
noncomputable def viH' : St := ⟨[(1, nat lev), (2, .yl 0), (15, .sl false 6 ps), (16, nat len), (17, nat j)], goC n ++ [.var u]⟩
noncomputable def viE : St := ⟨[(1, nat lev), (2, .yl 0), (15, .sl false 6 ps), (16, nat len), (17, nat j), (18, boolX false)], goC n⟩
theorem vi_canon' : canon 4 (viH' ps lev len j n u) = some (viH ps lev len j n) := by kernel_rfl
end

noncomputable def rfSt (v : List X) : St := ⟨[(2, .ptr 1 0 0), (3, .ptr 2 0 0), (4, .ptr 3 0 0), (10, .fn 223 [.dp v])], [.var v, .var [num 0], .var rulesX, .var [num 0]]⟩
noncomputable def rfFin (v : List X) (c : Int) (m : Nat) : St := ⟨(rfSt v).tm, [.var v, .var [num c], .var rulesX, .var [nat m], .dead]⟩
end Go.Proofs.YthphniobeigklaaGreatDoor

/- The check of a message comes to an end. -/
namespace Go.Proofs.YthphniobeigklaaGreatDoor
open Go.Em
set_option maxRecDepth 100000

section
variable (m : List X) (o : List (List X)) (n j : Nat)
end
end Go.Proofs.YthphniobeigklaaGreatDoor

/- The check of a slot comes to an end. -/
namespace Go.Proofs.YthphniobeigklaaGreatDoor
open Go.Em
set_option maxRecDepth 100000

/-! ### slices.ContainsFunc of messages -/
def imH (l : List (List X)) (g : X) (n j : Nat) : St := ⟨[(0, .sl false 10 l), (1, g), (7, nat n), (8, nat j)], []⟩
end Go.Proofs.YthphniobeigklaaGreatDoor

/- The check of a slot: its items. -/
namespace Go.Proofs.YthphniobeigklaaGreatDoor
open Go.Em
set_option maxRecDepth 100000

/-- As 'scan', with boxes that came in. -/
theorem scanN {nIn : Nat} {b : C} {H : Nat → St} {e : Ex} {fin τ : St} {n B : Nat} (good : St → Prop) (h0 : canon nIn τ = some (H 0))
    (hstep : ∀ j, j < n → (∃ r, good r ∧ ∀ M, B ≤ M → run (callF tab ext M) nIn M b (H j) = some (.ret, r)) ∨ (∃ υ, canon nIn υ = some (H (j + 1)) ∧ ∀ M, B ≤ M → run (callF tab ext M) nIn M b (H j) = some (.norm, υ)))
    (hend : ∀ M, B ≤ M → run (callF tab ext M) nIn M b (H n) = some (e, fin)) (hne : e ≠ .norm) :
    (∃ r, good r ∧ ∀ M, B ≤ M → n < M → run (callF tab ext M) nIn M (.loop b) τ = some (.ret, r)) ∨ (∀ M, B ≤ M → n < M → run (callF tab ext M) nIn M (.loop b) τ = some (e, fin)) := by
  have key : ∀ d j, j + d = n → (∃ r, good r ∧ ∀ M F υ, B ≤ M → d < F → canon nIn υ = some (H j) → iter nIn (run (callF tab ext M) nIn M b) F υ = some (.ret, r)) ∨ (∀ M F υ, B ≤ M → d < F → canon nIn υ = some (H j) → iter nIn (run (callF tab ext M) nIn M b) F υ = some (e, fin)) := by
    intro d
    induction d with
    | zero =>
      intro j hj
      have hjn : j = n := by omega
      subst hjn
      right
      intro M F υ hM hF hc
      obtain ⟨F', rfl⟩ : ∃ F', F = F' + 1 := ⟨F - 1, by omega⟩
      exact iter_end hc (hend M hM) hne
    | succ d ih =>
      intro j hj
      rcases hstep j (by omega) with ⟨r, hr, h⟩ | ⟨ω, hω, h⟩
      · left
        refine ⟨r, hr, fun M F υ hM hF hc => ?_⟩
        obtain ⟨F', rfl⟩ : ∃ F', F = F' + 1 := ⟨F - 1, by omega⟩
        exact iter_end hc (h M hM) (by simp)
      · rcases ih (j + 1) (by omega) with ⟨r, hr, h'⟩ | h'
        · left
          refine ⟨r, hr, fun M F υ hM hF hc => ?_⟩
          obtain ⟨F', rfl⟩ : ∃ F', F = F' + 1 := ⟨F - 1, by omega⟩
          exact iter_step hc (h M hM) (h' M F' ω hM (by omega) hω)
        · right
          intro M F υ hM hF hc
          obtain ⟨F', rfl⟩ : ∃ F', F = F' + 1 := ⟨F - 1, by omega⟩
          exact iter_step hc (h M hM) (h' M F' ω hM (by omega) hω)
  simp only [run]
  rcases key n 0 (by omega) with ⟨r, hr, h⟩ | h
  · exact .inl ⟨r, hr, fun M hM hn => h M M τ hM hn h0⟩
  · exact .inr fun M hM hn => h M M τ hM hn h0

/-- The checker's boxes, and the slot: nothing appended yet, or something. -/
def ckB (f : Bool) (k v : Nat) (acc : List (List X)) (s : List X) : List Bx :=
  if f then [.var [.bs 3 0 k, nat v], .dead, .var s, .row 10 acc] else [.var [.bs 1 0 k, nat v], .row 10 acc, .var s]
def ckH (f : Bool) (items : List (List X)) (n j k v : Nat) (acc : List (List X)) (s : List X) : St :=
  ⟨[(0, .ptr 0 0 0), (3, .ptr 2 0 0), (21, .sl false 10 items), (22, nat n), (23, nat j)], ckB f k v acc s⟩
theorem data_row (acc : List Msg) (k i : Nat) (g : X) (bx : List Bx) (hb : bx[i]? = some (.row 10 (msgsC acc))) (hk : k = acc.length) (hg : g.data bx false = some g) : dataL bx false [.bs i 0 k, g] = some [.sl false 10 (msgsC acc), g] := by
  subst hk
  have hl := msgsC_length acc
  simp only [dataL, X.data, rowOf, hb, Nat.zero_add, hl, Nat.le_refl, if_true, Option.map_some, List.drop_zero, hg]
  rw [List.take_of_length_le (by omega)]
theorem ck_end (k0 i0 s0 : Int) (t0 : ByteArray) (l0 f0 : List (List X)) (n0 d0 : Int) (items vals : List (List X)) (n k v : Nat) (acc : List (List X)) (f : Bool) (M : Nat) :
    run (callF tab ext M) 2 M (loopAt 105 0) (ckH f items n n k v acc (slotC k0 i0 s0 t0 l0 f0 n0 d0 items vals)) = some (.exit 0, ⟨[(0, .ptr 0 0 0), (3, .ptr 2 0 0), (21, .sl false 10 items), (22, nat n), (23, nat n), (24, boolX false)], ckB f k v acc (slotC k0 i0 s0 t0 l0 f0 n0 d0 items vals)⟩) := by
  cases f with
  | true => exact run_of [(24, .b false)] [] (pf1 (nlt_nat (Nat.lt_irrefl n))) (lo' := []) (by kernel_rfl)
  | false => exact run_of [(24, .b false)] [] (pf1 (nlt_nat (Nat.lt_irrefl n))) (lo' := []) (by kernel_rfl)
end Go.Proofs.YthphniobeigklaaGreatDoor

/- The check of a slot as a whole. -/
namespace Go.Proofs.YthphniobeigklaaGreatDoor
open Go.Em
set_option maxRecDepth 100000

def cvB (f : Bool) (k v : Nat) (acc : List (List X)) : List Bx := if f then [.var [.bs 2 0 k, nat v], .dead, .row 10 acc] else [.var [.bs 1 0 k, nat v], .row 10 acc]
def cvSt (f : Bool) (vals : List (List X)) (n j k v : Nat) (acc : List (List X)) : St := ⟨[(0, .ptr 0 0 0), (56, .sl false 6 vals), (57, nat n), (58, nat j)], cvB f k v acc⟩
def cvFin (f : Bool) (vals : List (List X)) (n j k v : Nat) (acc : List (List X)) : St := ⟨[(0, .ptr 0 0 0), (56, .sl false 6 vals), (57, nat n), (58, nat j), (59, boolX false)], cvB f k v acc⟩
end Go.Proofs.YthphniobeigklaaGreatDoor

/- The check of a slot: what it says, and what it leaves with the checker. -/
namespace Go.Proofs.YthphniobeigklaaGreatDoor
open Go.Em
set_option maxRecDepth 100000

end Go.Proofs.YthphniobeigklaaGreatDoor

/- The check of a state comes to an end. -/
namespace Go.Proofs.YthphniobeigklaaGreatDoor
open Go.Em
set_option maxRecDepth 100000

def scSt (st slots : List (List X)) (n j k v : Nat) (acc : List (List X)) (a b : Int) : St :=
  ⟨[(1, .ptr 0 0 0), (4, .ptr 1 0 0), (22, .sl false 10 slots), (23, nat n), (24, nat j)], [.var [num a, num b, .sl false 10 st], .var [.bs 2 0 k, nat v], .row 10 acc]⟩
end Go.Proofs.YthphniobeigklaaGreatDoor

/- The check of a state as a whole. -/
namespace Go.Proofs.YthphniobeigklaaGreatDoor
open Go.Em
set_option maxRecDepth 100000

/-- A state of the sizes of layer 31. -/
structure Stt.small (s : Stt) : Prop where
  slots : s.slots.length ≤ 100
  slot : ∀ x, x ∈ s.slots → x.ok ∧ x.items.length ≤ 300 ∧ x.vals.length ≤ 100
theorem Stt.small.ok {s : Stt} (h : s.small) : s.ok := ⟨by have := h.slots; omega, fun x hx => (h.slot x hx).1⟩
def accOf (l : List Slt) : List Msg := l.flatMap (·.items)
theorem accOf_append (l : List Slt) (x : Slt) : accOf (l ++ [x]) = accOf l ++ x.items := by simp [accOf]
theorem accOf_length : ∀ (l : List Slt), (∀ x, x ∈ l → x.items.length ≤ 300) → (accOf l).length ≤ 300 * l.length
  | [], _ => by simp [accOf]
  | y :: l, h => by
    have h1 := h y (by simp)
    have h2 := accOf_length l fun x hx => h x (by simp [hx])
    have h3 : (accOf (y :: l)).length = y.items.length + (accOf l).length := by simp [accOf]
    rw [h3, List.length_cons]; omega
end Go.Proofs.YthphniobeigklaaGreatDoor

/- A loop that looks for the first round at which something holds. -/
namespace Go.Proofs.YthphniobeigklaaGreatDoor
open Go.Em
set_option maxRecDepth 100000

end Go.Proofs.YthphniobeigklaaGreatDoor

/- The checks, exactly: what they come to, told by the values alone. -/
namespace Go.Proofs.YthphniobeigklaaGreatDoor
open Go.Em
set_option maxRecDepth 100000

/-! ### slices.ContainsFunc of messages, exactly -/
end Go.Proofs.YthphniobeigklaaGreatDoor

/- The check of a slot, exactly: its items. -/
namespace Go.Proofs.YthphniobeigklaaGreatDoor
open Go.Em
set_option maxRecDepth 100000
set_option linter.unusedSimpArgs false

end Go.Proofs.YthphniobeigklaaGreatDoor

/- The check of a slot, exactly: its values. -/
namespace Go.Proofs.YthphniobeigklaaGreatDoor
open Go.Em
set_option maxRecDepth 100000

end Go.Proofs.YthphniobeigklaaGreatDoor

/- The check of a slot, exactly. -/
namespace Go.Proofs.YthphniobeigklaaGreatDoor
open Go.Em
set_option maxRecDepth 100000

end Go.Proofs.YthphniobeigklaaGreatDoor

/- A round of the check of a state, exactly. -/
namespace Go.Proofs.YthphniobeigklaaGreatDoor
open Go.Em
set_option maxRecDepth 100000

section
variable {ce cc : Int} {z : Bool} {sp : Prop}
end
end Go.Proofs.YthphniobeigklaaGreatDoor

/- The check of a state, exactly. -/
namespace Go.Proofs.YthphniobeigklaaGreatDoor
open Go.Em
set_option maxRecDepth 100000

end Go.Proofs.YthphniobeigklaaGreatDoor

/- Values that compare as equal are one. -/
namespace Go.Proofs.YthphniobeigklaaGreatDoor
open Go.Em
set_option maxRecDepth 100000

theorem ordI_zero {a b : Int} (h : ordI a b = 0) : a = b := by
  unfold ordI at h
  split at h
  · cases h
  · split at h
    · cases h
    · omega
end Go.Proofs.YthphniobeigklaaGreatDoor

/- The order of values: three ways, turned about, in a chain. -/
namespace Go.Proofs.YthphniobeigklaaGreatDoor
open Go.Em
set_option maxRecDepth 100000

end Go.Proofs.YthphniobeigklaaGreatDoor

/- What the check of a state asks, told of the keys and the messages as lists. -/
namespace Go.Proofs.YthphniobeigklaaGreatDoor
open Go.Em
set_option maxRecDepth 100000

end Go.Proofs.YthphniobeigklaaGreatDoor

/- Conditions over the environment of a group: sum(items[*].n) > 5; 0 / body.n > 5. -/
namespace Go.Proofs.YthphniobeigklaaGreatDoor.Ag
open Go Go.Em Go.Proofs.YthphniobeigklaaGreatDoor
set_option maxRecDepth 100000

theorem chk266g (s : Int) (h : 0 ≤ s) (h2 : s ≤ 1000000) (N : Nat) : Gam.pureD (callF tab ext (N + 50)) 266 [.agg [num s, num 0]] = some (num 0) :=
  pure_of [(5, .p (num s)), (6, .b false), (10, .b false)] [] (pf3 (abs258 s h h2 (N + 48)) (show decide (s > 999999999999999) = false from decide_eq_false (by omega)) (show decide (s < -999999999999999) = false from decide_eq_false (by omega))) (x := num 0) (bx := []) (by kernel_rfl) rfl
theorem parts246g (s : Int) (h : 0 ≤ s) (h2 : s ≤ 1000000) (N : Nat) : Gam.pureD (callF tab ext (N + 50)) 246 [.agg [num s, num 0]] = some (.tup [num s, num 0]) := by
  have e1 : IntKind.i64.wrap (Int.tdiv s 1) = s := by rw [Int.tdiv_one, IntKind.wrap_i64]; omega
  have e2 : Int.tmod s 1 = 0 := Int.tmod_one s
  exact pure_of [(11, .i s), (15, .i 0)] [] (pf2 e1 e2) (x := .tup [num s, num 0]) (bx := []) (by kernel_rfl) rfl
theorem chk2 (s : Int) (h : 0 ≤ s) (h2 : s ≤ 1000000) (N : Nat) : Gam.pureD (callF tab ext (N + 52)) 245 [.sl false 2 [[num s, num 0], [num 5, num 0]]] = some (num 0) :=
  pure_of [(13, .p (num 0))] [] (pf2 (chk266g s h h2 (N + 1)) (chk266g 5 (by decide) (by decide) (N + 1))) (x := num 0) (bx := []) (by kernel_rfl) rfl
theorem cmp185 (s : Int) (h : 0 ≤ s) (h2 : s ≤ 1000000) (N : Nat) : Gam.pureD (callF tab ext (N + 60)) 185 [.agg [num s, num 0], .agg [num 5, num 0]] = some (.tup [num (ordI s 5), num 0]) := by
  have h1 := chk2 s h h2 (N + 7)
  have h3 := parts246g s h h2 (N + 9)
  have h4 := parts246g 5 (by decide) (by decide) (N + 9)
  have h5 := cmp_int (N + 55) s 5
  have h6 := or_pure (N + 58) [ordI s 5, 0] (by simp) (by simp)
  have h7 : orL [ordI s 5, 0] = ordI s 5 := by
    unfold orL
    split
    · rename_i e; rw [e]; rfl
    · rfl
  rw [h7] at h6
  generalize ordI s 5 = r at *
  exact pure_of [(14, .p (num 0)), (20, .p (.tup [num s, num 0])), (25, .p (.tup [num 5, num 0])), (30, .p (num r)), (35, .p (num r))] [] (pf5 h1 h3 h4 h5 h6) (x := .tup [num r, num 0]) (bx := []) (by kernel_rfl) rfl
end Go.Proofs.YthphniobeigklaaGreatDoor.Ag

/- The conditions evaluated: sum(items[*].n) > 5; 0 / body.n > 5. -/
namespace Go.Proofs.YthphniobeigklaaGreatDoor.Ag
open Go Go.Em Go.Proofs.YthphniobeigklaaGreatDoor
set_option maxRecDepth 100000

def n5X : List X := [num 1, num 0, strX ⟨#[]⟩, .sl false 6 [[num 2, num 5, num 0, strX ⟨#[]⟩, .sl true 6 [], .sl true 7 []]], .sl false 5 []]
def c1X : List X := [num 10, num 0, strX ⟨#[]⟩, .sl false 6 [], .sl false 5 [[num 26, num 0, strX sumT, .sl true 6 [], .sl true 5 []], n5X]]
def boolC (b : Bool) : List X := [num 1, num (if b then 1 else 0), num 0, strX ⟨#[]⟩, .sl false 6 [], .sl false 7 []]
def envX (fs : List (List X)) : X := .agg [num 9, num 0, num 0, strX ⟨#[]⟩, .sl false 6 [], .sl false 7 fs]
theorem rel182 (r : Int) (N : Nat) : Gam.pureD (callF tab ext (N + 1)) 182 [num r] = some (boolX (decide (r > 0))) := by kernel_rfl
theorem cmp129 (fs : List (List X)) (s : Int) (h : 0 ≤ s) (h2 : s ≤ 1000000) (N : Nat) : callF tab ext (N + 100) (.fn 129) [.ptr 0 0 0, .agg (kv s).cells, .agg (kv 5).cells] [macB fs] = some (num (ordI s 5), [macB fs]) := by
  have h1 := cmp185 s h h2 (N + 39)
  generalize ordI s 5 = r at *
  exact callF_of [(27, .p (.tup [num r, num 0]))] [] (pf1 h1) (by kernel_rfl)
section
variable {g w : Bool} {fs : List (List X)} {l : List Bd} (h : EnvOk g w fs l) (ht : Tiny (nsOf l)) (h0 : 0 < l.length) (hl : l.length ≤ 256)
include h ht h0 hl
theorem eval_sum (N : Nat) (hN : 4100 ≤ N) : callF tab ext N (.fn 96) [.ptr 0 0 0, .agg sumX] [macB fs] = some (.agg (kv (sumN (nsOf l) : Nat)).cells, [macB fs]) := by
  obtain ⟨M, rfl⟩ : ∃ M, N = M + 61 := ⟨N - 61, by omega⟩
  have h1 := sum133 h ht h0 hl (M + 60) (by omega)
  generalize ((sumN (nsOf l) : Nat) : Int) = s at *
  exact callF_of [(109, .r (.agg (kv s).cells) [macB fs])] [] (pf1 h1) (by kernel_rfl)
theorem need_sum (N : Nat) (hN : 4101 ≤ N) : callF tab ext N (.fn 127) [.ptr 0 0 0, .agg sumX] [macB fs] = some (.agg (kv (sumN (nsOf l) : Nat)).cells, [macB fs]) := by
  obtain ⟨M, rfl⟩ : ∃ M, N = M + 61 := ⟨N - 61, by omega⟩
  have h1 := eval_sum h ht h0 hl (M + 60) (by omega)
  generalize ((sumN (nsOf l) : Nat) : Int) = s at *
  exact callF_of [(8, .r (.agg (kv s).cells) [macB fs])] [] (pf1 h1) (by kernel_rfl)
theorem eval_c1 (N : Nat) (hN : 5000 ≤ N) : callF tab ext N (.fn 96) [.ptr 0 0 0, .agg c1X] [macB fs] = some (.agg (boolC (decide (5 < sumN (nsOf l)))), [macB fs]) := by
  obtain ⟨M, rfl⟩ : ∃ M, N = M + 201 := ⟨N - 201, by omega⟩
  have h1 := need_sum h ht h0 hl (M + 200) (by omega)
  have hle := sumN_le ht
  rw [nsOf_len] at hle
  have h2 := cmp129 fs (sumN (nsOf l) : Nat) (by omega) (by omega) (M + 100)
  have h3 := rel182 (ordI ((sumN (nsOf l) : Nat) : Int) 5) (M + 199)
  have e : decide (ordI ((sumN (nsOf l) : Nat) : Int) 5 > 0) = decide (5 < sumN (nsOf l)) := by
    apply decide_eq_decide.2
    unfold ordI
    split
    · omega
    · split <;> omega
  rw [e] at h3
  generalize ordI ((sumN (nsOf l) : Nat) : Int) 5 = r at *
  generalize ((sumN (nsOf l) : Nat) : Int) = s at *
  cases hb : decide (5 < sumN (nsOf l)) with
  | true =>
    rw [hb] at h3
    exact callF_of [(48, .r (.agg (kv s).cells) [macB fs]), (59, .r (num r) [macB fs]), (60, .p (boolX true))] [] (pf3 h1 h2 h3) (by kernel_rfl)
  | false =>
    rw [hb] at h3
    exact callF_of [(48, .r (.agg (kv s).cells) [macB fs]), (59, .r (num r) [macB fs]), (60, .p (boolX false))] [] (pf3 h1 h2 h3) (by kernel_rfl)
/-- Eval of the sum. -/
theorem ev_sum (N : Nat) (hN : 5001 ≤ N) : Gam.pureD (callF tab ext N) 55 [.agg sumX, envX fs] = some (.tup [.agg (kv (sumN (nsOf l) : Nat)).cells, num 0]) := by
  obtain ⟨M, rfl⟩ : ∃ M, N = M + 201 := ⟨N - 201, by omega⟩
  have h1 := eval_sum h ht h0 hl (M + 200) (by omega)
  have h2 := clone_kv ((sumN (nsOf l) : Nat) : Int) (M + 140)
  generalize ((sumN (nsOf l) : Nat) : Int) = s at *
  exact pure_of [(24, .r (.agg (kv s).cells) [macB fs]), (36, .p (.agg (kv s).cells))] [] (pf2 h1 h2) (x := .tup [.agg (kv s).cells, num 0]) (bx := []) (by kernel_rfl) rfl
theorem cond_c1 (N : Nat) (hN : 5300 ≤ N) : Gam.pureD (callF tab ext N) 39 [.agg c1X, envX fs] = some (.tup [boolX (decide (5 < sumN (nsOf l))), num 0]) := by
  obtain ⟨M, rfl⟩ : ∃ M, N = M + 202 := ⟨N - 202, by omega⟩
  have h1 := eval_c1 h ht h0 hl (M + 200) (by omega)
  generalize decide (5 < sumN (nsOf l)) = b at *
  have h2 : Gam.pureD (callF tab ext (M + 201)) 55 [.agg c1X, envX fs] = some (.tup [.agg (boolC b), num 0]) := by
    cases b with
    | true => exact pure_of [(24, .r (.agg (boolC true)) [macB fs])] [] (pf1 h1) (x := .tup [.agg (boolC true), num 0]) (bx := []) (by kernel_rfl) rfl
    | false => exact pure_of [(24, .r (.agg (boolC false)) [macB fs])] [] (pf1 h1) (x := .tup [.agg (boolC false), num 0]) (bx := []) (by kernel_rfl) rfl
  cases b with
  | true => exact pure_of [(11, .p (.tup [.agg (boolC true), num 0]))] [] (pf1 h2) (x := .tup [boolX true, num 0]) (bx := []) (by kernel_rfl) rfl
  | false => exact pure_of [(11, .p (.tup [.agg (boolC false), num 0]))] [] (pf1 h2) (x := .tup [boolX false, num 0]) (bx := []) (by kernel_rfl) rfl
end
end Go.Proofs.YthphniobeigklaaGreatDoor.Ag

/- The environments of a group. -/
namespace Go.Proofs.YthphniobeigklaaGreatDoor.Ag
open Go Go.Em Go.Proofs.YthphniobeigklaaGreatDoor
set_option maxRecDepth 100000

def bodyNm : ByteArray := ⟨#[98, 111, 100, 121]⟩
def countNm : ByteArray := ⟨#[99, 111, 117, 110, 116]⟩
def keyNm : ByteArray := ⟨#[107, 101, 121]⟩
def sumNm : ByteArray := ⟨#[115, 117, 109]⟩
def bdV (l : List Bd) : List Val := l.map fun b => bodyV b.1 b.2
def itemsV (l : List Bd) : Val := .mk 8 0 0 ⟨#[]⟩ (bdV l) []
/-- count, items, key. -/
def groupV (l : List Bd) (k : Int) : Val := .mk 9 0 0 ⟨#[]⟩ [] [(countNm, kv (l.length : Nat)), (itemsNm, itemsV l), (keyNm, kv k)]
theorem cellsL_bdV (l : List Bd) : cellsL (bdV l) = bdC l := by
  unfold bdV bdC
  induction l with
  | nil => rfl
  | cons b r ih => simp only [List.map_cons, cellsL, ih]
theorem itemsV_cells (l : List Bd) : (itemsV l).cells = itemsC (bdC l) := by
  show [num 8, num 0, num 0, strX ⟨#[]⟩, .sl false 6 (cellsL (bdV l)), .sl false 7 []] = _
  rw [cellsL_bdV]
  rfl
theorem bodyV_size (o : Option Int) (n : Nat) : (bodyV o n).size ≤ 20 := by
  cases o <;> simp [bodyV, kv, Val.size, sizeL, sizeF]
theorem bdV_size (l : List Bd) : sizeL (bdV l) ≤ 21 * l.length := by
  induction l with
  | nil => exact Nat.le_refl 0
  | cons b r ih =>
    have h1 := bodyV_size b.1 b.2
    have h2 : sizeL (bdV (b :: r)) = sizeL (bodyV b.1 b.2 :: bdV r) := rfl
    rw [h2]
    simp only [sizeL]
    simp only [List.length_cons]
    omega
theorem groupV_size (l : List Bd) (hl : l.length ≤ 256) (k : Int) : (groupV l k).size ≤ 6000 := by
  have := bdV_size l
  simp only [groupV, itemsV, kv, Val.size, sizeL, sizeF]
  omega
theorem itemsV_size (l : List Bd) (hl : l.length ≤ 256) : (itemsV l).size ≤ 6000 := by
  have := bdV_size l
  simp only [itemsV, Val.size, sizeF]
  omega
theorem list120 (l : List Bd) (hl : l.length ≤ 256) (N : Nat) (hN : 7001 ≤ N) : Gam.pureD (callF tab ext N) 120 [.sl false 6 (bdC l)] = some (.agg (itemsC (bdC l))) := by
  obtain ⟨M, rfl⟩ : ∃ M, N = M + 1 := ⟨N - 1, by omega⟩
  have hs := itemsV_size l hl
  have h1 := clone_val M (itemsV l) (by omega) (by omega)
  rw [itemsV_cells] at h1
  exact pure_of [(5, .p (.agg (itemsC (bdC l))))] [] (pf1 h1) (x := .agg (itemsC (bdC l))) (bx := []) (by kernel_rfl) rfl
def groupFs (es : List (List X)) (c k : Int) : List (List X) := [strX countNm :: (kv c).cells, strX itemsNm :: itemsC es, strX keyNm :: (kv k).cells]
theorem groupV_cells (l : List Bd) (k : Int) : (groupV l k).cells = [num 9, num 0, num 0, strX ⟨#[]⟩, .sl false 6 [], .sl false 7 (groupFs (bdC l) (l.length : Nat) k)] := by
  show [num 9, num 0, num 0, strX ⟨#[]⟩, .sl false 6 [], .sl false 7 [strX countNm :: (kv (l.length : Nat)).cells, strX itemsNm :: (itemsV l).cells, strX keyNm :: (kv k).cells]] = _
  rw [itemsV_cells]
  rfl
theorem rec97 (es : List (List X)) (c k : Int) (N : Nat) (h : Gam.pureD (callF tab ext (N + 200)) 75 [envX (groupFs es c k)] = some (envX (groupFs es c k))) : Gam.pureD (callF tab ext (N + 201)) 97 [.sl false 7 (groupFs es c k)] = some (envX (groupFs es c k)) :=
  pure_of [(40, .p (envX (groupFs es c k)))] [] (pf2 (show 0 + 3 ≤ (groupFs es c k).length from Nat.le_refl 3) h) (x := envX (groupFs es c k)) (bx := []) (by kernel_rfl) rfl
theorem group90 (l : List Bd) (hl : l.length ≤ 256) (k : Int) (N : Nat) (hN : 8000 ≤ N) : Gam.pureD (callF tab ext N) 90 [.agg (kv k).cells, .sl false 6 (bdC l)] = some (envX (groupFs (bdC l) (l.length : Nat) k)) := by
  obtain ⟨M, rfl⟩ : ∃ M, N = M + 202 := ⟨N - 202, by omega⟩
  have h1 := list120 l hl (M + 201) (by omega)
  have hs := groupV_size l hl k
  have h2 := clone_val (M + 200) (groupV l k) (by omega) (by omega)
  rw [groupV_cells] at h2
  have h3 := rec97 (bdC l) (l.length : Nat) k M h2
  rw [← bdC_len l] at h3 ⊢
  generalize bdC l = es at *
  exact pure_of [(10, .p (.agg (itemsC es))), (15, .p (envX (groupFs es (es.length : Nat) k)))] [] (pf2 h1 h3) (x := envX (groupFs es (es.length : Nat) k)) (bx := []) (by kernel_rfl) rfl
theorem groupEnv (l : List Bd) (c k : Int) : EnvOk false false (groupFs (bdC l) c k) l :=
  ⟨fun M hM => by
    obtain ⟨K, rfl⟩ : ∃ K, M = K + 60 := ⟨M - 60, by omega⟩
    generalize bdC l = es
    kernel_rfl, fun M hM => by
    obtain ⟨K, rfl⟩ : ∃ K, M = K + 60 := ⟨M - 60, by omega⟩
    rw [bdG_false]
    generalize bdC l = es
    kernel_rfl⟩
end Go.Proofs.YthphniobeigklaaGreatDoor.Ag

/- A copy of a value, with its rows. -/
namespace Go.Proofs.YthphniobeigklaaGreatDoor.Ag
open Go Go.Em Go.Proofs.YthphniobeigklaaGreatDoor
set_option maxRecDepth 100000
theorem clone_raw (M : Nat) (k i s : Int) (t : ByteArray) (l : List Val) (f : List (ByteArray × Val)) (h : (Val.mk k i s t l f).size < M + 1) (hs : (Val.mk k i s t l f).size < 1000000) :
    callF tab ext (M + 1) (.fn 75) [.agg (Val.mk k i s t l f).cells] [] = some (.agg [num k, num i, num s, strX t, .bs 0 0 (cellsL l).length, .bs 1 0 (cellsF f).length], [.row 6 (cellsL l), .row 7 (cellsF f)]) := by
    simp only [Val.size] at h hs
    have hl := sizeL_length l
    have hf := sizeF_length f
    have el := cellsL_length l
    have ef := cellsF_length f
    have h1 : run (callF tab ext M) 0 M (.loop (loopAt 75 0)) (clH k i s t (cellsL l) (cellsF f) [] (cellsL l).length 0) = some (.exit 0, clE k i s t (cellsL l) (cellsF f) (cellsL l) (cellsL l).length (cellsL l).length) := by
      refine loop_for (σ := fun j => clH k i s t (cellsL l) (cellsF f) ((cellsL l).take j) (cellsL l).length j) (k := (cellsL l).length) (cl_canon _ _ _ _ _ _ _ _ _) (fun j hj => ?_) ?_ (by simp) (by omega)
      · have hj' : j < l.length := by omega
        have hg := cellsL_get hj'
        have hm := sizeL_mem (List.getElem_mem hj')
        refine ⟨_, cl_step M k i s t _ _ _ _ j l[j] (clone_val M l[j] (by omega) (by omega)) hg (by omega) (by omega) (by rw [List.length_take]; omega), ?_⟩<;>grind[cl_canon',take_succ_get]
      · grind[cl_end]
    have h2 : run (callF tab ext M) 0 M (.loop (loopAt 75 1)) ⟨[(2, .ptr 1 0 0), (3, .ptr 2 0 0), (27, .sl false 7 (cellsF f)), (28, nat (cellsF f).length), (29, nat 0)], [.var [num k, num i, num s, strX t, .sl false 6 (cellsL l), .sl false 7 (cellsF f)], .var zVal, .var [num k, num i, num s, strX t, .bs 3 0 (cellsL l).length, .bs 4 0 0], .row 6 (cellsL l), .row 7 []]⟩ = some (.exit 2, cfE k i s t (cellsF f) (cellsL l) (cellsF f) (cellsF f).length (cellsF f).length (cellsL l).length) := by
      refine loop_for (σ := fun j => cfH k i s t (cellsF f) (cellsL l) ((cellsF f).take j) (cellsF f).length j (cellsL l).length) (k := (cellsF f).length) (by kernel_rfl) (fun j hj => ?_) ?_ (by simp) (by omega)
      · have hj' : j < f.length := by omega
        have hg := cellsF_get hj'
        have hm := sizeF_mem (List.getElem_mem hj')
        refine ⟨_, cf_step M k i s t _ _ _ _ j _ f[j].2 f[j].1 (clone_val M f[j].2 (by omega) (by omega)) hg (by omega) (by omega) (by rw [List.length_take]; omega), ?_⟩<;>grind[cf_canon',take_succ_get]
      · grind[cf_end]
    exact callF_of [] [(.exit 0, clE k i s t (cellsL l) (cellsF f) (cellsL l) (cellsL l).length (cellsL l).length), (.exit 2, cfE k i s t (cellsF f) (cellsL l) (cellsF f) (cellsF f).length (cellsF f).length (cellsL l).length)]
      (pf2 h1 h2) (by kernel_rfl)
end Go.Proofs.YthphniobeigklaaGreatDoor.Ag

/- The environment of a condition. -/
namespace Go.Proofs.YthphniobeigklaaGreatDoor.Ag
open Go Go.Em Go.Proofs.YthphniobeigklaaGreatDoor
set_option maxRecDepth 100000

def condFs (b : Bd) (es : List (List X)) (c k : Int) : List (List X) := (strX bodyNm :: (bodyV b.1 b.2).cells) :: groupFs es c k
theorem with111 (b : Bd) (es : List (List X)) (c k : Int) (N : Nat) (h1 : callF tab ext (N + 300) (.fn 75) [envX (groupFs es c k)] [] = some (.agg [num 9, num 0, num 0, strX ⟨#[]⟩, .bs 0 0 0, .bs 1 0 3], [.row 6 [], .row 7 (groupFs es c k)]))
    (h2 : Gam.pureD (callF tab ext (N + 300)) 75 [.agg (bodyV b.1 b.2).cells] = some (.agg (bodyV b.1 b.2).cells)) :
    Gam.pureD (callF tab ext (N + 301)) 111 [envX (groupFs es c k), strX bodyNm, .agg (bodyV b.1 b.2).cells] = some (.tup [envX (condFs b es c k), num 0]) := by
  obtain ⟨o, n⟩ := b
  cases o with
  | none =>
    exact pure_of [(64, .p (.agg (bodyV none n).cells)), (39, .o (.agg [num 9, num 0, num 0, strX ⟨#[]⟩, .bs 0 0 0, .bs 1 0 3]) [.row 6 [], .row 7 (groupFs es c k)])] [] (pf2 h1 h2)
      (x := .tup [.agg [num 9, num 0, num 0, strX ⟨#[]⟩, .bs 0 0 0, .bs 1 0 4], num 0]) (bx := [.row 6 [], .row 7 (condFs (none, n) es c k)]) (by kernel_rfl) rfl
  | some q =>
    exact pure_of [(64, .p (.agg (bodyV (some q) n).cells)), (39, .o (.agg [num 9, num 0, num 0, strX ⟨#[]⟩, .bs 0 0 0, .bs 1 0 3]) [.row 6 [], .row 7 (groupFs es c k)])] [] (pf2 h1 h2)
      (x := .tup [.agg [num 9, num 0, num 0, strX ⟨#[]⟩, .bs 0 0 0, .bs 1 0 4], num 0]) (bx := [.row 6 [], .row 7 (condFs (some q, n) es c k)]) (by kernel_rfl) rfl
theorem clone_body (b : Bd) (N : Nat) (hN : 100 ≤ N) : Gam.pureD (callF tab ext N) 75 [.agg (bodyV b.1 b.2).cells] = some (.agg (bodyV b.1 b.2).cells) := by
  have := bodyV_size b.1 b.2
  exact clone_val N (bodyV b.1 b.2) (by omega) (by omega)
theorem withAt (b : Bd) (l : List Bd) (hl : l.length ≤ 256) (k : Int) (N : Nat) (hN : 8000 ≤ N) :
    Gam.pureD (callF tab ext N) 111 [envX (groupFs (bdC l) (l.length : Nat) k), strX bodyNm, .agg (bodyV b.1 b.2).cells] = some (.tup [envX (condFs b (bdC l) (l.length : Nat) k), num 0]) := by
  obtain ⟨M, rfl⟩ : ∃ M, N = M + 301 := ⟨N - 301, by omega⟩
  have hs := groupV_size l hl k
  have h1 := clone_raw (M + 299) 9 0 0 ⟨#[]⟩ [] [(countNm, kv (l.length : Nat)), (itemsNm, itemsV l), (keyNm, kv k)] (by have : (groupV l k).size ≤ 6000 := hs; unfold groupV at this; omega) (by have : (groupV l k).size ≤ 6000 := hs; unfold groupV at this; omega)
  have e : cellsF [(countNm, kv (l.length : Nat)), (itemsNm, itemsV l), (keyNm, kv k)] = groupFs (bdC l) (l.length : Nat) k := by
    show [strX countNm :: (kv (l.length : Nat)).cells, strX itemsNm :: (itemsV l).cells, strX keyNm :: (kv k).cells] = _
    rw [itemsV_cells]
    rfl
  have e2 : (Val.mk 9 0 0 ⟨#[]⟩ [] [(countNm, kv (l.length : Nat)), (itemsNm, itemsV l), (keyNm, kv k)]).cells = [num 9, num 0, num 0, strX ⟨#[]⟩, .sl false 6 [], .sl false 7 (groupFs (bdC l) (l.length : Nat) k)] := groupV_cells l k
  rw [e2, e] at h1
  exact with111 b (bdC l) (l.length : Nat) k M h1 (clone_body b _ (by omega))
/-- The environment of the model: its items have no row of fields, its bodies are tight. -/
def condFsG (g w : Bool) (b : Bd) (es : List (List X)) (c k : Int) : List (List X) := [strX bodyNm :: bodyG w b.1 b.2, strX countNm :: (kv c).cells, strX itemsNm :: itemsG g es, strX keyNm :: (kv k).cells]
theorem condEnvG (g w : Bool) (b : Bd) (l : List Bd) (c k : Int) : EnvOk g w (condFsG g w b (bdG w l) c k) l := by
  obtain ⟨o, n⟩ := b
  refine ⟨fun M hM => ?_, fun M hM => ?_⟩
  all_goals
    obtain ⟨K, rfl⟩ : ∃ K, M = K + 60 := ⟨M - 60, by omega⟩
    generalize bdG w l = es
  · cases o with
    | none => exact (show Gam.pureD (callF tab ext (K + 60)) 253 [.agg (partC 1 itemsNm), envX (condFsG g w (none, n) es c k)] = some (boolX true) from by kernel_rfl)
    | some q => exact (show Gam.pureD (callF tab ext (K + 60)) 253 [.agg (partC 1 itemsNm), envX (condFsG g w (some q, n) es c k)] = some (boolX true) from by kernel_rfl)
  · cases o with
    | none => exact (show Gam.pureD (callF tab ext (K + 60)) 254 [.agg (partC 1 itemsNm), envX (condFsG g w (none, n) es c k)] = some (.sl false 6 [itemsG g es]) from by kernel_rfl)
    | some q => exact (show Gam.pureD (callF tab ext (K + 60)) 254 [.agg (partC 1 itemsNm), envX (condFsG g w (some q, n) es c k)] = some (.sl false 6 [itemsG g es]) from by kernel_rfl)
theorem condFs_G (b : Bd) (es : List (List X)) (c k : Int) : condFs b es c k = condFsG false false b es c k := by
  unfold condFsG
  rw [bodyG_false]
  rfl
theorem condEnv (b : Bd) (l : List Bd) (c k : Int) : EnvOk false false (condFs b (bdC l) c k) l := by
  rw [condFs_G, ← bdG_false]
  exact condEnvG false false b l c k
end Go.Proofs.YthphniobeigklaaGreatDoor.Ag

/- aggregator.complete: whether a group is complete. -/
namespace Go.Proofs.YthphniobeigklaaGreatDoor.Ag
open Go Go.Em Go.Proofs.YthphniobeigklaaGreatDoor
set_option maxRecDepth 100000

def aggT : ByteArray := ⟨#[97, 103, 103]⟩
def nodX (nu ti li : Int) (ex ty ru : List (List X)) : List X := [strX aggT, num 4, num 0, num 0, num nu, num ti, num li, strX ⟨#[]⟩, num 9, num 0, num 0, num 0, .sl false 1 [], .sl false 7 [], .sl false 11 ty, .sl false 7 [], .sl false 5 ex, .sl false 6 ru, .sl false 2 [], .sl false 1 []]
def eKey : List X := [num 2, num 0, strX ⟨#[98, 111, 100, 121, 46, 107]⟩, .sl false 6 [], .sl false 5 []]
def nX (i : Int) : List X := [num 1, num 0, strX ⟨#[]⟩, .sl false 6 [[num 2, num i, num 0, strX ⟨#[]⟩, .sl true 6 [], .sl true 7 []]], .sl false 5 []]
/-- The condition of a sketch: none, the sum, a division. -/
def exN : Nat → List (List X)
  | 1 => [eKey, [num 10, num 0, strX ⟨#[]⟩, .sl true 6 [], .sl true 5 [[num 26, num 0, strX sumT, .sl true 6 [], .sl true 5 []], nX 5]]]
  | 2 => [eKey, [num 10, num 0, strX ⟨#[]⟩, .sl true 6 [], .sl true 5 [[num 15, num 0, strX ⟨#[]⟩, .sl true 6 [], .sl true 5 [nX 0, [num 2, num 0, strX ⟨#[98, 111, 100, 121, 46, 110]⟩, .sl false 6 [], .sl false 5 []]]], nX 5]]]
  | _ => [eKey]
def c2X : List X := [num 10, num 0, strX ⟨#[]⟩, .sl false 6 [], .sl false 5 [[num 15, num 0, strX ⟨#[]⟩, .sl true 6 [], .sl true 5 [nX 0, [num 2, num 0, strX ⟨#[98, 111, 100, 121, 46, 110]⟩, .sl false 6 [], .sl false 5 []]]], nX 5]]
theorem enough109 (nu ti li : Int) (ex ty ru : List (List X)) (n : Nat) (N : Nat) : Gam.pureD (callF tab ext (N + 10)) 109 [.agg (nodX nu ti li ex ty ru), nat n] = some (boolX (decide (0 < nu ∧ nu ≤ (n : Int)))) := by
  by_cases h : 0 < nu
  · have h1 : decide (nu > 0) = true := decide_eq_true h
    by_cases h2 : nu ≤ (n : Int)
    · rw [decide_eq_true (show 0 < nu ∧ nu ≤ (n : Int) from ⟨h, h2⟩)]
      exact pure_of [(7, .b true), (12, .b true)] [] (pf2 h1 (show decide (Int.ofNat n ≥ nu) = true from decide_eq_true h2)) (x := boolX true) (bx := []) (by kernel_rfl) rfl
    · rw [decide_eq_false (show ¬ (0 < nu ∧ nu ≤ (n : Int)) from fun h3 => h2 h3.2)]
      exact pure_of [(7, .b true), (12, .b false)] [] (pf2 h1 (show decide (Int.ofNat n ≥ nu) = false from decide_eq_false h2)) (x := boolX false) (bx := []) (by kernel_rfl) rfl
  · rw [decide_eq_false (show ¬ (0 < nu ∧ nu ≤ (n : Int)) from fun h3 => h h3.1)]
    exact pure_of [(7, .b false)] [] (pf1 (show decide (nu > 0) = false from decide_eq_false h)) (x := boolX false) (bx := []) (by kernel_rfl) rfl
end Go.Proofs.YthphniobeigklaaGreatDoor.Ag

/- A message's fate, and its environment. -/
namespace Go.Proofs.YthphniobeigklaaGreatDoor
open Go.Em
set_option maxRecDepth 100000

theorem fate_pure (m : Msg) (hm : m.ok) (name r : ByteArray) (N : Nat) (hN : 300 ≤ N) : Gam.pureD (callF tab ext N) 122 [.agg m.cells, strX name, num 4, .sl false 1 [[.fn 144 [.dp [strX r]]]]] = some (.agg (Fte.mk m.st 4 name [] r).cells) := by
  obtain ⟨M, rfl⟩ : ∃ M, N = M + 101 := ⟨N - 101, by omega⟩
  have h1 := clone_stamp (M + 98) m.st hm.st
  obtain ⟨⟨e, p⟩, ms, o, ⟨a1, a2, a3, a4, a5, a6⟩⟩ := m
  exact pure_of [(14, .p (.agg (Stp.mk e p).cells))] [] (pf1 h1) (x := .agg [num e, .sl false 1 (intsC p), num 4, strX name, .sl true 2 [], strX r]) (bx := []) (by kernel_rfl) rfl
/-- message.Rejected. -/
theorem rejected_pure (m : Msg) (hm : m.ok) (name r : ByteArray) (N : Nat) (hN : 310 ≤ N) : Gam.pureD (callF tab ext N) 98 [.agg m.cells, strX name, strX r] = some (.agg (Fte.mk m.st 4 name [] r).cells) := by
  obtain ⟨M, rfl⟩ : ∃ M, N = M + 1 := ⟨N - 1, by omega⟩
  have h1 := fate_pure m hm name r M (by omega)
  obtain ⟨⟨e, p⟩, ms, o, ⟨a1, a2, a3, a4, a5, a6⟩⟩ := m
  exact pure_of [(11, .p (.agg (Fte.mk ⟨e, p⟩ 4 name [] r).cells))] [] (pf1 h1) (x := .agg (Fte.mk ⟨e, p⟩ 4 name [] r).cells) (bx := []) (by kernel_rfl) rfl
end Go.Proofs.YthphniobeigklaaGreatDoor

/- (*aggregator.builder).reject: a message is rejected. -/
namespace Go.Proofs.YthphniobeigklaaGreatDoor.Ag
open Go Go.Em Go.Proofs.YthphniobeigklaaGreatDoor
set_option maxRecDepth 100000

section
variable (nu ti li : Int) (ex ty ru ss O F L : List (List X))
/-- The builder: node, state, where the rows of outputs, fates and letters lie. -/
def bX (i no j nf q nl : Nat) : List X := nodX nu ti li ex ty ru ++ [num 0, num 0, .sl false 10 ss, .bs i 0 no, .sl true 11 [], .bs j 0 nf, .bs q 0 nl]
theorem rej80 (m : Msg) (hm : m.ok) (r : ByteArray) (no nf nl : Nat) (hf : nf = F.length) (hl : nl = L.length) (hf2 : nf < 10000) (hl2 : nl < 10000) (N : Nat) (hN : 190100 ≤ N) :
    callF tab ext N (.fn 80) [.ptr 0 0 0, .agg m.cells, strX r] [.var (bX nu ti li ex ty ru ss 1 no 2 nf 3 nl), .row 11 O, .row 6 F, .row 10 L] =
      some (.tup [], [.var (bX nu ti li ex ty ru ss 1 no 4 (nf + 1) 5 (nl + 1)), .row 11 O, .dead, .dead, .row 6 (F ++ [(Fte.mk m.st 4 aggT [] r).cells]), .row 10 (L ++ [m.cells])]) := by
  obtain ⟨M, rfl⟩ : ∃ M, N = M + 1 := ⟨N - 1, by omega⟩
  have h1 := rejected_pure m hm aggT r M (by omega)
  have h2 := clone_msg M m hm (by omega)
  have h3 := app_ok (acc := F) nf 0 96 (by omega) (by omega) (by omega)
  have h4 := app_ok (acc := L) nl 0 152 (by omega) (by omega) (by omega)
  obtain ⟨⟨e, p⟩, mm, o, ⟨a1, a2, a3, a4, a5, a6⟩⟩ := m
  exact callF_of [(19, .p (.agg (Fte.mk ⟨e, p⟩ 4 aggT [] r).cells)), (21, .app), (32, .p (.agg (Msg.mk ⟨e, p⟩ mm o ⟨a1, a2, a3, a4, a5, a6⟩).cells)), (34, .app)] [] (pf4 h1 h3 h2 h4) (by kernel_rfl)
end
/-! ### All messages of a list -/
section
variable (nu ti li : Int) (ex ty ru ss O F L ms : List (List X)) (r : ByteArray) (no nf nl n j : Nat) (N : Nat)
end
end Go.Proofs.YthphniobeigklaaGreatDoor.Ag

/- message.Under, Merged, bodies, Merge. -/
namespace Go.Proofs.YthphniobeigklaaGreatDoor.Ag
open Go Go.Em Go.Proofs.YthphniobeigklaaGreatDoor
set_option maxRecDepth 100000

def undS (s : Stp) (j : Nat) : Stp := ⟨s.e, s.p ++ [(j : Int)]⟩
theorem intsC_snoc (p : List Int) (k : Int) : intsC p ++ [[num k]] = intsC (p ++ [k]) := by simp [intsC]
theorem under_l (M : Nat) (e k : Int) (l : List (List X)) (n : Nat) (h1 : callF tab ext (M + 1) (.fn 42) [.sl false 1 l] [] = some (.bs 0 0 n, [.row 1 l])) (hn : n = l.length) (hb : n < 1000000) : Gam.pureD (callF tab ext (M + 2)) 22 [.agg [num e, .sl false 1 l], num k] = some (X.agg [num e, .sl false 1 (l ++ [[num k]])]) :=
  pure_of [(9, .o (.bs 0 0 n) [.row 1 l]), (12, .app)] [] (pf2 h1 (app_ok n 2 8 hn hb (by omega))) (x := .agg [num e, .bs 0 0 (n + 1)]) (bx := [.row 1 (l ++ [[num k]])]) (by kernel_rfl)
    (data_agg (dataL_cons rfl (dataL_cons (data_bs rfl (by rw [List.length_append]; simp [hn])) rfl)))
theorem under22 (s : Stp) (hs : s.ok) (k : Nat) (N : Nat) (hN : 10 ≤ N) : Gam.pureD (callF tab ext N) 22 [.agg s.cells, nat k] = some (.agg (undS s k).cells) := by
  obtain ⟨M, rfl⟩ : ∃ M, N = M + 2 := ⟨N - 2, by omega⟩
  have h := under_l M s.e k (intsC s.p) s.p.length (clone_row M s.p hs.p) (intsC_length s.p).symm (by have := hs.p; omega)
  rw [intsC_snoc] at h
  exact h
/-! ### into, fate -/
section
variable (N n j : Nat) (e k : Int) (p : List (List X)) (nm : ByteArray) (l ss : List (List X)) (se : Int) (sp : List (List X))
def itH : St := ⟨[(0, .ptr 0 0 0), (5, .sl false 2 l), (6, nat n), (7, nat j)], [.var [num e, .sl false 1 p, num k, strX nm, .bs 1 0 j, strX ⟨#[]⟩], .row 2 ss]⟩
theorem it_canon : canon 1 (itH n j e k p nm l ss) = some (itH n j e k p nm l ss) := by kernel_rfl
theorem it_step (hi : l[j]? = some [num se, .sl false 1 sp]) (h1 : Gam.pureD (callF tab ext N) 74 [.agg [num se, .sl false 1 sp]] = some (.agg [num se, .sl false 1 sp])) (hj : j < n) (hl : n < 100000) (hs : j = ss.length) :
    ∃ υ, run (callF tab ext N) 1 N (loopAt 174 0) (itH n j e k p nm l ss) = some (.norm, υ) ∧ canon 1 υ = some (itH n (j + 1) e k p nm l (ss ++ [[num se, .sl false 1 sp]])) :=
  rd_of [(8, .b true), (9, .e [num se, .sl false 1 sp]), (17, .p (.agg [num se, .sl false 1 sp])), (19, .app), (22, .i (Int.ofNat (j + 1)))]
    (pf5 (lt_nat hj) hi h1 (app_ok j 1 32 hs (by omega) (by omega)) (next_nat (j := j) (by omega))) (by kernel_rfl)
theorem it_end : run (callF tab ext N) 1 N (loopAt 174 0) (itH n n e k p nm l ss) = some (.exit 0, ⟨[(0, .ptr 0 0 0), (5, .sl false 2 l), (6, nat n), (7, nat n), (8, .v (.bool false))], [.var [num e, .sl false 1 p, num k, strX nm, .bs 1 0 n, strX ⟨#[]⟩], .row 2 ss]⟩) :=
  run_of [(8, .b false)] [] (pf1 (nlt_nat (j := n) (k := n) (by omega))) (lo' := []) (by kernel_rfl)
end
theorem into_call (N : Nat) (s : Stp) (hs : s.ok) (hN : 20 ≤ N) (e k : Int) (p : List (List X)) (nm : ByteArray) :
    callF tab ext N (.fn 174) [.ptr 0 0 0, .dp [.sl false 2 [s.cells]]] [.var [num e, .sl false 1 p, num k, strX nm, .sl true 2 [], strX ⟨#[]⟩]] = some (.tup [], [.var [num e, .sl false 1 p, num k, strX nm, .bs 1 0 1, strX ⟨#[]⟩], .row 2 [s.cells]]) := by
  obtain ⟨M, rfl⟩ : ∃ M, N = M + 3 := ⟨N - 3, by omega⟩
  have hrun : run (callF tab ext (M + 2)) 1 (M + 2) (.loop (loopAt 174 0)) (itH 1 0 e k p nm [s.cells] []) = some (.exit 0, ⟨[(0, .ptr 0 0 0), (5, .sl false 2 [s.cells]), (6, nat 1), (7, nat 1), (8, .v (.bool false))], [.var [num e, .sl false 1 p, num k, strX nm, .bs 1 0 1, strX ⟨#[]⟩], .row 2 [s.cells]]⟩) := by
    have hc := clone_stamp M s hs
    obtain ⟨se, sp⟩ := s
    obtain ⟨υ, h1, h2⟩ := it_step (M + 2) 1 0 e k p nm [Stp.cells ⟨se, sp⟩] [] se (intsC sp) rfl hc (by omega) (by omega) rfl
    exact iter_step (it_canon ..) h1 (iter_end h2 (it_end ..) (by simp))
  generalize s.cells = so at hrun ⊢
  exact callF_of [] [(.exit 0, ⟨[(0, .ptr 0 0 0), (5, .sl false 2 [so]), (6, nat 1), (7, nat 1), (8, .v (.bool false))], [.var [num e, .sl false 1 p, num k, strX nm, .bs 1 0 1, strX ⟨#[]⟩], .row 2 [so]]⟩)] (pf1 hrun) (by kernel_rfl)
theorem fate2 (m : Msg) (hm : m.st.ok) (nm : ByteArray) (s : Stp) (hs : s.ok) (N : Nat) (hN : 30 ≤ N) : Gam.pureD (callF tab ext N) 122 [.agg m.cells, strX nm, num 2, .sl false 1 [[.fn 174 [.dp [.sl false 2 [s.cells]]]]]] = some (.agg (Fte.mk m.st 2 nm [s] ⟨#[]⟩).cells) := by
  obtain ⟨M, rfl⟩ : ∃ M, N = M + 3 := ⟨N - 3, by omega⟩
  have h1 := clone_stamp M m.st hm
  have h2 := into_call (M + 2) s hs (by omega) m.st.e 2 (intsC m.st.p) nm
  show _ = some (X.agg [num m.st.e, .sl false 1 (intsC m.st.p), num 2, strX nm, .sl false 2 [s.cells], strX ⟨#[]⟩])
  obtain ⟨⟨e, p⟩, w, o, ⟨a1, a2, a3, a4, a5, a6⟩⟩ := m
  generalize s.cells = so at *
  exact pure_of [(14, .p (.agg (Stp.mk e p).cells)), (25, .r (.tup []) [.var [num e, .sl false 1 (intsC p), num 2, strX nm, .bs 1 0 1, strX ⟨#[]⟩], .row 2 [so]])] [] (pf2 h1 h2) (x := .agg [num e, .sl false 1 (intsC p), num 2, strX nm, .bs 0 0 1, strX ⟨#[]⟩]) (bx := [.row 2 [so]]) (by kernel_rfl) rfl
/-! ### Merged -/
section
variable (ms acc : List (List X)) (nm : ByteArray) (s : Stp) (n j : Nat) (N : Nat)
def mdH : St := ⟨[(1, strX nm), (5, .ptr 0 0 0), (7, .bs 1 0 j), (10, .sl false 10 ms), (11, nat n), (12, nat j)], [.var s.cells, .row 6 acc]⟩
def mdE : St := ⟨[(1, strX nm), (5, .ptr 0 0 0), (7, .bs 1 0 j), (10, .sl false 10 ms), (11, nat n), (12, nat j), (13, boolX false)], [.var s.cells, .row 6 acc]⟩
theorem md_canon : canon 0 (mdH ms acc nm s n j) = some (mdH ms acc nm s n j) := by
  obtain ⟨e, p⟩ := s
  kernel_rfl
theorem md_end (h : ¬ j < n) : run (callF tab ext N) 0 N (loopAt 92 0) (mdH ms acc nm s n j) = some (.exit 0, mdE ms acc nm s n j) := by
  obtain ⟨e, p⟩ := s
  exact run_of [(13, .b false)] [] (pf1 (nlt_nat h)) (lo' := []) (by kernel_rfl)
theorem md_round (m : Msg) (hm : m.st.ok) (hs : s.ok) (he : ms[j]? = some m.cells) (hj : j < n) (hn : n < 10000) (ha : j = acc.length) :
    ∃ υ, run (callF tab ext (N + 100)) 0 (N + 100) (loopAt 92 0) (mdH ms acc nm s n j) = some (.norm, υ) ∧ canon 0 υ = some (mdH ms (acc ++ [(Fte.mk m.st 2 nm [s] ⟨#[]⟩).cells]) nm s n (j + 1)) := by
  have hf := fate2 m hm nm s hs (N + 100) (by omega)
  have h1 := lt_nat hj
  have h2 := next_nat (j := j) (by omega)
  have h3 := app_ok (acc := acc) j 1 96 ha (by omega) (by omega)
  obtain ⟨⟨e2, sp⟩, mm, os, ⟨a1, a2, a3, a4, a5, a6⟩⟩ := m
  obtain ⟨e, p⟩ := s
  exact rd_of [(13, .b true), (14, .e (Msg.mk ⟨e2, sp⟩ mm os (.mk a1 a2 a3 a4 a5 a6)).cells), (23, .p (.agg (Fte.mk ⟨e2, sp⟩ 2 nm [⟨e, p⟩] ⟨#[]⟩).cells)), (25, .app), (26, .i (Int.ofNat (j + 1)))] (pf5 h1 he hf h3 h2) (by kernel_rfl)
end
def mrgF (ms : List Msg) (nm : ByteArray) (s : Stp) : List Fte := ms.map fun m => Fte.mk m.st 2 nm [s] ⟨#[]⟩
theorem merged92 (ms : List Msg) (hm : ∀ m, m ∈ ms → m.st.ok) (hl : ms.length < 1000) (nm : ByteArray) (s : Stp) (hs : s.ok) (N : Nat) (hN : 1100 ≤ N) :
    Gam.pureD (callF tab ext N) 92 [.sl false 10 (msgsC ms), strX nm, .agg s.cells] = some (.sl false 6 (ftesC (mrgF ms nm s))) := by
  obtain ⟨M, rfl⟩ : ∃ M, N = M + 101 := ⟨N - 101, by omega⟩
  have hn := msgsC_length ms
  have h1 : run (callF tab ext (M + 100)) 0 (M + 100) (.loop (loopAt 92 0)) (mdH (msgsC ms) [] nm s (msgsC ms).length 0) = some (.exit 0, mdE (msgsC ms) (ftesC (mrgF ms nm s)) nm s (msgsC ms).length (msgsC ms).length) := by
    refine loop_for (σ := fun j => mdH (msgsC ms) (ftesC (mrgF (ms.take j) nm s)) nm s (msgsC ms).length j) (k := (msgsC ms).length) (md_canon ..) (fun j hj => ?_) ?_ (by simp) (by omega)
    · have hj' : j < ms.length := by omega
      have e : ftesC (mrgF (ms.take (j + 1)) nm s) = ftesC (mrgF (ms.take j) nm s) ++ [(Fte.mk ms[j].st 2 nm [s] ⟨#[]⟩).cells] := by
        unfold ftesC mrgF
        rw [List.take_succ_eq_append_getElem hj', List.map_append, List.map_append]
        rfl
      rw [e]
      exact md_round _ _ nm s _ j M ms[j] (hm _ (List.getElem_mem hj')) hs (msgsC_get hj') hj (by omega) (by simp [ftesC, mrgF]; omega)
    · rw [List.take_of_length_le (by omega)]
      exact md_end _ _ nm s _ _ (M + 100) (by omega)
  have hlen : (msgsC ms).length = (ftesC (mrgF ms nm s)).length := by simp [msgsC, ftesC, mrgF]
  generalize ftesC (mrgF ms nm s) = F at *
  generalize msgsC ms = L at *
  obtain ⟨e, p⟩ := s
  exact pure_of [] [(.exit 0, mdE L F nm ⟨e, p⟩ L.length L.length)] (pf1 h1) (x := .bs 0 0 L.length) (bx := [.row 6 F]) (by kernel_rfl) (data_bs rfl hlen)
/-! ### bodies -/
section
variable (ms acc : List (List X)) (n j : Nat) (N : Nat)
def boH : St := ⟨[(3, .bs 0 0 j), (6, .sl false 10 ms), (7, nat n), (8, nat j)], [.row 6 acc]⟩
def boE : St := ⟨[(3, .bs 0 0 j), (6, .sl false 10 ms), (7, nat n), (8, nat j), (9, boolX false)], [.row 6 acc]⟩
theorem bo_canon : canon 0 (boH ms acc n j) = some (boH ms acc n j) := by kernel_rfl
theorem bo_end (h : ¬ j < n) : run (callF tab ext N) 0 N (loopAt 83 0) (boH ms acc n j) = some (.exit 0, boE ms acc n j) :=
  run_of [(9, .b false)] [] (pf1 (nlt_nat h)) (lo' := []) (by kernel_rfl)
theorem bo_round (m : Msg) (he : ms[j]? = some m.cells) (hj : j < n) (hn : n < 10000) (ha : j = acc.length) :
    ∃ υ, run (callF tab ext N) 0 N (loopAt 83 0) (boH ms acc n j) = some (.norm, υ) ∧ canon 0 υ = some (boH ms (acc ++ [m.body.cells]) n (j + 1)) := by
  have h1 := lt_nat hj
  have h2 := next_nat (j := j) (by omega)
  have h3 := app_ok (acc := acc) j 0 88 ha (by omega) (by omega)
  obtain ⟨⟨e2, sp⟩, mm, os, ⟨a1, a2, a3, a4, a5, a6⟩⟩ := m
  exact rd_of [(9, .b true), (10, .e (Msg.mk ⟨e2, sp⟩ mm os (.mk a1 a2 a3 a4 a5 a6)).cells), (16, .app), (17, .i (Int.ofNat (j + 1)))] (pf4 h1 he h3 h2) (by kernel_rfl)
end
def bodC (ms : List Msg) : List (List X) := ms.map (·.body.cells)
theorem bodies83 (ms : List Msg) (hl : ms.length < 1000) (N : Nat) (hN : 1100 ≤ N) : Gam.pureD (callF tab ext N) 83 [.sl false 10 (msgsC ms)] = some (.sl false 6 (bodC ms)) := by
  obtain ⟨M, rfl⟩ : ∃ M, N = M + 1 := ⟨N - 1, by omega⟩
  have hn := msgsC_length ms
  have h1 : run (callF tab ext M) 0 M (.loop (loopAt 83 0)) (boH (msgsC ms) [] (msgsC ms).length 0) = some (.exit 0, boE (msgsC ms) (bodC ms) (msgsC ms).length (msgsC ms).length) := by
    refine loop_for (σ := fun j => boH (msgsC ms) (bodC (ms.take j)) (msgsC ms).length j) (k := (msgsC ms).length) (bo_canon ..) (fun j hj => ?_) ?_ (by simp) (by omega)
    · have hj' : j < ms.length := by omega
      have e : bodC (ms.take (j + 1)) = bodC (ms.take j) ++ [ms[j].body.cells] := by
        unfold bodC
        rw [List.take_succ_eq_append_getElem hj', List.map_append]
        rfl
      rw [e]
      exact bo_round _ _ _ j M ms[j] (msgsC_get hj') hj (by omega) (by simp [bodC]; omega)
    · rw [List.take_of_length_le (by omega)]
      exact bo_end _ _ _ _ M (by omega)
  have hlen : (msgsC ms).length = (bodC ms).length := by simp [msgsC, bodC]
  generalize bodC ms = F at *
  generalize msgsC ms = L at *
  exact pure_of [] [(.exit 0, boE L F L.length L.length)] (pf1 h1) (x := .bs 0 0 L.length) (bx := [.row 6 F]) (by kernel_rfl) (data_bs rfl hlen)
end Go.Proofs.YthphniobeigklaaGreatDoor.Ag

/- message.Merge. -/
namespace Go.Proofs.YthphniobeigklaaGreatDoor.Ag
open Go Go.Em Go.Proofs.YthphniobeigklaaGreatDoor
set_option maxRecDepth 100000

def massL (ms : List Msg) : Int := (ms.map (·.mass)).sum
theorem massL_snoc (ms : List Msg) (m : Msg) : massL (ms ++ [m]) = massL ms + m.mass := by simp [massL]
theorem massL_le {ms : List Msg} (h : ∀ m, m ∈ ms → 0 ≤ m.mass ∧ m.mass ≤ 100000) : 0 ≤ massL ms ∧ massL ms ≤ 100000 * ms.length := by
  induction ms with
  | nil => simp [massL]
  | cons m r ih =>
    have h1 := h m List.mem_cons_self
    have h2 := ih fun x hx => h x (List.mem_cons_of_mem _ hx)
    have e : massL (m :: r) = m.mass + massL r := by simp [massL]
    rw [e]
    simp only [List.length_cons]
    omega
theorem heavy45 (m : Int) (h : 0 ≤ m ∧ m ≤ 100000) (N : Nat) : Gam.pureD (callF tab ext (N + 10)) 45 [num m] = some (boolX false) :=
  pure_of [(4, .b false), (7, .b false)] [] (pf2 (show decide (m < 0) = false from decide_eq_false (by omega)) (show decide (m > 1099511627776) = false from decide_eq_false (by omega))) (x := boolX false) (bx := []) (by kernel_rfl) rfl
section
variable (ms bl bf : List (List X)) (s : Stp) (bk bi bs mass : Int) (bt : ByteArray) (n j : Nat) (tf : Bool) (oo : List (List X)) (N : Nat)
def mgB : List Bx := [.var ([num 0, .sl true 1 [], num 0, .sl true 1 [], num 0, num 0, num 0, strX ⟨#[]⟩, .sl true 6 [], .sl true 7 []]), .var ([num s.e, .sl false 1 (intsC s.p), num mass, .sl tf 1 oo, num bk, num bi, num bs, strX bt, .sl false 6 bl, .sl false 7 bf])]
def mgH : St := ⟨[(0, .sl false 10 ms), (6, .ptr 0 0 0), (8, .ptr 1 0 0), (22, .sl false 10 ms), (23, nat n), (24, nat j)], mgB bl bf s bk bi bs mass bt tf oo⟩
def mgE : St := ⟨[(0, .sl false 10 ms), (6, .ptr 0 0 0), (8, .ptr 1 0 0), (22, .sl false 10 ms), (23, nat n), (24, nat j), (25, boolX false)], mgB bl bf s bk bi bs mass bt tf oo⟩
def miH : St := ⟨[(6, .ptr 0 0 0), (8, .ptr 1 0 0), (47, .sl false 10 ms), (48, nat n), (49, nat j)], mgB bl bf s bk bi bs mass bt tf oo⟩
def miE : St := ⟨[(6, .ptr 0 0 0), (8, .ptr 1 0 0), (47, .sl false 10 ms), (48, nat n), (49, nat j), (50, boolX false)], mgB bl bf s bk bi bs mass bt tf oo⟩
theorem mg_canon : canon 0 (mgH ms bl bf s bk bi bs mass bt n j true []) = some (mgH ms bl bf s bk bi bs mass bt n j true []) := by kernel_rfl
theorem mi_canon : canon 0 (miH ms bl bf s bk bi bs mass bt n j tf oo) = some (miH ms bl bf s bk bi bs mass bt n j tf oo) := by kernel_rfl
theorem mg_end (h : ¬ j < n) : run (callF tab ext N) 0 N (loopAt 91 0) (mgH ms bl bf s bk bi bs mass bt n j true []) = some (.exit 0, mgE ms bl bf s bk bi bs mass bt n j true []) :=
  run_of [(25, .b false)] [] (pf1 (nlt_nat h)) (lo' := []) (by kernel_rfl)
theorem mi_end (h : ¬ j < n) : run (callF tab ext N) 0 N (loopAt 91 1) (miH ms bl bf s bk bi bs mass bt n j tf oo) = some (.exit 2, miE ms bl bf s bk bi bs mass bt n j tf oo) :=
  run_of [(50, .b false)] [] (pf1 (nlt_nat h)) (lo' := []) (by kernel_rfl)
theorem mg_round (m : Msg) (he : ms[j]? = some m.cells) (hj : j < n) (hn : n < 10000) (hm : 0 ≤ m.mass ∧ m.mass ≤ 100000) (h0 : 0 ≤ mass ∧ mass ≤ 1000000000) :
    ∃ υ, run (callF tab ext (N + 10)) 0 (N + 10) (loopAt 91 0) (mgH ms bl bf s bk bi bs mass bt n j true []) = some (.norm, υ) ∧ canon 0 υ = some (mgH ms bl bf s bk bi bs (mass + m.mass) bt n (j + 1) true []) := by
  have h1 := lt_nat hj
  have h2 := next_nat (j := j) (by omega)
  have h45 := heavy45 m.mass hm N
  have h3 : IntKind.i64.wrap (mass + m.mass) = mass + m.mass := by rw [IntKind.wrap_i64]; omega
  have h4 : decide (mass + m.mass > 1099511627776) = false := decide_eq_false (by omega)
  obtain ⟨⟨e2, sp⟩, mm, os, ⟨a1, a2, a3, a4, a5, a6⟩⟩ := m
  dsimp only at h3 h4 h45 ⊢
  generalize mass + mm = m1 at h3 h4 ⊢
  exact rd_of [(25, .b true), (26, .e (Msg.mk ⟨e2, sp⟩ mm os (.mk a1 a2 a3 a4 a5 a6)).cells), (30, .p (boolX false)), (36, .i m1), (37, .b false), (44, .i m1), (46, .i (Int.ofNat (j + 1)))] (pf7 h1 he h45 h3 h4 h3 h2) (by kernel_rfl)
theorem mi_round (m : Msg) (he : ms[j]? = some m.cells) (hj : j < n) (hn : n < 10000) (o1 : List (List X)) (hu : Gam.pureD (callF tab ext N) 121 [.sl false 1 oo, .sl false 1 (intsC m.orig)] = some (.sl false 1 o1)) :
    ∃ υ, run (callF tab ext N) 0 N (loopAt 91 1) (miH ms bl bf s bk bi bs mass bt n j tf oo) = some (.norm, υ) ∧ canon 0 υ = some (miH ms bl bf s bk bi bs mass bt n (j + 1) false o1) := by
  have h1 := lt_nat hj
  have h2 := next_nat (j := j) (by omega)
  obtain ⟨⟨e2, sp⟩, mm, os, ⟨a1, a2, a3, a4, a5, a6⟩⟩ := m
  exact rd_of [(50, .b true), (51, .e (Msg.mk ⟨e2, sp⟩ mm os (.mk a1 a2 a3 a4 a5 a6)).cells), (57, .p (.sl false 1 o1)), (59, .i (Int.ofNat (j + 1)))] (pf4 h1 he hu h2) (by kernel_rfl)
end
theorem merge91 (ms : List Msg) (zs : List Int) (h0 : 0 < ms.length) (hl : zs.length < 49) (hm : ∀ m, m ∈ ms → 0 ≤ m.mass ∧ m.mass ≤ 100000) (ho : ms.map (·.orig) = zs.map fun z => [z]) (hz : Inc zs) (s : Stp) (hs : s.ok) (v : Val) (hv : v.ok) (N : Nat) (hN : 61000 ≤ N) :
    Gam.pureD (callF tab ext N) 91 [.sl false 10 (msgsC ms), .agg s.cells, .agg v.cells] = some (.tup [.agg (Msg.mk s (massL ms) zs v).cells, num 0]) := by
  obtain ⟨M, rfl⟩ : ∃ M, N = M + 11 := ⟨N - 11, by omega⟩
  have hn := msgsC_length ms
  have hlz : ms.length = zs.length := by have := congrArg List.length ho; simpa using this
  have hc1 := clone_stamp (M + 8) s hs
  have hc2 := clone_val (M + 10) v (by unfold Val.ok at hv; omega) (by unfold Val.ok at hv; omega)
  obtain ⟨bk, bi, bs, bt, bl, bf⟩ := v
  have h1 : run (callF tab ext (M + 10)) 0 (M + 10) (.loop (loopAt 91 0)) (mgH (msgsC ms) (cellsL bl) (cellsF bf) s bk bi bs 0 bt (msgsC ms).length 0 true []) = some (.exit 0, mgE (msgsC ms) (cellsL bl) (cellsF bf) s bk bi bs (massL ms) bt (msgsC ms).length (msgsC ms).length true []) := by
    refine loop_for (σ := fun j => mgH (msgsC ms) (cellsL bl) (cellsF bf) s bk bi bs (massL (ms.take j)) bt (msgsC ms).length j true []) (k := (msgsC ms).length) (mg_canon ..) (fun j hj => ?_) ?_ (by simp) (by omega)
    · have hj' : j < ms.length := by omega
      rw [List.take_succ_eq_append_getElem hj', massL_snoc]
      have hb := massL_le (ms := ms.take j) fun m hx => hm m (List.mem_of_mem_take hx)
      rw [List.length_take] at hb
      exact mg_round _ _ _ s bk bi bs _ bt _ j M ms[j] (msgsC_get hj') hj (by omega) (hm _ (List.getElem_mem hj')) (by omega)
    · rw [List.take_of_length_le (by omega)]
      exact mg_end _ _ _ s bk bi bs _ bt _ _ (M + 10) (by omega)
  have h2 : run (callF tab ext (M + 10)) 0 (M + 10) (.loop (loopAt 91 1)) (miH (msgsC ms) (cellsL bl) (cellsF bf) s bk bi bs (massL ms) bt (msgsC ms).length 0 true []) = some (.exit 2, miE (msgsC ms) (cellsL bl) (cellsF bf) s bk bi bs (massL ms) bt (msgsC ms).length (msgsC ms).length false (intsC zs)) := by
    refine loop_for (σ := fun j => miH (msgsC ms) (cellsL bl) (cellsF bf) s bk bi bs (massL ms) bt (msgsC ms).length j (decide (j = 0)) (intsC (zs.take j))) (k := (msgsC ms).length) (mi_canon ..) (fun j hj => ?_) ?_ (by simp) (by omega)
    · have hj' : j < ms.length := by omega
      have hj2 : j < zs.length := by omega
      have e : ms[j].orig = [zs[j]] := by
        have := congrArg (fun l => l[j]?) ho
        simp only [List.getElem?_map, List.getElem?_eq_getElem hj', List.getElem?_eq_getElem hj2, Option.map_some, Option.some.injEq] at this
        exact this
      have hu := union121 (zs.take j) zs[j] (by rw [← List.take_succ_eq_append_getElem hj2]; exact hz.take) (by rw [List.length_take]; omega) (M + 10) (by omega)
      rw [← List.take_succ_eq_append_getElem hj2, ← e] at hu
      rw [show decide (j + 1 = 0) = false from decide_eq_false (by omega)]
      exact mi_round _ _ _ s bk bi bs _ bt _ j _ _ (M + 10) ms[j] (msgsC_get hj') hj (by omega) _ hu
    · rw [List.take_of_length_le (by omega), show decide ((msgsC ms).length = 0) = false from decide_eq_false (by omega)]
      exact mi_end _ _ _ s bk bi bs _ bt _ _ _ _ (M + 10) (by omega)
  have g1 : (Int.ofNat (msgsC ms).length == 0) = false := by simp only [Int.ofNat_eq_natCast, beq_eq_false_iff_ne, ne_eq]; omega
  have g2 : decide (Int.ofNat (intsC zs).length > 4096) = false := decide_eq_false (by rw [intsC_length]; simp only [Int.ofNat_eq_natCast]; omega)
  show _ = some (X.tup [.agg (num s.e :: .sl false 1 (intsC s.p) :: num (massL ms) :: .sl false 1 (intsC zs) :: (Val.mk bk bi bs bt bl bf).cells), num 0])
  generalize intsC zs = oz at *
  generalize massL ms = mz at *
  generalize msgsC ms = L at *
  have h1' : run (callF tab ext (M + 10)) 0 (M + 10) (.loop (loopAt 91 0)) ⟨[(0, .sl false 10 L), (6, .ptr 2 0 0), (8, .ptr 3 0 0), (22, .sl false 10 L), (23, nat L.length), (24, num 0)], [.var s.cells, .var (Val.mk bk bi bs bt bl bf).cells, .var ([num 0, .sl true 1 [], num 0, .sl true 1 [], num 0, num 0, num 0, strX ⟨#[]⟩, .sl true 6 [], .sl true 7 []]), .var ([num s.e, .sl false 1 (intsC s.p), num 0, .sl true 1 [], num bk, num bi, num bs, strX bt, .sl false 6 (cellsL bl), .sl false 7 (cellsF bf)])]⟩ = some (.exit 0, mgE L (cellsL bl) (cellsF bf) s bk bi bs mz bt L.length L.length true []) := by
    rw [← h1]
    exact loop_canon (by kernel_rfl) (mg_canon ..)
  obtain ⟨e, p⟩ := s
  exact pure_of [(15, .b false), (18, .p (.agg (Stp.mk e p).cells)), (20, .p (.agg (Val.mk bk bi bs bt bl bf).cells)), (63, .b false)] [(.exit 0, mgE L (cellsL bl) (cellsF bf) ⟨e, p⟩ bk bi bs mz bt L.length L.length true []), (.exit 2, miE L (cellsL bl) (cellsF bf) ⟨e, p⟩ bk bi bs mz bt L.length L.length false oz)] (pf6 g1 hc1 hc2 h1' h2 g2)
    (x := .tup [.agg (num e :: .sl false 1 (intsC p) :: num mz :: .sl false 1 oz :: (Val.mk bk bi bs bt bl bf).cells), num 0]) (bx := []) (by kernel_rfl) rfl
end Go.Proofs.YthphniobeigklaaGreatDoor.Ag

/- The condition 0 / body.n > 5, evaluated (bodies with a key). -/
namespace Go.Proofs.YthphniobeigklaaGreatDoor.Ag
open Go Go.Em Go.Proofs.YthphniobeigklaaGreatDoor
set_option maxRecDepth 100000
theorem c2_s0 (g w : Bool) (q : Int) (c k : Int) (es : List (List X)) (N : Nat) : Gam.pureD (callF tab ext (N + 400)) 39 [.agg c2X, envX (condFsG g w (some q, 0) es c k)] = some (.tup [boolX false, num 15]) := by kernel_rfl
theorem c2_s1 (g w : Bool) (q : Int) (c k : Int) (es : List (List X)) (N : Nat) : Gam.pureD (callF tab ext (N + 400)) 39 [.agg c2X, envX (condFsG g w (some q, 1) es c k)] = some (.tup [boolX false, num 0]) := by kernel_rfl
theorem c2_s2 (g w : Bool) (q : Int) (c k : Int) (es : List (List X)) (N : Nat) : Gam.pureD (callF tab ext (N + 400)) 39 [.agg c2X, envX (condFsG g w (some q, 2) es c k)] = some (.tup [boolX false, num 0]) := by kernel_rfl
theorem c2_s3 (g w : Bool) (q : Int) (c k : Int) (es : List (List X)) (N : Nat) : Gam.pureD (callF tab ext (N + 400)) 39 [.agg c2X, envX (condFsG g w (some q, 3) es c k)] = some (.tup [boolX false, num 0]) := by kernel_rfl
end Go.Proofs.YthphniobeigklaaGreatDoor.Ag

/- The condition 0 / body.n > 5, evaluated (bodies without one). -/
namespace Go.Proofs.YthphniobeigklaaGreatDoor.Ag
open Go Go.Em Go.Proofs.YthphniobeigklaaGreatDoor
set_option maxRecDepth 100000
theorem c2_n0 (g w : Bool) (c k : Int) (es : List (List X)) (N : Nat) : Gam.pureD (callF tab ext (N + 400)) 39 [.agg c2X, envX (condFsG g w (none, 0) es c k)] = some (.tup [boolX false, num 15]) := by kernel_rfl
theorem c2_n1 (g w : Bool) (c k : Int) (es : List (List X)) (N : Nat) : Gam.pureD (callF tab ext (N + 400)) 39 [.agg c2X, envX (condFsG g w (none, 1) es c k)] = some (.tup [boolX false, num 0]) := by kernel_rfl
theorem c2_n2 (g w : Bool) (c k : Int) (es : List (List X)) (N : Nat) : Gam.pureD (callF tab ext (N + 400)) 39 [.agg c2X, envX (condFsG g w (none, 2) es c k)] = some (.tup [boolX false, num 0]) := by kernel_rfl
theorem c2_n3 (g w : Bool) (c k : Int) (es : List (List X)) (N : Nat) : Gam.pureD (callF tab ext (N + 400)) 39 [.agg c2X, envX (condFsG g w (none, 3) es c k)] = some (.tup [boolX false, num 0]) := by kernel_rfl
end Go.Proofs.YthphniobeigklaaGreatDoor.Ag

/- A list of tight bodies is copied to one of bodies. -/
namespace Go.Proofs.YthphniobeigklaaGreatDoor.Ag
open Go Go.Em Go.Proofs.YthphniobeigklaaGreatDoor
set_option maxRecDepth 100000

section
variable (N : Nat) (k i s : Int) (t : ByteArray) (l f acc : List (List X)) (n j : Nat) (w : Bool) (b : Bd)
theorem cl_stepG (hv : Gam.pureD (callF tab ext N) 75 [.agg (bodyV b.1 b.2).cells] = some (.agg (bodyV b.1 b.2).cells)) (hi : l[j]? = some (bodyG w b.1 b.2)) (hj : j < n) (hn : n < 1000000) (ha : j = acc.length) :
    run (callF tab ext N) 0 N (loopAt 75 0) (clH k i s t l f acc n j) = some (.norm, clH' k i s t l f acc n j (bodyG w b.1 b.2) (bodyV b.1 b.2).cells) := by
  obtain ⟨o, m⟩ := b
  cases o with
  | none =>
    exact run_of [(15, .b true), (16, .e (bodyG w none m)), (21, .p (.agg (bodyV none m).cells)), (23, .app), (25, .i (Int.ofNat (j + 1)))] []
      (pf5 (lt_nat hj) hi hv (app_ok j 3 88 ha (by omega) (by omega)) (next_nat (j := j) (by omega))) (lo' := []) (by kernel_rfl)
  | some q =>
    exact run_of [(15, .b true), (16, .e (bodyG w (some q) m)), (21, .p (.agg (bodyV (some q) m).cells)), (23, .app), (25, .i (Int.ofNat (j + 1)))] []
      (pf5 (lt_nat hj) hi hv (app_ok j 3 88 ha (by omega) (by omega)) (next_nat (j := j) (by omega))) (lo' := []) (by kernel_rfl)
end
theorem cl_endF (N : Nat) (m : Nat) (es : List (List X)) : run (callF tab ext N) 0 N (loopAt 75 1) (cfH 8 0 0 ⟨#[]⟩ [] es [] 0 0 m) = some (.exit 2, cfE 8 0 0 ⟨#[]⟩ [] es [] 0 0 m) := cf_end N 8 0 0 ⟨#[]⟩ [] es [] 0 m
theorem clone_items (w : Bool) (l : List Bd) (hl : l.length ≤ 1000) (N : Nat) (hN : 2000 ≤ N) :
    Gam.pureD (callF tab ext N) 75 [.agg (itemsC (bdG w l))] = some (.agg (itemsC (bdC l))) := by
  obtain ⟨M, rfl⟩ : ∃ M, N = M + 1 := ⟨N - 1, by omega⟩
  obtain ⟨K, rfl⟩ : ∃ K, M = K + 1 := ⟨M - 1, by omega⟩
  have hn := bdG_len w l
  have hn2 := bdC_len l
  have h1 : run (callF tab ext (K + 1)) 0 (K + 1) (.loop (loopAt 75 0)) (clH 8 0 0 ⟨#[]⟩ (bdG w l) [] [] (bdG w l).length 0) = some (.exit 0, clE 8 0 0 ⟨#[]⟩ (bdG w l) [] (bdC l) (bdG w l).length (bdG w l).length) := by
    refine loop_for (σ := fun j => clH 8 0 0 ⟨#[]⟩ (bdG w l) [] ((bdC l).take j) (bdG w l).length j) (k := (bdG w l).length) (cl_canon _ _ _ _ _ _ _ _ _) (fun j hj => ?_) ?_ (by simp) (by omega)
    · have hj' : j < l.length := by omega
      have hg := bdG_get w hj'
      have hc := bdC_get hj'
      refine ⟨_, cl_stepG (K + 1) 8 0 0 ⟨#[]⟩ _ _ _ _ j w l[j] (clone_body l[j] (K + 1) (by omega)) hg (by omega) (by omega) (by rw [List.length_take]; omega), ?_⟩
      rw [← take_succ_get hc]
      exact cl_canon' 8 0 0 ⟨#[]⟩ _ _ _ _ j _ _
    · rw [List.take_of_length_le (by omega)]
      exact cl_end (K + 1) 8 0 0 ⟨#[]⟩ _ _ _ _
  have h2 : run (callF tab ext (K + 1)) 0 (K + 1) (.loop (loopAt 75 1)) ⟨[(2, .ptr 1 0 0), (3, .ptr 2 0 0), (27, .sl false 7 []), (28, nat 0), (29, nat 0)], [.var [num 8, num 0, num 0, strX ⟨#[]⟩, .sl false 6 (bdG w l), .sl false 7 []], .var zVal, .var [num 8, num 0, num 0, strX ⟨#[]⟩, .bs 3 0 (bdG w l).length, .bs 4 0 0], .row 6 (bdC l), .row 7 []]⟩ = some (.exit 2, cfE 8 0 0 ⟨#[]⟩ [] (bdC l) [] 0 0 (bdG w l).length) :=
    (loop_canon (by kernel_rfl) (cf_canon 8 0 0 ⟨#[]⟩ [] (bdC l) [] 0 0 (bdG w l).length)).trans (iter_end (cf_canon 8 0 0 ⟨#[]⟩ [] (bdC l) [] 0 0 (bdG w l).length) (cl_endF (K + 1) (bdG w l).length (bdC l)) (by simp))
  have h3 : (X.agg [num 8, num 0, num 0, strX ⟨#[]⟩, .bs 0 0 (bdG w l).length, .bs 1 0 0]).data [.row 6 (bdC l), .row 7 []] false = some (.agg (itemsC (bdC l))) :=
    data_agg (dataL_cons rfl (dataL_cons rfl (dataL_cons rfl (dataL_cons rfl (dataL_cons (data_bs rfl (by omega)) rfl)))))
  exact pure_of [] [(.exit 0, clE 8 0 0 ⟨#[]⟩ (bdG w l) [] (bdC l) (bdG w l).length (bdG w l).length), (.exit 2, cfE 8 0 0 ⟨#[]⟩ [] (bdC l) [] 0 0 (bdG w l).length)]
      (pf2 h1 h2) (bx := [.row 6 (bdC l), .row 7 []]) (by kernel_rfl) h3
theorem list120G (w : Bool) (l : List Bd) (hl : l.length ≤ 256) (N : Nat) (hN : 7001 ≤ N) : Gam.pureD (callF tab ext N) 120 [.sl false 6 (bdG w l)] = some (.agg (itemsC (bdC l))) := by
  obtain ⟨M, rfl⟩ : ∃ M, N = M + 1 := ⟨N - 1, by omega⟩
  have h1 := clone_items w l (by omega) M (by omega)
  exact pure_of [(5, .p (.agg (itemsC (bdC l))))] [] (pf1 h1) (x := .agg (itemsC (bdC l))) (bx := []) (by kernel_rfl) rfl
theorem group90G (w : Bool) (l : List Bd) (hl : l.length ≤ 256) (k : Int) (N : Nat) (hN : 8000 ≤ N) : Gam.pureD (callF tab ext N) 90 [.agg (kv k).cells, .sl false 6 (bdG w l)] = some (envX (groupFs (bdC l) (l.length : Nat) k)) := by
  obtain ⟨M, rfl⟩ : ∃ M, N = M + 202 := ⟨N - 202, by omega⟩
  have h1 := list120G w l hl (M + 201) (by omega)
  have hs := groupV_size l hl k
  have h2 := clone_val (M + 200) (groupV l k) (by omega) (by omega)
  rw [groupV_cells] at h2
  have h3 := rec97 (bdC l) (l.length : Nat) k M h2
  have hn := bdG_len w l
  rw [← hn] at h3 ⊢
  generalize bdC l = es at *
  generalize bdG w l = fs at *
  exact pure_of [(10, .p (.agg (itemsC es))), (15, .p (envX (groupFs es (fs.length : Nat) k)))] [] (pf2 h1 h3) (x := envX (groupFs es (fs.length : Nat) k)) (bx := []) (by kernel_rfl) rfl
end Go.Proofs.YthphniobeigklaaGreatDoor.Ag
