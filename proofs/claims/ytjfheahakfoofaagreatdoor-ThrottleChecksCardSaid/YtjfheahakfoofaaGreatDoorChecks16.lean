/- A step of a throttle; the document's arrival. -/
import Derived.Test.YtjfheahakfoofaaGreatDoorChecks15
namespace Go.Proofs.YtjfheahakfoofaaGreatDoor
open Go.Em

def nowF (i : Inp) : Int := clampF i.time 0 maxTime
/-- How many may leave. -/
def mostF (n : Nod) (s : Stt) (a : Int) : Int := Go.IntKind.i64.wrap (numF n.number - cntF (perF n.time) s.n s.t a)
def plainO (s : Stt) : Ocm := ⟨s, [], [], []⟩
def arrF (n : Nod) (s : Stt) (m : Msg) (a : Int) : Ocm :=
  if (accOf s.slots).length = 0 ∧ cntF (perF n.time) s.n s.t a < numF n.number then ⟨leftF (perF n.time) s a 1, [⟨0, m⟩], [], []⟩
  else if Int.ofNat (accOf s.slots).length < limF n.limit then plainO (addF s m) else rejF n s m
def clkF (n : Nod) (s : Stt) (b : Stp) (a : Int) : Ocm :=
  let k := relN (accOf s.slots) (mostF n s a)
  if k = 0 then plainO s else ⟨restF (leftF (perF n.time) s a (Int.ofNat k)) k, outsF b (accOf s.slots) k, fatesF n.name b (accOf s.slots) k, []⟩
def thrF (n : Nod) (s : Stt) (i : Inp) : Ocm := if i.kind = 1 then arrF n s i.m (nowF i) else if i.kind = 2 then clkF n s i.st (nowF i) else plainO s

structure Inp.ok (i : Inp) : Prop where
  st : i.st.p.length ≤ 100
  m : i.m.ok
theorem shortN_ok (i : Inp) : (shortN i).ok := ⟨by have := cutI_length i.st.p; show (cutI i.st.p).length ≤ 100; omega, shortM_ok i.m⟩
theorem accOf_ok {s : Stt} (hs : s.small) : ∀ m, m ∈ accOf s.slots → m.ok := fun m hm => by
  obtain ⟨x, hx, hm⟩ := List.mem_flatMap.1 hm
  exact (hs.slot x hx).1.item m hm
theorem thr_small {s : Stt} (h : Thr s) (hs : s.small) : (accOf s.slots).length ≤ 100 := by
  have h1 := accOf_length s.slots fun x hx => (hs.slot x hx).2.1
  cases h with
  | none a b => simp [accOf]
  | one a b items vals h => simpa using h1
theorem thr_pure (N : Nat) (hN : 190060 ≤ N) (n : Nod) (s : Stt) (ht : Thr s) (hs : s.small) (i : Inp) (hi : i.ok) : Gam.pureD (callF tab ext N) 31 [.agg n.cells, .agg s.cells, .agg i.cells] = some (.agg (thrF n s i).cells) := by
  obtain ⟨M, rfl⟩ : ∃ M, N = M + 101 := ⟨N - 101, by omega⟩
  have hm := hi.m
  have hst := hi.st
  have hnow := clamp_pure (M + 99) i.time 0 maxTime
  have hw := waiting_pure s hs (M + 100) (by omega)
  have hcl := clone_msg (M + 100) i.m hm (by omega)
  have hn := number_pure (M + 99) n
  have hlim := limit_pure (M + 98) n
  have hadd := thr_add (M + 100) (by omega) s ht hs i.m hm
  have hrej := reject_pure (M + 99) n s i.m hm (by omega)
  have hl100 := thr_small ht hs
  have hok := accOf_ok hs
  have hnowE : clampF i.time 0 maxTime = nowF i := rfl
  rw [hnowE] at hnow
  have hc := count_pure (M + 96) n s (nowF i)
  have hlf := fun k => left_pure (M + 95) n s (nowF i) k
  have hlen := msgsC_length (accOf s.slots)
  unfold thrF
  generalize nowF i = now at hnow hc hlf ⊢
  obtain ⟨kd, tm, ⟨se, sp⟩, ⟨⟨e, p⟩, ms, o, ⟨a1, a2, a3, a4, a5, a6⟩⟩, x, b1, b2, ⟨c1, c2, c3, c4, c5, c6⟩⟩ := i
  dsimp only at hm hst hnow hcl hadd hrej ⊢
  cases h1 : (kd == 1) with
  | true =>
    rw [if_pos (by simpa using h1)]
    unfold arrF
    have key : (if Int.ofNat (accOf s.slots).length < limF n.limit then plainO (addF s ⟨⟨e, p⟩, ms, o, .mk a1 a2 a3 a4 a5 a6⟩) else rejF n s ⟨⟨e, p⟩, ms, o, .mk a1 a2 a3 a4 a5 a6⟩) = (if decide (Int.ofNat (msgsC (accOf s.slots)).length < limF n.limit) = true then plainO (addF s ⟨⟨e, p⟩, ms, o, .mk a1 a2 a3 a4 a5 a6⟩) else rejF n s ⟨⟨e, p⟩, ms, o, .mk a1 a2 a3 a4 a5 a6⟩) := by
      rw [hlen]; simp only [decide_eq_true_eq]
    rw [key]
    generalize addF s ⟨⟨e, p⟩, ms, o, .mk a1 a2 a3 a4 a5 a6⟩ = s2 at hadd
    generalize rejF n s ⟨⟨e, p⟩, ms, o, .mk a1 a2 a3 a4 a5 a6⟩ = oc at hrej
    have hl1 := hlf 1
    generalize leftF (perF n.time) s now 1 = s1 at hl1
    generalize cntF (perF n.time) s.n s.t now = c at hc
    generalize numF n.number = nf at hn
    generalize limF n.limit = lim at hlim
    cases h2 : (Int.ofNat (msgsC (accOf s.slots)).length == 0) with
    | true =>
      have e0 : (accOf s.slots).length = 0 := by
        have := eq_of_beq h2
        simp only [Int.ofNat_eq_natCast] at this; omega
      cases h3 : decide (c < nf) with
      | true =>
        rw [if_pos ⟨e0, of_decide_eq_true h3⟩]
        exact pure_of [(13, .p (num now)), (15, .p (.sl false 10 (msgsC (accOf s.slots)))), (19, .b true), (23, .b true), (28, .p (num c)), (30, .p (num nf)), (31, .b true), (36, .p (.agg s1.cells)), (39, .p (.agg (Msg.mk ⟨e, p⟩ ms o (.mk a1 a2 a3 a4 a5 a6)).cells))] [] (pf9 hnow hw h1 h2 hc hn h3 hl1 hcl)
          (x := .agg [num s1.n, num s1.t, .sl false 10 (sltsC s1.slots), .sl true 11 [(Otp.mk 0 ⟨⟨e, p⟩, ms, o, .mk a1 a2 a3 a4 a5 a6⟩).cells], .sl true 11 [], .sl true 6 [], .sl true 10 []]) (bx := []) (by kernel_rfl) rfl
      | false =>
        rw [if_neg fun h => of_decide_eq_false h3 h.2]
        cases h4 : decide (Int.ofNat (msgsC (accOf s.slots)).length < lim) with
        | true =>
          exact pure_of [(13, .p (num now)), (15, .p (.sl false 10 (msgsC (accOf s.slots)))), (19, .b true), (23, .b true), (28, .p (num c)), (30, .p (num nf)), (31, .b false), (47, .p (num lim)), (48, .b true), (53, .p (.agg s2.cells))] [] (pf10 hnow hw h1 h2 hc hn h3 hlim h4 hadd)
            (x := .agg [num s2.n, num s2.t, .sl false 10 (sltsC s2.slots), .sl true 11 [], .sl true 11 [], .sl true 6 [], .sl true 10 []]) (bx := []) (by kernel_rfl) rfl
        | false =>
          exact pure_of [(13, .p (num now)), (15, .p (.sl false 10 (msgsC (accOf s.slots)))), (19, .b true), (23, .b true), (28, .p (num c)), (30, .p (num nf)), (31, .b false), (47, .p (num lim)), (48, .b false), (59, .p (.agg oc.cells))] [] (pf10 hnow hw h1 h2 hc hn h3 hlim h4 hrej)
            (x := .agg oc.cells) (bx := []) (by kernel_rfl) rfl
    | false =>
      have e0 : (accOf s.slots).length ≠ 0 := fun e => by
        rw [hlen, e] at h2; exact absurd h2 (by decide)
      rw [if_neg fun h => e0 h.1]
      cases h4 : decide (Int.ofNat (msgsC (accOf s.slots)).length < lim) with
      | true =>
        exact pure_of [(13, .p (num now)), (15, .p (.sl false 10 (msgsC (accOf s.slots)))), (19, .b true), (23, .b false), (47, .p (num lim)), (48, .b true), (53, .p (.agg s2.cells))] [] (pf7 hnow hw h1 h2 hlim h4 hadd)
          (x := .agg [num s2.n, num s2.t, .sl false 10 (sltsC s2.slots), .sl true 11 [], .sl true 11 [], .sl true 6 [], .sl true 10 []]) (bx := []) (by kernel_rfl) rfl
      | false =>
        exact pure_of [(13, .p (num now)), (15, .p (.sl false 10 (msgsC (accOf s.slots)))), (19, .b true), (23, .b false), (47, .p (num lim)), (48, .b false), (59, .p (.agg oc.cells))] [] (pf7 hnow hw h1 h2 hlim h4 hrej)
          (x := .agg oc.cells) (bx := []) (by kernel_rfl) rfl
  | false =>
    rw [if_neg (by simpa using h1)]
    cases h6 : (kd == 2) with
    | true =>
      rw [if_pos (by simpa using h6)]
      have hz := fun h => release_zero (M + 98) n 0 0 true [] (accOf s.slots) (mostF n s now) ⟨se, sp⟩ (by omega) (by dsimp only at hst ⊢; omega) hok (by omega) h
      have hnz := fun h => release_some (M + 98) n 0 0 true [] (accOf s.slots) (mostF n s now) ⟨se, sp⟩ (by omega) (by dsimp only at hst ⊢; omega) hok (by omega) h
      unfold clkF
      dsimp only
      have hle : relN (accOf s.slots) (mostF n s now) ≤ (accOf s.slots).length := Nat.min_le_left _ _
      generalize relN (accOf s.slots) (mostF n s now) = k at hz hnz hle ⊢
      unfold mostF at hz hnz
      by_cases hk : k = 0
      · rw [if_pos hk]
        have hr := hz hk
        generalize cntF (perF n.time) s.n s.t now = c at hc hr
        generalize numF n.number = nf at hn hr
        exact pure_of [(13, .p (num now)), (15, .p (.sl false 10 (msgsC (accOf s.slots)))), (19, .b false), (61, .b true), (68, .p (num nf)), (72, .p (num c)), (74, .r (num 0) [.var (out0 0 0 true [])])] [] (pf7 hnow hw h1 h6 hn hc hr)
          (x := .agg [num s.n, num s.t, .sl false 10 (sltsC s.slots), .sl true 11 [], .sl true 11 [], .sl true 6 [], .sl true 10 []]) (bx := []) (by kernel_rfl) rfl
      · rw [if_neg hk]
        have hr := hnz hk
        have hl1 := hlf (Int.ofNat k)
        have hwo : Gam.pureD (callF tab ext (M + 100)) 76 [.agg (leftF (perF n.time) s now (Int.ofNat k)).cells, nat k] = some (.agg (restF (leftF (perF n.time) s now (Int.ofNat k)) k).cells) := by
          cases ht with
          | none a b => simp [accOf] at hle; omega
          | one a b items vals h =>
            have e1 : (accOf [⟨nulV, 0, 0, items, vals⟩]).length = items.length := by simp [accOf]
            rw [e1] at hle
            obtain ⟨Q, hQ⟩ : ∃ Q, M + 100 = Q + 101 := ⟨M - 1, by omega⟩
            rw [hQ]
            exact without_pure Q _ _ items vals k (by omega) hle (by dsimp only at hl100; omega)
        have ho := outsF_length ⟨se, sp⟩ (accOf s.slots) k
        have hf := fatesF_length n.name ⟨se, sp⟩ (accOf s.slots) k
        generalize leftF (perF n.time) s now (Int.ofNat k) = s1 at hl1 hwo ⊢
        generalize restF s1 k = s2 at hwo ⊢
        generalize cntF (perF n.time) s.n s.t now = c at hc hr
        generalize numF n.number = nf at hn hr
        generalize outsF ⟨se, sp⟩ (accOf s.slots) k = os at hr ho ⊢
        generalize fatesF n.name ⟨se, sp⟩ (accOf s.slots) k = fs at hr hf ⊢
        have hd : (X.agg [num s2.n, num s2.t, .sl false 10 (sltsC s2.slots), .bs 0 0 k, .sl true 11 [], .bs 1 0 k, .sl true 10 []]).data [.row 11 (otpsC os), .row 6 (ftesC fs)] false = some (.agg (Ocm.mk s2 os fs []).cells) := by
          subst ho
          simp [X.data, dataL, rowOf, num, Ocm.cells, hf, msgsC]
          rw [List.take_of_length_le (Nat.le_of_eq hf)]
        exact pure_of [(13, .p (num now)), (15, .p (.sl false 10 (msgsC (accOf s.slots)))), (19, .b false), (61, .b true), (68, .p (num nf)), (72, .p (num c)), (74, .r (nat k) [.var (outJ 0 0 true [] 1 2 k), .row 11 (otpsC os), .row 6 (ftesC fs)]), (78, .b true), (83, .p (.agg s1.cells)), (85, .p (.agg s2.cells))] [] (pf10 hnow hw h1 h6 hn hc hr (gt_nat (j := k) (k := 0) (by omega)) hl1 hwo)
          (x := .agg [num s2.n, num s2.t, .sl false 10 (sltsC s2.slots), .bs 0 0 k, .sl true 11 [], .bs 1 0 k, .sl true 10 []]) (bx := [.row 11 (otpsC os), .row 6 (ftesC fs)]) (by kernel_rfl) hd
    | false =>
      rw [if_neg (by simpa using h6)]
      exact pure_of [(13, .p (num now)), (15, .p (.sl false 10 (msgsC (accOf s.slots)))), (19, .b false), (61, .b false)] [] (pf4 hnow hw h1 h6)
        (x := .agg [num s.n, num s.t, .sl false 10 (sltsC s.slots), .sl true 11 [], .sl true 11 [], .sl true 6 [], .sl true 10 []]) (bx := []) (by kernel_rfl) rfl
theorem step_thr (N : Nat) (hN : 190070 ≤ N) (n : Nod) (hk : n.kind ≠ 8) (s : Stt) (ht : Thr s) (hs : s.small) (i : Inp) (hi : i.ok) : Gam.pureD (callF tab ext N) 11 [.agg n.cells, .agg s.cells, .agg i.cells] = some (.agg (thrF n s i).cells) := by
  obtain ⟨M, rfl⟩ : ∃ M, N = M + 1 := ⟨N - 1, by omega⟩
  have hcl := clone_state_pure M s hs.ok (by omega)
  have h := thr_pure M (by omega) n s ht hs i hi
  have h1 : (n.kind == 8) = false := by simpa using hk
  generalize thrF n s i = oc at h
  obtain ⟨kd, tm, ⟨se, sp⟩, ⟨⟨e, p⟩, ms, o, ⟨a1, a2, a3, a4, a5, a6⟩⟩, x, b1, b2, ⟨c1, c2, c3, c4, c5, c6⟩⟩ := i
  exact pure_of [(8, .p (.agg s.cells)), (11, .b false), (19, .p (.agg oc.cells))] [] (pf3 hcl h1 h) (x := .agg oc.cells) (bx := []) (by kernel_rfl) rfl
end Go.Proofs.YtjfheahakfoofaaGreatDoor

/- The document's step of a throttle. -/
namespace Go.Proofs.YtjfheahakfoofaaGreatDoor
open Go.Em

/-! ### put -/
/-! ### released -/
section
variable (n : Nod) (x0 y0 : Int) (tt : Bool) (rest outs fates l ic : List (List X)) (ix : List X) (q j : Nat) (se : Int) (sp p : List (List X)) (i1 i2 : X)
def zOut : List X := [num 0, num 0, .sl true 10 [], .sl true 11 [], .sl true 11 [], .sl true 6 [], .sl true 10 []]
def rdH : St := ⟨[(3, .sl false 10 l), (4, .ptr 0 0 0), (5, .ptr 1 0 0), (6, .ptr 2 0 0), (8, .ptr 3 0 0), (9, nat j)], [.var n.cells, .var [num x0, num y0, .sl tt 10 rest, .bs 4 0 q, .sl true 11 [], .bs 5 0 q, .sl true 10 []], .var ix, .var zOut, .row 11 outs, .row 6 fates]⟩
def rdN : St := ⟨[(3, .sl false 10 l), (4, .ptr 0 0 0), (5, .ptr 1 0 0), (6, .ptr 2 0 0), (8, .ptr 3 0 0), (9, nat (j + 1))], [.var n.cells, .var [num x0, num y0, .sl tt 10 rest, .bs 9 0 (q + 1), .sl true 11 [], .bs 10 0 (q + 1), .sl true 10 []], .var ix, .var zOut, .dead, .dead, .var [num se, .sl false 1 p], .dead, .dead, .row 11 outs, .row 6 fates]⟩
def rdN0 : St := ⟨[(3, .sl false 10 l), (4, .ptr 0 0 0), (5, .ptr 1 0 0), (6, .ptr 2 0 0), (8, .ptr 3 0 0), (9, nat (j + 1))], [.var n.cells, .var [num x0, num y0, .sl tt 10 rest, .bs 7 0 (q + 1), .sl true 11 [], .bs 8 0 (q + 1), .sl true 10 []], .var ix, .var zOut, .dead, .dead, .var [num se, .sl false 1 p], .row 11 outs, .row 6 fates]⟩
def rdE : St := ⟨[(3, .sl false 10 l), (4, .ptr 0 0 0), (5, .ptr 1 0 0), (6, .ptr 2 0 0), (8, .ptr 3 0 0), (9, nat j), (14, boolX false)], [.var n.cells, .var [num x0, num y0, .sl tt 10 rest, .bs 4 0 q, .sl true 11 [], .bs 5 0 q, .sl true 10 []], .var ix, .var zOut, .row 11 outs, .row 6 fates]⟩
end
section
variable (n : Nod) (x0 y0 : Int) (tt : Bool) (rest outs fates l : List (List X)) (q j : Nat) (se : Int) (p : List (List X))
variable (kd tm : Int) (sp : List (List X)) (e : Int) (mp : List (List X)) (ms : Int) (o : List (List X)) (a1 a2 a3 : Int) (a4 : ByteArray) (a5 a6 : List (List X)) (x : Int) (b1 b2 : Bool) (c1 c2 c3 : Int) (c4 : ByteArray) (c5 c6 : List (List X))
def inX : List X := [num kd, num tm, num se, .sl false 1 sp, num e, .sl false 1 mp, num ms, .sl false 1 o, num a1, num a2, num a3, strX a4, .sl false 6 a5, .sl false 7 a6, num x, boolX b1, boolX b2, num c1, num c2, num c3, strX c4, .sl false 6 c5, .sl false 7 c6]
theorem rd_canon : canon 0 (rdH n x0 y0 tt rest outs fates l (inX se kd tm sp e mp ms o a1 a2 a3 a4 a5 a6 x b1 b2 c1 c2 c3 c4 c5 c6) q j) = some (rdH n x0 y0 tt rest outs fates l (inX se kd tm sp e mp ms o a1 a2 a3 a4 a5 a6 x b1 b2 c1 c2 c3 c4 c5 c6) q j) := by kernel_rfl
theorem rd_canon1 : canon 0 (rdN n x0 y0 tt rest outs fates l (inX se kd tm sp e mp ms o a1 a2 a3 a4 a5 a6 x b1 b2 c1 c2 c3 c4 c5 c6) q j se p) = some (rdH n x0 y0 tt rest outs fates l (inX se kd tm sp e mp ms o a1 a2 a3 a4 a5 a6 x b1 b2 c1 c2 c3 c4 c5 c6) (q + 1) (j + 1)) := by kernel_rfl
theorem rd_canon0 : canon 0 (rdN0 n x0 y0 tt rest outs fates l (inX se kd tm sp e mp ms o a1 a2 a3 a4 a5 a6 x b1 b2 c1 c2 c3 c4 c5 c6) q j se p) = some (rdH n x0 y0 tt rest outs fates l (inX se kd tm sp e mp ms o a1 a2 a3 a4 a5 a6 x b1 b2 c1 c2 c3 c4 c5 c6) (q + 1) (j + 1)) := by kernel_rfl
end
theorem inX_cells (i : Inp) : i.cells = match i with
  | ⟨kd, tm, ⟨se, sp⟩, ⟨⟨e, p⟩, ms, o, ⟨a1, a2, a3, a4, a5, a6⟩⟩, x, b1, b2, ⟨c1, c2, c3, c4, c5, c6⟩⟩ => inX se kd tm (intsC sp) e (intsC p) ms (intsC o) a1 a2 a3 a4 (cellsL a5) (cellsF a6) x b1 b2 c1 c2 c3 c4 (cellsL c5) (cellsF c6) := by
  obtain ⟨kd, tm, ⟨se, sp⟩, ⟨⟨e, p⟩, ms, o, ⟨a1, a2, a3, a4, a5, a6⟩⟩, x, b1, b2, ⟨c1, c2, c3, c4, c5, c6⟩⟩ := i
  rfl

theorem rd_round (M : Nat) (hM : 190010 ≤ M) (n : Nod) (x0 y0 : Int) (tt : Bool) (rest outs fates l : List (List X)) (q j : Nat) (i : Inp) (hi : i.ok) (m : Msg) (hm : m.ok) (hg : l[j]? = some m.cells) (hj : j < l.length) (hl : l.length < 4000) (ho : outs.length = q) (hf : fates.length = q) (hq : q < 4000) :
    ∃ υ, run (callF tab ext M) 0 M (loopAt 50 0) (rdH n x0 y0 tt rest outs fates l i.cells q j) = some (.norm, υ) ∧ canon 0 υ = some (rdH n x0 y0 tt rest (outs ++ [(outM i.st m q).cells]) (fates ++ [(fateM n.name i.st m q).cellsB true]) l i.cells (q + 1) (j + 1)) := by
  have hst := hi.st
  rw [inX_cells]
  obtain ⟨kd, tm, ⟨se, sp⟩, ⟨⟨ie, ip⟩, ims, io, ⟨g1, g2, g3, g4, g5, g6⟩⟩, x, b1, b2, ⟨c1, c2, c3, c4, c5, c6⟩⟩ := i
  dsimp only at hst ⊢
  have hc : (childF ⟨se, sp⟩ q).ok := ⟨by show (sp ++ [Int.ofNat q]).length ≤ 60000; simp; omega⟩
  obtain ⟨M', rfl⟩ : ∃ M', M = M' + 1 := ⟨M - 1, by omega⟩
  have hv := move_pure M' m hm (childF ⟨se, sp⟩ q) hc (by omega)
  have hn := intsC_length sp
  unfold outM fateM moveF
  unfold moveF at hv
  cases sp with
  | nil =>
    have e1 : childF ⟨se, []⟩ q = ⟨se, [Int.ofNat q]⟩ := rfl
    rw [e1] at hv ⊢
    obtain ⟨⟨e, p⟩, ms, o, ⟨a1, a2, a3, a4, a5, a6⟩⟩ := m
    exact ⟨rdN0 n x0 y0 tt rest (outs ++ [(Otp.mk 0 ⟨⟨se, [Int.ofNat q]⟩, ms, o, .mk a1 a2 a3 a4 a5 a6⟩).cells]) (fates ++ [(Fte.mk ⟨e, p⟩ 1 n.name [⟨se, [Int.ofNat q]⟩] ⟨#[]⟩).cellsB true]) l _ q j se [[nat q]],
      run_of [(14, .b true), (34, .e (Msg.mk ⟨e, p⟩ ms o (.mk a1 a2 a3 a4 a5 a6)).cells), (37, .p (.agg (Msg.mk ⟨se, [Int.ofNat q]⟩ ms o (.mk a1 a2 a3 a4 a5 a6)).cells)), (40, .app), (46, .e (Msg.mk ⟨e, p⟩ ms o (.mk a1 a2 a3 a4 a5 a6)).cells), (55, .app), (16, .i (Int.ofNat (j + 1)))] []
        (pf7 (lt_nat (j := j) (k := l.length) hj) hg hv (app_c (i := 4) (bytes := 160) ho.symm (by omega) (by omega)) hg (app_c (i := 5) (bytes := 96) hf.symm (by omega) (by omega)) (next_nat (j := j) (by omega))) (lo' := []) (by kernel_rfl), rd_canon0 ..⟩
  | cons s0 sp =>
    have e1 : (childF ⟨se, s0 :: sp⟩ q).cells = [num se, .sl false 1 ((intsC (s0 :: sp) ++ [[nat q]]).take (0 + (intsC (s0 :: sp)).length + 1))] := by
      rw [List.take_of_length_le (by simp), show intsC (s0 :: sp) ++ [[nat q]] = intsC (s0 :: sp ++ [Int.ofNat q]) from (intsC_snoc _ _).symm]; rfl
    rw [e1] at hv
    have e2 : ∀ w : Msg, (Otp.mk 0 { w with st := childF ⟨se, s0 :: sp⟩ q }).cells = num 0 :: num se :: .sl false 1 ((intsC (s0 :: sp) ++ [[nat q]]).take (0 + (intsC (s0 :: sp)).length + 1)) :: num w.mass :: .sl false 1 (intsC w.orig) :: w.body.cells := fun w => by
      rw [List.take_of_length_le (by simp), show intsC (s0 :: sp) ++ [[nat q]] = intsC (s0 :: sp ++ [Int.ofNat q]) from (intsC_snoc _ _).symm]; rfl
    have e3 : ∀ w : Msg, (Fte.mk w.st 1 n.name [childF ⟨se, s0 :: sp⟩ q] ⟨#[]⟩).cellsB true = [num w.st.e, .sl false 1 (intsC w.st.p), num 1, strX n.name, .sl true 2 [[num se, .sl false 1 ((intsC (s0 :: sp) ++ [[nat q]]).take (0 + (intsC (s0 :: sp)).length + 1))]], noText] := fun w => by
      rw [← e1]; rfl
    have e4 : ∀ w : Msg, ({ w with st := childF ⟨se, s0 :: sp⟩ q } : Msg).cells = num se :: .sl false 1 ((intsC (s0 :: sp) ++ [[nat q]]).take (0 + (intsC (s0 :: sp)).length + 1)) :: num w.mass :: .sl false 1 (intsC w.orig) :: w.body.cells := fun w => by
      rw [List.take_of_length_le (by simp), show intsC (s0 :: sp) ++ [[nat q]] = intsC (s0 :: sp ++ [Int.ofNat q]) from (intsC_snoc _ _).symm]; rfl
    rw [e4] at hv
    rw [e2, e3]
    obtain ⟨⟨e, p⟩, ms, o, ⟨a1, a2, a3, a4, a5, a6⟩⟩ := m
    have hlen : (intsC (s0 :: sp)).length ≤ 100 := by rw [hn]; exact hst
    exact ⟨rdN n x0 y0 tt rest _ _ l _ q j se ((intsC (s0 :: sp) ++ [[nat q]]).take (0 + (intsC (s0 :: sp)).length + 1)),
      run_of [(14, .b true), (23, .fresh), (28, .app), (34, .e (Msg.mk ⟨e, p⟩ ms o (.mk a1 a2 a3 a4 a5 a6)).cells), (37, .p (.agg (num se :: .sl false 1 ((intsC (s0 :: sp) ++ [[nat q]]).take (0 + (intsC (s0 :: sp)).length + 1)) :: num ms :: .sl false 1 (intsC o) :: (Val.mk a1 a2 a3 a4 a5 a6).cells))), (40, .app), (46, .e (Msg.mk ⟨e, p⟩ ms o (.mk a1 a2 a3 a4 a5 a6)).cells), (55, .app), (16, .i (Int.ofNat (j + 1)))] []
        (pf10 (lt_nat (j := j) (k := l.length) hj) (show (intsC (s0 :: sp)).isEmpty = false ∧ roomOk (([] : List (List X)).length + (intsC (s0 :: sp)).length) 8 = true from ⟨rfl, room_of (by simp only [List.length_nil]; omega) (by simp only [List.length_nil]; omega)⟩)
          (show 0 + (0 + (intsC (s0 :: sp)).length) = (intsC (s0 :: sp)).length ∧ roomOk (0 + (intsC (s0 :: sp)).length + 1) 8 = true ∧ memN 7 [] = false from ⟨by omega, room_of (by omega) (by omega), rfl⟩)
          (show 0 + (0 + (intsC (s0 :: sp)).length + 1) ≤ (intsC (s0 :: sp) ++ [[nat q]]).length by simp) hg hv (app_c (i := 4) (bytes := 160) ho.symm (by omega) (by omega)) hg (app_c (i := 5) (bytes := 96) hf.symm (by omega) (by omega)) (next_nat (j := j) (by omega))) (lo' := []) (by kernel_rfl), rd_canon1 ..⟩
end Go.Proofs.YtjfheahakfoofaaGreatDoor

/- The document's check of a state of a throttle or a delay. -/
namespace Go.Proofs.YtjfheahakfoofaaGreatDoor
open Go.Em

def mkH (n : Nod) (a b : Int) (l : List (List X)) (j : Nat) : St := ⟨[(2, .ptr 0 0 0), (3, .ptr 1 0 0), (6, nat j)], [.var n.cells, .var [num a, num b, .sl false 10 l]]⟩
def mkR (n : Nod) (a b : Int) (l : List (List X)) (x : List X) : St := ⟨[(4, num 10)], [.var n.cells, .var [num a, num b, .sl false 10 l], .var x]⟩
def mkN (n : Nod) (a b : Int) (l : List (List X)) (j : Nat) (x : List X) : St := ⟨[(2, .ptr 0 0 0), (3, .ptr 1 0 0), (6, nat (j + 1))], [.var n.cells, .var [num a, num b, .sl false 10 l], .var x]⟩

theorem mc7 (n : Nod) (hk : (n.kind == 7) = true) (hk8 : (n.kind == 8) = false) (a b : Int) (l : List (List X)) (j : Nat) (hj : j < l.length) (hl : l.length ≤ 60000) (k i s' t' n' : Int) (tx : ByteArray) (vl vf its vs : List (List X)) (z : Bool) (hg : l[j]? = some (slotC k i s' tx vl vf n' t' its vs)) (hz : ∀ M, 60010 ≤ M → Gam.pureD (callF tab ext M) 28 [.agg [num k, num i, num s', strX tx, .sl false 6 vl, .sl false 7 vf]] = some (boolX z)) :
    (((!z) || ((Int.ofNat its.length == 0) || ((n' != 0) || ((t' != 0) || decide (Int.ofNat vs.length > 0))))) = true → ∀ M, 60010 ≤ M → run (callF tab ext M) 0 M (loopAt 10 0) (mkH n a b l j) = some (.ret, mkR n a b l (slotC k i s' tx vl vf n' t' its vs))) ∧
    (((!z) || ((Int.ofNat its.length == 0) || ((n' != 0) || ((t' != 0) || decide (Int.ofNat vs.length > 0))))) = false → ∀ M, 60010 ≤ M → run (callF tab ext M) 0 M (loopAt 10 0) (mkH n a b l j) = some (.norm, mkN n a b l j (slotC k i s' tx vl vf n' t' its vs))) := by
  have hlt := lt_nat hj
  cases h1 : (z) with
  | true =>
    cases h2 : (k == 2) with
    | true =>
      cases h3 : (decide (i > 0)) with
      | true =>
        cases h4 : (i == t') with
        | true =>
          cases h5 : (n' != 0) with
          | true =>
            exact ⟨fun _ M hM => run_of [(47, .b true), (53, .e ([num k, num i, num s', strX tx, .sl false 6 vl, .sl false 7 vf, num n', num t', .sl false 10 its, .sl false 6 vs])), (57, .p (boolX z)), (8, .b true), (61, .b true), (66, .b true), (74, .b true), (78, .b true)] [] (pf8 hlt hg (hz M hM) h1 h2 h3 h4 h5) (lo' := []) (by kernel_rfl), fun hP => absurd hP (by simp)⟩
          | false =>
            cases h6 : (decide (Int.ofNat vs.length > 0)) with
            | true =>
              exact ⟨fun _ M hM => run_of [(47, .b true), (53, .e ([num k, num i, num s', strX tx, .sl false 6 vl, .sl false 7 vf, num n', num t', .sl false 10 its, .sl false 6 vs])), (57, .p (boolX z)), (8, .b true), (61, .b true), (66, .b true), (74, .b true), (78, .b false), (83, .b true)] [] (pf9 hlt hg (hz M hM) h1 h2 h3 h4 h5 h6) (lo' := []) (by kernel_rfl), fun hP => absurd hP (by simp)⟩
            | false =>
              cases h7 : (Int.ofNat its.length == 0) with
              | true =>
                exact ⟨fun _ M hM => run_of [(47, .b true), (53, .e ([num k, num i, num s', strX tx, .sl false 6 vl, .sl false 7 vf, num n', num t', .sl false 10 its, .sl false 6 vs])), (57, .p (boolX z)), (8, .b true), (61, .b true), (66, .b true), (74, .b true), (78, .b false), (83, .b false), (89, .b true)] [] (pf10 hlt hg (hz M hM) h1 h2 h3 h4 h5 h6 h7) (lo' := []) (by kernel_rfl), fun hP => absurd hP (by simp)⟩
              | false =>
                cases h8 : (t' != 0) with
                | true =>
                  exact ⟨fun _ M hM => run_of [(47, .b true), (53, .e ([num k, num i, num s', strX tx, .sl false 6 vl, .sl false 7 vf, num n', num t', .sl false 10 its, .sl false 6 vs])), (57, .p (boolX z)), (8, .b true), (61, .b true), (66, .b true), (74, .b true), (78, .b false), (83, .b false), (89, .b false), (94, .b true), (101, .b true)] [] (pf12 hlt hg (hz M hM) h1 h2 h3 h4 h5 h6 h7 hk h8) (lo' := []) (by kernel_rfl), fun hP => absurd hP (by simp)⟩
                | false =>
                  exact ⟨fun hP => absurd hP (by simp), fun _ M hM => run_of [(47, .b true), (53, .e ([num k, num i, num s', strX tx, .sl false 6 vl, .sl false 7 vf, num n', num t', .sl false 10 its, .sl false 6 vs])), (57, .p (boolX z)), (8, .b true), (61, .b true), (66, .b true), (74, .b true), (78, .b false), (83, .b false), (89, .b false), (94, .b true), (101, .b false), (108, .b false), (49, .i (Int.ofNat (j + 1)))] [] (pf14 hlt hg (hz M hM) h1 h2 h3 h4 h5 h6 h7 hk h8 hk8 (next_nat (j := j) (by omega))) (lo' := []) (by kernel_rfl)⟩
        | false =>
          cases h9 : (n' != 0) with
          | true =>
            exact ⟨fun _ M hM => run_of [(47, .b true), (53, .e ([num k, num i, num s', strX tx, .sl false 6 vl, .sl false 7 vf, num n', num t', .sl false 10 its, .sl false 6 vs])), (57, .p (boolX z)), (8, .b true), (61, .b true), (66, .b true), (74, .b false), (78, .b true)] [] (pf8 hlt hg (hz M hM) h1 h2 h3 h4 h9) (lo' := []) (by kernel_rfl), fun hP => absurd hP (by simp)⟩
          | false =>
            cases h10 : (decide (Int.ofNat vs.length > 0)) with
            | true =>
              exact ⟨fun _ M hM => run_of [(47, .b true), (53, .e ([num k, num i, num s', strX tx, .sl false 6 vl, .sl false 7 vf, num n', num t', .sl false 10 its, .sl false 6 vs])), (57, .p (boolX z)), (8, .b true), (61, .b true), (66, .b true), (74, .b false), (78, .b false), (83, .b true)] [] (pf9 hlt hg (hz M hM) h1 h2 h3 h4 h9 h10) (lo' := []) (by kernel_rfl), fun hP => absurd hP (by simp)⟩
            | false =>
              cases h11 : (Int.ofNat its.length == 0) with
              | true =>
                exact ⟨fun _ M hM => run_of [(47, .b true), (53, .e ([num k, num i, num s', strX tx, .sl false 6 vl, .sl false 7 vf, num n', num t', .sl false 10 its, .sl false 6 vs])), (57, .p (boolX z)), (8, .b true), (61, .b true), (66, .b true), (74, .b false), (78, .b false), (83, .b false), (89, .b true)] [] (pf10 hlt hg (hz M hM) h1 h2 h3 h4 h9 h10 h11) (lo' := []) (by kernel_rfl), fun hP => absurd hP (by simp)⟩
              | false =>
                cases h12 : (t' != 0) with
                | true =>
                  exact ⟨fun _ M hM => run_of [(47, .b true), (53, .e ([num k, num i, num s', strX tx, .sl false 6 vl, .sl false 7 vf, num n', num t', .sl false 10 its, .sl false 6 vs])), (57, .p (boolX z)), (8, .b true), (61, .b true), (66, .b true), (74, .b false), (78, .b false), (83, .b false), (89, .b false), (94, .b true), (101, .b true)] [] (pf12 hlt hg (hz M hM) h1 h2 h3 h4 h9 h10 h11 hk h12) (lo' := []) (by kernel_rfl), fun hP => absurd hP (by simp)⟩
                | false =>
                  exact ⟨fun hP => absurd hP (by simp), fun _ M hM => run_of [(47, .b true), (53, .e ([num k, num i, num s', strX tx, .sl false 6 vl, .sl false 7 vf, num n', num t', .sl false 10 its, .sl false 6 vs])), (57, .p (boolX z)), (8, .b true), (61, .b true), (66, .b true), (74, .b false), (78, .b false), (83, .b false), (89, .b false), (94, .b true), (101, .b false), (108, .b false), (49, .i (Int.ofNat (j + 1)))] [] (pf14 hlt hg (hz M hM) h1 h2 h3 h4 h9 h10 h11 hk h12 hk8 (next_nat (j := j) (by omega))) (lo' := []) (by kernel_rfl)⟩
      | false =>
        cases h13 : (n' != 0) with
        | true =>
          exact ⟨fun _ M hM => run_of [(47, .b true), (53, .e ([num k, num i, num s', strX tx, .sl false 6 vl, .sl false 7 vf, num n', num t', .sl false 10 its, .sl false 6 vs])), (57, .p (boolX z)), (8, .b true), (61, .b true), (66, .b false), (78, .b true)] [] (pf7 hlt hg (hz M hM) h1 h2 h3 h13) (lo' := []) (by kernel_rfl), fun hP => absurd hP (by simp)⟩
        | false =>
          cases h14 : (decide (Int.ofNat vs.length > 0)) with
          | true =>
            exact ⟨fun _ M hM => run_of [(47, .b true), (53, .e ([num k, num i, num s', strX tx, .sl false 6 vl, .sl false 7 vf, num n', num t', .sl false 10 its, .sl false 6 vs])), (57, .p (boolX z)), (8, .b true), (61, .b true), (66, .b false), (78, .b false), (83, .b true)] [] (pf8 hlt hg (hz M hM) h1 h2 h3 h13 h14) (lo' := []) (by kernel_rfl), fun hP => absurd hP (by simp)⟩
          | false =>
            cases h15 : (Int.ofNat its.length == 0) with
            | true =>
              exact ⟨fun _ M hM => run_of [(47, .b true), (53, .e ([num k, num i, num s', strX tx, .sl false 6 vl, .sl false 7 vf, num n', num t', .sl false 10 its, .sl false 6 vs])), (57, .p (boolX z)), (8, .b true), (61, .b true), (66, .b false), (78, .b false), (83, .b false), (89, .b true)] [] (pf9 hlt hg (hz M hM) h1 h2 h3 h13 h14 h15) (lo' := []) (by kernel_rfl), fun hP => absurd hP (by simp)⟩
            | false =>
              cases h16 : (t' != 0) with
              | true =>
                exact ⟨fun _ M hM => run_of [(47, .b true), (53, .e ([num k, num i, num s', strX tx, .sl false 6 vl, .sl false 7 vf, num n', num t', .sl false 10 its, .sl false 6 vs])), (57, .p (boolX z)), (8, .b true), (61, .b true), (66, .b false), (78, .b false), (83, .b false), (89, .b false), (94, .b true), (101, .b true)] [] (pf11 hlt hg (hz M hM) h1 h2 h3 h13 h14 h15 hk h16) (lo' := []) (by kernel_rfl), fun hP => absurd hP (by simp)⟩
              | false =>
                exact ⟨fun hP => absurd hP (by simp), fun _ M hM => run_of [(47, .b true), (53, .e ([num k, num i, num s', strX tx, .sl false 6 vl, .sl false 7 vf, num n', num t', .sl false 10 its, .sl false 6 vs])), (57, .p (boolX z)), (8, .b true), (61, .b true), (66, .b false), (78, .b false), (83, .b false), (89, .b false), (94, .b true), (101, .b false), (108, .b false), (49, .i (Int.ofNat (j + 1)))] [] (pf13 hlt hg (hz M hM) h1 h2 h3 h13 h14 h15 hk h16 hk8 (next_nat (j := j) (by omega))) (lo' := []) (by kernel_rfl)⟩
    | false =>
      cases h17 : (n' != 0) with
      | true =>
        exact ⟨fun _ M hM => run_of [(47, .b true), (53, .e ([num k, num i, num s', strX tx, .sl false 6 vl, .sl false 7 vf, num n', num t', .sl false 10 its, .sl false 6 vs])), (57, .p (boolX z)), (8, .b true), (61, .b false), (78, .b true)] [] (pf6 hlt hg (hz M hM) h1 h2 h17) (lo' := []) (by kernel_rfl), fun hP => absurd hP (by simp)⟩
      | false =>
        cases h18 : (decide (Int.ofNat vs.length > 0)) with
        | true =>
          exact ⟨fun _ M hM => run_of [(47, .b true), (53, .e ([num k, num i, num s', strX tx, .sl false 6 vl, .sl false 7 vf, num n', num t', .sl false 10 its, .sl false 6 vs])), (57, .p (boolX z)), (8, .b true), (61, .b false), (78, .b false), (83, .b true)] [] (pf7 hlt hg (hz M hM) h1 h2 h17 h18) (lo' := []) (by kernel_rfl), fun hP => absurd hP (by simp)⟩
        | false =>
          cases h19 : (Int.ofNat its.length == 0) with
          | true =>
            exact ⟨fun _ M hM => run_of [(47, .b true), (53, .e ([num k, num i, num s', strX tx, .sl false 6 vl, .sl false 7 vf, num n', num t', .sl false 10 its, .sl false 6 vs])), (57, .p (boolX z)), (8, .b true), (61, .b false), (78, .b false), (83, .b false), (89, .b true)] [] (pf8 hlt hg (hz M hM) h1 h2 h17 h18 h19) (lo' := []) (by kernel_rfl), fun hP => absurd hP (by simp)⟩
          | false =>
            cases h20 : (t' != 0) with
            | true =>
              exact ⟨fun _ M hM => run_of [(47, .b true), (53, .e ([num k, num i, num s', strX tx, .sl false 6 vl, .sl false 7 vf, num n', num t', .sl false 10 its, .sl false 6 vs])), (57, .p (boolX z)), (8, .b true), (61, .b false), (78, .b false), (83, .b false), (89, .b false), (94, .b true), (101, .b true)] [] (pf10 hlt hg (hz M hM) h1 h2 h17 h18 h19 hk h20) (lo' := []) (by kernel_rfl), fun hP => absurd hP (by simp)⟩
            | false =>
              exact ⟨fun hP => absurd hP (by simp), fun _ M hM => run_of [(47, .b true), (53, .e ([num k, num i, num s', strX tx, .sl false 6 vl, .sl false 7 vf, num n', num t', .sl false 10 its, .sl false 6 vs])), (57, .p (boolX z)), (8, .b true), (61, .b false), (78, .b false), (83, .b false), (89, .b false), (94, .b true), (101, .b false), (108, .b false), (49, .i (Int.ofNat (j + 1)))] [] (pf12 hlt hg (hz M hM) h1 h2 h17 h18 h19 hk h20 hk8 (next_nat (j := j) (by omega))) (lo' := []) (by kernel_rfl)⟩
  | false =>
    cases h21 : (k == 2) with
    | true =>
      cases h22 : (decide (i > 0)) with
      | true =>
        cases h23 : (i == t') with
        | true =>
          cases h24 : (n' != 0) with
          | true =>
            exact ⟨fun _ M hM => run_of [(47, .b true), (53, .e ([num k, num i, num s', strX tx, .sl false 6 vl, .sl false 7 vf, num n', num t', .sl false 10 its, .sl false 6 vs])), (57, .p (boolX z)), (8, .b false), (61, .b true), (66, .b true), (74, .b true), (78, .b true)] [] (pf8 hlt hg (hz M hM) h1 h21 h22 h23 h24) (lo' := []) (by kernel_rfl), fun hP => absurd hP (by simp)⟩
          | false =>
            cases h25 : (decide (Int.ofNat vs.length > 0)) with
            | true =>
              exact ⟨fun _ M hM => run_of [(47, .b true), (53, .e ([num k, num i, num s', strX tx, .sl false 6 vl, .sl false 7 vf, num n', num t', .sl false 10 its, .sl false 6 vs])), (57, .p (boolX z)), (8, .b false), (61, .b true), (66, .b true), (74, .b true), (78, .b false), (83, .b true)] [] (pf9 hlt hg (hz M hM) h1 h21 h22 h23 h24 h25) (lo' := []) (by kernel_rfl), fun hP => absurd hP (by simp)⟩
            | false =>
              cases h26 : (Int.ofNat its.length == 0) with
              | true =>
                exact ⟨fun _ M hM => run_of [(47, .b true), (53, .e ([num k, num i, num s', strX tx, .sl false 6 vl, .sl false 7 vf, num n', num t', .sl false 10 its, .sl false 6 vs])), (57, .p (boolX z)), (8, .b false), (61, .b true), (66, .b true), (74, .b true), (78, .b false), (83, .b false), (89, .b true)] [] (pf10 hlt hg (hz M hM) h1 h21 h22 h23 h24 h25 h26) (lo' := []) (by kernel_rfl), fun hP => absurd hP (by simp)⟩
              | false =>
                exact ⟨fun _ M hM => run_of [(47, .b true), (53, .e ([num k, num i, num s', strX tx, .sl false 6 vl, .sl false 7 vf, num n', num t', .sl false 10 its, .sl false 6 vs])), (57, .p (boolX z)), (8, .b false), (61, .b true), (66, .b true), (74, .b true), (78, .b false), (83, .b false), (89, .b false), (94, .b true)] [] (pf11 hlt hg (hz M hM) h1 h21 h22 h23 h24 h25 h26 hk) (lo' := []) (by kernel_rfl), fun hP => absurd hP (by simp)⟩
        | false =>
          cases h27 : (n' != 0) with
          | true =>
            exact ⟨fun _ M hM => run_of [(47, .b true), (53, .e ([num k, num i, num s', strX tx, .sl false 6 vl, .sl false 7 vf, num n', num t', .sl false 10 its, .sl false 6 vs])), (57, .p (boolX z)), (8, .b false), (61, .b true), (66, .b true), (74, .b false), (78, .b true)] [] (pf8 hlt hg (hz M hM) h1 h21 h22 h23 h27) (lo' := []) (by kernel_rfl), fun hP => absurd hP (by simp)⟩
          | false =>
            cases h28 : (decide (Int.ofNat vs.length > 0)) with
            | true =>
              exact ⟨fun _ M hM => run_of [(47, .b true), (53, .e ([num k, num i, num s', strX tx, .sl false 6 vl, .sl false 7 vf, num n', num t', .sl false 10 its, .sl false 6 vs])), (57, .p (boolX z)), (8, .b false), (61, .b true), (66, .b true), (74, .b false), (78, .b false), (83, .b true)] [] (pf9 hlt hg (hz M hM) h1 h21 h22 h23 h27 h28) (lo' := []) (by kernel_rfl), fun hP => absurd hP (by simp)⟩
            | false =>
              cases h29 : (Int.ofNat its.length == 0) with
              | true =>
                exact ⟨fun _ M hM => run_of [(47, .b true), (53, .e ([num k, num i, num s', strX tx, .sl false 6 vl, .sl false 7 vf, num n', num t', .sl false 10 its, .sl false 6 vs])), (57, .p (boolX z)), (8, .b false), (61, .b true), (66, .b true), (74, .b false), (78, .b false), (83, .b false), (89, .b true)] [] (pf10 hlt hg (hz M hM) h1 h21 h22 h23 h27 h28 h29) (lo' := []) (by kernel_rfl), fun hP => absurd hP (by simp)⟩
              | false =>
                exact ⟨fun _ M hM => run_of [(47, .b true), (53, .e ([num k, num i, num s', strX tx, .sl false 6 vl, .sl false 7 vf, num n', num t', .sl false 10 its, .sl false 6 vs])), (57, .p (boolX z)), (8, .b false), (61, .b true), (66, .b true), (74, .b false), (78, .b false), (83, .b false), (89, .b false), (94, .b true)] [] (pf11 hlt hg (hz M hM) h1 h21 h22 h23 h27 h28 h29 hk) (lo' := []) (by kernel_rfl), fun hP => absurd hP (by simp)⟩
      | false =>
        cases h30 : (n' != 0) with
        | true =>
          exact ⟨fun _ M hM => run_of [(47, .b true), (53, .e ([num k, num i, num s', strX tx, .sl false 6 vl, .sl false 7 vf, num n', num t', .sl false 10 its, .sl false 6 vs])), (57, .p (boolX z)), (8, .b false), (61, .b true), (66, .b false), (78, .b true)] [] (pf7 hlt hg (hz M hM) h1 h21 h22 h30) (lo' := []) (by kernel_rfl), fun hP => absurd hP (by simp)⟩
        | false =>
          cases h31 : (decide (Int.ofNat vs.length > 0)) with
          | true =>
            exact ⟨fun _ M hM => run_of [(47, .b true), (53, .e ([num k, num i, num s', strX tx, .sl false 6 vl, .sl false 7 vf, num n', num t', .sl false 10 its, .sl false 6 vs])), (57, .p (boolX z)), (8, .b false), (61, .b true), (66, .b false), (78, .b false), (83, .b true)] [] (pf8 hlt hg (hz M hM) h1 h21 h22 h30 h31) (lo' := []) (by kernel_rfl), fun hP => absurd hP (by simp)⟩
          | false =>
            cases h32 : (Int.ofNat its.length == 0) with
            | true =>
              exact ⟨fun _ M hM => run_of [(47, .b true), (53, .e ([num k, num i, num s', strX tx, .sl false 6 vl, .sl false 7 vf, num n', num t', .sl false 10 its, .sl false 6 vs])), (57, .p (boolX z)), (8, .b false), (61, .b true), (66, .b false), (78, .b false), (83, .b false), (89, .b true)] [] (pf9 hlt hg (hz M hM) h1 h21 h22 h30 h31 h32) (lo' := []) (by kernel_rfl), fun hP => absurd hP (by simp)⟩
            | false =>
              exact ⟨fun _ M hM => run_of [(47, .b true), (53, .e ([num k, num i, num s', strX tx, .sl false 6 vl, .sl false 7 vf, num n', num t', .sl false 10 its, .sl false 6 vs])), (57, .p (boolX z)), (8, .b false), (61, .b true), (66, .b false), (78, .b false), (83, .b false), (89, .b false), (94, .b true)] [] (pf10 hlt hg (hz M hM) h1 h21 h22 h30 h31 h32 hk) (lo' := []) (by kernel_rfl), fun hP => absurd hP (by simp)⟩
    | false =>
      cases h33 : (n' != 0) with
      | true =>
        exact ⟨fun _ M hM => run_of [(47, .b true), (53, .e ([num k, num i, num s', strX tx, .sl false 6 vl, .sl false 7 vf, num n', num t', .sl false 10 its, .sl false 6 vs])), (57, .p (boolX z)), (8, .b false), (61, .b false), (78, .b true)] [] (pf6 hlt hg (hz M hM) h1 h21 h33) (lo' := []) (by kernel_rfl), fun hP => absurd hP (by simp)⟩
      | false =>
        cases h34 : (decide (Int.ofNat vs.length > 0)) with
        | true =>
          exact ⟨fun _ M hM => run_of [(47, .b true), (53, .e ([num k, num i, num s', strX tx, .sl false 6 vl, .sl false 7 vf, num n', num t', .sl false 10 its, .sl false 6 vs])), (57, .p (boolX z)), (8, .b false), (61, .b false), (78, .b false), (83, .b true)] [] (pf7 hlt hg (hz M hM) h1 h21 h33 h34) (lo' := []) (by kernel_rfl), fun hP => absurd hP (by simp)⟩
        | false =>
          cases h35 : (Int.ofNat its.length == 0) with
          | true =>
            exact ⟨fun _ M hM => run_of [(47, .b true), (53, .e ([num k, num i, num s', strX tx, .sl false 6 vl, .sl false 7 vf, num n', num t', .sl false 10 its, .sl false 6 vs])), (57, .p (boolX z)), (8, .b false), (61, .b false), (78, .b false), (83, .b false), (89, .b true)] [] (pf8 hlt hg (hz M hM) h1 h21 h33 h34 h35) (lo' := []) (by kernel_rfl), fun hP => absurd hP (by simp)⟩
          | false =>
            exact ⟨fun _ M hM => run_of [(47, .b true), (53, .e ([num k, num i, num s', strX tx, .sl false 6 vl, .sl false 7 vf, num n', num t', .sl false 10 its, .sl false 6 vs])), (57, .p (boolX z)), (8, .b false), (61, .b false), (78, .b false), (83, .b false), (89, .b false), (94, .b true)] [] (pf9 hlt hg (hz M hM) h1 h21 h33 h34 h35 hk) (lo' := []) (by kernel_rfl), fun hP => absurd hP (by simp)⟩
theorem mc8 (n : Nod) (hk : (n.kind == 8) = true) (hk8 : (n.kind == 7) = false) (a b : Int) (l : List (List X)) (j : Nat) (hj : j < l.length) (hl : l.length ≤ 60000) (k i s' t' n' : Int) (tx : ByteArray) (vl vf its vs : List (List X)) (z : Bool) (hg : l[j]? = some (slotC k i s' tx vl vf n' t' its vs)) (hz : ∀ M, 60010 ≤ M → Gam.pureD (callF tab ext M) 28 [.agg [num k, num i, num s', strX tx, .sl false 6 vl, .sl false 7 vf]] = some (boolX z)) :
    (((Int.ofNat its.length == 0) || ((!(k == 2)) || ((!decide (i > 0)) || ((!(i == t')) || ((n' != 0) || decide (Int.ofNat vs.length > 0)))))) = true → ∀ M, 60010 ≤ M → run (callF tab ext M) 0 M (loopAt 10 0) (mkH n a b l j) = some (.ret, mkR n a b l (slotC k i s' tx vl vf n' t' its vs))) ∧
    (((Int.ofNat its.length == 0) || ((!(k == 2)) || ((!decide (i > 0)) || ((!(i == t')) || ((n' != 0) || decide (Int.ofNat vs.length > 0)))))) = false → ∀ M, 60010 ≤ M → run (callF tab ext M) 0 M (loopAt 10 0) (mkH n a b l j) = some (.norm, mkN n a b l j (slotC k i s' tx vl vf n' t' its vs))) := by
  have hlt := lt_nat hj
  cases h1 : (z) with
  | true =>
    cases h2 : (k == 2) with
    | true =>
      cases h3 : (decide (i > 0)) with
      | true =>
        cases h4 : (i == t') with
        | true =>
          cases h5 : (n' != 0) with
          | true =>
            exact ⟨fun _ M hM => run_of [(47, .b true), (53, .e ([num k, num i, num s', strX tx, .sl false 6 vl, .sl false 7 vf, num n', num t', .sl false 10 its, .sl false 6 vs])), (57, .p (boolX z)), (8, .b true), (61, .b true), (66, .b true), (74, .b true), (78, .b true)] [] (pf8 hlt hg (hz M hM) h1 h2 h3 h4 h5) (lo' := []) (by kernel_rfl), fun hP => absurd hP (by simp)⟩
          | false =>
            cases h6 : (decide (Int.ofNat vs.length > 0)) with
            | true =>
              exact ⟨fun _ M hM => run_of [(47, .b true), (53, .e ([num k, num i, num s', strX tx, .sl false 6 vl, .sl false 7 vf, num n', num t', .sl false 10 its, .sl false 6 vs])), (57, .p (boolX z)), (8, .b true), (61, .b true), (66, .b true), (74, .b true), (78, .b false), (83, .b true)] [] (pf9 hlt hg (hz M hM) h1 h2 h3 h4 h5 h6) (lo' := []) (by kernel_rfl), fun hP => absurd hP (by simp)⟩
            | false =>
              cases h7 : (Int.ofNat its.length == 0) with
              | true =>
                exact ⟨fun _ M hM => run_of [(47, .b true), (53, .e ([num k, num i, num s', strX tx, .sl false 6 vl, .sl false 7 vf, num n', num t', .sl false 10 its, .sl false 6 vs])), (57, .p (boolX z)), (8, .b true), (61, .b true), (66, .b true), (74, .b true), (78, .b false), (83, .b false), (89, .b true)] [] (pf10 hlt hg (hz M hM) h1 h2 h3 h4 h5 h6 h7) (lo' := []) (by kernel_rfl), fun hP => absurd hP (by simp)⟩
              | false =>
                exact ⟨fun hP => absurd hP (by simp), fun _ M hM => run_of [(47, .b true), (53, .e ([num k, num i, num s', strX tx, .sl false 6 vl, .sl false 7 vf, num n', num t', .sl false 10 its, .sl false 6 vs])), (57, .p (boolX z)), (8, .b true), (61, .b true), (66, .b true), (74, .b true), (78, .b false), (83, .b false), (89, .b false), (94, .b false), (108, .b true), (49, .i (Int.ofNat (j + 1)))] [] (pf13 hlt hg (hz M hM) h1 h2 h3 h4 h5 h6 h7 hk8 hk (next_nat (j := j) (by omega))) (lo' := []) (by kernel_rfl)⟩
        | false =>
          cases h8 : (n' != 0) with
          | true =>
            exact ⟨fun _ M hM => run_of [(47, .b true), (53, .e ([num k, num i, num s', strX tx, .sl false 6 vl, .sl false 7 vf, num n', num t', .sl false 10 its, .sl false 6 vs])), (57, .p (boolX z)), (8, .b true), (61, .b true), (66, .b true), (74, .b false), (78, .b true)] [] (pf8 hlt hg (hz M hM) h1 h2 h3 h4 h8) (lo' := []) (by kernel_rfl), fun hP => absurd hP (by simp)⟩
          | false =>
            cases h9 : (decide (Int.ofNat vs.length > 0)) with
            | true =>
              exact ⟨fun _ M hM => run_of [(47, .b true), (53, .e ([num k, num i, num s', strX tx, .sl false 6 vl, .sl false 7 vf, num n', num t', .sl false 10 its, .sl false 6 vs])), (57, .p (boolX z)), (8, .b true), (61, .b true), (66, .b true), (74, .b false), (78, .b false), (83, .b true)] [] (pf9 hlt hg (hz M hM) h1 h2 h3 h4 h8 h9) (lo' := []) (by kernel_rfl), fun hP => absurd hP (by simp)⟩
            | false =>
              cases h10 : (Int.ofNat its.length == 0) with
              | true =>
                exact ⟨fun _ M hM => run_of [(47, .b true), (53, .e ([num k, num i, num s', strX tx, .sl false 6 vl, .sl false 7 vf, num n', num t', .sl false 10 its, .sl false 6 vs])), (57, .p (boolX z)), (8, .b true), (61, .b true), (66, .b true), (74, .b false), (78, .b false), (83, .b false), (89, .b true)] [] (pf10 hlt hg (hz M hM) h1 h2 h3 h4 h8 h9 h10) (lo' := []) (by kernel_rfl), fun hP => absurd hP (by simp)⟩
              | false =>
                exact ⟨fun _ M hM => run_of [(47, .b true), (53, .e ([num k, num i, num s', strX tx, .sl false 6 vl, .sl false 7 vf, num n', num t', .sl false 10 its, .sl false 6 vs])), (57, .p (boolX z)), (8, .b true), (61, .b true), (66, .b true), (74, .b false), (78, .b false), (83, .b false), (89, .b false), (94, .b false), (108, .b true)] [] (pf12 hlt hg (hz M hM) h1 h2 h3 h4 h8 h9 h10 hk8 hk) (lo' := []) (by kernel_rfl), fun hP => absurd hP (by simp)⟩
      | false =>
        cases h11 : (n' != 0) with
        | true =>
          exact ⟨fun _ M hM => run_of [(47, .b true), (53, .e ([num k, num i, num s', strX tx, .sl false 6 vl, .sl false 7 vf, num n', num t', .sl false 10 its, .sl false 6 vs])), (57, .p (boolX z)), (8, .b true), (61, .b true), (66, .b false), (78, .b true)] [] (pf7 hlt hg (hz M hM) h1 h2 h3 h11) (lo' := []) (by kernel_rfl), fun hP => absurd hP (by simp)⟩
        | false =>
          cases h12 : (decide (Int.ofNat vs.length > 0)) with
          | true =>
            exact ⟨fun _ M hM => run_of [(47, .b true), (53, .e ([num k, num i, num s', strX tx, .sl false 6 vl, .sl false 7 vf, num n', num t', .sl false 10 its, .sl false 6 vs])), (57, .p (boolX z)), (8, .b true), (61, .b true), (66, .b false), (78, .b false), (83, .b true)] [] (pf8 hlt hg (hz M hM) h1 h2 h3 h11 h12) (lo' := []) (by kernel_rfl), fun hP => absurd hP (by simp)⟩
          | false =>
            cases h13 : (Int.ofNat its.length == 0) with
            | true =>
              exact ⟨fun _ M hM => run_of [(47, .b true), (53, .e ([num k, num i, num s', strX tx, .sl false 6 vl, .sl false 7 vf, num n', num t', .sl false 10 its, .sl false 6 vs])), (57, .p (boolX z)), (8, .b true), (61, .b true), (66, .b false), (78, .b false), (83, .b false), (89, .b true)] [] (pf9 hlt hg (hz M hM) h1 h2 h3 h11 h12 h13) (lo' := []) (by kernel_rfl), fun hP => absurd hP (by simp)⟩
            | false =>
              exact ⟨fun _ M hM => run_of [(47, .b true), (53, .e ([num k, num i, num s', strX tx, .sl false 6 vl, .sl false 7 vf, num n', num t', .sl false 10 its, .sl false 6 vs])), (57, .p (boolX z)), (8, .b true), (61, .b true), (66, .b false), (78, .b false), (83, .b false), (89, .b false), (94, .b false), (108, .b true)] [] (pf11 hlt hg (hz M hM) h1 h2 h3 h11 h12 h13 hk8 hk) (lo' := []) (by kernel_rfl), fun hP => absurd hP (by simp)⟩
    | false =>
      cases h14 : (n' != 0) with
      | true =>
        exact ⟨fun _ M hM => run_of [(47, .b true), (53, .e ([num k, num i, num s', strX tx, .sl false 6 vl, .sl false 7 vf, num n', num t', .sl false 10 its, .sl false 6 vs])), (57, .p (boolX z)), (8, .b true), (61, .b false), (78, .b true)] [] (pf6 hlt hg (hz M hM) h1 h2 h14) (lo' := []) (by kernel_rfl), fun hP => absurd hP (by simp)⟩
      | false =>
        cases h15 : (decide (Int.ofNat vs.length > 0)) with
        | true =>
          exact ⟨fun _ M hM => run_of [(47, .b true), (53, .e ([num k, num i, num s', strX tx, .sl false 6 vl, .sl false 7 vf, num n', num t', .sl false 10 its, .sl false 6 vs])), (57, .p (boolX z)), (8, .b true), (61, .b false), (78, .b false), (83, .b true)] [] (pf7 hlt hg (hz M hM) h1 h2 h14 h15) (lo' := []) (by kernel_rfl), fun hP => absurd hP (by simp)⟩
        | false =>
          cases h16 : (Int.ofNat its.length == 0) with
          | true =>
            exact ⟨fun _ M hM => run_of [(47, .b true), (53, .e ([num k, num i, num s', strX tx, .sl false 6 vl, .sl false 7 vf, num n', num t', .sl false 10 its, .sl false 6 vs])), (57, .p (boolX z)), (8, .b true), (61, .b false), (78, .b false), (83, .b false), (89, .b true)] [] (pf8 hlt hg (hz M hM) h1 h2 h14 h15 h16) (lo' := []) (by kernel_rfl), fun hP => absurd hP (by simp)⟩
          | false =>
            exact ⟨fun _ M hM => run_of [(47, .b true), (53, .e ([num k, num i, num s', strX tx, .sl false 6 vl, .sl false 7 vf, num n', num t', .sl false 10 its, .sl false 6 vs])), (57, .p (boolX z)), (8, .b true), (61, .b false), (78, .b false), (83, .b false), (89, .b false), (94, .b false), (108, .b true)] [] (pf10 hlt hg (hz M hM) h1 h2 h14 h15 h16 hk8 hk) (lo' := []) (by kernel_rfl), fun hP => absurd hP (by simp)⟩
  | false =>
    cases h17 : (k == 2) with
    | true =>
      cases h18 : (decide (i > 0)) with
      | true =>
        cases h19 : (i == t') with
        | true =>
          cases h20 : (n' != 0) with
          | true =>
            exact ⟨fun _ M hM => run_of [(47, .b true), (53, .e ([num k, num i, num s', strX tx, .sl false 6 vl, .sl false 7 vf, num n', num t', .sl false 10 its, .sl false 6 vs])), (57, .p (boolX z)), (8, .b false), (61, .b true), (66, .b true), (74, .b true), (78, .b true)] [] (pf8 hlt hg (hz M hM) h1 h17 h18 h19 h20) (lo' := []) (by kernel_rfl), fun hP => absurd hP (by simp)⟩
          | false =>
            cases h21 : (decide (Int.ofNat vs.length > 0)) with
            | true =>
              exact ⟨fun _ M hM => run_of [(47, .b true), (53, .e ([num k, num i, num s', strX tx, .sl false 6 vl, .sl false 7 vf, num n', num t', .sl false 10 its, .sl false 6 vs])), (57, .p (boolX z)), (8, .b false), (61, .b true), (66, .b true), (74, .b true), (78, .b false), (83, .b true)] [] (pf9 hlt hg (hz M hM) h1 h17 h18 h19 h20 h21) (lo' := []) (by kernel_rfl), fun hP => absurd hP (by simp)⟩
            | false =>
              cases h22 : (Int.ofNat its.length == 0) with
              | true =>
                exact ⟨fun _ M hM => run_of [(47, .b true), (53, .e ([num k, num i, num s', strX tx, .sl false 6 vl, .sl false 7 vf, num n', num t', .sl false 10 its, .sl false 6 vs])), (57, .p (boolX z)), (8, .b false), (61, .b true), (66, .b true), (74, .b true), (78, .b false), (83, .b false), (89, .b true)] [] (pf10 hlt hg (hz M hM) h1 h17 h18 h19 h20 h21 h22) (lo' := []) (by kernel_rfl), fun hP => absurd hP (by simp)⟩
              | false =>
                exact ⟨fun hP => absurd hP (by simp), fun _ M hM => run_of [(47, .b true), (53, .e ([num k, num i, num s', strX tx, .sl false 6 vl, .sl false 7 vf, num n', num t', .sl false 10 its, .sl false 6 vs])), (57, .p (boolX z)), (8, .b false), (61, .b true), (66, .b true), (74, .b true), (78, .b false), (83, .b false), (89, .b false), (94, .b false), (108, .b true), (49, .i (Int.ofNat (j + 1)))] [] (pf13 hlt hg (hz M hM) h1 h17 h18 h19 h20 h21 h22 hk8 hk (next_nat (j := j) (by omega))) (lo' := []) (by kernel_rfl)⟩
        | false =>
          cases h23 : (n' != 0) with
          | true =>
            exact ⟨fun _ M hM => run_of [(47, .b true), (53, .e ([num k, num i, num s', strX tx, .sl false 6 vl, .sl false 7 vf, num n', num t', .sl false 10 its, .sl false 6 vs])), (57, .p (boolX z)), (8, .b false), (61, .b true), (66, .b true), (74, .b false), (78, .b true)] [] (pf8 hlt hg (hz M hM) h1 h17 h18 h19 h23) (lo' := []) (by kernel_rfl), fun hP => absurd hP (by simp)⟩
          | false =>
            cases h24 : (decide (Int.ofNat vs.length > 0)) with
            | true =>
              exact ⟨fun _ M hM => run_of [(47, .b true), (53, .e ([num k, num i, num s', strX tx, .sl false 6 vl, .sl false 7 vf, num n', num t', .sl false 10 its, .sl false 6 vs])), (57, .p (boolX z)), (8, .b false), (61, .b true), (66, .b true), (74, .b false), (78, .b false), (83, .b true)] [] (pf9 hlt hg (hz M hM) h1 h17 h18 h19 h23 h24) (lo' := []) (by kernel_rfl), fun hP => absurd hP (by simp)⟩
            | false =>
              cases h25 : (Int.ofNat its.length == 0) with
              | true =>
                exact ⟨fun _ M hM => run_of [(47, .b true), (53, .e ([num k, num i, num s', strX tx, .sl false 6 vl, .sl false 7 vf, num n', num t', .sl false 10 its, .sl false 6 vs])), (57, .p (boolX z)), (8, .b false), (61, .b true), (66, .b true), (74, .b false), (78, .b false), (83, .b false), (89, .b true)] [] (pf10 hlt hg (hz M hM) h1 h17 h18 h19 h23 h24 h25) (lo' := []) (by kernel_rfl), fun hP => absurd hP (by simp)⟩
              | false =>
                exact ⟨fun _ M hM => run_of [(47, .b true), (53, .e ([num k, num i, num s', strX tx, .sl false 6 vl, .sl false 7 vf, num n', num t', .sl false 10 its, .sl false 6 vs])), (57, .p (boolX z)), (8, .b false), (61, .b true), (66, .b true), (74, .b false), (78, .b false), (83, .b false), (89, .b false), (94, .b false), (108, .b true)] [] (pf12 hlt hg (hz M hM) h1 h17 h18 h19 h23 h24 h25 hk8 hk) (lo' := []) (by kernel_rfl), fun hP => absurd hP (by simp)⟩
      | false =>
        cases h26 : (n' != 0) with
        | true =>
          exact ⟨fun _ M hM => run_of [(47, .b true), (53, .e ([num k, num i, num s', strX tx, .sl false 6 vl, .sl false 7 vf, num n', num t', .sl false 10 its, .sl false 6 vs])), (57, .p (boolX z)), (8, .b false), (61, .b true), (66, .b false), (78, .b true)] [] (pf7 hlt hg (hz M hM) h1 h17 h18 h26) (lo' := []) (by kernel_rfl), fun hP => absurd hP (by simp)⟩
        | false =>
          cases h27 : (decide (Int.ofNat vs.length > 0)) with
          | true =>
            exact ⟨fun _ M hM => run_of [(47, .b true), (53, .e ([num k, num i, num s', strX tx, .sl false 6 vl, .sl false 7 vf, num n', num t', .sl false 10 its, .sl false 6 vs])), (57, .p (boolX z)), (8, .b false), (61, .b true), (66, .b false), (78, .b false), (83, .b true)] [] (pf8 hlt hg (hz M hM) h1 h17 h18 h26 h27) (lo' := []) (by kernel_rfl), fun hP => absurd hP (by simp)⟩
          | false =>
            cases h28 : (Int.ofNat its.length == 0) with
            | true =>
              exact ⟨fun _ M hM => run_of [(47, .b true), (53, .e ([num k, num i, num s', strX tx, .sl false 6 vl, .sl false 7 vf, num n', num t', .sl false 10 its, .sl false 6 vs])), (57, .p (boolX z)), (8, .b false), (61, .b true), (66, .b false), (78, .b false), (83, .b false), (89, .b true)] [] (pf9 hlt hg (hz M hM) h1 h17 h18 h26 h27 h28) (lo' := []) (by kernel_rfl), fun hP => absurd hP (by simp)⟩
            | false =>
              exact ⟨fun _ M hM => run_of [(47, .b true), (53, .e ([num k, num i, num s', strX tx, .sl false 6 vl, .sl false 7 vf, num n', num t', .sl false 10 its, .sl false 6 vs])), (57, .p (boolX z)), (8, .b false), (61, .b true), (66, .b false), (78, .b false), (83, .b false), (89, .b false), (94, .b false), (108, .b true)] [] (pf11 hlt hg (hz M hM) h1 h17 h18 h26 h27 h28 hk8 hk) (lo' := []) (by kernel_rfl), fun hP => absurd hP (by simp)⟩
    | false =>
      cases h29 : (n' != 0) with
      | true =>
        exact ⟨fun _ M hM => run_of [(47, .b true), (53, .e ([num k, num i, num s', strX tx, .sl false 6 vl, .sl false 7 vf, num n', num t', .sl false 10 its, .sl false 6 vs])), (57, .p (boolX z)), (8, .b false), (61, .b false), (78, .b true)] [] (pf6 hlt hg (hz M hM) h1 h17 h29) (lo' := []) (by kernel_rfl), fun hP => absurd hP (by simp)⟩
      | false =>
        cases h30 : (decide (Int.ofNat vs.length > 0)) with
        | true =>
          exact ⟨fun _ M hM => run_of [(47, .b true), (53, .e ([num k, num i, num s', strX tx, .sl false 6 vl, .sl false 7 vf, num n', num t', .sl false 10 its, .sl false 6 vs])), (57, .p (boolX z)), (8, .b false), (61, .b false), (78, .b false), (83, .b true)] [] (pf7 hlt hg (hz M hM) h1 h17 h29 h30) (lo' := []) (by kernel_rfl), fun hP => absurd hP (by simp)⟩
        | false =>
          cases h31 : (Int.ofNat its.length == 0) with
          | true =>
            exact ⟨fun _ M hM => run_of [(47, .b true), (53, .e ([num k, num i, num s', strX tx, .sl false 6 vl, .sl false 7 vf, num n', num t', .sl false 10 its, .sl false 6 vs])), (57, .p (boolX z)), (8, .b false), (61, .b false), (78, .b false), (83, .b false), (89, .b true)] [] (pf8 hlt hg (hz M hM) h1 h17 h29 h30 h31) (lo' := []) (by kernel_rfl), fun hP => absurd hP (by simp)⟩
          | false =>
            exact ⟨fun _ M hM => run_of [(47, .b true), (53, .e ([num k, num i, num s', strX tx, .sl false 6 vl, .sl false 7 vf, num n', num t', .sl false 10 its, .sl false 6 vs])), (57, .p (boolX z)), (8, .b false), (61, .b false), (78, .b false), (83, .b false), (89, .b false), (94, .b false), (108, .b true)] [] (pf10 hlt hg (hz M hM) h1 h17 h29 h30 h31 hk8 hk) (lo' := []) (by kernel_rfl), fun hP => absurd hP (by simp)⟩
end Go.Proofs.YtjfheahakfoofaaGreatDoor

/- The document's check of a state, and the program's: what they hand back. -/
namespace Go.Proofs.YtjfheahakfoofaaGreatDoor
open Go.Em

/-- What a check hands back, by what the check of the slots does. -/
def checkF (n : Nod) (s : Stt) (c : Int) : Int := if n.kind = 7 then (if c ≠ 0 then c else if rightS s then 0 else 10) else if n.kind = 8 then (if c ≠ 0 then c else if delayedS s then 0 else 10) else 11
def dSlt : Slt := ⟨.mk 0 0 0 ⟨#[]⟩ [] [], 0, 0, [], []⟩

theorem mc_end (n : Nod) (a b : Int) (l : List (List X)) (M : Nat) : run (callF tab ext M) 0 M (loopAt 10 0) (mkH n a b l l.length) = some (.exit 0, ⟨[(2, .ptr 0 0 0), (3, .ptr 1 0 0), (6, nat l.length), (47, boolX false)], [.var n.cells, .var [num a, num b, .sl false 10 l]]⟩) :=
  run_of [(47, .b false)] [] (pf1 (nlt_nat (j := l.length) (k := l.length) (Nat.lt_irrefl _))) (lo' := []) (by kernel_rfl)
theorem mcheck_pure (n : Nod) (s : Stt) (hs : s.small) (c : Int) (hc : ∀ N, 190060 ≤ N → Gam.pureD (callF tab ext N) 27 [.agg s.cells] = some (num c)) (N : Nat) (hN : 190070 ≤ N) : Gam.pureD (callF tab ext N) 10 [.agg n.cells, .agg s.cells] = some (num (checkF n s c)) := by
  obtain ⟨M, rfl⟩ : ∃ M, N = M + 1 := ⟨N - 1, by omega⟩
  have hc := hc M (by omega)
  have hl := hs.slots
  unfold checkF
  by_cases hk : n.kind = 7
  · have k1 : (n.kind == 7) = true := by simp [hk]
    have k2 : (n.kind == 8) = false := by simp [hk]
    have k3 : (n.kind != 7) = false := by simp [hk]
    rw [if_pos hk]
    cases h1 : (c != 0) with
    | true =>
      rw [if_pos (by simpa using h1)]
      exact pure_of [(12, .b false), (19, .p (num c)), (21, .b true)] [] (pf3 k3 hc h1) (x := num c) (bx := []) (by kernel_rfl) rfl
    | false =>
      rw [if_neg (by simpa using h1)]
      obtain ⟨a, b, ss⟩ := s
      dsimp only at hl
      have hn := sltsC_length ss
      unfold rightS
      dsimp only
      cases h2 : decide (a < 0) with
      | true => exact pure_of [(12, .b false), (19, .p (num c)), (21, .b false), (25, .b true), (28, .b true)] [] (pf5 k3 hc h1 k1 h2) (x := num 10) (bx := []) (by kernel_rfl) rfl
      | false =>
        cases h3 : decide (1 < Int.ofNat (sltsC ss).length) with
        | true => exact pure_of [(12, .b false), (19, .p (num c)), (21, .b false), (25, .b true), (28, .b false), (33, .b true)] [] (pf6 k3 hc h1 k1 h2 h3) (x := num 10) (bx := []) (by kernel_rfl) rfl
        | false =>
          have hget : ∀ j (h : j < ss.length), ss.getD j dSlt = ss[j] := fun j h => by simp [List.getD, h]
          have hround : ∀ j (h : j < ss.length), (badT ss[j] = true → ∀ M, 60010 ≤ M → run (callF tab ext M) 0 M (loopAt 10 0) (mkH n a b (sltsC ss) j) = some (.ret, mkR n a b (sltsC ss) ss[j].cells)) ∧ (badT ss[j] = false → ∀ M, 60010 ≤ M → run (callF tab ext M) 0 M (loopAt 10 0) (mkH n a b (sltsC ss) j) = some (.norm, mkN n a b (sltsC ss) j ss[j].cells)) := fun j h => by
            have hg := sltsC_get h
            generalize ss[j] = x at hg
            obtain ⟨⟨k0, i0, s0, t0, l0, f0⟩, n0, d0, items, vals⟩ := x
            exact mc7 n k1 k2 a b (sltsC ss) j (by omega) (by omega) k0 i0 s0 d0 n0 t0 (cellsL l0) (cellsF f0) (msgsC items) (cellsL vals) (nullV (.mk k0 i0 s0 t0 l0 f0)) hg (fun N hN => null_at (.mk k0 i0 s0 t0 l0 f0) N (by omega))
          have hsc := scanP (nIn := 0) (B := 60010) (b := loopAt 10 0) (H := fun j => mkH n a b (sltsC ss) j) (τ := mkH n a b (sltsC ss) 0) (n := ss.length) (e := .exit 0) (fin := ⟨[(2, .ptr 0 0 0), (3, .ptr 1 0 0), (6, nat (sltsC ss).length), (47, boolX false)], [.var n.cells, .var [num a, num b, .sl false 10 (sltsC ss)]]⟩)
            (fun j => badT (ss.getD j dSlt)) (fun j => mkR n a b (sltsC ss) (ss.getD j dSlt).cells) (fun j => mkN n a b (sltsC ss) j (ss.getD j dSlt).cells) (by kernel_rfl)
            (fun j hj hP => by
              rw [hget j hj] at hP ⊢
              exact (hround j hj).1 hP)
            (fun j hj hP => by
              rw [hget j hj] at hP ⊢
              refine ⟨?_, (hround j hj).2 hP⟩
              generalize ss[j] = x
              obtain ⟨⟨k0, i0, s0, t0, l0, f0⟩, n0, d0, items, vals⟩ := x
              kernel_rfl)
            (fun M _ => by
              have := mc_end n a b (sltsC ss) M
              rw [hn] at this ⊢; exact this) (by simp)
          rcases hsc with ⟨j, hj, hP, _, h⟩ | ⟨hall, h⟩
          · rw [hget j hj] at hP
            have hf : (ss.all fun x => !badT x) = false := by
              rw [List.all_eq_false]
              exact ⟨ss[j], List.getElem_mem hj, by simp [hP]⟩
            rw [hf]
            have h := h M (by omega) (by omega)
            generalize (ss.getD j dSlt).cells = z at h
            exact pure_of [(12, .b false), (19, .p (num c)), (21, .b false), (25, .b true), (28, .b false), (33, .b false)] [(.ret, mkR n a b (sltsC ss) z)] (pf7 k3 hc h1 k1 h2 h3 h) (x := num 10) (bx := []) (by kernel_rfl) rfl
          · have hf : (ss.all fun x => !badT x) = true := by
              rw [List.all_eq_true]
              intro x hx
              obtain ⟨j, hj, rfl⟩ := List.mem_iff_getElem.1 hx
              have := hall j hj
              rw [hget j hj] at this
              simp [this]
            rw [hf]
            exact pure_of [(12, .b false), (19, .p (num c)), (21, .b false), (25, .b true), (28, .b false), (33, .b false)] [(.exit 0, ⟨[(2, .ptr 0 0 0), (3, .ptr 1 0 0), (6, nat (sltsC ss).length), (47, boolX false)], [.var n.cells, .var [num a, num b, .sl false 10 (sltsC ss)]]⟩)] (pf7 k3 hc h1 k1 h2 h3 (h M (by omega) (by omega))) (x := num 0) (bx := []) (by kernel_rfl) rfl
  · rw [if_neg hk]
    have k1 : (n.kind == 7) = false := by simp [hk]
    have k3 : (n.kind != 7) = true := by simp [hk]
    by_cases hk8 : n.kind = 8
    · have k2 : (n.kind == 8) = true := by simp [hk8]
      have k4 : (n.kind != 8) = false := by simp [hk8]
      rw [if_pos hk8]
      cases h1 : (c != 0) with
      | true =>
        rw [if_pos (by simpa using h1)]
        exact pure_of [(12, .b true), (16, .b false), (19, .p (num c)), (21, .b true)] [] (pf4 k3 k4 hc h1) (x := num c) (bx := []) (by kernel_rfl) rfl
      | false =>
        rw [if_neg (by simpa using h1)]
        obtain ⟨a, b, ss⟩ := s
        dsimp only at hl
        have hn := sltsC_length ss
        unfold delayedS
        dsimp only
        cases h2 : (!(a == 0)) with
        | true => exact pure_of [(12, .b true), (16, .b false), (19, .p (num c)), (21, .b false), (25, .b false), (37, .b true)] [] (pf6 k3 k4 hc h1 k1 h2) (x := num 10) (bx := []) (by kernel_rfl) rfl
        | false =>
          cases h3 : (!(b == 0)) with
          | true => exact pure_of [(12, .b true), (16, .b false), (19, .p (num c)), (21, .b false), (25, .b false), (37, .b false), (41, .b true)] [] (pf7 k3 k4 hc h1 k1 h2 h3) (x := num 10) (bx := []) (by kernel_rfl) rfl
          | false =>
            have hget : ∀ j (h : j < ss.length), ss.getD j dSlt = ss[j] := fun j h => by simp [List.getD, h]
            have hround : ∀ j (h : j < ss.length), (badD ss[j] = true → ∀ M, 60010 ≤ M → run (callF tab ext M) 0 M (loopAt 10 0) (mkH n a b (sltsC ss) j) = some (.ret, mkR n a b (sltsC ss) ss[j].cells)) ∧ (badD ss[j] = false → ∀ M, 60010 ≤ M → run (callF tab ext M) 0 M (loopAt 10 0) (mkH n a b (sltsC ss) j) = some (.norm, mkN n a b (sltsC ss) j ss[j].cells)) := fun j h => by
              have hg := sltsC_get h
              generalize ss[j] = x at hg
              obtain ⟨⟨k0, i0, s0, t0, l0, f0⟩, n0, d0, items, vals⟩ := x
              have := mc8 n k2 k1 a b (sltsC ss) j (by omega) (by omega) k0 i0 s0 d0 n0 t0 (cellsL l0) (cellsF f0) (msgsC items) (cellsL vals) (nullV (.mk k0 i0 s0 t0 l0 f0)) hg (fun N hN => null_at (.mk k0 i0 s0 t0 l0 f0) N (by omega))
              have e : badD ⟨.mk k0 i0 s0 t0 l0 f0, n0, d0, items, vals⟩ = ((Int.ofNat (msgsC items).length == 0) || ((!(k0 == 2)) || ((!decide (i0 > 0)) || ((!(i0 == d0)) || ((n0 != 0) || decide (Int.ofNat (cellsL vals).length > 0)))))) := by
                have e1 : decide (i0 < 1) = (!decide (i0 > 0)) := by
                  by_cases h : i0 < 1
                  · rw [decide_eq_true h, decide_eq_false (by omega)]; rfl
                  · rw [decide_eq_false h, decide_eq_true (by omega)]; rfl
                unfold badD
                dsimp only
                rw [e1]; rfl
              rw [e]
              exact this
            have hsc := scanP (nIn := 0) (B := 60010) (b := loopAt 10 0) (H := fun j => mkH n a b (sltsC ss) j) (τ := mkH n a b (sltsC ss) 0) (n := ss.length) (e := .exit 0) (fin := ⟨[(2, .ptr 0 0 0), (3, .ptr 1 0 0), (6, nat (sltsC ss).length), (47, boolX false)], [.var n.cells, .var [num a, num b, .sl false 10 (sltsC ss)]]⟩)
              (fun j => badD (ss.getD j dSlt)) (fun j => mkR n a b (sltsC ss) (ss.getD j dSlt).cells) (fun j => mkN n a b (sltsC ss) j (ss.getD j dSlt).cells) (by kernel_rfl)
              (fun j hj hP => by
                rw [hget j hj] at hP ⊢
                exact (hround j hj).1 hP)
              (fun j hj hP => by
                rw [hget j hj] at hP ⊢
                refine ⟨?_, (hround j hj).2 hP⟩
                generalize ss[j] = x
                obtain ⟨⟨k0, i0, s0, t0, l0, f0⟩, n0, d0, items, vals⟩ := x
                kernel_rfl)
              (fun M _ => by
                have := mc_end n a b (sltsC ss) M
                rw [hn] at this ⊢; exact this) (by simp)
            rcases hsc with ⟨j, hj, hP, _, h⟩ | ⟨hall, h⟩
            · rw [hget j hj] at hP
              have hf : (ss.all fun x => !badD x) = false := by
                rw [List.all_eq_false]
                exact ⟨ss[j], List.getElem_mem hj, by simp [hP]⟩
              rw [hf]
              have h := h M (by omega) (by omega)
              generalize (ss.getD j dSlt).cells = z at h
              exact pure_of [(12, .b true), (16, .b false), (19, .p (num c)), (21, .b false), (25, .b false), (37, .b false), (41, .b false)] [(.ret, mkR n a b (sltsC ss) z)] (pf8 k3 k4 hc h1 k1 h2 h3 h) (x := num 10) (bx := []) (by kernel_rfl) rfl
            · have hf : (ss.all fun x => !badD x) = true := by
                rw [List.all_eq_true]
                intro x hx
                obtain ⟨j, hj, rfl⟩ := List.mem_iff_getElem.1 hx
                have := hall j hj
                rw [hget j hj] at this
                simp [this]
              rw [hf]
              exact pure_of [(12, .b true), (16, .b false), (19, .p (num c)), (21, .b false), (25, .b false), (37, .b false), (41, .b false)] [(.exit 0, ⟨[(2, .ptr 0 0 0), (3, .ptr 1 0 0), (6, nat (sltsC ss).length), (47, boolX false)], [.var n.cells, .var [num a, num b, .sl false 10 (sltsC ss)]]⟩)] (pf8 k3 k4 hc h1 k1 h2 h3 (h M (by omega) (by omega))) (x := num 0) (bx := []) (by kernel_rfl) rfl
    · have k4 : (n.kind != 8) = true := by simp [hk8]
      rw [if_neg hk8]
      exact pure_of [(12, .b true), (16, .b true)] [] (pf2 k3 k4) (x := num 11) (bx := []) (by kernel_rfl) rfl

theorem check_pure (n : Nod) (s : Stt) (hs : s.small) (c : Int) (hc : ∀ N, 190060 ≤ N → Gam.pureD (callF tab ext N) 27 [.agg s.cells] = some (num c)) (N : Nat) (hN : 190070 ≤ N) : Gam.pureD (callF tab ext N) 14 [.agg n.cells, .agg s.cells] = some (num (checkF n s c)) := by
  obtain ⟨M, rfl⟩ : ∃ M, N = M + 1 := ⟨N - 1, by omega⟩
  have hc := hc M (by omega)
  have hr := right_pure s hs.ok M (by omega)
  have hd := delayed_pure s hs.ok M (by omega)
  unfold checkF
  generalize rightS s = p at hr ⊢
  generalize delayedS s = q at hd ⊢
  by_cases hk : n.kind = 7
  · have k1 : (n.kind == 7) = true := by simp [hk]
    have k2 : (n.kind == 8) = false := by simp [hk]
    have k3 : (!(n.kind == 7)) = false := by simp [hk]
    rw [if_pos hk]
    cases h1 : (c != 0) with
    | true =>
      rw [if_pos (by simpa using h1)]
      exact pure_of [(8, .b false), (15, .p (num c)), (17, .b true)] [] (pf3 k3 hc h1) (x := num c) (bx := []) (by kernel_rfl) rfl
    | false =>
      rw [if_neg (by simpa using h1)]
      cases p with
      | true => exact pure_of [(8, .b false), (15, .p (num c)), (17, .b false), (21, .b true), (24, .p (boolX true)), (30, .b false)] [] (pf6 k3 hc h1 k1 hr k2) (x := num (0)) (bx := []) (by kernel_rfl) rfl
      | false => exact pure_of [(8, .b false), (15, .p (num c)), (17, .b false), (21, .b true), (24, .p (boolX false))] [] (pf5 k3 hc h1 k1 hr) (x := num (10)) (bx := []) (by kernel_rfl) rfl
  · have k1 : (n.kind == 7) = false := by simp [hk]
    have k3 : (!(n.kind == 7)) = true := by simp [hk]
    rw [if_neg hk]
    by_cases hk8 : n.kind = 8
    · have k2 : (n.kind == 8) = true := by simp [hk8]
      have k4 : (!(n.kind == 8)) = false := by simp [hk8]
      rw [if_pos hk8]
      cases h1 : (c != 0) with
      | true =>
        rw [if_pos (by simpa using h1)]
        exact pure_of [(8, .b true), (12, .b false), (15, .p (num c)), (17, .b true)] [] (pf4 k3 k4 hc h1) (x := num c) (bx := []) (by kernel_rfl) rfl
      | false =>
        rw [if_neg (by simpa using h1)]
        cases q with
        | true => exact pure_of [(8, .b true), (12, .b false), (15, .p (num c)), (17, .b false), (21, .b false), (30, .b true), (33, .p (boolX true))] [] (pf7 k3 k4 hc h1 k1 k2 hd) (x := num (0)) (bx := []) (by kernel_rfl) rfl
        | false => exact pure_of [(8, .b true), (12, .b false), (15, .p (num c)), (17, .b false), (21, .b false), (30, .b true), (33, .p (boolX false))] [] (pf7 k3 k4 hc h1 k1 k2 hd) (x := num (10)) (bx := []) (by kernel_rfl) rfl
    · have k4 : (!(n.kind == 8)) = true := by simp [hk8]
      rw [if_neg hk8]
      exact pure_of [(8, .b true), (12, .b true)] [] (pf2 k3 k4) (x := num (11)) (bx := []) (by kernel_rfl) rfl
theorem known_at (N : Nat) : Gam.pureD (callF tab ext (N + 400)) 9 [] = some (boolX true) := by kernel_rfl
end Go.Proofs.YtjfheahakfoofaaGreatDoor

/- The document's step of a throttle as a whole. -/
namespace Go.Proofs.YtjfheahakfoofaaGreatDoor
open Go.Em
section
variable {a b c d e f g h i j k l m n o p : Prop}
end
theorem ftesB_succ (bb : Bool) (nm : ByteArray) (b : Stp) (ms : List Msg) (m : Nat) : ftesB bb (fatesF nm b ms (m + 1)) = ftesB bb (fatesF nm b ms m) ++ [(fateM nm b (ms.getD m dM) m).cellsB bb] := by simp [fatesF, ftesB, List.range_succ]
theorem fatesB_length (bb : Bool) (nm : ByteArray) (b : Stp) (ms : List Msg) (m : Nat) : (ftesB bb (fatesF nm b ms m)).length = m := by simp [fatesF, ftesB]
theorem mreleased_pure (M : Nat) (hM : 190020 ≤ M) (n : Nod) (x0 y0 : Int) (rest : List (List X)) (i : Inp) (hi : i.ok) (ms : List Msg) (hms : ∀ m, m ∈ ms → m.ok) (hl : ms.length < 4000) :
    callF tab ext (M + 1) (.fn 50) [.agg n.cells, .agg [num x0, num y0, .sl false 10 rest, .sl true 11 [], .sl true 11 [], .sl true 6 [], .sl true 10 []], .agg i.cells, .sl false 10 (msgsC ms)] []
      = some (.agg [num x0, num y0, .sl false 10 rest, .bs 0 0 ms.length, .sl true 11 [], .bs 1 0 ms.length, .sl true 10 []], [.row 11 (otpsC (outsF i.st ms ms.length)), .row 6 (ftesB true (fatesF n.name i.st ms ms.length))]) := by
  have hn := msgsC_length ms
  have hloop : run (callF tab ext M) 0 M (.loop (loopAt 50 0)) (rdH n x0 y0 false rest [] [] (msgsC ms) i.cells 0 0) = some (.exit 0, rdE n x0 y0 false rest (otpsC (outsF i.st ms ms.length)) (ftesB true (fatesF n.name i.st ms ms.length)) (msgsC ms) i.cells ms.length ms.length) := by
    refine loop_for (σ := fun j => rdH n x0 y0 false rest (otpsC (outsF i.st ms j)) (ftesB true (fatesF n.name i.st ms j)) (msgsC ms) i.cells j j) (k := ms.length) ?_ (fun j hj => ?_) ?_ (by simp) (by omega)
    · rw [inX_cells]
      obtain ⟨kd, tm, ⟨se, sp⟩, ⟨⟨ie, ip⟩, ims, io, ⟨g1, g2, g3, g4, g5, g6⟩⟩, x, b1, b2, ⟨c1, c2, c3, c4, c5, c6⟩⟩ := i
      exact rd_canon ..
    · have h := rd_round M (by omega) n x0 y0 false rest (otpsC (outsF i.st ms j)) (ftesB true (fatesF n.name i.st ms j)) (msgsC ms) j j i hi (ms.getD j dM) (hms _ (getD_mem hj)) (msgs_getD hj) (by omega) (by omega) (outsF_length _ _ _) (fatesB_length _ _ _ _ _) (by omega)
      rw [← outsF_succ, ← ftesB_succ] at h
      exact h
    · generalize otpsC (outsF i.st ms ms.length) = o1
      generalize ftesB true (fatesF n.name i.st ms ms.length) = f1
      rw [← hn]
      exact run_of [(14, .b false)] [] (pf1 (nlt_nat (j := (msgsC ms).length) (k := (msgsC ms).length) (Nat.lt_irrefl _))) (lo' := []) (by kernel_rfl)
  generalize otpsC (outsF i.st ms ms.length) = o1 at hloop ⊢
  generalize ftesB true (fatesF n.name i.st ms ms.length) = f1 at hloop ⊢
  generalize ms.length = k at hloop ⊢
  rw [inX_cells] at hloop ⊢
  obtain ⟨kd, tm, ⟨se, sp⟩, ⟨⟨ie, ip⟩, ims, io, ⟨g1, g2, g3, g4, g5, g6⟩⟩, x, b1, b2, ⟨c1, c2, c3, c4, c5, c6⟩⟩ := i
  exact callF_of [] [(.exit 0, rdE n x0 y0 false rest o1 f1 (msgsC ms) (inX se kd tm (intsC sp) ie (intsC ip) ims (intsC io) g1 g2 g3 g4 (cellsL g5) (cellsF g6) x b1 b2 c1 c2 c3 c4 (cellsL c5) (cellsF c6)) k k)] (pf1 hloop) (by kernel_rfl)

end Go.Proofs.YtjfheahakfoofaaGreatDoor

/- The arguments of the laws, cut; nodes by their cells. -/
namespace Go.Proofs.YtjfheahakfoofaaGreatDoor
open Go.Em

/-- The cells of a node whose parts are looked at to the depth of layer 31. -/
def isNode (c : List X) : Prop := ∃ (name : ByteArray) (k1 k2 k3 k4 k5 k6 : Int) (text : ByteArray) (T : List X) (ty ex ru ca ne : List (List X)), c = [strX name, num k1, num k2, num k3, num k4, num k5, num k6, strX text] ++ (T ++ [.sl false 7 ty, .sl false 5 ex, .sl false 6 ru, .sl false 2 ca, .sl false 1 ne]) ∧ isTyp 3 T ∧ (∀ x, x ∈ ty → isTyp 3 x) ∧ (∀ x, x ∈ ex → isExp 3 x) ∧ (∀ x, x ∈ ru → isRule x) ∧ ∀ x, x ∈ ca → isCall x
theorem node_of {c : List X} (h : isNode c) : ∃ nd nd' : Nod, c = nd.cells ∧ ∀ N, 220 ≤ N → Gam.pureD (callF tab ext N) 19 [.agg nd.cells] = some (.agg nd'.cells) := by
  obtain ⟨name, k1, k2, k3, k4, k5, k6, text, T, ty, ex, ru, ca, ne, rfl, hT, hty, hex, hru, hca⟩ := h
  obtain ⟨a, b, c, d, w, e, f, a', b', c', d', w', e', f', ty', ex', ru', ca', ne', rfl, hc⟩ := short_node name text k1 k2 k3 k4 k5 k6 T ty ex ru ca ne hT hty hex hru hca
  exact ⟨⟨name, k1, k2, k3, k4, k5, k6, text, (a, b, c, d), w, e, f, ty, ex, ca, ru, ne⟩, ⟨cutT 60 name, k1, k2, k3, k4, k5, k6, cutT 60 text, (a', b', c', d'), w', e', f', ty', ex', ca', ru', ne'⟩, rfl, hc⟩
theorem given_pure (nd nd' : Nod) (hn : ∀ N, 220 ≤ N → Gam.pureD (callF tab ext N) 19 [.agg nd.cells] = some (.agg nd'.cells)) (s : Stt) (i : Inp) (N : Nat) (hN : 230 ≤ N) : Gam.pureD (callF tab ext N) 8 [.agg nd.cells, .agg s.cells, .agg i.cells] = some (.tup [.agg nd'.cells, .agg (shortS s).cells, .agg (shortN i).cells]) := by
  obtain ⟨M, rfl⟩ : ∃ M, N = M + 1 := ⟨N - 1, by omega⟩
  have h1 := hn M (by omega)
  have h2 := short_state s M (by omega)
  have h3 := short_inp i M (by omega)
  generalize shortS s = s' at h2 ⊢
  generalize shortN i = i' at h3 ⊢
  rw [inX_cells] at h3 ⊢
  rw [inX_cells i'] at h3 ⊢
  obtain ⟨kd, tm, ⟨se, sp⟩, ⟨⟨e, p⟩, ms, o, ⟨a1, a2, a3, a4, a5, a6⟩⟩, x, b1, b2, ⟨c1, c2, c3, c4, c5, c6⟩⟩ := i
  obtain ⟨kd', tm', ⟨se', sp'⟩, ⟨⟨e', p'⟩, ms', o', ⟨g1, g2, g3, g4, g5, g6⟩⟩, x', d1, d2, ⟨f1, f2, f3, f4, f5, f6⟩⟩ := i'
  exact pure_of [(10, .p (.agg nd'.cells)), (12, .p (.agg s'.cells)), (14, .p (.agg (inX se' kd' tm' (intsC sp') e' (intsC p') ms' (intsC o') g1 g2 g3 g4 (cellsL g5) (cellsF g6) x' d1 d2 f1 f2 f3 f4 (cellsL f5) (cellsF f6))))] [] (pf3 h1 h2 h3)
    (x := .tup [.agg nd'.cells, .agg s'.cells, .agg (inX se' kd' tm' (intsC sp') e' (intsC p') ms' (intsC o') g1 g2 g3 g4 (cellsL g5) (cellsF g6) x' d1 d2 f1 f2 f3 f4 (cellsL f5) (cellsF f6))]) (bx := []) (by kernel_rfl) rfl

/-! ### Sizes of outcomes -/
theorem childF_ok {s : Stp} (h : s.p.length ≤ 100) (k : Nat) : (childF s k).ok := ⟨by show (s.p ++ [Int.ofNat k]).length ≤ 60000; simp; omega⟩
theorem outsF_ok {b : Stp} (hb : b.p.length ≤ 100) {ms : List Msg} (hms : ∀ m, m ∈ ms → m.ok) {k : Nat} (hk : k ≤ ms.length) : ∀ x, x ∈ outsF b ms k → x.m.ok := by
  intro x hx
  obtain ⟨i, hi, rfl⟩ := List.mem_map.1 hx
  have := hms _ (getD_mem (ms := ms) (j := i) (by have := List.mem_range.1 hi; omega))
  exact ⟨childF_ok hb i, this.orig, this.body⟩
theorem fatesF_ok {nm : ByteArray} {b : Stp} (hb : b.p.length ≤ 100) {ms : List Msg} (hms : ∀ m, m ∈ ms → m.ok) {k : Nat} (hk : k ≤ ms.length) : ∀ x, x ∈ fatesF nm b ms k → x.ok := by
  intro x hx
  obtain ⟨i, hi, rfl⟩ := List.mem_map.1 hx
  have := hms _ (getD_mem (ms := ms) (j := i) (by have := List.mem_range.1 hi; omega))
  exact ⟨this.st, by show [childF b i].length ≤ 60000; simp, fun s hs => by rw [List.mem_singleton.1 hs]; exact childF_ok hb i⟩
theorem nilP {α : Type} (p : α → Prop) : ([] : List α).length ≤ 60000 ∧ ∀ x, x ∈ ([] : List α) → p x := ⟨by simp, fun x hx => by cases hx⟩
theorem oneP {α : Type} (p : α → Prop) {a : α} (h : p a) : [a].length ≤ 60000 ∧ ∀ x, x ∈ [a] → p x := ⟨by simp, fun x hx => by rw [List.mem_singleton.1 hx]; exact h⟩
theorem Ocm.ok_of {s : Stt} {outs : List Otp} {fates : List Fte} {letters : List Msg} (h1 : s.ok) (h2 : outs.length ≤ 60000 ∧ ∀ x, x ∈ outs → x.m.ok) (h3 : fates.length ≤ 60000 ∧ ∀ x, x ∈ fates → x.ok) (h4 : letters.length ≤ 60000 ∧ ∀ x, x ∈ letters → x.ok) : (Ocm.mk s outs fates letters).ok := ⟨h1, h2.1, h2.2, h3.1, h3.2, h4.1, h4.2⟩
theorem plainO_ok {s : Stt} (h : s.ok) : (plainO s).ok := Ocm.ok_of h (nilP _) (nilP _) (nilP _)
theorem rejF_ok {n : Nod} {s : Stt} (hs : s.ok) {m : Msg} (hm : m.ok) : (rejF n s m).ok :=
  Ocm.ok_of hs (nilP _) (oneP _ ⟨hm.st, by simp, fun s hs => by cases hs⟩) (oneP _ hm)
end Go.Proofs.YtjfheahakfoofaaGreatDoor
