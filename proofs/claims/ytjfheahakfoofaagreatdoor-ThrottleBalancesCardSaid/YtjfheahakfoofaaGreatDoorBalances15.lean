/- A step of a throttle; the document's arrival. -/
import Derived.Test.YtjfheahakfoofaaGreatDoorBalances14
namespace Go.Proofs.YtjfheahakfoofaaGreatDoor
open Go.Em

def nowF (i : Inp) : Int := clampF i.time 0 maxTime
/-- How many may leave. -/
def mostF (n : Nod) (s : Stt) (a : Int) : Int := Go.IntKind.i64.wrap (numF n.number - cntF (perF n.time) s.n s.t a)
def plainO (s : Stt) : Ocm := ⟨s, [], [], []⟩
def arrF (n : Nod) (s : Stt) (m : Msg) (a : Int) : Ocm :=
  if (accOf s.slots).length = 0 ∧ cntF (perF n.time) s.n s.t a < numF n.number then ⟨leftF (perF n.time) s a 1, [⟨0, m⟩], [], []⟩
  else if Int.ofNat (accOf s.slots).length < limF n.limit then plainO (addF s m) else rejF n s m
def clkF (n : Nod) (s : Stt) (b : Stp) (a : Int) : Ocm :=
  let k := relN (accOf s.slots) (mostF n s a)
  if k = 0 then plainO s else ⟨restF (leftF (perF n.time) s a (Int.ofNat k)) k, outsF b (accOf s.slots) k, fatesF n.name b (accOf s.slots) k, []⟩
def thrF (n : Nod) (s : Stt) (i : Inp) : Ocm := if i.kind = 1 then arrF n s i.m (nowF i) else if i.kind = 2 then clkF n s i.st (nowF i) else plainO s

structure Inp.ok (i : Inp) : Prop where
  st : i.st.p.length ≤ 100
  m : i.m.ok
theorem shortN_ok (i : Inp) : (shortN i).ok := ⟨by have := cutI_length i.st.p; show (cutI i.st.p).length ≤ 100; omega, shortM_ok i.m⟩
theorem accOf_ok {s : Stt} (hs : s.small) : ∀ m, m ∈ accOf s.slots → m.ok := fun m hm => by
  obtain ⟨x, hx, hm⟩ := List.mem_flatMap.1 hm
  exact (hs.slot x hx).1.item m hm
theorem thr_small {s : Stt} (h : Thr s) (hs : s.small) : (accOf s.slots).length ≤ 100 := by
  have h1 := accOf_length s.slots fun x hx => (hs.slot x hx).2.1
  cases h with
  | none a b => simp [accOf]
  | one a b items vals h => simpa using h1
theorem left_thr {s : Stt} (h : Thr s) (p : Nat) (a k : Int) : Thr (leftF p s a k) := by
  cases h with
  | none => exact .none ..
  | one _ _ items vals h => exact .one _ _ items vals h

theorem thr_pure (N : Nat) (hN : 190060 ≤ N) (n : Nod) (s : Stt) (ht : Thr s) (hs : s.small) (i : Inp) (hi : i.ok) : Gam.pureD (callF tab ext N) 31 [.agg n.cells, .agg s.cells, .agg i.cells] = some (.agg (thrF n s i).cells) := by
  obtain ⟨M, rfl⟩ : ∃ M, N = M + 101 := ⟨N - 101, by omega⟩
  have hm := hi.m
  have hst := hi.st
  have hnow := clamp_pure (M + 99) i.time 0 maxTime
  have hw := waiting_pure s hs (M + 100) (by omega)
  have hcl := clone_msg (M + 100) i.m hm (by omega)
  have hn := number_pure (M + 99) n
  have hlim := limit_pure (M + 98) n
  have hadd := thr_add (M + 100) (by omega) s ht hs i.m hm
  have hrej := reject_pure (M + 99) n s i.m hm (by omega)
  have hl100 := thr_small ht hs
  have hok := accOf_ok hs
  have hnowE : clampF i.time 0 maxTime = nowF i := rfl
  rw [hnowE] at hnow
  have hc := count_pure (M + 96) n s (nowF i)
  have hlf := fun k => left_pure (M + 95) n s (nowF i) k
  have hlen := msgsC_length (accOf s.slots)
  unfold thrF
  generalize nowF i = now at hnow hc hlf ⊢
  obtain ⟨kd, tm, ⟨se, sp⟩, ⟨⟨e, p⟩, ms, o, ⟨a1, a2, a3, a4, a5, a6⟩⟩, x, b1, b2, ⟨c1, c2, c3, c4, c5, c6⟩⟩ := i
  dsimp only at hm hst hnow hcl hadd hrej ⊢
  cases h1 : (kd == 1) with
  | true =>
    rw [if_pos (by simpa using h1)]
    unfold arrF
    have key : (if Int.ofNat (accOf s.slots).length < limF n.limit then plainO (addF s ⟨⟨e, p⟩, ms, o, .mk a1 a2 a3 a4 a5 a6⟩) else rejF n s ⟨⟨e, p⟩, ms, o, .mk a1 a2 a3 a4 a5 a6⟩) = (if decide (Int.ofNat (msgsC (accOf s.slots)).length < limF n.limit) = true then plainO (addF s ⟨⟨e, p⟩, ms, o, .mk a1 a2 a3 a4 a5 a6⟩) else rejF n s ⟨⟨e, p⟩, ms, o, .mk a1 a2 a3 a4 a5 a6⟩) := by
      rw [hlen]; simp only [decide_eq_true_eq]
    rw [key]
    generalize addF s ⟨⟨e, p⟩, ms, o, .mk a1 a2 a3 a4 a5 a6⟩ = s2 at hadd
    generalize rejF n s ⟨⟨e, p⟩, ms, o, .mk a1 a2 a3 a4 a5 a6⟩ = oc at hrej
    have hl1 := hlf 1
    generalize leftF (perF n.time) s now 1 = s1 at hl1
    generalize cntF (perF n.time) s.n s.t now = c at hc
    generalize numF n.number = nf at hn
    generalize limF n.limit = lim at hlim
    cases h2 : (Int.ofNat (msgsC (accOf s.slots)).length == 0) with
    | true =>
      have e0 : (accOf s.slots).length = 0 := by
        have := eq_of_beq h2
        simp only [Int.ofNat_eq_natCast] at this; omega
      cases h3 : decide (c < nf) with
      | true =>
        rw [if_pos ⟨e0, of_decide_eq_true h3⟩]
        exact pure_of [(13, .p (num now)), (15, .p (.sl false 10 (msgsC (accOf s.slots)))), (19, .b true), (23, .b true), (28, .p (num c)), (30, .p (num nf)), (31, .b true), (36, .p (.agg s1.cells)), (39, .p (.agg (Msg.mk ⟨e, p⟩ ms o (.mk a1 a2 a3 a4 a5 a6)).cells))] [] (pf9 hnow hw h1 h2 hc hn h3 hl1 hcl)
          (x := .agg [num s1.n, num s1.t, .sl false 10 (sltsC s1.slots), .sl true 11 [(Otp.mk 0 ⟨⟨e, p⟩, ms, o, .mk a1 a2 a3 a4 a5 a6⟩).cells], .sl true 11 [], .sl true 6 [], .sl true 10 []]) (bx := []) (by kernel_rfl) rfl
      | false =>
        rw [if_neg fun h => of_decide_eq_false h3 h.2]
        cases h4 : decide (Int.ofNat (msgsC (accOf s.slots)).length < lim) with
        | true =>
          exact pure_of [(13, .p (num now)), (15, .p (.sl false 10 (msgsC (accOf s.slots)))), (19, .b true), (23, .b true), (28, .p (num c)), (30, .p (num nf)), (31, .b false), (47, .p (num lim)), (48, .b true), (53, .p (.agg s2.cells))] [] (pf10 hnow hw h1 h2 hc hn h3 hlim h4 hadd)
            (x := .agg [num s2.n, num s2.t, .sl false 10 (sltsC s2.slots), .sl true 11 [], .sl true 11 [], .sl true 6 [], .sl true 10 []]) (bx := []) (by kernel_rfl) rfl
        | false =>
          exact pure_of [(13, .p (num now)), (15, .p (.sl false 10 (msgsC (accOf s.slots)))), (19, .b true), (23, .b true), (28, .p (num c)), (30, .p (num nf)), (31, .b false), (47, .p (num lim)), (48, .b false), (59, .p (.agg oc.cells))] [] (pf10 hnow hw h1 h2 hc hn h3 hlim h4 hrej)
            (x := .agg oc.cells) (bx := []) (by kernel_rfl) rfl
    | false =>
      have e0 : (accOf s.slots).length ≠ 0 := fun e => by
        rw [hlen, e] at h2; exact absurd h2 (by decide)
      rw [if_neg fun h => e0 h.1]
      cases h4 : decide (Int.ofNat (msgsC (accOf s.slots)).length < lim) with
      | true =>
        exact pure_of [(13, .p (num now)), (15, .p (.sl false 10 (msgsC (accOf s.slots)))), (19, .b true), (23, .b false), (47, .p (num lim)), (48, .b true), (53, .p (.agg s2.cells))] [] (pf7 hnow hw h1 h2 hlim h4 hadd)
          (x := .agg [num s2.n, num s2.t, .sl false 10 (sltsC s2.slots), .sl true 11 [], .sl true 11 [], .sl true 6 [], .sl true 10 []]) (bx := []) (by kernel_rfl) rfl
      | false =>
        exact pure_of [(13, .p (num now)), (15, .p (.sl false 10 (msgsC (accOf s.slots)))), (19, .b true), (23, .b false), (47, .p (num lim)), (48, .b false), (59, .p (.agg oc.cells))] [] (pf7 hnow hw h1 h2 hlim h4 hrej)
          (x := .agg oc.cells) (bx := []) (by kernel_rfl) rfl
  | false =>
    rw [if_neg (by simpa using h1)]
    cases h6 : (kd == 2) with
    | true =>
      rw [if_pos (by simpa using h6)]
      have hz := fun h => release_zero (M + 98) n 0 0 true [] (accOf s.slots) (mostF n s now) ⟨se, sp⟩ (by omega) (by dsimp only at hst ⊢; omega) hok (by omega) h
      have hnz := fun h => release_some (M + 98) n 0 0 true [] (accOf s.slots) (mostF n s now) ⟨se, sp⟩ (by omega) (by dsimp only at hst ⊢; omega) hok (by omega) h
      unfold clkF
      dsimp only
      have hle : relN (accOf s.slots) (mostF n s now) ≤ (accOf s.slots).length := Nat.min_le_left _ _
      generalize relN (accOf s.slots) (mostF n s now) = k at hz hnz hle ⊢
      unfold mostF at hz hnz
      by_cases hk : k = 0
      · rw [if_pos hk]
        have hr := hz hk
        generalize cntF (perF n.time) s.n s.t now = c at hc hr
        generalize numF n.number = nf at hn hr
        exact pure_of [(13, .p (num now)), (15, .p (.sl false 10 (msgsC (accOf s.slots)))), (19, .b false), (61, .b true), (68, .p (num nf)), (72, .p (num c)), (74, .r (num 0) [.var (out0 0 0 true [])])] [] (pf7 hnow hw h1 h6 hn hc hr)
          (x := .agg [num s.n, num s.t, .sl false 10 (sltsC s.slots), .sl true 11 [], .sl true 11 [], .sl true 6 [], .sl true 10 []]) (bx := []) (by kernel_rfl) rfl
      · rw [if_neg hk]
        have hr := hnz hk
        have hl1 := hlf (Int.ofNat k)
        have hwo : Gam.pureD (callF tab ext (M + 100)) 76 [.agg (leftF (perF n.time) s now (Int.ofNat k)).cells, nat k] = some (.agg (restF (leftF (perF n.time) s now (Int.ofNat k)) k).cells) := by
          cases ht with
          | none a b => simp [accOf] at hle; omega
          | one a b items vals h =>
            have e1 : (accOf [⟨nulV, 0, 0, items, vals⟩]).length = items.length := by simp [accOf]
            rw [e1] at hle
            obtain ⟨Q, hQ⟩ : ∃ Q, M + 100 = Q + 101 := ⟨M - 1, by omega⟩
            rw [hQ]
            exact without_pure Q _ _ items vals k (by omega) hle (by dsimp only at hl100; omega)
        have ho := outsF_length ⟨se, sp⟩ (accOf s.slots) k
        have hf := fatesF_length n.name ⟨se, sp⟩ (accOf s.slots) k
        generalize leftF (perF n.time) s now (Int.ofNat k) = s1 at hl1 hwo ⊢
        generalize restF s1 k = s2 at hwo ⊢
        generalize cntF (perF n.time) s.n s.t now = c at hc hr
        generalize numF n.number = nf at hn hr
        generalize outsF ⟨se, sp⟩ (accOf s.slots) k = os at hr ho ⊢
        generalize fatesF n.name ⟨se, sp⟩ (accOf s.slots) k = fs at hr hf ⊢
        have hd : (X.agg [num s2.n, num s2.t, .sl false 10 (sltsC s2.slots), .bs 0 0 k, .sl true 11 [], .bs 1 0 k, .sl true 10 []]).data [.row 11 (otpsC os), .row 6 (ftesC fs)] false = some (.agg (Ocm.mk s2 os fs []).cells) := by
          subst ho
          simp [X.data, dataL, rowOf, num, Ocm.cells, hf, msgsC]
          rw [List.take_of_length_le (Nat.le_of_eq hf)]
        exact pure_of [(13, .p (num now)), (15, .p (.sl false 10 (msgsC (accOf s.slots)))), (19, .b false), (61, .b true), (68, .p (num nf)), (72, .p (num c)), (74, .r (nat k) [.var (outJ 0 0 true [] 1 2 k), .row 11 (otpsC os), .row 6 (ftesC fs)]), (78, .b true), (83, .p (.agg s1.cells)), (85, .p (.agg s2.cells))] [] (pf10 hnow hw h1 h6 hn hc hr (gt_nat (j := k) (k := 0) (by omega)) hl1 hwo)
          (x := .agg [num s2.n, num s2.t, .sl false 10 (sltsC s2.slots), .bs 0 0 k, .sl true 11 [], .bs 1 0 k, .sl true 10 []]) (bx := [.row 11 (otpsC os), .row 6 (ftesC fs)]) (by kernel_rfl) hd
    | false =>
      rw [if_neg (by simpa using h6)]
      exact pure_of [(13, .p (num now)), (15, .p (.sl false 10 (msgsC (accOf s.slots)))), (19, .b false), (61, .b false)] [] (pf4 hnow hw h1 h6)
        (x := .agg [num s.n, num s.t, .sl false 10 (sltsC s.slots), .sl true 11 [], .sl true 11 [], .sl true 6 [], .sl true 10 []]) (bx := []) (by kernel_rfl) rfl
theorem step_thr (N : Nat) (hN : 190070 ≤ N) (n : Nod) (hk : n.kind ≠ 8) (s : Stt) (ht : Thr s) (hs : s.small) (i : Inp) (hi : i.ok) : Gam.pureD (callF tab ext N) 11 [.agg n.cells, .agg s.cells, .agg i.cells] = some (.agg (thrF n s i).cells) := by
  obtain ⟨M, rfl⟩ : ∃ M, N = M + 1 := ⟨N - 1, by omega⟩
  have hcl := clone_state_pure M s hs.ok (by omega)
  have h := thr_pure M (by omega) n s ht hs i hi
  have h1 : (n.kind == 8) = false := by simpa using hk
  generalize thrF n s i = oc at h
  obtain ⟨kd, tm, ⟨se, sp⟩, ⟨⟨e, p⟩, ms, o, ⟨a1, a2, a3, a4, a5, a6⟩⟩, x, b1, b2, ⟨c1, c2, c3, c4, c5, c6⟩⟩ := i
  exact pure_of [(8, .p (.agg s.cells)), (11, .b false), (19, .p (.agg oc.cells))] [] (pf3 hcl h1 h) (x := .agg oc.cells) (bx := []) (by kernel_rfl) rfl
end Go.Proofs.YtjfheahakfoofaaGreatDoor

/- The document's step of a throttle. -/
namespace Go.Proofs.YtjfheahakfoofaaGreatDoor
open Go.Em

/-! ### put -/
theorem mput_thr (N : Nat) (hN : 190060 ≤ N) (s : Stt) (ht : Thr s) (hs : s.small) (m : Msg) (hm : m.ok) : Gam.pureD (callF tab ext N) 48 [.agg s.cells, .agg zK, num 0, .agg m.cells] = some (.agg (addF s m).cells) := by
  obtain ⟨M, rfl⟩ : ∃ M, N = M + 101 := ⟨N - 101, by omega⟩
  cases ht with
  | none a b =>
    have hp := put_none (M + 100) (by omega) a b ⟨nulV, 0, 0, [m], []⟩ rfl ⟨by unfold Val.ok nulV; simp [Val.size, sizeL, sizeF], by simp, fun z hz => by rw [List.mem_singleton.1 hz]; exact hm, by simp, fun z hz => by cases hz⟩
    have e2 : addF ⟨a, b, []⟩ m = Stt.mk a b [⟨nulV, 0, 0, [m], []⟩] := rfl
    rw [e2]
    obtain ⟨⟨e, p⟩, ms, o, ⟨a1, a2, a3, a4, a5, a6⟩⟩ := m
    exact pure_of [(51, .p (.tup [.agg (Stt.mk a b [⟨nulV, 0, 0, [⟨⟨e, p⟩, ms, o, .mk a1 a2 a3 a4 a5 a6⟩], []⟩]).cells, num 0]))] [] (pf1 hp) (x := .agg (Stt.mk a b [⟨nulV, 0, 0, [⟨⟨e, p⟩, ms, o, .mk a1 a2 a3 a4 a5 a6⟩], []⟩]).cells) (bx := []) (by kernel_rfl) rfl
  | one a b items vals h =>
    obtain ⟨hx, hi, hv⟩ := hs.slot ⟨nulV, 0, 0, items, vals⟩ (by simp)
    dsimp only at hi hv
    have hok2 : (Slt.mk nulV 0 0 (items ++ [m]) vals).ok := ⟨hx.key, by show (items ++ [m]).length ≤ 60000; simp; omega, fun z hz => by
      rcases List.mem_append.1 hz with hz | hz
      · exact hx.item z hz
      · rw [List.mem_singleton.1 hz]; exact hm, hx.vals, hx.val⟩
    have hp := put_one (M + 100) (by omega) a b ⟨nulV, 0, 0, items, vals⟩ ⟨nulV, 0, 0, items ++ [m], vals⟩ rfl rfl hx hok2
    have hn := msgsC_length items
    have e1 : (Slt.mk nulV 0 0 (items ++ [m]) vals).cells = slotC 0 0 0 ⟨#[]⟩ [] [] 0 0 ((msgsC items ++ [m.cells]).take (0 + (msgsC items).length + 1)) (cellsL vals) := by
      rw [List.take_of_length_le (by simp), ← msgsC_snoc]; rfl
    rw [e1] at hp
    have e2 : addF ⟨a, b, [⟨nulV, 0, 0, items, vals⟩]⟩ m = Stt.mk a b [⟨nulV, 0, 0, items ++ [m], vals⟩] := rfl
    rw [e2]
    have hne : (msgsC items).isEmpty = false := by
      cases items with
      | nil => exact absurd rfl h
      | cons => rfl
    obtain ⟨⟨e, p⟩, ms, o, ⟨a1, a2, a3, a4, a5, a6⟩⟩ := m
    generalize (Stt.mk a b [⟨nulV, 0, 0, items ++ [⟨⟨e, p⟩, ms, o, .mk a1 a2 a3 a4 a5 a6⟩], vals⟩]) = s' at hp
    exact pure_of [(43, .fresh), (46, .app), (51, .p (.tup [.agg s'.cells, num 0]))] []
      (pf4 (show (msgsC items).isEmpty = false ∧ roomOk (([] : List (List X)).length + (msgsC items).length) 152 = true from ⟨hne, room_of (by simp only [List.length_nil]; omega) (by simp only [List.length_nil]; omega)⟩)
        (show 0 + (0 + (msgsC items).length) = (msgsC items).length ∧ roomOk (0 + (msgsC items).length + 1) 152 = true ∧ memN 5 [] = false from ⟨by omega, room_of (by omega) (by omega), rfl⟩) (show 0 + (0 + (msgsC items).length + 1) ≤ (msgsC items ++ [(Msg.mk ⟨e, p⟩ ms o (.mk a1 a2 a3 a4 a5 a6)).cells]).length by simp) hp)
      (x := .agg s'.cells) (bx := []) (by kernel_rfl) rfl

/-! ### released -/
section
variable (n : Nod) (x0 y0 : Int) (tt : Bool) (rest outs fates l ic : List (List X)) (ix : List X) (q j : Nat) (se : Int) (sp p : List (List X)) (i1 i2 : X)
def zOut : List X := [num 0, num 0, .sl true 10 [], .sl true 11 [], .sl true 11 [], .sl true 6 [], .sl true 10 []]
def rdH : St := ⟨[(3, .sl false 10 l), (4, .ptr 0 0 0), (5, .ptr 1 0 0), (6, .ptr 2 0 0), (8, .ptr 3 0 0), (9, nat j)], [.var n.cells, .var [num x0, num y0, .sl tt 10 rest, .bs 4 0 q, .sl true 11 [], .bs 5 0 q, .sl true 10 []], .var ix, .var zOut, .row 11 outs, .row 6 fates]⟩
def rdN : St := ⟨[(3, .sl false 10 l), (4, .ptr 0 0 0), (5, .ptr 1 0 0), (6, .ptr 2 0 0), (8, .ptr 3 0 0), (9, nat (j + 1))], [.var n.cells, .var [num x0, num y0, .sl tt 10 rest, .bs 9 0 (q + 1), .sl true 11 [], .bs 10 0 (q + 1), .sl true 10 []], .var ix, .var zOut, .dead, .dead, .var [num se, .sl false 1 p], .dead, .dead, .row 11 outs, .row 6 fates]⟩
def rdN0 : St := ⟨[(3, .sl false 10 l), (4, .ptr 0 0 0), (5, .ptr 1 0 0), (6, .ptr 2 0 0), (8, .ptr 3 0 0), (9, nat (j + 1))], [.var n.cells, .var [num x0, num y0, .sl tt 10 rest, .bs 7 0 (q + 1), .sl true 11 [], .bs 8 0 (q + 1), .sl true 10 []], .var ix, .var zOut, .dead, .dead, .var [num se, .sl false 1 p], .row 11 outs, .row 6 fates]⟩
def rdE : St := ⟨[(3, .sl false 10 l), (4, .ptr 0 0 0), (5, .ptr 1 0 0), (6, .ptr 2 0 0), (8, .ptr 3 0 0), (9, nat j), (14, boolX false)], [.var n.cells, .var [num x0, num y0, .sl tt 10 rest, .bs 4 0 q, .sl true 11 [], .bs 5 0 q, .sl true 10 []], .var ix, .var zOut, .row 11 outs, .row 6 fates]⟩
end
section
variable (n : Nod) (x0 y0 : Int) (tt : Bool) (rest outs fates l : List (List X)) (q j : Nat) (se : Int) (p : List (List X))
variable (kd tm : Int) (sp : List (List X)) (e : Int) (mp : List (List X)) (ms : Int) (o : List (List X)) (a1 a2 a3 : Int) (a4 : ByteArray) (a5 a6 : List (List X)) (x : Int) (b1 b2 : Bool) (c1 c2 c3 : Int) (c4 : ByteArray) (c5 c6 : List (List X))
def inX : List X := [num kd, num tm, num se, .sl false 1 sp, num e, .sl false 1 mp, num ms, .sl false 1 o, num a1, num a2, num a3, strX a4, .sl false 6 a5, .sl false 7 a6, num x, boolX b1, boolX b2, num c1, num c2, num c3, strX c4, .sl false 6 c5, .sl false 7 c6]
theorem rd_canon : canon 0 (rdH n x0 y0 tt rest outs fates l (inX se kd tm sp e mp ms o a1 a2 a3 a4 a5 a6 x b1 b2 c1 c2 c3 c4 c5 c6) q j) = some (rdH n x0 y0 tt rest outs fates l (inX se kd tm sp e mp ms o a1 a2 a3 a4 a5 a6 x b1 b2 c1 c2 c3 c4 c5 c6) q j) := by kernel_rfl
theorem rd_canon1 : canon 0 (rdN n x0 y0 tt rest outs fates l (inX se kd tm sp e mp ms o a1 a2 a3 a4 a5 a6 x b1 b2 c1 c2 c3 c4 c5 c6) q j se p) = some (rdH n x0 y0 tt rest outs fates l (inX se kd tm sp e mp ms o a1 a2 a3 a4 a5 a6 x b1 b2 c1 c2 c3 c4 c5 c6) (q + 1) (j + 1)) := by kernel_rfl
theorem rd_canon0 : canon 0 (rdN0 n x0 y0 tt rest outs fates l (inX se kd tm sp e mp ms o a1 a2 a3 a4 a5 a6 x b1 b2 c1 c2 c3 c4 c5 c6) q j se p) = some (rdH n x0 y0 tt rest outs fates l (inX se kd tm sp e mp ms o a1 a2 a3 a4 a5 a6 x b1 b2 c1 c2 c3 c4 c5 c6) (q + 1) (j + 1)) := by kernel_rfl
end
theorem inX_cells (i : Inp) : i.cells = match i with
  | ⟨kd, tm, ⟨se, sp⟩, ⟨⟨e, p⟩, ms, o, ⟨a1, a2, a3, a4, a5, a6⟩⟩, x, b1, b2, ⟨c1, c2, c3, c4, c5, c6⟩⟩ => inX se kd tm (intsC sp) e (intsC p) ms (intsC o) a1 a2 a3 a4 (cellsL a5) (cellsF a6) x b1 b2 c1 c2 c3 c4 (cellsL c5) (cellsF c6) := by
  obtain ⟨kd, tm, ⟨se, sp⟩, ⟨⟨e, p⟩, ms, o, ⟨a1, a2, a3, a4, a5, a6⟩⟩, x, b1, b2, ⟨c1, c2, c3, c4, c5, c6⟩⟩ := i
  rfl

theorem rd_round (M : Nat) (hM : 190010 ≤ M) (n : Nod) (x0 y0 : Int) (tt : Bool) (rest outs fates l : List (List X)) (q j : Nat) (i : Inp) (hi : i.ok) (m : Msg) (hm : m.ok) (hg : l[j]? = some m.cells) (hj : j < l.length) (hl : l.length < 4000) (ho : outs.length = q) (hf : fates.length = q) (hq : q < 4000) :
    ∃ υ, run (callF tab ext M) 0 M (loopAt 50 0) (rdH n x0 y0 tt rest outs fates l i.cells q j) = some (.norm, υ) ∧ canon 0 υ = some (rdH n x0 y0 tt rest (outs ++ [(outM i.st m q).cells]) (fates ++ [(fateM n.name i.st m q).cellsB true]) l i.cells (q + 1) (j + 1)) := by
  have hst := hi.st
  rw [inX_cells]
  obtain ⟨kd, tm, ⟨se, sp⟩, ⟨⟨ie, ip⟩, ims, io, ⟨g1, g2, g3, g4, g5, g6⟩⟩, x, b1, b2, ⟨c1, c2, c3, c4, c5, c6⟩⟩ := i
  dsimp only at hst ⊢
  have hc : (childF ⟨se, sp⟩ q).ok := ⟨by show (sp ++ [Int.ofNat q]).length ≤ 60000; simp; omega⟩
  obtain ⟨M', rfl⟩ : ∃ M', M = M' + 1 := ⟨M - 1, by omega⟩
  have hv := move_pure M' m hm (childF ⟨se, sp⟩ q) hc (by omega)
  have hn := intsC_length sp
  unfold outM fateM moveF
  unfold moveF at hv
  cases sp with
  | nil =>
    have e1 : childF ⟨se, []⟩ q = ⟨se, [Int.ofNat q]⟩ := rfl
    rw [e1] at hv ⊢
    obtain ⟨⟨e, p⟩, ms, o, ⟨a1, a2, a3, a4, a5, a6⟩⟩ := m
    exact ⟨rdN0 n x0 y0 tt rest (outs ++ [(Otp.mk 0 ⟨⟨se, [Int.ofNat q]⟩, ms, o, .mk a1 a2 a3 a4 a5 a6⟩).cells]) (fates ++ [(Fte.mk ⟨e, p⟩ 1 n.name [⟨se, [Int.ofNat q]⟩] ⟨#[]⟩).cellsB true]) l _ q j se [[nat q]],
      run_of [(14, .b true), (34, .e (Msg.mk ⟨e, p⟩ ms o (.mk a1 a2 a3 a4 a5 a6)).cells), (37, .p (.agg (Msg.mk ⟨se, [Int.ofNat q]⟩ ms o (.mk a1 a2 a3 a4 a5 a6)).cells)), (40, .app), (46, .e (Msg.mk ⟨e, p⟩ ms o (.mk a1 a2 a3 a4 a5 a6)).cells), (55, .app), (16, .i (Int.ofNat (j + 1)))] []
        (pf7 (lt_nat (j := j) (k := l.length) hj) hg hv (app_c (i := 4) (bytes := 160) ho.symm (by omega) (by omega)) hg (app_c (i := 5) (bytes := 96) hf.symm (by omega) (by omega)) (next_nat (j := j) (by omega))) (lo' := []) (by kernel_rfl), rd_canon0 ..⟩
  | cons s0 sp =>
    have e1 : (childF ⟨se, s0 :: sp⟩ q).cells = [num se, .sl false 1 ((intsC (s0 :: sp) ++ [[nat q]]).take (0 + (intsC (s0 :: sp)).length + 1))] := by
      rw [List.take_of_length_le (by simp), show intsC (s0 :: sp) ++ [[nat q]] = intsC (s0 :: sp ++ [Int.ofNat q]) from (intsC_snoc _ _).symm]; rfl
    rw [e1] at hv
    have e2 : ∀ w : Msg, (Otp.mk 0 { w with st := childF ⟨se, s0 :: sp⟩ q }).cells = num 0 :: num se :: .sl false 1 ((intsC (s0 :: sp) ++ [[nat q]]).take (0 + (intsC (s0 :: sp)).length + 1)) :: num w.mass :: .sl false 1 (intsC w.orig) :: w.body.cells := fun w => by
      rw [List.take_of_length_le (by simp), show intsC (s0 :: sp) ++ [[nat q]] = intsC (s0 :: sp ++ [Int.ofNat q]) from (intsC_snoc _ _).symm]; rfl
    have e3 : ∀ w : Msg, (Fte.mk w.st 1 n.name [childF ⟨se, s0 :: sp⟩ q] ⟨#[]⟩).cellsB true = [num w.st.e, .sl false 1 (intsC w.st.p), num 1, strX n.name, .sl true 2 [[num se, .sl false 1 ((intsC (s0 :: sp) ++ [[nat q]]).take (0 + (intsC (s0 :: sp)).length + 1))]], noText] := fun w => by
      rw [← e1]; rfl
    have e4 : ∀ w : Msg, ({ w with st := childF ⟨se, s0 :: sp⟩ q } : Msg).cells = num se :: .sl false 1 ((intsC (s0 :: sp) ++ [[nat q]]).take (0 + (intsC (s0 :: sp)).length + 1)) :: num w.mass :: .sl false 1 (intsC w.orig) :: w.body.cells := fun w => by
      rw [List.take_of_length_le (by simp), show intsC (s0 :: sp) ++ [[nat q]] = intsC (s0 :: sp ++ [Int.ofNat q]) from (intsC_snoc _ _).symm]; rfl
    rw [e4] at hv
    rw [e2, e3]
    obtain ⟨⟨e, p⟩, ms, o, ⟨a1, a2, a3, a4, a5, a6⟩⟩ := m
    have hlen : (intsC (s0 :: sp)).length ≤ 100 := by rw [hn]; exact hst
    exact ⟨rdN n x0 y0 tt rest _ _ l _ q j se ((intsC (s0 :: sp) ++ [[nat q]]).take (0 + (intsC (s0 :: sp)).length + 1)),
      run_of [(14, .b true), (23, .fresh), (28, .app), (34, .e (Msg.mk ⟨e, p⟩ ms o (.mk a1 a2 a3 a4 a5 a6)).cells), (37, .p (.agg (num se :: .sl false 1 ((intsC (s0 :: sp) ++ [[nat q]]).take (0 + (intsC (s0 :: sp)).length + 1)) :: num ms :: .sl false 1 (intsC o) :: (Val.mk a1 a2 a3 a4 a5 a6).cells))), (40, .app), (46, .e (Msg.mk ⟨e, p⟩ ms o (.mk a1 a2 a3 a4 a5 a6)).cells), (55, .app), (16, .i (Int.ofNat (j + 1)))] []
        (pf10 (lt_nat (j := j) (k := l.length) hj) (show (intsC (s0 :: sp)).isEmpty = false ∧ roomOk (([] : List (List X)).length + (intsC (s0 :: sp)).length) 8 = true from ⟨rfl, room_of (by simp only [List.length_nil]; omega) (by simp only [List.length_nil]; omega)⟩)
          (show 0 + (0 + (intsC (s0 :: sp)).length) = (intsC (s0 :: sp)).length ∧ roomOk (0 + (intsC (s0 :: sp)).length + 1) 8 = true ∧ memN 7 [] = false from ⟨by omega, room_of (by omega) (by omega), rfl⟩)
          (show 0 + (0 + (intsC (s0 :: sp)).length + 1) ≤ (intsC (s0 :: sp) ++ [[nat q]]).length by simp) hg hv (app_c (i := 4) (bytes := 160) ho.symm (by omega) (by omega)) hg (app_c (i := 5) (bytes := 96) hf.symm (by omega) (by omega)) (next_nat (j := j) (by omega))) (lo' := []) (by kernel_rfl), rd_canon1 ..⟩
end Go.Proofs.YtjfheahakfoofaaGreatDoor

/- The document's check of a state of a throttle or a delay. -/
namespace Go.Proofs.YtjfheahakfoofaaGreatDoor
open Go.Em

def mkH (n : Nod) (a b : Int) (l : List (List X)) (j : Nat) : St := ⟨[(2, .ptr 0 0 0), (3, .ptr 1 0 0), (6, nat j)], [.var n.cells, .var [num a, num b, .sl false 10 l]]⟩
def mkR (n : Nod) (a b : Int) (l : List (List X)) (x : List X) : St := ⟨[(4, num 10)], [.var n.cells, .var [num a, num b, .sl false 10 l], .var x]⟩
def mkN (n : Nod) (a b : Int) (l : List (List X)) (j : Nat) (x : List X) : St := ⟨[(2, .ptr 0 0 0), (3, .ptr 1 0 0), (6, nat (j + 1))], [.var n.cells, .var [num a, num b, .sl false 10 l], .var x]⟩

theorem mc7 (n : Nod) (hk : (n.kind == 7) = true) (hk8 : (n.kind == 8) = false) (a b : Int) (l : List (List X)) (j : Nat) (hj : j < l.length) (hl : l.length ≤ 60000) (k i s' t' n' : Int) (tx : ByteArray) (vl vf its vs : List (List X)) (z : Bool) (hg : l[j]? = some (slotC k i s' tx vl vf n' t' its vs)) (hz : ∀ M, 60010 ≤ M → Gam.pureD (callF tab ext M) 28 [.agg [num k, num i, num s', strX tx, .sl false 6 vl, .sl false 7 vf]] = some (boolX z)) :
    (((!z) || ((Int.ofNat its.length == 0) || ((n' != 0) || ((t' != 0) || decide (Int.ofNat vs.length > 0))))) = true → ∀ M, 60010 ≤ M → run (callF tab ext M) 0 M (loopAt 10 0) (mkH n a b l j) = some (.ret, mkR n a b l (slotC k i s' tx vl vf n' t' its vs))) ∧
    (((!z) || ((Int.ofNat its.length == 0) || ((n' != 0) || ((t' != 0) || decide (Int.ofNat vs.length > 0))))) = false → ∀ M, 60010 ≤ M → run (callF tab ext M) 0 M (loopAt 10 0) (mkH n a b l j) = some (.norm, mkN n a b l j (slotC k i s' tx vl vf n' t' its vs))) := by
  have hlt := lt_nat hj
  cases h1 : (z) with
  | true =>
    cases h2 : (k == 2) with
    | true =>
      cases h3 : (decide (i > 0)) with
      | true =>
        cases h4 : (i == t') with
        | true =>
          cases h5 : (n' != 0) with
          | true =>
            exact ⟨fun _ M hM => run_of [(47, .b true), (53, .e ([num k, num i, num s', strX tx, .sl false 6 vl, .sl false 7 vf, num n', num t', .sl false 10 its, .sl false 6 vs])), (57, .p (boolX z)), (8, .b true), (61, .b true), (66, .b true), (74, .b true), (78, .b true)] [] (pf8 hlt hg (hz M hM) h1 h2 h3 h4 h5) (lo' := []) (by kernel_rfl), fun hP => absurd hP (by simp)⟩
          | false =>
            cases h6 : (decide (Int.ofNat vs.length > 0)) with
            | true =>
              exact ⟨fun _ M hM => run_of [(47, .b true), (53, .e ([num k, num i, num s', strX tx, .sl false 6 vl, .sl false 7 vf, num n', num t', .sl false 10 its, .sl false 6 vs])), (57, .p (boolX z)), (8, .b true), (61, .b true), (66, .b true), (74, .b true), (78, .b false), (83, .b true)] [] (pf9 hlt hg (hz M hM) h1 h2 h3 h4 h5 h6) (lo' := []) (by kernel_rfl), fun hP => absurd hP (by simp)⟩
            | false =>
              cases h7 : (Int.ofNat its.length == 0) with
              | true =>
                exact ⟨fun _ M hM => run_of [(47, .b true), (53, .e ([num k, num i, num s', strX tx, .sl false 6 vl, .sl false 7 vf, num n', num t', .sl false 10 its, .sl false 6 vs])), (57, .p (boolX z)), (8, .b true), (61, .b true), (66, .b true), (74, .b true), (78, .b false), (83, .b false), (89, .b true)] [] (pf10 hlt hg (hz M hM) h1 h2 h3 h4 h5 h6 h7) (lo' := []) (by kernel_rfl), fun hP => absurd hP (by simp)⟩
              | false =>
                cases h8 : (t' != 0) with
                | true =>
                  exact ⟨fun _ M hM => run_of [(47, .b true), (53, .e ([num k, num i, num s', strX tx, .sl false 6 vl, .sl false 7 vf, num n', num t', .sl false 10 its, .sl false 6 vs])), (57, .p (boolX z)), (8, .b true), (61, .b true), (66, .b true), (74, .b true), (78, .b false), (83, .b false), (89, .b false), (94, .b true), (101, .b true)] [] (pf12 hlt hg (hz M hM) h1 h2 h3 h4 h5 h6 h7 hk h8) (lo' := []) (by kernel_rfl), fun hP => absurd hP (by simp)⟩
                | false =>
                  exact ⟨fun hP => absurd hP (by simp), fun _ M hM => run_of [(47, .b true), (53, .e ([num k, num i, num s', strX tx, .sl false 6 vl, .sl false 7 vf, num n', num t', .sl false 10 its, .sl false 6 vs])), (57, .p (boolX z)), (8, .b true), (61, .b true), (66, .b true), (74, .b true), (78, .b false), (83, .b false), (89, .b false), (94, .b true), (101, .b false), (108, .b false), (49, .i (Int.ofNat (j + 1)))] [] (pf14 hlt hg (hz M hM) h1 h2 h3 h4 h5 h6 h7 hk h8 hk8 (next_nat (j := j) (by omega))) (lo' := []) (by kernel_rfl)⟩
        | false =>
          cases h9 : (n' != 0) with
          | true =>
            exact ⟨fun _ M hM => run_of [(47, .b true), (53, .e ([num k, num i, num s', strX tx, .sl false 6 vl, .sl false 7 vf, num n', num t', .sl false 10 its, .sl false 6 vs])), (57, .p (boolX z)), (8, .b true), (61, .b true), (66, .b true), (74, .b false), (78, .b true)] [] (pf8 hlt hg (hz M hM) h1 h2 h3 h4 h9) (lo' := []) (by kernel_rfl), fun hP => absurd hP (by simp)⟩
          | false =>
            cases h10 : (decide (Int.ofNat vs.length > 0)) with
            | true =>
              exact ⟨fun _ M hM => run_of [(47, .b true), (53, .e ([num k, num i, num s', strX tx, .sl false 6 vl, .sl false 7 vf, num n', num t', .sl false 10 its, .sl false 6 vs])), (57, .p (boolX z)), (8, .b true), (61, .b true), (66, .b true), (74, .b false), (78, .b false), (83, .b true)] [] (pf9 hlt hg (hz M hM) h1 h2 h3 h4 h9 h10) (lo' := []) (by kernel_rfl), fun hP => absurd hP (by simp)⟩
            | false =>
              cases h11 : (Int.ofNat its.length == 0) with
              | true =>
                exact ⟨fun _ M hM => run_of [(47, .b true), (53, .e ([num k, num i, num s', strX tx, .sl false 6 vl, .sl false 7 vf, num n', num t', .sl false 10 its, .sl false 6 vs])), (57, .p (boolX z)), (8, .b true), (61, .b true), (66, .b true), (74, .b false), (78, .b false), (83, .b false), (89, .b true)] [] (pf10 hlt hg (hz M hM) h1 h2 h3 h4 h9 h10 h11) (lo' := []) (by kernel_rfl), fun hP => absurd hP (by simp)⟩
              | false =>
                cases h12 : (t' != 0) with
                | true =>
                  exact ⟨fun _ M hM => run_of [(47, .b true), (53, .e ([num k, num i, num s', strX tx, .sl false 6 vl, .sl false 7 vf, num n', num t', .sl false 10 its, .sl false 6 vs])), (57, .p (boolX z)), (8, .b true), (61, .b true), (66, .b true), (74, .b false), (78, .b false), (83, .b false), (89, .b false), (94, .b true), (101, .b true)] [] (pf12 hlt hg (hz M hM) h1 h2 h3 h4 h9 h10 h11 hk h12) (lo' := []) (by kernel_rfl), fun hP => absurd hP (by simp)⟩
                | false =>
                  exact ⟨fun hP => absurd hP (by simp), fun _ M hM => run_of [(47, .b true), (53, .e ([num k, num i, num s', strX tx, .sl false 6 vl, .sl false 7 vf, num n', num t', .sl false 10 its, .sl false 6 vs])), (57, .p (boolX z)), (8, .b true), (61, .b true), (66, .b true), (74, .b false), (78, .b false), (83, .b false), (89, .b false), (94, .b true), (101, .b false), (108, .b false), (49, .i (Int.ofNat (j + 1)))] [] (pf14 hlt hg (hz M hM) h1 h2 h3 h4 h9 h10 h11 hk h12 hk8 (next_nat (j := j) (by omega))) (lo' := []) (by kernel_rfl)⟩
      | false =>
        cases h13 : (n' != 0) with
        | true =>
          exact ⟨fun _ M hM => run_of [(47, .b true), (53, .e ([num k, num i, num s', strX tx, .sl false 6 vl, .sl false 7 vf, num n', num t', .sl false 10 its, .sl false 6 vs])), (57, .p (boolX z)), (8, .b true), (61, .b true), (66, .b false), (78, .b true)] [] (pf7 hlt hg (hz M hM) h1 h2 h3 h13) (lo' := []) (by kernel_rfl), fun hP => absurd hP (by simp)⟩
        | false =>
          cases h14 : (decide (Int.ofNat vs.length > 0)) with
          | true =>
            exact ⟨fun _ M hM => run_of [(47, .b true), (53, .e ([num k, num i, num s', strX tx, .sl false 6 vl, .sl false 7 vf, num n', num t', .sl false 10 its, .sl false 6 vs])), (57, .p (boolX z)), (8, .b true), (61, .b true), (66, .b false), (78, .b false), (83, .b true)] [] (pf8 hlt hg (hz M hM) h1 h2 h3 h13 h14) (lo' := []) (by kernel_rfl), fun hP => absurd hP (by simp)⟩
          | false =>
            cases h15 : (Int.ofNat its.length == 0) with
            | true =>
              exact ⟨fun _ M hM => run_of [(47, .b true), (53, .e ([num k, num i, num s', strX tx, .sl false 6 vl, .sl false 7 vf, num n', num t', .sl false 10 its, .sl false 6 vs])), (57, .p (boolX z)), (8, .b true), (61, .b true), (66, .b false), (78, .b false), (83, .b false), (89, .b true)] [] (pf9 hlt hg (hz M hM) h1 h2 h3 h13 h14 h15) (lo' := []) (by kernel_rfl), fun hP => absurd hP (by simp)⟩
            | false =>
              cases h16 : (t' != 0) with
              | true =>
                exact ⟨fun _ M hM => run_of [(47, .b true), (53, .e ([num k, num i, num s', strX tx, .sl false 6 vl, .sl false 7 vf, num n', num t', .sl false 10 its, .sl false 6 vs])), (57, .p (boolX z)), (8, .b true), (61, .b true), (66, .b false), (78, .b false), (83, .b false), (89, .b false), (94, .b true), (101, .b true)] [] (pf11 hlt hg (hz M hM) h1 h2 h3 h13 h14 h15 hk h16) (lo' := []) (by kernel_rfl), fun hP => absurd hP (by simp)⟩
              | false =>
                exact ⟨fun hP => absurd hP (by simp), fun _ M hM => run_of [(47, .b true), (53, .e ([num k, num i, num s', strX tx, .sl false 6 vl, .sl false 7 vf, num n', num t', .sl false 10 its, .sl false 6 vs])), (57, .p (boolX z)), (8, .b true), (61, .b true), (66, .b false), (78, .b false), (83, .b false), (89, .b false), (94, .b true), (101, .b false), (108, .b false), (49, .i (Int.ofNat (j + 1)))] [] (pf13 hlt hg (hz M hM) h1 h2 h3 h13 h14 h15 hk h16 hk8 (next_nat (j := j) (by omega))) (lo' := []) (by kernel_rfl)⟩
    | false =>
      cases h17 : (n' != 0) with
      | true =>
        exact ⟨fun _ M hM => run_of [(47, .b true), (53, .e ([num k, num i, num s', strX tx, .sl false 6 vl, .sl false 7 vf, num n', num t', .sl false 10 its, .sl false 6 vs])), (57, .p (boolX z)), (8, .b true), (61, .b false), (78, .b true)] [] (pf6 hlt hg (hz M hM) h1 h2 h17) (lo' := []) (by kernel_rfl), fun hP => absurd hP (by simp)⟩
      | false =>
        cases h18 : (decide (Int.ofNat vs.length > 0)) with
        | true =>
          exact ⟨fun _ M hM => run_of [(47, .b true), (53, .e ([num k, num i, num s', strX tx, .sl false 6 vl, .sl false 7 vf, num n', num t', .sl false 10 its, .sl false 6 vs])), (57, .p (boolX z)), (8, .b true), (61, .b false), (78, .b false), (83, .b true)] [] (pf7 hlt hg (hz M hM) h1 h2 h17 h18) (lo' := []) (by kernel_rfl), fun hP => absurd hP (by simp)⟩
        | false =>
          cases h19 : (Int.ofNat its.length == 0) with
          | true =>
            exact ⟨fun _ M hM => run_of [(47, .b true), (53, .e ([num k, num i, num s', strX tx, .sl false 6 vl, .sl false 7 vf, num n', num t', .sl false 10 its, .sl false 6 vs])), (57, .p (boolX z)), (8, .b true), (61, .b false), (78, .b false), (83, .b false), (89, .b true)] [] (pf8 hlt hg (hz M hM) h1 h2 h17 h18 h19) (lo' := []) (by kernel_rfl), fun hP => absurd hP (by simp)⟩
          | false =>
            cases h20 : (t' != 0) with
            | true =>
              exact ⟨fun _ M hM => run_of [(47, .b true), (53, .e ([num k, num i, num s', strX tx, .sl false 6 vl, .sl false 7 vf, num n', num t', .sl false 10 its, .sl false 6 vs])), (57, .p (boolX z)), (8, .b true), (61, .b false), (78, .b false), (83, .b false), (89, .b false), (94, .b true), (101, .b true)] [] (pf10 hlt hg (hz M hM) h1 h2 h17 h18 h19 hk h20) (lo' := []) (by kernel_rfl), fun hP => absurd hP (by simp)⟩
            | false =>
              exact ⟨fun hP => absurd hP (by simp), fun _ M hM => run_of [(47, .b true), (53, .e ([num k, num i, num s', strX tx, .sl false 6 vl, .sl false 7 vf, num n', num t', .sl false 10 its, .sl false 6 vs])), (57, .p (boolX z)), (8, .b true), (61, .b false), (78, .b false), (83, .b false), (89, .b false), (94, .b true), (101, .b false), (108, .b false), (49, .i (Int.ofNat (j + 1)))] [] (pf12 hlt hg (hz M hM) h1 h2 h17 h18 h19 hk h20 hk8 (next_nat (j := j) (by omega))) (lo' := []) (by kernel_rfl)⟩
  | false =>
    cases h21 : (k == 2) with
    | true =>
      cases h22 : (decide (i > 0)) with
      | true =>
        cases h23 : (i == t') with
        | true =>
          cases h24 : (n' != 0) with
          | true =>
            exact ⟨fun _ M hM => run_of [(47, .b true), (53, .e ([num k, num i, num s', strX tx, .sl false 6 vl, .sl false 7 vf, num n', num t', .sl false 10 its, .sl false 6 vs])), (57, .p (boolX z)), (8, .b false), (61, .b true), (66, .b true), (74, .b true), (78, .b true)] [] (pf8 hlt hg (hz M hM) h1 h21 h22 h23 h24) (lo' := []) (by kernel_rfl), fun hP => absurd hP (by simp)⟩
          | false =>
            cases h25 : (decide (Int.ofNat vs.length > 0)) with
            | true =>
              exact ⟨fun _ M hM => run_of [(47, .b true), (53, .e ([num k, num i, num s', strX tx, .sl false 6 vl, .sl false 7 vf, num n', num t', .sl false 10 its, .sl false 6 vs])), (57, .p (boolX z)), (8, .b false), (61, .b true), (66, .b true), (74, .b true), (78, .b false), (83, .b true)] [] (pf9 hlt hg (hz M hM) h1 h21 h22 h23 h24 h25) (lo' := []) (by kernel_rfl), fun hP => absurd hP (by simp)⟩
            | false =>
              cases h26 : (Int.ofNat its.length == 0) with
              | true =>
                exact ⟨fun _ M hM => run_of [(47, .b true), (53, .e ([num k, num i, num s', strX tx, .sl false 6 vl, .sl false 7 vf, num n', num t', .sl false 10 its, .sl false 6 vs])), (57, .p (boolX z)), (8, .b false), (61, .b true), (66, .b true), (74, .b true), (78, .b false), (83, .b false), (89, .b true)] [] (pf10 hlt hg (hz M hM) h1 h21 h22 h23 h24 h25 h26) (lo' := []) (by kernel_rfl), fun hP => absurd hP (by simp)⟩
              | false =>
                exact ⟨fun _ M hM => run_of [(47, .b true), (53, .e ([num k, num i, num s', strX tx, .sl false 6 vl, .sl false 7 vf, num n', num t', .sl false 10 its, .sl false 6 vs])), (57, .p (boolX z)), (8, .b false), (61, .b true), (66, .b true), (74, .b true), (78, .b false), (83, .b false), (89, .b false), (94, .b true)] [] (pf11 hlt hg (hz M hM) h1 h21 h22 h23 h24 h25 h26 hk) (lo' := []) (by kernel_rfl), fun hP => absurd hP (by simp)⟩
        | false =>
          cases h27 : (n' != 0) with
          | true =>
            exact ⟨fun _ M hM => run_of [(47, .b true), (53, .e ([num k, num i, num s', strX tx, .sl false 6 vl, .sl false 7 vf, num n', num t', .sl false 10 its, .sl false 6 vs])), (57, .p (boolX z)), (8, .b false), (61, .b true), (66, .b true), (74, .b false), (78, .b true)] [] (pf8 hlt hg (hz M hM) h1 h21 h22 h23 h27) (lo' := []) (by kernel_rfl), fun hP => absurd hP (by simp)⟩
          | false =>
            cases h28 : (decide (Int.ofNat vs.length > 0)) with
            | true =>
              exact ⟨fun _ M hM => run_of [(47, .b true), (53, .e ([num k, num i, num s', strX tx, .sl false 6 vl, .sl false 7 vf, num n', num t', .sl false 10 its, .sl false 6 vs])), (57, .p (boolX z)), (8, .b false), (61, .b true), (66, .b true), (74, .b false), (78, .b false), (83, .b true)] [] (pf9 hlt hg (hz M hM) h1 h21 h22 h23 h27 h28) (lo' := []) (by kernel_rfl), fun hP => absurd hP (by simp)⟩
            | false =>
              cases h29 : (Int.ofNat its.length == 0) with
              | true =>
                exact ⟨fun _ M hM => run_of [(47, .b true), (53, .e ([num k, num i, num s', strX tx, .sl false 6 vl, .sl false 7 vf, num n', num t', .sl false 10 its, .sl false 6 vs])), (57, .p (boolX z)), (8, .b false), (61, .b true), (66, .b true), (74, .b false), (78, .b false), (83, .b false), (89, .b true)] [] (pf10 hlt hg (hz M hM) h1 h21 h22 h23 h27 h28 h29) (lo' := []) (by kernel_rfl), fun hP => absurd hP (by simp)⟩
              | false =>
                exact ⟨fun _ M hM => run_of [(47, .b true), (53, .e ([num k, num i, num s', strX tx, .sl false 6 vl, .sl false 7 vf, num n', num t', .sl false 10 its, .sl false 6 vs])), (57, .p (boolX z)), (8, .b false), (61, .b true), (66, .b true), (74, .b false), (78, .b false), (83, .b false), (89, .b false), (94, .b true)] [] (pf11 hlt hg (hz M hM) h1 h21 h22 h23 h27 h28 h29 hk) (lo' := []) (by kernel_rfl), fun hP => absurd hP (by simp)⟩
      | false =>
        cases h30 : (n' != 0) with
        | true =>
          exact ⟨fun _ M hM => run_of [(47, .b true), (53, .e ([num k, num i, num s', strX tx, .sl false 6 vl, .sl false 7 vf, num n', num t', .sl false 10 its, .sl false 6 vs])), (57, .p (boolX z)), (8, .b false), (61, .b true), (66, .b false), (78, .b true)] [] (pf7 hlt hg (hz M hM) h1 h21 h22 h30) (lo' := []) (by kernel_rfl), fun hP => absurd hP (by simp)⟩
        | false =>
          cases h31 : (decide (Int.ofNat vs.length > 0)) with
          | true =>
            exact ⟨fun _ M hM => run_of [(47, .b true), (53, .e ([num k, num i, num s', strX tx, .sl false 6 vl, .sl false 7 vf, num n', num t', .sl false 10 its, .sl false 6 vs])), (57, .p (boolX z)), (8, .b false), (61, .b true), (66, .b false), (78, .b false), (83, .b true)] [] (pf8 hlt hg (hz M hM) h1 h21 h22 h30 h31) (lo' := []) (by kernel_rfl), fun hP => absurd hP (by simp)⟩
          | false =>
            cases h32 : (Int.ofNat its.length == 0) with
            | true =>
              exact ⟨fun _ M hM => run_of [(47, .b true), (53, .e ([num k, num i, num s', strX tx, .sl false 6 vl, .sl false 7 vf, num n', num t', .sl false 10 its, .sl false 6 vs])), (57, .p (boolX z)), (8, .b false), (61, .b true), (66, .b false), (78, .b false), (83, .b false), (89, .b true)] [] (pf9 hlt hg (hz M hM) h1 h21 h22 h30 h31 h32) (lo' := []) (by kernel_rfl), fun hP => absurd hP (by simp)⟩
            | false =>
              exact ⟨fun _ M hM => run_of [(47, .b true), (53, .e ([num k, num i, num s', strX tx, .sl false 6 vl, .sl false 7 vf, num n', num t', .sl false 10 its, .sl false 6 vs])), (57, .p (boolX z)), (8, .b false), (61, .b true), (66, .b false), (78, .b false), (83, .b false), (89, .b false), (94, .b true)] [] (pf10 hlt hg (hz M hM) h1 h21 h22 h30 h31 h32 hk) (lo' := []) (by kernel_rfl), fun hP => absurd hP (by simp)⟩
    | false =>
      cases h33 : (n' != 0) with
      | true =>
        exact ⟨fun _ M hM => run_of [(47, .b true), (53, .e ([num k, num i, num s', strX tx, .sl false 6 vl, .sl false 7 vf, num n', num t', .sl false 10 its, .sl false 6 vs])), (57, .p (boolX z)), (8, .b false), (61, .b false), (78, .b true)] [] (pf6 hlt hg (hz M hM) h1 h21 h33) (lo' := []) (by kernel_rfl), fun hP => absurd hP (by simp)⟩
      | false =>
        cases h34 : (decide (Int.ofNat vs.length > 0)) with
        | true =>
          exact ⟨fun _ M hM => run_of [(47, .b true), (53, .e ([num k, num i, num s', strX tx, .sl false 6 vl, .sl false 7 vf, num n', num t', .sl false 10 its, .sl false 6 vs])), (57, .p (boolX z)), (8, .b false), (61, .b false), (78, .b false), (83, .b true)] [] (pf7 hlt hg (hz M hM) h1 h21 h33 h34) (lo' := []) (by kernel_rfl), fun hP => absurd hP (by simp)⟩
        | false =>
          cases h35 : (Int.ofNat its.length == 0) with
          | true =>
            exact ⟨fun _ M hM => run_of [(47, .b true), (53, .e ([num k, num i, num s', strX tx, .sl false 6 vl, .sl false 7 vf, num n', num t', .sl false 10 its, .sl false 6 vs])), (57, .p (boolX z)), (8, .b false), (61, .b false), (78, .b false), (83, .b false), (89, .b true)] [] (pf8 hlt hg (hz M hM) h1 h21 h33 h34 h35) (lo' := []) (by kernel_rfl), fun hP => absurd hP (by simp)⟩
          | false =>
            exact ⟨fun _ M hM => run_of [(47, .b true), (53, .e ([num k, num i, num s', strX tx, .sl false 6 vl, .sl false 7 vf, num n', num t', .sl false 10 its, .sl false 6 vs])), (57, .p (boolX z)), (8, .b false), (61, .b false), (78, .b false), (83, .b false), (89, .b false), (94, .b true)] [] (pf9 hlt hg (hz M hM) h1 h21 h33 h34 h35 hk) (lo' := []) (by kernel_rfl), fun hP => absurd hP (by simp)⟩
theorem mc8 (n : Nod) (hk : (n.kind == 8) = true) (hk8 : (n.kind == 7) = false) (a b : Int) (l : List (List X)) (j : Nat) (hj : j < l.length) (hl : l.length ≤ 60000) (k i s' t' n' : Int) (tx : ByteArray) (vl vf its vs : List (List X)) (z : Bool) (hg : l[j]? = some (slotC k i s' tx vl vf n' t' its vs)) (hz : ∀ M, 60010 ≤ M → Gam.pureD (callF tab ext M) 28 [.agg [num k, num i, num s', strX tx, .sl false 6 vl, .sl false 7 vf]] = some (boolX z)) :
    (((Int.ofNat its.length == 0) || ((!(k == 2)) || ((!decide (i > 0)) || ((!(i == t')) || ((n' != 0) || decide (Int.ofNat vs.length > 0)))))) = true → ∀ M, 60010 ≤ M → run (callF tab ext M) 0 M (loopAt 10 0) (mkH n a b l j) = some (.ret, mkR n a b l (slotC k i s' tx vl vf n' t' its vs))) ∧
    (((Int.ofNat its.length == 0) || ((!(k == 2)) || ((!decide (i > 0)) || ((!(i == t')) || ((n' != 0) || decide (Int.ofNat vs.length > 0)))))) = false → ∀ M, 60010 ≤ M → run (callF tab ext M) 0 M (loopAt 10 0) (mkH n a b l j) = some (.norm, mkN n a b l j (slotC k i s' tx vl vf n' t' its vs))) := by
  have hlt := lt_nat hj
  cases h1 : (z) with
  | true =>
    cases h2 : (k == 2) with
    | true =>
      cases h3 : (decide (i > 0)) with
      | true =>
        cases h4 : (i == t') with
        | true =>
          cases h5 : (n' != 0) with
          | true =>
            exact ⟨fun _ M hM => run_of [(47, .b true), (53, .e ([num k, num i, num s', strX tx, .sl false 6 vl, .sl false 7 vf, num n', num t', .sl false 10 its, .sl false 6 vs])), (57, .p (boolX z)), (8, .b true), (61, .b true), (66, .b true), (74, .b true), (78, .b true)] [] (pf8 hlt hg (hz M hM) h1 h2 h3 h4 h5) (lo' := []) (by kernel_rfl), fun hP => absurd hP (by simp)⟩
          | false =>
            cases h6 : (decide (Int.ofNat vs.length > 0)) with
            | true =>
              exact ⟨fun _ M hM => run_of [(47, .b true), (53, .e ([num k, num i, num s', strX tx, .sl false 6 vl, .sl false 7 vf, num n', num t', .sl false 10 its, .sl false 6 vs])), (57, .p (boolX z)), (8, .b true), (61, .b true), (66, .b true), (74, .b true), (78, .b false), (83, .b true)] [] (pf9 hlt hg (hz M hM) h1 h2 h3 h4 h5 h6) (lo' := []) (by kernel_rfl), fun hP => absurd hP (by simp)⟩
            | false =>
              cases h7 : (Int.ofNat its.length == 0) with
              | true =>
                exact ⟨fun _ M hM => run_of [(47, .b true), (53, .e ([num k, num i, num s', strX tx, .sl false 6 vl, .sl false 7 vf, num n', num t', .sl false 10 its, .sl false 6 vs])), (57, .p (boolX z)), (8, .b true), (61, .b true), (66, .b true), (74, .b true), (78, .b false), (83, .b false), (89, .b true)] [] (pf10 hlt hg (hz M hM) h1 h2 h3 h4 h5 h6 h7) (lo' := []) (by kernel_rfl), fun hP => absurd hP (by simp)⟩
              | false =>
                exact ⟨fun hP => absurd hP (by simp), fun _ M hM => run_of [(47, .b true), (53, .e ([num k, num i, num s', strX tx, .sl false 6 vl, .sl false 7 vf, num n', num t', .sl false 10 its, .sl false 6 vs])), (57, .p (boolX z)), (8, .b true), (61, .b true), (66, .b true), (74, .b true), (78, .b false), (83, .b false), (89, .b false), (94, .b false), (108, .b true), (49, .i (Int.ofNat (j + 1)))] [] (pf13 hlt hg (hz M hM) h1 h2 h3 h4 h5 h6 h7 hk8 hk (next_nat (j := j) (by omega))) (lo' := []) (by kernel_rfl)⟩
        | false =>
          cases h8 : (n' != 0) with
          | true =>
            exact ⟨fun _ M hM => run_of [(47, .b true), (53, .e ([num k, num i, num s', strX tx, .sl false 6 vl, .sl false 7 vf, num n', num t', .sl false 10 its, .sl false 6 vs])), (57, .p (boolX z)), (8, .b true), (61, .b true), (66, .b true), (74, .b false), (78, .b true)] [] (pf8 hlt hg (hz M hM) h1 h2 h3 h4 h8) (lo' := []) (by kernel_rfl), fun hP => absurd hP (by simp)⟩
          | false =>
            cases h9 : (decide (Int.ofNat vs.length > 0)) with
            | true =>
              exact ⟨fun _ M hM => run_of [(47, .b true), (53, .e ([num k, num i, num s', strX tx, .sl false 6 vl, .sl false 7 vf, num n', num t', .sl false 10 its, .sl false 6 vs])), (57, .p (boolX z)), (8, .b true), (61, .b true), (66, .b true), (74, .b false), (78, .b false), (83, .b true)] [] (pf9 hlt hg (hz M hM) h1 h2 h3 h4 h8 h9) (lo' := []) (by kernel_rfl), fun hP => absurd hP (by simp)⟩
            | false =>
              cases h10 : (Int.ofNat its.length == 0) with
              | true =>
                exact ⟨fun _ M hM => run_of [(47, .b true), (53, .e ([num k, num i, num s', strX tx, .sl false 6 vl, .sl false 7 vf, num n', num t', .sl false 10 its, .sl false 6 vs])), (57, .p (boolX z)), (8, .b true), (61, .b true), (66, .b true), (74, .b false), (78, .b false), (83, .b false), (89, .b true)] [] (pf10 hlt hg (hz M hM) h1 h2 h3 h4 h8 h9 h10) (lo' := []) (by kernel_rfl), fun hP => absurd hP (by simp)⟩
              | false =>
                exact ⟨fun _ M hM => run_of [(47, .b true), (53, .e ([num k, num i, num s', strX tx, .sl false 6 vl, .sl false 7 vf, num n', num t', .sl false 10 its, .sl false 6 vs])), (57, .p (boolX z)), (8, .b true), (61, .b true), (66, .b true), (74, .b false), (78, .b false), (83, .b false), (89, .b false), (94, .b false), (108, .b true)] [] (pf12 hlt hg (hz M hM) h1 h2 h3 h4 h8 h9 h10 hk8 hk) (lo' := []) (by kernel_rfl), fun hP => absurd hP (by simp)⟩
      | false =>
        cases h11 : (n' != 0) with
        | true =>
          exact ⟨fun _ M hM => run_of [(47, .b true), (53, .e ([num k, num i, num s', strX tx, .sl false 6 vl, .sl false 7 vf, num n', num t', .sl false 10 its, .sl false 6 vs])), (57, .p (boolX z)), (8, .b true), (61, .b true), (66, .b false), (78, .b true)] [] (pf7 hlt hg (hz M hM) h1 h2 h3 h11) (lo' := []) (by kernel_rfl), fun hP => absurd hP (by simp)⟩
        | false =>
          cases h12 : (decide (Int.ofNat vs.length > 0)) with
          | true =>
            exact ⟨fun _ M hM => run_of [(47, .b true), (53, .e ([num k, num i, num s', strX tx, .sl false 6 vl, .sl false 7 vf, num n', num t', .sl false 10 its, .sl false 6 vs])), (57, .p (boolX z)), (8, .b true), (61, .b true), (66, .b false), (78, .b false), (83, .b true)] [] (pf8 hlt hg (hz M hM) h1 h2 h3 h11 h12) (lo' := []) (by kernel_rfl), fun hP => absurd hP (by simp)⟩
          | false =>
            cases h13 : (Int.ofNat its.length == 0) with
            | true =>
              exact ⟨fun _ M hM => run_of [(47, .b true), (53, .e ([num k, num i, num s', strX tx, .sl false 6 vl, .sl false 7 vf, num n', num t', .sl false 10 its, .sl false 6 vs])), (57, .p (boolX z)), (8, .b true), (61, .b true), (66, .b false), (78, .b false), (83, .b false), (89, .b true)] [] (pf9 hlt hg (hz M hM) h1 h2 h3 h11 h12 h13) (lo' := []) (by kernel_rfl), fun hP => absurd hP (by simp)⟩
            | false =>
              exact ⟨fun _ M hM => run_of [(47, .b true), (53, .e ([num k, num i, num s', strX tx, .sl false 6 vl, .sl false 7 vf, num n', num t', .sl false 10 its, .sl false 6 vs])), (57, .p (boolX z)), (8, .b true), (61, .b true), (66, .b false), (78, .b false), (83, .b false), (89, .b false), (94, .b false), (108, .b true)] [] (pf11 hlt hg (hz M hM) h1 h2 h3 h11 h12 h13 hk8 hk) (lo' := []) (by kernel_rfl), fun hP => absurd hP (by simp)⟩
    | false =>
      cases h14 : (n' != 0) with
      | true =>
        exact ⟨fun _ M hM => run_of [(47, .b true), (53, .e ([num k, num i, num s', strX tx, .sl false 6 vl, .sl false 7 vf, num n', num t', .sl false 10 its, .sl false 6 vs])), (57, .p (boolX z)), (8, .b true), (61, .b false), (78, .b true)] [] (pf6 hlt hg (hz M hM) h1 h2 h14) (lo' := []) (by kernel_rfl), fun hP => absurd hP (by simp)⟩
      | false =>
        cases h15 : (decide (Int.ofNat vs.length > 0)) with
        | true =>
          exact ⟨fun _ M hM => run_of [(47, .b true), (53, .e ([num k, num i, num s', strX tx, .sl false 6 vl, .sl false 7 vf, num n', num t', .sl false 10 its, .sl false 6 vs])), (57, .p (boolX z)), (8, .b true), (61, .b false), (78, .b false), (83, .b true)] [] (pf7 hlt hg (hz M hM) h1 h2 h14 h15) (lo' := []) (by kernel_rfl), fun hP => absurd hP (by simp)⟩
        | false =>
          cases h16 : (Int.ofNat its.length == 0) with
          | true =>
            exact ⟨fun _ M hM => run_of [(47, .b true), (53, .e ([num k, num i, num s', strX tx, .sl false 6 vl, .sl false 7 vf, num n', num t', .sl false 10 its, .sl false 6 vs])), (57, .p (boolX z)), (8, .b true), (61, .b false), (78, .b false), (83, .b false), (89, .b true)] [] (pf8 hlt hg (hz M hM) h1 h2 h14 h15 h16) (lo' := []) (by kernel_rfl), fun hP => absurd hP (by simp)⟩
          | false =>
            exact ⟨fun _ M hM => run_of [(47, .b true), (53, .e ([num k, num i, num s', strX tx, .sl false 6 vl, .sl false 7 vf, num n', num t', .sl false 10 its, .sl false 6 vs])), (57, .p (boolX z)), (8, .b true), (61, .b false), (78, .b false), (83, .b false), (89, .b false), (94, .b false), (108, .b true)] [] (pf10 hlt hg (hz M hM) h1 h2 h14 h15 h16 hk8 hk) (lo' := []) (by kernel_rfl), fun hP => absurd hP (by simp)⟩
  | false =>
    cases h17 : (k == 2) with
    | true =>
      cases h18 : (decide (i > 0)) with
      | true =>
        cases h19 : (i == t') with
        | true =>
          cases h20 : (n' != 0) with
          | true =>
            exact ⟨fun _ M hM => run_of [(47, .b true), (53, .e ([num k, num i, num s', strX tx, .sl false 6 vl, .sl false 7 vf, num n', num t', .sl false 10 its, .sl false 6 vs])), (57, .p (boolX z)), (8, .b false), (61, .b true), (66, .b true), (74, .b true), (78, .b true)] [] (pf8 hlt hg (hz M hM) h1 h17 h18 h19 h20) (lo' := []) (by kernel_rfl), fun hP => absurd hP (by simp)⟩
          | false =>
            cases h21 : (decide (Int.ofNat vs.length > 0)) with
            | true =>
              exact ⟨fun _ M hM => run_of [(47, .b true), (53, .e ([num k, num i, num s', strX tx, .sl false 6 vl, .sl false 7 vf, num n', num t', .sl false 10 its, .sl false 6 vs])), (57, .p (boolX z)), (8, .b false), (61, .b true), (66, .b true), (74, .b true), (78, .b false), (83, .b true)] [] (pf9 hlt hg (hz M hM) h1 h17 h18 h19 h20 h21) (lo' := []) (by kernel_rfl), fun hP => absurd hP (by simp)⟩
            | false =>
              cases h22 : (Int.ofNat its.length == 0) with
              | true =>
                exact ⟨fun _ M hM => run_of [(47, .b true), (53, .e ([num k, num i, num s', strX tx, .sl false 6 vl, .sl false 7 vf, num n', num t', .sl false 10 its, .sl false 6 vs])), (57, .p (boolX z)), (8, .b false), (61, .b true), (66, .b true), (74, .b true), (78, .b false), (83, .b false), (89, .b true)] [] (pf10 hlt hg (hz M hM) h1 h17 h18 h19 h20 h21 h22) (lo' := []) (by kernel_rfl), fun hP => absurd hP (by simp)⟩
              | false =>
                exact ⟨fun hP => absurd hP (by simp), fun _ M hM => run_of [(47, .b true), (53, .e ([num k, num i, num s', strX tx, .sl false 6 vl, .sl false 7 vf, num n', num t', .sl false 10 its, .sl false 6 vs])), (57, .p (boolX z)), (8, .b false), (61, .b true), (66, .b true), (74, .b true), (78, .b false), (83, .b false), (89, .b false), (94, .b false), (108, .b true), (49, .i (Int.ofNat (j + 1)))] [] (pf13 hlt hg (hz M hM) h1 h17 h18 h19 h20 h21 h22 hk8 hk (next_nat (j := j) (by omega))) (lo' := []) (by kernel_rfl)⟩
        | false =>
          cases h23 : (n' != 0) with
          | true =>
            exact ⟨fun _ M hM => run_of [(47, .b true), (53, .e ([num k, num i, num s', strX tx, .sl false 6 vl, .sl false 7 vf, num n', num t', .sl false 10 its, .sl false 6 vs])), (57, .p (boolX z)), (8, .b false), (61, .b true), (66, .b true), (74, .b false), (78, .b true)] [] (pf8 hlt hg (hz M hM) h1 h17 h18 h19 h23) (lo' := []) (by kernel_rfl), fun hP => absurd hP (by simp)⟩
          | false =>
            cases h24 : (decide (Int.ofNat vs.length > 0)) with
            | true =>
              exact ⟨fun _ M hM => run_of [(47, .b true), (53, .e ([num k, num i, num s', strX tx, .sl false 6 vl, .sl false 7 vf, num n', num t', .sl false 10 its, .sl false 6 vs])), (57, .p (boolX z)), (8, .b false), (61, .b true), (66, .b true), (74, .b false), (78, .b false), (83, .b true)] [] (pf9 hlt hg (hz M hM) h1 h17 h18 h19 h23 h24) (lo' := []) (by kernel_rfl), fun hP => absurd hP (by simp)⟩
            | false =>
              cases h25 : (Int.ofNat its.length == 0) with
              | true =>
                exact ⟨fun _ M hM => run_of [(47, .b true), (53, .e ([num k, num i, num s', strX tx, .sl false 6 vl, .sl false 7 vf, num n', num t', .sl false 10 its, .sl false 6 vs])), (57, .p (boolX z)), (8, .b false), (61, .b true), (66, .b true), (74, .b false), (78, .b false), (83, .b false), (89, .b true)] [] (pf10 hlt hg (hz M hM) h1 h17 h18 h19 h23 h24 h25) (lo' := []) (by kernel_rfl), fun hP => absurd hP (by simp)⟩
              | false =>
                exact ⟨fun _ M hM => run_of [(47, .b true), (53, .e ([num k, num i, num s', strX tx, .sl false 6 vl, .sl false 7 vf, num n', num t', .sl false 10 its, .sl false 6 vs])), (57, .p (boolX z)), (8, .b false), (61, .b true), (66, .b true), (74, .b false), (78, .b false), (83, .b false), (89, .b false), (94, .b false), (108, .b true)] [] (pf12 hlt hg (hz M hM) h1 h17 h18 h19 h23 h24 h25 hk8 hk) (lo' := []) (by kernel_rfl), fun hP => absurd hP (by simp)⟩
      | false =>
        cases h26 : (n' != 0) with
        | true =>
          exact ⟨fun _ M hM => run_of [(47, .b true), (53, .e ([num k, num i, num s', strX tx, .sl false 6 vl, .sl false 7 vf, num n', num t', .sl false 10 its, .sl false 6 vs])), (57, .p (boolX z)), (8, .b false), (61, .b true), (66, .b false), (78, .b true)] [] (pf7 hlt hg (hz M hM) h1 h17 h18 h26) (lo' := []) (by kernel_rfl), fun hP => absurd hP (by simp)⟩
        | false =>
          cases h27 : (decide (Int.ofNat vs.length > 0)) with
          | true =>
            exact ⟨fun _ M hM => run_of [(47, .b true), (53, .e ([num k, num i, num s', strX tx, .sl false 6 vl, .sl false 7 vf, num n', num t', .sl false 10 its, .sl false 6 vs])), (57, .p (boolX z)), (8, .b false), (61, .b true), (66, .b false), (78, .b false), (83, .b true)] [] (pf8 hlt hg (hz M hM) h1 h17 h18 h26 h27) (lo' := []) (by kernel_rfl), fun hP => absurd hP (by simp)⟩
          | false =>
            cases h28 : (Int.ofNat its.length == 0) with
            | true =>
              exact ⟨fun _ M hM => run_of [(47, .b true), (53, .e ([num k, num i, num s', strX tx, .sl false 6 vl, .sl false 7 vf, num n', num t', .sl false 10 its, .sl false 6 vs])), (57, .p (boolX z)), (8, .b false), (61, .b true), (66, .b false), (78, .b false), (83, .b false), (89, .b true)] [] (pf9 hlt hg (hz M hM) h1 h17 h18 h26 h27 h28) (lo' := []) (by kernel_rfl), fun hP => absurd hP (by simp)⟩
            | false =>
              exact ⟨fun _ M hM => run_of [(47, .b true), (53, .e ([num k, num i, num s', strX tx, .sl false 6 vl, .sl false 7 vf, num n', num t', .sl false 10 its, .sl false 6 vs])), (57, .p (boolX z)), (8, .b false), (61, .b true), (66, .b false), (78, .b false), (83, .b false), (89, .b false), (94, .b false), (108, .b true)] [] (pf11 hlt hg (hz M hM) h1 h17 h18 h26 h27 h28 hk8 hk) (lo' := []) (by kernel_rfl), fun hP => absurd hP (by simp)⟩
    | false =>
      cases h29 : (n' != 0) with
      | true =>
        exact ⟨fun _ M hM => run_of [(47, .b true), (53, .e ([num k, num i, num s', strX tx, .sl false 6 vl, .sl false 7 vf, num n', num t', .sl false 10 its, .sl false 6 vs])), (57, .p (boolX z)), (8, .b false), (61, .b false), (78, .b true)] [] (pf6 hlt hg (hz M hM) h1 h17 h29) (lo' := []) (by kernel_rfl), fun hP => absurd hP (by simp)⟩
      | false =>
        cases h30 : (decide (Int.ofNat vs.length > 0)) with
        | true =>
          exact ⟨fun _ M hM => run_of [(47, .b true), (53, .e ([num k, num i, num s', strX tx, .sl false 6 vl, .sl false 7 vf, num n', num t', .sl false 10 its, .sl false 6 vs])), (57, .p (boolX z)), (8, .b false), (61, .b false), (78, .b false), (83, .b true)] [] (pf7 hlt hg (hz M hM) h1 h17 h29 h30) (lo' := []) (by kernel_rfl), fun hP => absurd hP (by simp)⟩
        | false =>
          cases h31 : (Int.ofNat its.length == 0) with
          | true =>
            exact ⟨fun _ M hM => run_of [(47, .b true), (53, .e ([num k, num i, num s', strX tx, .sl false 6 vl, .sl false 7 vf, num n', num t', .sl false 10 its, .sl false 6 vs])), (57, .p (boolX z)), (8, .b false), (61, .b false), (78, .b false), (83, .b false), (89, .b true)] [] (pf8 hlt hg (hz M hM) h1 h17 h29 h30 h31) (lo' := []) (by kernel_rfl), fun hP => absurd hP (by simp)⟩
          | false =>
            exact ⟨fun _ M hM => run_of [(47, .b true), (53, .e ([num k, num i, num s', strX tx, .sl false 6 vl, .sl false 7 vf, num n', num t', .sl false 10 its, .sl false 6 vs])), (57, .p (boolX z)), (8, .b false), (61, .b false), (78, .b false), (83, .b false), (89, .b false), (94, .b false), (108, .b true)] [] (pf10 hlt hg (hz M hM) h1 h17 h29 h30 h31 hk8 hk) (lo' := []) (by kernel_rfl), fun hP => absurd hP (by simp)⟩
end Go.Proofs.YtjfheahakfoofaaGreatDoor

/- The document's check of a state, and the program's: what they hand back. -/
namespace Go.Proofs.YtjfheahakfoofaaGreatDoor
open Go.Em

/-- What a check hands back, by what the check of the slots does. -/
def checkF (n : Nod) (s : Stt) (c : Int) : Int := if n.kind = 7 then (if c ≠ 0 then c else if rightS s then 0 else 10) else if n.kind = 8 then (if c ≠ 0 then c else if delayedS s then 0 else 10) else 11
def dSlt : Slt := ⟨.mk 0 0 0 ⟨#[]⟩ [] [], 0, 0, [], []⟩

theorem mc_end (n : Nod) (a b : Int) (l : List (List X)) (M : Nat) : run (callF tab ext M) 0 M (loopAt 10 0) (mkH n a b l l.length) = some (.exit 0, ⟨[(2, .ptr 0 0 0), (3, .ptr 1 0 0), (6, nat l.length), (47, boolX false)], [.var n.cells, .var [num a, num b, .sl false 10 l]]⟩) :=
  run_of [(47, .b false)] [] (pf1 (nlt_nat (j := l.length) (k := l.length) (Nat.lt_irrefl _))) (lo' := []) (by kernel_rfl)
theorem mcheck_pure (n : Nod) (s : Stt) (hs : s.small) (c : Int) (hc : ∀ N, 190060 ≤ N → Gam.pureD (callF tab ext N) 27 [.agg s.cells] = some (num c)) (N : Nat) (hN : 190070 ≤ N) : Gam.pureD (callF tab ext N) 10 [.agg n.cells, .agg s.cells] = some (num (checkF n s c)) := by
  obtain ⟨M, rfl⟩ : ∃ M, N = M + 1 := ⟨N - 1, by omega⟩
  have hc := hc M (by omega)
  have hl := hs.slots
  unfold checkF
  by_cases hk : n.kind = 7
  · have k1 : (n.kind == 7) = true := by simp [hk]
    have k2 : (n.kind == 8) = false := by simp [hk]
    have k3 : (n.kind != 7) = false := by simp [hk]
    rw [if_pos hk]
    cases h1 : (c != 0) with
    | true =>
      rw [if_pos (by simpa using h1)]
      exact pure_of [(12, .b false), (19, .p (num c)), (21, .b true)] [] (pf3 k3 hc h1) (x := num c) (bx := []) (by kernel_rfl) rfl
    | false =>
      rw [if_neg (by simpa using h1)]
      obtain ⟨a, b, ss⟩ := s
      dsimp only at hl
      have hn := sltsC_length ss
      unfold rightS
      dsimp only
      cases h2 : decide (a < 0) with
      | true => exact pure_of [(12, .b false), (19, .p (num c)), (21, .b false), (25, .b true), (28, .b true)] [] (pf5 k3 hc h1 k1 h2) (x := num 10) (bx := []) (by kernel_rfl) rfl
      | false =>
        cases h3 : decide (1 < Int.ofNat (sltsC ss).length) with
        | true => exact pure_of [(12, .b false), (19, .p (num c)), (21, .b false), (25, .b true), (28, .b false), (33, .b true)] [] (pf6 k3 hc h1 k1 h2 h3) (x := num 10) (bx := []) (by kernel_rfl) rfl
        | false =>
          have hget : ∀ j (h : j < ss.length), ss.getD j dSlt = ss[j] := fun j h => by simp [List.getD, h]
          have hround : ∀ j (h : j < ss.length), (badT ss[j] = true → ∀ M, 60010 ≤ M → run (callF tab ext M) 0 M (loopAt 10 0) (mkH n a b (sltsC ss) j) = some (.ret, mkR n a b (sltsC ss) ss[j].cells)) ∧ (badT ss[j] = false → ∀ M, 60010 ≤ M → run (callF tab ext M) 0 M (loopAt 10 0) (mkH n a b (sltsC ss) j) = some (.norm, mkN n a b (sltsC ss) j ss[j].cells)) := fun j h => by
            have hg := sltsC_get h
            generalize ss[j] = x at hg
            obtain ⟨⟨k0, i0, s0, t0, l0, f0⟩, n0, d0, items, vals⟩ := x
            exact mc7 n k1 k2 a b (sltsC ss) j (by omega) (by omega) k0 i0 s0 d0 n0 t0 (cellsL l0) (cellsF f0) (msgsC items) (cellsL vals) (nullV (.mk k0 i0 s0 t0 l0 f0)) hg (fun N hN => null_at (.mk k0 i0 s0 t0 l0 f0) N (by omega))
          have hsc := scanP (nIn := 0) (B := 60010) (b := loopAt 10 0) (H := fun j => mkH n a b (sltsC ss) j) (τ := mkH n a b (sltsC ss) 0) (n := ss.length) (e := .exit 0) (fin := ⟨[(2, .ptr 0 0 0), (3, .ptr 1 0 0), (6, nat (sltsC ss).length), (47, boolX false)], [.var n.cells, .var [num a, num b, .sl false 10 (sltsC ss)]]⟩)
            (fun j => badT (ss.getD j dSlt)) (fun j => mkR n a b (sltsC ss) (ss.getD j dSlt).cells) (fun j => mkN n a b (sltsC ss) j (ss.getD j dSlt).cells) (by kernel_rfl)
            (fun j hj hP => by
              rw [hget j hj] at hP ⊢
              exact (hround j hj).1 hP)
            (fun j hj hP => by
              rw [hget j hj] at hP ⊢
              refine ⟨?_, (hround j hj).2 hP⟩
              generalize ss[j] = x
              obtain ⟨⟨k0, i0, s0, t0, l0, f0⟩, n0, d0, items, vals⟩ := x
              kernel_rfl)
            (fun M _ => by
              have := mc_end n a b (sltsC ss) M
              rw [hn] at this ⊢; exact this) (by simp)
          rcases hsc with ⟨j, hj, hP, _, h⟩ | ⟨hall, h⟩
          · rw [hget j hj] at hP
            have hf : (ss.all fun x => !badT x) = false := by
              rw [List.all_eq_false]
              exact ⟨ss[j], List.getElem_mem hj, by simp [hP]⟩
            rw [hf]
            have h := h M (by omega) (by omega)
            generalize (ss.getD j dSlt).cells = z at h
            exact pure_of [(12, .b false), (19, .p (num c)), (21, .b false), (25, .b true), (28, .b false), (33, .b false)] [(.ret, mkR n a b (sltsC ss) z)] (pf7 k3 hc h1 k1 h2 h3 h) (x := num 10) (bx := []) (by kernel_rfl) rfl
          · have hf : (ss.all fun x => !badT x) = true := by
              rw [List.all_eq_true]
              intro x hx
              obtain ⟨j, hj, rfl⟩ := List.mem_iff_getElem.1 hx
              have := hall j hj
              rw [hget j hj] at this
              simp [this]
            rw [hf]
            exact pure_of [(12, .b false), (19, .p (num c)), (21, .b false), (25, .b true), (28, .b false), (33, .b false)] [(.exit 0, ⟨[(2, .ptr 0 0 0), (3, .ptr 1 0 0), (6, nat (sltsC ss).length), (47, boolX false)], [.var n.cells, .var [num a, num b, .sl false 10 (sltsC ss)]]⟩)] (pf7 k3 hc h1 k1 h2 h3 (h M (by omega) (by omega))) (x := num 0) (bx := []) (by kernel_rfl) rfl
  · rw [if_neg hk]
    have k1 : (n.kind == 7) = false := by simp [hk]
    have k3 : (n.kind != 7) = true := by simp [hk]
    by_cases hk8 : n.kind = 8
    · have k2 : (n.kind == 8) = true := by simp [hk8]
      have k4 : (n.kind != 8) = false := by simp [hk8]
      rw [if_pos hk8]
      cases h1 : (c != 0) with
      | true =>
        rw [if_pos (by simpa using h1)]
        exact pure_of [(12, .b true), (16, .b false), (19, .p (num c)), (21, .b true)] [] (pf4 k3 k4 hc h1) (x := num c) (bx := []) (by kernel_rfl) rfl
      | false =>
        rw [if_neg (by simpa using h1)]
        obtain ⟨a, b, ss⟩ := s
        dsimp only at hl
        have hn := sltsC_length ss
        unfold delayedS
        dsimp only
        cases h2 : (!(a == 0)) with
        | true => exact pure_of [(12, .b true), (16, .b false), (19, .p (num c)), (21, .b false), (25, .b false), (37, .b true)] [] (pf6 k3 k4 hc h1 k1 h2) (x := num 10) (bx := []) (by kernel_rfl) rfl
        | false =>
          cases h3 : (!(b == 0)) with
          | true => exact pure_of [(12, .b true), (16, .b false), (19, .p (num c)), (21, .b false), (25, .b false), (37, .b false), (41, .b true)] [] (pf7 k3 k4 hc h1 k1 h2 h3) (x := num 10) (bx := []) (by kernel_rfl) rfl
          | false =>
            have hget : ∀ j (h : j < ss.length), ss.getD j dSlt = ss[j] := fun j h => by simp [List.getD, h]
            have hround : ∀ j (h : j < ss.length), (badD ss[j] = true → ∀ M, 60010 ≤ M → run (callF tab ext M) 0 M (loopAt 10 0) (mkH n a b (sltsC ss) j) = some (.ret, mkR n a b (sltsC ss) ss[j].cells)) ∧ (badD ss[j] = false → ∀ M, 60010 ≤ M → run (callF tab ext M) 0 M (loopAt 10 0) (mkH n a b (sltsC ss) j) = some (.norm, mkN n a b (sltsC ss) j ss[j].cells)) := fun j h => by
              have hg := sltsC_get h
              generalize ss[j] = x at hg
              obtain ⟨⟨k0, i0, s0, t0, l0, f0⟩, n0, d0, items, vals⟩ := x
              have := mc8 n k2 k1 a b (sltsC ss) j (by omega) (by omega) k0 i0 s0 d0 n0 t0 (cellsL l0) (cellsF f0) (msgsC items) (cellsL vals) (nullV (.mk k0 i0 s0 t0 l0 f0)) hg (fun N hN => null_at (.mk k0 i0 s0 t0 l0 f0) N (by omega))
              have e : badD ⟨.mk k0 i0 s0 t0 l0 f0, n0, d0, items, vals⟩ = ((Int.ofNat (msgsC items).length == 0) || ((!(k0 == 2)) || ((!decide (i0 > 0)) || ((!(i0 == d0)) || ((n0 != 0) || decide (Int.ofNat (cellsL vals).length > 0)))))) := by
                have e1 : decide (i0 < 1) = (!decide (i0 > 0)) := by
                  by_cases h : i0 < 1
                  · rw [decide_eq_true h, decide_eq_false (by omega)]; rfl
                  · rw [decide_eq_false h, decide_eq_true (by omega)]; rfl
                unfold badD
                dsimp only
                rw [e1]; rfl
              rw [e]
              exact this
            have hsc := scanP (nIn := 0) (B := 60010) (b := loopAt 10 0) (H := fun j => mkH n a b (sltsC ss) j) (τ := mkH n a b (sltsC ss) 0) (n := ss.length) (e := .exit 0) (fin := ⟨[(2, .ptr 0 0 0), (3, .ptr 1 0 0), (6, nat (sltsC ss).length), (47, boolX false)], [.var n.cells, .var [num a, num b, .sl false 10 (sltsC ss)]]⟩)
              (fun j => badD (ss.getD j dSlt)) (fun j => mkR n a b (sltsC ss) (ss.getD j dSlt).cells) (fun j => mkN n a b (sltsC ss) j (ss.getD j dSlt).cells) (by kernel_rfl)
              (fun j hj hP => by
                rw [hget j hj] at hP ⊢
                exact (hround j hj).1 hP)
              (fun j hj hP => by
                rw [hget j hj] at hP ⊢
                refine ⟨?_, (hround j hj).2 hP⟩
                generalize ss[j] = x
                obtain ⟨⟨k0, i0, s0, t0, l0, f0⟩, n0, d0, items, vals⟩ := x
                kernel_rfl)
              (fun M _ => by
                have := mc_end n a b (sltsC ss) M
                rw [hn] at this ⊢; exact this) (by simp)
            rcases hsc with ⟨j, hj, hP, _, h⟩ | ⟨hall, h⟩
            · rw [hget j hj] at hP
              have hf : (ss.all fun x => !badD x) = false := by
                rw [List.all_eq_false]
                exact ⟨ss[j], List.getElem_mem hj, by simp [hP]⟩
              rw [hf]
              have h := h M (by omega) (by omega)
              generalize (ss.getD j dSlt).cells = z at h
              exact pure_of [(12, .b true), (16, .b false), (19, .p (num c)), (21, .b false), (25, .b false), (37, .b false), (41, .b false)] [(.ret, mkR n a b (sltsC ss) z)] (pf8 k3 k4 hc h1 k1 h2 h3 h) (x := num 10) (bx := []) (by kernel_rfl) rfl
            · have hf : (ss.all fun x => !badD x) = true := by
                rw [List.all_eq_true]
                intro x hx
                obtain ⟨j, hj, rfl⟩ := List.mem_iff_getElem.1 hx
                have := hall j hj
                rw [hget j hj] at this
                simp [this]
              rw [hf]
              exact pure_of [(12, .b true), (16, .b false), (19, .p (num c)), (21, .b false), (25, .b false), (37, .b false), (41, .b false)] [(.exit 0, ⟨[(2, .ptr 0 0 0), (3, .ptr 1 0 0), (6, nat (sltsC ss).length), (47, boolX false)], [.var n.cells, .var [num a, num b, .sl false 10 (sltsC ss)]]⟩)] (pf8 k3 k4 hc h1 k1 h2 h3 (h M (by omega) (by omega))) (x := num 0) (bx := []) (by kernel_rfl) rfl
    · have k4 : (n.kind != 8) = true := by simp [hk8]
      rw [if_neg hk8]
      exact pure_of [(12, .b true), (16, .b true)] [] (pf2 k3 k4) (x := num 11) (bx := []) (by kernel_rfl) rfl

theorem check_pure (n : Nod) (s : Stt) (hs : s.small) (c : Int) (hc : ∀ N, 190060 ≤ N → Gam.pureD (callF tab ext N) 27 [.agg s.cells] = some (num c)) (N : Nat) (hN : 190070 ≤ N) : Gam.pureD (callF tab ext N) 14 [.agg n.cells, .agg s.cells] = some (num (checkF n s c)) := by
  obtain ⟨M, rfl⟩ : ∃ M, N = M + 1 := ⟨N - 1, by omega⟩
  have hc := hc M (by omega)
  have hr := right_pure s hs.ok M (by omega)
  have hd := delayed_pure s hs.ok M (by omega)
  unfold checkF
  generalize rightS s = p at hr ⊢
  generalize delayedS s = q at hd ⊢
  by_cases hk : n.kind = 7
  · have k1 : (n.kind == 7) = true := by simp [hk]
    have k2 : (n.kind == 8) = false := by simp [hk]
    have k3 : (!(n.kind == 7)) = false := by simp [hk]
    rw [if_pos hk]
    cases h1 : (c != 0) with
    | true =>
      rw [if_pos (by simpa using h1)]
      exact pure_of [(8, .b false), (15, .p (num c)), (17, .b true)] [] (pf3 k3 hc h1) (x := num c) (bx := []) (by kernel_rfl) rfl
    | false =>
      rw [if_neg (by simpa using h1)]
      cases p with
      | true => exact pure_of [(8, .b false), (15, .p (num c)), (17, .b false), (21, .b true), (24, .p (boolX true)), (30, .b false)] [] (pf6 k3 hc h1 k1 hr k2) (x := num (0)) (bx := []) (by kernel_rfl) rfl
      | false => exact pure_of [(8, .b false), (15, .p (num c)), (17, .b false), (21, .b true), (24, .p (boolX false))] [] (pf5 k3 hc h1 k1 hr) (x := num (10)) (bx := []) (by kernel_rfl) rfl
  · have k1 : (n.kind == 7) = false := by simp [hk]
    have k3 : (!(n.kind == 7)) = true := by simp [hk]
    rw [if_neg hk]
    by_cases hk8 : n.kind = 8
    · have k2 : (n.kind == 8) = true := by simp [hk8]
      have k4 : (!(n.kind == 8)) = false := by simp [hk8]
      rw [if_pos hk8]
      cases h1 : (c != 0) with
      | true =>
        rw [if_pos (by simpa using h1)]
        exact pure_of [(8, .b true), (12, .b false), (15, .p (num c)), (17, .b true)] [] (pf4 k3 k4 hc h1) (x := num c) (bx := []) (by kernel_rfl) rfl
      | false =>
        rw [if_neg (by simpa using h1)]
        cases q with
        | true => exact pure_of [(8, .b true), (12, .b false), (15, .p (num c)), (17, .b false), (21, .b false), (30, .b true), (33, .p (boolX true))] [] (pf7 k3 k4 hc h1 k1 k2 hd) (x := num (0)) (bx := []) (by kernel_rfl) rfl
        | false => exact pure_of [(8, .b true), (12, .b false), (15, .p (num c)), (17, .b false), (21, .b false), (30, .b true), (33, .p (boolX false))] [] (pf7 k3 k4 hc h1 k1 k2 hd) (x := num (10)) (bx := []) (by kernel_rfl) rfl
    · have k4 : (!(n.kind == 8)) = true := by simp [hk8]
      rw [if_neg hk8]
      exact pure_of [(8, .b true), (12, .b true)] [] (pf2 k3 k4) (x := num (11)) (bx := []) (by kernel_rfl) rfl
theorem known_at (N : Nat) : Gam.pureD (callF tab ext (N + 400)) 9 [] = some (boolX true) := by kernel_rfl
end Go.Proofs.YtjfheahakfoofaaGreatDoor

/- The document's step of a throttle as a whole. -/
namespace Go.Proofs.YtjfheahakfoofaaGreatDoor
open Go.Em
section
variable {a b c d e f g h i j k l m n o p : Prop}
theorem pf15 (h1 : a) (h2 : allP [b, c, d, e, f, g, h, i, j, k, l, m, n, o]) : allP [a, b, c, d, e, f, g, h, i, j, k, l, m, n, o] := ⟨h1, h2⟩
theorem pf16 (h1 : a) (h2 : b) (h3 : allP [c, d, e, f, g, h, i, j, k, l, m, n, o, p]) : allP [a, b, c, d, e, f, g, h, i, j, k, l, m, n, o, p] := ⟨h1, h2, h3⟩
end
theorem ftesB_succ (bb : Bool) (nm : ByteArray) (b : Stp) (ms : List Msg) (m : Nat) : ftesB bb (fatesF nm b ms (m + 1)) = ftesB bb (fatesF nm b ms m) ++ [(fateM nm b (ms.getD m dM) m).cellsB bb] := by simp [fatesF, ftesB, List.range_succ]
theorem fatesB_length (bb : Bool) (nm : ByteArray) (b : Stp) (ms : List Msg) (m : Nat) : (ftesB bb (fatesF nm b ms m)).length = m := by simp [fatesF, ftesB]
theorem mreleased_pure (M : Nat) (hM : 190020 ≤ M) (n : Nod) (x0 y0 : Int) (rest : List (List X)) (i : Inp) (hi : i.ok) (ms : List Msg) (hms : ∀ m, m ∈ ms → m.ok) (hl : ms.length < 4000) :
    callF tab ext (M + 1) (.fn 50) [.agg n.cells, .agg [num x0, num y0, .sl false 10 rest, .sl true 11 [], .sl true 11 [], .sl true 6 [], .sl true 10 []], .agg i.cells, .sl false 10 (msgsC ms)] []
      = some (.agg [num x0, num y0, .sl false 10 rest, .bs 0 0 ms.length, .sl true 11 [], .bs 1 0 ms.length, .sl true 10 []], [.row 11 (otpsC (outsF i.st ms ms.length)), .row 6 (ftesB true (fatesF n.name i.st ms ms.length))]) := by
  have hn := msgsC_length ms
  have hloop : run (callF tab ext M) 0 M (.loop (loopAt 50 0)) (rdH n x0 y0 false rest [] [] (msgsC ms) i.cells 0 0) = some (.exit 0, rdE n x0 y0 false rest (otpsC (outsF i.st ms ms.length)) (ftesB true (fatesF n.name i.st ms ms.length)) (msgsC ms) i.cells ms.length ms.length) := by
    refine loop_for (σ := fun j => rdH n x0 y0 false rest (otpsC (outsF i.st ms j)) (ftesB true (fatesF n.name i.st ms j)) (msgsC ms) i.cells j j) (k := ms.length) ?_ (fun j hj => ?_) ?_ (by simp) (by omega)
    · rw [inX_cells]
      obtain ⟨kd, tm, ⟨se, sp⟩, ⟨⟨ie, ip⟩, ims, io, ⟨g1, g2, g3, g4, g5, g6⟩⟩, x, b1, b2, ⟨c1, c2, c3, c4, c5, c6⟩⟩ := i
      exact rd_canon ..
    · have h := rd_round M (by omega) n x0 y0 false rest (otpsC (outsF i.st ms j)) (ftesB true (fatesF n.name i.st ms j)) (msgsC ms) j j i hi (ms.getD j dM) (hms _ (getD_mem hj)) (msgs_getD hj) (by omega) (by omega) (outsF_length _ _ _) (fatesB_length _ _ _ _ _) (by omega)
      rw [← outsF_succ, ← ftesB_succ] at h
      exact h
    · generalize otpsC (outsF i.st ms ms.length) = o1
      generalize ftesB true (fatesF n.name i.st ms ms.length) = f1
      rw [← hn]
      exact run_of [(14, .b false)] [] (pf1 (nlt_nat (j := (msgsC ms).length) (k := (msgsC ms).length) (Nat.lt_irrefl _))) (lo' := []) (by kernel_rfl)
  generalize otpsC (outsF i.st ms ms.length) = o1 at hloop ⊢
  generalize ftesB true (fatesF n.name i.st ms ms.length) = f1 at hloop ⊢
  generalize ms.length = k at hloop ⊢
  rw [inX_cells] at hloop ⊢
  obtain ⟨kd, tm, ⟨se, sp⟩, ⟨⟨ie, ip⟩, ims, io, ⟨g1, g2, g3, g4, g5, g6⟩⟩, x, b1, b2, ⟨c1, c2, c3, c4, c5, c6⟩⟩ := i
  exact callF_of [] [(.exit 0, rdE n x0 y0 false rest o1 f1 (msgsC ms) (inX se kd tm (intsC sp) ie (intsC ip) ims (intsC io) g1 g2 g3 g4 (cellsL g5) (cellsF g6) x b1 b2 c1 c2 c3 c4 (cellsL c5) (cellsF c6)) k k)] (pf1 hloop) (by kernel_rfl)

theorem mreleased_data (M : Nat) (hM : 190020 ≤ M) (n : Nod) (x0 y0 : Int) (rest : List (List X)) (i : Inp) (hi : i.ok) (ms : List Msg) (hms : ∀ m, m ∈ ms → m.ok) (hl : ms.length < 4000) :
    Gam.pureD (callF tab ext (M + 1)) 50 [.agg n.cells, .agg [num x0, num y0, .sl false 10 rest, .sl true 11 [], .sl true 11 [], .sl true 6 [], .sl true 10 []], .agg i.cells, .sl false 10 (msgsC ms)]
      = some (.agg [num x0, num y0, .sl false 10 rest, .sl false 11 (otpsC (outsF i.st ms ms.length)), .sl false 11 [], .sl false 6 (ftesB true (fatesF n.name i.st ms ms.length)), .sl false 10 []]) := by
  refine pureD_of (mreleased_pure M hM n x0 y0 rest i hi ms hms hl) ?_
  have ho := outsF_length i.st ms ms.length
  have hf := fatesB_length true n.name i.st ms ms.length
  generalize otpsC (outsF i.st ms ms.length) = o1 at ho ⊢
  generalize ftesB true (fatesF n.name i.st ms ms.length) = f1 at hf ⊢
  generalize ms.length = k at ho hf ⊢
  subst ho
  simp [X.data, dataL, rowOf, num, hf]
  rw [List.take_of_length_le (Nat.le_of_eq hf)]
theorem getD_take {ms : List Msg} {k i : Nat} (h : i < k) : (ms.take k).getD i dM = ms.getD i dM := by simp [List.getD, h]
theorem outsF_take (b : Stp) (ms : List Msg) (k : Nat) : outsF b (ms.take k) k = outsF b ms k := by
  unfold outsF
  exact List.map_congr_left fun i hi => by rw [getD_take (List.mem_range.1 hi)]
theorem fatesF_take (nm : ByteArray) (b : Stp) (ms : List Msg) (k : Nat) : fatesF nm b (ms.take k) k = fatesF nm b ms k := by
  unfold fatesF
  exact List.map_congr_left fun i hi => by rw [getD_take (List.mem_range.1 hi)]

theorem marr_pure (N : Nat) (hN : 190070 ≤ N) (n : Nod) (s : Stt) (ht : Thr s) (hs : s.small) (m : Msg) (hm : m.ok) (now : Int) : Gam.pureD (callF tab ext N) 51 [.agg n.cells, .agg s.cells, .agg m.cells, num now] = some (.agg ((arrF n s m now).cellsB true)) := by
  obtain ⟨M, rfl⟩ : ∃ M, N = M + 5 := ⟨N - 5, by omega⟩
  have hw := mheld_pure s hs (M + 4) (by omega)
  have hc := mcount_pure (M + 1) n s now
  have hn := mnumber_pure (M + 3) n
  have hl := mleft_pure M n s now 1
  have hlim := mlimit_pure (M + 3) n
  have hadd := mput_thr (M + 4) (by omega) s ht hs m hm
  have hrej := full_pure (M + 3) n s m
  unfold arrF
  have key : (if Int.ofNat (accOf s.slots).length < limF n.limit then plainO (addF s m) else rejF n s m) = (if decide (Int.ofNat (accOf s.slots).length < limF n.limit) = true then plainO (addF s m) else rejF n s m) := by
    simp only [decide_eq_true_eq]
  rw [key]
  generalize addF s m = s2 at hadd ⊢
  generalize rejF n s m = oc at hrej ⊢
  generalize leftF (perF n.time) s now 1 = s1 at hl ⊢
  generalize cntF (perF n.time) s.n s.t now = c at hc ⊢
  generalize numF n.number = nf at hn ⊢
  generalize limF n.limit = lim at hlim ⊢
  generalize (accOf s.slots).length = w at hw ⊢
  obtain ⟨⟨e, p⟩, ms, o, ⟨a1, a2, a3, a4, a5, a6⟩⟩ := m
  cases h1 : (Int.ofNat w == 0) with
  | true =>
    have e0 : w = 0 := by
      have := eq_of_beq h1
      simp only [Int.ofNat_eq_natCast] at this; omega
    cases h2 : decide (c < nf) with
    | true =>
      rw [if_pos ⟨e0, of_decide_eq_true h2⟩]
      exact pure_of [(11, .p (nat w)), (12, .b true), (17, .p (num c)), (19, .p (num nf)), (20, .b true), (25, .p (.agg s1.cells))] [] (pf6 hw h1 hc hn h2 hl)
        (x := .agg [num s1.n, num s1.t, .sl false 10 (sltsC s1.slots), .sl true 11 [(Otp.mk 0 ⟨⟨e, p⟩, ms, o, .mk a1 a2 a3 a4 a5 a6⟩).cells], .sl true 11 [], .sl true 6 [], .sl true 10 []]) (bx := []) (by kernel_rfl) rfl
    | false =>
      rw [if_neg fun h => of_decide_eq_false h2 h.2]
      cases h3 : decide (Int.ofNat w < lim) with
      | true =>
        exact pure_of [(11, .p (nat w)), (12, .b true), (17, .p (num c)), (19, .p (num nf)), (20, .b false), (32, .p (nat w)), (34, .p (num lim)), (35, .b true), (39, .p (.agg s2.cells))] [] (pf9 hw h1 hc hn h2 hw hlim h3 hadd)
          (x := .agg [num s2.n, num s2.t, .sl false 10 (sltsC s2.slots), .sl true 11 [], .sl true 11 [], .sl true 6 [], .sl true 10 []]) (bx := []) (by kernel_rfl) rfl
      | false =>
        exact pure_of [(11, .p (nat w)), (12, .b true), (17, .p (num c)), (19, .p (num nf)), (20, .b false), (32, .p (nat w)), (34, .p (num lim)), (35, .b false), (44, .p (.agg (oc.cellsB true)))] [] (pf9 hw h1 hc hn h2 hw hlim h3 hrej)
          (x := .agg (oc.cellsB true)) (bx := []) (by kernel_rfl) rfl
  | false =>
    have e0 : w ≠ 0 := fun e => by
      rw [e] at h1; exact absurd h1 (by decide)
    rw [if_neg fun h => e0 h.1]
    cases h3 : decide (Int.ofNat w < lim) with
    | true =>
      exact pure_of [(11, .p (nat w)), (12, .b false), (32, .p (nat w)), (34, .p (num lim)), (35, .b true), (39, .p (.agg s2.cells))] [] (pf6 hw h1 hw hlim h3 hadd)
        (x := .agg [num s2.n, num s2.t, .sl false 10 (sltsC s2.slots), .sl true 11 [], .sl true 11 [], .sl true 6 [], .sl true 10 []]) (bx := []) (by kernel_rfl) rfl
    | false =>
      exact pure_of [(11, .p (nat w)), (12, .b false), (32, .p (nat w)), (34, .p (num lim)), (35, .b false), (44, .p (.agg (oc.cellsB true)))] [] (pf6 hw h1 hw hlim h3 hrej)
        (x := .agg (oc.cellsB true)) (bx := []) (by kernel_rfl) rfl

theorem mclk_pure (N : Nat) (hN : 190170 ≤ N) (n : Nod) (s : Stt) (ht : Thr s) (hs : s.small) (i : Inp) (hi : i.ok) (now : Int) : Gam.pureD (callF tab ext N) 52 [.agg n.cells, .agg s.cells, .agg i.cells, num now] = some (.agg ((clkF n s i.st now).cellsB true)) := by
  obtain ⟨M, rfl⟩ : ∃ M, N = M + 101 := ⟨N - 101, by omega⟩
  have hw := mheld_pure s hs (M + 100) (by omega)
  have hc := mcount_pure (M + 97) n s now
  have hn := mnumber_pure (M + 99) n
  have hwait := waiting_pure s hs (M + 100) (by omega)
  have hl100 := thr_small ht hs
  have hok := accOf_ok hs
  have hlen := msgsC_length (accOf s.slots)
  unfold clkF
  dsimp only
  have hle : relN (accOf s.slots) (mostF n s now) ≤ (accOf s.slots).length := Nat.min_le_left _ _
  have hmx : (if Go.IntKind.i64.wrap (numF n.number - cntF (perF n.time) s.n s.t now) > 0 then Go.IntKind.i64.wrap (numF n.number - cntF (perF n.time) s.n s.t now) else 0) = maxI 0 (mostF n s now) := rfl
  have hk : (if maxI 0 (mostF n s now) < Int.ofNat (accOf s.slots).length then maxI 0 (mostF n s now) else Int.ofNat (accOf s.slots).length) = Int.ofNat (relN (accOf s.slots) (mostF n s now)) := by
    unfold relN maxI
    simp only [Int.ofNat_eq_natCast]
    split <;> split <;> omega
  have hl := mleft_pure (M + 96) n s now (Int.ofNat (relN (accOf s.slots) (mostF n s now)))
  have hrel := fun x0 y0 rest => mreleased_data (M + 99) (by omega) n x0 y0 rest i hi ((accOf s.slots).take (relN (accOf s.slots) (mostF n s now))) (fun m hm => hok m (List.mem_of_mem_take hm)) (by rw [List.length_take]; omega)
  generalize maxI 0 (mostF n s now) = mx at hmx hk
  generalize relN (accOf s.slots) (mostF n s now) = k at hk hle hl hrel ⊢
  have htk : ((accOf s.slots).take k).length = k := by rw [List.length_take]; omega
  rw [htk, outsF_take, fatesF_take] at hrel
  have hmt : msgsC ((accOf s.slots).take k) = ((msgsC (accOf s.slots)).take k).drop 0 := by simp [msgsC]
  rw [hmt] at hrel
  by_cases hk0 : k = 0
  · rw [if_pos hk0]
    subst hk0
    generalize cntF (perF n.time) s.n s.t now = c at hc hmx
    generalize numF n.number = nf at hn hmx
    generalize (accOf s.slots).length = w at hw hk
    obtain ⟨kd, tm, ⟨se, sp⟩, ⟨⟨ie, ip⟩, ims, io, ⟨g1, g2, g3, g4, g5, g6⟩⟩, x, b1, b2, ⟨c1, c2, c3, c4, c5, c6⟩⟩ := i
    exact pure_of [(17, .p (nat w)), (19, .p (num nf)), (23, .p (num c)), (25, .i mx), (26, .i (Int.ofNat 0))] [] (pf5 hw hn hc hmx hk)
      (x := .agg [num s.n, num s.t, .sl false 10 (sltsC s.slots), .sl true 11 [], .sl true 11 [], .sl true 6 [], .sl true 10 []]) (bx := []) (by kernel_rfl) rfl
  · rw [if_neg hk0]
    cases ht with
    | none a b => simp [accOf] at hle; omega
    | one a b items vals hne =>
      have e1 : accOf [⟨nulV, 0, 0, items, vals⟩] = items := by simp [accOf]
      dsimp only at hle hw hk hwait hrel hlen hl100 ⊢
      rw [e1] at hle hw hk hwait hrel hlen hl100 ⊢
      unfold restF leftF
      unfold leftF at hl
      dsimp only at hl hc hmx ⊢
      have hrel := hrel (Go.IntKind.i64.wrap (cntF (perF n.time) a b now + Int.ofNat k)) (maxI b (winF (perF n.time) now)) (sltsC [⟨nulV, 0, 0, items, vals⟩])
      have h3 : decide (Int.ofNat (((msgsC items).take (msgsC items).length).drop k).length > 0) = decide (k < items.length) := by
        rw [List.take_length, List.length_drop, hlen]
        by_cases h : k < items.length
        · rw [decide_eq_true h]; exact gt_nat (j := items.length - k) (k := 0) (by omega)
        · rw [decide_eq_false h]; exact ngt_nat (j := items.length - k) (k := 0) (by omega)
      have hlt : decide (Int.ofNat (msgsC items).length < Int.ofNat k) = false := nlt_nat (by omega)
      have hk2 : (if Int.ofNat (msgsC items).length < Int.ofNat k then Int.ofNat (msgsC items).length else Int.ofNat k) = Int.ofNat k := by
        have h := min_int k (msgsC items).length
        rw [h, show min k (msgsC items).length = k by omega]
      have h0 : Go.IntKind.i64.wrap (Int.ofNat k - Int.ofNat k) = Int.ofNat 0 := by rw [sub_nat (by omega) (by omega), Nat.sub_self]
      have hcut : k ≤ (msgsC items).length ∧ (msgsC items).length ≤ (msgsC items).length := ⟨by omega, Nat.le_refl _⟩
      have hcut0 : 0 ≤ k ∧ k ≤ (msgsC items).length := ⟨by omega, by omega⟩
      have ho := outsF_length i.st items k
      have hf := fatesB_length true n.name i.st items k
      generalize Go.IntKind.i64.wrap (cntF (perF n.time) a b now + Int.ofNat k) = s1n at hl hrel ⊢
      generalize maxI b (winF (perF n.time) now) = s1t at hl hrel ⊢
      generalize cntF (perF n.time) a b now = c at hc hmx
      generalize numF n.number = nf at hn hmx
      generalize hos : outsF i.st items k = os at hrel ho ⊢
      generalize hfs : fatesF n.name i.st items k = fs at hrel hf ⊢
      have hkz := ne_zero hk0
      obtain ⟨kd, tm, ⟨se, sp⟩, ⟨⟨ie, ip⟩, ims, io, ⟨g1, g2, g3, g4, g5, g6⟩⟩, x, b1, b2, ⟨c1, c2, c3, c4, c5, c6⟩⟩ := i
      by_cases hlk : k < items.length
      · rw [if_pos hlk]
        rw [decide_eq_true hlk] at h3
        have hd : (X.agg [num s1n, num s1t, .bs 0 0 1, .sl false 11 (otpsC os), .sl false 11 [], .sl false 6 (ftesB true fs), .sl false 10 []]).data [.row 10 [slotC 0 0 0 ⟨#[]⟩ [] [] 0 0 (((msgsC items).take (msgsC items).length).drop k) (cellsL vals)]] false
            = some (.agg ((Ocm.mk ⟨s1n, s1t, [⟨nulV, 0, 0, items.drop k, vals⟩]⟩ os fs []).cellsB true)) := by
          have e5 : ((msgsC items).take (msgsC items).length).drop k = msgsC (items.drop k) := by rw [List.take_length]; simp [msgsC]
          rw [e5]
          simp [X.data, dataL, rowOf, num, Ocm.cellsB, msgsC, sltsC, Slt.cells, nulV, cellsL, cellsF]
        exact pure_of [(17, .p (nat items.length)), (19, .p (num nf)), (23, .p (num c)), (25, .i mx), (26, .i (Int.ofNat k)), (28, .b false), (32, .p (.sl false 10 (msgsC items))), (36, .b false), (44, .p (.agg [num s1n, num s1t, .sl false 10 [slotC 0 0 0 ⟨#[]⟩ [] [] 0 0 (msgsC items) (cellsL vals)]])), (49, .cut), (50, .p (.agg [num s1n, num s1t, .sl false 10 [slotC 0 0 0 ⟨#[]⟩ [] [] 0 0 (msgsC items) (cellsL vals)], .sl false 11 (otpsC os), .sl false 11 [], .sl false 6 (ftesB true fs), .sl false 10 []])), (67, .i (Int.ofNat k)), (70, .i (Int.ofNat 0)), (74, .cut), (77, .b false), (82, .b true)] []
          (pf16 hw hn (pf14 hc hmx hk hkz hwait hlt hl hcut0 hrel hk2 h0 hcut hkz h3)) (x := .agg [num s1n, num s1t, .bs 0 0 1, .sl false 11 (otpsC os), .sl false 11 [], .sl false 6 (ftesB true fs), .sl false 10 []]) (bx := [.row 10 [slotC 0 0 0 ⟨#[]⟩ [] [] 0 0 (((msgsC items).take (msgsC items).length).drop k) (cellsL vals)]]) (by kernel_rfl) hd
      · rw [if_neg hlk]
        rw [decide_eq_false hlk] at h3
        have hd : (X.agg [num s1n, num s1t, .bs 0 0 0, .sl false 11 (otpsC os), .sl false 11 [], .sl false 6 (ftesB true fs), .sl false 10 []]).data [.row 10 []] false
            = some (.agg ((Ocm.mk ⟨s1n, s1t, []⟩ os fs []).cellsB true)) := by
          simp [X.data, dataL, rowOf, num, Ocm.cellsB, msgsC, sltsC]
        exact pure_of [(17, .p (nat items.length)), (19, .p (num nf)), (23, .p (num c)), (25, .i mx), (26, .i (Int.ofNat k)), (28, .b false), (32, .p (.sl false 10 (msgsC items))), (36, .b false), (44, .p (.agg [num s1n, num s1t, .sl false 10 [slotC 0 0 0 ⟨#[]⟩ [] [] 0 0 (msgsC items) (cellsL vals)]])), (49, .cut), (50, .p (.agg [num s1n, num s1t, .sl false 10 [slotC 0 0 0 ⟨#[]⟩ [] [] 0 0 (msgsC items) (cellsL vals)], .sl false 11 (otpsC os), .sl false 11 [], .sl false 6 (ftesB true fs), .sl false 10 []])), (67, .i (Int.ofNat k)), (70, .i (Int.ofNat 0)), (74, .cut), (77, .b false), (82, .b false)] []
          (pf16 hw hn (pf14 hc hmx hk hkz hwait hlt hl hcut0 hrel hk2 h0 hcut hkz h3)) (x := .agg [num s1n, num s1t, .bs 0 0 0, .sl false 11 (otpsC os), .sl false 11 [], .sl false 6 (ftesB true fs), .sl false 10 []]) (bx := [.row 10 []]) (by kernel_rfl) hd

theorem mstep_thr (N : Nat) (hN : 190180 ≤ N) (n : Nod) (hk : n.kind ≠ 8) (s : Stt) (ht : Thr s) (hs : s.small) (i : Inp) (hi : i.ok) : Gam.pureD (callF tab ext N) 18 [.agg n.cells, .agg s.cells, .agg i.cells] = some (.agg ((thrF n s i).cellsB true)) := by
  obtain ⟨M, rfl⟩ : ∃ M, N = M + 1 := ⟨N - 1, by omega⟩
  have k8 : (n.kind == 8) = false := by simp [hk]
  have ha := marr_pure M (by omega) n s ht hs i.m hi.m (nowF i)
  have hc := mclk_pure M (by omega) n s ht hs i hi (nowF i)
  have hnow : (if 0 < (if 17592186044416 < i.time then 17592186044416 else i.time) then (if 17592186044416 < i.time then 17592186044416 else i.time) else 0) = nowF i := by
    unfold nowF clampF maxTime
    rw [minI_comm]; rfl
  unfold thrF
  generalize nowF i = now at ha hc hnow ⊢
  generalize arrF n s i.m now = oa at ha ⊢
  generalize clkF n s i.st now = oc at hc ⊢
  obtain ⟨kd, tm, ⟨se, sp⟩, ⟨⟨e, p⟩, ms, o, ⟨a1, a2, a3, a4, a5, a6⟩⟩, x, b1, b2, ⟨c1, c2, c3, c4, c5, c6⟩⟩ := i
  dsimp only at hnow ⊢
  by_cases h1 : kd = 1
  · have k1 : (kd == 1) = true := by simp [h1]
    have k2 : (kd == 2) = false := by simp [h1]
    rw [if_pos h1]
    exact pure_of [(15, .i now), (19, .b true), (23, .b false), (51, .b false), (99, .b true), (105, .p (.agg (oa.cellsB true)))] [] (pf6 hnow k1 k8 k2 k1 ha) (x := .agg (oa.cellsB true)) (bx := []) (by kernel_rfl) rfl
  · have k1 : (kd == 1) = false := by simp [h1]
    rw [if_neg h1]
    by_cases h2 : kd = 2
    · have k2 : (kd == 2) = true := by simp [h2]
      rw [if_pos h2]
      exact pure_of [(15, .i now), (19, .b false), (51, .b true), (55, .b false), (99, .b false), (109, .b true), (114, .p (.agg (oc.cellsB true)))] [] (pf7 hnow k1 k2 k8 k1 k2 hc) (x := .agg (oc.cellsB true)) (bx := []) (by kernel_rfl) rfl
    · have k2 : (kd == 2) = false := by simp [h2]
      rw [if_neg h2]
      exact pure_of [(15, .i now), (19, .b false), (51, .b false), (99, .b false), (109, .b false)] [] (pf5 hnow k1 k2 k1 k2) (x := .agg [num s.n, num s.t, .sl false 10 (sltsC s.slots), .sl true 11 [], .sl true 11 [], .sl true 6 [], .sl true 10 []]) (bx := []) (by kernel_rfl) rfl
end Go.Proofs.YtjfheahakfoofaaGreatDoor

/- The arguments of the laws, cut; nodes by their cells. -/
namespace Go.Proofs.YtjfheahakfoofaaGreatDoor
open Go.Em

/-- The cells of a node whose parts are looked at to the depth of layer 31. -/
def isNode (c : List X) : Prop := ∃ (name : ByteArray) (k1 k2 k3 k4 k5 k6 : Int) (text : ByteArray) (T : List X) (ty ex ru ca ne : List (List X)), c = [strX name, num k1, num k2, num k3, num k4, num k5, num k6, strX text] ++ (T ++ [.sl false 7 ty, .sl false 5 ex, .sl false 6 ru, .sl false 2 ca, .sl false 1 ne]) ∧ isTyp 3 T ∧ (∀ x, x ∈ ty → isTyp 3 x) ∧ (∀ x, x ∈ ex → isExp 3 x) ∧ (∀ x, x ∈ ru → isRule x) ∧ ∀ x, x ∈ ca → isCall x
theorem node_of {c : List X} (h : isNode c) : ∃ nd nd' : Nod, c = nd.cells ∧ ∀ N, 220 ≤ N → Gam.pureD (callF tab ext N) 19 [.agg nd.cells] = some (.agg nd'.cells) := by
  obtain ⟨name, k1, k2, k3, k4, k5, k6, text, T, ty, ex, ru, ca, ne, rfl, hT, hty, hex, hru, hca⟩ := h
  obtain ⟨a, b, c, d, w, e, f, a', b', c', d', w', e', f', ty', ex', ru', ca', ne', rfl, hc⟩ := short_node name text k1 k2 k3 k4 k5 k6 T ty ex ru ca ne hT hty hex hru hca
  exact ⟨⟨name, k1, k2, k3, k4, k5, k6, text, (a, b, c, d), w, e, f, ty, ex, ca, ru, ne⟩, ⟨cutT 60 name, k1, k2, k3, k4, k5, k6, cutT 60 text, (a', b', c', d'), w', e', f', ty', ex', ca', ru', ne'⟩, rfl, hc⟩
theorem given_pure (nd nd' : Nod) (hn : ∀ N, 220 ≤ N → Gam.pureD (callF tab ext N) 19 [.agg nd.cells] = some (.agg nd'.cells)) (s : Stt) (i : Inp) (N : Nat) (hN : 230 ≤ N) : Gam.pureD (callF tab ext N) 8 [.agg nd.cells, .agg s.cells, .agg i.cells] = some (.tup [.agg nd'.cells, .agg (shortS s).cells, .agg (shortN i).cells]) := by
  obtain ⟨M, rfl⟩ : ∃ M, N = M + 1 := ⟨N - 1, by omega⟩
  have h1 := hn M (by omega)
  have h2 := short_state s M (by omega)
  have h3 := short_inp i M (by omega)
  generalize shortS s = s' at h2 ⊢
  generalize shortN i = i' at h3 ⊢
  rw [inX_cells] at h3 ⊢
  rw [inX_cells i'] at h3 ⊢
  obtain ⟨kd, tm, ⟨se, sp⟩, ⟨⟨e, p⟩, ms, o, ⟨a1, a2, a3, a4, a5, a6⟩⟩, x, b1, b2, ⟨c1, c2, c3, c4, c5, c6⟩⟩ := i
  obtain ⟨kd', tm', ⟨se', sp'⟩, ⟨⟨e', p'⟩, ms', o', ⟨g1, g2, g3, g4, g5, g6⟩⟩, x', d1, d2, ⟨f1, f2, f3, f4, f5, f6⟩⟩ := i'
  exact pure_of [(10, .p (.agg nd'.cells)), (12, .p (.agg s'.cells)), (14, .p (.agg (inX se' kd' tm' (intsC sp') e' (intsC p') ms' (intsC o') g1 g2 g3 g4 (cellsL g5) (cellsF g6) x' d1 d2 f1 f2 f3 f4 (cellsL f5) (cellsF f6))))] [] (pf3 h1 h2 h3)
    (x := .tup [.agg nd'.cells, .agg s'.cells, .agg (inX se' kd' tm' (intsC sp') e' (intsC p') ms' (intsC o') g1 g2 g3 g4 (cellsL g5) (cellsF g6) x' d1 d2 f1 f2 f3 f4 (cellsL f5) (cellsF f6))]) (bx := []) (by kernel_rfl) rfl

/-! ### Sizes of outcomes -/
theorem childF_ok {s : Stp} (h : s.p.length ≤ 100) (k : Nat) : (childF s k).ok := ⟨by show (s.p ++ [Int.ofNat k]).length ≤ 60000; simp; omega⟩
theorem outsF_ok {b : Stp} (hb : b.p.length ≤ 100) {ms : List Msg} (hms : ∀ m, m ∈ ms → m.ok) {k : Nat} (hk : k ≤ ms.length) : ∀ x, x ∈ outsF b ms k → x.m.ok := by
  intro x hx
  obtain ⟨i, hi, rfl⟩ := List.mem_map.1 hx
  have := hms _ (getD_mem (ms := ms) (j := i) (by have := List.mem_range.1 hi; omega))
  exact ⟨childF_ok hb i, this.orig, this.body⟩
theorem fatesF_ok {nm : ByteArray} {b : Stp} (hb : b.p.length ≤ 100) {ms : List Msg} (hms : ∀ m, m ∈ ms → m.ok) {k : Nat} (hk : k ≤ ms.length) : ∀ x, x ∈ fatesF nm b ms k → x.ok := by
  intro x hx
  obtain ⟨i, hi, rfl⟩ := List.mem_map.1 hx
  have := hms _ (getD_mem (ms := ms) (j := i) (by have := List.mem_range.1 hi; omega))
  exact ⟨this.st, by show [childF b i].length ≤ 60000; simp, fun s hs => by rw [List.mem_singleton.1 hs]; exact childF_ok hb i⟩
theorem restF_ok {s : Stt} (hs : s.ok) (k : Nat) : (restF s k).ok := by
  obtain ⟨a, b, ss⟩ := s
  cases ss with
  | nil => exact hs
  | cons x r =>
    unfold restF
    dsimp only
    have hx := hs.slot x (by simp)
    split
    · refine ⟨by simp, fun y hy => ?_⟩
      rw [List.mem_singleton.1 hy]
      exact ⟨hx.key, by have := hx.items; show (x.items.drop k).length ≤ 60000; rw [List.length_drop]; omega, fun m hm => hx.item m (List.mem_of_mem_drop hm), hx.vals, hx.val⟩
    · exact ⟨by simp, fun y hy => by cases hy⟩
theorem addF_ok {s : Stt} (hs : s.small) {m : Msg} (hm : m.ok) : (addF s m).ok := by
  obtain ⟨a, b, ss⟩ := s
  cases ss with
  | nil =>
    refine ⟨by simp [addF], fun y hy => ?_⟩
    rw [List.mem_singleton.1 hy]
    exact ⟨by unfold Val.ok nulV; simp [Val.size, sizeL, sizeF], by simp, fun z hz => by rw [List.mem_singleton.1 hz]; exact hm, by simp, fun z hz => by cases hz⟩
  | cons x r =>
    obtain ⟨hx, hi, hv⟩ := hs.slot x (by simp)
    refine ⟨by simp [addF], fun y hy => ?_⟩
    rw [List.mem_singleton.1 hy]
    exact ⟨hx.key, by show (x.items ++ [m]).length ≤ 60000; simp; omega, fun z hz => by
      rcases List.mem_append.1 hz with hz | hz
      · exact hx.item z hz
      · rw [List.mem_singleton.1 hz]; exact hm, hx.vals, hx.val⟩
theorem nilP {α : Type} (p : α → Prop) : ([] : List α).length ≤ 60000 ∧ ∀ x, x ∈ ([] : List α) → p x := ⟨by simp, fun x hx => by cases hx⟩
theorem oneP {α : Type} (p : α → Prop) {a : α} (h : p a) : [a].length ≤ 60000 ∧ ∀ x, x ∈ [a] → p x := ⟨by simp, fun x hx => by rw [List.mem_singleton.1 hx]; exact h⟩
theorem Ocm.ok_of {s : Stt} {outs : List Otp} {fates : List Fte} {letters : List Msg} (h1 : s.ok) (h2 : outs.length ≤ 60000 ∧ ∀ x, x ∈ outs → x.m.ok) (h3 : fates.length ≤ 60000 ∧ ∀ x, x ∈ fates → x.ok) (h4 : letters.length ≤ 60000 ∧ ∀ x, x ∈ letters → x.ok) : (Ocm.mk s outs fates letters).ok := ⟨h1, h2.1, h2.2, h3.1, h3.2, h4.1, h4.2⟩
theorem plainO_ok {s : Stt} (h : s.ok) : (plainO s).ok := Ocm.ok_of h (nilP _) (nilP _) (nilP _)
theorem rejF_ok {n : Nod} {s : Stt} (hs : s.ok) {m : Msg} (hm : m.ok) : (rejF n s m).ok :=
  Ocm.ok_of hs (nilP _) (oneP _ ⟨hm.st, by simp, fun s hs => by cases hs⟩) (oneP _ hm)
theorem thrF_ok {n : Nod} {s : Stt} (ht : Thr s) (hs : s.small) {i : Inp} (hi : i.ok) : (thrF n s i).ok := by
  have hl := thr_small ht hs
  have hleft : ∀ p a k, (leftF p s a k).ok := fun p a k => ⟨hs.ok.slots, hs.ok.slot⟩
  unfold thrF
  split
  · unfold arrF
    split
    · exact Ocm.ok_of (hleft _ _ _) (oneP _ hi.m) (nilP _) (nilP _)
    · split
      · exact plainO_ok (addF_ok hs hi.m)
      · exact rejF_ok hs.ok hi.m
  · split
    · unfold clkF
      dsimp only
      have hle : relN (accOf s.slots) (mostF n s (nowF i)) ≤ (accOf s.slots).length := Nat.min_le_left _ _
      generalize relN (accOf s.slots) (mostF n s (nowF i)) = k at hle ⊢
      split
      · exact plainO_ok hs.ok
      · refine Ocm.ok_of (restF_ok (hleft _ _ _) k) ⟨?_, outsF_ok hi.st (accOf_ok hs) hle⟩ ⟨?_, fatesF_ok hi.st (accOf_ok hs) hle⟩ (nilP _)
        · show (outsF i.st (accOf s.slots) k).length ≤ 60000
          simp [outsF]; omega
        · show (fatesF n.name i.st (accOf s.slots) k).length ≤ 60000
          simp [fatesF]; omega
    · exact plainO_ok hs.ok
end Go.Proofs.YtjfheahakfoofaaGreatDoor
