/- mapping.Apply at the environment of a group: the rules, one after the other; the whole. -/
import Derived.Laws.Bits64
import Derived.Test.YthphniobeigklaaGreatDoorA12
set_option linter.all false
namespace Go.Proofs.YthphniobeigklaaGreatDoor.Ag
open Go Go.Em Go.Proofs.YthphniobeigklaaGreatDoor
set_option maxRecDepth 100000

noncomputable def recA (st : LoopState) (p : Option Ex) : Bx := .loop st p [(5, .ptr 2 0 0), (10, .ptr 3 0 0), (11, .ptr 4 0 0), (12, .ptr 5 0 0)] [31, 32] (rfAt 89).1 (rfAt 89).2
noncomputable def gA (most : Int) (fs : List (List X)) : List Bx := [recA .ready none, .var [.ptr 6 0 0], .var (tyV most), .var (recV fs), .var [num 0], .var [boolX false], .var [num 0]]
noncomputable def recY : Bx := .loop .ready none [(5, .ptr 1 0 0), (10, .ptr 2 0 0), (11, .ptr 3 0 0), (12, .ptr 4 0 0)] [31, 32] (rfAt 89).1 (rfAt 89).2
noncomputable def gY (most : Int) (fs : List (List X)) : List Bx := [recY, .var (tyV most), .var (recV fs), .var [num 0], .var [boolX false]]
def tgX : List (List X) := [[.sl false 3 [[num 1, num 0, strX keyNm]]], [.sl false 3 [[num 1, num 0, strX countNm]]], [.sl false 3 [[num 1, num 0, strX sumNm]]]]
noncomputable def itA (most : Int) (env fs : List (List X)) (j : Nat) : St := ⟨[(0, .yl 0), (2, .dp (recV env)), (3, .ptr 1 0 0), (5, .sl false 1 tgX), (13, .sl false 6 ruX), (14, num 3), (15, nat j)], gA most fs⟩
noncomputable def itE (most : Int) (env fs : List (List X)) : St := ⟨[(0, .yl 0), (2, .dp (recV env)), (3, .ptr 1 0 0), (5, .sl false 1 tgX), (13, .sl false 6 ruX), (14, num 3), (15, nat 3), (16, boolX false)], gA most fs⟩
def keyX : List X := [num 2, num 0, strX keyNm, .sl false 6 [], .sl false 5 []]
def countX : List X := [num 2, num 0, strX countNm, .sl false 6 [], .sl false 5 []]
theorem tg167 (N : Nat) : Gam.pureD (callF tab ext (N + 300)) 167 [.agg [.sl false 6 ruX]] = some (.sl false 1 tgX) := by kernel_rfl
theorem form115 (N : Nat) : Gam.pureD (callF tab ext (N + 300)) 115 [.agg [.sl false 6 ruX]] = some (num 0) := by kernel_rfl
theorem ev_key (k c : Int) (es : List (List X)) (N : Nat) : Gam.pureD (callF tab ext (N + 300)) 55 [.agg keyX, envX (groupFs es c k)] = some (.tup [.agg (kv k).cells, num 0]) := by kernel_rfl
theorem ev_count (k c : Int) (es : List (List X)) (N : Nat) : Gam.pureD (callF tab ext (N + 300)) 55 [.agg countX, envX (groupFs es c k)] = some (.tup [.agg (kv c).cells, num 0]) := by kernel_rfl
section
variable (most c k s : Int) (env : List (List X)) (N : Nat)
theorem y_key : callF tab ext (N + 300) .yl [.yl 0, .sl false 3 [[num 1, num 0, strX keyNm]], .agg (kv k).cells] (gY most []) = some (boolX true, gY most [strX keyNm :: (kv k).cells]) := by kernel_rfl
theorem y_count : callF tab ext (N + 300) .yl [.yl 0, .sl false 3 [[num 1, num 0, strX countNm]], .agg (kv c).cells] (gY most [strX keyNm :: (kv k).cells]) = some (boolX true, gY most [strX countNm :: (kv c).cells, strX keyNm :: (kv k).cells]) := by kernel_rfl
theorem y_sum : callF tab ext (N + 300) .yl [.yl 0, .sl false 3 [[num 1, num 0, strX sumNm]], .agg (kv s).cells] (gY most [strX countNm :: (kv c).cells, strX keyNm :: (kv k).cells]) = some (boolX true, gY most [strX countNm :: (kv c).cells, strX keyNm :: (kv k).cells, strX sumNm :: (kv s).cells]) := by kernel_rfl
theorem it_canon0 : canon 7 (itA most env [] 0) = some (itA most env [] 0) := by kernel_rfl
theorem it_0 (h0 : Gam.pureD (callF tab ext (N + 300)) 55 [.agg keyX, envX env] = some (.tup [.agg (kv k).cells, num 0])) :
    ∃ υ, run (callF tab ext (N + 300)) 7 (N + 300) (loopAt 166 0) (itA most env [] 0) = some (.norm, υ) ∧ canon 7 υ = some (itA most env [strX keyNm :: (kv k).cells] 1) :=
  rd_of [(24, .p (.tup [.agg (kv k).cells, num 0])), (38, .r (boolX true) (gY most [strX keyNm :: (kv k).cells]))] (pf2 h0 (y_key most k N)) (by kernel_rfl)
theorem it_1 (h0 : Gam.pureD (callF tab ext (N + 300)) 55 [.agg countX, envX env] = some (.tup [.agg (kv c).cells, num 0])) :
    ∃ υ, run (callF tab ext (N + 300)) 7 (N + 300) (loopAt 166 0) (itA most env [strX keyNm :: (kv k).cells] 1) = some (.norm, υ) ∧ canon 7 υ = some (itA most env [strX countNm :: (kv c).cells, strX keyNm :: (kv k).cells] 2) :=
  rd_of [(24, .p (.tup [.agg (kv c).cells, num 0])), (38, .r (boolX true) (gY most [strX countNm :: (kv c).cells, strX keyNm :: (kv k).cells]))] (pf2 h0 (y_count most c k N)) (by kernel_rfl)
theorem it_2 (h0 : Gam.pureD (callF tab ext (N + 300)) 55 [.agg sumX, envX env] = some (.tup [.agg (kv s).cells, num 0])) :
    ∃ υ, run (callF tab ext (N + 300)) 7 (N + 300) (loopAt 166 0) (itA most env [strX countNm :: (kv c).cells, strX keyNm :: (kv k).cells] 2) = some (.norm, υ) ∧ canon 7 υ = some (itA most env [strX countNm :: (kv c).cells, strX keyNm :: (kv k).cells, strX sumNm :: (kv s).cells] 3) :=
  rd_of [(24, .p (.tup [.agg (kv s).cells, num 0])), (38, .r (boolX true) (gY most [strX countNm :: (kv c).cells, strX keyNm :: (kv k).cells, strX sumNm :: (kv s).cells]))] (pf2 h0 (y_sum most c k s N)) (by kernel_rfl)
theorem it_3 (fs : List (List X)) : run (callF tab ext (N + 300)) 7 (N + 300) (loopAt 166 0) (itA most env fs 3) = some (.exit 0, itE most env fs) :=
  run_of [] [] pf0 (lo' := []) (by kernel_rfl)
end
def resFs (c k s : Int) : List (List X) := [strX countNm :: (kv c).cells, strX keyNm :: (kv k).cells, strX sumNm :: (kv s).cells]
theorem it166 (most c k s : Int) (es : List (List X)) (N : Nat) (hs : Gam.pureD (callF tab ext (N + 300)) 55 [.agg sumX, envX (groupFs es c k)] = some (.tup [.agg (kv s).cells, num 0])) :
    callF tab ext (N + 301) (.fn 166) [.yl 0, .dp [.sl false 6 ruX], .dp (recV (groupFs es c k)), .ptr 1 0 0] (gA most []) = some (.tup [], gA most (resFs c k s)) := by
  obtain ⟨υ0, a1, b1⟩ := it_0 most k (groupFs es c k) N (ev_key k c es N)
  obtain ⟨υ1, a2, b2⟩ := it_1 most c k (groupFs es c k) N (ev_count k c es N)
  obtain ⟨υ2, a3, b3⟩ := it_2 most c k s (groupFs es c k) N hs
  have hl : run (callF tab ext (N + 300)) 7 (N + 300) (.loop (loopAt 166 0)) (itA most (groupFs es c k) [] 0) = some (.exit 0, itE most (groupFs es c k) (resFs c k s)) := iter_step (it_canon0 ..) a1 (iter_step b1 a2 (iter_step b2 a3 (iter_end b3 (it_3 ..) (by simp))))
  generalize groupFs es c k = env at *
  exact callF_of [(11, .p (.sl false 1 tgX))] [(.exit 0, itE most env (resFs c k s))] (pf2 (tg167 N) hl) (by kernel_rfl)
/-! ### Apply -/
def apB (most : Int) (env fs : List (List X)) : List Bx := [.var [.sl false 6 ruX], .var (recV env), .var (tyV most), .var [num 0, num 0, num 0, strX ⟨#[]⟩, .sl true 6 [], .sl true 7 []], .var [num 0], .var (recV fs), .var [num 0], .var [boolX false], .var [.ptr 4 0 0]]
def apS (most : Int) (env fs : List (List X)) : St := ⟨[(5, .ptr 2 0 0), (6, .ptr 3 0 0), (9, .ptr 4 0 0), (10, .ptr 5 0 0), (11, .ptr 6 0 0), (12, .ptr 7 0 0), (30, .fn 166 [.dp [.sl false 6 ruX], .dp (recV env), .ptr 8 0 0])], apB most env fs⟩
def apE (most : Int) (env fs : List (List X)) : St := ⟨[(5, .ptr 2 0 0), (6, .ptr 3 0 0), (9, .ptr 4 0 0), (10, .ptr 5 0 0), (11, .ptr 6 0 0), (12, .ptr 7 0 0), (30, .fn 166 [.dp [.sl false 6 ruX], .dp (recV env), .ptr 8 0 0])], apB most env fs ++ [.dead]⟩
theorem ap_rf (most c k s : Int) (es : List (List X)) (N : Nat) (hs : Gam.pureD (callF tab ext (N + 300)) 55 [.agg sumX, envX (groupFs es c k)] = some (.tup [.agg (kv s).cells, num 0])) :
    run (callF tab ext (N + 301)) 0 (N + 301) (.rf (.t 30) [31, 32] [5, 10, 11, 12] (rfAt 89).1 (rfAt 89).2) (apS most (groupFs es c k) []) = some (.norm, apE most (groupFs es c k) (resFs c k s)) := by
  have h5 := it166 most c k s es N hs
  generalize groupFs es c k = env at *
  exact rf_of (g := 166) (caps := [.dp [.sl false 6 ruX], .dp (recV env), .ptr 8 0 0]) (y := .tup []) (outb := gA most (resFs c k s))
      (q := (.tup [], apB most env (resFs c k s) ++ [.loop .ready none [(5, .ptr 2 0 0), (10, .ptr 5 0 0), (11, .ptr 6 0 0), (12, .ptr 7 0 0)] [31, 32] (rfAt 89).1 (rfAt 89).2], [9, 8, 2, 5, 6, 7, 4])) h5 (by kernel_rfl) (by kernel_rfl) (by kernel_rfl)
theorem apply_env (most c k s : Int) (es : List (List X)) (hc : 1 ≤ c ∧ c ≤ 256) (hk : 0 ≤ k ∧ k ≤ 255) (h0 : 0 ≤ s ∧ s ≤ 100000) (N : Nat) (hN : 61000 ≤ N) (hs : ∀ M, 5001 ≤ M → Gam.pureD (callF tab ext M) 55 [.agg sumX, envX (groupFs es c k)] = some (.tup [.agg (kv s).cells, num 0])) :
    Gam.pureD (callF tab ext N) 89 [.agg [.sl false 6 ruX], envX (groupFs es c k), .agg (tyV most)] = some (if s ≤ most then .tup [.agg (resV c k s).cells, num 0] else .tup [.agg (Val.mk 0 0 0 ⟨#[]⟩ [] []).cells, num 18]) := by
  obtain ⟨M, rfl⟩ : ∃ M, N = M + 302 := ⟨N - 302, by omega⟩
  have h1 := ap_rf most c k s es M (hs _ (by omega))
  have h2 := form115 (M + 1)
  have h3 := complete119 c k s most hc hk h0.1 (M + 301) (by omega)
  have h4 := chk_res c k s ⟨by omega, by omega⟩ ⟨by omega, by omega⟩ ⟨by omega, by omega⟩ (M + 301) (by omega)
  generalize groupFs es c k = env at *
  by_cases hle : s ≤ most
  · rw [if_pos hle] at h3 ⊢
    exact pure_of [(18, .p (num 0)), (68, .p (.tup [.agg (resV c k s).cells, num 0])), (76, .p (num 0))] [(.norm, apE most env (resFs c k s))] (pf4 h2 h1 h3 h4) (x := .tup [.agg (resV c k s).cells, num 0]) (bx := []) (by kernel_rfl) rfl
  · rw [if_neg hle] at h3 ⊢
    exact pure_of [(18, .p (num 0)), (68, .p (.tup [.agg (Val.mk 0 0 0 ⟨#[]⟩ [] []).cells, num 18]))] [(.norm, apE most env (resFs c k s))] (pf3 h2 h1 h3) (x := .tup [.agg [num 0, num 0, num 0, strX ⟨#[]⟩, .sl true 6 [], .sl true 7 []], num 18]) (bx := []) (by kernel_rfl) rfl
theorem apply89 (most k : Int) (l : List Bd) (ht : Tiny (nsOf l)) (h0 : 0 < l.length) (hl : l.length ≤ 256) (hk : 0 ≤ k ∧ k ≤ 255) (N : Nat) (hN : 61000 ≤ N) :
    Gam.pureD (callF tab ext N) 89 [.agg [.sl false 6 ruX], envX (groupFs (bdC l) (l.length : Nat) k), .agg (tyV most)] = some (if ((sumN (nsOf l) : Nat) : Int) ≤ most then .tup [.agg (resV (l.length : Nat) k (sumN (nsOf l) : Nat)).cells, num 0] else .tup [.agg (Val.mk 0 0 0 ⟨#[]⟩ [] []).cells, num 18]) := by
  have hle := sumN_le ht
  rw [nsOf_len] at hle
  exact apply_env most (l.length : Nat) k (sumN (nsOf l) : Nat) (bdC l) ⟨by omega, by omega⟩ hk ⟨by omega, by omega⟩ N hN fun M hM => ev_sum (groupEnv l (l.length : Nat) k) ht h0 hl M hM
end Go.Proofs.YthphniobeigklaaGreatDoor.Ag

/- (*aggregator.builder).finish: a group is merged, or all its messages are rejected. -/
namespace Go.Proofs.YthphniobeigklaaGreatDoor.Ag
open Go Go.Em Go.Proofs.YthphniobeigklaaGreatDoor
set_option maxRecDepth 100000

def typT : ByteArray := ⟨#[116, 121, 112, 101]⟩
/-- A message of a group: its place among the inputs, its number. -/
def msV (q : Int) (m : Nat × Nat) : Msg := ⟨⟨(m.1 : Int) + 1, [1]⟩, 100 + (m.1 : Int), [(m.1 : Int) + 1], bodyV (some q) m.2⟩
theorem msV_ok (q : Int) (m : Nat × Nat) : (msV q m).ok := ⟨⟨by simp [msV]⟩, by simp [msV], by
  have := bodyV_size (some q) m.2
  show (bodyV (some q) m.2).size ≤ 60000
  omega⟩
def gB (q : Int) (M : List (Nat × Nat)) : List Bd := M.map fun m => (some q, m.2)
theorem gB_len (q : Int) (M : List (Nat × Nat)) : (gB q M).length = M.length := by simp [gB]
theorem bodC_ms (q : Int) (M : List (Nat × Nat)) : bodC (M.map (msV q)) = bdC (gB q M) := by simp [bodC, bdC, gB, msV]
def sumM (M : List (Nat × Nat)) : Nat := sumN (M.map (·.2))
theorem nsOf_gB (q : Int) (M : List (Nat × Nat)) : nsOf (gB q M) = M.map (·.2) := by simp [nsOf, gB]
def rejF (ms : List Msg) (r : ByteArray) : List Fte := ms.map fun m => Fte.mk m.st 4 aggT [] r
/-! ### All messages are rejected -/
section
variable (nu ti li : Int) (ex ty ru ss O F L ms : List (List X)) (r : ByteArray) (no nf nl n j : Nat) (w : Bool) (N : Nat)
def raB : List Bx := if w then [.var [.ptr 1 0 0], .var (bX nu ti li ex ty ru ss 2 no 3 nf 4 nl), .row 11 O, .row 6 F, .row 10 L] else [.var [.ptr 1 0 0], .var (bX nu ti li ex ty ru ss 2 no 5 nf 6 nl), .row 11 O, .dead, .dead, .row 6 F, .row 10 L]
def rbH : St := ⟨[(0, strX r), (2, .ptr 0 0 0), (6, .sl false 10 ms), (7, nat n), (8, nat j)], raB nu ti li ex ty ru ss O F L no nf nl w⟩
def rbE : St := ⟨[(0, strX r), (2, .ptr 0 0 0), (6, .sl false 10 ms), (7, nat n), (8, nat j), (9, boolX false)], raB nu ti li ex ty ru ss O F L no nf nl w⟩
theorem rb_canon : canon 5 (rbH nu ti li ex ty ru ss O F L ms r no nf nl n j w) = some (rbH nu ti li ex ty ru ss O F L ms r no nf nl n j w) := by
  cases w with
  | true => kernel_rfl
  | false => kernel_rfl
theorem rb_end (h : ¬ j < n) : run (callF tab ext N) 5 N (loopAt 88 0) (rbH nu ti li ex ty ru ss O F L ms r no nf nl n j false) = some (.exit 0, rbE nu ti li ex ty ru ss O F L ms r no nf nl n j false) :=
  run_of [(9, .b false)] [] (pf1 (nlt_nat h)) (lo' := []) (by kernel_rfl)
theorem rb_round (m : Msg) (hm : m.ok) (he : ms[j]? = some m.cells) (hj : j < n) (hn : n < 5000) (hf : nf = F.length) (hl : nl = L.length) (hf2 : nf < 5000) (hl2 : nl < 5000) (hN : 190100 ≤ N) :
    ∃ υ, run (callF tab ext N) 5 N (loopAt 88 0) (rbH nu ti li ex ty ru ss O F L ms r no nf nl n j w) = some (.norm, υ) ∧ canon 5 υ = some (rbH nu ti li ex ty ru ss O (F ++ [(Fte.mk m.st 4 aggT [] r).cells]) (L ++ [m.cells]) ms r no (nf + 1) (nl + 1) n (j + 1) false) := by
  have h := rej80 nu ti li ex ty ru ss O F L m hm r no nf nl hf hl (by omega) (by omega) N hN
  have h1 := lt_nat hj
  have h2 := next_nat (j := j) (by omega)
  generalize F ++ [(Fte.mk m.st 4 aggT [] r).cells] = F2 at *
  generalize hL : L ++ [m.cells] = L2 at *
  clear hL
  obtain ⟨⟨e, p⟩, mm, o, ⟨a1, a2, a3, a4, a5, a6⟩⟩ := m
  cases w with
  | true => exact rd_of [(9, .b true), (10, .e (Msg.mk ⟨e, p⟩ mm o (.mk a1 a2 a3 a4 a5 a6)).cells), (15, .r (.tup []) [.var (bX nu ti li ex ty ru ss 1 no 4 (nf + 1) 5 (nl + 1)), .row 11 O, .dead, .dead, .row 6 F2, .row 10 L2]), (16, .i (Int.ofNat (j + 1)))] (pf4 h1 he h h2) (by kernel_rfl)
  | false => exact rd_of [(9, .b true), (10, .e (Msg.mk ⟨e, p⟩ mm o (.mk a1 a2 a3 a4 a5 a6)).cells), (15, .r (.tup []) [.var (bX nu ti li ex ty ru ss 1 no 4 (nf + 1) 5 (nl + 1)), .row 11 O, .dead, .dead, .row 6 F2, .row 10 L2]), (16, .i (Int.ofNat (j + 1)))] (pf4 h1 he h h2) (by kernel_rfl)
end
theorem ra88 (nu ti li : Int) (ex ty ru ss O : List (List X)) (F : List Fte) (L ms : List Msg) (r : ByteArray) (no : Nat) (h0 : 0 < ms.length) (hm : ∀ m, m ∈ ms → m.ok) (hn : ms.length < 1000) (hf : F.length < 2000) (hl : L.length < 2000) (N : Nat) (hN : 190110 ≤ N) :
    callF tab ext N (.fn 88) [strX r, .dp [.sl false 10 (msgsC ms)], .ptr 0 0 0] [.var [.ptr 1 0 0], .var (bX nu ti li ex ty ru ss 2 no 3 F.length 4 L.length), .row 11 O, .row 6 (ftesC F), .row 10 (msgsC L)] =
      some (.tup [], [.var [.ptr 1 0 0], .var (bX nu ti li ex ty ru ss 2 no 5 (F ++ rejF ms r).length 6 (L ++ ms).length), .row 11 O, .dead, .dead, .row 6 (ftesC (F ++ rejF ms r)), .row 10 (msgsC (L ++ ms))]) := by
  obtain ⟨M, rfl⟩ : ∃ M, N = M + 1 := ⟨N - 1, by omega⟩
  have hk := msgsC_length ms
  have hlF := ftesC_length F
  have hlL := msgsC_length L
  have hrun : run (callF tab ext M) 5 M (.loop (loopAt 88 0)) (rbH nu ti li ex ty ru ss O (ftesC F) (msgsC L) (msgsC ms) r no F.length L.length (msgsC ms).length 0 true) = some (.exit 0, rbE nu ti li ex ty ru ss O (ftesC (F ++ rejF ms r)) (msgsC (L ++ ms)) (msgsC ms) r no (F ++ rejF ms r).length (L ++ ms).length (msgsC ms).length (msgsC ms).length false) := by
    refine loop_for (σ := fun j => rbH nu ti li ex ty ru ss O (ftesC (F ++ rejF (ms.take j) r)) (msgsC (L ++ ms.take j)) (msgsC ms) r no (F ++ rejF (ms.take j) r).length (L ++ ms.take j).length (msgsC ms).length j (decide (j = 0))) (k := (msgsC ms).length) ?_ (fun j hj => ?_) ?_ (by simp) (by omega)
    · have := rb_canon nu ti li ex ty ru ss O (ftesC F) (msgsC L) (msgsC ms) r no F.length L.length (msgsC ms).length 0 true
      simpa [rejF] using this
    · have hj' : j < ms.length := by omega
      have e1 : F ++ rejF (ms.take (j + 1)) r = (F ++ rejF (ms.take j) r) ++ [Fte.mk ms[j].st 4 aggT [] r] := by
        unfold rejF
        rw [List.take_succ_eq_append_getElem hj', List.map_append, List.append_assoc]
        rfl
      have e2 : L ++ ms.take (j + 1) = (L ++ ms.take j) ++ [ms[j]] := by rw [List.take_succ_eq_append_getElem hj', List.append_assoc]
      have q1 : (F ++ rejF (ms.take j) r).length ≤ F.length + j := by simp [rejF]; omega
      have q2 : (L ++ ms.take j).length ≤ L.length + j := by simp; omega
      rw [e1, e2, show decide (j + 1 = 0) = false from decide_eq_false (by omega)]
      generalize F ++ rejF (ms.take j) r = Fj at *
      generalize L ++ ms.take j = Lj at *
      have := rb_round nu ti li ex ty ru ss O (ftesC Fj) (msgsC Lj) (msgsC ms) r no Fj.length Lj.length (msgsC ms).length j (decide (j = 0)) M ms[j] (hm _ (List.getElem_mem hj')) (msgsC_get hj') hj (by omega) (ftesC_length Fj).symm (msgsC_length Lj).symm (by omega) (by omega) (by omega)
      have a1 : ftesC (Fj ++ [Fte.mk ms[j].st 4 aggT [] r]) = ftesC Fj ++ [(Fte.mk ms[j].st 4 aggT [] r).cells] := by simp [ftesC]
      have a2 : msgsC (Lj ++ [ms[j]]) = msgsC Lj ++ [ms[j].cells] := by simp [msgsC]
      have a3 : (Fj ++ [Fte.mk ms[j].st 4 aggT [] r]).length = Fj.length + 1 := by simp
      have a4 : (Lj ++ [ms[j]]).length = Lj.length + 1 := by simp
      rw [a1, a2, a3, a4]
      exact this
    · rw [List.take_of_length_le (by omega), show decide ((msgsC ms).length = 0) = false from decide_eq_false (by omega)]
      exact rb_end nu ti li ex ty ru ss O _ _ _ r no _ _ _ _ M (by omega)
  generalize ftesC (F ++ rejF ms r) = F2 at *
  generalize msgsC (L ++ ms) = L2 at *
  generalize (F ++ rejF ms r).length = nf2 at *
  generalize (L ++ ms).length = nl2 at *
  generalize ftesC F = F1 at *
  generalize msgsC L = L1 at *
  generalize msgsC ms = M1 at *
  exact callF_of [] [(.exit 0, rbE nu ti li ex ty ru ss O F2 L2 M1 r no nf2 nl2 M1.length M1.length false)] (pf1 hrun) (by kernel_rfl)
/-! ### finish -/
def zsM (M : List (Nat × Nat)) : List Int := M.map fun m => (m.1 : Int) + 1
/-- The message into which a group is merged. -/
def mrgM (q : Int) (M : List (Nat × Nat)) (s : Stp) : Msg := ⟨s, massL (M.map (msV q)), zsM M, resV (M.length : Nat) q (sumM M : Nat)⟩
structure GrpOk (q : Int) (M : List (Nat × Nat)) : Prop where
  pos : 0 < M.length
  len : M.length < 49
  key : 0 ≤ q ∧ q ≤ 255
  place : ∀ m, m ∈ M → m.1 < 1000 ∧ m.2 < 4
  srt : M.Pairwise fun a b => a.1 < b.1
theorem zsM_inc {M : List (Nat × Nat)} (h : M.Pairwise fun a b => a.1 < b.1) : Inc (zsM M) := by
  unfold Inc zsM
  rw [List.pairwise_map]
  exact h.imp fun hab => by omega
theorem GrpOk.tiny {q : Int} {M : List (Nat × Nat)} (h : GrpOk q M) : Tiny (nsOf (gB q M)) := by
  rw [nsOf_gB]
  intro x hx
  obtain ⟨m, hm, rfl⟩ := List.mem_map.1 hx
  exact (h.place m hm).2
theorem GrpOk.ms {q : Int} {M : List (Nat × Nat)} (h : GrpOk q M) : ∀ m, m ∈ M.map (msV q) → m.ok ∧ 0 ≤ m.mass ∧ m.mass ≤ 100000 := fun m hm => by
  obtain ⟨x, hx, rfl⟩ := List.mem_map.1 hm
  have := (h.place x hx).1
  refine ⟨msV_ok q x, ?_⟩
  show 0 ≤ 100 + (x.1 : Int) ∧ 100 + (x.1 : Int) ≤ 100000
  omega
section
variable (nu ti li most : Int) (ex ss : List (List X)) (O : List Otp) (F : List Fte) (L : List Msg) (q : Int) (M : List (Nat × Nat)) (t : Stp)
/-- The builder's boxes. -/
def bdB : List Bx := [.var (bX nu ti li ex (tyX most) ruX ss 1 O.length 2 F.length 3 L.length), .row 11 (otpsC O), .row 6 (ftesC F), .row 10 (msgsC L)]
/-- Behind a merge; behind a rejection. -/
def bdM : List Bx := [.var (bX nu ti li ex (tyX most) ruX ss 4 O.length 5 F.length 3 L.length), .dead, .dead, .row 10 (msgsC L), .row 11 (otpsC O), .row 6 (ftesC F)]
def bdR : List Bx := [.var (bX nu ti li ex (tyX most) ruX ss 1 O.length 4 F.length 5 L.length), .row 11 (otpsC O), .dead, .dead, .row 6 (ftesC F), .row 10 (msgsC L)]
variable (h : GrpOk q M) (ht : t.ok) (ht2 : t.p.length < 1000) (hO : O.length < 2000) (hF : F.length < 2000) (hL : L.length < 2000)
include h ht ht2 hO hF hL
omit hO in
theorem fin_no (hs : most < (sumM M : Nat)) (N : Nat) (hN : 191000 ≤ N) :
    callF tab ext N (.fn 50) [.ptr 0 0 0, .agg (kv q).cells, .sl false 10 (msgsC (M.map (msV q))), .agg t.cells] (bdB nu ti li most ex ss O F L) =
      some (.tup [], bdR nu ti li most ex ss O (F ++ rejF (M.map (msV q)) typT) (L ++ M.map (msV q))) := by
  obtain ⟨K, rfl⟩ : ∃ K, N = K + 601 := ⟨N - 601, by omega⟩
  have hpos := h.pos
  have hlen := h.len
  have h83 := bodies83 (M.map (msV q)) (by rw [List.length_map]; omega) (K + 600) (by omega)
  rw [bodC_ms] at h83
  have h90 := group90 (gB q M) (by rw [gB_len]; omega) q (K + 600) (by omega)
  have h89 := apply89 most q (gB q M) h.tiny (by rw [gB_len]; omega) (by rw [gB_len]; omega) h.key (K + 600) (by omega)
  rw [nsOf_gB] at h89
  rw [show sumN (M.map (·.2)) = sumM M from rfl, if_neg (by omega)] at h89
  have h88 := ra88 nu ti li ex (tyX most) ruX ss (otpsC O) F L (M.map (msV q)) typT O.length (by rw [List.length_map]; omega) (fun m hm => (h.ms m hm).1) (by rw [List.length_map]; omega) hF hL (K + 600) (by omega)
  unfold bdB bdR
  generalize groupFs (bdC (gB q M)) ((gB q M).length : Nat) q = env at *
  generalize bdC (gB q M) = bs at *
  generalize F ++ rejF (M.map (msV q)) typT = F2 at *
  generalize L ++ M.map (msV q) = L2 at *
  generalize F2.length = nf2 at *
  generalize L2.length = nl2 at *
  generalize ftesC F2 = F2c at *
  generalize msgsC L2 = L2c at *
  generalize msgsC (M.map (msV q)) = ms at *
  generalize ftesC F = Fc at *
  generalize msgsC L = Lc at *
  generalize otpsC O = Oc at *
  generalize O.length = no at *
  generalize F.length = nf at *
  generalize L.length = nl at *
  obtain ⟨e, p⟩ := t
  exact callF_of [(22, .p (.sl false 6 bs)), (23, .p (envX env)), (29, .p (.tup [.agg (Val.mk 0 0 0 ⟨#[]⟩ [] []).cells, num 18])), (37, .r (.tup []) [.var [.ptr 1 0 0], .var (bX nu ti li ex (tyX most) ruX ss 2 no 5 nf2 6 nl2), .row 11 Oc, .dead, .dead, .row 6 F2c, .row 10 L2c])] [] (pf4 h83 h90 h89 h88) (by kernel_rfl)
omit hL in
theorem fin_ok (hs : ((sumM M : Nat) : Int) ≤ most) (N : Nat) (hN : 191000 ≤ N) :
    callF tab ext N (.fn 50) [.ptr 0 0 0, .agg (kv q).cells, .sl false 10 (msgsC (M.map (msV q))), .agg t.cells] (bdB nu ti li most ex ss O F L) =
      some (.tup [], bdM nu ti li most ex ss (O ++ [⟨0, mrgM q M (undS t O.length)⟩]) (F ++ mrgF (M.map (msV q)) aggT (undS t O.length)) L) := by
  obtain ⟨K, rfl⟩ : ∃ K, N = K + 601 := ⟨N - 601, by omega⟩
  have hpos := h.pos
  have hlen := h.len
  have h83 := bodies83 (M.map (msV q)) (by rw [List.length_map]; omega) (K + 600) (by omega)
  rw [bodC_ms] at h83
  have h90 := group90 (gB q M) (by rw [gB_len]; omega) q (K + 600) (by omega)
  have h89 := apply89 most q (gB q M) h.tiny (by rw [gB_len]; omega) (by rw [gB_len]; omega) h.key (K + 600) (by omega)
  rw [nsOf_gB] at h89
  rw [show sumN (M.map (·.2)) = sumM M from rfl, if_pos hs] at h89
  have h22 := under22 t ht O.length (K + 600) (by omega)
  have hu : (undS t O.length).ok := ⟨by simp [undS]; omega⟩
  have h91 := merge91 (M.map (msV q)) (zsM M) (by rw [List.length_map]; omega) (by unfold zsM; rw [List.length_map]; omega) (fun m hm => (h.ms m hm).2) (by simp [zsM, msV]) (zsM_inc h.srt) (undS t O.length) hu (resV (M.length : Nat) q (sumM M : Nat)) (by simp [resV, kv, Val.ok, Val.size, sizeL, sizeF]) (K + 600) (by omega)
  have h92 := merged92 (M.map (msV q)) (fun m hm => (h.ms m hm).1.st) (by rw [List.length_map]; omega) aggT (undS t O.length) hu (K + 600) (by omega)
  have e1 : otpsC (O ++ [⟨0, mrgM q M (undS t O.length)⟩]) = otpsC O ++ [num 0 :: (mrgM q M (undS t O.length)).cells] := by simp [otpsC, Otp.cells]
  have e2 : ftesC (F ++ mrgF (M.map (msV q)) aggT (undS t O.length)) = ftesC F ++ ftesC (mrgF (M.map (msV q)) aggT (undS t O.length)) := by simp [ftesC]
  have e3 : (F ++ mrgF (M.map (msV q)) aggT (undS t O.length)).length = F.length + (ftesC (mrgF (M.map (msV q)) aggT (undS t O.length))).length := by rw [List.length_append, ftesC_length]
  have hml : (ftesC (mrgF (M.map (msV q)) aggT (undS t O.length))).length < 1000 := by rw [ftesC_length]; simp [mrgF]; omega
  unfold bdB bdM
  rw [e1, e2, e3, List.length_append, List.length_singleton]
  rw [gB_len] at h90 h89
  have hA := app_ok (acc := otpsC O) O.length 1 160 (otpsC_length O).symm (by omega) (by omega)
  have hB : 0 + F.length = (ftesC F).length ∧ roomOk (F.length + (ftesC (mrgF (M.map (msV q)) aggT (undS t O.length))).length) 96 = true ∧ memN 2 [] = false :=
    ⟨by rw [ftesC_length]; omega, room_of (by omega) (by omega), rfl⟩
  show _ = some (X.tup [], ([.var (bX nu ti li ex (tyX most) ruX ss 4 (O.length + 1) 5 (F.length + (ftesC (mrgF (M.map (msV q)) aggT (undS t O.length))).length) 3 L.length), .dead, .dead, .row 10 (msgsC L), .row 11 (otpsC O ++ [num 0 :: (num (undS t O.length).e :: .sl false 1 (intsC (undS t O.length).p) :: num (massL (M.map (msV q))) :: .sl false 1 (intsC (zsM M)) :: recV (resFs (M.length : Nat) q (sumM M : Nat)))]), .row 6 (ftesC F ++ ftesC (mrgF (M.map (msV q)) aggT (undS t O.length)))] : List Bx))
  have h91' : Gam.pureD (callF tab ext (K + 600)) 91 [.sl false 10 (msgsC (M.map (msV q))), .agg (undS t O.length).cells, .agg (resV (M.length : Nat) q (sumM M : Nat)).cells] = some (.tup [.agg (num (undS t O.length).e :: .sl false 1 (intsC (undS t O.length).p) :: num (massL (M.map (msV q))) :: .sl false 1 (intsC (zsM M)) :: recV (resFs (M.length : Nat) q (sumM M : Nat))), num 0]) := h91
  clear h91 e1 e2 e3
  generalize groupFs (bdC (gB q M)) (M.length : Nat) q = env at *
  generalize bdC (gB q M) = bs at *
  generalize ftesC (mrgF (M.map (msV q)) aggT (undS t O.length)) = fl at *
  generalize massL (M.map (msV q)) = mz at *
  generalize intsC (zsM M) = oz at *
  generalize ((M.length : Nat) : Int) = c at *
  generalize ((sumM M : Nat) : Int) = s at *
  generalize msgsC (M.map (msV q)) = ms at *
  generalize undS t O.length = u at *
  generalize ftesC F = Fc at *
  generalize msgsC L = Lc at *
  generalize otpsC O = Oc at *
  generalize O.length = no at *
  generalize F.length = nf at *
  generalize L.length = nl at *
  obtain ⟨e, p⟩ := t
  obtain ⟨ue, up⟩ := u
  exact callF_of [(22, .p (.sl false 6 bs)), (23, .p (envX env)), (29, .p (.tup [.agg (resV c q s).cells, num 0])), (45, .p (.agg (Stp.mk ue up).cells)), (50, .p (.tup [.agg (num ue :: .sl false 1 (intsC up) :: num mz :: .sl false 1 oz :: recV (resFs c q s)), num 0])), (66, .app), (83, .p (.sl false 6 fl)), (84, .app)] [] (pf8 h83 h90 h89 h22 h91' hA h92 hB) (by kernel_rfl)
end
end Go.Proofs.YthphniobeigklaaGreatDoor.Ag

/- How many messages a state holds. -/
namespace Go.Proofs.YthphniobeigklaaGreatDoor
open Go.Em
set_option maxRecDepth 100000

def heH (l : List (List X)) (n j k : Nat) : St := ⟨[(3, nat k), (7, .sl false 10 l), (8, nat n), (9, nat j)], []⟩
theorem add_len {a b : Nat} (h : a + b < 4294967296) : IntKind.i64.wrap (Int.ofNat a + Int.ofNat b) = Int.ofNat (a + b) := by
  rw [IntKind.wrap_i64]; simp only [Int.ofNat_eq_natCast]; omega
theorem accOf_take {ss : List Slt} {j : Nat} (hj : j < ss.length) : accOf (ss.take (j + 1)) = accOf (ss.take j) ++ ss[j].items := by
  rw [List.take_succ_eq_append_getElem hj, accOf_append]
theorem held_pure (s : Stt) (hs : s.small) (N : Nat) (hN : 60020 ≤ N) : Gam.pureD (callF tab ext N) 29 [.agg s.cells] = some (nat (accOf s.slots).length) := by
  obtain ⟨M, rfl⟩ : ∃ M, N = M + 1 := ⟨N - 1, by omega⟩
  have hl := hs.slots
  have hx := hs.slot
  obtain ⟨a, b, ss⟩ := s
  dsimp only at hl hx ⊢
  have hn := sltsC_length ss
  have hloop : run (callF tab ext M) 0 M (.loop (loopAt 29 0)) ⟨(heH (sltsC ss) (sltsC ss).length 0 0).tm, [.var [num a, num b, .sl false 10 (sltsC ss)]]⟩ = some (.exit 0, ⟨[(3, nat (accOf ss).length), (7, .sl false 10 (sltsC ss)), (8, nat (sltsC ss).length), (9, nat (sltsC ss).length), (10, boolX false)], []⟩) := by
    refine loop_for (σ := fun j => heH (sltsC ss) (sltsC ss).length j (accOf (ss.take j)).length) (k := (sltsC ss).length) (by kernel_rfl) (fun j hj => ?_) ?_ (by simp) (by omega)
    · have hj' : j < ss.length := by omega
      have hg := sltsC_get hj'
      have hla := accOf_length (ss.take j) fun x hxx => (hx x (List.mem_of_mem_take hxx)).2.1
      have hlt : (ss.take j).length ≤ 100 := by rw [List.length_take]; omega
      have hi := (hx _ (List.getElem_mem hj')).2.1
      rw [accOf_take hj', List.length_append]
      generalize ss[j] = x at hg hi
      obtain ⟨⟨k0, i0, s0, t0, l0, f0⟩, n0, d0, items, vals⟩ := x
      have hm := msgsC_length items
      dsimp only at hi ⊢
      rw [← hm]
      exact ⟨⟨(heH (sltsC ss) (sltsC ss).length (j + 1) ((accOf (ss.take j)).length + (msgsC items).length)).tm, [.var (slotC k0 i0 s0 t0 (cellsL l0) (cellsF f0) n0 d0 (msgsC items) (cellsL vals))]⟩,
        run_of [(10, .b true), (11, .e (slotC k0 i0 s0 t0 (cellsL l0) (cellsF f0) n0 d0 (msgsC items) (cellsL vals))), (17, .i (Int.ofNat ((accOf (ss.take j)).length + (msgsC items).length))), (18, .i (Int.ofNat (j + 1)))] []
          (pf4 (lt_nat hj) hg (add_len (a := (accOf (ss.take j)).length) (b := (msgsC items).length) (by omega)) (next_nat (j := j) (by omega))) (lo' := []) (by kernel_rfl), by kernel_rfl⟩
    · have e : ss.take (sltsC ss).length = ss := List.take_of_length_le (by omega)
      rw [e]
      exact run_of [(10, .b false)] [] (pf1 (nlt_nat (Nat.lt_irrefl (sltsC ss).length))) (lo' := []) (by kernel_rfl)
  exact pure_of [] [(.exit 0, ⟨[(3, nat (accOf ss).length), (7, .sl false 10 (sltsC ss)), (8, nat (sltsC ss).length), (9, nat (sltsC ss).length), (10, boolX false)], []⟩)] (pf1 hloop) (x := nat (accOf ss).length) (bx := []) (by kernel_rfl) rfl
end Go.Proofs.YthphniobeigklaaGreatDoor

/- The search for a key among the slots. -/
namespace Go.Proofs.YthphniobeigklaaGreatDoor
open Go.Em
set_option maxRecDepth 100000
def dSlt : Slt := ⟨.mk 0 0 0 ⟨#[]⟩ [] [], 0, 0, [], []⟩

theorem cmp116 (N : Nat) (hN : 180020 ≤ N) (x : Slt) (key : Val) (hx : x.key.ok) : Gam.pureD (callF tab ext N) 114 [.agg x.cells, .agg key.cells] = some (num (cmpV x.key key)) := by
  obtain ⟨M, rfl⟩ : ∃ M, N = M + 1 := ⟨N - 1, by omega⟩
  have h := cmp_val 60000 M x.key key hx (by omega) (by unfold Val.ok at hx; omega)
  obtain ⟨⟨k, i, s, tx, vl, fl⟩, n2, c, ms, vs⟩ := x
  obtain ⟨k', i', s', tx', vl', fl'⟩ := key
  dsimp only at h ⊢
  generalize cmpV (.mk k i s tx vl fl) (.mk k' i' s' tx' vl' fl') = r at h
  exact pure_of [(8, .p (num r))] [] (pf1 h) (x := num r) (bx := []) (by kernel_rfl) rfl

theorem half_nat {s : Nat} (h : s < 4294967296) : IntKind.i64.wrap (Int.ofNat (s / 2)) = Int.ofNat (s / 2) := by
  grind[IntKind.wrap_i64]
theorem u64_nat {s : Nat} (h : s < 4294967296) : IntKind.u64.wrap (Int.ofNat s) = Int.ofNat s := by
  grind[IntKind.wrap_u64]
theorem shr_nat {s : Nat} : (Int.ofNat s).fdiv (2 ^ min (Int.toNat 1) IntKind.u64.bits) = Int.ofNat (s / 2) := by
  have e : (2 : Int) ^ min (Int.toNat 1) IntKind.u64.bits = 2 := by decide
  grind
theorem add_nat {a b : Nat} (h : a < 4294967296) (h' : b < 4294967296) : IntKind.i64.wrap (Int.ofNat a + Int.ofNat b) = Int.ofNat (a + b) := by
  grind[IntKind.wrap_i64]

/-- Where a search ends. -/
inductive Srch (ss : List Slt) (key : Val) : Nat → Nat → Nat → Prop
  | stop (lo : Nat) : Srch ss key lo lo lo
  | lt {lo hi r : Nat} (h : lo < hi) (hc : cmpV (ss.getD ((lo + hi) / 2) dSlt).key key < 0) (hr : Srch ss key ((lo + hi) / 2 + 1) hi r) : Srch ss key lo hi r
  | ge {lo hi r : Nat} (h : lo < hi) (hc : ¬ cmpV (ss.getD ((lo + hi) / 2) dSlt).key key < 0) (hr : Srch ss key lo ((lo + hi) / 2) r) : Srch ss key lo hi r
theorem srch_ex (ss : List Slt) (key : Val) : ∀ (d lo hi : Nat), lo ≤ hi → hi - lo ≤ d → ∃ r, lo ≤ r ∧ r ≤ hi ∧ Srch ss key lo hi r
  | 0, lo, hi, h, hd => by
    obtain rfl : lo = hi := by omega
    exact ⟨lo, Nat.le_refl _, Nat.le_refl _, .stop lo⟩
  | d + 1, lo, hi, h, hd => by
    by_cases hlt : lo < hi
    · by_cases hc : cmpV (ss.getD ((lo + hi) / 2) dSlt).key key < 0
      · obtain ⟨r, h1, h2, h3⟩ := srch_ex ss key d ((lo + hi) / 2 + 1) hi (by omega) (by omega)
        exact ⟨r, by omega, h2, .lt hlt hc h3⟩
      · obtain ⟨r, h1, h2, h3⟩ := srch_ex ss key d lo ((lo + hi) / 2) (by omega) (by omega)
        exact ⟨r, h1, by omega, .ge hlt hc h3⟩
    · obtain rfl : lo = hi := by omega
      exact ⟨lo, Nat.le_refl _, Nat.le_refl _, .stop lo⟩

/-- Where a key stands among slots: what is before it is less, what is at its place is not. -/
structure Spot (ss : List Slt) (key : Val) (i : Nat) : Prop where
  before : 0 < i → cmpV (ss.getD (i - 1) dSlt).key key < 0
  behind : i < ss.length → ¬ cmpV (ss.getD i dSlt).key key < 0
theorem srch_spot {ss : List Slt} {key : Val} {lo hi r : Nat} (h : Srch ss key lo hi r) (h1 : 0 < lo → cmpV (ss.getD (lo - 1) dSlt).key key < 0) (h2 : hi < ss.length → ¬ cmpV (ss.getD hi dSlt).key key < 0) : Spot ss key r := by
  induction h with
  | stop lo => exact ⟨h1, h2⟩
  | lt _ hc _ ih => exact ih (fun _ => by simpa using hc) h2
  | ge _ hc _ ih => exact ih h1 (fun _ => hc)

section
variable (l : List (List X)) (k i s : Int) (tx : ByteArray) (vl fl : List (List X)) (n lo hi : Nat)
def keyC : List X := [num k, num i, num s, strX tx, .sl false 6 vl, .sl false 7 fl]
def seH : St := ⟨[(0, .sl false 10 l), (2, .fn 114 []), (4, .ptr 0 0 0), (8, nat n), (9, nat lo), (10, nat hi)], [.var (keyC k i s tx vl fl)]⟩
def seE : St := ⟨[(0, .sl false 10 l), (2, .fn 114 []), (4, .ptr 0 0 0), (8, nat n), (9, nat lo), (10, nat hi), (17, boolX false)], [.var (keyC k i s tx vl fl)]⟩
theorem se_canon : canon 0 (seH l k i s tx vl fl n lo hi) = some (seH l k i s tx vl fl n lo hi) := by kernel_rfl
theorem se_end (h : ¬ lo < hi) (M : Nat) : run (callF tab ext M) 0 M (loopAt 113 0) (seH l k i s tx vl fl n lo hi) = some (.exit 0, seE l k i s tx vl fl n lo hi) :=
  run_of [(17, .b false)] [] (pf1 (nlt_nat h)) (lo' := []) (by kernel_rfl)
theorem se_step (x : Slt) (r : Int) (hlt : lo < hi) (hh : hi < 4294967) (hg : l[(lo + hi) / 2]? = some x.cells) (M : Nat) (hc : Gam.pureD (callF tab ext M) 114 [.agg x.cells, .agg (keyC k i s tx vl fl)] = some (num r)) :
    (r < 0 → run (callF tab ext M) 0 M (loopAt 113 0) (seH l k i s tx vl fl n lo hi) = some (.norm, seH l k i s tx vl fl n ((lo + hi) / 2 + 1) hi)) ∧
    (¬ r < 0 → run (callF tab ext M) 0 M (loopAt 113 0) (seH l k i s tx vl fl n lo hi) = some (.norm, seH l k i s tx vl fl n lo ((lo + hi) / 2))) := by
  have h1 := lt_nat hlt
  have h2 := add_nat (a := lo) (b := hi) (by omega) (by omega)
  have h3 := u64_nat (s := lo + hi) (by omega)
  have h4 := shr_nat (s := lo + hi)
  have h5 := half_nat (s := lo + hi) (by omega)
  have h6 := next_nat (j := (lo + hi) / 2) (by omega)
  obtain ⟨⟨k', i', s', tx', vl', fl'⟩, n2, c, ms, vs⟩ := x
  constructor
  · intro hr
    have h7 : decide (r < 0) = true := decide_eq_true hr
    exact run_of [(17, .b true), (20, .i (Int.ofNat (lo + hi))), (21, .i (Int.ofNat (lo + hi))), (22, .i (Int.ofNat ((lo + hi) / 2))), (23, .i (Int.ofNat ((lo + hi) / 2))), (27, .e (slotC k' i' s' tx' (cellsL vl') (cellsF fl') n2 c (msgsC ms) (cellsL vs))), (30, .p (num r)), (31, .b true), (33, .i (Int.ofNat ((lo + hi) / 2 + 1)))] []
      (pf9 h1 h2 h3 h4 h5 hg hc h7 h6) (lo' := []) (by kernel_rfl)
  · intro hr
    have h7 : decide (r < 0) = false := decide_eq_false hr
    exact run_of [(17, .b true), (20, .i (Int.ofNat (lo + hi))), (21, .i (Int.ofNat (lo + hi))), (22, .i (Int.ofNat ((lo + hi) / 2))), (23, .i (Int.ofNat ((lo + hi) / 2))), (27, .e (slotC k' i' s' tx' (cellsL vl') (cellsF fl') n2 c (msgsC ms) (cellsL vs))), (30, .p (num r)), (31, .b false)] []
      (pf8 h1 h2 h3 h4 h5 hg hc h7) (lo' := []) (by kernel_rfl)
end

/-- The search: an index, and whether the key is there. -/
theorem find_ex2 (s : Stt) (hs : s.small) (key : Val) : ∃ (i : Nat) (b : Bool), i ≤ s.slots.length ∧ (b = true → ∃ h : i < s.slots.length, cmpV s.slots[i].key key = 0) ∧ (b = false → Spot s.slots key i ∧ ∀ h : i < s.slots.length, ¬ cmpV s.slots[i].key key = 0) ∧ ∀ N, 190040 ≤ N → Gam.pureD (callF tab ext N) 86 [.agg s.cells, .agg key.cells] = some (.tup [nat i, boolX b]) := by
  obtain ⟨a, b0, ss⟩ := s
  have hl : ss.length ≤ 100 := hs.slots
  have hx : ∀ x, x ∈ ss → x.ok := fun x h => (hs.slot x h).1
  have hlen := sltsC_length ss
  obtain ⟨r, _, hr, hS⟩ := srch_ex ss key ss.length 0 ss.length (by omega) (by omega)
  have hSp := srch_spot hS (fun h => absurd h (by omega)) (fun h => absurd h (by omega))
  have hcmp : ∀ (j : Nat) (hj : j < ss.length) (N : Nat), 180020 ≤ N → Gam.pureD (callF tab ext N) 114 [.agg ss[j].cells, .agg key.cells] = some (num (cmpV ss[j].key key)) := fun j hj N hN => cmp116 N hN _ _ (hx _ (List.getElem_mem hj)).key
  have hgd : ∀ (j : Nat) (hj : j < ss.length), ss.getD j dSlt = ss[j] := fun j hj => by rw [List.getD_eq_getElem?_getD, List.getElem?_eq_getElem hj]; rfl
  obtain ⟨k, i, s, tx, vl, fl⟩ := key
  have hloop : ∀ M, 190000 ≤ M → ∀ τ, canon 0 τ = some (seH (sltsC ss) k i s tx (cellsL vl) (cellsF fl) (sltsC ss).length 0 (sltsC ss).length) → run (callF tab ext M) 0 M (.loop (loopAt 113 0)) τ = some (.exit 0, seE (sltsC ss) k i s tx (cellsL vl) (cellsF fl) (sltsC ss).length r r) := fun M hM τ hτ => by
    refine loop_dec (α := Nat × Nat) (σ := fun a => seH (sltsC ss) k i s tx (cellsL vl) (cellsF fl) (sltsC ss).length a.1 a.2) (I := fun a => a.2 ≤ ss.length ∧ Srch ss (.mk k i s tx vl fl) a.1 a.2 r) (μ := fun a => a.2 - a.1) (fun a ha => ?_) (by simp) (a := (0, (sltsC ss).length)) ⟨by dsimp only; omega, by rw [hlen]; exact hS⟩ hτ (by dsimp only; omega)
    obtain ⟨lo, hi⟩ := a
    obtain ⟨ha1, ha2⟩ := ha
    dsimp only at ha1 ha2 ⊢
    cases ha2 with
    | stop =>
      right
      exact se_end _ _ _ _ _ _ _ _ _ _ (Nat.lt_irrefl _) M
    | lt h hc hr' =>
      left
      have hh : (lo + hi) / 2 < ss.length := by omega
      rw [hgd _ hh] at hc
      have := (se_step (sltsC ss) k i s tx (cellsL vl) (cellsF fl) (sltsC ss).length lo hi ss[(lo + hi) / 2] _ h (by omega) (sltsC_get hh) M (hcmp _ hh M (by omega))).1 hc
      exact ⟨_, ((lo + hi) / 2 + 1, hi), this, se_canon .., ⟨ha1, hr'⟩, by dsimp only; omega⟩
    | ge h hc hr' =>
      left
      have hh : (lo + hi) / 2 < ss.length := by omega
      rw [hgd _ hh] at hc
      have := (se_step (sltsC ss) k i s tx (cellsL vl) (cellsF fl) (sltsC ss).length lo hi ss[(lo + hi) / 2] _ h (by omega) (sltsC_get hh) M (hcmp _ hh M (by omega))).2 hc
      exact ⟨_, (lo, (lo + hi) / 2), this, se_canon .., ⟨by dsimp only; omega, hr'⟩, by dsimp only; omega⟩
  by_cases hlt : r < ss.length
  · refine ⟨r, cmpV ss[r].key (.mk k i s tx vl fl) == 0, hr, fun h => ⟨hlt, eq_of_beq h⟩, fun h => ⟨hSp, fun _ hz => by rw [hz] at h; cases h⟩, fun N hN => ?_⟩
    obtain ⟨M, rfl⟩ : ∃ M, N = M + 2 := ⟨N - 2, by omega⟩
    have hc := hcmp r hlt M (by omega)
    have hg := sltsC_get hlt
    generalize cmpV ss[r].key (.mk k i s tx vl fl) = z at hc ⊢
    generalize ss[r] = x at hc hg
    have hl0 := hloop M (by omega) ⟨[(0, .sl false 10 (sltsC ss)), (2, .fn 114 []), (4, .ptr 0 0 0), (8, nat (sltsC ss).length), (9, num 0), (10, nat (sltsC ss).length)], [.var (keyC k i s tx (cellsL vl) (cellsF fl))]⟩ (by kernel_rfl)
    have h1 : decide (Int.ofNat r < Int.ofNat (sltsC ss).length) = true := lt_nat (by omega)
    have h115 : Gam.pureD (callF tab ext (M + 1)) 113 [.sl false 10 (sltsC ss), .agg (Val.mk k i s tx vl fl).cells, .fn 114 []] = some (.tup [nat r, boolX (z == 0)]) := by
      obtain ⟨⟨k', i', s', tx', vl', fl'⟩, n2, c, ms, vs⟩ := x
      cases h2 : (z == 0) with
      | true => exact pure_of [(38, .b true), (43, .e (slotC k' i' s' tx' (cellsL vl') (cellsF fl') n2 c (msgsC ms) (cellsL vs))), (46, .p (num z)), (47, .b true)] [(.exit 0, seE (sltsC ss) k i s tx (cellsL vl) (cellsF fl) (sltsC ss).length r r)] (pf5 hl0 h1 hg hc h2) (x := .tup [nat r, boolX true]) (bx := []) (by kernel_rfl) rfl
      | false => exact pure_of [(38, .b true), (43, .e (slotC k' i' s' tx' (cellsL vl') (cellsF fl') n2 c (msgsC ms) (cellsL vs))), (46, .p (num z)), (47, .b false)] [(.exit 0, seE (sltsC ss) k i s tx (cellsL vl) (cellsF fl) (sltsC ss).length r r)] (pf5 hl0 h1 hg hc h2) (x := .tup [nat r, boolX false]) (bx := []) (by kernel_rfl) rfl
    exact pure_of [(9, .p (.tup [nat r, boolX (z == 0)]))] [] (pf1 h115) (x := .tup [nat r, boolX (z == 0)]) (bx := []) (by kernel_rfl) rfl
  · refine ⟨r, false, hr, fun h => (by cases h), fun _ => ⟨hSp, fun h => absurd h hlt⟩, fun N hN => ?_⟩
    obtain ⟨M, rfl⟩ : ∃ M, N = M + 2 := ⟨N - 2, by omega⟩
    have hl0 := hloop M (by omega) ⟨[(0, .sl false 10 (sltsC ss)), (2, .fn 114 []), (4, .ptr 0 0 0), (8, nat (sltsC ss).length), (9, num 0), (10, nat (sltsC ss).length)], [.var (keyC k i s tx (cellsL vl) (cellsF fl))]⟩ (by kernel_rfl)
    have h1 : decide (Int.ofNat r < Int.ofNat (sltsC ss).length) = false := nlt_nat (by omega)
    have h115 : Gam.pureD (callF tab ext (M + 1)) 113 [.sl false 10 (sltsC ss), .agg (Val.mk k i s tx vl fl).cells, .fn 114 []] = some (.tup [nat r, boolX false]) :=
      pure_of [(38, .b false)] [(.exit 0, seE (sltsC ss) k i s tx (cellsL vl) (cellsF fl) (sltsC ss).length r r)] (pf2 hl0 h1) (x := .tup [nat r, boolX false]) (bx := []) (by kernel_rfl) rfl
    exact pure_of [(9, .p (.tup [nat r, boolX false]))] [] (pf1 h115) (x := .tup [nat r, boolX false]) (bx := []) (by kernel_rfl) rfl
end Go.Proofs.YthphniobeigklaaGreatDoor

/- A slot is put into a state, at any index. -/
namespace Go.Proofs.YthphniobeigklaaGreatDoor
open Go.Em
set_option maxRecDepth 100000

theorem rowOf_get {bx : List Bx} {i sz n : Nat} {es : List (List X)} (h : bx[i]? = some (.row sz es)) (hn : n = es.length) : rowOf bx i 0 n = some (sz, es) := by
  subst hn
  simp [rowOf, h]

theorem ins_call (N : Nat) (rows : List (List X)) (n i : Nat) (x : List X) (hn : n = rows.length) (hi : i ≤ n) (hl : n ≤ 2000000) :
    callF tab ext (N + 1) (.fn 100) [.bs 0 0 n, nat i, .sl true 10 [x]] [.row 10 rows] = some (.bs 1 0 (n + 1), [.dead, .row 10 (rows.take i ++ [x] ++ rows.drop i)]) := by
  have e : callF tab ext (N + 1) (.fn 100) [.bs 0 0 n, nat i, .sl true 10 [x]] [.row 10 rows] = insExt 10 [.bs 0 0 n, nat i, .sl true 10 [x]] [.row 10 rows] := rfl
  rw [e]
  show (if 10 = 10 ∧ 10 = 10 ∧ n = rows.length ∧ n ≤ 2000000 ∧ 0 ≤ Int.ofNat i ∧ (Int.ofNat i).toNat ≤ n then some (X.bs 1 0 (n + 1), [Bx.dead, Bx.row 10 (rows.take (Int.ofNat i).toNat ++ [x] ++ rows.drop (Int.ofNat i).toNat)]) else none) = _
  rw [if_pos ⟨rfl, rfl, hn, hl, Int.natCast_nonneg i, hi⟩]
  rfl
theorem small_int {k : Nat} (h : k < 1024) : decide (Int.ofNat k ≥ 1024) = false := decide_eq_false (by simp only [Int.ofNat_eq_natCast]; omega)
/-- The slots with one more, or with one in the place of another. -/
def putS (b : Bool) (i : Nat) (x : Slt) (ss : List Slt) : List Slt := if b then ss.set i x else ss.take i ++ [x] ++ ss.drop i

theorem put_at (s : Stt) (hs : s.small) (x : Slt) (hx : x.ok) (i : Nat) (b : Bool) (hi : i ≤ s.slots.length) (hb : b = true → i < s.slots.length) (hf : ∀ N, 190040 ≤ N → Gam.pureD (callF tab ext N) 86 [.agg s.cells, .agg x.key.cells] = some (.tup [nat i, boolX b])) (N : Nat) (hN : 190050 ≤ N) :
    Gam.pureD (callF tab ext N) 62 [.agg s.cells, .agg x.cells] = some (.tup [.agg (Stt.mk s.n s.t (putS b i x s.slots)).cells, num 0]) := by
  obtain ⟨M, rfl⟩ : ∃ M, N = M + 2 := ⟨N - 2, by omega⟩
  have hf := hf (M + 1) (by omega)
  have hst := clone_state (M + 1) s hs.ok (by omega)
  have hcl := clone_slot_pure (M + 1) x hx (by omega)
  have hl := hs.slots
  have hn := sltsC_length s.slots
  obtain ⟨a, c, ss⟩ := s
  dsimp only at hi hb hf hst hl hn ⊢
  unfold putS
  cases b with
  | true =>
    rw [if_pos rfl]
    have hi' := hb rfl
    have hg := sltsC_get hi'
    have e1 : sltsC (ss.set i x) = (sltsC ss).set (0 + i) x.cells := by simp [sltsC, List.map_set]
    have hlt : i < (sltsC ss).length := by omega
    obtain ⟨⟨k, j, z, tx, vl, fl⟩, n2, t2, ms, vs⟩ := x
    have h0 : rowOf [Bx.row 10 ((sltsC ss).set (0 + i) (slotC k j z tx (cellsL vl) (cellsF fl) n2 t2 (msgsC ms) (cellsL vs)))] 0 0 (sltsC ss).length = some (10, (sltsC ss).set (0 + i) (slotC k j z tx (cellsL vl) (cellsF fl) n2 t2 (msgsC ms) (cellsL vs))) := rowOf_get rfl (by simp)
    have hd : (X.tup [.agg [num a, num c, .bs 0 0 (sltsC ss).length], num 0]).data [Bx.row 10 ((sltsC ss).set (0 + i) (slotC k j z tx (cellsL vl) (cellsF fl) n2 t2 (msgsC ms) (cellsL vs)))] false = some (.tup [.agg (Stt.mk a c (ss.set i ⟨.mk k j z tx vl fl, n2, t2, ms, vs⟩)).cells, num 0]) := by
      simp only [X.data, dataL, num, h0, Option.map_some, Stt.cells, e1]; rfl
    generalize hgo : ss[i] = o at hg
    obtain ⟨⟨k', j', z', tx', vl', fl'⟩, n2', t2', ms', vs'⟩ := o
    exact pure_of [(13, .p (.tup [nat i, boolX true])), (26, .o (.agg [num a, num c, .bs 0 0 (sltsC ss).length]) [.row 10 (sltsC ss)]), (32, .p (.agg (slotC k j z tx (cellsL vl) (cellsF fl) n2 t2 (msgsC ms) (cellsL vs)))), (33, .at), (1000033, .st (slotC k' j' z' tx' (cellsL vl') (cellsF fl') n2' t2' (msgsC ms') (cellsL vs')))] []
      (pf5 hf hst hcl hlt (show (sltsC ss)[0 + i]? = some (slotC k' j' z' tx' (cellsL vl') (cellsF fl') n2' t2' (msgsC ms') (cellsL vs')) by rw [Nat.zero_add]; exact hg)) (x := .tup [.agg [num a, num c, .bs 0 0 (sltsC ss).length], num 0]) (bx := [.row 10 ((sltsC ss).set (0 + i) (slotC k j z tx (cellsL vl) (cellsF fl) n2 t2 (msgsC ms) (cellsL vs)))]) (by kernel_rfl) hd
  | false =>
    rw [if_neg (by simp)]
    have e1 : sltsC (ss.take i ++ [x] ++ ss.drop i) = (sltsC ss).take i ++ [x.cells] ++ (sltsC ss).drop i := by simp [sltsC, List.map_take, List.map_drop]
    have h22 : decide (Int.ofNat (sltsC ss).length ≥ 1024) = false := small_int (by omega)
    have hins := ins_call M (sltsC ss) (sltsC ss).length i x.cells rfl (by omega) (by omega)
    obtain ⟨⟨k, j, z, tx, vl, fl⟩, n2, t2, ms, vs⟩ := x
    have h0 : rowOf [Bx.row 10 ((sltsC ss).take i ++ [slotC k j z tx (cellsL vl) (cellsF fl) n2 t2 (msgsC ms) (cellsL vs)] ++ (sltsC ss).drop i)] 0 0 ((sltsC ss).length + 1) = some (10, (sltsC ss).take i ++ [slotC k j z tx (cellsL vl) (cellsF fl) n2 t2 (msgsC ms) (cellsL vs)] ++ (sltsC ss).drop i) := rowOf_get rfl (by simp; omega)
    have hd : (X.tup [.agg [num a, num c, .bs 0 0 ((sltsC ss).length + 1)], num 0]).data [Bx.row 10 ((sltsC ss).take i ++ [slotC k j z tx (cellsL vl) (cellsF fl) n2 t2 (msgsC ms) (cellsL vs)] ++ (sltsC ss).drop i)] false = some (.tup [.agg (Stt.mk a c (ss.take i ++ [⟨.mk k j z tx vl fl, n2, t2, ms, vs⟩] ++ ss.drop i)).cells, num 0]) := by
      simp only [X.data, dataL, num, h0, Option.map_some, Stt.cells, e1]; rfl
    exact pure_of [(13, .p (.tup [nat i, boolX false])), (22, .b false), (26, .o (.agg [num a, num c, .bs 0 0 (sltsC ss).length]) [.row 10 (sltsC ss)]), (38, .p (.agg (slotC k j z tx (cellsL vl) (cellsF fl) n2 t2 (msgsC ms) (cellsL vs)))), (40, .r (.bs 1 0 ((sltsC ss).length + 1)) [.dead, .row 10 ((sltsC ss).take i ++ [slotC k j z tx (cellsL vl) (cellsF fl) n2 t2 (msgsC ms) (cellsL vs)] ++ (sltsC ss).drop i)])] []
      (pf5 hf h22 hst hcl hins) (x := .tup [.agg [num a, num c, .bs 0 0 ((sltsC ss).length + 1)], num 0]) (bx := [.row 10 ((sltsC ss).take i ++ [slotC k j z tx (cellsL vl) (cellsF fl) n2 t2 (msgsC ms) (cellsL vs)] ++ (sltsC ss).drop i)]) (by kernel_rfl) hd
end Go.Proofs.YthphniobeigklaaGreatDoor

/- slots.Get. -/
namespace Go.Proofs.YthphniobeigklaaGreatDoor
open Go.Em
set_option maxRecDepth 100000

end Go.Proofs.YthphniobeigklaaGreatDoor

/- The aggregator at several groups: the place of a group, what slots.Get, Put, Remove, Held hand back. -/
namespace Go.Proofs.YthphniobeigklaaGreatDoor.Ag
open Go Go.Em Go.Proofs.YthphniobeigklaaGreatDoor
set_option maxRecDepth 100000

theorem ordI_lt {a b : Int} : ordI a b < 0 ↔ a < b := by
  unfold ordI
  split
  · simp [*]
  · split
    · omega
    · omega
theorem ordI_self (a : Int) : ordI a a = 0 := by unfold ordI; rw [if_neg (Int.lt_irrefl _), if_neg (Int.lt_irrefl _)]
theorem cmpB_nil : cmpB ⟨#[]⟩ ⟨#[]⟩ = 0 := by decide
theorem cmp_kv (a k : Int) : cmpV (kv a) (kv k) = ordI a k := by
  unfold kv cmpV
  simp only [orL, ordI_self, cmpB_nil, cmpVL, cmpVF, if_true]
  split
  · rename_i h; exact h.symm
  · rfl
theorem kv_ok (k : Int) : (kv k).ok := by unfold Val.ok kv; simp [Val.size, sizeL, sizeF]
/-- slots.Get, as it hands the group's rows over. -/
def getX (b : Bool) (x : Slt) : X × List Bx := if b then (.tup [.agg (x.key.cells ++ [num x.n, num x.t, .bs 0 0 (msgsC x.items).length, .bs 1 0 (cellsL x.vals).length]), boolX true], [.row 10 (msgsC x.items), .row 6 (cellsL x.vals)])
  else (.tup [.agg [num 0, num 0, num 0, strX ⟨#[]⟩, .sl true 6 [], .sl true 7 [], num 0, num 0, .sl true 10 [], .sl true 6 []], boolX false], [])
theorem get_ex3 (s : Stt) (hs : s.small) (key : Val) : ∃ (i : Nat) (b : Bool) (x : Slt), i ≤ s.slots.length ∧ (b = true → ∃ h : i < s.slots.length, cmpV s.slots[i].key key = 0 ∧ x = s.slots[i]) ∧ (b = false → Spot s.slots key i ∧ ∀ h : i < s.slots.length, ¬ cmpV s.slots[i].key key = 0) ∧ (∀ N, 190050 ≤ N → callF tab ext N (.fn 81) [.agg s.cells, .agg key.cells] [] = some (getX b x)) ∧ ∀ N, 190040 ≤ N → Gam.pureD (callF tab ext N) 86 [.agg s.cells, .agg key.cells] = some (.tup [nat i, boolX b]) := by
  obtain ⟨i, b, hi, h1, h2, hf⟩ := find_ex2 s hs key
  have hf0 := hf
  have hok := hs.ok.slot
  obtain ⟨a, c, ss⟩ := s
  obtain ⟨k1, k2, k3, k4, k5, k6⟩ := key
  dsimp only at hi h1 h2 hok
  cases b with
  | false =>
    refine ⟨i, false, dSlt, hi, fun h => (by cases h), fun _ => h2 rfl, fun N hN => ?_, hf0⟩
    obtain ⟨M, rfl⟩ : ∃ M, N = M + 1 := ⟨N - 1, by omega⟩
    have hf := hf M (by omega)
    exact callF_of [(11, .p (.tup [nat i, boolX false]))] [] (pf1 hf) (by kernel_rfl)
  | true =>
    obtain ⟨hlt, hc⟩ := h1 rfl
    refine ⟨i, true, ss[i], hi, fun _ => ⟨hlt, hc, rfl⟩, fun h => (by cases h), fun N hN => ?_, hf0⟩
    obtain ⟨M, rfl⟩ : ∃ M, N = M + 1 := ⟨N - 1, by omega⟩
    have hf := hf M (by omega)
    have hg := sltsC_get hlt
    have hxo := hok _ (List.getElem_mem hlt)
    generalize ss[i] = x at hg hxo ⊢
    obtain ⟨⟨x1, x2, x3, x4, x5, x6⟩, n, t, ms, vs⟩ := x
    have hcl : callF tab ext M (.fn 79) [.agg (Slt.mk ⟨x1, x2, x3, x4, x5, x6⟩ n t ms vs).cells] [] = some (.agg [num x1, num x2, num x3, strX x4, .sl false 6 (cellsL x5), .sl false 7 (cellsF x6), num n, num t, .bs 0 0 (msgsC ms).length, .bs 1 0 (cellsL vs).length], [.row 10 (msgsC ms), .row 6 (cellsL vs)]) := clone_slot M _ hxo (by omega)
    exact callF_of [(11, .p (.tup [nat i, boolX true])), (20, .e (Slt.mk ⟨x1, x2, x3, x4, x5, x6⟩ n t ms vs).cells), (22, .o (.agg [num x1, num x2, num x3, strX x4, .sl false 6 (cellsL x5), .sl false 7 (cellsF x6), num n, num t, .bs 0 0 (msgsC ms).length, .bs 1 0 (cellsL vs).length]) [.row 10 (msgsC ms), .row 6 (cellsL vs)])] [] (pf3 hf hg hcl) (by kernel_rfl)
/-- A group: its key, the time at which it ends, its messages (place among the inputs, number). -/
structure Ga where
  g : Int
  t : Int
  M : List (Nat × Nat)
def Ga.slt (x : Ga) : Slt := ⟨kv x.g, 0, x.t, x.M.map (msV x.g), []⟩
def gst (gs : List Ga) : Stt := ⟨0, 0, gs.map Ga.slt⟩
def SrtG (gs : List Ga) : Prop := gs.Pairwise fun a b => a.g < b.g
/-- Few groups, few messages. -/
def SmG (gs : List Ga) : Prop := gs.length ≤ 100 ∧ ∀ x, x ∈ gs → x.M.length ≤ 100
def lowG (g : Int) : List Ga → Nat
  | [] => 0
  | p :: r => if p.g < g then lowG g r + 1 else 0
def knG (g : Int) (gs : List Ga) : Bool := match gs[lowG g gs]? with
  | some x => x.g == g
  | none => false
/-- The group of a key, or a new one. -/
def getG (g : Int) (gs : List Ga) : Ga := match gs[lowG g gs]? with
  | some x => if x.g = g then x else ⟨g, 0, []⟩
  | none => ⟨g, 0, []⟩
theorem slt_ok (x : Ga) (h : x.M.length ≤ 101) : x.slt.ok :=
  ⟨kv_ok x.g, by simp [Ga.slt]; omega, fun m hm => by
    obtain ⟨p, _, rfl⟩ := List.mem_map.1 hm
    exact msV_ok x.g p, by simp [Ga.slt], fun v hv => by cases hv⟩
theorem gst_small (gs : List Ga) (h : SmG gs) : (gst gs).small := ⟨by simp [gst]; have := h.1; omega, fun x hx => by
  obtain ⟨y, hy, rfl⟩ := List.mem_map.1 hx
  have := h.2 y hy
  exact ⟨slt_ok y (by omega), by simp [Ga.slt]; omega, by simp [Ga.slt]⟩⟩
theorem lowG_le (g : Int) : ∀ gs : List Ga, lowG g gs ≤ gs.length
  | [] => Nat.le_refl _
  | p :: r => by
    unfold lowG
    split
    · have := lowG_le g r; simp; omega
    · omega
theorem lowG_eq (g : Int) : ∀ (gs : List Ga) (i : Nat), i ≤ gs.length → (∀ j (h : j < gs.length), j < i → gs[j].g < g) → (∀ h : i < gs.length, ¬ gs[i].g < g) → lowG g gs = i
  | [], i, h, _, _ => by simp at h; simp [lowG, h]
  | p :: r, 0, _, _, h2 => by
    have := h2 (by simp)
    simp only [List.getElem_cons_zero] at this
    unfold lowG
    rw [if_neg this]
  | p :: r, i + 1, h, h1, h2 => by
    have h3 := h1 0 (by simp) (by omega)
    simp only [List.getElem_cons_zero] at h3
    unfold lowG
    rw [if_pos h3, lowG_eq g r i (by simpa using h) (fun j hj hji => h1 (j + 1) (by simp; omega) (by omega)) (fun hi => h2 (by simp; omega))]
theorem key_get {gs : List Ga} {j : Nat} (h : j < gs.length) (g : Int) : cmpV ((gs.map Ga.slt).getD j dSlt).key (kv g) = ordI gs[j].g g := by
  rw [List.getD_eq_getElem?_getD, List.getElem?_eq_getElem (by simpa using h)]
  simp only [List.getElem_map, Option.getD_some]
  exact cmp_kv ..
theorem srtG_get {gs : List Ga} (h : SrtG gs) {i j : Nat} (hi : i < j) (hj : j < gs.length) : (gs[i]'(by omega)).g < gs[j].g := List.pairwise_iff_getElem.1 h i j (by omega) hj hi
theorem getG_at (gs : List Ga) (hs : SrtG gs) (hm : SmG gs) (g : Int) :
    (∀ N, 190050 ≤ N → callF tab ext N (.fn 81) [.agg (gst gs).cells, .agg (kv g).cells] [] = some (getX (knG g gs) (getG g gs).slt)) ∧ ∀ N, 190040 ≤ N → Gam.pureD (callF tab ext N) 86 [.agg (gst gs).cells, .agg (kv g).cells] = some (.tup [nat (lowG g gs), boolX (knG g gs)]) := by
  obtain ⟨i, b, x, hi, h1, h2, hg, hf⟩ := get_ex3 (gst gs) (gst_small gs hm) (kv g)
  have hl : (gst gs).slots.length = gs.length := by simp [gst]
  rw [hl] at hi
  cases b with
  | true =>
    obtain ⟨hlt, hc, hx⟩ := h1 rfl
    rw [hl] at hlt
    have hk : gs[i].g = g := ordI_zero (by
      have := cmp_kv gs[i].g g
      rw [← this]
      have e : (gst gs).slots[i] = gs[i].slt := by simp [gst]
      rw [e] at hc
      exact hc)
    have hlow : lowG g gs = i := lowG_eq g gs i hi (fun j hj hji => by have := srtG_get hs hji hlt; omega) (fun _ => by omega)
    have hkn : knG g gs = true := by unfold knG; rw [hlow, List.getElem?_eq_getElem hlt]; simpa using hk
    have hgt : getG g gs = gs[i] := by unfold getG; rw [hlow, List.getElem?_eq_getElem hlt]; simp [hk]
    have e : (gst gs).slots[i] = gs[i].slt := by simp [gst]
    rw [hkn, hgt, hlow]
    rw [e] at hx
    subst hx
    exact ⟨hg, hf⟩
  | false =>
    obtain ⟨hsp, hne⟩ := h2 rfl
    have hlow : lowG g gs = i := lowG_eq g gs i hi (fun j hj hji => by
      have hb := hsp.before (by omega)
      show gs[j].g < g
      rw [show (gst gs).slots = gs.map Ga.slt from rfl, key_get (show i - 1 < gs.length by omega)] at hb
      have h3 := ordI_lt.1 hb
      by_cases hj1 : j = i - 1
      · subst hj1; exact h3
      · have := srtG_get hs (show j < i - 1 by omega) (by omega); omega) (fun hlt => by
      have hb := hsp.behind (by rw [hl]; exact hlt)
      rw [show (gst gs).slots = gs.map Ga.slt from rfl, key_get hlt] at hb
      exact fun h => hb (ordI_lt.2 h))
    have hnk : ∀ h : i < gs.length, gs[i].g ≠ g := fun h e => hne (by rw [hl]; exact h) (by
      have e2 : (gst gs).slots[i]'(by rw [hl]; exact h) = gs[i].slt := by simp [gst]
      rw [e2]
      show cmpV (kv gs[i].g) (kv g) = 0
      rw [cmp_kv, e, ordI_self])
    have hkn : knG g gs = false := by
      unfold knG
      rw [hlow]
      by_cases h : i < gs.length
      · rw [List.getElem?_eq_getElem h]; simpa using hnk h
      · rw [List.getElem?_eq_none (by omega)]
    rw [hkn, hlow]
    exact ⟨hg, hf⟩
/-- A group is put at its place. -/
def putG (x : Ga) (gs : List Ga) : List Ga := gs.take (lowG x.g gs) ++ [x] ++ gs.drop (lowG x.g gs + if knG x.g gs then 1 else 0)
theorem putG_at (gs : List Ga) (hs : SrtG gs) (hm : SmG gs) (x : Ga) (hx : x.M.length ≤ 101) (N : Nat) (hN : 190050 ≤ N) :
    Gam.pureD (callF tab ext N) 62 [.agg (gst gs).cells, .agg x.slt.cells] = some (.tup [.agg (gst (putG x gs)).cells, num 0]) := by
  have hl : (gst gs).slots.length = gs.length := by simp [gst]
  have hlow := lowG_le x.g gs
  have hkn : knG x.g gs = true → lowG x.g gs < gs.length := fun h => by
    unfold knG at h
    by_cases hlt : lowG x.g gs < gs.length
    · exact hlt
    · rw [List.getElem?_eq_none (by omega)] at h; cases h
  have key := put_at (gst gs) (gst_small gs hm) x.slt (slt_ok x hx) (lowG x.g gs) (knG x.g gs) (by rw [hl]; exact hlow) (fun h => by
    rw [hl]; exact hkn h) (getG_at gs hs hm x.g).2 N hN
  rw [key]
  have e : putS (knG x.g gs) (lowG x.g gs) x.slt (gst gs).slots = (putG x gs).map Ga.slt := by
    unfold putS putG
    cases hk : knG x.g gs with
    | true =>
      rw [if_pos rfl, if_pos rfl]
      show (gs.map Ga.slt).set _ _ = _
      rw [List.set_eq_take_append_cons_drop, if_pos (by simpa using hkn hk)]
      simp [List.map_take, List.map_drop]
    | false => simp [gst, List.map_take, List.map_drop]
  rw [e]
  rfl
end Go.Proofs.YthphniobeigklaaGreatDoor.Ag

/- The aggregator at several groups: Remove, Held; what holds of the places. -/
namespace Go.Proofs.YthphniobeigklaaGreatDoor.Ag
open Go Go.Em Go.Proofs.YthphniobeigklaaGreatDoor
set_option maxRecDepth 100000

/-! ### The place of a group -/
theorem take_lt (g : Int) : ∀ (gs : List Ga) (y : Ga), y ∈ gs.take (lowG g gs) → y.g < g
  | [], y, h => by simp [lowG] at h
  | p :: r, y, h => by
    unfold lowG at h
    split at h
    · rename_i hp
      rw [List.take_succ_cons] at h
      rcases List.mem_cons.1 h with rfl | h
      · exact hp
      · exact take_lt g r y h
    · simp at h
theorem low_not {g : Int} : ∀ {gs : List Ga} (h : lowG g gs < gs.length), ¬ gs[lowG g gs].g < g
  | [], h => by simp at h
  | p :: r, h => by
    by_cases hp : p.g < g
    · have e : lowG g (p :: r) = lowG g r + 1 := by show (if p.g < g then lowG g r + 1 else 0) = _; rw [if_pos hp]
      simp only [e] at h ⊢
      simpa using low_not (gs := r) (by simpa using h)
    · have e : lowG g (p :: r) = 0 := by show (if p.g < g then lowG g r + 1 else 0) = _; rw [if_neg hp]
      simp only [e, List.getElem_cons_zero]
      exact hp
def kn1 (g : Int) (gs : List Ga) : Nat := if knG g gs then 1 else 0
theorem kn1_eq {g : Int} {gs : List Ga} (hlt : lowG g gs < gs.length) : kn1 g gs = if gs[lowG g gs].g = g then 1 else 0 := by
  unfold kn1 knG
  rw [List.getElem?_eq_getElem hlt]
  simp
theorem drop_gt {g : Int} {gs : List Ga} (hs : SrtG gs) (y : Ga) (h : y ∈ gs.drop (lowG g gs + kn1 g gs)) : g < y.g := by
  have key : ∀ i (hi : i < gs.length), lowG g gs + kn1 g gs ≤ i → g < gs[i].g := fun i hi hle => by
    have hlt : lowG g gs < gs.length := by omega
    have h0 := low_not hlt
    rw [kn1_eq hlt] at hle
    by_cases hi0 : i = lowG g gs
    · subst hi0
      split at hle
      · omega
      · rename_i hk
        omega
    · have := srtG_get hs (show lowG g gs < i by omega) hi
      omega
  obtain ⟨j, hj, rfl⟩ := List.getElem_of_mem h
  rw [List.length_drop] at hj
  rw [List.getElem_drop]
  exact key _ _ (by omega)
theorem split_at (g : Int) (gs : List Ga) : gs = gs.take (lowG g gs) ++ (if knG g gs then [getG g gs] else []) ++ gs.drop (lowG g gs + kn1 g gs) := by
  unfold kn1
  cases hk : knG g gs with
  | false =>
    simp only [Bool.false_eq_true, if_false, Nat.add_zero, List.append_nil, List.take_append_drop]
  | true =>
    simp only [if_true]
    have hlt : lowG g gs < gs.length := by
      unfold knG at hk
      by_cases h : lowG g gs < gs.length
      · exact h
      · rw [List.getElem?_eq_none (by omega)] at hk; cases hk
    have hg : getG g gs = gs[lowG g gs] := by
      unfold knG at hk
      unfold getG
      rw [List.getElem?_eq_getElem hlt] at hk ⊢
      dsimp only at hk ⊢
      rw [if_pos (by simpa using hk)]
    rw [hg, List.append_assoc, List.singleton_append, ← List.drop_eq_getElem_cons hlt, List.take_append_drop]
theorem putG_eq (x : Ga) (gs : List Ga) : putG x gs = gs.take (lowG x.g gs) ++ [x] ++ gs.drop (lowG x.g gs + kn1 x.g gs) := rfl
theorem putG_mem {x y : Ga} {gs : List Ga} (h : y ∈ putG x gs) : y = x ∨ y ∈ gs := by
  rw [putG_eq] at h
  rcases List.mem_append.1 h with h | h
  · rcases List.mem_append.1 h with h | h
    · exact .inr (List.mem_of_mem_take h)
    · exact .inl (List.mem_singleton.1 h)
  · exact .inr (List.mem_of_mem_drop h)
theorem putG_srt {x : Ga} {gs : List Ga} (hs : SrtG gs) : SrtG (putG x gs) := by
  rw [putG_eq]
  unfold SrtG
  rw [List.append_assoc]
  refine List.pairwise_append.2 ⟨List.Pairwise.take hs, List.pairwise_cons.2 ⟨fun y hy => drop_gt hs y hy, List.Pairwise.drop hs⟩, fun a ha b hb => ?_⟩
  have h1 := take_lt x.g gs a ha
  rcases List.mem_cons.1 hb with rfl | hb
  · exact h1
  · have := drop_gt hs b hb; omega
theorem putG_len (x : Ga) (gs : List Ga) : (putG x gs).length ≤ gs.length + 1 := by
  rw [putG_eq]
  simp only [List.length_append, List.length_take, List.length_drop, List.length_singleton]
  omega

/-- A group is taken out. -/
def delG (g : Int) (gs : List Ga) : List Ga := gs.take (lowG g gs) ++ gs.drop (lowG g gs + 1)
theorem delG_mem {g : Int} {y : Ga} {gs : List Ga} (h : y ∈ delG g gs) : y ∈ gs := by
  unfold delG at h
  rcases List.mem_append.1 h with h | h
  · exact List.mem_of_mem_take h
  · exact List.mem_of_mem_drop h
theorem delG_srt {g : Int} {gs : List Ga} (hs : SrtG gs) : SrtG (delG g gs) := by
  unfold delG SrtG at *
  have h : (gs.take (lowG g gs) ++ gs.drop (lowG g gs + 1)).Sublist gs := by
    conv => rhs; rw [← List.take_append_drop (lowG g gs) gs]
    exact (List.Sublist.refl _).append (by rw [← List.drop_drop]; exact List.drop_sublist 1 _)
  exact hs.sublist h
theorem delG_len (g : Int) (gs : List Ga) : (delG g gs).length ≤ gs.length := by
  unfold delG
  simp only [List.length_append, List.length_take, List.length_drop]
  omega
theorem knG_lt {g : Int} {gs : List Ga} (h : knG g gs = true) : lowG g gs < gs.length := by
  unfold knG at h
  by_cases hlt : lowG g gs < gs.length
  · exact hlt
  · rw [List.getElem?_eq_none (by omega)] at h; cases h
theorem rem49 (gs : List Ga) (hs : SrtG gs) (hm : SmG gs) (g : Int) (hk : knG g gs = true) (N : Nat) (hN : 190050 ≤ N) :
    Gam.pureD (callF tab ext N) 49 [.agg (gst gs).cells, .agg (kv g).cells] = some (.tup [.agg (gst (delG g gs)).cells, boolX true]) := by
  obtain ⟨M, rfl⟩ : ∃ M, N = M + 1 := ⟨N - 1, by omega⟩
  have h86 := (getG_at gs hs hm g).2 M (by omega)
  rw [hk] at h86
  have h46 := clone_state M (gst gs) (gst_small gs hm).ok (by omega)
  have hlt := knG_lt hk
  have hsl : (sltsC (gst gs).slots).length = gs.length := by rw [sltsC_length]; simp [gst]
  have e : sltsC (gst (delG g gs)).slots = (sltsC (gst gs).slots).take (lowG g gs) ++ (sltsC (gst gs).slots).drop (lowG g gs + 1) := by
    simp [sltsC, gst, delG, List.map_take, List.map_drop]
  have hbig := hm.1
  have h87 : callF tab ext M (.fn 87) [.bs 0 0 (sltsC (gst gs).slots).length, nat (lowG g gs), nat (lowG g gs + 1)] [.row 10 (sltsC (gst gs).slots)] = some (.bs 1 0 ((sltsC (gst gs).slots).length - 1), [.dead, .row 10 (sltsC (gst (delG g gs)).slots)]) := by
    rw [e]
    obtain ⟨K, rfl⟩ : ∃ K, M = K + 1 := ⟨M - 1, by omega⟩
    show delExt 10 [.bs 0 0 (sltsC (gst gs).slots).length, nat (lowG g gs), nat (lowG g gs + 1)] [.row 10 (sltsC (gst gs).slots)] = _
    unfold delExt
    have hz1 : (Int.ofNat (lowG g gs)).toNat = lowG g gs := rfl
    have hz2 : (Int.ofNat (lowG g gs + 1)).toNat = lowG g gs + 1 := rfl
    simp only [nat, hz1, hz2]
    rw [if_pos ⟨trivial, trivial, by omega, by simp only [Int.ofNat_eq_natCast]; omega, by simp only [Int.ofNat_eq_natCast]; omega, by omega⟩]
    have e2 : (sltsC (gst gs).slots).length - (lowG g gs + 1 - lowG g gs) = (sltsC (gst gs).slots).length - 1 := by omega
    rw [e2]
  have hd : (sltsC (gst gs).slots).length - 1 = (sltsC (gst (delG g gs)).slots).length := by
    rw [hsl, sltsC_length]
    simp [gst, delG]
    omega
  have hn := next_nat (j := lowG g gs) (by omega)
  show Gam.pureD _ _ [.agg [num 0, num 0, .sl false 10 (sltsC (gst gs).slots)], _] = some (.tup [.agg [num 0, num 0, .sl false 10 (sltsC (gst (delG g gs)).slots)], _])
  have h86' : Gam.pureD (callF tab ext M) 86 [.agg [num 0, num 0, .sl false 10 (sltsC (gst gs).slots)], .agg (kv g).cells] = some (.tup [nat (lowG g gs), boolX true]) := h86
  have h46' : callF tab ext M (.fn 46) [.agg [num 0, num 0, .sl false 10 (sltsC (gst gs).slots)]] [] = some (.agg [num 0, num 0, .bs 0 0 (sltsC (gst gs).slots).length], [.row 10 (sltsC (gst gs).slots)]) := h46
  clear e h46 h86
  generalize sltsC (gst (delG g gs)).slots = s2 at *
  generalize sltsC (gst gs).slots = ss at *
  generalize lowG g gs = i at *
  exact pure_of [(12, .p (.tup [nat i, boolX true])), (19, .o (.agg [num 0, num 0, .bs 0 0 ss.length]) [.row 10 ss]), (24, .i (Int.ofNat (i + 1))), (25, .r (.bs 1 0 (ss.length - 1)) [.dead, .row 10 s2])] [] (pf4 h86' h46' hn h87) (x := .tup [.agg [num 0, num 0, .bs 0 0 (ss.length - 1)], boolX true]) (bx := [.row 10 s2]) (by kernel_rfl)
    (data_tup (dataL_cons (data_agg (dataL_cons rfl (dataL_cons rfl (dataL_cons (data_bs rfl hd) rfl)))) (dataL_cons rfl rfl)))
theorem getG_new {g : Int} {gs : List Ga} (hk : knG g gs = false) : getG g gs = ⟨g, 0, []⟩ := by
  unfold knG at hk
  unfold getG
  split at hk
  · rw [if_neg (by simpa using hk)]
  · rfl
def heldG (gs : List Ga) : Nat := (gs.map fun x => x.M.length).sum
theorem held29 (gs : List Ga) (hm : SmG gs) (N : Nat) (hN : 60020 ≤ N) : Gam.pureD (callF tab ext N) 29 [.agg (gst gs).cells] = some (nat (heldG gs)) := by
  have h := held_pure (gst gs) (gst_small gs hm) N hN
  have e : (accOf (gst gs).slots).length = heldG gs := by
    unfold accOf gst heldG
    simp [List.length_flatMap, Ga.slt, Function.comp_def]
  rw [e] at h
  exact h
theorem heldG_app (a b : List Ga) : heldG (a ++ b) = heldG a + heldG b := by simp [heldG]
theorem heldG_put (x : Ga) (gs : List Ga) : heldG (putG x gs) + (getG x.g gs).M.length = heldG gs + x.M.length := by
  have h := split_at x.g gs
  have e : heldG gs = heldG (gs.take (lowG x.g gs)) + heldG (if knG x.g gs then [getG x.g gs] else []) + heldG (gs.drop (lowG x.g gs + kn1 x.g gs)) := by
    conv => lhs; rw [h]
    rw [heldG_app, heldG_app]
  rw [putG_eq, heldG_app, heldG_app, e]
  have h1 : heldG [x] = x.M.length := by simp [heldG]
  rw [h1]
  cases hk : knG x.g gs with
  | true =>
    simp only [if_true]
    have : heldG [getG x.g gs] = (getG x.g gs).M.length := by simp [heldG]
    omega
  | false =>
    rw [getG_new hk]
    simp only [Bool.false_eq_true, if_false, List.length_nil]
    have : heldG [] = 0 := rfl
    omega
theorem heldG_del {g : Int} {gs : List Ga} (hk : knG g gs = true) : heldG (delG g gs) + (getG g gs).M.length = heldG gs := by
  have h := split_at g gs
  have e : heldG gs = heldG (gs.take (lowG g gs)) + heldG (if knG g gs then [getG g gs] else []) + heldG (gs.drop (lowG g gs + kn1 g gs)) := by
    conv => lhs; rw [h]
    rw [heldG_app, heldG_app]
  have k1 : kn1 g gs = 1 := by unfold kn1; rw [hk]; rfl
  rw [e, k1, hk]
  unfold delG
  rw [heldG_app]
  have : heldG [getG g gs] = (getG g gs).M.length := by simp [heldG]
  simp only [if_true]
  omega
end Go.Proofs.YthphniobeigklaaGreatDoor.Ag

/- Slots sorted by their times (insertion). -/
namespace Go.Proofs.YthphniobeigklaaGreatDoor.Tm
open Go Go.Em Go.Proofs.YthphniobeigklaaGreatDoor Go.Proofs.YthphniobeigklaaGreatDoor.Ag
set_option maxRecDepth 100000

/-- The slot at j sinks to its place. -/
def bub : Nat → List Slt → List Slt
  | 0, L => L
  | j + 1, L => if (L.getD (j + 1) dSlt).t < (L.getD j dSlt).t then bub j ((L.set (j + 1) (L.getD j dSlt)).set j (L.getD (j + 1) dSlt)) else L
theorem bub_length : ∀ (j : Nat) (L : List Slt), (bub j L).length = L.length
  | 0, _ => rfl
  | j + 1, L => by
    unfold bub
    split
    · rw [bub_length]; simp
    · rfl
def isort : Nat → List Slt → List Slt
  | 0, L => L
  | k + 1, L => bub (k + 1) (isort k L)
theorem isort_length : ∀ (k : Nat) (L : List Slt), (isort k L).length = L.length
  | 0, _ => rfl
  | k + 1, L => by unfold isort; rw [bub_length, isort_length k L]
theorem cmpT (a b : Slt) (N : Nat) : Gam.pureD (callF tab ext (N + 20)) 85 [.agg a.cells, .agg b.cells] = some (num (ordI a.t b.t)) := by
  have h := cmp_int (N + 10) a.t b.t
  obtain ⟨⟨a1, a2, a3, a4, a5, a6⟩, a7, a8, a9, a0⟩ := a
  obtain ⟨⟨b1, b2, b3, b4, b5, b6⟩, b7, b8, b9, b0⟩ := b
  exact pure_of [(9, .p (num (ordI a8 b8)))] [] (pf1 h) (x := num (ordI a8 b8)) (bx := []) (by kernel_rfl) rfl
theorem pfI {a b c d e : Prop} {l : List Prop} (h1 : a) (h2 : b) (h3 : c) (h4 : d) (h5 : e) (h : allP l) : allP (a :: b :: c :: d :: e :: l) := ⟨h1, h2, h3, h4, h5, h⟩
section
variable (n i j : Nat) (rows : List (List X))
def isH : St := ⟨[(0, .bs 0 0 n), (1, num 0), (2, nat n), (3, .fn 85 []), (8, nat i), (9, nat j)], [.row 10 rows]⟩
def isE : St := ⟨[(0, .bs 0 0 n), (1, num 0), (2, nat n), (3, .fn 85 []), (8, nat i), (9, nat j), (34, boolX false)], [.row 10 rows]⟩
theorem isH_canon : canon 1 (isH n i j rows) = some (isH n i j rows) := by kernel_rfl
theorem i_zero (N : Nat) : run (callF tab ext N) 1 N (loopAt 159 1) (isH n i 0 rows) = some (.exit 2, isE n i 0 rows) :=
  run_of [(20, .b false)] [] (pf1 (show decide (Int.ofNat 0 > 0) = false by decide)) (lo' := []) (by kernel_rfl)
end
theorem i_step (n i j : Nat) (L : List Slt) (hn : n = L.length) (h100 : L.length ≤ 100) (hj : j + 1 < L.length) (N : Nat) (hN : 100 ≤ N) :
    (¬ L[j + 1].t < (L[j]'(by omega)).t → run (callF tab ext N) 1 N (loopAt 159 1) (isH n i (j + 1) (sltsC L)) = some (.exit 2, isE n i (j + 1) (sltsC L))) ∧
    (L[j + 1].t < (L[j]'(by omega)).t → run (callF tab ext N) 1 N (loopAt 159 1) (isH n i (j + 1) (sltsC L)) = some (.norm, isH n i j (sltsC ((L.set (j + 1) (L[j]'(by omega))).set j L[j + 1])))) := by
  obtain ⟨M, rfl⟩ : ∃ M, N = M + 20 := ⟨N - 20, by omega⟩
  have hlen := sltsC_length L
  have ga := sltsC_get hj
  have gb := sltsC_get (show j < L.length by omega)
  have h1 : decide (Int.ofNat (j + 1) > 0) = true := decide_eq_true (by grind)
  have h2 : (Int.ofNat (j + 1)).toNat < n := by simp; omega
  have h3 : (Int.ofNat j).toNat < n := by simp; omega
  have hw : IntKind.i64.wrap (Int.ofNat (j + 1) - 1) = Int.ofNat j := by rw [IntKind.wrap_i64]; simp only [Int.ofNat_eq_natCast]; omega
  have hc := cmpT L[j + 1] (L[j]'(by omega)) M
  have e2 : sltsC ((L.set (j + 1) (L[j]'(by omega))).set j L[j + 1]) = ((sltsC L).set (0 + (j + 1)) (L[j]'(by omega)).cells).set (0 + j) L[j + 1].cells := by simp [sltsC, List.map_set]
  rw [e2]
  generalize L[j + 1] = a at *
  generalize (L[j]'(by omega)) = b at *
  have ga' : (sltsC L)[0 + (Int.ofNat (j + 1)).toNat]? = some a.cells := by rw [Nat.zero_add]; exact ga
  have gb' : (sltsC L)[0 + (Int.ofNat j).toNat]? = some b.cells := by rw [Nat.zero_add]; exact gb
  have gs : ((sltsC L).set (0 + (Int.ofNat (j + 1)).toNat) b.cells)[0 + (Int.ofNat j).toNat]? = some b.cells := by
    rw [List.getElem?_set_ne (by grind)]; exact gb'
  have ho : ordI a.t b.t < 0 ↔ a.t < b.t := ordI_lt
  obtain ⟨⟨a1, a2, a3, a4, a5, a6⟩, a7, a8, a9, a0⟩ := a
  obtain ⟨⟨b1, b2, b3, b4, b5, b6⟩, b7, b8, b9, b0⟩ := b
  dsimp only at ho hc ⊢
  generalize ordI a8 b8 = r at hc ho
  constructor
  · intro h
    have h7 := decide_eq_false (fun hh => h (ho.1 hh))
    exact run_of [(20, .b true), (25, .at), (26, .ld (Slt.mk ⟨a1, a2, a3, a4, a5, a6⟩ a7 a8 a9 a0).cells), (29, .i (Int.ofNat j)), (30, .at), (31, .ld (Slt.mk ⟨b1, b2, b3, b4, b5, b6⟩ b7 b8 b9 b0).cells), (32, .p (num r)), (33, .b false)] []
      (pf8 h1 h2 ga' hw h3 gb' hc h7) (lo' := []) (by kernel_rfl)
  · intro h
    have h7 := decide_eq_true (ho.2 h)
    exact run_of [(20, .b true), (25, .at), (26, .ld (Slt.mk ⟨a1, a2, a3, a4, a5, a6⟩ a7 a8 a9 a0).cells), (29, .i (Int.ofNat j)), (30, .at), (31, .ld (Slt.mk ⟨b1, b2, b3, b4, b5, b6⟩ b7 b8 b9 b0).cells), (32, .p (num r)), (33, .b true), (41, .i (Int.ofNat j)), (44, .i (Int.ofNat j)), (45, .at), (46, .ld (Slt.mk ⟨b1, b2, b3, b4, b5, b6⟩ b7 b8 b9 b0).cells), (49, .at), (50, .ld (Slt.mk ⟨a1, a2, a3, a4, a5, a6⟩ a7 a8 a9 a0).cells), (51, .at), (1000051, .st (Slt.mk ⟨a1, a2, a3, a4, a5, a6⟩ a7 a8 a9 a0).cells), (52, .at), (1000052, .st (Slt.mk ⟨b1, b2, b3, b4, b5, b6⟩ b7 b8 b9 b0).cells), (36, .i (Int.ofNat j))] []
      (pfI h1 h2 ga' hw h3 (pf14 gb' hc h7 hw hw h3 gb' h2 ga' h2 ga' h3 gs hw)) (lo' := []) (by kernel_rfl)
theorem i_loop (n i : Nat) (N : Nat) (hN : 200 ≤ N) : ∀ (j : Nat) (L : List Slt) (F : Nat) (τ : St), n = L.length → L.length ≤ 100 → (j < L.length ∨ j = 0) → j < F → canon 1 τ = some (isH n i j (sltsC L)) → ∃ j', iter 1 (run (callF tab ext N) 1 N (loopAt 159 1)) F τ = some (.exit 2, isE n i j' (sltsC (bub j L)))
  | 0, L, F, τ, _, _, _, hF, hτ => by
    obtain ⟨F, rfl⟩ : ∃ G, F = G + 1 := ⟨F - 1, by omega⟩
    exact ⟨0, iter_end hτ (i_zero n i (sltsC L) N) (by simp)⟩
  | j + 1, L, F, τ, hn, h100, hj, hF, hτ => by
    obtain ⟨F, rfl⟩ : ∃ G, F = G + 1 := ⟨F - 1, by omega⟩
    have hj' : j + 1 < L.length := by omega
    have hs := i_step n i j L hn h100 hj' N (by omega)
    have g1 : L.getD (j + 1) dSlt = L[j + 1] := by rw [List.getD_eq_getElem?_getD, List.getElem?_eq_getElem hj']; rfl
    have g2 : L.getD j dSlt = L[j]'(by omega) := by rw [List.getD_eq_getElem?_getD, List.getElem?_eq_getElem (by omega)]; rfl
    unfold bub
    rw [g1, g2]
    by_cases h : L[j + 1].t < (L[j]'(by omega)).t
    · rw [if_pos h]
      obtain ⟨j', hi⟩ := i_loop n i N hN j ((L.set (j + 1) (L[j]'(by omega))).set j L[j + 1]) F _ (by grind) (by grind) (by grind) (by omega) (isH_canon ..)
      exact ⟨j', iter_step hτ (hs.2 h) hi⟩
    · rw [if_neg h]
      grind[iter_end]

section
variable (n i : Nat) (rows : List (List X))
def oH : St := ⟨[(0, .bs 0 0 n), (1, num 0), (2, nat n), (3, .fn 85 []), (8, nat i)], [.row 10 rows]⟩
def oE : St := ⟨[(0, .bs 0 0 n), (1, num 0), (2, nat n), (3, .fn 85 []), (8, nat i), (14, boolX false)], [.row 10 rows]⟩
theorem oH_canon : canon 1 (oH n i rows) = some (oH n i rows) := by kernel_rfl
end
theorem o_loop (L : List Slt) (h100 : L.length ≤ 100) (N : Nat) (hN : 200 ≤ N) :
    run (callF tab ext N) 1 N (.loop (loopAt 159 0)) (oH L.length 1 (sltsC L)) = some (.exit 0, oE L.length (L.length - 1 + 1) (sltsC (isort (L.length - 1) L))) := by
  refine loop_for (σ := fun k => oH L.length (k + 1) (sltsC (isort k L))) (k := L.length - 1) (oH_canon ..) (fun k hk => ?_) ?_ (by simp) (by omega)
  · have hl := isort_length k L
    obtain ⟨j', hi⟩ := i_loop L.length (k + 1) N hN (k + 1) (isort k L) N (isH L.length (k + 1) (k + 1) (sltsC (isort k L))) hl.symm (by omega) (by omega) (by omega) (isH_canon ..)
    have hi : run (callF tab ext N) 1 N (.loop (loopAt 159 1)) (isH L.length (k + 1) (k + 1) (sltsC (isort k L))) = some (.exit 2, isE L.length (k + 1) j' (sltsC (isort (k + 1) L))) := hi
    exact ⟨oH L.length (k + 1 + 1) (sltsC (isort (k + 1) L)), run_of [(14, .b true), (16, .i (Int.ofNat (k + 1 + 1)))] [(.exit 2, isE L.length (k + 1) j' (sltsC (isort (k + 1) L)))] (pf3 (lt_nat (j := k + 1) (k := L.length) (by omega)) hi (next_nat (j := k + 1) (by omega))) (lo' := []) (by kernel_rfl), oH_canon ..⟩
  · exact run_of [(14, .b false)] [] (pf1 (nlt_nat (j := L.length - 1 + 1) (k := L.length) (by omega))) (lo' := []) (by kernel_rfl)
theorem sort300 (L : List Slt) (h100 : L.length ≤ 100) (N : Nat) (hN : 201 ≤ N) : callF tab ext N (.fn 159) [.bs 0 0 L.length, num 0, nat L.length, .fn 85 []] [.row 10 (sltsC L)] = some (.tup [], [.row 10 (sltsC (isort (L.length - 1) L))]) := by
  obtain ⟨M, rfl⟩ : ∃ M, N = M + 1 := ⟨N - 1, by omega⟩
  exact callF_of [] [(.exit 0, oE L.length (L.length - 1 + 1) (sltsC (isort (L.length - 1) L)))] (pf1 (o_loop L h100 M (by omega))) (by kernel_rfl)
section
variable (n : Nat) (rows : List (List X))
def s0H : St := ⟨[(0, .bs 0 0 n), (1, nat n), (2, .fn 85 []), (6, num 20), (7, num 0), (8, num 20)], [.row 10 rows]⟩
def s0E : St := ⟨[(0, .bs 0 0 n), (1, nat n), (2, .fn 85 []), (6, num 20), (7, num 0), (8, num 20), (13, boolX false)], [.row 10 rows]⟩
def s2H : St := ⟨[(0, .bs 0 0 n), (1, nat n), (2, .fn 85 []), (6, num 20)], [.row 10 rows]⟩
def s2E : St := ⟨[(0, .bs 0 0 n), (1, nat n), (2, .fn 85 []), (6, num 20), (30, boolX false)], [.row 10 rows]⟩
end
theorem sort216 (L : List Slt) (h : L.length < 20) (N : Nat) (hN : 203 ≤ N) : callF tab ext N (.fn 112) [.bs 0 0 L.length, nat L.length, .fn 85 []] [.row 10 (sltsC L)] = some (.tup [], [.row 10 (sltsC (isort (L.length - 1) L))]) := by
  obtain ⟨M, rfl⟩ : ∃ M, N = M + 1 := ⟨N - 1, by omega⟩
  have h1 := sort300 L (by omega) M (by omega)
  have e1 : decide ((20 : Int) ≤ Int.ofNat L.length) = false := decide_eq_false (by grind)
  have e2 : decide ((20 : Int) < Int.ofNat L.length) = false := decide_eq_false (by grind)
  have hl0 : run (callF tab ext M) 1 M (.loop (loopAt 112 0)) (s0H L.length (sltsC L)) = some (.exit 0, s0E L.length (sltsC L)) :=
    loop_for (σ := fun _ => s0H L.length (sltsC L)) (k := 0) (by kernel_rfl) (fun j hj => by omega) (run_of [(13, .b false)] [] (pf1 e1) (lo' := []) (by kernel_rfl)) (by simp) (by omega)
  have hl2 : run (callF tab ext M) 1 M (.loop (loopAt 112 1)) (s2H L.length (sltsC (isort (L.length - 1) L))) = some (.exit 2, s2E L.length (sltsC (isort (L.length - 1) L))) :=
    loop_for (σ := fun _ => s2H L.length (sltsC (isort (L.length - 1) L))) (k := 0) (by kernel_rfl) (fun j hj => by omega) (run_of [(30, .b false)] [] (pf1 e2) (lo' := []) (by kernel_rfl)) (by simp) (by omega)
  generalize sltsC (isort (L.length - 1) L) = R at *
  exact callF_of [(27, .r (.tup []) [.row 10 R])] [(.exit 0, s0E L.length (sltsC L)), (.exit 2, s2E L.length R)] (pf3 hl0 h1 hl2) (by kernel_rfl)
theorem sort141 (L : List Slt) (h : L.length < 20) (N : Nat) (hN : 204 ≤ N) : callF tab ext N (.fn 84) [.bs 0 0 L.length, .fn 85 []] [.row 10 (sltsC L)] = some (.tup [], [.row 10 (sltsC (isort (L.length - 1) L))]) := by
  obtain ⟨M, rfl⟩ : ∃ M, N = M + 1 := ⟨N - 1, by omega⟩
  exact callF_of [(8, .r (.tup []) [.row 10 (sltsC (isort (L.length - 1) L))])] [] (pf1 (sort216 L h M (by omega))) (by kernel_rfl)
end Go.Proofs.YthphniobeigklaaGreatDoor.Tm

/- slots.Expired: copies of the slots whose time has come, sorted by their times. -/
namespace Go.Proofs.YthphniobeigklaaGreatDoor.Ag
open Go Go.Em Go.Proofs.YthphniobeigklaaGreatDoor
set_option maxRecDepth 100000

def expS (d : Int) (x : Slt) : Bool := decide (x.t > 0) && decide (x.t ≤ d)
section
variable (es acc : List (List X)) (d : Int) (n j : Nat) (N : Nat)
def exH : St := ⟨[(1, num d), (5, .bs 0 0 n), (9, .sl false 10 es), (10, nat es.length), (11, nat j)], [.row 10 acc]⟩
def exE : St := ⟨[(1, num d), (5, .bs 0 0 n), (9, .sl false 10 es), (10, nat es.length), (11, nat j), (12, boolX false)], [.row 10 acc]⟩
theorem ex_end (h : ¬ j < es.length) : run (callF tab ext N) 0 N (loopAt 48 0) (exH es acc d n j) = some (.exit 0, exE es acc d n j) :=
  run_of [(12, .b false)] [] (pf1 (nlt_nat h)) (lo' := []) (by kernel_rfl)
theorem ex_skip (x : Slt) (hj : j < es.length) (hj2 : j < 100000) (hx : es[j]? = some x.cells) (h : expS d x = false) :
    ∃ υ, run (callF tab ext N) 0 N (loopAt 48 0) (exH es acc d n j) = some (.norm, υ) ∧ canon 0 υ = some (exH es acc d n (j + 1)) := by
  have hnx := next_nat (j := j) (by omega)
  have h0 := lt_nat hj
  unfold expS at h
  obtain ⟨⟨x1, x2, x3, x4, x5, x6⟩, x7, x8, ms, vs⟩ := x
  dsimp only at h
  cases h1 : (decide (x8 > 0)) with
  | true =>
    rw [h1, Bool.true_and] at h
    exact rd_of [(12, .b true), (13, .e (Slt.mk ⟨x1, x2, x3, x4, x5, x6⟩ x7 x8 ms vs).cells), (17, .b true), (22, .b false), (29, .i (Int.ofNat (j + 1)))] (pf5 h0 hx h1 h hnx) (by kernel_rfl)
  | false => exact rd_of [(12, .b true), (13, .e (Slt.mk ⟨x1, x2, x3, x4, x5, x6⟩ x7 x8 ms vs).cells), (17, .b false), (29, .i (Int.ofNat (j + 1)))] (pf4 h0 hx h1 hnx) (by kernel_rfl)
theorem ex_take (x : Slt) (hj : j < es.length) (hj2 : j < 100000) (hx : es[j]? = some x.cells) (h : expS d x = true) (hn : n = acc.length) (hn2 : n < 100000) (hc : Gam.pureD (callF tab ext N) 79 [.agg x.cells] = some (.agg x.cells)) :
    ∃ υ, run (callF tab ext N) 0 N (loopAt 48 0) (exH es acc d n j) = some (.norm, υ) ∧ canon 0 υ = some (exH es (acc ++ [x.cells]) d (n + 1) (j + 1)) := by
  have hnx := next_nat (j := j) (by omega)
  have h0 := lt_nat hj
  have ha := app_ok (acc := acc) n 0 152 (by omega) (by omega) (by omega)
  unfold expS at h
  rw [Bool.and_eq_true] at h
  obtain ⟨⟨x1, x2, x3, x4, x5, x6⟩, x7, x8, ms, vs⟩ := x
  exact rd_of [(12, .b true), (13, .e (Slt.mk ⟨x1, x2, x3, x4, x5, x6⟩ x7 x8 ms vs).cells), (17, .b true), (22, .b true), (26, .p (.agg (Slt.mk ⟨x1, x2, x3, x4, x5, x6⟩ x7 x8 ms vs).cells)), (28, .app), (29, .i (Int.ofNat (j + 1)))] (pf7 h0 hx h.1 h.2 hc ha hnx) (by kernel_rfl)
end
theorem sltsC_app (a b : List Slt) : sltsC (a ++ b) = sltsC a ++ sltsC b := by simp [sltsC]
theorem expired_pure (s : Stt) (hs : s.small) (d : Int) (hF : (s.slots.filter (expS d)).length < 20) (N : Nat) (hN : 190010 ≤ N) :
    Gam.pureD (callF tab ext N) 48 [.agg s.cells, num d] = some (.sl false 10 (sltsC (Tm.isort ((s.slots.filter (expS d)).length - 1) (s.slots.filter (expS d))))) := by
  obtain ⟨M, rfl⟩ : ∃ M, N = M + 1 := ⟨N - 1, by omega⟩
  obtain ⟨a, b, ss⟩ := s
  have hok := hs.2
  have hsl := hs.1
  dsimp only at hok hsl hF ⊢
  have hlen := sltsC_length ss
  have hl : run (callF tab ext M) 0 M (.loop (loopAt 48 0)) ⟨[(1, num d), (5, .bs 1 0 0), (9, .sl false 10 (sltsC ss)), (10, nat (sltsC ss).length), (11, num 0)], [.var [num a, num b, .sl false 10 (sltsC ss)], .row 10 []]⟩ = some (.exit 0, exE (sltsC ss) (sltsC (ss.filter (expS d))) d (ss.filter (expS d)).length (sltsC ss).length) := by
    refine loop_for (σ := fun j => exH (sltsC ss) (sltsC ((ss.take j).filter (expS d))) d ((ss.take j).filter (expS d)).length j) (k := (sltsC ss).length) (by kernel_rfl) (fun j hj => ?_) ?_ (by simp) (by omega)
    · have hj' : j < ss.length := by omega
      have hx := sltsC_get hj'
      have hle := List.length_filter_le (expS d) (ss.take j)
      rw [List.length_take] at hle
      rw [List.take_succ_eq_append_getElem hj', List.filter_append, List.length_append, sltsC_app]
      cases he : expS d ss[j] with
      | true =>
        have e1 : [ss[j]].filter (expS d) = [ss[j]] := by rw [List.filter_cons, if_pos he]; rfl
        rw [e1]
        exact ex_take (sltsC ss) _ d _ j M ss[j] (by omega) (by omega) hx he (sltsC_length _).symm (by omega) (clone_slot_pure M ss[j] (hok _ (List.getElem_mem hj')).1 (by omega))
      | false =>
        have e1 : [ss[j]].filter (expS d) = [] := by rw [List.filter_cons, if_neg (by rw [he]; decide)]; rfl
        rw [e1]
        have e2 : sltsC (List.filter (expS d) (List.take j ss)) ++ sltsC [] = sltsC (List.filter (expS d) (List.take j ss)) := List.append_nil _
        rw [e2]
        exact ex_skip (sltsC ss) _ d _ j M ss[j] (by omega) (by omega) hx he
    · have e : ss.take (sltsC ss).length = ss := by rw [hlen, List.take_length]
      rw [e]
      exact ex_end (sltsC ss) _ d _ _ M (by omega)
  have hso := Tm.sort141 (ss.filter (expS d)) hF M (by omega)
  have hil := Tm.isort_length ((ss.filter (expS d)).length - 1) (ss.filter (expS d))
  have hrl := sltsC_length (Tm.isort ((ss.filter (expS d)).length - 1) (ss.filter (expS d)))
  generalize Tm.isort ((ss.filter (expS d)).length - 1) (ss.filter (expS d)) = R at *
  generalize ss.filter (expS d) = F at *
  exact pure_of [(31, .r (.tup []) [.row 10 (sltsC R)])] [(.exit 0, exE (sltsC ss) (sltsC F) d F.length (sltsC ss).length)] (pf2 hl hso) (x := .bs 0 0 F.length) (bx := [.row 10 (sltsC R)]) (by kernel_rfl) (data_bs (bx := [.row 10 (sltsC R)]) (i := 0) rfl (by rw [hrl, hil]))
end Go.Proofs.YthphniobeigklaaGreatDoor.Ag

/- (*aggregator.builder).message: what becomes of a message, path by path (printed by gen_ms.py). -/
namespace Go.Proofs.YthphniobeigklaaGreatDoor.Ag
open Go Go.Em Go.Proofs.YthphniobeigklaaGreatDoor
set_option maxRecDepth 100000

def errT (a b : UInt8) : ByteArray := ⟨#[101, 114, 114, 111, 114, 32, a, b]⟩
def fullT : ByteArray := ⟨#[102, 117, 108, 108]⟩
def msgX (e mm : Int) (o : Option Int) (n : Nat) : List X := [num e, .sl false 1 [[num 1]], num mm, .sl false 1 [[num e]]] ++ (bodyV o n).cells
/-- An input: a message. -/
def inpX (e mm now : Int) (o : Option Int) (n : Nat) : List X := [num 1, num now, num e, .sl false 1 [[num 1]]] ++ msgX e mm o n ++ [num 0, boolX false, boolX false, num 0, num 0, num 0, strX ⟨#[]⟩, .sl false 6 [], .sl false 7 []]
def rejC (e : Int) (r : ByteArray) : List X := [num e, .sl false 1 [[num 1]], num 4, strX aggT, .sl false 2 [], strX r]
section
variable (nu ti li most : Int) (ex ss s2 : List (List X))
/-- The builder behind one rejection. -/
def bx1 (f m : List X) : List Bx := [.var (bX nu ti li ex (tyX most) ruX ss 1 0 4 1 5 1), .row 11 [], .dead, .dead, .row 6 [f], .row 10 [m]]
def bx0 : List Bx := [.var (bX nu ti li ex (tyX most) ruX ss 1 0 2 0 3 0), .row 11 [], .row 6 [], .row 10 []]
/-- The state behind the first region. -/
def twS (q' : Option Int) (now' e' mm' : Int) (n' : Nat) : St := ⟨[(0, .ptr 0 0 0), (3, .ptr 4 0 0), (4, .ptr 5 0 0), (5, .ptr 6 0 0)], bx0 nu ti li most (eKey :: ex) ss ++ [.var (inpX e' mm' now' q' n'), .var (msgX e' mm' q' n'), .var [num 0, num 0, .sl false 10 ss]]⟩
def getT (q t : Int) (k : Nat) : X := .tup [.agg ((kv q).cells ++ [num 0, num t, .bs 0 0 k, .bs 1 0 0]), boolX true]
def getF : X := .tup [.agg [num 0, num 0, num 0, strX ⟨#[]⟩, .sl true 6 [], .sl true 7 [], num 0, num 0, .sl true 10 [], .sl true 6 []], boolX false]
def slX (q t : Int) (ms : List (List X)) : List X := (kv q).cells ++ [num 0, num t, .sl false 10 ms, .sl false 6 []]
variable (q now e mm t : Int) (n k h : Nat) (ms bds : List (List X)) (O : List Otp) (F : List Fte) (L : List Msg) (N : Nat)
theorem m_none (h27 : decide (Int.ofNat (eKey :: ex).length > 0) = true) : callF tab ext (N + 601) (.fn 47) [.ptr 0 0 0, .agg (inpX e mm now none n)] (bx0 nu ti li most (eKey :: ex) ss) = some (.tup [], bx1 nu ti li most (eKey :: ex) ss (rejC e (errT 49 57)) (msgX e mm none n)) :=
  callF_of [(27, .b true)] [] (pf2 (Eq.refl (twS nu ti li most ex ss none now e mm n)) h27) (by kernel_rfl)
theorem m_full (h27 : decide (Int.ofNat (eKey :: ex).length > 0) = true) (h81 : callF tab ext (N + 600) (.fn 81) [.agg [num 0, num 0, .sl false 10 ss], .agg (kv q).cells] [] = some (getF, [])) (h82 : decide (Int.ofNat ss.length ≥ li) = true) :
    callF tab ext (N + 601) (.fn 47) [.ptr 0 0 0, .agg (inpX e mm now (some q) n)] (bx0 nu ti li most (eKey :: ex) ss) = some (.tup [], bx1 nu ti li most (eKey :: ex) ss (rejC e fullT) (msgX e mm (some q) n)) :=
  callF_of [(27, .b true), (68, .o getF []), (82, .b true)] [] (pf4 (Eq.refl (twS nu ti li most ex ss (some q) now e mm n)) h27 h81 h82) (by kernel_rfl)
end
end Go.Proofs.YthphniobeigklaaGreatDoor.Ag

/- (*aggregator.builder).message: a known group (printed by gen_ms.py). -/
namespace Go.Proofs.YthphniobeigklaaGreatDoor.Ag
open Go Go.Em Go.Proofs.YthphniobeigklaaGreatDoor
set_option maxRecDepth 100000

section
variable (nu ti li most : Int) (ex ss s2 : List (List X))
variable (q now e mm t : Int) (n k h : Nat) (ms bds : List (List X)) (O : List Otp) (F : List Fte) (L : List Msg) (N : Nat)
theorem mT_err (h27 : decide (Int.ofNat (eKey :: ex).length > 0) = true) (h81 : callF tab ext (N + 600) (.fn 81) [.agg [num 0, num 0, .sl false 10 ss], .agg (kv q).cells] [] = some (getT q t k, [.row 10 ms, .row 6 []])) (h29 : Gam.pureD (callF tab ext (N + 600)) 29 [.agg [num 0, num 0, .sl false 10 ss]] = some (nat h)) (h87 : decide (Int.ofNat h ≥ 256) = false) (hA : 0 + k = ms.length ∧ roomOk (k + 1) 152 = true ∧ memN 5 [] = false) (hg : 0 + (k + 1) ≤ (ms ++ [msgX e mm (some q) n]).length) (h83 : Gam.pureD (callF tab ext (N + 600)) 83 [.sl false 10 (List.take (k + 1) (ms ++ [msgX e mm (some q) n]))] = some (.sl false 6 bds)) (h38 : Gam.pureD (callF tab ext (N + 600)) 38 [.agg (nodX nu ti li (eKey :: ex) (tyX most) ruX), .agg (kv q).cells, .sl false 6 bds] = some (.tup [boolX false, num 15])) :
    callF tab ext (N + 601) (.fn 47) [.ptr 0 0 0, .agg (inpX e mm now (some q) n)] (bx0 nu ti li most (eKey :: ex) ss) = some (.tup [], bx1 nu ti li most (eKey :: ex) ss (rejC e (errT 49 53)) (msgX e mm (some q) n)) :=
  callF_of [(27, .b true), (68, .o (getT q t k) [.row 10 ms, .row 6 []]), (86, .p (nat h)), (87, .b false), (116, .app), (126, .p (.sl false 6 bds)), (127, .p (.tup [boolX false, num 15]))] [] (pf10 (Eq.refl (twS nu ti li most ex ss (some q) now e mm n)) h27 h81 h29 h87 hA hg (Nat.le_refl 0) h83 h38) (by kernel_rfl)
theorem mT_putn (h27 : decide (Int.ofNat (eKey :: ex).length > 0) = true) (h81 : callF tab ext (N + 600) (.fn 81) [.agg [num 0, num 0, .sl false 10 ss], .agg (kv q).cells] [] = some (getT q t k, [.row 10 ms, .row 6 []])) (h29 : Gam.pureD (callF tab ext (N + 600)) 29 [.agg [num 0, num 0, .sl false 10 ss]] = some (nat h)) (h87 : decide (Int.ofNat h ≥ 256) = false) (hA : 0 + k = ms.length ∧ roomOk (k + 1) 152 = true ∧ memN 5 [] = false) (hg : 0 + (k + 1) ≤ (ms ++ [msgX e mm (some q) n]).length) (h83 : Gam.pureD (callF tab ext (N + 600)) 83 [.sl false 10 (List.take (k + 1) (ms ++ [msgX e mm (some q) n]))] = some (.sl false 6 bds)) (h38 : Gam.pureD (callF tab ext (N + 600)) 38 [.agg (nodX nu ti li (eKey :: ex) (tyX most) ruX), .agg (kv q).cells, .sl false 6 bds] = some (.tup [boolX false, num 0])) (h62 : Gam.pureD (callF tab ext (N + 600)) 62 [.agg [num 0, num 0, .sl false 10 ss], .agg (slX q t (List.take (k + 1) (ms ++ [msgX e mm (some q) n])))] = some (.tup [.agg [num 0, num 0, .sl false 10 s2], num 0])) :
    callF tab ext (N + 601) (.fn 47) [.ptr 0 0 0, .agg (inpX e mm now (some q) n)] (bx0 nu ti li most (eKey :: ex) ss) = some (.tup [], bx0 nu ti li most (eKey :: ex) s2) :=
  callF_of [(27, .b true), (68, .o (getT q t k) [.row 10 ms, .row 6 []]), (86, .p (nat h)), (87, .b false), (116, .app), (126, .p (.sl false 6 bds)), (127, .p (.tup [boolX false, num 0])), (133, .p (.tup [.agg [num 0, num 0, .sl false 10 s2], num 0]))] [] (pf11 (Eq.refl (twS nu ti li most ex ss (some q) now e mm n)) h27 h81 h29 h87 hA hg (Nat.le_refl 0) h83 h38 h62) (by kernel_rfl)
theorem mT_doneM (h27 : decide (Int.ofNat (eKey :: ex).length > 0) = true) (h81 : callF tab ext (N + 600) (.fn 81) [.agg [num 0, num 0, .sl false 10 ss], .agg (kv q).cells] [] = some (getT q t k, [.row 10 ms, .row 6 []])) (h29 : Gam.pureD (callF tab ext (N + 600)) 29 [.agg [num 0, num 0, .sl false 10 ss]] = some (nat h)) (h87 : decide (Int.ofNat h ≥ 256) = false) (hA : 0 + k = ms.length ∧ roomOk (k + 1) 152 = true ∧ memN 5 [] = false) (hg : 0 + (k + 1) ≤ (ms ++ [msgX e mm (some q) n]).length) (h83 : Gam.pureD (callF tab ext (N + 600)) 83 [.sl false 10 (List.take (k + 1) (ms ++ [msgX e mm (some q) n]))] = some (.sl false 6 bds)) (h38 : Gam.pureD (callF tab ext (N + 600)) 38 [.agg (nodX nu ti li (eKey :: ex) (tyX most) ruX), .agg (kv q).cells, .sl false 6 bds] = some (.tup [boolX true, num 0])) (h49 : Gam.pureD (callF tab ext (N + 600)) 49 [.agg [num 0, num 0, .sl false 10 ss], .agg (kv q).cells] = some (.tup [.agg [num 0, num 0, .sl false 10 s2], boolX true])) (h50 : callF tab ext (N + 600) (.fn 50) [.ptr 0 0 0, .agg (kv q).cells, .sl false 10 (List.take (k + 1) (ms ++ [msgX e mm (some q) n])), .agg [num e, .sl false 1 [[num 1]]]] (bx0 nu ti li most (eKey :: ex) s2) = some (.tup [], bdM nu ti li most (eKey :: ex) s2 O F L)) :
    callF tab ext (N + 601) (.fn 47) [.ptr 0 0 0, .agg (inpX e mm now (some q) n)] (bx0 nu ti li most (eKey :: ex) ss) = some (.tup [], bdM nu ti li most (eKey :: ex) s2 O F L) :=
  callF_of [(27, .b true), (68, .o (getT q t k) [.row 10 ms, .row 6 []]), (86, .p (nat h)), (87, .b false), (116, .app), (126, .p (.sl false 6 bds)), (127, .p (.tup [boolX true, num 0])), (161, .p (.tup [.agg [num 0, num 0, .sl false 10 s2], boolX true])), (173, .r (.tup []) (bdM nu ti li most (eKey :: ex) s2 O F L))] [] (pf12 (Eq.refl (twS nu ti li most ex ss (some q) now e mm n)) h27 h81 h29 h87 hA hg (Nat.le_refl 0) h83 h38 h49 h50) (by kernel_rfl)
theorem mT_doneR (h27 : decide (Int.ofNat (eKey :: ex).length > 0) = true) (h81 : callF tab ext (N + 600) (.fn 81) [.agg [num 0, num 0, .sl false 10 ss], .agg (kv q).cells] [] = some (getT q t k, [.row 10 ms, .row 6 []])) (h29 : Gam.pureD (callF tab ext (N + 600)) 29 [.agg [num 0, num 0, .sl false 10 ss]] = some (nat h)) (h87 : decide (Int.ofNat h ≥ 256) = false) (hA : 0 + k = ms.length ∧ roomOk (k + 1) 152 = true ∧ memN 5 [] = false) (hg : 0 + (k + 1) ≤ (ms ++ [msgX e mm (some q) n]).length) (h83 : Gam.pureD (callF tab ext (N + 600)) 83 [.sl false 10 (List.take (k + 1) (ms ++ [msgX e mm (some q) n]))] = some (.sl false 6 bds)) (h38 : Gam.pureD (callF tab ext (N + 600)) 38 [.agg (nodX nu ti li (eKey :: ex) (tyX most) ruX), .agg (kv q).cells, .sl false 6 bds] = some (.tup [boolX true, num 0])) (h49 : Gam.pureD (callF tab ext (N + 600)) 49 [.agg [num 0, num 0, .sl false 10 ss], .agg (kv q).cells] = some (.tup [.agg [num 0, num 0, .sl false 10 s2], boolX true])) (h50 : callF tab ext (N + 600) (.fn 50) [.ptr 0 0 0, .agg (kv q).cells, .sl false 10 (List.take (k + 1) (ms ++ [msgX e mm (some q) n])), .agg [num e, .sl false 1 [[num 1]]]] (bx0 nu ti li most (eKey :: ex) s2) = some (.tup [], bdR nu ti li most (eKey :: ex) s2 O F L)) :
    callF tab ext (N + 601) (.fn 47) [.ptr 0 0 0, .agg (inpX e mm now (some q) n)] (bx0 nu ti li most (eKey :: ex) ss) = some (.tup [], bdR nu ti li most (eKey :: ex) s2 O F L) :=
  callF_of [(27, .b true), (68, .o (getT q t k) [.row 10 ms, .row 6 []]), (86, .p (nat h)), (87, .b false), (116, .app), (126, .p (.sl false 6 bds)), (127, .p (.tup [boolX true, num 0])), (161, .p (.tup [.agg [num 0, num 0, .sl false 10 s2], boolX true])), (173, .r (.tup []) (bdR nu ti li most (eKey :: ex) s2 O F L))] [] (pf12 (Eq.refl (twS nu ti li most ex ss (some q) now e mm n)) h27 h81 h29 h87 hA hg (Nat.le_refl 0) h83 h38 h49 h50) (by kernel_rfl)
end
end Go.Proofs.YthphniobeigklaaGreatDoor.Ag

/- (*aggregator.builder).message: a new group without a time (printed by gen_ms.py). -/
namespace Go.Proofs.YthphniobeigklaaGreatDoor.Ag
open Go Go.Em Go.Proofs.YthphniobeigklaaGreatDoor
set_option maxRecDepth 100000

section
variable (nu ti li most : Int) (ex ss s2 : List (List X))
variable (q now e mm t : Int) (n k h : Nat) (ms bds : List (List X)) (O : List Otp) (F : List Fte) (L : List Msg) (N : Nat)
theorem mF_err (h27 : decide (Int.ofNat (eKey :: ex).length > 0) = true) (h81 : callF tab ext (N + 600) (.fn 81) [.agg [num 0, num 0, .sl false 10 ss], .agg (kv q).cells] [] = some (getF, [])) (h82 : decide (Int.ofNat ss.length ≥ li) = false) (h29 : Gam.pureD (callF tab ext (N + 600)) 29 [.agg [num 0, num 0, .sl false 10 ss]] = some (nat h)) (h87 : decide (Int.ofNat h ≥ 256) = false) (h101 : decide (ti > 0) = false) (h83 : Gam.pureD (callF tab ext (N + 600)) 83 [.sl false 10 ([msgX e mm (some q) n])] = some (.sl false 6 bds)) (h38 : Gam.pureD (callF tab ext (N + 600)) 38 [.agg (nodX nu ti li (eKey :: ex) (tyX most) ruX), .agg (kv q).cells, .sl false 6 bds] = some (.tup [boolX false, num 15])) :
    callF tab ext (N + 601) (.fn 47) [.ptr 0 0 0, .agg (inpX e mm now (some q) n)] (bx0 nu ti li most (eKey :: ex) ss) = some (.tup [], bx1 nu ti li most (eKey :: ex) ss (rejC e (errT 49 53)) (msgX e mm (some q) n)) :=
  callF_of [(27, .b true), (68, .o getF []), (82, .b false), (86, .p (nat h)), (87, .b false), (101, .b false), (126, .p (.sl false 6 bds)), (127, .p (.tup [boolX false, num 15]))] [] (pf10 (Eq.refl (twS nu ti li most ex ss (some q) now e mm n)) h27 h81 h82 h29 h87 h101 (Nat.le_refl 1) h83 h38) (by kernel_rfl)
theorem mF_putn (h27 : decide (Int.ofNat (eKey :: ex).length > 0) = true) (h81 : callF tab ext (N + 600) (.fn 81) [.agg [num 0, num 0, .sl false 10 ss], .agg (kv q).cells] [] = some (getF, [])) (h82 : decide (Int.ofNat ss.length ≥ li) = false) (h29 : Gam.pureD (callF tab ext (N + 600)) 29 [.agg [num 0, num 0, .sl false 10 ss]] = some (nat h)) (h87 : decide (Int.ofNat h ≥ 256) = false) (h101 : decide (ti > 0) = false) (h83 : Gam.pureD (callF tab ext (N + 600)) 83 [.sl false 10 ([msgX e mm (some q) n])] = some (.sl false 6 bds)) (h38 : Gam.pureD (callF tab ext (N + 600)) 38 [.agg (nodX nu ti li (eKey :: ex) (tyX most) ruX), .agg (kv q).cells, .sl false 6 bds] = some (.tup [boolX false, num 0])) (h62 : Gam.pureD (callF tab ext (N + 600)) 62 [.agg [num 0, num 0, .sl false 10 ss], .agg (slX q 0 ([msgX e mm (some q) n]))] = some (.tup [.agg [num 0, num 0, .sl false 10 s2], num 0])) :
    callF tab ext (N + 601) (.fn 47) [.ptr 0 0 0, .agg (inpX e mm now (some q) n)] (bx0 nu ti li most (eKey :: ex) ss) = some (.tup [], bx0 nu ti li most (eKey :: ex) s2) :=
  callF_of [(27, .b true), (68, .o getF []), (82, .b false), (86, .p (nat h)), (87, .b false), (101, .b false), (126, .p (.sl false 6 bds)), (127, .p (.tup [boolX false, num 0])), (133, .p (.tup [.agg [num 0, num 0, .sl false 10 s2], num 0]))] [] (pf11 (Eq.refl (twS nu ti li most ex ss (some q) now e mm n)) h27 h81 h82 h29 h87 h101 (Nat.le_refl 1) h83 h38 h62) (by kernel_rfl)
theorem mF_doneM (h27 : decide (Int.ofNat (eKey :: ex).length > 0) = true) (h81 : callF tab ext (N + 600) (.fn 81) [.agg [num 0, num 0, .sl false 10 ss], .agg (kv q).cells] [] = some (getF, [])) (h82 : decide (Int.ofNat ss.length ≥ li) = false) (h29 : Gam.pureD (callF tab ext (N + 600)) 29 [.agg [num 0, num 0, .sl false 10 ss]] = some (nat h)) (h87 : decide (Int.ofNat h ≥ 256) = false) (h101 : decide (ti > 0) = false) (h83 : Gam.pureD (callF tab ext (N + 600)) 83 [.sl false 10 ([msgX e mm (some q) n])] = some (.sl false 6 bds)) (h38 : Gam.pureD (callF tab ext (N + 600)) 38 [.agg (nodX nu ti li (eKey :: ex) (tyX most) ruX), .agg (kv q).cells, .sl false 6 bds] = some (.tup [boolX true, num 0])) (h50 : callF tab ext (N + 600) (.fn 50) [.ptr 0 0 0, .agg (kv q).cells, .sl false 10 ([msgX e mm (some q) n]), .agg [num e, .sl false 1 [[num 1]]]] (bx0 nu ti li most (eKey :: ex) ss) = some (.tup [], bdM nu ti li most (eKey :: ex) ss O F L)) :
    callF tab ext (N + 601) (.fn 47) [.ptr 0 0 0, .agg (inpX e mm now (some q) n)] (bx0 nu ti li most (eKey :: ex) ss) = some (.tup [], bdM nu ti li most (eKey :: ex) ss O F L) :=
  callF_of [(27, .b true), (68, .o getF []), (82, .b false), (86, .p (nat h)), (87, .b false), (101, .b false), (126, .p (.sl false 6 bds)), (127, .p (.tup [boolX true, num 0])), (173, .r (.tup []) (bdM nu ti li most (eKey :: ex) ss O F L))] [] (pf11 (Eq.refl (twS nu ti li most ex ss (some q) now e mm n)) h27 h81 h82 h29 h87 h101 (Nat.le_refl 1) h83 h38 h50) (by kernel_rfl)
theorem mF_doneR (h27 : decide (Int.ofNat (eKey :: ex).length > 0) = true) (h81 : callF tab ext (N + 600) (.fn 81) [.agg [num 0, num 0, .sl false 10 ss], .agg (kv q).cells] [] = some (getF, [])) (h82 : decide (Int.ofNat ss.length ≥ li) = false) (h29 : Gam.pureD (callF tab ext (N + 600)) 29 [.agg [num 0, num 0, .sl false 10 ss]] = some (nat h)) (h87 : decide (Int.ofNat h ≥ 256) = false) (h101 : decide (ti > 0) = false) (h83 : Gam.pureD (callF tab ext (N + 600)) 83 [.sl false 10 ([msgX e mm (some q) n])] = some (.sl false 6 bds)) (h38 : Gam.pureD (callF tab ext (N + 600)) 38 [.agg (nodX nu ti li (eKey :: ex) (tyX most) ruX), .agg (kv q).cells, .sl false 6 bds] = some (.tup [boolX true, num 0])) (h50 : callF tab ext (N + 600) (.fn 50) [.ptr 0 0 0, .agg (kv q).cells, .sl false 10 ([msgX e mm (some q) n]), .agg [num e, .sl false 1 [[num 1]]]] (bx0 nu ti li most (eKey :: ex) ss) = some (.tup [], bdR nu ti li most (eKey :: ex) ss O F L)) :
    callF tab ext (N + 601) (.fn 47) [.ptr 0 0 0, .agg (inpX e mm now (some q) n)] (bx0 nu ti li most (eKey :: ex) ss) = some (.tup [], bdR nu ti li most (eKey :: ex) ss O F L) :=
  callF_of [(27, .b true), (68, .o getF []), (82, .b false), (86, .p (nat h)), (87, .b false), (101, .b false), (126, .p (.sl false 6 bds)), (127, .p (.tup [boolX true, num 0])), (173, .r (.tup []) (bdR nu ti li most (eKey :: ex) ss O F L))] [] (pf11 (Eq.refl (twS nu ti li most ex ss (some q) now e mm n)) h27 h81 h82 h29 h87 h101 (Nat.le_refl 1) h83 h38 h50) (by kernel_rfl)
end
end Go.Proofs.YthphniobeigklaaGreatDoor.Ag

/- (*aggregator.builder).message: a new group with a time (printed by gen_ms.py). -/
namespace Go.Proofs.YthphniobeigklaaGreatDoor.Ag
open Go Go.Em Go.Proofs.YthphniobeigklaaGreatDoor
set_option maxRecDepth 100000

section
variable (nu ti li most : Int) (ex ss s2 : List (List X))
variable (q now e mm t : Int) (n k h : Nat) (ms bds : List (List X)) (O : List Otp) (F : List Fte) (L : List Msg) (N : Nat)
theorem mG_err (h27 : decide (Int.ofNat (eKey :: ex).length > 0) = true) (h81 : callF tab ext (N + 600) (.fn 81) [.agg [num 0, num 0, .sl false 10 ss], .agg (kv q).cells] [] = some (getF, [])) (h82 : decide (Int.ofNat ss.length ≥ li) = false) (h29 : Gam.pureD (callF tab ext (N + 600)) 29 [.agg [num 0, num 0, .sl false 10 ss]] = some (nat h)) (h87 : decide (Int.ofNat h ≥ 256) = false) (h101 : decide (ti > 0) = true) (h109 : Gam.pureD (callF tab ext (N + 600)) 82 [num now, num ti] = some (num t)) (h83 : Gam.pureD (callF tab ext (N + 600)) 83 [.sl false 10 ([msgX e mm (some q) n])] = some (.sl false 6 bds)) (h38 : Gam.pureD (callF tab ext (N + 600)) 38 [.agg (nodX nu ti li (eKey :: ex) (tyX most) ruX), .agg (kv q).cells, .sl false 6 bds] = some (.tup [boolX false, num 15])) :
    callF tab ext (N + 601) (.fn 47) [.ptr 0 0 0, .agg (inpX e mm now (some q) n)] (bx0 nu ti li most (eKey :: ex) ss) = some (.tup [], bx1 nu ti li most (eKey :: ex) ss (rejC e (errT 49 53)) (msgX e mm (some q) n)) :=
  callF_of [(27, .b true), (68, .o getF []), (82, .b false), (86, .p (nat h)), (87, .b false), (101, .b true), (109, .p (num t)), (126, .p (.sl false 6 bds)), (127, .p (.tup [boolX false, num 15]))] [] (pf11 (Eq.refl (twS nu ti li most ex ss (some q) now e mm n)) h27 h81 h82 h29 h87 h101 h109 (Nat.le_refl 1) h83 h38) (by kernel_rfl)
theorem mG_putn (h27 : decide (Int.ofNat (eKey :: ex).length > 0) = true) (h81 : callF tab ext (N + 600) (.fn 81) [.agg [num 0, num 0, .sl false 10 ss], .agg (kv q).cells] [] = some (getF, [])) (h82 : decide (Int.ofNat ss.length ≥ li) = false) (h29 : Gam.pureD (callF tab ext (N + 600)) 29 [.agg [num 0, num 0, .sl false 10 ss]] = some (nat h)) (h87 : decide (Int.ofNat h ≥ 256) = false) (h101 : decide (ti > 0) = true) (h109 : Gam.pureD (callF tab ext (N + 600)) 82 [num now, num ti] = some (num t)) (h83 : Gam.pureD (callF tab ext (N + 600)) 83 [.sl false 10 ([msgX e mm (some q) n])] = some (.sl false 6 bds)) (h38 : Gam.pureD (callF tab ext (N + 600)) 38 [.agg (nodX nu ti li (eKey :: ex) (tyX most) ruX), .agg (kv q).cells, .sl false 6 bds] = some (.tup [boolX false, num 0])) (h62 : Gam.pureD (callF tab ext (N + 600)) 62 [.agg [num 0, num 0, .sl false 10 ss], .agg (slX q t ([msgX e mm (some q) n]))] = some (.tup [.agg [num 0, num 0, .sl false 10 s2], num 0])) :
    callF tab ext (N + 601) (.fn 47) [.ptr 0 0 0, .agg (inpX e mm now (some q) n)] (bx0 nu ti li most (eKey :: ex) ss) = some (.tup [], bx0 nu ti li most (eKey :: ex) s2) :=
  callF_of [(27, .b true), (68, .o getF []), (82, .b false), (86, .p (nat h)), (87, .b false), (101, .b true), (109, .p (num t)), (126, .p (.sl false 6 bds)), (127, .p (.tup [boolX false, num 0])), (133, .p (.tup [.agg [num 0, num 0, .sl false 10 s2], num 0]))] [] (pf12 (Eq.refl (twS nu ti li most ex ss (some q) now e mm n)) h27 h81 h82 h29 h87 h101 h109 (Nat.le_refl 1) h83 h38 h62) (by kernel_rfl)
theorem mG_doneM (h27 : decide (Int.ofNat (eKey :: ex).length > 0) = true) (h81 : callF tab ext (N + 600) (.fn 81) [.agg [num 0, num 0, .sl false 10 ss], .agg (kv q).cells] [] = some (getF, [])) (h82 : decide (Int.ofNat ss.length ≥ li) = false) (h29 : Gam.pureD (callF tab ext (N + 600)) 29 [.agg [num 0, num 0, .sl false 10 ss]] = some (nat h)) (h87 : decide (Int.ofNat h ≥ 256) = false) (h101 : decide (ti > 0) = true) (h109 : Gam.pureD (callF tab ext (N + 600)) 82 [num now, num ti] = some (num t)) (h83 : Gam.pureD (callF tab ext (N + 600)) 83 [.sl false 10 ([msgX e mm (some q) n])] = some (.sl false 6 bds)) (h38 : Gam.pureD (callF tab ext (N + 600)) 38 [.agg (nodX nu ti li (eKey :: ex) (tyX most) ruX), .agg (kv q).cells, .sl false 6 bds] = some (.tup [boolX true, num 0])) (h50 : callF tab ext (N + 600) (.fn 50) [.ptr 0 0 0, .agg (kv q).cells, .sl false 10 ([msgX e mm (some q) n]), .agg [num e, .sl false 1 [[num 1]]]] (bx0 nu ti li most (eKey :: ex) ss) = some (.tup [], bdM nu ti li most (eKey :: ex) ss O F L)) :
    callF tab ext (N + 601) (.fn 47) [.ptr 0 0 0, .agg (inpX e mm now (some q) n)] (bx0 nu ti li most (eKey :: ex) ss) = some (.tup [], bdM nu ti li most (eKey :: ex) ss O F L) :=
  callF_of [(27, .b true), (68, .o getF []), (82, .b false), (86, .p (nat h)), (87, .b false), (101, .b true), (109, .p (num t)), (126, .p (.sl false 6 bds)), (127, .p (.tup [boolX true, num 0])), (173, .r (.tup []) (bdM nu ti li most (eKey :: ex) ss O F L))] [] (pf12 (Eq.refl (twS nu ti li most ex ss (some q) now e mm n)) h27 h81 h82 h29 h87 h101 h109 (Nat.le_refl 1) h83 h38 h50) (by kernel_rfl)
theorem mG_doneR (h27 : decide (Int.ofNat (eKey :: ex).length > 0) = true) (h81 : callF tab ext (N + 600) (.fn 81) [.agg [num 0, num 0, .sl false 10 ss], .agg (kv q).cells] [] = some (getF, [])) (h82 : decide (Int.ofNat ss.length ≥ li) = false) (h29 : Gam.pureD (callF tab ext (N + 600)) 29 [.agg [num 0, num 0, .sl false 10 ss]] = some (nat h)) (h87 : decide (Int.ofNat h ≥ 256) = false) (h101 : decide (ti > 0) = true) (h109 : Gam.pureD (callF tab ext (N + 600)) 82 [num now, num ti] = some (num t)) (h83 : Gam.pureD (callF tab ext (N + 600)) 83 [.sl false 10 ([msgX e mm (some q) n])] = some (.sl false 6 bds)) (h38 : Gam.pureD (callF tab ext (N + 600)) 38 [.agg (nodX nu ti li (eKey :: ex) (tyX most) ruX), .agg (kv q).cells, .sl false 6 bds] = some (.tup [boolX true, num 0])) (h50 : callF tab ext (N + 600) (.fn 50) [.ptr 0 0 0, .agg (kv q).cells, .sl false 10 ([msgX e mm (some q) n]), .agg [num e, .sl false 1 [[num 1]]]] (bx0 nu ti li most (eKey :: ex) ss) = some (.tup [], bdR nu ti li most (eKey :: ex) ss O F L)) :
    callF tab ext (N + 601) (.fn 47) [.ptr 0 0 0, .agg (inpX e mm now (some q) n)] (bx0 nu ti li most (eKey :: ex) ss) = some (.tup [], bdR nu ti li most (eKey :: ex) ss O F L) :=
  callF_of [(27, .b true), (68, .o getF []), (82, .b false), (86, .p (nat h)), (87, .b false), (101, .b true), (109, .p (num t)), (126, .p (.sl false 6 bds)), (127, .p (.tup [boolX true, num 0])), (173, .r (.tup []) (bdR nu ti li most (eKey :: ex) ss O F L))] [] (pf12 (Eq.refl (twS nu ti li most ex ss (some q) now e mm n)) h27 h81 h82 h29 h87 h101 h109 (Nat.le_refl 1) h83 h38 h50) (by kernel_rfl)
end
end Go.Proofs.YthphniobeigklaaGreatDoor.Ag
