/- The stamps of messages; a message that was replaced. -/
import Derived.WalkKit
import Derived.Deep.LoopGhost
import Derived.Shelf.Spec.SlicesInsertGrow
import Derived.Deep.RegionLaw
import Derived.Lib.SliceRun
import Derived.Lib.Walk
import Derived.Sort.WalkB12
import Derived.Sort.EncStr
import Derived.Shelf.RegionOpenPlain
import Derived.Test.YthfchdkjeddijaaGreatDoorEmM7
import Derived.Test.YthfchdkjeddijaaGreatDoorM10
import Derived.Test.YthfchdkjeddijaaGreatDoorM15
namespace Go.Proofs.YthfchdkjeddijaaGreatDoor
open Go.Em
set_option maxRecDepth 100000

theorem stpsC_take_succ {ss : List Stp} {j : Nat} (h : j < ss.length) : stpsC (ss.take (j + 1)) = stpsC (ss.take j) ++ [(ss[j]).cells] := by
  rw [List.take_add_one, List.getElem?_eq_getElem h]
  unfold stpsC
  rw [List.map_append]; rfl
section
variable (N n j : Nat) (ms ss : List (List X)) (e q : Int) (p o : List (List X)) (a1 a2 a3 : Int) (a4 : ByteArray) (a5 a6 : List (List X))
def smH : St := ⟨[(3, .bs 0 0 j), (6, .sl false 10 ms), (7, nat n), (8, nat j)], [.row 2 ss]⟩
def smH' (mc : List X) : St := ⟨[(3, .bs 2 0 (j + 1)), (6, .sl false 10 ms), (7, nat n), (8, nat (j + 1))], [.dead, .var mc, .row 2 ss]⟩
theorem sm_canon : canon 0 (smH n j ms ss) = some (smH n j ms ss) := by kernel_rfl
theorem sm_canon' : canon 0 (smH' n j ms ss [num e, .sl false 1 p, num q, .sl false 1 o, num a1, num a2, num a3, strX a4, .sl false 6 a5, .sl false 7 a6]) = some (smH n (j + 1) ms ss) := by kernel_rfl
theorem sm_step (hi : ms[j]? = some [num e, .sl false 1 p, num q, .sl false 1 o, num a1, num a2, num a3, strX a4, .sl false 6 a5, .sl false 7 a6]) (h1 : Gam.pureD (callF tab ext N) 89 [.agg [num e, .sl false 1 p]] = some (.agg [num e, .sl false 1 p])) (hj : j < n) (hl : n < 100000) (hs : j = ss.length) :
    run (callF tab ext N) 0 N (loopAt 84 0) (smH n j ms ss) = some (.norm, smH' n j ms (ss ++ [[num e, .sl false 1 p]]) [num e, .sl false 1 p, num q, .sl false 1 o, num a1, num a2, num a3, strX a4, .sl false 6 a5, .sl false 7 a6]) :=
  run_of [(9, .b true), (10, .e [num e, .sl false 1 p, num q, .sl false 1 o, num a1, num a2, num a3, strX a4, .sl false 6 a5, .sl false 7 a6]), (15, .p (.agg [num e, .sl false 1 p])), (17, .app), (18, .i (Int.ofNat (j + 1)))] []
    (pf5 (lt_nat hj) hi h1 (app_ok j 0 32 hs (by omega) (by omega)) (next_nat (j := j) (by omega))) (lo' := []) (by kernel_rfl)
theorem sm_end : run (callF tab ext N) 0 N (loopAt 84 0) (smH n n ms ss) = some (.exit 0, ⟨[(3, .bs 0 0 n), (6, .sl false 10 ms), (7, nat n), (8, nat n), (9, .v (.bool false))], [.row 2 ss]⟩) :=
  run_of [(9, .b false)] [] (pf1 (nlt_nat (j := n) (k := n) (by omega))) (lo' := []) (by kernel_rfl)
end
def stampsM (ms : List Msg) : List Stp := ms.map (·.st)
theorem stampsM_take {ms : List Msg} {j : Nat} (h : j < ms.length) : stpsC (stampsM (ms.take (j + 1))) = stpsC (stampsM (ms.take j)) ++ [(ms[j]).st.cells] := by
  rw [List.take_add_one, List.getElem?_eq_getElem h]
  unfold stpsC stampsM
  rw [List.map_append, List.map_append]; rfl
/-- message.Stamps. -/
theorem stamps_pure (N : Nat) (ms : List Msg) (hm : ∀ m, m ∈ ms → m.ok) (h0 : 0 < ms.length) (hl : ms.length < 50000) (hN : ms.length + 10 ≤ N) : Gam.pureD (callF tab ext N) 84 [.sl false 10 (msgsC ms)] = some (.sl false 2 (stpsC (stampsM ms))) := by
  obtain ⟨M, rfl⟩ : ∃ M, N = M + 3 := ⟨N - 3, by omega⟩
  have hlen := msgsC_length ms
  have hrun : run (callF tab ext (M + 2)) 0 (M + 2) (.loop (loopAt 84 0)) (smH ms.length 0 (msgsC ms) []) = some (.exit 0, ⟨[(3, .bs 0 0 ms.length), (6, .sl false 10 (msgsC ms)), (7, nat ms.length), (8, nat ms.length), (9, .v (.bool false))], [.row 2 (stpsC (stampsM ms))]⟩) := by
    refine loop_for (σ := fun j => smH ms.length j (msgsC ms) (stpsC (stampsM (ms.take j)))) (k := ms.length) (sm_canon ..) (fun j hj => ?_) ?_ (by simp) (by omega)
    · have hc := clone_stamp M (ms[j]).st (hm _ (List.getElem_mem hj)).st
      have hg := msgsC_get hj
      have ht := stampsM_take hj
      generalize ms[j] = q at hc hg ht
      obtain ⟨⟨e, p⟩, w, o, ⟨a1, a2, a3, a4, a5, a6⟩⟩ := q
      refine ⟨_, sm_step (hi := hg) (h1 := hc) (hj := hj) (hl := by omega) (hs := by simp [stpsC, stampsM]; omega) .., ?_⟩
      rw [ht]
      exact sm_canon' ..
    · rw [List.take_length]
      exact sm_end ..
  rw [← hlen] at hrun
  have hs : (stpsC (stampsM ms)).length = (msgsC ms).length := by simp [stpsC, stampsM, msgsC]
  generalize stpsC (stampsM ms) = so at hrun hs ⊢
  generalize msgsC ms = mc at hrun hs ⊢
  refine pure_of [] [(.exit 0, ⟨[(3, .bs 0 0 mc.length), (6, .sl false 10 mc), (7, nat mc.length), (8, nat mc.length), (9, .v (.bool false))], [.row 2 so]⟩)] (pf1 hrun) (x := .bs 0 0 mc.length) (bx := [.row 2 so]) (by kernel_rfl) ?_
  simp [X.data, rowOf_all (bx := [.row 2 so]) (i := 0) (n := mc.length) rfl hs.symm]

/-! ### into -/
section
variable (N n j : Nat) (e k : Int) (p : List (List X)) (nm : ByteArray) (l ss : List (List X)) (se : Int) (sp : List (List X))
def itH : St := ⟨[(0, .ptr 0 0 0), (5, .sl false 2 l), (6, nat n), (7, nat j)], [.var [num e, .sl false 1 p, num k, strX nm, .bs 1 0 j, noText], .row 2 ss]⟩
def itH' : St := ⟨[(0, .ptr 0 0 0), (5, .sl false 2 l), (6, nat n), (7, nat (j + 1))], [.var [num e, .sl false 1 p, num k, strX nm, .bs 3 0 (j + 1), noText], .dead, .var [num se, .sl false 1 sp], .row 2 ss]⟩
theorem it_canon : canon 1 (itH n j e k p nm l ss) = some (itH n j e k p nm l ss) := by kernel_rfl
theorem it_canon' : canon 1 (itH' n j e k p nm l ss se sp) = some (itH n (j + 1) e k p nm l ss) := by kernel_rfl
theorem it_step (hi : l[j]? = some [num se, .sl false 1 sp]) (h1 : Gam.pureD (callF tab ext N) 89 [.agg [num se, .sl false 1 sp]] = some (.agg [num se, .sl false 1 sp])) (hj : j < n) (hl : n < 100000) (hs : j = ss.length) :
    run (callF tab ext N) 1 N (loopAt 207 0) (itH n j e k p nm l ss) = some (.norm, itH' n j e k p nm l (ss ++ [[num se, .sl false 1 sp]]) se sp) :=
  run_of [(8, .b true), (9, .e [num se, .sl false 1 sp]), (17, .p (.agg [num se, .sl false 1 sp])), (19, .app), (22, .i (Int.ofNat (j + 1)))] []
    (pf5 (lt_nat hj) hi h1 (app_ok j 1 32 hs (by omega) (by omega)) (next_nat (j := j) (by omega))) (lo' := []) (by kernel_rfl)
theorem it_end : run (callF tab ext N) 1 N (loopAt 207 0) (itH n n e k p nm l ss) = some (.exit 0, ⟨[(0, .ptr 0 0 0), (5, .sl false 2 l), (6, nat n), (7, nat n), (8, .v (.bool false))], [.var [num e, .sl false 1 p, num k, strX nm, .bs 1 0 n, noText], .row 2 ss]⟩) :=
  run_of [(8, .b false)] [] (pf1 (nlt_nat (j := n) (k := n) (by omega))) (lo' := []) (by kernel_rfl)
end
theorem into_call (N : Nat) (ss : List Stp) (hs : ∀ s, s ∈ ss → s.ok) (hl : ss.length < 50000) (hN : ss.length + 10 ≤ N) (e k : Int) (p : List (List X)) (nm : ByteArray) :
    callF tab ext N (.fn 207) [.ptr 0 0 0, .dp [.sl false 2 (stpsC ss)]] [.var [num e, .sl false 1 p, num k, strX nm, .sl true 2 [], noText]] = some (.tup [], [.var [num e, .sl false 1 p, num k, strX nm, .bs 1 0 ss.length, noText], .row 2 (stpsC ss)]) := by
  obtain ⟨M, rfl⟩ : ∃ M, N = M + 3 := ⟨N - 3, by omega⟩
  have hlen := stpsC_length ss
  have hrun : run (callF tab ext (M + 2)) 1 (M + 2) (.loop (loopAt 207 0)) (itH ss.length 0 e k p nm (stpsC ss) []) = some (.exit 0, ⟨[(0, .ptr 0 0 0), (5, .sl false 2 (stpsC ss)), (6, nat ss.length), (7, nat ss.length), (8, .v (.bool false))], [.var [num e, .sl false 1 p, num k, strX nm, .bs 1 0 ss.length, noText], .row 2 (stpsC ss)]⟩) := by
    refine loop_for (σ := fun j => itH ss.length j e k p nm (stpsC ss) (stpsC (ss.take j))) (k := ss.length) (it_canon ..) (fun j hj => ?_) ?_ (by simp) (by omega)
    · have hc := clone_stamp M ss[j] (hs _ (List.getElem_mem hj))
      have hg := stpsC_get hj
      have ht := stpsC_take_succ hj
      generalize ss[j] = q at hc hg ht
      obtain ⟨se, sp⟩ := q
      refine ⟨_, it_step (hi := hg) (h1 := hc) (hj := hj) (hl := by omega) (hs := by simp [stpsC]; omega) .., ?_⟩
      rw [ht]
      exact it_canon' ..
    · rw [List.take_length]
      exact it_end ..
  rw [← hlen] at hrun ⊢
  generalize stpsC ss = so at hrun ⊢
  exact callF_of [] [(.exit 0, ⟨[(0, .ptr 0 0 0), (5, .sl false 2 so), (6, nat so.length), (7, nat so.length), (8, .v (.bool false))], [.var [num e, .sl false 1 p, num k, strX nm, .bs 1 0 so.length, noText], .row 2 so]⟩)] (pf1 hrun) (by kernel_rfl)
theorem fate_l (N : Nat) (e q : Int) (p o : List (List X)) (a1 a2 a3 : Int) (a4 : ByteArray) (a5 a6 : List (List X)) (nm : ByteArray) (l : List (List X)) (h1 : Gam.pureD (callF tab ext (N + 5)) 89 [.agg [num e, .sl false 1 p]] = some (.agg [num e, .sl false 1 p]))
    (h2 : callF tab ext (N + 5) (.fn 207) [.ptr 0 0 0, .dp [.sl false 2 l]] [.var [num e, .sl false 1 p, num 1, strX nm, .sl true 2 [], noText]] = some (.tup [], [.var [num e, .sl false 1 p, num 1, strX nm, .bs 1 0 l.length, noText], .row 2 l])) :
    Gam.pureD (callF tab ext (N + 6)) 145 [.agg [num e, .sl false 1 p, num q, .sl false 1 o, num a1, num a2, num a3, strX a4, .sl false 6 a5, .sl false 7 a6], strX nm, num 1, .sl false 1 [[.fn 207 [.dp [.sl false 2 l]]]]] = some (.agg [num e, .sl false 1 p, num 1, strX nm, .sl false 2 l, noText]) := by
  refine pure_of [(14, .p (.agg [num e, .sl false 1 p])), (25, .r (.tup []) [.var [num e, .sl false 1 p, num 1, strX nm, .bs 1 0 l.length, noText], .row 2 l])] [] (pf2 h1 h2) (x := .agg [num e, .sl false 1 p, num 1, strX nm, .bs 0 0 l.length, noText]) (bx := [.row 2 l]) (by kernel_rfl) ?_
  have h3 := rowOf_all (bx := [.row 2 l]) (i := 0) (n := l.length) rfl rfl
  simp [X.data, dataL, h3, num, strX, noText]
/-- message.Replaced. -/
theorem replaced_pure (N : Nat) (m : Msg) (h : m.st.ok) (nm : ByteArray) (ss : List Stp) (hs : ∀ s, s ∈ ss → s.ok) (hl : ss.length < 50000) (hN : ss.length + 30 ≤ N) : Gam.pureD (callF tab ext N) 83 [.agg m.cells, strX nm, .sl false 2 (stpsC ss)] = some (.agg (Fte.mk m.st 1 nm ss ⟨#[]⟩).cells) := by
  obtain ⟨M, rfl⟩ : ∃ M, N = M + 12 := ⟨N - 12, by omega⟩
  have h1 := clone_stamp (M + 8) m.st h
  have h2 := into_call (M + 10) ss hs hl (by omega) m.st.e 1 (intsC m.st.p) nm
  rw [← stpsC_length ss] at h2
  obtain ⟨⟨e, p⟩, w, o, ⟨a1, a2, a3, a4, a5, a6⟩⟩ := m
  have h3 := fate_l (M + 5) e w (intsC p) (intsC o) a1 a2 a3 a4 (cellsL a5) (cellsF a6) nm (stpsC ss) h1 h2
  show _ = some (X.agg [num e, .sl false 1 (intsC p), num 1, strX nm, .sl false 2 (stpsC ss), noText])
  generalize stpsC ss = l at h3 ⊢
  exact pure_of [(12, .p (.agg [num e, .sl false 1 (intsC p), num 1, strX nm, .sl false 2 l, noText]))] [] (pf1 h3) (x := .agg [num e, .sl false 1 (intsC p), num 1, strX nm, .sl false 2 l, noText]) (bx := []) (by kernel_rfl) rfl
end Go.Proofs.YthfchdkjeddijaaGreatDoor

/- router.multicast: the parts of a message. -/
namespace Go.Proofs.YthfchdkjeddijaaGreatDoor
open Go.Em
set_option maxRecDepth 100000
theorem cellsL_replicate (n : Nat) (v : Val) : cellsL (List.replicate n v) = List.replicate n v.cells := by
  induction n with
  | zero => rfl
  | succ n ih => exact congrArg (v.cells :: ·) ih
/-- The parts of a multicast. -/
def copiesM (m : Msg) (n : Nat) : List Msg := partsM m (List.replicate n m.body) n
theorem copies_pure (N : Nat) (hN : 190030 ≤ N) (m : Msg) (hm : m.ok) (n : Nat) (h0 : 0 < n) (h1 : n < 3000) :
    Gam.pureD (callF tab ext N) 133 [.agg m.cells, .sl false 6 (List.replicate n m.body.cells)] = some (.sl false 10 (msgsC (copiesM m n))) := by
  have h := mparts_pure N hN m hm (List.replicate n m.body) (fun b hb => by rw [List.eq_of_mem_replicate hb]; exact hm.body) (by rw [List.length_replicate]; exact h0) (by rw [List.length_replicate]; exact h1)
  rw [cellsL_replicate, List.length_replicate] at h
  exact h
/-- router.multicast at a number that fits. -/
theorem multicast_pure (nd : Nod) (n : Nat) (hn : nd.number = Int.ofNat n) (h0 : 0 < n) (h1 : n ≤ 64) (m : Msg) (hm : m.ok) (N : Nat) (hN : 190100 ≤ N) :
    Gam.pureD (callF tab ext N) 139 [.agg nd.cells, .agg m.cells] = some (.agg [.sl false 10 (msgsC (copiesM m n)), num 0, boolX true, noText]) := by
  obtain ⟨M, rfl⟩ : ∃ M, N = M + 1 := ⟨N - 1, by omega⟩
  have h2 := rep_pure m.body n h0 h1 M (by omega)
  have h3 := copies_pure M (by omega) m hm n h0 (by omega)
  have h4 : decide (Int.ofNat n < 1) = false := decide_eq_false (by simp only [Int.ofNat_eq_natCast]; omega)
  have h5 : decide (Int.ofNat n > 64) = false := decide_eq_false (by simp only [Int.ofNat_eq_natCast]; omega)
  obtain ⟨name, k1, k2, k3, w, k5, k6, text, ⟨a, b, c, d⟩, we, el, f, ty, ex, ca, ru, ne⟩ := nd
  dsimp only at hn
  subst hn
  generalize msgsC (copiesM m n) = ms at h3 ⊢
  obtain ⟨⟨e, p⟩, q, o, ⟨a1, a2, a3, a4, a5, a6⟩⟩ := m
  dsimp only at h2 h3
  generalize List.replicate n (Val.mk a1 a2 a3 a4 a5 a6).cells = vs at h2 h3
  exact pure_of [(7, .b false), (11, .b false), (21, .p (.sl false 6 vs)), (22, .p (.sl false 10 ms))] [] (pf4 h4 h5 h2 h3) (x := .agg ([.sl false 10 ms, num 0, boolX true, noText])) (bx := []) (by kernel_rfl) rfl
/-- router.multicast at a number that does not. -/
theorem multicast_bad (nd : Nod) (hn : nd.number < 1 ∨ 64 < nd.number) (m : Msg) (N : Nat) (hN : 100 ≤ N) :
    Gam.pureD (callF tab ext N) 139 [.agg nd.cells, .agg m.cells] = some (.agg [.sl false 10 [], num 0, boolX false, strX ⟨#[117, 110, 114, 111, 117, 116, 97, 98, 108, 101]⟩]) := by
  obtain ⟨M, rfl⟩ : ∃ M, N = M + 90 := ⟨N - 90, by omega⟩
  obtain ⟨name, k1, k2, k3, w, k5, k6, text, ⟨a, b, c, d⟩, we, el, f, ty, ex, ca, ru, ne⟩ := nd
  obtain ⟨⟨e, p⟩, q, o, ⟨a1, a2, a3, a4, a5, a6⟩⟩ := m
  dsimp only at hn
  cases h1 : decide (w < 1) with
  | true => exact pure_of [(7, .b true)] [] (pf1 h1) (x := .agg ([.sl false 10 [], num 0, boolX false, strX ⟨#[117, 110, 114, 111, 117, 116, 97, 98, 108, 101]⟩])) (bx := []) (by kernel_rfl) rfl
  | false =>
    have h2 : decide (w > 64) = true := decide_eq_true (by have := of_decide_eq_false h1; omega)
    exact pure_of [(7, .b false), (11, .b true)] [] (pf2 h1 h2) (x := .agg ([.sl false 10 [], num 0, boolX false, strX ⟨#[117, 110, 114, 111, 117, 116, 97, 98, 108, 101]⟩])) (bx := []) (by kernel_rfl) rfl

/-! ### The step -/
/-- Rows of outputs: a port and a message. -/
def otsC (ms : List (List X)) (j : Nat) : List (List X) := (List.range j).map fun i => nat i :: ms.getD i []
theorem otsC_length (ms : List (List X)) (j : Nat) : (otsC ms j).length = j := by simp [otsC]
theorem otsC_succ (ms : List (List X)) (j : Nat) : otsC ms (j + 1) = otsC ms j ++ [nat j :: ms.getD j []] := by simp [otsC, List.range_succ]
section
variable (N : Nat) (nd : Nod) (a b : Int) (ss : List (List X)) (e q : Int) (p o : List (List X)) (a1 a2 a3 : Int) (a4 : ByteArray) (a5 a6 : List (List X)) (ms : List (List X)) (n j : Nat) (outs : List (List X)) (be bq : Int) (bp bo : List (List X)) (b1 b2 b3 : Int) (b4 : ByteArray) (b5 b6 : List (List X))
def rsTm : List (Nat × X) := [(3, .ptr 0 0 0), (6, .ptr 1 0 0), (7, .ptr 2 0 0), (8, .ptr 3 0 0), (11, .ptr 4 0 0), (66, .sl false 10 ms), (67, nat n), (68, nat j)]
def outZ : List X := [num 0, num 0, .sl true 10 [], .sl true 11 [], .sl true 11 [], .sl true 6 [], .sl true 10 []]
def rsBx (k : Nat) : List Bx := [.var nd.cells, .var outZ, .var [num a, num b, .sl false 10 ss, .bs k 0 j, .sl true 11 [], .sl true 6 [], .sl true 10 []], .var (mX e p q o a1 a2 a3 a4 a5 a6), .var [.sl false 10 ms, num 0, boolX true, noText]]
def rsH : St := ⟨rsTm ms n j, rsBx nd a b ss e q p o a1 a2 a3 a4 a5 a6 ms j 5 ++ [.row 11 outs]⟩
def rsH' : St := ⟨rsTm ms n (j + 1), rsBx nd a b ss e q p o a1 a2 a3 a4 a5 a6 ms (j + 1) 7 ++ [.dead, .var (mX be bp bq bo b1 b2 b3 b4 b5 b6), .row 11 outs]⟩
theorem rs_canon : canon 0 (rsH nd a b ss e q p o a1 a2 a3 a4 a5 a6 ms n j outs) = some (rsH nd a b ss e q p o a1 a2 a3 a4 a5 a6 ms n j outs) := by kernel_rfl
theorem rs_canon' : canon 0 (rsH' nd a b ss e q p o a1 a2 a3 a4 a5 a6 ms n j outs be bq bp bo b1 b2 b3 b4 b5 b6) = some (rsH nd a b ss e q p o a1 a2 a3 a4 a5 a6 ms n (j + 1) outs) := by kernel_rfl
theorem rs_step (hi : ms[j]? = some (mX be bp bq bo b1 b2 b3 b4 b5 b6)) (hj : j < n) (hl : n < 4000) (ho : j = outs.length) :
    run (callF tab ext N) 0 N (loopAt 37 0) (rsH nd a b ss e q p o a1 a2 a3 a4 a5 a6 ms n j outs) = some (.norm, rsH' nd a b ss e q p o a1 a2 a3 a4 a5 a6 ms n j (outs ++ [nat j :: mX be bp bq bo b1 b2 b3 b4 b5 b6]) be bq bp bo b1 b2 b3 b4 b5 b6) :=
  run_of [(69, .b true), (71, .e (mX be bp bq bo b1 b2 b3 b4 b5 b6)), (79, .app), (81, .i (Int.ofNat (j + 1)))] []
    (pf4 (lt_nat hj) hi (app_ok j 5 160 ho (by omega) (by omega)) (next_nat (j := j) (by omega))) (lo' := []) (by kernel_rfl)
theorem rs_end : run (callF tab ext N) 0 N (loopAt 37 0) (rsH nd a b ss e q p o a1 a2 a3 a4 a5 a6 ms n n outs) = some (.exit 1, ⟨rsTm ms n n ++ [(69, .v (.bool false))], rsBx nd a b ss e q p o a1 a2 a3 a4 a5 a6 ms n 5 ++ [.row 11 outs]⟩) :=
  run_of [(69, .b false)] [] (pf1 (nlt_nat (j := n) (k := n) (by omega))) (lo' := []) (by kernel_rfl)
end
theorem rs_fin (N : Nat) (nd : Nod) (hk : nd.kind = 12) (a b : Int) (ss : List (List X)) (e q : Int) (p o : List (List X)) (a1 a2 a3 : Int) (a4 : ByteArray) (a5 a6 : List (List X)) (ie : Int) (ip : List (List X)) (i2 i3 : Int) (ix1 ix2 : Bool) (f1 f2 f3 : Int) (f4 : ByteArray) (f5 f6 : List (List X)) (ms outs st : List (List X)) (fc : List X)
    (h1 : Gam.pureD (callF tab ext (N + 100)) 80 [.agg [num a, num b, .sl false 10 ss]] = some (.agg [num a, num b, .sl false 10 ss])) (h2 : Gam.pureD (callF tab ext (N + 100)) 40 [.agg (mX e p q o a1 a2 a3 a4 a5 a6)] = some (.agg (mX e p q o a1 a2 a3 a4 a5 a6)))
    (h3 : Gam.pureD (callF tab ext (N + 100)) 139 [.agg nd.cells, .agg (mX e p q o a1 a2 a3 a4 a5 a6)] = some (.agg [.sl false 10 ms, num 0, boolX true, noText])) (h0 : (Int.ofNat ms.length == 0) = false)
    (hrun : run (callF tab ext (N + 100)) 0 (N + 100) (.loop (loopAt 37 0)) (rsH nd a b ss e q p o a1 a2 a3 a4 a5 a6 ms ms.length 0 []) = some (.exit 1, ⟨rsTm ms ms.length ms.length ++ [(69, .v (.bool false))], rsBx nd a b ss e q p o a1 a2 a3 a4 a5 a6 ms ms.length 5 ++ [.row 11 outs]⟩))
    (h4 : Gam.pureD (callF tab ext (N + 100)) 84 [.sl false 10 ms] = some (.sl false 2 st)) (h5 : Gam.pureD (callF tab ext (N + 100)) 83 [.agg (mX e p q o a1 a2 a3 a4 a5 a6), strX nd.name, .sl false 2 st] = some (.agg fc)) (ho : outs.length = ms.length)
    (hfc : ∃ (x1 : Int) (x2 : List (List X)) (x3 : Int) (x4 : ByteArray) (x5 : List (List X)) (x6 : ByteArray), fc = [num x1, .sl false 1 x2, num x3, strX x4, .sl false 2 x5, strX x6]) :
    Gam.pureD (callF tab ext (N + 101)) 37 [.agg nd.cells, .agg [num a, num b, .sl false 10 ss], .agg ([num 1, num i2, num ie, .sl false 1 ip] ++ mX e p q o a1 a2 a3 a4 a5 a6 ++ [num i3, boolX ix1, boolX ix2, num f1, num f2, num f3, strX f4, .sl false 6 f5, .sl false 7 f6])] = some (.agg [num a, num b, .sl false 10 ss, .sl false 11 outs, .sl false 11 [], .sl false 6 [fc], .sl false 10 []]) := by
  obtain ⟨name, k1, k2, k3, w, k5, k6, text, ⟨t1, t2, t3, t4⟩, we, el, f, ty, ex, ca, ru, ne⟩ := nd
  dsimp only at hk
  subst hk
  obtain ⟨x1, x2, x3, x4, x5, x6, rfl⟩ := hfc
  refine pure_of [(15, .p (.agg [num a, num b, .sl false 10 ss])), (23, .p (.agg (mX e p q o a1 a2 a3 a4 a5 a6))), (36, .p (.agg [.sl false 10 ms, num 0, boolX true, noText])), (50, .b false), (87, .p (.sl false 2 st)), (88, .p (.agg [num x1, .sl false 1 x2, num x3, strX x4, .sl false 2 x5, strX x6]))]
    [(.exit 1, ⟨rsTm ms ms.length ms.length ++ [(69, .v (.bool false))], rsBx ⟨name, 12, k2, k3, w, k5, k6, text, (t1, t2, t3, t4), we, el, f, ty, ex, ca, ru, ne⟩ a b ss e q p o a1 a2 a3 a4 a5 a6 ms ms.length 5 ++ [.row 11 outs]⟩)] (pf7 h1 h2 h3 h0 hrun h4 h5) (x := .agg [num a, num b, .sl false 10 ss, .bs 0 0 ms.length, .sl true 11 [], .sl true 6 [[num x1, .sl false 1 x2, num x3, strX x4, .sl false 2 x5, strX x6]], .sl true 10 []]) (bx := [.row 11 outs]) (by kernel_rfl) ?_
  have h6 := rowOf_all (bx := [.row 11 outs]) (i := 0) (n := ms.length) rfl ho.symm
  simp [X.data, dataL, h6, num, strX]
end Go.Proofs.YthfchdkjeddijaaGreatDoor

/- The outcome of a multicast; the program's side. -/
namespace Go.Proofs.YthfchdkjeddijaaGreatDoor
open Go.Em
set_option maxRecDepth 100000
/-- What a multicast gives. -/
def mcO (s : Stt) (m : Msg) (name : ByteArray) (n : Nat) : Ocm := ⟨s, (List.range n).map fun i => ⟨Int.ofNat i, partM m ((List.replicate n m.body).getD i dVal) n i⟩, [⟨m.st, 1, name, stampsM (copiesM m n), ⟨#[]⟩⟩], []⟩
theorem copies_get (m : Msg) {n j : Nat} (h : j < n) : (msgsC (copiesM m n))[j]? = some (partM m ((List.replicate n m.body).getD j dVal) n j).cells := by
  simp [copiesM, partsM, msgsC, h]
theorem mc_body (m : Msg) {n j : Nat} (h : j < n) : (List.replicate n m.body).getD j dVal = m.body := by simp [List.getD, h]
theorem otsC_mc (s : Stt) (m : Msg) (name : ByteArray) (n : Nat) : otsC (msgsC (copiesM m n)) n = otpsC (mcO s m name n).outs := by
  unfold otsC otpsC mcO
  rw [List.map_map]
  refine List.map_congr_left fun i hi => ?_
  have h := copies_get m (List.mem_range.1 hi)
  have : (msgsC (copiesM m n)).getD i [] = (partM m ((List.replicate n m.body).getD i dVal) n i).cells := by rw [List.getD_eq_getElem?_getD, h]; rfl
  rw [this]
  rfl
theorem part_ok (m : Msg) (hm : m.ok) (hp : m.st.p.length < 50000) (b : Val) (hb : b.ok) (n j : Nat) : (partM m b n j).ok :=
  ⟨⟨by show (m.st.p ++ [Int.ofNat j]).length ≤ 60000; simp; omega⟩, hm.orig, hb⟩
theorem copies_ok (m : Msg) (hm : m.ok) (hp : m.st.p.length < 50000) (n : Nat) : ∀ x, x ∈ copiesM m n → x.ok := by
  intro x hx
  simp only [copiesM, partsM, List.mem_map, List.mem_range] at hx
  obtain ⟨i, hi, rfl⟩ := hx
  rw [mc_body m hi]
  exact part_ok m hm hp _ hm.body _ _
theorem copies_length (m : Msg) (n : Nat) : (copiesM m n).length = n := by simp [copiesM, partsM]
theorem mcO_ok (s : Stt) (hs : s.ok) (m : Msg) (hm : m.ok) (hp : m.st.p.length < 50000) (name : ByteArray) (n : Nat) (hn : n < 3000) : (mcO s m name n).ok where
  s := hs
  nouts := by simp [mcO]; omega
  outs := by
    intro x hx
    simp only [mcO, List.mem_map, List.mem_range] at hx
    obtain ⟨i, hi, rfl⟩ := hx
    rw [mc_body m hi]
    exact part_ok m hm hp _ hm.body _ _
  nfates := by simp [mcO]
  fates := by
    intro x hx
    simp only [mcO, List.mem_singleton] at hx
    subst hx
    exact ⟨hm.st, by simp [stampsM, copies_length]; omega, fun y hy => by
      simp only [stampsM, List.mem_map] at hy
      obtain ⟨z, hz, rfl⟩ := hy
      exact (copies_ok m hm hp n z hz).st⟩
  nletters := by simp [mcO]
  letters := by intro x hx; simp [mcO] at hx
/-- A message's cells, as the walk has them. -/
theorem cells_mX2 (m : Msg) : ∃ a1 a2 a3 a4 a5 a6, m.cells = mX m.st.e (intsC m.st.p) m.mass (intsC m.orig) a1 a2 a3 a4 (cellsL a5) (cellsF a6) := by
  obtain ⟨⟨e, p⟩, ms, o, ⟨a1, a2, a3, a4, a5, a6⟩⟩ := m
  exact ⟨a1, a2, a3, a4, a5, a6, rfl⟩
/-- router.Step of a multicast. -/
theorem router_multi (nd : Nod) (n : Nat) (hn : nd.number = Int.ofNat n) (h0 : 0 < n) (h1 : n ≤ 64) (s : Stt) (hs : s.ok) (i : Inp) (hm : i.m.ok) (hp : i.m.st.p.length < 50000) (N : Nat) (hN : 200700 ≤ N) :
    Gam.pureD (callF tab ext N) 37 [.agg ({ nd with kind := 12 } : Nod).cells, .agg s.cells, .agg ({ i with kind := 1 } : Inp).cells] = some (.agg (mcO s i.m nd.name n).cells) := by
  obtain ⟨M, rfl⟩ : ∃ M, N = M + 101 := ⟨N - 101, by omega⟩
  have g1 := clone_state_pure (M + 100) s hs (by omega)
  have g2 := clone_msg (M + 100) i.m hm (by omega)
  have g3 := multicast_pure { nd with kind := 12 } n hn h0 h1 i.m hm (M + 100) (by omega)
  have g4 := stamps_pure (M + 100) (copiesM i.m n) (copies_ok i.m hm hp n) (by rw [copies_length]; exact h0) (by rw [copies_length]; omega) (by rw [copies_length]; omega)
  have g5 := replaced_pure (M + 100) i.m hm.st nd.name (stampsM (copiesM i.m n)) (fun y hy => by
      simp only [stampsM, List.mem_map] at hy
      obtain ⟨z, hz, rfl⟩ := hy
      exact (copies_ok i.m hm hp n z hz).st) (by simp [stampsM, copies_length]; omega) (by simp [stampsM, copies_length]; omega)
  have hlen : (msgsC (copiesM i.m n)).length = n := by rw [msgsC_length, copies_length]
  have hot := otsC_mc s i.m nd.name n
  have hg : ∀ j, j < n → ∃ be bq bp bo b1 b2 b3 b4 b5 b6, (msgsC (copiesM i.m n))[j]? = some (mX be bq bp bo b1 b2 b3 b4 b5 b6) := by
    intro j hj
    obtain ⟨a1, a2, a3, a4, a5, a6, h⟩ := cells_mX2 (partM i.m ((List.replicate n i.m.body).getD j dVal) n j)
    rw [copies_get i.m hj, h]
    exact ⟨_, _, _, _, _, _, _, _, _, _, rfl⟩
  have hname : ({ nd with kind := 12 } : Nod).name = nd.name := rfl
  have hfc : (mcO s i.m nd.name n).cells = [num s.n, num s.t, .sl false 10 (sltsC s.slots), .sl false 11 (otpsC (mcO s i.m nd.name n).outs), .sl false 11 [], .sl false 6 [(Fte.mk i.m.st 1 nd.name (stampsM (copiesM i.m n)) ⟨#[]⟩).cells], .sl false 10 []] := rfl
  rw [hfc, ← hot]
  generalize hfd : (Fte.mk i.m.st 1 nd.name (stampsM (copiesM i.m n)) ⟨#[]⟩).cells = fc at g5 ⊢
  have hfx : ∃ (x1 : Int) (x2 : List (List X)) (x3 : Int) (x4 : ByteArray) (x5 : List (List X)) (x6 : ByteArray), fc = [num x1, .sl false 1 x2, num x3, strX x4, .sl false 2 x5, strX x6] := ⟨_, _, _, _, _, _, hfd.symm⟩
  clear hfd hfc hot
  generalize stpsC (stampsM (copiesM i.m n)) = st at g4 g5
  generalize msgsC (copiesM i.m n) = ms at g3 g4 hlen hg ⊢
  obtain ⟨kd, tm, ⟨se, sp⟩, ⟨⟨e, p⟩, q, o, ⟨a1, a2, a3, a4, a5, a6⟩⟩, x, b1, b2, ⟨c1, c2, c3, c4, c5, c6⟩⟩ := i
  obtain ⟨sn, t, ss⟩ := s
  have hrun : run (callF tab ext (M + 100)) 0 (M + 100) (.loop (loopAt 37 0)) (rsH { nd with kind := 12 } sn t (sltsC ss) e q (intsC p) (intsC o) a1 a2 a3 a4 (cellsL a5) (cellsF a6) ms ms.length 0 []) = some (.exit 1, ⟨rsTm ms ms.length ms.length ++ [(69, .v (.bool false))], rsBx { nd with kind := 12 } sn t (sltsC ss) e q (intsC p) (intsC o) a1 a2 a3 a4 (cellsL a5) (cellsF a6) ms ms.length 5 ++ [.row 11 (otsC ms ms.length)]⟩) := by
    refine loop_for (σ := fun j => rsH { nd with kind := 12 } sn t (sltsC ss) e q (intsC p) (intsC o) a1 a2 a3 a4 (cellsL a5) (cellsF a6) ms ms.length j (otsC ms j)) (k := ms.length) (rs_canon ..) (fun j hj => ?_) (rs_end ..) (by simp) (by omega)
    obtain ⟨be, bp, bq, bo, b1, b2, b3, b4, b5, b6, hi⟩ := hg j (by omega)
    refine ⟨_, rs_step (hi := hi) (hj := hj) (hl := by omega) (ho := (otsC_length _ _).symm) .., ?_⟩
    rw [otsC_succ, List.getD_eq_getElem?_getD, hi]
    exact rs_canon' ..
  rw [← hlen]
  exact rs_fin M { nd with kind := 12 } rfl sn t (sltsC ss) e q (intsC p) (intsC o) a1 a2 a3 a4 (cellsL a5) (cellsF a6) se (intsC sp) tm x b1 b2 c1 c2 c3 c4 (cellsL c5) (cellsF c6) ms (otsC ms ms.length) st fc g1 g2 g3
    (by rw [hlen]; simp only [Int.ofNat_eq_natCast, beq_eq_false_iff_ne]; omega) hrun g4 g5 (otsC_length _ _) hfx
end Go.Proofs.YthfchdkjeddijaaGreatDoor

/- The document's multicast. -/
namespace Go.Proofs.YthfchdkjeddijaaGreatDoor
open Go.Em
set_option maxRecDepth 100000
def mdN (nd : Nod) (k : Nat) : Nod := { nd with kind := 12, number := Int.ofNat (k + 1) }
def tkP (p : List (List X)) (j : Nat) : List (List X) := List.take (0 + p.length + 1) (List.drop 0 (List.drop 0 ([] ++ p) ++ [[nat j]]))
theorem tkP_eq (p : List (List X)) (j : Nat) : tkP p j = p ++ [[nat j]] := by
  unfold tkP
  simp only [List.nil_append, List.drop_zero]
  rw [List.take_of_length_le (by simp)]
section
variable (N : Nat) (nd : Nod) (a b : Int) (ss : List (List X)) (e q : Int) (p o : List (List X)) (a1 a2 a3 : Int) (a4 : ByteArray) (a5 a6 : List (List X)) (k j : Nat) (outs sts : List (List X)) (x : List X)
def mdTm : List (Nat × X) := [(3, .ptr 0 0 0), (6, .ptr 1 0 0), (7, .ptr 2 0 0), (16, .ptr 3 0 0), (17, .ptr 4 0 0), (18, nat j)]
def mdBx (u v : Nat) : List Bx := [.var (mdN nd k).cells, .var outZ, .var (mX e p q o a1 a2 a3 a4 a5 a6), .var [num a, num b, .sl false 10 ss, .bs u 0 j, .sl true 11 [], .sl true 6 [], .sl true 10 []], .var [num e, .sl false 1 p, num 1, strX nd.name, .bs v 0 j, noText]]
def mdH : St := ⟨mdTm j, mdBx nd a b ss e q p o a1 a2 a3 a4 a5 a6 k j 5 6 ++ [.row 11 outs, .row 2 sts]⟩
def mdE (sh : Int) (p' : List (List X)) : St := ⟨mdTm (j + 1), mdBx nd a b ss e q p o a1 a2 a3 a4 a5 a6 k (j + 1) 10 11 ++ [.dead, .dead, .var (mX e p' sh o a1 a2 a3 a4 a5 a6), .dead, .dead, .row 11 outs, .row 2 sts]⟩
theorem md_canon : canon 0 (mdH nd a b ss e q p o a1 a2 a3 a4 a5 a6 k j outs sts) = some (mdH nd a b ss e q p o a1 a2 a3 a4 a5 a6 k j outs sts) := by kernel_rfl
theorem md_canon' (sh : Int) (p' : List (List X)) : canon 0 (mdE nd a b ss e q p o a1 a2 a3 a4 a5 a6 k j outs sts sh p') = some (mdH nd a b ss e q p o a1 a2 a3 a4 a5 a6 k (j + 1) outs sts) := by kernel_rfl
theorem md_stepX (hp : p.isEmpty = false) (hpl : p.length < 100000) (hk : j < k + 1) (hj : j < 4000) (ho : j = outs.length) (hs : j = sts.length) :
    run (callF tab ext N) 0 N (loopAt 79 1) (mdH nd a b ss e q p o a1 a2 a3 a4 a5 a6 k j outs sts) = some (.norm, mdE nd a b ss e q p o a1 a2 a3 a4 a5 a6 k j (outs ++ [nat j :: mX e (tkP p j) (shareM q (k + 1) j) o a1 a2 a3 a4 a5 a6]) (sts ++ [[num e, .sl false 1 (tkP p j)]]) (shareM q (k + 1) j) (tkP p j)) := by
  have c1 : p.isEmpty = false ∧ roomOk (0 + p.length) 8 = true := ⟨hp, room_of (by omega) (by omega)⟩
  have c2 : 0 + (0 + p.length) = ([] ++ p).length ∧ roomOk (0 + p.length + 1) 8 = true ∧ memN 8 [] = false := ⟨by simp, room_of (by omega) (by omega), rfl⟩
  have c3 : 0 + (0 + p.length + 1) ≤ (List.drop 0 ([] ++ p) ++ [[nat j]]).length := by simp
  unfold shareM
  cases h : decide (Int.ofNat j < q.tmod (Int.ofNat (k + 1))) with
  | true =>
    rw [if_pos (of_decide_eq_true h)]
    exact run_of [(133, .b true), (141, .fresh), (144, .app), (159, .b true), (170, .app), (177, .app), (135, .i (Int.ofNat (j + 1)))] []
      (pf8 (lt_nat hk) c1 c2 h c3 (app_ok j 5 160 ho (by omega) (by omega)) (app_ok j 6 32 hs (by omega) (by omega)) (next_nat (j := j) (by omega))) (lo' := []) (by kernel_rfl)
  | false =>
    rw [if_neg (of_decide_eq_false h)]
    exact run_of [(133, .b true), (141, .fresh), (144, .app), (159, .b false), (170, .app), (177, .app), (135, .i (Int.ofNat (j + 1)))] []
      (pf8 (lt_nat hk) c1 c2 h c3 (app_ok j 5 160 ho (by omega) (by omega)) (app_ok j 6 32 hs (by omega) (by omega)) (next_nat (j := j) (by omega))) (lo' := []) (by kernel_rfl)
theorem md_end : run (callF tab ext N) 0 N (loopAt 79 1) (mdH nd a b ss e q p o a1 a2 a3 a4 a5 a6 k (k + 1) outs sts) = some (.exit 4, ⟨mdTm (k + 1) ++ [(133, .v (.bool false))], mdBx nd a b ss e q p o a1 a2 a3 a4 a5 a6 k (k + 1) 5 6 ++ [.row 11 outs, .row 2 sts]⟩) :=
  run_of [(133, .b false)] [] (pf1 (nlt_nat (j := k + 1) (k := k + 1) (by omega))) (lo' := []) (by kernel_rfl)
end
end Go.Proofs.YthfchdkjeddijaaGreatDoor

/- The document's multicast: its outcome is the program's. -/
namespace Go.Proofs.YthfchdkjeddijaaGreatDoor
open Go.Em
set_option maxRecDepth 100000
section
variable (N : Nat) (nd : Nod) (a b : Int) (ss : List (List X)) (e q : Int) (o : List (List X)) (a1 a2 a3 : Int) (a4 : ByteArray) (a5 a6 : List (List X)) (k j : Nat) (outs sts : List (List X))
def mdE0 (sh : Int) : St := ⟨mdTm (j + 1), mdBx nd a b ss e q [] o a1 a2 a3 a4 a5 a6 k (j + 1) 8 9 ++ [.dead, .dead, .var (mX e [[nat j]] sh o a1 a2 a3 a4 a5 a6), .row 11 outs, .row 2 sts]⟩
theorem md_canon0 (sh : Int) : canon 0 (mdE0 nd a b ss e q o a1 a2 a3 a4 a5 a6 k j outs sts sh) = some (mdH nd a b ss e q [] o a1 a2 a3 a4 a5 a6 k (j + 1) outs sts) := by kernel_rfl
theorem md_step0 (hk : j < k + 1) (hj : j < 4000) (ho : j = outs.length) (hs : j = sts.length) :
    run (callF tab ext N) 0 N (loopAt 79 1) (mdH nd a b ss e q [] o a1 a2 a3 a4 a5 a6 k j outs sts) = some (.norm, mdE0 nd a b ss e q o a1 a2 a3 a4 a5 a6 k j (outs ++ [nat j :: mX e [[nat j]] (shareM q (k + 1) j) o a1 a2 a3 a4 a5 a6]) (sts ++ [[num e, .sl false 1 [[nat j]]]]) (shareM q (k + 1) j)) := by
  unfold shareM
  cases h : decide (Int.ofNat j < q.tmod (Int.ofNat (k + 1))) with
  | true =>
    rw [if_pos (of_decide_eq_true h)]
    exact run_of [(133, .b true), (159, .b true), (170, .app), (177, .app), (135, .i (Int.ofNat (j + 1)))] []
      (pf5 (lt_nat hk) h (app_ok j 5 160 ho (by omega) (by omega)) (app_ok j 6 32 hs (by omega) (by omega)) (next_nat (j := j) (by omega))) (lo' := []) (by kernel_rfl)
  | false =>
    rw [if_neg (of_decide_eq_false h)]
    exact run_of [(133, .b true), (159, .b false), (170, .app), (177, .app), (135, .i (Int.ofNat (j + 1)))] []
      (pf5 (lt_nat hk) h (app_ok j 5 160 ho (by omega) (by omega)) (app_ok j 6 32 hs (by omega) (by omega)) (next_nat (j := j) (by omega))) (lo' := []) (by kernel_rfl)
end
/-- One round, whatever the path. -/
theorem md_step (N : Nat) (nd : Nod) (a b : Int) (ss : List (List X)) (e q : Int) (p o : List (List X)) (a1 a2 a3 : Int) (a4 : ByteArray) (a5 a6 : List (List X)) (k j : Nat) (outs sts : List (List X)) (hpl : p.length < 100000) (hk : j < k + 1) (hj : j < 4000) (ho : j = outs.length) (hs : j = sts.length) :
    ∃ υ, run (callF tab ext N) 0 N (loopAt 79 1) (mdH nd a b ss e q p o a1 a2 a3 a4 a5 a6 k j outs sts) = some (.norm, υ) ∧ canon 0 υ = some (mdH nd a b ss e q p o a1 a2 a3 a4 a5 a6 k (j + 1) (outs ++ [nat j :: mX e (p ++ [[nat j]]) (shareM q (k + 1) j) o a1 a2 a3 a4 a5 a6]) (sts ++ [[num e, .sl false 1 (p ++ [[nat j]])]])) := by
  cases hp : p.isEmpty with
  | true =>
    obtain rfl := List.isEmpty_iff.1 hp
    exact ⟨_, md_step0 (hk := hk) (hj := hj) (ho := ho) (hs := hs) .., md_canon0 ..⟩
  | false =>
    have h := md_stepX N nd a b ss e q p o a1 a2 a3 a4 a5 a6 k j outs sts hp hpl hk hj ho hs
    rw [tkP_eq] at h
    exact ⟨_, h, md_canon' ..⟩
theorem md_fin (N : Nat) (nd : Nod) (a b : Int) (ss : List (List X)) (e q : Int) (p o : List (List X)) (a1 a2 a3 : Int) (a4 : ByteArray) (a5 a6 : List (List X)) (k : Nat) (ie : Int) (ip : List (List X)) (i2 i3 : Int) (ix1 ix2 : Bool) (f1 f2 f3 : Int) (f4 : ByteArray) (f5 f6 : List (List X)) (v1 v2 v3 : Int) (v4 : ByteArray) (v5 v6 : List (List X)) (outs sts : List (List X))
    (h1 : Gam.pureD (callF tab ext (N + 100)) 92 [.agg [num a1, num a2, num a3, strX a4, .sl false 6 a5, .sl false 7 a6]] = some (.agg [num v1, num v2, num v3, strX v4, .sl false 6 v5, .sl false 7 v6])) (hk : k + 1 ≤ 64)
    (hrun : run (callF tab ext (N + 100)) 0 (N + 100) (.loop (loopAt 79 1)) (mdH nd a b ss e q p o a1 a2 a3 a4 a5 a6 k 0 [] []) = some (.exit 4, ⟨mdTm (k + 1) ++ [(133, .v (.bool false))], mdBx nd a b ss e q p o a1 a2 a3 a4 a5 a6 k (k + 1) 5 6 ++ [.row 11 outs, .row 2 sts]⟩)) (ho : outs.length = k + 1) (hs : sts.length = k + 1) :
    Gam.pureD (callF tab ext (N + 101)) 79 [.agg (mdN nd k).cells, .agg [num a, num b, .sl false 10 ss], .agg ([num 1, num i2, num ie, .sl false 1 ip] ++ mX e p q o a1 a2 a3 a4 a5 a6 ++ [num i3, boolX ix1, boolX ix2, num f1, num f2, num f3, strX f4, .sl false 6 f5, .sl false 7 f6])] = some (.agg [num a, num b, .sl false 10 ss, .sl false 11 outs, .sl false 11 [], .sl false 6 [[num e, .sl false 1 p, num 1, strX nd.name, .sl false 2 sts, noText]], .sl false 10 []]) := by
  have h2 : decide (Int.ofNat (k + 1) > 64) = false := decide_eq_false (by simp only [Int.ofNat_eq_natCast]; omega)
  have h0 : decide (Int.ofNat (k + 1) < 1) = false := decide_eq_false (by simp only [Int.ofNat_eq_natCast]; omega)
  have h3 : 0 + (k + 1) ≤ sts.length := by omega
  refine pure_of [(29, .p (.agg [num v1, num v2, num v3, strX v4, .sl false 6 v5, .sl false 7 v6])), (117, .b false), (121, .b false)] [(.exit 4, ⟨mdTm (k + 1) ++ [(133, .v (.bool false))], mdBx nd a b ss e q p o a1 a2 a3 a4 a5 a6 k (k + 1) 5 6 ++ [.row 11 outs, .row 2 sts]⟩)] (pf5 h1 h0 h2 hrun h3)
    (x := .agg [num a, num b, .sl false 10 ss, .bs 0 0 (k + 1), .sl true 11 [], .sl true 6 [[num e, .sl false 1 p, num 1, strX nd.name, .sl false 2 (List.take (k + 1) (List.drop 0 sts)), noText]], .sl true 10 []]) (bx := [.row 11 outs]) (by kernel_rfl) ?_
  have h6 := rowOf_all (bx := [.row 11 outs]) (i := 0) (n := k + 1) rfl ho.symm
  rw [List.drop_zero, List.take_of_length_le (by omega)]
  simp [X.data, dataL, h6, num, strX, noText]
end Go.Proofs.YthfchdkjeddijaaGreatDoor

/- The document's multicast as a whole. -/
namespace Go.Proofs.YthfchdkjeddijaaGreatDoor
open Go.Em
set_option maxRecDepth 100000
def outsK (m : Msg) (n j : Nat) : List Otp := (List.range j).map fun i => ⟨Int.ofNat i, partM m m.body n i⟩
def stsK (m : Msg) (j : Nat) : List Stp := (List.range j).map fun i => ⟨m.st.e, m.st.p ++ [Int.ofNat i]⟩
theorem outsK_mc (s : Stt) (m : Msg) (name : ByteArray) (n : Nat) : (mcO s m name n).outs = outsK m n n := by
  unfold mcO outsK
  refine List.map_congr_left fun i hi => ?_
  rw [mc_body m (List.mem_range.1 hi)]
theorem stsK_mc (m : Msg) (n : Nat) : stampsM (copiesM m n) = stsK m n := by
  simp [stampsM, copiesM, partsM, stsK, partM]
theorem outsK_length (m : Msg) (n j : Nat) : (otpsC (outsK m n j)).length = j := by simp [otpsC, outsK]
theorem stsK_length (m : Msg) (j : Nat) : (stpsC (stsK m j)).length = j := by simp [stpsC, stsK]
theorem outsK_succ (m : Msg) (n j : Nat) : otpsC (outsK m n (j + 1)) = otpsC (outsK m n j) ++ [(Otp.mk (Int.ofNat j) (partM m m.body n j)).cells] := by simp [otpsC, outsK, List.range_succ]
theorem stsK_succ (m : Msg) (j : Nat) : stpsC (stsK m (j + 1)) = stpsC (stsK m j) ++ [(Stp.mk m.st.e (m.st.p ++ [Int.ofNat j])).cells] := by simp [stpsC, stsK, List.range_succ]
theorem model_multi (nd : Nod) (n : Nat) (hn : nd.number = Int.ofNat n) (h0 : 0 < n) (h1 : n ≤ 64) (s : Stt) (i : Inp) (hm : i.m.ok) (N : Nat) (hN : 200700 ≤ N) :
    Gam.pureD (callF tab ext N) 79 [.agg ({ nd with kind := 12 } : Nod).cells, .agg s.cells, .agg ({ i with kind := 1 } : Inp).cells] = some (.agg (mcO s i.m nd.name n).cells) := by
  obtain ⟨M, rfl⟩ : ∃ M, N = M + 101 := ⟨N - 101, by omega⟩
  obtain ⟨k, rfl⟩ : ∃ k, n = k + 1 := ⟨n - 1, by omega⟩
  have hnd : ({ nd with kind := 12 } : Nod) = mdN nd k := by
    obtain ⟨name, k1, k2, k3, w, k5, k6, text, ⟨a, b, c, d⟩, we, el, f, ty, ex, ca, ru, ne⟩ := nd
    dsimp only at hn
    subst hn
    rfl
  rw [hnd]
  have henv := env_pure i.m.body hm.body (M + 100) (by omega)
  have hpl : (intsC i.m.st.p).length < 100000 := by rw [intsC_length]; have := hm.st.p; omega
  have hfc : (mcO s i.m nd.name (k + 1)).cells = [num s.n, num s.t, .sl false 10 (sltsC s.slots), .sl false 11 (otpsC (mcO s i.m nd.name (k + 1)).outs), .sl false 11 [], .sl false 6 [[num i.m.st.e, .sl false 1 (intsC i.m.st.p), num 1, strX nd.name, .sl false 2 (stpsC (stampsM (copiesM i.m (k + 1)))), noText]], .sl false 10 []] := rfl
  rw [hfc, outsK_mc, stsK_mc]
  have lo := outsK_length i.m (k + 1)
  have ls := stsK_length i.m
  have e1 := outsK_succ i.m (k + 1)
  have e2 := stsK_succ i.m
  generalize envV i.m.body = v at henv
  obtain ⟨v1, v2, v3, v4, v5, v6⟩ := v
  obtain ⟨kd, tm, ⟨se, sp⟩, ⟨⟨e, p⟩, q, o, ⟨a1, a2, a3, a4, a5, a6⟩⟩, x, b1, b2, ⟨c1, c2, c3, c4, c5, c6⟩⟩ := i
  obtain ⟨sn, t, ss⟩ := s
  dsimp only at hpl lo ls e1 e2 ⊢
  have e3 : ∀ j, (Otp.mk (Int.ofNat j) (partM ⟨⟨e, p⟩, q, o, ⟨a1, a2, a3, a4, a5, a6⟩⟩ ⟨a1, a2, a3, a4, a5, a6⟩ (k + 1) j)).cells = nat j :: mX e (intsC p ++ [[nat j]]) (shareM q (k + 1) j) (intsC o) a1 a2 a3 a4 (cellsL a5) (cellsF a6) := fun j => by
    rw [show nat j = num (Int.ofNat j) from rfl, intsC_snoc]; rfl
  have e4 : ∀ j : Nat, (Stp.mk e (p ++ [Int.ofNat j])).cells = [num e, .sl false 1 (intsC p ++ [[nat j]])] := fun j => by
    rw [show nat j = num (Int.ofNat j) from rfl, intsC_snoc]; rfl
  have hrun : run (callF tab ext (M + 100)) 0 (M + 100) (.loop (loopAt 79 1)) (mdH nd sn t (sltsC ss) e q (intsC p) (intsC o) a1 a2 a3 a4 (cellsL a5) (cellsF a6) k 0 [] []) = some (.exit 4, ⟨mdTm (k + 1) ++ [(133, .v (.bool false))], mdBx nd sn t (sltsC ss) e q (intsC p) (intsC o) a1 a2 a3 a4 (cellsL a5) (cellsF a6) k (k + 1) 5 6 ++ [.row 11 (otpsC (outsK ⟨⟨e, p⟩, q, o, ⟨a1, a2, a3, a4, a5, a6⟩⟩ (k + 1) (k + 1))), .row 2 (stpsC (stsK ⟨⟨e, p⟩, q, o, ⟨a1, a2, a3, a4, a5, a6⟩⟩ (k + 1)))]⟩) := by
    refine loop_for (σ := fun j => mdH nd sn t (sltsC ss) e q (intsC p) (intsC o) a1 a2 a3 a4 (cellsL a5) (cellsF a6) k j (otpsC (outsK ⟨⟨e, p⟩, q, o, ⟨a1, a2, a3, a4, a5, a6⟩⟩ (k + 1) j)) (stpsC (stsK ⟨⟨e, p⟩, q, o, ⟨a1, a2, a3, a4, a5, a6⟩⟩ j))) (k := k + 1) (md_canon ..) (fun j hj => ?_) (md_end ..) (by simp) (by omega)
    have h := md_step (M + 100) nd sn t (sltsC ss) e q (intsC p) (intsC o) a1 a2 a3 a4 (cellsL a5) (cellsF a6) k j (otpsC (outsK ⟨⟨e, p⟩, q, o, ⟨a1, a2, a3, a4, a5, a6⟩⟩ (k + 1) j)) (stpsC (stsK ⟨⟨e, p⟩, q, o, ⟨a1, a2, a3, a4, a5, a6⟩⟩ j)) hpl hj (by omega) (lo j).symm (ls j).symm
    rw [← e3 j, ← e4 j] at h
    rw [e1 j, e2 j]
    exact h
  exact md_fin M nd sn t (sltsC ss) e q (intsC p) (intsC o) a1 a2 a3 a4 (cellsL a5) (cellsF a6) k se (intsC sp) tm x b1 b2 c1 c2 c3 c4 (cellsL c5) (cellsF c6) v1 v2 v3 v4 (cellsL v5) (cellsF v6) _ _ henv h1 hrun (lo _) (ls _)
end Go.Proofs.YthfchdkjeddijaaGreatDoor

/- A multicast whose number does not fit: the message is rejected. -/
namespace Go.Proofs.YthfchdkjeddijaaGreatDoor
open Go.Em
set_option maxRecDepth 100000
def unr : ByteArray := ⟨#[117, 110, 114, 111, 117, 116, 97, 98, 108, 101]⟩
theorem router_bad (nd : Nod) (hn : nd.number < 1 ∨ 64 < nd.number) (s : Stt) (hs : s.ok) (i : Inp) (hm : i.m.ok) (N : Nat) (hN : 200700 ≤ N) : Gam.pureD (callF tab ext N) 37 [.agg ({ nd with kind := 12 } : Nod).cells, .agg s.cells, .agg ({ i with kind := 1 } : Inp).cells] = some (.agg (rejC false s i.m nd.name unr)) := by
  obtain ⟨M, rfl⟩ : ∃ M, N = M + 101 := ⟨N - 101, by omega⟩
  have h1 := clone_state_pure (M + 100) s hs (by omega)
  have h2 := clone_msg (M + 100) i.m hm (by omega)
  have h3 := rejected_pure i.m hm nd.name unr (M + 100) (by omega)
  have h4 := multicast_bad { nd with kind := 12 } hn i.m (M + 100) (by omega)
  obtain ⟨kd, tm, ⟨se, sp⟩, ⟨⟨e, p⟩, ms, o, ⟨a1, a2, a3, a4, a5, a6⟩⟩, x, b1, b2, ⟨c1, c2, c3, c4, c5, c6⟩⟩ := i
  obtain ⟨name, k1, k2, k3, w, k5, k6, text, ⟨a, b, c, d⟩, we, el, f, ty, ex, ca, ru, ne⟩ := nd
  obtain ⟨n, t, ss⟩ := s
  exact pure_of [(15, .p (.agg (Stt.mk n t ss).cells)), (23, .p (.agg (Msg.mk ⟨e, p⟩ ms o (.mk a1 a2 a3 a4 a5 a6)).cells)), (36, .p (.agg [.sl false 10 [], num 0, boolX false, strX unr])), (56, .p (.agg (Fte.mk ⟨e, p⟩ 4 name [] unr).cells))] [] (pf4 h1 h2 h4 h3)
    (x := .agg [num n, num t, .sl false 10 (sltsC ss), .sl true 11 [], .sl true 11 [], .sl true 6 [(Fte.mk ⟨e, p⟩ 4 name [] unr).cells], .sl true 10 [(Msg.mk ⟨e, p⟩ ms o (.mk a1 a2 a3 a4 a5 a6)).cells]]) (bx := []) (by kernel_rfl) rfl
theorem model_bad (nd : Nod) (hn : nd.number < 1 ∨ 64 < nd.number) (s : Stt) (i : Inp) (hm : i.m.ok) (N : Nat) (hN : 200700 ≤ N) : Gam.pureD (callF tab ext N) 79 [.agg ({ nd with kind := 12 } : Nod).cells, .agg s.cells, .agg ({ i with kind := 1 } : Inp).cells] = some (.agg (rejC true s i.m nd.name unr)) := by
  obtain ⟨M, rfl⟩ : ∃ M, N = M + 101 := ⟨N - 101, by omega⟩
  have h1 := env_pure i.m.body hm.body (M + 100) (by omega)
  generalize envV i.m.body = v at h1
  obtain ⟨v1, v2, v3, v4, v5, v6⟩ := v
  obtain ⟨kd, tm, ⟨se, sp⟩, ⟨⟨e, p⟩, ms, o, ⟨a1, a2, a3, a4, a5, a6⟩⟩, x, b1, b2, ⟨c1, c2, c3, c4, c5, c6⟩⟩ := i
  obtain ⟨name, k1, k2, k3, w, k5, k6, text, ⟨a, b, c, d⟩, we, el, f, ty, ex, ca, ru, ne⟩ := nd
  obtain ⟨n, t, ss⟩ := s
  dsimp only at hn
  cases h2 : decide (w < 1) with
  | true =>
    exact pure_of [(29, .p (.agg (Val.mk v1 v2 v3 v4 v5 v6).cells)), (117, .b true)] [] (pf2 h1 h2)
      (x := .agg [num n, num t, .sl false 10 (sltsC ss), .sl false 11 [], .sl false 11 [], .sl false 6 [fteC true (Fte.mk ⟨e, p⟩ 4 name [] unr)], .sl false 10 [(Msg.mk ⟨e, p⟩ ms o (.mk a1 a2 a3 a4 a5 a6)).cells]]) (bx := []) (by kernel_rfl) rfl
  | false =>
    have h3 : decide (w > 64) = true := decide_eq_true (by have := of_decide_eq_false h2; omega)
    exact pure_of [(29, .p (.agg (Val.mk v1 v2 v3 v4 v5 v6).cells)), (117, .b false), (121, .b true)] [] (pf3 h1 h2 h3)
      (x := .agg [num n, num t, .sl false 10 (sltsC ss), .sl false 11 [], .sl false 11 [], .sl false 6 [fteC true (Fte.mk ⟨e, p⟩ 4 name [] unr)], .sl false 10 [(Msg.mk ⟨e, p⟩ ms o (.mk a1 a2 a3 a4 a5 a6)).cells]]) (bx := []) (by kernel_rfl) rfl
end Go.Proofs.YthfchdkjeddijaaGreatDoor

/- RouterMulticasts: Step and the document agree. -/
namespace Go.Proofs.YthfchdkjeddijaaGreatDoor
open Go.Em
set_option maxRecDepth 100000
theorem short_path (i : Inp) : (shortN i).m.st.p.length < 50000 := by
  rw [shortN_m]
  have := cutI_length i.m.st.p
  show (cutI i.m.st.p).length < 50000
  omega
theorem multi_agrees (nd nd' : Nod) (hn : ∀ N, 220 ≤ N → Gam.pureD (callF tab ext N) 18 [.agg nd.cells] = some (.agg nd'.cells)) (s : Stt) (i : Inp) (N : Nat) (hN : 200910 ≤ N) : Gam.pureD (callF tab ext N) 35 [.agg nd.cells, .agg s.cells, .agg i.cells, num 12] = some (boolX true) := by
  have hs := (shortS_small s).ok
  have hm : (shortN i).m.ok := by rw [shortN_m]; exact shortM_ok i.m
  have hp := short_path i
  by_cases h : nd'.number < 1 ∨ 64 < nd'.number
  · have ha := router_bad nd' h (shortS s) hs (shortN i) hm (N - 1) (by omega)
    have hb := model_bad nd' h (shortS s) (shortN i) hm (N - 1) (by omega)
    have hab := rej_same (shortS s) hs (shortN i).m hm false true nd'.name unr (N - 1) (by omega)
    exact agrees_of nd nd' hn s i 12 N (by omega) _ _ _ _ _ _ _ _ _ _ _ _ ha hb hab
  · have hx : nd'.number = Int.ofNat nd'.number.toNat := by simp only [Int.ofNat_eq_natCast]; omega
    have ha := router_multi nd' nd'.number.toNat hx (by omega) (by omega) (shortS s) hs (shortN i) hm hp (N - 1) (by omega)
    have hb := model_multi nd' nd'.number.toNat hx (by omega) (by omega) (shortS s) (shortN i) hm (N - 1) (by omega)
    have hab := ocm_refl (N - 1) _ (mcO_ok (shortS s) hs (shortN i).m hm hp nd'.name nd'.number.toNat (by omega)) (by omega)
    exact agrees_of nd nd' hn s i 12 N (by omega) _ _ _ _ _ _ _ _ _ _ _ _ ha hb hab

/-! ### The stamps increase -/
theorem lexC_last (p : List Int) (x y : Int) (h : x < y) : lexC ordI (p ++ [x]) (p ++ [y]) = -1 := by
  induction p with
  | nil =>
    show (if ordI x y = 0 then lexC ordI [] [] else ordI x y) = -1
    have : ordI x y = -1 := by unfold ordI; rw [if_pos h]
    rw [this, if_neg (by decide)]
  | cons a l ih =>
    show (if ordI a a = 0 then lexC ordI (l ++ [x]) (l ++ [y]) else ordI a a) = -1
    rw [if_pos (ordI_refl a)]
    exact ih
theorem cmpS_last (e : Int) (p : List Int) (x y : Int) (h : x < y) : cmpS ⟨e, p ++ [x]⟩ ⟨e, p ++ [y]⟩ = -1 := by
  unfold cmpS
  dsimp only
  rw [ordI_refl, lexC_last p x y h]
  rfl
section
variable (N : Nat) (a b : Int) (ss outs fates letters : List (List X)) (j : Nat)
def moH : St := ⟨[(7, .ptr 0 0 0), (8, nat j)], [.var [num a, num b, .sl false 10 ss, .sl false 11 outs, .sl false 11 [], .sl false 6 fates, .sl false 10 letters]]⟩
theorem mo_canon : canon 0 (moH a b ss outs fates letters j) = some (moH a b ss outs fates letters j) := by kernel_rfl
theorem mo_step (p1 e1 q1 : Int) (sp1 so1 : List (List X)) (x1 x2 x3 : Int) (x4 : ByteArray) (x5 x6 : List (List X)) (p2 e2 q2 : Int) (sp2 so2 : List (List X)) (y1 y2 y3 : Int) (y4 : ByteArray) (y5 y6 : List (List X)) (hj : j + 1 < outs.length) (hl : outs.length < 4000)
    (g1 : outs[j]? = some (num p1 :: mX e1 sp1 q1 so1 x1 x2 x3 x4 x5 x6)) (g2 : outs[j + 1]? = some (num p2 :: mX e2 sp2 q2 so2 y1 y2 y3 y4 y5 y6)) (h : Gam.pureD (callF tab ext N) 38 [.agg [num e1, .sl false 1 sp1], .agg [num e2, .sl false 1 sp2]] = some (num (-1))) :
    run (callF tab ext N) 0 N (loopAt 11 0) (moH a b ss outs fates letters (j + 1)) = some (.norm, moH a b ss outs fates letters (j + 2)) := by
  have hd : IntKind.i64.wrap (Int.ofNat (j + 1) - 1) = Int.ofNat j := by rw [IntKind.wrap_i64]; simp only [Int.ofNat_eq_natCast]; omega
  exact run_of [(31, .b true), (37, .i (Int.ofNat j)), (38, .e (num p1 :: mX e1 sp1 q1 so1 x1 x2 x3 x4 x5 x6)), (45, .e (num p2 :: mX e2 sp2 q2 so2 y1 y2 y3 y4 y5 y6)), (49, .p (num (-1))), (33, .i (Int.ofNat (j + 2)))] []
    (pf6 (lt_nat hj) hd g1 g2 h (next_nat (j := j + 1) (by omega))) (lo' := []) (by kernel_rfl)
theorem mo_end (hj : ¬ j < outs.length) : run (callF tab ext N) 0 N (loopAt 11 0) (moH a b ss outs fates letters j) = some (.exit 0, ⟨[(7, .ptr 0 0 0), (8, nat j), (31, .v (.bool false))], (moH a b ss outs fates letters j).bx⟩) :=
  run_of [(31, .b false)] [] (pf1 (nlt_nat hj)) (lo' := []) (by kernel_rfl)
end
end Go.Proofs.YthfchdkjeddijaaGreatDoor

/- RouterMulticasts comes to true. -/
namespace Go.Proofs.YthfchdkjeddijaaGreatDoor
open Go.Em
set_option maxRecDepth 100000
theorem outsK_get (m : Msg) {n j : Nat} (h : j < n) : (otpsC (outsK m n n))[j]? = some (Otp.mk (Int.ofNat j) (partM m m.body n j)).cells := by
  simp [otpsC, outsK, h]
theorem outsK_len (m : Msg) (n : Nat) : (otpsC (outsK m n n)).length = n := by simp [otpsC, outsK]
theorem mo_loop (N : Nat) (hN : 60100 ≤ N) (a b : Int) (ss fates letters : List (List X)) (m : Msg) (hp : m.st.p.length < 50000) (n : Nat) (h0 : 0 < n) (hn : n ≤ 64) :
    run (callF tab ext N) 0 N (.loop (loopAt 11 0)) (moH a b ss (otpsC (outsK m n n)) fates letters 1) = some (.exit 0, ⟨[(7, .ptr 0 0 0), (8, nat n), (31, .v (.bool false))], (moH a b ss (otpsC (outsK m n n)) fates letters n).bx⟩) := by
  have hl := outsK_len m n
  obtain ⟨k, rfl⟩ : ∃ k, n = k + 1 := ⟨n - 1, by omega⟩
  refine loop_for (σ := fun j => moH a b ss (otpsC (outsK m (k + 1) (k + 1))) fates letters (j + 1)) (k := k) (mo_canon ..) (fun j hj => ?_) ?_ (by simp) (by omega)
  · have g1 := outsK_get m (n := k + 1) (j := j) (by omega)
    have g2 := outsK_get m (n := k + 1) (j := j + 1) (by omega)
    have hc := cmp_stamp N (partM m m.body (k + 1) j).st (partM m m.body (k + 1) (j + 1)).st (by simp [partM]; omega) (by simp [partM]; omega)
    rw [show cmpS (partM m m.body (k + 1) j).st (partM m m.body (k + 1) (j + 1)).st = -1 from cmpS_last m.st.e m.st.p (Int.ofNat j) (Int.ofNat (j + 1)) (by simp only [Int.ofNat_eq_natCast]; omega)] at hc
    obtain ⟨⟨e, p⟩, q, o, ⟨a1, a2, a3, a4, a5, a6⟩⟩ := m
    exact ⟨_, mo_step (g1 := g1) (g2 := g2) (h := hc) (hj := by omega) (hl := by omega) .., mo_canon ..⟩
  · exact mo_end (hj := by omega) ..
theorem mo_fin (M : Nat) (nd nd' : Nod) (s s' : Stt) (i i' : Inp) (a b : Int) (ss outs fates letters : List (List X)) (n : Nat)
    (h1 : Gam.pureD (callF tab ext (M + 100)) 35 [.agg nd.cells, .agg s.cells, .agg i.cells, num 12] = some (boolX true))
    (h2 : Gam.pureD (callF tab ext (M + 100)) 36 [.agg nd.cells, .agg s.cells, .agg i.cells, num 12] = some (.tup [.agg ({ nd' with kind := 12 } : Nod).cells, .agg s'.cells, .agg i'.cells]))
    (h3 : Gam.pureD (callF tab ext (M + 100)) 37 [.agg ({ nd' with kind := 12 } : Nod).cells, .agg s'.cells, .agg ({ i' with kind := 1 } : Inp).cells] = some (.agg [num a, num b, .sl false 10 ss, .sl false 11 outs, .sl false 11 [], .sl false 6 fates, .sl false 10 letters]))
    (h4 : run (callF tab ext (M + 100)) 0 (M + 100) (.loop (loopAt 11 0)) (moH a b ss outs fates letters 1) = some (.exit 0, ⟨[(7, .ptr 0 0 0), (8, nat n), (31, .v (.bool false))], (moH a b ss outs fates letters n).bx⟩)) :
    callF tab ext (M + 101) (.fn 11) [.agg nd.cells, .agg s.cells, .agg i.cells] [] = some (.v (.bool true), []) := by
  obtain ⟨kd, tm, ⟨se, sp⟩, ⟨⟨e, p⟩, ms, o, ⟨a1, a2, a3, a4, a5, a6⟩⟩, x, b1, b2, ⟨c1, c2, c3, c4, c5, c6⟩⟩ := i
  obtain ⟨kd', tm', ⟨se', sp'⟩, ⟨⟨e', p'⟩, ms', o', ⟨g1, g2, g3, g4, g5, g6⟩⟩, x', d1, d2, ⟨f1, f2, f3, f4, f5, f6⟩⟩ := i'
  exact callF_of [(12, .p (boolX true)), (18, .p (.tup [.agg ({ nd' with kind := 12 } : Nod).cells, .agg s'.cells, .agg (Inp.mk kd' tm' ⟨se', sp'⟩ ⟨⟨e', p'⟩, ms', o', ⟨g1, g2, g3, g4, g5, g6⟩⟩ x' d1 d2 ⟨f1, f2, f3, f4, f5, f6⟩).cells])), (26, .p (.agg [num a, num b, .sl false 10 ss, .sl false 11 outs, .sl false 11 [], .sl false 6 fates, .sl false 10 letters]))]
    [(.exit 0, ⟨[(7, .ptr 0 0 0), (8, nat n), (31, .v (.bool false))], (moH a b ss outs fates letters n).bx⟩)] (pf4 h1 h2 h3 h4) (by kernel_rfl)
theorem rmulti_all (cn : List X) (hcn : isNode cn) (s : Stt) (i : Inp) : callF tab ext 201000 (.fn 11) [.agg cn, .agg s.cells, .agg i.cells] [] = some (.v (.bool true), []) := by
  obtain ⟨nd, nd', rfl, hn⟩ := node_of hcn
  have hs := (shortS_small s).ok
  have hm : (shortN i).m.ok := by rw [shortN_m]; exact shortM_ok i.m
  have hp := short_path i
  have h1 := multi_agrees nd nd' hn s i 200999 (by omega)
  have h2 := given_pure nd nd' hn s i 12 200999 (by omega)
  by_cases h : nd'.number < 1 ∨ 64 < nd'.number
  · have ha := router_bad nd' h (shortS s) hs (shortN i) hm 200999 (by omega)
    exact mo_fin 200899 nd nd' s (shortS s) i (shortN i) _ _ _ _ _ _ 1 h1 h2 ha (loop_for (σ := fun _ => moH _ _ _ _ _ _ 1) (k := 0) (mo_canon ..) (fun j hj => by omega) (mo_end (hj := by simp) ..) (by simp) (by omega))
  · have hx : nd'.number = Int.ofNat nd'.number.toNat := by simp only [Int.ofNat_eq_natCast]; omega
    have ha := router_multi nd' nd'.number.toNat hx (by omega) (by omega) (shortS s) hs (shortN i) hm hp 200999 (by omega)
    have hl := mo_loop 200999 (by omega) (shortS s).n (shortS s).t (sltsC (shortS s).slots) (ftesC (mcO (shortS s) (shortN i).m nd'.name nd'.number.toNat).fates) (msgsC (mcO (shortS s) (shortN i).m nd'.name nd'.number.toNat).letters) (shortN i).m hp nd'.number.toNat (by omega) (by omega)
    rw [← outsK_mc (shortS s) (shortN i).m nd'.name nd'.number.toNat] at hl
    exact mo_fin 200899 nd nd' s (shortS s) i (shortN i) _ _ _ _ _ _ _ h1 h2 ha hl
end Go.Proofs.YthfchdkjeddijaaGreatDoor

/- slices.Insert at the slots: copies of elements of more than one cell. -/
namespace Go.Proofs.YthfchdkjeddijaaGreatDoor
open Go.Em Go.RowKit Go.Lib

theorem run_copy_k {P : Program} (w : World) (dT sT ty elem : TypeId) (k : Nat) (b o dLen dCap : Nat) (a : Addr) (sLen sCap : Nat) (cs : List Value)
    (hu : P.underlying dT = some (.slice elem)) (hs : (P.info? elem).map (·.size) = some k) (hn : cs.length = Nat.min sLen dLen * k)
    (hsrc : ∀ j v, cs[j]? = some v → w.cell? (a.add j) = some v) (hc : ∀ j, j < cs.length → (w.cell? ⟨b, o + j, none⟩).isSome = true) (hf : ∀ j, j < cs.length → w.frozen? ⟨b, o + j, none⟩ = false) (h1 : ∀ v ∈ cs, v.oneCell' = true) :
    (Builtin.copy_ #[dT, sT] ty #[.slice (some ⟨b, o, none⟩) dLen dCap, .slice (some a) sLen sCap]).run P w = .ok (goInt (Nat.min sLen dLen)) (w.setCells b o cs) := by
  have hl := run_loadCells_list (P := P) w a cs hsrc
  have hst := run_storeCells_cells (P := P) b o cs 0 w (by simpa using hc) (by simpa using hf) h1
  cases hq : P.info? elem with
  | none => simp [hq] at hs
  | some i =>
    have hi : i.size = k := by simpa [hq] using hs
    simp [Builtin.copy_, run_underlying hu, Builtin.lenOf, Builtin.firstCells, sizeOf, typeInfo, hq, hi, ← hn, hl, hst]

/-- The model's entry for slices.overlaps: two blocks, the second of which is plain memory. -/
theorem run_overlaps_own {P : Program} (w : World) (tS tR e : TypeId) (ht : P.underlying tS = some (.slice e)) (size : Nat) (hz : ∀ w, (Go.sizeOf e).run P w = .ok size w)
    (a b : Addr) (la ca lb cb : Nat) (hne : a.block ≠ b.block) (tA tB : TypeId) (kA kB : Nat)
    (hsa : w.shape? a.block = some (tA, kA)) (hsb : w.shape? b.block = some (tB, kB)) (hkB : kB ≠ 0) (hkA : kA ≠ 0)
    (hfb : w.frozen? b = false) (hfe : w.frozen? { block := b.block, off := kB } = false) :
    (Extern.SlicesOverlaps.overlaps #[tS, tS] #[tR] #[.slice (some a) la ca, .slice (some b) lb cb]).run P w = .ok (.bool false) w := by
  have hnb : (a.block != b.block) = true := by simpa using hne
  have hnb' : (a.block == b.block) = false := by simpa using hne
  change Sem.run P (α := Value) (do
    let some t := (#[tS, tS] : Array TypeId)[0]? | stuck "slices.overlaps: no parameter types"
    let .slice elem ← underlying t | stuck "slices.overlaps: slice type expected"
    let size ← sizeOf elem
    match (some a : Option Addr), (some b : Option Addr) with
    | some a, some b =>
      if la = 0 ∨ lb = 0 ∨ size = 0 then pure (Value.bool false)
      else if a.block != b.block && (← frozen a) && (← frozen b) then unsupported .addressObserved
      else do
        if a.block != b.block then do
          noView a; noView b
          if ← mayBeOne a b then return Value.bool ((← choose (.extern "sameAddr.stringBytes" 2)) == 1)
        pure (Value.bool (a.block == b.block && a.off < b.off + lb * size && b.off < a.off + la * size))
    | _, _ => pure (Value.bool false)) w = _
  by_cases h0 : la = 0 ∨ lb = 0 ∨ size = 0
  · simp [run_underlying ht, hz, h0]
  · cases kB with
    | zero => exact absurd rfl hkB
    | succ kB =>
      obtain ⟨kA, rfl⟩ : ∃ k, kA = k + 1 := ⟨kA - 1, by omega⟩
      cases hfa : w.frozen? a with
      | true => simp [run_underlying ht, hz, h0, hnb, hnb', frozen, noView, viewAt, mayBeOne, stringish, shape, Sem.run, hsa, hsb, hfb, hfe, hfa]
      | false =>
        cases hfx : w.frozen? { block := a.block, off := kA + 1 } with
        | true => simp [run_underlying ht, hz, h0, hnb, hnb', frozen, noView, viewAt, mayBeOne, stringish, shape, Sem.run, hsa, hsb, hfb, hfe, hfa, hfx]
        | false => simp [run_underlying ht, hz, h0, hnb, hnb', frozen, noView, viewAt, mayBeOne, stringish, shape, Sem.run, hsa, hsb, hfb, hfe, hfa, hfx]
/-- .. and where both lie in one block, apart. -/
theorem run_overlaps_same {P : Program} (w : World) (tS tR e : TypeId) (ht : P.underlying tS = some (.slice e)) (size : Nat) (hz : ∀ w, (Go.sizeOf e).run P w = .ok size w)
    (a b : Addr) (la ca lb cb : Nat) (hsame : a.block = b.block) (hd : ¬ (a.off < b.off + lb * size ∧ b.off < a.off + la * size)) :
    (Extern.SlicesOverlaps.overlaps #[tS, tS] #[tR] #[.slice (some a) la ca, .slice (some b) lb cb]).run P w = .ok (.bool false) w := by
  have hnb : (a.block != b.block) = false := by simpa using hsame
  have hnb' : (a.block == b.block) = true := by simpa using hsame
  have hd' : (decide (a.off < b.off + lb * size) && decide (b.off < a.off + la * size)) = false := by
    cases h : (decide (a.off < b.off + lb * size) && decide (b.off < a.off + la * size)) with
    | false => rfl
    | true => exact absurd (by simpa using h) hd
  change Sem.run P (α := Value) (do
    let some t := (#[tS, tS] : Array TypeId)[0]? | stuck "slices.overlaps: no parameter types"
    let .slice elem ← underlying t | stuck "slices.overlaps: slice type expected"
    let size ← sizeOf elem
    match (some a : Option Addr), (some b : Option Addr) with
    | some a, some b =>
      if la = 0 ∨ lb = 0 ∨ size = 0 then pure (Value.bool false)
      else if a.block != b.block && (← frozen a) && (← frozen b) then unsupported .addressObserved
      else do
        if a.block != b.block then do
          noView a; noView b
          if ← mayBeOne a b then return Value.bool ((← choose (.extern "sameAddr.stringBytes" 2)) == 1)
        pure (Value.bool (a.block == b.block && a.off < b.off + lb * size && b.off < a.off + la * size))
    | _, _ => pure (Value.bool false)) w = _
  by_cases h0 : la = 0 ∨ lb = 0 ∨ size = 0
  · simp [run_underlying ht, hz, h0]
  · simp [run_underlying ht, hz, h0, hnb, hnb', hd', frozen, Sem.run]
end Go.Proofs.YthfchdkjeddijaaGreatDoor

/- slices.Insert at the slots, where there is room. -/
namespace Go.Proofs.YthfchdkjeddijaaGreatDoor
open Go.Em Go.RowKit Go.Lib

theorem und35 : Tryz.prog.underlying 23 = some (.slice 100) := by kernel_rfl
theorem info78 : (Tryz.prog.info? 100).map (·.size) = some 10 := by kernel_rfl
theorem size78 : ∀ w, (Go.sizeOf 100).run Tryz.prog w = .ok 10 w := Tryz.sizeOf100

set_option maxHeartbeats 4000000 in
set_option maxRecDepth 100000 in
theorem ins_shift (b off n c i vb voff vc : Nat) (cs vs : List Value) (w : World) (hi : i < n) (hroom : n + 1 ≤ c) (hn3 : n ≤ 1000) (hdis : ∀ j k, j < 10 → k < (n + 1) * 10 → vb = b → voff + j ≠ off + k)
    (hcl : cs.length = n * 10) (hvl : vs.length = 10)
    (hcs : ∀ j v, cs[j]? = some v → w.cell? ⟨b, off + j, none⟩ = some v) (hsp : ∀ j, j < (n + 1) * 10 → (w.cell? ⟨b, off + j, none⟩).isSome = true) (hfz : ∀ j, j < (n + 1) * 10 → w.frozen? ⟨b, off + j, none⟩ = false)
    (hvs : ∀ j v, vs[j]? = some v → w.cell? ⟨vb, voff + j, none⟩ = some v) (h1c : ∀ v ∈ cs, v.oneCell' = true) (h1v : ∀ v ∈ vs, v.oneCell' = true)
    (tA tB : TypeId) (kA kB : Nat) (hsa : w.shape? vb = some (tA, kA)) (hsb : w.shape? b = some (tB, kB)) (hkB : kB ≠ 0) (hkA : kA ≠ 0) (hfb : ∀ o, w.frozen? ⟨b, o, none⟩ = false) :
    Calls Tryz.prog 154 #[.slice (some ⟨b, off, none⟩) n c, .int .i64 i, .slice (some ⟨vb, voff, none⟩) 1 vc] w fun e w' =>
      e = .returned (.slice (some ⟨b, off, none⟩) (n + 1) c) ∧ w' = (w.drew.setCells b (off + (i + 1) * 10) (cs.drop (i * 10))).setCells b (off + i * 10) vs := by
  have hz2 : ¬ ((i : Int) = (n : Int)) := by omega
  have hov : ∀ cb, (callFunc 223 #[.slice (some ⟨vb, voff, none⟩) 1 vc, .slice (some ⟨b, off + (i + 1) * 10, none⟩) (n - i) cb]).run Tryz.prog w = .ok (.value (.bool false)) w := fun cb => by
    rw [run_callFunc_extern Tryz.func223 (by kernel_rfl) (by kernel_rfl) (by kernel_rfl) (e := Extern.SlicesOverlaps.overlaps #[23, 23] #[4]) (by kernel_rfl)]
    by_cases hvb : vb = b
    · rw [run_overlaps_same w 23 4 100 und35 10 size78 ⟨vb, voff, none⟩ ⟨b, off + (i + 1) * 10, none⟩ 1 vc (n - i) cb hvb (fun h => by
        obtain ⟨h1, h2⟩ := h
        dsimp only at h1 h2
        by_cases hlo : off + (i + 1) * 10 ≤ voff
        · exact hdis 0 (voff - off) (by omega) (by omega) hvb (by omega)
        · exact hdis (off + (i + 1) * 10 - voff) ((i + 1) * 10) (by omega) (by omega) hvb (by omega))]
      rfl
    · rw [run_overlaps_own w 23 4 100 und35 10 size78 ⟨vb, voff, none⟩ ⟨b, off + (i + 1) * 10, none⟩ 1 vc (n - i) cb hvb tA tB kA kB hsa hsb hkB hkA (hfb _) (hfb _)]
      rfl
  have hdl : (cs.drop (i * 10)).length = (n - i) * 10 := by rw [List.length_drop, hcl]; omega
  have hw1 : IntKind.i64.wrap ((i : Int) + 1) = (i : Int) + 1 := by rw [IntKind.wrap_i64]; omega
  have hb1 : (0 : Int) ≤ (i : Int) + 1 := by omega
  have hin : i ≤ n := by omega
  have htn : ((i : Int) + 1).toNat = i + 1 := by omega
  have hb2 : ¬ (c = i + 1) := by omega
  have hb3 : (i : Int) ≤ (n : Int) + 1 := by omega
  have hb4 : ¬ (c = i) := by omega
  have hcp1 : ∀ ty dc sc, (Builtin.copy_ #[23, 23] ty #[.slice (some ⟨b, off + (i + 1) * 10, none⟩) (n - i) dc, .slice (some ⟨b, off + i * 10, none⟩) (n + 1 - i) sc]).run Tryz.prog w.drew = .ok (goInt (Nat.min (n + 1 - i) (n - i))) (w.drew.setCells b (off + (i + 1) * 10) (cs.drop (i * 10))) := fun ty dc sc =>
    run_copy_k w.drew _ _ ty 100 10 b (off + (i + 1) * 10) (n - i) dc ⟨b, off + i * 10, none⟩ (n + 1 - i) sc (cs.drop (i * 10)) und35 info78 (by rw [hdl]; congr 1; simp only [Nat.min_def]; split <;> omega)
      (fun j v hj => by rw [Addr.add_lit, Nat.add_assoc]; exact hcs (i * 10 + j) v (by rwa [List.getElem?_drop] at hj))
      (fun j hj => by rw [Nat.add_assoc]; exact hsp _ (by omega)) (fun j hj => by rw [Nat.add_assoc]; exact hfz _ (by omega)) (fun v hv => h1c v (List.mem_of_mem_drop hv))
  obtain ⟨W1, hW1⟩ : ∃ W1, W1 = w.drew.setCells b (off + (i + 1) * 10) (cs.drop (i * 10)) := ⟨_, rfl⟩
  have hsp1 : ∀ k, k < (n + 1) * 10 → (W1.cell? ⟨b, off + k, none⟩).isSome = true := fun k hk => by
    rw [hW1]
    exact isSome_setCells b _ _ _ (fun j hj => by rw [Nat.add_assoc]; exact hsp _ (by omega)) _ (hsp k hk)
  have hcp2 : ∀ (W : World), (∀ x, W.cell? x = W1.cell? x) → (∀ x, W.frozen? x = W1.frozen? x) → ∀ ty dc, (Builtin.copy_ #[23, 23] ty #[.slice (some ⟨b, off + i * 10, none⟩) (n + 1 - i) dc, .slice (some ⟨vb, voff, none⟩) 1 vc]).run Tryz.prog W = .ok (goInt (Nat.min 1 (n + 1 - i))) (W.setCells b (off + i * 10) vs) := fun W hWc hWf ty dc =>
    run_copy_k W _ _ ty 100 10 b (off + i * 10) (n + 1 - i) dc ⟨vb, voff, none⟩ 1 vc vs und35 info78 (by rw [hvl]; simp only [Nat.min_def]; split <;> omega)
      (fun j v hj => by
        have hj' : j < 10 := by rw [← hvl]; exact (List.getElem?_eq_some_iff.1 hj).1
        rw [Addr.add_lit, hWc, hW1, World.cell?_setCells_out b _ _ _ _ (fun h _ => by
          dsimp only at h ⊢
          have h5 := hdis j (voff + j - off) hj'
          by_cases h6 : off ≤ voff + j ∧ voff + j - off < (n + 1) * 10
          · exact absurd (by omega) (h5 h6.2 h)
          · omega)]
        exact hvs j v hj)
      (fun j hj => by rw [hWc, Nat.add_assoc]; exact hsp1 _ (by omega)) (fun j hj => by rw [hWf, hW1, World.frozen?_setCells, Nat.add_assoc]; exact hfz _ (by omega)) h1v
  rw [← hW1] at hcp1
  have mixed : Tryz.prog.follows .mixedOrders = true := by kernel_rfl
  go_enter Tryz.func154, Tryz.ntmps154
  go_wp2_with (simp only [hov])
  go_region_law_o (refine step_copy_runI rfl _ _ 23 23 rfl _ _ (by simp [Act.eval, Act.put]) (by simp [Act.eval, Act.put]) (hcp1 _ _ _) ?_)
  go_wp2_with (at_builtin; refine wpList_copy_runI _ rfl _ _ 23 23 rfl _ _ rfl rfl (hcp2 _ (fun _ => rfl) (fun _ => rfl) _ _) ?_)
  go_ret
  first | exact ⟨rfl, rfl⟩ | exact ⟨rfl, by rw [hW1]⟩
end Go.Proofs.YthfchdkjeddijaaGreatDoor

/- slices.Insert at the slots: at the end, and where there is no room. -/
namespace Go.Proofs.YthfchdkjeddijaaGreatDoor
open Go.Em Go.RowKit Go.Lib

set_option maxHeartbeats 4000000 in
set_option maxRecDepth 100000 in
theorem ins_end (ob : Option Addr) (n c vb voff vc : Nat) (w w1 : World) (v : Value) (hnc : n ≤ c) (hn3 : n ≤ 1000) (hnil : ob = none → n = 0 ∧ c = 0)
    (hrun : ∀ ty, (Builtin.append_ #[23, 23] ty #[.slice ob n c, .slice (some ⟨vb, voff, none⟩) 1 vc]).run Tryz.prog w = .ok v w1) :
    Calls Tryz.prog 154 #[.slice ob n c, .int .i64 n, .slice (some ⟨vb, voff, none⟩) 1 vc] w fun e w' => e = .returned v ∧ w' = w1 := by
  have mixed : Tryz.prog.follows .mixedOrders = true := by kernel_rfl
  go_enter Tryz.func154, Tryz.ntmps154
  cases ob with
  | none =>
    obtain ⟨rfl, rfl⟩ := hnil rfl
    go_wp2_with (at_builtin; refine Lib.wpList_append_run _ rfl _ _ _ _ rfl _ _ rfl rfl _ _ (hrun _) ?_)
    go_ret
    exact ⟨rfl, rfl⟩
  | some a =>
    obtain ⟨ab, ao, asp⟩ := a
    go_wp2_with (at_builtin; refine Lib.wpList_append_run _ rfl _ _ _ _ rfl _ _ rfl rfl _ _ (hrun _) ?_)
    all_goals (go_ret; exact ⟨rfl, rfl⟩)

def IsRow (r : Array Value) (l : List Value) : Prop := r = l.toArray
theorem info78b : (Tryz.prog.info? 100).map (fun i => (i.zero.map (·.cells.size), i.size, i.bytes)) = some (some 10, 10, 152) := by kernel_rfl
theorem und3 : Tryz.prog.underlying 3 = some (.int .i64) := by kernel_rfl

set_option maxHeartbeats 4000000 in
set_option maxRecDepth 100000 in
theorem ins_grow (b off n c i vb voff vc : Nat) (cs vs : List Value) (w : World) (hi : i < n) (hnc : n ≤ c) (hroom : c < n + 1) (hc63 : c ≤ 1000000) 
    (hcl : cs.length = n * 10) (hvl : vs.length = 10)
    (hcs : ∀ j v, cs[j]? = some v → w.cell? ⟨b, off + j, none⟩ = some v)
    (hvs : ∀ j v, vs[j]? = some v → w.cell? ⟨vb, voff + j, none⟩ = some v) (h1c : ∀ v ∈ cs, v.oneCell' = true) (h1v : ∀ v ∈ vs, v.oneCell' = true) :
    Calls Tryz.prog 154 #[.slice (some ⟨b, off, none⟩) n c, .int .i64 i, .slice (some ⟨vb, voff, none⟩) 1 vc] w fun e w' =>
      ∃ (G : Nat) (tl : List Value), n + 1 ≤ G ∧ e = .returned (.slice (some ⟨w.heap.size, 0, none⟩) (n + 1) G) ∧ tl.length = (G - i) * 10 ∧
      w' = (((w.alloc (.cells ((cs.take (i * 10)) ++ tl).toArray 100)).drew.setCells w.heap.size (i * 10) vs).drew).setCells w.heap.size ((i + 1) * 10) (cs.drop (i * 10)) := by
  obtain ⟨i0, hi0, hz0, hzs, hzb⟩ : ∃ i0, Tryz.prog.info? 100 = some i0 ∧ i0.zero.map (·.cells.size) = some 10 ∧ i0.size = 10 ∧ i0.bytes = 152 := by
    obtain ⟨i0, h1, h2⟩ := Option.map_eq_some_iff.1 info78b
    simp only [Prod.mk.injEq] at h2
    exact ⟨i0, h1, h2.1, h2.2.1, h2.2.2⟩
  obtain ⟨zv, hz0, hzc⟩ := Option.map_eq_some_iff.1 hz0
  have hz2 : ¬ ((i : Int) = (n : Int)) := by omega
  have hz3 : (c : Int) < (n : Int) + 1 := by omega
  have hbw : b < w.heap.size := block_lt_of_cell (hcs 0 _ (List.getElem?_eq_getElem (by omega)))
  have hvw : vb < w.heap.size := block_lt_of_cell (hvs 0 _ (List.getElem?_eq_getElem (by omega)))
  have hkk : (n : Int) + 1 - (i : Int) = ((n + 1 - i : Nat) : Int) := by omega
  have hik : i + (n + 1 - i) = n + 1 := by omega
  have hold : (Builtin.firstCells i0.size i (.slice (some ⟨b, off, none⟩) i c)).run Tryz.prog w.drew = .ok (cs.take (i * 10)).toArray w.drew := by
    rw [hzs]
    exact run_firstCells_some w.drew 10 i ⟨b, off, none⟩ i c (cs.take (i * 10)) (by rw [List.length_take]; omega) (fun j v hj => by
      rw [Addr.add_lit]
      rw [List.getElem?_take] at hj
      split at hj
      · exact hcs j v hj
      · cases hj)
  have hrz : ∀ ty, (Builtin.append_ #[23, 3] ty #[.slice (some ⟨b, off, none⟩) i c, .int .i64 ((n : Int) + 1 - (i : Int))]).run Tryz.prog w =
      .ok (.slice (some ⟨w.heap.size, 0, none⟩) (n + 1) (grownCap w (n + 1) c 100)) (w.drew.alloc (.cells ((cs.take (i * 10)).toArray ++ Builtin.zeroCells zv.cells (n + 1 - i) ++ Builtin.zeroCells zv.cells (grownCap w (n + 1) c 100 - (n + 1))) 100)) := fun ty => by
    have h := Lib.run_append_grow_zeros w 23 3 ty 100 i0 zv .i64 .i64 und35 und3 hi0 hz0 (some ⟨b, off, none⟩) i c (cs.take (i * 10)) hold (n + 1 - i) (by omega) (by omega) (by omega) (by omega) (by rw [hzb]; omega) (by rw [hzb, hik]; exact growslice_fits hroom (by omega))
    rw [hik] at h
    rw [hkk]
    exact h
  have hGn : n + 1 ≤ grownCap w (n + 1) c 100 := grownCap_ge w _ _ _
  have hG63 : grownCap w (n + 1) c 100 ≤ 9223372036854775807 := by
    have := grownCap_le_maxLen w (n + 1) c 100 (by unfold maxLen; omega)
    unfold maxLen at this
    omega
  generalize grownCap w (n + 1) c 100 = G at hrz hGn hG63
  have hzl : ∀ k, (Builtin.zeroCells zv.cells k).size = k * 10 := fun k => by simp [Builtin.zeroCells, hzc]
  obtain ⟨tl, htl⟩ : ∃ tl : List Value, (cs.take (i * 10)).toArray ++ Builtin.zeroCells zv.cells (n + 1 - i) ++ Builtin.zeroCells zv.cells (G - (n + 1)) = ((cs.take (i * 10)) ++ tl).toArray ∧ tl.length = (G - i) * 10 := by
    refine ⟨(Builtin.zeroCells zv.cells (n + 1 - i)).toList ++ (Builtin.zeroCells zv.cells (G - (n + 1))).toList, ?_, ?_⟩
    · apply Array.toList_inj.1; simp
    · rw [List.length_append, Array.length_toList, Array.length_toList, hzl, hzl]; omega
  obtain ⟨htl, htll⟩ := htl
  rw [htl] at hrz
  obtain ⟨ROW, hROW⟩ : ∃ ROW : Array Value, ROW = ((cs.take (i * 10)) ++ tl).toArray := ⟨_, rfl⟩
  have hRl : (n + 1) * 10 ≤ ROW.size := by
    rw [hROW]
    simp only [List.size_toArray, List.length_append, List.length_take, htll]
    omega
  rw [← hROW] at hrz
  obtain ⟨W1, hW1⟩ : ∃ W1, W1 = w.drew.alloc (.cells ROW 100) := ⟨_, rfl⟩
  rw [← hW1] at hrz
  have hN : ∀ j, j < (n + 1) * 10 → (W1.cell? ⟨w.heap.size, j, none⟩).isSome = true := fun j hj => by
    rw [hW1, World.cell?_alloc_at (w := w.drew) ROW _ w.heap.size j rfl, Array.getElem?_eq_getElem (by omega)]; rfl
  have hNf : ∀ j, W1.frozen? ⟨w.heap.size, j, none⟩ = false := fun j => by rw [hW1]; exact World.frozen?_alloc_at (w := w.drew) ROW _ w.heap.size j rfl
  have hOb : ∀ j v, w.cell? ⟨b, j, none⟩ = some v → W1.cell? ⟨b, j, none⟩ = some v := fun j v h => by rw [hW1, World.cell?_alloc_past (w := w.drew) _ b j hbw]; exact h
  have hOv : ∀ j v, w.cell? ⟨vb, j, none⟩ = some v → W1.cell? ⟨vb, j, none⟩ = some v := fun j v h => by rw [hW1, World.cell?_alloc_past (w := w.drew) _ vb j hvw]; exact h
  have hcpA : ∀ (W : World), (∀ x, W.cell? x = W1.cell? x) → (∀ x, W.frozen? x = W1.frozen? x) → ∀ ty dc, (Builtin.copy_ #[23, 23] ty #[.slice (some ⟨w.heap.size, i * 10, none⟩) (n + 1 - i) dc, .slice (some ⟨vb, voff, none⟩) 1 vc]).run Tryz.prog W = .ok (goInt (Nat.min 1 (n + 1 - i))) (W.setCells w.heap.size (i * 10) vs) := fun W hWc hWf ty dc =>
    run_copy_k W _ _ ty 100 10 w.heap.size (i * 10) (n + 1 - i) dc ⟨vb, voff, none⟩ 1 vc vs und35 info78 (by rw [hvl]; simp only [Nat.min_def]; split <;> omega)
      (fun j v hj => by rw [Addr.add_lit, hWc]; exact hOv _ v (hvs j v hj))
      (fun j hj => by rw [hWc]; exact hN _ (by omega)) (fun j hj => by rw [hWf]; exact hNf _) h1v
  have hGi : ¬ (G = i) := by omega
  have hGim : ¬ (G = i + 1) := by omega
  have hci : ¬ (c = i) := by omega
  have hbN : b ≠ w.heap.size := by omega
  have hdl : (cs.drop (i * 10)).length = (n - i) * 10 := by rw [List.length_drop, hcl]; omega
  have hcpB : ∀ (W : World), (∀ x, W.cell? x = (W1.setCells w.heap.size (i * 10) vs).cell? x) → (∀ x, W.frozen? x = (W1.setCells w.heap.size (i * 10) vs).frozen? x) → ∀ ty dc sc, (Builtin.copy_ #[23, 23] ty #[.slice (some ⟨w.heap.size, (i + 1) * 10, none⟩) (n - i) dc, .slice (some ⟨b, off + i * 10, none⟩) (n - i) sc]).run Tryz.prog W = .ok (goInt (Nat.min (n - i) (n - i))) (W.setCells w.heap.size ((i + 1) * 10) (cs.drop (i * 10))) := fun W hWc hWf ty dc sc =>
    run_copy_k W _ _ ty 100 10 w.heap.size ((i + 1) * 10) (n - i) dc ⟨b, off + i * 10, none⟩ (n - i) sc (cs.drop (i * 10)) und35 info78 (by rw [hdl]; simp)
      (fun j v hj => by
        rw [Addr.add_lit, hWc, World.cell?_setCells_out _ _ _ _ _ (fun h _ => absurd h hbN), Nat.add_assoc]
        exact hOb _ v (hcs (i * 10 + j) v (by rwa [List.getElem?_drop] at hj)))
      (fun j hj => by rw [hWc]; exact isSome_setCells _ _ _ _ (fun t ht => hN _ (by omega)) _ (hN _ (by omega)))
      (fun j hj => by rw [hWf, World.frozen?_setCells]; exact hNf _) (fun v hv => h1c v (List.mem_of_mem_drop hv))
  subst hW1
  have hE1 : ∀ x, ((w.alloc (.cells ROW 100)).drew).cell? x = (w.drew.alloc (.cells ROW 100)).cell? x := fun x => rfl
  have hE2 : ∀ x, ((w.alloc (.cells ROW 100)).drew).frozen? x = (w.drew.alloc (.cells ROW 100)).frozen? x := fun x => rfl
  have hF1 : ∀ x, (((w.alloc (.cells ROW 100)).drew.setCells w.heap.size (i * 10) vs).drew).cell? x = ((w.drew.alloc (.cells ROW 100)).setCells w.heap.size (i * 10) vs).cell? x := fun x => rfl
  have hF2 : ∀ x, (((w.alloc (.cells ROW 100)).drew.setCells w.heap.size (i * 10) vs).drew).frozen? x = ((w.drew.alloc (.cells ROW 100)).setCells w.heap.size (i * 10) vs).frozen? x := fun x => rfl
  have hw1 : IntKind.i64.wrap ((i : Int) + 1) = (i : Int) + 1 := by rw [IntKind.wrap_i64]; omega
  have hb1 : (0 : Int) ≤ (i : Int) + 1 := by omega
  have hin : i ≤ n := by omega
  have htn : ((i : Int) + 1).toNat = i + 1 := by omega
  have hb3 : (i : Int) ≤ (n : Int) := by omega
  have mixed : Tryz.prog.follows .mixedOrders = true := by kernel_rfl
  have hkeep : IsRow ROW ((cs.take (i * 10)) ++ tl) := hROW
  clear hkk hik hold hRl htl hROW
  go_enter Tryz.func154, Tryz.ntmps154
  go_wp2_with (first
    | (at_builtin; refine Lib.wpList_append_run _ rfl _ _ _ _ rfl _ _ rfl rfl _ _ (hrz _) ?_)
    | (at_builtin; refine wpList_copy_runI _ rfl _ _ 23 23 rfl _ _ rfl rfl (hcpA _ hE1 hE2 _ _) ?_)
    | (at_builtin; refine wpList_copy_runI _ rfl _ _ 23 23 rfl _ _ rfl rfl (hcpB _ (fun _ => rfl) (fun _ => rfl) _ _ _) ?_))
  go_region_law_o (refine step_copy_runI rfl _ _ 23 23 rfl (.slice (some ⟨w.heap.size, (i + 1) * 10, none⟩) (n - i) (G - (i + 1))) (.slice (some ⟨b, off + i * 10, none⟩) (n - i) (c - i)) (by simp [Act.eval, Act.put]) (by simp [Act.eval, Act.put]) (hcpB _ hF1 hF2 3 (G - (i + 1)) (c - i)) ?_)
  go_wp2
  go_ret
  exact ⟨G, tl, hGn, rfl, htll, by unfold IsRow at hkeep; rw [← hkeep]⟩
end Go.Proofs.YthfchdkjeddijaaGreatDoor

/- slices.Insert at the slots: what it says to its caller. -/
namespace Go.Proofs.YthfchdkjeddijaaGreatDoor
open Go.Em Go.RowKit Go.Lib

section
variable {P : Program} {R : CodeRel} {K : Kn}
theorem post_move {w w' : World} {c0 c' : CB} {sz : Nat} {rows new : List (List X)} {res : X} {v : Value} (hI : Inv P R K [c0] [.row sz rows] w) (hf : FrameOk c0.owns w w') (hown : ∀ b o, c'.owns b o → c0.owns b o ∨ w.heap.size ≤ b)
    (hB : BoxOk P R K ([c0] ++ [c']) w' (.row sz new) c') (hres : Rep K ([c0] ++ [c']) res v) : Post P R K [c0] [.row sz rows] w res [.dead, .row sz new] (.returned v) w' := by
  have hdead : ∀ b o, ¬ Owns [c0] [Bx.dead] b o := by
    rintro b o ⟨i, c, B, h1, h2, h3, h4⟩
    cases i with
    | zero => simp at h2; subst h2; simp [Bx.live] at h3
    | succ i => simp at h2
  have hin : ∀ b o, c0.owns b o → Owns [c0] [Bx.row sz rows] b o := fun b o h => ⟨0, c0, .row sz rows, rfl, rfl, rfl, h⟩
  have hk := hI.kill 0
  have hk' : Inv P R K [c0] [.dead] w' := Inv.frame hk hf (fun b o v e ho => by
    have := hI.apart b o (hin b o ho); rw [this] at e; cases e) (fun b o ho => absurd ho (hdead b o))
  refine ⟨v, K, [c'], rfl, ⟨hk'.push hB (fun b o ho => ?_) (fun b o _ => hdead b o), hres, KLe.refl _, fun b o u e => .inl e, fun b o ho => ?_, hf.mono fun b o _ h => hin b o h, fun i B e hl => ?_⟩⟩
  · rcases hown b o ho with h | h
    · exact hI.apart b o (hin b o h)
    · cases hk : K b o with
      | none => rfl
      | some u => have := hI.known_lt hk; omega
  · obtain ⟨i, c, B, h1, h2, h3, h4⟩ := ho
    match i, h1, h2 with
    | 0, h1, h2 => simp at h2; subst h2; simp [Bx.live] at h3
    | 1, h1, h2 =>
      simp at h1; subst h1
      rcases hown b o h4 with h | h
      · exact .inl (hin b o h)
      · exact .inr h
    | i + 2, h1, h2 => simp at h2
  · cases i with
    | zero => simp at e; subst e; cases hl
    | succ i => simp at e

theorem splice_get (l vs : List Value) (o q : Nat) (h : o + vs.length ≤ l.length) : (l.take o ++ vs ++ l.drop (o + vs.length)).toArray[q]? = if q < o then l[q]? else if q < o + vs.length then vs[q - o]? else l[q]? := by
  have hT : (l.take o).length = o := by rw [List.length_take]; omega
  rw [List.getElem?_toArray]
  by_cases h5 : q < o
  · rw [if_pos h5, List.append_assoc, List.getElem?_append_left (by omega), List.getElem?_take, if_pos h5]
  · rw [if_neg h5, List.append_assoc, List.getElem?_append_right (by omega), hT]
    by_cases h6 : q < o + vs.length
    · rw [if_pos h6, List.getElem?_append_left (by omega)]
    · rw [if_neg h6, List.getElem?_append_right (by omega), List.getElem?_drop]
      congr 1; omega
theorem setCells_row (W : World) (b o : Nat) (arr : Array Value) (el : TypeId) (vs : List Value) (hb : W.heap[b]? = some (.cells arr el (0, 0))) (hl : o + vs.length ≤ arr.size) (h1 : ∀ v ∈ vs, v.oneCell' = true) :
    W.setCells b o vs = W.setRow b (arr.toList.take o ++ vs ++ arr.toList.drop (o + vs.length)).toArray := by
  have hc : ∀ j, j < vs.length → (W.cell? ⟨b, o + j, none⟩).isSome = true := fun j hj => by
    simp only [World.cell?, hb]
    rw [Array.getElem?_eq_getElem (by omega)]; rfl
  have hf : ∀ j, j < vs.length → W.frozen? ⟨b, o + j, none⟩ = false := fun j hj => by simp [World.frozen?, hb]
  have e1 := run_storeCells_cells (P := Tryz.prog) b o vs 0 W (by simpa using hc) (by simpa using hf) h1
  have e2 := run_storeCells_at Tryz.prog b o el vs 0 arr W hb (by omega) h1
  rw [e1] at e2
  simp only [Nat.add_zero] at e2
  injection e2

/-- The new row, where the elements lay or in a place of its own. -/
theorem ins_flat {K : Kn} {rows : List (List X)} {x : List X} {cs vs : List Value} (hf : Flat K 10 rows cs) (hv : Flat K 10 [x] vs) (i : Nat) : Flat K 10 (rows.take i ++ [x] ++ rows.drop i) (cs.take (i * 10) ++ vs ++ cs.drop (i * 10)) :=
  ((hf.take i).append hv).append (hf.drop i)
theorem ins_get {cs vs : List Value} {n i k : Nat} {v : Value} (hcl : cs.length = n * 10) (hvl : vs.length = 10) (hi : i ≤ n) (h : (cs.take (i * 10) ++ vs ++ cs.drop (i * 10))[k]? = some v) :
    (k < i * 10 ∧ cs[k]? = some v) ∨ (i * 10 ≤ k ∧ k < (i + 1) * 10 ∧ vs[k - i * 10]? = some v) ∨ ((i + 1) * 10 ≤ k ∧ k < (n + 1) * 10 ∧ cs[k - 10]? = some v) := by
  have hT : (cs.take (i * 10)).length = i * 10 := by rw [List.length_take]; omega
  by_cases h1 : k < i * 10
  · rw [List.append_assoc, List.getElem?_append_left (by omega), List.getElem?_take, if_pos h1] at h
    exact .inl ⟨h1, h⟩
  · rw [List.append_assoc, List.getElem?_append_right (by omega), hT] at h
    by_cases h2 : k < (i + 1) * 10
    · rw [List.getElem?_append_left (by omega)] at h
      exact .inr (.inl ⟨by omega, h2, h⟩)
    · rw [List.getElem?_append_right (by omega), List.getElem?_drop] at h
      have e : i * 10 + (k - i * 10 - vs.length) = k - 10 := by omega
      rw [e] at h
      have := (List.getElem?_eq_some_iff.1 h).1
      exact .inr (.inr ⟨by omega, by omega, h⟩)

set_option maxRecDepth 100000 in
theorem ins_sem {R : CodeRel} (n i : Nat) (t : Bool) (x : List X) (rows : List (List X)) (hi : i ≤ n) (hn : n = rows.length) (hn2 : n ≤ 1000) :
    FSem Tryz.prog R 154 [.bs 0 0 n, .v (.int .i64 (Int.ofNat i)), .sl t 10 [x]] [.row 10 rows] (.bs 1 0 (n + 1)) [.dead, .row 10 (rows.take i ++ [x] ++ rows.drop i)] := by
  intro K C w cargs hI ha
  have hs : cargs.size = 3 := ha.1
  have r0 := ha.2 0 _ cargs[0] rfl (Array.getElem?_eq_getElem (by omega))
  have r1 := ha.2 1 _ cargs[1] rfl (Array.getElem?_eq_getElem (by omega))
  have r2 := ha.2 2 _ cargs[2] rfl (Array.getElem?_eq_getElem (by omega))
  have hca : cargs = #[cargs[0], cargs[1], cargs[2]] := by
    refine Array.ext (by simp [hs]) fun j h1 h2 => ?_
    match j, h1, h2 with
    | 0, _, _ => rfl
    | 1, _, _ => rfl
    | 2, _, _ => rfl
    | j + 3, h1, _ => omega
  rw [hca]
  generalize cargs[0] = v0 at r0
  generalize cargs[1] = v1 at r1
  generalize cargs[2] = v2 at r2
  obtain rfl := rep_v r1
  obtain ⟨c0, hC⟩ : ∃ c0, C = [c0] := by
    have := hI.size
    match C, this with
    | [c0], _ => exact ⟨c0, rfl⟩
  subst hC
  obtain ⟨vb, vo, c2, rfl⟩ : ∃ vb vo c2, v2 = .slice (some ⟨vb, vo, none⟩) 1 c2 := by
    generalize hx : X.sl t 10 [x] = y at r2
    cases r2 <;> try cases hx
    exact ⟨_, _, _, rfl⟩
  obtain ⟨vs, hv, hvK⟩ := r2.flat
  have hvl : vs.length = 10 := by simpa using hv.len
  have hvs : ∀ j v, vs[j]? = some v → w.cell? ⟨vb, vo + j, none⟩ = some v := fun j v h => hI.known _ _ _ (hvK j v h)
  have h1v := hv.oneCell
  obtain ⟨tA, kA, hsa, hkA⟩ : ∃ tA kA, w.shape? vb = some (tA, kA) ∧ kA ≠ 0 := by
    have h0 := hvs 0 _ (List.getElem?_eq_getElem (by omega))
    unfold World.cell? at h0
    split at h0
    · rename_i arr el fr hh
      refine ⟨el, arr.size, by simp [World.shape?, hh], fun e => ?_⟩
      have := (Array.getElem?_eq_some_iff.1 h0).1
      omega
    · cases h0
  have hvfc : ∀ w' : World, w'.heap = w.heap → (Builtin.firstCells 10 1 (.slice (some ⟨vb, vo, none⟩) 1 c2)).run Tryz.prog w' = .ok vs.toArray w' := fun w' hw => by
    refine run_firstCells_some w' 10 1 ⟨vb, vo, none⟩ 1 c2 vs (by omega) (fun j u hu => ?_)
    rw [Addr.add_lit]
    have := hvs j u hu
    simp only [World.cell?, hw] at this ⊢; exact this
  have hz78 : (zeroP Tryz.prog 100).isSome = true := by kernel_rfl
  obtain ⟨z78, hz78⟩ := Option.isSome_iff_exists.1 hz78
  have hs78 : sizeP Tryz.prog 100 = some 10 := by kernel_rfl
  have hb78 : bytesP Tryz.prog 100 = some 152 := by kernel_rfl
  -- a new row, at the end
  have endGrow : ∀ (ob : Option Addr) (c : Nat) (olds : List Value), i = n → n ≤ c → c < n + 1 → (ob = none → n = 0 ∧ c = 0) → Flat K 10 rows olds → (∀ w' : World, w'.heap = w.heap → (Builtin.firstCells 10 n (.slice ob n c)).run Tryz.prog w' = .ok olds.toArray w') →
      Calls Tryz.prog 154 #[.slice ob n c, .int .i64 (Int.ofNat i), .slice (some ⟨vb, vo, none⟩) 1 c2] w (Post Tryz.prog R K [c0] [.row 10 rows] w (.bs 1 0 (n + 1)) [.dead, .row 10 (rows.take i ++ [x] ++ rows.drop i)]) := by
    intro ob c olds hin hnc hcn hnil hfo hfco
    subst hin
    have hex : ∃ rest : List Value, (∀ ty, (Builtin.append_ #[23, 23] ty #[.slice ob i c, .slice (some ⟨vb, vo, none⟩) 1 c2]).run Tryz.prog w = .ok (.slice (some ⟨w.heap.size, 0, none⟩) (i + 1) (grownCap w (i + 1) c 100)) (w.drew.alloc (.cells (olds ++ vs ++ rest).toArray 100))) ∧ rest.length = (grownCap w (i + 1) c 100 - (i + 1)) * 10 := by
      obtain ⟨rest, h1, h2⟩ := run_app_grow (P := Tryz.prog) (w := w) (ty := 0) (ob := ob) (oc := some ⟨vb, vo, none⟩) (n := i) (cap := c) (m := 1) (c := c2) und35 und35 hs78 hb78 hz78 olds vs hfco hvfc hcn (by omega) (by omega) (by omega)
      exact ⟨rest, fun ty => h1, h2⟩
    obtain ⟨rest, hrun, hrl⟩ := hex
    have hm := grownCap_ge w (i + 1) c 100
    generalize grownCap w (i + 1) c 100 = m at hrun hrl hm
    refine (ins_end ob i c vb vo c2 w _ _ hnc hn2 hnil hrun).mono ?_
    rintro e w' ⟨rfl, rfl⟩
    have hfl := hfo.append hv
    have e1 : rows.take i ++ [x] ++ rows.drop i = rows ++ [x] := by
      rw [hn, List.take_length, List.drop_length, List.append_nil]
    rw [e1]
    have hol : olds.length = i * 10 := by rw [hfo.len, ← hn]
    have hsz : (olds ++ vs ++ rest).toArray.size = m * 10 := by
      simp only [List.size_toArray, List.length_append, hol, hvl, hrl]; omega
    refine post_move (c' := .at w.heap.size 0 (m * 10) 10) hI (FrameOk.trans (FrameOk.drew _ w) (FrameOk.alloc (S := c0.owns) _ _) (fun _ _ _ h => h)) (fun b o h => .inr (by rw [h.1]; exact Nat.le_refl _)) (hfl.box (alloc_get w.drew _) (fun k v hk => ?_) (by simp only [List.length_append, List.length_singleton]; omega) (by omega)) ?_
    · rw [Nat.zero_add, List.getElem?_toArray, List.getElem?_append_left (List.getElem?_eq_some_iff.1 hk).1]; exact hk
    · have := @Rep.bs K ([c0] ++ [.at w.heap.size 0 (m * 10) 10]) 1 0 (i + 1) w.heap.size 0 (m * 10) 10 m rfl (by omega) (by omega)
      simpa using this
  generalize hx0 : X.bs 0 0 n = y0 at r0
  cases r0 <;> try cases hx0
  case bsNil ob hc =>
    have e0 : c0 = .ghost := by simpa using hc
    subst e0
    have hi0 : i = 0 := by omega
    have hr0 : rows = [] := List.eq_nil_of_length_eq_zero hn.symm
    refine endGrow ob 0 [] hi0 (Nat.le_refl _) (by omega) (fun _ => ⟨rfl, rfl⟩) (by rw [hr0]; exact Flat.nil) (fun w' _ => ?_)
    cases ob <;> simp [Builtin.firstCells, loadCells, loadCellsFrom]
  case bs b base hi' sz cap hc hcap hlen =>
    have e0 : c0 = .at b base hi' sz := by simpa using hc
    subst e0
    obtain ⟨arr, el, g1, g2, g3, hbl, hfe⟩ := (hI.box 0 _ _ rfl rfl).flat
    subst g1
    simp only [Nat.zero_mul, Nat.zero_add, Nat.add_zero] at hcap ⊢
    generalize hcd : (arr.toList.drop base).take (rows.length * 10) = cs at hfe
    have hcl : cs.length = n * 10 := by rw [hfe.len, ← hn]
    have hcar : ∀ j v, cs[j]? = some v → arr[base + j]? = some v := fun j v h => by
      rw [← hcd, List.getElem?_take] at h
      split at h
      · rw [List.getElem?_drop] at h; simpa using h
      · cases h
    have hcs : ∀ j v, cs[j]? = some v → w.cell? ⟨b, base + j, none⟩ = some v := fun j v h => by
      simp only [World.cell?, hbl]; exact hcar j v h
    have h1c := hfe.oneCell
    have hnk : ∀ o, base ≤ o → o < hi' → K b o = none := fun o h1 h2 => hI.apart b o ⟨0, _, _, rfl, rfl, rfl, ⟨rfl, h1, h2⟩⟩
    have hfz : ∀ o, w.frozen? ⟨b, o, none⟩ = false := fun o => by simp [World.frozen?, hbl]
    have hflat := ins_flat hfe hv i
    by_cases hin : i = n
    · by_cases hfit : n + 1 ≤ cap
      · subst hin
        have hst := run_storeCells_at Tryz.prog b (base + i * 10) el vs 0 arr w hbl (by omega) h1v
        simp only [Nat.add_zero] at hst
        have hrun : ∀ ty, (Builtin.append_ #[23, 23] ty #[.slice (some ⟨b, base, none⟩) i cap, .slice (some ⟨vb, vo, none⟩) 1 c2]).run Tryz.prog w = .ok (.slice (some ⟨b, base, none⟩) (i + 1) cap) (w.setRow b (arr.toList.take (base + i * 10) ++ vs ++ arr.toList.drop (base + i * 10 + vs.length)).toArray) := fun ty =>
          run_app_fit (P := Tryz.prog) (ty := ty) (ob := some ⟨b, base, none⟩) und35 und35 hs78 vs _ (hvfc w rfl) hfit (fun ad e => by cases e; rw [Addr.add_lit]; exact hst) (fun e => by cases e)
        refine (ins_end _ i cap vb vo c2 w _ _ (by omega) hn2 (fun e => by cases e) hrun).mono ?_
        rintro e w' ⟨rfl, rfl⟩
        have hget : ∀ q, (arr.toList.take (base + i * 10) ++ vs ++ arr.toList.drop (base + i * 10 + vs.length)).toArray[q]? = if q < base + i * 10 then arr[q]? else if q < base + i * 10 + vs.length then vs[q - (base + i * 10)]? else arr[q]? := fun q => by
          rw [splice_get _ _ _ _ (by have : arr.toList.length = arr.size := Array.length_toList; omega)]; simp
        have hsize : (arr.toList.take (base + i * 10) ++ vs ++ arr.toList.drop (base + i * 10 + vs.length)).toArray.size = arr.size := by simp; omega
        generalize (arr.toList.take (base + i * 10) ++ vs ++ arr.toList.drop (base + i * 10 + vs.length)).toArray = arr' at hget hsize
        refine post_move (c' := .at b base hi' 10) hI (FrameOk.setRow hbl hsize fun q hq => ?_) (fun b' o' h => .inl h) (hflat.box (setRow_heap w b arr arr' el _ hbl) (fun k v hk => ?_) (by rw [hflat.len.symm.trans (by simp; omega : _ = (i + 1) * 10)]; omega) (by omega)) ?_
        · rw [hget]
          have hout : ¬ (base ≤ q ∧ q < hi') := fun hh => hq ⟨rfl, hh.1, hh.2⟩
          by_cases h5 : q < base + i * 10
          · rw [if_pos h5]
          · rw [if_neg h5, if_neg (by omega)]
        · rw [hget]
          rcases ins_get hcl hvl (Nat.le_refl _) hk with ⟨h1, h2⟩ | ⟨h1, h2, h3⟩ | ⟨h1, h2, h3⟩
          · rw [if_pos (by omega)]; exact hcar k v h2
          · rw [if_neg (by omega), if_pos (by omega), ← h3]; congr 1; omega
          · omega
        · have := @Rep.bs K ([.at b base hi' 10] ++ [.at b base hi' 10]) 1 0 (i + 1) b base hi' 10 cap rfl (by omega) hfit
          simpa using this
      · refine endGrow (some ⟨b, base, none⟩) cap cs hin (by omega) (by omega) (fun e => by cases e) hfe (fun w' hw => ?_)
        refine run_firstCells_some w' 10 n ⟨b, base, none⟩ n cap cs (by omega) (fun j u hu => ?_)
        rw [Addr.add_lit]
        have := hcs j u hu
        simp only [World.cell?, hw] at this ⊢; exact this
    · have hil : i < n := by omega
      by_cases hfit : n + 1 ≤ cap
      · have hlb : arr.toList.length = arr.size := Array.length_toList
        have hsh : w.shape? b = some (el, arr.size) := by simp [World.shape?, hbl]
        refine (ins_shift b base n cap i vb vo c2 cs vs w hil hfit hn2 (fun j k hj hk e hne => ?_) hcl hvl hcs (fun j hj => ?_) (fun j _ => hfz _) hvs h1c h1v tA el kA arr.size hsa hsh (by omega) hkA hfz).mono ?_
        · have hk1 := hvK j _ (List.getElem?_eq_getElem (by omega))
          rw [e, hne, hnk _ (by omega) (by omega)] at hk1
          cases hk1
        · simp only [World.cell?, hbl]
          rw [Array.getElem?_eq_getElem (by omega)]; rfl
        rintro e w' ⟨rfl, rfl⟩
        have hdl : (cs.drop (i * 10)).length = (n - i) * 10 := by rw [List.length_drop, hcl]; omega
        have hbl2 : w.drew.heap[b]? = some (.cells arr el (0, 0)) := hbl
        rw [setCells_row w.drew b _ arr el _ hbl2 (by omega) (fun v hv' => h1c v (List.mem_of_mem_drop hv'))]
        have hget1 := fun q => splice_get arr.toList (cs.drop (i * 10)) (base + (i + 1) * 10) q (by omega)
        have hsz1 : (arr.toList.take (base + (i + 1) * 10) ++ cs.drop (i * 10) ++ arr.toList.drop (base + (i + 1) * 10 + (cs.drop (i * 10)).length)).toArray.size = arr.size := by
          simp only [List.size_toArray, List.length_append, List.length_take, List.length_drop, hlb]; omega
        generalize (arr.toList.take (base + (i + 1) * 10) ++ cs.drop (i * 10) ++ arr.toList.drop (base + (i + 1) * 10 + (cs.drop (i * 10)).length)).toArray = arr1 at hget1 hsz1 ⊢
        have hb1 := setRow_heap w.drew b arr arr1 el (0, 0) hbl2
        have hlb1 : arr1.toList.length = arr1.size := Array.length_toList
        rw [setCells_row _ b _ arr1 el _ hb1 (by omega) h1v]
        have hget2 := fun q => splice_get arr1.toList vs (base + i * 10) q (by omega)
        have hsz2 : (arr1.toList.take (base + i * 10) ++ vs ++ arr1.toList.drop (base + i * 10 + vs.length)).toArray.size = arr1.size := by
          simp only [List.size_toArray, List.length_append, List.length_take, List.length_drop, hlb1]; omega
        generalize (arr1.toList.take (base + i * 10) ++ vs ++ arr1.toList.drop (base + i * 10 + vs.length)).toArray = arr2 at hget2 hsz2 ⊢
        have hb2 := setRow_heap _ b arr1 arr2 el (0, 0) hb1
        simp only [Array.getElem?_toList] at hget1 hget2
        refine post_move (c' := .at b base hi' 10) hI (FrameOk.trans (FrameOk.drew _ w) (FrameOk.trans (FrameOk.setRow hbl2 hsz1 fun q hq => ?_) (FrameOk.setRow (S := (CB.at b base hi' 10).owns) hb1 hsz2 fun q hq => ?_) (fun _ _ _ h => h)) (fun _ _ _ h => h)) (fun b' o' h => .inl h) (hflat.box hb2 (fun k v hk => ?_) ?_ (by omega)) ?_
        · rw [hget1]
          have hout : ¬ (base ≤ q ∧ q < hi') := fun hh => hq ⟨rfl, hh.1, hh.2⟩
          by_cases h5 : q < base + (i + 1) * 10
          · rw [if_pos h5]
          · rw [if_neg h5, if_neg (by omega)]
        · rw [hget2]
          have hout : ¬ (base ≤ q ∧ q < hi') := fun hh => hq ⟨rfl, hh.1, hh.2⟩
          by_cases h5 : q < base + i * 10
          · rw [if_pos h5]
          · rw [if_neg h5, if_neg (by omega)]
        · rw [hget2]
          rcases ins_get hcl hvl hi hk with ⟨h1, h2⟩ | ⟨h1, h2, h3⟩ | ⟨h1, h2, h3⟩
          · rw [if_pos (by omega), hget1, if_pos (by omega)]; exact hcar k v h2
          · rw [if_neg (by omega), if_pos (by omega), ← h3]; congr 1; omega
          · rw [if_neg (by omega), if_neg (by omega), hget1, if_neg (by omega), if_pos (by omega), List.getElem?_drop, ← h3]; congr 1; omega
        · have := hflat.len
          simp only [List.length_append, List.length_take, List.length_drop, List.length_singleton]
          omega
        · have := @Rep.bs K ([.at b base hi' 10] ++ [.at b base hi' 10]) 1 0 (n + 1) b base hi' 10 cap rfl (by omega) hfit
          simpa using this
      · refine (ins_grow b base n cap i vb vo c2 cs vs w hil (by omega) (by omega) (by omega) hcl hvl hcs hvs h1c h1v).mono ?_
        rintro e w' ⟨G, tl, hG, rfl, htl, rfl⟩
        have hdl : (cs.drop (i * 10)).length = (n - i) * 10 := by rw [List.length_drop, hcl]; omega
        have hTl : (cs.take (i * 10)).length = i * 10 := by rw [List.length_take]; omega
        generalize hA : (cs.take (i * 10) ++ tl).toArray = A
        have hAs : A.size = G * 10 := by rw [← hA, List.size_toArray, List.length_append, hTl, htl]; omega
        have hlA : A.toList.length = A.size := Array.length_toList
        have hb0 : (w.alloc (.cells A 100)).drew.heap[w.heap.size]? = some (.cells A 100 (0, 0)) := alloc_get w _
        rw [setCells_row _ _ _ A 100 _ hb0 (by omega) h1v]
        have hget1 := fun q => splice_get A.toList vs (i * 10) q (by omega)
        have hsz1 : (A.toList.take (i * 10) ++ vs ++ A.toList.drop (i * 10 + vs.length)).toArray.size = A.size := by
          simp only [List.size_toArray, List.length_append, List.length_take, List.length_drop, hlA]; omega
        generalize (A.toList.take (i * 10) ++ vs ++ A.toList.drop (i * 10 + vs.length)).toArray = arr1 at hget1 hsz1 ⊢
        have hb1 := setRow_heap _ w.heap.size A arr1 100 (0, 0) hb0
        have hlb1 : arr1.toList.length = arr1.size := Array.length_toList
        have hb1' : ((w.alloc (.cells A 100)).drew.setRow w.heap.size arr1).drew.heap[w.heap.size]? = some (.cells arr1 100 (0, 0)) := hb1
        rw [setCells_row _ _ _ arr1 100 _ hb1' (by omega) (fun v hv' => h1c v (List.mem_of_mem_drop hv'))]
        have hget2 := fun q => splice_get arr1.toList (cs.drop (i * 10)) ((i + 1) * 10) q (by omega)
        have hsz2 : (arr1.toList.take ((i + 1) * 10) ++ cs.drop (i * 10) ++ arr1.toList.drop ((i + 1) * 10 + (cs.drop (i * 10)).length)).toArray.size = arr1.size := by
          simp only [List.size_toArray, List.length_append, List.length_take, List.length_drop, hlb1]; omega
        generalize (arr1.toList.take ((i + 1) * 10) ++ cs.drop (i * 10) ++ arr1.toList.drop ((i + 1) * 10 + (cs.drop (i * 10)).length)).toArray = arr2 at hget2 hsz2 ⊢
        have hb2 := setRow_heap _ w.heap.size arr1 arr2 100 (0, 0) hb1'
        simp only [Array.getElem?_toList] at hget1 hget2
        have hfr : FrameOk (CB.at b base hi' 10).owns w (((w.alloc (.cells A 100)).drew.setRow w.heap.size arr1).drew.setRow w.heap.size arr2) := by
          have f1 : FrameOk (fun p _ => p = w.heap.size) w (((w.alloc (.cells A 100)).drew.setRow w.heap.size arr1).drew.setRow w.heap.size arr2) :=
            FrameOk.trans (FrameOk.alloc (S := fun p _ => p = w.heap.size) w _) (FrameOk.trans (FrameOk.drew _ _) (FrameOk.trans (FrameOk.setRow hb0 hsz1 fun q hq => absurd rfl hq) (FrameOk.trans (FrameOk.drew _ _) (FrameOk.setRow hb1' hsz2 fun q hq => absurd rfl hq) (fun _ _ _ h => h)) (fun _ _ _ h => h)) (fun _ _ _ h => h)) (fun _ _ _ h => h)
          exact f1.mono fun p o hp h => by omega
        refine post_move (c' := .at w.heap.size 0 (G * 10) 10) hI hfr (fun b' o' h => .inr (by rw [h.1]; exact Nat.le_refl _)) (hflat.box hb2 (fun k v hk => ?_) ?_ (by omega)) ?_
        · rw [Nat.zero_add, hget2]
          rcases ins_get hcl hvl hi hk with ⟨h1, h2⟩ | ⟨h1, h2, h3⟩ | ⟨h1, h2, h3⟩
          · rw [if_pos (by omega), hget1, if_pos (by omega), ← hA, List.getElem?_toArray, List.getElem?_append_left (by omega), List.getElem?_take, if_pos h1]; exact h2
          · rw [if_pos (by omega), hget1, if_neg (by omega), if_pos (by omega)]; exact h3
          · rw [if_neg (by omega), if_pos (by omega), List.getElem?_drop, ← h3]; congr 1; omega
        · simp only [List.length_append, List.length_take, List.length_drop, List.length_singleton]
          omega
        · have := @Rep.bs K ([.at b base hi' 10] ++ [.at w.heap.size 0 (G * 10) 10]) 1 0 (n + 1) w.heap.size 0 (G * 10) 10 G rfl (by omega) (by omega)
          simpa using this
end
end Go.Proofs.YthfchdkjeddijaaGreatDoor

/- slices.Delete at the slots: elements of more than one cell. -/
namespace Go.Proofs.YthfchdkjeddijaaGreatDoor
open Go.Em Go.RowKit Go.Lib

theorem run_clear_k {P : Program} (w : World) (t e ty : TypeId) (z : Value) (ht : P.underlying t = some (.slice e)) (hv : ∀ w, (zeroValue e).run P w = .ok z w) (b o n c : Nat) (hn : 0 < n)
    (h1 : ∀ v ∈ (Builtin.zeroCells z.cells n).toList, v.oneCell' = true)
    (hc : ∀ j, j < (Builtin.zeroCells z.cells n).toList.length → (w.cell? ⟨b, o + j, none⟩).isSome = true) (hf : ∀ j, j < (Builtin.zeroCells z.cells n).toList.length → w.frozen? ⟨b, o + j, none⟩ = false) :
    (Builtin.clear_ #[t] ty #[.slice (some ⟨b, o, none⟩) n c]).run P w = .ok (.tuple #[]) (w.setCells b o (Builtin.zeroCells z.cells n).toList) := by
  have hst := run_storeCells_cells (P := P) b o (Builtin.zeroCells z.cells n).toList 0 w (by simpa using hc) (by simpa using hf) h1
  simp only [Nat.add_zero] at hst
  obtain ⟨m, rfl⟩ : ∃ m, n = m + 1 := ⟨n - 1, by omega⟩
  generalize hz : (Builtin.zeroCells z.cells (m + 1)).toList = zs at hst ⊢
  simp [Builtin.clear_, run_underlying ht, hv, hz, hst]

def zslot : Value := .agg #[.int .i64 0, .int .i64 0, .int .i64 0, .string ⟨#[]⟩, .slice none 0 0, .slice none 0 0, .int .i64 0, .int .i64 0, .slice none 0 0, .slice none 0 0]
theorem zcells_len (n : Nat) : (Builtin.zeroCells zslot.cells n).toList.length = n * 10 := by
  unfold Builtin.zeroCells
  rw [Array.length_toList, Array.size_map, Array.size_range]
  rfl
theorem zcells_one (n : Nat) : ∀ v ∈ (Builtin.zeroCells zslot.cells n).toList, v.oneCell' = true := by
  intro v hv
  unfold Builtin.zeroCells at hv
  simp only [Array.toList_map, List.mem_map] at hv
  obtain ⟨i, _, rfl⟩ := hv
  have hs : zslot.cells.size = 10 := rfl
  have hi : i % zslot.cells.size < 10 := by rw [hs]; exact Nat.mod_lt _ (by omega)
  generalize i % zslot.cells.size = q at hi
  have hall : ((List.range 10).all fun q => (zslot.cells[q]!).oneCell') = true := by kernel_rfl
  exact List.all_eq_true.1 hall q (List.mem_range.2 hi)

set_option maxHeartbeats 4000000 in
set_option maxRecDepth 1000000 in
theorem del_walk (b off n c i j : Nat) (cs : List Value) (w : World) (hij : i < j) (hj : j ≤ n) (hnc : n ≤ c) (hcl : cs.length = n * 10)
    (hcs : ∀ j v, cs[j]? = some v → w.cell? ⟨b, off + j, none⟩ = some v) (hfz : ∀ o, w.frozen? ⟨b, o, none⟩ = false) (h1c : ∀ v ∈ cs, v.oneCell' = true) :
    Calls Tryz.prog 101 #[.slice (some ⟨b, off, none⟩) n c, .int .i64 i, .int .i64 j] w fun e w' => e = .returned (.slice (some ⟨b, off, none⟩) (n - (j - i)) c) ∧ w' = (w.drew.setCells b (off + i * 10) (cs.drop (j * 10))).setCells b (off + (i + (n - j)) * 10) (Builtin.zeroCells zslot.cells (n - (i + (n - j)))).toList := by
  have mixed : Tryz.prog.follows .mixedOrders = true := by kernel_rfl
  obtain ⟨i0, hi0, hz0⟩ : ∃ i0, Tryz.prog.info? 100 = some i0 ∧ i0.size = 10 := Option.map_eq_some_iff.1 info78
  obtain ⟨news, hnews⟩ : ∃ news, news = cs.drop (j * 10) := ⟨_, rfl⟩
  have hlen : news.length = (n - j) * 10 := by rw [hnews, List.length_drop, hcl]; omega
  have hget : ∀ (t : Nat) (u : Value), news[t]? = some u → w.cell? ⟨b, off + j * 10 + t, none⟩ = some u := fun t u h => by
    rw [hnews, List.getElem?_drop] at h
    rw [Nat.add_assoc]; exact hcs _ _ h
  obtain ⟨A, hA, hsrc⟩ : ∃ A : Addr, (if c = j then some (⟨b, off, none⟩ : Addr) else some ⟨b, off + j * 10, none⟩) = some A ∧ Hid (∀ t u, news[t]? = some u → w.drew.cell? (A.add t) = some u) := by
    by_cases h : c = j
    · refine ⟨⟨b, off, none⟩, by simp [h], fun t u hu => ?_⟩
      have h0 : news.length = 0 := by rw [hlen]; omega
      rw [List.length_eq_zero_iff.1 h0] at hu
      simp at hu
    · refine ⟨⟨b, off + j * 10, none⟩, by simp [h], fun t u hu => ?_⟩
      rw [Addr.add_lit]
      exact hget t u hu
  have s1 : Hid (news.length = (n - j) * 10) := hlen
  have s2 : Hid (∀ u ∈ news, u.oneCell' = true) := fun u hu => h1c u (by rw [hnews] at hu; exact List.mem_of_mem_drop hu)
  have hsome : ∀ t, t < n * 10 → (w.cell? ⟨b, off + t, none⟩).isSome = true := fun t ht => by rw [hcs t _ (List.getElem?_eq_getElem (by omega))]; rfl
  have s3 : Hid (∀ t, t < news.length → (w.drew.cell? ⟨b, off + i * 10 + t, none⟩).isSome = true ∧ w.drew.frozen? ⟨b, off + i * 10 + t, none⟩ = false) := fun t ht => by
    rw [hlen] at ht
    rw [Nat.add_assoc]
    exact ⟨hsome _ (by omega), hfz _⟩
  obtain ⟨W1, hW1⟩ : ∃ W1, W1 = w.drew.setCells b (off + i * 10) news := ⟨_, rfl⟩
  have hsp1 : ∀ k, k < n * 10 → (W1.cell? ⟨b, off + k, none⟩).isSome = true := fun k hk => by
    rw [hW1]
    exact isSome_setCells b _ _ _ (fun t ht => by rw [hlen] at ht; rw [Nat.add_assoc]; exact hsome _ (by omega)) _ (hsome k hk)
  have hf1 : ∀ o, W1.frozen? ⟨b, o, none⟩ = false := fun o => by rw [hW1, World.frozen?_setCells]; exact hfz o
  have hclr : ∀ ty, (Builtin.clear_ #[23] ty #[.slice (some ⟨b, off + (i + (n - j)) * 10, none⟩) (n - (i + (n - j))) (c - (i + (n - j)))]).run Tryz.prog W1 = .ok (.tuple #[]) (W1.setCells b (off + (i + (n - j)) * 10) (Builtin.zeroCells zslot.cells (n - (i + (n - j)))).toList) := fun ty =>
    run_clear_k W1 23 100 ty zslot und35 Tryz.zeroValue100 b _ _ _ (by omega) (zcells_one _) (fun t ht => by rw [zcells_len] at ht; rw [Nat.add_assoc]; exact hsp1 _ (by omega)) (fun t _ => hf1 _)
  obtain ⟨zs, hzs⟩ : ∃ zs, zs = (Builtin.zeroCells zslot.cells (n - (i + (n - j)))).toList := ⟨_, rfl⟩
  simp only [← hzs] at hclr ⊢
  have hW : Hid (W1 = w.drew.setCells b (off + i * 10) news) := hW1
  have hic : i ≤ c := by omega
  have hjc : j ≤ c := by omega
  have hinn : i ≤ n := by omega
  rw [← hnews]
  clear hzs hsp1 hf1 hsome hW1 hget hnews hlen hcs hfz h1c
  go_enter Tryz.func101, Tryz.ntmps101
  go_wp2_with fail
  go_region_law_o (refine step_append_room rfl (.tmp 22) (.tmp 25) 23 rfl 100 i0 10 und35 hi0 hz0 b off i c (by simp [Act.eval, Act.put]) A (n - j) (c - j) news (by simp [Act.eval, Act.put]) s1.out hsrc.out s2.out (by omega) s3.out ?_; rw [← hW.out])
  go_wp2
  go_ret
  exact ⟨by rw [show n - (j - i) = i + (n - j) by omega]; rfl, by rw [hW.out]⟩
end Go.Proofs.YthfchdkjeddijaaGreatDoor
