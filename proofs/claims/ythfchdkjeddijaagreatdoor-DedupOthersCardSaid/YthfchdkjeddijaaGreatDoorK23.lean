/- DedupOthers comes to true. -/
import Derived.Test.YthfchdkjeddijaaGreatDoorK10
import Derived.Test.YthfchdkjeddijaaGreatDoorK11
import Derived.Test.YthfchdkjeddijaaGreatDoorK14
import Derived.Test.YthfchdkjeddijaaGreatDoorK15
import Derived.Test.YthfchdkjeddijaaGreatDoorK17
namespace Go.Proofs.YthfchdkjeddijaaGreatDoor
open Go.Em
set_option maxRecDepth 100000

theorem unique_pure (nd nd' : Nod) (hn : ∀ N, 220 ≤ N → Gam.pureD (callF tab ext N) 18 [.agg nd.cells] = some (.agg nd'.cells)) (s : Stt) (i : Inp) (N : Nat) (hN : 230 ≤ N) :
    Gam.pureD (callF tab ext N) 22 [.agg nd.cells, .agg s.cells, .agg i.cells] = some (.tup [.agg ({ nd' with kind := 6 } : Nod).cells, .agg (shortS s).cells, .agg (shortN i).cells]) := by
  obtain ⟨M, rfl⟩ : ∃ M, N = M + 1 := ⟨N - 1, by omega⟩
  have h1 := hn M (by omega)
  have h2 := short_state s M (by omega)
  have h3 := short_inp i M (by omega)
  generalize shortS s = s' at h2 ⊢
  generalize shortN i = i' at h3 ⊢
  obtain ⟨kd, tm, ⟨se, sp⟩, ⟨⟨e, p⟩, ms, o, ⟨a1, a2, a3, a4, a5, a6⟩⟩, x, b1, b2, ⟨c1, c2, c3, c4, c5, c6⟩⟩ := i
  obtain ⟨kd', tm', ⟨se', sp'⟩, ⟨⟨e', p'⟩, ms', o', ⟨g1, g2, g3, g4, g5, g6⟩⟩, x', d1, d2, ⟨f1, f2, f3, f4, f5, f6⟩⟩ := i'
  generalize hi' : Inp.cells _ = ci' at h3 ⊢
  subst hi'
  exact pure_of [(10, .p (.agg nd'.cells)), (12, .p (.agg s'.cells)), (14, .p (.agg (Inp.mk kd' tm' ⟨se', sp'⟩ ⟨⟨e', p'⟩, ms', o', ⟨g1, g2, g3, g4, g5, g6⟩⟩ x' d1 d2 ⟨f1, f2, f3, f4, f5, f6⟩).cells))] [] (pf3 h1 h2 h3)
    (x := .tup [.agg ({ nd' with kind := 6 } : Nod).cells, .agg s'.cells, .agg (Inp.mk kd' tm' ⟨se', sp'⟩ ⟨⟨e', p'⟩, ms', o', ⟨g1, g2, g3, g4, g5, g6⟩⟩ x' d1 d2 ⟨f1, f2, f3, f4, f5, f6⟩).cells]) (bx := []) (by kernel_rfl) rfl

def ocmS (s : Stt) : Ocm := ⟨s, [], [], []⟩
theorem outcome_pure (N : Nat) (hN : 190020 ≤ N) (s : Stt) (hs : s.ok) : Gam.pureD (callF tab ext N) 39 [.agg s.cells, .sl false 1 []] = some (.agg (ocmS s).cells) := by
  obtain ⟨M, rfl⟩ : ∃ M, N = M + 1 := ⟨N - 1, by omega⟩
  have h1 := clone_state_pure M s hs (by omega)
  obtain ⟨K, rfl⟩ : ∃ K, M = K + 5 := ⟨M - 5, by omega⟩
  obtain ⟨a, b, ss⟩ := s
  exact pure_of [(9, .p (.agg (Stt.mk a b ss).cells))] [] (pf1 h1) (x := .agg [num a, num b, .sl false 10 (sltsC ss), .sl true 11 [], .sl true 11 [], .sl true 6 [], .sl true 10 []]) (bx := []) (by kernel_rfl) rfl
theorem step_other (N : Nat) (hN : 190030 ≤ N) (nd : Nod) (s : Stt) (hs : s.ok) (i : Inp) (hk : (!(i.kind == 1)) = true) : Gam.pureD (callF tab ext N) 13 [.agg nd.cells, .agg s.cells, .agg i.cells] = some (.agg (ocmS s).cells) := by
  obtain ⟨M, rfl⟩ : ∃ M, N = M + 1 := ⟨N - 1, by omega⟩
  have h1 := outcome_pure M (by omega) s hs
  obtain ⟨a, b, ss⟩ := s
  obtain ⟨kd, tm, ⟨se, sp⟩, ⟨⟨e, p⟩, ms, o, ⟨a1, a2, a3, a4, a5, a6⟩⟩, x, b1, b2, ⟨c1, c2, c3, c4, c5, c6⟩⟩ := i
  exact pure_of [(16, .b true), (18, .p (.agg (ocmS ⟨a, b, ss⟩).cells))] [] (pf2 hk h1) (x := .agg (ocmS ⟨a, b, ss⟩).cells) (bx := []) (by kernel_rfl) rfl
theorem ocmS_ok {s : Stt} (h : s.ok) : (ocmS s).ok := ⟨h, by simp [ocmS], (fun x hx => by cases hx), by simp [ocmS], (fun x hx => by cases hx), by simp [ocmS], (fun x hx => by cases hx)⟩

theorem dothers_all (cn : List X) (hcn : isNode cn) (s : Stt) (i : Inp) : callF tab ext 190301 (.fn 6) [.agg cn, .agg s.cells, .agg i.cells] [] = some (.v (.bool true), []) := by
  obtain ⟨nd, nd', rfl, hn⟩ := node_of hcn
  have h1 := unique_pure nd nd' hn s i 190300 (by omega)
  have hsm := shortS_small s
  generalize shortS s = s' at h1 hsm
  generalize shortN i = i' at h1
  generalize ({ nd' with kind := 6 } : Nod) = nd2 at h1
  have h2 := known35_at 189900
  obtain ⟨c, _, hc⟩ := state_ex s' hsm
  have h3 := hc 190300 (by omega)
  have h4 := ocm_refl 190300 (ocmS s') (ocmS_ok hsm.ok) (by omega)
  have h5 := step_other 190300 (by omega) nd2 s' hsm.ok i'
  obtain ⟨kd, tm, ⟨se, sp⟩, ⟨⟨e, p⟩, ms, o, ⟨a1, a2, a3, a4, a5, a6⟩⟩, x, b1, b2, ⟨c1, c2, c3, c4, c5, c6⟩⟩ := i
  obtain ⟨kd', tm', ⟨se', sp'⟩, ⟨⟨e', p'⟩, ms', o', ⟨g1, g2, g3, g4, g5, g6⟩⟩, x', d1, d2, ⟨f1, f2, f3, f4, f5, f6⟩⟩ := i'
  dsimp only at h5
  obtain ⟨sa, sb, ss⟩ := s'
  cases k1 : (kd' == 1) with
  | true => exact callF_of [(11, .p (.tup [.agg nd2.cells, .agg (Stt.mk sa sb ss).cells, .agg (Inp.mk kd' tm' ⟨se', sp'⟩ ⟨⟨e', p'⟩, ms', o', ⟨g1, g2, g3, g4, g5, g6⟩⟩ x' d1 d2 ⟨f1, f2, f3, f4, f5, f6⟩).cells])), (15, .p (boolX true)), (20, .b true), (27, .p (boolX true))] [] (pf4 h1 h2 k1 h2) (by kernel_rfl)
  | false =>
    have h5 := h5 (by rw [k1]; rfl)
    cases k2 : (!(c == 0)) with
    | true => exact callF_of [(11, .p (.tup [.agg nd2.cells, .agg (Stt.mk sa sb ss).cells, .agg (Inp.mk kd' tm' ⟨se', sp'⟩ ⟨⟨e', p'⟩, ms', o', ⟨g1, g2, g3, g4, g5, g6⟩⟩ x' d1 d2 ⟨f1, f2, f3, f4, f5, f6⟩).cells])), (15, .p (boolX true)), (20, .b false), (24, .p (num c)), (25, .b true), (27, .p (boolX true))] [] (pf6 h1 h2 k1 h3 k2 h2) (by kernel_rfl)
    | false => exact callF_of [(11, .p (.tup [.agg nd2.cells, .agg (Stt.mk sa sb ss).cells, .agg (Inp.mk kd' tm' ⟨se', sp'⟩ ⟨⟨e', p'⟩, ms', o', ⟨g1, g2, g3, g4, g5, g6⟩⟩ x' d1 d2 ⟨f1, f2, f3, f4, f5, f6⟩).cells])), (15, .p (boolX true)), (20, .b false), (24, .p (num c)), (25, .b false), (31, .p (.agg (ocmS ⟨sa, sb, ss⟩).cells)), (34, .p (boolX true))] [] (pf7 h1 h2 k1 h3 k2 h5 h4) (by kernel_rfl)
end Go.Proofs.YthfchdkjeddijaaGreatDoor
