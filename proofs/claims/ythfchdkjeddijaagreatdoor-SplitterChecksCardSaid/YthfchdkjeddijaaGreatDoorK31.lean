/- The example of layer 32 holds. -/
import Derived.Test.YthfchdkjeddijaaGreatDoorK10
import Derived.Test.YthfchdkjeddijaaGreatDoorK15
import Derived.Test.YthfchdkjeddijaaGreatDoorK20
namespace Go.Proofs.YthfchdkjeddijaaGreatDoor
open Go.Em
set_option maxRecDepth 100000
theorem known32_at (N : Nat) : Gam.pureD (callF tab ext (N + 400)) 28 [] = some (boolX true) := by kernel_rfl
end Go.Proofs.YthfchdkjeddijaaGreatDoor

/- SplitterChecks comes to true. -/
namespace Go.Proofs.YthfchdkjeddijaaGreatDoor
open Go.Em
set_option maxRecDepth 100000

theorem eqL_nil {r : Slt → Slt → Bool} (ss : List Slt) : eqL r ss [] = (Int.ofNat (sltsC ss).length == 0) := by
  cases ss with
  | nil => rfl
  | cons x l =>
    have : Int.ofNat (sltsC (x :: l)).length ≠ 0 := by
      rw [sltsC_length]; simp only [Int.ofNat_eq_natCast, List.length_cons]; omega
    rw [beq_eq_false_iff_ne.2 this]; rfl
theorem seq0_pure (N : Nat) (hN : 100010 ≤ N) (s : Stt) (hs : s.small) : Gam.pureD (callF tab ext N) 61 [.agg s.cells, .agg [num 0, num 0, .sl false 10 []]] = some (boolX (zeroS s)) := by
  obtain ⟨M, rfl⟩ : ∃ M, N = M + 2 := ⟨N - 2, by omega⟩
  have hl := hs.slots
  have hq := eq60_pure M 120 s.slots [] (fun _ _ => true) (fun a b _ hb => by cases hb) (by omega) (by omega)
  rw [eqL_nil] at hq
  obtain ⟨a, b, ss⟩ := s
  unfold zeroS
  dsimp only at hq ⊢
  generalize (Int.ofNat (sltsC ss).length == 0) = z at hq ⊢
  cases h1 : (a == 0) with
  | false => exact pure_of [(9, .b false)] [] (pf1 h1) (x := boolX false) (bx := []) (by kernel_rfl) rfl
  | true =>
    cases h2 : (b == 0) with
    | false => exact pure_of [(9, .b true), (15, .b false)] [] (pf2 h1 h2) (x := boolX false) (bx := []) (by kernel_rfl) rfl
    | true => exact pure_of [(9, .b true), (15, .b true), (22, .p (boolX z))] [] (pf3 h1 h2 hq) (x := boolX z) (bx := []) (by kernel_rfl) rfl
def scheckF (k : Int) (s : Stt) : Int := if !(k == 3) then 11 else if !(zeroS s) then 10 else 0
theorem scheck_pure (N : Nat) (hN : 100020 ≤ N) (n : Nod) (s : Stt) (hs : s.small) : Gam.pureD (callF tab ext N) 31 [.agg n.cells, .agg s.cells] = some (num (scheckF n.kind s)) := by
  obtain ⟨M, rfl⟩ : ∃ M, N = M + 1 := ⟨N - 1, by omega⟩
  have hq := seq0_pure M (by omega) s hs
  unfold scheckF
  generalize zeroS s = z at hq ⊢
  cases h1 : (!(n.kind == 3)) with
  | true => exact pure_of [(8, .b true)] [] (pf1 h1) (x := num 11) (bx := []) (by kernel_rfl) rfl
  | false =>
    cases z with
    | true => exact pure_of [(8, .b false), (12, .p (boolX true))] [] (pf2 h1 hq) (x := num 0) (bx := []) (by kernel_rfl) rfl
    | false => exact pure_of [(8, .b false), (12, .p (boolX false))] [] (pf2 h1 hq) (x := num 10) (bx := []) (by kernel_rfl) rfl
theorem schecks_all (cn : List X) (hcn : isNode cn) (s : Stt) : callF tab ext 190301 (.fn 9) [.agg cn, .agg s.cells] [] = some (.v (.bool true), []) := by
  obtain ⟨nd, nd', rfl, hn⟩ := node_of hcn
  have h1 := hn 190300 (by omega)
  have h2 := short_state s 190300 (by omega)
  have hsm := shortS_small s
  generalize shortS s = s' at h2 hsm
  have h3 := known32_at 189900
  have h4 := scheck_pure 190300 (by omega) nd' s' hsm
  unfold scheckF zeroS at h4
  cases k1 : (!(nd'.kind == 3)) with
  | true =>
    rw [k1] at h4
    exact callF_of [(7, .p (.agg nd'.cells)), (9, .p (.agg s'.cells)), (13, .b true), (29, .p (boolX true)), (33, .p (num 11))] [] (pf5 h1 h2 k1 h3 h4) (by kernel_rfl)
  | false =>
    rw [k1] at h4
    obtain ⟨a, b, ss⟩ := s'
    dsimp only at h4
    cases g1 : (a == 0) with
    | false =>
      rw [g1] at h4
      have g1' : (!(a == 0)) = true := by rw [g1]; rfl
      exact callF_of [(7, .p (.agg nd'.cells)), (9, .p (.agg (Stt.mk a b ss).cells)), (13, .b false), (17, .b true), (29, .p (boolX true)), (33, .p (num 10))] [] (pf6 h1 h2 k1 g1' h3 h4) (by kernel_rfl)
    | true =>
      rw [g1] at h4
      have g1' : (!(a == 0)) = false := by rw [g1]; rfl
      cases g2 : (b == 0) with
      | false =>
        rw [g2] at h4
        have g2' : (!(b == 0)) = true := by rw [g2]; rfl
        exact callF_of [(7, .p (.agg nd'.cells)), (9, .p (.agg (Stt.mk a b ss).cells)), (13, .b false), (17, .b false), (21, .b true), (29, .p (boolX true)), (33, .p (num 10))] [] (pf7 h1 h2 k1 g1' g2' h3 h4) (by kernel_rfl)
      | true =>
        rw [g2] at h4
        have g2' : (!(b == 0)) = false := by rw [g2]; rfl
        cases g3 : (Int.ofNat (sltsC ss).length == 0) with
        | true =>
          rw [g3] at h4
          have g3' : decide (Int.ofNat (sltsC ss).length > 0) = false := by
            have := eq_of_beq g3; rw [this]; rfl
          exact callF_of [(7, .p (.agg nd'.cells)), (9, .p (.agg (Stt.mk a b ss).cells)), (13, .b false), (17, .b false), (21, .b false), (27, .b false), (29, .p (boolX true)), (33, .p (num 0))] [] (pf8 h1 h2 k1 g1' g2' g3' h3 h4) (by kernel_rfl)
        | false =>
          rw [g3] at h4
          have g3' : decide (Int.ofNat (sltsC ss).length > 0) = true := by
            have := ne_of_beq_false g3
            simp only [Int.ofNat_eq_natCast] at this ⊢
            exact decide_eq_true (by omega)
          exact callF_of [(7, .p (.agg nd'.cells)), (9, .p (.agg (Stt.mk a b ss).cells)), (13, .b false), (17, .b false), (21, .b false), (27, .b true), (29, .p (boolX true)), (33, .p (num 10))] [] (pf8 h1 h2 k1 g1' g2' g3' h3 h4) (by kernel_rfl)
end Go.Proofs.YthfchdkjeddijaaGreatDoor
