/- ThrottleChecks: the row, and its tied card. Conditions: none. -/
import Derived.Test.YtjfheahakfoofaaGreatDoorCards
import Derived.Test.YtjfheahakfoofaaGreatDoorTie
import Derived.OpenShut
import Derived.SevenTiedAt
import Derived.Stop.Joined
import Derived.Test.YtjfheahakfoofaaGreatDoorChecks19
namespace Go.Proofs.YtjfheahakfoofaaGreatDoor
open Go.ChangeShapes Go.WideShapes Go.ChangeAt Go.RowKit Go.Em

/-- What is shared by the laws of a node, a state and an input. -/
theorem params4 : Tryz.f4.params.toList = [34, 37, 47] := by kernel_rfl
theorem par_tys {t : TypeId} (h : t ∈ [34, 37, 47]) : t ∈ tys := by
  rcases List.mem_cons.1 h with rfl | h
  · decide
  · rcases List.mem_cons.1 h with rfl | h
    · decide
    · rcases List.mem_cons.1 h with rfl | h
      · decide
      · cases h

def zI : Value := .int .i64 0
def zT : Value := .string ⟨#[]⟩
def zS : Value := .slice none 0 0
/-- A node, a state, an input: all zero. -/
def zeroArgs : Array Value := #[.agg #[zT, zI, zI, zI, zI, zI, zI, zT, zI, zI, zI, zI, zS, zS, zS, zS, zS, zS, zS, zS], .agg #[zI, zI, zS], .agg #[zI, zI, zI, zS, zI, zS, zI, zS, zI, zI, zI, zT, zS, zS, zI, .bool false, .bool false, zI, zI, zI, zT, zS, zS]]

set_option maxRecDepth 100000 in
theorem checks_lifted (os : Os) (started : os.Started) (H : Type) (enc : TypeId × Value → H) :
    ReturnsInHanded {} Tryz.checked os 4 .any (fun w args => (Rows.throttleChecksSpec.pre enc Tryz.prog Tryz.f4 Rows.throttleChecksRow.domain false w args ∧ laidMetH Tryz.prog laidZ w) ∧ sizedMet enc Tryz.prog Tryz.f4 (OpenSpec.ofChange Rows.throttleChecksSpec) false w args)
      (Rows.throttleChecksSpec.post enc Tryz.prog Tryz.f4 false true false false) := by
  refine returnsInHanded_of_change_and (C := Tryz.checked) (X := fun w _ => laidMetH Tryz.prog laidZ w) (fun _ _ _ hh h => h.of_heap hh) Tryz.own started (by kernel_rfl) Tryz.func4
    (ChangeSpec.witness_shaped (enc := enc) (C := Tryz.checked) (os := os) (X := fun w _ => laidMetH Tryz.prog laidZ w) false (World.laidAll Tryz.prog os laidZ) zeroArgs 12 (World.laidAll_os _ _ _)
      (World.shaped_of_ZipB (by kernel_rfl) (by kernel_rfl)) (by kernel_rfl) (by kernel_rfl) (by kernel_rfl)
      (by rw [MakeChecks.laidMetH_plain _ _ _ (by kernel_rfl)]; exact laidMet_laidAll _ (by kernel_rfl) (by kernel_rfl))) ?_
  intro W base args ds gs before hval hW _ _ hL _
  refine lifted_true (P := Tryz.prog) (Γ := callF tab ext) machine tys_kids (kids_some tys_ok) (kids_full tys_ok) (fun t ht => ?_) (tb := 4) rfl under4 rfl (fun ds hds => ?_) (fun xss hlen hsh => ?_) W (globOk hL) base args ds gs before hval hW
  · rw [params4] at ht
    exact ⟨par_tys ht, tys_lt (par_tys ht)⟩
  · match ds, hds with
    | [_, _, _], _ => rfl
  · match xss, hlen with
    | [x0, x1, x2], _ =>
      obtain ⟨_, h0⟩ := hsh 0 34 x0 rfl rfl
      obtain ⟨_, h1⟩ := hsh 1 37 x1 rfl rfl
      obtain ⟨_, h2⟩ := hsh 2 47 x2 rfl rfl
      have hn := shape_node h0
      obtain ⟨s, rfl⟩ := shape_stt h1
      obtain ⟨i, rfl⟩ := shape_inp h2
      refine ⟨190301, [], ?_⟩
      have : argsX Tryz.prog Tryz.f4.params.toList [x0, s.cells, i.cells] = [.agg x0, .agg s.cells, .agg i.cells] := by
        kernel_rfl
      rw [this]
      exact checks_all x0 hn s i

set_option maxRecDepth 100000 in
theorem checks_holds : Rows.ThrottleChecksSaid :=
  OpenClaim.holds_of_wide 4 Tryz.f4 rfl rfl rfl rfl rfl rfl rfl ⟨rfl, rfl, rfl, rfl, rfl⟩ rfl rfl rfl rfl rfl (by kernel_rfl) Tryz.func4 (by kernel_rfl)
    (of_decide_eq_true (by kernel_rfl)) (by unfold Func.isWrapper; rw [if_neg (by decide +kernel)]; exact ⟨rfl, rfl⟩)
    (fun os started H enc _ => checks_lifted os started H enc)

set_option maxRecDepth 100000 in
theorem checks_card : Rows.ThrottleChecksCardSaid :=
  Claim7.holds_tied_plain_at .later [] [.data, .pinned] true (true, "41cdcd5c1172deba67aaaa3121a75d34f1b2302811ab82c96255bd1fc68ea628") false checks_holds (fun _ h => by cases h) (by kernel_rfl) (fun _ h => by cases h) throttleChecks_row_tie rfl ⟨rfl, rfl⟩ (by kernel_rfl) rfl
    (fun f fn hf hfn => by
      obtain rfl : f = 4 := Option.some.inj ((show Tryz.prog.funcNamed "manifold/manifoldlaw36.ThrottleChecks" = some 4 by kernel_rfl).symm.trans hf) |>.symm
      obtain rfl : fn = Tryz.f4 := (Option.some.inj (Tryz.func4.symm.trans hfn)).symm
      exact ⟨by kernel_rfl, fun j t ht => by
        have hp : Tryz.f4.params = #[34, 37, 47] := by kernel_rfl
        rw [hp] at ht
        have hm : t ∈ [34, 37, 47] := by simpa using Array.mem_of_getElem? ht
        have hall : ([34, 37, 47].all fun u => !Tryz.prog.wantsStandIn u) = true := by kernel_rfl
        exact (show Tryz.prog.wantsStandIn t = false by simpa using List.all_eq_true.1 hall t hm)⟩)
    (by kernel_rfl)
end Go.Proofs.YtjfheahakfoofaaGreatDoor
