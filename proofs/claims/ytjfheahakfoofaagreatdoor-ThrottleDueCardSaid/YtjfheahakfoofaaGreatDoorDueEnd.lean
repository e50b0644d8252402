/- ThrottleDue: the row, and its tied card. Conditions: none. -/
import Derived.Test.YtjfheahakfoofaaGreatDoorCards
import Derived.Test.YtjfheahakfoofaaGreatDoorTie
import Derived.OpenShut
import Derived.SevenTiedAt
import Derived.Stop.Joined
import Derived.Test.YtjfheahakfoofaaGreatDoorDue16
namespace Go.Proofs.YtjfheahakfoofaaGreatDoor
open Go.ChangeShapes Go.WideShapes Go.ChangeAt Go.RowKit Go.Em

theorem shape_node9 {n : Nat} {xs : List X} (h : Shape Tryz.prog n 34 xs) : isNode9 xs := by
  refine ⟨shape_node h, ?_⟩
  obtain ⟨m, hm, x0, x1, x2, x3, x4, x5, x6, x7, T, x9, x10, x11, x12, x13, rfl, h0, h1, h2, h3, h4, _⟩ := shape_st34 h
  obtain ⟨name, rfl⟩ := shape_text h0
  obtain ⟨k1, rfl⟩ := shape_num h1
  obtain ⟨k2, rfl⟩ := shape_num h2
  obtain ⟨k3, rfl⟩ := shape_num h3
  obtain ⟨k4, rfl, hw⟩ := shape_int under3 h4
  intro z hz
  have e : k4 = z := by
    simp only [num, List.cons_append, List.nil_append, List.getElem?_cons_succ, List.getElem?_cons_zero, Option.some.injEq, X.v.injEq, Value.int.injEq, true_and] at hz
    exact hz
  subst e
  have h9 : IntKind.i64.max = 9223372036854775807 := by decide
  simp only [Lit.wf, h9, Bool.and_eq_true, decide_eq_true_eq] at hw
  omega
/-- What is shared by the laws of a node, a state and an input. -/
theorem params7 : Tryz.f7.params.toList = [34, 37, 3] := by kernel_rfl
theorem par_tys7 {t : TypeId} (h : t ∈ [34, 37, 3]) : t ∈ tys := by
  rcases List.mem_cons.1 h with rfl | h
  · decide
  · rcases List.mem_cons.1 h with rfl | h
    · decide
    · rcases List.mem_cons.1 h with rfl | h
      · decide
      · cases h

def zI7 : Value := .int .i64 0
def zT7 : Value := .string ⟨#[]⟩
def zS7 : Value := .slice none 0 0
/-- A node, a state, an input: all zero. -/
def zeroArgs7 : Array Value := #[.agg #[zT7, zI7, zI7, zI7, zI7, zI7, zI7, zT7, zI7, zI7, zI7, zI7, zS7, zS7, zS7, zS7, zS7, zS7, zS7, zS7], .agg #[zI7, zI7, zS7], zI7]

set_option maxRecDepth 100000 in
theorem due_lifted (os : Os) (started : os.Started) (H : Type) (enc : TypeId × Value → H) :
    ReturnsInHanded {} Tryz.checked os 7 .any (fun w args => (Rows.throttleDueSpec.pre enc Tryz.prog Tryz.f7 Rows.throttleDueRow.domain false w args ∧ laidMetH Tryz.prog laidZ w) ∧ sizedMet enc Tryz.prog Tryz.f7 (OpenSpec.ofChange Rows.throttleDueSpec) false w args)
      (Rows.throttleDueSpec.post enc Tryz.prog Tryz.f7 false true false false) := by
  refine returnsInHanded_of_change_and (C := Tryz.checked) (X := fun w _ => laidMetH Tryz.prog laidZ w) (fun _ _ _ hh h => h.of_heap hh) Tryz.own started (by kernel_rfl) Tryz.func7
    (ChangeSpec.witness_shaped (enc := enc) (C := Tryz.checked) (os := os) (X := fun w _ => laidMetH Tryz.prog laidZ w) false (World.laidAll Tryz.prog os laidZ) zeroArgs7 12 (World.laidAll_os _ _ _)
      (World.shaped_of_ZipB (by kernel_rfl) (by kernel_rfl)) (by kernel_rfl) (by kernel_rfl) (by kernel_rfl)
      (by rw [MakeChecks.laidMetH_plain _ _ _ (by kernel_rfl)]; exact laidMet_laidAll _ (by kernel_rfl) (by kernel_rfl))) ?_
  intro W base args ds gs before hval hW _ _ hL _
  refine lifted_true (P := Tryz.prog) (Γ := callF tab ext) machine tys_kids (kids_some tys_ok) (kids_full tys_ok) (fun t ht => ?_) (tb := 4) rfl under4 rfl (fun ds hds => ?_) (fun xss hlen hsh => ?_) W (globOk hL) base args ds gs before hval hW
  · rw [params7] at ht
    exact ⟨par_tys7 ht, tys_lt (par_tys7 ht)⟩
  · match ds, hds with
    | [_, _, _], _ => rfl
  · match xss, hlen with
    | [x0, x1, x2], _ =>
      obtain ⟨_, h0⟩ := hsh 0 34 x0 rfl rfl
      obtain ⟨_, h1⟩ := hsh 1 37 x1 rfl rfl
      obtain ⟨_, h2⟩ := hsh 2 3 x2 rfl rfl
      have hn := shape_node9 h0
      obtain ⟨s, rfl⟩ := shape_stt h1
      obtain ⟨i, rfl⟩ := shape_num h2
      refine ⟨190301, [], ?_⟩
      have : argsX Tryz.prog Tryz.f7.params.toList [x0, s.cells, [num i]] = [.agg x0, .agg s.cells, num i] := by
        kernel_rfl
      rw [this]
      exact due_all x0 hn s i

set_option maxRecDepth 100000 in
theorem due_holds : Rows.ThrottleDueSaid :=
  OpenClaim.holds_of_wide 7 Tryz.f7 rfl rfl rfl rfl rfl rfl rfl ⟨rfl, rfl, rfl, rfl, rfl⟩ rfl rfl rfl rfl rfl (by kernel_rfl) Tryz.func7 (by kernel_rfl)
    (of_decide_eq_true (by kernel_rfl)) (by unfold Func.isWrapper; rw [if_neg (by decide +kernel)]; exact ⟨rfl, rfl⟩)
    (fun os started H enc _ => due_lifted os started H enc)

set_option maxRecDepth 100000 in
theorem due_card : Rows.ThrottleDueCardSaid :=
  Claim7.holds_tied_plain_at .later [] [.data, .pinned] true (true, "41cdcd5c1172deba67aaaa3121a75d34f1b2302811ab82c96255bd1fc68ea628") false due_holds (fun _ h => by cases h) (by kernel_rfl) (fun _ h => by cases h) throttleDue_row_tie rfl ⟨rfl, rfl⟩ (by kernel_rfl) rfl
    (fun f fn hf hfn => by
      obtain rfl : f = 7 := Option.some.inj ((show Tryz.prog.funcNamed "manifold/manifoldlaw36.ThrottleDue" = some 7 by kernel_rfl).symm.trans hf) |>.symm
      obtain rfl : fn = Tryz.f7 := (Option.some.inj (Tryz.func7.symm.trans hfn)).symm
      exact ⟨by kernel_rfl, fun j t ht => by
        have hp : Tryz.f7.params = #[34, 37, 3] := by kernel_rfl
        rw [hp] at ht
        have hm : t ∈ [34, 37, 3] := by simpa using Array.mem_of_getElem? ht
        have hall : ([34, 37, 3].all fun u => !Tryz.prog.wantsStandIn u) = true := by kernel_rfl
        exact (show Tryz.prog.wantsStandIn t = false by simpa using List.all_eq_true.1 hall t hm)⟩)
    (by kernel_rfl)
end Go.Proofs.YtjfheahakfoofaaGreatDoor
