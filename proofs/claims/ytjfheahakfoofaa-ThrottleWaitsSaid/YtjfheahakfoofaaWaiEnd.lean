/- ThrottleWaits returns true, and its arguments read as they did, at every input. Conditions: none. -/
import Derived.Test.YtjfheahakfoofaaWai11
namespace Go.Proofs.Ytjfheahakfoofaa
open Go.ChangeShapes Go.WideShapes Go.ChangeAt Go.RowKit Go.Em

set_option maxRecDepth 100000 in
theorem waits_lifted (os : Os) (started : os.Started) (H : Type) (enc : TypeId × Value → H) :
    ReturnsInHanded {} Try.checked os 5 .any (Rows.throttleWaitsSpec.pre6 enc Try.prog Try.f5 Rows.throttleWaitsRow.domain false) (Rows.throttleWaitsSpec.post enc Try.prog Try.f5 false true false false) := by
  refine returnsInHanded_of_change (C := Try.checked) Try.own started (by kernel_rfl) Try.func5
    (ChangeSpec.witness6 (enc := enc) (C := Try.checked) false ⟨#[], #[.int .u8 0, .slice none 0 0], []⟩ 8 (by kernel_rfl) (by kernel_rfl) (by kernel_rfl) (by kernel_rfl)) ?_
  intro W base args ds gs before hval hW _ _
  refine lifted_true (P := Try.prog) (Γ := callF tab ext) machine tys_kids (kids_some tys_ok) (kids_full tys_ok) (fun t ht => ?_) (tb := 4) rfl under4 rfl (fun ds hds => ?_) (fun xss hlen hsh => ?_) W base args ds gs before hval hW
  · rw [Try.params5] at ht
    have : t ∈ tys := by
      rcases List.mem_cons.1 ht with rfl | ht
      · decide
      · rcases List.mem_cons.1 ht with rfl | ht
        · decide
        · cases ht
    exact ⟨this, tys_lt this⟩
  · match ds, hds with
    | [_, _], _ => rfl
  · match xss, hlen with
    | [x0, x1], _ =>
      obtain ⟨_, h0⟩ := hsh 0 5 x0 rfl rfl
      obtain ⟨_, h1⟩ := hsh 1 23 x1 rfl rfl
      obtain ⟨p, rfl, hp⟩ := shape_byte h0
      obtain ⟨l0, rfl, hm⟩ := shape_moves h1
      refine ⟨400, [], ?_⟩
      have : argsX Try.prog Try.f5.params.toList [[.v (.int .u8 (Int.ofNat p))], [.sl false 2 (movesC l0)]] = [.v (.int .u8 (Int.ofNat p)), .sl false 2 (movesC l0)] := by
        kernel_rfl
      rw [this]
      exact waits_all p l0 hm hp

theorem waits_holds : Rows.ThrottleWaitsSaid :=
  OpenClaim.holds_of_wide 5 Try.f5 rfl rfl rfl rfl rfl rfl rfl ⟨rfl, rfl, rfl, rfl, rfl⟩ rfl rfl rfl rfl rfl (by kernel_rfl) Try.func5 (by kernel_rfl)
    (of_decide_eq_true (by kernel_rfl)) (by unfold Func.isWrapper; rw [if_neg (by decide +kernel)]; exact ⟨rfl, rfl⟩)
    (fun os started H enc _ => waits_lifted os started H enc)

end Go.Proofs.Ytjfheahakfoofaa
