/- ThrottleOrders returns true, and its arguments read as they did, at every input. Conditions: none. -/
import Derived.Test.YtjfheahakfoofaaOrd11
namespace Go.Proofs.Ytjfheahakfoofaa
open Go.ChangeShapes Go.WideShapes Go.ChangeAt Go.RowKit Go.Em

set_option maxRecDepth 100000 in
theorem orders_lifted (os : Os) (started : os.Started) (H : Type) (enc : TypeId × Value → H) :
    ReturnsInHanded {} Try.checked os 4 .any (Rows.throttleOrdersSpec.pre6 enc Try.prog Try.f4 Rows.throttleOrdersRow.domain false) (Rows.throttleOrdersSpec.post enc Try.prog Try.f4 false true false false) := by
  refine returnsInHanded_of_change (C := Try.checked) Try.own started (by kernel_rfl) Try.func4
    (ChangeSpec.witness6 (enc := enc) (C := Try.checked) false ⟨#[], #[.agg #[.int .u8 0, .int .u8 0, .int .u8 0], .slice none 0 0, .bool false], []⟩ 8 (by kernel_rfl) (by kernel_rfl) (by kernel_rfl) (by kernel_rfl)) ?_
  intro W base args ds gs before hval hW _ _
  refine lifted_true (P := Try.prog) (Γ := callF tab ext) machine tys_kids (kids_some tys_ok) (kids_full tys_ok) (fun t ht => ?_) (tb := 4) rfl under4 rfl (fun ds hds => ?_) (fun xss hlen hsh => ?_) W base args ds gs before hval hW
  · rw [Try.params4] at ht
    have : t ∈ tys := by
      rcases List.mem_cons.1 ht with rfl | ht
      · decide
      · rcases List.mem_cons.1 ht with rfl | ht
        · decide
        · rcases List.mem_cons.1 ht with rfl | ht
          · decide
          · cases ht
    exact ⟨this, tys_lt this⟩
  · match ds, hds with
    | [_, _, _], _ => rfl
  · match xss, hlen with
    | [x0, x1, x2], _ =>
      obtain ⟨_, h0⟩ := hsh 0 22 x0 rfl rfl
      obtain ⟨_, h1⟩ := hsh 1 23 x1 rfl rfl
      obtain ⟨_, h2⟩ := hsh 2 4 x2 rfl rfl
      obtain ⟨a, b, c, e0, ha, hb, hc⟩ := shape_bounds h0
      obtain ⟨l0, rfl, hm⟩ := shape_moves h1
      obtain ⟨dl, rfl⟩ := shape_bool under4 h2
      refine ⟨400, [], ?_⟩
      have : argsX Try.prog Try.f4.params.toList [x0, [.sl false 2 (movesC l0)], [.v (.bool dl)]] = [boundsC a b c, .sl false 2 (movesC l0), .v (.bool dl)] := by
        rw [← e0]; kernel_rfl
      rw [this]
      cases dl with
      | false => exact orders_throttle a b c l0 hm ha hb hc
      | true => exact orders_delay a b c l0 hm ha hb hc

theorem orders_holds : Rows.ThrottleOrdersSaid :=
  OpenClaim.holds_of_wide 4 Try.f4 rfl rfl rfl rfl rfl rfl rfl ⟨rfl, rfl, rfl, rfl, rfl⟩ rfl rfl rfl rfl rfl (by kernel_rfl) Try.func4 (by kernel_rfl)
    (of_decide_eq_true (by kernel_rfl)) (by unfold Func.isWrapper; rw [if_neg (by decide +kernel)]; exact ⟨rfl, rfl⟩)
    (fun os started H enc _ => orders_lifted os started H enc)

end Go.Proofs.Ytjfheahakfoofaa
