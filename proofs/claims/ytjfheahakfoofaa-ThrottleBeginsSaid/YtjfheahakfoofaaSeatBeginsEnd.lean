/- ThrottleBegins returns true, and its arguments read as they did, at every input. Conditions: none. -/
import Derived.Test.YtjfheahakfoofaaSeatBegins
import Derived.Test.YtjfheahakfoofaaSeatCmp
import Derived.ProofKit
namespace Go.Proofs.Ytjfheahakfoofaa
open Go.ChangeShapes Go.WideShapes Go.ChangeAt Go.RowKit Go.Em

theorem clamp_same (a : Int) : clampI' a = clampI a := by
  unfold clampI clampI'
  by_cases h : a < 17592186044416
  · rw [if_pos h, if_neg (by omega : ¬ 17592186044416 < a)]
  · by_cases h2 : 17592186044416 < a
    · rw [if_neg h, if_pos h2]
    · have : a = 17592186044416 := by omega
      subst this; rfl

theorem clamp_range (a : Int) : 1 ≤ clampI a ∧ clampI a ≤ 17592186044416 := by
  unfold clampI
  split <;> split <;> omega

theorem begins_true (a b : Int) (hb : b < 9223372036854775808) : callF tab ext 400 (.fn 6) [int a, int b] [] = some (.v (.bool true), []) := by
  by_cases h : b < 0
  · exact begins_neg a b h
  · obtain ⟨hc1, hc2⟩ := clamp_range a
    obtain ⟨q, hq⟩ : ∃ q : Nat, clampI a = Int.ofNat (q + 1) := ⟨(clampI a).toNat - 1, by
      show clampI a = ((((clampI a).toNat - 1) + 1 : Nat) : Int)
      omega⟩
    have hm : b.tmod (Int.ofNat (q + 1)) = b % Int.ofNat (q + 1) := Int.tmod_eq_emod_of_nonneg (by omega)
    have hp : (0 : Int) < Int.ofNat (q + 1) := by omega
    have h0 := Int.emod_nonneg b (Int.ne_of_gt hp)
    have h1 := Int.emod_lt_of_pos b hp
    have he : Int.ofNat (q + 1) * (b / Int.ofNat (q + 1)) + b % Int.ofNat (q + 1) = b := Int.mul_ediv_add_emod b (Int.ofNat (q + 1))
    have hn : 0 ≤ Int.ofNat (q + 1) * (b / Int.ofNat (q + 1)) := Int.mul_nonneg (Int.le_of_lt hp) (Int.ediv_nonneg (by omega) (Int.le_of_lt hp))
    have h2 : b % Int.ofNat (q + 1) ≤ b := by omega
    have hw : IntKind.i64.wrap (b - b.tmod (Int.ofNat (q + 1))) = b - b % Int.ofNat (q + 1) := by
      rw [hm, IntKind.wrap_i64]; omega
    refine begins_pos a b (b - b % Int.ofNat (q + 1)) q h hq ((clamp_same a).trans hq) hw (by omega) (by omega) ?_ ?_
    · rw [IntKind.wrap_i64]; omega
    · rw [Int.tmod_eq_emod_of_nonneg (by omega)]
      have e : b - b % Int.ofNat (q + 1) = Int.ofNat (q + 1) * (b / Int.ofNat (q + 1)) := by omega
      rw [e, Int.mul_emod_right]

theorem begins_calls (a b : Int) (w : World) (hb : b < 9223372036854775808) : Calls Try.prog 6 #[.int .i64 a, .int .i64 b] w fun e w' => e = .returned (.bool true) ∧ Below w.heap.size w w' := by
  obtain ⟨_, hs⟩ := (machine 400).fn 6 _ _ _ _ (begins_true a b hb)
  refine calls_of_data (K := fun _ _ => none) hs (fun b o v e => by cases e) ⟨rfl, fun j y v e e' => ?_⟩
  match j, e, e' with
  | 0, e, e' => simp only [List.getElem?_cons_zero, Option.some.injEq] at e; subst e; simp at e'; subst e'; exact .v rfl
  | 1, e, e' => simp only [List.getElem?_cons_succ, List.getElem?_cons_zero, Option.some.injEq] at e; subst e; simp at e'; subst e'; exact .v rfl
  | j + 2, e, _ => simp at e

theorem Try.own : ownKnob Try.prog.godebug = none := by kernel_rfl
theorem Try.laidOut : laidOutB Try.prog = true := by kernel_rfl

set_option maxRecDepth 100000 in
theorem begins_lifted (os : Os) (started : os.Started) (H : Type) (enc : TypeId × Value → H) :
    ReturnsInHanded {} Try.checked os 6 .any (Rows.throttleBeginsSpec.pre6 enc Try.prog Try.f6 Rows.throttleBeginsRow.domain false) (Rows.throttleBeginsSpec.post enc Try.prog Try.f6 false true false false) := by
  refine returnsInHanded_of_change (C := Try.checked) Try.own started (by kernel_rfl) Try.func6
    (ChangeSpec.witness6 (enc := enc) (C := Try.checked) false ⟨#[], #[.int .i64 0, .int .i64 0], []⟩ 8 (by kernel_rfl) (by kernel_rfl) (by kernel_rfl) (by kernel_rfl)) ?_
  intro W base args ds gs before hval0 hW hcnd _
  have hval : ∀ (j : Nat) t v, Try.f6.params[j]? = some t → args[j]? = some v → Value.okWide Try.prog W .any base t v := hval0
  have hW' := hW
  obtain ⟨p, q, hA0, hV, rfl, hfz, hnd⟩ := hW
  have hA : DataW.TrodAll enc Try.prog W 0 (fun _ => true) true Try.f6.params.toList args.toList ds p := hA0
  rw [Try.params6] at hA hval
  obtain ⟨v0, v1, d0, d1, p0, p1, rfl, rfl, rfl, h0, h1⟩ := trodAll_two hA
  obtain ⟨rfl, rfl⟩ := trodVars_none hV
  obtain ⟨a, rfl, rfl, rfl, wa⟩ := open_int Try.underlying3 (hval 0 3 v0 rfl rfl) h0
  obtain ⟨b, rfl, rfl, rfl, wb⟩ := open_int Try.underlying3 (hval 1 3 v1 rfl rfl) h1
  clear hA0 hval0
  simp only [List.append_nil] at hW'
  have hb : b < 9223372036854775808 := by
    have := wb
    simp [Lit.wf] at this
    omega
  refine (begins_calls a b W hb).mono fun e W' ⟨he, hn⟩ => ?_
  subst he
  exact ⟨_, rfl, _, _, _, [], _, [], hW', trodAll_mk1 (shut_bool Try.underlying4 true), trodAll_mk2 (shut_int Try.underlying3 wa) (shut_int Try.underlying3 wb), rfl, hn.frame _, fun h => by cases h⟩

theorem begins_holds : Rows.ThrottleBeginsSaid :=
  OpenClaim.holds_of_wide 6 Try.f6 rfl rfl rfl rfl rfl rfl rfl ⟨rfl, rfl, rfl, rfl, rfl⟩ rfl rfl rfl rfl rfl (by kernel_rfl) Try.func6 (by kernel_rfl)
    (of_decide_eq_true (by kernel_rfl)) (by unfold Func.isWrapper; rw [if_neg (by decide +kernel)]; exact ⟨rfl, rfl⟩)
    (fun os started H enc _ => begins_lifted os started H enc)

end Go.Proofs.Ytjfheahakfoofaa
