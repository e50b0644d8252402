/- OperatorEquals: the row, and its tied card. Conditions: none. -/
import Derived.Test.YtonnphbfclaigaaGreatDoorCards
import Derived.Test.YtonnphbfclaigaaGreatDoorVarEquals
import Derived.Test.YtonnphbfclaigaaGreatDoorO20
import Derived.Test.YtonnphbfclaigaaGreatDoorO21
set_option linter.all false
namespace Go.Proofs.YtonnphbfclaigaaGreatDoor
open Go.ChangeShapes Go.WideShapes Go.ChangeAt Go.RowKit Go.Em

theorem params_operatorequals : Tryz.f7.params.toList = [41, 41] := by kernel_rfl
theorem par_operatorequals {t : TypeId} (h : t ∈ ([41, 41] : List TypeId)) : t ∈ tysO := by
  simp only [List.mem_cons, List.not_mem_nil, or_false] at h
  rcases h with rfl | rfl
  · decide
  · decide

theorem pure_out {Γ : Gam} {f : FuncId} {args : List X} {b : Bool} (h : Gam.pureD Γ f args = some (.v (.bool b))) : ∃ bx, Γ (.fn f) args [] = some (.v (.bool b), bx) := by
  unfold Gam.pureD at h
  split at h
  · rename_i x bx e
    refine ⟨bx, ?_⟩
    rw [e]
    cases x <;> simp only [X.data, Option.map_eq_some_iff, Option.some.injEq, X.v.injEq, reduceCtorEq, and_false, exists_false] at h
    rw [h]
  · cases h
def zIe : Value := .int .i64 0
def zTe : Value := .string ⟨#[]⟩
def zSe : Value := .slice none 0 0
/-- All zero. -/
def zeroArgs : Array Value := #[.agg #[zIe, zIe, zSe, zSe, zSe, zSe, zSe], .agg #[zIe, zIe, zSe, zSe, zSe, zSe, zSe]]

set_option maxRecDepth 100000 in
theorem operatorequals_lifted (os : Os) (started : os.Started) (H : Type) (enc : TypeId × Value → H) :
    ReturnsInHanded {} Tryz.checked os 7 .any (fun w args => (Rows.operatorEqualsSpec.pre enc Tryz.prog Tryz.f7 Rows.operatorEqualsRow.domain false w args ∧ laidMetH Tryz.prog laidZ w) ∧ sizedMet enc Tryz.prog Tryz.f7 (OpenSpec.ofChange Rows.operatorEqualsSpec) false w args)
      (Rows.operatorEqualsSpec.post enc Tryz.prog Tryz.f7 false true false false) := by
  refine returnsInHanded_of_change_and (C := Tryz.checked) (X := fun w _ => laidMetH Tryz.prog laidZ w) (fun _ _ _ hh h => h.of_heap hh) Tryz.own started (by kernel_rfl) Tryz.func7
    (ChangeSpec.witness_shaped (enc := enc) (C := Tryz.checked) (os := os) (X := fun w _ => laidMetH Tryz.prog laidZ w) false (World.laidAll Tryz.prog os laidZ) zeroArgs 12 (World.laidAll_os _ _ _)
      (World.shaped_of_ZipB (by kernel_rfl) (by kernel_rfl)) (by kernel_rfl) (by kernel_rfl) (by kernel_rfl)
      (by rw [MakeChecks.laidMetH_plain _ _ _ (by kernel_rfl)]; exact laidMet_laidAll _ (by kernel_rfl) (by kernel_rfl))) ?_
  intro W base args ds gs before hval hW _ _ hL _
  refine lifted_true (P := Tryz.prog) (Γ := callF tab ext) machine tysO_kids (kids_some tysO_ok) (kids_full tysO_ok) (fun t ht => ?_) (tb := 4) rfl under4 rfl (fun ds hds => ?_) (fun xss hlen hsh => ?_) W (globOk hL) base args ds gs before hval hW
  · rw [params_operatorequals] at ht
    exact ⟨par_operatorequals ht, tysO_lt (par_operatorequals ht)⟩
  · match ds, hds with
    | [_, _], _ => rfl
  · match xss, hlen with
    | [x0, x1], _ =>
      obtain ⟨_, h0⟩ := hsh 0 41 x0 rfl rfl
      obtain ⟨_, h1⟩ := hsh 1 41 x1 rfl rfl
      obtain ⟨o0, rfl⟩ := shape_oc h0
      obtain ⟨o1, rfl⟩ := shape_oc h1
      obtain ⟨bx, hbx⟩ := pure_out (equals_all o0 o1 191001 (by omega))
      refine ⟨191001, bx, ?_⟩
      have : argsX Tryz.prog Tryz.f7.params.toList [o0.cells, o1.cells] = [.agg o0.cells, .agg o1.cells] := by
        kernel_rfl
      rw [this]
      exact hbx

set_option maxRecDepth 100000
theorem operatorequals_b1 : (Rows.operatorEqualsRow.wf (OpenSpec.ofChange Rows.operatorEqualsSpec) && Tryz.f7.params.all (Tryz.prog.readableRec ·) && namedTie Tryz.prog Rows.operatorEqualsRow.named Rows.operatorEqualsSpec.vars && (Rows.operatorEqualsRow.stops == []) && (Rows.operatorEqualsRow.knobs == [])) = true := by kernel_rfl
theorem operatorequals_b2 : ((Rows.operatorEqualsRow.maps == (Tryz.f7.params.toList ++ Rows.operatorEqualsSpec.plain.varTypes Tryz.prog).any (Tryz.prog.mapsRec ·)) && (Rows.operatorEqualsRow.ifaces == (Tryz.f7.params.toList ++ Rows.operatorEqualsSpec.plain.varTypes Tryz.prog).any (Tryz.prog.ifacesRec ·)) && (Rows.operatorEqualsRow.mapsOut == Tryz.prog.mapsAmong Tryz.f7.resultTypes.toList) &&
      (Rows.operatorEqualsRow.loops == (Tryz.f7.params.toList ++ Rows.operatorEqualsSpec.plain.varTypes Tryz.prog).any (Tryz.prog.loopsFrom ·)) && (Rows.operatorEqualsRow.wideKeys == (Tryz.f7.params.toList ++ Rows.operatorEqualsSpec.plain.varTypes Tryz.prog ++ Tryz.f7.resultTypes.toList).any (Tryz.prog.wideKeysFrom ·))) = true := by kernel_rfl
theorem operatorequals_b3 : (Rows.operatorEqualsSpec.vars.all (Tryz.prog.varReadable ·) && Tryz.f7.resultTypes.all (fun t => Tryz.prog.readableRec t && decide (t < Tryz.prog.types.size)) && (Rows.operatorEqualsRow.ifacesOut == Tryz.f7.resultTypes.toList.any (Tryz.prog.ifacesRec ·)) && (Rows.operatorEqualsRow.loopsOut == Tryz.f7.resultTypes.toList.any (Tryz.prog.loopsFrom ·)) && Rows.operatorEqualsRow.shortTexts.isNone) = true := by kernel_rfl
theorem operatorequals_b4 : ((Rows.operatorEqualsRow.kinds == (if Rows.operatorEqualsRow.domain.isEmpty then [] else Tryz.f7.params.toList.map fun t => match Tryz.prog.underlying t with | some (.int k) => some k | _ => none)) && (Rows.operatorEqualsRow.pinned == Rows.operatorEqualsRow.pinnedBy) &&
      (Rows.operatorEqualsRow.veiled == (Tryz.f7.params.toList ++ Rows.operatorEqualsSpec.plain.varTypes Tryz.prog ++ Tryz.f7.resultTypes.toList).any (Tryz.prog.veiledRec ·)) && Rows.operatorEqualsRow.veiledFits Tryz.prog Tryz.f7.params.toList (Tryz.f7.params.toList ++ Rows.operatorEqualsSpec.plain.varTypes Tryz.prog ++ Tryz.f7.resultTypes.toList)) = true := by kernel_rfl
theorem operatorequals_named : Tryz.prog.funcNamed "manifold/manifoldlaw39.OperatorEquals" = some 7 := by kernel_rfl
theorem operatorequals_ids : decide (Tryz.f7.isInstance Tryz.prog Rows.operatorEqualsRow.origin Rows.operatorEqualsRow.targs) = true := by kernel_rfl
theorem operatorequals_wrap : Tryz.f7.isWrapper Tryz.prog Rows.operatorEqualsRow.wrapper Rows.operatorEqualsRow.mainSum := by unfold Func.isWrapper; rw [if_neg (by decide +kernel)]; exact ⟨rfl, rfl⟩
theorem operatorequals_joined : joinedFacts Tryz.prog 7 Tryz.f7 Rows.operatorEqualsSpec Rows.operatorEqualsRow = true :=
  joined_of Tryz.laidOut Tryz.rowed jf_stops jf_heard jf_enter operatorequals_a1 operatorequals_a2 operatorequals_a3 operatorequals_a4 operatorequals_b1 operatorequals_b2 operatorequals_b3
    (by rw [jf_plain]; rfl) (by rw [jf_lifted]; rfl) jf_make operatorequals_b4
theorem operatorequals_holds : Rows.OperatorEqualsSaid :=
  OpenClaim.holds_of_wide 7 Tryz.f7 rfl rfl rfl rfl rfl rfl rfl ⟨rfl, rfl, rfl, rfl, rfl⟩ rfl rfl rfl rfl rfl operatorequals_named Tryz.func7 operatorequals_joined
    (of_decide_eq_true operatorequals_ids) operatorequals_wrap
    (fun os started H enc _ => operatorequals_lifted os started H enc)
theorem operatorequals_text : Rows.operatorEqualsRow.wfByText (OpenSpec.ofChange Rows.operatorEqualsSpec) = true := by kernel_rfl
theorem operatorequals_goes : false = Rows.operatorEqualsRow.goesBy Tryz.prog := (goesAt_none no_goes _ _).symm
theorem operatorequals_stand : ((([41, 41] : List TypeId).all fun u => !Tryz.prog.wantsStandIn u) = true) ∧ Tryz.f7.params = #[41, 41] := ⟨by kernel_rfl, by kernel_rfl⟩
theorem operatorequals_card : Rows.OperatorEqualsCardSaid :=
  Claim7.holds_tied_plain_at .later [] [.data, .data, .data, .data, .sentinel, .sentinel, .pinned] true (true, "a75ad6bf4a49d30b3450983d732040967430057036402e2daa271303e339b221") true operatorequals_holds (fun _ h => by cases h) operatorequals_text (fun _ h => by cases h) operatorEquals_row_tie rfl ⟨rfl, rfl⟩ jf_main rfl
    (fun f fn hf hfn => by
      obtain rfl : f = 7 := Option.some.inj (operatorequals_named.symm.trans hf) |>.symm
      obtain rfl : fn = Tryz.f7 := (Option.some.inj (Tryz.func7.symm.trans hfn)).symm
      refine ⟨jf_looks, fun j t ht => ?_⟩
      rw [operatorequals_stand.2] at ht
      have hm : t ∈ ([41, 41] : List TypeId) := by simpa using Array.mem_of_getElem? ht
      exact (show Tryz.prog.wantsStandIn t = false by simpa using List.all_eq_true.1 operatorequals_stand.1 t hm))
    operatorequals_goes
end Go.Proofs.YtonnphbfclaigaaGreatDoor
