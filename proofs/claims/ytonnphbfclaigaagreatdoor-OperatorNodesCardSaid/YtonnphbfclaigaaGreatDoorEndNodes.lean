/- OperatorNodes: the row, and its tied card. Conditions: none. -/
import Derived.Test.YtonnphbfclaigaaGreatDoorCards
import Derived.Test.YtonnphbfclaigaaGreatDoorVarNodes
import Derived.Test.YtonnphbfclaigaaGreatDoorO20
import Derived.Test.YtonnphbfclaigaaGreatDoorO23
set_option linter.all false
namespace Go.Proofs.YtonnphbfclaigaaGreatDoor
open Go.ChangeShapes Go.WideShapes Go.ChangeAt Go.RowKit Go.Em

theorem params_operatornodes : Tryz.f6.params.toList = [59] := by kernel_rfl
theorem par_operatornodes {t : TypeId} (h : t ∈ ([59] : List TypeId)) : t ∈ tysO := by
  simp only [List.mem_cons, List.not_mem_nil, or_false] at h
  rcases h with rfl
  · decide

theorem pure_out {Γ : Gam} {f : FuncId} {args : List X} {b : Bool} (h : Gam.pureD Γ f args = some (.v (.bool b))) : ∃ bx, Γ (.fn f) args [] = some (.v (.bool b), bx) := by
  unfold Gam.pureD at h
  split at h
  · rename_i x bx e
    refine ⟨bx, ?_⟩
    rw [e]
    cases x <;> simp only [X.data, Option.map_eq_some_iff, Option.some.injEq, X.v.injEq, reduceCtorEq, and_false, exists_false] at h
    rw [h]
  · cases h
def zIe : Value := .int .i64 0
def zTe : Value := .string ⟨#[]⟩
def zSe : Value := .slice none 0 0
/-- All zero. -/
def zeroArgs : Array Value := #[.agg #[zTe, zIe, zIe, zIe, zIe, zIe, zIe, zTe, zIe, zIe, zIe, zIe, zSe, zSe, zSe, zSe, zSe, zSe, zSe, zSe]]

set_option maxRecDepth 100000 in
theorem operatornodes_lifted (os : Os) (started : os.Started) (H : Type) (enc : TypeId × Value → H) :
    ReturnsInHanded {} Tryz.checked os 6 .any (fun w args => (Rows.operatorNodesSpec.pre enc Tryz.prog Tryz.f6 Rows.operatorNodesRow.domain false w args ∧ laidMetH Tryz.prog laidZ w) ∧ sizedMet enc Tryz.prog Tryz.f6 (OpenSpec.ofChange Rows.operatorNodesSpec) false w args)
      (Rows.operatorNodesSpec.post enc Tryz.prog Tryz.f6 false true false false) := by
  refine returnsInHanded_of_change_and (C := Tryz.checked) (X := fun w _ => laidMetH Tryz.prog laidZ w) (fun _ _ _ hh h => h.of_heap hh) Tryz.own started (by kernel_rfl) Tryz.func6
    (ChangeSpec.witness_shaped (enc := enc) (C := Tryz.checked) (os := os) (X := fun w _ => laidMetH Tryz.prog laidZ w) false (World.laidAll Tryz.prog os laidZ) zeroArgs 12 (World.laidAll_os _ _ _)
      (World.shaped_of_ZipB (by kernel_rfl) (by kernel_rfl)) (by kernel_rfl) (by kernel_rfl) (by kernel_rfl)
      (by rw [MakeChecks.laidMetH_plain _ _ _ (by kernel_rfl)]; exact laidMet_laidAll _ (by kernel_rfl) (by kernel_rfl))) ?_
  intro W base args ds gs before hval hW _ _ hL _
  refine lifted_true (P := Tryz.prog) (Γ := callF tab ext) machine tysO_kids (kids_some tysO_ok) (kids_full tysO_ok) (fun t ht => ?_) (tb := 4) rfl under4 rfl (fun ds hds => ?_) (fun xss hlen hsh => ?_) W (globOk hL) base args ds gs before hval hW
  · rw [params_operatornodes] at ht
    exact ⟨par_operatornodes ht, tysO_lt (par_operatornodes ht)⟩
  · match ds, hds with
    | [_], _ => rfl
  · match xss, hlen with
    | [x0], _ =>
      obtain ⟨_, h0⟩ := hsh 0 59 x0 rfl rfl
      have hn0 := shape_node h0
      obtain ⟨bx, hbx⟩ := pure_out (nodes_all hn0 190000)
      refine ⟨191001, bx, ?_⟩
      have : argsX Tryz.prog Tryz.f6.params.toList [x0] = [.agg x0] := by
        kernel_rfl
      rw [this]
      exact hbx

set_option maxRecDepth 100000
theorem operatornodes_b1 : (Rows.operatorNodesRow.wf (OpenSpec.ofChange Rows.operatorNodesSpec) && Tryz.f6.params.all (Tryz.prog.readableRec ·) && namedTie Tryz.prog Rows.operatorNodesRow.named Rows.operatorNodesSpec.vars && (Rows.operatorNodesRow.stops == []) && (Rows.operatorNodesRow.knobs == [])) = true := by kernel_rfl
theorem operatornodes_b2 : ((Rows.operatorNodesRow.maps == (Tryz.f6.params.toList ++ Rows.operatorNodesSpec.plain.varTypes Tryz.prog).any (Tryz.prog.mapsRec ·)) && (Rows.operatorNodesRow.ifaces == (Tryz.f6.params.toList ++ Rows.operatorNodesSpec.plain.varTypes Tryz.prog).any (Tryz.prog.ifacesRec ·)) && (Rows.operatorNodesRow.mapsOut == Tryz.prog.mapsAmong Tryz.f6.resultTypes.toList) &&
      (Rows.operatorNodesRow.loops == (Tryz.f6.params.toList ++ Rows.operatorNodesSpec.plain.varTypes Tryz.prog).any (Tryz.prog.loopsFrom ·)) && (Rows.operatorNodesRow.wideKeys == (Tryz.f6.params.toList ++ Rows.operatorNodesSpec.plain.varTypes Tryz.prog ++ Tryz.f6.resultTypes.toList).any (Tryz.prog.wideKeysFrom ·))) = true := by kernel_rfl
theorem operatornodes_b3 : (Rows.operatorNodesSpec.vars.all (Tryz.prog.varReadable ·) && Tryz.f6.resultTypes.all (fun t => Tryz.prog.readableRec t && decide (t < Tryz.prog.types.size)) && (Rows.operatorNodesRow.ifacesOut == Tryz.f6.resultTypes.toList.any (Tryz.prog.ifacesRec ·)) && (Rows.operatorNodesRow.loopsOut == Tryz.f6.resultTypes.toList.any (Tryz.prog.loopsFrom ·)) && Rows.operatorNodesRow.shortTexts.isNone) = true := by kernel_rfl
theorem operatornodes_b4 : ((Rows.operatorNodesRow.kinds == (if Rows.operatorNodesRow.domain.isEmpty then [] else Tryz.f6.params.toList.map fun t => match Tryz.prog.underlying t with | some (.int k) => some k | _ => none)) && (Rows.operatorNodesRow.pinned == Rows.operatorNodesRow.pinnedBy) &&
      (Rows.operatorNodesRow.veiled == (Tryz.f6.params.toList ++ Rows.operatorNodesSpec.plain.varTypes Tryz.prog ++ Tryz.f6.resultTypes.toList).any (Tryz.prog.veiledRec ·)) && Rows.operatorNodesRow.veiledFits Tryz.prog Tryz.f6.params.toList (Tryz.f6.params.toList ++ Rows.operatorNodesSpec.plain.varTypes Tryz.prog ++ Tryz.f6.resultTypes.toList)) = true := by kernel_rfl
theorem operatornodes_named : Tryz.prog.funcNamed "manifold/manifoldlaw39.OperatorNodes" = some 6 := by kernel_rfl
theorem operatornodes_ids : decide (Tryz.f6.isInstance Tryz.prog Rows.operatorNodesRow.origin Rows.operatorNodesRow.targs) = true := by kernel_rfl
theorem operatornodes_wrap : Tryz.f6.isWrapper Tryz.prog Rows.operatorNodesRow.wrapper Rows.operatorNodesRow.mainSum := by unfold Func.isWrapper; rw [if_neg (by decide +kernel)]; exact ⟨rfl, rfl⟩
theorem operatornodes_joined : joinedFacts Tryz.prog 6 Tryz.f6 Rows.operatorNodesSpec Rows.operatorNodesRow = true :=
  joined_of Tryz.laidOut Tryz.rowed jf_stops jf_heard jf_enter operatornodes_a1 operatornodes_a2 operatornodes_a3 operatornodes_a4 operatornodes_b1 operatornodes_b2 operatornodes_b3
    (by rw [jf_plain]; rfl) (by rw [jf_lifted]; rfl) jf_make operatornodes_b4
theorem operatornodes_holds : Rows.OperatorNodesSaid :=
  OpenClaim.holds_of_wide 6 Tryz.f6 rfl rfl rfl rfl rfl rfl rfl ⟨rfl, rfl, rfl, rfl, rfl⟩ rfl rfl rfl rfl rfl operatornodes_named Tryz.func6 operatornodes_joined
    (of_decide_eq_true operatornodes_ids) operatornodes_wrap
    (fun os started H enc _ => operatornodes_lifted os started H enc)
theorem operatornodes_text : Rows.operatorNodesRow.wfByText (OpenSpec.ofChange Rows.operatorNodesSpec) = true := by kernel_rfl
theorem operatornodes_goes : false = Rows.operatorNodesRow.goesBy Tryz.prog := (goesAt_none no_goes _ _).symm
theorem operatornodes_stand : ((([59] : List TypeId).all fun u => !Tryz.prog.wantsStandIn u) = true) ∧ Tryz.f6.params = #[59] := ⟨by kernel_rfl, by kernel_rfl⟩
theorem operatornodes_card : Rows.OperatorNodesCardSaid :=
  Claim7.holds_tied_plain_at .later [] [.data, .data, .data, .data, .sentinel, .sentinel, .pinned] true (true, "a75ad6bf4a49d30b3450983d732040967430057036402e2daa271303e339b221") true operatornodes_holds (fun _ h => by cases h) operatornodes_text (fun _ h => by cases h) operatorNodes_row_tie rfl ⟨rfl, rfl⟩ jf_main rfl
    (fun f fn hf hfn => by
      obtain rfl : f = 6 := Option.some.inj (operatornodes_named.symm.trans hf) |>.symm
      obtain rfl : fn = Tryz.f6 := (Option.some.inj (Tryz.func6.symm.trans hfn)).symm
      refine ⟨jf_looks, fun j t ht => ?_⟩
      rw [operatornodes_stand.2] at ht
      have hm : t ∈ ([59] : List TypeId) := by simpa using Array.mem_of_getElem? ht
      exact (show Tryz.prog.wantsStandIn t = false by simpa using List.all_eq_true.1 operatornodes_stand.1 t hm))
    operatornodes_goes
end Go.Proofs.YtonnphbfclaigaaGreatDoor
