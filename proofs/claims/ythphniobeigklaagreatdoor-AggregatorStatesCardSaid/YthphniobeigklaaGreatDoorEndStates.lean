/- AggregatorStates: the row, and its tied card. Conditions: none. -/
import Derived.Test.YthphniobeigklaaGreatDoorCards
import Derived.Test.YthphniobeigklaaGreatDoorTie
import Derived.Test.YthphniobeigklaaGreatDoorB18
import Derived.Test.YthphniobeigklaaGreatDoorB28
set_option linter.all false
namespace Go.Proofs.YthphniobeigklaaGreatDoor
open Go.ChangeShapes Go.WideShapes Go.ChangeAt Go.RowKit Go.Em Go.Proofs.YthphniobeigklaaGreatDoor.Ag

theorem params_aggregatorstates : Tryz.f10.params.toList = [38, 22] := by kernel_rfl
theorem par_aggregatorstates {t : TypeId} (h : t ∈ ([38, 22] : List TypeId)) : t ∈ tysA := by
  simp only [List.mem_cons, List.not_mem_nil, or_false] at h
  rcases h with rfl | rfl
  · decide
  · decide

theorem pure_out {Γ : Gam} {f : FuncId} {args : List X} {b : Bool} (h : Gam.pureD Γ f args = some (.v (.bool b))) : ∃ bx, Γ (.fn f) args [] = some (.v (.bool b), bx) := by
  unfold Gam.pureD at h
  split at h
  · rename_i x bx e
    refine ⟨bx, ?_⟩
    rw [e]
    cases x <;> simp only [X.data, Option.map_eq_some_iff, Option.some.injEq, X.v.injEq, reduceCtorEq, and_false, exists_false] at h
    rw [h]
  · cases h
def zIe : Value := .int .i64 0
def zTe : Value := .string ⟨#[]⟩
def zSe : Value := .slice none 0 0
/-- All zero. -/
def zeroArgs : Array Value := #[.agg #[.int .u8 0, .int .u8 0, .int .u8 0, .int .u8 0, .int .u8 0], zSe]

set_option maxRecDepth 100000 in
theorem aggregatorstates_lifted (os : Os) (started : os.Started) (H : Type) (enc : TypeId × Value → H) :
    ReturnsInHanded {} Tryz.checked os 10 .any (fun w args => (Rows.aggregatorStatesSpec.pre enc Tryz.prog Tryz.f10 Rows.aggregatorStatesRow.domain false w args ∧ laidMetH Tryz.prog laidZ w) ∧ sizedMet enc Tryz.prog Tryz.f10 (OpenSpec.ofChange Rows.aggregatorStatesSpec) false w args)
      (Rows.aggregatorStatesSpec.post enc Tryz.prog Tryz.f10 false true false false) := by
  refine returnsInHanded_of_change_and (C := Tryz.checked) (X := fun w _ => laidMetH Tryz.prog laidZ w) (fun _ _ _ hh h => h.of_heap hh) Tryz.own started (by kernel_rfl) Tryz.func10
    (ChangeSpec.witness_shaped (enc := enc) (C := Tryz.checked) (os := os) (X := fun w _ => laidMetH Tryz.prog laidZ w) false (World.laidAll Tryz.prog os laidZ) zeroArgs 12 (World.laidAll_os _ _ _)
      (World.shaped_of_ZipB (by kernel_rfl) (by kernel_rfl)) (by kernel_rfl) (by kernel_rfl) (by kernel_rfl)
      (by rw [MakeChecks.laidMetH_plain _ _ _ (by kernel_rfl)]; exact laidMet_laidAll _ (by kernel_rfl) (by kernel_rfl))) ?_
  intro W base args ds gs before hval hW _ _ hL _
  refine lifted_true (P := Tryz.prog) (Γ := callF tab ext) machine tysA_kids (kids_some tysA_ok) (kids_full tysA_ok) (fun t ht => ?_) (tb := 4) rfl underA4 rfl (fun ds hds => ?_) (fun xss hlen hsh => ?_) W (globOk hL) base args ds gs before hval hW
  · rw [params_aggregatorstates] at ht
    exact ⟨par_aggregatorstates ht, tysA_lt (par_aggregatorstates ht)⟩
  · match ds, hds with
    | [_, _], _ => rfl
  · match xss, hlen with
    | [x0, x1], _ =>
      obtain ⟨_, h0⟩ := hsh 0 38 x0 rfl rfl
      obtain ⟨_, h1⟩ := hsh 1 22 x1 rfl rfl
      obtain ⟨a, b, c, d, e, ha, hb, hc, hd, he, rfl⟩ := shape_sk h0
      obtain ⟨l, hl, rfl⟩ := shape_evs h1
      obtain ⟨bx, hbx⟩ := pure_out (states_all a b c d e hb l 194001 (by omega))
      refine ⟨194001, bx, ?_⟩
      have : argsX Tryz.prog Tryz.f10.params.toList [[u8X a, u8X b, u8X c, u8X d, u8X e], [.sl false 4 (evC l)]] = [skX a b c d e, .sl false 4 (evC l)] := by
        kernel_rfl
      rw [this]
      exact hbx

set_option maxRecDepth 100000
theorem aggregatorstates_a1 : (Rows.aggregatorStatesRow.inPlace == Tryz.prog.inPlace 10) = true := by kernel_rfl
theorem aggregatorstates_a2 : (Rows.aggregatorStatesRow.unfollowed == Tryz.prog.unfollowed 10) = true := by kernel_rfl
theorem aggregatorstates_a3 : (Rows.aggregatorStatesRow.recurses == Tryz.prog.recurses 10) = true := by kernel_rfl
theorem aggregatorstates_a4 : (Rows.aggregatorStatesRow.named == Tryz.prog.varsNamed 10) = true := by kernel_rfl
theorem aggregatorstates_b1 : (Rows.aggregatorStatesRow.wf (OpenSpec.ofChange Rows.aggregatorStatesSpec) && Tryz.f10.params.all (Tryz.prog.readableRec ·) && namedTie Tryz.prog Rows.aggregatorStatesRow.named Rows.aggregatorStatesSpec.vars && (Rows.aggregatorStatesRow.stops == []) && (Rows.aggregatorStatesRow.knobs == [])) = true := by kernel_rfl
theorem aggregatorstates_b2 : ((Rows.aggregatorStatesRow.maps == (Tryz.f10.params.toList ++ Rows.aggregatorStatesSpec.plain.varTypes Tryz.prog).any (Tryz.prog.mapsRec ·)) && (Rows.aggregatorStatesRow.ifaces == (Tryz.f10.params.toList ++ Rows.aggregatorStatesSpec.plain.varTypes Tryz.prog).any (Tryz.prog.ifacesRec ·)) && (Rows.aggregatorStatesRow.mapsOut == Tryz.prog.mapsAmong Tryz.f10.resultTypes.toList) &&
      (Rows.aggregatorStatesRow.loops == (Tryz.f10.params.toList ++ Rows.aggregatorStatesSpec.plain.varTypes Tryz.prog).any (Tryz.prog.loopsFrom ·)) && (Rows.aggregatorStatesRow.wideKeys == (Tryz.f10.params.toList ++ Rows.aggregatorStatesSpec.plain.varTypes Tryz.prog ++ Tryz.f10.resultTypes.toList).any (Tryz.prog.wideKeysFrom ·))) = true := by kernel_rfl
theorem aggregatorstates_b3 : (Rows.aggregatorStatesSpec.vars.all (Tryz.prog.varReadable ·) && Tryz.f10.resultTypes.all (fun t => Tryz.prog.readableRec t && decide (t < Tryz.prog.types.size)) && (Rows.aggregatorStatesRow.ifacesOut == Tryz.f10.resultTypes.toList.any (Tryz.prog.ifacesRec ·)) && (Rows.aggregatorStatesRow.loopsOut == Tryz.f10.resultTypes.toList.any (Tryz.prog.loopsFrom ·)) && Rows.aggregatorStatesRow.shortTexts.isNone) = true := by kernel_rfl
theorem aggregatorstates_b4 : ((Rows.aggregatorStatesRow.kinds == (if Rows.aggregatorStatesRow.domain.isEmpty then [] else Tryz.f10.params.toList.map fun t => match Tryz.prog.underlying t with | some (.int k) => some k | _ => none)) && (Rows.aggregatorStatesRow.pinned == Rows.aggregatorStatesRow.pinnedBy) &&
      (Rows.aggregatorStatesRow.veiled == (Tryz.f10.params.toList ++ Rows.aggregatorStatesSpec.plain.varTypes Tryz.prog ++ Tryz.f10.resultTypes.toList).any (Tryz.prog.veiledRec ·)) && Rows.aggregatorStatesRow.veiledFits Tryz.prog Tryz.f10.params.toList (Tryz.f10.params.toList ++ Rows.aggregatorStatesSpec.plain.varTypes Tryz.prog ++ Tryz.f10.resultTypes.toList)) = true := by kernel_rfl
theorem aggregatorstates_named : Tryz.prog.funcNamed "manifold/manifoldlaw33.AggregatorStates" = some 10 := by kernel_rfl
theorem aggregatorstates_ids : decide (Tryz.f10.isInstance Tryz.prog Rows.aggregatorStatesRow.origin Rows.aggregatorStatesRow.targs) = true := by kernel_rfl
theorem aggregatorstates_wrap : Tryz.f10.isWrapper Tryz.prog Rows.aggregatorStatesRow.wrapper Rows.aggregatorStatesRow.mainSum := by unfold Func.isWrapper; rw [if_neg (by decide +kernel)]; exact ⟨rfl, rfl⟩
theorem aggregatorstates_joined : joinedFacts Tryz.prog 10 Tryz.f10 Rows.aggregatorStatesSpec Rows.aggregatorStatesRow = true :=
  joined_of Tryz.laidOut Tryz.rowed jf_stops jf_heard jf_enter aggregatorstates_a1 aggregatorstates_a2 aggregatorstates_a3 aggregatorstates_a4 aggregatorstates_b1 aggregatorstates_b2 aggregatorstates_b3
    (by rw [jf_plain]; rfl) (by rw [jf_lifted]; rfl) jf_make aggregatorstates_b4
theorem aggregatorstates_holds : Rows.AggregatorStatesSaid :=
  OpenClaim.holds_of_wide 10 Tryz.f10 rfl rfl rfl rfl rfl rfl rfl ⟨rfl, rfl, rfl, rfl, rfl⟩ rfl rfl rfl rfl rfl aggregatorstates_named Tryz.func10 aggregatorstates_joined
    (of_decide_eq_true aggregatorstates_ids) aggregatorstates_wrap
    (fun os started H enc _ => aggregatorstates_lifted os started H enc)
theorem aggregatorstates_text : Rows.aggregatorStatesRow.wfByText (OpenSpec.ofChange Rows.aggregatorStatesSpec) = true := by kernel_rfl
theorem aggregatorstates_goes : false = Rows.aggregatorStatesRow.goesBy Tryz.prog := by kernel_rfl
theorem aggregatorstates_stand : ((([38, 22] : List TypeId).all fun u => !Tryz.prog.wantsStandIn u) = true) ∧ Tryz.f10.params = #[38, 22] := ⟨by kernel_rfl, by kernel_rfl⟩
theorem aggregatorstates_card : Rows.AggregatorStatesCardSaid :=
  Claim7.holds_tied_plain_at .later [] [.data, .data, .data, .data, .sentinel, .sentinel, .pinned] true (true, "e15099fc63cc0bc118a020bcfff1e703ab89f15ffb4a8b79179d5edd75f9483d") true aggregatorstates_holds (fun _ h => by cases h) aggregatorstates_text (fun _ h => by cases h) aggregatorStates_row_tie rfl ⟨rfl, rfl⟩ jf_main rfl
    (fun f fn hf hfn => by
      obtain rfl : f = 10 := Option.some.inj (aggregatorstates_named.symm.trans hf) |>.symm
      obtain rfl : fn = Tryz.f10 := (Option.some.inj (Tryz.func10.symm.trans hfn)).symm
      refine ⟨jf_looks, fun j t ht => ?_⟩
      rw [aggregatorstates_stand.2] at ht
      have hm : t ∈ ([38, 22] : List TypeId) := by simpa using Array.mem_of_getElem? ht
      exact (show Tryz.prog.wantsStandIn t = false by simpa using List.all_eq_true.1 aggregatorstates_stand.1 t hm))
    aggregatorstates_goes
end Go.Proofs.YthphniobeigklaaGreatDoor
