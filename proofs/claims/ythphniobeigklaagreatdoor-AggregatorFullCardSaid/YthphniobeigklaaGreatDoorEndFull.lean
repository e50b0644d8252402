/- AggregatorFull: the row, and its tied card. Conditions: none. -/
import Derived.Test.YthphniobeigklaaGreatDoorCards
import Derived.Test.YthphniobeigklaaGreatDoorTie
import Derived.Test.YthphniobeigklaaGreatDoorB18
import Derived.Test.YthphniobeigklaaGreatDoorB21
set_option linter.all false
namespace Go.Proofs.YthphniobeigklaaGreatDoor
open Go.ChangeShapes Go.WideShapes Go.ChangeAt Go.RowKit Go.Em Go.Proofs.YthphniobeigklaaGreatDoor.Ag

theorem params_aggregatorfull : Tryz.f8.params.toList = [5, 4] := by kernel_rfl
theorem par_aggregatorfull {t : TypeId} (h : t ∈ ([5, 4] : List TypeId)) : t ∈ tysA := by
  simp only [List.mem_cons, List.not_mem_nil, or_false] at h
  rcases h with rfl | rfl
  · decide
  · decide

theorem pure_out {Γ : Gam} {f : FuncId} {args : List X} {b : Bool} (h : Gam.pureD Γ f args = some (.v (.bool b))) : ∃ bx, Γ (.fn f) args [] = some (.v (.bool b), bx) := by
  unfold Gam.pureD at h
  split at h
  · rename_i x bx e
    refine ⟨bx, ?_⟩
    rw [e]
    cases x <;> simp only [X.data, Option.map_eq_some_iff, Option.some.injEq, X.v.injEq, reduceCtorEq, and_false, exists_false] at h
    rw [h]
  · cases h
def zIe : Value := .int .i64 0
def zTe : Value := .string ⟨#[]⟩
def zSe : Value := .slice none 0 0
/-- All zero. -/
def zeroArgs : Array Value := #[.int .u8 0, .bool false]

set_option maxRecDepth 100000 in
theorem aggregatorfull_lifted (os : Os) (started : os.Started) (H : Type) (enc : TypeId × Value → H) :
    ReturnsInHanded {} Tryz.checked os 8 .any (fun w args => (Rows.aggregatorFullSpec.pre enc Tryz.prog Tryz.f8 Rows.aggregatorFullRow.domain false w args ∧ laidMetH Tryz.prog laidZ w) ∧ sizedMet enc Tryz.prog Tryz.f8 (OpenSpec.ofChange Rows.aggregatorFullSpec) false w args)
      (Rows.aggregatorFullSpec.post enc Tryz.prog Tryz.f8 false true false false) := by
  refine returnsInHanded_of_change_and (C := Tryz.checked) (X := fun w _ => laidMetH Tryz.prog laidZ w) (fun _ _ _ hh h => h.of_heap hh) Tryz.own started (by kernel_rfl) Tryz.func8
    (ChangeSpec.witness_shaped (enc := enc) (C := Tryz.checked) (os := os) (X := fun w _ => laidMetH Tryz.prog laidZ w) false (World.laidAll Tryz.prog os laidZ) zeroArgs 12 (World.laidAll_os _ _ _)
      (World.shaped_of_ZipB (by kernel_rfl) (by kernel_rfl)) (by kernel_rfl) (by kernel_rfl) (by kernel_rfl)
      (by rw [MakeChecks.laidMetH_plain _ _ _ (by kernel_rfl)]; exact laidMet_laidAll _ (by kernel_rfl) (by kernel_rfl))) ?_
  intro W base args ds gs before hval hW _ _ hL _
  refine lifted_true (P := Tryz.prog) (Γ := callF tab ext) machine tysA_kids (kids_some tysA_ok) (kids_full tysA_ok) (fun t ht => ?_) (tb := 4) rfl underA4 rfl (fun ds hds => ?_) (fun xss hlen hsh => ?_) W (globOk hL) base args ds gs before hval hW
  · rw [params_aggregatorfull] at ht
    exact ⟨par_aggregatorfull ht, tysA_lt (par_aggregatorfull ht)⟩
  · match ds, hds with
    | [_, _], _ => rfl
  · match xss, hlen with
    | [x0, x1], _ =>
      obtain ⟨_, h0⟩ := hsh 0 5 x0 rfl rfl
      obtain ⟨_, h1⟩ := hsh 1 4 x1 rfl rfl
      obtain ⟨w, hw, rfl⟩ := shape_u8 h0
      obtain ⟨t, rfl⟩ := shape_bool underA4 h1
      obtain ⟨bx, hbx⟩ := pure_out (full_all w hw t 194001 (by omega))
      refine ⟨194001, bx, ?_⟩
      have : argsX Tryz.prog Tryz.f8.params.toList [[u8X w], [X.v (Value.bool t)]] = [u8X w, boolX t] := by
        kernel_rfl
      rw [this]
      exact hbx

set_option maxRecDepth 100000
theorem aggregatorfull_a1 : (Rows.aggregatorFullRow.inPlace == Tryz.prog.inPlace 8) = true := by kernel_rfl
theorem aggregatorfull_a2 : (Rows.aggregatorFullRow.unfollowed == Tryz.prog.unfollowed 8) = true := by kernel_rfl
theorem aggregatorfull_a3 : (Rows.aggregatorFullRow.recurses == Tryz.prog.recurses 8) = true := by kernel_rfl
theorem aggregatorfull_a4 : (Rows.aggregatorFullRow.named == Tryz.prog.varsNamed 8) = true := by kernel_rfl
theorem aggregatorfull_b1 : (Rows.aggregatorFullRow.wf (OpenSpec.ofChange Rows.aggregatorFullSpec) && Tryz.f8.params.all (Tryz.prog.readableRec ·) && namedTie Tryz.prog Rows.aggregatorFullRow.named Rows.aggregatorFullSpec.vars && (Rows.aggregatorFullRow.stops == []) && (Rows.aggregatorFullRow.knobs == [])) = true := by kernel_rfl
theorem aggregatorfull_b2 : ((Rows.aggregatorFullRow.maps == (Tryz.f8.params.toList ++ Rows.aggregatorFullSpec.plain.varTypes Tryz.prog).any (Tryz.prog.mapsRec ·)) && (Rows.aggregatorFullRow.ifaces == (Tryz.f8.params.toList ++ Rows.aggregatorFullSpec.plain.varTypes Tryz.prog).any (Tryz.prog.ifacesRec ·)) && (Rows.aggregatorFullRow.mapsOut == Tryz.prog.mapsAmong Tryz.f8.resultTypes.toList) &&
      (Rows.aggregatorFullRow.loops == (Tryz.f8.params.toList ++ Rows.aggregatorFullSpec.plain.varTypes Tryz.prog).any (Tryz.prog.loopsFrom ·)) && (Rows.aggregatorFullRow.wideKeys == (Tryz.f8.params.toList ++ Rows.aggregatorFullSpec.plain.varTypes Tryz.prog ++ Tryz.f8.resultTypes.toList).any (Tryz.prog.wideKeysFrom ·))) = true := by kernel_rfl
theorem aggregatorfull_b3 : (Rows.aggregatorFullSpec.vars.all (Tryz.prog.varReadable ·) && Tryz.f8.resultTypes.all (fun t => Tryz.prog.readableRec t && decide (t < Tryz.prog.types.size)) && (Rows.aggregatorFullRow.ifacesOut == Tryz.f8.resultTypes.toList.any (Tryz.prog.ifacesRec ·)) && (Rows.aggregatorFullRow.loopsOut == Tryz.f8.resultTypes.toList.any (Tryz.prog.loopsFrom ·)) && Rows.aggregatorFullRow.shortTexts.isNone) = true := by kernel_rfl
theorem aggregatorfull_b4 : ((Rows.aggregatorFullRow.kinds == (if Rows.aggregatorFullRow.domain.isEmpty then [] else Tryz.f8.params.toList.map fun t => match Tryz.prog.underlying t with | some (.int k) => some k | _ => none)) && (Rows.aggregatorFullRow.pinned == Rows.aggregatorFullRow.pinnedBy) &&
      (Rows.aggregatorFullRow.veiled == (Tryz.f8.params.toList ++ Rows.aggregatorFullSpec.plain.varTypes Tryz.prog ++ Tryz.f8.resultTypes.toList).any (Tryz.prog.veiledRec ·)) && Rows.aggregatorFullRow.veiledFits Tryz.prog Tryz.f8.params.toList (Tryz.f8.params.toList ++ Rows.aggregatorFullSpec.plain.varTypes Tryz.prog ++ Tryz.f8.resultTypes.toList)) = true := by kernel_rfl
theorem aggregatorfull_named : Tryz.prog.funcNamed "manifold/manifoldlaw33.AggregatorFull" = some 8 := by kernel_rfl
theorem aggregatorfull_ids : decide (Tryz.f8.isInstance Tryz.prog Rows.aggregatorFullRow.origin Rows.aggregatorFullRow.targs) = true := by kernel_rfl
theorem aggregatorfull_wrap : Tryz.f8.isWrapper Tryz.prog Rows.aggregatorFullRow.wrapper Rows.aggregatorFullRow.mainSum := by unfold Func.isWrapper; rw [if_neg (by decide +kernel)]; exact ⟨rfl, rfl⟩
theorem aggregatorfull_joined : joinedFacts Tryz.prog 8 Tryz.f8 Rows.aggregatorFullSpec Rows.aggregatorFullRow = true :=
  joined_of Tryz.laidOut Tryz.rowed jf_stops jf_heard jf_enter aggregatorfull_a1 aggregatorfull_a2 aggregatorfull_a3 aggregatorfull_a4 aggregatorfull_b1 aggregatorfull_b2 aggregatorfull_b3
    (by rw [jf_plain]; rfl) (by rw [jf_lifted]; rfl) jf_make aggregatorfull_b4
theorem aggregatorfull_holds : Rows.AggregatorFullSaid :=
  OpenClaim.holds_of_wide 8 Tryz.f8 rfl rfl rfl rfl rfl rfl rfl ⟨rfl, rfl, rfl, rfl, rfl⟩ rfl rfl rfl rfl rfl aggregatorfull_named Tryz.func8 aggregatorfull_joined
    (of_decide_eq_true aggregatorfull_ids) aggregatorfull_wrap
    (fun os started H enc _ => aggregatorfull_lifted os started H enc)
theorem aggregatorfull_text : Rows.aggregatorFullRow.wfByText (OpenSpec.ofChange Rows.aggregatorFullSpec) = true := by kernel_rfl
theorem aggregatorfull_goes : false = Rows.aggregatorFullRow.goesBy Tryz.prog := by kernel_rfl
theorem aggregatorfull_stand : ((([5, 4] : List TypeId).all fun u => !Tryz.prog.wantsStandIn u) = true) ∧ Tryz.f8.params = #[5, 4] := ⟨by kernel_rfl, by kernel_rfl⟩
theorem aggregatorfull_card : Rows.AggregatorFullCardSaid :=
  Claim7.holds_tied_plain_at .later [] [.data, .data, .data, .data, .sentinel, .sentinel, .pinned] true (true, "e15099fc63cc0bc118a020bcfff1e703ab89f15ffb4a8b79179d5edd75f9483d") true aggregatorfull_holds (fun _ h => by cases h) aggregatorfull_text (fun _ h => by cases h) aggregatorFull_row_tie rfl ⟨rfl, rfl⟩ jf_main rfl
    (fun f fn hf hfn => by
      obtain rfl : f = 8 := Option.some.inj (aggregatorfull_named.symm.trans hf) |>.symm
      obtain rfl : fn = Tryz.f8 := (Option.some.inj (Tryz.func8.symm.trans hfn)).symm
      refine ⟨jf_looks, fun j t ht => ?_⟩
      rw [aggregatorfull_stand.2] at ht
      have hm : t ∈ ([5, 4] : List TypeId) := by simpa using Array.mem_of_getElem? ht
      exact (show Tryz.prog.wantsStandIn t = false by simpa using List.all_eq_true.1 aggregatorfull_stand.1 t hm))
    aggregatorfull_goes
end Go.Proofs.YthphniobeigklaaGreatDoor
