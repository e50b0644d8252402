/- AggregatorCompletes: the row, and its tied card. Conditions: none. -/
import Derived.Test.YthphniobeigklaaGreatDoorCards
import Derived.Test.YthphniobeigklaaGreatDoorTie
import Derived.Test.YthphniobeigklaaGreatDoorA18
set_option linter.all false
namespace Go.Proofs.YthphniobeigklaaGreatDoor
open Go.ChangeShapes Go.WideShapes Go.ChangeAt Go.RowKit Go.Em Go.Proofs.YthphniobeigklaaGreatDoor.Ag

theorem params_aggregatorcompletes : Tryz.f5.params.toList = [38, 5, 74] := by kernel_rfl
theorem par_aggregatorcompletes {t : TypeId} (h : t ∈ ([38, 5, 74] : List TypeId)) : t ∈ tysA := by
  simp only [List.mem_cons, List.not_mem_nil, or_false] at h
  rcases h with rfl | rfl | rfl
  · decide
  · decide
  · decide

theorem pure_out {Γ : Gam} {f : FuncId} {args : List X} {b : Bool} (h : Gam.pureD Γ f args = some (.v (.bool b))) : ∃ bx, Γ (.fn f) args [] = some (.v (.bool b), bx) := by
  unfold Gam.pureD at h
  split at h
  · rename_i x bx e
    refine ⟨bx, ?_⟩
    rw [e]
    cases x <;> simp only [X.data, Option.map_eq_some_iff, Option.some.injEq, X.v.injEq, reduceCtorEq, and_false, exists_false] at h
    rw [h]
  · cases h
def zIe : Value := .int .i64 0
def zTe : Value := .string ⟨#[]⟩
def zSe : Value := .slice none 0 0
/-- All zero. -/
def zeroArgs : Array Value := #[.agg #[.int .u8 0, .int .u8 0, .int .u8 0, .int .u8 0, .int .u8 0], .int .u8 0, zSe]

set_option maxRecDepth 100000 in
theorem aggregatorcompletes_lifted (os : Os) (started : os.Started) (H : Type) (enc : TypeId × Value → H) :
    ReturnsInHanded {} Tryz.checked os 5 .any (fun w args => (Rows.aggregatorCompletesSpec.pre enc Tryz.prog Tryz.f5 Rows.aggregatorCompletesRow.domain false w args ∧ laidMetH Tryz.prog laidZ w) ∧ sizedMet enc Tryz.prog Tryz.f5 (OpenSpec.ofChange Rows.aggregatorCompletesSpec) false w args)
      (Rows.aggregatorCompletesSpec.post enc Tryz.prog Tryz.f5 false true false false) := by
  refine returnsInHanded_of_change_and (C := Tryz.checked) (X := fun w _ => laidMetH Tryz.prog laidZ w) (fun _ _ _ hh h => h.of_heap hh) Tryz.own started (by kernel_rfl) Tryz.func5
    (ChangeSpec.witness_shaped (enc := enc) (C := Tryz.checked) (os := os) (X := fun w _ => laidMetH Tryz.prog laidZ w) false (World.laidAll Tryz.prog os laidZ) zeroArgs 12 (World.laidAll_os _ _ _)
      (World.shaped_of_ZipB (by kernel_rfl) (by kernel_rfl)) (by kernel_rfl) (by kernel_rfl) (by kernel_rfl)
      (by rw [MakeChecks.laidMetH_plain _ _ _ (by kernel_rfl)]; exact laidMet_laidAll _ (by kernel_rfl) (by kernel_rfl))) ?_
  intro W base args ds gs before hval hW _ _ hL _
  refine lifted_true (P := Tryz.prog) (Γ := callF tab ext) machine tysA_kids (kids_some tysA_ok) (kids_full tysA_ok) (fun t ht => ?_) (tb := 4) rfl underA4 rfl (fun ds hds => ?_) (fun xss hlen hsh => ?_) W (globOk hL) base args ds gs before hval hW
  · rw [params_aggregatorcompletes] at ht
    exact ⟨par_aggregatorcompletes ht, tysA_lt (par_aggregatorcompletes ht)⟩
  · match ds, hds with
    | [_, _, _], _ => rfl
  · match xss, hlen with
    | [x0, x1, x2], _ =>
      obtain ⟨_, h0⟩ := hsh 0 38 x0 rfl rfl
      obtain ⟨_, h1⟩ := hsh 1 5 x1 rfl rfl
      obtain ⟨_, h2⟩ := hsh 2 74 x2 rfl rfl
      obtain ⟨a, b, c, d, e, ha, hb, hc, hd, he, rfl⟩ := shape_sk h0
      obtain ⟨w, hw, rfl⟩ := shape_u8 h1
      obtain ⟨qs, hqs, rfl⟩ := shape_u8s h2
      obtain ⟨bx, hbx⟩ := pure_out (completes_all a b c d e w qs hqs)
      refine ⟨200001, bx, ?_⟩
      have : argsX Tryz.prog Tryz.f5.params.toList [[u8X a, u8X b, u8X c, u8X d, u8X e], [u8X w], [.sl false 1 (u8C qs)]] = [skX a b c d e, u8X w, .sl false 1 (u8C qs)] := by
        kernel_rfl
      rw [this]
      exact hbx

set_option maxRecDepth 100000
theorem aggregatorcompletes_a1 : (Rows.aggregatorCompletesRow.inPlace == Tryz.prog.inPlace 5) = true := by kernel_rfl
theorem aggregatorcompletes_a2 : (Rows.aggregatorCompletesRow.unfollowed == Tryz.prog.unfollowed 5) = true := by kernel_rfl
theorem aggregatorcompletes_a3 : (Rows.aggregatorCompletesRow.recurses == Tryz.prog.recurses 5) = true := by kernel_rfl
theorem aggregatorcompletes_a4 : (Rows.aggregatorCompletesRow.named == Tryz.prog.varsNamed 5) = true := by kernel_rfl
theorem aggregatorcompletes_b1 : (Rows.aggregatorCompletesRow.wf (OpenSpec.ofChange Rows.aggregatorCompletesSpec) && Tryz.f5.params.all (Tryz.prog.readableRec ·) && namedTie Tryz.prog Rows.aggregatorCompletesRow.named Rows.aggregatorCompletesSpec.vars && (Rows.aggregatorCompletesRow.stops == []) && (Rows.aggregatorCompletesRow.knobs == [])) = true := by kernel_rfl
theorem aggregatorcompletes_b2 : ((Rows.aggregatorCompletesRow.maps == (Tryz.f5.params.toList ++ Rows.aggregatorCompletesSpec.plain.varTypes Tryz.prog).any (Tryz.prog.mapsRec ·)) && (Rows.aggregatorCompletesRow.ifaces == (Tryz.f5.params.toList ++ Rows.aggregatorCompletesSpec.plain.varTypes Tryz.prog).any (Tryz.prog.ifacesRec ·)) && (Rows.aggregatorCompletesRow.mapsOut == Tryz.prog.mapsAmong Tryz.f5.resultTypes.toList) &&
      (Rows.aggregatorCompletesRow.loops == (Tryz.f5.params.toList ++ Rows.aggregatorCompletesSpec.plain.varTypes Tryz.prog).any (Tryz.prog.loopsFrom ·)) && (Rows.aggregatorCompletesRow.wideKeys == (Tryz.f5.params.toList ++ Rows.aggregatorCompletesSpec.plain.varTypes Tryz.prog ++ Tryz.f5.resultTypes.toList).any (Tryz.prog.wideKeysFrom ·))) = true := by kernel_rfl
theorem aggregatorcompletes_b3 : (Rows.aggregatorCompletesSpec.vars.all (Tryz.prog.varReadable ·) && Tryz.f5.resultTypes.all (fun t => Tryz.prog.readableRec t && decide (t < Tryz.prog.types.size)) && (Rows.aggregatorCompletesRow.ifacesOut == Tryz.f5.resultTypes.toList.any (Tryz.prog.ifacesRec ·)) && (Rows.aggregatorCompletesRow.loopsOut == Tryz.f5.resultTypes.toList.any (Tryz.prog.loopsFrom ·)) && Rows.aggregatorCompletesRow.shortTexts.isNone) = true := by kernel_rfl
theorem aggregatorcompletes_b4 : ((Rows.aggregatorCompletesRow.kinds == (if Rows.aggregatorCompletesRow.domain.isEmpty then [] else Tryz.f5.params.toList.map fun t => match Tryz.prog.underlying t with | some (.int k) => some k | _ => none)) && (Rows.aggregatorCompletesRow.pinned == Rows.aggregatorCompletesRow.pinnedBy) &&
      (Rows.aggregatorCompletesRow.veiled == (Tryz.f5.params.toList ++ Rows.aggregatorCompletesSpec.plain.varTypes Tryz.prog ++ Tryz.f5.resultTypes.toList).any (Tryz.prog.veiledRec ·)) && Rows.aggregatorCompletesRow.veiledFits Tryz.prog Tryz.f5.params.toList (Tryz.f5.params.toList ++ Rows.aggregatorCompletesSpec.plain.varTypes Tryz.prog ++ Tryz.f5.resultTypes.toList)) = true := by kernel_rfl
theorem aggregatorcompletes_named : Tryz.prog.funcNamed "manifold/manifoldlaw33.AggregatorCompletes" = some 5 := by kernel_rfl
theorem aggregatorcompletes_ids : decide (Tryz.f5.isInstance Tryz.prog Rows.aggregatorCompletesRow.origin Rows.aggregatorCompletesRow.targs) = true := by kernel_rfl
theorem aggregatorcompletes_wrap : Tryz.f5.isWrapper Tryz.prog Rows.aggregatorCompletesRow.wrapper Rows.aggregatorCompletesRow.mainSum := by unfold Func.isWrapper; rw [if_neg (by decide +kernel)]; exact ⟨rfl, rfl⟩
theorem aggregatorcompletes_joined : joinedFacts Tryz.prog 5 Tryz.f5 Rows.aggregatorCompletesSpec Rows.aggregatorCompletesRow = true :=
  joined_of Tryz.laidOut Tryz.rowed jf_stops jf_heard jf_enter aggregatorcompletes_a1 aggregatorcompletes_a2 aggregatorcompletes_a3 aggregatorcompletes_a4 aggregatorcompletes_b1 aggregatorcompletes_b2 aggregatorcompletes_b3
    (by rw [jf_plain]; rfl) (by rw [jf_lifted]; rfl) jf_make aggregatorcompletes_b4
theorem aggregatorcompletes_holds : Rows.AggregatorCompletesSaid :=
  OpenClaim.holds_of_wide 5 Tryz.f5 rfl rfl rfl rfl rfl rfl rfl ⟨rfl, rfl, rfl, rfl, rfl⟩ rfl rfl rfl rfl rfl aggregatorcompletes_named Tryz.func5 aggregatorcompletes_joined
    (of_decide_eq_true aggregatorcompletes_ids) aggregatorcompletes_wrap
    (fun os started H enc _ => aggregatorcompletes_lifted os started H enc)
theorem aggregatorcompletes_text : Rows.aggregatorCompletesRow.wfByText (OpenSpec.ofChange Rows.aggregatorCompletesSpec) = true := by kernel_rfl
theorem aggregatorcompletes_goes : false = Rows.aggregatorCompletesRow.goesBy Tryz.prog := by kernel_rfl
theorem aggregatorcompletes_stand : ((([38, 5, 74] : List TypeId).all fun u => !Tryz.prog.wantsStandIn u) = true) ∧ Tryz.f5.params = #[38, 5, 74] := ⟨by kernel_rfl, by kernel_rfl⟩
theorem aggregatorcompletes_card : Rows.AggregatorCompletesCardSaid :=
  Claim7.holds_tied_plain_at .later [] [.data, .data, .data, .data, .sentinel, .sentinel, .pinned] true (true, "e15099fc63cc0bc118a020bcfff1e703ab89f15ffb4a8b79179d5edd75f9483d") true aggregatorcompletes_holds (fun _ h => by cases h) aggregatorcompletes_text (fun _ h => by cases h) aggregatorCompletes_row_tie rfl ⟨rfl, rfl⟩ jf_main rfl
    (fun f fn hf hfn => by
      obtain rfl : f = 5 := Option.some.inj (aggregatorcompletes_named.symm.trans hf) |>.symm
      obtain rfl : fn = Tryz.f5 := (Option.some.inj (Tryz.func5.symm.trans hfn)).symm
      refine ⟨jf_looks, fun j t ht => ?_⟩
      rw [aggregatorcompletes_stand.2] at ht
      have hm : t ∈ ([38, 5, 74] : List TypeId) := by simpa using Array.mem_of_getElem? ht
      exact (show Tryz.prog.wantsStandIn t = false by simpa using List.all_eq_true.1 aggregatorcompletes_stand.1 t hm))
    aggregatorcompletes_goes
end Go.Proofs.YthphniobeigklaaGreatDoor
