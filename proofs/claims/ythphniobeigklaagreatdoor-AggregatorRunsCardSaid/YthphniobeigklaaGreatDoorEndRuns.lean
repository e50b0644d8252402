/- AggregatorRuns: the row, and its tied card. Conditions: none. -/
import Derived.Test.YthphniobeigklaaGreatDoorCards
import Derived.Test.YthphniobeigklaaGreatDoorTie
import Derived.Test.YthphniobeigklaaGreatDoorM18
import Derived.Test.YthphniobeigklaaGreatDoorM26
set_option linter.all false
namespace Go.Proofs.YthphniobeigklaaGreatDoor
open Go.ChangeShapes Go.WideShapes Go.ChangeAt Go.RowKit Go.Em Go.Proofs.YthphniobeigklaaGreatDoor.Ag

theorem params_aggregatorruns : Tryz.f9.params.toList = [38, 22] := by kernel_rfl
theorem par_aggregatorruns {t : TypeId} (h : t ∈ ([38, 22] : List TypeId)) : t ∈ tysA := by
  simp only [List.mem_cons, List.not_mem_nil, or_false] at h
  rcases h with rfl | rfl
  · decide
  · decide

theorem pure_out {Γ : Gam} {f : FuncId} {args : List X} {b : Bool} (h : Gam.pureD Γ f args = some (.v (.bool b))) : ∃ bx, Γ (.fn f) args [] = some (.v (.bool b), bx) := by
  unfold Gam.pureD at h
  split at h
  · rename_i x bx e
    refine ⟨bx, ?_⟩
    rw [e]
    cases x <;> simp only [X.data, Option.map_eq_some_iff, Option.some.injEq, X.v.injEq, reduceCtorEq, and_false, exists_false] at h
    rw [h]
  · cases h
def zIe : Value := .int .i64 0
def zTe : Value := .string ⟨#[]⟩
def zSe : Value := .slice none 0 0
/-- All zero. -/
def zeroArgs : Array Value := #[.agg #[.int .u8 0, .int .u8 0, .int .u8 0, .int .u8 0, .int .u8 0], zSe]

set_option maxRecDepth 100000 in
theorem aggregatorruns_lifted (os : Os) (started : os.Started) (H : Type) (enc : TypeId × Value → H) :
    ReturnsInHanded {} Tryz.checked os 9 .any (fun w args => (Rows.aggregatorRunsSpec.pre enc Tryz.prog Tryz.f9 Rows.aggregatorRunsRow.domain false w args ∧ laidMetH Tryz.prog laidZ w) ∧ sizedMet enc Tryz.prog Tryz.f9 (OpenSpec.ofChange Rows.aggregatorRunsSpec) false w args)
      (Rows.aggregatorRunsSpec.post enc Tryz.prog Tryz.f9 false true false false) := by
  refine returnsInHanded_of_change_and (C := Tryz.checked) (X := fun w _ => laidMetH Tryz.prog laidZ w) (fun _ _ _ hh h => h.of_heap hh) Tryz.own started (by kernel_rfl) Tryz.func9
    (ChangeSpec.witness_shaped (enc := enc) (C := Tryz.checked) (os := os) (X := fun w _ => laidMetH Tryz.prog laidZ w) false (World.laidAll Tryz.prog os laidZ) zeroArgs 12 (World.laidAll_os _ _ _)
      (World.shaped_of_ZipB (by kernel_rfl) (by kernel_rfl)) (by kernel_rfl) (by kernel_rfl) (by kernel_rfl)
      (by rw [MakeChecks.laidMetH_plain _ _ _ (by kernel_rfl)]; exact laidMet_laidAll _ (by kernel_rfl) (by kernel_rfl))) ?_
  intro W base args ds gs before hval hW _ _ hL _
  refine lifted_true (P := Tryz.prog) (Γ := callF tab ext) machine tysA_kids (kids_some tysA_ok) (kids_full tysA_ok) (fun t ht => ?_) (tb := 4) rfl underA4 rfl (fun ds hds => ?_) (fun xss hlen hsh => ?_) W (globOk hL) base args ds gs before hval hW
  · rw [params_aggregatorruns] at ht
    exact ⟨par_aggregatorruns ht, tysA_lt (par_aggregatorruns ht)⟩
  · match ds, hds with
    | [_, _], _ => rfl
  · match xss, hlen with
    | [x0, x1], _ =>
      obtain ⟨_, h0⟩ := hsh 0 38 x0 rfl rfl
      obtain ⟨_, h1⟩ := hsh 1 22 x1 rfl rfl
      obtain ⟨a, b, c, d, e, ha, hb, hc, hd, he, rfl⟩ := shape_sk h0
      obtain ⟨l, hl, rfl⟩ := shape_evs h1
      obtain ⟨bx, hbx⟩ := pure_out (runs_all a b c d e hb l 194001 (by omega))
      refine ⟨194001, bx, ?_⟩
      have : argsX Tryz.prog Tryz.f9.params.toList [[u8X a, u8X b, u8X c, u8X d, u8X e], [.sl false 4 (evC l)]] = [skX a b c d e, .sl false 4 (evC l)] := by
        kernel_rfl
      rw [this]
      exact hbx

set_option maxRecDepth 100000
theorem aggregatorruns_a1 : (Rows.aggregatorRunsRow.inPlace == Tryz.prog.inPlace 9) = true := by kernel_rfl
theorem aggregatorruns_a2 : (Rows.aggregatorRunsRow.unfollowed == Tryz.prog.unfollowed 9) = true := by kernel_rfl
theorem aggregatorruns_a3 : (Rows.aggregatorRunsRow.recurses == Tryz.prog.recurses 9) = true := by kernel_rfl
theorem aggregatorruns_a4 : (Rows.aggregatorRunsRow.named == Tryz.prog.varsNamed 9) = true := by kernel_rfl
theorem aggregatorruns_b1 : (Rows.aggregatorRunsRow.wf (OpenSpec.ofChange Rows.aggregatorRunsSpec) && Tryz.f9.params.all (Tryz.prog.readableRec ·) && namedTie Tryz.prog Rows.aggregatorRunsRow.named Rows.aggregatorRunsSpec.vars && (Rows.aggregatorRunsRow.stops == []) && (Rows.aggregatorRunsRow.knobs == [])) = true := by kernel_rfl
theorem aggregatorruns_b2 : ((Rows.aggregatorRunsRow.maps == (Tryz.f9.params.toList ++ Rows.aggregatorRunsSpec.plain.varTypes Tryz.prog).any (Tryz.prog.mapsRec ·)) && (Rows.aggregatorRunsRow.ifaces == (Tryz.f9.params.toList ++ Rows.aggregatorRunsSpec.plain.varTypes Tryz.prog).any (Tryz.prog.ifacesRec ·)) && (Rows.aggregatorRunsRow.mapsOut == Tryz.prog.mapsAmong Tryz.f9.resultTypes.toList) &&
      (Rows.aggregatorRunsRow.loops == (Tryz.f9.params.toList ++ Rows.aggregatorRunsSpec.plain.varTypes Tryz.prog).any (Tryz.prog.loopsFrom ·)) && (Rows.aggregatorRunsRow.wideKeys == (Tryz.f9.params.toList ++ Rows.aggregatorRunsSpec.plain.varTypes Tryz.prog ++ Tryz.f9.resultTypes.toList).any (Tryz.prog.wideKeysFrom ·))) = true := by kernel_rfl
theorem aggregatorruns_b3 : (Rows.aggregatorRunsSpec.vars.all (Tryz.prog.varReadable ·) && Tryz.f9.resultTypes.all (fun t => Tryz.prog.readableRec t && decide (t < Tryz.prog.types.size)) && (Rows.aggregatorRunsRow.ifacesOut == Tryz.f9.resultTypes.toList.any (Tryz.prog.ifacesRec ·)) && (Rows.aggregatorRunsRow.loopsOut == Tryz.f9.resultTypes.toList.any (Tryz.prog.loopsFrom ·)) && Rows.aggregatorRunsRow.shortTexts.isNone) = true := by kernel_rfl
theorem aggregatorruns_b4 : ((Rows.aggregatorRunsRow.kinds == (if Rows.aggregatorRunsRow.domain.isEmpty then [] else Tryz.f9.params.toList.map fun t => match Tryz.prog.underlying t with | some (.int k) => some k | _ => none)) && (Rows.aggregatorRunsRow.pinned == Rows.aggregatorRunsRow.pinnedBy) &&
      (Rows.aggregatorRunsRow.veiled == (Tryz.f9.params.toList ++ Rows.aggregatorRunsSpec.plain.varTypes Tryz.prog ++ Tryz.f9.resultTypes.toList).any (Tryz.prog.veiledRec ·)) && Rows.aggregatorRunsRow.veiledFits Tryz.prog Tryz.f9.params.toList (Tryz.f9.params.toList ++ Rows.aggregatorRunsSpec.plain.varTypes Tryz.prog ++ Tryz.f9.resultTypes.toList)) = true := by kernel_rfl
theorem aggregatorruns_named : Tryz.prog.funcNamed "manifold/manifoldlaw33.AggregatorRuns" = some 9 := by kernel_rfl
theorem aggregatorruns_ids : decide (Tryz.f9.isInstance Tryz.prog Rows.aggregatorRunsRow.origin Rows.aggregatorRunsRow.targs) = true := by kernel_rfl
theorem aggregatorruns_wrap : Tryz.f9.isWrapper Tryz.prog Rows.aggregatorRunsRow.wrapper Rows.aggregatorRunsRow.mainSum := by unfold Func.isWrapper; rw [if_neg (by decide +kernel)]; exact ⟨rfl, rfl⟩
theorem aggregatorruns_joined : joinedFacts Tryz.prog 9 Tryz.f9 Rows.aggregatorRunsSpec Rows.aggregatorRunsRow = true :=
  joined_of Tryz.laidOut Tryz.rowed jf_stops jf_heard jf_enter aggregatorruns_a1 aggregatorruns_a2 aggregatorruns_a3 aggregatorruns_a4 aggregatorruns_b1 aggregatorruns_b2 aggregatorruns_b3
    (by rw [jf_plain]; rfl) (by rw [jf_lifted]; rfl) jf_make aggregatorruns_b4
theorem aggregatorruns_holds : Rows.AggregatorRunsSaid :=
  OpenClaim.holds_of_wide 9 Tryz.f9 rfl rfl rfl rfl rfl rfl rfl ⟨rfl, rfl, rfl, rfl, rfl⟩ rfl rfl rfl rfl rfl aggregatorruns_named Tryz.func9 aggregatorruns_joined
    (of_decide_eq_true aggregatorruns_ids) aggregatorruns_wrap
    (fun os started H enc _ => aggregatorruns_lifted os started H enc)
theorem aggregatorruns_text : Rows.aggregatorRunsRow.wfByText (OpenSpec.ofChange Rows.aggregatorRunsSpec) = true := by kernel_rfl
theorem aggregatorruns_goes : false = Rows.aggregatorRunsRow.goesBy Tryz.prog := by kernel_rfl
theorem aggregatorruns_stand : ((([38, 22] : List TypeId).all fun u => !Tryz.prog.wantsStandIn u) = true) ∧ Tryz.f9.params = #[38, 22] := ⟨by kernel_rfl, by kernel_rfl⟩
theorem aggregatorruns_card : Rows.AggregatorRunsCardSaid :=
  Claim7.holds_tied_plain_at .later [] [.data, .data, .data, .data, .sentinel, .sentinel, .pinned] true (true, "e15099fc63cc0bc118a020bcfff1e703ab89f15ffb4a8b79179d5edd75f9483d") true aggregatorruns_holds (fun _ h => by cases h) aggregatorruns_text (fun _ h => by cases h) aggregatorRuns_row_tie rfl ⟨rfl, rfl⟩ jf_main rfl
    (fun f fn hf hfn => by
      obtain rfl : f = 9 := Option.some.inj (aggregatorruns_named.symm.trans hf) |>.symm
      obtain rfl : fn = Tryz.f9 := (Option.some.inj (Tryz.func9.symm.trans hfn)).symm
      refine ⟨jf_looks, fun j t ht => ?_⟩
      rw [aggregatorruns_stand.2] at ht
      have hm : t ∈ ([38, 22] : List TypeId) := by simpa using Array.mem_of_getElem? ht
      exact (show Tryz.prog.wantsStandIn t = false by simpa using List.all_eq_true.1 aggregatorruns_stand.1 t hm))
    aggregatorruns_goes
end Go.Proofs.YthphniobeigklaaGreatDoor
