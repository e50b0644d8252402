/- AggregatorCounts: the row, and its tied card. Conditions: none. -/
import Derived.Test.YthphniobeigklaaGreatDoorCards
import Derived.Test.YthphniobeigklaaGreatDoorTie
import Derived.Test.YthphniobeigklaaGreatDoorA18
import Derived.Test.YthphniobeigklaaGreatDoorA22
set_option linter.all false
namespace Go.Proofs.YthphniobeigklaaGreatDoor
open Go.ChangeShapes Go.WideShapes Go.ChangeAt Go.RowKit Go.Em Go.Proofs.YthphniobeigklaaGreatDoor.Ag

theorem params_aggregatorcounts : Tryz.f3.params.toList = [5, 22] := by kernel_rfl
theorem par_aggregatorcounts {t : TypeId} (h : t ∈ ([5, 22] : List TypeId)) : t ∈ tysA := by
  simp only [List.mem_cons, List.not_mem_nil, or_false] at h
  rcases h with rfl | rfl
  · decide
  · decide

theorem pure_out {Γ : Gam} {f : FuncId} {args : List X} {b : Bool} (h : Gam.pureD Γ f args = some (.v (.bool b))) : ∃ bx, Γ (.fn f) args [] = some (.v (.bool b), bx) := by
  unfold Gam.pureD at h
  split at h
  · rename_i x bx e
    refine ⟨bx, ?_⟩
    rw [e]
    cases x <;> simp only [X.data, Option.map_eq_some_iff, Option.some.injEq, X.v.injEq, reduceCtorEq, and_false, exists_false] at h
    rw [h]
  · cases h
def zIe : Value := .int .i64 0
def zTe : Value := .string ⟨#[]⟩
def zSe : Value := .slice none 0 0
/-- All zero. -/
def zeroArgs : Array Value := #[.int .u8 0, zSe]

set_option maxRecDepth 100000 in
theorem aggregatorcounts_lifted (os : Os) (started : os.Started) (H : Type) (enc : TypeId × Value → H) :
    ReturnsInHanded {} Tryz.checked os 3 .any (fun w args => (Rows.aggregatorCountsSpec.pre enc Tryz.prog Tryz.f3 Rows.aggregatorCountsRow.domain false w args ∧ laidMetH Tryz.prog laidZ w) ∧ sizedMet enc Tryz.prog Tryz.f3 (OpenSpec.ofChange Rows.aggregatorCountsSpec) false w args)
      (Rows.aggregatorCountsSpec.post enc Tryz.prog Tryz.f3 false true false false) := by
  refine returnsInHanded_of_change_and (C := Tryz.checked) (X := fun w _ => laidMetH Tryz.prog laidZ w) (fun _ _ _ hh h => h.of_heap hh) Tryz.own started (by kernel_rfl) Tryz.func3
    (ChangeSpec.witness_shaped (enc := enc) (C := Tryz.checked) (os := os) (X := fun w _ => laidMetH Tryz.prog laidZ w) false (World.laidAll Tryz.prog os laidZ) zeroArgs 12 (World.laidAll_os _ _ _)
      (World.shaped_of_ZipB (by kernel_rfl) (by kernel_rfl)) (by kernel_rfl) (by kernel_rfl) (by kernel_rfl)
      (by rw [MakeChecks.laidMetH_plain _ _ _ (by kernel_rfl)]; exact laidMet_laidAll _ (by kernel_rfl) (by kernel_rfl))) ?_
  intro W base args ds gs before hval hW _ _ hL _
  refine lifted_true (P := Tryz.prog) (Γ := callF tab ext) machine tysA_kids (kids_some tysA_ok) (kids_full tysA_ok) (fun t ht => ?_) (tb := 4) rfl underA4 rfl (fun ds hds => ?_) (fun xss hlen hsh => ?_) W (globOk hL) base args ds gs before hval hW
  · rw [params_aggregatorcounts] at ht
    exact ⟨par_aggregatorcounts ht, tysA_lt (par_aggregatorcounts ht)⟩
  · match ds, hds with
    | [_, _], _ => rfl
  · match xss, hlen with
    | [x0, x1], _ =>
      obtain ⟨_, h0⟩ := hsh 0 5 x0 rfl rfl
      obtain ⟨_, h1⟩ := hsh 1 22 x1 rfl rfl
      obtain ⟨w, hw, rfl⟩ := shape_u8 h0
      obtain ⟨l, hl, rfl⟩ := shape_evs h1
      obtain ⟨bx, hbx⟩ := pure_out (counts_all w hw l 194001 (by omega))
      refine ⟨194001, bx, ?_⟩
      have : argsX Tryz.prog Tryz.f3.params.toList [[u8X w], [.sl false 4 (evC l)]] = [u8X w, .sl false 4 (evC l)] := by
        kernel_rfl
      rw [this]
      exact hbx

set_option maxRecDepth 100000
theorem aggregatorcounts_a1 : (Rows.aggregatorCountsRow.inPlace == Tryz.prog.inPlace 3) = true := by kernel_rfl
theorem aggregatorcounts_a2 : (Rows.aggregatorCountsRow.unfollowed == Tryz.prog.unfollowed 3) = true := by kernel_rfl
theorem aggregatorcounts_a3 : (Rows.aggregatorCountsRow.recurses == Tryz.prog.recurses 3) = true := by kernel_rfl
theorem aggregatorcounts_a4 : (Rows.aggregatorCountsRow.named == Tryz.prog.varsNamed 3) = true := by kernel_rfl
theorem aggregatorcounts_b1 : (Rows.aggregatorCountsRow.wf (OpenSpec.ofChange Rows.aggregatorCountsSpec) && Tryz.f3.params.all (Tryz.prog.readableRec ·) && namedTie Tryz.prog Rows.aggregatorCountsRow.named Rows.aggregatorCountsSpec.vars && (Rows.aggregatorCountsRow.stops == []) && (Rows.aggregatorCountsRow.knobs == [])) = true := by kernel_rfl
theorem aggregatorcounts_b2 : ((Rows.aggregatorCountsRow.maps == (Tryz.f3.params.toList ++ Rows.aggregatorCountsSpec.plain.varTypes Tryz.prog).any (Tryz.prog.mapsRec ·)) && (Rows.aggregatorCountsRow.ifaces == (Tryz.f3.params.toList ++ Rows.aggregatorCountsSpec.plain.varTypes Tryz.prog).any (Tryz.prog.ifacesRec ·)) && (Rows.aggregatorCountsRow.mapsOut == Tryz.prog.mapsAmong Tryz.f3.resultTypes.toList) &&
      (Rows.aggregatorCountsRow.loops == (Tryz.f3.params.toList ++ Rows.aggregatorCountsSpec.plain.varTypes Tryz.prog).any (Tryz.prog.loopsFrom ·)) && (Rows.aggregatorCountsRow.wideKeys == (Tryz.f3.params.toList ++ Rows.aggregatorCountsSpec.plain.varTypes Tryz.prog ++ Tryz.f3.resultTypes.toList).any (Tryz.prog.wideKeysFrom ·))) = true := by kernel_rfl
theorem aggregatorcounts_b3 : (Rows.aggregatorCountsSpec.vars.all (Tryz.prog.varReadable ·) && Tryz.f3.resultTypes.all (fun t => Tryz.prog.readableRec t && decide (t < Tryz.prog.types.size)) && (Rows.aggregatorCountsRow.ifacesOut == Tryz.f3.resultTypes.toList.any (Tryz.prog.ifacesRec ·)) && (Rows.aggregatorCountsRow.loopsOut == Tryz.f3.resultTypes.toList.any (Tryz.prog.loopsFrom ·)) && Rows.aggregatorCountsRow.shortTexts.isNone) = true := by kernel_rfl
theorem aggregatorcounts_b4 : ((Rows.aggregatorCountsRow.kinds == (if Rows.aggregatorCountsRow.domain.isEmpty then [] else Tryz.f3.params.toList.map fun t => match Tryz.prog.underlying t with | some (.int k) => some k | _ => none)) && (Rows.aggregatorCountsRow.pinned == Rows.aggregatorCountsRow.pinnedBy) &&
      (Rows.aggregatorCountsRow.veiled == (Tryz.f3.params.toList ++ Rows.aggregatorCountsSpec.plain.varTypes Tryz.prog ++ Tryz.f3.resultTypes.toList).any (Tryz.prog.veiledRec ·)) && Rows.aggregatorCountsRow.veiledFits Tryz.prog Tryz.f3.params.toList (Tryz.f3.params.toList ++ Rows.aggregatorCountsSpec.plain.varTypes Tryz.prog ++ Tryz.f3.resultTypes.toList)) = true := by kernel_rfl
theorem aggregatorcounts_named : Tryz.prog.funcNamed "manifold/manifoldlaw33.AggregatorCounts" = some 3 := by kernel_rfl
theorem aggregatorcounts_ids : decide (Tryz.f3.isInstance Tryz.prog Rows.aggregatorCountsRow.origin Rows.aggregatorCountsRow.targs) = true := by kernel_rfl
theorem aggregatorcounts_wrap : Tryz.f3.isWrapper Tryz.prog Rows.aggregatorCountsRow.wrapper Rows.aggregatorCountsRow.mainSum := by unfold Func.isWrapper; rw [if_neg (by decide +kernel)]; exact ⟨rfl, rfl⟩
theorem aggregatorcounts_joined : joinedFacts Tryz.prog 3 Tryz.f3 Rows.aggregatorCountsSpec Rows.aggregatorCountsRow = true :=
  joined_of Tryz.laidOut Tryz.rowed jf_stops jf_heard jf_enter aggregatorcounts_a1 aggregatorcounts_a2 aggregatorcounts_a3 aggregatorcounts_a4 aggregatorcounts_b1 aggregatorcounts_b2 aggregatorcounts_b3
    (by rw [jf_plain]; rfl) (by rw [jf_lifted]; rfl) jf_make aggregatorcounts_b4
theorem aggregatorcounts_holds : Rows.AggregatorCountsSaid :=
  OpenClaim.holds_of_wide 3 Tryz.f3 rfl rfl rfl rfl rfl rfl rfl ⟨rfl, rfl, rfl, rfl, rfl⟩ rfl rfl rfl rfl rfl aggregatorcounts_named Tryz.func3 aggregatorcounts_joined
    (of_decide_eq_true aggregatorcounts_ids) aggregatorcounts_wrap
    (fun os started H enc _ => aggregatorcounts_lifted os started H enc)
theorem aggregatorcounts_text : Rows.aggregatorCountsRow.wfByText (OpenSpec.ofChange Rows.aggregatorCountsSpec) = true := by kernel_rfl
theorem aggregatorcounts_goes : false = Rows.aggregatorCountsRow.goesBy Tryz.prog := by kernel_rfl
theorem aggregatorcounts_stand : ((([5, 22] : List TypeId).all fun u => !Tryz.prog.wantsStandIn u) = true) ∧ Tryz.f3.params = #[5, 22] := ⟨by kernel_rfl, by kernel_rfl⟩
theorem aggregatorcounts_card : Rows.AggregatorCountsCardSaid :=
  Claim7.holds_tied_plain_at .later [] [.data, .data, .data, .data, .sentinel, .sentinel, .pinned] true (true, "e15099fc63cc0bc118a020bcfff1e703ab89f15ffb4a8b79179d5edd75f9483d") true aggregatorcounts_holds (fun _ h => by cases h) aggregatorcounts_text (fun _ h => by cases h) aggregatorCounts_row_tie rfl ⟨rfl, rfl⟩ jf_main rfl
    (fun f fn hf hfn => by
      obtain rfl : f = 3 := Option.some.inj (aggregatorcounts_named.symm.trans hf) |>.symm
      obtain rfl : fn = Tryz.f3 := (Option.some.inj (Tryz.func3.symm.trans hfn)).symm
      refine ⟨jf_looks, fun j t ht => ?_⟩
      rw [aggregatorcounts_stand.2] at ht
      have hm : t ∈ ([5, 22] : List TypeId) := by simpa using Array.mem_of_getElem? ht
      exact (show Tryz.prog.wantsStandIn t = false by simpa using List.all_eq_true.1 aggregatorcounts_stand.1 t hm))
    aggregatorcounts_goes
end Go.Proofs.YthphniobeigklaaGreatDoor
