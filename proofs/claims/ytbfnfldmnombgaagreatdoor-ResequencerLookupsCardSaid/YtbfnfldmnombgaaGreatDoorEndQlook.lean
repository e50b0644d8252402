/- ResequencerLookups: the row, and its tied card. Conditions: none. -/
import Derived.Test.YtbfnfldmnombgaaGreatDoorCards
import Derived.Test.YtbfnfldmnombgaaGreatDoorTie
import Derived.OpenShut
import Derived.SevenTiedAt
import Derived.Stop.Joined
import Derived.Test.YtbfnfldmnombgaaGreatDoorQ16
import Derived.Test.YtbfnfldmnombgaaGreatDoorQ24
import Derived.Test.YtbfnfldmnombgaaGreatDoorQ25
namespace Go.Proofs.YtbfnfldmnombgaaGreatDoor
open Go.ChangeShapes Go.WideShapes Go.ChangeAt Go.RowKit Go.Em

theorem params_resequencerlookups : Tryz.f4.params.toList = [34, 37, 47] := by kernel_rfl
theorem par_resequencerlookups {t : TypeId} (h : t ∈ ([34, 37, 47] : List TypeId)) : t ∈ tys := by
  simp only [List.mem_cons, List.not_mem_nil, or_false] at h
  rcases h with rfl | rfl | rfl
  · decide
  · decide
  · decide

def zI : Value := .int .i64 0
def zT : Value := .string ⟨#[]⟩
def zS : Value := .slice none 0 0
/-- All zero. -/
def zeroArgs : Array Value := #[.agg #[zT, zI, zI, zI, zI, zI, zI, zT, zI, zI, zI, zI, zS, zS, zS, zS, zS, zS, zS, zS], .agg #[zI, zI, zS], .agg #[zI, zI, zI, zT, zS, zS]]

set_option maxRecDepth 100000 in
theorem resequencerlookups_lifted (os : Os) (started : os.Started) (H : Type) (enc : TypeId × Value → H) :
    ReturnsInHanded {} Tryz.checked os 4 .any (fun w args => (Rows.resequencerLookupsSpec.pre enc Tryz.prog Tryz.f4 Rows.resequencerLookupsRow.domain false w args ∧ laidMetH Tryz.prog laidZ w) ∧ sizedMet enc Tryz.prog Tryz.f4 (OpenSpec.ofChange Rows.resequencerLookupsSpec) false w args)
      (Rows.resequencerLookupsSpec.post enc Tryz.prog Tryz.f4 false true false false) := by
  refine returnsInHanded_of_change_and (C := Tryz.checked) (X := fun w _ => laidMetH Tryz.prog laidZ w) (fun _ _ _ hh h => h.of_heap hh) Tryz.own started (by kernel_rfl) Tryz.func4
    (ChangeSpec.witness_shaped (enc := enc) (C := Tryz.checked) (os := os) (X := fun w _ => laidMetH Tryz.prog laidZ w) false (World.laidAll Tryz.prog os laidZ) zeroArgs 12 (World.laidAll_os _ _ _)
      (World.shaped_of_ZipB (by kernel_rfl) (by kernel_rfl)) (by kernel_rfl) (by kernel_rfl) (by kernel_rfl)
      (by rw [MakeChecks.laidMetH_plain _ _ _ (by kernel_rfl)]; exact laidMet_laidAll _ (by kernel_rfl) (by kernel_rfl))) ?_
  intro W base args ds gs before hval hW _ _ hL _
  refine lifted_true (P := Tryz.prog) (Γ := callF tab ext) machine tys_kids (kids_some tys_ok) (kids_full tys_ok) (fun t ht => ?_) (tb := 4) rfl under4 rfl (fun ds hds => ?_) (fun xss hlen hsh => ?_) W (globOk hL) base args ds gs before hval hW
  · rw [params_resequencerlookups] at ht
    exact ⟨par_resequencerlookups ht, tys_lt (par_resequencerlookups ht)⟩
  · match ds, hds with
    | [_, _, _], _ => rfl
  · match xss, hlen with
    | [x0, x1, x2], _ =>
      obtain ⟨_, h0⟩ := hsh 0 34 x0 rfl rfl
      obtain ⟨_, h1⟩ := hsh 1 37 x1 rfl rfl
      obtain ⟨_, h2⟩ := hsh 2 47 x2 rfl rfl
      have hn := shape_node h0
      obtain ⟨s, rfl⟩ := shape_stt h1
      obtain ⟨i, rfl⟩ := shape_val _ _ h2
      refine ⟨260301, [], ?_⟩
      have : argsX Tryz.prog Tryz.f4.params.toList [x0, s.cells, i.cells] = [.agg x0, .agg s.cells, .agg i.cells] := by
        kernel_rfl
      rw [this]
      exact qlook_all x0 hn s i

set_option maxRecDepth 100000
theorem resequencerlookups_a1 : (Rows.resequencerLookupsRow.inPlace == Tryz.prog.inPlace 4) = true := by kernel_rfl
theorem resequencerlookups_a2 : (Rows.resequencerLookupsRow.unfollowed == Tryz.prog.unfollowed 4) = true := by kernel_rfl
theorem resequencerlookups_a3 : (Rows.resequencerLookupsRow.recurses == Tryz.prog.recurses 4) = true := by kernel_rfl
theorem resequencerlookups_a4 : (Rows.resequencerLookupsRow.named == Tryz.prog.varsNamed 4) = true := by kernel_rfl
theorem resequencerlookups_b1 : (Rows.resequencerLookupsRow.wf (OpenSpec.ofChange Rows.resequencerLookupsSpec) && Tryz.f4.params.all (Tryz.prog.readableRec ·) && namedTie Tryz.prog Rows.resequencerLookupsRow.named Rows.resequencerLookupsSpec.vars && (Rows.resequencerLookupsRow.stops == []) && (Rows.resequencerLookupsRow.knobs == [])) = true := by kernel_rfl
theorem resequencerlookups_b2 : ((Rows.resequencerLookupsRow.maps == (Tryz.f4.params.toList ++ Rows.resequencerLookupsSpec.plain.varTypes Tryz.prog).any (Tryz.prog.mapsRec ·)) && (Rows.resequencerLookupsRow.ifaces == (Tryz.f4.params.toList ++ Rows.resequencerLookupsSpec.plain.varTypes Tryz.prog).any (Tryz.prog.ifacesRec ·)) && (Rows.resequencerLookupsRow.mapsOut == Tryz.prog.mapsAmong Tryz.f4.resultTypes.toList) &&
      (Rows.resequencerLookupsRow.loops == (Tryz.f4.params.toList ++ Rows.resequencerLookupsSpec.plain.varTypes Tryz.prog).any (Tryz.prog.loopsFrom ·)) && (Rows.resequencerLookupsRow.wideKeys == (Tryz.f4.params.toList ++ Rows.resequencerLookupsSpec.plain.varTypes Tryz.prog ++ Tryz.f4.resultTypes.toList).any (Tryz.prog.wideKeysFrom ·))) = true := by kernel_rfl
theorem resequencerlookups_b3 : (Rows.resequencerLookupsSpec.vars.all (Tryz.prog.varReadable ·) && Tryz.f4.resultTypes.all (fun t => Tryz.prog.readableRec t && decide (t < Tryz.prog.types.size)) && (Rows.resequencerLookupsRow.ifacesOut == Tryz.f4.resultTypes.toList.any (Tryz.prog.ifacesRec ·)) && (Rows.resequencerLookupsRow.loopsOut == Tryz.f4.resultTypes.toList.any (Tryz.prog.loopsFrom ·)) && Rows.resequencerLookupsRow.shortTexts.isNone) = true := by kernel_rfl
theorem resequencerlookups_b4 : ((Rows.resequencerLookupsRow.kinds == (if Rows.resequencerLookupsRow.domain.isEmpty then [] else Tryz.f4.params.toList.map fun t => match Tryz.prog.underlying t with | some (.int k) => some k | _ => none)) && (Rows.resequencerLookupsRow.pinned == Rows.resequencerLookupsRow.pinnedBy) &&
      (Rows.resequencerLookupsRow.veiled == (Tryz.f4.params.toList ++ Rows.resequencerLookupsSpec.plain.varTypes Tryz.prog ++ Tryz.f4.resultTypes.toList).any (Tryz.prog.veiledRec ·)) && Rows.resequencerLookupsRow.veiledFits Tryz.prog Tryz.f4.params.toList (Tryz.f4.params.toList ++ Rows.resequencerLookupsSpec.plain.varTypes Tryz.prog ++ Tryz.f4.resultTypes.toList)) = true := by kernel_rfl
theorem resequencerlookups_named : Tryz.prog.funcNamed "manifold/manifoldlaw34.ResequencerLookups" = some 4 := by kernel_rfl
theorem resequencerlookups_ids : decide (Tryz.f4.isInstance Tryz.prog Rows.resequencerLookupsRow.origin Rows.resequencerLookupsRow.targs) = true := by kernel_rfl
theorem resequencerlookups_wrap : Tryz.f4.isWrapper Tryz.prog Rows.resequencerLookupsRow.wrapper Rows.resequencerLookupsRow.mainSum := by unfold Func.isWrapper; rw [if_neg (by decide +kernel)]; exact ⟨rfl, rfl⟩
theorem resequencerlookups_joined : joinedFacts Tryz.prog 4 Tryz.f4 Rows.resequencerLookupsSpec Rows.resequencerLookupsRow = true :=
  joined_of Tryz.laidOut Tryz.rowed jf_stops jf_heard jf_enter resequencerlookups_a1 resequencerlookups_a2 resequencerlookups_a3 resequencerlookups_a4 resequencerlookups_b1 resequencerlookups_b2 resequencerlookups_b3
    (by rw [jf_plain]; rfl) (by rw [jf_lifted]; rfl) jf_make resequencerlookups_b4
theorem resequencerlookups_holds : Rows.ResequencerLookupsSaid :=
  OpenClaim.holds_of_wide 4 Tryz.f4 rfl rfl rfl rfl rfl rfl rfl ⟨rfl, rfl, rfl, rfl, rfl⟩ rfl rfl rfl rfl rfl resequencerlookups_named Tryz.func4 resequencerlookups_joined
    (of_decide_eq_true resequencerlookups_ids) resequencerlookups_wrap
    (fun os started H enc _ => resequencerlookups_lifted os started H enc)
theorem resequencerlookups_text : Rows.resequencerLookupsRow.wfByText (OpenSpec.ofChange Rows.resequencerLookupsSpec) = true := by kernel_rfl
theorem resequencerlookups_goes : false = Rows.resequencerLookupsRow.goesBy Tryz.prog := by kernel_rfl
theorem resequencerlookups_stand : ((([34, 37, 47] : List TypeId).all fun u => !Tryz.prog.wantsStandIn u) = true) ∧ Tryz.f4.params = #[34, 37, 47] := ⟨by kernel_rfl, by kernel_rfl⟩
theorem resequencerlookups_card : Rows.ResequencerLookupsCardSaid :=
  Claim7.holds_tied_plain_at .later [] [.data, .data, .data, .data, .sentinel, .sentinel, .pinned] true (true, "0f28a108ba334a8a968fe413680ca18c42c7c4af5cf0db121197b6d64349fb55") true resequencerlookups_holds (fun _ h => by cases h) resequencerlookups_text (fun _ h => by cases h) resequencerLookups_row_tie rfl ⟨rfl, rfl⟩ jf_main rfl
    (fun f fn hf hfn => by
      obtain rfl : f = 4 := Option.some.inj (resequencerlookups_named.symm.trans hf) |>.symm
      obtain rfl : fn = Tryz.f4 := (Option.some.inj (Tryz.func4.symm.trans hfn)).symm
      refine ⟨jf_looks, fun j t ht => ?_⟩
      rw [resequencerlookups_stand.2] at ht
      have hm : t ∈ ([34, 37, 47] : List TypeId) := by simpa using Array.mem_of_getElem? ht
      exact (show Tryz.prog.wantsStandIn t = false by simpa using List.all_eq_true.1 resequencerlookups_stand.1 t hm))
    resequencerlookups_goes
end Go.Proofs.YtbfnfldmnombgaaGreatDoor
