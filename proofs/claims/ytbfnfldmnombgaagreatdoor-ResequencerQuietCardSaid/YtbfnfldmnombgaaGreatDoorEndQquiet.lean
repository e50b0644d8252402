/- ResequencerQuiet: the row, and its tied card. Conditions: none. -/
import Derived.Test.YtbfnfldmnombgaaGreatDoorCards
import Derived.Test.YtbfnfldmnombgaaGreatDoorTie
import Derived.OpenShut
import Derived.SevenTiedAt
import Derived.Stop.Joined
import Derived.Test.YtbfnfldmnombgaaGreatDoorQ16
import Derived.Test.YtbfnfldmnombgaaGreatDoorQ24
import Derived.Test.YtbfnfldmnombgaaGreatDoorQ28
namespace Go.Proofs.YtbfnfldmnombgaaGreatDoor
open Go.ChangeShapes Go.WideShapes Go.ChangeAt Go.RowKit Go.Em

theorem params_resequencerquiet : Tryz.f5.params.toList = [34, 37, 53] := by kernel_rfl
theorem par_resequencerquiet {t : TypeId} (h : t ∈ ([34, 37, 53] : List TypeId)) : t ∈ tys := by
  simp only [List.mem_cons, List.not_mem_nil, or_false] at h
  rcases h with rfl | rfl | rfl
  · decide
  · decide
  · decide

def zI : Value := .int .i64 0
def zT : Value := .string ⟨#[]⟩
def zS : Value := .slice none 0 0
/-- All zero. -/
def zeroArgs : Array Value := #[.agg #[zT, zI, zI, zI, zI, zI, zI, zT, zI, zI, zI, zI, zS, zS, zS, zS, zS, zS, zS, zS], .agg #[zI, zI, zS], .agg #[zI, zI, zI, zS, zI, zS, zI, zS, zI, zI, zI, zT, zS, zS, zI, .bool false, .bool false, zI, zI, zI, zT, zS, zS]]

set_option maxRecDepth 100000 in
theorem resequencerquiet_lifted (os : Os) (started : os.Started) (H : Type) (enc : TypeId × Value → H) :
    ReturnsInHanded {} Tryz.checked os 5 .any (fun w args => (Rows.resequencerQuietSpec.pre enc Tryz.prog Tryz.f5 Rows.resequencerQuietRow.domain false w args ∧ laidMetH Tryz.prog laidZ w) ∧ sizedMet enc Tryz.prog Tryz.f5 (OpenSpec.ofChange Rows.resequencerQuietSpec) false w args)
      (Rows.resequencerQuietSpec.post enc Tryz.prog Tryz.f5 false true false false) := by
  refine returnsInHanded_of_change_and (C := Tryz.checked) (X := fun w _ => laidMetH Tryz.prog laidZ w) (fun _ _ _ hh h => h.of_heap hh) Tryz.own started (by kernel_rfl) Tryz.func5
    (ChangeSpec.witness_shaped (enc := enc) (C := Tryz.checked) (os := os) (X := fun w _ => laidMetH Tryz.prog laidZ w) false (World.laidAll Tryz.prog os laidZ) zeroArgs 12 (World.laidAll_os _ _ _)
      (World.shaped_of_ZipB (by kernel_rfl) (by kernel_rfl)) (by kernel_rfl) (by kernel_rfl) (by kernel_rfl)
      (by rw [MakeChecks.laidMetH_plain _ _ _ (by kernel_rfl)]; exact laidMet_laidAll _ (by kernel_rfl) (by kernel_rfl))) ?_
  intro W base args ds gs before hval hW _ _ hL _
  refine lifted_true (P := Tryz.prog) (Γ := callF tab ext) machine tys_kids (kids_some tys_ok) (kids_full tys_ok) (fun t ht => ?_) (tb := 4) rfl under4 rfl (fun ds hds => ?_) (fun xss hlen hsh => ?_) W (globOk hL) base args ds gs before hval hW
  · rw [params_resequencerquiet] at ht
    exact ⟨par_resequencerquiet ht, tys_lt (par_resequencerquiet ht)⟩
  · match ds, hds with
    | [_, _, _], _ => rfl
  · match xss, hlen with
    | [x0, x1, x2], _ =>
      obtain ⟨_, h0⟩ := hsh 0 34 x0 rfl rfl
      obtain ⟨_, h1⟩ := hsh 1 37 x1 rfl rfl
      obtain ⟨_, h2⟩ := hsh 2 53 x2 rfl rfl
      have hn := shape_node h0
      obtain ⟨s, rfl⟩ := shape_stt h1
      obtain ⟨i, rfl⟩ := shape_inp h2
      refine ⟨260301, [], ?_⟩
      have : argsX Tryz.prog Tryz.f5.params.toList [x0, s.cells, i.cells] = [.agg x0, .agg s.cells, .agg i.cells] := by
        kernel_rfl
      rw [this]
      exact qquiet_all x0 hn s i

set_option maxRecDepth 100000
theorem resequencerquiet_a1 : (Rows.resequencerQuietRow.inPlace == Tryz.prog.inPlace 5) = true := by kernel_rfl
theorem resequencerquiet_a2 : (Rows.resequencerQuietRow.unfollowed == Tryz.prog.unfollowed 5) = true := by kernel_rfl
theorem resequencerquiet_a3 : (Rows.resequencerQuietRow.recurses == Tryz.prog.recurses 5) = true := by kernel_rfl
theorem resequencerquiet_a4 : (Rows.resequencerQuietRow.named == Tryz.prog.varsNamed 5) = true := by kernel_rfl
theorem resequencerquiet_b1 : (Rows.resequencerQuietRow.wf (OpenSpec.ofChange Rows.resequencerQuietSpec) && Tryz.f5.params.all (Tryz.prog.readableRec ·) && namedTie Tryz.prog Rows.resequencerQuietRow.named Rows.resequencerQuietSpec.vars && (Rows.resequencerQuietRow.stops == []) && (Rows.resequencerQuietRow.knobs == [])) = true := by kernel_rfl
theorem resequencerquiet_b2 : ((Rows.resequencerQuietRow.maps == (Tryz.f5.params.toList ++ Rows.resequencerQuietSpec.plain.varTypes Tryz.prog).any (Tryz.prog.mapsRec ·)) && (Rows.resequencerQuietRow.ifaces == (Tryz.f5.params.toList ++ Rows.resequencerQuietSpec.plain.varTypes Tryz.prog).any (Tryz.prog.ifacesRec ·)) && (Rows.resequencerQuietRow.mapsOut == Tryz.prog.mapsAmong Tryz.f5.resultTypes.toList) &&
      (Rows.resequencerQuietRow.loops == (Tryz.f5.params.toList ++ Rows.resequencerQuietSpec.plain.varTypes Tryz.prog).any (Tryz.prog.loopsFrom ·)) && (Rows.resequencerQuietRow.wideKeys == (Tryz.f5.params.toList ++ Rows.resequencerQuietSpec.plain.varTypes Tryz.prog ++ Tryz.f5.resultTypes.toList).any (Tryz.prog.wideKeysFrom ·))) = true := by kernel_rfl
theorem resequencerquiet_b3 : (Rows.resequencerQuietSpec.vars.all (Tryz.prog.varReadable ·) && Tryz.f5.resultTypes.all (fun t => Tryz.prog.readableRec t && decide (t < Tryz.prog.types.size)) && (Rows.resequencerQuietRow.ifacesOut == Tryz.f5.resultTypes.toList.any (Tryz.prog.ifacesRec ·)) && (Rows.resequencerQuietRow.loopsOut == Tryz.f5.resultTypes.toList.any (Tryz.prog.loopsFrom ·)) && Rows.resequencerQuietRow.shortTexts.isNone) = true := by kernel_rfl
theorem resequencerquiet_b4 : ((Rows.resequencerQuietRow.kinds == (if Rows.resequencerQuietRow.domain.isEmpty then [] else Tryz.f5.params.toList.map fun t => match Tryz.prog.underlying t with | some (.int k) => some k | _ => none)) && (Rows.resequencerQuietRow.pinned == Rows.resequencerQuietRow.pinnedBy) &&
      (Rows.resequencerQuietRow.veiled == (Tryz.f5.params.toList ++ Rows.resequencerQuietSpec.plain.varTypes Tryz.prog ++ Tryz.f5.resultTypes.toList).any (Tryz.prog.veiledRec ·)) && Rows.resequencerQuietRow.veiledFits Tryz.prog Tryz.f5.params.toList (Tryz.f5.params.toList ++ Rows.resequencerQuietSpec.plain.varTypes Tryz.prog ++ Tryz.f5.resultTypes.toList)) = true := by kernel_rfl
theorem resequencerquiet_named : Tryz.prog.funcNamed "manifold/manifoldlaw34.ResequencerQuiet" = some 5 := by kernel_rfl
theorem resequencerquiet_ids : decide (Tryz.f5.isInstance Tryz.prog Rows.resequencerQuietRow.origin Rows.resequencerQuietRow.targs) = true := by kernel_rfl
theorem resequencerquiet_wrap : Tryz.f5.isWrapper Tryz.prog Rows.resequencerQuietRow.wrapper Rows.resequencerQuietRow.mainSum := by unfold Func.isWrapper; rw [if_neg (by decide +kernel)]; exact ⟨rfl, rfl⟩
theorem resequencerquiet_joined : joinedFacts Tryz.prog 5 Tryz.f5 Rows.resequencerQuietSpec Rows.resequencerQuietRow = true :=
  joined_of Tryz.laidOut Tryz.rowed jf_stops jf_heard jf_enter resequencerquiet_a1 resequencerquiet_a2 resequencerquiet_a3 resequencerquiet_a4 resequencerquiet_b1 resequencerquiet_b2 resequencerquiet_b3
    (by rw [jf_plain]; rfl) (by rw [jf_lifted]; rfl) jf_make resequencerquiet_b4
theorem resequencerquiet_holds : Rows.ResequencerQuietSaid :=
  OpenClaim.holds_of_wide 5 Tryz.f5 rfl rfl rfl rfl rfl rfl rfl ⟨rfl, rfl, rfl, rfl, rfl⟩ rfl rfl rfl rfl rfl resequencerquiet_named Tryz.func5 resequencerquiet_joined
    (of_decide_eq_true resequencerquiet_ids) resequencerquiet_wrap
    (fun os started H enc _ => resequencerquiet_lifted os started H enc)
theorem resequencerquiet_text : Rows.resequencerQuietRow.wfByText (OpenSpec.ofChange Rows.resequencerQuietSpec) = true := by kernel_rfl
theorem resequencerquiet_goes : false = Rows.resequencerQuietRow.goesBy Tryz.prog := by kernel_rfl
theorem resequencerquiet_stand : ((([34, 37, 53] : List TypeId).all fun u => !Tryz.prog.wantsStandIn u) = true) ∧ Tryz.f5.params = #[34, 37, 53] := ⟨by kernel_rfl, by kernel_rfl⟩
theorem resequencerquiet_card : Rows.ResequencerQuietCardSaid :=
  Claim7.holds_tied_plain_at .later [] [.data, .data, .data, .data, .sentinel, .sentinel, .pinned] true (true, "0f28a108ba334a8a968fe413680ca18c42c7c4af5cf0db121197b6d64349fb55") true resequencerquiet_holds (fun _ h => by cases h) resequencerquiet_text (fun _ h => by cases h) resequencerQuiet_row_tie rfl ⟨rfl, rfl⟩ jf_main rfl
    (fun f fn hf hfn => by
      obtain rfl : f = 5 := Option.some.inj (resequencerquiet_named.symm.trans hf) |>.symm
      obtain rfl : fn = Tryz.f5 := (Option.some.inj (Tryz.func5.symm.trans hfn)).symm
      refine ⟨jf_looks, fun j t ht => ?_⟩
      rw [resequencerquiet_stand.2] at ht
      have hm : t ∈ ([34, 37, 53] : List TypeId) := by simpa using Array.mem_of_getElem? ht
      exact (show Tryz.prog.wantsStandIn t = false by simpa using List.all_eq_true.1 resequencerquiet_stand.1 t hm))
    resequencerquiet_goes
end Go.Proofs.YtbfnfldmnombgaaGreatDoor
