/- ResequencerChecks: the row, and its tied card. Conditions: none. -/
import Derived.Test.YtbfnfldmnombgaaGreatDoorCards
import Derived.Test.YtbfnfldmnombgaaGreatDoorTie
import Derived.OpenShut
import Derived.SevenTiedAt
import Derived.Stop.Joined
import Derived.Test.YtbfnfldmnombgaaGreatDoorQ16
import Derived.Test.YtbfnfldmnombgaaGreatDoorQ22
import Derived.Test.YtbfnfldmnombgaaGreatDoorQ24
namespace Go.Proofs.YtbfnfldmnombgaaGreatDoor
open Go.ChangeShapes Go.WideShapes Go.ChangeAt Go.RowKit Go.Em

theorem params_resequencerchecks : Tryz.f3.params.toList = [34, 37] := by kernel_rfl
theorem par_resequencerchecks {t : TypeId} (h : t ∈ ([34, 37] : List TypeId)) : t ∈ tys := by
  simp only [List.mem_cons, List.not_mem_nil, or_false] at h
  rcases h with rfl | rfl
  · decide
  · decide

def zI : Value := .int .i64 0
def zT : Value := .string ⟨#[]⟩
def zS : Value := .slice none 0 0
/-- All zero. -/
def zeroArgs : Array Value := #[.agg #[zT, zI, zI, zI, zI, zI, zI, zT, zI, zI, zI, zI, zS, zS, zS, zS, zS, zS, zS, zS], .agg #[zI, zI, zS]]

set_option maxRecDepth 100000 in
theorem resequencerchecks_lifted (os : Os) (started : os.Started) (H : Type) (enc : TypeId × Value → H) :
    ReturnsInHanded {} Tryz.checked os 3 .any (fun w args => (Rows.resequencerChecksSpec.pre enc Tryz.prog Tryz.f3 Rows.resequencerChecksRow.domain false w args ∧ laidMetH Tryz.prog laidZ w) ∧ sizedMet enc Tryz.prog Tryz.f3 (OpenSpec.ofChange Rows.resequencerChecksSpec) false w args)
      (Rows.resequencerChecksSpec.post enc Tryz.prog Tryz.f3 false true false false) := by
  refine returnsInHanded_of_change_and (C := Tryz.checked) (X := fun w _ => laidMetH Tryz.prog laidZ w) (fun _ _ _ hh h => h.of_heap hh) Tryz.own started (by kernel_rfl) Tryz.func3
    (ChangeSpec.witness_shaped (enc := enc) (C := Tryz.checked) (os := os) (X := fun w _ => laidMetH Tryz.prog laidZ w) false (World.laidAll Tryz.prog os laidZ) zeroArgs 12 (World.laidAll_os _ _ _)
      (World.shaped_of_ZipB (by kernel_rfl) (by kernel_rfl)) (by kernel_rfl) (by kernel_rfl) (by kernel_rfl)
      (by rw [MakeChecks.laidMetH_plain _ _ _ (by kernel_rfl)]; exact laidMet_laidAll _ (by kernel_rfl) (by kernel_rfl))) ?_
  intro W base args ds gs before hval hW _ _ hL _
  refine lifted_true (P := Tryz.prog) (Γ := callF tab ext) machine tys_kids (kids_some tys_ok) (kids_full tys_ok) (fun t ht => ?_) (tb := 4) rfl under4 rfl (fun ds hds => ?_) (fun xss hlen hsh => ?_) W (globOk hL) base args ds gs before hval hW
  · rw [params_resequencerchecks] at ht
    exact ⟨par_resequencerchecks ht, tys_lt (par_resequencerchecks ht)⟩
  · match ds, hds with
    | [_, _], _ => rfl
  · match xss, hlen with
    | [x0, x1], _ =>
      obtain ⟨_, h0⟩ := hsh 0 34 x0 rfl rfl
      obtain ⟨_, h1⟩ := hsh 1 37 x1 rfl rfl
      have hn := shape_node h0
      obtain ⟨s, rfl⟩ := shape_stt h1
      refine ⟨260301, [], ?_⟩
      have : argsX Tryz.prog Tryz.f3.params.toList [x0, s.cells] = [.agg x0, .agg s.cells] := by
        kernel_rfl
      rw [this]
      exact qchecks_all x0 hn s

set_option maxRecDepth 100000
theorem resequencerchecks_a1 : (Rows.resequencerChecksRow.inPlace == Tryz.prog.inPlace 3) = true := by kernel_rfl
theorem resequencerchecks_a2 : (Rows.resequencerChecksRow.unfollowed == Tryz.prog.unfollowed 3) = true := by kernel_rfl
theorem resequencerchecks_a3 : (Rows.resequencerChecksRow.recurses == Tryz.prog.recurses 3) = true := by kernel_rfl
theorem resequencerchecks_a4 : (Rows.resequencerChecksRow.named == Tryz.prog.varsNamed 3) = true := by kernel_rfl
theorem resequencerchecks_b1 : (Rows.resequencerChecksRow.wf (OpenSpec.ofChange Rows.resequencerChecksSpec) && Tryz.f3.params.all (Tryz.prog.readableRec ·) && namedTie Tryz.prog Rows.resequencerChecksRow.named Rows.resequencerChecksSpec.vars && (Rows.resequencerChecksRow.stops == []) && (Rows.resequencerChecksRow.knobs == [])) = true := by kernel_rfl
theorem resequencerchecks_b2 : ((Rows.resequencerChecksRow.maps == (Tryz.f3.params.toList ++ Rows.resequencerChecksSpec.plain.varTypes Tryz.prog).any (Tryz.prog.mapsRec ·)) && (Rows.resequencerChecksRow.ifaces == (Tryz.f3.params.toList ++ Rows.resequencerChecksSpec.plain.varTypes Tryz.prog).any (Tryz.prog.ifacesRec ·)) && (Rows.resequencerChecksRow.mapsOut == Tryz.prog.mapsAmong Tryz.f3.resultTypes.toList) &&
      (Rows.resequencerChecksRow.loops == (Tryz.f3.params.toList ++ Rows.resequencerChecksSpec.plain.varTypes Tryz.prog).any (Tryz.prog.loopsFrom ·)) && (Rows.resequencerChecksRow.wideKeys == (Tryz.f3.params.toList ++ Rows.resequencerChecksSpec.plain.varTypes Tryz.prog ++ Tryz.f3.resultTypes.toList).any (Tryz.prog.wideKeysFrom ·))) = true := by kernel_rfl
theorem resequencerchecks_b3 : (Rows.resequencerChecksSpec.vars.all (Tryz.prog.varReadable ·) && Tryz.f3.resultTypes.all (fun t => Tryz.prog.readableRec t && decide (t < Tryz.prog.types.size)) && (Rows.resequencerChecksRow.ifacesOut == Tryz.f3.resultTypes.toList.any (Tryz.prog.ifacesRec ·)) && (Rows.resequencerChecksRow.loopsOut == Tryz.f3.resultTypes.toList.any (Tryz.prog.loopsFrom ·)) && Rows.resequencerChecksRow.shortTexts.isNone) = true := by kernel_rfl
theorem resequencerchecks_b4 : ((Rows.resequencerChecksRow.kinds == (if Rows.resequencerChecksRow.domain.isEmpty then [] else Tryz.f3.params.toList.map fun t => match Tryz.prog.underlying t with | some (.int k) => some k | _ => none)) && (Rows.resequencerChecksRow.pinned == Rows.resequencerChecksRow.pinnedBy) &&
      (Rows.resequencerChecksRow.veiled == (Tryz.f3.params.toList ++ Rows.resequencerChecksSpec.plain.varTypes Tryz.prog ++ Tryz.f3.resultTypes.toList).any (Tryz.prog.veiledRec ·)) && Rows.resequencerChecksRow.veiledFits Tryz.prog Tryz.f3.params.toList (Tryz.f3.params.toList ++ Rows.resequencerChecksSpec.plain.varTypes Tryz.prog ++ Tryz.f3.resultTypes.toList)) = true := by kernel_rfl
theorem resequencerchecks_named : Tryz.prog.funcNamed "manifold/manifoldlaw34.ResequencerChecks" = some 3 := by kernel_rfl
theorem resequencerchecks_ids : decide (Tryz.f3.isInstance Tryz.prog Rows.resequencerChecksRow.origin Rows.resequencerChecksRow.targs) = true := by kernel_rfl
theorem resequencerchecks_wrap : Tryz.f3.isWrapper Tryz.prog Rows.resequencerChecksRow.wrapper Rows.resequencerChecksRow.mainSum := by unfold Func.isWrapper; rw [if_neg (by decide +kernel)]; exact ⟨rfl, rfl⟩
theorem resequencerchecks_joined : joinedFacts Tryz.prog 3 Tryz.f3 Rows.resequencerChecksSpec Rows.resequencerChecksRow = true :=
  joined_of Tryz.laidOut Tryz.rowed jf_stops jf_heard jf_enter resequencerchecks_a1 resequencerchecks_a2 resequencerchecks_a3 resequencerchecks_a4 resequencerchecks_b1 resequencerchecks_b2 resequencerchecks_b3
    (by rw [jf_plain]; rfl) (by rw [jf_lifted]; rfl) jf_make resequencerchecks_b4
theorem resequencerchecks_holds : Rows.ResequencerChecksSaid :=
  OpenClaim.holds_of_wide 3 Tryz.f3 rfl rfl rfl rfl rfl rfl rfl ⟨rfl, rfl, rfl, rfl, rfl⟩ rfl rfl rfl rfl rfl resequencerchecks_named Tryz.func3 resequencerchecks_joined
    (of_decide_eq_true resequencerchecks_ids) resequencerchecks_wrap
    (fun os started H enc _ => resequencerchecks_lifted os started H enc)
theorem resequencerchecks_text : Rows.resequencerChecksRow.wfByText (OpenSpec.ofChange Rows.resequencerChecksSpec) = true := by kernel_rfl
theorem resequencerchecks_goes : false = Rows.resequencerChecksRow.goesBy Tryz.prog := by kernel_rfl
theorem resequencerchecks_stand : ((([34, 37] : List TypeId).all fun u => !Tryz.prog.wantsStandIn u) = true) ∧ Tryz.f3.params = #[34, 37] := ⟨by kernel_rfl, by kernel_rfl⟩
theorem resequencerchecks_card : Rows.ResequencerChecksCardSaid :=
  Claim7.holds_tied_plain_at .later [] [.data, .data, .data, .data, .sentinel, .sentinel, .pinned] true (true, "0f28a108ba334a8a968fe413680ca18c42c7c4af5cf0db121197b6d64349fb55") true resequencerchecks_holds (fun _ h => by cases h) resequencerchecks_text (fun _ h => by cases h) resequencerChecks_row_tie rfl ⟨rfl, rfl⟩ jf_main rfl
    (fun f fn hf hfn => by
      obtain rfl : f = 3 := Option.some.inj (resequencerchecks_named.symm.trans hf) |>.symm
      obtain rfl : fn = Tryz.f3 := (Option.some.inj (Tryz.func3.symm.trans hfn)).symm
      refine ⟨jf_looks, fun j t ht => ?_⟩
      rw [resequencerchecks_stand.2] at ht
      have hm : t ∈ ([34, 37] : List TypeId) := by simpa using Array.mem_of_getElem? ht
      exact (show Tryz.prog.wantsStandIn t = false by simpa using List.all_eq_true.1 resequencerchecks_stand.1 t hm))
    resequencerchecks_goes
end Go.Proofs.YtbfnfldmnombgaaGreatDoor
