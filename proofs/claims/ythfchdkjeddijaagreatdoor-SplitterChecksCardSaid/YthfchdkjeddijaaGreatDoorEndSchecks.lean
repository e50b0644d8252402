/- SplitterChecks: the row, and its tied card. Conditions: none. -/
import Derived.Test.YthfchdkjeddijaaGreatDoorCards
import Derived.Test.YthfchdkjeddijaaGreatDoorTie
import Derived.OpenShut
import Derived.SevenTiedAt
import Derived.Stop.Joined
import Derived.Test.YthfchdkjeddijaaGreatDoorK15
import Derived.Test.YthfchdkjeddijaaGreatDoorK16
import Derived.Test.YthfchdkjeddijaaGreatDoorK31
namespace Go.Proofs.YthfchdkjeddijaaGreatDoor
open Go.ChangeShapes Go.WideShapes Go.ChangeAt Go.RowKit Go.Em

theorem params_splitterchecks : Tryz.f9.params.toList = [45, 25] := by kernel_rfl
theorem par_splitterchecks {t : TypeId} (h : t ∈ ([45, 25] : List TypeId)) : t ∈ tys := by
  simp only [List.mem_cons, List.not_mem_nil, or_false] at h
  rcases h with rfl | rfl
  · decide
  · decide

def zI : Value := .int .i64 0
def zT : Value := .string ⟨#[]⟩
def zS : Value := .slice none 0 0
/-- All zero. -/
def zeroArgs : Array Value := #[.agg #[zT, zI, zI, zI, zI, zI, zI, zT, zI, zI, zI, zI, zS, zS, zS, zS, zS, zS, zS, zS], .agg #[zI, zI, zS]]

set_option maxRecDepth 100000 in
theorem splitterchecks_lifted (os : Os) (started : os.Started) (H : Type) (enc : TypeId × Value → H) :
    ReturnsInHanded {} Tryz.checked os 9 .any (fun w args => (Rows.splitterChecksSpec.pre enc Tryz.prog Tryz.f9 Rows.splitterChecksRow.domain false w args ∧ laidMetH Tryz.prog laidZ w) ∧ sizedMet enc Tryz.prog Tryz.f9 (OpenSpec.ofChange Rows.splitterChecksSpec) false w args)
      (Rows.splitterChecksSpec.post enc Tryz.prog Tryz.f9 false true false false) := by
  refine returnsInHanded_of_change_and (C := Tryz.checked) (X := fun w _ => laidMetH Tryz.prog laidZ w) (fun _ _ _ hh h => h.of_heap hh) Tryz.own started (by kernel_rfl) Tryz.func9
    (ChangeSpec.witness_shaped (enc := enc) (C := Tryz.checked) (os := os) (X := fun w _ => laidMetH Tryz.prog laidZ w) false (World.laidAll Tryz.prog os laidZ) zeroArgs 12 (World.laidAll_os _ _ _)
      (World.shaped_of_ZipB (by kernel_rfl) (by kernel_rfl)) (by kernel_rfl) (by kernel_rfl) (by kernel_rfl)
      (by rw [MakeChecks.laidMetH_plain _ _ _ (by kernel_rfl)]; exact laidMet_laidAll _ (by kernel_rfl) (by kernel_rfl))) ?_
  intro W base args ds gs before hval hW _ _ hL _
  refine lifted_true (P := Tryz.prog) (Γ := callF tab ext) machine tys_kids (kids_some tys_ok) (kids_full tys_ok) (fun t ht => ?_) (tb := 4) rfl under4 rfl (fun ds hds => ?_) (fun xss hlen hsh => ?_) W (globOk hL) base args ds gs before hval hW
  · rw [params_splitterchecks] at ht
    exact ⟨par_splitterchecks ht, tys_lt (par_splitterchecks ht)⟩
  · match ds, hds with
    | [_, _], _ => rfl
  · match xss, hlen with
    | [x0, x1], _ =>
      obtain ⟨_, h0⟩ := hsh 0 45 x0 rfl rfl
      obtain ⟨_, h1⟩ := hsh 1 25 x1 rfl rfl
      have hn := shape_node h0
      obtain ⟨s, rfl⟩ := shape_stt h1
      refine ⟨190301, [], ?_⟩
      have : argsX Tryz.prog Tryz.f9.params.toList [x0, s.cells] = [.agg x0, .agg s.cells] := by
        kernel_rfl
      rw [this]
      exact schecks_all x0 hn s

set_option maxRecDepth 100000
theorem splitterchecks_a1 : (Rows.splitterChecksRow.inPlace == Tryz.prog.inPlace 9) = true := by kernel_rfl
theorem splitterchecks_a2 : (Rows.splitterChecksRow.unfollowed == Tryz.prog.unfollowed 9) = true := by kernel_rfl
theorem splitterchecks_a3 : (Rows.splitterChecksRow.recurses == Tryz.prog.recurses 9) = true := by kernel_rfl
theorem splitterchecks_a4 : (Rows.splitterChecksRow.named == Tryz.prog.varsNamed 9) = true := by kernel_rfl
theorem splitterchecks_b1 : (Rows.splitterChecksRow.wf (OpenSpec.ofChange Rows.splitterChecksSpec) && Tryz.f9.params.all (Tryz.prog.readableRec ·) && namedTie Tryz.prog Rows.splitterChecksRow.named Rows.splitterChecksSpec.vars && (Rows.splitterChecksRow.stops == []) && (Rows.splitterChecksRow.knobs == [])) = true := by kernel_rfl
theorem splitterchecks_b2 : ((Rows.splitterChecksRow.maps == (Tryz.f9.params.toList ++ Rows.splitterChecksSpec.plain.varTypes Tryz.prog).any (Tryz.prog.mapsRec ·)) && (Rows.splitterChecksRow.ifaces == (Tryz.f9.params.toList ++ Rows.splitterChecksSpec.plain.varTypes Tryz.prog).any (Tryz.prog.ifacesRec ·)) && (Rows.splitterChecksRow.mapsOut == Tryz.prog.mapsAmong Tryz.f9.resultTypes.toList) &&
      (Rows.splitterChecksRow.loops == (Tryz.f9.params.toList ++ Rows.splitterChecksSpec.plain.varTypes Tryz.prog).any (Tryz.prog.loopsFrom ·)) && (Rows.splitterChecksRow.wideKeys == (Tryz.f9.params.toList ++ Rows.splitterChecksSpec.plain.varTypes Tryz.prog ++ Tryz.f9.resultTypes.toList).any (Tryz.prog.wideKeysFrom ·))) = true := by kernel_rfl
theorem splitterchecks_b3 : (Rows.splitterChecksSpec.vars.all (Tryz.prog.varReadable ·) && Tryz.f9.resultTypes.all (fun t => Tryz.prog.readableRec t && decide (t < Tryz.prog.types.size)) && (Rows.splitterChecksRow.ifacesOut == Tryz.f9.resultTypes.toList.any (Tryz.prog.ifacesRec ·)) && (Rows.splitterChecksRow.loopsOut == Tryz.f9.resultTypes.toList.any (Tryz.prog.loopsFrom ·)) && Rows.splitterChecksRow.shortTexts.isNone) = true := by kernel_rfl
theorem splitterchecks_b4 : ((Rows.splitterChecksRow.kinds == (if Rows.splitterChecksRow.domain.isEmpty then [] else Tryz.f9.params.toList.map fun t => match Tryz.prog.underlying t with | some (.int k) => some k | _ => none)) && (Rows.splitterChecksRow.pinned == Rows.splitterChecksRow.pinnedBy) &&
      (Rows.splitterChecksRow.veiled == (Tryz.f9.params.toList ++ Rows.splitterChecksSpec.plain.varTypes Tryz.prog ++ Tryz.f9.resultTypes.toList).any (Tryz.prog.veiledRec ·)) && Rows.splitterChecksRow.veiledFits Tryz.prog Tryz.f9.params.toList (Tryz.f9.params.toList ++ Rows.splitterChecksSpec.plain.varTypes Tryz.prog ++ Tryz.f9.resultTypes.toList)) = true := by kernel_rfl
theorem splitterchecks_named : Tryz.prog.funcNamed "manifold/manifoldlaw32.SplitterChecks" = some 9 := by kernel_rfl
theorem splitterchecks_ids : decide (Tryz.f9.isInstance Tryz.prog Rows.splitterChecksRow.origin Rows.splitterChecksRow.targs) = true := by kernel_rfl
theorem splitterchecks_wrap : Tryz.f9.isWrapper Tryz.prog Rows.splitterChecksRow.wrapper Rows.splitterChecksRow.mainSum := by unfold Func.isWrapper; rw [if_neg (by decide +kernel)]; exact ⟨rfl, rfl⟩
theorem splitterchecks_joined : joinedFacts Tryz.prog 9 Tryz.f9 Rows.splitterChecksSpec Rows.splitterChecksRow = true :=
  joined_of Tryz.laidOut Tryz.rowed jf_stops jf_heard jf_enter splitterchecks_a1 splitterchecks_a2 splitterchecks_a3 splitterchecks_a4 splitterchecks_b1 splitterchecks_b2 splitterchecks_b3
    (by rw [jf_plain]; rfl) (by rw [jf_lifted]; rfl) jf_make splitterchecks_b4
theorem splitterchecks_holds : Rows.SplitterChecksSaid :=
  OpenClaim.holds_of_wide 9 Tryz.f9 rfl rfl rfl rfl rfl rfl rfl ⟨rfl, rfl, rfl, rfl, rfl⟩ rfl rfl rfl rfl rfl splitterchecks_named Tryz.func9 splitterchecks_joined
    (of_decide_eq_true splitterchecks_ids) splitterchecks_wrap
    (fun os started H enc _ => splitterchecks_lifted os started H enc)
theorem splitterchecks_text : Rows.splitterChecksRow.wfByText (OpenSpec.ofChange Rows.splitterChecksSpec) = true := by kernel_rfl
theorem splitterchecks_goes : false = Rows.splitterChecksRow.goesBy Tryz.prog := by kernel_rfl
theorem splitterchecks_stand : ((([45, 25] : List TypeId).all fun u => !Tryz.prog.wantsStandIn u) = true) ∧ Tryz.f9.params = #[45, 25] := ⟨by kernel_rfl, by kernel_rfl⟩
theorem splitterchecks_card : Rows.SplitterChecksCardSaid :=
  Claim7.holds_tied_plain_at .later [] [.data, .data, .data, .data, .sentinel, .sentinel, .pinned] true (true, "fda8d723c99205a616a719e840104a1e214bfa621fcce8c0bc2210fee27a5a68") true splitterchecks_holds (fun _ h => by cases h) splitterchecks_text (fun _ h => by cases h) splitterChecks_row_tie rfl ⟨rfl, rfl⟩ jf_main rfl
    (fun f fn hf hfn => by
      obtain rfl : f = 9 := Option.some.inj (splitterchecks_named.symm.trans hf) |>.symm
      obtain rfl : fn = Tryz.f9 := (Option.some.inj (Tryz.func9.symm.trans hfn)).symm
      refine ⟨jf_looks, fun j t ht => ?_⟩
      rw [splitterchecks_stand.2] at ht
      have hm : t ∈ ([45, 25] : List TypeId) := by simpa using Array.mem_of_getElem? ht
      exact (show Tryz.prog.wantsStandIn t = false by simpa using List.all_eq_true.1 splitterchecks_stand.1 t hm))
    splitterchecks_goes
end Go.Proofs.YthfchdkjeddijaaGreatDoor
