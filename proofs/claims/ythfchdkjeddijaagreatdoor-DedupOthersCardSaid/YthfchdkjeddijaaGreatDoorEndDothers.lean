/- DedupOthers: the row, and its tied card. Conditions: none. -/
import Derived.Test.YthfchdkjeddijaaGreatDoorCards
import Derived.Test.YthfchdkjeddijaaGreatDoorTie
import Derived.OpenShut
import Derived.SevenTiedAt
import Derived.Stop.Joined
import Derived.Test.YthfchdkjeddijaaGreatDoorK15
import Derived.Test.YthfchdkjeddijaaGreatDoorK16
import Derived.Test.YthfchdkjeddijaaGreatDoorK23
namespace Go.Proofs.YthfchdkjeddijaaGreatDoor
open Go.ChangeShapes Go.WideShapes Go.ChangeAt Go.RowKit Go.Em

theorem params_dedupothers : Tryz.f6.params.toList = [45, 25, 56] := by kernel_rfl
theorem par_dedupothers {t : TypeId} (h : t ∈ ([45, 25, 56] : List TypeId)) : t ∈ tys := by
  simp only [List.mem_cons, List.not_mem_nil, or_false] at h
  rcases h with rfl | rfl | rfl
  · decide
  · decide
  · decide

def zI : Value := .int .i64 0
def zT : Value := .string ⟨#[]⟩
def zS : Value := .slice none 0 0
/-- All zero. -/
def zeroArgs : Array Value := #[.agg #[zT, zI, zI, zI, zI, zI, zI, zT, zI, zI, zI, zI, zS, zS, zS, zS, zS, zS, zS, zS], .agg #[zI, zI, zS], .agg #[zI, zI, zI, zS, zI, zS, zI, zS, zI, zI, zI, zT, zS, zS, zI, .bool false, .bool false, zI, zI, zI, zT, zS, zS]]

set_option maxRecDepth 100000 in
theorem dedupothers_lifted (os : Os) (started : os.Started) (H : Type) (enc : TypeId × Value → H) :
    ReturnsInHanded {} Tryz.checked os 6 .any (fun w args => (Rows.dedupOthersSpec.pre enc Tryz.prog Tryz.f6 Rows.dedupOthersRow.domain false w args ∧ laidMetH Tryz.prog laidZ w) ∧ sizedMet enc Tryz.prog Tryz.f6 (OpenSpec.ofChange Rows.dedupOthersSpec) false w args)
      (Rows.dedupOthersSpec.post enc Tryz.prog Tryz.f6 false true false false) := by
  refine returnsInHanded_of_change_and (C := Tryz.checked) (X := fun w _ => laidMetH Tryz.prog laidZ w) (fun _ _ _ hh h => h.of_heap hh) Tryz.own started (by kernel_rfl) Tryz.func6
    (ChangeSpec.witness_shaped (enc := enc) (C := Tryz.checked) (os := os) (X := fun w _ => laidMetH Tryz.prog laidZ w) false (World.laidAll Tryz.prog os laidZ) zeroArgs 12 (World.laidAll_os _ _ _)
      (World.shaped_of_ZipB (by kernel_rfl) (by kernel_rfl)) (by kernel_rfl) (by kernel_rfl) (by kernel_rfl)
      (by rw [MakeChecks.laidMetH_plain _ _ _ (by kernel_rfl)]; exact laidMet_laidAll _ (by kernel_rfl) (by kernel_rfl))) ?_
  intro W base args ds gs before hval hW _ _ hL _
  refine lifted_true (P := Tryz.prog) (Γ := callF tab ext) machine tys_kids (kids_some tys_ok) (kids_full tys_ok) (fun t ht => ?_) (tb := 4) rfl under4 rfl (fun ds hds => ?_) (fun xss hlen hsh => ?_) W (globOk hL) base args ds gs before hval hW
  · rw [params_dedupothers] at ht
    exact ⟨par_dedupothers ht, tys_lt (par_dedupothers ht)⟩
  · match ds, hds with
    | [_, _, _], _ => rfl
  · match xss, hlen with
    | [x0, x1, x2], _ =>
      obtain ⟨_, h0⟩ := hsh 0 45 x0 rfl rfl
      obtain ⟨_, h1⟩ := hsh 1 25 x1 rfl rfl
      obtain ⟨_, h2⟩ := hsh 2 56 x2 rfl rfl
      have hn := shape_node h0
      obtain ⟨s, rfl⟩ := shape_stt h1
      obtain ⟨i, rfl⟩ := shape_inp h2
      refine ⟨190301, [], ?_⟩
      have : argsX Tryz.prog Tryz.f6.params.toList [x0, s.cells, i.cells] = [.agg x0, .agg s.cells, .agg i.cells] := by
        kernel_rfl
      rw [this]
      exact dothers_all x0 hn s i

set_option maxRecDepth 100000
theorem dedupothers_a1 : (Rows.dedupOthersRow.inPlace == Tryz.prog.inPlace 6) = true := by kernel_rfl
theorem dedupothers_a2 : (Rows.dedupOthersRow.unfollowed == Tryz.prog.unfollowed 6) = true := by kernel_rfl
theorem dedupothers_a3 : (Rows.dedupOthersRow.recurses == Tryz.prog.recurses 6) = true := by kernel_rfl
theorem dedupothers_a4 : (Rows.dedupOthersRow.named == Tryz.prog.varsNamed 6) = true := by kernel_rfl
theorem dedupothers_b1 : (Rows.dedupOthersRow.wf (OpenSpec.ofChange Rows.dedupOthersSpec) && Tryz.f6.params.all (Tryz.prog.readableRec ·) && namedTie Tryz.prog Rows.dedupOthersRow.named Rows.dedupOthersSpec.vars && (Rows.dedupOthersRow.stops == []) && (Rows.dedupOthersRow.knobs == [])) = true := by kernel_rfl
theorem dedupothers_b2 : ((Rows.dedupOthersRow.maps == (Tryz.f6.params.toList ++ Rows.dedupOthersSpec.plain.varTypes Tryz.prog).any (Tryz.prog.mapsRec ·)) && (Rows.dedupOthersRow.ifaces == (Tryz.f6.params.toList ++ Rows.dedupOthersSpec.plain.varTypes Tryz.prog).any (Tryz.prog.ifacesRec ·)) && (Rows.dedupOthersRow.mapsOut == Tryz.prog.mapsAmong Tryz.f6.resultTypes.toList) &&
      (Rows.dedupOthersRow.loops == (Tryz.f6.params.toList ++ Rows.dedupOthersSpec.plain.varTypes Tryz.prog).any (Tryz.prog.loopsFrom ·)) && (Rows.dedupOthersRow.wideKeys == (Tryz.f6.params.toList ++ Rows.dedupOthersSpec.plain.varTypes Tryz.prog ++ Tryz.f6.resultTypes.toList).any (Tryz.prog.wideKeysFrom ·))) = true := by kernel_rfl
theorem dedupothers_b3 : (Rows.dedupOthersSpec.vars.all (Tryz.prog.varReadable ·) && Tryz.f6.resultTypes.all (fun t => Tryz.prog.readableRec t && decide (t < Tryz.prog.types.size)) && (Rows.dedupOthersRow.ifacesOut == Tryz.f6.resultTypes.toList.any (Tryz.prog.ifacesRec ·)) && (Rows.dedupOthersRow.loopsOut == Tryz.f6.resultTypes.toList.any (Tryz.prog.loopsFrom ·)) && Rows.dedupOthersRow.shortTexts.isNone) = true := by kernel_rfl
theorem dedupothers_b4 : ((Rows.dedupOthersRow.kinds == (if Rows.dedupOthersRow.domain.isEmpty then [] else Tryz.f6.params.toList.map fun t => match Tryz.prog.underlying t with | some (.int k) => some k | _ => none)) && (Rows.dedupOthersRow.pinned == Rows.dedupOthersRow.pinnedBy) &&
      (Rows.dedupOthersRow.veiled == (Tryz.f6.params.toList ++ Rows.dedupOthersSpec.plain.varTypes Tryz.prog ++ Tryz.f6.resultTypes.toList).any (Tryz.prog.veiledRec ·)) && Rows.dedupOthersRow.veiledFits Tryz.prog Tryz.f6.params.toList (Tryz.f6.params.toList ++ Rows.dedupOthersSpec.plain.varTypes Tryz.prog ++ Tryz.f6.resultTypes.toList)) = true := by kernel_rfl
theorem dedupothers_named : Tryz.prog.funcNamed "manifold/manifoldlaw35.DedupOthers" = some 6 := by kernel_rfl
theorem dedupothers_ids : decide (Tryz.f6.isInstance Tryz.prog Rows.dedupOthersRow.origin Rows.dedupOthersRow.targs) = true := by kernel_rfl
theorem dedupothers_wrap : Tryz.f6.isWrapper Tryz.prog Rows.dedupOthersRow.wrapper Rows.dedupOthersRow.mainSum := by unfold Func.isWrapper; rw [if_neg (by decide +kernel)]; exact ⟨rfl, rfl⟩
theorem dedupothers_joined : joinedFacts Tryz.prog 6 Tryz.f6 Rows.dedupOthersSpec Rows.dedupOthersRow = true :=
  joined_of Tryz.laidOut Tryz.rowed jf_stops jf_heard jf_enter dedupothers_a1 dedupothers_a2 dedupothers_a3 dedupothers_a4 dedupothers_b1 dedupothers_b2 dedupothers_b3
    (by rw [jf_plain]; rfl) (by rw [jf_lifted]; rfl) jf_make dedupothers_b4
theorem dedupothers_holds : Rows.DedupOthersSaid :=
  OpenClaim.holds_of_wide 6 Tryz.f6 rfl rfl rfl rfl rfl rfl rfl ⟨rfl, rfl, rfl, rfl, rfl⟩ rfl rfl rfl rfl rfl dedupothers_named Tryz.func6 dedupothers_joined
    (of_decide_eq_true dedupothers_ids) dedupothers_wrap
    (fun os started H enc _ => dedupothers_lifted os started H enc)
theorem dedupothers_text : Rows.dedupOthersRow.wfByText (OpenSpec.ofChange Rows.dedupOthersSpec) = true := by kernel_rfl
theorem dedupothers_goes : false = Rows.dedupOthersRow.goesBy Tryz.prog := by kernel_rfl
theorem dedupothers_stand : ((([45, 25, 56] : List TypeId).all fun u => !Tryz.prog.wantsStandIn u) = true) ∧ Tryz.f6.params = #[45, 25, 56] := ⟨by kernel_rfl, by kernel_rfl⟩
theorem dedupothers_card : Rows.DedupOthersCardSaid :=
  Claim7.holds_tied_plain_at .later [] [.data, .data, .data, .data, .sentinel, .sentinel, .pinned] true (true, "fda8d723c99205a616a719e840104a1e214bfa621fcce8c0bc2210fee27a5a68") true dedupothers_holds (fun _ h => by cases h) dedupothers_text (fun _ h => by cases h) dedupOthers_row_tie rfl ⟨rfl, rfl⟩ jf_main rfl
    (fun f fn hf hfn => by
      obtain rfl : f = 6 := Option.some.inj (dedupothers_named.symm.trans hf) |>.symm
      obtain rfl : fn = Tryz.f6 := (Option.some.inj (Tryz.func6.symm.trans hfn)).symm
      refine ⟨jf_looks, fun j t ht => ?_⟩
      rw [dedupothers_stand.2] at ht
      have hm : t ∈ ([45, 25, 56] : List TypeId) := by simpa using Array.mem_of_getElem? ht
      exact (show Tryz.prog.wantsStandIn t = false by simpa using List.all_eq_true.1 dedupothers_stand.1 t hm))
    dedupothers_goes
end Go.Proofs.YthfchdkjeddijaaGreatDoor
