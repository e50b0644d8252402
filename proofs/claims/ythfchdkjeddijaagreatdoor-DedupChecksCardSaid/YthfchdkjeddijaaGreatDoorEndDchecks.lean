/- DedupChecks: the row, and its tied card. Conditions: none. -/
import Derived.Test.YthfchdkjeddijaaGreatDoorCards
import Derived.Test.YthfchdkjeddijaaGreatDoorTie
import Derived.OpenShut
import Derived.SevenTiedAt
import Derived.Stop.Joined
import Derived.Test.YthfchdkjeddijaaGreatDoorK15
import Derived.Test.YthfchdkjeddijaaGreatDoorK16
import Derived.Test.YthfchdkjeddijaaGreatDoorK21
namespace Go.Proofs.YthfchdkjeddijaaGreatDoor
open Go.ChangeShapes Go.WideShapes Go.ChangeAt Go.RowKit Go.Em

theorem params_dedupchecks : Tryz.f5.params.toList = [45, 25] := by kernel_rfl
theorem par_dedupchecks {t : TypeId} (h : t ∈ ([45, 25] : List TypeId)) : t ∈ tys := by
  simp only [List.mem_cons, List.not_mem_nil, or_false] at h
  rcases h with rfl | rfl
  · decide
  · decide

def zI : Value := .int .i64 0
def zT : Value := .string ⟨#[]⟩
def zS : Value := .slice none 0 0
/-- All zero. -/
def zeroArgs : Array Value := #[.agg #[zT, zI, zI, zI, zI, zI, zI, zT, zI, zI, zI, zI, zS, zS, zS, zS, zS, zS, zS, zS], .agg #[zI, zI, zS]]

set_option maxRecDepth 100000 in
theorem dedupchecks_lifted (os : Os) (started : os.Started) (H : Type) (enc : TypeId × Value → H) :
    ReturnsInHanded {} Tryz.checked os 5 .any (fun w args => (Rows.dedupChecksSpec.pre enc Tryz.prog Tryz.f5 Rows.dedupChecksRow.domain false w args ∧ laidMetH Tryz.prog laidZ w) ∧ sizedMet enc Tryz.prog Tryz.f5 (OpenSpec.ofChange Rows.dedupChecksSpec) false w args)
      (Rows.dedupChecksSpec.post enc Tryz.prog Tryz.f5 false true false false) := by
  refine returnsInHanded_of_change_and (C := Tryz.checked) (X := fun w _ => laidMetH Tryz.prog laidZ w) (fun _ _ _ hh h => h.of_heap hh) Tryz.own started (by kernel_rfl) Tryz.func5
    (ChangeSpec.witness_shaped (enc := enc) (C := Tryz.checked) (os := os) (X := fun w _ => laidMetH Tryz.prog laidZ w) false (World.laidAll Tryz.prog os laidZ) zeroArgs 12 (World.laidAll_os _ _ _)
      (World.shaped_of_ZipB (by kernel_rfl) (by kernel_rfl)) (by kernel_rfl) (by kernel_rfl) (by kernel_rfl)
      (by rw [MakeChecks.laidMetH_plain _ _ _ (by kernel_rfl)]; exact laidMet_laidAll _ (by kernel_rfl) (by kernel_rfl))) ?_
  intro W base args ds gs before hval hW _ _ hL _
  refine lifted_true (P := Tryz.prog) (Γ := callF tab ext) machine tys_kids (kids_some tys_ok) (kids_full tys_ok) (fun t ht => ?_) (tb := 4) rfl under4 rfl (fun ds hds => ?_) (fun xss hlen hsh => ?_) W (globOk hL) base args ds gs before hval hW
  · rw [params_dedupchecks] at ht
    exact ⟨par_dedupchecks ht, tys_lt (par_dedupchecks ht)⟩
  · match ds, hds with
    | [_, _], _ => rfl
  · match xss, hlen with
    | [x0, x1], _ =>
      obtain ⟨_, h0⟩ := hsh 0 45 x0 rfl rfl
      obtain ⟨_, h1⟩ := hsh 1 25 x1 rfl rfl
      have hn := shape_node h0
      obtain ⟨s, rfl⟩ := shape_stt h1
      refine ⟨190301, [], ?_⟩
      have : argsX Tryz.prog Tryz.f5.params.toList [x0, s.cells] = [.agg x0, .agg s.cells] := by
        kernel_rfl
      rw [this]
      exact dchecks_all x0 hn s

set_option maxRecDepth 100000
theorem dedupchecks_a1 : (Rows.dedupChecksRow.inPlace == Tryz.prog.inPlace 5) = true := by kernel_rfl
theorem dedupchecks_a2 : (Rows.dedupChecksRow.unfollowed == Tryz.prog.unfollowed 5) = true := by kernel_rfl
theorem dedupchecks_a3 : (Rows.dedupChecksRow.recurses == Tryz.prog.recurses 5) = true := by kernel_rfl
theorem dedupchecks_a4 : (Rows.dedupChecksRow.named == Tryz.prog.varsNamed 5) = true := by kernel_rfl
theorem dedupchecks_b1 : (Rows.dedupChecksRow.wf (OpenSpec.ofChange Rows.dedupChecksSpec) && Tryz.f5.params.all (Tryz.prog.readableRec ·) && namedTie Tryz.prog Rows.dedupChecksRow.named Rows.dedupChecksSpec.vars && (Rows.dedupChecksRow.stops == []) && (Rows.dedupChecksRow.knobs == [])) = true := by kernel_rfl
theorem dedupchecks_b2 : ((Rows.dedupChecksRow.maps == (Tryz.f5.params.toList ++ Rows.dedupChecksSpec.plain.varTypes Tryz.prog).any (Tryz.prog.mapsRec ·)) && (Rows.dedupChecksRow.ifaces == (Tryz.f5.params.toList ++ Rows.dedupChecksSpec.plain.varTypes Tryz.prog).any (Tryz.prog.ifacesRec ·)) && (Rows.dedupChecksRow.mapsOut == Tryz.prog.mapsAmong Tryz.f5.resultTypes.toList) &&
      (Rows.dedupChecksRow.loops == (Tryz.f5.params.toList ++ Rows.dedupChecksSpec.plain.varTypes Tryz.prog).any (Tryz.prog.loopsFrom ·)) && (Rows.dedupChecksRow.wideKeys == (Tryz.f5.params.toList ++ Rows.dedupChecksSpec.plain.varTypes Tryz.prog ++ Tryz.f5.resultTypes.toList).any (Tryz.prog.wideKeysFrom ·))) = true := by kernel_rfl
theorem dedupchecks_b3 : (Rows.dedupChecksSpec.vars.all (Tryz.prog.varReadable ·) && Tryz.f5.resultTypes.all (fun t => Tryz.prog.readableRec t && decide (t < Tryz.prog.types.size)) && (Rows.dedupChecksRow.ifacesOut == Tryz.f5.resultTypes.toList.any (Tryz.prog.ifacesRec ·)) && (Rows.dedupChecksRow.loopsOut == Tryz.f5.resultTypes.toList.any (Tryz.prog.loopsFrom ·)) && Rows.dedupChecksRow.shortTexts.isNone) = true := by kernel_rfl
theorem dedupchecks_b4 : ((Rows.dedupChecksRow.kinds == (if Rows.dedupChecksRow.domain.isEmpty then [] else Tryz.f5.params.toList.map fun t => match Tryz.prog.underlying t with | some (.int k) => some k | _ => none)) && (Rows.dedupChecksRow.pinned == Rows.dedupChecksRow.pinnedBy) &&
      (Rows.dedupChecksRow.veiled == (Tryz.f5.params.toList ++ Rows.dedupChecksSpec.plain.varTypes Tryz.prog ++ Tryz.f5.resultTypes.toList).any (Tryz.prog.veiledRec ·)) && Rows.dedupChecksRow.veiledFits Tryz.prog Tryz.f5.params.toList (Tryz.f5.params.toList ++ Rows.dedupChecksSpec.plain.varTypes Tryz.prog ++ Tryz.f5.resultTypes.toList)) = true := by kernel_rfl
theorem dedupchecks_named : Tryz.prog.funcNamed "manifold/manifoldlaw35.DedupChecks" = some 5 := by kernel_rfl
theorem dedupchecks_ids : decide (Tryz.f5.isInstance Tryz.prog Rows.dedupChecksRow.origin Rows.dedupChecksRow.targs) = true := by kernel_rfl
theorem dedupchecks_wrap : Tryz.f5.isWrapper Tryz.prog Rows.dedupChecksRow.wrapper Rows.dedupChecksRow.mainSum := by unfold Func.isWrapper; rw [if_neg (by decide +kernel)]; exact ⟨rfl, rfl⟩
theorem dedupchecks_joined : joinedFacts Tryz.prog 5 Tryz.f5 Rows.dedupChecksSpec Rows.dedupChecksRow = true :=
  joined_of Tryz.laidOut Tryz.rowed jf_stops jf_heard jf_enter dedupchecks_a1 dedupchecks_a2 dedupchecks_a3 dedupchecks_a4 dedupchecks_b1 dedupchecks_b2 dedupchecks_b3
    (by rw [jf_plain]; rfl) (by rw [jf_lifted]; rfl) jf_make dedupchecks_b4
theorem dedupchecks_holds : Rows.DedupChecksSaid :=
  OpenClaim.holds_of_wide 5 Tryz.f5 rfl rfl rfl rfl rfl rfl rfl ⟨rfl, rfl, rfl, rfl, rfl⟩ rfl rfl rfl rfl rfl dedupchecks_named Tryz.func5 dedupchecks_joined
    (of_decide_eq_true dedupchecks_ids) dedupchecks_wrap
    (fun os started H enc _ => dedupchecks_lifted os started H enc)
theorem dedupchecks_text : Rows.dedupChecksRow.wfByText (OpenSpec.ofChange Rows.dedupChecksSpec) = true := by kernel_rfl
theorem dedupchecks_goes : false = Rows.dedupChecksRow.goesBy Tryz.prog := by kernel_rfl
theorem dedupchecks_stand : ((([45, 25] : List TypeId).all fun u => !Tryz.prog.wantsStandIn u) = true) ∧ Tryz.f5.params = #[45, 25] := ⟨by kernel_rfl, by kernel_rfl⟩
theorem dedupchecks_card : Rows.DedupChecksCardSaid :=
  Claim7.holds_tied_plain_at .later [] [.data, .data, .data, .data, .sentinel, .sentinel, .pinned] true (true, "fda8d723c99205a616a719e840104a1e214bfa621fcce8c0bc2210fee27a5a68") true dedupchecks_holds (fun _ h => by cases h) dedupchecks_text (fun _ h => by cases h) dedupChecks_row_tie rfl ⟨rfl, rfl⟩ jf_main rfl
    (fun f fn hf hfn => by
      obtain rfl : f = 5 := Option.some.inj (dedupchecks_named.symm.trans hf) |>.symm
      obtain rfl : fn = Tryz.f5 := (Option.some.inj (Tryz.func5.symm.trans hfn)).symm
      refine ⟨jf_looks, fun j t ht => ?_⟩
      rw [dedupchecks_stand.2] at ht
      have hm : t ∈ ([45, 25] : List TypeId) := by simpa using Array.mem_of_getElem? ht
      exact (show Tryz.prog.wantsStandIn t = false by simpa using List.all_eq_true.1 dedupchecks_stand.1 t hm))
    dedupchecks_goes
end Go.Proofs.YthfchdkjeddijaaGreatDoor
