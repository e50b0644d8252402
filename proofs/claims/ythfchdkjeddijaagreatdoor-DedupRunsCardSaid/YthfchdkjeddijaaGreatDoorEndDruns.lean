/- DedupRuns: the row, and its tied card. Conditions: none. -/
import Derived.Test.YthfchdkjeddijaaGreatDoorCards
import Derived.Test.YthfchdkjeddijaaGreatDoorTie
import Derived.OpenShut
import Derived.SevenTiedAt
import Derived.Stop.Joined
import Derived.Test.YthfchdkjeddijaaGreatDoorK16
import Derived.Test.YthfchdkjeddijaaGreatDoorK19
namespace Go.Proofs.YthfchdkjeddijaaGreatDoor
open Go.ChangeShapes Go.WideShapes Go.ChangeAt Go.RowKit Go.Em

theorem params_dedupruns : Tryz.f3.params.toList = [22, 5] := by kernel_rfl
theorem par_dedupruns {t : TypeId} (h : t ∈ ([22, 5] : List TypeId)) : t ∈ tysK := by
  simp only [List.mem_cons, List.not_mem_nil, or_false] at h
  rcases h with rfl | rfl
  · decide
  · decide

def zI : Value := .int .i64 0
def zT : Value := .string ⟨#[]⟩
def zS : Value := .slice none 0 0
/-- All zero. -/
def zeroArgs : Array Value := #[zS, .int .u8 0]

set_option maxRecDepth 100000 in
theorem dedupruns_lifted (os : Os) (started : os.Started) (H : Type) (enc : TypeId × Value → H) :
    ReturnsInHanded {} Tryz.checked os 3 .any (fun w args => (Rows.dedupRunsSpec.pre enc Tryz.prog Tryz.f3 Rows.dedupRunsRow.domain false w args ∧ laidMetH Tryz.prog laidZ w) ∧ sizedMet enc Tryz.prog Tryz.f3 (OpenSpec.ofChange Rows.dedupRunsSpec) false w args)
      (Rows.dedupRunsSpec.post enc Tryz.prog Tryz.f3 false true false false) := by
  refine returnsInHanded_of_change_and (C := Tryz.checked) (X := fun w _ => laidMetH Tryz.prog laidZ w) (fun _ _ _ hh h => h.of_heap hh) Tryz.own started (by kernel_rfl) Tryz.func3
    (ChangeSpec.witness_shaped (enc := enc) (C := Tryz.checked) (os := os) (X := fun w _ => laidMetH Tryz.prog laidZ w) false (World.laidAll Tryz.prog os laidZ) zeroArgs 12 (World.laidAll_os _ _ _)
      (World.shaped_of_ZipB (by kernel_rfl) (by kernel_rfl)) (by kernel_rfl) (by kernel_rfl) (by kernel_rfl)
      (by rw [MakeChecks.laidMetH_plain _ _ _ (by kernel_rfl)]; exact laidMet_laidAll _ (by kernel_rfl) (by kernel_rfl))) ?_
  intro W base args ds gs before hval hW _ _ hL _
  refine lifted_true (P := Tryz.prog) (Γ := callF tab ext) machine tysK_kids (kids_some tysK_ok) (kids_full tysK_ok) (fun t ht => ?_) (tb := 4) rfl under4 rfl (fun ds hds => ?_) (fun xss hlen hsh => ?_) W (globOk hL) base args ds gs before hval hW
  · rw [params_dedupruns] at ht
    exact ⟨par_dedupruns ht, tysK_lt (par_dedupruns ht)⟩
  · match ds, hds with
    | [_, _], _ => rfl
  · match xss, hlen with
    | [x0, x1], _ =>
      obtain ⟨_, h0⟩ := hsh 0 22 x0 rfl rfl
      obtain ⟨_, h1⟩ := hsh 1 5 x1 rfl rfl
      obtain ⟨l, hl, rfl⟩ := shape_keys h0
      obtain ⟨w, hw, rfl⟩ := shape_u8 h1
      refine ⟨190501, [], ?_⟩
      have : argsX Tryz.prog Tryz.f3.params.toList [[.sl false 1 (u8s l)], [u8 w]] = [.sl false 1 (u8s l), u8 w] := by
        kernel_rfl
      rw [this]
      exact druns_all l hl w hw

set_option maxRecDepth 100000
theorem dedupruns_a1 : (Rows.dedupRunsRow.inPlace == Tryz.prog.inPlace 3) = true := by kernel_rfl
theorem dedupruns_a2 : (Rows.dedupRunsRow.unfollowed == Tryz.prog.unfollowed 3) = true := by kernel_rfl
theorem dedupruns_a3 : (Rows.dedupRunsRow.recurses == Tryz.prog.recurses 3) = true := by kernel_rfl
theorem dedupruns_a4 : (Rows.dedupRunsRow.named == Tryz.prog.varsNamed 3) = true := by kernel_rfl
theorem dedupruns_b1 : (Rows.dedupRunsRow.wf (OpenSpec.ofChange Rows.dedupRunsSpec) && Tryz.f3.params.all (Tryz.prog.readableRec ·) && namedTie Tryz.prog Rows.dedupRunsRow.named Rows.dedupRunsSpec.vars && (Rows.dedupRunsRow.stops == []) && (Rows.dedupRunsRow.knobs == [])) = true := by kernel_rfl
theorem dedupruns_b2 : ((Rows.dedupRunsRow.maps == (Tryz.f3.params.toList ++ Rows.dedupRunsSpec.plain.varTypes Tryz.prog).any (Tryz.prog.mapsRec ·)) && (Rows.dedupRunsRow.ifaces == (Tryz.f3.params.toList ++ Rows.dedupRunsSpec.plain.varTypes Tryz.prog).any (Tryz.prog.ifacesRec ·)) && (Rows.dedupRunsRow.mapsOut == Tryz.prog.mapsAmong Tryz.f3.resultTypes.toList) &&
      (Rows.dedupRunsRow.loops == (Tryz.f3.params.toList ++ Rows.dedupRunsSpec.plain.varTypes Tryz.prog).any (Tryz.prog.loopsFrom ·)) && (Rows.dedupRunsRow.wideKeys == (Tryz.f3.params.toList ++ Rows.dedupRunsSpec.plain.varTypes Tryz.prog ++ Tryz.f3.resultTypes.toList).any (Tryz.prog.wideKeysFrom ·))) = true := by kernel_rfl
theorem dedupruns_b3 : (Rows.dedupRunsSpec.vars.all (Tryz.prog.varReadable ·) && Tryz.f3.resultTypes.all (fun t => Tryz.prog.readableRec t && decide (t < Tryz.prog.types.size)) && (Rows.dedupRunsRow.ifacesOut == Tryz.f3.resultTypes.toList.any (Tryz.prog.ifacesRec ·)) && (Rows.dedupRunsRow.loopsOut == Tryz.f3.resultTypes.toList.any (Tryz.prog.loopsFrom ·)) && Rows.dedupRunsRow.shortTexts.isNone) = true := by kernel_rfl
theorem dedupruns_b4 : ((Rows.dedupRunsRow.kinds == (if Rows.dedupRunsRow.domain.isEmpty then [] else Tryz.f3.params.toList.map fun t => match Tryz.prog.underlying t with | some (.int k) => some k | _ => none)) && (Rows.dedupRunsRow.pinned == Rows.dedupRunsRow.pinnedBy) &&
      (Rows.dedupRunsRow.veiled == (Tryz.f3.params.toList ++ Rows.dedupRunsSpec.plain.varTypes Tryz.prog ++ Tryz.f3.resultTypes.toList).any (Tryz.prog.veiledRec ·)) && Rows.dedupRunsRow.veiledFits Tryz.prog Tryz.f3.params.toList (Tryz.f3.params.toList ++ Rows.dedupRunsSpec.plain.varTypes Tryz.prog ++ Tryz.f3.resultTypes.toList)) = true := by kernel_rfl
theorem dedupruns_named : Tryz.prog.funcNamed "manifold/manifoldlaw35.DedupRuns" = some 3 := by kernel_rfl
theorem dedupruns_ids : decide (Tryz.f3.isInstance Tryz.prog Rows.dedupRunsRow.origin Rows.dedupRunsRow.targs) = true := by kernel_rfl
theorem dedupruns_wrap : Tryz.f3.isWrapper Tryz.prog Rows.dedupRunsRow.wrapper Rows.dedupRunsRow.mainSum := by unfold Func.isWrapper; rw [if_neg (by decide +kernel)]; exact ⟨rfl, rfl⟩
theorem dedupruns_joined : joinedFacts Tryz.prog 3 Tryz.f3 Rows.dedupRunsSpec Rows.dedupRunsRow = true :=
  joined_of Tryz.laidOut Tryz.rowed jf_stops jf_heard jf_enter dedupruns_a1 dedupruns_a2 dedupruns_a3 dedupruns_a4 dedupruns_b1 dedupruns_b2 dedupruns_b3
    (by rw [jf_plain]; rfl) (by rw [jf_lifted]; rfl) jf_make dedupruns_b4
theorem dedupruns_holds : Rows.DedupRunsSaid :=
  OpenClaim.holds_of_wide 3 Tryz.f3 rfl rfl rfl rfl rfl rfl rfl ⟨rfl, rfl, rfl, rfl, rfl⟩ rfl rfl rfl rfl rfl dedupruns_named Tryz.func3 dedupruns_joined
    (of_decide_eq_true dedupruns_ids) dedupruns_wrap
    (fun os started H enc _ => dedupruns_lifted os started H enc)
theorem dedupruns_text : Rows.dedupRunsRow.wfByText (OpenSpec.ofChange Rows.dedupRunsSpec) = true := by kernel_rfl
theorem dedupruns_goes : false = Rows.dedupRunsRow.goesBy Tryz.prog := by kernel_rfl
theorem dedupruns_stand : ((([22, 5] : List TypeId).all fun u => !Tryz.prog.wantsStandIn u) = true) ∧ Tryz.f3.params = #[22, 5] := ⟨by kernel_rfl, by kernel_rfl⟩
theorem dedupruns_card : Rows.DedupRunsCardSaid :=
  Claim7.holds_tied_plain_at .later [] [.data, .data, .data, .data, .sentinel, .sentinel, .pinned] true (true, "fda8d723c99205a616a719e840104a1e214bfa621fcce8c0bc2210fee27a5a68") true dedupruns_holds (fun _ h => by cases h) dedupruns_text (fun _ h => by cases h) dedupRuns_row_tie rfl ⟨rfl, rfl⟩ jf_main rfl
    (fun f fn hf hfn => by
      obtain rfl : f = 3 := Option.some.inj (dedupruns_named.symm.trans hf) |>.symm
      obtain rfl : fn = Tryz.f3 := (Option.some.inj (Tryz.func3.symm.trans hfn)).symm
      refine ⟨jf_looks, fun j t ht => ?_⟩
      rw [dedupruns_stand.2] at ht
      have hm : t ∈ ([22, 5] : List TypeId) := by simpa using Array.mem_of_getElem? ht
      exact (show Tryz.prog.wantsStandIn t = false by simpa using List.all_eq_true.1 dedupruns_stand.1 t hm))
    dedupruns_goes
end Go.Proofs.YthfchdkjeddijaaGreatDoor
