/- DedupWindows: the row, and its tied card. Conditions: none. -/
import Derived.Test.YthfchdkjeddijaaGreatDoorCards
import Derived.Test.YthfchdkjeddijaaGreatDoorTie
import Derived.OpenShut
import Derived.SevenTiedAt
import Derived.Stop.Joined
import Derived.Test.YthfchdkjeddijaaGreatDoorK16
import Derived.Test.YthfchdkjeddijaaGreatDoorK19
import Derived.Test.YthfchdkjeddijaaGreatDoorK26
namespace Go.Proofs.YthfchdkjeddijaaGreatDoor
open Go.ChangeShapes Go.WideShapes Go.ChangeAt Go.RowKit Go.Em

theorem params_dedupwindows : Tryz.f4.params.toList = [22, 5] := by kernel_rfl
theorem par_dedupwindows {t : TypeId} (h : t ∈ ([22, 5] : List TypeId)) : t ∈ tysK := by
  simp only [List.mem_cons, List.not_mem_nil, or_false] at h
  rcases h with rfl | rfl
  · decide
  · decide

def zI : Value := .int .i64 0
def zT : Value := .string ⟨#[]⟩
def zS : Value := .slice none 0 0
/-- All zero. -/
def zeroArgs : Array Value := #[zS, .int .u8 0]

set_option maxRecDepth 100000 in
theorem dedupwindows_lifted (os : Os) (started : os.Started) (H : Type) (enc : TypeId × Value → H) :
    ReturnsInHanded {} Tryz.checked os 4 .any (fun w args => (Rows.dedupWindowsSpec.pre enc Tryz.prog Tryz.f4 Rows.dedupWindowsRow.domain false w args ∧ laidMetH Tryz.prog laidZ w) ∧ sizedMet enc Tryz.prog Tryz.f4 (OpenSpec.ofChange Rows.dedupWindowsSpec) false w args)
      (Rows.dedupWindowsSpec.post enc Tryz.prog Tryz.f4 false true false false) := by
  refine returnsInHanded_of_change_and (C := Tryz.checked) (X := fun w _ => laidMetH Tryz.prog laidZ w) (fun _ _ _ hh h => h.of_heap hh) Tryz.own started (by kernel_rfl) Tryz.func4
    (ChangeSpec.witness_shaped (enc := enc) (C := Tryz.checked) (os := os) (X := fun w _ => laidMetH Tryz.prog laidZ w) false (World.laidAll Tryz.prog os laidZ) zeroArgs 12 (World.laidAll_os _ _ _)
      (World.shaped_of_ZipB (by kernel_rfl) (by kernel_rfl)) (by kernel_rfl) (by kernel_rfl) (by kernel_rfl)
      (by rw [MakeChecks.laidMetH_plain _ _ _ (by kernel_rfl)]; exact laidMet_laidAll _ (by kernel_rfl) (by kernel_rfl))) ?_
  intro W base args ds gs before hval hW _ _ hL _
  refine lifted_true (P := Tryz.prog) (Γ := callF tab ext) machine tysK_kids (kids_some tysK_ok) (kids_full tysK_ok) (fun t ht => ?_) (tb := 4) rfl under4 rfl (fun ds hds => ?_) (fun xss hlen hsh => ?_) W (globOk hL) base args ds gs before hval hW
  · rw [params_dedupwindows] at ht
    exact ⟨par_dedupwindows ht, tysK_lt (par_dedupwindows ht)⟩
  · match ds, hds with
    | [_, _], _ => rfl
  · match xss, hlen with
    | [x0, x1], _ =>
      obtain ⟨_, h0⟩ := hsh 0 22 x0 rfl rfl
      obtain ⟨_, h1⟩ := hsh 1 5 x1 rfl rfl
      obtain ⟨l, hl, rfl⟩ := shape_keys h0
      obtain ⟨w, hw, rfl⟩ := shape_u8 h1
      refine ⟨190501, [], ?_⟩
      have : argsX Tryz.prog Tryz.f4.params.toList [[.sl false 1 (u8s l)], [u8 w]] = [.sl false 1 (u8s l), u8 w] := by
        kernel_rfl
      rw [this]
      exact dwins_all l hl w

set_option maxRecDepth 100000
theorem dedupwindows_a1 : (Rows.dedupWindowsRow.inPlace == Tryz.prog.inPlace 4) = true := by kernel_rfl
theorem dedupwindows_a2 : (Rows.dedupWindowsRow.unfollowed == Tryz.prog.unfollowed 4) = true := by kernel_rfl
theorem dedupwindows_a3 : (Rows.dedupWindowsRow.recurses == Tryz.prog.recurses 4) = true := by kernel_rfl
theorem dedupwindows_a4 : (Rows.dedupWindowsRow.named == Tryz.prog.varsNamed 4) = true := by kernel_rfl
theorem dedupwindows_b1 : (Rows.dedupWindowsRow.wf (OpenSpec.ofChange Rows.dedupWindowsSpec) && Tryz.f4.params.all (Tryz.prog.readableRec ·) && namedTie Tryz.prog Rows.dedupWindowsRow.named Rows.dedupWindowsSpec.vars && (Rows.dedupWindowsRow.stops == []) && (Rows.dedupWindowsRow.knobs == [])) = true := by kernel_rfl
theorem dedupwindows_b2 : ((Rows.dedupWindowsRow.maps == (Tryz.f4.params.toList ++ Rows.dedupWindowsSpec.plain.varTypes Tryz.prog).any (Tryz.prog.mapsRec ·)) && (Rows.dedupWindowsRow.ifaces == (Tryz.f4.params.toList ++ Rows.dedupWindowsSpec.plain.varTypes Tryz.prog).any (Tryz.prog.ifacesRec ·)) && (Rows.dedupWindowsRow.mapsOut == Tryz.prog.mapsAmong Tryz.f4.resultTypes.toList) &&
      (Rows.dedupWindowsRow.loops == (Tryz.f4.params.toList ++ Rows.dedupWindowsSpec.plain.varTypes Tryz.prog).any (Tryz.prog.loopsFrom ·)) && (Rows.dedupWindowsRow.wideKeys == (Tryz.f4.params.toList ++ Rows.dedupWindowsSpec.plain.varTypes Tryz.prog ++ Tryz.f4.resultTypes.toList).any (Tryz.prog.wideKeysFrom ·))) = true := by kernel_rfl
theorem dedupwindows_b3 : (Rows.dedupWindowsSpec.vars.all (Tryz.prog.varReadable ·) && Tryz.f4.resultTypes.all (fun t => Tryz.prog.readableRec t && decide (t < Tryz.prog.types.size)) && (Rows.dedupWindowsRow.ifacesOut == Tryz.f4.resultTypes.toList.any (Tryz.prog.ifacesRec ·)) && (Rows.dedupWindowsRow.loopsOut == Tryz.f4.resultTypes.toList.any (Tryz.prog.loopsFrom ·)) && Rows.dedupWindowsRow.shortTexts.isNone) = true := by kernel_rfl
theorem dedupwindows_b4 : ((Rows.dedupWindowsRow.kinds == (if Rows.dedupWindowsRow.domain.isEmpty then [] else Tryz.f4.params.toList.map fun t => match Tryz.prog.underlying t with | some (.int k) => some k | _ => none)) && (Rows.dedupWindowsRow.pinned == Rows.dedupWindowsRow.pinnedBy) &&
      (Rows.dedupWindowsRow.veiled == (Tryz.f4.params.toList ++ Rows.dedupWindowsSpec.plain.varTypes Tryz.prog ++ Tryz.f4.resultTypes.toList).any (Tryz.prog.veiledRec ·)) && Rows.dedupWindowsRow.veiledFits Tryz.prog Tryz.f4.params.toList (Tryz.f4.params.toList ++ Rows.dedupWindowsSpec.plain.varTypes Tryz.prog ++ Tryz.f4.resultTypes.toList)) = true := by kernel_rfl
theorem dedupwindows_named : Tryz.prog.funcNamed "manifold/manifoldlaw35.DedupWindows" = some 4 := by kernel_rfl
theorem dedupwindows_ids : decide (Tryz.f4.isInstance Tryz.prog Rows.dedupWindowsRow.origin Rows.dedupWindowsRow.targs) = true := by kernel_rfl
theorem dedupwindows_wrap : Tryz.f4.isWrapper Tryz.prog Rows.dedupWindowsRow.wrapper Rows.dedupWindowsRow.mainSum := by unfold Func.isWrapper; rw [if_neg (by decide +kernel)]; exact ⟨rfl, rfl⟩
theorem dedupwindows_joined : joinedFacts Tryz.prog 4 Tryz.f4 Rows.dedupWindowsSpec Rows.dedupWindowsRow = true :=
  joined_of Tryz.laidOut Tryz.rowed jf_stops jf_heard jf_enter dedupwindows_a1 dedupwindows_a2 dedupwindows_a3 dedupwindows_a4 dedupwindows_b1 dedupwindows_b2 dedupwindows_b3
    (by rw [jf_plain]; rfl) (by rw [jf_lifted]; rfl) jf_make dedupwindows_b4
theorem dedupwindows_holds : Rows.DedupWindowsSaid :=
  OpenClaim.holds_of_wide 4 Tryz.f4 rfl rfl rfl rfl rfl rfl rfl ⟨rfl, rfl, rfl, rfl, rfl⟩ rfl rfl rfl rfl rfl dedupwindows_named Tryz.func4 dedupwindows_joined
    (of_decide_eq_true dedupwindows_ids) dedupwindows_wrap
    (fun os started H enc _ => dedupwindows_lifted os started H enc)
theorem dedupwindows_text : Rows.dedupWindowsRow.wfByText (OpenSpec.ofChange Rows.dedupWindowsSpec) = true := by kernel_rfl
theorem dedupwindows_goes : false = Rows.dedupWindowsRow.goesBy Tryz.prog := by kernel_rfl
theorem dedupwindows_stand : ((([22, 5] : List TypeId).all fun u => !Tryz.prog.wantsStandIn u) = true) ∧ Tryz.f4.params = #[22, 5] := ⟨by kernel_rfl, by kernel_rfl⟩
theorem dedupwindows_card : Rows.DedupWindowsCardSaid :=
  Claim7.holds_tied_plain_at .later [] [.data, .data, .data, .data, .sentinel, .sentinel, .pinned] true (true, "fda8d723c99205a616a719e840104a1e214bfa621fcce8c0bc2210fee27a5a68") true dedupwindows_holds (fun _ h => by cases h) dedupwindows_text (fun _ h => by cases h) dedupWindows_row_tie rfl ⟨rfl, rfl⟩ jf_main rfl
    (fun f fn hf hfn => by
      obtain rfl : f = 4 := Option.some.inj (dedupwindows_named.symm.trans hf) |>.symm
      obtain rfl : fn = Tryz.f4 := (Option.some.inj (Tryz.func4.symm.trans hfn)).symm
      refine ⟨jf_looks, fun j t ht => ?_⟩
      rw [dedupwindows_stand.2] at ht
      have hm : t ∈ ([22, 5] : List TypeId) := by simpa using Array.mem_of_getElem? ht
      exact (show Tryz.prog.wantsStandIn t = false by simpa using List.all_eq_true.1 dedupwindows_stand.1 t hm))
    dedupwindows_goes
end Go.Proofs.YthfchdkjeddijaaGreatDoor
