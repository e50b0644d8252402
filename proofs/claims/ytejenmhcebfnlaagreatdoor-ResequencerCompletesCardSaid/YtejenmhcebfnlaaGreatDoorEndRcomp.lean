/- ResequencerCompletes: the row, and its tied card. Conditions: none. -/
import Derived.Test.YtejenmhcebfnlaaGreatDoorCards
import Derived.Test.YtejenmhcebfnlaaGreatDoorTie
import Derived.Test.YtejenmhcebfnlaaGreatDoorU21
import Derived.Test.YtejenmhcebfnlaaGreatDoorU25
set_option linter.all false
namespace Go.Proofs.YtejenmhcebfnlaaGreatDoor
open Go.ChangeShapes Go.WideShapes Go.ChangeAt Go.RowKit Go.Em

theorem params_resequencercompletes : Tryz.f3.params.toList = [22, 5] := by kernel_rfl
theorem par_resequencercompletes {t : TypeId} (h : t ∈ ([22, 5] : List TypeId)) : t ∈ tysK := by
  simp only [List.mem_cons, List.not_mem_nil, or_false] at h
  rcases h with rfl | rfl
  · decide
  · decide

def zIe : Value := .int .i64 0
def zTe : Value := .string ⟨#[]⟩
def zSe : Value := .slice none 0 0
/-- All zero. -/
def zeroArgs : Array Value := #[zSe, .int .u8 0]

set_option maxRecDepth 100000 in
theorem resequencercompletes_lifted (os : Os) (started : os.Started) (H : Type) (enc : TypeId × Value → H) :
    ReturnsInHanded {} Tryz.checked os 3 .any (fun w args => (Rows.resequencerCompletesSpec.pre enc Tryz.prog Tryz.f3 Rows.resequencerCompletesRow.domain false w args ∧ laidMetH Tryz.prog laidZ w) ∧ sizedMet enc Tryz.prog Tryz.f3 (OpenSpec.ofChange Rows.resequencerCompletesSpec) false w args)
      (Rows.resequencerCompletesSpec.post enc Tryz.prog Tryz.f3 false true false false) := by
  refine returnsInHanded_of_change_and (C := Tryz.checked) (X := fun w _ => laidMetH Tryz.prog laidZ w) (fun _ _ _ hh h => h.of_heap hh) Tryz.own started (by kernel_rfl) Tryz.func3
    (ChangeSpec.witness_shaped (enc := enc) (C := Tryz.checked) (os := os) (X := fun w _ => laidMetH Tryz.prog laidZ w) false (World.laidAll Tryz.prog os laidZ) zeroArgs 12 (World.laidAll_os _ _ _)
      (World.shaped_of_ZipB (by kernel_rfl) (by kernel_rfl)) (by kernel_rfl) (by kernel_rfl) (by kernel_rfl)
      (by rw [MakeChecks.laidMetH_plain _ _ _ (by kernel_rfl)]; exact laidMet_laidAll _ (by kernel_rfl) (by kernel_rfl))) ?_
  intro W base args ds gs before hval hW _ _ hL _
  refine lifted_true (P := Tryz.prog) (Γ := callF tab ext) machine tysK_kids (kids_some tysK_ok) (kids_full tysK_ok) (fun t ht => ?_) (tb := 4) rfl under4 rfl (fun ds hds => ?_) (fun xss hlen hsh => ?_) W (globOk hL) base args ds gs before hval hW
  · rw [params_resequencercompletes] at ht
    exact ⟨par_resequencercompletes ht, tysK_lt (par_resequencercompletes ht)⟩
  · match ds, hds with
    | [_, _], _ => rfl
  · match xss, hlen with
    | [x0, x1], _ =>
      obtain ⟨_, h0⟩ := hsh 0 22 x0 rfl rfl
      obtain ⟨_, h1⟩ := hsh 1 5 x1 rfl rfl
      obtain ⟨l, hl, rfl⟩ := shape_keys h0
      obtain ⟨w, hw, rfl⟩ := shape_u8 h1
      refine ⟨202101, [], ?_⟩
      have : argsX Tryz.prog Tryz.f3.params.toList [[.sl false 1 (u8s l)], [u8 w]] = [.sl false 1 (u8s l), u8 w] := by
        kernel_rfl
      rw [this]
      exact rcompletes_all l hl w

set_option maxRecDepth 100000
theorem resequencercompletes_a1 : (Rows.resequencerCompletesRow.inPlace == Tryz.prog.inPlace 3) = true := by kernel_rfl
theorem resequencercompletes_a2 : (Rows.resequencerCompletesRow.unfollowed == Tryz.prog.unfollowed 3) = true := by kernel_rfl
theorem resequencercompletes_a3 : (Rows.resequencerCompletesRow.recurses == Tryz.prog.recurses 3) = true := by kernel_rfl
theorem resequencercompletes_a4 : (Rows.resequencerCompletesRow.named == Tryz.prog.varsNamed 3) = true := by kernel_rfl
theorem resequencercompletes_b1 : (Rows.resequencerCompletesRow.wf (OpenSpec.ofChange Rows.resequencerCompletesSpec) && Tryz.f3.params.all (Tryz.prog.readableRec ·) && namedTie Tryz.prog Rows.resequencerCompletesRow.named Rows.resequencerCompletesSpec.vars && (Rows.resequencerCompletesRow.stops == []) && (Rows.resequencerCompletesRow.knobs == [])) = true := by kernel_rfl
theorem resequencercompletes_b2 : ((Rows.resequencerCompletesRow.maps == (Tryz.f3.params.toList ++ Rows.resequencerCompletesSpec.plain.varTypes Tryz.prog).any (Tryz.prog.mapsRec ·)) && (Rows.resequencerCompletesRow.ifaces == (Tryz.f3.params.toList ++ Rows.resequencerCompletesSpec.plain.varTypes Tryz.prog).any (Tryz.prog.ifacesRec ·)) && (Rows.resequencerCompletesRow.mapsOut == Tryz.prog.mapsAmong Tryz.f3.resultTypes.toList) &&
      (Rows.resequencerCompletesRow.loops == (Tryz.f3.params.toList ++ Rows.resequencerCompletesSpec.plain.varTypes Tryz.prog).any (Tryz.prog.loopsFrom ·)) && (Rows.resequencerCompletesRow.wideKeys == (Tryz.f3.params.toList ++ Rows.resequencerCompletesSpec.plain.varTypes Tryz.prog ++ Tryz.f3.resultTypes.toList).any (Tryz.prog.wideKeysFrom ·))) = true := by kernel_rfl
theorem resequencercompletes_b3 : (Rows.resequencerCompletesSpec.vars.all (Tryz.prog.varReadable ·) && Tryz.f3.resultTypes.all (fun t => Tryz.prog.readableRec t && decide (t < Tryz.prog.types.size)) && (Rows.resequencerCompletesRow.ifacesOut == Tryz.f3.resultTypes.toList.any (Tryz.prog.ifacesRec ·)) && (Rows.resequencerCompletesRow.loopsOut == Tryz.f3.resultTypes.toList.any (Tryz.prog.loopsFrom ·)) && Rows.resequencerCompletesRow.shortTexts.isNone) = true := by kernel_rfl
theorem resequencercompletes_b4 : ((Rows.resequencerCompletesRow.kinds == (if Rows.resequencerCompletesRow.domain.isEmpty then [] else Tryz.f3.params.toList.map fun t => match Tryz.prog.underlying t with | some (.int k) => some k | _ => none)) && (Rows.resequencerCompletesRow.pinned == Rows.resequencerCompletesRow.pinnedBy) &&
      (Rows.resequencerCompletesRow.veiled == (Tryz.f3.params.toList ++ Rows.resequencerCompletesSpec.plain.varTypes Tryz.prog ++ Tryz.f3.resultTypes.toList).any (Tryz.prog.veiledRec ·)) && Rows.resequencerCompletesRow.veiledFits Tryz.prog Tryz.f3.params.toList (Tryz.f3.params.toList ++ Rows.resequencerCompletesSpec.plain.varTypes Tryz.prog ++ Tryz.f3.resultTypes.toList)) = true := by kernel_rfl
theorem resequencercompletes_named : Tryz.prog.funcNamed "manifold/manifoldlaw34.ResequencerCompletes" = some 3 := by kernel_rfl
theorem resequencercompletes_ids : decide (Tryz.f3.isInstance Tryz.prog Rows.resequencerCompletesRow.origin Rows.resequencerCompletesRow.targs) = true := by kernel_rfl
theorem resequencercompletes_wrap : Tryz.f3.isWrapper Tryz.prog Rows.resequencerCompletesRow.wrapper Rows.resequencerCompletesRow.mainSum := by unfold Func.isWrapper; rw [if_neg (by decide +kernel)]; exact ⟨rfl, rfl⟩
theorem resequencercompletes_joined : joinedFacts Tryz.prog 3 Tryz.f3 Rows.resequencerCompletesSpec Rows.resequencerCompletesRow = true :=
  joined_of Tryz.laidOut Tryz.rowed jf_stops jf_heard jf_enter resequencercompletes_a1 resequencercompletes_a2 resequencercompletes_a3 resequencercompletes_a4 resequencercompletes_b1 resequencercompletes_b2 resequencercompletes_b3
    (by rw [jf_plain]; rfl) (by rw [jf_lifted]; rfl) jf_make resequencercompletes_b4
theorem resequencercompletes_holds : Rows.ResequencerCompletesSaid :=
  OpenClaim.holds_of_wide 3 Tryz.f3 rfl rfl rfl rfl rfl rfl rfl ⟨rfl, rfl, rfl, rfl, rfl⟩ rfl rfl rfl rfl rfl resequencercompletes_named Tryz.func3 resequencercompletes_joined
    (of_decide_eq_true resequencercompletes_ids) resequencercompletes_wrap
    (fun os started H enc _ => resequencercompletes_lifted os started H enc)
theorem resequencercompletes_text : Rows.resequencerCompletesRow.wfByText (OpenSpec.ofChange Rows.resequencerCompletesSpec) = true := by kernel_rfl
theorem resequencercompletes_goes : false = Rows.resequencerCompletesRow.goesBy Tryz.prog := by kernel_rfl
theorem resequencercompletes_stand : ((([22, 5] : List TypeId).all fun u => !Tryz.prog.wantsStandIn u) = true) ∧ Tryz.f3.params = #[22, 5] := ⟨by kernel_rfl, by kernel_rfl⟩
theorem resequencercompletes_card : Rows.ResequencerCompletesCardSaid :=
  Claim7.holds_tied_plain_at .later [] [.data, .data, .data, .data, .sentinel, .sentinel, .pinned] true (true, "80e9f21b2d7a6d9917fae1704bf97cd187927164268aec5fb921e20ad914bc2e") true resequencercompletes_holds (fun _ h => by cases h) resequencercompletes_text (fun _ h => by cases h) resequencerCompletes_row_tie rfl ⟨rfl, rfl⟩ jf_main rfl
    (fun f fn hf hfn => by
      obtain rfl : f = 3 := Option.some.inj (resequencercompletes_named.symm.trans hf) |>.symm
      obtain rfl : fn = Tryz.f3 := (Option.some.inj (Tryz.func3.symm.trans hfn)).symm
      refine ⟨jf_looks, fun j t ht => ?_⟩
      rw [resequencercompletes_stand.2] at ht
      have hm : t ∈ ([22, 5] : List TypeId) := by simpa using Array.mem_of_getElem? ht
      exact (show Tryz.prog.wantsStandIn t = false by simpa using List.all_eq_true.1 resequencercompletes_stand.1 t hm))
    resequencercompletes_goes
end Go.Proofs.YtejenmhcebfnlaaGreatDoor
