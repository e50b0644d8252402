/- ResequencerGroups: the row, and its tied card. Conditions: none. -/
import Derived.Test.YtckdgafiindddaaGreatDoorCards
import Derived.Test.YtckdgafiindddaaGreatDoorTie
import Derived.Test.YtckdgafiindddaaGreatDoorU26
set_option linter.all false
namespace Go.Proofs.YtckdgafiindddaaGreatDoor
open Go.ChangeShapes Go.WideShapes Go.ChangeAt Go.RowKit Go.Em

theorem params_resequencergroups : Tryz.f4.params.toList = [22, 5] := by kernel_rfl
theorem par_resequencergroups {t : TypeId} (h : t ∈ ([22, 5] : List TypeId)) : t ∈ tysR := by
  simp only [List.mem_cons, List.not_mem_nil, or_false] at h
  rcases h with rfl | rfl
  · decide
  · decide

def zIe : Value := .int .i64 0
def zTe : Value := .string ⟨#[]⟩
def zSe : Value := .slice none 0 0
/-- All zero. -/
def zeroArgs : Array Value := #[zSe, .int .u8 0]

set_option maxRecDepth 100000 in
theorem resequencergroups_lifted (os : Os) (started : os.Started) (H : Type) (enc : TypeId × Value → H) :
    ReturnsInHanded {} Tryz.checked os 4 .any (fun w args => (Rows.resequencerGroupsSpec.pre enc Tryz.prog Tryz.f4 Rows.resequencerGroupsRow.domain false w args ∧ laidMetH Tryz.prog laidZ w) ∧ sizedMet enc Tryz.prog Tryz.f4 (OpenSpec.ofChange Rows.resequencerGroupsSpec) false w args)
      (Rows.resequencerGroupsSpec.post enc Tryz.prog Tryz.f4 false true false false) := by
  refine returnsInHanded_of_change_and (C := Tryz.checked) (X := fun w _ => laidMetH Tryz.prog laidZ w) (fun _ _ _ hh h => h.of_heap hh) Tryz.own started (by kernel_rfl) Tryz.func4
    (ChangeSpec.witness_shaped (enc := enc) (C := Tryz.checked) (os := os) (X := fun w _ => laidMetH Tryz.prog laidZ w) false (World.laidAll Tryz.prog os laidZ) zeroArgs 12 (World.laidAll_os _ _ _)
      (World.shaped_of_ZipB (by kernel_rfl) (by kernel_rfl)) (by kernel_rfl) (by kernel_rfl) (by kernel_rfl)
      (by rw [MakeChecks.laidMetH_plain _ _ _ (by kernel_rfl)]; exact laidMet_laidAll _ (by kernel_rfl) (by kernel_rfl))) ?_
  intro W base args ds gs before hval hW _ _ hL _
  refine lifted_true (P := Tryz.prog) (Γ := callF tab ext) machine tysR_kids (kids_some tysR_ok) (kids_full tysR_ok) (fun t ht => ?_) (tb := 4) rfl under4 rfl (fun ds hds => ?_) (fun xss hlen hsh => ?_) W (globOk hL) base args ds gs before hval hW
  · rw [params_resequencergroups] at ht
    exact ⟨par_resequencergroups ht, tysR_lt (par_resequencergroups ht)⟩
  · match ds, hds with
    | [_, _], _ => rfl
  · match xss, hlen with
    | [x0, x1], _ =>
      obtain ⟨_, h0⟩ := hsh 0 22 x0 rfl rfl
      obtain ⟨_, h1⟩ := hsh 1 5 x1 rfl rfl
      obtain ⟨l, hl, rfl⟩ := shape_arvs h0
      obtain ⟨w, hw, rfl⟩ := shape_u8 h1
      refine ⟨202101, [], ?_⟩
      have : argsX Tryz.prog Tryz.f4.params.toList [[.sl false 4 (arvC l)], [u8 w]] = [.sl false 4 (arvC l), u8 w] := by
        kernel_rfl
      rw [this]
      exact rgroups_all l hl w

set_option maxRecDepth 100000
theorem resequencergroups_a1 : (Rows.resequencerGroupsRow.inPlace == Tryz.prog.inPlace 4) = true := by kernel_rfl
theorem resequencergroups_a2 : (Rows.resequencerGroupsRow.unfollowed == Tryz.prog.unfollowed 4) = true := by kernel_rfl
theorem resequencergroups_a3 : (Rows.resequencerGroupsRow.recurses == Tryz.prog.recurses 4) = true := by kernel_rfl
theorem resequencergroups_a4 : (Rows.resequencerGroupsRow.named == Tryz.prog.varsNamed 4) = true := by kernel_rfl
theorem resequencergroups_b1 : (Rows.resequencerGroupsRow.wf (OpenSpec.ofChange Rows.resequencerGroupsSpec) && Tryz.f4.params.all (Tryz.prog.readableRec ·) && namedTie Tryz.prog Rows.resequencerGroupsRow.named Rows.resequencerGroupsSpec.vars && (Rows.resequencerGroupsRow.stops == []) && (Rows.resequencerGroupsRow.knobs == [])) = true := by kernel_rfl
theorem resequencergroups_b2 : ((Rows.resequencerGroupsRow.maps == (Tryz.f4.params.toList ++ Rows.resequencerGroupsSpec.plain.varTypes Tryz.prog).any (Tryz.prog.mapsRec ·)) && (Rows.resequencerGroupsRow.ifaces == (Tryz.f4.params.toList ++ Rows.resequencerGroupsSpec.plain.varTypes Tryz.prog).any (Tryz.prog.ifacesRec ·)) && (Rows.resequencerGroupsRow.mapsOut == Tryz.prog.mapsAmong Tryz.f4.resultTypes.toList) &&
      (Rows.resequencerGroupsRow.loops == (Tryz.f4.params.toList ++ Rows.resequencerGroupsSpec.plain.varTypes Tryz.prog).any (Tryz.prog.loopsFrom ·)) && (Rows.resequencerGroupsRow.wideKeys == (Tryz.f4.params.toList ++ Rows.resequencerGroupsSpec.plain.varTypes Tryz.prog ++ Tryz.f4.resultTypes.toList).any (Tryz.prog.wideKeysFrom ·))) = true := by kernel_rfl
theorem resequencergroups_b3 : (Rows.resequencerGroupsSpec.vars.all (Tryz.prog.varReadable ·) && Tryz.f4.resultTypes.all (fun t => Tryz.prog.readableRec t && decide (t < Tryz.prog.types.size)) && (Rows.resequencerGroupsRow.ifacesOut == Tryz.f4.resultTypes.toList.any (Tryz.prog.ifacesRec ·)) && (Rows.resequencerGroupsRow.loopsOut == Tryz.f4.resultTypes.toList.any (Tryz.prog.loopsFrom ·)) && Rows.resequencerGroupsRow.shortTexts.isNone) = true := by kernel_rfl
theorem resequencergroups_b4 : ((Rows.resequencerGroupsRow.kinds == (if Rows.resequencerGroupsRow.domain.isEmpty then [] else Tryz.f4.params.toList.map fun t => match Tryz.prog.underlying t with | some (.int k) => some k | _ => none)) && (Rows.resequencerGroupsRow.pinned == Rows.resequencerGroupsRow.pinnedBy) &&
      (Rows.resequencerGroupsRow.veiled == (Tryz.f4.params.toList ++ Rows.resequencerGroupsSpec.plain.varTypes Tryz.prog ++ Tryz.f4.resultTypes.toList).any (Tryz.prog.veiledRec ·)) && Rows.resequencerGroupsRow.veiledFits Tryz.prog Tryz.f4.params.toList (Tryz.f4.params.toList ++ Rows.resequencerGroupsSpec.plain.varTypes Tryz.prog ++ Tryz.f4.resultTypes.toList)) = true := by kernel_rfl
theorem resequencergroups_named : Tryz.prog.funcNamed "manifold/manifoldlaw34.ResequencerGroups" = some 4 := by kernel_rfl
theorem resequencergroups_ids : decide (Tryz.f4.isInstance Tryz.prog Rows.resequencerGroupsRow.origin Rows.resequencerGroupsRow.targs) = true := by kernel_rfl
theorem resequencergroups_wrap : Tryz.f4.isWrapper Tryz.prog Rows.resequencerGroupsRow.wrapper Rows.resequencerGroupsRow.mainSum := by unfold Func.isWrapper; rw [if_neg (by decide +kernel)]; exact ⟨rfl, rfl⟩
theorem resequencergroups_joined : joinedFacts Tryz.prog 4 Tryz.f4 Rows.resequencerGroupsSpec Rows.resequencerGroupsRow = true :=
  joined_of Tryz.laidOut Tryz.rowed jf_stops jf_heard jf_enter resequencergroups_a1 resequencergroups_a2 resequencergroups_a3 resequencergroups_a4 resequencergroups_b1 resequencergroups_b2 resequencergroups_b3
    (by rw [jf_plain]; rfl) (by rw [jf_lifted]; rfl) jf_make resequencergroups_b4
theorem resequencergroups_holds : Rows.ResequencerGroupsSaid :=
  OpenClaim.holds_of_wide 4 Tryz.f4 rfl rfl rfl rfl rfl rfl rfl ⟨rfl, rfl, rfl, rfl, rfl⟩ rfl rfl rfl rfl rfl resequencergroups_named Tryz.func4 resequencergroups_joined
    (of_decide_eq_true resequencergroups_ids) resequencergroups_wrap
    (fun os started H enc _ => resequencergroups_lifted os started H enc)
theorem resequencergroups_text : Rows.resequencerGroupsRow.wfByText (OpenSpec.ofChange Rows.resequencerGroupsSpec) = true := by kernel_rfl
theorem resequencergroups_goes : false = Rows.resequencerGroupsRow.goesBy Tryz.prog := by kernel_rfl
theorem resequencergroups_stand : ((([22, 5] : List TypeId).all fun u => !Tryz.prog.wantsStandIn u) = true) ∧ Tryz.f4.params = #[22, 5] := ⟨by kernel_rfl, by kernel_rfl⟩
theorem resequencergroups_card : Rows.ResequencerGroupsCardSaid :=
  Claim7.holds_tied_plain_at .later [] [.data, .data, .data, .data, .sentinel, .sentinel, .pinned] true (true, "5137f3551b1c4a9c79fdd57f10f0ba5c9da7cb1eacc1cb82495b3c1407e76844") true resequencergroups_holds (fun _ h => by cases h) resequencergroups_text (fun _ h => by cases h) resequencerGroups_row_tie rfl ⟨rfl, rfl⟩ jf_main rfl
    (fun f fn hf hfn => by
      obtain rfl : f = 4 := Option.some.inj (resequencergroups_named.symm.trans hf) |>.symm
      obtain rfl : fn = Tryz.f4 := (Option.some.inj (Tryz.func4.symm.trans hfn)).symm
      refine ⟨jf_looks, fun j t ht => ?_⟩
      rw [resequencergroups_stand.2] at ht
      have hm : t ∈ ([22, 5] : List TypeId) := by simpa using Array.mem_of_getElem? ht
      exact (show Tryz.prog.wantsStandIn t = false by simpa using List.all_eq_true.1 resequencergroups_stand.1 t hm))
    resequencergroups_goes
end Go.Proofs.YtckdgafiindddaaGreatDoor
