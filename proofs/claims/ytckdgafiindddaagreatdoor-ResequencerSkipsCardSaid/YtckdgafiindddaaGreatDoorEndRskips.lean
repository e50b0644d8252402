/- ResequencerSkips: the row, and its tied card. Conditions: none. -/
import Derived.Test.YtckdgafiindddaaGreatDoorCards
import Derived.Test.YtckdgafiindddaaGreatDoorTie
import Derived.Test.YtckdgafiindddaaGreatDoorU26
import Derived.Test.YtckdgafiindddaaGreatDoorU30
set_option linter.all false
namespace Go.Proofs.YtckdgafiindddaaGreatDoor
open Go.ChangeShapes Go.WideShapes Go.ChangeAt Go.RowKit Go.Em

theorem params_resequencerskips : Tryz.f5.params.toList = [22, 5, 5] := by kernel_rfl
theorem par_resequencerskips {t : TypeId} (h : t ∈ ([22, 5, 5] : List TypeId)) : t ∈ tysR := by
  simp only [List.mem_cons, List.not_mem_nil, or_false] at h
  rcases h with rfl | rfl | rfl
  · decide
  · decide
  · decide

def zIe : Value := .int .i64 0
def zTe : Value := .string ⟨#[]⟩
def zSe : Value := .slice none 0 0
/-- All zero. -/
def zeroArgs : Array Value := #[zSe, .int .u8 0, .int .u8 0]

set_option maxRecDepth 100000 in
theorem resequencerskips_lifted (os : Os) (started : os.Started) (H : Type) (enc : TypeId × Value → H) :
    ReturnsInHanded {} Tryz.checked os 5 .any (fun w args => (Rows.resequencerSkipsSpec.pre enc Tryz.prog Tryz.f5 Rows.resequencerSkipsRow.domain false w args ∧ laidMetH Tryz.prog laidZ w) ∧ sizedMet enc Tryz.prog Tryz.f5 (OpenSpec.ofChange Rows.resequencerSkipsSpec) false w args)
      (Rows.resequencerSkipsSpec.post enc Tryz.prog Tryz.f5 false true false false) := by
  refine returnsInHanded_of_change_and (C := Tryz.checked) (X := fun w _ => laidMetH Tryz.prog laidZ w) (fun _ _ _ hh h => h.of_heap hh) Tryz.own started (by kernel_rfl) Tryz.func5
    (ChangeSpec.witness_shaped (enc := enc) (C := Tryz.checked) (os := os) (X := fun w _ => laidMetH Tryz.prog laidZ w) false (World.laidAll Tryz.prog os laidZ) zeroArgs 12 (World.laidAll_os _ _ _)
      (World.shaped_of_ZipB (by kernel_rfl) (by kernel_rfl)) (by kernel_rfl) (by kernel_rfl) (by kernel_rfl)
      (by rw [MakeChecks.laidMetH_plain _ _ _ (by kernel_rfl)]; exact laidMet_laidAll _ (by kernel_rfl) (by kernel_rfl))) ?_
  intro W base args ds gs before hval hW _ _ hL _
  refine lifted_true (P := Tryz.prog) (Γ := callF tab ext) machine tysR_kids (kids_some tysR_ok) (kids_full tysR_ok) (fun t ht => ?_) (tb := 4) rfl under4 rfl (fun ds hds => ?_) (fun xss hlen hsh => ?_) W (globOk hL) base args ds gs before hval hW
  · rw [params_resequencerskips] at ht
    exact ⟨par_resequencerskips ht, tysR_lt (par_resequencerskips ht)⟩
  · match ds, hds with
    | [_, _, _], _ => rfl
  · match xss, hlen with
    | [x0, x1, x2], _ =>
      obtain ⟨_, h0⟩ := hsh 0 22 x0 rfl rfl
      obtain ⟨_, h1⟩ := hsh 1 5 x1 rfl rfl
      obtain ⟨_, h2⟩ := hsh 2 5 x2 rfl rfl
      obtain ⟨l, hl, rfl⟩ := shape_arvs h0
      obtain ⟨w, hw, rfl⟩ := shape_u8 h1
      obtain ⟨v, hv, rfl⟩ := shape_u8 h2
      refine ⟨202101, [], ?_⟩
      have : argsX Tryz.prog Tryz.f5.params.toList [[.sl false 4 (arvC l)], [u8 w], [u8 v]] = [.sl false 4 (arvC l), u8 w, u8 v] := by
        kernel_rfl
      rw [this]
      exact rskips_all l hl w v hw hv

set_option maxRecDepth 100000
theorem resequencerskips_a1 : (Rows.resequencerSkipsRow.inPlace == Tryz.prog.inPlace 5) = true := by kernel_rfl
theorem resequencerskips_a2 : (Rows.resequencerSkipsRow.unfollowed == Tryz.prog.unfollowed 5) = true := by kernel_rfl
theorem resequencerskips_a3 : (Rows.resequencerSkipsRow.recurses == Tryz.prog.recurses 5) = true := by kernel_rfl
theorem resequencerskips_a4 : (Rows.resequencerSkipsRow.named == Tryz.prog.varsNamed 5) = true := by kernel_rfl
theorem resequencerskips_b1 : (Rows.resequencerSkipsRow.wf (OpenSpec.ofChange Rows.resequencerSkipsSpec) && Tryz.f5.params.all (Tryz.prog.readableRec ·) && namedTie Tryz.prog Rows.resequencerSkipsRow.named Rows.resequencerSkipsSpec.vars && (Rows.resequencerSkipsRow.stops == []) && (Rows.resequencerSkipsRow.knobs == [])) = true := by kernel_rfl
theorem resequencerskips_b2 : ((Rows.resequencerSkipsRow.maps == (Tryz.f5.params.toList ++ Rows.resequencerSkipsSpec.plain.varTypes Tryz.prog).any (Tryz.prog.mapsRec ·)) && (Rows.resequencerSkipsRow.ifaces == (Tryz.f5.params.toList ++ Rows.resequencerSkipsSpec.plain.varTypes Tryz.prog).any (Tryz.prog.ifacesRec ·)) && (Rows.resequencerSkipsRow.mapsOut == Tryz.prog.mapsAmong Tryz.f5.resultTypes.toList) &&
      (Rows.resequencerSkipsRow.loops == (Tryz.f5.params.toList ++ Rows.resequencerSkipsSpec.plain.varTypes Tryz.prog).any (Tryz.prog.loopsFrom ·)) && (Rows.resequencerSkipsRow.wideKeys == (Tryz.f5.params.toList ++ Rows.resequencerSkipsSpec.plain.varTypes Tryz.prog ++ Tryz.f5.resultTypes.toList).any (Tryz.prog.wideKeysFrom ·))) = true := by kernel_rfl
theorem resequencerskips_b3 : (Rows.resequencerSkipsSpec.vars.all (Tryz.prog.varReadable ·) && Tryz.f5.resultTypes.all (fun t => Tryz.prog.readableRec t && decide (t < Tryz.prog.types.size)) && (Rows.resequencerSkipsRow.ifacesOut == Tryz.f5.resultTypes.toList.any (Tryz.prog.ifacesRec ·)) && (Rows.resequencerSkipsRow.loopsOut == Tryz.f5.resultTypes.toList.any (Tryz.prog.loopsFrom ·)) && Rows.resequencerSkipsRow.shortTexts.isNone) = true := by kernel_rfl
theorem resequencerskips_b4 : ((Rows.resequencerSkipsRow.kinds == (if Rows.resequencerSkipsRow.domain.isEmpty then [] else Tryz.f5.params.toList.map fun t => match Tryz.prog.underlying t with | some (.int k) => some k | _ => none)) && (Rows.resequencerSkipsRow.pinned == Rows.resequencerSkipsRow.pinnedBy) &&
      (Rows.resequencerSkipsRow.veiled == (Tryz.f5.params.toList ++ Rows.resequencerSkipsSpec.plain.varTypes Tryz.prog ++ Tryz.f5.resultTypes.toList).any (Tryz.prog.veiledRec ·)) && Rows.resequencerSkipsRow.veiledFits Tryz.prog Tryz.f5.params.toList (Tryz.f5.params.toList ++ Rows.resequencerSkipsSpec.plain.varTypes Tryz.prog ++ Tryz.f5.resultTypes.toList)) = true := by kernel_rfl
theorem resequencerskips_named : Tryz.prog.funcNamed "manifold/manifoldlaw34.ResequencerSkips" = some 5 := by kernel_rfl
theorem resequencerskips_ids : decide (Tryz.f5.isInstance Tryz.prog Rows.resequencerSkipsRow.origin Rows.resequencerSkipsRow.targs) = true := by kernel_rfl
theorem resequencerskips_wrap : Tryz.f5.isWrapper Tryz.prog Rows.resequencerSkipsRow.wrapper Rows.resequencerSkipsRow.mainSum := by unfold Func.isWrapper; rw [if_neg (by decide +kernel)]; exact ⟨rfl, rfl⟩
theorem resequencerskips_joined : joinedFacts Tryz.prog 5 Tryz.f5 Rows.resequencerSkipsSpec Rows.resequencerSkipsRow = true :=
  joined_of Tryz.laidOut Tryz.rowed jf_stops jf_heard jf_enter resequencerskips_a1 resequencerskips_a2 resequencerskips_a3 resequencerskips_a4 resequencerskips_b1 resequencerskips_b2 resequencerskips_b3
    (by rw [jf_plain]; rfl) (by rw [jf_lifted]; rfl) jf_make resequencerskips_b4
theorem resequencerskips_holds : Rows.ResequencerSkipsSaid :=
  OpenClaim.holds_of_wide 5 Tryz.f5 rfl rfl rfl rfl rfl rfl rfl ⟨rfl, rfl, rfl, rfl, rfl⟩ rfl rfl rfl rfl rfl resequencerskips_named Tryz.func5 resequencerskips_joined
    (of_decide_eq_true resequencerskips_ids) resequencerskips_wrap
    (fun os started H enc _ => resequencerskips_lifted os started H enc)
theorem resequencerskips_text : Rows.resequencerSkipsRow.wfByText (OpenSpec.ofChange Rows.resequencerSkipsSpec) = true := by kernel_rfl
theorem resequencerskips_goes : false = Rows.resequencerSkipsRow.goesBy Tryz.prog := by kernel_rfl
theorem resequencerskips_stand : ((([22, 5, 5] : List TypeId).all fun u => !Tryz.prog.wantsStandIn u) = true) ∧ Tryz.f5.params = #[22, 5, 5] := ⟨by kernel_rfl, by kernel_rfl⟩
theorem resequencerskips_card : Rows.ResequencerSkipsCardSaid :=
  Claim7.holds_tied_plain_at .later [] [.data, .data, .data, .data, .sentinel, .sentinel, .pinned] true (true, "5137f3551b1c4a9c79fdd57f10f0ba5c9da7cb1eacc1cb82495b3c1407e76844") true resequencerskips_holds (fun _ h => by cases h) resequencerskips_text (fun _ h => by cases h) resequencerSkips_row_tie rfl ⟨rfl, rfl⟩ jf_main rfl
    (fun f fn hf hfn => by
      obtain rfl : f = 5 := Option.some.inj (resequencerskips_named.symm.trans hf) |>.symm
      obtain rfl : fn = Tryz.f5 := (Option.some.inj (Tryz.func5.symm.trans hfn)).symm
      refine ⟨jf_looks, fun j t ht => ?_⟩
      rw [resequencerskips_stand.2] at ht
      have hm : t ∈ ([22, 5, 5] : List TypeId) := by simpa using Array.mem_of_getElem? ht
      exact (show Tryz.prog.wantsStandIn t = false by simpa using List.all_eq_true.1 resequencerskips_stand.1 t hm))
    resequencerskips_goes
end Go.Proofs.YtckdgafiindddaaGreatDoor
