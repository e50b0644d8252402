/- RouterMulticasts: the row, and its tied card. Conditions: none. -/
import Derived.Test.YthfchdkjeddijaaGreatDoorCards
import Derived.Test.YthfchdkjeddijaaGreatDoorTie
import Derived.OpenShut
import Derived.SevenTiedAt
import Derived.Stop.Joined
import Derived.Test.YthfchdkjeddijaaGreatDoorM15
import Derived.Test.YthfchdkjeddijaaGreatDoorM16
import Derived.Test.YthfchdkjeddijaaGreatDoorM17
namespace Go.Proofs.YthfchdkjeddijaaGreatDoor
open Go.ChangeShapes Go.WideShapes Go.ChangeAt Go.RowKit Go.Em

theorem params_routermulticasts : Tryz.f11.params.toList = [45, 25, 56] := by kernel_rfl
theorem par_routermulticasts {t : TypeId} (h : t ∈ ([45, 25, 56] : List TypeId)) : t ∈ tys := by
  simp only [List.mem_cons, List.not_mem_nil, or_false] at h
  rcases h with rfl | rfl | rfl
  · decide
  · decide
  · decide

def zI : Value := .int .i64 0
def zT : Value := .string ⟨#[]⟩
def zS : Value := .slice none 0 0
/-- All zero. -/
def zeroArgs : Array Value := #[.agg #[zT, zI, zI, zI, zI, zI, zI, zT, zI, zI, zI, zI, zS, zS, zS, zS, zS, zS, zS, zS], .agg #[zI, zI, zS], .agg #[zI, zI, zI, zS, zI, zS, zI, zS, zI, zI, zI, zT, zS, zS, zI, .bool false, .bool false, zI, zI, zI, zT, zS, zS]]

set_option maxRecDepth 100000 in
theorem routermulticasts_lifted (os : Os) (started : os.Started) (H : Type) (enc : TypeId × Value → H) :
    ReturnsInHanded {} Tryz.checked os 11 .any (fun w args => (Rows.routerMulticastsSpec.pre enc Tryz.prog Tryz.f11 Rows.routerMulticastsRow.domain false w args ∧ laidMetH Tryz.prog laidZ w) ∧ sizedMet enc Tryz.prog Tryz.f11 (OpenSpec.ofChange Rows.routerMulticastsSpec) false w args)
      (Rows.routerMulticastsSpec.post enc Tryz.prog Tryz.f11 false true false false) := by
  refine returnsInHanded_of_change_and (C := Tryz.checked) (X := fun w _ => laidMetH Tryz.prog laidZ w) (fun _ _ _ hh h => h.of_heap hh) Tryz.own started (by kernel_rfl) Tryz.func11
    (ChangeSpec.witness_shaped (enc := enc) (C := Tryz.checked) (os := os) (X := fun w _ => laidMetH Tryz.prog laidZ w) false (World.laidAll Tryz.prog os laidZ) zeroArgs 12 (World.laidAll_os _ _ _)
      (World.shaped_of_ZipB (by kernel_rfl) (by kernel_rfl)) (by kernel_rfl) (by kernel_rfl) (by kernel_rfl)
      (by rw [MakeChecks.laidMetH_plain _ _ _ (by kernel_rfl)]; exact laidMet_laidAll _ (by kernel_rfl) (by kernel_rfl))) ?_
  intro W base args ds gs before hval hW _ _ hL _
  refine lifted_true (P := Tryz.prog) (Γ := callF tab ext) machine tys_kids (kids_some tys_ok) (kids_full tys_ok) (fun t ht => ?_) (tb := 4) rfl under4 rfl (fun ds hds => ?_) (fun xss hlen hsh => ?_) W (globOk hL) base args ds gs before hval hW
  · rw [params_routermulticasts] at ht
    exact ⟨par_routermulticasts ht, tys_lt (par_routermulticasts ht)⟩
  · match ds, hds with
    | [_, _, _], _ => rfl
  · match xss, hlen with
    | [x0, x1, x2], _ =>
      obtain ⟨_, h0⟩ := hsh 0 45 x0 rfl rfl
      obtain ⟨_, h1⟩ := hsh 1 25 x1 rfl rfl
      obtain ⟨_, h2⟩ := hsh 2 56 x2 rfl rfl
      have hn := shape_node h0
      obtain ⟨s, rfl⟩ := shape_stt h1
      obtain ⟨i, rfl⟩ := shape_inp h2
      refine ⟨201000, [], ?_⟩
      have : argsX Tryz.prog Tryz.f11.params.toList [x0, s.cells, i.cells] = [.agg x0, .agg s.cells, .agg i.cells] := by
        kernel_rfl
      rw [this]
      exact rmulti_all x0 hn s i

set_option maxRecDepth 100000
theorem routermulticasts_a1 : (Rows.routerMulticastsRow.inPlace == Tryz.prog.inPlace 11) = true := by kernel_rfl
theorem routermulticasts_a2 : (Rows.routerMulticastsRow.unfollowed == Tryz.prog.unfollowed 11) = true := by kernel_rfl
theorem routermulticasts_a3 : (Rows.routerMulticastsRow.recurses == Tryz.prog.recurses 11) = true := by kernel_rfl
theorem routermulticasts_a4 : (Rows.routerMulticastsRow.named == Tryz.prog.varsNamed 11) = true := by kernel_rfl
theorem routermulticasts_b1 : (Rows.routerMulticastsRow.wf (OpenSpec.ofChange Rows.routerMulticastsSpec) && Tryz.f11.params.all (Tryz.prog.readableRec ·) && namedTie Tryz.prog Rows.routerMulticastsRow.named Rows.routerMulticastsSpec.vars && (Rows.routerMulticastsRow.stops == []) && (Rows.routerMulticastsRow.knobs == [])) = true := by kernel_rfl
theorem routermulticasts_b2 : ((Rows.routerMulticastsRow.maps == (Tryz.f11.params.toList ++ Rows.routerMulticastsSpec.plain.varTypes Tryz.prog).any (Tryz.prog.mapsRec ·)) && (Rows.routerMulticastsRow.ifaces == (Tryz.f11.params.toList ++ Rows.routerMulticastsSpec.plain.varTypes Tryz.prog).any (Tryz.prog.ifacesRec ·)) && (Rows.routerMulticastsRow.mapsOut == Tryz.prog.mapsAmong Tryz.f11.resultTypes.toList) &&
      (Rows.routerMulticastsRow.loops == (Tryz.f11.params.toList ++ Rows.routerMulticastsSpec.plain.varTypes Tryz.prog).any (Tryz.prog.loopsFrom ·)) && (Rows.routerMulticastsRow.wideKeys == (Tryz.f11.params.toList ++ Rows.routerMulticastsSpec.plain.varTypes Tryz.prog ++ Tryz.f11.resultTypes.toList).any (Tryz.prog.wideKeysFrom ·))) = true := by kernel_rfl
theorem routermulticasts_b3 : (Rows.routerMulticastsSpec.vars.all (Tryz.prog.varReadable ·) && Tryz.f11.resultTypes.all (fun t => Tryz.prog.readableRec t && decide (t < Tryz.prog.types.size)) && (Rows.routerMulticastsRow.ifacesOut == Tryz.f11.resultTypes.toList.any (Tryz.prog.ifacesRec ·)) && (Rows.routerMulticastsRow.loopsOut == Tryz.f11.resultTypes.toList.any (Tryz.prog.loopsFrom ·)) && Rows.routerMulticastsRow.shortTexts.isNone) = true := by kernel_rfl
theorem routermulticasts_b4 : ((Rows.routerMulticastsRow.kinds == (if Rows.routerMulticastsRow.domain.isEmpty then [] else Tryz.f11.params.toList.map fun t => match Tryz.prog.underlying t with | some (.int k) => some k | _ => none)) && (Rows.routerMulticastsRow.pinned == Rows.routerMulticastsRow.pinnedBy) &&
      (Rows.routerMulticastsRow.veiled == (Tryz.f11.params.toList ++ Rows.routerMulticastsSpec.plain.varTypes Tryz.prog ++ Tryz.f11.resultTypes.toList).any (Tryz.prog.veiledRec ·)) && Rows.routerMulticastsRow.veiledFits Tryz.prog Tryz.f11.params.toList (Tryz.f11.params.toList ++ Rows.routerMulticastsSpec.plain.varTypes Tryz.prog ++ Tryz.f11.resultTypes.toList)) = true := by kernel_rfl
theorem routermulticasts_named : Tryz.prog.funcNamed "manifold/manifoldlaw31.RouterMulticasts" = some 11 := by kernel_rfl
theorem routermulticasts_ids : decide (Tryz.f11.isInstance Tryz.prog Rows.routerMulticastsRow.origin Rows.routerMulticastsRow.targs) = true := by kernel_rfl
theorem routermulticasts_wrap : Tryz.f11.isWrapper Tryz.prog Rows.routerMulticastsRow.wrapper Rows.routerMulticastsRow.mainSum := by unfold Func.isWrapper; rw [if_neg (by decide +kernel)]; exact ⟨rfl, rfl⟩
theorem routermulticasts_joined : joinedFacts Tryz.prog 11 Tryz.f11 Rows.routerMulticastsSpec Rows.routerMulticastsRow = true :=
  joined_of Tryz.laidOut Tryz.rowed jf_stops jf_heard jf_enter routermulticasts_a1 routermulticasts_a2 routermulticasts_a3 routermulticasts_a4 routermulticasts_b1 routermulticasts_b2 routermulticasts_b3
    (by rw [jf_plain]; rfl) (by rw [jf_lifted]; rfl) jf_make routermulticasts_b4
theorem routermulticasts_holds : Rows.RouterMulticastsSaid :=
  OpenClaim.holds_of_wide 11 Tryz.f11 rfl rfl rfl rfl rfl rfl rfl ⟨rfl, rfl, rfl, rfl, rfl⟩ rfl rfl rfl rfl rfl routermulticasts_named Tryz.func11 routermulticasts_joined
    (of_decide_eq_true routermulticasts_ids) routermulticasts_wrap
    (fun os started H enc _ => routermulticasts_lifted os started H enc)
theorem routermulticasts_text : Rows.routerMulticastsRow.wfByText (OpenSpec.ofChange Rows.routerMulticastsSpec) = true := by kernel_rfl
theorem routermulticasts_goes : false = Rows.routerMulticastsRow.goesBy Tryz.prog := by kernel_rfl
theorem routermulticasts_stand : ((([45, 25, 56] : List TypeId).all fun u => !Tryz.prog.wantsStandIn u) = true) ∧ Tryz.f11.params = #[45, 25, 56] := ⟨by kernel_rfl, by kernel_rfl⟩
theorem routermulticasts_card : Rows.RouterMulticastsCardSaid :=
  Claim7.holds_tied_plain_at .later [] [.data, .data, .data, .data, .sentinel, .sentinel, .pinned] true (true, "fda8d723c99205a616a719e840104a1e214bfa621fcce8c0bc2210fee27a5a68") true routermulticasts_holds (fun _ h => by cases h) routermulticasts_text (fun _ h => by cases h) routerMulticasts_row_tie rfl ⟨rfl, rfl⟩ jf_main rfl
    (fun f fn hf hfn => by
      obtain rfl : f = 11 := Option.some.inj (routermulticasts_named.symm.trans hf) |>.symm
      obtain rfl : fn = Tryz.f11 := (Option.some.inj (Tryz.func11.symm.trans hfn)).symm
      refine ⟨jf_looks, fun j t ht => ?_⟩
      rw [routermulticasts_stand.2] at ht
      have hm : t ∈ ([45, 25, 56] : List TypeId) := by simpa using Array.mem_of_getElem? ht
      exact (show Tryz.prog.wantsStandIn t = false by simpa using List.all_eq_true.1 routermulticasts_stand.1 t hm))
    routermulticasts_goes
end Go.Proofs.YthfchdkjeddijaaGreatDoor
