/- AggregatorKeys: the row, and its tied card. Conditions: none. -/
import Derived.Test.YthphniobeigklaaGreatDoorCards
import Derived.Test.YthphniobeigklaaGreatDoorTie
import Derived.Test.YthphniobeigklaaGreatDoorB18
import Derived.Test.YthphniobeigklaaGreatDoorB23
set_option linter.all false
namespace Go.Proofs.YthphniobeigklaaGreatDoor
open Go.ChangeShapes Go.WideShapes Go.ChangeAt Go.RowKit Go.Em Go.Proofs.YthphniobeigklaaGreatDoor.Ag

theorem params_aggregatorkeys : Tryz.f4.params.toList = [38, 22, 5] := by kernel_rfl
theorem par_aggregatorkeys {t : TypeId} (h : t ∈ ([38, 22, 5] : List TypeId)) : t ∈ tysA := by
  simp only [List.mem_cons, List.not_mem_nil, or_false] at h
  rcases h with rfl | rfl | rfl
  · decide
  · decide
  · decide

theorem pure_out {Γ : Gam} {f : FuncId} {args : List X} {b : Bool} (h : Gam.pureD Γ f args = some (.v (.bool b))) : ∃ bx, Γ (.fn f) args [] = some (.v (.bool b), bx) := by
  unfold Gam.pureD at h
  split at h
  · rename_i x bx e
    refine ⟨bx, ?_⟩
    rw [e]
    cases x <;> simp only [X.data, Option.map_eq_some_iff, Option.some.injEq, X.v.injEq, reduceCtorEq, and_false, exists_false] at h
    rw [h]
  · cases h
def zIe : Value := .int .i64 0
def zTe : Value := .string ⟨#[]⟩
def zSe : Value := .slice none 0 0
/-- All zero. -/
def zeroArgs : Array Value := #[.agg #[.int .u8 0, .int .u8 0, .int .u8 0, .int .u8 0, .int .u8 0], zSe, .int .u8 0]

set_option maxRecDepth 100000 in
theorem aggregatorkeys_lifted (os : Os) (started : os.Started) (H : Type) (enc : TypeId × Value → H) :
    ReturnsInHanded {} Tryz.checked os 4 .any (fun w args => (Rows.aggregatorKeysSpec.pre enc Tryz.prog Tryz.f4 Rows.aggregatorKeysRow.domain false w args ∧ laidMetH Tryz.prog laidZ w) ∧ sizedMet enc Tryz.prog Tryz.f4 (OpenSpec.ofChange Rows.aggregatorKeysSpec) false w args)
      (Rows.aggregatorKeysSpec.post enc Tryz.prog Tryz.f4 false true false false) := by
  refine returnsInHanded_of_change_and (C := Tryz.checked) (X := fun w _ => laidMetH Tryz.prog laidZ w) (fun _ _ _ hh h => h.of_heap hh) Tryz.own started (by kernel_rfl) Tryz.func4
    (ChangeSpec.witness_shaped (enc := enc) (C := Tryz.checked) (os := os) (X := fun w _ => laidMetH Tryz.prog laidZ w) false (World.laidAll Tryz.prog os laidZ) zeroArgs 12 (World.laidAll_os _ _ _)
      (World.shaped_of_ZipB (by kernel_rfl) (by kernel_rfl)) (by kernel_rfl) (by kernel_rfl) (by kernel_rfl)
      (by rw [MakeChecks.laidMetH_plain _ _ _ (by kernel_rfl)]; exact laidMet_laidAll _ (by kernel_rfl) (by kernel_rfl))) ?_
  intro W base args ds gs before hval hW _ _ hL _
  refine lifted_true (P := Tryz.prog) (Γ := callF tab ext) machine tysA_kids (kids_some tysA_ok) (kids_full tysA_ok) (fun t ht => ?_) (tb := 4) rfl underA4 rfl (fun ds hds => ?_) (fun xss hlen hsh => ?_) W (globOk hL) base args ds gs before hval hW
  · rw [params_aggregatorkeys] at ht
    exact ⟨par_aggregatorkeys ht, tysA_lt (par_aggregatorkeys ht)⟩
  · match ds, hds with
    | [_, _, _], _ => rfl
  · match xss, hlen with
    | [x0, x1, x2], _ =>
      obtain ⟨_, h0⟩ := hsh 0 38 x0 rfl rfl
      obtain ⟨_, h1⟩ := hsh 1 22 x1 rfl rfl
      obtain ⟨_, h2⟩ := hsh 2 5 x2 rfl rfl
      obtain ⟨a, b, c, d, e, ha, hb, hc, hd, he, rfl⟩ := shape_sk h0
      obtain ⟨l, hl, rfl⟩ := shape_evs h1
      obtain ⟨w, hw, rfl⟩ := shape_u8 h2
      obtain ⟨bx, hbx⟩ := pure_out (keys_all a b c d e hb l w hw 194001 (by omega))
      refine ⟨194001, bx, ?_⟩
      have : argsX Tryz.prog Tryz.f4.params.toList [[u8X a, u8X b, u8X c, u8X d, u8X e], [.sl false 4 (evC l)], [u8X w]] = [skX a b c d e, .sl false 4 (evC l), u8X w] := by
        kernel_rfl
      rw [this]
      exact hbx

set_option maxRecDepth 100000
theorem aggregatorkeys_a1 : (Rows.aggregatorKeysRow.inPlace == Tryz.prog.inPlace 4) = true := by kernel_rfl
theorem aggregatorkeys_a2 : (Rows.aggregatorKeysRow.unfollowed == Tryz.prog.unfollowed 4) = true := by kernel_rfl
theorem aggregatorkeys_a3 : (Rows.aggregatorKeysRow.recurses == Tryz.prog.recurses 4) = true := by kernel_rfl
theorem aggregatorkeys_a4 : (Rows.aggregatorKeysRow.named == Tryz.prog.varsNamed 4) = true := by kernel_rfl
theorem aggregatorkeys_b1 : (Rows.aggregatorKeysRow.wf (OpenSpec.ofChange Rows.aggregatorKeysSpec) && Tryz.f4.params.all (Tryz.prog.readableRec ·) && namedTie Tryz.prog Rows.aggregatorKeysRow.named Rows.aggregatorKeysSpec.vars && (Rows.aggregatorKeysRow.stops == []) && (Rows.aggregatorKeysRow.knobs == [])) = true := by kernel_rfl
theorem aggregatorkeys_b2 : ((Rows.aggregatorKeysRow.maps == (Tryz.f4.params.toList ++ Rows.aggregatorKeysSpec.plain.varTypes Tryz.prog).any (Tryz.prog.mapsRec ·)) && (Rows.aggregatorKeysRow.ifaces == (Tryz.f4.params.toList ++ Rows.aggregatorKeysSpec.plain.varTypes Tryz.prog).any (Tryz.prog.ifacesRec ·)) && (Rows.aggregatorKeysRow.mapsOut == Tryz.prog.mapsAmong Tryz.f4.resultTypes.toList) &&
      (Rows.aggregatorKeysRow.loops == (Tryz.f4.params.toList ++ Rows.aggregatorKeysSpec.plain.varTypes Tryz.prog).any (Tryz.prog.loopsFrom ·)) && (Rows.aggregatorKeysRow.wideKeys == (Tryz.f4.params.toList ++ Rows.aggregatorKeysSpec.plain.varTypes Tryz.prog ++ Tryz.f4.resultTypes.toList).any (Tryz.prog.wideKeysFrom ·))) = true := by kernel_rfl
theorem aggregatorkeys_b3 : (Rows.aggregatorKeysSpec.vars.all (Tryz.prog.varReadable ·) && Tryz.f4.resultTypes.all (fun t => Tryz.prog.readableRec t && decide (t < Tryz.prog.types.size)) && (Rows.aggregatorKeysRow.ifacesOut == Tryz.f4.resultTypes.toList.any (Tryz.prog.ifacesRec ·)) && (Rows.aggregatorKeysRow.loopsOut == Tryz.f4.resultTypes.toList.any (Tryz.prog.loopsFrom ·)) && Rows.aggregatorKeysRow.shortTexts.isNone) = true := by kernel_rfl
theorem aggregatorkeys_b4 : ((Rows.aggregatorKeysRow.kinds == (if Rows.aggregatorKeysRow.domain.isEmpty then [] else Tryz.f4.params.toList.map fun t => match Tryz.prog.underlying t with | some (.int k) => some k | _ => none)) && (Rows.aggregatorKeysRow.pinned == Rows.aggregatorKeysRow.pinnedBy) &&
      (Rows.aggregatorKeysRow.veiled == (Tryz.f4.params.toList ++ Rows.aggregatorKeysSpec.plain.varTypes Tryz.prog ++ Tryz.f4.resultTypes.toList).any (Tryz.prog.veiledRec ·)) && Rows.aggregatorKeysRow.veiledFits Tryz.prog Tryz.f4.params.toList (Tryz.f4.params.toList ++ Rows.aggregatorKeysSpec.plain.varTypes Tryz.prog ++ Tryz.f4.resultTypes.toList)) = true := by kernel_rfl
theorem aggregatorkeys_named : Tryz.prog.funcNamed "manifold/manifoldlaw33.AggregatorKeys" = some 4 := by kernel_rfl
theorem aggregatorkeys_ids : decide (Tryz.f4.isInstance Tryz.prog Rows.aggregatorKeysRow.origin Rows.aggregatorKeysRow.targs) = true := by kernel_rfl
theorem aggregatorkeys_wrap : Tryz.f4.isWrapper Tryz.prog Rows.aggregatorKeysRow.wrapper Rows.aggregatorKeysRow.mainSum := by unfold Func.isWrapper; rw [if_neg (by decide +kernel)]; exact ⟨rfl, rfl⟩
theorem aggregatorkeys_joined : joinedFacts Tryz.prog 4 Tryz.f4 Rows.aggregatorKeysSpec Rows.aggregatorKeysRow = true :=
  joined_of Tryz.laidOut Tryz.rowed jf_stops jf_heard jf_enter aggregatorkeys_a1 aggregatorkeys_a2 aggregatorkeys_a3 aggregatorkeys_a4 aggregatorkeys_b1 aggregatorkeys_b2 aggregatorkeys_b3
    (by rw [jf_plain]; rfl) (by rw [jf_lifted]; rfl) jf_make aggregatorkeys_b4
theorem aggregatorkeys_holds : Rows.AggregatorKeysSaid :=
  OpenClaim.holds_of_wide 4 Tryz.f4 rfl rfl rfl rfl rfl rfl rfl ⟨rfl, rfl, rfl, rfl, rfl⟩ rfl rfl rfl rfl rfl aggregatorkeys_named Tryz.func4 aggregatorkeys_joined
    (of_decide_eq_true aggregatorkeys_ids) aggregatorkeys_wrap
    (fun os started H enc _ => aggregatorkeys_lifted os started H enc)
theorem aggregatorkeys_text : Rows.aggregatorKeysRow.wfByText (OpenSpec.ofChange Rows.aggregatorKeysSpec) = true := by kernel_rfl
theorem aggregatorkeys_goes : false = Rows.aggregatorKeysRow.goesBy Tryz.prog := by kernel_rfl
theorem aggregatorkeys_stand : ((([38, 22, 5] : List TypeId).all fun u => !Tryz.prog.wantsStandIn u) = true) ∧ Tryz.f4.params = #[38, 22, 5] := ⟨by kernel_rfl, by kernel_rfl⟩
theorem aggregatorkeys_card : Rows.AggregatorKeysCardSaid :=
  Claim7.holds_tied_plain_at .later [] [.data, .data, .data, .data, .sentinel, .sentinel, .pinned] true (true, "e15099fc63cc0bc118a020bcfff1e703ab89f15ffb4a8b79179d5edd75f9483d") true aggregatorkeys_holds (fun _ h => by cases h) aggregatorkeys_text (fun _ h => by cases h) aggregatorKeys_row_tie rfl ⟨rfl, rfl⟩ jf_main rfl
    (fun f fn hf hfn => by
      obtain rfl : f = 4 := Option.some.inj (aggregatorkeys_named.symm.trans hf) |>.symm
      obtain rfl : fn = Tryz.f4 := (Option.some.inj (Tryz.func4.symm.trans hfn)).symm
      refine ⟨jf_looks, fun j t ht => ?_⟩
      rw [aggregatorkeys_stand.2] at ht
      have hm : t ∈ ([38, 22, 5] : List TypeId) := by simpa using Array.mem_of_getElem? ht
      exact (show Tryz.prog.wantsStandIn t = false by simpa using List.all_eq_true.1 aggregatorkeys_stand.1 t hm))
    aggregatorkeys_goes
end Go.Proofs.YthphniobeigklaaGreatDoor
