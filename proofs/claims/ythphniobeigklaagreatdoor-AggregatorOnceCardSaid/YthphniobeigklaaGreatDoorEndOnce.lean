/- AggregatorOnce: the row, and its tied card. Conditions: none. -/
import Derived.Test.YthphniobeigklaaGreatDoorA31
import Derived.Test.YthphniobeigklaaGreatDoorA18
import Derived.Test.YthphniobeigklaaGreatDoorCards
import Derived.Test.YthphniobeigklaaGreatDoorTie
import Derived.OpenShut
import Derived.SevenTiedAt
import Derived.Stop.Joined
set_option linter.all false
namespace Go.Proofs.YthphniobeigklaaGreatDoor
open Go.ChangeShapes Go.WideShapes Go.ChangeAt Go.RowKit Go.Em Go.Proofs.YthphniobeigklaaGreatDoor.Ag

theorem params_aggregatoronce : Tryz.f6.params.toList = [38, 22] := by kernel_rfl
theorem par_aggregatoronce {t : TypeId} (h : t ∈ ([38, 22] : List TypeId)) : t ∈ tysA := by
  simp only [List.mem_cons, List.not_mem_nil, or_false] at h
  rcases h with rfl | rfl
  · decide
  · decide

theorem pure_out {Γ : Gam} {f : FuncId} {args : List X} {b : Bool} (h : Gam.pureD Γ f args = some (.v (.bool b))) : ∃ bx, Γ (.fn f) args [] = some (.v (.bool b), bx) := by
  unfold Gam.pureD at h
  split at h
  · rename_i x bx e
    refine ⟨bx, ?_⟩
    rw [e]
    cases x <;> simp only [X.data, Option.map_eq_some_iff, Option.some.injEq, X.v.injEq, reduceCtorEq, and_false, exists_false] at h
    rw [h]
  · cases h
def zIe : Value := .int .i64 0
def zTe : Value := .string ⟨#[]⟩
def zSe : Value := .slice none 0 0
/-- All zero. -/
def zeroArgs : Array Value := #[.agg #[.int .u8 0, .int .u8 0, .int .u8 0, .int .u8 0, .int .u8 0], zSe]

set_option maxRecDepth 100000 in
theorem aggregatoronce_lifted (os : Os) (started : os.Started) (H : Type) (enc : TypeId × Value → H) :
    ReturnsInHanded {} Tryz.checked os 6 .any (fun w args => (Rows.aggregatorOnceSpec.pre enc Tryz.prog Tryz.f6 Rows.aggregatorOnceRow.domain false w args ∧ laidMetH Tryz.prog laidZ w) ∧ sizedMet enc Tryz.prog Tryz.f6 (OpenSpec.ofChange Rows.aggregatorOnceSpec) false w args)
      (Rows.aggregatorOnceSpec.post enc Tryz.prog Tryz.f6 false true false false) := by
  refine returnsInHanded_of_change_and (C := Tryz.checked) (X := fun w _ => laidMetH Tryz.prog laidZ w) (fun _ _ _ hh h => h.of_heap hh) Tryz.own started (by kernel_rfl) Tryz.func6
    (ChangeSpec.witness_shaped (enc := enc) (C := Tryz.checked) (os := os) (X := fun w _ => laidMetH Tryz.prog laidZ w) false (World.laidAll Tryz.prog os laidZ) zeroArgs 12 (World.laidAll_os _ _ _)
      (World.shaped_of_ZipB (by kernel_rfl) (by kernel_rfl)) (by kernel_rfl) (by kernel_rfl) (by kernel_rfl)
      (by rw [MakeChecks.laidMetH_plain _ _ _ (by kernel_rfl)]; exact laidMet_laidAll _ (by kernel_rfl) (by kernel_rfl))) ?_
  intro W base args ds gs before hval hW _ _ hL _
  refine lifted_true (P := Tryz.prog) (Γ := callF tab ext) machine tysA_kids (kids_some tysA_ok) (kids_full tysA_ok) (fun t ht => ?_) (tb := 4) rfl underA4 rfl (fun ds hds => ?_) (fun xss hlen hsh => ?_) W (globOk hL) base args ds gs before hval hW
  · rw [params_aggregatoronce] at ht
    exact ⟨par_aggregatoronce ht, tysA_lt (par_aggregatoronce ht)⟩
  · match ds, hds with
    | [_, _], _ => rfl
  · match xss, hlen with
    | [x0, x1], _ =>
      obtain ⟨_, h0⟩ := hsh 0 38 x0 rfl rfl
      obtain ⟨_, h1⟩ := hsh 1 22 x1 rfl rfl
      obtain ⟨a, b, c, d, e, ha, hb, hc, hd, he, rfl⟩ := shape_sk h0
      obtain ⟨l, hl, rfl⟩ := shape_evs h1
      obtain ⟨bx, hbx⟩ := pure_out (once_all a b c d e hb l 194001 (by omega))
      refine ⟨194001, bx, ?_⟩
      have : argsX Tryz.prog Tryz.f6.params.toList [[u8X a, u8X b, u8X c, u8X d, u8X e], [.sl false 4 (evC l)]] = [skX a b c d e, .sl false 4 (evC l)] := by
        kernel_rfl
      rw [this]
      exact hbx

set_option maxRecDepth 100000
theorem aggregatoronce_a1 : (Rows.aggregatorOnceRow.inPlace == Tryz.prog.inPlace 6) = true := by kernel_rfl
theorem aggregatoronce_a2 : (Rows.aggregatorOnceRow.unfollowed == Tryz.prog.unfollowed 6) = true := by kernel_rfl
theorem aggregatoronce_a3 : (Rows.aggregatorOnceRow.recurses == Tryz.prog.recurses 6) = true := by kernel_rfl
theorem aggregatoronce_a4 : (Rows.aggregatorOnceRow.named == Tryz.prog.varsNamed 6) = true := by kernel_rfl
theorem aggregatoronce_b1 : (Rows.aggregatorOnceRow.wf (OpenSpec.ofChange Rows.aggregatorOnceSpec) && Tryz.f6.params.all (Tryz.prog.readableRec ·) && namedTie Tryz.prog Rows.aggregatorOnceRow.named Rows.aggregatorOnceSpec.vars && (Rows.aggregatorOnceRow.stops == []) && (Rows.aggregatorOnceRow.knobs == [])) = true := by kernel_rfl
theorem aggregatoronce_b2 : ((Rows.aggregatorOnceRow.maps == (Tryz.f6.params.toList ++ Rows.aggregatorOnceSpec.plain.varTypes Tryz.prog).any (Tryz.prog.mapsRec ·)) && (Rows.aggregatorOnceRow.ifaces == (Tryz.f6.params.toList ++ Rows.aggregatorOnceSpec.plain.varTypes Tryz.prog).any (Tryz.prog.ifacesRec ·)) && (Rows.aggregatorOnceRow.mapsOut == Tryz.prog.mapsAmong Tryz.f6.resultTypes.toList) &&
      (Rows.aggregatorOnceRow.loops == (Tryz.f6.params.toList ++ Rows.aggregatorOnceSpec.plain.varTypes Tryz.prog).any (Tryz.prog.loopsFrom ·)) && (Rows.aggregatorOnceRow.wideKeys == (Tryz.f6.params.toList ++ Rows.aggregatorOnceSpec.plain.varTypes Tryz.prog ++ Tryz.f6.resultTypes.toList).any (Tryz.prog.wideKeysFrom ·))) = true := by kernel_rfl
theorem aggregatoronce_b3 : (Rows.aggregatorOnceSpec.vars.all (Tryz.prog.varReadable ·) && Tryz.f6.resultTypes.all (fun t => Tryz.prog.readableRec t && decide (t < Tryz.prog.types.size)) && (Rows.aggregatorOnceRow.ifacesOut == Tryz.f6.resultTypes.toList.any (Tryz.prog.ifacesRec ·)) && (Rows.aggregatorOnceRow.loopsOut == Tryz.f6.resultTypes.toList.any (Tryz.prog.loopsFrom ·)) && Rows.aggregatorOnceRow.shortTexts.isNone) = true := by kernel_rfl
theorem aggregatoronce_b4 : ((Rows.aggregatorOnceRow.kinds == (if Rows.aggregatorOnceRow.domain.isEmpty then [] else Tryz.f6.params.toList.map fun t => match Tryz.prog.underlying t with | some (.int k) => some k | _ => none)) && (Rows.aggregatorOnceRow.pinned == Rows.aggregatorOnceRow.pinnedBy) &&
      (Rows.aggregatorOnceRow.veiled == (Tryz.f6.params.toList ++ Rows.aggregatorOnceSpec.plain.varTypes Tryz.prog ++ Tryz.f6.resultTypes.toList).any (Tryz.prog.veiledRec ·)) && Rows.aggregatorOnceRow.veiledFits Tryz.prog Tryz.f6.params.toList (Tryz.f6.params.toList ++ Rows.aggregatorOnceSpec.plain.varTypes Tryz.prog ++ Tryz.f6.resultTypes.toList)) = true := by kernel_rfl
theorem aggregatoronce_named : Tryz.prog.funcNamed "manifold/manifoldlaw33.AggregatorOnce" = some 6 := by kernel_rfl
theorem aggregatoronce_ids : decide (Tryz.f6.isInstance Tryz.prog Rows.aggregatorOnceRow.origin Rows.aggregatorOnceRow.targs) = true := by kernel_rfl
theorem aggregatoronce_wrap : Tryz.f6.isWrapper Tryz.prog Rows.aggregatorOnceRow.wrapper Rows.aggregatorOnceRow.mainSum := by unfold Func.isWrapper; rw [if_neg (by decide +kernel)]; exact ⟨rfl, rfl⟩
theorem aggregatoronce_joined : joinedFacts Tryz.prog 6 Tryz.f6 Rows.aggregatorOnceSpec Rows.aggregatorOnceRow = true :=
  joined_of Tryz.laidOut Tryz.rowed jf_stops jf_heard jf_enter aggregatoronce_a1 aggregatoronce_a2 aggregatoronce_a3 aggregatoronce_a4 aggregatoronce_b1 aggregatoronce_b2 aggregatoronce_b3
    (by rw [jf_plain]; rfl) (by rw [jf_lifted]; rfl) jf_make aggregatoronce_b4
theorem aggregatoronce_holds : Rows.AggregatorOnceSaid :=
  OpenClaim.holds_of_wide 6 Tryz.f6 rfl rfl rfl rfl rfl rfl rfl ⟨rfl, rfl, rfl, rfl, rfl⟩ rfl rfl rfl rfl rfl aggregatoronce_named Tryz.func6 aggregatoronce_joined
    (of_decide_eq_true aggregatoronce_ids) aggregatoronce_wrap
    (fun os started H enc _ => aggregatoronce_lifted os started H enc)
theorem aggregatoronce_text : Rows.aggregatorOnceRow.wfByText (OpenSpec.ofChange Rows.aggregatorOnceSpec) = true := by kernel_rfl
theorem aggregatoronce_goes : false = Rows.aggregatorOnceRow.goesBy Tryz.prog := by kernel_rfl
theorem aggregatoronce_stand : ((([38, 22] : List TypeId).all fun u => !Tryz.prog.wantsStandIn u) = true) ∧ Tryz.f6.params = #[38, 22] := ⟨by kernel_rfl, by kernel_rfl⟩
theorem aggregatoronce_card : Rows.AggregatorOnceCardSaid :=
  Claim7.holds_tied_plain_at .later [] [.data, .data, .data, .data, .sentinel, .sentinel, .pinned] true (true, "e15099fc63cc0bc118a020bcfff1e703ab89f15ffb4a8b79179d5edd75f9483d") true aggregatoronce_holds (fun _ h => by cases h) aggregatoronce_text (fun _ h => by cases h) aggregatorOnce_row_tie rfl ⟨rfl, rfl⟩ jf_main rfl
    (fun f fn hf hfn => by
      obtain rfl : f = 6 := Option.some.inj (aggregatoronce_named.symm.trans hf) |>.symm
      obtain rfl : fn = Tryz.f6 := (Option.some.inj (Tryz.func6.symm.trans hfn)).symm
      refine ⟨jf_looks, fun j t ht => ?_⟩
      rw [aggregatoronce_stand.2] at ht
      have hm : t ∈ ([38, 22] : List TypeId) := by simpa using Array.mem_of_getElem? ht
      exact (show Tryz.prog.wantsStandIn t = false by simpa using List.all_eq_true.1 aggregatoronce_stand.1 t hm))
    aggregatoronce_goes
end Go.Proofs.YthphniobeigklaaGreatDoor
