/- SplitterNumbers: the row, and its tied card. Conditions: none. -/
import Derived.Test.YtookihfheacdfaaGreatDoorCards
import Derived.Test.YtookihfheacdfaaGreatDoorTie
import Derived.OpenShut
import Derived.SevenTiedAt
import Derived.Stop.Joined
import Derived.Test.YtookihfheacdfaaGreatDoorR10
import Derived.Test.YtookihfheacdfaaGreatDoorR13
import Derived.Test.YtookihfheacdfaaGreatDoorR15
namespace Go.Proofs.YtookihfheacdfaaGreatDoor
open Go.ChangeShapes Go.WideShapes Go.ChangeAt Go.RowKit Go.Em
theorem params_splitternumbers:Tryz.f3.params.toList=[22]:=by kernel_rfl
theorem par_splitternumbers {t:TypeId}(h:t∈([22]:List TypeId)):t∈tys:=by
 simp only [List.mem_cons,List.not_mem_nil,or_false] at h
 rcases h with rfl
 ·decide
def zrM:Value:=.slice none 0 0
def zeroArgs:Array Value:=#[zrM]
set_option maxRecDepth 100000 in
theorem splitternumbers_lifted (os:Os)(started:os.Started)(H:Type)(enc:TypeId×Value→H):
  ReturnsInHanded {} Tryz.checked os 3 .any (fun w args=>(Rows.splitterNumbersSpec.pre enc Tryz.prog Tryz.f3 Rows.splitterNumbersRow.domain false w args∧laidMetH Tryz.prog laidZ w)∧sizedMet enc Tryz.prog Tryz.f3 (OpenSpec.ofChange Rows.splitterNumbersSpec) false w args)
   (Rows.splitterNumbersSpec.post enc Tryz.prog Tryz.f3 false true false false):=by
 refine returnsInHanded_of_change_and (C:=Tryz.checked) (X:=fun w _=>laidMetH Tryz.prog laidZ w) (fun _ _ _ hh h=>h.of_heap hh) Tryz.own started (by kernel_rfl) Tryz.func3
  (ChangeSpec.witness_shaped (enc:=enc) (C:=Tryz.checked) (os:=os) (X:=fun w _=>laidMetH Tryz.prog laidZ w) false (World.laidAll Tryz.prog os laidZ) zeroArgs 12 (World.laidAll_os _ _ _)
   (World.shaped_of_ZipB (by kernel_rfl) (by kernel_rfl)) (by kernel_rfl) (by kernel_rfl) (by kernel_rfl)
   (by rw [MakeChecks.laidMetH_plain _ _ _ (by kernel_rfl)];exact laidMet_laidAll _ (by kernel_rfl) (by kernel_rfl))) ?_
 intro W base args ds gs before hval hW _ _ hL _
 refine lifted_true (P:=Tryz.prog) (Γ:=callF tab ext) machine tys_kids (kids_some tys_ok) (kids_full tys_ok) (fun t ht=>?_) (tb:=4) rfl under4 rfl (fun ds hds=>?_) (fun xss hlen hsh=>?_) W (globOk hL) base args ds gs before hval hW
 ·rw [params_splitternumbers] at ht
  exact ⟨par_splitternumbers ht,tys_lt (par_splitternumbers ht)⟩
 ·match ds,hds with
  |[_],_=>rfl
 ·match xss,hlen with
  |[x0],_=>
   obtain ⟨_,h0⟩:=hsh 0 22 x0 rfl rfl
   obtain ⟨l0,rfl⟩:=shape_ints h0
   refine ⟨2001,[],?_⟩
   have:argsX Tryz.prog Tryz.f3.params.toList [[.sl false 1 (intsC l0)]]=[.sl false 1 (intsC l0)]:=by
    kernel_rfl
   rw [this]
   exact snumbers_all l0
set_option maxRecDepth 100000
theorem splitternumbers_a1:(Rows.splitterNumbersRow.inPlace==Tryz.prog.inPlace 3)=true:=by kernel_rfl
theorem splitternumbers_a2:(Rows.splitterNumbersRow.unfollowed==Tryz.prog.unfollowed 3)=true:=by kernel_rfl
theorem splitternumbers_a3:(Rows.splitterNumbersRow.recurses==Tryz.prog.recurses 3)=true:=by kernel_rfl
theorem splitternumbers_a4:(Rows.splitterNumbersRow.named==Tryz.prog.varsNamed 3)=true:=by kernel_rfl
theorem splitternumbers_b1:(Rows.splitterNumbersRow.wf (OpenSpec.ofChange Rows.splitterNumbersSpec)&&Tryz.f3.params.all (Tryz.prog.readableRec ·)&&namedTie Tryz.prog Rows.splitterNumbersRow.named Rows.splitterNumbersSpec.vars&&(Rows.splitterNumbersRow.stops==[])&&(Rows.splitterNumbersRow.knobs==[]))=true:=by kernel_rfl
theorem splitternumbers_b2:((Rows.splitterNumbersRow.maps==(Tryz.f3.params.toList++Rows.splitterNumbersSpec.plain.varTypes Tryz.prog).any (Tryz.prog.mapsRec ·))&&(Rows.splitterNumbersRow.ifaces==(Tryz.f3.params.toList++Rows.splitterNumbersSpec.plain.varTypes Tryz.prog).any (Tryz.prog.ifacesRec ·))&&(Rows.splitterNumbersRow.mapsOut==Tryz.prog.mapsAmong Tryz.f3.resultTypes.toList)&&
   (Rows.splitterNumbersRow.loops==(Tryz.f3.params.toList++Rows.splitterNumbersSpec.plain.varTypes Tryz.prog).any (Tryz.prog.loopsFrom ·))&&(Rows.splitterNumbersRow.wideKeys==(Tryz.f3.params.toList++Rows.splitterNumbersSpec.plain.varTypes Tryz.prog++Tryz.f3.resultTypes.toList).any (Tryz.prog.wideKeysFrom ·)))=true:=by kernel_rfl
theorem splitternumbers_b3:(Rows.splitterNumbersSpec.vars.all (Tryz.prog.varReadable ·)&&Tryz.f3.resultTypes.all (fun t=>Tryz.prog.readableRec t&&decide (t<Tryz.prog.types.size))&&(Rows.splitterNumbersRow.ifacesOut==Tryz.f3.resultTypes.toList.any (Tryz.prog.ifacesRec ·))&&(Rows.splitterNumbersRow.loopsOut==Tryz.f3.resultTypes.toList.any (Tryz.prog.loopsFrom ·))&&Rows.splitterNumbersRow.shortTexts.isNone)=true:=by kernel_rfl
theorem splitternumbers_b4:((Rows.splitterNumbersRow.kinds==(if Rows.splitterNumbersRow.domain.isEmpty then [] else Tryz.f3.params.toList.map fun t=>match Tryz.prog.underlying t with|some (.int k)=>some k|_=>none))&&(Rows.splitterNumbersRow.pinned==Rows.splitterNumbersRow.pinnedBy)&&
   (Rows.splitterNumbersRow.veiled==(Tryz.f3.params.toList++Rows.splitterNumbersSpec.plain.varTypes Tryz.prog++Tryz.f3.resultTypes.toList).any (Tryz.prog.veiledRec ·))&&Rows.splitterNumbersRow.veiledFits Tryz.prog Tryz.f3.params.toList (Tryz.f3.params.toList++Rows.splitterNumbersSpec.plain.varTypes Tryz.prog++Tryz.f3.resultTypes.toList))=true:=by kernel_rfl
theorem splitternumbers_named:Tryz.prog.funcNamed "manifold/manifoldlaw32.SplitterNumbers"=some 3:=by kernel_rfl
theorem splitternumbers_ids:decide (Tryz.f3.isInstance Tryz.prog Rows.splitterNumbersRow.origin Rows.splitterNumbersRow.targs)=true:=by kernel_rfl
theorem splitternumbers_wrap:Tryz.f3.isWrapper Tryz.prog Rows.splitterNumbersRow.wrapper Rows.splitterNumbersRow.mainSum:=by unfold Func.isWrapper;rw [if_neg (by decide+kernel)];exact ⟨rfl,rfl⟩
theorem splitternumbers_joined:joinedFacts Tryz.prog 3 Tryz.f3 Rows.splitterNumbersSpec Rows.splitterNumbersRow=true:=
 joined_of Tryz.laidOut Tryz.rowed jf_stops jf_heard jf_enter splitternumbers_a1 splitternumbers_a2 splitternumbers_a3 splitternumbers_a4 splitternumbers_b1 splitternumbers_b2 splitternumbers_b3
  (by rw [jf_plain];rfl) (by rw [jf_lifted];rfl) jf_make splitternumbers_b4
theorem splitternumbers_holds:Rows.SplitterNumbersSaid:=
 OpenClaim.holds_of_wide 3 Tryz.f3 rfl rfl rfl rfl rfl rfl rfl ⟨rfl,rfl,rfl,rfl,rfl⟩ rfl rfl rfl rfl rfl splitternumbers_named Tryz.func3 splitternumbers_joined
  (of_decide_eq_true splitternumbers_ids) splitternumbers_wrap
  (fun os started H enc _=>splitternumbers_lifted os started H enc)
theorem splitternumbers_text:Rows.splitterNumbersRow.wfByText (OpenSpec.ofChange Rows.splitterNumbersSpec)=true:=by kernel_rfl
theorem splitternumbers_goes:false=Rows.splitterNumbersRow.goesBy Tryz.prog:=by kernel_rfl
theorem splitternumbers_stand:((([22]:List TypeId).all fun u=>!Tryz.prog.wantsStandIn u)=true)∧Tryz.f3.params=#[22]:=⟨by kernel_rfl,by kernel_rfl⟩
theorem splitternumbers_card:Rows.SplitterNumbersCardSaid:=
 Claim7.holds_tied_plain_at .later [] [.data,.data,.data,.data,.sentinel,.sentinel,.pinned] true (true,"180cc68ebc3174b5169776faf403ed299143615812953b19adfa9f7ea65fc2db") true splitternumbers_holds (fun _ h=>by cases h) splitternumbers_text (fun _ h=>by cases h) splitterNumbers_row_tie rfl ⟨rfl,rfl⟩ jf_main rfl
  (fun f fn hf hfn=>by
   obtain rfl:f=3:=Option.some.inj (splitternumbers_named.symm.trans hf) |>.symm
   obtain rfl:fn=Tryz.f3:=(Option.some.inj (Tryz.func3.symm.trans hfn)).symm
   refine ⟨jf_looks,fun j t ht=>?_⟩
   rw [splitternumbers_stand.2] at ht
   have hm:t∈([22]:List TypeId):=by simpa using Array.mem_of_getElem? ht
   exact (show Tryz.prog.wantsStandIn t=false by simpa using List.all_eq_true.1 splitternumbers_stand.1 t hm))
  splitternumbers_goes
end Go.Proofs.YtookihfheacdfaaGreatDoor
