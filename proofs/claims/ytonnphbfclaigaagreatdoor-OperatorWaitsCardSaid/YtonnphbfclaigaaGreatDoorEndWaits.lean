/-.-/
import Derived.Test.YtonnphbfclaigaaGreatDoorCards
import Derived.Test.YtonnphbfclaigaaGreatDoorW21
import Derived.Test.YtonnphbfclaigaaGreatDoorW29
import Derived.Test.YtonnphbfclaigaaGreatDoorW31
set_option linter.all false
namespace Go.Proofs.YtonnphbfclaigaaGreatDoor
open Go.ChangeShapes Go.WideShapes Go.ChangeAt Go.RowKit Go.Em
theorem aK:Tryz.f5.params.toList=[24]:=by kernel_rfl
theorem aF {t:TypeId}(h:t∈([24]:List TypeId)):t∈tysO:=by simp only [qaz,List.not_mem_nil,or_false] at h;rcases h with rfl;decide
theorem cO {Γ:Gam}{f:FuncId}{args:List X}{b:Bool}(h:Gam.pureD Γ f args=some (.v (.bool b))):∃bx,Γ (.fn f) args []=some (.v (.bool b),bx):=by
 unfold Gam.pureD at h;split at h;next x bx e=>refine ⟨bx,?_⟩;rw [e];cases x<;>simp only [X.data,qaf,qaa,X.v.injEq,reduceCtorEq,and_false,exists_false] at h;rw [h]
 cases h
def zIe:Value:=.int .i64 0
def zTe:Value:=.string ⟨#[]⟩
def zSe:Value:=.slice none 0 0
def cu:Array Value:=#[.agg #[zIe,zIe,zSe]]
set_option maxRecDepth 100000 in
theorem aN (os:Os)(started:os.Started)(H:Type)(enc:TypeId×Value->H):
  ReturnsInHanded {} Tryz.checked os 5 .any (fun w args=>(Rows.operatorWaitsSpec.pre enc Tryz.prog Tryz.f5 Rows.operatorWaitsRow.domain false w args/\laidMetH Tryz.prog bZ w)/\sizedMet enc Tryz.prog Tryz.f5 (OpenSpec.ofChange Rows.operatorWaitsSpec) false w args)
   (Rows.operatorWaitsSpec.post enc Tryz.prog Tryz.f5 false true false false):=by
 refine returnsInHanded_of_change_and (C:=Tryz.checked) (X:=fun w _=>laidMetH Tryz.prog bZ w) (fun _ _ _ hh h=>h.of_heap hh) Tryz.own started (by kernel_rfl) Tryz.func5
  (ChangeSpec.witness_shaped (enc:=enc) (C:=Tryz.checked) (os:=os) (X:=fun w _=>laidMetH Tryz.prog bZ w) false (World.laidAll Tryz.prog os bZ) cu 12 (World.laidAll_os _ _ _)
   (World.shaped_of_ZipB (by kernel_rfl) (by kernel_rfl)) (by kernel_rfl) (by kernel_rfl) (by kernel_rfl)
   (by rw [MakeChecks.laidMetH_plain _ _ _ (by kernel_rfl)];exact laidMet_laidAll _ (by kernel_rfl) (by kernel_rfl))) ?_
 intro W base args ds gs before hval hW _ _ hL _;refine lifted_true (P:=Tryz.prog) (Γ:=callF tab ext) machine tysO_kids (kids_some tysO_ok) (kids_full tysO_ok) (fun t ht=>?_) (tb:=4) rfl under4 rfl (fun ds hds=>?_) (fun xss hlen hsh=>?_) W (dY hL) base args ds gs before hval hW;·rw [aK] at ht;exact ⟨aF ht,tysO_lt (aF ht)⟩
 ·match ds,hds with
  |[_],_=>rfl
 match xss,hlen with
 |[x0],_=>
  obtain ⟨_,h0⟩:=hsh 0 24 x0 rfl rfl;obtain ⟨s0,rfl⟩:=shape_stt h0;obtain ⟨bx,hbx⟩:=cO (Wt.waits_all s0 191001 (by omega));refine ⟨191001,bx,?_⟩;have:argsX Tryz.prog Tryz.f5.params.toList [s0.cells]=[.agg s0.cells]:=by kernel_rfl
  rw [this];exact hbx
set_option maxRecDepth 100000
theorem bP:(Rows.operatorWaitsRow.wf (OpenSpec.ofChange Rows.operatorWaitsSpec)&&Tryz.f5.params.all (Tryz.prog.readableRec ·)&&namedTie Tryz.prog Rows.operatorWaitsRow.named Rows.operatorWaitsSpec.vars&&(Rows.operatorWaitsRow.stops==[])&&(Rows.operatorWaitsRow.knobs==[]))=true:=by kernel_rfl
theorem bM:((Rows.operatorWaitsRow.maps==(Tryz.f5.params.toList++Rows.operatorWaitsSpec.plain.varTypes Tryz.prog).any (Tryz.prog.mapsRec ·))&&(Rows.operatorWaitsRow.ifaces==(Tryz.f5.params.toList++Rows.operatorWaitsSpec.plain.varTypes Tryz.prog).any (Tryz.prog.ifacesRec ·))&&(Rows.operatorWaitsRow.mapsOut==Tryz.prog.mapsAmong Tryz.f5.resultTypes.toList)&&
   (Rows.operatorWaitsRow.loops==(Tryz.f5.params.toList++Rows.operatorWaitsSpec.plain.varTypes Tryz.prog).any (Tryz.prog.loopsFrom ·))&&(Rows.operatorWaitsRow.wideKeys==(Tryz.f5.params.toList++Rows.operatorWaitsSpec.plain.varTypes Tryz.prog++Tryz.f5.resultTypes.toList).any (Tryz.prog.wideKeysFrom ·)))=true:=by kernel_rfl
theorem bK:(Rows.operatorWaitsSpec.vars.all (Tryz.prog.varReadable ·)&&Tryz.f5.resultTypes.all (fun t=>Tryz.prog.readableRec t&&decide (t<Tryz.prog.types.size))&&(Rows.operatorWaitsRow.ifacesOut==Tryz.f5.resultTypes.toList.any (Tryz.prog.ifacesRec ·))&&(Rows.operatorWaitsRow.loopsOut==Tryz.f5.resultTypes.toList.any (Tryz.prog.loopsFrom ·))&&Rows.operatorWaitsRow.shortTexts.isNone)=true:=by kernel_rfl
theorem bJ:((Rows.operatorWaitsRow.kinds==(if Rows.operatorWaitsRow.domain.isEmpty then [] else Tryz.f5.params.toList.map fun t=>match Tryz.prog.underlying t with|some (.int k)=>some k|_=>none))&&(Rows.operatorWaitsRow.pinned==Rows.operatorWaitsRow.pinnedBy)&&
   (Rows.operatorWaitsRow.veiled==(Tryz.f5.params.toList++Rows.operatorWaitsSpec.plain.varTypes Tryz.prog++Tryz.f5.resultTypes.toList).any (Tryz.prog.veiledRec ·))&&Rows.operatorWaitsRow.veiledFits Tryz.prog Tryz.f5.params.toList (Tryz.f5.params.toList++Rows.operatorWaitsSpec.plain.varTypes Tryz.prog++Tryz.f5.resultTypes.toList))=true:=by kernel_rfl
theorem aA:Tryz.prog.funcNamed "manifold/manifoldlaw39.OperatorWaits"=some 5:=by kernel_rfl
theorem aZ:decide (Tryz.f5.isInstance Tryz.prog Rows.operatorWaitsRow.origin Rows.operatorWaitsRow.targs)=true:=by kernel_rfl
theorem aV:Tryz.f5.isWrapper Tryz.prog Rows.operatorWaitsRow.wrapper Rows.operatorWaitsRow.mainSum:=by unfold Func.isWrapper;rw [if_neg (by decide+kernel)];exact ⟨rfl,rfl⟩
theorem aO:joinedFacts Tryz.prog 5 Tryz.f5 Rows.operatorWaitsSpec Rows.operatorWaitsRow=true:=
 dh Tryz.laidOut Tryz.rowed dD dH dI bV bU bT bQ bP bM bK
  (by rw [dF];rfl) (by rw [dn];rfl) dO bJ
theorem aQ:Rows.OperatorWaitsSaid:=
 OpenClaim.holds_of_wide 5 Tryz.f5 rfl rfl rfl rfl rfl rfl rfl ⟨rfl,rfl,rfl,rfl,rfl⟩ rfl rfl rfl rfl rfl aA Tryz.func5 aO
  (of_decide_eq_true aZ) aV
  (fun os started H enc _=>aN os started H enc)
theorem aW:Rows.operatorWaitsRow.wfByText (OpenSpec.ofChange Rows.operatorWaitsSpec)=true:=by kernel_rfl
theorem aX:false=Rows.operatorWaitsRow.goesBy Tryz.prog:=(bW dK _ _).symm
theorem ay:((([24]:List TypeId).all fun u=>!Tryz.prog.wantsStandIn u)=true)/\Tryz.f5.params=#[24]:=⟨by kernel_rfl,by kernel_rfl⟩
theorem operatorwaits_card:Rows.OperatorWaitsCardSaid:=
 Claim7.holds_tied_plain_at .later [] [.data,.data,.data,.data,.sentinel,.sentinel,.pinned] true (true,"a75ad6bf4a49d30b3450983d732040967430057036402e2daa271303e339b221") true aQ (fun _ h=>by cases h) aW (fun _ h=>by cases h) operatorWaits_row_tie rfl ⟨rfl,rfl⟩ dP rfl
  (fun f fn hf hfn=>by
   obtain rfl:f=5:=Option.some.inj (aA.symm.trans hf) |>.symm;obtain rfl:fn=Tryz.f5:=(Option.some.inj (Tryz.func5.symm.trans hfn)).symm;refine ⟨dG,fun j t ht=>?_⟩;rw [ay.2] at ht;have hm:t∈([24]:List TypeId):=by simpa using Array.mem_of_getElem? ht
   exact (show Tryz.prog.wantsStandIn t=false by simpa using qaA.1 ay.1 t hm))
  aX
end Go.Proofs.YtonnphbfclaigaaGreatDoor
