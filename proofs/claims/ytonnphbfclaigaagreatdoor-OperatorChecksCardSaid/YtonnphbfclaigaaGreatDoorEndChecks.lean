/-.-/
import Derived.Test.YtonnphbfclaigaaGreatDoorCards
import Derived.Test.YtonnphbfclaigaaGreatDoorW21
import Derived.Test.YtonnphbfclaigaaGreatDoorW23
import Derived.Test.YtonnphbfclaigaaGreatDoorW25
set_option linter.all false
namespace Go.Proofs.YtonnphbfclaigaaGreatDoor
open Go.ChangeShapes Go.WideShapes Go.ChangeAt Go.RowKit Go.Em
theorem aH:Tryz.f4.params.toList=[59,24]:=by kernel_rfl
theorem aB {t:TypeId}(h:t∈([59,24]:List TypeId)):t∈tysO:=by
 simp only [qaz,List.not_mem_nil,or_false] at h;rcases h with rfl|rfl;·decide
 decide
theorem cO {Γ:Gam}{f:FuncId}{args:List X}{b:Bool}(h:Gam.pureD Γ f args=some (.v (.bool b))):∃bx,Γ (.fn f) args []=some (.v (.bool b),bx):=by
 unfold Gam.pureD at h;split at h;next x bx e=>refine ⟨bx,?_⟩;rw [e];cases x<;>simp only [X.data,qaf,qaa,X.v.injEq,reduceCtorEq,and_false,exists_false] at h;rw [h]
 cases h
def zIe:Value:=.int .i64 0
def zTe:Value:=.string ⟨#[]⟩
def zSe:Value:=.slice none 0 0
def cu:Array Value:=#[.agg #[zTe,zIe,zIe,zIe,zIe,zIe,zIe,zTe,zIe,zIe,zIe,zIe,zSe,zSe,zSe,zSe,zSe,zSe,zSe,zSe],.agg #[zIe,zIe,zSe]]
set_option maxRecDepth 100000 in
theorem aI (os:Os)(started:os.Started)(H:Type)(enc:TypeId×Value->H):
  ReturnsInHanded {} Tryz.checked os 4 .any (fun w args=>(Rows.operatorChecksSpec.pre enc Tryz.prog Tryz.f4 Rows.operatorChecksRow.domain false w args/\laidMetH Tryz.prog bZ w)/\sizedMet enc Tryz.prog Tryz.f4 (OpenSpec.ofChange Rows.operatorChecksSpec) false w args)
   (Rows.operatorChecksSpec.post enc Tryz.prog Tryz.f4 false true false false):=by
 refine returnsInHanded_of_change_and (C:=Tryz.checked) (X:=fun w _=>laidMetH Tryz.prog bZ w) (fun _ _ _ hh h=>h.of_heap hh) Tryz.own started (by kernel_rfl) Tryz.func4
  (ChangeSpec.witness_shaped (enc:=enc) (C:=Tryz.checked) (os:=os) (X:=fun w _=>laidMetH Tryz.prog bZ w) false (World.laidAll Tryz.prog os bZ) cu 12 (World.laidAll_os _ _ _)
   (World.shaped_of_ZipB (by kernel_rfl) (by kernel_rfl)) (by kernel_rfl) (by kernel_rfl) (by kernel_rfl)
   (by rw [MakeChecks.laidMetH_plain _ _ _ (by kernel_rfl)];exact laidMet_laidAll _ (by kernel_rfl) (by kernel_rfl))) ?_
 intro W base args ds gs before hval hW _ _ hL _;refine lifted_true (P:=Tryz.prog) (Γ:=callF tab ext) machine tysO_kids (kids_some tysO_ok) (kids_full tysO_ok) (fun t ht=>?_) (tb:=4) rfl under4 rfl (fun ds hds=>?_) (fun xss hlen hsh=>?_) W (dY hL) base args ds gs before hval hW;·rw [aH] at ht;exact ⟨aB ht,tysO_lt (aB ht)⟩
 ·match ds,hds with
  |[_,_],_=>rfl
 match xss,hlen with
 |[x0,x1],_=>
  obtain ⟨_,h0⟩:=hsh 0 59 x0 rfl rfl;obtain ⟨_,h1⟩:=hsh 1 24 x1 rfl rfl;have hn0:=shape_node h0;obtain ⟨s1,rfl⟩:=shape_stt h1;obtain ⟨bx,hbx⟩:=cO (Ck.checks_all hn0 s1 261301 (by omega));refine ⟨261301,bx,?_⟩;have:argsX Tryz.prog Tryz.f4.params.toList [x0,s1.cells]=[.agg x0,.agg s1.cells]:=by kernel_rfl
  rw [this];exact hbx
set_option maxRecDepth 100000
theorem bC:(Rows.operatorChecksRow.wf (OpenSpec.ofChange Rows.operatorChecksSpec)&&Tryz.f4.params.all (Tryz.prog.readableRec ·)&&namedTie Tryz.prog Rows.operatorChecksRow.named Rows.operatorChecksSpec.vars&&(Rows.operatorChecksRow.stops==[])&&(Rows.operatorChecksRow.knobs==[]))=true:=by kernel_rfl
theorem bn:((Rows.operatorChecksRow.maps==(Tryz.f4.params.toList++Rows.operatorChecksSpec.plain.varTypes Tryz.prog).any (Tryz.prog.mapsRec ·))&&(Rows.operatorChecksRow.ifaces==(Tryz.f4.params.toList++Rows.operatorChecksSpec.plain.varTypes Tryz.prog).any (Tryz.prog.ifacesRec ·))&&(Rows.operatorChecksRow.mapsOut==Tryz.prog.mapsAmong Tryz.f4.resultTypes.toList)&&
   (Rows.operatorChecksRow.loops==(Tryz.f4.params.toList++Rows.operatorChecksSpec.plain.varTypes Tryz.prog).any (Tryz.prog.loopsFrom ·))&&(Rows.operatorChecksRow.wideKeys==(Tryz.f4.params.toList++Rows.operatorChecksSpec.plain.varTypes Tryz.prog++Tryz.f4.resultTypes.toList).any (Tryz.prog.wideKeysFrom ·)))=true:=by kernel_rfl
theorem bg:(Rows.operatorChecksSpec.vars.all (Tryz.prog.varReadable ·)&&Tryz.f4.resultTypes.all (fun t=>Tryz.prog.readableRec t&&decide (t<Tryz.prog.types.size))&&(Rows.operatorChecksRow.ifacesOut==Tryz.f4.resultTypes.toList.any (Tryz.prog.ifacesRec ·))&&(Rows.operatorChecksRow.loopsOut==Tryz.f4.resultTypes.toList.any (Tryz.prog.loopsFrom ·))&&Rows.operatorChecksRow.shortTexts.isNone)=true:=by kernel_rfl
theorem bf:((Rows.operatorChecksRow.kinds==(if Rows.operatorChecksRow.domain.isEmpty then [] else Tryz.f4.params.toList.map fun t=>match Tryz.prog.underlying t with|some (.int k)=>some k|_=>none))&&(Rows.operatorChecksRow.pinned==Rows.operatorChecksRow.pinnedBy)&&
   (Rows.operatorChecksRow.veiled==(Tryz.f4.params.toList++Rows.operatorChecksSpec.plain.varTypes Tryz.prog++Tryz.f4.resultTypes.toList).any (Tryz.prog.veiledRec ·))&&Rows.operatorChecksRow.veiledFits Tryz.prog Tryz.f4.params.toList (Tryz.f4.params.toList++Rows.operatorChecksSpec.plain.varTypes Tryz.prog++Tryz.f4.resultTypes.toList))=true:=by kernel_rfl
theorem au:Tryz.prog.funcNamed "manifold/manifoldlaw39.OperatorChecks"=some 4:=by kernel_rfl
theorem aY:decide (Tryz.f4.isInstance Tryz.prog Rows.operatorChecksRow.origin Rows.operatorChecksRow.targs)=true:=by kernel_rfl
theorem aS:Tryz.f4.isWrapper Tryz.prog Rows.operatorChecksRow.wrapper Rows.operatorChecksRow.mainSum:=by unfold Func.isWrapper;rw [if_neg (by decide+kernel)];exact ⟨rfl,rfl⟩
theorem aJ:joinedFacts Tryz.prog 4 Tryz.f4 Rows.operatorChecksSpec Rows.operatorChecksRow=true:=
 dh Tryz.laidOut Tryz.rowed dD dH dI bH bG bF bD bC bn bg
  (by rw [dF];rfl) (by rw [dn];rfl) dO bf
theorem aP:Rows.OperatorChecksSaid:=
 OpenClaim.holds_of_wide 4 Tryz.f4 rfl rfl rfl rfl rfl rfl rfl ⟨rfl,rfl,rfl,rfl,rfl⟩ rfl rfl rfl rfl rfl au Tryz.func4 aJ
  (of_decide_eq_true aY) aS
  (fun os started H enc _=>aI os started H enc)
theorem aT:Rows.operatorChecksRow.wfByText (OpenSpec.ofChange Rows.operatorChecksSpec)=true:=by kernel_rfl
theorem aU:false=Rows.operatorChecksRow.goesBy Tryz.prog:=(bW dK _ _).symm
theorem ak:((([59,24]:List TypeId).all fun u=>!Tryz.prog.wantsStandIn u)=true)/\Tryz.f4.params=#[59,24]:=⟨by kernel_rfl,by kernel_rfl⟩
theorem operatorchecks_card:Rows.OperatorChecksCardSaid:=
 Claim7.holds_tied_plain_at .later [] [.data,.data,.data,.data,.sentinel,.sentinel,.pinned] true (true,"a75ad6bf4a49d30b3450983d732040967430057036402e2daa271303e339b221") true aP (fun _ h=>by cases h) aT (fun _ h=>by cases h) operatorChecks_row_tie rfl ⟨rfl,rfl⟩ dP rfl
  (fun f fn hf hfn=>by
   obtain rfl:f=4:=Option.some.inj (au.symm.trans hf) |>.symm;obtain rfl:fn=Tryz.f4:=(Option.some.inj (Tryz.func4.symm.trans hfn)).symm;refine ⟨dG,fun j t ht=>?_⟩;rw [ak.2] at ht;have hm:t∈([59,24]:List TypeId):=by simpa using Array.mem_of_getElem? ht
   exact (show Tryz.prog.wantsStandIn t=false by simpa using qaA.1 ak.1 t hm))
  aU
end Go.Proofs.YtonnphbfclaigaaGreatDoor
