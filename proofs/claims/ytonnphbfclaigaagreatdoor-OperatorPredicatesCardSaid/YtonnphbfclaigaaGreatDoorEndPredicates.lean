/-.-/
import Derived.Test.YtonnphbfclaigaaGreatDoorCards
import Derived.Test.YtonnphbfclaigaaGreatDoorP24
import Derived.Test.YtonnphbfclaigaaGreatDoorP26
import Derived.Test.YtonnphbfclaigaaGreatDoorP27
set_option linter.all false
namespace Go.Proofs.YtonnphbfclaigaaGreatDoor
open Go.ChangeShapes Go.WideShapes Go.ChangeAt Go.RowKit Go.Em
theorem aB:Tryz.f3.params.toList=[24,35,41]:=by kernel_rfl
theorem ay {t:TypeId}(h:t∈([24,35,41]:List TypeId)):t∈tysO:=by
 simp only [qbl,List.not_mem_nil,or_false] at h;rcases h with rfl|rfl|rfl;·decide
 ·decide
 decide
theorem bf {Γ:Gam}{f:FuncId}{args:List X}{b:Bool}(h:Gam.pureD Γ f args=some (.v (.bool b))):∃bx,Γ (.fn f) args []=some (.v (.bool b),bx):=by
 unfold Gam.pureD at h;split at h;next x bx e=>refine ⟨bx,?_⟩;rw [e];cases x<;>simp only [X.data,qa1,qaE,X.v.injEq,reduceCtorEq,and_false,exists_false] at h;rw [h]
 cases h
def zIe:Value:=.int .i64 0
def zTe:Value:=.string ⟨#[]⟩
def zSe:Value:=.slice none 0 0
def aZ:Array Value:=#[.agg #[zIe,zIe,zSe],.agg #[zIe,zIe,zIe,zSe,zIe,zSe,zIe,zSe,zIe,zIe,zIe,zTe,zSe,zSe,zIe,.bool false,.bool false,zIe,zIe,zIe,zTe,zSe,zSe],.agg #[zIe,zIe,zSe,zSe,zSe,zSe,zSe]]
set_option maxRecDepth 100000 in
theorem aC (os:Os)(started:os.Started)(H:Type)(enc:TypeId×Value->H):
  ReturnsInHanded {} Tryz.checked os 3 .any (fun w args=>(Rows.operatorPredicatesSpec.pre enc Tryz.prog Tryz.f3 Rows.operatorPredicatesRow.domain false w args/\laidMetH Tryz.prog laidZ w)/\sizedMet enc Tryz.prog Tryz.f3 (OpenSpec.ofChange Rows.operatorPredicatesSpec) false w args)
   (Rows.operatorPredicatesSpec.post enc Tryz.prog Tryz.f3 false true false false):=by
 refine returnsInHanded_of_change_and (C:=Tryz.checked) (X:=fun w _=>laidMetH Tryz.prog laidZ w) (fun _ _ _ hh h=>h.of_heap hh) Tryz.own started (by kernel_rfl) Tryz.func3
  (ChangeSpec.witness_shaped (enc:=enc) (C:=Tryz.checked) (os:=os) (X:=fun w _=>laidMetH Tryz.prog laidZ w) false (World.laidAll Tryz.prog os laidZ) aZ 12 (World.laidAll_os _ _ _)
   (World.shaped_of_ZipB (by kernel_rfl) (by kernel_rfl)) (by kernel_rfl) (by kernel_rfl) (by kernel_rfl)
   (by rw [MakeChecks.laidMetH_plain _ _ _ (by kernel_rfl)];exact laidMet_laidAll _ (by kernel_rfl) (by kernel_rfl))) ?_
 intro W base args ds gs before hval hW _ _ hL _;refine lifted_true (P:=Tryz.prog) (Γ:=callF tab ext) machine tysO_kids (kids_some tysO_ok) (kids_full tysO_ok) (fun t ht=>?_) (tb:=4) rfl under4 rfl (fun ds hds=>?_) (fun xss hlen hsh=>?_) W (globOk hL) base args ds gs before hval hW;·rw [aB] at ht;exact ⟨ay ht,tysO_lt (ay ht)⟩
 ·match ds,hds with
  |[_,_,_],_=>rfl
 match xss,hlen with
 |[x0,x1,x2],_=>
  obtain ⟨_,h0⟩:=hsh 0 24 x0 rfl rfl;obtain ⟨_,h1⟩:=hsh 1 35 x1 rfl rfl;obtain ⟨_,h2⟩:=hsh 2 41 x2 rfl rfl;obtain ⟨s0,rfl,hb0⟩:=shape_sttB h0;obtain ⟨o2,rfl,hb2⟩:=shape_ocB h2;obtain ⟨i1,rfl,hb1⟩:=shape_inpB h1;obtain ⟨bx,hbx⟩:=bf (Ba.predicates_all hb0 hb1 hb2 191101 (by omega));refine ⟨191101,bx,?_⟩;have:argsX Tryz.prog Tryz.f3.params.toList [s0.cells,i1.cells,o2.cells]=[.agg s0.cells,.agg i1.cells,.agg o2.cells]:=by kernel_rfl
  rw [this];exact hbx
set_option maxRecDepth 100000
theorem aQ:(Rows.operatorPredicatesRow.wf (OpenSpec.ofChange Rows.operatorPredicatesSpec)&&Tryz.f3.params.all (Tryz.prog.readableRec ·)&&namedTie Tryz.prog Rows.operatorPredicatesRow.named Rows.operatorPredicatesSpec.vars&&(Rows.operatorPredicatesRow.stops==[])&&(Rows.operatorPredicatesRow.knobs==[]))=true:=by kernel_rfl
theorem aP:((Rows.operatorPredicatesRow.maps==(Tryz.f3.params.toList++Rows.operatorPredicatesSpec.plain.varTypes Tryz.prog).any (Tryz.prog.mapsRec ·))&&(Rows.operatorPredicatesRow.ifaces==(Tryz.f3.params.toList++Rows.operatorPredicatesSpec.plain.varTypes Tryz.prog).any (Tryz.prog.ifacesRec ·))&&(Rows.operatorPredicatesRow.mapsOut==Tryz.prog.mapsAmong Tryz.f3.resultTypes.toList)&&
   (Rows.operatorPredicatesRow.loops==(Tryz.f3.params.toList++Rows.operatorPredicatesSpec.plain.varTypes Tryz.prog).any (Tryz.prog.loopsFrom ·))&&(Rows.operatorPredicatesRow.wideKeys==(Tryz.f3.params.toList++Rows.operatorPredicatesSpec.plain.varTypes Tryz.prog++Tryz.f3.resultTypes.toList).any (Tryz.prog.wideKeysFrom ·)))=true:=by kernel_rfl
theorem aO:(Rows.operatorPredicatesSpec.vars.all (Tryz.prog.varReadable ·)&&Tryz.f3.resultTypes.all (fun t=>Tryz.prog.readableRec t&&decide (t<Tryz.prog.types.size))&&(Rows.operatorPredicatesRow.ifacesOut==Tryz.f3.resultTypes.toList.any (Tryz.prog.ifacesRec ·))&&(Rows.operatorPredicatesRow.loopsOut==Tryz.f3.resultTypes.toList.any (Tryz.prog.loopsFrom ·))&&Rows.operatorPredicatesRow.shortTexts.isNone)=true:=by kernel_rfl
theorem aN:((Rows.operatorPredicatesRow.kinds==(if Rows.operatorPredicatesRow.domain.isEmpty then [] else Tryz.f3.params.toList.map fun t=>match Tryz.prog.underlying t with|some (.int k)=>some k|_=>none))&&(Rows.operatorPredicatesRow.pinned==Rows.operatorPredicatesRow.pinnedBy)&&
   (Rows.operatorPredicatesRow.veiled==(Tryz.f3.params.toList++Rows.operatorPredicatesSpec.plain.varTypes Tryz.prog++Tryz.f3.resultTypes.toList).any (Tryz.prog.veiledRec ·))&&Rows.operatorPredicatesRow.veiledFits Tryz.prog Tryz.f3.params.toList (Tryz.f3.params.toList++Rows.operatorPredicatesSpec.plain.varTypes Tryz.prog++Tryz.f3.resultTypes.toList))=true:=by kernel_rfl
theorem au:Tryz.prog.funcNamed "manifold/manifoldlaw39.OperatorPredicates"=some 3:=by kernel_rfl
theorem aK:decide (Tryz.f3.isInstance Tryz.prog Rows.operatorPredicatesRow.origin Rows.operatorPredicatesRow.targs)=true:=by kernel_rfl
theorem aH:Tryz.f3.isWrapper Tryz.prog Rows.operatorPredicatesRow.wrapper Rows.operatorPredicatesRow.mainSum:=by unfold Func.isWrapper;rw [if_neg (by decide+kernel)];exact ⟨rfl,rfl⟩
theorem aF:joinedFacts Tryz.prog 3 Tryz.f3 Rows.operatorPredicatesSpec Rows.operatorPredicatesRow=true:=
 joined_of Tryz.laidOut Tryz.rowed jf_stops jf_heard jf_enter aV aU aT aS aQ aP aO
  (by rw [jf_plain];rfl) (by rw [jf_lifted];rfl) jf_make aN
theorem aG:Rows.OperatorPredicatesSaid:=
 OpenClaim.holds_of_wide 3 Tryz.f3 rfl rfl rfl rfl rfl rfl rfl ⟨rfl,rfl,rfl,rfl,rfl⟩ rfl rfl rfl rfl rfl au Tryz.func3 aF
  (of_decide_eq_true aK) aH
  (fun os started H enc _=>aC os started H enc)
theorem aI:Rows.operatorPredicatesRow.wfByText (OpenSpec.ofChange Rows.operatorPredicatesSpec)=true:=by kernel_rfl
theorem aJ:false=Rows.operatorPredicatesRow.goesBy Tryz.prog:=(goesAt_none no_goes _ _).symm
theorem ak:((([24,35,41]:List TypeId).all fun u=>!Tryz.prog.wantsStandIn u)=true)/\Tryz.f3.params=#[24,35,41]:=⟨by kernel_rfl,by kernel_rfl⟩
theorem operatorpredicates_card:Rows.OperatorPredicatesCardSaid:=
 Claim7.holds_tied_plain_at .later [] [.data,.data,.data,.data,.sentinel,.sentinel,.pinned] true (true,"a75ad6bf4a49d30b3450983d732040967430057036402e2daa271303e339b221") true aG (fun _ h=>by cases h) aI (fun _ h=>by cases h) operatorPredicates_row_tie rfl ⟨rfl,rfl⟩ jf_main rfl
  (fun f fn hf hfn=>by
   obtain rfl:f=3:=Option.some.inj (au.symm.trans hf) |>.symm;obtain rfl:fn=Tryz.f3:=(Option.some.inj (Tryz.func3.symm.trans hfn)).symm;refine ⟨jf_looks,fun j t ht=>?_⟩;rw [ak.2] at ht;have hm:t∈([24,35,41]:List TypeId):=by simpa using Array.mem_of_getElem? ht
   exact (show Tryz.prog.wantsStandIn t=false by simpa using qbo.1 ak.1 t hm))
  aJ
end Go.Proofs.YtonnphbfclaigaaGreatDoor
