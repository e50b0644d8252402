/-.-/
import Derived.Test.YtpcjeobkehmhpaaGreatDoorCards
import Derived.Test.YtpcjeobkehmhpaaGreatDoorTie
import Derived.OpenShut
import Derived.SevenTiedAt
import Derived.Stop.Joined
import Derived.Test.YtpcjeobkehmhpaaGreatDoorV17
import Derived.Test.YtpcjeobkehmhpaaGreatDoorV47
import Derived.Test.YtpcjeobkehmhpaaGreatDoorV50
set_option linter.all false
namespace Go.Proofs.YtpcjeobkehmhpaaGreatDoor
open Go.ChangeShapes Go.WideShapes Go.ChangeAt Go.RowKit Go.Em
theorem uH:Tryz.f6.params.toList=[34,37,47]:=by kernel_rfl
theorem qo {t:TypeId}(h:t∈([34,37,47]:List TypeId)):t∈tys:=by
 simp only [qak,List.not_mem_nil,or_false] at h;rcases h with rfl|rfl|rfl;·decide
 ·decide
 decide
def zI:Value:=.int .i64 0
def zT:Value:=.string ⟨#[]⟩
def zS:Value:=.slice none 0 0
def H9:Array Value:=#[.agg #[zT,zI,zI,zI,zI,zI,zI,zT,zI,zI,zI,zI,zS,zS,zS,zS,zS,zS,zS,zS],.agg #[zI,zI,zS],.agg #[zI,zI,zI,zS,zI,zS,zI,zS,zI,zI,zI,zT,zS,zS,zI,.bool false,.bool false,zI,zI,zI,zT,zS,zS]]
set_option maxRecDepth 100000 in
theorem uy (os:Os)(started:os.Started)(H:Type)(enc:TypeId×Value->H):
  ReturnsInHanded {} Tryz.checked os 6 .any (fun w args=>(Rows.routerOthersSpec.pre enc Tryz.prog Tryz.f6 Rows.routerOthersRow.domain false w args/\laidMetH Tryz.prog ED w)/\sizedMet enc Tryz.prog Tryz.f6 (OpenSpec.ofChange Rows.routerOthersSpec) false w args)
   (Rows.routerOthersSpec.post enc Tryz.prog Tryz.f6 false true false false):=by
 refine returnsInHanded_of_change_and (C:=Tryz.checked) (X:=fun w _=>laidMetH Tryz.prog ED w) (fun _ _ _ O h=>h.of_heap O) Tryz.own started (by kernel_rfl) Tryz.func6
  (ChangeSpec.witness_shaped (enc:=enc) (C:=Tryz.checked) (os:=os) (X:=fun w _=>laidMetH Tryz.prog ED w) false (World.laidAll Tryz.prog os ED) H9 12 (World.laidAll_os _ _ _)
   (World.shaped_of_ZipB (by kernel_rfl) (by kernel_rfl)) (by kernel_rfl) (by kernel_rfl) (by kernel_rfl)
   (by rw [MakeChecks.laidMetH_plain _ _ _ (by kernel_rfl)];exact laidMet_laidAll _ (by kernel_rfl) (by kernel_rfl))) ?_
 intro W j args q B a m M _ _ L _;refine CP (P:=Tryz.prog) (Γ:=ah tab ext) machine Rq (MJ KH) (MK KH) (fun t y=>?_) (tb:=4) rfl XK rfl (fun q u=>?_) (fun A l f=>?_) W (zgD L) j args q B a m M;·rw [uH] at y;exact ⟨qo y,zf7 (qo y)⟩
 ·match q,u with
  |[_,_,_],_=>rfl
 match A,l with
 |[x0,x1,x2],_=>
  obtain ⟨_,E⟩:=f 0 34 x0 rfl rfl;obtain ⟨_,F⟩:=f 1 37 x1 rfl rfl;obtain ⟨_,J⟩:=f 2 47 x2 rfl rfl;have Q:=FN E;obtain ⟨s,rfl⟩:=La F;obtain ⟨i,rfl⟩:=Lh J;obtain ⟨n,N⟩:=rothers_all x0 Q s i;refine ⟨n,[],?_⟩;have:J4 Tryz.prog Tryz.f6.params.toList [x0,s.cells,i.cells]=[.agg x0,.agg s.cells,.agg i.cells]:=by kernel_rfl
  rw [this];exact N
set_option maxRecDepth 100000
theorem BI:(Rows.routerOthersRow.inPlace==Tryz.prog.inPlace 6)=true:=by kernel_rfl
theorem BH:(Rows.routerOthersRow.unfollowed==Tryz.prog.unfollowed 6)=true:=by kernel_rfl
theorem BG:(Rows.routerOthersRow.recurses==Tryz.prog.recurses 6)=true:=by kernel_rfl
theorem BF:(Rows.routerOthersRow.named==Tryz.prog.varsNamed 6)=true:=by kernel_rfl
theorem BD:(Rows.routerOthersRow.wf (OpenSpec.ofChange Rows.routerOthersSpec)&&Tryz.f6.params.all (Tryz.prog.readableRec ·)&&namedTie Tryz.prog Rows.routerOthersRow.named Rows.routerOthersSpec.vars&&(Rows.routerOthersRow.stops==[])&&(Rows.routerOthersRow.knobs==[]))=true:=by kernel_rfl
theorem BA:((Rows.routerOthersRow.maps==(Tryz.f6.params.toList++Rows.routerOthersSpec.plain.varTypes Tryz.prog).any (Tryz.prog.mapsRec ·))&&(Rows.routerOthersRow.ifaces==(Tryz.f6.params.toList++Rows.routerOthersSpec.plain.varTypes Tryz.prog).any (Tryz.prog.ifacesRec ·))&&(Rows.routerOthersRow.mapsOut==Tryz.prog.mapsAmong Tryz.f6.resultTypes.toList)&&
   (Rows.routerOthersRow.loops==(Tryz.f6.params.toList++Rows.routerOthersSpec.plain.varTypes Tryz.prog).any (Tryz.prog.loopsFrom ·))&&(Rows.routerOthersRow.wideKeys==(Tryz.f6.params.toList++Rows.routerOthersSpec.plain.varTypes Tryz.prog++Tryz.f6.resultTypes.toList).any (Tryz.prog.wideKeysFrom ·)))=true:=by kernel_rfl
theorem Bz:(Rows.routerOthersSpec.vars.all (Tryz.prog.varReadable ·)&&Tryz.f6.resultTypes.all (fun t=>Tryz.prog.readableRec t&&decide (t<Tryz.prog.types.size))&&(Rows.routerOthersRow.ifacesOut==Tryz.f6.resultTypes.toList.any (Tryz.prog.ifacesRec ·))&&(Rows.routerOthersRow.loopsOut==Tryz.f6.resultTypes.toList.any (Tryz.prog.loopsFrom ·))&&Rows.routerOthersRow.shortTexts.isNone)=true:=by kernel_rfl
theorem Bv:((Rows.routerOthersRow.kinds==(if Rows.routerOthersRow.domain.isEmpty then [] else Tryz.f6.params.toList.map fun t=>match Tryz.prog.underlying t with|some (.int k)=>some k|_=>none))&&(Rows.routerOthersRow.pinned==Rows.routerOthersRow.pinnedBy)&&
   (Rows.routerOthersRow.veiled==(Tryz.f6.params.toList++Rows.routerOthersSpec.plain.varTypes Tryz.prog++Tryz.f6.resultTypes.toList).any (Tryz.prog.veiledRec ·))&&Rows.routerOthersRow.veiledFits Tryz.prog Tryz.f6.params.toList (Tryz.f6.params.toList++Rows.routerOthersSpec.plain.varTypes Tryz.prog++Tryz.f6.resultTypes.toList))=true:=by kernel_rfl
theorem mO:Tryz.prog.funcNamed "manifold/manifoldlaw31.RouterOthers"=some 6:=by kernel_rfl
theorem zL:decide (Tryz.f6.isInstance Tryz.prog Rows.routerOthersRow.origin Rows.routerOthersRow.targs)=true:=by kernel_rfl
theorem xH:Tryz.f6.isWrapper Tryz.prog Rows.routerOthersRow.wrapper Rows.routerOthersRow.mainSum:=by unfold Func.isWrapper;rw [if_neg (by decide+kernel)];exact ⟨rfl,rfl⟩
theorem uz:joinedFacts Tryz.prog 6 Tryz.f6 Rows.routerOthersSpec Rows.routerOthersRow=true:=
 MN Tryz.laidOut Tryz.rowed SY Td Tf BI BH BG BF BD BA Bz
  (by rw [S9];rfl) (by rw [MO];rfl) ZO Bv
theorem vN:Rows.RouterOthersSaid:=
 OpenClaim.holds_of_wide 6 Tryz.f6 rfl rfl rfl rfl rfl rfl rfl ⟨rfl,rfl,rfl,rfl,rfl⟩ rfl rfl rfl rfl rfl mO Tryz.func6 uz
  (of_decide_eq_true zL) xH
  (fun h a H f _=>uy h a H f)
theorem xI:Rows.routerOthersRow.wfByText (OpenSpec.ofChange Rows.routerOthersSpec)=true:=by kernel_rfl
theorem xJ:false=Rows.routerOthersRow.goesBy Tryz.prog:=by kernel_rfl
theorem mM:((([34,37,47]:List TypeId).all fun u=>!Tryz.prog.wantsStandIn u)=true)/\Tryz.f6.params=#[34,37,47]:=⟨by kernel_rfl,by kernel_rfl⟩
theorem routerothers_card:Rows.RouterOthersCardSaid:=
 Claim7.holds_tied_plain_at .later [] [.data,.data,.data,.data,.sentinel,.sentinel,.pinned] true (true,"791283991706b0c9890acc735dd6c97095bf7421464433e3959ce49c45baa779") true vN (fun _ h=>by cases h) xI (fun _ h=>by cases h) routerOthers_row_tie rfl ⟨rfl,rfl⟩ ZP rfl
  (fun f fn hf hfn=>by
   obtain rfl:f=6:=Option.some.inj (mO.symm.trans hf) |>.symm;obtain rfl:fn=Tryz.f6:=(Option.some.inj (Tryz.func6.symm.trans hfn)).symm;refine ⟨Tc,fun j t ht=>?_⟩;rw [mM.2] at ht;have hm:t∈([34,37,47]:List TypeId):=by simpa using Array.mem_of_getElem? ht
   exact (show Tryz.prog.wantsStandIn t=false by simpa using qaq.1 mM.1 t hm))
  xJ
end Go.Proofs.YtpcjeobkehmhpaaGreatDoor
