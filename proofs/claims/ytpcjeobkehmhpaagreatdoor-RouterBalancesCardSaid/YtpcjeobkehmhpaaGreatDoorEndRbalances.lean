/-.-/
import Derived.Test.YtpcjeobkehmhpaaGreatDoorCards
import Derived.Test.YtpcjeobkehmhpaaGreatDoorTie
import Derived.OpenShut
import Derived.SevenTiedAt
import Derived.Stop.Joined
import Derived.Test.YtpcjeobkehmhpaaGreatDoorU17
import Derived.Test.YtpcjeobkehmhpaaGreatDoorU47
import Derived.Test.YtpcjeobkehmhpaaGreatDoorU51
set_option linter.all false
namespace Go.Proofs.YtpcjeobkehmhpaaGreatDoor
open Go.ChangeShapes Go.WideShapes Go.ChangeAt Go.RowKit Go.Em
theorem qP:Tryz.f3.params.toList=[34,37,47]:=by kernel_rfl
theorem mg {t:TypeId}(h:t∈([34,37,47]:List TypeId)):t∈tys:=by
 simp only [qaj,List.not_mem_nil,or_false] at h;rcases h with rfl|rfl|rfl;·decide
 ·decide
 decide
def zI:Value:=.int .i64 0
def zT:Value:=.string ⟨#[]⟩
def zS:Value:=.slice none 0 0
def uP:Array Value:=#[.agg #[zT,zI,zI,zI,zI,zI,zI,zT,zI,zI,zI,zI,zS,zS,zS,zS,zS,zS,zS,zS],.agg #[zI,zI,zS],.agg #[zI,zI,zI,zS,zI,zS,zI,zS,zI,zI,zI,zT,zS,zS,zI,.bool false,.bool false,zI,zI,zI,zT,zS,zS]]
set_option maxRecDepth 100000 in
theorem qM (os:Os)(started:os.Started)(H:Type)(enc:TypeId×Value->H):
  ReturnsInHanded {} Tryz.checked os 3 .any (fun w args=>(Rows.routerBalancesSpec.pre enc Tryz.prog Tryz.f3 Rows.routerBalancesRow.domain false w args/\laidMetH Tryz.prog wu w)/\sizedMet enc Tryz.prog Tryz.f3 (OpenSpec.ofChange Rows.routerBalancesSpec) false w args)
   (Rows.routerBalancesSpec.post enc Tryz.prog Tryz.f3 false true false false):=by
 refine returnsInHanded_of_change_and (C:=Tryz.checked) (X:=fun w _=>laidMetH Tryz.prog wu w) (fun _ _ _ O h=>h.of_heap O) Tryz.own started (by kernel_rfl) Tryz.func3
  (ChangeSpec.witness_shaped (enc:=enc) (C:=Tryz.checked) (os:=os) (X:=fun w _=>laidMetH Tryz.prog wu w) false (World.laidAll Tryz.prog os wu) uP 12 (World.laidAll_os _ _ _)
   (World.shaped_of_ZipB (by kernel_rfl) (by kernel_rfl)) (by kernel_rfl) (by kernel_rfl) (by kernel_rfl)
   (by rw [MakeChecks.laidMetH_plain _ _ _ (by kernel_rfl)];exact laidMet_laidAll _ (by kernel_rfl) (by kernel_rfl))) ?_
 intro W j args q B a m M _ _ L _;refine uz (P:=Tryz.prog) (Γ:=ah tab ext) machine Ii (CJ AB) (CO AB) (fun t y=>?_) (tb:=4) rfl Rk rfl (fun q u=>?_) (fun A l f=>?_) W (zau L) j args q B a m M;·rw [qP] at y;exact ⟨mg y,XC (mg y)⟩
 ·match q,u with
  |[_,_,_],_=>rfl
 match A,l with
 |[x0,x1,x2],_=>
  obtain ⟨_,E⟩:=f 0 34 x0 rfl rfl;obtain ⟨_,F⟩:=f 1 37 x1 rfl rfl;obtain ⟨_,J⟩:=f 2 47 x2 rfl rfl;have Q:=xq E;obtain ⟨s,rfl⟩:=Ba F;obtain ⟨i,rfl⟩:=Bd J;obtain ⟨n,N⟩:=rbalances_all x0 Q s i;refine ⟨n,[],?_⟩;have:EW Tryz.prog Tryz.f3.params.toList [x0,s.cells,i.cells]=[.agg x0,.agg s.cells,.agg i.cells]:=by kernel_rfl
  rw [this];exact N
set_option maxRecDepth 100000
theorem xP:(Rows.routerBalancesRow.inPlace==Tryz.prog.inPlace 3)=true:=by kernel_rfl
theorem xO:(Rows.routerBalancesRow.unfollowed==Tryz.prog.unfollowed 3)=true:=by kernel_rfl
theorem xM:(Rows.routerBalancesRow.recurses==Tryz.prog.recurses 3)=true:=by kernel_rfl
theorem xK:(Rows.routerBalancesRow.named==Tryz.prog.varsNamed 3)=true:=by kernel_rfl
theorem xJ:(Rows.routerBalancesRow.wf (OpenSpec.ofChange Rows.routerBalancesSpec)&&Tryz.f3.params.all (Tryz.prog.readableRec ·)&&namedTie Tryz.prog Rows.routerBalancesRow.named Rows.routerBalancesSpec.vars&&(Rows.routerBalancesRow.stops==[])&&(Rows.routerBalancesRow.knobs==[]))=true:=by kernel_rfl
theorem xI:((Rows.routerBalancesRow.maps==(Tryz.f3.params.toList++Rows.routerBalancesSpec.plain.varTypes Tryz.prog).any (Tryz.prog.mapsRec ·))&&(Rows.routerBalancesRow.ifaces==(Tryz.f3.params.toList++Rows.routerBalancesSpec.plain.varTypes Tryz.prog).any (Tryz.prog.ifacesRec ·))&&(Rows.routerBalancesRow.mapsOut==Tryz.prog.mapsAmong Tryz.f3.resultTypes.toList)&&
   (Rows.routerBalancesRow.loops==(Tryz.f3.params.toList++Rows.routerBalancesSpec.plain.varTypes Tryz.prog).any (Tryz.prog.loopsFrom ·))&&(Rows.routerBalancesRow.wideKeys==(Tryz.f3.params.toList++Rows.routerBalancesSpec.plain.varTypes Tryz.prog++Tryz.f3.resultTypes.toList).any (Tryz.prog.wideKeysFrom ·)))=true:=by kernel_rfl
theorem xH:(Rows.routerBalancesSpec.vars.all (Tryz.prog.varReadable ·)&&Tryz.f3.resultTypes.all (fun t=>Tryz.prog.readableRec t&&decide (t<Tryz.prog.types.size))&&(Rows.routerBalancesRow.ifacesOut==Tryz.f3.resultTypes.toList.any (Tryz.prog.ifacesRec ·))&&(Rows.routerBalancesRow.loopsOut==Tryz.f3.resultTypes.toList.any (Tryz.prog.loopsFrom ·))&&Rows.routerBalancesRow.shortTexts.isNone)=true:=by kernel_rfl
theorem xG:((Rows.routerBalancesRow.kinds==(if Rows.routerBalancesRow.domain.isEmpty then [] else Tryz.f3.params.toList.map fun t=>match Tryz.prog.underlying t with|some (.int k)=>some k|_=>none))&&(Rows.routerBalancesRow.pinned==Rows.routerBalancesRow.pinnedBy)&&
   (Rows.routerBalancesRow.veiled==(Tryz.f3.params.toList++Rows.routerBalancesSpec.plain.varTypes Tryz.prog++Tryz.f3.resultTypes.toList).any (Tryz.prog.veiledRec ·))&&Rows.routerBalancesRow.veiledFits Tryz.prog Tryz.f3.params.toList (Tryz.f3.params.toList++Rows.routerBalancesSpec.plain.varTypes Tryz.prog++Tryz.f3.resultTypes.toList))=true:=by kernel_rfl
theorem kF:Tryz.prog.funcNamed "manifold/manifoldlaw31.RouterBalances"=some 3:=by kernel_rfl
theorem vI:decide (Tryz.f3.isInstance Tryz.prog Rows.routerBalancesRow.origin Rows.routerBalancesRow.targs)=true:=by kernel_rfl
theorem um:Tryz.f3.isWrapper Tryz.prog Rows.routerBalancesRow.wrapper Rows.routerBalancesRow.mainSum:=by unfold Func.isWrapper;rw [if_neg (by decide+kernel)];exact ⟨rfl,rfl⟩
theorem qN:joinedFacts Tryz.prog 3 Tryz.f3 Rows.routerBalancesSpec Rows.routerBalancesRow=true:=
 CQ Tryz.laidOut Tryz.rowed Jg Jj Jk xP xO xM xK xJ xI xH
  (by rw [Jh];rfl) (by rw [CS];rfl) Pg xG
theorem sW:Rows.RouterBalancesSaid:=
 OpenClaim.holds_of_wide 3 Tryz.f3 rfl rfl rfl rfl rfl rfl rfl ⟨rfl,rfl,rfl,rfl,rfl⟩ rfl rfl rfl rfl rfl kF Tryz.func3 qN
  (of_decide_eq_true vI) um
  (fun h a H f _=>qM h a H f)
theorem uo:Rows.routerBalancesRow.wfByText (OpenSpec.ofChange Rows.routerBalancesSpec)=true:=by kernel_rfl
theorem uq:false=Rows.routerBalancesRow.goesBy Tryz.prog:=by kernel_rfl
theorem kE:((([34,37,47]:List TypeId).all fun u=>!Tryz.prog.wantsStandIn u)=true)/\Tryz.f3.params=#[34,37,47]:=⟨by kernel_rfl,by kernel_rfl⟩
theorem routerbalances_card:Rows.RouterBalancesCardSaid:=
 Claim7.holds_tied_plain_at .later [] [.data,.data,.data,.data,.sentinel,.sentinel,.pinned] true (true,"791283991706b0c9890acc735dd6c97095bf7421464433e3959ce49c45baa779") true sW (fun _ h=>by cases h) uo (fun _ h=>by cases h) routerBalances_row_tie rfl ⟨rfl,rfl⟩ Ph rfl
  (fun f fn hf hfn=>by
   obtain rfl:f=3:=Option.some.inj (kF.symm.trans hf) |>.symm;obtain rfl:fn=Tryz.f3:=(Option.some.inj (Tryz.func3.symm.trans hfn)).symm;refine ⟨Ji,fun j t ht=>?_⟩;rw [kE.2] at ht;have hm:t∈([34,37,47]:List TypeId):=by simpa using Array.mem_of_getElem? ht
   exact (show Tryz.prog.wantsStandIn t=false by simpa using qas.1 kE.1 t hm))
  uq
end Go.Proofs.YtpcjeobkehmhpaaGreatDoor
