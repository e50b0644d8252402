/-.-/
import Derived.Test.YtpcjeobkehmhpaaGreatDoorCards
import Derived.Test.YtpcjeobkehmhpaaGreatDoorTie
import Derived.OpenShut
import Derived.SevenTiedAt
import Derived.Stop.Joined
import Derived.Test.YtpcjeobkehmhpaaGreatDoorU17
import Derived.Test.YtpcjeobkehmhpaaGreatDoorU47
import Derived.Test.YtpcjeobkehmhpaaGreatDoorU50
set_option linter.unusedSimpArgs false
set_option linter.unusedVariables false
namespace Go.Proofs.YtpcjeobkehmhpaaGreatDoor
open Go.ChangeShapes Go.WideShapes Go.ChangeAt Go.RowKit Go.Em
theorem vP:Tryz.f4.params.toList=[34,37,47]:=by kernel_rfl
theorem qQ {t:TypeId}(h:t∈([34,37,47]:List TypeId)):t∈tys:=by
 simp only [qaj,List.not_mem_nil,or_false] at h;rcases h with rfl|rfl|rfl;·decide
 ·decide
 decide
def zI:Value:=.int .i64 0
def zT:Value:=.string ⟨#[]⟩
def zS:Value:=.slice none 0 0
def uP:Array Value:=#[.agg #[zT,zI,zI,zI,zI,zI,zI,zT,zI,zI,zI,zI,zS,zS,zS,zS,zS,zS,zS,zS],.agg #[zI,zI,zS],.agg #[zI,zI,zI,zS,zI,zS,zI,zS,zI,zI,zI,zT,zS,zS,zI,.bool false,.bool false,zI,zI,zI,zT,zS,zS]]
set_option maxRecDepth 100000 in
theorem vG (os:Os)(started:os.Started)(H:Type)(enc:TypeId×Value->H):
  ReturnsInHanded {} Tryz.checked os 4 .any (fun w args=>(Rows.routerKeepsSpec.pre enc Tryz.prog Tryz.f4 Rows.routerKeepsRow.domain false w args/\laidMetH Tryz.prog wu w)/\sizedMet enc Tryz.prog Tryz.f4 (OpenSpec.ofChange Rows.routerKeepsSpec) false w args)
   (Rows.routerKeepsSpec.post enc Tryz.prog Tryz.f4 false true false false):=by
 refine returnsInHanded_of_change_and (C:=Tryz.checked) (X:=fun w _=>laidMetH Tryz.prog wu w) (fun _ _ _ hh h=>h.of_heap hh) Tryz.own started (by kernel_rfl) Tryz.func4
  (ChangeSpec.witness_shaped (enc:=enc) (C:=Tryz.checked) (os:=os) (X:=fun w _=>laidMetH Tryz.prog wu w) false (World.laidAll Tryz.prog os wu) uP 12 (World.laidAll_os _ _ _)
   (World.shaped_of_ZipB (by kernel_rfl) (by kernel_rfl)) (by kernel_rfl) (by kernel_rfl) (by kernel_rfl)
   (by rw [MakeChecks.laidMetH_plain _ _ _ (by kernel_rfl)];exact laidMet_laidAll _ (by kernel_rfl) (by kernel_rfl))) ?_
 intro W base args ds gs before hval hW _ _ hL _;refine uz (P:=Tryz.prog) (Γ:=ah tab ext) machine Ii (CJ AB) (CO AB) (fun t ht=>?_) (tb:=4) rfl Rk rfl (fun ds hds=>?_) (fun xss hlen hsh=>?_) W (zau hL) base args ds gs before hval hW;·rw [vP] at ht;exact ⟨qQ ht,XC (qQ ht)⟩
 ·match ds,hds with
  |[_,_,_],_=>rfl
 match xss,hlen with
 |[x0,x1,x2],_=>
  obtain ⟨_,h0⟩:=hsh 0 34 x0 rfl rfl;obtain ⟨_,h1⟩:=hsh 1 37 x1 rfl rfl;obtain ⟨_,h2⟩:=hsh 2 47 x2 rfl rfl;have hn:=xq h0;obtain ⟨s,rfl⟩:=Ba h1;obtain ⟨i,rfl⟩:=Bd h2;obtain ⟨n,hc⟩:=rkeeps_one x0 hn s i;refine ⟨n,[],?_⟩;have:EW Tryz.prog Tryz.f4.params.toList [x0,s.cells,i.cells]=[.agg x0,.agg s.cells,.agg i.cells]:=by kernel_rfl
  rw [this];exact hc
set_option maxRecDepth 100000
theorem Eu:(Rows.routerKeepsRow.inPlace==Tryz.prog.inPlace 4)=true:=by kernel_rfl
theorem Et:(Rows.routerKeepsRow.unfollowed==Tryz.prog.unfollowed 4)=true:=by kernel_rfl
theorem Es:(Rows.routerKeepsRow.recurses==Tryz.prog.recurses 4)=true:=by kernel_rfl
theorem Ep:(Rows.routerKeepsRow.named==Tryz.prog.varsNamed 4)=true:=by kernel_rfl
theorem Eo:(Rows.routerKeepsRow.wf (OpenSpec.ofChange Rows.routerKeepsSpec)&&Tryz.f4.params.all (Tryz.prog.readableRec ·)&&namedTie Tryz.prog Rows.routerKeepsRow.named Rows.routerKeepsSpec.vars&&(Rows.routerKeepsRow.stops==[])&&(Rows.routerKeepsRow.knobs==[]))=true:=by kernel_rfl
theorem En:((Rows.routerKeepsRow.maps==(Tryz.f4.params.toList++Rows.routerKeepsSpec.plain.varTypes Tryz.prog).any (Tryz.prog.mapsRec ·))&&(Rows.routerKeepsRow.ifaces==(Tryz.f4.params.toList++Rows.routerKeepsSpec.plain.varTypes Tryz.prog).any (Tryz.prog.ifacesRec ·))&&(Rows.routerKeepsRow.mapsOut==Tryz.prog.mapsAmong Tryz.f4.resultTypes.toList)&&
   (Rows.routerKeepsRow.loops==(Tryz.f4.params.toList++Rows.routerKeepsSpec.plain.varTypes Tryz.prog).any (Tryz.prog.loopsFrom ·))&&(Rows.routerKeepsRow.wideKeys==(Tryz.f4.params.toList++Rows.routerKeepsSpec.plain.varTypes Tryz.prog++Tryz.f4.resultTypes.toList).any (Tryz.prog.wideKeysFrom ·)))=true:=by kernel_rfl
theorem Ej:(Rows.routerKeepsSpec.vars.all (Tryz.prog.varReadable ·)&&Tryz.f4.resultTypes.all (fun t=>Tryz.prog.readableRec t&&decide (t<Tryz.prog.types.size))&&(Rows.routerKeepsRow.ifacesOut==Tryz.f4.resultTypes.toList.any (Tryz.prog.ifacesRec ·))&&(Rows.routerKeepsRow.loopsOut==Tryz.f4.resultTypes.toList.any (Tryz.prog.loopsFrom ·))&&Rows.routerKeepsRow.shortTexts.isNone)=true:=by kernel_rfl
theorem Ei:((Rows.routerKeepsRow.kinds==(if Rows.routerKeepsRow.domain.isEmpty then [] else Tryz.f4.params.toList.map fun t=>match Tryz.prog.underlying t with|some (.int k)=>some k|_=>none))&&(Rows.routerKeepsRow.pinned==Rows.routerKeepsRow.pinnedBy)&&
   (Rows.routerKeepsRow.veiled==(Tryz.f4.params.toList++Rows.routerKeepsSpec.plain.varTypes Tryz.prog++Tryz.f4.resultTypes.toList).any (Tryz.prog.veiledRec ·))&&Rows.routerKeepsRow.veiledFits Tryz.prog Tryz.f4.params.toList (Tryz.f4.params.toList++Rows.routerKeepsSpec.plain.varTypes Tryz.prog++Tryz.f4.resultTypes.toList))=true:=by kernel_rfl
theorem nT:Tryz.prog.funcNamed "manifold/manifoldlaw31.RouterKeeps"=some 4:=by kernel_rfl
theorem Bz:decide (Tryz.f4.isInstance Tryz.prog Rows.routerKeepsRow.origin Rows.routerKeepsRow.targs)=true:=by kernel_rfl
theorem zH:Tryz.f4.isWrapper Tryz.prog Rows.routerKeepsRow.wrapper Rows.routerKeepsRow.mainSum:=by unfold Func.isWrapper;rw [if_neg (by decide+kernel)];exact ⟨rfl,rfl⟩
theorem vH:joinedFacts Tryz.prog 4 Tryz.f4 Rows.routerKeepsSpec Rows.routerKeepsRow=true:=
 CQ Tryz.laidOut Tryz.rowed Jg Jj Jk Eu Et Es Ep Eo En Ej
  (by rw [Jh];rfl) (by rw [CS];rfl) Pg Ei
theorem xE:Rows.RouterKeepsSaid:=
 OpenClaim.holds_of_wide 4 Tryz.f4 rfl rfl rfl rfl rfl rfl rfl ⟨rfl,rfl,rfl,rfl,rfl⟩ rfl rfl rfl rfl rfl nT Tryz.func4 vH
  (of_decide_eq_true Bz) zH
  (fun os started H enc _=>vG os started H enc)
theorem zJ:Rows.routerKeepsRow.wfByText (OpenSpec.ofChange Rows.routerKeepsSpec)=true:=by kernel_rfl
theorem zK:false=Rows.routerKeepsRow.goesBy Tryz.prog:=by kernel_rfl
theorem nS:((([34,37,47]:List TypeId).all fun u=>!Tryz.prog.wantsStandIn u)=true)/\Tryz.f4.params=#[34,37,47]:=⟨by kernel_rfl,by kernel_rfl⟩
theorem routerkeeps_card:Rows.RouterKeepsCardSaid:=
 Claim7.holds_tied_plain_at .later [] [.data,.data,.data,.data,.sentinel,.sentinel,.pinned] true (true,"791283991706b0c9890acc735dd6c97095bf7421464433e3959ce49c45baa779") true xE (fun _ h=>by cases h) zJ (fun _ h=>by cases h) routerKeeps_row_tie rfl ⟨rfl,rfl⟩ Ph rfl
  (fun f fn hf hfn=>by
   obtain rfl:f=4:=Option.some.inj (nT.symm.trans hf) |>.symm;obtain rfl:fn=Tryz.f4:=(Option.some.inj (Tryz.func4.symm.trans hfn)).symm;refine ⟨Ji,fun j t ht=>?_⟩;rw [nS.2] at ht;have hm:t∈([34,37,47]:List TypeId):=by simpa using Array.mem_of_getElem? ht
   exact (show Tryz.prog.wantsStandIn t=false by simpa using qas.1 nS.1 t hm))
  zK
end Go.Proofs.YtpcjeobkehmhpaaGreatDoor
