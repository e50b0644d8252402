/-.-/
import Derived.Test.YtpcjeobkehmhpaaGreatDoorCards
import Derived.Test.YtpcjeobkehmhpaaGreatDoorTie
import Derived.OpenShut
import Derived.SevenTiedAt
import Derived.Stop.Joined
import Derived.Test.YtpcjeobkehmhpaaGreatDoorU17
import Derived.Test.YtpcjeobkehmhpaaGreatDoorU44
import Derived.Test.YtpcjeobkehmhpaaGreatDoorU47
set_option linter.unusedSimpArgs false
set_option linter.unusedVariables false
namespace Go.Proofs.YtpcjeobkehmhpaaGreatDoor
open Go.ChangeShapes Go.WideShapes Go.ChangeAt Go.RowKit Go.Em
theorem xR:Tryz.f5.params.toList=[34,37,47]:=by kernel_rfl
theorem tN {t:TypeId}(h:t∈([34,37,47]:List TypeId)):t∈tys:=by
 simp only [qaj,List.not_mem_nil,or_false] at h;rcases h with rfl|rfl|rfl;·decide
 ·decide
 decide
def zI:Value:=.int .i64 0
def zT:Value:=.string ⟨#[]⟩
def zS:Value:=.slice none 0 0
def uP:Array Value:=#[.agg #[zT,zI,zI,zI,zI,zI,zI,zT,zI,zI,zI,zI,zS,zS,zS,zS,zS,zS,zS,zS],.agg #[zI,zI,zS],.agg #[zI,zI,zI,zS,zI,zS,zI,zS,zI,zI,zI,zT,zS,zS,zI,.bool false,.bool false,zI,zI,zI,zT,zS,zS]]
set_option maxRecDepth 100000 in
theorem xB (os:Os)(started:os.Started)(H:Type)(enc:TypeId×Value->H):
  ReturnsInHanded {} Tryz.checked os 5 .any (fun w args=>(Rows.routerMapsSpec.pre enc Tryz.prog Tryz.f5 Rows.routerMapsRow.domain false w args/\laidMetH Tryz.prog wu w)/\sizedMet enc Tryz.prog Tryz.f5 (OpenSpec.ofChange Rows.routerMapsSpec) false w args)
   (Rows.routerMapsSpec.post enc Tryz.prog Tryz.f5 false true false false):=by
 refine returnsInHanded_of_change_and (C:=Tryz.checked) (X:=fun w _=>laidMetH Tryz.prog wu w) (fun _ _ _ hh h=>h.of_heap hh) Tryz.own started (by kernel_rfl) Tryz.func5
  (ChangeSpec.witness_shaped (enc:=enc) (C:=Tryz.checked) (os:=os) (X:=fun w _=>laidMetH Tryz.prog wu w) false (World.laidAll Tryz.prog os wu) uP 12 (World.laidAll_os _ _ _)
   (World.shaped_of_ZipB (by kernel_rfl) (by kernel_rfl)) (by kernel_rfl) (by kernel_rfl) (by kernel_rfl)
   (by rw [MakeChecks.laidMetH_plain _ _ _ (by kernel_rfl)];exact laidMet_laidAll _ (by kernel_rfl) (by kernel_rfl))) ?_
 intro W base args ds gs before hval hW _ _ hL _;refine uz (P:=Tryz.prog) (Γ:=ah tab ext) machine Ii (CJ AB) (CO AB) (fun t ht=>?_) (tb:=4) rfl Rk rfl (fun ds hds=>?_) (fun xss hlen hsh=>?_) W (zau hL) base args ds gs before hval hW;·rw [xR] at ht;exact ⟨tN ht,XC (tN ht)⟩
 ·match ds,hds with
  |[_,_,_],_=>rfl
 match xss,hlen with
 |[x0,x1,x2],_=>
  obtain ⟨_,h0⟩:=hsh 0 34 x0 rfl rfl;obtain ⟨_,h1⟩:=hsh 1 37 x1 rfl rfl;obtain ⟨_,h2⟩:=hsh 2 47 x2 rfl rfl;have hn:=xq h0;obtain ⟨s,rfl⟩:=Ba h1;obtain ⟨i,rfl⟩:=Bd h2;obtain ⟨n,hc⟩:=rmaps_all x0 hn s i;refine ⟨n,[],?_⟩;have:EW Tryz.prog Tryz.f5.params.toList [x0,s.cells,i.cells]=[.agg x0,.agg s.cells,.agg i.cells]:=by kernel_rfl
  rw [this];exact hc
set_option maxRecDepth 100000
theorem IJ:(Rows.routerMapsRow.inPlace==Tryz.prog.inPlace 5)=true:=by kernel_rfl
theorem II:(Rows.routerMapsRow.unfollowed==Tryz.prog.unfollowed 5)=true:=by kernel_rfl
theorem IG:(Rows.routerMapsRow.recurses==Tryz.prog.recurses 5)=true:=by kernel_rfl
theorem IE:(Rows.routerMapsRow.named==Tryz.prog.varsNamed 5)=true:=by kernel_rfl
theorem IC:(Rows.routerMapsRow.wf (OpenSpec.ofChange Rows.routerMapsSpec)&&Tryz.f5.params.all (Tryz.prog.readableRec ·)&&namedTie Tryz.prog Rows.routerMapsRow.named Rows.routerMapsSpec.vars&&(Rows.routerMapsRow.stops==[])&&(Rows.routerMapsRow.knobs==[]))=true:=by kernel_rfl
theorem IB:((Rows.routerMapsRow.maps==(Tryz.f5.params.toList++Rows.routerMapsSpec.plain.varTypes Tryz.prog).any (Tryz.prog.mapsRec ·))&&(Rows.routerMapsRow.ifaces==(Tryz.f5.params.toList++Rows.routerMapsSpec.plain.varTypes Tryz.prog).any (Tryz.prog.ifacesRec ·))&&(Rows.routerMapsRow.mapsOut==Tryz.prog.mapsAmong Tryz.f5.resultTypes.toList)&&
   (Rows.routerMapsRow.loops==(Tryz.f5.params.toList++Rows.routerMapsSpec.plain.varTypes Tryz.prog).any (Tryz.prog.loopsFrom ·))&&(Rows.routerMapsRow.wideKeys==(Tryz.f5.params.toList++Rows.routerMapsSpec.plain.varTypes Tryz.prog++Tryz.f5.resultTypes.toList).any (Tryz.prog.wideKeysFrom ·)))=true:=by kernel_rfl
theorem Iz:(Rows.routerMapsSpec.vars.all (Tryz.prog.varReadable ·)&&Tryz.f5.resultTypes.all (fun t=>Tryz.prog.readableRec t&&decide (t<Tryz.prog.types.size))&&(Rows.routerMapsRow.ifacesOut==Tryz.f5.resultTypes.toList.any (Tryz.prog.ifacesRec ·))&&(Rows.routerMapsRow.loopsOut==Tryz.f5.resultTypes.toList.any (Tryz.prog.loopsFrom ·))&&Rows.routerMapsRow.shortTexts.isNone)=true:=by kernel_rfl
theorem Iy:((Rows.routerMapsRow.kinds==(if Rows.routerMapsRow.domain.isEmpty then [] else Tryz.f5.params.toList.map fun t=>match Tryz.prog.underlying t with|some (.int k)=>some k|_=>none))&&(Rows.routerMapsRow.pinned==Rows.routerMapsRow.pinnedBy)&&
   (Rows.routerMapsRow.veiled==(Tryz.f5.params.toList++Rows.routerMapsSpec.plain.varTypes Tryz.prog++Tryz.f5.resultTypes.toList).any (Tryz.prog.veiledRec ·))&&Rows.routerMapsRow.veiledFits Tryz.prog Tryz.f5.params.toList (Tryz.f5.params.toList++Rows.routerMapsSpec.plain.varTypes Tryz.prog++Tryz.f5.resultTypes.toList))=true:=by kernel_rfl
theorem qj:Tryz.prog.funcNamed "manifold/manifoldlaw31.RouterMaps"=some 5:=by kernel_rfl
theorem Eh:decide (Tryz.f5.isInstance Tryz.prog Rows.routerMapsRow.origin Rows.routerMapsRow.targs)=true:=by kernel_rfl
theorem Bo:Tryz.f5.isWrapper Tryz.prog Rows.routerMapsRow.wrapper Rows.routerMapsRow.mainSum:=by unfold Func.isWrapper;rw [if_neg (by decide+kernel)];exact ⟨rfl,rfl⟩
theorem xC:joinedFacts Tryz.prog 5 Tryz.f5 Rows.routerMapsSpec Rows.routerMapsRow=true:=
 CQ Tryz.laidOut Tryz.rowed Jg Jj Jk IJ II IG IE IC IB Iz
  (by rw [Jh];rfl) (by rw [CS];rfl) Pg Iy
theorem zG:Rows.RouterMapsSaid:=
 OpenClaim.holds_of_wide 5 Tryz.f5 rfl rfl rfl rfl rfl rfl rfl ⟨rfl,rfl,rfl,rfl,rfl⟩ rfl rfl rfl rfl rfl qj Tryz.func5 xC
  (of_decide_eq_true Eh) Bo
  (fun os started H enc _=>xB os started H enc)
theorem Bq:Rows.routerMapsRow.wfByText (OpenSpec.ofChange Rows.routerMapsSpec)=true:=by kernel_rfl
theorem Bv:false=Rows.routerMapsRow.goesBy Tryz.prog:=by kernel_rfl
theorem qh:((([34,37,47]:List TypeId).all fun u=>!Tryz.prog.wantsStandIn u)=true)/\Tryz.f5.params=#[34,37,47]:=⟨by kernel_rfl,by kernel_rfl⟩
theorem routermaps_card:Rows.RouterMapsCardSaid:=
 Claim7.holds_tied_plain_at .later [] [.data,.data,.data,.data,.sentinel,.sentinel,.pinned] true (true,"791283991706b0c9890acc735dd6c97095bf7421464433e3959ce49c45baa779") true zG (fun _ h=>by cases h) Bq (fun _ h=>by cases h) routerMaps_row_tie rfl ⟨rfl,rfl⟩ Ph rfl
  (fun f fn hf hfn=>by
   obtain rfl:f=5:=Option.some.inj (qj.symm.trans hf) |>.symm;obtain rfl:fn=Tryz.f5:=(Option.some.inj (Tryz.func5.symm.trans hfn)).symm;refine ⟨Ji,fun j t ht=>?_⟩;rw [qh.2] at ht;have hm:t∈([34,37,47]:List TypeId):=by simpa using Array.mem_of_getElem? ht
   exact (show Tryz.prog.wantsStandIn t=false by simpa using qas.1 qh.1 t hm))
  Bv
end Go.Proofs.YtpcjeobkehmhpaaGreatDoor
