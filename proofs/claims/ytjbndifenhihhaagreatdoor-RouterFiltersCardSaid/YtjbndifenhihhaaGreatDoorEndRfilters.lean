/- RouterFilters: the row, and its tied card. Conditions: none. -/
import Derived.Test.YtjbndifenhihhaaGreatDoorCards
import Derived.Test.YtjbndifenhihhaaGreatDoorTie
import Derived.OpenShut
import Derived.SevenTiedAt
import Derived.Stop.Joined
import Derived.Test.YtjbndifenhihhaaGreatDoorP17
import Derived.Test.YtjbndifenhihhaaGreatDoorP33
import Derived.Test.YtjbndifenhihhaaGreatDoorP35
namespace Go.Proofs.YtjbndifenhihhaaGreatDoor
open Go.ChangeShapes Go.WideShapes Go.ChangeAt Go.RowKit Go.Em
theorem qA:Tryz.f5.params.toList=[34,37,47]:=by kernel_rfl
theorem mF {t:TypeId}(h:t∈([34,37,47]:List TypeId)):t∈tys:=by
 simp only [List.mem_cons,List.not_mem_nil,or_false] at h
 rcases h with rfl|rfl|rfl
 ·decide
 ·decide
 ·decide
def zI:Value:=.int .i64 0
def zT:Value:=.string ⟨#[]⟩
def zS:Value:=.slice none 0 0
def DR:Array Value:=#[.agg #[zT,zI,zI,zI,zI,zI,zI,zT,zI,zI,zI,zI,zS,zS,zS,zS,zS,zS,zS,zS],.agg #[zI,zI,zS],.agg #[zI,zI,zI,zS,zI,zS,zI,zS,zI,zI,zI,zT,zS,zS,zI,.bool false,.bool false,zI,zI,zI,zT,zS,zS]]
set_option maxRecDepth 100000 in
theorem qp (os:Os)(started:os.Started)(H:Type)(enc:TypeId×Value→H):
  ReturnsInHanded {} Tryz.checked os 5 .any (fun w args=>(Rows.routerFiltersSpec.pre enc Tryz.prog Tryz.f5 Rows.routerFiltersRow.domain false w args∧laidMetH Tryz.prog Ba w)∧sizedMet enc Tryz.prog Tryz.f5 (OpenSpec.ofChange Rows.routerFiltersSpec) false w args)
   (Rows.routerFiltersSpec.post enc Tryz.prog Tryz.f5 false true false false):=by
 refine returnsInHanded_of_change_and (C:=Tryz.checked) (X:=fun w _=>laidMetH Tryz.prog Ba w) (fun _ _ _ hh h=>h.of_heap hh) Tryz.own started (by kernel_rfl) Tryz.func5
  (ChangeSpec.witness_shaped (enc:=enc) (C:=Tryz.checked) (os:=os) (X:=fun w _=>laidMetH Tryz.prog Ba w) false (World.laidAll Tryz.prog os Ba) DR 12 (World.laidAll_os _ _ _)
   (World.shaped_of_ZipB (by kernel_rfl) (by kernel_rfl)) (by kernel_rfl) (by kernel_rfl) (by kernel_rfl)
   (by rw [MakeChecks.laidMetH_plain _ _ _ (by kernel_rfl)];exact laidMet_laidAll _ (by kernel_rfl) (by kernel_rfl))) ?_
 intro W base args ds gs before hval hW _ _ hL _
 refine zu (P:=Tryz.prog) (Γ:=callF tab ext) machine Nq (Iu Gu) (Iw Gu) (fun t ht=>?_) (tb:=4) rfl TB rfl (fun ds hds=>?_) (fun xss hlen hsh=>?_) W (zbr hL) base args ds gs before hval hW
 ·rw [qA] at ht
  exact ⟨mF ht,za6 (mF ht)⟩
 ·match ds,hds with
  |[_,_,_],_=>rfl
 ·match xss,hlen with
  |[x0,x1,x2],_=>
   obtain ⟨_,h0⟩:=hsh 0 34 x0 rfl rfl
   obtain ⟨_,h1⟩:=hsh 1 37 x1 rfl rfl
   obtain ⟨_,h2⟩:=hsh 2 47 x2 rfl rfl
   have hn:=BQ h0
   obtain ⟨s,rfl⟩:=GX h1
   obtain ⟨i,rfl⟩:=G6 h2
   obtain ⟨n,hc⟩:=Hq x0 hn s i
   refine ⟨n,[],?_⟩
   have:AL Tryz.prog Tryz.f5.params.toList [x0,s.cells,i.cells]=[.agg x0,.agg s.cells,.agg i.cells]:=by
    kernel_rfl
   rw [this]
   exact hc
set_option maxRecDepth 100000
theorem xu:(Rows.routerFiltersRow.inPlace==Tryz.prog.inPlace 5)=true:=by kernel_rfl
theorem xq:(Rows.routerFiltersRow.unfollowed==Tryz.prog.unfollowed 5)=true:=by kernel_rfl
theorem xg:(Rows.routerFiltersRow.recurses==Tryz.prog.recurses 5)=true:=by kernel_rfl
theorem wZ:(Rows.routerFiltersRow.named==Tryz.prog.varsNamed 5)=true:=by kernel_rfl
theorem wY:(Rows.routerFiltersRow.wf (OpenSpec.ofChange Rows.routerFiltersSpec)&&Tryz.f5.params.all (Tryz.prog.readableRec ·)&&namedTie Tryz.prog Rows.routerFiltersRow.named Rows.routerFiltersSpec.vars&&(Rows.routerFiltersRow.stops==[])&&(Rows.routerFiltersRow.knobs==[]))=true:=by kernel_rfl
theorem wX:((Rows.routerFiltersRow.maps==(Tryz.f5.params.toList++Rows.routerFiltersSpec.plain.varTypes Tryz.prog).any (Tryz.prog.mapsRec ·))&&(Rows.routerFiltersRow.ifaces==(Tryz.f5.params.toList++Rows.routerFiltersSpec.plain.varTypes Tryz.prog).any (Tryz.prog.ifacesRec ·))&&(Rows.routerFiltersRow.mapsOut==Tryz.prog.mapsAmong Tryz.f5.resultTypes.toList)&&
   (Rows.routerFiltersRow.loops==(Tryz.f5.params.toList++Rows.routerFiltersSpec.plain.varTypes Tryz.prog).any (Tryz.prog.loopsFrom ·))&&(Rows.routerFiltersRow.wideKeys==(Tryz.f5.params.toList++Rows.routerFiltersSpec.plain.varTypes Tryz.prog++Tryz.f5.resultTypes.toList).any (Tryz.prog.wideKeysFrom ·)))=true:=by kernel_rfl
theorem wW:(Rows.routerFiltersSpec.vars.all (Tryz.prog.varReadable ·)&&Tryz.f5.resultTypes.all (fun t=>Tryz.prog.readableRec t&&decide (t<Tryz.prog.types.size))&&(Rows.routerFiltersRow.ifacesOut==Tryz.f5.resultTypes.toList.any (Tryz.prog.ifacesRec ·))&&(Rows.routerFiltersRow.loopsOut==Tryz.f5.resultTypes.toList.any (Tryz.prog.loopsFrom ·))&&Rows.routerFiltersRow.shortTexts.isNone)=true:=by kernel_rfl
theorem wV:((Rows.routerFiltersRow.kinds==(if Rows.routerFiltersRow.domain.isEmpty then [] else Tryz.f5.params.toList.map fun t=>match Tryz.prog.underlying t with|some (.int k)=>some k|_=>none))&&(Rows.routerFiltersRow.pinned==Rows.routerFiltersRow.pinnedBy)&&
   (Rows.routerFiltersRow.veiled==(Tryz.f5.params.toList++Rows.routerFiltersSpec.plain.varTypes Tryz.prog++Tryz.f5.resultTypes.toList).any (Tryz.prog.veiledRec ·))&&Rows.routerFiltersRow.veiledFits Tryz.prog Tryz.f5.params.toList (Tryz.f5.params.toList++Rows.routerFiltersSpec.plain.varTypes Tryz.prog++Tryz.f5.resultTypes.toList))=true:=by kernel_rfl
theorem jT:Tryz.prog.funcNamed "manifold/manifoldlaw31.RouterFilters"=some 5:=by kernel_rfl
theorem uQ:decide (Tryz.f5.isInstance Tryz.prog Rows.routerFiltersRow.origin Rows.routerFiltersRow.targs)=true:=by kernel_rfl
theorem rZ:Tryz.f5.isWrapper Tryz.prog Rows.routerFiltersRow.wrapper Rows.routerFiltersRow.mainSum:=by unfold Func.isWrapper;rw [if_neg (by decide+kernel)];exact ⟨rfl,rfl⟩
theorem qw:joinedFacts Tryz.prog 5 Tryz.f5 Rows.routerFiltersSpec Rows.routerFiltersRow=true:=
 Iz Tryz.laidOut Tryz.rowed Oq Ov Ox xu xq xg wZ wY wX wW
  (by rw [Ot];rfl) (by rw [IB];rfl) Vx wV
theorem qR:Rows.RouterFiltersSaid:=
 OpenClaim.holds_of_wide 5 Tryz.f5 rfl rfl rfl rfl rfl rfl rfl ⟨rfl,rfl,rfl,rfl,rfl⟩ rfl rfl rfl rfl rfl jT Tryz.func5 qw
  (of_decide_eq_true uQ) rZ
  (fun os started H enc _=>qp os started H enc)
theorem su:Rows.routerFiltersRow.wfByText (OpenSpec.ofChange Rows.routerFiltersSpec)=true:=by kernel_rfl
theorem sD:false=Rows.routerFiltersRow.goesBy Tryz.prog:=by kernel_rfl
theorem jS:((([34,37,47]:List TypeId).all fun u=>!Tryz.prog.wantsStandIn u)=true)∧Tryz.f5.params=#[34,37,47]:=⟨by kernel_rfl,by kernel_rfl⟩
theorem routerfilters_card:Rows.RouterFiltersCardSaid:=
 Claim7.holds_tied_plain_at .later [] [.data,.data,.data,.data,.sentinel,.sentinel,.pinned] true (true,"d55d1976533ba272207557dd33c6f4875155e8b8270e105401bbeec58c252d02") true qR (fun _ h=>by cases h) su (fun _ h=>by cases h) routerFilters_row_tie rfl ⟨rfl,rfl⟩ Vy rfl
  (fun f fn hf hfn=>by
   obtain rfl:f=5:=Option.some.inj (jT.symm.trans hf) |>.symm
   obtain rfl:fn=Tryz.f5:=(Option.some.inj (Tryz.func5.symm.trans hfn)).symm
   refine ⟨Ou,fun j t ht=>?_⟩
   rw [jS.2] at ht
   have hm:t∈([34,37,47]:List TypeId):=by simpa using Array.mem_of_getElem? ht
   exact (show Tryz.prog.wantsStandIn t=false by simpa using List.all_eq_true.1 jS.1 t hm))
  sD
end Go.Proofs.YtjbndifenhihhaaGreatDoor
