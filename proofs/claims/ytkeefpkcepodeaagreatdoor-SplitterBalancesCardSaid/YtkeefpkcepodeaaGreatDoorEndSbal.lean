/-.-/
import Derived.Test.YtkeefpkcepodeaaGreatDoorCards
import Derived.Test.YtkeefpkcepodeaaGreatDoorTie
import Derived.Test.YtkeefpkcepodeaaGreatDoorU48
import Derived.Test.YtkeefpkcepodeaaGreatDoorU50
set_option linter.all false
namespace Go.Proofs.YtkeefpkcepodeaaGreatDoor
open Go.ChangeShapes Go.WideShapes Go.ChangeAt Go.RowKit Go.Em
theorem qA:Tryz.f3.params.toList=[34,44]:=by kernel_rfl
theorem kR {t:TypeId}(h:t∈([34,44]:List TypeId)):t∈tys:=by
 simp only [qal,List.not_mem_nil,or_false] at h;rcases h with rfl|rfl;·decide
 decide
def zIe:Value:=.int .i64 0
def zTe:Value:=.string ⟨#[]⟩
def zSe:Value:=.slice none 0 0
def kV:Array Value:=#[.agg #[zTe,zIe,zIe,zIe,zIe,zIe,zIe,zTe,zIe,zIe,zIe,zIe,zSe,zSe,zSe,zSe,zSe,zSe,zSe,zSe],.agg #[zIe,zIe,zIe,zSe,zIe,zSe,zIe,zSe,zIe,zIe,zIe,zTe,zSe,zSe,zIe,.bool false,.bool false,zIe,zIe,zIe,zTe,zSe,zSe]]
set_option maxRecDepth 100000 in
theorem qo (os:Os)(started:os.Started)(H:Type)(enc:TypeId×Value->H):
  ReturnsInHanded {} Tryz.checked os 3 .any (fun w args=>(Rows.splitterBalancesSpec.pre enc Tryz.prog Tryz.f3 Rows.splitterBalancesRow.domain false w args/\laidMetH Tryz.prog mW w)/\sizedMet enc Tryz.prog Tryz.f3 (OpenSpec.ofChange Rows.splitterBalancesSpec) false w args)
   (Rows.splitterBalancesSpec.post enc Tryz.prog Tryz.f3 false true false false):=by
 refine returnsInHanded_of_change_and (C:=Tryz.checked) (X:=fun w _=>laidMetH Tryz.prog mW w) (fun _ _ _ N h=>h.of_heap N) Tryz.own started (by kernel_rfl) Tryz.func3
  (ChangeSpec.witness_shaped (enc:=enc) (C:=Tryz.checked) (os:=os) (X:=fun w _=>laidMetH Tryz.prog mW w) false (World.laidAll Tryz.prog os mW) kV 12 (World.laidAll_os _ _ _)
   (World.shaped_of_ZipB (by kernel_rfl) (by kernel_rfl)) (by kernel_rfl) (by kernel_rfl) (by kernel_rfl)
   (by rw [MakeChecks.laidMetH_plain _ _ _ (by kernel_rfl)];exact laidMet_laidAll _ (by kernel_rfl) (by kernel_rfl))) ?_
 intro W f args q B a m L _ _ J _;refine lZ (P:=Tryz.prog) (Γ:=callF tab ext) machine xY (tN rD) (tV rD) (fun t y=>?_) (tb:=4) rfl Iq rfl (fun q u=>?_) (fun A j l=>?_) W (Ox J) f args q B a m L;·rw [qA] at y;exact ⟨kR y,MR (kR y)⟩
 ·match q,u with
  |[_,_],_=>rfl
 match A,j with
 |[x0,x1],_=>
  obtain ⟨_,E⟩:=l 0 34 x0 rfl rfl;obtain ⟨_,F⟩:=l 1 44 x1 rfl rfl;have O:=oK E;obtain ⟨i,rfl⟩:=sD F;obtain ⟨n,M⟩:=sbal_all x0 O i;refine ⟨n,[],?_⟩;have:Dy Tryz.prog Tryz.f3.params.toList [x0,i.cells]=[.agg x0,.agg i.cells]:=by kernel_rfl
  rw [this];exact M
set_option maxRecDepth 100000
theorem wW:(Rows.splitterBalancesRow.inPlace==Tryz.prog.inPlace 3)=true:=by kernel_rfl
theorem wV:(Rows.splitterBalancesRow.unfollowed==Tryz.prog.unfollowed 3)=true:=by kernel_rfl
theorem wU:(Rows.splitterBalancesRow.recurses==Tryz.prog.recurses 3)=true:=by kernel_rfl
theorem wS:(Rows.splitterBalancesRow.named==Tryz.prog.varsNamed 3)=true:=by kernel_rfl
theorem wR:(Rows.splitterBalancesRow.wf (OpenSpec.ofChange Rows.splitterBalancesSpec)&&Tryz.f3.params.all (Tryz.prog.readableRec ·)&&namedTie Tryz.prog Rows.splitterBalancesRow.named Rows.splitterBalancesSpec.vars&&(Rows.splitterBalancesRow.stops==[])&&(Rows.splitterBalancesRow.knobs==[]))=true:=by kernel_rfl
theorem wQ:((Rows.splitterBalancesRow.maps==(Tryz.f3.params.toList++Rows.splitterBalancesSpec.plain.varTypes Tryz.prog).any (Tryz.prog.mapsRec ·))&&(Rows.splitterBalancesRow.ifaces==(Tryz.f3.params.toList++Rows.splitterBalancesSpec.plain.varTypes Tryz.prog).any (Tryz.prog.ifacesRec ·))&&(Rows.splitterBalancesRow.mapsOut==Tryz.prog.mapsAmong Tryz.f3.resultTypes.toList)&&
   (Rows.splitterBalancesRow.loops==(Tryz.f3.params.toList++Rows.splitterBalancesSpec.plain.varTypes Tryz.prog).any (Tryz.prog.loopsFrom ·))&&(Rows.splitterBalancesRow.wideKeys==(Tryz.f3.params.toList++Rows.splitterBalancesSpec.plain.varTypes Tryz.prog++Tryz.f3.resultTypes.toList).any (Tryz.prog.wideKeysFrom ·)))=true:=by kernel_rfl
theorem wP:(Rows.splitterBalancesSpec.vars.all (Tryz.prog.varReadable ·)&&Tryz.f3.resultTypes.all (fun t=>Tryz.prog.readableRec t&&decide (t<Tryz.prog.types.size))&&(Rows.splitterBalancesRow.ifacesOut==Tryz.f3.resultTypes.toList.any (Tryz.prog.ifacesRec ·))&&(Rows.splitterBalancesRow.loopsOut==Tryz.f3.resultTypes.toList.any (Tryz.prog.loopsFrom ·))&&Rows.splitterBalancesRow.shortTexts.isNone)=true:=by kernel_rfl
theorem wO:((Rows.splitterBalancesRow.kinds==(if Rows.splitterBalancesRow.domain.isEmpty then [] else Tryz.f3.params.toList.map fun t=>match Tryz.prog.underlying t with|some (.int k)=>some k|_=>none))&&(Rows.splitterBalancesRow.pinned==Rows.splitterBalancesRow.pinnedBy)&&
   (Rows.splitterBalancesRow.veiled==(Tryz.f3.params.toList++Rows.splitterBalancesSpec.plain.varTypes Tryz.prog++Tryz.f3.resultTypes.toList).any (Tryz.prog.veiledRec ·))&&Rows.splitterBalancesRow.veiledFits Tryz.prog Tryz.f3.params.toList (Tryz.f3.params.toList++Rows.splitterBalancesSpec.plain.varTypes Tryz.prog++Tryz.f3.resultTypes.toList))=true:=by kernel_rfl
theorem jq:Tryz.prog.funcNamed "manifold/manifoldlaw32.SplitterBalances"=some 3:=by kernel_rfl
theorem vJ:decide (Tryz.f3.isInstance Tryz.prog Rows.splitterBalancesRow.origin Rows.splitterBalancesRow.targs)=true:=by kernel_rfl
theorem rO:Tryz.f3.isWrapper Tryz.prog Rows.splitterBalancesRow.wrapper Rows.splitterBalancesRow.mainSum:=by unfold Func.isWrapper;rw [if_neg (by decide+kernel)];exact ⟨rfl,rfl⟩
theorem qp:joinedFacts Tryz.prog 3 Tryz.f3 Rows.splitterBalancesSpec Rows.splitterBalancesRow=true:=
 tY Tryz.laidOut Tryz.rowed y7 zf zh wW wV wU wS wR wQ wP
  (by rw [y8];rfl) (by rw [tZ];rfl) FH wO
theorem qW:Rows.SplitterBalancesSaid:=
 OpenClaim.holds_of_wide 3 Tryz.f3 rfl rfl rfl rfl rfl rfl rfl ⟨rfl,rfl,rfl,rfl,rfl⟩ rfl rfl rfl rfl rfl jq Tryz.func3 qp
  (of_decide_eq_true vJ) rO
  (fun h a H f _=>qo h a H f)
theorem rP:Rows.splitterBalancesRow.wfByText (OpenSpec.ofChange Rows.splitterBalancesSpec)=true:=by kernel_rfl
theorem rQ:false=Rows.splitterBalancesRow.goesBy Tryz.prog:=by kernel_rfl
theorem jo:((([34,44]:List TypeId).all fun u=>!Tryz.prog.wantsStandIn u)=true)/\Tryz.f3.params=#[34,44]:=⟨by kernel_rfl,by kernel_rfl⟩
theorem splitterbalances_card:Rows.SplitterBalancesCardSaid:=
 Claim7.holds_tied_plain_at .later [] [.data,.data,.data,.data,.sentinel,.sentinel,.pinned] true (true,"cbfbdc4360f13d412791799acfbcc3614734168f19f275bebb885638edaa5ae9") true qW (fun _ h=>by cases h) rP (fun _ h=>by cases h) splitterBalances_row_tie rfl ⟨rfl,rfl⟩ FI rfl
  (fun f fn hf hfn=>by
   obtain rfl:f=3:=Option.some.inj (jq.symm.trans hf) |>.symm;obtain rfl:fn=Tryz.f3:=(Option.some.inj (Tryz.func3.symm.trans hfn)).symm;refine ⟨y9,fun j t ht=>?_⟩;rw [jo.2] at ht;have hm:t∈([34,44]:List TypeId):=by simpa using Array.mem_of_getElem? ht
   exact (show Tryz.prog.wantsStandIn t=false by simpa using qao.1 jo.1 t hm))
  rQ
end Go.Proofs.YtkeefpkcepodeaaGreatDoor
