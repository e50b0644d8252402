/- 32.SplitterNumbers: a list of numbers is divided into one part for each. -/
import Derived.Shelf.LaysC
import Derived.Shelf.LaysM
import Derived.Shelf.Lays
import Derived.Shelf.Strconv.Itoa1
import Derived.Shelf.Strconv.Itoa2
import Derived.Lib.Walk
import Derived.Lib.ItoaMem
import Derived.WalkKit
import Derived.BigCall
import Derived.BigGuard
import Derived.Test.YtookihfheacdfaaGreatDoorR10
import Derived.Test.YtookihfheacdfaaGreatDoorR11
import Derived.Test.YtookihfheacdfaaGreatDoorR12
namespace Go.Proofs.YtookihfheacdfaaGreatDoor
open Go.Em
set_option maxRecDepth 100000
def tyB:ByteArray:=txN [116,121,112,101]
open Classical in
noncomputable def rsn (xs:List Int):ByteArray:=if ∃x,x∈xs∧Misf x then tyB else ⟨#[]⟩
theorem rsn_bad {xs:List Int}{j:Nat}(h:j<xs.length)(hm:Misf xs[j]):rsn (xs.take (j+1))=tyB:=by
 unfold rsn
 rw [if_pos ⟨xs[j],by rw [List.mem_take_iff_getElem];exact ⟨j,by omega,rfl⟩,hm⟩]
theorem rsn_good {xs:List Int}{j:Nat}(h:j<xs.length)(hm:¬Misf xs[j]):rsn (xs.take (j+1))=rsn (xs.take j):=by
 have e:xs.take (j+1)=xs.take j++[xs[j]]:=(take_succ_get (by simp [h])).symm
 unfold rsn
 rw [e]
 congr 1
 simp only [List.mem_append,List.mem_singleton,eq_iff_iff]
 constructor
 ·rintro ⟨x,hx|rfl,h2⟩
  ·exact ⟨x,hx,h2⟩
  ·exact absurd h2 hm
 ·rintro ⟨x,hx,h2⟩
  exact ⟨x,.inl hx,h2⟩
theorem rowsI_take {xs:List Int}{j:Nat}(h:j<xs.length):rowsI (xs.take (j+1))=rowsI (xs.take j)++[(iV (xs[j])).cells]:=by
 have e:∀l:List Val,cellsL l=l.map Val.cells:=by
  intro l
  induction l with
  |nil=>rfl
  |cons a r ih=>simp [cellsL,ih]
 unfold rowsI
 rw [e,e]
 simp only [List.map_map,List.map_take]
 exact (take_succ_get (by simp [h])).symm
section
variable (l rows:List (List X)) (r:ByteArray) (j:Nat) (x:Int) {N:Nat}
def nmH:St:=⟨[(0,.sl false 1 l),(3,.bs 0 0 j),(4,strX r),(5,nat j)],[.row 6 rows]⟩
def nmV:St:=⟨[(0,.sl false 1 l),(3,.bs 1 0 (j+1)),(4,strX r),(5,nat (j+1))],[.dead,.row 6 rows]⟩
def nmE:St:=⟨[(0,.sl false 1 l),(3,.bs 0 0 j),(4,strX r),(5,nat j),(21,boolX false)],[.row 6 rows]⟩
theorem nm_canon:canon 0 (nmH l rows r j)=some (nmH l rows r j):=by kernel_rfl
theorem nm_canonV:canon 0 (nmV l rows r j)=some (nmH l rows r (j+1)):=by kernel_rfl
variable (hlt:decide (Int.ofNat j<Int.ofNat l.length)=true) (he:l[j]?=some [num x]) (ho:j=rows.length) (hj:j<4000)
include hlt he ho hj
theorem nm_bad (hm:Misf x):run (callF tab ext (N+10)) 0 (N+10) (loopAt 3 0) (nmH l rows r j)=some (.norm,nmV l (rows++[(iV x).cells]) tyB j):=by
 by_cases h0:x<0
 ·exact run_of [(21,.b true),(27,.e [num x]),(31,.app),(34,.e [num x]),(36,.b true),(23,.i (Int.ofNat (j+1)))] [] (pf6 hlt he (app_ok j 0 88 ho (by omega) (by omega)) he (decide_eq_true h0) (next_nat (j:=j) (by omega))) (lo':=[]) (by kernel_rfl)
 ·have h9:9<x:=by rcases hm with h|h<;>omega
  exact run_of [(21,.b true),(27,.e [num x]),(31,.app),(34,.e [num x]),(36,.b false),(40,.e [num x]),(42,.b true),(23,.i (Int.ofNat (j+1)))] [] (pf8 hlt he (app_ok j 0 88 ho (by omega) (by omega)) he (decide_eq_false h0) he (decide_eq_true h9) (next_nat (j:=j) (by omega))) (lo':=[]) (by kernel_rfl)
theorem nm_good (hm:¬Misf x):run (callF tab ext (N+10)) 0 (N+10) (loopAt 3 0) (nmH l rows r j)=some (.norm,nmV l (rows++[(iV x).cells]) r j):=by
 have h0:¬x<0:=fun h=>hm (.inl h)
 have h9:¬9<x:=fun h=>hm (.inr h)
 exact run_of [(21,.b true),(27,.e [num x]),(31,.app),(34,.e [num x]),(36,.b false),(40,.e [num x]),(42,.b false),(23,.i (Int.ofNat (j+1)))] [] (pf8 hlt he (app_ok j 0 88 ho (by omega) (by omega)) he (decide_eq_false h0) he (decide_eq_false h9) (next_nat (j:=j) (by omega))) (lo':=[]) (by kernel_rfl)
omit hlt he ho hj in
theorem nm_end (hn:j=l.length):run (callF tab ext N) 0 N (loopAt 3 0) (nmH l rows r j)=some (.exit 0,nmE l rows r j):=
 run_of [(21,.b false)] [] (pf1 (nlt_nat (j:=j) (k:=l.length) (by omega))) (lo':=[]) (by kernel_rfl)
end
theorem nm_loop (xs:List Int)(hx:xs.length≤200)(N:Nat)(hN:300≤N):run (callF tab ext N) 0 N (.loop (loopAt 3 0)) (nmH (intsC xs) [] ⟨#[]⟩ 0)=some (.exit 0,nmE (intsC xs) (rowsI xs) (rsn xs) xs.length):=by
 obtain ⟨M,rfl⟩:∃M,N=M+10:=⟨N-10,by omega⟩
 have hl:=intsC_length xs
 have hr0:rsn (xs.take 0)=⟨#[]⟩:=by unfold rsn;rw [if_neg];rintro ⟨x,hx,_⟩;simp at hx
 refine loop_for (σ:=fun j=>nmH (intsC xs) (rowsI (xs.take j)) (rsn (xs.take j)) j) (k:=xs.length) (by rw [hr0];exact nm_canon _ [] _ 0) (fun j hj=>?_) ?_ (by simp) (by omega)
 ·have hg:=intsC_get hj
  have ho:=rowsI_take hj
  have hlen:j=(rowsI (xs.take j)).length:=by rw [rowsI_length];simp;omega
  by_cases hm:Misf xs[j]
  ·refine ⟨_,nm_bad _ _ _ j xs[j] (lt_nat (by omega)) hg hlen (by omega) hm,?_⟩
   rw [rsn_bad hj hm,ho];exact nm_canonV _ _ _ j
  ·refine ⟨_,nm_good _ _ _ j xs[j] (lt_nat (by omega)) hg hlen (by omega) hm,?_⟩
   rw [rsn_good hj hm,ho];exact nm_canonV _ _ _ j
 ·rw [List.take_length]
  exact nm_end _ _ _ _ hl.symm
section
variable (l R:List (List X)) (j:Nat) (x:Int) {N:Nat}
def nkH:St:=⟨[(0,.sl false 1 l),(8,.sl false 6 R),(10,nat j)],[]⟩
def nkV:St:=⟨[(0,.sl false 1 l),(8,.sl false 6 R),(10,nat (j+1))],[.var (iV x).cells]⟩
theorem nk_canonV:canon 0 (nkV l R j x)=some (nkH l R (j+1)):=by kernel_rfl
theorem nk_step (hlt:decide (Int.ofNat j<Int.ofNat R.length)=true)(he:R[j]?=some (rV x).cells)(he2:l[j]?=some [num x])(hj:j<4000):
  run (callF tab ext (N+40)) 0 (N+40) (loopAt 3 1) (nkH l R j)=some (.norm,nkV l R j x):=
 run_of [(86,.b true),(92,.e (rV x).cells),(104,.e [num x]),(106,.b false),(88,.i (Int.ofNat (j+1)))] [] (pf5 hlt he he2 (show (x !=x)=false by simp) (next_nat (j:=j) (by omega))) (lo':=[]) (by kernel_rfl)
theorem nk_end (hn:j=R.length):run (callF tab ext N) 0 N (loopAt 3 1) (nkH l R j)=some (.exit 2,⟨[(0,.sl false 1 l),(8,.sl false 6 R),(10,nat j),(86,boolX false)],[]⟩):=
 run_of [(86,.b false)] [] (pf1 (nlt_nat (j:=j) (k:=R.length) (by omega))) (lo':=[]) (by kernel_rfl)
end
def nkS (l R:List (List X))(bc:List X):St:=⟨[(0,.sl false 1 l),(8,.sl false 6 R),(10,num 0)],[.dead,.var nodeN,.var bc]⟩
theorem nk_loop (xs:List Int)(hx:xs.length≤200)(N:Nat)(hN:300≤N)(bc:List X):run (callF tab ext N) 0 N (.loop (loopAt 3 1)) (nkS (intsC xs) (rowsR xs) bc)=some (.exit 2,⟨[(0,.sl false 1 (intsC xs)),(8,.sl false 6 (rowsR xs)),(10,nat xs.length),(86,boolX false)],[]⟩):=by
 obtain ⟨M,rfl⟩:∃M,N=M+40:=⟨N-40,by omega⟩
 have hl:=intsC_length xs
 have hR:=rowsR_length xs
 refine loop_for (σ:=fun j=>nkH (intsC xs) (rowsR xs) j) (k:=xs.length) (by kernel_rfl) (fun j hj=>?_) (nk_end _ _ _ hR.symm) (by simp) (by omega)
 have he:(rowsR xs)[j]?=some (rV xs[j]).cells:=by unfold rowsR;rw [cellsL_get (by simpa using hj)];simp
 exact ⟨_,nk_step _ _ j xs[j] (lt_nat (by omega)) he (intsC_get hj) (by omega),nk_canonV ..⟩
theorem min_70 (xs:List Int):(if false=true then if (70:Int)>Int.ofNat (intsC xs).length then 70 else Int.ofNat (intsC xs).length else if (70:Int)<Int.ofNat (intsC xs).length then 70 else Int.ofNat (intsC xs).length)=Int.ofNat (min (intsC xs).length 70):=by
 simp only [Bool.false_eq_true,if_false,Int.ofNat_eq_natCast]
 split<;>omega
theorem first_bad {xs:List Int}(h:∃x,x∈xs∧Misf x):∃(k:Nat) (hk:k<xs.length),(∀j (h:j<k),¬Misf (xs[j]'(by omega)))∧Misf xs[k]:=by
 induction xs with
 |nil=>obtain ⟨x,hx,_⟩:=h;simp at hx
 |cons a r ih=>
  by_cases ha:Misf a
  ·exact ⟨0,by simp,fun j h=>by omega,ha⟩
  ·obtain ⟨x,hx,hm⟩:=h
   have hx':x∈r:=by
    rcases List.mem_cons.1 hx with rfl|h
    ·exact absurd hm ha
    ·exact h
   obtain ⟨k,hk,h1,h2⟩:=ih ⟨x,hx',hm⟩
   refine ⟨k+1,by simpa using hk,fun j hj=>?_,h2⟩
   match j with
   |0=>exact ha
   |j+1=>exact h1 j (by omega)
theorem take_intsC (xs:List Int)(k:Nat):(intsC xs).take k=intsC (xs.take k):=by
 unfold intsC;simp [List.map_take]
theorem known32_2000:Gam.pureD (callF tab ext 2000) 8 []=some (boolX true):=known32_at 1600
theorem snumbers_all (zs:List Int):callF tab ext 2001 (.fn 3) [.sl false 1 (intsC zs)] []=some (.v (.bool true),[]):=by
 have hk:=min_70 zs
 have hzl:=intsC_length zs
 have hcut:0≤(Int.ofNat (min (intsC zs).length 70)).toNat∧(Int.ofNat (min (intsC zs).length 70)).toNat≤(intsC zs).length:=by
  constructor<;>simp only [Int.ofNat_eq_natCast,Int.toNat_natCast]<;>omega
 obtain ⟨xs,hxs,hx⟩:∃xs:List Int,(intsC zs).take (min (intsC zs).length 70)=intsC xs∧xs.length≤70:=⟨zs.take (min (intsC zs).length 70),take_intsC _ _,by simp;omega⟩
 have hL:=intsC_length xs
 have hl:=nm_loop xs (by omega) 2000 (by omega)
 have hgh:0+xs.length≤(rowsI xs).length:=by rw [rowsI_length];omega
 have hex:Gam.pureD (callF tab ext 2000) 6 [.sl false 6 ((rowsI xs).take xs.length)]=some (.tup [.agg nodeN,.agg (bV xs).cells]):=by
  rw [List.take_of_length_le (by rw [rowsI_length];omega)];exact example_pure (N:=1999) (by omega) (by omega)
 rw [←hxs] at hl hL
 generalize min (intsC zs).length 70=k at hk hcut hxs hl hL
 by_cases h0:xs=[]
 ·subst h0
  have hb:=bodies_none (N:=1999) (by omega)
  have hr:rsn []=⟨#[]⟩:=by unfold rsn;rw [if_neg];rintro ⟨x,hx,_⟩;simp at hx
  rw [hr] at hl
  have e0:(Int.ofNat ((intsC zs).take k).length==0)=true:=by rw [hL];rfl
  have e1:decide (Int.ofNat ((intsC zs).take k).length>64)=false:=by rw [hL];rfl
  exact callF_of [(16,.i (Int.ofNat k)),(17,.cut),(46,.b true),(49,.b false),(52,.p (.tup [.agg nodeN,.agg (bV []).cells])),(58,.p (.tup [.sl false 6 [],strX (txN [101,109,112,116,121])])),(61,.p (boolX true)),(72,.p (boolX true))] [(.exit 0,nmE ((intsC zs).take k) (rowsI []) ⟨#[]⟩ 0)]
   (pf10 hk hcut hl e0 e1 hgh hex hb known32_2000 known32_2000) (by kernel_rfl)
 have hp:0<xs.length:=List.length_pos_iff.2 h0
 have e0:(Int.ofNat ((intsC zs).take k).length==0)=false:=by rw [hL];simp;first|exact h0|omega
 by_cases h64:64<xs.length
 ·have hb:=bodies_many (xs:=xs) (by omega) (N:=1999) (by omega) h64
  have e1:decide (Int.ofNat ((intsC zs).take k).length>64)=true:=by rw [hL];simp;omega
  generalize rsn xs=r at hl
  generalize rowsI xs=rows at hl hgh hex
  generalize xs.length=n at hl hgh hex
  exact callF_of [(16,.i (Int.ofNat k)),(17,.cut),(46,.b false),(49,.b true),(52,.p (.tup [.agg nodeN,.agg (bV xs).cells])),(58,.p (.tup [.sl false 6 [],strX (txN [112,97,114,116,115])])),(61,.p (boolX true)),(72,.p (boolX true))] [(.exit 0,nmE ((intsC zs).take k) rows r n)]
   (pf10 hk hcut hl e0 e1 hgh hex hb known32_2000 known32_2000) (by kernel_rfl)
 have e1:decide (Int.ofNat ((intsC zs).take k).length>64)=false:=by rw [hL];simp;omega
 by_cases hm:∃x,x∈xs∧Misf x
 ·obtain ⟨j,hj,h1,h2⟩:=first_bad hm
  have hb:=bodies_bad (xs:=xs) (by omega) (N:=1999) (by omega) (by omega) hj h1 h2
  have hr:rsn xs=tyB:=by unfold rsn;rw [if_pos hm]
  rw [hr] at hl
  generalize rowsI xs=rows at hl hgh hex
  generalize xs.length=n at hl hgh hex
  exact callF_of [(16,.i (Int.ofNat k)),(17,.cut),(46,.b false),(49,.b false),(52,.p (.tup [.agg nodeN,.agg (bV xs).cells])),(58,.p (.tup [.sl false 6 [],strX (txN [116,121,112,101])])),(61,.p (boolX true)),(72,.p (boolX true))] [(.exit 0,nmE ((intsC zs).take k) rows tyB n)]
   (pf10 hk hcut hl e0 e1 hgh hex hb known32_2000 known32_2000) (by kernel_rfl)
 ·have hb:=bodies_good (xs:=xs) (by omega) (N:=1999) (by omega) h0 (by omega) (fun x h1 h2=>hm ⟨x,h1,h2⟩)
  have hr:rsn xs=⟨#[]⟩:=by unfold rsn;rw [if_neg hm]
  rw [hr] at hl
  have hc:=nk_loop xs (by omega) 2000 (by omega) (bV xs).cells
  rw [←hxs] at hc
  have e2:(Int.ofNat (rowsR xs).length==Int.ofNat ((intsC zs).take k).length)=true:=by rw [hL,rowsR_length];simp
  generalize rowsR xs=R at hb hc e2
  generalize rowsI xs=rows at hl hgh hex
  generalize xs.length=n at hl hgh hex hc
  exact callF_of [(16,.i (Int.ofNat k)),(17,.cut),(46,.b false),(49,.b false),(52,.p (.tup [.agg nodeN,.agg (bV xs).cells])),(58,.p (.tup [.sl false 6 R,strX (txN [])])),(61,.p (boolX true)),(112,.b true)] [(.exit 0,nmE ((intsC zs).take k) rows ⟨#[]⟩ n),(.exit 2,⟨[(0,.sl false 1 ((intsC zs).take k)),(8,.sl false 6 R),(10,nat n),(86,boolX false)],[]⟩)]
   (pf11 hk hcut hl e0 e1 hgh hex hb known32_2000 hc e2) (by kernel_rfl)
end Go.Proofs.YtookihfheacdfaaGreatDoor
namespace Go.Proofs
open Go.Shelf
def Tryz.laysItoa_ren:Go.Shelf.Ren:=⟨fun|171=>40|243=>73|246=>141|283=>186|284=>187|285=>188|286=>189|129=>99|317=>233|318=>234|319=>235|320=>236|337=>263|338=>264|n=>n,fun|3=>3|9=>9|2=>2|4=>4|171=>257|0=>0|53=>179|37=>230|5=>5|173=>259|212=>297|51=>177|20=>20|213=>298|46=>128|232=>342|233=>343|n=>n,fun|17=>3|18=>6|19=>7|n=>n⟩
theorem Tryz.laysItoa:Go.Proofs.LaysM.n171 Tryz.prog Tryz.laysItoa_ren:={
 mixed:=by kernel_rfl
 f129:=Tryz.func99.trans (congrArg some (by kernel_rfl))
 f171:=Tryz.func40.trans (congrArg some (by kernel_rfl))
 f243:=Tryz.func73.trans (congrArg some (by kernel_rfl))
 f246:=Tryz.func141.trans (congrArg some (by kernel_rfl))
 f283:=Tryz.func186.trans (congrArg some (by kernel_rfl))
 f284:=Tryz.func187.trans (congrArg some (by kernel_rfl))
 f285:=Tryz.func188.trans (congrArg some (by kernel_rfl))
 f286:=Tryz.func189.trans (congrArg some (by kernel_rfl))
 f317:=Tryz.func233.trans (congrArg some (by kernel_rfl))
 f318:=Tryz.func234.trans (congrArg some (by kernel_rfl))
 f319:=Tryz.func235.trans (congrArg some (by kernel_rfl))
 f320:=Tryz.func236.trans (congrArg some (by kernel_rfl))
 f337:=Tryz.func263.trans (congrArg some (by kernel_rfl))
 f338:=Tryz.func264.trans (congrArg some (by kernel_rfl))
 t0:=Tryz.underlying0
 a0:=Tryz.isAgg0
 z0:=Tryz.sizeOf0
 v0:=Tryz.zeroValue0
 t2:=Tryz.underlying2
 a2:=Tryz.isAgg2
 z2:=Tryz.sizeOf2
 v2:=Tryz.zeroValue2
 t3:=Tryz.underlying3
 a3:=Tryz.isAgg3
 z3:=Tryz.sizeOf3
 v3:=Tryz.zeroValue3
 t4:=Tryz.underlying4
 a4:=Tryz.isAgg4
 z4:=Tryz.sizeOf4
 v4:=Tryz.zeroValue4
 t5:=Tryz.underlying5
 a5:=Tryz.isAgg5
 z5:=Tryz.sizeOf5
 v5:=Tryz.zeroValue5
 t9:=Tryz.underlying9
 a9:=Tryz.isAgg9
 z9:=Tryz.sizeOf9
 v9:=Tryz.zeroValue9
 t20:=Tryz.underlying20
 a20:=Tryz.isAgg20
 z20:=Tryz.sizeOf20
 v20:=Tryz.zeroValue20
 t37:=Tryz.underlying230
 a37:=Tryz.isAgg230
 z37:=Tryz.sizeOf230
 v37:=Tryz.zeroValue230
 t46:=Tryz.underlying128
 a46:=Tryz.isAgg128
 z46:=Tryz.sizeOf128
 v46:=Tryz.zeroValue128
 t51:=Tryz.underlying177
 a51:=Tryz.isAgg177
 z51:=Tryz.sizeOf177
 v51:=Tryz.zeroValue177
 t53:=Tryz.underlying179
 a53:=Tryz.isAgg179
 z53:=Tryz.sizeOf179
 v53:=Tryz.zeroValue179
 t171:=Tryz.underlying257
 a171:=Tryz.isAgg257
 z171:=Tryz.sizeOf257
 v171:=Tryz.zeroValue257
 t173:=Tryz.underlying259
 a173:=Tryz.isAgg259
 z173:=Tryz.sizeOf259
 v173:=Tryz.zeroValue259
 t212:=Tryz.underlying297
 a212:=Tryz.isAgg297
 z212:=Tryz.sizeOf297
 v212:=Tryz.zeroValue297
 t213:=Tryz.underlying298
 a213:=Tryz.isAgg298
 z213:=Tryz.sizeOf298
 t232:=Tryz.underlying342
 a232:=Tryz.isAgg342
 z232:=Tryz.sizeOf342
 v232:=Tryz.zeroValue342
 t233:=Tryz.underlying343
 a233:=Tryz.isAgg343
 z233:=Tryz.sizeOf343
 v233:=Tryz.zeroValue343
 g17:=by kernel_rfl
 g18:=by kernel_rfl
 g19:=by kernel_rfl
 i0:=by kernel_rfl
 i2:=by kernel_rfl
 i3:=by kernel_rfl
 i4:=by kernel_rfl
 i5:=by kernel_rfl
 i9:=by kernel_rfl
 i20:=by kernel_rfl
 i37:=by kernel_rfl
 i46:=by kernel_rfl
 i51:=by kernel_rfl
 i53:=by kernel_rfl
 i171:=by kernel_rfl
 i173:=by kernel_rfl
 i212:=by kernel_rfl
 i232:=by kernel_rfl
 i233:=by kernel_rfl
 m17:=by kernel_rfl
 m18:=by kernel_rfl
 m19:=by kernel_rfl}
def Tryz.laysDec_ren:Go.Shelf.Ren:=⟨fun|197=>271|260=>280|n=>n,fun|9=>9|21=>21|3=>3|4=>4|5=>5|105=>333|119=>253|0=>0|46=>128|139=>256|138=>255|n=>n,fun|3=>1|4=>2|n=>n⟩
theorem Tryz.laysDec:Go.Proofs.Lays.n197 Tryz.prog Tryz.laysDec_ren:={
 mixed:=by kernel_rfl
 f197:=Tryz.func271.trans (congrArg some (by kernel_rfl))
 f260:=Tryz.func280.trans (congrArg some (by kernel_rfl))
 t0:=Tryz.underlying0
 a0:=Tryz.isAgg0
 z0:=Tryz.sizeOf0
 v0:=Tryz.zeroValue0
 t3:=Tryz.underlying3
 a3:=Tryz.isAgg3
 z3:=Tryz.sizeOf3
 v3:=Tryz.zeroValue3
 t4:=Tryz.underlying4
 a4:=Tryz.isAgg4
 z4:=Tryz.sizeOf4
 v4:=Tryz.zeroValue4
 t5:=Tryz.underlying5
 a5:=Tryz.isAgg5
 z5:=Tryz.sizeOf5
 v5:=Tryz.zeroValue5
 t9:=Tryz.underlying9
 a9:=Tryz.isAgg9
 z9:=Tryz.sizeOf9
 v9:=Tryz.zeroValue9
 t21:=Tryz.underlying21
 a21:=Tryz.isAgg21
 z21:=Tryz.sizeOf21
 v21:=Tryz.zeroValue21
 t46:=Tryz.underlying128
 a46:=Tryz.isAgg128
 z46:=Tryz.sizeOf128
 v46:=Tryz.zeroValue128
 t105:=Tryz.underlying333
 a105:=Tryz.isAgg333
 z105:=Tryz.sizeOf333
 v105:=Tryz.zeroValue333
 t119:=Tryz.underlying253
 a119:=Tryz.isAgg253
 z119:=Tryz.sizeOf253
 t138:=Tryz.underlying255
 a138:=Tryz.isAgg255
 z138:=Tryz.sizeOf255
 v138:=Tryz.zeroValue255
 t139:=Tryz.underlying256
 a139:=Tryz.isAgg256
 z139:=Tryz.sizeOf256
 v139:=Tryz.zeroValue256
 g3:=by kernel_rfl
 g4:=by kernel_rfl}
def Tryz.laysRep_ren:Go.Shelf.Ren:=⟨fun|105=>275|212=>283|99=>103|165=>284|166=>285|170=>286|169=>253|263=>290|264=>291|206=>154|240=>272|241=>292|276=>281|277=>294|n=>n,fun|9=>9|3=>3|4=>4|20=>20|0=>0|46=>128|109=>348|5=>5|72=>315|76=>186|51=>177|146=>325|53=>179|148=>354|70=>313|37=>230|75=>185|127=>328|164=>346|80=>231|n=>n,fun|n=>n⟩
theorem Tryz.laysRep:Go.Proofs.Lays.n105 Tryz.prog Tryz.laysRep_ren:={
 mixed:=by kernel_rfl
 f99:=Tryz.func103.trans (congrArg some (by kernel_rfl))
 f105:=Tryz.func275.trans (congrArg some (by kernel_rfl))
 f165:=Tryz.func284.trans (congrArg some (by kernel_rfl))
 f166:=Tryz.func285.trans (congrArg some (by kernel_rfl))
 f169:=Tryz.func253.trans (congrArg some (by kernel_rfl))
 f170:=Tryz.func286.trans (congrArg some (by kernel_rfl))
 f206:=Tryz.func154.trans (congrArg some (by kernel_rfl))
 f212:=Tryz.func283.trans (congrArg some (by kernel_rfl))
 f240:=Tryz.func272.trans (congrArg some (by kernel_rfl))
 f241:=Tryz.func292.trans (congrArg some (by kernel_rfl))
 f263:=Tryz.func290.trans (congrArg some (by kernel_rfl))
 f264:=Tryz.func291.trans (congrArg some (by kernel_rfl))
 f276:=Tryz.func281.trans (congrArg some (by kernel_rfl))
 f277:=Tryz.func294.trans (congrArg some (by kernel_rfl))
 t0:=Tryz.underlying0
 a0:=Tryz.isAgg0
 z0:=Tryz.sizeOf0
 v0:=Tryz.zeroValue0
 t3:=Tryz.underlying3
 a3:=Tryz.isAgg3
 z3:=Tryz.sizeOf3
 v3:=Tryz.zeroValue3
 t4:=Tryz.underlying4
 a4:=Tryz.isAgg4
 z4:=Tryz.sizeOf4
 v4:=Tryz.zeroValue4
 t5:=Tryz.underlying5
 a5:=Tryz.isAgg5
 z5:=Tryz.sizeOf5
 v5:=Tryz.zeroValue5
 t9:=Tryz.underlying9
 a9:=Tryz.isAgg9
 z9:=Tryz.sizeOf9
 v9:=Tryz.zeroValue9
 t20:=Tryz.underlying20
 a20:=Tryz.isAgg20
 z20:=Tryz.sizeOf20
 v20:=Tryz.zeroValue20
 t37:=Tryz.underlying230
 a37:=Tryz.isAgg230
 z37:=Tryz.sizeOf230
 v37:=Tryz.zeroValue230
 t46:=Tryz.underlying128
 a46:=Tryz.isAgg128
 z46:=Tryz.sizeOf128
 v46:=Tryz.zeroValue128
 t51:=Tryz.underlying177
 a51:=Tryz.isAgg177
 z51:=Tryz.sizeOf177
 v51:=Tryz.zeroValue177
 t53:=Tryz.underlying179
 a53:=Tryz.isAgg179
 z53:=Tryz.sizeOf179
 v53:=Tryz.zeroValue179
 t70:=Tryz.underlying313
 a70:=Tryz.isAgg313
 z70:=Tryz.sizeOf313
 v70:=Tryz.zeroValue313
 t72:=Tryz.underlying315
 a72:=Tryz.isAgg315
 z72:=Tryz.sizeOf315
 v72:=Tryz.zeroValue315
 t75:=Tryz.underlying185
 a75:=Tryz.isAgg185
 z75:=Tryz.sizeOf185
 v75:=Tryz.zeroValue185
 t76:=Tryz.underlying186
 a76:=Tryz.isAgg186
 z76:=Tryz.sizeOf186
 v76:=Tryz.zeroValue186
 t109:=Tryz.underlying348
 a109:=Tryz.isAgg348
 z109:=Tryz.sizeOf348
 v109:=Tryz.zeroValue348
 t127:=Tryz.underlying328
 a127:=Tryz.isAgg328
 z127:=Tryz.sizeOf328
 v127:=Tryz.zeroValue328
 t146:=Tryz.underlying325
 a146:=Tryz.isAgg325
 z146:=Tryz.sizeOf325
 v146:=Tryz.zeroValue325
 t148:=Tryz.underlying354
 a148:=Tryz.isAgg354
 z148:=Tryz.sizeOf354
 v148:=Tryz.zeroValue354
 t164:=Tryz.underlying346
 a164:=Tryz.isAgg346
 z164:=Tryz.sizeOf346
 v164:=Tryz.zeroValue346}
def Tryz.laysBS_ren:Go.Shelf.Ren:=⟨fun|169=>253|n=>n,fun|70=>313|9=>9|0=>0|72=>315|37=>230|127=>328|3=>3|5=>5|n=>n,fun|n=>n⟩
theorem Tryz.laysBS:Go.Proofs.Lays.n169 Tryz.prog Tryz.laysBS_ren:={
 mixed:=by kernel_rfl
 f169:=Tryz.func253.trans (congrArg some (by kernel_rfl))
 t0:=Tryz.underlying0
 a0:=Tryz.isAgg0
 z0:=Tryz.sizeOf0
 v0:=Tryz.zeroValue0
 t3:=Tryz.underlying3
 a3:=Tryz.isAgg3
 z3:=Tryz.sizeOf3
 v3:=Tryz.zeroValue3
 t9:=Tryz.underlying9
 a9:=Tryz.isAgg9
 z9:=Tryz.sizeOf9
 v9:=Tryz.zeroValue9
 t37:=Tryz.underlying230
 a37:=Tryz.isAgg230
 z37:=Tryz.sizeOf230
 v37:=Tryz.zeroValue230
 t70:=Tryz.underlying313
 a70:=Tryz.isAgg313
 z70:=Tryz.sizeOf313
 v70:=Tryz.zeroValue313
 t72:=Tryz.underlying315
 a72:=Tryz.isAgg315
 z72:=Tryz.sizeOf315
 v72:=Tryz.zeroValue315
 t127:=Tryz.underlying328
 a127:=Tryz.isAgg328
 z127:=Tryz.sizeOf328
 v127:=Tryz.zeroValue328}
def Tryz.laysAtoi_ren:Go.Shelf.Ren:=⟨fun|172=>105|244=>156|245=>157|247=>196|279=>197|280=>198|281=>199|282=>200|287=>239|316=>240|171=>40|205=>241|321=>267|322=>268|243=>73|246=>141|283=>186|284=>187|285=>188|286=>189|129=>99|317=>233|318=>234|319=>235|320=>236|337=>263|338=>264|n=>n,fun|9=>9|3=>3|75=>185|76=>186|4=>4|5=>5|167=>267|37=>230|0=>0|85=>268|2=>2|168=>270|53=>179|175=>299|46=>128|210=>302|127=>328|145=>331|143=>329|21=>21|171=>257|173=>259|212=>297|51=>177|20=>20|213=>298|232=>342|233=>343|80=>231|n=>n,fun|15=>4|16=>5|17=>3|18=>6|19=>7|n=>n⟩
theorem Tryz.laysAtoi:Go.Proofs.LaysC.n172 Tryz.prog Tryz.laysAtoi_ren:={
 mixed:=by kernel_rfl
 f129:=Tryz.func99.trans (congrArg some (by kernel_rfl))
 f171:=Tryz.func40.trans (congrArg some (by kernel_rfl))
 f172:=Tryz.func105.trans (congrArg some (by kernel_rfl))
 f205:=Tryz.func241.trans (congrArg some (by kernel_rfl))
 f243:=Tryz.func73.trans (congrArg some (by kernel_rfl))
 f244:=Tryz.func156.trans (congrArg some (by kernel_rfl))
 f245:=Tryz.func157.trans (congrArg some (by kernel_rfl))
 f246:=Tryz.func141.trans (congrArg some (by kernel_rfl))
 f247:=Tryz.func196.trans (congrArg some (by kernel_rfl))
 f279:=Tryz.func197.trans (congrArg some (by kernel_rfl))
 f280:=Tryz.func198.trans (congrArg some (by kernel_rfl))
 f281:=Tryz.func199.trans (congrArg some (by kernel_rfl))
 f282:=Tryz.func200.trans (congrArg some (by kernel_rfl))
 f283:=Tryz.func186.trans (congrArg some (by kernel_rfl))
 f284:=Tryz.func187.trans (congrArg some (by kernel_rfl))
 f285:=Tryz.func188.trans (congrArg some (by kernel_rfl))
 f286:=Tryz.func189.trans (congrArg some (by kernel_rfl))
 f287:=Tryz.func239.trans (congrArg some (by kernel_rfl))
 f316:=Tryz.func240.trans (congrArg some (by kernel_rfl))
 f317:=Tryz.func233.trans (congrArg some (by kernel_rfl))
 f318:=Tryz.func234.trans (congrArg some (by kernel_rfl))
 f319:=Tryz.func235.trans (congrArg some (by kernel_rfl))
 f320:=Tryz.func236.trans (congrArg some (by kernel_rfl))
 f321:=Tryz.func267.trans (congrArg some (by kernel_rfl))
 f322:=Tryz.func268.trans (congrArg some (by kernel_rfl))
 f337:=Tryz.func263.trans (congrArg some (by kernel_rfl))
 f338:=Tryz.func264.trans (congrArg some (by kernel_rfl))
 t0:=Tryz.underlying0
 a0:=Tryz.isAgg0
 z0:=Tryz.sizeOf0
 v0:=Tryz.zeroValue0
 t2:=Tryz.underlying2
 a2:=Tryz.isAgg2
 z2:=Tryz.sizeOf2
 v2:=Tryz.zeroValue2
 t3:=Tryz.underlying3
 a3:=Tryz.isAgg3
 z3:=Tryz.sizeOf3
 v3:=Tryz.zeroValue3
 t4:=Tryz.underlying4
 a4:=Tryz.isAgg4
 z4:=Tryz.sizeOf4
 v4:=Tryz.zeroValue4
 t5:=Tryz.underlying5
 a5:=Tryz.isAgg5
 z5:=Tryz.sizeOf5
 v5:=Tryz.zeroValue5
 t9:=Tryz.underlying9
 a9:=Tryz.isAgg9
 z9:=Tryz.sizeOf9
 v9:=Tryz.zeroValue9
 t20:=Tryz.underlying20
 a20:=Tryz.isAgg20
 z20:=Tryz.sizeOf20
 v20:=Tryz.zeroValue20
 t21:=Tryz.underlying21
 a21:=Tryz.isAgg21
 z21:=Tryz.sizeOf21
 v21:=Tryz.zeroValue21
 t37:=Tryz.underlying230
 a37:=Tryz.isAgg230
 z37:=Tryz.sizeOf230
 v37:=Tryz.zeroValue230
 t46:=Tryz.underlying128
 a46:=Tryz.isAgg128
 z46:=Tryz.sizeOf128
 v46:=Tryz.zeroValue128
 t51:=Tryz.underlying177
 a51:=Tryz.isAgg177
 z51:=Tryz.sizeOf177
 v51:=Tryz.zeroValue177
 t53:=Tryz.underlying179
 a53:=Tryz.isAgg179
 z53:=Tryz.sizeOf179
 v53:=Tryz.zeroValue179
 t75:=Tryz.underlying185
 a75:=Tryz.isAgg185
 z75:=Tryz.sizeOf185
 v75:=Tryz.zeroValue185
 t76:=Tryz.underlying186
 a76:=Tryz.isAgg186
 z76:=Tryz.sizeOf186
 v76:=Tryz.zeroValue186
 t85:=Tryz.underlying268
 a85:=Tryz.isAgg268
 z85:=Tryz.sizeOf268
 v85:=Tryz.zeroValue268
 t127:=Tryz.underlying328
 a127:=Tryz.isAgg328
 z127:=Tryz.sizeOf328
 v127:=Tryz.zeroValue328
 t143:=Tryz.underlying329
 a143:=Tryz.isAgg329
 z143:=Tryz.sizeOf329
 v143:=Tryz.zeroValue329
 t145:=Tryz.underlying331
 a145:=Tryz.isAgg331
 z145:=Tryz.sizeOf331
 v145:=Tryz.zeroValue331
 t167:=Tryz.underlying267
 a167:=Tryz.isAgg267
 z167:=Tryz.sizeOf267
 v167:=Tryz.zeroValue267
 t168:=Tryz.underlying270
 a168:=Tryz.isAgg270
 z168:=Tryz.sizeOf270
 v168:=Tryz.zeroValue270
 t171:=Tryz.underlying257
 a171:=Tryz.isAgg257
 z171:=Tryz.sizeOf257
 v171:=Tryz.zeroValue257
 t173:=Tryz.underlying259
 a173:=Tryz.isAgg259
 z173:=Tryz.sizeOf259
 v173:=Tryz.zeroValue259
 t175:=Tryz.underlying299
 a175:=Tryz.isAgg299
 z175:=Tryz.sizeOf299
 v175:=Tryz.zeroValue299
 t210:=Tryz.underlying302
 a210:=Tryz.isAgg302
 z210:=Tryz.sizeOf302
 v210:=Tryz.zeroValue302
 t212:=Tryz.underlying297
 a212:=Tryz.isAgg297
 z212:=Tryz.sizeOf297
 v212:=Tryz.zeroValue297
 t213:=Tryz.underlying298
 a213:=Tryz.isAgg298
 z213:=Tryz.sizeOf298
 t232:=Tryz.underlying342
 a232:=Tryz.isAgg342
 z232:=Tryz.sizeOf342
 v232:=Tryz.zeroValue342
 t233:=Tryz.underlying343
 a233:=Tryz.isAgg343
 z233:=Tryz.sizeOf343
 v233:=Tryz.zeroValue343
 g15:=by kernel_rfl
 g16:=by kernel_rfl
 g17:=by kernel_rfl
 g18:=by kernel_rfl
 g19:=by kernel_rfl
 t80:=Tryz.underlying231
 a80:=Tryz.isAgg231
 z80:=Tryz.sizeOf231
 v80:=Tryz.zeroValue231
 i0:=by kernel_rfl
 i2:=by kernel_rfl
 i3:=by kernel_rfl
 i4:=by kernel_rfl
 i5:=by kernel_rfl
 i9:=by kernel_rfl
 i20:=by kernel_rfl
 i21:=by kernel_rfl
 i37:=by kernel_rfl
 i46:=by kernel_rfl
 i51:=by kernel_rfl
 i53:=by kernel_rfl
 i75:=by kernel_rfl
 i76:=by kernel_rfl
 i80:=by kernel_rfl
 i85:=by kernel_rfl
 i127:=by kernel_rfl
 i143:=by kernel_rfl
 i145:=by kernel_rfl
 i167:=by kernel_rfl
 i168:=by kernel_rfl
 i171:=by kernel_rfl
 i173:=by kernel_rfl
 i175:=by kernel_rfl
 i210:=by kernel_rfl
 i212:=by kernel_rfl
 i232:=by kernel_rfl
 i233:=by kernel_rfl
 m15:=by kernel_rfl
 m16:=by kernel_rfl
 m17:=by kernel_rfl
 m18:=by kernel_rfl
 m19:=by kernel_rfl
 c0:=by kernel_rfl
 c2:=by kernel_rfl
 c3:=by kernel_rfl
 c4:=by kernel_rfl
 c5:=by kernel_rfl
 c9:=by kernel_rfl
 c20:=by kernel_rfl
 c21:=by kernel_rfl
 c37:=by kernel_rfl
 c46:=by kernel_rfl
 c51:=by kernel_rfl
 c53:=by kernel_rfl
 c75:=by kernel_rfl
 c76:=by kernel_rfl
 c80:=by kernel_rfl
 c85:=by kernel_rfl
 c127:=by kernel_rfl
 c143:=by kernel_rfl
 c145:=by kernel_rfl
 c167:=by kernel_rfl
 c168:=by kernel_rfl
 c171:=by kernel_rfl
 c173:=by kernel_rfl
 c175:=by kernel_rfl
 c210:=by kernel_rfl
 c212:=by kernel_rfl
 c213:=by kernel_rfl
 c232:=by kernel_rfl
 c233:=by kernel_rfl}
def Tryz.laysWR_ren:Go.Shelf.Ren:=⟨fun|168=>252|240=>272|242=>273|276=>281|278=>282|n=>n,fun|70=>313|21=>21|3=>3|75=>185|0=>0|72=>315|37=>230|4=>4|164=>346|51=>177|5=>5|46=>128|80=>231|9=>9|n=>n,fun|n=>n⟩
theorem Tryz.laysWR:Go.Proofs.Lays.n168 Tryz.prog Tryz.laysWR_ren:={
 mixed:=by kernel_rfl
 f168:=Tryz.func252.trans (congrArg some (by kernel_rfl))
 f240:=Tryz.func272.trans (congrArg some (by kernel_rfl))
 f242:=Tryz.func273.trans (congrArg some (by kernel_rfl))
 f276:=Tryz.func281.trans (congrArg some (by kernel_rfl))
 f278:=Tryz.func282.trans (congrArg some (by kernel_rfl))
 t0:=Tryz.underlying0
 a0:=Tryz.isAgg0
 z0:=Tryz.sizeOf0
 v0:=Tryz.zeroValue0
 t3:=Tryz.underlying3
 a3:=Tryz.isAgg3
 z3:=Tryz.sizeOf3
 v3:=Tryz.zeroValue3
 t4:=Tryz.underlying4
 a4:=Tryz.isAgg4
 z4:=Tryz.sizeOf4
 v4:=Tryz.zeroValue4
 t5:=Tryz.underlying5
 a5:=Tryz.isAgg5
 z5:=Tryz.sizeOf5
 v5:=Tryz.zeroValue5
 t9:=Tryz.underlying9
 a9:=Tryz.isAgg9
 z9:=Tryz.sizeOf9
 v9:=Tryz.zeroValue9
 t20:=Tryz.underlying20
 a20:=Tryz.isAgg20
 z20:=Tryz.sizeOf20
 v20:=Tryz.zeroValue20
 t21:=Tryz.underlying21
 a21:=Tryz.isAgg21
 z21:=Tryz.sizeOf21
 v21:=Tryz.zeroValue21
 t37:=Tryz.underlying230
 a37:=Tryz.isAgg230
 z37:=Tryz.sizeOf230
 v37:=Tryz.zeroValue230
 t46:=Tryz.underlying128
 a46:=Tryz.isAgg128
 z46:=Tryz.sizeOf128
 v46:=Tryz.zeroValue128
 t51:=Tryz.underlying177
 a51:=Tryz.isAgg177
 z51:=Tryz.sizeOf177
 v51:=Tryz.zeroValue177
 t70:=Tryz.underlying313
 a70:=Tryz.isAgg313
 z70:=Tryz.sizeOf313
 v70:=Tryz.zeroValue313
 t72:=Tryz.underlying315
 a72:=Tryz.isAgg315
 z72:=Tryz.sizeOf315
 v72:=Tryz.zeroValue315
 t75:=Tryz.underlying185
 a75:=Tryz.isAgg185
 z75:=Tryz.sizeOf185
 v75:=Tryz.zeroValue185
 t164:=Tryz.underlying346
 a164:=Tryz.isAgg346
 z164:=Tryz.sizeOf346
 v164:=Tryz.zeroValue346}
def Tryz.laysIdx_ren:Go.Shelf.Ren:=⟨fun|219=>195|217=>237|225=>194|224=>193|267=>238|266=>265|314=>266|n=>n,fun|9=>9|3=>3|4=>4|5=>5|46=>128|146=>325|51=>177|n=>n,fun|1=>0|n=>n⟩
theorem Tryz.laysIdx:Go.Proofs.Lays.n219 Tryz.prog Tryz.laysIdx_ren:={
 mixed:=by kernel_rfl
 f217:=Tryz.func237.trans (congrArg some (by kernel_rfl))
 f219:=Tryz.func195.trans (congrArg some (by kernel_rfl))
 f224:=Tryz.func193.trans (congrArg some (by kernel_rfl))
 f225:=Tryz.func194.trans (congrArg some (by kernel_rfl))
 f266:=Tryz.func265.trans (congrArg some (by kernel_rfl))
 f267:=Tryz.func238.trans (congrArg some (by kernel_rfl))
 f314:=Tryz.func266.trans (congrArg some (by kernel_rfl))
 t3:=Tryz.underlying3
 a3:=Tryz.isAgg3
 z3:=Tryz.sizeOf3
 v3:=Tryz.zeroValue3
 t4:=Tryz.underlying4
 a4:=Tryz.isAgg4
 z4:=Tryz.sizeOf4
 v4:=Tryz.zeroValue4
 t5:=Tryz.underlying5
 a5:=Tryz.isAgg5
 z5:=Tryz.sizeOf5
 v5:=Tryz.zeroValue5
 t9:=Tryz.underlying9
 a9:=Tryz.isAgg9
 z9:=Tryz.sizeOf9
 v9:=Tryz.zeroValue9
 t46:=Tryz.underlying128
 a46:=Tryz.isAgg128
 z46:=Tryz.sizeOf128
 v46:=Tryz.zeroValue128
 t51:=Tryz.underlying177
 a51:=Tryz.isAgg177
 z51:=Tryz.sizeOf177
 v51:=Tryz.zeroValue177
 t146:=Tryz.underlying325
 a146:=Tryz.isAgg325
 z146:=Tryz.sizeOf325
 v146:=Tryz.zeroValue325
 g1:=by kernel_rfl}
def Tryz.laysAny_ren:Go.Shelf.Ren:=⟨fun|153=>102|152=>150|226=>151|227=>152|228=>153|137=>191|119=>192|224=>193|225=>194|217=>237|266=>265|n=>n,fun|9=>9|3=>3|4=>4|5=>5|21=>21|117=>226|116=>225|0=>0|46=>128|124=>266|n=>n,fun|n=>n⟩
theorem Tryz.laysAny:Go.Proofs.Lays.n153 Tryz.prog Tryz.laysAny_ren:={
 mixed:=by kernel_rfl
 f119:=Tryz.func192.trans (congrArg some (by kernel_rfl))
 f137:=Tryz.func191.trans (congrArg some (by kernel_rfl))
 f152:=Tryz.func150.trans (congrArg some (by kernel_rfl))
 f153:=Tryz.func102.trans (congrArg some (by kernel_rfl))
 f217:=Tryz.func237.trans (congrArg some (by kernel_rfl))
 f224:=Tryz.func193.trans (congrArg some (by kernel_rfl))
 f225:=Tryz.func194.trans (congrArg some (by kernel_rfl))
 f226:=Tryz.func151.trans (congrArg some (by kernel_rfl))
 f227:=Tryz.func152.trans (congrArg some (by kernel_rfl))
 f228:=Tryz.func153.trans (congrArg some (by kernel_rfl))
 f266:=Tryz.func265.trans (congrArg some (by kernel_rfl))
 t0:=Tryz.underlying0
 a0:=Tryz.isAgg0
 z0:=Tryz.sizeOf0
 v0:=Tryz.zeroValue0
 t3:=Tryz.underlying3
 a3:=Tryz.isAgg3
 z3:=Tryz.sizeOf3
 v3:=Tryz.zeroValue3
 t4:=Tryz.underlying4
 a4:=Tryz.isAgg4
 z4:=Tryz.sizeOf4
 v4:=Tryz.zeroValue4
 t5:=Tryz.underlying5
 a5:=Tryz.isAgg5
 z5:=Tryz.sizeOf5
 v5:=Tryz.zeroValue5
 t9:=Tryz.underlying9
 a9:=Tryz.isAgg9
 z9:=Tryz.sizeOf9
 v9:=Tryz.zeroValue9
 t21:=Tryz.underlying21
 a21:=Tryz.isAgg21
 z21:=Tryz.sizeOf21
 v21:=Tryz.zeroValue21
 t46:=Tryz.underlying128
 a46:=Tryz.isAgg128
 z46:=Tryz.sizeOf128
 v46:=Tryz.zeroValue128
 t116:=Tryz.underlying225
 a116:=Tryz.isAgg225
 z116:=Tryz.sizeOf225
 t117:=Tryz.underlying226
 a117:=Tryz.isAgg226
 z117:=Tryz.sizeOf226
 v117:=Tryz.zeroValue226
 t124:=Tryz.underlying266
 a124:=Tryz.isAgg266
 z124:=Tryz.sizeOf266
 v124:=Tryz.zeroValue266}
end Go.Proofs
namespace Go.Proofs
open Go.Shelf Go.RowKit Go.Sort Go.Lib
variable {P:Program} {ρ:Ren}
def PowIs (g:Nat)(w:World):Prop:=∀i,i<20→w.cell? ⟨g,i,none⟩=some (.int .u64 ((10^i:Nat):Int))
theorem PowIs.alloc {g:Nat}{w:World}(h:PowIs g w)(o:Obj):PowIs g (w.alloc o):=fun i hi=>by
 have:=h i hi
 have hne:g≠w.heap.size:=fun e=>by
  unfold World.cell? at this
  dsimp only at this
  rw [e,Array.getElem?_eq_none (Nat.le_refl _)] at this
  cases this
 unfold World.cell? at this ⊢
 unfold World.alloc
 dsimp only at this ⊢
 rw [Array.getElem?_push,if_neg hne]
 exact this
set_option maxHeartbeats 2000000 in
set_option maxRecDepth 100000 in
theorem AnyC.internal_strconv_numDigits (L:LaysM.n284 P ρ)(u:Nat)(h1:1≤u)(h2:u<18446744073709551616)(w:World)
  (htab:PowIs (ρ.g 17) w):
  Calls P (ρ.f 284) #[.int .u64 u] w fun e w'=>e=.returned (.int .i64 (Lib.nDigits u))∧w'=w:=by
 have mixed:=L.mixed
 have t53:=L.t53;have a53:=L.a53;have z53:=L.z53;have v53:=L.v53
 have t3:=L.t3;have a3:=L.a3;have z3:=L.z3;have v3:=L.v3
 have t212:=L.t212;have a212:=L.a212;have z212:=L.z212;have v212:=L.v212
 have t0:=L.t0;have a0:=L.a0;have z0:=L.z0;have v0:=L.v0
 have t4:=L.t4;have a4:=L.a4;have z4:=L.z4;have v4:=L.v4
 have e129:∀args w,(callFunc (ρ.f 129) args).run P w=.ok (.enter (ρ.f 129) args) w:=enters_of L.f129 (by kernel_rfl) rfl
 have e317:∀args w,(callFunc (ρ.f 317) args).run P w=.ok (.enter (ρ.f 317) args) w:=enters_of L.f317 (by kernel_rfl) rfl
 have e318:∀args w,(callFunc (ρ.f 318) args).run P w=.ok (.enter (ρ.f 318) args) w:=enters_of L.f318 (by kernel_rfl) rfl
 obtain ⟨hnd,h19⟩:=Lib.numDigits_eq u h1 h2
 have hL:Lib.bitLen u≤64:=Lib.bitLen_le u 64 (Nat.le_refl _) h2
 have hcell:w.cell? ⟨(ρ.g 17),Lib.l10 (Lib.bitLen u),none⟩=some (.int .u64 ((10^Lib.l10 (Lib.bitLen u):Nat):Int)):=by
  exact htab _ (by omega)
 have hto:((u:Int)).toNat=u:=by omega
 generalize hq:Lib.l10 (Lib.bitLen u)=q at hnd h19 hcell
 generalize hT:10^q=T at hnd hcell
 have h20:q<20:=by omega
 have Hnd:=Lib.hid hnd
 clear hnd htab
 go_enter L.f284,Body.n284_ntmps ρ
 go_wp2_with (first
  |(go_at_fn (ρ.f 129);refine (Any.bits_Len64 {L with} _ _ (by omega) (by omega)).mono ?_;rintro e w' ⟨rfl,rfl⟩)
  |(go_at_fn (ρ.f 317);refine (Any.internal_strconv_log10Pow2 {L with} _ (by first|exact hL|(rw [hto];exact hL)) _).mono ?_;rintro e w' ⟨rfl,rfl⟩)
  |(go_at_fn (ρ.f 318);refine (Any.internal_strconv_bool2_int {L with} _ _).mono ?_;rintro e w' ⟨rfl,rfl⟩))
 all_goals go_ret
 all_goals (
  refine ⟨?_,rfl⟩
  have hnd:=Hnd.out
  congr 2
  split at hnd<;>simp_all<;>omega)
set_option maxHeartbeats 6400000 in
set_option maxRecDepth 100000 in
theorem AnyC.internal_strconv_FormatInt_10 (L:LaysM.n246 P ρ)(n:Int)(h0:-9223372036854775808≤n)(h1:n≤9223372036854775807)(w:World)
  (htab:PowIs (ρ.g 17) w):
  Calls P (ρ.f 246) #[.int .i64 n,.int .i64 10] w fun e w'=>e=.returned (.string ⟨(Lib.itoa n).toArray⟩)∧∃k os,w'=grow (w.drewN k) os:=by
 have mixed:=L.mixed
 have t2:=L.t2;have a2:=L.a2;have z2:=L.z2;have v2:=L.v2
 have t3:=L.t3;have a3:=L.a3;have z3:=L.z3;have v3:=L.v3
 have t9:=L.t9;have a9:=L.a9;have z9:=L.z9;have v9:=L.v9
 have t4:=L.t4;have a4:=L.a4;have z4:=L.z4;have v4:=L.v4
 have t171:=L.t171;have a171:=L.a171;have z171:=L.z171;have v171:=L.v171
 have t0:=L.t0;have a0:=L.a0;have z0:=L.z0;have v0:=L.v0
 have t53:=L.t53;have a53:=L.a53;have z53:=L.z53;have v53:=L.v53
 have t37:=L.t37;have a37:=L.a37;have z37:=L.z37;have v37:=L.v37
 have t5:=L.t5;have a5:=L.a5;have z5:=L.z5;have v5:=L.v5
 have t173:=L.t173;have a173:=L.a173;have z173:=L.z173;have v173:=L.v173
 have e283:∀args w,(callFunc (ρ.f 283) args).run P w=.ok (.enter (ρ.f 283) args) w:=enters_of L.f283 (by kernel_rfl) rfl
 have e284:∀args w,(callFunc (ρ.f 284) args).run P w=.ok (.enter (ρ.f 284) args) w:=enters_of L.f284 (by kernel_rfl) rfl
 have e285:∀args w,(callFunc (ρ.f 285) args).run P w=.ok (.enter (ρ.f 285) args) w:=enters_of L.f285 (by kernel_rfl) rfl
 by_cases hs:0≤n∧n<100
 ·
  obtain ⟨i,rfl⟩:∃i:Nat,n=i:=⟨n.toNat,by omega⟩
  have hi:i<100:=by omega
  go_enter L.f246,Body.n246_ntmps ρ
  go_wp2_with (go_at_fn (ρ.f 283);refine (Any.internal_strconv_small {L with} i hi _).mono ?_;rintro e w' ⟨rfl,rfl⟩)
  go_ret
  refine ⟨?_,0,#[],by simp [World.drewN_zero]⟩
  rw [Lib.itoa_nonneg]
  rfl
 ·by_cases hneg:n<0
  ·obtain ⟨u,rfl⟩:∃u:Nat,n=-(u:Int):=⟨n.natAbs,by omega⟩
   have hu1:1≤u:=by omega
   have hu64:u<18446744073709551616:=by omega
   have hnd20:Lib.nDigits u≤20:=by have:=Lib.numDigits_eq u hu1 hu64;split at this<;>omega
   have hwr:IntKind.u64.wrap (-IntKind.u64.wrap (-(u:Int)))=(u:Int):=by rw [IntKind.wrap_u64,IntKind.wrap_u64];omega
   have hb3:Lib.nDigits u≤23:=by omega
   have hal:P.arrayLen (ρ.t 171)=24:=by simp [Program.arrayLen,L.t171]
   have hsl1:∀W,(Instr.sliceAt (ρ.t 171) (.pointer (some ⟨w.heap.size,0,none⟩)) (some (.int .i64 1)) (some (.int .i64 (1+(Lib.nDigits u:Int)))) none).run P W=.ok (.slice (some ⟨w.heap.size,1,none⟩) (Lib.nDigits u) 23) W:=fun W=>by
    rw [run_sliceAt_array_lh W (ρ.t 171) ⟨w.heap.size,0,none⟩ (by simp [Program.arrayLen,Program.elem,L.t171]) .i64 .i64 1 (1+(Lib.nDigits u:Int)) (by omega) (by omega) (by rw [hal];omega)]
    go_simp
    omega
   have hH0:=Lib.holds_zero w (ρ.t 171) (Lib.nDigits u) (by omega)
   have hfmt:=Any.internal_strconv_formatBase10 {L with} w.heap.size 1 23 u (Array.replicate (Lib.nDigits u) 0) (w.alloc (.cells Lib.zeros24 (ρ.t 171))) hH0 (by rw [Array.size_replicate];exact Lib.lt_pow_nDigits u) hu64 (by rw [Array.size_replicate];omega)
   rw [Array.size_replicate] at hfmt
   have HH0:=Lib.hid hH0
   clear hH0 hal
   go_enter L.f246,Body.n246_ntmps ρ
   go_wp2_with (first
    |(go_at_fn (ρ.f 284);refine (AnyC.internal_strconv_numDigits {L with} u hu1 hu64 _ (htab.alloc _)).mono ?_;rintro e w' ⟨rfl,rfl⟩))
   go_at_fn (ρ.f 285)
   refine hfmt.mono ?_
   rintro e w' ⟨rfl,k,v',dk,rfl,hF⟩
   have hc0:((putRow (fun (b:UInt8)=>Value.int .u8 (b.toNat:Int)) (w.alloc (.cells Lib.zeros24 (ρ.t 171))) w.heap.size 1 dk).drewN k).cell? ⟨w.heap.size,0,none⟩=some (.int .u8 0):=by
    rw [World.cell?_drewN,cell?_putRow_other _ _ _ _ _ _ (Or.inr (Or.inl (Nat.zero_lt_one))),World.cell?_alloc_new]
    exact Lib.zeros24_at 0 (by omega)
   have hf0:((putRow (fun (b:UInt8)=>Value.int .u8 (b.toNat:Int)) (w.alloc (.cells Lib.zeros24 (ρ.t 171))) w.heap.size 1 dk).drewN k).frozen? ⟨w.heap.size,0,none⟩=false:=by
    rw [World.frozen?_drewN,frozen?_putRow]
    exact World.frozen?_alloc_new _ _ _ _
   have hal:P.arrayLen (ρ.t 171)=24:=by simp [Program.arrayLen,L.t171]
   have hsl2:∀W,(Instr.sliceAt (ρ.t 171) (.pointer (some ⟨w.heap.size,0,none⟩)) none (some (.int .i64 (1+(Lib.nDigits u:Int)))) none).run P W=.ok (.slice (some ⟨w.heap.size,0,none⟩) (1+Lib.nDigits u) 24) W:=fun W=>by
    rw [run_sliceAt_array_h W (ρ.t 171) ⟨w.heap.size,0,none⟩ (by simp [Program.arrayLen,Program.elem,L.t171]) .i64 (1+(Lib.nDigits u:Int)) (by omega) (by rw [hal];omega)]
    go_simp
    omega
   clear hal
   have hcv:(convert (ρ.t 37) (ρ.t 9) (.slice (some ⟨w.heap.size,0,none⟩) (1+Lib.nDigits u) 24)).run P (((putRow (fun (b:UInt8)=>Value.int .u8 (b.toNat:Int)) (w.alloc (.cells Lib.zeros24 (ρ.t 171))) w.heap.size 1 dk).drewN k).setCell ⟨w.heap.size,0,none⟩ (.int .u8 45))=.ok (.string ⟨(45::Lib.decDigits u).toArray⟩) (((putRow (fun (b:UInt8)=>Value.int .u8 (b.toNat:Int)) (w.alloc (.cells Lib.zeros24 (ρ.t 171))) w.heap.size 1 dk).drewN k).setCell ⟨w.heap.size,0,none⟩ (.int .u8 45)):=by
    have h:=run_convert_bytes_back (P:=P) (((putRow (fun (b:UInt8)=>Value.int .u8 (b.toNat:Int)) (w.alloc (.cells Lib.zeros24 (ρ.t 171))) w.heap.size 1 dk).drewN k).setCell ⟨w.heap.size,0,none⟩ (.int .u8 45)) (ρ.t 37) (ρ.t 9) (ρ.t 5) ⟨w.heap.size,0,none⟩ 24 (45::Lib.decDigits u) L.t37 L.t5 L.t9 (fun j hj=>by
     rw [Lib.add_plain]
     cases j with
     |zero=>exact World.cell?_setCell_same _ _ _ hc0
     |succ i=>
      have hi:i<(Lib.decDigits u).length:=by simpa using hj
      rw [World.cell?_setCell_other _ _ _ _ (by simp),List.getElem_cons_succ,Lib.row_is_numeral hF i hi,World.cell?_drewN,show 0+(i+1)=1+i by omega]
      exact cell?_putRow (fun (b:UInt8)=>Value.int .u8 (b.toNat:Int)) _ w.heap.size 1 _ dk HH0.out (by rw [hF.size,Array.size_replicate]) i (by rw [hF.size];rw [Lib.decDigits_length] at hi;exact hi))
    rw [List.length_cons,Lib.decDigits_length,Nat.add_comm] at h
    exact h
   go_wp2
   go_ret
   obtain ⟨os,eo⟩:=Lib.fin_neg w (.cells Lib.zeros24 (ρ.t 171)) dk k (.int .u8 45)
   refine ⟨?_,k,os,eo⟩
   rw [Lib.itoa_neg u hu1]
   rfl
  ·obtain ⟨u,rfl⟩:∃u:Nat,n=u:=⟨n.toNat,by omega⟩
   have hu1:1≤u:=by omega
   have hu64:u<18446744073709551616:=by omega
   have hnd20:Lib.nDigits u≤20:=by have:=Lib.numDigits_eq u hu1 hu64;split at this<;>omega
   have hb3:Lib.nDigits u≤23:=by omega
   have hal:P.arrayLen (ρ.t 171)=24:=by simp [Program.arrayLen,L.t171]
   have hsl1:∀W,(Instr.sliceAt (ρ.t 171) (.pointer (some ⟨w.heap.size,0,none⟩)) (some (.int .i64 1)) (some (.int .i64 (1+(Lib.nDigits u:Int)))) none).run P W=.ok (.slice (some ⟨w.heap.size,1,none⟩) (Lib.nDigits u) 23) W:=fun W=>by
    rw [run_sliceAt_array_lh W (ρ.t 171) ⟨w.heap.size,0,none⟩ (by simp [Program.arrayLen,Program.elem,L.t171]) .i64 .i64 1 (1+(Lib.nDigits u:Int)) (by omega) (by omega) (by rw [hal];omega)]
    go_simp
    omega
   have hH0:=Lib.holds_zero w (ρ.t 171) (Lib.nDigits u) (by omega)
   have hfmt:=Any.internal_strconv_formatBase10 {L with} w.heap.size 1 23 u (Array.replicate (Lib.nDigits u) 0) (w.alloc (.cells Lib.zeros24 (ρ.t 171))) hH0 (by rw [Array.size_replicate];exact Lib.lt_pow_nDigits u) hu64 (by rw [Array.size_replicate];omega)
   rw [Array.size_replicate] at hfmt
   have HH0:=Lib.hid hH0
   clear hH0 hal
   go_enter L.f246,Body.n246_ntmps ρ
   go_wp2_with (first
    |(go_at_fn (ρ.f 284);refine (AnyC.internal_strconv_numDigits {L with} u hu1 hu64 _ (htab.alloc _)).mono ?_;rintro e w' ⟨rfl,rfl⟩))
   go_at_fn (ρ.f 285)
   refine hfmt.mono ?_
   rintro e w' ⟨rfl,k,v',dk,rfl,hF⟩
   have hcv:(convert (ρ.t 37) (ρ.t 9) (.slice (some ⟨w.heap.size,1,none⟩) (Lib.nDigits u) 23)).run P ((putRow (fun (b:UInt8)=>Value.int .u8 (b.toNat:Int)) (w.alloc (.cells Lib.zeros24 (ρ.t 171))) w.heap.size 1 dk).drewN k)=.ok (.string ⟨(Lib.decDigits u).toArray⟩) ((putRow (fun (b:UInt8)=>Value.int .u8 (b.toNat:Int)) (w.alloc (.cells Lib.zeros24 (ρ.t 171))) w.heap.size 1 dk).drewN k):=by
    have h:=run_convert_bytes_back (P:=P) ((putRow (fun (b:UInt8)=>Value.int .u8 (b.toNat:Int)) (w.alloc (.cells Lib.zeros24 (ρ.t 171))) w.heap.size 1 dk).drewN k) (ρ.t 37) (ρ.t 9) (ρ.t 5) ⟨w.heap.size,1,none⟩ 23 (Lib.decDigits u) L.t37 L.t5 L.t9 (fun j hj=>by
     rw [Lib.row_is_numeral hF j hj,Lib.add_plain,World.cell?_drewN]
     exact cell?_putRow (fun (b:UInt8)=>Value.int .u8 (b.toNat:Int)) _ w.heap.size 1 _ dk HH0.out (by rw [hF.size,Array.size_replicate]) j (by rw [hF.size];rw [Lib.decDigits_length] at hj;exact hj))
    rw [Lib.decDigits_length] at h
    exact h
   go_wp2
   go_ret
   obtain ⟨os,eo⟩:=Lib.fin_pos w (.cells Lib.zeros24 (ρ.t 171)) dk k
   refine ⟨?_,k,os,eo⟩
   rw [Lib.itoa_nonneg]
   rfl
set_option maxRecDepth 100000 in
theorem AnyC.internal_strconv_Itoa (L:LaysM.n243 P ρ)(n:Int)(h0:-9223372036854775808≤n)(h1:n≤9223372036854775807)(w:World)
  (htab:PowIs (ρ.g 17) w):
  Calls P (ρ.f 243) #[.int .i64 n] w fun e w'=>e=.returned (.string ⟨(Lib.itoa n).toArray⟩)∧∃k os,w'=grow (w.drewN k) os:=by
 have mixed:=L.mixed
 have t3:=L.t3;have a3:=L.a3;have z3:=L.z3;have v3:=L.v3
 have t9:=L.t9;have a9:=L.a9;have z9:=L.z9;have v9:=L.v9
 have t2:=L.t2;have a2:=L.a2;have z2:=L.z2;have v2:=L.v2
 have e246:∀args w,(callFunc (ρ.f 246) args).run P w=.ok (.enter (ρ.f 246) args) w:=enters_of L.f246 (by kernel_rfl) rfl
 go_enter L.f243,Body.n243_ntmps ρ
 go_wp2_with (go_at_fn (ρ.f 246);refine (AnyC.internal_strconv_FormatInt_10 {L with} n h0 h1 _ htab).mono ?_;rintro e w' ⟨rfl,k,os,rfl⟩)
 go_ret
 exact ⟨rfl,k,os,rfl⟩
set_option maxRecDepth 100000 in
theorem AnyC.strconv_Itoa (L:LaysM.n171 P ρ)(n:Int)(h0:-9223372036854775808≤n)(h1:n≤9223372036854775807)(w:World)
  (htab:PowIs (ρ.g 17) w):
  Calls P (ρ.f 171) #[.int .i64 n] w fun e w'=>e=.returned (.string ⟨(Lib.itoa n).toArray⟩)∧∃k os,w'=grow (w.drewN k) os:=by
 have mixed:=L.mixed
 have t3:=L.t3;have a3:=L.a3;have z3:=L.z3;have v3:=L.v3
 have t9:=L.t9;have a9:=L.a9;have z9:=L.z9;have v9:=L.v9
 have e243:∀args w,(callFunc (ρ.f 243) args).run P w=.ok (.enter (ρ.f 243) args) w:=enters_of L.f243 (by kernel_rfl) rfl
 go_enter L.f171,Body.n171_ntmps ρ
 go_wp2_with (go_at_fn (ρ.f 243);refine (AnyC.internal_strconv_Itoa {L with} n h0 h1 _ htab).mono ?_;rintro e w' ⟨rfl,k,os,rfl⟩)
 go_ret
 exact ⟨rfl,k,os,rfl⟩
end Go.Proofs
