/-.-/
import Derived.Test.YtonnphbfclaigaaGreatDoorW20
import Derived.Test.YtonnphbfclaigaaGreatDoorW22
set_option linter.all false
namespace Go.Proofs.YtonnphbfclaigaaGreatDoor
open Go.Em
set_option maxRecDepth 100000
variable {ss:List Slt}
theorem eqL_nil {r:Slt->Slt->Bool}(ss:List Slt):eqL r ss []=(Int.ofNat (sltsC ss).length==0):=by
 cases ss with
 |nil=>rfl
 |cons x l=>
  have:Int.ofNat (sltsC (x::l)).length≠0:=by rw [sltsC_length];simp only [qam,qaI];omega
  rw [beq_eq_false_iff_ne.2 this];rfl
theorem seq0_pure (N:Nat)(hN:100010<=N)(s:Stt)(hs:s.small):Gam.pureD (callF tab ext N) 33 [.agg s.cells,.agg [num 0,num 0,.sl false 10 []]]=some (boolX (zeroS s)):=by
 obtain ⟨M,rfl⟩:∃M,N=M+2:=⟨N-2,by omega⟩;have hl:=hs.slots;have hq:=eq60_pure M 81 s.slots [] (fun _ _=>true) (fun a b _ hb=>by cases hb) (by omega) (by omega);rw [eqL_nil] at hq;obtain ⟨a,b,ss⟩:=s;unfold zeroS;dsimp only at hq ⊢;generalize (Int.ofNat (sltsC ss).length==0)=z at hq ⊢;cases h1:(a==0) with
 |false=>exact pure_of [(9,.b false)] [] (pf1 h1) (x:=boolX false) (bx:=[]) (by kernel_rfl) rfl
 |true=>
  cases h2:(b==0) with
  |false=>exact pure_of [(9,.b true),(15,.b false)] [] (pf2 h1 h2) (x:=boolX false) (bx:=[]) (by kernel_rfl) rfl
  |true=>exact pure_of [(9,.b true),(15,.b true),(22,.p (boolX z))] [] (pf3 h1 h2 hq) (x:=boolX z) (bx:=[]) (by kernel_rfl) rfl
def scheckF (k:Int)(s:Stt):Int:=if !(k==3) then 11 else if !(zeroS s) then 10 else 0
theorem scheck_pure (N:Nat)(hN:100020<=N)(n:Nod)(s:Stt)(hs:s.small):Gam.pureD (callF tab ext N) 56 [.agg n.cells,.agg s.cells]=some (num (scheckF n.kind s)):=by
 obtain ⟨M,rfl⟩:∃M,N=M+1:=⟨N-1,by omega⟩;have hq:=seq0_pure M (by omega) s hs;unfold scheckF;generalize zeroS s=z at hq ⊢;cases h1:(!(n.kind==3)) with
 |true=>exact pure_of [(8,.b true)] [] (pf1 h1) (x:=num 11) (bx:=[]) (by kernel_rfl) rfl
 |false=>
  cases z with
  |true=>exact pure_of [(8,.b false),(12,.p (boolX true))] [] (pf2 h1 hq) (x:=num 0) (bx:=[]) (by kernel_rfl) rfl
  |false=>exact pure_of [(8,.b false),(12,.p (boolX false))] [] (pf2 h1 hq) (x:=num 10) (bx:=[]) (by kernel_rfl) rfl
def otherS (x:Slt):Bool:=(!(x.t==0))||decide (0<x.items.length+x.vals.length)
def nAt (ss:List Slt)(j:Nat):Int:=(ss[j]?.map Slt.n).getD 0
def oAt (ss:List Slt)(j:Nat):Bool:=(ss[j]?.map otherS).getD false
theorem nAt_get {j:Nat}(h:j<ss.length):nAt ss j=ss[j].n:=by simp [nAt,h]
theorem oAt_get {j:Nat}(h:j<ss.length):oAt ss j=otherS ss[j]:=by simp [oAt,h]
def badR (a:Int)(ss:List Slt)(j:Nat):Bool:=decide (nAt ss j<1)||decide (nAt ss j>a)
def dupB (ss:List Slt)(j:Nat):Bool:=(List.range j).any fun k=>nAt ss k==nAt ss j
def badB (a:Int)(ss:List Slt)(j:Nat):Bool:=badR a ss j||dupB ss j
def errB (a:Int)(ss:List Slt)(j:Nat):Int:=if badR a ss j then 2 else 7
def ents (l:List Int):List (Value×X):=l.map fun z=>(.int .i64 z,boolX true)
theorem find_ents (z:Int):∀(l:List Int) (i:Nat),(z∈l->∃k,mapFind (.int .i64 z) (ents l) i=some (some (k,boolX true)))/\(z∉l->mapFind (.int .i64 z) (ents l) i=some none)
 |[],i=>⟨fun h=>(by cases h),fun _=>rfl⟩
 |a::l,i=>by
  have ih:=find_ents z l (i+1);have e:mapFind (.int .i64 z) (ents (a::l)) i=if (z==a) then some (some (i,boolX true)) else mapFind (.int .i64 z) (ents l) (i+1):=by simp only [ents,qaO,mapFind,keySame,if_true];cases h:(z==a)<;>rfl
  rw [e];cases h:(z==a) with
  |true=>refine ⟨fun _=>⟨i,rfl⟩,fun hn=>?_⟩;exact absurd (by rw [eq_of_beq h];simp) hn
  |false=>
   have hne:z≠a:=ne_of_beq_false h;refine ⟨fun hm=>?_,fun hn=>?_⟩
   ·rcases qaz.1 hm with h1|h1;·exact absurd h1 hne
    exact ih.1 h1
   exact ih.2 fun h1=>hn (qaT _ h1)
theorem get_ents (z:Int)(l:List Int)(d:Bool)(hd:d=decide (z∈l)):mapGet false (boolX false) (.int .i64 z) (ents l)=some (boolX d):=by
 subst hd;unfold mapGet;by_cases h:z∈l;·obtain ⟨k,hk⟩:=(find_ents z l 0).1 h;rw [hk,decide_eq_true h];rfl
 rw [(find_ents z l 0).2 h,decide_eq_false h];rfl
theorem put_ents (z:Int)(l:List Int)(h:z∉l):mapPut (.int .i64 z) (boolX true) (ents l)=some (ents (l++[z])):=by unfold mapPut;rw [(find_ents z l 0).2 h];simp [ents]
def numsT (ss:List Slt)(j:Nat):List Int:=(List.range j).map (nAt ss)
theorem numsT_succ (ss:List Slt)(j:Nat):numsT ss (j+1)=numsT ss j++[nAt ss j]:=by simp [numsT,List.range_succ]
theorem dup_mem (ss:List Slt)(j:Nat):dupB ss j=decide (nAt ss j∈numsT ss j):=by
 unfold dupB numsT;by_cases h:nAt ss j∈(List.range j).map (nAt ss);·rw [decide_eq_true h];obtain ⟨k,hk,e⟩:=qaC.1 h;exact List.any_eq_true.2 ⟨k,hk,by rw [e];exact BEq.rfl⟩
 rw [decide_eq_false h];refine Bool.eq_false_iff.2 fun h1=>h ?_;obtain ⟨k,hk,e⟩:=List.any_eq_true.1 h1;exact qaC.2 ⟨k,hk,eq_of_beq e⟩
section
variable (cs:qaV) (a b:Int) (n j:Nat) (m:List (Value×X))
def cH:St:=⟨[(3,.ptr 0 0 0),(7,.mp 1),(43,.sl false 10 cs),(44,nat n),(45,nat j)],[.var [num a,num b,.sl false 10 cs],.map m]⟩
def iH:St:=⟨[(0,.sl false 10 cs),(1,.fn 105 []),(7,nat n),(8,nat j)],[]⟩
end
def cAt (ss:List Slt)(j:Nat):List X:=(ss[j]?.map Slt.cells).getD []
theorem cAt_get {j:Nat}(h:j<ss.length):cAt ss j=ss[j].cells:=by grind[cAt]
def sc (ss:List Slt)(a b:Int):List X:=[num a,num b,.sl false 10 (sltsC ss)]
theorem cH_canon (cs:qaV)(a b:Int)(n j:Nat)(m:List (Value×X))(x:List X):canon 0 ⟨[(3,.ptr 0 0 0),(7,.mp 1),(43,.sl false 10 cs),(44,nat n),(45,nat (j+1))],[.var [num a,num b,.sl false 10 cs],.map m,.var x]⟩=some (cH cs a b n (j+1) m):=by kernel_rfl
theorem c43_loop (ss:List Slt)(a b:Int)(hl:ss.length<=1000)(nc:List X):
  (∃j,j<(sltsC ss).length/\badB a ss j=true/\(∀i,i<j->badB a ss i=false)/\∀M,1<=M->(sltsC ss).length<M->run (callF tab ext M) 0 M (.loop (loopAt 59 0)) ⟨[(3,.ptr 1 0 0),(7,.mp 2),(43,.sl false 10 (sltsC ss)),(44,nat (sltsC ss).length),(45,num 0)],[.var nc,.var (sc ss a b),.map []]⟩=some (.ret,⟨[(4,num (errB a ss j))],[.var (sc ss a b),.map (ents (numsT ss j)),.var (cAt ss j)]⟩))\/
  ((∀j,j<(sltsC ss).length->badB a ss j=false)/\∀M,1<=M->(sltsC ss).length<M->run (callF tab ext M) 0 M (.loop (loopAt 59 0)) ⟨[(3,.ptr 1 0 0),(7,.mp 2),(43,.sl false 10 (sltsC ss)),(44,nat (sltsC ss).length),(45,num 0)],[.var nc,.var (sc ss a b),.map []]⟩=some (.exit 1,⟨[(3,.ptr 0 0 0),(7,.mp 1),(43,.sl false 10 (sltsC ss)),(44,nat (sltsC ss).length),(45,nat (sltsC ss).length),(46,boolX false)],[.var (sc ss a b),.map (ents (numsT ss (sltsC ss).length))]⟩)):=by
 have hn:=sltsC_length ss;refine scanP (H:=fun j=>cH (sltsC ss) a b (sltsC ss).length j (ents (numsT ss j))) (P:=badB a ss) (r:=fun j=>⟨[(4,num (errB a ss j))],[.var (sc ss a b),.map (ents (numsT ss j)),.var (cAt ss j)]⟩)
  (υ:=fun j=>⟨[(3,.ptr 0 0 0),(7,.mp 1),(43,.sl false 10 (sltsC ss)),(44,nat (sltsC ss).length),(45,nat (j+1))],[.var (sc ss a b),.map (ents (numsT ss (j+1))),.var (cAt ss j)]⟩) (by kernel_rfl) (fun j hj hP M hM=>?_) (fun j hj hP=>⟨cH_canon ..,fun M hM=>?_⟩) (fun M hM=>?_) (by simp)
 ·have hj':j<ss.length:=by omega
  have hg:=sltsC_get hj';have hx:=nAt_get hj';have hd:=get_ents (nAt ss j) (numsT ss j) _ (dup_mem ss j);unfold badB at hP;generalize dupB ss j=d at hP hd;rw [cAt_get hj'];unfold errB;generalize hb:badR a ss j=bb at hP;unfold badR at hb;generalize ents (numsT ss j)=m at hd ⊢;generalize nAt ss j=z at hx hb hd;generalize ss[j]=x at hg hx;obtain ⟨⟨x1,x2,x3,x4,x5,x6⟩,n,t,ms,vs⟩:=x;subst hx;cases h1:decide (z<1) with
  |true=>rw [h1] at hb;subst hb;exact run_of [(46,.b true),(47,.e (Slt.mk ⟨x1,x2,x3,x4,x5,x6⟩ z t ms vs).cells),(52,.b true)] [] (pf3 (lt_nat hj) hg h1) (lo':=[]) (by kernel_rfl)
  |false=>
   cases h2:decide (z>a) with
   |true=>rw [h1,h2] at hb;subst hb;exact run_of [(46,.b true),(47,.e (Slt.mk ⟨x1,x2,x3,x4,x5,x6⟩ z t ms vs).cells),(52,.b false),(58,.b true)] [] (pf4 (lt_nat hj) hg h1 h2) (lo':=[]) (by kernel_rfl)
   |false=>
    rw [h1,h2] at hb;subst hb;have hd1:d=true:=by simpa using hP
    subst hd1;exact run_of [(46,.b true),(47,.e (Slt.mk ⟨x1,x2,x3,x4,x5,x6⟩ z t ms vs).cells),(52,.b false),(58,.b false),(64,.g (boolX true))] [] (pf5 (lt_nat hj) hg h1 h2 hd) (lo':=[]) (by kernel_rfl)
 ·have hj':j<ss.length:=by omega
  have hg:=sltsC_get hj';have hx:=nAt_get hj';have hd:=get_ents (nAt ss j) (numsT ss j) _ (dup_mem ss j);have hnx:=next_nat (j:=j) (by omega);unfold badB at hP;rw [Bool.or_eq_false_iff] at hP;obtain ⟨hb,hdu⟩:=hP;rw [hdu] at hd;have hp:=put_ents (nAt ss j) (numsT ss j) (by grind[dup_mem]);rw [<-numsT_succ] at hp;unfold badR at hb;rw [Bool.or_eq_false_iff] at hb;obtain ⟨h1,h2⟩:=hb;rw [cAt_get hj'];generalize ents (numsT ss (j+1))=m' at hp ⊢;generalize ents (numsT ss j)=m at hd hp ⊢;generalize nAt ss j=z at hx h1 h2 hd hp;generalize ss[j]=x at hg hx;obtain ⟨⟨x1,x2,x3,x4,x5,x6⟩,n,t,ms,vs⟩:=x;subst hx;exact run_of [(46,.b true),(47,.e (Slt.mk ⟨x1,x2,x3,x4,x5,x6⟩ z t ms vs).cells),(52,.b false),(58,.b false),(64,.g (boolX false)),(1000065,.pm m'),(68,.i (Int.ofNat (j+1)))] [] (pf7 (lt_nat hj) hg h1 h2 hd hp hnx) (lo':=[]) (by kernel_rfl)
 exact run_of [(46,.b false)] [] (pf1 (nlt_nat (qar (sltsC ss).length))) (lo':=[]) (by kernel_rfl)
theorem other_pure (N:Nat)(x:Slt)(h:x.ok):Gam.pureD (callF tab ext (N+1)) 105 [.agg x.cells]=some (boolX (otherS x)):=by
 have hi:=h.items;have hv:=h.vals;have e1:=msgsC_length x.items;have e2:(cellsL x.vals).length=x.vals.length:=by rw [cellsL_eq,qay]
 have hd:decide (IntKind.i64.wrap (Int.ofNat (msgsC x.items).length+Int.ofNat (cellsL x.vals).length)>0)=decide (0<x.items.length+x.vals.length):=by
  have:IntKind.i64.wrap (Int.ofNat (msgsC x.items).length+Int.ofNat (cellsL x.vals).length)=Int.ofNat (x.items.length+x.vals.length):=by rw [IntKind.wrap_i64,e1,e2];simp only [qam];omega
  rw [this];simp only [qam,gt_iff_lt]
  congr 1
  exact propext (by omega)
 unfold otherS;obtain ⟨⟨x1,x2,x3,x4,x5,x6⟩,n,t,ms,vs⟩:=x;dsimp only at hd ⊢;generalize decide (0<ms.length+vs.length)=d at hd ⊢;cases h1:(!(t==0)) with
 |true=>exact pure_of [(5,.b true)] [] (pf1 h1) (x:=boolX true) (bx:=[]) (by kernel_rfl) rfl
 |false=>exact pure_of [(5,.b false),(14,.b d)] [] (pf2 h1 hd) (x:=boolX d) (bx:=[]) (by kernel_rfl) rfl
theorem i178_loop (ss:List Slt)(hs:∀x,x∈ss->x.ok)(hl:ss.length<=1000):
  (∃j,j<(sltsC ss).length/\oAt ss j=true/\(∀i,i<j->oAt ss i=false)/\∀M,1<=M->(sltsC ss).length<M->run (callF tab ext M) 0 M (.loop (loopAt 161 0)) ⟨[(0,.sl false 10 (sltsC ss)),(1,.fn 105 []),(7,nat (sltsC ss).length),(8,num 0)],[]⟩=some (.ret,⟨[(4,nat j)],[]⟩))\/
  ((∀j,j<(sltsC ss).length->oAt ss j=false)/\∀M,1<=M->(sltsC ss).length<M->run (callF tab ext M) 0 M (.loop (loopAt 161 0)) ⟨[(0,.sl false 10 (sltsC ss)),(1,.fn 105 []),(7,nat (sltsC ss).length),(8,num 0)],[]⟩=some (.exit 0,⟨[(0,.sl false 10 (sltsC ss)),(1,.fn 105 []),(7,nat (sltsC ss).length),(8,nat (sltsC ss).length),(9,boolX false)],[]⟩)):=by
 have hn:=sltsC_length ss;refine scanP (H:=fun j=>iH (sltsC ss) (sltsC ss).length j) (P:=oAt ss) (r:=fun j=>⟨[(4,nat j)],[]⟩)
  (υ:=fun j=>iH (sltsC ss) (sltsC ss).length (j+1)) (by kernel_rfl) (fun j hj hP M hM=>?_) (fun j hj hP=>⟨by kernel_rfl,fun M hM=>?_⟩) (fun M hM=>?_) (by simp)
 ·have hj':j<ss.length:=by omega
  have hg:=sltsC_get hj';obtain ⟨K,rfl⟩:∃K,M=K+1:=⟨M-1,by omega⟩;have ho:=other_pure K ss[j] (hs _ (qal hj'));rw [<-oAt_get hj',hP] at ho;generalize ss[j]=x at hg ho;obtain ⟨⟨x1,x2,x3,x4,x5,x6⟩,n,t,ms,vs⟩:=x;exact run_of [(9,.b true),(14,.e (Slt.mk ⟨x1,x2,x3,x4,x5,x6⟩ n t ms vs).cells),(16,.p (boolX true))] [] (pf3 (lt_nat hj) hg ho) (lo':=[]) (by kernel_rfl)
 ·have hj':j<ss.length:=by omega
  have hg:=sltsC_get hj';obtain ⟨K,rfl⟩:∃K,M=K+1:=⟨M-1,by omega⟩;have ho:=other_pure K ss[j] (hs _ (qal hj'));have hnx:=next_nat (j:=j) (by omega);rw [<-oAt_get hj',hP] at ho;generalize ss[j]=x at hg ho;obtain ⟨⟨x1,x2,x3,x4,x5,x6⟩,n,t,ms,vs⟩:=x;exact run_of [(9,.b true),(14,.e (Slt.mk ⟨x1,x2,x3,x4,x5,x6⟩ n t ms vs).cells),(16,.p (boolX false)),(18,.i (Int.ofNat (j+1)))] [] (pf4 (lt_nat hj) hg ho hnx) (lo':=[]) (by kernel_rfl)
 exact run_of [(9,.b false)] [] (pf1 (nlt_nat (qar (sltsC ss).length))) (lo':=[]) (by kernel_rfl)
theorem contains_pure (ss:List Slt)(hs:∀x,x∈ss->x.ok)(hl:ss.length<=1000)(N:Nat)(hN:1010<=N):
  ((∃j,j<(sltsC ss).length/\oAt ss j=true)/\Gam.pureD (callF tab ext N) 103 [.sl false 10 (sltsC ss),.fn 105 []]=some (boolX true))\/((∀j,j<(sltsC ss).length->oAt ss j=false)/\Gam.pureD (callF tab ext N) 103 [.sl false 10 (sltsC ss),.fn 105 []]=some (boolX false)):=by
 obtain ⟨M,rfl⟩:∃M,N=M+2:=⟨N-2,by omega⟩;have hn:=sltsC_length ss;rcases i178_loop ss hs hl with ⟨j,hj,hP,_,h⟩|⟨hall,h⟩
 ·have h:=h M (by omega) (by omega);have h1:Gam.pureD (callF tab ext (M+1)) 161 [.sl false 10 (sltsC ss),.fn 105 []]=some (nat j):=
   pure_of [] [(.ret,⟨[(4,nat j)],[]⟩)] (pf1 h) (x:=nat j) (bx:=[]) (by kernel_rfl) rfl
  have hge:decide (Int.ofNat j>=0)=true:=decide_eq_true (Int.natCast_nonneg j);exact .inl ⟨⟨j,hj,hP⟩,pure_of [(7,.p (nat j)),(8,.b true)] [] (pf2 h1 hge) (x:=boolX true) (bx:=[]) (by kernel_rfl) rfl⟩
 have h:=h M (by omega) (by omega);have h1:Gam.pureD (callF tab ext (M+1)) 161 [.sl false 10 (sltsC ss),.fn 105 []]=some (num (-1)):=
  pure_of [] [(.exit 0,⟨[(0,.sl false 10 (sltsC ss)),(1,.fn 105 []),(7,nat (sltsC ss).length),(8,nat (sltsC ss).length),(9,boolX false)],[]⟩)] (pf1 h) (x:=num (-1)) (bx:=[]) (by kernel_rfl) rfl
 exact .inr ⟨hall,pure_of [(7,.p (num (-1)))] [] (pf1 h1) (x:=boolX false) (bx:=[]) (by kernel_rfl) rfl⟩
def Val.kindOf:Val->Int
 |.mk k _ _ _ _ _=>k
def Val.intOf:Val->Int
 |.mk _ i _ _ _ _=>i
def nilV:Val:=.mk 0 0 0 ⟨#[]⟩ [] []
def badV (l:Int)(v:Val):Bool:=(v.kindOf !=2)||(decide (v.intOf<=l)||decide (v.intOf>999999999999998))
def lastAt (n:Int)(vs:List Val):Nat->Int
 |0=>n
 |j+1=>(vs.getD j nilV).intOf
def badAt (n:Int)(vs:List Val)(j:Nat):Bool:=badV (lastAt n vs j) (vs.getD j nilV)
theorem getD_of {α:Type}{l:List α}{j:Nat}{d:α}(h:j<l.length):l.getD j d=l[j]:=by rw [qaF,qad h];rfl
def Wrong (x:Slt):Prop:=x.n<1\/x.vals.length≠x.items.length\/(x.t≠0/\x.items.length=0)\/∃j,j<x.vals.length/\badAt x.n x.vals j=true
section
variable (vs:qaV) (n:Nat) (l:Int) (j:Nat)
def wrH:St:=⟨[(3,num l),(32,.sl false 6 vs),(33,nat n),(34,nat j)],[]⟩
end
theorem wr_loop (n:Int)(vs:List Val)(hl:vs.length<=60000)(vc:List X):
  (∃j,j<(cellsL vs).length/\badAt n vs j=true/\(∀i,i<j->badAt n vs i=false)/\∀M,1<=M->(cellsL vs).length<M->run (callF tab ext M) 0 M (.loop (loopAt 104 0)) ⟨[(3,num n),(32,.sl false 6 (cellsL vs)),(33,nat (cellsL vs).length),(34,num 0)],[.var vc]⟩=some (.ret,⟨[(2,boolX true)],[.var (vs.getD j nilV).cells]⟩))\/
  ((∀j,j<(cellsL vs).length->badAt n vs j=false)/\∀M,1<=M->(cellsL vs).length<M->run (callF tab ext M) 0 M (.loop (loopAt 104 0)) ⟨[(3,num n),(32,.sl false 6 (cellsL vs)),(33,nat (cellsL vs).length),(34,num 0)],[.var vc]⟩=some (.exit 0,⟨[(3,num (lastAt n vs (cellsL vs).length)),(32,.sl false 6 (cellsL vs)),(33,nat (cellsL vs).length),(34,nat (cellsL vs).length),(35,boolX false)],[]⟩)):=by
 have hn:=cellsL_length vs;refine scanP (H:=fun j=>wrH (cellsL vs) (cellsL vs).length (lastAt n vs j) j) (P:=badAt n vs) (r:=fun j=>⟨[(2,boolX true)],[.var (vs.getD j nilV).cells]⟩)
  (υ:=fun j=>⟨[(3,num (vs.getD j nilV).intOf),(32,.sl false 6 (cellsL vs)),(33,nat (cellsL vs).length),(34,nat (j+1))],[.var (vs.getD j nilV).cells]⟩) (by kernel_rfl) (fun j hj hP M hM=>?_) (fun j hj hP=>⟨?_,fun M hM=>?_⟩) (fun M hM=>?_) (by simp)
 ·have hj':j<vs.length:=by omega
  have hi:=cellsL_get hj';unfold badAt at hP;rw [getD_of hj'] at hP ⊢;generalize lastAt n vs j=l at hP ⊢;generalize vs[j]=x at hi hP ⊢;obtain ⟨k,i,s,t,ll,ff⟩:=x;unfold badV at hP;dsimp only [Val.kindOf,Val.intOf] at hP;cases h1:(k !=2) with
  |true=>exact run_of [(35,.b true),(36,.e (Val.mk k i s t ll ff).cells),(40,.b true)] [] (pf3 (lt_nat hj) hi h1) (lo':=[]) (by kernel_rfl)
  |false=>
   cases h2:(decide (i<=l)) with
   |true=>exact run_of [(35,.b true),(36,.e (Val.mk k i s t ll ff).cells),(40,.b false),(45,.b true)] [] (pf4 (lt_nat hj) hi h1 h2) (lo':=[]) (by kernel_rfl)
   |false=>
    simp only [Bool.or_eq_true] at hP;have h3:decide (i>999999999999998)=true:=by
     rcases hP with h|h|h;·rw [h1] at h;cases h
     ·exact absurd (of_decide_eq_true h) (of_decide_eq_false h2)
     exact h
    exact run_of [(35,.b true),(36,.e (Val.mk k i s t ll ff).cells),(40,.b false),(45,.b false),(50,.b true)] [] (pf5 (lt_nat hj) hi h1 h2 h3) (lo':=[]) (by kernel_rfl)
 ·have hj':j<vs.length:=by omega
  change canon 0 ⟨[(3,num (vs.getD j nilV).intOf),(32,.sl false 6 (cellsL vs)),(33,nat (cellsL vs).length),(34,nat (j+1))],[.var (vs.getD j nilV).cells]⟩=some (wrH (cellsL vs) (cellsL vs).length (vs.getD j nilV).intOf (j+1));generalize vs.getD j nilV=x;obtain ⟨k,i,s,t,ll,ff⟩:=x;kernel_rfl
 ·have hj':j<vs.length:=by omega
  have hi:=cellsL_get hj';have hnx:=next_nat (j:=j) (by omega);unfold badAt at hP;rw [getD_of hj'] at hP ⊢;generalize lastAt n vs j=l at hP ⊢;generalize vs[j]=x at hi hP ⊢;obtain ⟨k,i,s,t,ll,ff⟩:=x;unfold badV at hP;dsimp only [Val.kindOf,Val.intOf] at hP;simp only [Bool.or_eq_false_iff] at hP;exact run_of [(35,.b true),(36,.e (Val.mk k i s t ll ff).cells),(40,.b false),(45,.b false),(50,.b false),(54,.i (Int.ofNat (j+1)))] [] (pf6 (lt_nat hj) hi hP.1 hP.2.1 hP.2.2 hnx) (lo':=[]) (by kernel_rfl)
 exact run_of [(35,.b false)] [] (pf1 (nlt_nat (qar (cellsL vs).length))) (lo':=[]) (by kernel_rfl)
theorem bne_nat {a b:Nat}(h:a≠b):(Int.ofNat a !=Int.ofNat b)=true:=by simp only [bne_iff_ne,ne_eq,qam];omega
theorem bne_nat' {a b:Nat}(h:a=b):(Int.ofNat a !=Int.ofNat b)=false:=by subst h;simp
theorem wrong_ex (x:Slt)(h:x.ok):∃w:Bool,(w=true↔Wrong x)/\∀N,60010<=N->Gam.pureD (callF tab ext N) 104 [.agg x.cells]=some (boolX w):=by
 have e1:=msgsC_length x.items;have e2:=cellsL_length x.vals;have hv:=h.vals;unfold Wrong;obtain ⟨⟨x1,x2,x3,x4,x5,x6⟩,n,t,ms,vs⟩:=x;dsimp only at e1 e2 hv ⊢;cases h1:(decide (n<1)) with
 |true=>refine ⟨true,⟨fun _=>.inl (of_decide_eq_true h1),fun _=>rfl⟩,fun N hN=>?_⟩;obtain ⟨M,rfl⟩:∃M,N=M+1:=⟨N-1,by omega⟩;exact pure_of [(8,.b true)] [] (pf1 h1) (x:=boolX true) (bx:=[]) (by kernel_rfl) rfl
 |false=>
  have g1:=of_decide_eq_false h1;by_cases h2:(cellsL vs).length=(msgsC ms).length
  ·have h2':=bne_nat' h2;have key:(t !=0)=false\/((t !=0)=true/\(Int.ofNat (msgsC ms).length==0)=false)\/((t !=0)=true/\(Int.ofNat (msgsC ms).length==0)=true):=by
    cases (t !=0)<;>cases (Int.ofNat (msgsC ms).length==0)<;>simp
   rcases key with h3|⟨h3,h4⟩|⟨h3,h4⟩
   ·have g3:t=0:=by simpa using h3
    rcases wr_loop n vs hv [num x1,num x2,num x3,strX x4,.sl false 6 (cellsL x5),.sl false 7 (cellsF x6),num n,num t,.sl false 10 (msgsC ms),.sl false 6 (cellsL vs)] with ⟨j,hj,hP,_,hl⟩|⟨hall,hl⟩;·refine ⟨true,⟨fun _=>.inr (.inr (.inr ⟨j,by omega,hP⟩)),fun _=>rfl⟩,fun N hN=>?_⟩;obtain ⟨M,rfl⟩:∃M,N=M+1:=⟨N-1,by omega⟩;have hl:=hl M (by omega) (by omega);generalize vs.getD j nilV=y at hl;obtain ⟨y1,y2,y3,y4,y5,y6⟩:=y;exact pure_of [(8,.b false),(16,.b false),(21,.b false)] [(.ret,⟨[(2,boolX true)],[.var (Val.mk y1 y2 y3 y4 y5 y6).cells]⟩)] (pf4 h1 h2' h3 hl) (x:=boolX true) (bx:=[]) (by kernel_rfl) rfl
    refine ⟨false,⟨fun e=>(by cases e),?_⟩,fun N hN=>?_⟩
    ·rintro (h|h|h|⟨j,h,h'⟩)
     ·exact absurd h g1
     ·omega
     ·exact absurd g3 h.1
     rw [hall j (by omega)] at h';exact h'
    obtain ⟨M,rfl⟩:∃M,N=M+1:=⟨N-1,by omega⟩;have hl:=hl M (by omega) (by omega);generalize lastAt n vs (cellsL vs).length=la at hl;exact pure_of [(8,.b false),(16,.b false),(21,.b false)] [(.exit 0,⟨[(3,num la),(32,.sl false 6 (cellsL vs)),(33,nat (cellsL vs).length),(34,nat (cellsL vs).length),(35,boolX false)],[]⟩)] (pf4 h1 h2' h3 hl) (x:=boolX false) (bx:=[]) (by kernel_rfl) rfl
   ·have g4:(msgsC ms).length≠0:=by have:=ne_of_beq_false h4;simp only [qam] at this;omega
    rcases wr_loop n vs hv [num x1,num x2,num x3,strX x4,.sl false 6 (cellsL x5),.sl false 7 (cellsF x6),num n,num t,.sl false 10 (msgsC ms),.sl false 6 (cellsL vs)] with ⟨j,hj,hP,_,hl⟩|⟨hall,hl⟩;·refine ⟨true,⟨fun _=>.inr (.inr (.inr ⟨j,by omega,hP⟩)),fun _=>rfl⟩,fun N hN=>?_⟩;obtain ⟨M,rfl⟩:∃M,N=M+1:=⟨N-1,by omega⟩;have hl:=hl M (by omega) (by omega);generalize vs.getD j nilV=y at hl;obtain ⟨y1,y2,y3,y4,y5,y6⟩:=y;exact pure_of [(8,.b false),(16,.b false),(21,.b true),(26,.b false)] [(.ret,⟨[(2,boolX true)],[.var (Val.mk y1 y2 y3 y4 y5 y6).cells]⟩)] (pf5 h1 h2' h3 h4 hl) (x:=boolX true) (bx:=[]) (by kernel_rfl) rfl
    refine ⟨false,⟨fun e=>(by cases e),?_⟩,fun N hN=>?_⟩
    ·rintro (h|h|h|⟨j,h,h'⟩)
     ·exact absurd h g1
     ·omega
     ·omega
     rw [hall j (by omega)] at h';exact h'
    obtain ⟨M,rfl⟩:∃M,N=M+1:=⟨N-1,by omega⟩;have hl:=hl M (by omega) (by omega);generalize lastAt n vs (cellsL vs).length=la at hl;exact pure_of [(8,.b false),(16,.b false),(21,.b true),(26,.b false)] [(.exit 0,⟨[(3,num la),(32,.sl false 6 (cellsL vs)),(33,nat (cellsL vs).length),(34,nat (cellsL vs).length),(35,boolX false)],[]⟩)] (pf5 h1 h2' h3 h4 hl) (x:=boolX false) (bx:=[]) (by kernel_rfl) rfl
   refine ⟨true,⟨fun _=>.inr (.inr (.inl ⟨by simpa using h3,?_⟩)),fun _=>rfl⟩,fun N hN=>?_⟩;·have:=eq_of_beq h4;simp only [qam] at this;omega
   obtain ⟨M,rfl⟩:∃M,N=M+1:=⟨N-1,by omega⟩;exact pure_of [(8,.b false),(16,.b false),(21,.b true),(26,.b true)] [] (pf4 h1 h2' h3 h4) (x:=boolX true) (bx:=[]) (by kernel_rfl) rfl
  have h2':=bne_nat h2;refine ⟨true,⟨fun _=>.inr (.inl (by omega)),fun _=>rfl⟩,fun N hN=>?_⟩;obtain ⟨M,rfl⟩:∃M,N=M+1:=⟨N-1,by omega⟩;exact pure_of [(8,.b false),(16,.b true)] [] (pf2 h1 h2') (x:=boolX true) (bx:=[]) (by kernel_rfl) rfl
noncomputable def wrongD (x:Slt):Bool:=@decide (Wrong x) (Classical.propDecidable _)
theorem wrong_pure (x:Slt)(h:x.ok)(N:Nat)(hN:60010<=N):Gam.pureD (callF tab ext N) 104 [.agg x.cells]=some (boolX (wrongD x)):=by
 obtain ⟨w,hw,hf⟩:=wrong_ex x h;have:w=wrongD x:=by
  unfold wrongD;cases w with
  |true=>exact (@decide_eq_true _ (Classical.propDecidable _) (hw.1 rfl)).symm
  |false=>exact (@decide_eq_false _ (Classical.propDecidable _) (fun e=>by have:=hw.2 e;cases this)).symm
 rw [<-this];exact hf N hN
theorem index_gen (g:FuncId)(w:Slt->Bool)(B:Nat)(_hB:1<=B)(ss:List Slt)(hl:ss.length<=60000)(hw:∀x,x∈ss->∀N,B<=N->Gam.pureD (callF tab ext N) g [.agg x.cells]=some (boolX (w x))):
  (∃j,j<(sltsC ss).length/\w (ss.getD j dSlt)=true/\(∀i,i<j->w (ss.getD i dSlt)=false)/\∀M,B<=M->(sltsC ss).length<M->run (callF tab ext M) 0 M (.loop (loopAt 161 0)) ⟨[(0,.sl false 10 (sltsC ss)),(1,.fn g []),(7,nat (sltsC ss).length),(8,num 0)],[]⟩=some (.ret,⟨[(4,nat j)],[]⟩))\/
  ((∀j,j<(sltsC ss).length->w (ss.getD j dSlt)=false)/\∀M,B<=M->(sltsC ss).length<M->run (callF tab ext M) 0 M (.loop (loopAt 161 0)) ⟨[(0,.sl false 10 (sltsC ss)),(1,.fn g []),(7,nat (sltsC ss).length),(8,num 0)],[]⟩=some (.exit 0,⟨[(0,.sl false 10 (sltsC ss)),(1,.fn g []),(7,nat (sltsC ss).length),(8,nat (sltsC ss).length),(9,boolX false)],[]⟩)):=by
 have hn:=sltsC_length ss;refine scanP (H:=fun j=>⟨[(0,.sl false 10 (sltsC ss)),(1,.fn g []),(7,nat (sltsC ss).length),(8,nat j)],[]⟩) (P:=fun j=>w (ss.getD j dSlt)) (r:=fun j=>⟨[(4,nat j)],[]⟩)
  (υ:=fun j=>⟨[(0,.sl false 10 (sltsC ss)),(1,.fn g []),(7,nat (sltsC ss).length),(8,nat (j+1))],[]⟩) (by kernel_rfl) (fun j hj hP M hM=>?_) (fun j hj hP=>⟨by kernel_rfl,fun M hM=>?_⟩) (fun M hM=>?_) (by simp)
 ·have hj':j<ss.length:=by omega
  have hg:=sltsC_get hj';have ho:=hw ss[j] (qal hj') M hM;rw [getD_of hj'] at hP;rw [hP] at ho;generalize ss[j]=x at hg ho;obtain ⟨⟨x1,x2,x3,x4,x5,x6⟩,n,t,ms,vs⟩:=x;exact run_of [(9,.b true),(14,.e (Slt.mk ⟨x1,x2,x3,x4,x5,x6⟩ n t ms vs).cells),(16,.p (boolX true))] [] (pf3 (lt_nat hj) hg ho) (lo':=[]) (by kernel_rfl)
 ·have hj':j<ss.length:=by omega
  have hg:=sltsC_get hj';have ho:=hw ss[j] (qal hj') M hM;have hnx:=next_nat (j:=j) (by omega);rw [getD_of hj'] at hP;rw [hP] at ho;generalize ss[j]=x at hg ho;obtain ⟨⟨x1,x2,x3,x4,x5,x6⟩,n,t,ms,vs⟩:=x;exact run_of [(9,.b true),(14,.e (Slt.mk ⟨x1,x2,x3,x4,x5,x6⟩ n t ms vs).cells),(16,.p (boolX false)),(18,.i (Int.ofNat (j+1)))] [] (pf4 (lt_nat hj) hg ho hnx) (lo':=[]) (by kernel_rfl)
 exact run_of [(9,.b false)] [] (pf1 (nlt_nat (qar (sltsC ss).length))) (lo':=[]) (by kernel_rfl)
theorem contains_gen (g:FuncId)(w:Slt->Bool)(B:Nat)(_hB:1<=B)(ss:List Slt)(hl:ss.length<=60000)(hw:∀x,x∈ss->∀N,B<=N->Gam.pureD (callF tab ext N) g [.agg x.cells]=some (boolX (w x))):
  ∃c:Bool,(c=true↔∃x,x∈ss/\w x=true)/\∀N,B+ss.length+10<=N->Gam.pureD (callF tab ext N) 103 [.sl false 10 (sltsC ss),.fn g []]=some (boolX c):=by
 have hn:=sltsC_length ss;rcases index_gen g w B _hB ss hl hw with ⟨j,hj,hP,_,h⟩|⟨hall,h⟩
 ·refine ⟨true,⟨fun _=>⟨ss[j]'(by omega),qal _,by rw [<-getD_of (d:=dSlt)];exact hP⟩,fun _=>rfl⟩,fun N hN=>?_⟩;obtain ⟨M,rfl⟩:∃M,N=M+2:=⟨N-2,by omega⟩;have h:=h M (by omega) (by omega);have h1:Gam.pureD (callF tab ext (M+1)) 161 [.sl false 10 (sltsC ss),.fn g []]=some (nat j):=
   pure_of [] [(.ret,⟨[(4,nat j)],[]⟩)] (pf1 h) (x:=nat j) (bx:=[]) (by kernel_rfl) rfl
  have hge:decide (Int.ofNat j>=0)=true:=decide_eq_true (Int.natCast_nonneg j);exact pure_of [(7,.p (nat j)),(8,.b true)] [] (pf2 h1 hge) (x:=boolX true) (bx:=[]) (by kernel_rfl) rfl
 refine ⟨false,⟨fun e=>(by cases e),?_⟩,fun N hN=>?_⟩
 ·rintro ⟨x,hx,e⟩
  obtain ⟨j,hj,rfl⟩:=qaU hx;have:=hall j (by omega);rw [getD_of hj,e] at this;cases this
 obtain ⟨M,rfl⟩:∃M,N=M+2:=⟨N-2,by omega⟩;have h:=h M (by omega) (by omega);have h1:Gam.pureD (callF tab ext (M+1)) 161 [.sl false 10 (sltsC ss),.fn g []]=some (num (-1)):=
  pure_of [] [(.exit 0,⟨[(0,.sl false 10 (sltsC ss)),(1,.fn g []),(7,nat (sltsC ss).length),(8,nat (sltsC ss).length),(9,boolX false)],[]⟩)] (pf1 h) (x:=num (-1)) (bx:=[]) (by kernel_rfl) rfl
 exact pure_of [(7,.p (num (-1)))] [] (pf1 h1) (x:=boolX false) (bx:=[]) (by kernel_rfl) rfl
end Go.Proofs.YtonnphbfclaigaaGreatDoor
namespace Go.Proofs.YtonnphbfclaigaaGreatDoor.Ck
open Go Go.Em Go.Proofs.YtonnphbfclaigaaGreatDoor
set_option maxRecDepth 100000
set_option linter.unusedVariables false
variable {g:Bool}{c z:Int}
theorem fn58 (nd:Nod)(s:Stt)(hs:s.small):∃c:Int,∀N,260080<=N->Gam.pureD (callF tab ext N) 58 [.agg nd.cells,.agg s.cells]=some (num c):=by
 obtain ⟨f,_,hfs⟩:=state_ex s hs;have hsl:=hs.slots;have hso:=hs.ok.slot;obtain ⟨a,b,sl⟩:=s;dsimp only at hsl hso;obtain ⟨q,_,hcs⟩:=contains_gen 104 wrongD 60010 (by omega) sl (by omega) (fun x hx N hN=>wrong_pure x (hso x hx) N hN);have hos:∀N,10<=N->Gam.pureD (callF tab ext (N+1)) 66 [.sl false 1 [[num a],[num b]]]=some (num (orL [a,b])):=fun N hN=>or_pure N [a,b] (by simp) (by simp;omega);generalize orL [a,b]=o at hos;show ∃c:Int,∀N,260080<=N->Gam.pureD (callF tab ext N) 58 [.agg nd.cells,.agg [num a,num b,.sl false 10 (sltsC sl)]]=some (num c);have hfs:∀N,190060<=N->Gam.pureD (callF tab ext N) 101 [.agg [num a,num b,.sl false 10 (sltsC sl)]]=some (num f):=hfs;generalize sltsC sl=ss at*;cases h1:(nd.kind !=5) with
 |true=>exact ⟨11,fun N hN=>by obtain ⟨M,rfl⟩:∃M,N=M+2:=⟨N-2,by omega⟩;have hf:=hfs (M+1) (by omega);have ho:=hos M (by omega);have hc:=hcs (M+1) (by omega);exact pure_of [(8,.b true)] [] (pf1 h1) (x:=num 11) (bx:=[]) (by kernel_rfl) rfl⟩
 |false=>
  cases h2:(f !=0) with
  |true=>exact ⟨f,fun N hN=>by obtain ⟨M,rfl⟩:∃M,N=M+2:=⟨N-2,by omega⟩;have hf:=hfs (M+1) (by omega);have ho:=hos M (by omega);have hc:=hcs (M+1) (by omega);exact pure_of [(8,.b false),(10,.p (num f)),(12,.b true)] [] (pf3 h1 hf h2) (x:=num f) (bx:=[]) (by kernel_rfl) rfl⟩
  |false=>
   cases h3:(o !=0) with
   |true=>exact ⟨10,fun N hN=>by obtain ⟨M,rfl⟩:∃M,N=M+2:=⟨N-2,by omega⟩;have hf:=hfs (M+1) (by omega);have ho:=hos M (by omega);have hc:=hcs (M+1) (by omega);exact pure_of [(8,.b false),(10,.p (num f)),(12,.b false),(19,.p (num o)),(20,.b true)] [] (pf5 h1 hf h2 ho h3) (x:=num 10) (bx:=[]) (by kernel_rfl) rfl⟩
   |false=>
    rcases Bool.eq_false_or_eq_true q with h4|h4
    ·
     exact ⟨10,fun N hN=>by obtain ⟨M,rfl⟩:∃M,N=M+2:=⟨N-2,by omega⟩;have hf:=hfs (M+1) (by omega);have ho:=hos M (by omega);have hc:=hcs (M+1) (by omega);exact pure_of [(8,.b false),(10,.p (num f)),(12,.b false),(19,.p (num o)),(20,.b false),(24,.p (boolX q)),(25,.b true)] [] (pf7 h1 hf h2 ho h3 hc h4) (x:=num 10) (bx:=[]) (by kernel_rfl) rfl⟩
    ·
     exact ⟨0,fun N hN=>by obtain ⟨M,rfl⟩:∃M,N=M+2:=⟨N-2,by omega⟩;have hf:=hfs (M+1) (by omega);have ho:=hos M (by omega);have hc:=hcs (M+1) (by omega);exact pure_of [(8,.b false),(10,.p (num f)),(12,.b false),(19,.p (num o)),(20,.b false),(24,.p (boolX q)),(25,.b false)] [] (pf7 h1 hf h2 ho h3 hc h4) (x:=num 0) (bx:=[]) (by kernel_rfl) rfl⟩
theorem fn59 (nd:Nod)(s:Stt)(hs:s.small):∃c:Int,∀N,190080<=N->Gam.pureD (callF tab ext N) 59 [.agg nd.cells,.agg s.cells]=some (num c):=by
 obtain ⟨f,_,hfs⟩:=state_ex s hs;have hsl:=hs.slots;have hso:=hs.ok.slot;obtain ⟨a,b,sl⟩:=s;dsimp only at hsl hso;have hn:=sltsC_length sl;have h256:decide (Int.ofNat (sltsC sl).length>256)=false:=decide_eq_false (by simp only [qam];omega);have hcq:∃q:Bool,∀N,1010<=N->Gam.pureD (callF tab ext N) 103 [.sl false 10 (sltsC sl),.fn 105 []]=some (boolX q):=by
  by_cases hq:∃j,j<(sltsC sl).length/\oAt sl j=true
  ·refine ⟨true,fun N hN=>?_⟩;rcases contains_pure sl hso (by omega) N hN with ⟨_,h⟩|⟨h,_⟩;·exact h
   obtain ⟨j,h1,h2⟩:=hq;rw [h j h1] at h2;cases h2
  refine ⟨false,fun N hN=>?_⟩;rcases contains_pure sl hso (by omega) N hN with ⟨h,_⟩|⟨_,h⟩;·exact absurd h hq
  exact h
 obtain ⟨q,hcs⟩:=hcq;have hL:(∃(c:Int) (bx:List Bx),∀M,1<=M->(sltsC sl).length<M->run (callF tab ext M) 0 M (.loop (loopAt 59 0)) ⟨[(3,.ptr 1 0 0),(7,.mp 2),(43,.sl false 10 (sltsC sl)),(44,nat (sltsC sl).length),(45,num 0)],[.var nd.cells,.var [num a,num b,.sl false 10 (sltsC sl)],.map []]⟩=some (.ret,⟨[(4,num c)],bx⟩))\/
   (∃m:List (Value×X),∀M,1<=M->(sltsC sl).length<M->run (callF tab ext M) 0 M (.loop (loopAt 59 0)) ⟨[(3,.ptr 1 0 0),(7,.mp 2),(43,.sl false 10 (sltsC sl)),(44,nat (sltsC sl).length),(45,num 0)],[.var nd.cells,.var [num a,num b,.sl false 10 (sltsC sl)],.map []]⟩=some (.exit 1,⟨[(3,.ptr 0 0 0),(7,.mp 1),(43,.sl false 10 (sltsC sl)),(44,nat (sltsC sl).length),(45,nat (sltsC sl).length),(46,boolX false)],[.var [num a,num b,.sl false 10 (sltsC sl)],.map m]⟩)):=by
  rcases c43_loop sl a b (by omega) nd.cells with ⟨j,_,_,_,h⟩|⟨_,h⟩;·exact .inl ⟨_,_,h⟩
  exact .inr ⟨_,h⟩
 show ∃c:Int,∀N,190080<=N->Gam.pureD (callF tab ext N) 59 [.agg nd.cells,.agg [num a,num b,.sl false 10 (sltsC sl)]]=some (num c);have hfs:∀N,190060<=N->Gam.pureD (callF tab ext N) 101 [.agg [num a,num b,.sl false 10 (sltsC sl)]]=some (num f):=hfs;generalize sltsC sl=ss at*;rcases hL with ⟨c,bx,hls⟩|⟨m,hls⟩
 ·cases h1:(nd.kind !=6) with
  |true=>exact ⟨11,fun N hN=>by obtain ⟨M,rfl⟩:∃M,N=M+1:=⟨N-1,by omega⟩;have hf:=hfs M (by omega);have hc:=hcs M (by omega);have hl:=hls M (by omega) (by omega);exact pure_of [(12,.b true)] [] (pf1 h1) (x:=num 11) (bx:=[]) (by kernel_rfl) rfl⟩
  |false=>
   cases h2:(f !=0) with
   |true=>exact ⟨f,fun N hN=>by obtain ⟨M,rfl⟩:∃M,N=M+1:=⟨N-1,by omega⟩;have hf:=hfs M (by omega);have hc:=hcs M (by omega);have hl:=hls M (by omega) (by omega);exact pure_of [(12,.b false),(14,.p (num f)),(16,.b true)] [] (pf3 h1 hf h2) (x:=num f) (bx:=[]) (by kernel_rfl) rfl⟩
   |false=>
    cases h3:(decide (a<0)) with
    |true=>exact ⟨2,fun N hN=>by obtain ⟨M,rfl⟩:∃M,N=M+1:=⟨N-1,by omega⟩;have hf:=hfs M (by omega);have hc:=hcs M (by omega);have hl:=hls M (by omega) (by omega);exact pure_of [(12,.b false),(14,.p (num f)),(16,.b false),(20,.b true)] [] (pf4 h1 hf h2 h3) (x:=num 2) (bx:=[]) (by kernel_rfl) rfl⟩
    |false=>
     cases h4:(decide (a>1099511627776)) with
     |true=>exact ⟨2,fun N hN=>by obtain ⟨M,rfl⟩:∃M,N=M+1:=⟨N-1,by omega⟩;have hf:=hfs M (by omega);have hc:=hcs M (by omega);have hl:=hls M (by omega) (by omega);exact pure_of [(12,.b false),(14,.p (num f)),(16,.b false),(20,.b false),(24,.b true)] [] (pf5 h1 hf h2 h3 h4) (x:=num 2) (bx:=[]) (by kernel_rfl) rfl⟩
     |false=>
      cases h5:(b !=0) with
      |true=>exact ⟨10,fun N hN=>by obtain ⟨M,rfl⟩:∃M,N=M+1:=⟨N-1,by omega⟩;have hf:=hfs M (by omega);have hc:=hcs M (by omega);have hl:=hls M (by omega) (by omega);exact pure_of [(12,.b false),(14,.p (num f)),(16,.b false),(20,.b false),(24,.b false),(29,.b true)] [] (pf6 h1 hf h2 h3 h4 h5) (x:=num 10) (bx:=[]) (by kernel_rfl) rfl⟩
      |false=>
       rcases Bool.eq_false_or_eq_true q with h6|h6
       ·
        exact ⟨10,fun N hN=>by obtain ⟨M,rfl⟩:∃M,N=M+1:=⟨N-1,by omega⟩;have hf:=hfs M (by omega);have hc:=hcs M (by omega);have hl:=hls M (by omega) (by omega);exact pure_of [(12,.b false),(14,.p (num f)),(16,.b false),(20,.b false),(24,.b false),(29,.b false),(34,.p (boolX q)),(35,.b true)] [] (pf8 h1 hf h2 h3 h4 h5 hc h6) (x:=num 10) (bx:=[]) (by kernel_rfl) rfl⟩
       ·
        exact ⟨c,fun N hN=>by obtain ⟨M,rfl⟩:∃M,N=M+1:=⟨N-1,by omega⟩;have hf:=hfs M (by omega);have hc:=hcs M (by omega);have hl:=hls M (by omega) (by omega);exact pure_of [(12,.b false),(14,.p (num f)),(16,.b false),(20,.b false),(24,.b false),(29,.b false),(34,.p (boolX q)),(35,.b false),(40,.b false)] [(.ret,⟨[(4,num c)],bx⟩)] (pf10 h1 hf h2 h3 h4 h5 hc h6 h256 hl) (x:=num c) (bx:=[]) (by kernel_rfl) rfl⟩
 cases h1:(nd.kind !=6) with
 |true=>exact ⟨11,fun N hN=>by obtain ⟨M,rfl⟩:∃M,N=M+1:=⟨N-1,by omega⟩;have hf:=hfs M (by omega);have hc:=hcs M (by omega);have hl:=hls M (by omega) (by omega);exact pure_of [(12,.b true)] [] (pf1 h1) (x:=num 11) (bx:=[]) (by kernel_rfl) rfl⟩
 |false=>
  cases h2:(f !=0) with
  |true=>exact ⟨f,fun N hN=>by obtain ⟨M,rfl⟩:∃M,N=M+1:=⟨N-1,by omega⟩;have hf:=hfs M (by omega);have hc:=hcs M (by omega);have hl:=hls M (by omega) (by omega);exact pure_of [(12,.b false),(14,.p (num f)),(16,.b true)] [] (pf3 h1 hf h2) (x:=num f) (bx:=[]) (by kernel_rfl) rfl⟩
  |false=>
   cases h3:(decide (a<0)) with
   |true=>exact ⟨2,fun N hN=>by obtain ⟨M,rfl⟩:∃M,N=M+1:=⟨N-1,by omega⟩;have hf:=hfs M (by omega);have hc:=hcs M (by omega);have hl:=hls M (by omega) (by omega);exact pure_of [(12,.b false),(14,.p (num f)),(16,.b false),(20,.b true)] [] (pf4 h1 hf h2 h3) (x:=num 2) (bx:=[]) (by kernel_rfl) rfl⟩
   |false=>
    cases h4:(decide (a>1099511627776)) with
    |true=>exact ⟨2,fun N hN=>by obtain ⟨M,rfl⟩:∃M,N=M+1:=⟨N-1,by omega⟩;have hf:=hfs M (by omega);have hc:=hcs M (by omega);have hl:=hls M (by omega) (by omega);exact pure_of [(12,.b false),(14,.p (num f)),(16,.b false),(20,.b false),(24,.b true)] [] (pf5 h1 hf h2 h3 h4) (x:=num 2) (bx:=[]) (by kernel_rfl) rfl⟩
    |false=>
     cases h5:(b !=0) with
     |true=>exact ⟨10,fun N hN=>by obtain ⟨M,rfl⟩:∃M,N=M+1:=⟨N-1,by omega⟩;have hf:=hfs M (by omega);have hc:=hcs M (by omega);have hl:=hls M (by omega) (by omega);exact pure_of [(12,.b false),(14,.p (num f)),(16,.b false),(20,.b false),(24,.b false),(29,.b true)] [] (pf6 h1 hf h2 h3 h4 h5) (x:=num 10) (bx:=[]) (by kernel_rfl) rfl⟩
     |false=>
      rcases Bool.eq_false_or_eq_true q with h6|h6
      ·
       exact ⟨10,fun N hN=>by obtain ⟨M,rfl⟩:∃M,N=M+1:=⟨N-1,by omega⟩;have hf:=hfs M (by omega);have hc:=hcs M (by omega);have hl:=hls M (by omega) (by omega);exact pure_of [(12,.b false),(14,.p (num f)),(16,.b false),(20,.b false),(24,.b false),(29,.b false),(34,.p (boolX q)),(35,.b true)] [] (pf8 h1 hf h2 h3 h4 h5 hc h6) (x:=num 10) (bx:=[]) (by kernel_rfl) rfl⟩
      ·
       exact ⟨0,fun N hN=>by obtain ⟨M,rfl⟩:∃M,N=M+1:=⟨N-1,by omega⟩;have hf:=hfs M (by omega);have hc:=hcs M (by omega);have hl:=hls M (by omega) (by omega);exact pure_of [(12,.b false),(14,.p (num f)),(16,.b false),(20,.b false),(24,.b false),(29,.b false),(34,.p (boolX q)),(35,.b false),(40,.b false)] [(.exit 1,⟨[(3,.ptr 0 0 0),(7,X.mp 1),(43,.sl false 10 ss),(44,nat ss.length),(45,nat ss.length),(46,boolX false)],[.var ([num a,num b,.sl false 10 ss]),Bx.map m]⟩)] (pf10 h1 hf h2 h3 h4 h5 hc h6 h256 hl) (x:=num 0) (bx:=[]) (by kernel_rfl) rfl⟩
def kindsP:List (Value×X):=[(.int .i64 1,.agg [.fn 82 [],.fn 55 [],.fn 88 []]),(.int .i64 2,.agg [.fn 82 [],.fn 55 [],.fn 88 []]),(.int .i64 3,.agg [.fn 90 [],.fn 56 [],.fn 88 []]),(.int .i64 4,.agg [.fn 91 [],.fn 57 [],.fn 51 []]),(.int .i64 5,.agg [.fn 92 [],.fn 58 [],.fn 93 []]),(.int .i64 6,.agg [.fn 94 [],.fn 59 [],.fn 88 []]),(.int .i64 7,.agg [.fn 89 [],.fn 60 [],.fn 52 []]),(.int .i64 8,.agg [.fn 89 [],.fn 60 [],.fn 52 []]),(.int .i64 9,.agg [.fn 95 [],.fn 61 [],.fn 53 []]),(.int .i64 10,.agg [.fn 96 [],.fn 62 [],.fn 93 []]),(.int .i64 11,.agg [.fn 82 [],.fn 55 [],.fn 88 []]),(.int .i64 12,.agg [.fn 82 [],.fn 55 [],.fn 88 []]),(.int .i64 14,.agg [.fn 82 [],.fn 55 [],.fn 88 []])]
def t19 (nd:Nod)(s:Stt)(t:Bool)(w:List X):St:=⟨[(2,.ptr 0 0 0),(3,.ptr 1 0 0),(5,.ptr 2 0 0),(6,boolX t)],[.var nd.cells,.var s.cells,.var w]⟩
def t17 (nd:Nod)(s:Stt)(t:Bool)(w:List X):St:=⟨[(2,.ptr 0 0 0),(3,.ptr 1 0 0),(6,.ptr 2 0 0),(7,boolX t)],[.var nd.cells,.var s.cells,.var w]⟩
theorem packs50 (N:Nat):callF tab ext (N+2) (.fn 50) [] []=some (.mp 0,[.map kindsP]):=callF_of [] [] pf0 (by kernel_rfl)
theorem c19_1 (nd:Nod)(s:Stt)(N:Nat)(hc:Gam.pureD (callF tab ext (N+9)) 55 [.agg ({nd with kind:=1}:Nod).cells,.agg s.cells]=some (num c)):Gam.pureD (callF tab ext (N+10)) 19 [.agg ({nd with kind:=1}:Nod).cells,.agg s.cells]=some (num c):=by obtain ⟨a,b,sl⟩:=s;exact pure_of [(8,.o (.mp 0) [.map kindsP]),(19,.p (num c))] [] (pf3 (packs50 (N+7)) (Eq.refl (t19 ({nd with kind:=1}:Nod) ⟨a,b,sl⟩ true [.fn 82 [],.fn 55 [],.fn 88 []])) hc) (x:=num c) (bx:=[]) (by kernel_rfl) rfl
theorem c20_1 (nd:Nod)(s:Stt)(N:Nat)(hc:Gam.pureD (callF tab ext (N+9)) 55 [.agg ({nd with kind:=1}:Nod).cells,.agg s.cells]=some (num c)):Gam.pureD (callF tab ext (N+10)) 20 [.agg ({nd with kind:=1}:Nod).cells,.agg s.cells]=some (num c):=by obtain ⟨a,b,sl⟩:=s;exact pure_of [(15,.p (num c))] [] (pf1 hc) (x:=num c) (bx:=[]) (by kernel_rfl) rfl
theorem c17_1 (nd:Nod)(s:Stt)(N:Nat)(hc:Gam.pureD (callF tab ext (N+9)) 88 [.agg ({nd with kind:=1}:Nod).cells,.agg s.cells]=some (.tup [num z,boolX g])):Gam.pureD (callF tab ext (N+10)) 17 [.agg ({nd with kind:=1}:Nod).cells,.agg s.cells]=some (.tup [num z,boolX g]):=by obtain ⟨a,b,sl⟩:=s;exact pure_of [(9,.o (.mp 0) [.map kindsP]),(20,.p (.tup [num z,boolX g]))] [] (pf3 (packs50 (N+7)) (Eq.refl (t17 ({nd with kind:=1}:Nod) ⟨a,b,sl⟩ true [.fn 82 [],.fn 55 [],.fn 88 []])) hc) (x:=.tup [num z,boolX g]) (bx:=[]) (by kernel_rfl) rfl
theorem c18_1 (nd:Nod)(s:Stt)(N:Nat):Gam.pureD (callF tab ext (N+10)) 18 [.agg ({nd with kind:=1}:Nod).cells,.agg s.cells]=some (.tup [num 0,boolX false]):=by obtain ⟨a,b,sl⟩:=s;exact pure_of [] [] pf0 (x:=.tup ([num 0,boolX false])) (bx:=[]) (by kernel_rfl) rfl
theorem c19_2 (nd:Nod)(s:Stt)(N:Nat)(hc:Gam.pureD (callF tab ext (N+9)) 55 [.agg ({nd with kind:=2}:Nod).cells,.agg s.cells]=some (num c)):Gam.pureD (callF tab ext (N+10)) 19 [.agg ({nd with kind:=2}:Nod).cells,.agg s.cells]=some (num c):=by obtain ⟨a,b,sl⟩:=s;exact pure_of [(8,.o (.mp 0) [.map kindsP]),(19,.p (num c))] [] (pf3 (packs50 (N+7)) (Eq.refl (t19 ({nd with kind:=2}:Nod) ⟨a,b,sl⟩ true [.fn 82 [],.fn 55 [],.fn 88 []])) hc) (x:=num c) (bx:=[]) (by kernel_rfl) rfl
theorem c20_2 (nd:Nod)(s:Stt)(N:Nat)(hc:Gam.pureD (callF tab ext (N+9)) 55 [.agg ({nd with kind:=2}:Nod).cells,.agg s.cells]=some (num c)):Gam.pureD (callF tab ext (N+10)) 20 [.agg ({nd with kind:=2}:Nod).cells,.agg s.cells]=some (num c):=by obtain ⟨a,b,sl⟩:=s;exact pure_of [(15,.p (num c))] [] (pf1 hc) (x:=num c) (bx:=[]) (by kernel_rfl) rfl
theorem c17_2 (nd:Nod)(s:Stt)(N:Nat)(hc:Gam.pureD (callF tab ext (N+9)) 88 [.agg ({nd with kind:=2}:Nod).cells,.agg s.cells]=some (.tup [num z,boolX g])):Gam.pureD (callF tab ext (N+10)) 17 [.agg ({nd with kind:=2}:Nod).cells,.agg s.cells]=some (.tup [num z,boolX g]):=by obtain ⟨a,b,sl⟩:=s;exact pure_of [(9,.o (.mp 0) [.map kindsP]),(20,.p (.tup [num z,boolX g]))] [] (pf3 (packs50 (N+7)) (Eq.refl (t17 ({nd with kind:=2}:Nod) ⟨a,b,sl⟩ true [.fn 82 [],.fn 55 [],.fn 88 []])) hc) (x:=.tup [num z,boolX g]) (bx:=[]) (by kernel_rfl) rfl
theorem c18_2 (nd:Nod)(s:Stt)(N:Nat):Gam.pureD (callF tab ext (N+10)) 18 [.agg ({nd with kind:=2}:Nod).cells,.agg s.cells]=some (.tup [num 0,boolX false]):=by obtain ⟨a,b,sl⟩:=s;exact pure_of [] [] pf0 (x:=.tup ([num 0,boolX false])) (bx:=[]) (by kernel_rfl) rfl
theorem c19_3 (nd:Nod)(s:Stt)(N:Nat)(hc:Gam.pureD (callF tab ext (N+9)) 56 [.agg ({nd with kind:=3}:Nod).cells,.agg s.cells]=some (num c)):Gam.pureD (callF tab ext (N+10)) 19 [.agg ({nd with kind:=3}:Nod).cells,.agg s.cells]=some (num c):=by obtain ⟨a,b,sl⟩:=s;exact pure_of [(8,.o (.mp 0) [.map kindsP]),(19,.p (num c))] [] (pf3 (packs50 (N+7)) (Eq.refl (t19 ({nd with kind:=3}:Nod) ⟨a,b,sl⟩ true [.fn 90 [],.fn 56 [],.fn 88 []])) hc) (x:=num c) (bx:=[]) (by kernel_rfl) rfl
theorem c20_3 (nd:Nod)(s:Stt)(N:Nat)(hc:Gam.pureD (callF tab ext (N+9)) 56 [.agg ({nd with kind:=3}:Nod).cells,.agg s.cells]=some (num c)):Gam.pureD (callF tab ext (N+10)) 20 [.agg ({nd with kind:=3}:Nod).cells,.agg s.cells]=some (num c):=by obtain ⟨a,b,sl⟩:=s;exact pure_of [(20,.p (num c))] [] (pf1 hc) (x:=num c) (bx:=[]) (by kernel_rfl) rfl
theorem c17_3 (nd:Nod)(s:Stt)(N:Nat)(hc:Gam.pureD (callF tab ext (N+9)) 88 [.agg ({nd with kind:=3}:Nod).cells,.agg s.cells]=some (.tup [num z,boolX g])):Gam.pureD (callF tab ext (N+10)) 17 [.agg ({nd with kind:=3}:Nod).cells,.agg s.cells]=some (.tup [num z,boolX g]):=by obtain ⟨a,b,sl⟩:=s;exact pure_of [(9,.o (.mp 0) [.map kindsP]),(20,.p (.tup [num z,boolX g]))] [] (pf3 (packs50 (N+7)) (Eq.refl (t17 ({nd with kind:=3}:Nod) ⟨a,b,sl⟩ true [.fn 90 [],.fn 56 [],.fn 88 []])) hc) (x:=.tup [num z,boolX g]) (bx:=[]) (by kernel_rfl) rfl
theorem c18_3 (nd:Nod)(s:Stt)(N:Nat):Gam.pureD (callF tab ext (N+10)) 18 [.agg ({nd with kind:=3}:Nod).cells,.agg s.cells]=some (.tup [num 0,boolX false]):=by obtain ⟨a,b,sl⟩:=s;exact pure_of [] [] pf0 (x:=.tup ([num 0,boolX false])) (bx:=[]) (by kernel_rfl) rfl
theorem c19_4 (nd:Nod)(s:Stt)(N:Nat)(hc:Gam.pureD (callF tab ext (N+9)) 57 [.agg ({nd with kind:=4}:Nod).cells,.agg s.cells]=some (num c)):Gam.pureD (callF tab ext (N+10)) 19 [.agg ({nd with kind:=4}:Nod).cells,.agg s.cells]=some (num c):=by obtain ⟨a,b,sl⟩:=s;exact pure_of [(8,.o (.mp 0) [.map kindsP]),(19,.p (num c))] [] (pf3 (packs50 (N+7)) (Eq.refl (t19 ({nd with kind:=4}:Nod) ⟨a,b,sl⟩ true [.fn 91 [],.fn 57 [],.fn 51 []])) hc) (x:=num c) (bx:=[]) (by kernel_rfl) rfl
theorem c20_4 (nd:Nod)(s:Stt)(N:Nat)(hc:Gam.pureD (callF tab ext (N+9)) 57 [.agg ({nd with kind:=4}:Nod).cells,.agg s.cells]=some (num c)):Gam.pureD (callF tab ext (N+10)) 20 [.agg ({nd with kind:=4}:Nod).cells,.agg s.cells]=some (num c):=by obtain ⟨a,b,sl⟩:=s;exact pure_of [(25,.p (num c))] [] (pf1 hc) (x:=num c) (bx:=[]) (by kernel_rfl) rfl
theorem c17_4 (nd:Nod)(s:Stt)(N:Nat)(hc:Gam.pureD (callF tab ext (N+9)) 51 [.agg ({nd with kind:=4}:Nod).cells,.agg s.cells]=some (.tup [num z,boolX g])):Gam.pureD (callF tab ext (N+10)) 17 [.agg ({nd with kind:=4}:Nod).cells,.agg s.cells]=some (.tup [num z,boolX g]):=by obtain ⟨a,b,sl⟩:=s;exact pure_of [(9,.o (.mp 0) [.map kindsP]),(20,.p (.tup [num z,boolX g]))] [] (pf3 (packs50 (N+7)) (Eq.refl (t17 ({nd with kind:=4}:Nod) ⟨a,b,sl⟩ true [.fn 91 [],.fn 57 [],.fn 51 []])) hc) (x:=.tup [num z,boolX g]) (bx:=[]) (by kernel_rfl) rfl
theorem c18_4 (nd:Nod)(s:Stt)(N:Nat)(hc:Gam.pureD (callF tab ext (N+9)) 51 [.agg ({nd with kind:=4}:Nod).cells,.agg s.cells]=some (.tup [num z,boolX g])):Gam.pureD (callF tab ext (N+10)) 18 [.agg ({nd with kind:=4}:Nod).cells,.agg s.cells]=some (.tup [num z,boolX g]):=by
 obtain ⟨a,b,sl⟩:=s;cases g with
 |true=>exact pure_of [(12,.p (.tup ([num z,boolX true])))] [] (pf1 hc) (x:=.tup ([num z,boolX true])) (bx:=[]) (by kernel_rfl) rfl
 |false=>exact pure_of [(12,.p (.tup ([num z,boolX false])))] [] (pf1 hc) (x:=.tup ([num z,boolX false])) (bx:=[]) (by kernel_rfl) rfl
theorem c19_5 (nd:Nod)(s:Stt)(N:Nat)(hc:Gam.pureD (callF tab ext (N+9)) 58 [.agg ({nd with kind:=5}:Nod).cells,.agg s.cells]=some (num c)):Gam.pureD (callF tab ext (N+10)) 19 [.agg ({nd with kind:=5}:Nod).cells,.agg s.cells]=some (num c):=by obtain ⟨a,b,sl⟩:=s;exact pure_of [(8,.o (.mp 0) [.map kindsP]),(19,.p (num c))] [] (pf3 (packs50 (N+7)) (Eq.refl (t19 ({nd with kind:=5}:Nod) ⟨a,b,sl⟩ true [.fn 92 [],.fn 58 [],.fn 93 []])) hc) (x:=num c) (bx:=[]) (by kernel_rfl) rfl
theorem c20_5 (nd:Nod)(s:Stt)(N:Nat)(hc:Gam.pureD (callF tab ext (N+9)) 58 [.agg ({nd with kind:=5}:Nod).cells,.agg s.cells]=some (num c)):Gam.pureD (callF tab ext (N+10)) 20 [.agg ({nd with kind:=5}:Nod).cells,.agg s.cells]=some (num c):=by obtain ⟨a,b,sl⟩:=s;exact pure_of [(30,.p (num c))] [] (pf1 hc) (x:=num c) (bx:=[]) (by kernel_rfl) rfl
theorem c17_5 (nd:Nod)(s:Stt)(N:Nat)(hc:Gam.pureD (callF tab ext (N+9)) 93 [.agg ({nd with kind:=5}:Nod).cells,.agg s.cells]=some (.tup [num z,boolX g])):Gam.pureD (callF tab ext (N+10)) 17 [.agg ({nd with kind:=5}:Nod).cells,.agg s.cells]=some (.tup [num z,boolX g]):=by obtain ⟨a,b,sl⟩:=s;exact pure_of [(9,.o (.mp 0) [.map kindsP]),(20,.p (.tup [num z,boolX g]))] [] (pf3 (packs50 (N+7)) (Eq.refl (t17 ({nd with kind:=5}:Nod) ⟨a,b,sl⟩ true [.fn 92 [],.fn 58 [],.fn 93 []])) hc) (x:=.tup [num z,boolX g]) (bx:=[]) (by kernel_rfl) rfl
theorem c18_5 (nd:Nod)(s:Stt)(N:Nat)(hc:Gam.pureD (callF tab ext (N+9)) 54 [.agg s.cells]=some (.tup [num z,boolX g])):Gam.pureD (callF tab ext (N+10)) 18 [.agg ({nd with kind:=5}:Nod).cells,.agg s.cells]=some (.tup [num z,boolX g]):=by
 obtain ⟨a,b,sl⟩:=s;cases g with
 |true=>exact pure_of [(34,.p (.tup ([num z,boolX true])))] [] (pf1 hc) (x:=.tup ([num z,boolX true])) (bx:=[]) (by kernel_rfl) rfl
 |false=>exact pure_of [(34,.p (.tup ([num z,boolX false])))] [] (pf1 hc) (x:=.tup ([num z,boolX false])) (bx:=[]) (by kernel_rfl) rfl
theorem c19_6 (nd:Nod)(s:Stt)(N:Nat)(hc:Gam.pureD (callF tab ext (N+9)) 59 [.agg ({nd with kind:=6}:Nod).cells,.agg s.cells]=some (num c)):Gam.pureD (callF tab ext (N+10)) 19 [.agg ({nd with kind:=6}:Nod).cells,.agg s.cells]=some (num c):=by obtain ⟨a,b,sl⟩:=s;exact pure_of [(8,.o (.mp 0) [.map kindsP]),(19,.p (num c))] [] (pf3 (packs50 (N+7)) (Eq.refl (t19 ({nd with kind:=6}:Nod) ⟨a,b,sl⟩ true [.fn 94 [],.fn 59 [],.fn 88 []])) hc) (x:=num c) (bx:=[]) (by kernel_rfl) rfl
theorem c20_6 (nd:Nod)(s:Stt)(N:Nat)(hc:Gam.pureD (callF tab ext (N+9)) 59 [.agg ({nd with kind:=6}:Nod).cells,.agg s.cells]=some (num c)):Gam.pureD (callF tab ext (N+10)) 20 [.agg ({nd with kind:=6}:Nod).cells,.agg s.cells]=some (num c):=by obtain ⟨a,b,sl⟩:=s;exact pure_of [(35,.p (num c))] [] (pf1 hc) (x:=num c) (bx:=[]) (by kernel_rfl) rfl
theorem c17_6 (nd:Nod)(s:Stt)(N:Nat)(hc:Gam.pureD (callF tab ext (N+9)) 88 [.agg ({nd with kind:=6}:Nod).cells,.agg s.cells]=some (.tup [num z,boolX g])):Gam.pureD (callF tab ext (N+10)) 17 [.agg ({nd with kind:=6}:Nod).cells,.agg s.cells]=some (.tup [num z,boolX g]):=by obtain ⟨a,b,sl⟩:=s;exact pure_of [(9,.o (.mp 0) [.map kindsP]),(20,.p (.tup [num z,boolX g]))] [] (pf3 (packs50 (N+7)) (Eq.refl (t17 ({nd with kind:=6}:Nod) ⟨a,b,sl⟩ true [.fn 94 [],.fn 59 [],.fn 88 []])) hc) (x:=.tup [num z,boolX g]) (bx:=[]) (by kernel_rfl) rfl
theorem c18_6 (nd:Nod)(s:Stt)(N:Nat):Gam.pureD (callF tab ext (N+10)) 18 [.agg ({nd with kind:=6}:Nod).cells,.agg s.cells]=some (.tup [num 0,boolX false]):=by obtain ⟨a,b,sl⟩:=s;exact pure_of [] [] pf0 (x:=.tup ([num 0,boolX false])) (bx:=[]) (by kernel_rfl) rfl
theorem c19_7 (nd:Nod)(s:Stt)(N:Nat)(hc:Gam.pureD (callF tab ext (N+9)) 60 [.agg ({nd with kind:=7}:Nod).cells,.agg s.cells]=some (num c)):Gam.pureD (callF tab ext (N+10)) 19 [.agg ({nd with kind:=7}:Nod).cells,.agg s.cells]=some (num c):=by obtain ⟨a,b,sl⟩:=s;exact pure_of [(8,.o (.mp 0) [.map kindsP]),(19,.p (num c))] [] (pf3 (packs50 (N+7)) (Eq.refl (t19 ({nd with kind:=7}:Nod) ⟨a,b,sl⟩ true [.fn 89 [],.fn 60 [],.fn 52 []])) hc) (x:=num c) (bx:=[]) (by kernel_rfl) rfl
theorem c20_7 (nd:Nod)(s:Stt)(N:Nat)(hc:Gam.pureD (callF tab ext (N+9)) 60 [.agg ({nd with kind:=7}:Nod).cells,.agg s.cells]=some (num c)):Gam.pureD (callF tab ext (N+10)) 20 [.agg ({nd with kind:=7}:Nod).cells,.agg s.cells]=some (num c):=by obtain ⟨a,b,sl⟩:=s;exact pure_of [(41,.p (num c))] [] (pf1 hc) (x:=num c) (bx:=[]) (by kernel_rfl) rfl
theorem c17_7 (nd:Nod)(s:Stt)(N:Nat)(hc:Gam.pureD (callF tab ext (N+9)) 52 [.agg ({nd with kind:=7}:Nod).cells,.agg s.cells]=some (.tup [num z,boolX g])):Gam.pureD (callF tab ext (N+10)) 17 [.agg ({nd with kind:=7}:Nod).cells,.agg s.cells]=some (.tup [num z,boolX g]):=by obtain ⟨a,b,sl⟩:=s;exact pure_of [(9,.o (.mp 0) [.map kindsP]),(20,.p (.tup [num z,boolX g]))] [] (pf3 (packs50 (N+7)) (Eq.refl (t17 ({nd with kind:=7}:Nod) ⟨a,b,sl⟩ true [.fn 89 [],.fn 60 [],.fn 52 []])) hc) (x:=.tup [num z,boolX g]) (bx:=[]) (by kernel_rfl) rfl
theorem c18_7 (nd:Nod)(s:Stt)(N:Nat)(hc:Gam.pureD (callF tab ext (N+9)) 52 [.agg ({nd with kind:=7}:Nod).cells,.agg s.cells]=some (.tup [num z,boolX g])):Gam.pureD (callF tab ext (N+10)) 18 [.agg ({nd with kind:=7}:Nod).cells,.agg s.cells]=some (.tup [num z,boolX g]):=by
 obtain ⟨a,b,sl⟩:=s;cases g with
 |true=>exact pure_of [(20,.p (.tup ([num z,boolX true])))] [] (pf1 hc) (x:=.tup ([num z,boolX true])) (bx:=[]) (by kernel_rfl) rfl
 |false=>exact pure_of [(20,.p (.tup ([num z,boolX false])))] [] (pf1 hc) (x:=.tup ([num z,boolX false])) (bx:=[]) (by kernel_rfl) rfl
theorem c19_8 (nd:Nod)(s:Stt)(N:Nat)(hc:Gam.pureD (callF tab ext (N+9)) 60 [.agg ({nd with kind:=8}:Nod).cells,.agg s.cells]=some (num c)):Gam.pureD (callF tab ext (N+10)) 19 [.agg ({nd with kind:=8}:Nod).cells,.agg s.cells]=some (num c):=by obtain ⟨a,b,sl⟩:=s;exact pure_of [(8,.o (.mp 0) [.map kindsP]),(19,.p (num c))] [] (pf3 (packs50 (N+7)) (Eq.refl (t19 ({nd with kind:=8}:Nod) ⟨a,b,sl⟩ true [.fn 89 [],.fn 60 [],.fn 52 []])) hc) (x:=num c) (bx:=[]) (by kernel_rfl) rfl
theorem c20_8 (nd:Nod)(s:Stt)(N:Nat)(hc:Gam.pureD (callF tab ext (N+9)) 60 [.agg ({nd with kind:=8}:Nod).cells,.agg s.cells]=some (num c)):Gam.pureD (callF tab ext (N+10)) 20 [.agg ({nd with kind:=8}:Nod).cells,.agg s.cells]=some (num c):=by obtain ⟨a,b,sl⟩:=s;exact pure_of [(41,.p (num c))] [] (pf1 hc) (x:=num c) (bx:=[]) (by kernel_rfl) rfl
theorem c17_8 (nd:Nod)(s:Stt)(N:Nat)(hc:Gam.pureD (callF tab ext (N+9)) 52 [.agg ({nd with kind:=8}:Nod).cells,.agg s.cells]=some (.tup [num z,boolX g])):Gam.pureD (callF tab ext (N+10)) 17 [.agg ({nd with kind:=8}:Nod).cells,.agg s.cells]=some (.tup [num z,boolX g]):=by obtain ⟨a,b,sl⟩:=s;exact pure_of [(9,.o (.mp 0) [.map kindsP]),(20,.p (.tup [num z,boolX g]))] [] (pf3 (packs50 (N+7)) (Eq.refl (t17 ({nd with kind:=8}:Nod) ⟨a,b,sl⟩ true [.fn 89 [],.fn 60 [],.fn 52 []])) hc) (x:=.tup [num z,boolX g]) (bx:=[]) (by kernel_rfl) rfl
theorem c18_8 (nd:Nod)(s:Stt)(N:Nat)(hc:Gam.pureD (callF tab ext (N+9)) 52 [.agg ({nd with kind:=8}:Nod).cells,.agg s.cells]=some (.tup [num z,boolX g])):Gam.pureD (callF tab ext (N+10)) 18 [.agg ({nd with kind:=8}:Nod).cells,.agg s.cells]=some (.tup [num z,boolX g]):=by
 obtain ⟨a,b,sl⟩:=s;cases g with
 |true=>exact pure_of [(20,.p (.tup ([num z,boolX true])))] [] (pf1 hc) (x:=.tup ([num z,boolX true])) (bx:=[]) (by kernel_rfl) rfl
 |false=>exact pure_of [(20,.p (.tup ([num z,boolX false])))] [] (pf1 hc) (x:=.tup ([num z,boolX false])) (bx:=[]) (by kernel_rfl) rfl
theorem c19_9 (nd:Nod)(s:Stt)(N:Nat)(hc:Gam.pureD (callF tab ext (N+9)) 61 [.agg ({nd with kind:=9}:Nod).cells,.agg s.cells]=some (num c)):Gam.pureD (callF tab ext (N+10)) 19 [.agg ({nd with kind:=9}:Nod).cells,.agg s.cells]=some (num c):=by obtain ⟨a,b,sl⟩:=s;exact pure_of [(8,.o (.mp 0) [.map kindsP]),(19,.p (num c))] [] (pf3 (packs50 (N+7)) (Eq.refl (t19 ({nd with kind:=9}:Nod) ⟨a,b,sl⟩ true [.fn 95 [],.fn 61 [],.fn 53 []])) hc) (x:=num c) (bx:=[]) (by kernel_rfl) rfl
theorem c20_9 (nd:Nod)(s:Stt)(N:Nat)(hc:Gam.pureD (callF tab ext (N+9)) 61 [.agg ({nd with kind:=9}:Nod).cells,.agg s.cells]=some (num c)):Gam.pureD (callF tab ext (N+10)) 20 [.agg ({nd with kind:=9}:Nod).cells,.agg s.cells]=some (num c):=by obtain ⟨a,b,sl⟩:=s;exact pure_of [(46,.p (num c))] [] (pf1 hc) (x:=num c) (bx:=[]) (by kernel_rfl) rfl
theorem c17_9 (nd:Nod)(s:Stt)(N:Nat)(hc:Gam.pureD (callF tab ext (N+9)) 53 [.agg ({nd with kind:=9}:Nod).cells,.agg s.cells]=some (.tup [num z,boolX g])):Gam.pureD (callF tab ext (N+10)) 17 [.agg ({nd with kind:=9}:Nod).cells,.agg s.cells]=some (.tup [num z,boolX g]):=by obtain ⟨a,b,sl⟩:=s;exact pure_of [(9,.o (.mp 0) [.map kindsP]),(20,.p (.tup [num z,boolX g]))] [] (pf3 (packs50 (N+7)) (Eq.refl (t17 ({nd with kind:=9}:Nod) ⟨a,b,sl⟩ true [.fn 95 [],.fn 61 [],.fn 53 []])) hc) (x:=.tup [num z,boolX g]) (bx:=[]) (by kernel_rfl) rfl
theorem c18_9 (nd:Nod)(s:Stt)(N:Nat)(hc:Gam.pureD (callF tab ext (N+9)) 53 [.agg ({nd with kind:=9}:Nod).cells,.agg s.cells]=some (.tup [num z,boolX g])):Gam.pureD (callF tab ext (N+10)) 18 [.agg ({nd with kind:=9}:Nod).cells,.agg s.cells]=some (.tup [num z,boolX g]):=by
 obtain ⟨a,b,sl⟩:=s;cases g with
 |true=>exact pure_of [(27,.p (.tup ([num z,boolX true])))] [] (pf1 hc) (x:=.tup ([num z,boolX true])) (bx:=[]) (by kernel_rfl) rfl
 |false=>exact pure_of [(27,.p (.tup ([num z,boolX false])))] [] (pf1 hc) (x:=.tup ([num z,boolX false])) (bx:=[]) (by kernel_rfl) rfl
theorem c19_10 (nd:Nod)(s:Stt)(N:Nat)(hc:Gam.pureD (callF tab ext (N+9)) 62 [.agg ({nd with kind:=10}:Nod).cells,.agg s.cells]=some (num c)):Gam.pureD (callF tab ext (N+10)) 19 [.agg ({nd with kind:=10}:Nod).cells,.agg s.cells]=some (num c):=by obtain ⟨a,b,sl⟩:=s;exact pure_of [(8,.o (.mp 0) [.map kindsP]),(19,.p (num c))] [] (pf3 (packs50 (N+7)) (Eq.refl (t19 ({nd with kind:=10}:Nod) ⟨a,b,sl⟩ true [.fn 96 [],.fn 62 [],.fn 93 []])) hc) (x:=num c) (bx:=[]) (by kernel_rfl) rfl
theorem c20_10 (nd:Nod)(s:Stt)(N:Nat)(hc:Gam.pureD (callF tab ext (N+9)) 62 [.agg ({nd with kind:=10}:Nod).cells,.agg s.cells]=some (num c)):Gam.pureD (callF tab ext (N+10)) 20 [.agg ({nd with kind:=10}:Nod).cells,.agg s.cells]=some (num c):=by obtain ⟨a,b,sl⟩:=s;exact pure_of [(51,.p (num c))] [] (pf1 hc) (x:=num c) (bx:=[]) (by kernel_rfl) rfl
theorem c17_10 (nd:Nod)(s:Stt)(N:Nat)(hc:Gam.pureD (callF tab ext (N+9)) 93 [.agg ({nd with kind:=10}:Nod).cells,.agg s.cells]=some (.tup [num z,boolX g])):Gam.pureD (callF tab ext (N+10)) 17 [.agg ({nd with kind:=10}:Nod).cells,.agg s.cells]=some (.tup [num z,boolX g]):=by obtain ⟨a,b,sl⟩:=s;exact pure_of [(9,.o (.mp 0) [.map kindsP]),(20,.p (.tup [num z,boolX g]))] [] (pf3 (packs50 (N+7)) (Eq.refl (t17 ({nd with kind:=10}:Nod) ⟨a,b,sl⟩ true [.fn 96 [],.fn 62 [],.fn 93 []])) hc) (x:=.tup [num z,boolX g]) (bx:=[]) (by kernel_rfl) rfl
theorem c18_10 (nd:Nod)(s:Stt)(N:Nat)(hc:Gam.pureD (callF tab ext (N+9)) 54 [.agg s.cells]=some (.tup [num z,boolX g])):Gam.pureD (callF tab ext (N+10)) 18 [.agg ({nd with kind:=10}:Nod).cells,.agg s.cells]=some (.tup [num z,boolX g]):=by
 obtain ⟨a,b,sl⟩:=s;cases g with
 |true=>exact pure_of [(34,.p (.tup ([num z,boolX true])))] [] (pf1 hc) (x:=.tup ([num z,boolX true])) (bx:=[]) (by kernel_rfl) rfl
 |false=>exact pure_of [(34,.p (.tup ([num z,boolX false])))] [] (pf1 hc) (x:=.tup ([num z,boolX false])) (bx:=[]) (by kernel_rfl) rfl
theorem c19_11 (nd:Nod)(s:Stt)(N:Nat)(hc:Gam.pureD (callF tab ext (N+9)) 55 [.agg ({nd with kind:=11}:Nod).cells,.agg s.cells]=some (num c)):Gam.pureD (callF tab ext (N+10)) 19 [.agg ({nd with kind:=11}:Nod).cells,.agg s.cells]=some (num c):=by obtain ⟨a,b,sl⟩:=s;exact pure_of [(8,.o (.mp 0) [.map kindsP]),(19,.p (num c))] [] (pf3 (packs50 (N+7)) (Eq.refl (t19 ({nd with kind:=11}:Nod) ⟨a,b,sl⟩ true [.fn 82 [],.fn 55 [],.fn 88 []])) hc) (x:=num c) (bx:=[]) (by kernel_rfl) rfl
theorem c20_11 (nd:Nod)(s:Stt)(N:Nat)(hc:Gam.pureD (callF tab ext (N+9)) 55 [.agg ({nd with kind:=11}:Nod).cells,.agg s.cells]=some (num c)):Gam.pureD (callF tab ext (N+10)) 20 [.agg ({nd with kind:=11}:Nod).cells,.agg s.cells]=some (num c):=by obtain ⟨a,b,sl⟩:=s;exact pure_of [(15,.p (num c))] [] (pf1 hc) (x:=num c) (bx:=[]) (by kernel_rfl) rfl
theorem c17_11 (nd:Nod)(s:Stt)(N:Nat)(hc:Gam.pureD (callF tab ext (N+9)) 88 [.agg ({nd with kind:=11}:Nod).cells,.agg s.cells]=some (.tup [num z,boolX g])):Gam.pureD (callF tab ext (N+10)) 17 [.agg ({nd with kind:=11}:Nod).cells,.agg s.cells]=some (.tup [num z,boolX g]):=by obtain ⟨a,b,sl⟩:=s;exact pure_of [(9,.o (.mp 0) [.map kindsP]),(20,.p (.tup [num z,boolX g]))] [] (pf3 (packs50 (N+7)) (Eq.refl (t17 ({nd with kind:=11}:Nod) ⟨a,b,sl⟩ true [.fn 82 [],.fn 55 [],.fn 88 []])) hc) (x:=.tup [num z,boolX g]) (bx:=[]) (by kernel_rfl) rfl
theorem c18_11 (nd:Nod)(s:Stt)(N:Nat):Gam.pureD (callF tab ext (N+10)) 18 [.agg ({nd with kind:=11}:Nod).cells,.agg s.cells]=some (.tup [num 0,boolX false]):=by obtain ⟨a,b,sl⟩:=s;exact pure_of [] [] pf0 (x:=.tup ([num 0,boolX false])) (bx:=[]) (by kernel_rfl) rfl
theorem c19_12 (nd:Nod)(s:Stt)(N:Nat)(hc:Gam.pureD (callF tab ext (N+9)) 55 [.agg ({nd with kind:=12}:Nod).cells,.agg s.cells]=some (num c)):Gam.pureD (callF tab ext (N+10)) 19 [.agg ({nd with kind:=12}:Nod).cells,.agg s.cells]=some (num c):=by obtain ⟨a,b,sl⟩:=s;exact pure_of [(8,.o (.mp 0) [.map kindsP]),(19,.p (num c))] [] (pf3 (packs50 (N+7)) (Eq.refl (t19 ({nd with kind:=12}:Nod) ⟨a,b,sl⟩ true [.fn 82 [],.fn 55 [],.fn 88 []])) hc) (x:=num c) (bx:=[]) (by kernel_rfl) rfl
theorem c20_12 (nd:Nod)(s:Stt)(N:Nat)(hc:Gam.pureD (callF tab ext (N+9)) 55 [.agg ({nd with kind:=12}:Nod).cells,.agg s.cells]=some (num c)):Gam.pureD (callF tab ext (N+10)) 20 [.agg ({nd with kind:=12}:Nod).cells,.agg s.cells]=some (num c):=by obtain ⟨a,b,sl⟩:=s;exact pure_of [(15,.p (num c))] [] (pf1 hc) (x:=num c) (bx:=[]) (by kernel_rfl) rfl
theorem c17_12 (nd:Nod)(s:Stt)(N:Nat)(hc:Gam.pureD (callF tab ext (N+9)) 88 [.agg ({nd with kind:=12}:Nod).cells,.agg s.cells]=some (.tup [num z,boolX g])):Gam.pureD (callF tab ext (N+10)) 17 [.agg ({nd with kind:=12}:Nod).cells,.agg s.cells]=some (.tup [num z,boolX g]):=by obtain ⟨a,b,sl⟩:=s;exact pure_of [(9,.o (.mp 0) [.map kindsP]),(20,.p (.tup [num z,boolX g]))] [] (pf3 (packs50 (N+7)) (Eq.refl (t17 ({nd with kind:=12}:Nod) ⟨a,b,sl⟩ true [.fn 82 [],.fn 55 [],.fn 88 []])) hc) (x:=.tup [num z,boolX g]) (bx:=[]) (by kernel_rfl) rfl
theorem c18_12 (nd:Nod)(s:Stt)(N:Nat):Gam.pureD (callF tab ext (N+10)) 18 [.agg ({nd with kind:=12}:Nod).cells,.agg s.cells]=some (.tup [num 0,boolX false]):=by obtain ⟨a,b,sl⟩:=s;exact pure_of [] [] pf0 (x:=.tup ([num 0,boolX false])) (bx:=[]) (by kernel_rfl) rfl
theorem c19_14 (nd:Nod)(s:Stt)(N:Nat)(hc:Gam.pureD (callF tab ext (N+9)) 55 [.agg ({nd with kind:=14}:Nod).cells,.agg s.cells]=some (num c)):Gam.pureD (callF tab ext (N+10)) 19 [.agg ({nd with kind:=14}:Nod).cells,.agg s.cells]=some (num c):=by obtain ⟨a,b,sl⟩:=s;exact pure_of [(8,.o (.mp 0) [.map kindsP]),(19,.p (num c))] [] (pf3 (packs50 (N+7)) (Eq.refl (t19 ({nd with kind:=14}:Nod) ⟨a,b,sl⟩ true [.fn 82 [],.fn 55 [],.fn 88 []])) hc) (x:=num c) (bx:=[]) (by kernel_rfl) rfl
theorem c20_14 (nd:Nod)(s:Stt)(N:Nat)(hc:Gam.pureD (callF tab ext (N+9)) 55 [.agg ({nd with kind:=14}:Nod).cells,.agg s.cells]=some (num c)):Gam.pureD (callF tab ext (N+10)) 20 [.agg ({nd with kind:=14}:Nod).cells,.agg s.cells]=some (num c):=by obtain ⟨a,b,sl⟩:=s;exact pure_of [(15,.p (num c))] [] (pf1 hc) (x:=num c) (bx:=[]) (by kernel_rfl) rfl
theorem c17_14 (nd:Nod)(s:Stt)(N:Nat)(hc:Gam.pureD (callF tab ext (N+9)) 88 [.agg ({nd with kind:=14}:Nod).cells,.agg s.cells]=some (.tup [num z,boolX g])):Gam.pureD (callF tab ext (N+10)) 17 [.agg ({nd with kind:=14}:Nod).cells,.agg s.cells]=some (.tup [num z,boolX g]):=by obtain ⟨a,b,sl⟩:=s;exact pure_of [(9,.o (.mp 0) [.map kindsP]),(20,.p (.tup [num z,boolX g]))] [] (pf3 (packs50 (N+7)) (Eq.refl (t17 ({nd with kind:=14}:Nod) ⟨a,b,sl⟩ true [.fn 82 [],.fn 55 [],.fn 88 []])) hc) (x:=.tup [num z,boolX g]) (bx:=[]) (by kernel_rfl) rfl
theorem c18_14 (nd:Nod)(s:Stt)(N:Nat):Gam.pureD (callF tab ext (N+10)) 18 [.agg ({nd with kind:=14}:Nod).cells,.agg s.cells]=some (.tup [num 0,boolX false]):=by obtain ⟨a,b,sl⟩:=s;exact pure_of [] [] pf0 (x:=.tup ([num 0,boolX false])) (bx:=[]) (by kernel_rfl) rfl
theorem beqF {a b:Int}(h:¬a=b):(a==b)=false:=by simpa using h
def noPack:X:=.agg [.v .nilFunc,.v .nilFunc,.v .nilFunc]
theorem kinds_none (nd:Nod)(h1:¬nd.kind=1)(h2:¬nd.kind=2)(h3:¬nd.kind=3)(h4:¬nd.kind=4)(h5:¬nd.kind=5)(h6:¬nd.kind=6)(h7:¬nd.kind=7)(h8:¬nd.kind=8)(h9:¬nd.kind=9)(h10:¬nd.kind=10)(h11:¬nd.kind=11)(h12:¬nd.kind=12)(h14:¬nd.kind=14):mapGet true noPack (.int .i64 nd.kind) kindsP=some (.tup [noPack,boolX false]):=by
 have e1:=beqF h1;have e2:=beqF h2;have e3:=beqF h3;have e4:=beqF h4;have e5:=beqF h5;have e6:=beqF h6;have e7:=beqF h7;have e8:=beqF h8;have e9:=beqF h9;have e10:=beqF h10;have e11:=beqF h11;have e12:=beqF h12;have e14:=beqF h14;unfold mapGet kindsP;simp only [mapFind,keySame,if_true,e1,e2,e3,e4,e5,e6,e7,e8,e9,e10,e11,e12,e14]
 try rfl
theorem c19_e (nd:Nod)(s:Stt)(N:Nat)(h1:¬nd.kind=1)(h2:¬nd.kind=2)(h3:¬nd.kind=3)(h4:¬nd.kind=4)(h5:¬nd.kind=5)(h6:¬nd.kind=6)(h7:¬nd.kind=7)(h8:¬nd.kind=8)(h9:¬nd.kind=9)(h10:¬nd.kind=10)(h11:¬nd.kind=11)(h12:¬nd.kind=12)(h14:¬nd.kind=14):Gam.pureD (callF tab ext (N+10)) 19 [.agg nd.cells,.agg s.cells]=some (num 11):=by have hg:=kinds_none nd h1 h2 h3 h4 h5 h6 h7 h8 h9 h10 h11 h12 h14;obtain ⟨a,b,sl⟩:=s;exact pure_of [(2000000,.b true),(8,.o (.mp 0) [.map kindsP]),(11,.g (.tup [noPack,boolX false]))] [] (pf5 (packs50 (N+7)) hg (packs50 (N+7)) hg (Eq.refl (t19 nd ⟨a,b,sl⟩ false [.v .nilFunc,.v .nilFunc,.v .nilFunc]))) (x:=num 11) (bx:=[]) (by kernel_rfl) rfl
theorem c17_e (nd:Nod)(s:Stt)(N:Nat)(h1:¬nd.kind=1)(h2:¬nd.kind=2)(h3:¬nd.kind=3)(h4:¬nd.kind=4)(h5:¬nd.kind=5)(h6:¬nd.kind=6)(h7:¬nd.kind=7)(h8:¬nd.kind=8)(h9:¬nd.kind=9)(h10:¬nd.kind=10)(h11:¬nd.kind=11)(h12:¬nd.kind=12)(h14:¬nd.kind=14):Gam.pureD (callF tab ext (N+10)) 17 [.agg nd.cells,.agg s.cells]=some (.tup [num 0,boolX false]):=by have hg:=kinds_none nd h1 h2 h3 h4 h5 h6 h7 h8 h9 h10 h11 h12 h14;obtain ⟨a,b,sl⟩:=s;exact pure_of [(2000000,.b true),(9,.o (.mp 0) [.map kindsP]),(12,.g (.tup [noPack,boolX false]))] [] (pf5 (packs50 (N+7)) hg (packs50 (N+7)) hg (Eq.refl (t17 nd ⟨a,b,sl⟩ false [.v .nilFunc,.v .nilFunc,.v .nilFunc]))) (x:=.tup [num 0,boolX false]) (bx:=[]) (by kernel_rfl) rfl
theorem c20_e (nd:Nod)(s:Stt)(N:Nat)(h1:¬nd.kind=1)(h2:¬nd.kind=2)(h3:¬nd.kind=3)(h4:¬nd.kind=4)(h5:¬nd.kind=5)(h6:¬nd.kind=6)(h7:¬nd.kind=7)(h8:¬nd.kind=8)(h9:¬nd.kind=9)(h10:¬nd.kind=10)(h11:¬nd.kind=11)(h12:¬nd.kind=12)(h14:¬nd.kind=14):Gam.pureD (callF tab ext (N+10)) 20 [.agg nd.cells,.agg s.cells]=some (num 11):=by obtain ⟨a,b,sl⟩:=s;exact pure_of [(8,.b false),(9,.b false),(10,.b false),(11,.b false),(12,.b false),(17,.b false),(22,.b false),(27,.b false),(32,.b false),(37,.b false),(38,.b false),(43,.b false),(48,.b false)] [] (pf13 (beqF h1) (beqF h2) (beqF h11) (beqF h12) (beqF h14) (beqF h3) (beqF h4) (beqF h5) (beqF h6) (beqF h7) (beqF h8) (beqF h9) (beqF h10)) (x:=num 11) (bx:=[]) (by kernel_rfl) rfl
theorem c18_e (nd:Nod)(s:Stt)(N:Nat)(h1:¬nd.kind=1)(h2:¬nd.kind=2)(h3:¬nd.kind=3)(h4:¬nd.kind=4)(h5:¬nd.kind=5)(h6:¬nd.kind=6)(h7:¬nd.kind=7)(h8:¬nd.kind=8)(h9:¬nd.kind=9)(h10:¬nd.kind=10)(h11:¬nd.kind=11)(h12:¬nd.kind=12)(h14:¬nd.kind=14):Gam.pureD (callF tab ext (N+10)) 18 [.agg nd.cells,.agg s.cells]=some (.tup [num 0,boolX false]):=by obtain ⟨a,b,sl⟩:=s;exact pure_of [(9,.b false),(16,.b false),(17,.b false),(24,.b false),(31,.b false),(32,.b false)] [] (pf6 (beqF h4) (beqF h7) (beqF h8) (beqF h9) (beqF h5) (beqF h10)) (x:=.tup [num 0,boolX false]) (bx:=[]) (by kernel_rfl) rfl
theorem check_same (nd:Nod)(s:Stt)(hs:s.small):∃c:Int,∀N,261200<=N->Gam.pureD (callF tab ext N) 19 [.agg nd.cells,.agg s.cells]=some (num c)/\Gam.pureD (callF tab ext N) 20 [.agg nd.cells,.agg s.cells]=some (num c):=by
 by_cases h1:nd.kind=1;·obtain ⟨nd,rfl⟩:∃nd':Nod,nd={nd' with kind:=1}:=⟨nd,by cases nd;simp_all⟩;refine ⟨rcheckF 1 s,fun N hN=>?_⟩;obtain ⟨M,rfl⟩:∃M,N=M+10:=⟨N-10,by omega⟩;have hc:=rcheck_pure (M+7) ({nd with kind:=1}:Nod) s;exact ⟨c19_1 nd s M hc,c20_1 nd s M hc⟩
 by_cases h2:nd.kind=2;·obtain ⟨nd,rfl⟩:∃nd':Nod,nd={nd' with kind:=2}:=⟨nd,by cases nd;simp_all⟩;refine ⟨rcheckF 2 s,fun N hN=>?_⟩;obtain ⟨M,rfl⟩:∃M,N=M+10:=⟨N-10,by omega⟩;have hc:=rcheck_pure (M+7) ({nd with kind:=2}:Nod) s;exact ⟨c19_2 nd s M hc,c20_2 nd s M hc⟩
 by_cases h3:nd.kind=3;·obtain ⟨nd,rfl⟩:∃nd':Nod,nd={nd' with kind:=3}:=⟨nd,by cases nd;simp_all⟩;refine ⟨scheckF 3 s,fun N hN=>?_⟩;obtain ⟨M,rfl⟩:∃M,N=M+10:=⟨N-10,by omega⟩;have hc:=scheck_pure (M+9) (by omega) ({nd with kind:=3}:Nod) s hs;exact ⟨c19_3 nd s M hc,c20_3 nd s M hc⟩
 by_cases h4:nd.kind=4;·obtain ⟨nd,rfl⟩:∃nd':Nod,nd={nd' with kind:=4}:=⟨nd,by cases nd;simp_all⟩;obtain ⟨c,hcs⟩:=fn57 ({nd with kind:=4}:Nod) s hs;refine ⟨c,fun N hN=>?_⟩;obtain ⟨M,rfl⟩:∃M,N=M+10:=⟨N-10,by omega⟩;have hc:=hcs (M+9) (by omega);exact ⟨c19_4 nd s M hc,c20_4 nd s M hc⟩
 by_cases h5:nd.kind=5;·obtain ⟨nd,rfl⟩:∃nd':Nod,nd={nd' with kind:=5}:=⟨nd,by cases nd;simp_all⟩;obtain ⟨c,hcs⟩:=fn58 ({nd with kind:=5}:Nod) s hs;refine ⟨c,fun N hN=>?_⟩;obtain ⟨M,rfl⟩:∃M,N=M+10:=⟨N-10,by omega⟩;have hc:=hcs (M+9) (by omega);exact ⟨c19_5 nd s M hc,c20_5 nd s M hc⟩
 by_cases h6:nd.kind=6;·obtain ⟨nd,rfl⟩:∃nd':Nod,nd={nd' with kind:=6}:=⟨nd,by cases nd;simp_all⟩;obtain ⟨c,hcs⟩:=fn59 ({nd with kind:=6}:Nod) s hs;refine ⟨c,fun N hN=>?_⟩;obtain ⟨M,rfl⟩:∃M,N=M+10:=⟨N-10,by omega⟩;have hc:=hcs (M+9) (by omega);exact ⟨c19_6 nd s M hc,c20_6 nd s M hc⟩
 by_cases h7:nd.kind=7;·obtain ⟨nd,rfl⟩:∃nd':Nod,nd={nd' with kind:=7}:=⟨nd,by cases nd;simp_all⟩;obtain ⟨c,hcs⟩:=fn60 ({nd with kind:=7}:Nod) s hs;refine ⟨c,fun N hN=>?_⟩;obtain ⟨M,rfl⟩:∃M,N=M+10:=⟨N-10,by omega⟩;have hc:=hcs (M+9) (by omega);exact ⟨c19_7 nd s M hc,c20_7 nd s M hc⟩
 by_cases h8:nd.kind=8;·obtain ⟨nd,rfl⟩:∃nd':Nod,nd={nd' with kind:=8}:=⟨nd,by cases nd;simp_all⟩;obtain ⟨c,hcs⟩:=fn60 ({nd with kind:=8}:Nod) s hs;refine ⟨c,fun N hN=>?_⟩;obtain ⟨M,rfl⟩:∃M,N=M+10:=⟨N-10,by omega⟩;have hc:=hcs (M+9) (by omega);exact ⟨c19_8 nd s M hc,c20_8 nd s M hc⟩
 by_cases h9:nd.kind=9;·obtain ⟨nd,rfl⟩:∃nd':Nod,nd={nd' with kind:=9}:=⟨nd,by cases nd;simp_all⟩;obtain ⟨c,hcs⟩:=fn61 ({nd with kind:=9}:Nod) s hs;refine ⟨c,fun N hN=>?_⟩;obtain ⟨M,rfl⟩:∃M,N=M+10:=⟨N-10,by omega⟩;have hc:=hcs (M+9) (by omega);exact ⟨c19_9 nd s M hc,c20_9 nd s M hc⟩
 by_cases h10:nd.kind=10;·obtain ⟨nd,rfl⟩:∃nd':Nod,nd={nd' with kind:=10}:=⟨nd,by cases nd;simp_all⟩;obtain ⟨c,hcs⟩:=fn62 ({nd with kind:=10}:Nod) s hs;refine ⟨c,fun N hN=>?_⟩;obtain ⟨M,rfl⟩:∃M,N=M+10:=⟨N-10,by omega⟩;have hc:=hcs (M+9) (by omega);exact ⟨c19_10 nd s M hc,c20_10 nd s M hc⟩
 by_cases h11:nd.kind=11;·obtain ⟨nd,rfl⟩:∃nd':Nod,nd={nd' with kind:=11}:=⟨nd,by cases nd;simp_all⟩;refine ⟨rcheckF 11 s,fun N hN=>?_⟩;obtain ⟨M,rfl⟩:∃M,N=M+10:=⟨N-10,by omega⟩;have hc:=rcheck_pure (M+7) ({nd with kind:=11}:Nod) s;exact ⟨c19_11 nd s M hc,c20_11 nd s M hc⟩
 by_cases h12:nd.kind=12;·obtain ⟨nd,rfl⟩:∃nd':Nod,nd={nd' with kind:=12}:=⟨nd,by cases nd;simp_all⟩;refine ⟨rcheckF 12 s,fun N hN=>?_⟩;obtain ⟨M,rfl⟩:∃M,N=M+10:=⟨N-10,by omega⟩;have hc:=rcheck_pure (M+7) ({nd with kind:=12}:Nod) s;exact ⟨c19_12 nd s M hc,c20_12 nd s M hc⟩
 by_cases h14:nd.kind=14;·obtain ⟨nd,rfl⟩:∃nd':Nod,nd={nd' with kind:=14}:=⟨nd,by cases nd;simp_all⟩;refine ⟨rcheckF 14 s,fun N hN=>?_⟩;obtain ⟨M,rfl⟩:∃M,N=M+10:=⟨N-10,by omega⟩;have hc:=rcheck_pure (M+7) ({nd with kind:=14}:Nod) s;exact ⟨c19_14 nd s M hc,c20_14 nd s M hc⟩
 exact ⟨11,fun N hN=>by obtain ⟨M,rfl⟩:∃M,N=M+10:=⟨N-10,by omega⟩;exact ⟨c19_e nd s M h1 h2 h3 h4 h5 h6 h7 h8 h9 h10 h11 h12 h14,c20_e nd s M h1 h2 h3 h4 h5 h6 h7 h8 h9 h10 h11 h12 h14⟩⟩
theorem due_same (nd:Nod)(s:Stt)(hs:s.small):∃(z:Int) (g:Bool),∀N,261200<=N->Gam.pureD (callF tab ext N) 17 [.agg nd.cells,.agg s.cells]=some (.tup [num z,boolX g])/\Gam.pureD (callF tab ext N) 18 [.agg nd.cells,.agg s.cells]=some (.tup [num z,boolX g]):=by
 obtain ⟨z,g,hds⟩:=fn54 s hs;by_cases h1:nd.kind=1;·obtain ⟨nd,rfl⟩:∃nd':Nod,nd={nd' with kind:=1}:=⟨nd,by cases nd;simp_all⟩;refine ⟨0,false,fun N hN=>?_⟩;obtain ⟨M,rfl⟩:∃M,N=M+10:=⟨N-10,by omega⟩;exact ⟨c17_1 nd s M (fn88 ({nd with kind:=1}:Nod) s (M+9) (by omega)),c18_1 nd s M⟩
 by_cases h2:nd.kind=2;·obtain ⟨nd,rfl⟩:∃nd':Nod,nd={nd' with kind:=2}:=⟨nd,by cases nd;simp_all⟩;refine ⟨0,false,fun N hN=>?_⟩;obtain ⟨M,rfl⟩:∃M,N=M+10:=⟨N-10,by omega⟩;exact ⟨c17_2 nd s M (fn88 ({nd with kind:=2}:Nod) s (M+9) (by omega)),c18_2 nd s M⟩
 by_cases h3:nd.kind=3;·obtain ⟨nd,rfl⟩:∃nd':Nod,nd={nd' with kind:=3}:=⟨nd,by cases nd;simp_all⟩;refine ⟨0,false,fun N hN=>?_⟩;obtain ⟨M,rfl⟩:∃M,N=M+10:=⟨N-10,by omega⟩;exact ⟨c17_3 nd s M (fn88 ({nd with kind:=3}:Nod) s (M+9) (by omega)),c18_3 nd s M⟩
 by_cases h4:nd.kind=4;·obtain ⟨nd,rfl⟩:∃nd':Nod,nd={nd' with kind:=4}:=⟨nd,by cases nd;simp_all⟩;refine ⟨z,g,fun N hN=>?_⟩;obtain ⟨M,rfl⟩:∃M,N=M+10:=⟨N-10,by omega⟩;have hc:=fn51 ({nd with kind:=4}:Nod) s hds (M+9) (by omega);exact ⟨c17_4 nd s M hc,c18_4 nd s M hc⟩
 by_cases h5:nd.kind=5;·obtain ⟨nd,rfl⟩:∃nd':Nod,nd={nd' with kind:=5}:=⟨nd,by cases nd;simp_all⟩;refine ⟨z,g,fun N hN=>?_⟩;obtain ⟨M,rfl⟩:∃M,N=M+10:=⟨N-10,by omega⟩;have hc:=fn93 ({nd with kind:=5}:Nod) s hds (M+9) (by omega);exact ⟨c17_5 nd s M hc,c18_5 nd s M (hds (M+9) (by omega))⟩
 by_cases h6:nd.kind=6;·obtain ⟨nd,rfl⟩:∃nd':Nod,nd={nd' with kind:=6}:=⟨nd,by cases nd;simp_all⟩;refine ⟨0,false,fun N hN=>?_⟩;obtain ⟨M,rfl⟩:∃M,N=M+10:=⟨N-10,by omega⟩;exact ⟨c17_6 nd s M (fn88 ({nd with kind:=6}:Nod) s (M+9) (by omega)),c18_6 nd s M⟩
 by_cases h7:nd.kind=7;·obtain ⟨nd,rfl⟩:∃nd':Nod,nd={nd' with kind:=7}:=⟨nd,by cases nd;simp_all⟩;obtain ⟨z,g,hcs⟩:=fn52 ({nd with kind:=7}:Nod) s hs;refine ⟨z,g,fun N hN=>?_⟩;obtain ⟨M,rfl⟩:∃M,N=M+10:=⟨N-10,by omega⟩;have hc:=hcs (M+9) (by omega);exact ⟨c17_7 nd s M hc,c18_7 nd s M hc⟩
 by_cases h8:nd.kind=8;·obtain ⟨nd,rfl⟩:∃nd':Nod,nd={nd' with kind:=8}:=⟨nd,by cases nd;simp_all⟩;obtain ⟨z,g,hcs⟩:=fn52 ({nd with kind:=8}:Nod) s hs;refine ⟨z,g,fun N hN=>?_⟩;obtain ⟨M,rfl⟩:∃M,N=M+10:=⟨N-10,by omega⟩;have hc:=hcs (M+9) (by omega);exact ⟨c17_8 nd s M hc,c18_8 nd s M hc⟩
 by_cases h9:nd.kind=9;·obtain ⟨nd,rfl⟩:∃nd':Nod,nd={nd' with kind:=9}:=⟨nd,by cases nd;simp_all⟩;refine ⟨z,g,fun N hN=>?_⟩;obtain ⟨M,rfl⟩:∃M,N=M+10:=⟨N-10,by omega⟩;have hc:=fn53 ({nd with kind:=9}:Nod) s hds (M+9) (by omega);exact ⟨c17_9 nd s M hc,c18_9 nd s M hc⟩
 by_cases h10:nd.kind=10;·obtain ⟨nd,rfl⟩:∃nd':Nod,nd={nd' with kind:=10}:=⟨nd,by cases nd;simp_all⟩;refine ⟨z,g,fun N hN=>?_⟩;obtain ⟨M,rfl⟩:∃M,N=M+10:=⟨N-10,by omega⟩;have hc:=fn93 ({nd with kind:=10}:Nod) s hds (M+9) (by omega);exact ⟨c17_10 nd s M hc,c18_10 nd s M (hds (M+9) (by omega))⟩
 by_cases h11:nd.kind=11;·obtain ⟨nd,rfl⟩:∃nd':Nod,nd={nd' with kind:=11}:=⟨nd,by cases nd;simp_all⟩;refine ⟨0,false,fun N hN=>?_⟩;obtain ⟨M,rfl⟩:∃M,N=M+10:=⟨N-10,by omega⟩;exact ⟨c17_11 nd s M (fn88 ({nd with kind:=11}:Nod) s (M+9) (by omega)),c18_11 nd s M⟩
 by_cases h12:nd.kind=12;·obtain ⟨nd,rfl⟩:∃nd':Nod,nd={nd' with kind:=12}:=⟨nd,by cases nd;simp_all⟩;refine ⟨0,false,fun N hN=>?_⟩;obtain ⟨M,rfl⟩:∃M,N=M+10:=⟨N-10,by omega⟩;exact ⟨c17_12 nd s M (fn88 ({nd with kind:=12}:Nod) s (M+9) (by omega)),c18_12 nd s M⟩
 by_cases h14:nd.kind=14;·obtain ⟨nd,rfl⟩:∃nd':Nod,nd={nd' with kind:=14}:=⟨nd,by cases nd;simp_all⟩;refine ⟨0,false,fun N hN=>?_⟩;obtain ⟨M,rfl⟩:∃M,N=M+10:=⟨N-10,by omega⟩;exact ⟨c17_14 nd s M (fn88 ({nd with kind:=14}:Nod) s (M+9) (by omega)),c18_14 nd s M⟩
 exact ⟨0,false,fun N hN=>by obtain ⟨M,rfl⟩:∃M,N=M+10:=⟨N-10,by omega⟩;exact ⟨c17_e nd s M h1 h2 h3 h4 h5 h6 h7 h8 h9 h10 h11 h12 h14,c18_e nd s M h1 h2 h3 h4 h5 h6 h7 h8 h9 h10 h11 h12 h14⟩⟩
theorem checks_all {cn:List X}(h:isNode cn)(s:Stt)(N:Nat)(hN:261301<=N):Gam.pureD (callF tab ext N) 4 [.agg cn,.agg s.cells]=some (.v (.bool true)):=by
 obtain ⟨M,rfl⟩:∃M,N=M+1001:=⟨N-1001,by omega⟩;obtain ⟨nd0,nd,rfl,h16⟩:=node_of h;have h16:=h16 (M+1000) (by omega);have h8:=short_state s (M+1000) (by omega);have hs:=shortS_small s;have h11:=known39 M;generalize shortS s=t at h8 hs;obtain ⟨c,hcs⟩:=check_same nd t hs;obtain ⟨z,g,hds⟩:=due_same nd t hs;obtain ⟨h19,h20⟩:=hcs (M+1000) (by omega);obtain ⟨h17,h18⟩:=hds (M+1000) (by omega);have e1:(c==c)=true:=by simp
 have e2:(z==z)=true:=by simp
 obtain ⟨a0,b0,s0⟩:=s;obtain ⟨a,b,ss⟩:=t;cases g with
 |true=>exact pure_of [(10,.p (.agg nd.cells)),(12,.p (.agg [num a,num b,.sl false 10 (sltsC ss)])),(16,.p (.tup [num z,boolX true])),(22,.p (.tup [num z,boolX true])),(25,.p (boolX true)),(29,.p (num c)),(32,.p (num c)),(33,.b true),(38,.b true)] [] (pf9 h16 h8 h17 h18 h11 h19 h20 e1 e2) (x:=boolX true) (bx:=[]) (by kernel_rfl) rfl
 |false=>exact pure_of [(10,.p (.agg nd.cells)),(12,.p (.agg [num a,num b,.sl false 10 (sltsC ss)])),(16,.p (.tup [num z,boolX false])),(22,.p (.tup [num z,boolX false])),(25,.p (boolX true)),(29,.p (num c)),(32,.p (num c)),(33,.b true),(38,.b true)] [] (pf9 h16 h8 h17 h18 h11 h19 h20 e1 e2) (x:=boolX true) (bx:=[]) (by kernel_rfl) rfl
end Go.Proofs.YtonnphbfclaigaaGreatDoor.Ck
