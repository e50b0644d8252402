/-.-/
import Derived.Laws.BitsLemmas
import Derived.Test.YtonnphbfclaigaaGreatDoorP11
set_option linter.all false
namespace Go.Proofs.YtonnphbfclaigaaGreatDoor
open Go.Em
set_option maxRecDepth 100000
variable {τ:St}
def num (n:Int):X:=.v (.int .i64 n)
def nat (n:Nat):X:=.v (.int .i64 (Int.ofNat n))
def noText:X:=.v (.string ⟨#[]⟩)
def strX (s:qbJ):X:=.v (.string s)
def boolX (b:Bool):X:=.v (.bool b)
theorem lt_nat {j k:Nat}(h:j<k):decide (Int.ofNat j<Int.ofNat k)=true:=by
 have:Int.ofNat j<Int.ofNat k:=by simp only [qbs];omega
 exact decide_eq_true this
theorem nlt_nat {j k:Nat}(h:¬j<k):decide (Int.ofNat j<Int.ofNat k)=false:=by
 have:¬Int.ofNat j<Int.ofNat k:=by simp only [qbs];omega
 exact decide_eq_false this
theorem next_nat {j:Nat}(h:j<4294967296):IntKind.i64.wrap (Int.ofNat j+1)=Int.ofNat (j+1):=by rw [IntKind.wrap_i64];simp only [qbs];omega
theorem room_of {n bytes:Nat}(h:n*bytes<=70368744177664)(h2:n<4611686018427387904):roomOk n bytes=true:=by simp only [roomOk,qa4,qbu];exact ⟨h,h2⟩
inductive Val where
 |mk (k i s:Int) (t:qbJ) (l:List Val) (f:List (qbJ×Val))
mutual
def Val.cells:Val->List X
 |.mk k i s t l f=>[num k,num i,num s,strX t,.sl false 6 (cellsL l),.sl false 7 (cellsF f)]
def cellsL:List Val->qbI
 |[]=>[]
 |v::r=>v.cells::cellsL r
def cellsF:List (qbJ×Val)->qbI
 |[]=>[]
 |(n,v)::r=>(strX n::v.cells)::cellsF r
end
mutual
def Val.size:Val->Nat
 |.mk _ _ _ _ l f=>sizeL l+sizeF f+1
def sizeL:List Val->Nat
 |[]=>0
 |v::r=>v.size+sizeL r+1
def sizeF:List (qbJ×Val)->Nat
 |[]=>0
 |(_,v)::r=>v.size+sizeF r+1
end
theorem cellsL_length:∀l,(cellsL l).length=l.length
 |[]=>rfl
 |v::r=>by simp [cellsL,cellsL_length r]
theorem cellsF_length:∀l,(cellsF l).length=l.length
 |[]=>rfl
 |(n,v)::r=>by simp [cellsF,cellsF_length r]
theorem cellsL_eq:∀l,cellsL l=l.map Val.cells
 |[]=>rfl
 |v::r=>by simp [cellsL,cellsL_eq r]
theorem cellsF_eq:∀l,cellsF l=l.map fun p=>strX p.1::p.2.cells
 |[]=>rfl
 |(n,v)::r=>by simp [cellsF,cellsF_eq r]
theorem sizeL_mem {v:Val}:∀{l:List Val},v∈l->v.size<sizeL l
 |u::r,h=>by
  simp only [sizeL];rcases qbl.1 h with rfl|h;·omega
  have:=sizeL_mem h;omega
theorem sizeF_mem {p:qbJ×Val}:∀{l:List (qbJ×Val)},p∈l->p.2.size<sizeF l
 |(n,u)::r,h=>by
  simp only [sizeF];rcases qbl.1 h with rfl|h;·dsimp only;omega
  have:=sizeF_mem h;omega
theorem sizeL_length:∀l:List Val,l.length<=sizeL l
 |[]=>Nat.le_refl _
 |v::r=>by have:=sizeL_length r;simp only [sizeL,qbr];omega
theorem sizeF_length:∀l:List (qbJ×Val),l.length<=sizeF l
 |[]=>Nat.le_refl _
 |(n,v)::r=>by have:=sizeF_length r;simp only [sizeF,qbr];omega
theorem cellsL_get {l:List Val}{j:Nat}(h:j<l.length):(cellsL l)[j]?=some l[j].cells:=by rw [cellsL_eq];simp [h]
theorem cellsF_get {l:List (qbJ×Val)}{j:Nat}(h:j<l.length):(cellsF l)[j]?=some (strX l[j].1::l[j].2.cells):=by rw [cellsF_eq];simp [h]
def loopOfC:C->List C
 |.seq a b=>loopOfC a++loopOfC b
 |.cond _ a b=>loopOfC a++loopOfC b
 |.block _ b=>loopOfC b
 |.loop b=>b::loopOfC b
 |.rf _ _ _ _ b=>loopOfC b
 |_=>[]
noncomputable def loopAt (f k:Nat):C:=match tab f with
 |some fd=>(loopOfC fd.body).getD k .stuck
 |none=>.stuck
theorem app_ok {acc:qbI}(j i bytes:Nat)(h:j=acc.length)(hj:j<1000000)(hb:bytes<1000):0+j=acc.length/\roomOk (j+1) bytes=true/\memN i []=false:=
 ⟨by omega,room_of (by have:(j+1)*bytes<=1000000*1000:=Nat.mul_le_mul (by omega) (by omega);omega) (by omega),rfl⟩
def zVal:List X:=[num 0,num 0,num 0,noText,.sl true 6 [],.sl true 7 []]
section
variable (k i s:Int) (t:qbJ) (l f acc accF:qbI) (n j m:Nat) (x y:List X)
def clH:St:=⟨[(1,.ptr 0 0 0),(2,.ptr 1 0 0),(3,.ptr 2 0 0),(12,.sl false 6 l),(13,nat n),(14,nat j)],[.var [num k,num i,num s,strX t,.sl false 6 l,.sl false 7 f],.var zVal,.var [num k,num i,num s,strX t,.bs 3 0 j,.sl true 7 []],.row 6 acc]⟩
def clH':St:=⟨[(1,.ptr 0 0 0),(2,.ptr 1 0 0),(3,.ptr 2 0 0),(12,.sl false 6 l),(13,nat n),(14,nat (j+1))],[.var [num k,num i,num s,strX t,.sl false 6 l,.sl false 7 f],.var zVal,.var [num k,num i,num s,strX t,.bs 5 0 (j+1),.sl true 7 []],.dead,.var x,.row 6 (acc++[y])]⟩
def clE:St:=⟨[(1,.ptr 0 0 0),(2,.ptr 1 0 0),(3,.ptr 2 0 0),(12,.sl false 6 l),(13,nat n),(14,nat j),(15,boolX false)],[.var [num k,num i,num s,strX t,.sl false 6 l,.sl false 7 f],.var zVal,.var [num k,num i,num s,strX t,.bs 3 0 j,.sl true 7 []],.row 6 acc]⟩
theorem cl_canon:canon 0 (clH k i s t l f acc n j)=some (clH k i s t l f acc n j):=by kernel_rfl
theorem cl_canon':canon 0 (clH' k i s t l f acc n j x y)=some (clH k i s t l f (acc++[y]) n (j+1)):=by kernel_rfl
def cfH:St:=⟨[(2,.ptr 0 0 0),(3,.ptr 1 0 0),(27,.sl false 7 f),(28,nat n),(29,nat j)],[.var zVal,.var [num k,num i,num s,strX t,.bs 2 0 m,.bs 3 0 j],.row 6 acc,.row 7 accF]⟩
def cfH':St:=⟨[(2,.ptr 0 0 0),(3,.ptr 1 0 0),(27,.sl false 7 f),(28,nat n),(29,nat (j+1))],[.var zVal,.var [num k,num i,num s,strX t,.bs 2 0 m,.bs 5 0 (j+1)],.row 6 acc,.dead,.var x,.row 7 (accF++[y])]⟩
def cfE:St:=⟨[(2,.ptr 0 0 0),(3,.ptr 1 0 0),(27,.sl false 7 f),(28,nat n),(29,nat j),(30,boolX false)],[.var zVal,.var [num k,num i,num s,strX t,.bs 2 0 m,.bs 3 0 j],.row 6 acc,.row 7 accF]⟩
theorem cf_canon':canon 0 (cfH' k i s t f acc accF n j m x y)=some (cfH k i s t f acc (accF++[y]) n (j+1) m):=by kernel_rfl
end
section
variable (N:Nat) (k i s:Int) (t:qbJ) (l f acc accF:qbI) (n j m:Nat) (v:Val) (nm:qbJ)
theorem cl_step (hv:Gam.pureD (callF tab ext N) 85 [.agg v.cells]=some (.agg v.cells))(hi:l[j]?=some v.cells)(hj:j<n)(hn:n<1000000)(ha:j=acc.length):
  run (callF tab ext N) 0 N (loopAt 85 0) (clH k i s t l f acc n j)=some (.norm,clH' k i s t l f acc n j v.cells v.cells):=
 by
 obtain ⟨a1,a2,a3,a4,a5,a6⟩:=v;exact run_of [(15,.b true),(16,.e (Val.mk a1 a2 a3 a4 a5 a6).cells),(21,.p (.agg (Val.mk a1 a2 a3 a4 a5 a6).cells)),(23,.app),(25,.i (Int.ofNat (j+1)))] []
  (pf5 (lt_nat hj) hi hv (app_ok j 3 88 ha (by omega) (by omega)) (next_nat (j:=j) (by omega))) (lo':=[]) (by kernel_rfl)
theorem cl_end:run (callF tab ext N) 0 N (loopAt 85 0) (clH k i s t l f acc n n)=some (.exit 0,clE k i s t l f acc n n):=
 run_of [(15,.b false)] [] (pf1 (nlt_nat (qbz n))) (lo':=[]) (by kernel_rfl)
theorem cf_step (hv:Gam.pureD (callF tab ext N) 85 [.agg v.cells]=some (.agg v.cells))(hi:f[j]?=some (strX nm::v.cells))(hj:j<n)(hn:n<1000000)(ha:j=accF.length):
  run (callF tab ext N) 0 N (loopAt 85 1) (cfH k i s t f acc accF n j m)=some (.norm,cfH' k i s t f acc accF n j m (strX nm::v.cells) (strX nm::v.cells)):=
 by
 obtain ⟨a1,a2,a3,a4,a5,a6⟩:=v;exact run_of [(30,.b true),(31,.e (strX nm::(Val.mk a1 a2 a3 a4 a5 a6).cells)),(39,.p (.agg (Val.mk a1 a2 a3 a4 a5 a6).cells)),(42,.app),(44,.i (Int.ofNat (j+1)))] []
  (pf5 (lt_nat hj) hi hv (app_ok j 3 104 ha (by omega) (by omega)) (next_nat (j:=j) (by omega))) (lo':=[]) (by kernel_rfl)
theorem cf_end:run (callF tab ext N) 0 N (loopAt 85 1) (cfH k i s t f acc accF n n m)=some (.exit 2,cfE k i s t f acc accF n n m):=
 run_of [(30,.b false)] [] (pf1 (nlt_nat (qbz n))) (lo':=[]) (by kernel_rfl)
end
theorem take_succ_get {α:Type}{l:List α}{j:Nat}{x:α}(h:l[j]?=some x):l.take j++[x]=l.take (j+1):=by obtain ⟨hj,rfl⟩:=qaY.1 h;simp_all
theorem clone_val:∀(N:Nat) (v:Val),v.size<N->v.size<1000000->Gam.pureD (callF tab ext N) 85 [.agg v.cells]=some (.agg v.cells)
 |0,_,h,_=>by omega
 |M+1,.mk k i s t l f,h,hs=>by
  simp only [Val.size] at h hs;have hl:=sizeL_length l;have hf:=sizeF_length f;have el:=cellsL_length l;have ef:=cellsF_length f;have h1:run (callF tab ext M) 0 M (.loop (loopAt 85 0)) (clH k i s t (cellsL l) (cellsF f) [] (cellsL l).length 0)=some (.exit 0,clE k i s t (cellsL l) (cellsF f) (cellsL l) (cellsL l).length (cellsL l).length):=by
   refine loop_for (σ:=fun j=>clH k i s t (cellsL l) (cellsF f) ((cellsL l).take j) (cellsL l).length j) (k:=(cellsL l).length) (cl_canon _ _ _ _ _ _ _ _ _) (fun j hj=>?_) ?_ (by simp) (by omega)
   ·have hj':j<l.length:=by omega
    have hg:=cellsL_get hj';have hm:=sizeL_mem (qbk hj');refine ⟨_,cl_step M k i s t _ _ _ _ j l[j] (clone_val M l[j] (by omega) (by omega)) hg (by omega) (by omega) (by rw [qaN];omega),?_⟩<;>grind[cl_canon',take_succ_get]
   ·grind[cl_end]
  have h2:run (callF tab ext M) 0 M (.loop (loopAt 85 1)) ⟨[(2,.ptr 1 0 0),(3,.ptr 2 0 0),(27,.sl false 7 (cellsF f)),(28,nat (cellsF f).length),(29,nat 0)],[.var [num k,num i,num s,strX t,.sl false 6 (cellsL l),.sl false 7 (cellsF f)],.var zVal,.var [num k,num i,num s,strX t,.bs 3 0 (cellsL l).length,.bs 4 0 0],.row 6 (cellsL l),.row 7 []]⟩=some (.exit 2,cfE k i s t (cellsF f) (cellsL l) (cellsF f) (cellsF f).length (cellsF f).length (cellsL l).length):=by
   refine loop_for (σ:=fun j=>cfH k i s t (cellsF f) (cellsL l) ((cellsF f).take j) (cellsF f).length j (cellsL l).length) (k:=(cellsF f).length) (by kernel_rfl) (fun j hj=>?_) ?_ (by simp) (by omega)
   ·have hj':j<f.length:=by omega
    have hg:=cellsF_get hj';have hm:=sizeF_mem (qbk hj');refine ⟨_,cf_step M k i s t _ _ _ _ j _ f[j].2 f[j].1 (clone_val M f[j].2 (by omega) (by omega)) hg (by omega) (by omega) (by rw [qaN];omega),?_⟩<;>grind[cf_canon',take_succ_get]
   ·grind[cf_end]
  have h3:(X.agg [num k,num i,num s,strX t,.bs 0 0 (cellsL l).length,.bs 1 0 (cellsF f).length]).data [.row 6 (cellsL l),.row 7 (cellsF f)] false=some (.agg (Val.mk k i s t l f).cells):=by simp [X.data,dataL,rowOf,Val.cells,num,strX]
  exact pure_of [] [(.exit 0,clE k i s t (cellsL l) (cellsF f) (cellsL l) (cellsL l).length (cellsL l).length),(.exit 2,cfE k i s t (cellsF f) (cellsL l) (cellsF f) (cellsF f).length (cellsF f).length (cellsL l).length)]
   (pf2 h1 h2) (bx:=[.row 6 (cellsL l),.row 7 (cellsF f)]) (by kernel_rfl) h3
def ordI (a b:Int):Int:=if a<b then -1 else if b<a then 1 else 0
def orL:List Int->Int
 |[]=>0
 |x::r=>if x=0 then orL r else x
def lexC {α β:Type}(r:α->β->Int):List α->List β->Int
 |[],[]=>0
 |[],_::_=>-1
 |_::_,[]=>1
 |a::la,b::lb=>if r a b=0 then lexC r la lb else r a b
theorem ne_true {x:Int}(h:¬x=0):(!(x==0))=true:=by grind
theorem ne_false {x:Int}(h:x=0):(!(x==0))=false:=by grind
theorem ge_true {j k:Nat}(h:k<=j):decide (Int.ofNat k<=Int.ofNat j)=true:=by grind
theorem ge_false {j k:Nat}(h:j<k):decide (Int.ofNat k<=Int.ofNat j)=false:=by grind
theorem not_nan (N:Nat)(a:Int):Gam.pureD (callF tab ext (N+2)) 112 [num a]=some (boolX false):=
 pure_of [(5,.b false)] [] (pf1 (show (!(a==a))=false by simp)) (x:=boolX false) (bx:=[]) (by kernel_rfl) rfl
theorem cmp_int (N:Nat)(a b:Int):Gam.pureD (callF tab ext (N+4)) 67 [num a,num b]=some (num (ordI a b)):=by
 unfold ordI;by_cases h:a<b;·rw [if_pos h];exact pure_of [(8,.p (boolX false)),(10,.p (boolX false)),(16,.b true)] [] (pf3 (not_nan (N+1) a) (not_nan (N+1) b) (decide_eq_true h)) (x:=num (-1)) (bx:=[]) (by kernel_rfl) rfl
 rw [if_neg h];by_cases h2:b<a;·rw [if_pos h2];exact pure_of [(8,.p (boolX false)),(10,.p (boolX false)),(16,.b false),(19,.b true)] [] (pf4 (not_nan (N+1) a) (not_nan (N+1) b) (decide_eq_false h) (decide_eq_true h2)) (x:=num 1) (bx:=[]) (by kernel_rfl) rfl
 rw [if_neg h2];exact pure_of [(8,.p (boolX false)),(10,.p (boolX false)),(16,.b false),(19,.b false)] [] (pf4 (not_nan (N+1) a) (not_nan (N+1) b) (decide_eq_false h) (decide_eq_false h2)) (x:=num 0) (bx:=[]) (by kernel_rfl) rfl
def intsC (l:List Int):qbI:=l.map fun x=>[num x]
theorem intsC_length (l:List Int):(intsC l).length=l.length:=by simp [intsC]
theorem intsC_get {l:List Int}{j:Nat}(h:j<l.length):(intsC l)[j]?=some [num l[j]]:=by grind[intsC]
def orH (l:qbI)(n j:Nat):St:=⟨[(3,num 0),(6,.sl false 1 l),(7,nat n),(8,nat j)],[]⟩
theorem or_canon (l:qbI)(n j:Nat):canon 0 (orH l n j)=some (orH l n j):=by kernel_rfl
theorem or_loop (M:Nat)(l:List Int)(hl:l.length<4000000):∀d j F,j+d=l.length->d<F->
  (¬orL (l.drop j)=0/\iter 0 (run (callF tab ext M) 0 M (loopAt 66 0)) F (orH (intsC l) (intsC l).length j)=some (.ret,⟨[(2,num (orL (l.drop j)))],[]⟩))\/
  (orL (l.drop j)=0/\iter 0 (run (callF tab ext M) 0 M (loopAt 66 0)) F (orH (intsC l) (intsC l).length j)=some (.exit 0,⟨[(3,num 0),(6,.sl false 1 (intsC l)),(7,nat (intsC l).length),(8,nat (intsC l).length),(9,boolX false)],[]⟩))
 |0,j,F,hj,hF=>by
  right;obtain ⟨F',rfl⟩:∃F',F=F'+1:=⟨F-1,by omega⟩;have hj':j=l.length:=by omega
  subst hj';have hn:=intsC_length l;refine ⟨by rw [List.drop_length];rfl,iter_end (or_canon _ _ _) ?_ (by simp)⟩;rw [hn];exact run_of [(9,.b false)] [] (pf1 (nlt_nat (qbz l.length))) (lo':=[]) (by kernel_rfl)
 |d+1,j,F,hj,hF=>by
  obtain ⟨F',rfl⟩:∃F',F=F'+1:=⟨F-1,by omega⟩;have hn:=intsC_length l;have hj':j<l.length:=by omega
  have hd:l.drop j=l[j]::l.drop (j+1):=by rw [<-List.getElem_cons_drop hj']
  rw [hd,orL];by_cases h:l[j]=0
  ·rw [if_pos h];have hs:run (callF tab ext M) 0 M (loopAt 66 0) (orH (intsC l) (intsC l).length j)=some (.norm,orH (intsC l) (intsC l).length (j+1)):=
    run_of [(9,.b true),(10,.e [num l[j]]),(14,.b false),(16,.i (Int.ofNat (j+1)))] [] (pf4 (lt_nat (j:=j) (k:=(intsC l).length) (by omega)) (intsC_get hj') (ne_false h) (next_nat (j:=j) (by omega))) (lo':=[]) (by kernel_rfl)
   rw [iter_step (or_canon _ _ _) hs rfl];exact or_loop M l hl d (j+1) F' (by omega) (by omega)
  rw [if_neg h];left;refine ⟨h,iter_end (or_canon _ _ _) ?_ (by simp)⟩;exact run_of [(9,.b true),(10,.e [num l[j]]),(14,.b true)] [] (pf3 (lt_nat (j:=j) (k:=(intsC l).length) (by omega)) (intsC_get hj') (ne_true h)) (lo':=[]) (by kernel_rfl)
theorem or_pure (N:Nat)(l:List Int)(hl:l.length<4000000)(hN:l.length<N):Gam.pureD (callF tab ext (N+1)) 66 [.sl false 1 (intsC l)]=some (num (orL l)):=by
 rcases or_loop N l hl l.length 0 N (by omega) hN with ⟨_,h⟩|⟨h0,h⟩;·exact pure_of [] [(.ret,⟨[(2,num (orL l))],[]⟩)] (pf1 h) (x:=num (orL l)) (bx:=[]) (by kernel_rfl) rfl
 have h0':orL l=0:=h0;rw [h0'];exact pure_of [] [(.exit 0,⟨[(3,num 0),(6,.sl false 1 (intsC l)),(7,nat (intsC l).length),(8,nat (intsC l).length),(9,boolX false)],[]⟩)] (pf1 h) (x:=num 0) (bx:=[]) (by kernel_rfl) rfl
theorem iter_canon {nIn:Nat}{f:St->Option (Ex×St)}{F:Nat}{υ σ:St}(h:canon nIn υ=some σ)(h':canon nIn σ=some σ):iter nIn f F υ=iter nIn f F σ:=by
 cases F<;>grind[iter]
section
variable (g:Nat) (l m:qbI) (n j:Nat)
def ch98:St:=⟨[(0,.sl false 1 l),(1,.sl false 1 m),(2,.fn g []),(11,.sl false 1 l),(12,nat n),(13,nat j)],[]⟩
def ce98:St:=⟨[(0,.sl false 1 l),(1,.sl false 1 m),(2,.fn g []),(11,.sl false 1 l),(12,nat n),(13,nat j),(14,boolX false)],[]⟩
theorem ch98_canon:canon 0 (ch98 g l m n j)=some (ch98 g l m n j):=by kernel_rfl
end
theorem cmp98_loop (M g:Nat)(la lb:List Int)(r:Int->Int->Int)(hr:∀a b,a∈la->b∈lb->Gam.pureD (callF tab ext M) g [num a,num b]=some (num (r a b)))(hl:la.length<4000000):∀d j F,j+d=la.length->d<F->
  (∃bx,iter 0 (run (callF tab ext M) 0 M (loopAt 68 0)) F (ch98 g (intsC la) (intsC lb) (intsC la).length j)=some (.ret,⟨[(6,num (lexC r (la.drop j) (lb.drop j)))],bx⟩))\/
  (lexC r (la.drop j) (lb.drop j)=(if la.length<lb.length then -1 else 0)/\iter 0 (run (callF tab ext M) 0 M (loopAt 68 0)) F (ch98 g (intsC la) (intsC lb) (intsC la).length j)=some (.exit 0,ce98 g (intsC la) (intsC lb) (intsC la).length (intsC la).length))
 |0,j,F,hj,hF=>by
  obtain ⟨F',rfl⟩:∃F',F=F'+1:=⟨F-1,by omega⟩;have hj':j=la.length:=by omega
  subst hj';have hn:=intsC_length la;have h:run (callF tab ext M) 0 M (loopAt 68 0) (ch98 g (intsC la) (intsC lb) la.length la.length)=some (.exit 0,ce98 g (intsC la) (intsC lb) la.length la.length):=
   run_of [(14,.b false)] [] (pf1 (nlt_nat (qbz la.length))) (lo':=[]) (by kernel_rfl)
  right;refine ⟨?_,by grind[iter_end,ch98_canon]⟩;rw [List.drop_length];by_cases hb:la.length<lb.length;·rw [if_pos hb,<-List.getElem_cons_drop hb];rfl
  rw [if_neg hb,List.drop_eq_nil_of_le (by omega)];rfl
 |d+1,j,F,hj,hF=>by
  obtain ⟨F',rfl⟩:∃F',F=F'+1:=⟨F-1,by omega⟩;have hn:=intsC_length la;have hm:=intsC_length lb;have hj':j<la.length:=by omega
  have hd:la.drop j=la[j]::la.drop (j+1):=by rw [<-List.getElem_cons_drop hj']
  have hg:=intsC_get hj';have hma:=qbk hj';rw [hd];generalize la[j]=a at hg hma
  skip
  by_cases hb:j<lb.length
  ·have hdb:lb.drop j=lb[j]::lb.drop (j+1):=by rw [<-List.getElem_cons_drop hb]
   have hgb:=intsC_get hb;have hmb:=qbk hb;rw [hdb];generalize lb[j]=b at hgb hmb
   skip
   have hc:=hr _ _ hma hmb;rw [lexC];by_cases h:r a b=0
   ·rw [if_pos h];have hs:∃bx,run (callF tab ext M) 0 M (loopAt 68 0) (ch98 g (intsC la) (intsC lb) (intsC la).length j)=some (.norm,⟨(ch98 g (intsC la) (intsC lb) (intsC la).length (j+1)).tm,bx⟩):=
     ⟨[],run_of [(14,.b true),(16,.e [num a]),(21,.b false),(24,.e [num b]),(29,.p (num (r a b))),(31,.b false),(33,.i (Int.ofNat (j+1)))] []
      (pf7 (lt_nat (j:=j) (k:=(intsC la).length) (by omega)) hg (ge_false (j:=j) (k:=(intsC lb).length) (by omega)) hgb hc (ne_false h) (next_nat (j:=j) (by omega))) (lo':=[]) (by kernel_rfl)⟩
    obtain ⟨bx,hs⟩:=hs;have hcn:canon 0 ⟨(ch98 g (intsC la) (intsC lb) (intsC la).length (j+1)).tm,bx⟩=some (ch98 g (intsC la) (intsC lb) (intsC la).length (j+1)):=by kernel_rfl
    have:=cmp98_loop M g la lb r hr hl d (j+1) F' (by omega) (by omega);have hi:iter 0 (run (callF tab ext M) 0 M (loopAt 68 0)) (F'+1) (ch98 g (intsC la) (intsC lb) (intsC la).length j)=iter 0 (run (callF tab ext M) 0 M (loopAt 68 0)) F' (ch98 g (intsC la) (intsC lb) (intsC la).length (j+1)):=
     (iter_step (ch98_canon _ _ _ _ _) hs rfl).trans (iter_canon hcn (ch98_canon _ _ _ _ _))
    grind
   rw [if_neg h];left;exact ⟨_,iter_end (ch98_canon _ _ _ _ _) (run_of [(14,.b true),(16,.e [num a]),(21,.b false),(24,.e [num b]),(29,.p (num (r a b))),(31,.b true)] []
     (pf6 (lt_nat (j:=j) (k:=(intsC la).length) (by omega)) hg (ge_false (j:=j) (k:=(intsC lb).length) (by omega)) hgb hc (ne_true h)) (lo':=[]) (σ':=⟨[(6,num (r a b))],[]⟩) (by kernel_rfl)) (by simp)⟩
  left;rw [List.drop_eq_nil_of_le (by omega:lb.length<=j),lexC];exact ⟨_,iter_end (ch98_canon _ _ _ _ _) (run_of [(14,.b true),(16,.e [num a]),(21,.b true)] []
     (pf3 (lt_nat (j:=j) (k:=(intsC la).length) (by omega)) hg (ge_true (j:=j) (k:=(intsC lb).length) (by omega))) (lo':=[]) (σ':=⟨[(6,num 1)],[]⟩) (by kernel_rfl)) (by simp)⟩
theorem cmp98_pure (M g:Nat)(la lb:List Int)(r:Int->Int->Int)(hr:∀a b,a∈la->b∈lb->Gam.pureD (callF tab ext M) g [num a,num b]=some (num (r a b)))(hl:la.length<4000000)(hN:la.length<M):
  Gam.pureD (callF tab ext (M+1)) 68 [.sl false 1 (intsC la),.sl false 1 (intsC lb),.fn g []]=some (num (lexC r la lb)):=by
 have hn:=intsC_length la;have hm:=intsC_length lb;rcases cmp98_loop M g la lb r hr hl la.length 0 M (by omega) hN with ⟨bx,h⟩|⟨h0,h⟩;·exact pure_of [] [(.ret,⟨[(6,num (lexC r la lb))],bx⟩)] (pf1 h) (x:=num (lexC r la lb)) (bx:=[]) (by kernel_rfl) rfl
 have h0':lexC r la lb=(if la.length<lb.length then -1 else 0):=h0;rw [h0'];by_cases hb:la.length<lb.length;·rw [if_pos hb];exact pure_of [(38,.b true)] [(.exit 0,ce98 g (intsC la) (intsC lb) (intsC la).length (intsC la).length)] (pf2 h (lt_nat (j:=(intsC la).length) (k:=(intsC lb).length) (by omega))) (x:=num (-1)) (bx:=[]) (by kernel_rfl) rfl
 rw [if_neg hb];exact pure_of [(38,.b false)] [(.exit 0,ce98 g (intsC la) (intsC lb) (intsC la).length (intsC la).length)] (pf2 h (nlt_nat (j:=(intsC la).length) (k:=(intsC lb).length) (by omega))) (x:=num 0) (bx:=[]) (by kernel_rfl) rfl
section
variable (g:Nat) (l m:qbI) (n j:Nat)
def ch104:St:=⟨[(0,.sl false 6 l),(1,.sl false 6 m),(2,.fn g []),(11,.sl false 6 l),(12,nat n),(13,nat j)],[]⟩
def ce104:St:=⟨[(0,.sl false 6 l),(1,.sl false 6 m),(2,.fn g []),(11,.sl false 6 l),(12,nat n),(13,nat j),(14,boolX false)],[]⟩
theorem ch104_canon:canon 0 (ch104 g l m n j)=some (ch104 g l m n j):=by kernel_rfl
end
theorem cmp104_loop (M g:Nat)(la lb:List Val)(r:Val->Val->Int)(hr:∀a b,a∈la->b∈lb->Gam.pureD (callF tab ext M) g [.agg a.cells,.agg b.cells]=some (num (r a b)))(hl:la.length<4000000):∀d j F,j+d=la.length->d<F->
  (∃bx,iter 0 (run (callF tab ext M) 0 M (loopAt 164 0)) F (ch104 g (cellsL la) (cellsL lb) (cellsL la).length j)=some (.ret,⟨[(6,num (lexC r (la.drop j) (lb.drop j)))],bx⟩))\/
  (lexC r (la.drop j) (lb.drop j)=(if la.length<lb.length then -1 else 0)/\iter 0 (run (callF tab ext M) 0 M (loopAt 164 0)) F (ch104 g (cellsL la) (cellsL lb) (cellsL la).length j)=some (.exit 0,ce104 g (cellsL la) (cellsL lb) (cellsL la).length (cellsL la).length))
 |0,j,F,hj,hF=>by
  obtain ⟨F',rfl⟩:∃F',F=F'+1:=⟨F-1,by omega⟩;have hj':j=la.length:=by omega
  subst hj';have hn:=cellsL_length la;have h:run (callF tab ext M) 0 M (loopAt 164 0) (ch104 g (cellsL la) (cellsL lb) la.length la.length)=some (.exit 0,ce104 g (cellsL la) (cellsL lb) la.length la.length):=
   run_of [(14,.b false)] [] (pf1 (nlt_nat (qbz la.length))) (lo':=[]) (by kernel_rfl)
  right;refine ⟨?_,by grind[iter_end,ch104_canon]⟩;rw [List.drop_length];by_cases hb:la.length<lb.length;·rw [if_pos hb,<-List.getElem_cons_drop hb];rfl
  rw [if_neg hb,List.drop_eq_nil_of_le (by omega)];rfl
 |d+1,j,F,hj,hF=>by
  obtain ⟨F',rfl⟩:∃F',F=F'+1:=⟨F-1,by omega⟩;have hn:=cellsL_length la;have hm:=cellsL_length lb;have hj':j<la.length:=by omega
  have hd:la.drop j=la[j]::la.drop (j+1):=by rw [<-List.getElem_cons_drop hj']
  have hg:=cellsL_get hj';have hma:=qbk hj';rw [hd];generalize la[j]=a at hg hma;obtain ⟨a1,a2,a3,a4,a5,a6⟩:=a;by_cases hb:j<lb.length
  ·have hdb:lb.drop j=lb[j]::lb.drop (j+1):=by rw [<-List.getElem_cons_drop hb]
   have hgb:=cellsL_get hb;have hmb:=qbk hb;rw [hdb];generalize lb[j]=b at hgb hmb;obtain ⟨b1,b2,b3,b4,b5,b6⟩:=b;have hc:=hr _ _ hma hmb;rw [lexC];by_cases h:r (Val.mk a1 a2 a3 a4 a5 a6) (Val.mk b1 b2 b3 b4 b5 b6)=0
   ·rw [if_pos h];have hs:∃bx,run (callF tab ext M) 0 M (loopAt 164 0) (ch104 g (cellsL la) (cellsL lb) (cellsL la).length j)=some (.norm,⟨(ch104 g (cellsL la) (cellsL lb) (cellsL la).length (j+1)).tm,bx⟩):=
     ⟨[.var (Val.mk a1 a2 a3 a4 a5 a6).cells,.var (Val.mk b1 b2 b3 b4 b5 b6).cells],run_of [(14,.b true),(16,.e (Val.mk a1 a2 a3 a4 a5 a6).cells),(21,.b false),(24,.e (Val.mk b1 b2 b3 b4 b5 b6).cells),(29,.p (num (r (Val.mk a1 a2 a3 a4 a5 a6) (Val.mk b1 b2 b3 b4 b5 b6)))),(31,.b false),(33,.i (Int.ofNat (j+1)))] []
      (pf7 (lt_nat (j:=j) (k:=(cellsL la).length) (by omega)) hg (ge_false (j:=j) (k:=(cellsL lb).length) (by omega)) hgb hc (ne_false h) (next_nat (j:=j) (by omega))) (lo':=[]) (by kernel_rfl)⟩
    obtain ⟨bx,hs⟩:=hs;have hcn:canon 0 ⟨(ch104 g (cellsL la) (cellsL lb) (cellsL la).length (j+1)).tm,bx⟩=some (ch104 g (cellsL la) (cellsL lb) (cellsL la).length (j+1)):=by kernel_rfl
    have:=cmp104_loop M g la lb r hr hl d (j+1) F' (by omega) (by omega);have hi:iter 0 (run (callF tab ext M) 0 M (loopAt 164 0)) (F'+1) (ch104 g (cellsL la) (cellsL lb) (cellsL la).length j)=iter 0 (run (callF tab ext M) 0 M (loopAt 164 0)) F' (ch104 g (cellsL la) (cellsL lb) (cellsL la).length (j+1)):=
     (iter_step (ch104_canon _ _ _ _ _) hs rfl).trans (iter_canon hcn (ch104_canon _ _ _ _ _))
    grind
   rw [if_neg h];left;exact ⟨_,iter_end (ch104_canon _ _ _ _ _) (run_of [(14,.b true),(16,.e (Val.mk a1 a2 a3 a4 a5 a6).cells),(21,.b false),(24,.e (Val.mk b1 b2 b3 b4 b5 b6).cells),(29,.p (num (r (Val.mk a1 a2 a3 a4 a5 a6) (Val.mk b1 b2 b3 b4 b5 b6)))),(31,.b true)] []
     (pf6 (lt_nat (j:=j) (k:=(cellsL la).length) (by omega)) hg (ge_false (j:=j) (k:=(cellsL lb).length) (by omega)) hgb hc (ne_true h)) (lo':=[]) (σ':=⟨[(6,num (r (Val.mk a1 a2 a3 a4 a5 a6) (Val.mk b1 b2 b3 b4 b5 b6)))],[.var (Val.mk a1 a2 a3 a4 a5 a6).cells,.var (Val.mk b1 b2 b3 b4 b5 b6).cells]⟩) (by kernel_rfl)) (by simp)⟩
  left;rw [List.drop_eq_nil_of_le (by omega:lb.length<=j),lexC];exact ⟨_,iter_end (ch104_canon _ _ _ _ _) (run_of [(14,.b true),(16,.e (Val.mk a1 a2 a3 a4 a5 a6).cells),(21,.b true)] []
     (pf3 (lt_nat (j:=j) (k:=(cellsL la).length) (by omega)) hg (ge_true (j:=j) (k:=(cellsL lb).length) (by omega))) (lo':=[]) (σ':=⟨[(6,num 1)],[.var (Val.mk a1 a2 a3 a4 a5 a6).cells]⟩) (by kernel_rfl)) (by simp)⟩
theorem cmp104_pure (M g:Nat)(la lb:List Val)(r:Val->Val->Int)(hr:∀a b,a∈la->b∈lb->Gam.pureD (callF tab ext M) g [.agg a.cells,.agg b.cells]=some (num (r a b)))(hl:la.length<4000000)(hN:la.length<M):
  Gam.pureD (callF tab ext (M+1)) 164 [.sl false 6 (cellsL la),.sl false 6 (cellsL lb),.fn g []]=some (num (lexC r la lb)):=by
 have hn:=cellsL_length la;have hm:=cellsL_length lb;rcases cmp104_loop M g la lb r hr hl la.length 0 M (by omega) hN with ⟨bx,h⟩|⟨h0,h⟩;·exact pure_of [] [(.ret,⟨[(6,num (lexC r la lb))],bx⟩)] (pf1 h) (x:=num (lexC r la lb)) (bx:=[]) (by kernel_rfl) rfl
 have h0':lexC r la lb=(if la.length<lb.length then -1 else 0):=h0;rw [h0'];by_cases hb:la.length<lb.length;·rw [if_pos hb];exact pure_of [(38,.b true)] [(.exit 0,ce104 g (cellsL la) (cellsL lb) (cellsL la).length (cellsL la).length)] (pf2 h (lt_nat (j:=(cellsL la).length) (k:=(cellsL lb).length) (by omega))) (x:=num (-1)) (bx:=[]) (by kernel_rfl) rfl
 rw [if_neg hb];exact pure_of [(38,.b false)] [(.exit 0,ce104 g (cellsL la) (cellsL lb) (cellsL la).length (cellsL la).length)] (pf2 h (nlt_nat (j:=(cellsL la).length) (k:=(cellsL lb).length) (by omega))) (x:=num 0) (bx:=[]) (by kernel_rfl) rfl
section
variable (g:Nat) (l m:qbI) (n j:Nat)
def ch105:St:=⟨[(0,.sl false 7 l),(1,.sl false 7 m),(2,.fn g []),(11,.sl false 7 l),(12,nat n),(13,nat j)],[]⟩
def ce105:St:=⟨[(0,.sl false 7 l),(1,.sl false 7 m),(2,.fn g []),(11,.sl false 7 l),(12,nat n),(13,nat j),(14,boolX false)],[]⟩
theorem ch105_canon:canon 0 (ch105 g l m n j)=some (ch105 g l m n j):=by kernel_rfl
end
theorem cmp105_loop (M g:Nat)(la lb:List (qbJ×Val))(r:(qbJ×Val)->(qbJ×Val)->Int)(hr:∀a b,a∈la->b∈lb->Gam.pureD (callF tab ext M) g [.agg (strX a.1::a.2.cells),.agg (strX b.1::b.2.cells)]=some (num (r a b)))(hl:la.length<4000000):∀d j F,j+d=la.length->d<F->
  (∃bx,iter 0 (run (callF tab ext M) 0 M (loopAt 165 0)) F (ch105 g (cellsF la) (cellsF lb) (cellsF la).length j)=some (.ret,⟨[(6,num (lexC r (la.drop j) (lb.drop j)))],bx⟩))\/
  (lexC r (la.drop j) (lb.drop j)=(if la.length<lb.length then -1 else 0)/\iter 0 (run (callF tab ext M) 0 M (loopAt 165 0)) F (ch105 g (cellsF la) (cellsF lb) (cellsF la).length j)=some (.exit 0,ce105 g (cellsF la) (cellsF lb) (cellsF la).length (cellsF la).length))
 |0,j,F,hj,hF=>by
  obtain ⟨F',rfl⟩:∃F',F=F'+1:=⟨F-1,by omega⟩;have hj':j=la.length:=by omega
  subst hj';have hn:=cellsF_length la;have h:run (callF tab ext M) 0 M (loopAt 165 0) (ch105 g (cellsF la) (cellsF lb) la.length la.length)=some (.exit 0,ce105 g (cellsF la) (cellsF lb) la.length la.length):=
   run_of [(14,.b false)] [] (pf1 (nlt_nat (qbz la.length))) (lo':=[]) (by kernel_rfl)
  right;refine ⟨?_,by grind[iter_end,ch105_canon]⟩;rw [List.drop_length];by_cases hb:la.length<lb.length;·rw [if_pos hb,<-List.getElem_cons_drop hb];rfl
  rw [if_neg hb,List.drop_eq_nil_of_le (by omega)];rfl
 |d+1,j,F,hj,hF=>by
  obtain ⟨F',rfl⟩:∃F',F=F'+1:=⟨F-1,by omega⟩;have hn:=cellsF_length la;have hm:=cellsF_length lb;have hj':j<la.length:=by omega
  have hd:la.drop j=la[j]::la.drop (j+1):=by rw [<-List.getElem_cons_drop hj']
  have hg:=cellsF_get hj';have hma:=qbk hj';rw [hd];generalize la[j]=a at hg hma;obtain ⟨a0,a1,a2,a3,a4,a5,a6⟩:=a;by_cases hb:j<lb.length
  ·have hdb:lb.drop j=lb[j]::lb.drop (j+1):=by rw [<-List.getElem_cons_drop hb]
   have hgb:=cellsF_get hb;have hmb:=qbk hb;rw [hdb];generalize lb[j]=b at hgb hmb;obtain ⟨b0,b1,b2,b3,b4,b5,b6⟩:=b;have hc:=hr _ _ hma hmb;rw [lexC];by_cases h:r (a0,Val.mk a1 a2 a3 a4 a5 a6) (b0,Val.mk b1 b2 b3 b4 b5 b6)=0
   ·rw [if_pos h];have hs:∃bx,run (callF tab ext M) 0 M (loopAt 165 0) (ch105 g (cellsF la) (cellsF lb) (cellsF la).length j)=some (.norm,⟨(ch105 g (cellsF la) (cellsF lb) (cellsF la).length (j+1)).tm,bx⟩):=
     ⟨[.var (strX a0::(Val.mk a1 a2 a3 a4 a5 a6).cells),.var (strX b0::(Val.mk b1 b2 b3 b4 b5 b6).cells)],run_of [(14,.b true),(16,.e (strX a0::(Val.mk a1 a2 a3 a4 a5 a6).cells)),(21,.b false),(24,.e (strX b0::(Val.mk b1 b2 b3 b4 b5 b6).cells)),(29,.p (num (r (a0,Val.mk a1 a2 a3 a4 a5 a6) (b0,Val.mk b1 b2 b3 b4 b5 b6)))),(31,.b false),(33,.i (Int.ofNat (j+1)))] []
      (pf7 (lt_nat (j:=j) (k:=(cellsF la).length) (by omega)) hg (ge_false (j:=j) (k:=(cellsF lb).length) (by omega)) hgb hc (ne_false h) (next_nat (j:=j) (by omega))) (lo':=[]) (by kernel_rfl)⟩
    obtain ⟨bx,hs⟩:=hs;have hcn:canon 0 ⟨(ch105 g (cellsF la) (cellsF lb) (cellsF la).length (j+1)).tm,bx⟩=some (ch105 g (cellsF la) (cellsF lb) (cellsF la).length (j+1)):=by kernel_rfl
    have:=cmp105_loop M g la lb r hr hl d (j+1) F' (by omega) (by omega);have hi:iter 0 (run (callF tab ext M) 0 M (loopAt 165 0)) (F'+1) (ch105 g (cellsF la) (cellsF lb) (cellsF la).length j)=iter 0 (run (callF tab ext M) 0 M (loopAt 165 0)) F' (ch105 g (cellsF la) (cellsF lb) (cellsF la).length (j+1)):=
     (iter_step (ch105_canon _ _ _ _ _) hs rfl).trans (iter_canon hcn (ch105_canon _ _ _ _ _))
    grind
   rw [if_neg h];left;exact ⟨_,iter_end (ch105_canon _ _ _ _ _) (run_of [(14,.b true),(16,.e (strX a0::(Val.mk a1 a2 a3 a4 a5 a6).cells)),(21,.b false),(24,.e (strX b0::(Val.mk b1 b2 b3 b4 b5 b6).cells)),(29,.p (num (r (a0,Val.mk a1 a2 a3 a4 a5 a6) (b0,Val.mk b1 b2 b3 b4 b5 b6)))),(31,.b true)] []
     (pf6 (lt_nat (j:=j) (k:=(cellsF la).length) (by omega)) hg (ge_false (j:=j) (k:=(cellsF lb).length) (by omega)) hgb hc (ne_true h)) (lo':=[]) (σ':=⟨[(6,num (r (a0,Val.mk a1 a2 a3 a4 a5 a6) (b0,Val.mk b1 b2 b3 b4 b5 b6)))],[.var (strX a0::(Val.mk a1 a2 a3 a4 a5 a6).cells),.var (strX b0::(Val.mk b1 b2 b3 b4 b5 b6).cells)]⟩) (by kernel_rfl)) (by simp)⟩
  left;rw [List.drop_eq_nil_of_le (by omega:lb.length<=j),lexC];exact ⟨_,iter_end (ch105_canon _ _ _ _ _) (run_of [(14,.b true),(16,.e (strX a0::(Val.mk a1 a2 a3 a4 a5 a6).cells)),(21,.b true)] []
     (pf3 (lt_nat (j:=j) (k:=(cellsF la).length) (by omega)) hg (ge_true (j:=j) (k:=(cellsF lb).length) (by omega))) (lo':=[]) (σ':=⟨[(6,num 1)],[.var (strX a0::(Val.mk a1 a2 a3 a4 a5 a6).cells)]⟩) (by kernel_rfl)) (by simp)⟩
theorem cmp105_pure (M g:Nat)(la lb:List (qbJ×Val))(r:(qbJ×Val)->(qbJ×Val)->Int)(hr:∀a b,a∈la->b∈lb->Gam.pureD (callF tab ext M) g [.agg (strX a.1::a.2.cells),.agg (strX b.1::b.2.cells)]=some (num (r a b)))(hl:la.length<4000000)(hN:la.length<M):
  Gam.pureD (callF tab ext (M+1)) 165 [.sl false 7 (cellsF la),.sl false 7 (cellsF lb),.fn g []]=some (num (lexC r la lb)):=by
 have hn:=cellsF_length la;have hm:=cellsF_length lb;rcases cmp105_loop M g la lb r hr hl la.length 0 M (by omega) hN with ⟨bx,h⟩|⟨h0,h⟩;·exact pure_of [] [(.ret,⟨[(6,num (lexC r la lb))],bx⟩)] (pf1 h) (x:=num (lexC r la lb)) (bx:=[]) (by kernel_rfl) rfl
 have h0':lexC r la lb=(if la.length<lb.length then -1 else 0):=h0;rw [h0'];by_cases hb:la.length<lb.length;·rw [if_pos hb];exact pure_of [(38,.b true)] [(.exit 0,ce105 g (cellsF la) (cellsF lb) (cellsF la).length (cellsF la).length)] (pf2 h (lt_nat (j:=(cellsF la).length) (k:=(cellsF lb).length) (by omega))) (x:=num (-1)) (bx:=[]) (by kernel_rfl) rfl
 rw [if_neg hb];exact pure_of [(38,.b false)] [(.exit 0,ce105 g (cellsF la) (cellsF lb) (cellsF la).length (cellsF la).length)] (pf2 h (nlt_nat (j:=(cellsF la).length) (k:=(cellsF lb).length) (by omega))) (x:=num 0) (bx:=[]) (by kernel_rfl) rfl
def cmpB (a b:qbJ):Int:=Lib.compareBytes a.data.toList b.data.toList
mutual
def cmpV:Val->Val->Int
 |.mk k i s t l f,.mk k' i' s' t' l' f'=>orL [ordI k k',ordI i i',ordI s s',cmpB t t',cmpVL l l',cmpVF f f']
def cmpVL:List Val->List Val->Int
 |[],[]=>0
 |[],_::_=>-1
 |_::_,[]=>1
 |a::l,b::m=>if cmpV a b=0 then cmpVL l m else cmpV a b
def cmpVF:List (qbJ×Val)->List (qbJ×Val)->Int
 |[],[]=>0
 |[],_::_=>-1
 |_::_,[]=>1
 |(x,a)::l,(y,b)::m=>if orL [cmpB x y,cmpV a b]=0 then cmpVF l m else orL [cmpB x y,cmpV a b]
end
def cmpF (p q:qbJ×Val):Int:=orL [cmpB p.1 q.1,cmpV p.2 q.2]
theorem cmpVL_eq:∀l m,cmpVL l m=lexC cmpV l m
 |[],[]=>rfl
 |[],_::_=>rfl
 |_::_,[]=>rfl
 |a::l,b::m=>by simp only [cmpVL,lexC,cmpVL_eq l m]
theorem cmpVF_eq:∀l m,cmpVF l m=lexC cmpF l m
 |[],[]=>rfl
 |[],_::_=>rfl
 |_::_,[]=>rfl
 |(x,a)::l,(y,b)::m=>by simp only [cmpVF,lexC,cmpF,cmpVF_eq l m];rfl
theorem cmp_str (N:Nat)(a b:qbJ):Gam.pureD (callF tab ext (N+3)) 163 [strX a,strX b]=some (num (cmpB a b)):=by kernel_rfl
theorem cmp_val:∀(n N:Nat) (v w:Val),v.size<=n->3*n+12<=N->v.size<1000000->Gam.pureD (callF tab ext N) 113 [.agg v.cells,.agg w.cells]=some (num (cmpV v w))
 |0,_,.mk ..,_,h,_,_=>by grind[Val.size]
 |n+1,N,.mk k i s t l f,.mk k' i' s' t' l' f',h,hN,hs=>by
  obtain ⟨M,rfl⟩:∃M,N=M+12:=⟨N-12,by omega⟩;simp only [Val.size] at h hs;have hl:=sizeL_length l;have hf:=sizeF_length f;have h1:Gam.pureD (callF tab ext (M+11)) 164 [.sl false 6 (cellsL l),.sl false 6 (cellsL l'),.fn 113 []]=some (num (lexC cmpV l l')):=
   cmp104_pure (M+10) 113 l l' cmpV (fun a b ha _=>by have:=sizeL_mem ha;exact cmp_val n (M+10) a b (by omega) (by omega) (by omega)) (by omega) (by omega)
  have h2:Gam.pureD (callF tab ext (M+11)) 165 [.sl false 7 (cellsF f),.sl false 7 (cellsF f'),.fn 166 []]=some (num (lexC cmpF f f')):=
   cmp105_pure (M+10) 166 f f' cmpF (fun a b ha _=>by
    have:=sizeF_mem ha;have hv:=cmp_val n (M+9) a.2 b.2 (by omega) (by omega) (by omega);obtain ⟨a0,a1,a2,a3,a4,a5,a6⟩:=a;obtain ⟨b0,b1,b2,b3,b4,b5,b6⟩:=b;have ho:=or_pure (M+8) [cmpB a0 b0,cmpV (Val.mk a1 a2 a3 a4 a5 a6) (Val.mk b1 b2 b3 b4 b5 b6)] (by simp) (by simp);exact pure_of [(9,.p (num (cmpB a0 b0))),(14,.p (num (cmpV (Val.mk a1 a2 a3 a4 a5 a6) (Val.mk b1 b2 b3 b4 b5 b6)))),(16,.p (num (orL [cmpB a0 b0,cmpV (Val.mk a1 a2 a3 a4 a5 a6) (Val.mk b1 b2 b3 b4 b5 b6)])))] []
     (pf3 (cmp_str (M+6) a0 b0) hv ho) (x:=num (orL [cmpB a0 b0,cmpV (Val.mk a1 a2 a3 a4 a5 a6) (Val.mk b1 b2 b3 b4 b5 b6)])) (bx:=[]) (by kernel_rfl) rfl) (by omega) (by omega)
  have ho:=or_pure (M+10) [ordI k k',ordI i i',ordI s s',cmpB t t',lexC cmpV l l',lexC cmpF f f'] (by simp) (by simp);rw [cmpV,cmpVL_eq,cmpVF_eq];exact pure_of [(9,.p (num (ordI k k'))),(14,.p (num (ordI i i'))),(19,.p (num (ordI s s'))),(24,.p (num (cmpB t t'))),(29,.p (num (lexC cmpV l l'))),(34,.p (num (lexC cmpF f f'))),(36,.p (num (orL [ordI k k',ordI i i',ordI s s',cmpB t t',lexC cmpV l l',lexC cmpF f f'])))] []
   (pf7 (cmp_int (M+7) k k') (cmp_int (M+7) i i') (cmp_int (M+7) s s') (cmp_str (M+8) t t') h1 h2 ho) (x:=num (orL [ordI k k',ordI i i',ordI s s',cmpB t t',lexC cmpV l l',lexC cmpF f f'])) (bx:=[]) (by kernel_rfl) rfl
theorem ordI_refl (a:Int):ordI a a=0:=by simp [ordI]
theorem cmpB_refl (a:qbJ):cmpB a a=0:=by
 unfold cmpB;induction a.data.toList with
 |nil=>rfl
 |cons x r ih=>grind[Lib.compareBytes]
theorem lexC_refl {α:Type}{r:α->α->Int}:∀{l:List α},(∀a,a∈l->r a a=0)->lexC r l l=0
 |[],_=>rfl
 |a::l,h=>by rw [lexC,if_pos (h a (by simp))];exact lexC_refl fun b hb=>h b (by grind)
mutual
theorem cmpV_refl:∀v,cmpV v v=0
 |.mk k i s t l f=>by simp only [cmpV,orL,ordI_refl,cmpB_refl,cmpVL_refl l,cmpVF_refl f,if_true]
theorem cmpVL_refl:∀l,cmpVL l l=0
 |[]=>rfl
 |a::l=>by simp only [cmpVL,cmpV_refl a,cmpVL_refl l,if_true]
theorem cmpVF_refl:∀l,cmpVF l l=0
 |[]=>rfl
 |(x,a)::l=>by simp only [cmpVF,orL,cmpB_refl,cmpV_refl a,cmpVF_refl l,if_true]
end
theorem eq_val (N:Nat)(v w:Val)(h:3*v.size+13<=N)(hs:v.size<1000000):Gam.pureD (callF tab ext N) 72 [.agg v.cells,.agg w.cells]=some (boolX (cmpV v w==0)):=by obtain ⟨M,rfl⟩:∃M,N=M+1:=⟨N-1,by omega⟩;have hc:=cmp_val v.size M v w (Nat.le_refl _) (by omega) hs;obtain ⟨k,i,s,t,l,f⟩:=v;obtain ⟨k',i',s',t',l',f'⟩:=w;exact pure_of [(7,.p (num (cmpV (Val.mk k i s t l f) (Val.mk k' i' s' t' l' f'))))] [] (pf1 hc) (x:=boolX (cmpV (Val.mk k i s t l f) (Val.mk k' i' s' t' l' f')==0)) (bx:=[]) (by kernel_rfl) rfl
structure Stp where
 e:Int
 p:List Int
def Stp.cells (s:Stp):List X:=[num s.e,.sl false 1 (intsC s.p)]
def cmpS (a b:Stp):Int:=orL [ordI a.e b.e,lexC ordI a.p b.p]
theorem cmp_stamp (N:Nat)(a b:Stp)(h:a.p.length+12<=N)(hs:a.p.length<1000000):Gam.pureD (callF tab ext N) 24 [.agg a.cells,.agg b.cells]=some (num (cmpS a b)):=by
 obtain ⟨M,rfl⟩:∃M,N=M+12:=⟨N-12,by omega⟩;obtain ⟨e,p⟩:=a;obtain ⟨e',p'⟩:=b;have h1:Gam.pureD (callF tab ext (M+11)) 68 [.sl false 1 (intsC p),.sl false 1 (intsC p'),.fn 69 []]=some (num (lexC ordI p p')):=
  cmp98_pure (M+10) 69 p p' ordI (fun x y _ _=>pure_of [(7,.p (num (ordI x y)))] [] (pf1 (cmp_int (M+5) x y)) (x:=num (ordI x y)) (bx:=[]) (by kernel_rfl) rfl) (by grind) (by grind)
 have ho:=or_pure (M+10) [ordI e e',lexC ordI p p'] (by simp) (by simp);exact pure_of [(9,.p (num (ordI e e'))),(14,.p (num (lexC ordI p p'))),(16,.p (num (cmpS ⟨e,p⟩ ⟨e',p'⟩)))] [] (pf3 (cmp_int (M+7) e e') h1 ho) (x:=num (cmpS ⟨e,p⟩ ⟨e',p'⟩)) (bx:=[]) (by kernel_rfl) rfl
theorem eq_stamp (N:Nat)(a b:Stp)(h:a.p.length+13<=N)(hs:a.p.length<1000000):Gam.pureD (callF tab ext N) 46 [.agg a.cells,.agg b.cells]=some (boolX (cmpS a b==0)):=by obtain ⟨M,rfl⟩:∃M,N=M+1:=⟨N-1,by omega⟩;have hc:=cmp_stamp M a b (by omega) hs;exact pure_of [(7,.p (num (cmpS a b)))] [] (pf1 hc) (x:=boolX (cmpS a b==0)) (bx:=[]) (by kernel_rfl) rfl
theorem cmpS_refl (a:Stp):cmpS a a=0:=by simp_all[cmpS,orL,ordI_refl,lexC_refl]
def eqL {α β:Type}(r:α->β->Bool):List α->List β->Bool
 |[],[]=>true
 |[],_::_=>false
 |_::_,[]=>false
 |a::la,b::lb=>r a b&&eqL r la lb
theorem eqL_len {α β:Type}{r:α->β->Bool}:∀{la:List α} {lb:List β},la.length≠lb.length->eqL r la lb=false
 |[],[],h=>absurd rfl h
 |[],_::_,_=>rfl
 |_::_,[],_=>rfl
 |a::la,b::lb,h=>by rw [eqL,eqL_len (la:=la) (lb:=lb) (by grind),Bool.and_false]
theorem nat_ne_false {j k:Nat}(h:j=k):(!(Int.ofNat j==Int.ofNat k))=false:=by grind
theorem nat_ne_true {j k:Nat}(h:j≠k):(!(Int.ofNat j==Int.ofNat k))=true:=by grind
structure Msg where
 st:Stp
 mass:Int
 orig:List Int
 body:Val
def Msg.cells (m:Msg):List X:=num m.st.e::.sl false 1 (intsC m.st.p)::num m.mass::.sl false 1 (intsC m.orig)::m.body.cells
def msgsC (l:List Msg):qbI:=l.map Msg.cells
theorem msgsC_length (l:List Msg):(msgsC l).length=l.length:=by simp [msgsC]
theorem msgsC_get {l:List Msg}{j:Nat}(h:j<l.length):(msgsC l)[j]?=some l[j].cells:=by grind[msgsC]
structure Slt where
 key:Val
 n:Int
 t:Int
 items:List Msg
 vals:List Val
def slotC (k i s:Int)(tx:qbJ)(l f:qbI)(n t:Int)(ms vs:qbI):List X:=[num k,num i,num s,strX tx,.sl false 6 l,.sl false 7 f,num n,num t,.sl false 10 ms,.sl false 6 vs]
def Slt.cells:Slt->List X
 |⟨.mk k i s tx l f,n,t,ms,vs⟩=>slotC k i s tx (cellsL l) (cellsF f) n t (msgsC ms) (cellsL vs)
def sltsC (l:List Slt):qbI:=l.map Slt.cells
theorem sltsC_length (l:List Slt):(sltsC l).length=l.length:=by simp [sltsC]
theorem sltsC_get {l:List Slt}{j:Nat}(h:j<l.length):(sltsC l)[j]?=some l[j].cells:=by grind[sltsC]
structure Stt where
 n:Int
 t:Int
 slots:List Slt
def Stt.cells (s:Stt):List X:=[num s.n,num s.t,.sl false 10 (sltsC s.slots)]
def stpsC (l:List Stp):qbI:=l.map Stp.cells
theorem stpsC_length (l:List Stp):(stpsC l).length=l.length:=by simp [stpsC]
theorem stpsC_get {l:List Stp}{j:Nat}(h:j<l.length):(stpsC l)[j]?=some l[j].cells:=by grind[stpsC]
def eh84 (l m:qbI)(n j:Nat):St:=⟨[(0,.sl false 1 l),(1,.sl false 1 m),(12,nat n),(13,nat j)],[]⟩
def ee84 (l m:qbI)(n j:Nat):St:=⟨[(0,.sl false 1 l),(1,.sl false 1 m),(12,nat n),(13,nat j),(14,boolX false)],[]⟩
theorem eh84_canon (l m:qbI)(n j:Nat):canon 0 (eh84 l m n j)=some (eh84 l m n j):=by kernel_rfl
theorem eq84_loop (M:Nat)(la lb:List Int)(hlen:la.length=lb.length)(hl:la.length<1000000):∀d j F,j+d=la.length->d<F->
  (eqL (·==·) (la.drop j) (lb.drop j)=false/\∃bx,iter 0 (run (callF tab ext M) 0 M (loopAt 84 0)) F (eh84 (intsC la) (intsC lb) (intsC la).length j)=some (.ret,⟨[(4,boolX false)],bx⟩))\/
  (eqL (·==·) (la.drop j) (lb.drop j)=true/\iter 0 (run (callF tab ext M) 0 M (loopAt 84 0)) F (eh84 (intsC la) (intsC lb) (intsC la).length j)=some (.exit 0,ee84 (intsC la) (intsC lb) (intsC la).length (intsC la).length))
 |0,j,F,hj,hF=>by
  obtain ⟨F',rfl⟩:∃F',F=F'+1:=⟨F-1,by omega⟩;have hj':j=la.length:=by omega
  subst hj';have hn:=intsC_length la;have h:run (callF tab ext M) 0 M (loopAt 84 0) (eh84 (intsC la) (intsC lb) la.length la.length)=some (.exit 0,ee84 (intsC la) (intsC lb) la.length la.length):=
   run_of [(14,.b false)] [] (pf1 (nlt_nat (qbz la.length))) (lo':=[]) (by kernel_rfl)
  right;refine ⟨?_,by grind[iter_end,eh84_canon]⟩;rw [List.drop_length,hlen,List.drop_length];rfl
 |d+1,j,F,hj,hF=>by
  obtain ⟨F',rfl⟩:∃F',F=F'+1:=⟨F-1,by omega⟩;have hn:=intsC_length la;have hj':j<la.length:=by omega
  have hb:j<lb.length:=by omega
  have hd:la.drop j=la[j]::la.drop (j+1):=by rw [<-List.getElem_cons_drop hj']
  have hdb:lb.drop j=lb[j]::lb.drop (j+1):=by rw [<-List.getElem_cons_drop hb]
  have hg:=intsC_get hj';have hgb:=intsC_get hb;rw [hd,hdb,eqL];generalize la[j]=a at hg;generalize lb[j]=b at hgb;by_cases h:a=b
  ·have hs:run (callF tab ext M) 0 M (loopAt 84 0) (eh84 (intsC la) (intsC lb) (intsC la).length j)=some (.norm,eh84 (intsC la) (intsC lb) (intsC la).length (j+1)):=
    run_of [(14,.b true),(18,.e [num a]),(22,.e [num b]),(24,.b false),(25,.i (Int.ofNat (j+1)))] []
     (pf5 (lt_nat (j:=j) (k:=(intsC la).length) (by omega)) hg hgb (show (!(a==b))=false by grind) (next_nat (j:=j) (by omega))) (lo':=[]) (by kernel_rfl)
   have hab:(a==b)=true:=by simp [h]
   rw [iter_step (eh84_canon _ _ _ _) hs rfl,hab,Bool.true_and];exact eq84_loop M la lb hlen hl d (j+1) F' (by omega) (by omega)
  left;have hab:(a==b)=false:=by simp [h]
  refine ⟨by grind,?_⟩;exact ⟨_,iter_end (eh84_canon _ _ _ _) (run_of [(14,.b true),(18,.e [num a]),(22,.e [num b]),(24,.b true)] []
    (pf4 (lt_nat (j:=j) (k:=(intsC la).length) (by omega)) hg hgb (show (!(a==b))=true by grind)) (lo':=[]) (σ':=⟨[(4,boolX false)],[]⟩) (by kernel_rfl)) (by simp)⟩
theorem eq84_pure (N:Nat)(la lb:List Int)(hl:la.length<1000000)(hN:la.length<N):
  Gam.pureD (callF tab ext (N+1)) 84 [.sl false 1 (intsC la),.sl false 1 (intsC lb)]=some (boolX (eqL (·==·) la lb)):=by
 have hn:=intsC_length la;have hm:=intsC_length lb;by_cases hlen:la.length=lb.length
 ·rcases eq84_loop N la lb hlen hl la.length 0 N (by omega) hN with ⟨h0,bx,h⟩|⟨h0,h⟩;·have h0':eqL (·==·) la lb=false:=h0;rw [h0'];exact pure_of [(10,.b false)] [(.ret,⟨[(4,boolX false)],bx⟩)] (pf2 (nat_ne_false (j:=(intsC la).length) (k:=(intsC lb).length) (by omega)) h) (x:=boolX false) (bx:=[]) (by kernel_rfl) rfl
  have h0':eqL (·==·) la lb=true:=h0;rw [h0'];exact pure_of [(10,.b false)] [(.exit 0,ee84 (intsC la) (intsC lb) (intsC la).length (intsC la).length)] (pf2 (nat_ne_false (j:=(intsC la).length) (k:=(intsC lb).length) (by omega)) h) (x:=boolX true) (bx:=[]) (by kernel_rfl) rfl
 rw [eqL_len hlen];exact pure_of [(10,.b true)] [] (pf1 (nat_ne_true (j:=(intsC la).length) (k:=(intsC lb).length) (by omega))) (x:=boolX false) (bx:=[]) (by kernel_rfl) rfl
section
variable (g:Nat) (l m:qbI) (n j:Nat)
end
section
variable (g:Nat) (l m:qbI) (n j:Nat)
end
section
variable (g:Nat) (l m:qbI) (n j:Nat)
end
section
variable (g:Nat) (l m:qbI) (n j:Nat)
end
structure Otp where
 port:Int
 m:Msg
def Otp.cells (o:Otp):List X:=num o.port::o.m.cells
def otpsC (l:List Otp):qbI:=l.map Otp.cells
theorem otpsC_length (l:List Otp):(otpsC l).length=l.length:=by simp [otpsC]
theorem otpsC_get {l:List Otp}{j:Nat}(h:j<l.length):(otpsC l)[j]?=some l[j].cells:=by grind[otpsC]
structure Fte where
 st:Stp
 kind:Int
 node:qbJ
 into:List Stp
 text:qbJ
def Fte.cells (f:Fte):List X:=[num f.st.e,.sl false 1 (intsC f.st.p),num f.kind,strX f.node,.sl false 2 (stpsC f.into),strX f.text]
def ftesC (l:List Fte):qbI:=l.map Fte.cells
theorem ftesC_length (l:List Fte):(ftesC l).length=l.length:=by simp [ftesC]
theorem ftesC_get {l:List Fte}{j:Nat}(h:j<l.length):(ftesC l)[j]?=some l[j].cells:=by grind[ftesC]
structure Ocm where
 s:Stt
 outs:List Otp
 fates:List Fte
 letters:List Msg
def Ocm.cells (o:Ocm):List X:=[num o.s.n,num o.s.t,.sl false 10 (sltsC o.s.slots),.sl false 11 (otpsC o.outs),.sl false 11 [],.sl false 6 (ftesC o.fates),.sl false 10 (msgsC o.letters)]
def Val.ok (v:Val):Prop:=v.size<=60000
structure Stp.ok (s:Stp):Prop where
 p:s.p.length<=60000
structure Msg.ok (m:Msg):Prop where
 st:m.st.ok
 orig:m.orig.length<=60000
 body:m.body.ok
structure Slt.ok (s:Slt):Prop where
 key:s.key.ok
 items:s.items.length<=60000
 item:∀m,m∈s.items->m.ok
 vals:s.vals.length<=60000
 val:∀v,v∈s.vals->v.ok
structure Stt.ok (s:Stt):Prop where
 slots:s.slots.length<=60000
 slot:∀x,x∈s.slots->x.ok
structure Fte.ok (f:Fte):Prop where
 st:f.st.ok
 len:f.into.length<=60000
 into:∀s,s∈f.into->s.ok
section
variable (l m:qbI) (j:Nat)
end
section
variable (l m:qbI) (j:Nat)
end
section
variable (a:List X) (z:qbI) (j:Nat)
end
theorem intsOf_intsC:∀l:List Int,intsOf (intsC l)=some l
 |[]=>rfl
 |x::l=>by
  have h:=intsOf_intsC l;show (match intsOf (intsC l) with
   |some l=>some (x::l)
   |none=>none)=some (x::l)
  rw [h]
theorem clone_row (N:Nat)(l:List Int)(hl:l.length<=60000):callF tab ext (N+1) (.fn 86) [.sl false 1 (intsC l)] []=some (.bs 0 0 l.length,[.row 1 (intsC l)]):=by show cloneExt [.sl false 1 (intsC l)] []=_;unfold cloneExt;simp only [intsOf_intsC,if_pos (show l.length<=1000000 by omega)];rfl
theorem clone_ints (N:Nat)(l:List Int)(hl:l.length<=60000):Gam.pureD (callF tab ext (N+1)) 86 [.sl false 1 (intsC l)]=some (.sl false 1 (intsC l)):=by simp_all[Gam.pureD,clone_row,X.data,rowOf,intsC_length,List.take_of_length_le]
theorem clone_stamp (N:Nat)(s:Stp)(h:s.ok):Gam.pureD (callF tab ext (N+2)) 111 [.agg s.cells]=some (.agg s.cells):=
 pure_of [(7,.p (.sl false 1 (intsC s.p)))] [] (pf1 (clone_ints N s.p h.p)) (x:=.agg s.cells) (bx:=[]) (by kernel_rfl) rfl
theorem clone_msg (N:Nat)(m:Msg)(h:m.ok)(hN:190001<=N):Gam.pureD (callF tab ext N) 64 [.agg m.cells]=some (.agg m.cells):=by obtain ⟨M,rfl⟩:∃M,N=M+3:=⟨N-3,by omega⟩;have h1:=clone_stamp M m.st h.st;have h2:=clone_ints (M+1) m.orig h.orig;have hb:=h.body;unfold Val.ok at hb;have h3:=clone_val (M+2) m.body (by omega) (by omega);obtain ⟨⟨a1,a2⟩,a3,a4,a5,a6,a7,a8,a9,a0⟩:=m;exact pure_of [(5,.p (.agg (Stp.mk a1 a2).cells)),(10,.p (.sl false 1 (intsC a4))),(13,.p (.agg (Val.mk a5 a6 a7 a8 a9 a0).cells))] [] (pf3 h1 h2 h3) (x:=.agg (Msg.mk ⟨a1,a2⟩ a3 a4 (Val.mk a5 a6 a7 a8 a9 a0)).cells) (bx:=[]) (by kernel_rfl) rfl
section
variable (s items acc vals accV:qbI) (n m k j:Nat)
variable (k0 i0 s0:Int) (t0:qbJ) (l0 f0:qbI) (n0 d0:Int) (x:List X)
end
def zState:List X:=[num 0,num 0,.sl true 10 []]
section
variable (a b:Int) (l acc:qbI) (n j:Nat) (x:List X)
end
section
variable (k i s:Int) (t:qbJ) (l f:qbI) (n j:Nat)
end
section
variable (ps:qbI) (lev len j n m:Nat) (c:Int) (u:List X)
end
section
variable (m:List X) (o:qbI) (n j:Nat)
end
structure Stt.small (s:Stt):Prop where
 slots:s.slots.length<=100
 slot:∀x,x∈s.slots->x.ok/\x.items.length<=100/\x.vals.length<=100
def accOf (l:List Slt):List Msg:=l.flatMap (·.items)
theorem accOf_append (l:List Slt)(x:Slt):accOf (l++[x])=accOf l++x.items:=by simp [accOf]
theorem accOf_length:∀(l:List Slt),(∀x,x∈l->x.items.length<=100)->(accOf l).length<=100*l.length
 |[],_=>by simp [accOf]
 |y::l,h=>by
  have h1:=h y (by simp);have h2:=accOf_length l fun x hx=>h x (by simp [hx]);have h3:(accOf (y::l)).length=y.items.length+(accOf l).length:=by simp [accOf]
  rw [h3,qbr];omega
set_option linter.unusedSimpArgs false
section
variable {ce cc:Int} {z:Bool} {sp:Prop}
end
theorem ordI_zero {a b:Int}(h:ordI a b=0):a=b:=by
 unfold ordI at h;split at h;·cases h
 split at h;·cases h
 omega
theorem orL_zero:∀{l:List Int},orL l=0->∀x,x∈l->x=0
 |[],_,x,hx=>by cases hx
 |y::r,h,x,hx=>by
  unfold orL at h;split at h
  ·rename_i h0;rcases qbl.1 hx with rfl|hx;·exact h0
   exact orL_zero h x hx
  rename_i h0;exact absurd h h0
theorem bytes_zero:∀{a b:List UInt8},Lib.compareBytes a b=0->a=b:=by
 intro a b;induction a generalizing b with
 |nil=>cases b<;>simp [Lib.compareBytes]
 |cons x r ih=>
  cases b with
  |nil=>simp [Lib.compareBytes]
  |cons y s=>
   intro h;unfold Lib.compareBytes at h;split at h;·cases h
   split at h;·cases h
   rename_i h1 h2;have e:x=y:=UInt8.le_antisymm (UInt8.not_lt.1 h2) (UInt8.not_lt.1 h1);rw [e,ih h]
theorem cmpB_zero {a b:qbJ}(h:cmpB a b=0):a=b:=by have h1:=bytes_zero h;have h2:a.data=b.data:=Array.toList_inj.1 h1;cases a;cases b;cases h2;rfl
mutual
theorem cmpV_zero:∀(a b:Val),cmpV a b=0->a=b
 |.mk k i s t l f,.mk k' i' s' t' l' f',h=>by unfold cmpV at h;have h0:=orL_zero h;have e1:=ordI_zero (h0 _ (qbE ..));have e2:=ordI_zero (h0 (ordI i i') (by simp));have e3:=ordI_zero (h0 (ordI s s') (by simp));have e4:=cmpB_zero (h0 (cmpB t t') (by simp));have e5:=cmpVL_zero l l' (h0 (cmpVL l l') (by simp));have e6:=cmpVF_zero f f' (h0 (cmpVF f f') (by simp));rw [e1,e2,e3,e4,e5,e6]
theorem cmpVL_zero:∀(l m:List Val),cmpVL l m=0->l=m
 |[],[],_=>rfl
 |[],_::_,h=>by simp [cmpVL] at h
 |_::_,[],h=>by simp [cmpVL] at h
 |a::l,b::m,h=>by
  unfold cmpVL at h;split at h;next h0=>rw [cmpV_zero a b h0,cmpVL_zero l m h]
  rename_i h0;exact absurd h h0
theorem cmpVF_zero:∀(l m:List (qbJ×Val)),cmpVF l m=0->l=m
 |[],[],_=>rfl
 |[],_::_,h=>by simp [cmpVF] at h
 |_::_,[],h=>by simp [cmpVF] at h
 |(x,a)::l,(y,b)::m,h=>by
  unfold cmpVF at h;split at h;next h0=>have h1:=orL_zero h0;rw [cmpB_zero (h1 (cmpB x y) (by simp)),cmpV_zero a b (h1 (cmpV a b) (by simp)),cmpVF_zero l m h]
  rename_i h0;exact absurd h h0
end
theorem accOf_take {ss:List Slt}{j:Nat}(hj:j<ss.length):accOf (ss.take (j+1))=accOf (ss.take j)++ss[j].items:=by rw [qbC hj,accOf_append]
section
variable (l items acc:qbI) (n j k m i:Nat) (x:List X)
def waH:St:=⟨[(3,.bs 0 0 k),(9,.sl false 10 l),(10,nat n),(11,nat j)],[.row 10 acc]⟩
def wiH:St:=⟨[(3,.bs 0 0 k),(9,.sl false 10 l),(10,nat n),(11,nat j),(16,.sl false 10 items),(17,nat m),(18,nat i)],[.row 10 acc]⟩
def wiH':St:=⟨[(3,.bs 2 0 (k+1)),(9,.sl false 10 l),(10,nat n),(11,nat j),(16,.sl false 10 items),(17,nat m),(18,nat (i+1))],[.dead,.var x,.row 10 (acc++[x])]⟩
def wiE:St:=⟨[(3,.bs 0 0 k),(9,.sl false 10 l),(10,nat n),(11,nat j),(16,.sl false 10 items),(17,nat m),(18,nat m),(19,boolX false)],[.row 10 acc]⟩
theorem wa_canon:canon 0 (waH l acc n j k)=some (waH l acc n j k):=by kernel_rfl
theorem wi_canon':canon 0 (wiH' l items acc n j k m i x)=some (wiH l items (acc++[x]) n j (k+1) m (i+1)):=by kernel_rfl
end
theorem wi_loop (M:Nat)(hM:190010<=M)(l:qbI)(n j:Nat)(acc items:List Msg)(hok:∀m,m∈items->m.ok)(hl:acc.length+items.length<=60000)(hτ:canon 0 τ=some (wiH l (msgsC items) (msgsC acc) n j acc.length (msgsC items).length 0)):
  run (callF tab ext M) 0 M (.loop (loopAt 22 1)) τ=some (.exit 2,wiE l (msgsC items) (msgsC (acc++items)) n j (acc++items).length (msgsC items).length):=by
 have hn:=msgsC_length items;refine loop_for (σ:=fun i=>wiH l (msgsC items) (msgsC (acc++items.take i)) n j (acc++items.take i).length (msgsC items).length i) (k:=(msgsC items).length) (by rw [List.take_zero,List.append_nil];exact hτ) (fun i hi=>?_) ?_ (by simp) (by omega)
 ·have hi':i<items.length:=by omega
  have hg:=msgsC_get hi';have hc:=clone_msg M items[i] (hok _ (qbk hi')) (by omega);have hlen:(acc++items.take i).length=acc.length+i:=by rw [qaZ,qaN];omega
  have hml:=msgsC_length (acc++items.take i);have e1:acc++items.take (i+1)=(acc++items.take i)++[items[i]]:=by rw [qbC hi',qbj]
  have e2:msgsC ((acc++items.take i)++[items[i]])=msgsC (acc++items.take i)++[items[i].cells]:=by simp only [msgsC,List.map_append,qbt,List.map_nil]
  have e3:((acc++items.take i)++[items[i]]).length=(acc++items.take i).length+1:=qaZ.trans rfl;rw [e1,e2,e3];generalize items[i]=x at hg hc;obtain ⟨⟨a1,a2⟩,a3,a4,a5,a6,a7,a8,a9,a0⟩:=x;generalize acc++items.take i=q at hlen hml;exact ⟨wiH' l (msgsC items) (msgsC q) n j q.length (msgsC items).length i (Msg.mk ⟨a1,a2⟩ a3 a4 (Val.mk a5 a6 a7 a8 a9 a0)).cells,
   run_of [(19,.b true),(20,.e (Msg.mk ⟨a1,a2⟩ a3 a4 (Val.mk a5 a6 a7 a8 a9 a0)).cells),(24,.p (.agg (Msg.mk ⟨a1,a2⟩ a3 a4 (Val.mk a5 a6 a7 a8 a9 a0)).cells)),(26,.app),(27,.i (Int.ofNat (i+1)))] []
    (pf5 (lt_nat hi) hg hc (app_ok (acc:=msgsC q) q.length 0 152 (by omega) (by omega) (by omega)) (next_nat (j:=i) (by omega))) (lo':=[]) (by kernel_rfl),wi_canon' ..⟩
 have e:items.take (msgsC items).length=items:=List.take_of_length_le (by omega);rw [e];exact run_of [(19,.b false)] [] (pf1 (nlt_nat (qbz (msgsC items).length))) (lo':=[]) (by kernel_rfl)
theorem min_int (a b:Nat):(if Int.ofNat b<Int.ofNat a then Int.ofNat b else Int.ofNat a)=Int.ofNat (min a b):=by grind
theorem dec_nat {j:Nat}(h:j<4294967296):Go.IntKind.i64.wrap (Int.ofNat (j+1)-1)=Int.ofNat j:=by grind[IntKind.wrap_i64]
theorem cut_ok (a b:Nat):0<=min a b/\min a b<=a:=by grind
def cutT (m:Nat)(t:qbJ):qbJ:=t.extract 0 (min t.size m)
def shortV:Nat->Val->Val
 |0,.mk k i s t _ _=>.mk k i s (cutT 40 t) [] []
 |n+1,.mk k i s t l f=>.mk k i s (cutT 40 t) ((l.take 6).map (shortV n)) ((f.take 6).map fun p=>(cutT 40 p.1,shortV n p.2))
section
variable (lv k i s:Int) (t:qbJ) (l f acc acc2:qbI) (j m:Nat) (x y:List X)
def svH:St:=⟨[(1,num lv),(2,.ptr 0 0 0),(4,.ptr 1 0 0),(5,.bs 2 0 j),(6,.sl true 7 []),(7,nat j)],[.var [num k,num i,num s,strX t,.sl false 6 l,.sl false 7 f],.var zVal,.row 6 acc]⟩
def svN:St:=⟨[(1,num lv),(2,.ptr 0 0 0),(4,.ptr 1 0 0),(5,.bs 3 0 (j+1)),(6,.sl true 7 []),(7,nat (j+1))],[.var [num k,num i,num s,strX t,.sl false 6 l,.sl false 7 f],.var zVal,.dead,.row 6 (acc++[x])]⟩
def svE:St:=⟨[(1,num lv),(2,.ptr 0 0 0),(4,.ptr 1 0 0),(5,.bs 2 0 j),(6,.sl true 7 []),(7,nat j),(29,boolX false)],[.var [num k,num i,num s,strX t,.sl false 6 l,.sl false 7 f],.var zVal,.row 6 acc]⟩
theorem sv_canon:canon 0 (svH lv k i s t l f acc j)=some (svH lv k i s t l f acc j):=by kernel_rfl
theorem sv_canon':canon 0 (svN lv k i s t l f acc j x)=some (svH lv k i s t l f (acc++[x]) (j+1)):=by kernel_rfl
def sfH:St:=⟨[(1,num lv),(2,.ptr 0 0 0),(4,.ptr 1 0 0),(5,.bs 2 0 m),(6,.bs 3 0 j),(8,nat j)],[.var [num k,num i,num s,strX t,.sl false 6 l,.sl false 7 f],.var zVal,.row 6 acc,.row 7 acc2]⟩
def sfN:St:=⟨[(1,num lv),(2,.ptr 0 0 0),(4,.ptr 1 0 0),(5,.bs 2 0 m),(6,.bs 4 0 (j+1)),(8,nat (j+1))],[.var [num k,num i,num s,strX t,.sl false 6 l,.sl false 7 f],.var zVal,.row 6 acc,.dead,.row 7 (acc2++[x])]⟩
def sfE:St:=⟨[(1,num lv),(2,.ptr 0 0 0),(4,.ptr 1 0 0),(5,.bs 2 0 m),(6,.bs 3 0 j),(8,nat j),(55,boolX false)],[.var [num k,num i,num s,strX t,.sl false 6 l,.sl false 7 f],.var zVal,.row 6 acc,.row 7 acc2]⟩
theorem sf_canon:canon 0 (sfH lv k i s t l f acc acc2 j m)=some (sfH lv k i s t l f acc acc2 j m):=by kernel_rfl
theorem sf_canon':canon 0 (sfN lv k i s t l f acc acc2 j m x)=some (sfH lv k i s t l f acc (acc2++[x]) (j+1) m):=by kernel_rfl
end
theorem take_map_succ {α β:Type}(g:α->β){l:List α}{k j:Nat}(h:j<(l.take k).length):((l.take k).take (j+1)).map g=((l.take k).take j).map g++[g (l[j]'(by grind))]:=by grind[qbC]
theorem sv_fin (M:Nat)(k i s:Int)(t:qbJ)(L F a b:qbI)(m q n:Nat)(hm:a.length=m)(hq:b.length=q)
  (h1:run (callF tab ext M) 0 M (.loop (loopAt 34 0)) (svH (Int.ofNat (n+1)) k i s (cutT 40 t) L F [] 0)=some (.exit 0,svE (Int.ofNat (n+1)) k i s (cutT 40 t) L F a m))
  (h2:run (callF tab ext M) 0 M (.loop (loopAt 34 1)) (sfH (Int.ofNat (n+1)) k i s (cutT 40 t) L F a [] 0 m)=some (.exit 2,sfE (Int.ofNat (n+1)) k i s (cutT 40 t) L F a b q m)):
  Gam.pureD (callF tab ext (M+1)) 34 [.agg [num k,num i,num s,strX t,.sl false 6 L,.sl false 7 F],nat (n+1)]=some (.agg [num k,num i,num s,strX (cutT 40 t),.sl false 6 a,.sl false 7 b]):=by
 have hd:(X.agg [num k,num i,num s,strX (cutT 40 t),.bs 0 0 m,.bs 1 0 q]).data [.row 6 a,.row 7 b] false=some (.agg [num k,num i,num s,strX (cutT 40 t),.sl false 6 a,.sl false 7 b]):=by subst hm hq;simp [X.data,dataL,rowOf,num,strX]
 exact pure_of [(14,.i (Int.ofNat (min t.size 40))),(15,.cut)] [(.exit 0,svE (Int.ofNat (n+1)) k i s (cutT 40 t) L F a m),(.exit 2,sfE (Int.ofNat (n+1)) k i s (cutT 40 t) L F a b q m)] (pf4 (min_int t.size 40) (cut_ok t.size 40) h1 h2)
  (x:=.agg [num k,num i,num s,strX (cutT 40 t),.bs 0 0 m,.bs 1 0 q]) (bx:=[.row 6 a,.row 7 b]) (by kernel_rfl) hd
theorem cellsL_snoc (l:List Val)(v:Val):cellsL (l++[v])=cellsL l++[v.cells]:=by simp [cellsL_eq]
theorem cellsF_snoc (l:List (qbJ×Val))(t:qbJ)(v:Val):cellsF (l++[(t,v)])=cellsF l++[strX t::v.cells]:=by simp [cellsF_eq]
theorem gt_one (n:Nat):decide (Int.ofNat (n+1+1)>1)=true:=by grind
theorem lt_lit {j m:Nat}(h:j<m):decide (Int.ofNat j<Int.ofNat m)=true:=lt_nat h
theorem short_val:∀(n:Nat) (v:Val) (N:Nat),n<1000->10+n<=N->Gam.pureD (callF tab ext N) 34 [.agg v.cells,nat (n+1)]=some (.agg (shortV n v).cells)
 |0,.mk k i s t l f,N,_,hN=>by
  obtain ⟨M,rfl⟩:∃M,N=M+1:=⟨N-1,by omega⟩;refine sv_fin M k i s t (cellsL l) (cellsF f) [] [] 0 0 0 rfl rfl ?_ ?_
  ·refine loop_for (σ:=fun j=>svH (Int.ofNat 1) k i s (cutT 40 t) (cellsL l) (cellsF f) [] j) (k:=0) (sv_canon ..) (fun j hj=>by omega) ?_ (by simp) (by omega);cases h1:decide (Int.ofNat 0<Int.ofNat (cellsL l).length) with
   |true=>exact run_of [(21,.b true)] [] (pf1 h1) (lo':=[]) (by kernel_rfl)
   |false=>exact run_of [(21,.b false)] [] (pf1 h1) (lo':=[]) (by kernel_rfl)
  refine loop_for (σ:=fun j=>sfH (Int.ofNat 1) k i s (cutT 40 t) (cellsL l) (cellsF f) [] [] j 0) (k:=0) (sf_canon ..) (fun j hj=>by omega) ?_ (by simp) (by omega);cases h1:decide (Int.ofNat 0<Int.ofNat (cellsF f).length) with
  |true=>exact run_of [(47,.b true)] [] (pf1 h1) (lo':=[]) (by kernel_rfl)
  |false=>exact run_of [(47,.b false)] [] (pf1 h1) (lo':=[]) (by kernel_rfl)
 |n+1,.mk k i s t l f,N,hn,hN=>by
  obtain ⟨M,rfl⟩:∃M,N=M+1:=⟨N-1,by omega⟩;have el:=cellsL_length l;have ef:=cellsF_length f;have e1:(shortV (n+1) (.mk k i s t l f)).cells=[num k,num i,num s,strX (cutT 40 t),.sl false 6 (cellsL ((l.take 6).map (shortV n))),.sl false 7 (cellsF ((f.take 6).map fun p=>(cutT 40 p.1,shortV n p.2)))]:=rfl;rw [e1];have hd:=dec_nat (j:=n+1) (by omega);refine sv_fin M k i s t (cellsL l) (cellsF f) _ _ (l.take 6).length (f.take 6).length (n+1) (by grind[cellsL_length]) (by grind[cellsF_length]) ?_ ?_
  ·refine loop_for (σ:=fun j=>svH (Int.ofNat (n+2)) k i s (cutT 40 t) (cellsL l) (cellsF f) (cellsL (((l.take 6).take j).map (shortV n))) j) (k:=(l.take 6).length) (sv_canon ..) (fun j hj=>?_) ?_ (by simp) (by grind)
   ·have hj1:j<l.length:=by rw [qaN] at hj;omega
    have hj2:j<6:=by rw [qaN] at hj;omega
    have hg:=cellsL_get hj1;have hc:=short_val n l[j] M (by omega) (by omega);have hlen:(cellsL (((l.take 6).take j).map (shortV n))).length=j:=by rw [cellsL_length,qa9,qaN,qaN];omega
    rw [take_map_succ (shortV n) hj,cellsL_snoc];generalize l[j]=v at hg hc;generalize shortV n v=w at hc;generalize ((l.take 6).take j).map (shortV n)=acc at hlen;obtain ⟨a1,a2,a3,a4,a5,a6⟩:=v;obtain ⟨b1,b2,b3,b4,b5,b6⟩:=w;exact ⟨_,run_of (σ':=svN (Int.ofNat (n+2)) k i s (cutT 40 t) (cellsL l) (cellsF f) (cellsL acc) j (Val.mk b1 b2 b3 b4 b5 b6).cells) [(21,.b true),(24,.b true),(28,.b true),(36,.e (Val.mk a1 a2 a3 a4 a5 a6).cells),(39,.i (Int.ofNat (n+1))),(40,.p (.agg (Val.mk b1 b2 b3 b4 b5 b6).cells)),(42,.app),(31,.i (Int.ofNat (j+1)))] []
     (pf8 (lt_nat (j:=j) (k:=(cellsL l).length) (by omega)) (lt_lit hj2) (gt_one n) hg hd hc (app_ok (acc:=cellsL acc) j 2 88 hlen.symm (by omega) (by omega)) (next_nat (j:=j) (by omega))) (lo':=[]) (by kernel_rfl),sv_canon' ..⟩
   have e2:(l.take 6).take (l.take 6).length=l.take 6:=List.take_length;rw [e2];by_cases h6:(l.take 6).length<l.length
   ·have h7:(l.take 6).length=6:=by rw [qaN] at h6 ⊢;omega
    exact run_of [(21,.b true),(24,.b false)] [] (pf2 (lt_nat (j:=(l.take 6).length) (k:=(cellsL l).length) (by omega)) (nlt_nat (j:=(l.take 6).length) (k:=6) (by omega))) (lo':=[]) (by kernel_rfl)
   exact run_of [(21,.b false)] [] (pf1 (nlt_nat (j:=(l.take 6).length) (k:=(cellsL l).length) (by omega))) (lo':=[]) (by kernel_rfl)
  generalize cellsL ((l.take 6).map (shortV n))=aL;generalize (l.take 6).length=m;refine loop_for (σ:=fun j=>sfH (Int.ofNat (n+2)) k i s (cutT 40 t) (cellsL l) (cellsF f) aL (cellsF (((f.take 6).take j).map fun p=>(cutT 40 p.1,shortV n p.2))) j m) (k:=(f.take 6).length) (sf_canon ..) (fun j hj=>?_) ?_ (by simp) (by grind)
  ·have hj1:j<f.length:=by rw [qaN] at hj;omega
   have hj2:j<6:=by rw [qaN] at hj;omega
   have hg:=cellsF_get hj1;have hc:=short_val n f[j].2 M (by omega) (by omega);have hlen:(cellsF (((f.take 6).take j).map fun p=>(cutT 40 p.1,shortV n p.2))).length=j:=by rw [cellsF_length,qa9,qaN,qaN];omega
   rw [take_map_succ (fun p:qbJ×Val=>(cutT 40 p.1,shortV n p.2)) hj,cellsF_snoc];generalize f[j]=v at hg hc;obtain ⟨vt,v⟩:=v;dsimp only at hg hc ⊢;generalize shortV n v=w at hc;generalize ((f.take 6).take j).map (fun p:qbJ×Val=>(cutT 40 p.1,shortV n p.2))=acc at hlen;obtain ⟨a1,a2,a3,a4,a5,a6⟩:=v;obtain ⟨b1,b2,b3,b4,b5,b6⟩:=w;exact ⟨_,run_of (σ':=sfN (Int.ofNat (n+2)) k i s (cutT 40 t) (cellsL l) (cellsF f) aL (cellsF acc) j m (strX (cutT 40 vt)::(Val.mk b1 b2 b3 b4 b5 b6).cells)) [(47,.b true),(50,.b true),(54,.b true),(62,.e (strX vt::(Val.mk a1 a2 a3 a4 a5 a6).cells)),(68,.e (strX vt::(Val.mk a1 a2 a3 a4 a5 a6).cells)),(72,.i (Int.ofNat (min vt.size 40))),(73,.cut),(77,.e (strX vt::(Val.mk a1 a2 a3 a4 a5 a6).cells)),(81,.i (Int.ofNat (n+1))),(82,.p (.agg (Val.mk b1 b2 b3 b4 b5 b6).cells)),(85,.app),(57,.i (Int.ofNat (j+1)))] []
    (pf12 (lt_nat (j:=j) (k:=(cellsF f).length) (by omega)) (lt_lit hj2) (gt_one n) hg hg (min_int vt.size 40) (cut_ok vt.size 40) hg hd hc (app_ok (acc:=cellsF acc) j 3 104 hlen.symm (by omega) (by omega)) (next_nat (j:=j) (by omega))) (lo':=[]) (by kernel_rfl),sf_canon' ..⟩
  have e2:(f.take 6).take (f.take 6).length=f.take 6:=List.take_length;rw [e2];by_cases h6:(f.take 6).length<f.length
  ·have h7:(f.take 6).length=6:=by rw [qaN] at h6 ⊢;omega
   exact run_of [(47,.b true),(50,.b false)] [] (pf2 (lt_nat (j:=(f.take 6).length) (k:=(cellsF f).length) (by omega)) (nlt_nat (j:=(f.take 6).length) (k:=6) (by omega))) (lo':=[]) (by kernel_rfl)
  exact run_of [(47,.b false)] [] (pf1 (nlt_nat (j:=(f.take 6).length) (k:=(cellsF f).length) (by omega))) (lo':=[]) (by kernel_rfl)
def cutM1 (x:Int):Int:=if 0>x then 0 else x
def cutM2 (x:Int):Int:=if 1099511627776<x then 1099511627776 else x
def cutI (p:List Int):List Int:=p.take (min (intsC p).length 6)
theorem cutI_cells (p:List Int):intsC (cutI p)=(intsC p).take (min (intsC p).length 6):=by simp [cutI,intsC]
theorem cutI_length (p:List Int):(cutI p).length<=6:=by grind[cutI]
theorem cut_room (p:qbI):roomOk (([]:qbI).length+(List.drop 0 (List.take (min p.length 6) p)).length) 8=true:=by grind[room_of]
def shortM (m:Msg):Msg:=⟨⟨m.st.e,cutI m.st.p⟩,cutM2 (cutM1 m.mass),cutI m.orig,shortV 4 m.body⟩
theorem short_msg (m:Msg)(N:Nat)(hN:20<=N):Gam.pureD (callF tab ext N) 35 [.agg m.cells]=some (.agg (shortM m).cells):=by
 obtain ⟨M,rfl⟩:∃M,N=M+1:=⟨N-1,by omega⟩;have hc:=short_val 4 m.body M (by omega) (by omega);have e:(shortM m).cells=num m.st.e::.sl false 1 ((intsC m.st.p).take (min (intsC m.st.p).length 6))::num (cutM2 (cutM1 m.mass))::.sl false 1 ((intsC m.orig).take (min (intsC m.orig).length 6))::(shortV 4 m.body).cells:=by rw [<-cutI_cells,<-cutI_cells];rfl
 rw [e];generalize shortV 4 m.body=w at hc;obtain ⟨⟨e0,p⟩,ms,o,⟨a1,a2,a3,a4,a5,a6⟩⟩:=m;obtain ⟨b1,b2,b3,b4,b5,b6⟩:=w;exact pure_of [(11,.i (Int.ofNat (min (intsC p).length 6))),(12,.cut),(13,.fresh),(22,.i (Int.ofNat (min (intsC o).length 6))),(23,.cut),(24,.fresh),(28,.p (.agg (Val.mk b1 b2 b3 b4 b5 b6).cells)),(31,.i (cutM1 ms)),(32,.i (cutM2 (cutM1 ms)))] []
  (pf9 (min_int (intsC p).length 6) (cut_ok (intsC p).length 6) (cut_room (intsC p)) (min_int (intsC o).length 6) (cut_ok (intsC o).length 6) (cut_room (intsC o)) hc (rfl:cutM1 ms=cutM1 ms) (rfl:cutM2 (cutM1 ms)=cutM2 (cutM1 ms)))
  (x:=.agg (num e0::.sl false 1 ((intsC p).take (min (intsC p).length 6))::num (cutM2 (cutM1 ms))::.sl false 1 ((intsC o).take (min (intsC o).length 6))::(Val.mk b1 b2 b3 b4 b5 b6).cells)) (bx:=[]) (by kernel_rfl) rfl
structure Inp where
 kind:Int
 time:Int
 st:Stp
 m:Msg
 x:Int
 b1:Bool
 b2:Bool
 body:Val
def Inp.cells (i:Inp):List X:=num i.kind::num i.time::num i.st.e::.sl false 1 (intsC i.st.p)::num i.m.st.e::.sl false 1 (intsC i.m.st.p)::num i.m.mass::.sl false 1 (intsC i.m.orig)::(i.m.body.cells++num i.x::boolX i.b1::boolX i.b2::i.body.cells)
def shortN (i:Inp):Inp:={i with st:=⟨i.st.e,cutI i.st.p⟩,m:=shortM i.m,body:=shortV 4 i.body}
theorem short_inp (i:Inp)(N:Nat)(hN:30<=N):Gam.pureD (callF tab ext N) 9 [.agg i.cells]=some (.agg (shortN i).cells):=by
 obtain ⟨M,rfl⟩:∃M,N=M+1:=⟨N-1,by omega⟩;have hc:=short_val 4 i.body M (by omega) (by omega);have hm:=short_msg i.m M (by omega);have e:(shortN i).cells=num i.kind::num i.time::num i.st.e::.sl false 1 ((intsC i.st.p).take (min (intsC i.st.p).length 6))::num (shortM i.m).st.e::.sl false 1 (intsC (shortM i.m).st.p)::num (shortM i.m).mass::.sl false 1 (intsC (shortM i.m).orig)::((shortM i.m).body.cells++num i.x::boolX i.b1::boolX i.b2::(shortV 4 i.body).cells):=by rw [<-cutI_cells];rfl
 rw [e];generalize shortV 4 i.body=w at hc;generalize shortM i.m=q at hm;obtain ⟨kd,tm,⟨se,sp⟩,⟨⟨e0,p⟩,ms,o,⟨a1,a2,a3,a4,a5,a6⟩⟩,x,y1,y2,⟨c1,c2,c3,c4,c5,c6⟩⟩:=i;obtain ⟨b1,b2,b3,b4,b5,b6⟩:=w;obtain ⟨⟨d1,d2⟩,d3,d4,⟨d5,d6,d7,d8,d9,d0⟩⟩:=q;exact pure_of [(5,.p (.agg (Msg.mk ⟨d1,d2⟩ d3 d4 (Val.mk d5 d6 d7 d8 d9 d0)).cells)),(8,.p (.agg (Val.mk b1 b2 b3 b4 b5 b6).cells)),(19,.i (Int.ofNat (min (intsC sp).length 6))),(20,.cut),(21,.fresh)] []
  (pf5 hm hc (min_int (intsC sp).length 6) (cut_ok (intsC sp).length 6) (cut_room (intsC sp)))
  (x:=.agg (num kd::num tm::num se::.sl false 1 ((intsC sp).take (min (intsC sp).length 6))::num d1::.sl false 1 (intsC d2)::num d3::.sl false 1 (intsC d4)::((Val.mk d5 d6 d7 d8 d9 d0).cells++num x::boolX y1::boolX y2::(Val.mk b1 b2 b3 b4 b5 b6).cells))) (bx:=[]) (by kernel_rfl) rfl
def shortL (x:Slt):Slt:=⟨shortV 2 x.key,x.n,x.t,(x.items.take 4).map shortM,(x.vals.take 4).map (shortV 3)⟩
def shortS (s:Stt):Stt:=⟨s.n,s.t,(s.slots.take 6).map shortL⟩
section
variable (a b:Int) (l acc:qbI) (j:Nat) (k i s n t:Int) (tx:qbJ) (vl vf its vs:qbI) (k' i' s':Int) (tx':qbJ) (vl' vf' its' vs':qbI) (z z2:Nat) (x:List X)
def ssH:St:=⟨[(1,.ptr 0 0 0),(2,.ptr 1 0 0),(3,.bs 2 0 j),(4,nat j)],[.var [num a,num b,.sl false 10 l],.var zState,.row 10 acc]⟩
def siH:St:=⟨[(1,.ptr 0 0 0),(2,.ptr 1 0 0),(3,.bs 2 0 j),(4,nat j),(5,.ptr 3 0 0),(6,.ptr 4 0 0),(7,nat z)],[.var [num a,num b,.sl false 10 l],.var zState,.row 10 acc,.var (slotC k i s tx vl vf n t its vs),.var [num k',num i',num s',strX tx',.sl false 6 vl',.sl false 7 vf',num n,num t,.bs 5 0 z,.sl true 6 []],.row 10 its']⟩
def siN:St:=⟨[(1,.ptr 0 0 0),(2,.ptr 1 0 0),(3,.bs 2 0 j),(4,nat j),(5,.ptr 3 0 0),(6,.ptr 4 0 0),(7,nat (z+1))],[.var [num a,num b,.sl false 10 l],.var zState,.row 10 acc,.var (slotC k i s tx vl vf n t its vs),.var [num k',num i',num s',strX tx',.sl false 6 vl',.sl false 7 vf',num n,num t,.bs 6 0 (z+1),.sl true 6 []],.dead,.row 10 (its'++[x])]⟩
def siE:St:=⟨[(1,.ptr 0 0 0),(2,.ptr 1 0 0),(3,.bs 2 0 j),(4,nat j),(5,.ptr 3 0 0),(6,.ptr 4 0 0),(7,nat z),(41,boolX false)],[.var [num a,num b,.sl false 10 l],.var zState,.row 10 acc,.var (slotC k i s tx vl vf n t its vs),.var [num k',num i',num s',strX tx',.sl false 6 vl',.sl false 7 vf',num n,num t,.bs 5 0 z,.sl true 6 []],.row 10 its']⟩
theorem si_canon:canon 0 (siH a b l acc j k i s n t tx vl vf its vs k' i' s' tx' vl' vf' its' z)=some (siH a b l acc j k i s n t tx vl vf its vs k' i' s' tx' vl' vf' its' z):=by kernel_rfl
theorem si_canon':canon 0 (siN a b l acc j k i s n t tx vl vf its vs k' i' s' tx' vl' vf' its' z x)=some (siH a b l acc j k i s n t tx vl vf its vs k' i' s' tx' vl' vf' (its'++[x]) (z+1)):=by kernel_rfl
def swH:St:=⟨[(1,.ptr 0 0 0),(2,.ptr 1 0 0),(3,.bs 2 0 j),(4,nat j),(5,.ptr 3 0 0),(6,.ptr 4 0 0),(8,nat z)],[.var [num a,num b,.sl false 10 l],.var zState,.row 10 acc,.var (slotC k i s tx vl vf n t its vs),.var [num k',num i',num s',strX tx',.sl false 6 vl',.sl false 7 vf',num n,num t,.bs 5 0 z2,.bs 6 0 z],.row 10 its',.row 6 vs']⟩
def swN:St:=⟨[(1,.ptr 0 0 0),(2,.ptr 1 0 0),(3,.bs 2 0 j),(4,nat j),(5,.ptr 3 0 0),(6,.ptr 4 0 0),(8,nat (z+1))],[.var [num a,num b,.sl false 10 l],.var zState,.row 10 acc,.var (slotC k i s tx vl vf n t its vs),.var [num k',num i',num s',strX tx',.sl false 6 vl',.sl false 7 vf',num n,num t,.bs 5 0 z2,.bs 7 0 (z+1)],.row 10 its',.dead,.row 6 (vs'++[x])]⟩
def swE:St:=⟨[(1,.ptr 0 0 0),(2,.ptr 1 0 0),(3,.bs 2 0 j),(4,nat j),(5,.ptr 3 0 0),(6,.ptr 4 0 0),(8,nat z),(63,boolX false)],[.var [num a,num b,.sl false 10 l],.var zState,.row 10 acc,.var (slotC k i s tx vl vf n t its vs),.var [num k',num i',num s',strX tx',.sl false 6 vl',.sl false 7 vf',num n,num t,.bs 5 0 z2,.bs 6 0 z],.row 10 its',.row 6 vs']⟩
theorem sw_canon:canon 0 (swH a b l acc j k i s n t tx vl vf its vs k' i' s' tx' vl' vf' its' vs' z z2)=some (swH a b l acc j k i s n t tx vl vf its vs k' i' s' tx' vl' vf' its' vs' z z2):=by kernel_rfl
theorem sw_canon':canon 0 (swN a b l acc j k i s n t tx vl vf its vs k' i' s' tx' vl' vf' its' vs' z z2 x)=some (swH a b l acc j k i s n t tx vl vf its vs k' i' s' tx' vl' vf' its' (vs'++[x]) (z+1) z2):=by kernel_rfl
end
theorem msgsC_snoc (l:List Msg)(m:Msg):msgsC (l++[m])=msgsC l++[m.cells]:=by simp [msgsC]
theorem sltsC_snoc (l:List Slt)(m:Slt):sltsC (l++[m])=sltsC l++[m.cells]:=by simp [sltsC]
theorem si_loop (M:Nat)(hM:40<=M)(a b:Int)(l acc:qbI)(j:Nat)(k i s n t:Int)(tx:qbJ)(vl vf vs:qbI)(k' i' s':Int)(tx':qbJ)(vl' vf':qbI)(ms:List Msg):
  run (callF tab ext M) 0 M (.loop (loopAt 8 1)) (siH a b l acc j k i s n t tx vl vf (msgsC ms) vs k' i' s' tx' vl' vf' [] 0)=some (.exit 2,siE a b l acc j k i s n t tx vl vf (msgsC ms) vs k' i' s' tx' vl' vf' (msgsC ((ms.take 4).map shortM)) (ms.take 4).length):=by
 have el:=msgsC_length ms;refine loop_for (σ:=fun z=>siH a b l acc j k i s n t tx vl vf (msgsC ms) vs k' i' s' tx' vl' vf' (msgsC (((ms.take 4).take z).map shortM)) z) (k:=(ms.take 4).length) (si_canon ..) (fun z hz=>?_) ?_ (by simp) (by grind)
 ·have hj1:z<ms.length:=by rw [qaN] at hz;omega
  have hj2:z<4:=by rw [qaN] at hz;omega
  have hg:=msgsC_get hj1;have hc:=short_msg ms[z] M (by omega);have hlen:(msgsC (((ms.take 4).take z).map shortM)).length=z:=by rw [msgsC_length,qa9,qaN,qaN];omega
  rw [take_map_succ shortM hz,msgsC_snoc];generalize ms[z]=v at hg hc;generalize shortM v=w at hc;generalize msgsC (((ms.take 4).take z).map shortM)=its' at hlen;obtain ⟨⟨a1,a2⟩,a3,a4,⟨a5,a6,a7,a8,a9,a0⟩⟩:=v;obtain ⟨⟨b1,b2⟩,b3,b4,⟨b5,b6,b7,b8,b9,b0⟩⟩:=w;exact ⟨_,run_of (σ':=siN a b l acc j k i s n t tx vl vf (msgsC ms) vs k' i' s' tx' vl' vf' its' z (Msg.mk ⟨b1,b2⟩ b3 b4 (Val.mk b5 b6 b7 b8 b9 b0)).cells) [(37,.b true),(40,.b true),(49,.e (Msg.mk ⟨a1,a2⟩ a3 a4 (Val.mk a5 a6 a7 a8 a9 a0)).cells),(51,.p (.agg (Msg.mk ⟨b1,b2⟩ b3 b4 (Val.mk b5 b6 b7 b8 b9 b0)).cells)),(53,.app),(43,.i (Int.ofNat (z+1)))] []
   (pf6 (lt_nat (j:=z) (k:=(msgsC ms).length) (by omega)) (lt_lit hj2) hg hc (app_ok (acc:=its') z 5 152 hlen.symm (by omega) (by omega)) (next_nat (j:=z) (by omega))) (lo':=[]) (by kernel_rfl),si_canon' ..⟩
 rw [List.take_length];by_cases h6:(ms.take 4).length<ms.length
 ·have h7:(ms.take 4).length=4:=by rw [qaN] at h6 ⊢;omega
  exact run_of [(37,.b true),(40,.b false)] [] (pf2 (lt_nat (j:=(ms.take 4).length) (k:=(msgsC ms).length) (by omega)) (nlt_nat (j:=(ms.take 4).length) (k:=4) (by omega))) (lo':=[]) (by kernel_rfl)
 exact run_of [(37,.b false)] [] (pf1 (nlt_nat (j:=(ms.take 4).length) (k:=(msgsC ms).length) (by omega))) (lo':=[]) (by kernel_rfl)
theorem sw_loop (M:Nat)(hM:40<=M)(a b:Int)(l acc:qbI)(j:Nat)(k i s n t:Int)(tx:qbJ)(vl vf its:qbI)(k' i' s':Int)(tx':qbJ)(vl' vf' its':qbI)(z2:Nat)(ms:List Val):
  run (callF tab ext M) 0 M (.loop (loopAt 8 2)) (swH a b l acc j k i s n t tx vl vf its (cellsL ms) k' i' s' tx' vl' vf' its' [] 0 z2)=some (.exit 4,swE a b l acc j k i s n t tx vl vf its (cellsL ms) k' i' s' tx' vl' vf' its' (cellsL ((ms.take 4).map (shortV 3))) (ms.take 4).length z2):=by
 have el:=cellsL_length ms;refine loop_for (σ:=fun z=>swH a b l acc j k i s n t tx vl vf its (cellsL ms) k' i' s' tx' vl' vf' its' (cellsL (((ms.take 4).take z).map (shortV 3))) z z2) (k:=(ms.take 4).length) (sw_canon ..) (fun z hz=>?_) ?_ (by simp) (by grind)
 ·have hj1:z<ms.length:=by rw [qaN] at hz;omega
  have hj2:z<4:=by rw [qaN] at hz;omega
  have hg:=cellsL_get hj1;have hc:=short_val 3 ms[z] M (by omega) (by omega);have hlen:(cellsL (((ms.take 4).take z).map (shortV 3))).length=z:=by rw [cellsL_length,qa9,qaN,qaN];omega
  rw [take_map_succ (shortV 3) hz,cellsL_snoc];generalize ms[z]=v at hg hc;generalize shortV 3 v=w at hc;generalize cellsL (((ms.take 4).take z).map (shortV 3))=vs' at hlen;obtain ⟨a5,a6,a7,a8,a9,a0⟩:=v;obtain ⟨b5,b6,b7,b8,b9,b0⟩:=w;exact ⟨_,run_of (σ':=swN a b l acc j k i s n t tx vl vf its (cellsL ms) k' i' s' tx' vl' vf' its' vs' z z2 (Val.mk b5 b6 b7 b8 b9 b0).cells) [(59,.b true),(62,.b true),(71,.e (Val.mk a5 a6 a7 a8 a9 a0).cells),(73,.p (.agg (Val.mk b5 b6 b7 b8 b9 b0).cells)),(75,.app),(65,.i (Int.ofNat (z+1)))] []
   (pf6 (lt_nat (j:=z) (k:=(cellsL ms).length) (by omega)) (lt_lit hj2) hg hc (app_ok (acc:=vs') z 6 88 hlen.symm (by omega) (by omega)) (next_nat (j:=z) (by omega))) (lo':=[]) (by kernel_rfl),sw_canon' ..⟩
 rw [List.take_length];by_cases h6:(ms.take 4).length<ms.length
 ·have h7:(ms.take 4).length=4:=by rw [qaN] at h6 ⊢;omega
  exact run_of [(59,.b true),(62,.b false)] [] (pf2 (lt_nat (j:=(ms.take 4).length) (k:=(cellsL ms).length) (by omega)) (nlt_nat (j:=(ms.take 4).length) (k:=4) (by omega))) (lo':=[]) (by kernel_rfl)
 exact run_of [(59,.b false)] [] (pf1 (nlt_nat (j:=(ms.take 4).length) (k:=(cellsL ms).length) (by omega))) (lo':=[]) (by kernel_rfl)
section
variable (a b:Int) (l acc:qbI) (j:Nat) (k i s n t:Int) (tx:qbJ) (vl vf its vs:qbI) (k' i' s':Int) (tx':qbJ) (vl' vf' its' vs':qbI) (z z2:Nat) (x:List X)
def ssN:St:=⟨[(1,.ptr 0 0 0),(2,.ptr 1 0 0),(3,.bs 7 0 (j+1)),(4,nat (j+1))],[.var [num a,num b,.sl false 10 l],.var zState,.dead,.var (slotC k i s tx vl vf n t its vs),.var (slotC k' i' s' tx' vl' vf' n t (its'.take z) (vs'.take z2)),.dead,.dead,.row 10 (acc++[slotC k' i' s' tx' vl' vf' n t (its'.take z) (vs'.take z2)])]⟩
theorem ss_canon':canon 0 (ssN a b l acc j k i s n t tx vl vf its vs k' i' s' tx' vl' vf' its' vs' z z2)=some (ssH a b l (acc++[slotC k' i' s' tx' vl' vf' n t (its'.take z) (vs'.take z2)]) (j+1)):=by kernel_rfl
end
theorem ss_loop (M:Nat)(hM:50<=M)(a b:Int)(ss:List Slt)(hτ:canon 0 τ=some (ssH a b (sltsC ss) [] 0)):
  run (callF tab ext M) 0 M (.loop (loopAt 8 0)) τ=some (.exit 0,⟨[(1,.ptr 0 0 0),(2,.ptr 1 0 0),(3,.bs 2 0 (ss.take 6).length),(4,nat (ss.take 6).length),(17,boolX false)],[.var [num a,num b,.sl false 10 (sltsC ss)],.var zState,.row 10 (sltsC ((ss.take 6).map shortL))]⟩):=by
 have el:=sltsC_length ss;refine loop_for (σ:=fun z=>ssH a b (sltsC ss) (sltsC (((ss.take 6).take z).map shortL)) z) (k:=(ss.take 6).length) hτ (fun z hz=>?_) ?_ (by simp) (by grind)
 ·have hj1:z<ss.length:=by rw [qaN] at hz;omega
  have hj2:z<6:=by rw [qaN] at hz;omega
  have hg:=sltsC_get hj1;have hc:=short_val 2 ss[z].key M (by omega) (by omega);have hlen:(sltsC (((ss.take 6).take z).map shortL)).length=z:=by rw [sltsC_length,qa9,qaN,qaN];omega
  have hi:=fun vl vf k i s tx n t vs k' i' s' tx' vl' vf'=>si_loop M (by omega) a b (sltsC ss) (sltsC (((ss.take 6).take z).map shortL)) z k i s n t tx vl vf vs k' i' s' tx' vl' vf' ss[z].items;have hv:=fun vl vf k i s tx n t its k' i' s' tx' vl' vf' its' z2=>sw_loop M (by omega) a b (sltsC ss) (sltsC (((ss.take 6).take z).map shortL)) z k i s n t tx vl vf its k' i' s' tx' vl' vf' its' z2 ss[z].vals;rw [take_map_succ shortL hz,sltsC_snoc];generalize ss[z]=v at hg hc hi hv;obtain ⟨⟨a1,a2,a3,a4,a5,a6⟩,a7,a8,ms,vs⟩:=v;have e:(shortL ⟨.mk a1 a2 a3 a4 a5 a6,a7,a8,ms,vs⟩).cells=(Slt.mk (shortV 2 (.mk a1 a2 a3 a4 a5 a6)) a7 a8 ((ms.take 4).map shortM) ((vs.take 4).map (shortV 3))).cells:=rfl;rw [e];dsimp only at hc hi hv;generalize shortV 2 (.mk a1 a2 a3 a4 a5 a6)=w at hc;obtain ⟨b1,b2,b3,b4,b5,b6⟩:=w;have l1:(msgsC ((ms.take 4).map shortM)).length=(ms.take 4).length:=by rw [msgsC_length,qa9]
  have l2:(cellsL ((vs.take 4).map (shortV 3))).length=(vs.take 4).length:=by rw [cellsL_length,qa9]
  have hi':=hi (cellsL a5) (cellsF a6) a1 a2 a3 a4 a7 a8 (cellsL vs) b1 b2 b3 b4 (cellsL b5) (cellsF b6);have hv':=hv (cellsL a5) (cellsF a6) a1 a2 a3 a4 a7 a8 (msgsC ms) b1 b2 b3 b4 (cellsL b5) (cellsF b6) (msgsC ((ms.take 4).map shortM)) (ms.take 4).length;generalize sltsC (((ss.take 6).take z).map shortL)=acc at hlen hi' hv';have e1:(Slt.mk (.mk b1 b2 b3 b4 b5 b6) a7 a8 ((ms.take 4).map shortM) ((vs.take 4).map (shortV 3))).cells=slotC b1 b2 b3 b4 (cellsL b5) (cellsF b6) a7 a8 ((msgsC ((ms.take 4).map shortM)).take (ms.take 4).length) ((cellsL ((vs.take 4).map (shortV 3))).take (vs.take 4).length):=by rw [List.take_of_length_le (Nat.le_of_eq l1),List.take_of_length_le (Nat.le_of_eq l2)];rfl
  rw [e1];generalize msgsC ((ms.take 4).map shortM)=its' at l1 hi' hv';generalize cellsL ((vs.take 4).map (shortV 3))=vs' at l2 hv';generalize (ms.take 4).length=z1 at l1 hi' hv';generalize (vs.take 4).length=z2 at l2 hv';exact ⟨_,run_of (σ':=ssN a b (sltsC ss) acc z a1 a2 a3 a7 a8 a4 (cellsL a5) (cellsF a6) (msgsC ms) (cellsL vs) b1 b2 b3 b4 (cellsL b5) (cellsF b6) its' vs' z1 z2)
   [(13,.b true),(16,.b true),(23,.e (slotC a1 a2 a3 a4 (cellsL a5) (cellsF a6) a7 a8 (msgsC ms) (cellsL vs))),(27,.p (.agg (Val.mk b1 b2 b3 b4 b5 b6).cells)),(80,.app),(19,.i (Int.ofNat (z+1)))]
   [(.exit 2,siE a b (sltsC ss) acc z a1 a2 a3 a7 a8 a4 (cellsL a5) (cellsF a6) (msgsC ms) (cellsL vs) b1 b2 b3 b4 (cellsL b5) (cellsF b6) its' z1),(.exit 4,swE a b (sltsC ss) acc z a1 a2 a3 a7 a8 a4 (cellsL a5) (cellsF a6) (msgsC ms) (cellsL vs) b1 b2 b3 b4 (cellsL b5) (cellsF b6) its' vs' z2 z1)]
   (pf10 (lt_nat (j:=z) (k:=(sltsC ss).length) (by omega)) (lt_lit hj2) hg hc hi' hv' (show 0+z1<=its'.length by omega) (show 0+z2<=vs'.length by omega) (app_ok (acc:=acc) z 2 152 hlen.symm (by omega) (by omega)) (next_nat (j:=z) (by omega))) (lo':=[]) (by kernel_rfl),ss_canon' ..⟩
 rw [List.take_length];by_cases h6:(ss.take 6).length<ss.length
 ·have h7:(ss.take 6).length=6:=by rw [qaN] at h6 ⊢;omega
  exact run_of [(13,.b true),(16,.b false)] [] (pf2 (lt_nat (j:=(ss.take 6).length) (k:=(sltsC ss).length) (by omega)) (nlt_nat (j:=(ss.take 6).length) (k:=6) (by omega))) (lo':=[]) (by kernel_rfl)
 exact run_of [(13,.b false)] [] (pf1 (nlt_nat (j:=(ss.take 6).length) (k:=(sltsC ss).length) (by omega))) (lo':=[]) (by kernel_rfl)
theorem short_state (s:Stt)(N:Nat)(hN:60<=N):Gam.pureD (callF tab ext N) 8 [.agg s.cells]=some (.agg (shortS s).cells):=by
 obtain ⟨M,rfl⟩:∃M,N=M+1:=⟨N-1,by omega⟩;obtain ⟨a,b,ss⟩:=s;have hl:=ss_loop M (by omega) a b ss (τ:=⟨[(1,.ptr 0 0 0),(2,.ptr 1 0 0),(3,.bs 2 0 0),(4,num 0)],[.var [num a,num b,.sl false 10 (sltsC ss)],.var zState,.row 10 []]⟩) (by kernel_rfl);have l1:(sltsC ((ss.take 6).map shortL)).length=(ss.take 6).length:=by rw [sltsC_length,qa9]
 have e:(shortS ⟨a,b,ss⟩).cells=[num a,num b,.sl false 10 (sltsC ((ss.take 6).map shortL))]:=rfl;rw [e];generalize sltsC ((ss.take 6).map shortL)=acc at l1 hl;generalize (ss.take 6).length=z at l1 hl;have hd:(X.agg [num a,num b,.bs 0 0 z]).data [.row 10 acc] false=some (.agg [num a,num b,.sl false 10 acc]):=by subst l1;simp [X.data,dataL,rowOf,num]
 exact pure_of [] [(.exit 0,⟨[(1,.ptr 0 0 0),(2,.ptr 1 0 0),(3,.bs 2 0 z),(4,nat z),(17,boolX false)],[.var [num a,num b,.sl false 10 (sltsC ss)],.var zState,.row 10 acc]⟩)] (pf1 hl) (x:=.agg [num a,num b,.bs 0 0 z]) (bx:=[.row 10 acc]) (by kernel_rfl) hd
mutual
theorem short_bound:∀(n:Nat) (v:Val),(shortV n v).size<=13^n*2-1
 |0,.mk .. =>by grind[shortV,Val.size,sizeL,sizeF]
 |n+1,.mk k i s t l f=>by
  have h1:∀l:List Val,sizeL (l.map (shortV n))<=l.length*(13^n*2):=fun l=>by
   induction l with
   |nil=>simp [sizeL]
   |cons v l ih=>have:=short_bound n v<;>grind[sizeL,Nat.add_mul]
  have h2:∀l:List (qbJ×Val),sizeF (l.map fun p=>(cutT 40 p.1,shortV n p.2))<=l.length*(13^n*2):=fun l=>by
   induction l with
   |nil=>simp [sizeF]
   |cons v l ih=>have:=short_bound n v.2<;>grind[sizeF,Nat.add_mul]
  have g1:=h1 (l.take 6);have g2:=h2 (f.take 6);have e1:(l.take 6).length*(13^n*2)<=6*(13^n*2):=qbn _ (by grind);have e2:(f.take 6).length*(13^n*2)<=6*(13^n*2):=qbn _ (by rw [qaN];omega)<;>grind[shortV,Val.size]
end
theorem short_ok {n:Nat}(v:Val)(h:n<=4):(shortV n v).ok:=by
 have h1:=short_bound n v;have h2:13^n<=13^4:=Nat.pow_le_pow_right (by omega) h;unfold Val.ok
 grind
theorem shortM_ok (m:Msg):(shortM m).ok:=⟨⟨by have:=cutI_length m.st.p;show (cutI m.st.p).length<=60000;omega⟩,by have:=cutI_length m.orig;show (cutI m.orig).length<=60000;omega,short_ok _ (by omega)⟩
theorem shortS_small (s:Stt):(shortS s).small:=by
 refine ⟨?_,fun x hx=>?_⟩;·show ((s.slots.take 6).map shortL).length<=100<;>grind
 obtain ⟨y,hy,rfl⟩:=qbh.1 hx;have h1:((y.items.take 4).map shortM).length<=4:=by rw [qa9,qaN];omega
 have h2:((y.vals.take 4).map (shortV 3)).length<=4:=by rw [qa9,qaN];omega
 refine ⟨⟨short_ok _ (by omega),?_,fun m hm=>?_,?_,fun v hv=>?_⟩,?_,?_⟩;·show ((y.items.take 4).map shortM).length<=60000;omega
 ·obtain ⟨m',_,rfl⟩:=qbh.1 hm<;>simp_all[shortM_ok]
 ·show ((y.vals.take 4).map (shortV 3)).length<=60000;omega
 ·obtain ⟨v',_,rfl⟩:=qbh.1 hv<;>simp_all[short_ok]
 ·show ((y.items.take 4).map shortM).length<=100;omega
 show ((y.vals.take 4).map (shortV 3)).length<=100;omega
def isVal (c:List X):Prop:=∃v:Val,c=v.cells
def isExp:Nat->List X->Prop
 |0,c=>∃o i t vs es,c=[num o,num i,strX t,.sl false 6 vs,.sl false 5 es]/\∀x,x∈vs->isVal x
 |n+1,c=>∃o i t vs es,c=[num o,num i,strX t,.sl false 6 vs,.sl false 5 es]/\(∀x,x∈vs->isVal x)/\∀x,x∈es->isExp n x
section
variable (n:Nat) (o i:Int) (t:qbJ) (l f:qbI) (acc:qbI) (j:Nat) (x:List X)
end
section
variable (n:Nat) (o i:Int) (t:qbJ) (l f acc0:qbI) (m:Nat) (acc:qbI) (j:Nat) (x:List X)
end
def isRule (c:List X):Prop:=∃t e,c=strX t::e/\isExp 3 e
section
variable (l:qbI) (acc:qbI) (j:Nat) (x:List X)
end
end Go.Proofs.YtonnphbfclaigaaGreatDoor
