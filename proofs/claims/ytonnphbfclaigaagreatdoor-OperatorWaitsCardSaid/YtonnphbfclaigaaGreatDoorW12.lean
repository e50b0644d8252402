/-.-/
import Derived.Laws.BitsLemmas
import Derived.Test.YtonnphbfclaigaaGreatDoorW11
set_option linter.all false
namespace Go.Proofs.YtonnphbfclaigaaGreatDoor
open Go.Em
set_option maxRecDepth 100000
variable {p:List Int}{args:List X}{B:Nat}
def num (n:Int):X:=.v (.int .i64 n)
def nat (n:Nat):X:=.v (.int .i64 (Int.ofNat n))
def noText:X:=.v (.string ⟨#[]⟩)
def strX (s:qaW):X:=.v (.string s)
def boolX (b:Bool):X:=.v (.bool b)
theorem lt_nat {j k:Nat}(h:j<k):decide (Int.ofNat j<Int.ofNat k)=true:=by
 have:Int.ofNat j<Int.ofNat k:=by simp only [qam];omega
 exact decide_eq_true this
theorem nlt_nat {j k:Nat}(h:¬j<k):decide (Int.ofNat j<Int.ofNat k)=false:=by
 have:¬Int.ofNat j<Int.ofNat k:=by simp only [qam];omega
 exact decide_eq_false this
theorem next_nat {j:Nat}(h:j<4294967296):IntKind.i64.wrap (Int.ofNat j+1)=Int.ofNat (j+1):=by rw [IntKind.wrap_i64];simp only [qam];omega
theorem room_of {n bytes:Nat}(h:n*bytes<=70368744177664)(h2:n<4611686018427387904):roomOk n bytes=true:=by simp only [roomOk,qag,qaD];exact ⟨h,h2⟩
inductive Val where
 |mk (k i s:Int) (t:qaW) (l:List Val) (f:List (qaW×Val))
mutual
def Val.cells:Val->List X
 |.mk k i s t l f=>[num k,num i,num s,strX t,.sl false 6 (cellsL l),.sl false 7 (cellsF f)]
def cellsL:List Val->qaV
 |[]=>[]
 |v::r=>v.cells::cellsL r
def cellsF:List (qaW×Val)->qaV
 |[]=>[]
 |(n,v)::r=>(strX n::v.cells)::cellsF r
end
mutual
def Val.size:Val->Nat
 |.mk _ _ _ _ l f=>sizeL l+sizeF f+1
def sizeL:List Val->Nat
 |[]=>0
 |v::r=>v.size+sizeL r+1
def sizeF:List (qaW×Val)->Nat
 |[]=>0
 |(_,v)::r=>v.size+sizeF r+1
end
theorem cellsL_length:∀l,(cellsL l).length=l.length
 |[]=>rfl
 |v::r=>by simp [cellsL,cellsL_length r]
theorem cellsF_length:∀l,(cellsF l).length=l.length
 |[]=>rfl
 |(n,v)::r=>by simp [cellsF,cellsF_length r]
theorem cellsL_eq:∀l,cellsL l=l.map Val.cells
 |[]=>rfl
 |v::r=>by simp [cellsL,cellsL_eq r]
theorem cellsF_eq:∀l,cellsF l=l.map fun p=>strX p.1::p.2.cells
 |[]=>rfl
 |(n,v)::r=>by simp [cellsF,cellsF_eq r]
theorem sizeL_mem {v:Val}:∀{l:List Val},v∈l->v.size<sizeL l
 |u::r,h=>by
  simp only [sizeL];rcases qaz.1 h with rfl|h;·omega
  have:=sizeL_mem h;omega
theorem sizeF_mem {p:qaW×Val}:∀{l:List (qaW×Val)},p∈l->p.2.size<sizeF l
 |(n,u)::r,h=>by
  simp only [sizeF];rcases qaz.1 h with rfl|h;·dsimp only;omega
  have:=sizeF_mem h;omega
theorem sizeL_length:∀l:List Val,l.length<=sizeL l
 |[]=>Nat.le_refl _
 |v::r=>by have:=sizeL_length r;simp only [sizeL,qaI];omega
theorem sizeF_length:∀l:List (qaW×Val),l.length<=sizeF l
 |[]=>Nat.le_refl _
 |(n,v)::r=>by have:=sizeF_length r;simp only [sizeF,qaI];omega
theorem cellsL_get {l:List Val}{j:Nat}(h:j<l.length):(cellsL l)[j]?=some l[j].cells:=by rw [cellsL_eq];simp [h]
theorem cellsF_get {l:List (qaW×Val)}{j:Nat}(h:j<l.length):(cellsF l)[j]?=some (strX l[j].1::l[j].2.cells):=by rw [cellsF_eq];simp [h]
def loopOfC:C->List C
 |.seq a b=>loopOfC a++loopOfC b
 |.cond _ a b=>loopOfC a++loopOfC b
 |.block _ b=>loopOfC b
 |.loop b=>b::loopOfC b
 |.rf _ _ _ _ b=>loopOfC b
 |_=>[]
noncomputable def loopAt (f k:Nat):C:=match tab f with
 |some fd=>(loopOfC fd.body).getD k .stuck
 |none=>.stuck
theorem app_ok {acc:qaV}(j i bytes:Nat)(h:j=acc.length)(hj:j<1000000)(hb:bytes<1000):0+j=acc.length/\roomOk (j+1) bytes=true/\memN i []=false:=
 ⟨by omega,room_of (by have:(j+1)*bytes<=1000000*1000:=Nat.mul_le_mul (by omega) (by omega);omega) (by omega),rfl⟩
def zVal:List X:=[num 0,num 0,num 0,noText,.sl true 6 [],.sl true 7 []]
section
variable (k i s:Int) (t:qaW) (l f acc accF:qaV) (n j m:Nat) (x y:List X)
def clH:St:=⟨[(1,.ptr 0 0 0),(2,.ptr 1 0 0),(3,.ptr 2 0 0),(12,.sl false 6 l),(13,nat n),(14,nat j)],[.var [num k,num i,num s,strX t,.sl false 6 l,.sl false 7 f],.var zVal,.var [num k,num i,num s,strX t,.bs 3 0 j,.sl true 7 []],.row 6 acc]⟩
def clH':St:=⟨[(1,.ptr 0 0 0),(2,.ptr 1 0 0),(3,.ptr 2 0 0),(12,.sl false 6 l),(13,nat n),(14,nat (j+1))],[.var [num k,num i,num s,strX t,.sl false 6 l,.sl false 7 f],.var zVal,.var [num k,num i,num s,strX t,.bs 5 0 (j+1),.sl true 7 []],.dead,.var x,.row 6 (acc++[y])]⟩
def clE:St:=⟨[(1,.ptr 0 0 0),(2,.ptr 1 0 0),(3,.ptr 2 0 0),(12,.sl false 6 l),(13,nat n),(14,nat j),(15,boolX false)],[.var [num k,num i,num s,strX t,.sl false 6 l,.sl false 7 f],.var zVal,.var [num k,num i,num s,strX t,.bs 3 0 j,.sl true 7 []],.row 6 acc]⟩
theorem cl_canon:canon 0 (clH k i s t l f acc n j)=some (clH k i s t l f acc n j):=by kernel_rfl
theorem cl_canon':canon 0 (clH' k i s t l f acc n j x y)=some (clH k i s t l f (acc++[y]) n (j+1)):=by kernel_rfl
def cfH:St:=⟨[(2,.ptr 0 0 0),(3,.ptr 1 0 0),(27,.sl false 7 f),(28,nat n),(29,nat j)],[.var zVal,.var [num k,num i,num s,strX t,.bs 2 0 m,.bs 3 0 j],.row 6 acc,.row 7 accF]⟩
def cfH':St:=⟨[(2,.ptr 0 0 0),(3,.ptr 1 0 0),(27,.sl false 7 f),(28,nat n),(29,nat (j+1))],[.var zVal,.var [num k,num i,num s,strX t,.bs 2 0 m,.bs 5 0 (j+1)],.row 6 acc,.dead,.var x,.row 7 (accF++[y])]⟩
def cfE:St:=⟨[(2,.ptr 0 0 0),(3,.ptr 1 0 0),(27,.sl false 7 f),(28,nat n),(29,nat j),(30,boolX false)],[.var zVal,.var [num k,num i,num s,strX t,.bs 2 0 m,.bs 3 0 j],.row 6 acc,.row 7 accF]⟩
theorem cf_canon':canon 0 (cfH' k i s t f acc accF n j m x y)=some (cfH k i s t f acc (accF++[y]) n (j+1) m):=by kernel_rfl
end
section
variable (N:Nat) (k i s:Int) (t:qaW) (l f acc accF:qaV) (n j m:Nat) (v:Val) (nm:qaW)
theorem cl_step (hv:Gam.pureD (callF tab ext N) 85 [.agg v.cells]=some (.agg v.cells))(hi:l[j]?=some v.cells)(hj:j<n)(hn:n<1000000)(ha:j=acc.length):
  run (callF tab ext N) 0 N (loopAt 85 0) (clH k i s t l f acc n j)=some (.norm,clH' k i s t l f acc n j v.cells v.cells):=
 by
 obtain ⟨a1,a2,a3,a4,a5,a6⟩:=v;exact run_of [(15,.b true),(16,.e (Val.mk a1 a2 a3 a4 a5 a6).cells),(21,.p (.agg (Val.mk a1 a2 a3 a4 a5 a6).cells)),(23,.app),(25,.i (Int.ofNat (j+1)))] []
  (pf5 (lt_nat hj) hi hv (app_ok j 3 88 ha (by omega) (by omega)) (next_nat (j:=j) (by omega))) (lo':=[]) (by kernel_rfl)
theorem cl_end:run (callF tab ext N) 0 N (loopAt 85 0) (clH k i s t l f acc n n)=some (.exit 0,clE k i s t l f acc n n):=
 run_of [(15,.b false)] [] (pf1 (nlt_nat (qar n))) (lo':=[]) (by kernel_rfl)
theorem cf_step (hv:Gam.pureD (callF tab ext N) 85 [.agg v.cells]=some (.agg v.cells))(hi:f[j]?=some (strX nm::v.cells))(hj:j<n)(hn:n<1000000)(ha:j=accF.length):
  run (callF tab ext N) 0 N (loopAt 85 1) (cfH k i s t f acc accF n j m)=some (.norm,cfH' k i s t f acc accF n j m (strX nm::v.cells) (strX nm::v.cells)):=
 by
 obtain ⟨a1,a2,a3,a4,a5,a6⟩:=v;exact run_of [(30,.b true),(31,.e (strX nm::(Val.mk a1 a2 a3 a4 a5 a6).cells)),(39,.p (.agg (Val.mk a1 a2 a3 a4 a5 a6).cells)),(42,.app),(44,.i (Int.ofNat (j+1)))] []
  (pf5 (lt_nat hj) hi hv (app_ok j 3 104 ha (by omega) (by omega)) (next_nat (j:=j) (by omega))) (lo':=[]) (by kernel_rfl)
theorem cf_end:run (callF tab ext N) 0 N (loopAt 85 1) (cfH k i s t f acc accF n n m)=some (.exit 2,cfE k i s t f acc accF n n m):=
 run_of [(30,.b false)] [] (pf1 (nlt_nat (qar n))) (lo':=[]) (by kernel_rfl)
end
theorem take_succ_get {α:Type}{l:List α}{j:Nat}{x:α}(h:l[j]?=some x):l.take j++[x]=l.take (j+1):=by obtain ⟨hj,rfl⟩:=qah.1 h;simp_all
theorem clone_val:∀(N:Nat) (v:Val),v.size<N->v.size<1000000->Gam.pureD (callF tab ext N) 85 [.agg v.cells]=some (.agg v.cells)
 |0,_,h,_=>by omega
 |M+1,.mk k i s t l f,h,hs=>by
  simp only [Val.size] at h hs;have hl:=sizeL_length l;have hf:=sizeF_length f;have el:=cellsL_length l;have ef:=cellsF_length f;have h1:run (callF tab ext M) 0 M (.loop (loopAt 85 0)) (clH k i s t (cellsL l) (cellsF f) [] (cellsL l).length 0)=some (.exit 0,clE k i s t (cellsL l) (cellsF f) (cellsL l) (cellsL l).length (cellsL l).length):=by
   refine loop_for (σ:=fun j=>clH k i s t (cellsL l) (cellsF f) ((cellsL l).take j) (cellsL l).length j) (k:=(cellsL l).length) (cl_canon _ _ _ _ _ _ _ _ _) (fun j hj=>?_) ?_ (by simp) (by omega)
   ·have hj':j<l.length:=by omega
    have hg:=cellsL_get hj';have hm:=sizeL_mem (qal hj');refine ⟨_,cl_step M k i s t _ _ _ _ j l[j] (clone_val M l[j] (by omega) (by omega)) hg (by omega) (by omega) (by rw [qac];omega),?_⟩<;>grind[cl_canon',take_succ_get]
   ·grind[cl_end]
  have h2:run (callF tab ext M) 0 M (.loop (loopAt 85 1)) ⟨[(2,.ptr 1 0 0),(3,.ptr 2 0 0),(27,.sl false 7 (cellsF f)),(28,nat (cellsF f).length),(29,nat 0)],[.var [num k,num i,num s,strX t,.sl false 6 (cellsL l),.sl false 7 (cellsF f)],.var zVal,.var [num k,num i,num s,strX t,.bs 3 0 (cellsL l).length,.bs 4 0 0],.row 6 (cellsL l),.row 7 []]⟩=some (.exit 2,cfE k i s t (cellsF f) (cellsL l) (cellsF f) (cellsF f).length (cellsF f).length (cellsL l).length):=by
   refine loop_for (σ:=fun j=>cfH k i s t (cellsF f) (cellsL l) ((cellsF f).take j) (cellsF f).length j (cellsL l).length) (k:=(cellsF f).length) (by kernel_rfl) (fun j hj=>?_) ?_ (by simp) (by omega)
   ·have hj':j<f.length:=by omega
    have hg:=cellsF_get hj';have hm:=sizeF_mem (qal hj');refine ⟨_,cf_step M k i s t _ _ _ _ j _ f[j].2 f[j].1 (clone_val M f[j].2 (by omega) (by omega)) hg (by omega) (by omega) (by rw [qac];omega),?_⟩<;>grind[cf_canon',take_succ_get]
   ·grind[cf_end]
  have h3:(X.agg [num k,num i,num s,strX t,.bs 0 0 (cellsL l).length,.bs 1 0 (cellsF f).length]).data [.row 6 (cellsL l),.row 7 (cellsF f)] false=some (.agg (Val.mk k i s t l f).cells):=by simp [X.data,dataL,rowOf,Val.cells,num,strX]
  exact pure_of [] [(.exit 0,clE k i s t (cellsL l) (cellsF f) (cellsL l) (cellsL l).length (cellsL l).length),(.exit 2,cfE k i s t (cellsF f) (cellsL l) (cellsF f) (cellsF f).length (cellsF f).length (cellsL l).length)]
   (pf2 h1 h2) (bx:=[.row 6 (cellsL l),.row 7 (cellsF f)]) (by kernel_rfl) h3
def ordI (a b:Int):Int:=if a<b then -1 else if b<a then 1 else 0
def orL:List Int->Int
 |[]=>0
 |x::r=>if x=0 then orL r else x
def lexC {α β:Type}(r:α->β->Int):List α->List β->Int
 |[],[]=>0
 |[],_::_=>-1
 |_::_,[]=>1
 |a::la,b::lb=>if r a b=0 then lexC r la lb else r a b
theorem ne_true {x:Int}(h:¬x=0):(!(x==0))=true:=by grind
theorem ne_false {x:Int}(h:x=0):(!(x==0))=false:=by grind
theorem ge_true {j k:Nat}(h:k<=j):decide (Int.ofNat k<=Int.ofNat j)=true:=by grind
theorem ge_false {j k:Nat}(h:j<k):decide (Int.ofNat k<=Int.ofNat j)=false:=by grind
theorem not_nan (N:Nat)(a:Int):Gam.pureD (callF tab ext (N+2)) 112 [num a]=some (boolX false):=
 pure_of [(5,.b false)] [] (pf1 (show (!(a==a))=false by simp)) (x:=boolX false) (bx:=[]) (by kernel_rfl) rfl
theorem cmp_int (N:Nat)(a b:Int):Gam.pureD (callF tab ext (N+4)) 67 [num a,num b]=some (num (ordI a b)):=by
 unfold ordI;by_cases h:a<b;·rw [if_pos h];exact pure_of [(8,.p (boolX false)),(10,.p (boolX false)),(16,.b true)] [] (pf3 (not_nan (N+1) a) (not_nan (N+1) b) (decide_eq_true h)) (x:=num (-1)) (bx:=[]) (by kernel_rfl) rfl
 rw [if_neg h];by_cases h2:b<a;·rw [if_pos h2];exact pure_of [(8,.p (boolX false)),(10,.p (boolX false)),(16,.b false),(19,.b true)] [] (pf4 (not_nan (N+1) a) (not_nan (N+1) b) (decide_eq_false h) (decide_eq_true h2)) (x:=num 1) (bx:=[]) (by kernel_rfl) rfl
 rw [if_neg h2];exact pure_of [(8,.p (boolX false)),(10,.p (boolX false)),(16,.b false),(19,.b false)] [] (pf4 (not_nan (N+1) a) (not_nan (N+1) b) (decide_eq_false h) (decide_eq_false h2)) (x:=num 0) (bx:=[]) (by kernel_rfl) rfl
def intsC (l:List Int):qaV:=l.map fun x=>[num x]
theorem intsC_length (l:List Int):(intsC l).length=l.length:=by simp [intsC]
theorem intsC_get {l:List Int}{j:Nat}(h:j<l.length):(intsC l)[j]?=some [num l[j]]:=by grind[intsC]
def orH (l:qaV)(n j:Nat):St:=⟨[(3,num 0),(6,.sl false 1 l),(7,nat n),(8,nat j)],[]⟩
theorem or_canon (l:qaV)(n j:Nat):canon 0 (orH l n j)=some (orH l n j):=by kernel_rfl
theorem or_loop (M:Nat)(l:List Int)(hl:l.length<4000000):∀d j F,j+d=l.length->d<F->
  (¬orL (l.drop j)=0/\iter 0 (run (callF tab ext M) 0 M (loopAt 66 0)) F (orH (intsC l) (intsC l).length j)=some (.ret,⟨[(2,num (orL (l.drop j)))],[]⟩))\/
  (orL (l.drop j)=0/\iter 0 (run (callF tab ext M) 0 M (loopAt 66 0)) F (orH (intsC l) (intsC l).length j)=some (.exit 0,⟨[(3,num 0),(6,.sl false 1 (intsC l)),(7,nat (intsC l).length),(8,nat (intsC l).length),(9,boolX false)],[]⟩))
 |0,j,F,hj,hF=>by
  right;obtain ⟨F',rfl⟩:∃F',F=F'+1:=⟨F-1,by omega⟩;have hj':j=l.length:=by omega
  subst hj';have hn:=intsC_length l;refine ⟨by rw [List.drop_length];rfl,iter_end (or_canon _ _ _) ?_ (by simp)⟩;rw [hn];exact run_of [(9,.b false)] [] (pf1 (nlt_nat (qar l.length))) (lo':=[]) (by kernel_rfl)
 |d+1,j,F,hj,hF=>by
  obtain ⟨F',rfl⟩:∃F',F=F'+1:=⟨F-1,by omega⟩;have hn:=intsC_length l;have hj':j<l.length:=by omega
  have hd:l.drop j=l[j]::l.drop (j+1):=by rw [<-List.getElem_cons_drop hj']
  rw [hd,orL];by_cases h:l[j]=0
  ·rw [if_pos h];have hs:run (callF tab ext M) 0 M (loopAt 66 0) (orH (intsC l) (intsC l).length j)=some (.norm,orH (intsC l) (intsC l).length (j+1)):=
    run_of [(9,.b true),(10,.e [num l[j]]),(14,.b false),(16,.i (Int.ofNat (j+1)))] [] (pf4 (lt_nat (j:=j) (k:=(intsC l).length) (by omega)) (intsC_get hj') (ne_false h) (next_nat (j:=j) (by omega))) (lo':=[]) (by kernel_rfl)
   rw [iter_step (or_canon _ _ _) hs rfl];exact or_loop M l hl d (j+1) F' (by omega) (by omega)
  rw [if_neg h];left;refine ⟨h,iter_end (or_canon _ _ _) ?_ (by simp)⟩;exact run_of [(9,.b true),(10,.e [num l[j]]),(14,.b true)] [] (pf3 (lt_nat (j:=j) (k:=(intsC l).length) (by omega)) (intsC_get hj') (ne_true h)) (lo':=[]) (by kernel_rfl)
theorem or_pure (N:Nat)(l:List Int)(hl:l.length<4000000)(hN:l.length<N):Gam.pureD (callF tab ext (N+1)) 66 [.sl false 1 (intsC l)]=some (num (orL l)):=by
 rcases or_loop N l hl l.length 0 N (by omega) hN with ⟨_,h⟩|⟨h0,h⟩;·exact pure_of [] [(.ret,⟨[(2,num (orL l))],[]⟩)] (pf1 h) (x:=num (orL l)) (bx:=[]) (by kernel_rfl) rfl
 have h0':orL l=0:=h0;rw [h0'];exact pure_of [] [(.exit 0,⟨[(3,num 0),(6,.sl false 1 (intsC l)),(7,nat (intsC l).length),(8,nat (intsC l).length),(9,boolX false)],[]⟩)] (pf1 h) (x:=num 0) (bx:=[]) (by kernel_rfl) rfl
theorem iter_canon {nIn:Nat}{f:St->Option (Ex×St)}{F:Nat}{υ σ:St}(h:canon nIn υ=some σ)(h':canon nIn σ=some σ):iter nIn f F υ=iter nIn f F σ:=by
 cases F<;>grind[iter]
section
variable (g:Nat) (l m:qaV) (n j:Nat)
def ch98:St:=⟨[(0,.sl false 1 l),(1,.sl false 1 m),(2,.fn g []),(11,.sl false 1 l),(12,nat n),(13,nat j)],[]⟩
def ce98:St:=⟨[(0,.sl false 1 l),(1,.sl false 1 m),(2,.fn g []),(11,.sl false 1 l),(12,nat n),(13,nat j),(14,boolX false)],[]⟩
theorem ch98_canon:canon 0 (ch98 g l m n j)=some (ch98 g l m n j):=by kernel_rfl
end
theorem cmp98_loop (M g:Nat)(la lb:List Int)(r:Int->Int->Int)(hr:∀a b,a∈la->b∈lb->Gam.pureD (callF tab ext M) g [num a,num b]=some (num (r a b)))(hl:la.length<4000000):∀d j F,j+d=la.length->d<F->
  (∃bx,iter 0 (run (callF tab ext M) 0 M (loopAt 68 0)) F (ch98 g (intsC la) (intsC lb) (intsC la).length j)=some (.ret,⟨[(6,num (lexC r (la.drop j) (lb.drop j)))],bx⟩))\/
  (lexC r (la.drop j) (lb.drop j)=(if la.length<lb.length then -1 else 0)/\iter 0 (run (callF tab ext M) 0 M (loopAt 68 0)) F (ch98 g (intsC la) (intsC lb) (intsC la).length j)=some (.exit 0,ce98 g (intsC la) (intsC lb) (intsC la).length (intsC la).length))
 |0,j,F,hj,hF=>by
  obtain ⟨F',rfl⟩:∃F',F=F'+1:=⟨F-1,by omega⟩;have hj':j=la.length:=by omega
  subst hj';have hn:=intsC_length la;have h:run (callF tab ext M) 0 M (loopAt 68 0) (ch98 g (intsC la) (intsC lb) la.length la.length)=some (.exit 0,ce98 g (intsC la) (intsC lb) la.length la.length):=
   run_of [(14,.b false)] [] (pf1 (nlt_nat (qar la.length))) (lo':=[]) (by kernel_rfl)
  right;refine ⟨?_,by grind[iter_end,ch98_canon]⟩;rw [List.drop_length];by_cases hb:la.length<lb.length;·rw [if_pos hb,<-List.getElem_cons_drop hb];rfl
  rw [if_neg hb,List.drop_eq_nil_of_le (by omega)];rfl
 |d+1,j,F,hj,hF=>by
  obtain ⟨F',rfl⟩:∃F',F=F'+1:=⟨F-1,by omega⟩;have hn:=intsC_length la;have hm:=intsC_length lb;have hj':j<la.length:=by omega
  have hd:la.drop j=la[j]::la.drop (j+1):=by rw [<-List.getElem_cons_drop hj']
  have hg:=intsC_get hj';have hma:=qal hj';rw [hd];generalize la[j]=a at hg hma
  skip
  by_cases hb:j<lb.length
  ·have hdb:lb.drop j=lb[j]::lb.drop (j+1):=by rw [<-List.getElem_cons_drop hb]
   have hgb:=intsC_get hb;have hmb:=qal hb;rw [hdb];generalize lb[j]=b at hgb hmb
   skip
   have hc:=hr _ _ hma hmb;rw [lexC];by_cases h:r a b=0
   ·rw [if_pos h];have hs:∃bx,run (callF tab ext M) 0 M (loopAt 68 0) (ch98 g (intsC la) (intsC lb) (intsC la).length j)=some (.norm,⟨(ch98 g (intsC la) (intsC lb) (intsC la).length (j+1)).tm,bx⟩):=
     ⟨[],run_of [(14,.b true),(16,.e [num a]),(21,.b false),(24,.e [num b]),(29,.p (num (r a b))),(31,.b false),(33,.i (Int.ofNat (j+1)))] []
      (pf7 (lt_nat (j:=j) (k:=(intsC la).length) (by omega)) hg (ge_false (j:=j) (k:=(intsC lb).length) (by omega)) hgb hc (ne_false h) (next_nat (j:=j) (by omega))) (lo':=[]) (by kernel_rfl)⟩
    obtain ⟨bx,hs⟩:=hs;have hcn:canon 0 ⟨(ch98 g (intsC la) (intsC lb) (intsC la).length (j+1)).tm,bx⟩=some (ch98 g (intsC la) (intsC lb) (intsC la).length (j+1)):=by kernel_rfl
    have:=cmp98_loop M g la lb r hr hl d (j+1) F' (by omega) (by omega);have hi:iter 0 (run (callF tab ext M) 0 M (loopAt 68 0)) (F'+1) (ch98 g (intsC la) (intsC lb) (intsC la).length j)=iter 0 (run (callF tab ext M) 0 M (loopAt 68 0)) F' (ch98 g (intsC la) (intsC lb) (intsC la).length (j+1)):=
     (iter_step (ch98_canon _ _ _ _ _) hs rfl).trans (iter_canon hcn (ch98_canon _ _ _ _ _))
    grind
   rw [if_neg h];left;exact ⟨_,iter_end (ch98_canon _ _ _ _ _) (run_of [(14,.b true),(16,.e [num a]),(21,.b false),(24,.e [num b]),(29,.p (num (r a b))),(31,.b true)] []
     (pf6 (lt_nat (j:=j) (k:=(intsC la).length) (by omega)) hg (ge_false (j:=j) (k:=(intsC lb).length) (by omega)) hgb hc (ne_true h)) (lo':=[]) (σ':=⟨[(6,num (r a b))],[]⟩) (by kernel_rfl)) (by simp)⟩
  left;rw [List.drop_eq_nil_of_le (by omega:lb.length<=j),lexC];exact ⟨_,iter_end (ch98_canon _ _ _ _ _) (run_of [(14,.b true),(16,.e [num a]),(21,.b true)] []
     (pf3 (lt_nat (j:=j) (k:=(intsC la).length) (by omega)) hg (ge_true (j:=j) (k:=(intsC lb).length) (by omega))) (lo':=[]) (σ':=⟨[(6,num 1)],[]⟩) (by kernel_rfl)) (by simp)⟩
theorem cmp98_pure (M g:Nat)(la lb:List Int)(r:Int->Int->Int)(hr:∀a b,a∈la->b∈lb->Gam.pureD (callF tab ext M) g [num a,num b]=some (num (r a b)))(hl:la.length<4000000)(hN:la.length<M):
  Gam.pureD (callF tab ext (M+1)) 68 [.sl false 1 (intsC la),.sl false 1 (intsC lb),.fn g []]=some (num (lexC r la lb)):=by
 have hn:=intsC_length la;have hm:=intsC_length lb;rcases cmp98_loop M g la lb r hr hl la.length 0 M (by omega) hN with ⟨bx,h⟩|⟨h0,h⟩;·exact pure_of [] [(.ret,⟨[(6,num (lexC r la lb))],bx⟩)] (pf1 h) (x:=num (lexC r la lb)) (bx:=[]) (by kernel_rfl) rfl
 have h0':lexC r la lb=(if la.length<lb.length then -1 else 0):=h0;rw [h0'];by_cases hb:la.length<lb.length;·rw [if_pos hb];exact pure_of [(38,.b true)] [(.exit 0,ce98 g (intsC la) (intsC lb) (intsC la).length (intsC la).length)] (pf2 h (lt_nat (j:=(intsC la).length) (k:=(intsC lb).length) (by omega))) (x:=num (-1)) (bx:=[]) (by kernel_rfl) rfl
 rw [if_neg hb];exact pure_of [(38,.b false)] [(.exit 0,ce98 g (intsC la) (intsC lb) (intsC la).length (intsC la).length)] (pf2 h (nlt_nat (j:=(intsC la).length) (k:=(intsC lb).length) (by omega))) (x:=num 0) (bx:=[]) (by kernel_rfl) rfl
section
variable (g:Nat) (l m:qaV) (n j:Nat)
def ch104:St:=⟨[(0,.sl false 6 l),(1,.sl false 6 m),(2,.fn g []),(11,.sl false 6 l),(12,nat n),(13,nat j)],[]⟩
def ce104:St:=⟨[(0,.sl false 6 l),(1,.sl false 6 m),(2,.fn g []),(11,.sl false 6 l),(12,nat n),(13,nat j),(14,boolX false)],[]⟩
theorem ch104_canon:canon 0 (ch104 g l m n j)=some (ch104 g l m n j):=by kernel_rfl
end
theorem cmp104_loop (M g:Nat)(la lb:List Val)(r:Val->Val->Int)(hr:∀a b,a∈la->b∈lb->Gam.pureD (callF tab ext M) g [.agg a.cells,.agg b.cells]=some (num (r a b)))(hl:la.length<4000000):∀d j F,j+d=la.length->d<F->
  (∃bx,iter 0 (run (callF tab ext M) 0 M (loopAt 164 0)) F (ch104 g (cellsL la) (cellsL lb) (cellsL la).length j)=some (.ret,⟨[(6,num (lexC r (la.drop j) (lb.drop j)))],bx⟩))\/
  (lexC r (la.drop j) (lb.drop j)=(if la.length<lb.length then -1 else 0)/\iter 0 (run (callF tab ext M) 0 M (loopAt 164 0)) F (ch104 g (cellsL la) (cellsL lb) (cellsL la).length j)=some (.exit 0,ce104 g (cellsL la) (cellsL lb) (cellsL la).length (cellsL la).length))
 |0,j,F,hj,hF=>by
  obtain ⟨F',rfl⟩:∃F',F=F'+1:=⟨F-1,by omega⟩;have hj':j=la.length:=by omega
  subst hj';have hn:=cellsL_length la;have h:run (callF tab ext M) 0 M (loopAt 164 0) (ch104 g (cellsL la) (cellsL lb) la.length la.length)=some (.exit 0,ce104 g (cellsL la) (cellsL lb) la.length la.length):=
   run_of [(14,.b false)] [] (pf1 (nlt_nat (qar la.length))) (lo':=[]) (by kernel_rfl)
  right;refine ⟨?_,by grind[iter_end,ch104_canon]⟩;rw [List.drop_length];by_cases hb:la.length<lb.length;·rw [if_pos hb,<-List.getElem_cons_drop hb];rfl
  rw [if_neg hb,List.drop_eq_nil_of_le (by omega)];rfl
 |d+1,j,F,hj,hF=>by
  obtain ⟨F',rfl⟩:∃F',F=F'+1:=⟨F-1,by omega⟩;have hn:=cellsL_length la;have hm:=cellsL_length lb;have hj':j<la.length:=by omega
  have hd:la.drop j=la[j]::la.drop (j+1):=by rw [<-List.getElem_cons_drop hj']
  have hg:=cellsL_get hj';have hma:=qal hj';rw [hd];generalize la[j]=a at hg hma;obtain ⟨a1,a2,a3,a4,a5,a6⟩:=a;by_cases hb:j<lb.length
  ·have hdb:lb.drop j=lb[j]::lb.drop (j+1):=by rw [<-List.getElem_cons_drop hb]
   have hgb:=cellsL_get hb;have hmb:=qal hb;rw [hdb];generalize lb[j]=b at hgb hmb;obtain ⟨b1,b2,b3,b4,b5,b6⟩:=b;have hc:=hr _ _ hma hmb;rw [lexC];by_cases h:r (Val.mk a1 a2 a3 a4 a5 a6) (Val.mk b1 b2 b3 b4 b5 b6)=0
   ·rw [if_pos h];have hs:∃bx,run (callF tab ext M) 0 M (loopAt 164 0) (ch104 g (cellsL la) (cellsL lb) (cellsL la).length j)=some (.norm,⟨(ch104 g (cellsL la) (cellsL lb) (cellsL la).length (j+1)).tm,bx⟩):=
     ⟨[.var (Val.mk a1 a2 a3 a4 a5 a6).cells,.var (Val.mk b1 b2 b3 b4 b5 b6).cells],run_of [(14,.b true),(16,.e (Val.mk a1 a2 a3 a4 a5 a6).cells),(21,.b false),(24,.e (Val.mk b1 b2 b3 b4 b5 b6).cells),(29,.p (num (r (Val.mk a1 a2 a3 a4 a5 a6) (Val.mk b1 b2 b3 b4 b5 b6)))),(31,.b false),(33,.i (Int.ofNat (j+1)))] []
      (pf7 (lt_nat (j:=j) (k:=(cellsL la).length) (by omega)) hg (ge_false (j:=j) (k:=(cellsL lb).length) (by omega)) hgb hc (ne_false h) (next_nat (j:=j) (by omega))) (lo':=[]) (by kernel_rfl)⟩
    obtain ⟨bx,hs⟩:=hs;have hcn:canon 0 ⟨(ch104 g (cellsL la) (cellsL lb) (cellsL la).length (j+1)).tm,bx⟩=some (ch104 g (cellsL la) (cellsL lb) (cellsL la).length (j+1)):=by kernel_rfl
    have:=cmp104_loop M g la lb r hr hl d (j+1) F' (by omega) (by omega);have hi:iter 0 (run (callF tab ext M) 0 M (loopAt 164 0)) (F'+1) (ch104 g (cellsL la) (cellsL lb) (cellsL la).length j)=iter 0 (run (callF tab ext M) 0 M (loopAt 164 0)) F' (ch104 g (cellsL la) (cellsL lb) (cellsL la).length (j+1)):=
     (iter_step (ch104_canon _ _ _ _ _) hs rfl).trans (iter_canon hcn (ch104_canon _ _ _ _ _))
    grind
   rw [if_neg h];left;exact ⟨_,iter_end (ch104_canon _ _ _ _ _) (run_of [(14,.b true),(16,.e (Val.mk a1 a2 a3 a4 a5 a6).cells),(21,.b false),(24,.e (Val.mk b1 b2 b3 b4 b5 b6).cells),(29,.p (num (r (Val.mk a1 a2 a3 a4 a5 a6) (Val.mk b1 b2 b3 b4 b5 b6)))),(31,.b true)] []
     (pf6 (lt_nat (j:=j) (k:=(cellsL la).length) (by omega)) hg (ge_false (j:=j) (k:=(cellsL lb).length) (by omega)) hgb hc (ne_true h)) (lo':=[]) (σ':=⟨[(6,num (r (Val.mk a1 a2 a3 a4 a5 a6) (Val.mk b1 b2 b3 b4 b5 b6)))],[.var (Val.mk a1 a2 a3 a4 a5 a6).cells,.var (Val.mk b1 b2 b3 b4 b5 b6).cells]⟩) (by kernel_rfl)) (by simp)⟩
  left;rw [List.drop_eq_nil_of_le (by omega:lb.length<=j),lexC];exact ⟨_,iter_end (ch104_canon _ _ _ _ _) (run_of [(14,.b true),(16,.e (Val.mk a1 a2 a3 a4 a5 a6).cells),(21,.b true)] []
     (pf3 (lt_nat (j:=j) (k:=(cellsL la).length) (by omega)) hg (ge_true (j:=j) (k:=(cellsL lb).length) (by omega))) (lo':=[]) (σ':=⟨[(6,num 1)],[.var (Val.mk a1 a2 a3 a4 a5 a6).cells]⟩) (by kernel_rfl)) (by simp)⟩
theorem cmp104_pure (M g:Nat)(la lb:List Val)(r:Val->Val->Int)(hr:∀a b,a∈la->b∈lb->Gam.pureD (callF tab ext M) g [.agg a.cells,.agg b.cells]=some (num (r a b)))(hl:la.length<4000000)(hN:la.length<M):
  Gam.pureD (callF tab ext (M+1)) 164 [.sl false 6 (cellsL la),.sl false 6 (cellsL lb),.fn g []]=some (num (lexC r la lb)):=by
 have hn:=cellsL_length la;have hm:=cellsL_length lb;rcases cmp104_loop M g la lb r hr hl la.length 0 M (by omega) hN with ⟨bx,h⟩|⟨h0,h⟩;·exact pure_of [] [(.ret,⟨[(6,num (lexC r la lb))],bx⟩)] (pf1 h) (x:=num (lexC r la lb)) (bx:=[]) (by kernel_rfl) rfl
 have h0':lexC r la lb=(if la.length<lb.length then -1 else 0):=h0;rw [h0'];by_cases hb:la.length<lb.length;·rw [if_pos hb];exact pure_of [(38,.b true)] [(.exit 0,ce104 g (cellsL la) (cellsL lb) (cellsL la).length (cellsL la).length)] (pf2 h (lt_nat (j:=(cellsL la).length) (k:=(cellsL lb).length) (by omega))) (x:=num (-1)) (bx:=[]) (by kernel_rfl) rfl
 rw [if_neg hb];exact pure_of [(38,.b false)] [(.exit 0,ce104 g (cellsL la) (cellsL lb) (cellsL la).length (cellsL la).length)] (pf2 h (nlt_nat (j:=(cellsL la).length) (k:=(cellsL lb).length) (by omega))) (x:=num 0) (bx:=[]) (by kernel_rfl) rfl
section
variable (g:Nat) (l m:qaV) (n j:Nat)
def ch105:St:=⟨[(0,.sl false 7 l),(1,.sl false 7 m),(2,.fn g []),(11,.sl false 7 l),(12,nat n),(13,nat j)],[]⟩
def ce105:St:=⟨[(0,.sl false 7 l),(1,.sl false 7 m),(2,.fn g []),(11,.sl false 7 l),(12,nat n),(13,nat j),(14,boolX false)],[]⟩
theorem ch105_canon:canon 0 (ch105 g l m n j)=some (ch105 g l m n j):=by kernel_rfl
end
theorem cmp105_loop (M g:Nat)(la lb:List (qaW×Val))(r:(qaW×Val)->(qaW×Val)->Int)(hr:∀a b,a∈la->b∈lb->Gam.pureD (callF tab ext M) g [.agg (strX a.1::a.2.cells),.agg (strX b.1::b.2.cells)]=some (num (r a b)))(hl:la.length<4000000):∀d j F,j+d=la.length->d<F->
  (∃bx,iter 0 (run (callF tab ext M) 0 M (loopAt 165 0)) F (ch105 g (cellsF la) (cellsF lb) (cellsF la).length j)=some (.ret,⟨[(6,num (lexC r (la.drop j) (lb.drop j)))],bx⟩))\/
  (lexC r (la.drop j) (lb.drop j)=(if la.length<lb.length then -1 else 0)/\iter 0 (run (callF tab ext M) 0 M (loopAt 165 0)) F (ch105 g (cellsF la) (cellsF lb) (cellsF la).length j)=some (.exit 0,ce105 g (cellsF la) (cellsF lb) (cellsF la).length (cellsF la).length))
 |0,j,F,hj,hF=>by
  obtain ⟨F',rfl⟩:∃F',F=F'+1:=⟨F-1,by omega⟩;have hj':j=la.length:=by omega
  subst hj';have hn:=cellsF_length la;have h:run (callF tab ext M) 0 M (loopAt 165 0) (ch105 g (cellsF la) (cellsF lb) la.length la.length)=some (.exit 0,ce105 g (cellsF la) (cellsF lb) la.length la.length):=
   run_of [(14,.b false)] [] (pf1 (nlt_nat (qar la.length))) (lo':=[]) (by kernel_rfl)
  right;refine ⟨?_,by grind[iter_end,ch105_canon]⟩;rw [List.drop_length];by_cases hb:la.length<lb.length;·rw [if_pos hb,<-List.getElem_cons_drop hb];rfl
  rw [if_neg hb,List.drop_eq_nil_of_le (by omega)];rfl
 |d+1,j,F,hj,hF=>by
  obtain ⟨F',rfl⟩:∃F',F=F'+1:=⟨F-1,by omega⟩;have hn:=cellsF_length la;have hm:=cellsF_length lb;have hj':j<la.length:=by omega
  have hd:la.drop j=la[j]::la.drop (j+1):=by rw [<-List.getElem_cons_drop hj']
  have hg:=cellsF_get hj';have hma:=qal hj';rw [hd];generalize la[j]=a at hg hma;obtain ⟨a0,a1,a2,a3,a4,a5,a6⟩:=a;by_cases hb:j<lb.length
  ·have hdb:lb.drop j=lb[j]::lb.drop (j+1):=by rw [<-List.getElem_cons_drop hb]
   have hgb:=cellsF_get hb;have hmb:=qal hb;rw [hdb];generalize lb[j]=b at hgb hmb;obtain ⟨b0,b1,b2,b3,b4,b5,b6⟩:=b;have hc:=hr _ _ hma hmb;rw [lexC];by_cases h:r (a0,Val.mk a1 a2 a3 a4 a5 a6) (b0,Val.mk b1 b2 b3 b4 b5 b6)=0
   ·rw [if_pos h];have hs:∃bx,run (callF tab ext M) 0 M (loopAt 165 0) (ch105 g (cellsF la) (cellsF lb) (cellsF la).length j)=some (.norm,⟨(ch105 g (cellsF la) (cellsF lb) (cellsF la).length (j+1)).tm,bx⟩):=
     ⟨[.var (strX a0::(Val.mk a1 a2 a3 a4 a5 a6).cells),.var (strX b0::(Val.mk b1 b2 b3 b4 b5 b6).cells)],run_of [(14,.b true),(16,.e (strX a0::(Val.mk a1 a2 a3 a4 a5 a6).cells)),(21,.b false),(24,.e (strX b0::(Val.mk b1 b2 b3 b4 b5 b6).cells)),(29,.p (num (r (a0,Val.mk a1 a2 a3 a4 a5 a6) (b0,Val.mk b1 b2 b3 b4 b5 b6)))),(31,.b false),(33,.i (Int.ofNat (j+1)))] []
      (pf7 (lt_nat (j:=j) (k:=(cellsF la).length) (by omega)) hg (ge_false (j:=j) (k:=(cellsF lb).length) (by omega)) hgb hc (ne_false h) (next_nat (j:=j) (by omega))) (lo':=[]) (by kernel_rfl)⟩
    obtain ⟨bx,hs⟩:=hs;have hcn:canon 0 ⟨(ch105 g (cellsF la) (cellsF lb) (cellsF la).length (j+1)).tm,bx⟩=some (ch105 g (cellsF la) (cellsF lb) (cellsF la).length (j+1)):=by kernel_rfl
    have:=cmp105_loop M g la lb r hr hl d (j+1) F' (by omega) (by omega);have hi:iter 0 (run (callF tab ext M) 0 M (loopAt 165 0)) (F'+1) (ch105 g (cellsF la) (cellsF lb) (cellsF la).length j)=iter 0 (run (callF tab ext M) 0 M (loopAt 165 0)) F' (ch105 g (cellsF la) (cellsF lb) (cellsF la).length (j+1)):=
     (iter_step (ch105_canon _ _ _ _ _) hs rfl).trans (iter_canon hcn (ch105_canon _ _ _ _ _))
    grind
   rw [if_neg h];left;exact ⟨_,iter_end (ch105_canon _ _ _ _ _) (run_of [(14,.b true),(16,.e (strX a0::(Val.mk a1 a2 a3 a4 a5 a6).cells)),(21,.b false),(24,.e (strX b0::(Val.mk b1 b2 b3 b4 b5 b6).cells)),(29,.p (num (r (a0,Val.mk a1 a2 a3 a4 a5 a6) (b0,Val.mk b1 b2 b3 b4 b5 b6)))),(31,.b true)] []
     (pf6 (lt_nat (j:=j) (k:=(cellsF la).length) (by omega)) hg (ge_false (j:=j) (k:=(cellsF lb).length) (by omega)) hgb hc (ne_true h)) (lo':=[]) (σ':=⟨[(6,num (r (a0,Val.mk a1 a2 a3 a4 a5 a6) (b0,Val.mk b1 b2 b3 b4 b5 b6)))],[.var (strX a0::(Val.mk a1 a2 a3 a4 a5 a6).cells),.var (strX b0::(Val.mk b1 b2 b3 b4 b5 b6).cells)]⟩) (by kernel_rfl)) (by simp)⟩
  left;rw [List.drop_eq_nil_of_le (by omega:lb.length<=j),lexC];exact ⟨_,iter_end (ch105_canon _ _ _ _ _) (run_of [(14,.b true),(16,.e (strX a0::(Val.mk a1 a2 a3 a4 a5 a6).cells)),(21,.b true)] []
     (pf3 (lt_nat (j:=j) (k:=(cellsF la).length) (by omega)) hg (ge_true (j:=j) (k:=(cellsF lb).length) (by omega))) (lo':=[]) (σ':=⟨[(6,num 1)],[.var (strX a0::(Val.mk a1 a2 a3 a4 a5 a6).cells)]⟩) (by kernel_rfl)) (by simp)⟩
theorem cmp105_pure (M g:Nat)(la lb:List (qaW×Val))(r:(qaW×Val)->(qaW×Val)->Int)(hr:∀a b,a∈la->b∈lb->Gam.pureD (callF tab ext M) g [.agg (strX a.1::a.2.cells),.agg (strX b.1::b.2.cells)]=some (num (r a b)))(hl:la.length<4000000)(hN:la.length<M):
  Gam.pureD (callF tab ext (M+1)) 165 [.sl false 7 (cellsF la),.sl false 7 (cellsF lb),.fn g []]=some (num (lexC r la lb)):=by
 have hn:=cellsF_length la;have hm:=cellsF_length lb;rcases cmp105_loop M g la lb r hr hl la.length 0 M (by omega) hN with ⟨bx,h⟩|⟨h0,h⟩;·exact pure_of [] [(.ret,⟨[(6,num (lexC r la lb))],bx⟩)] (pf1 h) (x:=num (lexC r la lb)) (bx:=[]) (by kernel_rfl) rfl
 have h0':lexC r la lb=(if la.length<lb.length then -1 else 0):=h0;rw [h0'];by_cases hb:la.length<lb.length;·rw [if_pos hb];exact pure_of [(38,.b true)] [(.exit 0,ce105 g (cellsF la) (cellsF lb) (cellsF la).length (cellsF la).length)] (pf2 h (lt_nat (j:=(cellsF la).length) (k:=(cellsF lb).length) (by omega))) (x:=num (-1)) (bx:=[]) (by kernel_rfl) rfl
 rw [if_neg hb];exact pure_of [(38,.b false)] [(.exit 0,ce105 g (cellsF la) (cellsF lb) (cellsF la).length (cellsF la).length)] (pf2 h (nlt_nat (j:=(cellsF la).length) (k:=(cellsF lb).length) (by omega))) (x:=num 0) (bx:=[]) (by kernel_rfl) rfl
def cmpB (a b:qaW):Int:=Lib.compareBytes a.data.toList b.data.toList
mutual
def cmpV:Val->Val->Int
 |.mk k i s t l f,.mk k' i' s' t' l' f'=>orL [ordI k k',ordI i i',ordI s s',cmpB t t',cmpVL l l',cmpVF f f']
def cmpVL:List Val->List Val->Int
 |[],[]=>0
 |[],_::_=>-1
 |_::_,[]=>1
 |a::l,b::m=>if cmpV a b=0 then cmpVL l m else cmpV a b
def cmpVF:List (qaW×Val)->List (qaW×Val)->Int
 |[],[]=>0
 |[],_::_=>-1
 |_::_,[]=>1
 |(x,a)::l,(y,b)::m=>if orL [cmpB x y,cmpV a b]=0 then cmpVF l m else orL [cmpB x y,cmpV a b]
end
def cmpF (p q:qaW×Val):Int:=orL [cmpB p.1 q.1,cmpV p.2 q.2]
theorem cmpVL_eq:∀l m,cmpVL l m=lexC cmpV l m
 |[],[]=>rfl
 |[],_::_=>rfl
 |_::_,[]=>rfl
 |a::l,b::m=>by simp only [cmpVL,lexC,cmpVL_eq l m]
theorem cmpVF_eq:∀l m,cmpVF l m=lexC cmpF l m
 |[],[]=>rfl
 |[],_::_=>rfl
 |_::_,[]=>rfl
 |(x,a)::l,(y,b)::m=>by simp only [cmpVF,lexC,cmpF,cmpVF_eq l m];rfl
theorem cmp_str (N:Nat)(a b:qaW):Gam.pureD (callF tab ext (N+3)) 163 [strX a,strX b]=some (num (cmpB a b)):=by kernel_rfl
theorem cmp_val:∀(n N:Nat) (v w:Val),v.size<=n->3*n+12<=N->v.size<1000000->Gam.pureD (callF tab ext N) 113 [.agg v.cells,.agg w.cells]=some (num (cmpV v w))
 |0,_,.mk ..,_,h,_,_=>by grind[Val.size]
 |n+1,N,.mk k i s t l f,.mk k' i' s' t' l' f',h,hN,hs=>by
  obtain ⟨M,rfl⟩:∃M,N=M+12:=⟨N-12,by omega⟩;simp only [Val.size] at h hs;have hl:=sizeL_length l;have hf:=sizeF_length f;have h1:Gam.pureD (callF tab ext (M+11)) 164 [.sl false 6 (cellsL l),.sl false 6 (cellsL l'),.fn 113 []]=some (num (lexC cmpV l l')):=
   cmp104_pure (M+10) 113 l l' cmpV (fun a b ha _=>by have:=sizeL_mem ha;exact cmp_val n (M+10) a b (by omega) (by omega) (by omega)) (by omega) (by omega)
  have h2:Gam.pureD (callF tab ext (M+11)) 165 [.sl false 7 (cellsF f),.sl false 7 (cellsF f'),.fn 166 []]=some (num (lexC cmpF f f')):=
   cmp105_pure (M+10) 166 f f' cmpF (fun a b ha _=>by
    have:=sizeF_mem ha;have hv:=cmp_val n (M+9) a.2 b.2 (by omega) (by omega) (by omega);obtain ⟨a0,a1,a2,a3,a4,a5,a6⟩:=a;obtain ⟨b0,b1,b2,b3,b4,b5,b6⟩:=b;have ho:=or_pure (M+8) [cmpB a0 b0,cmpV (Val.mk a1 a2 a3 a4 a5 a6) (Val.mk b1 b2 b3 b4 b5 b6)] (by simp) (by simp);exact pure_of [(9,.p (num (cmpB a0 b0))),(14,.p (num (cmpV (Val.mk a1 a2 a3 a4 a5 a6) (Val.mk b1 b2 b3 b4 b5 b6)))),(16,.p (num (orL [cmpB a0 b0,cmpV (Val.mk a1 a2 a3 a4 a5 a6) (Val.mk b1 b2 b3 b4 b5 b6)])))] []
     (pf3 (cmp_str (M+6) a0 b0) hv ho) (x:=num (orL [cmpB a0 b0,cmpV (Val.mk a1 a2 a3 a4 a5 a6) (Val.mk b1 b2 b3 b4 b5 b6)])) (bx:=[]) (by kernel_rfl) rfl) (by omega) (by omega)
  have ho:=or_pure (M+10) [ordI k k',ordI i i',ordI s s',cmpB t t',lexC cmpV l l',lexC cmpF f f'] (by simp) (by simp);rw [cmpV,cmpVL_eq,cmpVF_eq];exact pure_of [(9,.p (num (ordI k k'))),(14,.p (num (ordI i i'))),(19,.p (num (ordI s s'))),(24,.p (num (cmpB t t'))),(29,.p (num (lexC cmpV l l'))),(34,.p (num (lexC cmpF f f'))),(36,.p (num (orL [ordI k k',ordI i i',ordI s s',cmpB t t',lexC cmpV l l',lexC cmpF f f'])))] []
   (pf7 (cmp_int (M+7) k k') (cmp_int (M+7) i i') (cmp_int (M+7) s s') (cmp_str (M+8) t t') h1 h2 ho) (x:=num (orL [ordI k k',ordI i i',ordI s s',cmpB t t',lexC cmpV l l',lexC cmpF f f'])) (bx:=[]) (by kernel_rfl) rfl
theorem ordI_refl (a:Int):ordI a a=0:=by simp [ordI]
theorem cmpB_refl (a:qaW):cmpB a a=0:=by
 unfold cmpB;induction a.data.toList with
 |nil=>rfl
 |cons x r ih=>grind[Lib.compareBytes]
theorem lexC_refl {α:Type}{r:α->α->Int}:∀{l:List α},(∀a,a∈l->r a a=0)->lexC r l l=0
 |[],_=>rfl
 |a::l,h=>by rw [lexC,if_pos (h a (by simp))];exact lexC_refl fun b hb=>h b (by grind)
mutual
theorem cmpV_refl:∀v,cmpV v v=0
 |.mk k i s t l f=>by simp only [cmpV,orL,ordI_refl,cmpB_refl,cmpVL_refl l,cmpVF_refl f,if_true]
theorem cmpVL_refl:∀l,cmpVL l l=0
 |[]=>rfl
 |a::l=>by simp only [cmpVL,cmpV_refl a,cmpVL_refl l,if_true]
theorem cmpVF_refl:∀l,cmpVF l l=0
 |[]=>rfl
 |(x,a)::l=>by simp only [cmpVF,orL,cmpB_refl,cmpV_refl a,cmpVF_refl l,if_true]
end
theorem eq_val (N:Nat)(v w:Val)(h:3*v.size+13<=N)(hs:v.size<1000000):Gam.pureD (callF tab ext N) 72 [.agg v.cells,.agg w.cells]=some (boolX (cmpV v w==0)):=by obtain ⟨M,rfl⟩:∃M,N=M+1:=⟨N-1,by omega⟩;have hc:=cmp_val v.size M v w (Nat.le_refl _) (by omega) hs;obtain ⟨k,i,s,t,l,f⟩:=v;obtain ⟨k',i',s',t',l',f'⟩:=w;exact pure_of [(7,.p (num (cmpV (Val.mk k i s t l f) (Val.mk k' i' s' t' l' f'))))] [] (pf1 hc) (x:=boolX (cmpV (Val.mk k i s t l f) (Val.mk k' i' s' t' l' f')==0)) (bx:=[]) (by kernel_rfl) rfl
structure Stp where
 e:Int
 p:List Int
def Stp.cells (s:Stp):List X:=[num s.e,.sl false 1 (intsC s.p)]
def cmpS (a b:Stp):Int:=orL [ordI a.e b.e,lexC ordI a.p b.p]
theorem cmp_stamp (N:Nat)(a b:Stp)(h:a.p.length+12<=N)(hs:a.p.length<1000000):Gam.pureD (callF tab ext N) 24 [.agg a.cells,.agg b.cells]=some (num (cmpS a b)):=by
 obtain ⟨M,rfl⟩:∃M,N=M+12:=⟨N-12,by omega⟩;obtain ⟨e,p⟩:=a;obtain ⟨e',p'⟩:=b;have h1:Gam.pureD (callF tab ext (M+11)) 68 [.sl false 1 (intsC p),.sl false 1 (intsC p'),.fn 69 []]=some (num (lexC ordI p p')):=
  cmp98_pure (M+10) 69 p p' ordI (fun x y _ _=>pure_of [(7,.p (num (ordI x y)))] [] (pf1 (cmp_int (M+5) x y)) (x:=num (ordI x y)) (bx:=[]) (by kernel_rfl) rfl) (by grind) (by grind)
 have ho:=or_pure (M+10) [ordI e e',lexC ordI p p'] (by simp) (by simp);exact pure_of [(9,.p (num (ordI e e'))),(14,.p (num (lexC ordI p p'))),(16,.p (num (cmpS ⟨e,p⟩ ⟨e',p'⟩)))] [] (pf3 (cmp_int (M+7) e e') h1 ho) (x:=num (cmpS ⟨e,p⟩ ⟨e',p'⟩)) (bx:=[]) (by kernel_rfl) rfl
theorem eq_stamp (N:Nat)(a b:Stp)(h:a.p.length+13<=N)(hs:a.p.length<1000000):Gam.pureD (callF tab ext N) 46 [.agg a.cells,.agg b.cells]=some (boolX (cmpS a b==0)):=by obtain ⟨M,rfl⟩:∃M,N=M+1:=⟨N-1,by omega⟩;have hc:=cmp_stamp M a b (by omega) hs;exact pure_of [(7,.p (num (cmpS a b)))] [] (pf1 hc) (x:=boolX (cmpS a b==0)) (bx:=[]) (by kernel_rfl) rfl
theorem cmpS_refl (a:Stp):cmpS a a=0:=by simp_all[cmpS,orL,ordI_refl,lexC_refl]
def eqL {α β:Type}(r:α->β->Bool):List α->List β->Bool
 |[],[]=>true
 |[],_::_=>false
 |_::_,[]=>false
 |a::la,b::lb=>r a b&&eqL r la lb
theorem eqL_len {α β:Type}{r:α->β->Bool}:∀{la:List α} {lb:List β},la.length≠lb.length->eqL r la lb=false
 |[],[],h=>absurd rfl h
 |[],_::_,_=>rfl
 |_::_,[],_=>rfl
 |a::la,b::lb,h=>by rw [eqL,eqL_len (la:=la) (lb:=lb) (by grind),Bool.and_false]
theorem eqL_refl {α:Type}{r:α->α->Bool}:∀{l:List α},(∀a,a∈l->r a a=true)->eqL r l l=true
 |[],_=>rfl
 |a::l,h=>by rw [eqL,h a (by simp),eqL_refl fun b hb=>h b (by grind)];rfl
theorem nat_ne_false {j k:Nat}(h:j=k):(!(Int.ofNat j==Int.ofNat k))=false:=by grind
theorem nat_ne_true {j k:Nat}(h:j≠k):(!(Int.ofNat j==Int.ofNat k))=true:=by grind
structure Msg where
 st:Stp
 mass:Int
 orig:List Int
 body:Val
def Msg.cells (m:Msg):List X:=num m.st.e::.sl false 1 (intsC m.st.p)::num m.mass::.sl false 1 (intsC m.orig)::m.body.cells
def msgsC (l:List Msg):qaV:=l.map Msg.cells
theorem msgsC_length (l:List Msg):(msgsC l).length=l.length:=by simp [msgsC]
theorem msgsC_get {l:List Msg}{j:Nat}(h:j<l.length):(msgsC l)[j]?=some l[j].cells:=by grind[msgsC]
structure Slt where
 key:Val
 n:Int
 t:Int
 items:List Msg
 vals:List Val
def slotC (k i s:Int)(tx:qaW)(l f:qaV)(n t:Int)(ms vs:qaV):List X:=[num k,num i,num s,strX tx,.sl false 6 l,.sl false 7 f,num n,num t,.sl false 10 ms,.sl false 6 vs]
def Slt.cells:Slt->List X
 |⟨.mk k i s tx l f,n,t,ms,vs⟩=>slotC k i s tx (cellsL l) (cellsF f) n t (msgsC ms) (cellsL vs)
def sltsC (l:List Slt):qaV:=l.map Slt.cells
theorem sltsC_length (l:List Slt):(sltsC l).length=l.length:=by simp [sltsC]
theorem sltsC_get {l:List Slt}{j:Nat}(h:j<l.length):(sltsC l)[j]?=some l[j].cells:=by grind[sltsC]
structure Stt where
 n:Int
 t:Int
 slots:List Slt
def Stt.cells (s:Stt):List X:=[num s.n,num s.t,.sl false 10 (sltsC s.slots)]
def stpsC (l:List Stp):qaV:=l.map Stp.cells
def eh84 (l m:qaV)(n j:Nat):St:=⟨[(0,.sl false 1 l),(1,.sl false 1 m),(12,nat n),(13,nat j)],[]⟩
def ee84 (l m:qaV)(n j:Nat):St:=⟨[(0,.sl false 1 l),(1,.sl false 1 m),(12,nat n),(13,nat j),(14,boolX false)],[]⟩
theorem eh84_canon (l m:qaV)(n j:Nat):canon 0 (eh84 l m n j)=some (eh84 l m n j):=by kernel_rfl
theorem eq84_loop (M:Nat)(la lb:List Int)(hlen:la.length=lb.length)(hl:la.length<1000000):∀d j F,j+d=la.length->d<F->
  (eqL (·==·) (la.drop j) (lb.drop j)=false/\∃bx,iter 0 (run (callF tab ext M) 0 M (loopAt 84 0)) F (eh84 (intsC la) (intsC lb) (intsC la).length j)=some (.ret,⟨[(4,boolX false)],bx⟩))\/
  (eqL (·==·) (la.drop j) (lb.drop j)=true/\iter 0 (run (callF tab ext M) 0 M (loopAt 84 0)) F (eh84 (intsC la) (intsC lb) (intsC la).length j)=some (.exit 0,ee84 (intsC la) (intsC lb) (intsC la).length (intsC la).length))
 |0,j,F,hj,hF=>by
  obtain ⟨F',rfl⟩:∃F',F=F'+1:=⟨F-1,by omega⟩;have hj':j=la.length:=by omega
  subst hj';have hn:=intsC_length la;have h:run (callF tab ext M) 0 M (loopAt 84 0) (eh84 (intsC la) (intsC lb) la.length la.length)=some (.exit 0,ee84 (intsC la) (intsC lb) la.length la.length):=
   run_of [(14,.b false)] [] (pf1 (nlt_nat (qar la.length))) (lo':=[]) (by kernel_rfl)
  right;refine ⟨?_,by grind[iter_end,eh84_canon]⟩;rw [List.drop_length,hlen,List.drop_length];rfl
 |d+1,j,F,hj,hF=>by
  obtain ⟨F',rfl⟩:∃F',F=F'+1:=⟨F-1,by omega⟩;have hn:=intsC_length la;have hj':j<la.length:=by omega
  have hb:j<lb.length:=by omega
  have hd:la.drop j=la[j]::la.drop (j+1):=by rw [<-List.getElem_cons_drop hj']
  have hdb:lb.drop j=lb[j]::lb.drop (j+1):=by rw [<-List.getElem_cons_drop hb]
  have hg:=intsC_get hj';have hgb:=intsC_get hb;rw [hd,hdb,eqL];generalize la[j]=a at hg;generalize lb[j]=b at hgb;by_cases h:a=b
  ·have hs:run (callF tab ext M) 0 M (loopAt 84 0) (eh84 (intsC la) (intsC lb) (intsC la).length j)=some (.norm,eh84 (intsC la) (intsC lb) (intsC la).length (j+1)):=
    run_of [(14,.b true),(18,.e [num a]),(22,.e [num b]),(24,.b false),(25,.i (Int.ofNat (j+1)))] []
     (pf5 (lt_nat (j:=j) (k:=(intsC la).length) (by omega)) hg hgb (show (!(a==b))=false by grind) (next_nat (j:=j) (by omega))) (lo':=[]) (by kernel_rfl)
   have hab:(a==b)=true:=by simp [h]
   rw [iter_step (eh84_canon _ _ _ _) hs rfl,hab,Bool.true_and];exact eq84_loop M la lb hlen hl d (j+1) F' (by omega) (by omega)
  left;have hab:(a==b)=false:=by simp [h]
  refine ⟨by grind,?_⟩;exact ⟨_,iter_end (eh84_canon _ _ _ _) (run_of [(14,.b true),(18,.e [num a]),(22,.e [num b]),(24,.b true)] []
    (pf4 (lt_nat (j:=j) (k:=(intsC la).length) (by omega)) hg hgb (show (!(a==b))=true by grind)) (lo':=[]) (σ':=⟨[(4,boolX false)],[]⟩) (by kernel_rfl)) (by simp)⟩
theorem eq84_pure (N:Nat)(la lb:List Int)(hl:la.length<1000000)(hN:la.length<N):
  Gam.pureD (callF tab ext (N+1)) 84 [.sl false 1 (intsC la),.sl false 1 (intsC lb)]=some (boolX (eqL (·==·) la lb)):=by
 have hn:=intsC_length la;have hm:=intsC_length lb;by_cases hlen:la.length=lb.length
 ·rcases eq84_loop N la lb hlen hl la.length 0 N (by omega) hN with ⟨h0,bx,h⟩|⟨h0,h⟩;·have h0':eqL (·==·) la lb=false:=h0;rw [h0'];exact pure_of [(10,.b false)] [(.ret,⟨[(4,boolX false)],bx⟩)] (pf2 (nat_ne_false (j:=(intsC la).length) (k:=(intsC lb).length) (by omega)) h) (x:=boolX false) (bx:=[]) (by kernel_rfl) rfl
  have h0':eqL (·==·) la lb=true:=h0;rw [h0'];exact pure_of [(10,.b false)] [(.exit 0,ee84 (intsC la) (intsC lb) (intsC la).length (intsC la).length)] (pf2 (nat_ne_false (j:=(intsC la).length) (k:=(intsC lb).length) (by omega)) h) (x:=boolX true) (bx:=[]) (by kernel_rfl) rfl
 rw [eqL_len hlen];exact pure_of [(10,.b true)] [] (pf1 (nat_ne_true (j:=(intsC la).length) (k:=(intsC lb).length) (by omega))) (x:=boolX false) (bx:=[]) (by kernel_rfl) rfl
section
variable (g:Nat) (l m:qaV) (n j:Nat)
end
section
variable (g:Nat) (l m:qaV) (n j:Nat)
end
section
variable (g:Nat) (l m:qaV) (n j:Nat)
end
section
variable (g:Nat) (l m:qaV) (n j:Nat)
def eh60:St:=⟨[(1,.sl false 10 m),(2,.fn g []),(15,.sl false 10 l),(16,nat n),(17,nat j)],[]⟩
def ee60:St:=⟨[(1,.sl false 10 m),(2,.fn g []),(15,.sl false 10 l),(16,nat n),(17,nat j),(18,boolX false)],[]⟩
theorem eh60_canon:canon 0 (eh60 g l m n j)=some (eh60 g l m n j):=by kernel_rfl
end
theorem eq60_loop (M g:Nat)(la lb:List Slt)(r:Slt->Slt->Bool)(hr:∀a b,a∈la->b∈lb->Gam.pureD (callF tab ext M) g [.agg a.cells,.agg b.cells]=some (boolX (r a b)))(hlen:la.length=lb.length)(hl:la.length<1000000):∀d j F,j+d=la.length->d<F->
  (eqL r (la.drop j) (lb.drop j)=false/\∃bx,iter 0 (run (callF tab ext M) 0 M (loopAt 80 0)) F (eh60 g (sltsC la) (sltsC lb) (sltsC la).length j)=some (.ret,⟨[(6,boolX false)],bx⟩))\/
  (eqL r (la.drop j) (lb.drop j)=true/\iter 0 (run (callF tab ext M) 0 M (loopAt 80 0)) F (eh60 g (sltsC la) (sltsC lb) (sltsC la).length j)=some (.exit 0,ee60 g (sltsC la) (sltsC lb) (sltsC la).length (sltsC la).length))
 |0,j,F,hj,hF=>by
  obtain ⟨F',rfl⟩:∃F',F=F'+1:=⟨F-1,by omega⟩;have hj':j=la.length:=by omega
  subst hj';have hn:=sltsC_length la;have h:run (callF tab ext M) 0 M (loopAt 80 0) (eh60 g (sltsC la) (sltsC lb) la.length la.length)=some (.exit 0,ee60 g (sltsC la) (sltsC lb) la.length la.length):=
   run_of [(18,.b false)] [] (pf1 (nlt_nat (qar la.length))) (lo':=[]) (by kernel_rfl)
  right;refine ⟨?_,by rw [hn];exact iter_end (eh60_canon _ _ _ _ _) h (by simp)⟩;rw [List.drop_length,hlen,List.drop_length];rfl
 |d+1,j,F,hj,hF=>by
  obtain ⟨F',rfl⟩:∃F',F=F'+1:=⟨F-1,by omega⟩;have hn:=sltsC_length la;have hj':j<la.length:=by omega
  have hb:j<lb.length:=by omega
  have hd:la.drop j=la[j]::la.drop (j+1):=by rw [<-List.getElem_cons_drop hj']
  have hdb:lb.drop j=lb[j]::lb.drop (j+1):=by rw [<-List.getElem_cons_drop hb]
  have hg:=sltsC_get hj';have hgb:=sltsC_get hb;have hc:=hr _ _ (qal hj') (qal hb);rw [hd,hdb,eqL];generalize la[j]=a at hg hc;generalize lb[j]=b at hgb hc;obtain ⟨⟨a1,a2,a3,a4,a5,a6⟩,a7,a8,a9,a0⟩:=a;obtain ⟨⟨b1,b2,b3,b4,b5,b6⟩,b7,b8,b9,b0⟩:=b;cases h:r (Slt.mk (Val.mk a1 a2 a3 a4 a5 a6) a7 a8 a9 a0) (Slt.mk (Val.mk b1 b2 b3 b4 b5 b6) b7 b8 b9 b0) with
  |true=>
   rw [h] at hc;have hs:∃bx,run (callF tab ext M) 0 M (loopAt 80 0) (eh60 g (sltsC la) (sltsC lb) (sltsC la).length j)=some (.norm,⟨(eh60 g (sltsC la) (sltsC lb) (sltsC la).length (j+1)).tm,bx⟩):=
    ⟨[.var (Slt.mk (Val.mk a1 a2 a3 a4 a5 a6) a7 a8 a9 a0).cells,.var (Slt.mk (Val.mk b1 b2 b3 b4 b5 b6) b7 b8 b9 b0).cells],run_of [(18,.b true),(20,.e (Slt.mk (Val.mk a1 a2 a3 a4 a5 a6) a7 a8 a9 a0).cells),(24,.e (Slt.mk (Val.mk b1 b2 b3 b4 b5 b6) b7 b8 b9 b0).cells),(29,.p (boolX true)),(31,.i (Int.ofNat (j+1)))] []
     (pf5 (lt_nat (j:=j) (k:=(sltsC la).length) (by omega)) hg hgb hc (next_nat (j:=j) (by omega))) (lo':=[]) (by kernel_rfl)⟩
   obtain ⟨bx,hs⟩:=hs;have hcn:canon 0 ⟨(eh60 g (sltsC la) (sltsC lb) (sltsC la).length (j+1)).tm,bx⟩=some (eh60 g (sltsC la) (sltsC lb) (sltsC la).length (j+1)):=by kernel_rfl
   rw [(iter_step (eh60_canon _ _ _ _ _) hs rfl).trans (iter_canon hcn (eh60_canon _ _ _ _ _)),Bool.true_and];exact eq60_loop M g la lb r hr hlen hl d (j+1) F' (by omega) (by omega)
  |false=>
   rw [h] at hc;left;refine ⟨by rw [Bool.false_and],?_⟩;exact ⟨_,iter_end (eh60_canon _ _ _ _ _) (run_of [(18,.b true),(20,.e (Slt.mk (Val.mk a1 a2 a3 a4 a5 a6) a7 a8 a9 a0).cells),(24,.e (Slt.mk (Val.mk b1 b2 b3 b4 b5 b6) b7 b8 b9 b0).cells),(29,.p (boolX false))] []
     (pf4 (lt_nat (j:=j) (k:=(sltsC la).length) (by omega)) hg hgb hc) (lo':=[]) (σ':=⟨[(6,boolX false)],[.var (Slt.mk (Val.mk a1 a2 a3 a4 a5 a6) a7 a8 a9 a0).cells,.var (Slt.mk (Val.mk b1 b2 b3 b4 b5 b6) b7 b8 b9 b0).cells]⟩) (by kernel_rfl)) (by simp)⟩
theorem eq60_pure (M g:Nat)(la lb:List Slt)(r:Slt->Slt->Bool)(hr:∀a b,a∈la->b∈lb->Gam.pureD (callF tab ext M) g [.agg a.cells,.agg b.cells]=some (boolX (r a b)))(hl:la.length<1000000)(hN:la.length<M):
  Gam.pureD (callF tab ext (M+1)) 80 [.sl false 10 (sltsC la),.sl false 10 (sltsC lb),.fn g []]=some (boolX (eqL r la lb)):=by
 have hn:=sltsC_length la;have hm:=sltsC_length lb;by_cases hlen:la.length=lb.length
 ·rcases eq60_loop M g la lb r hr hlen hl la.length 0 M (by omega) hN with ⟨h0,bx,h⟩|⟨h0,h⟩;·have h0':eqL r la lb=false:=h0;rw [h0'];exact pure_of [(14,.b false)] [(.ret,⟨[(6,boolX false)],bx⟩)] (pf2 (nat_ne_false (j:=(sltsC la).length) (k:=(sltsC lb).length) (by omega)) h) (x:=boolX false) (bx:=[]) (by kernel_rfl) rfl
  have h0':eqL r la lb=true:=h0;rw [h0'];exact pure_of [(14,.b false)] [(.exit 0,ee60 g (sltsC la) (sltsC lb) (sltsC la).length (sltsC la).length)] (pf2 (nat_ne_false (j:=(sltsC la).length) (k:=(sltsC lb).length) (by omega)) h) (x:=boolX true) (bx:=[]) (by kernel_rfl) rfl
 rw [eqL_len hlen];exact pure_of [(14,.b true)] [] (pf1 (nat_ne_true (j:=(sltsC la).length) (k:=(sltsC lb).length) (by omega))) (x:=boolX false) (bx:=[]) (by kernel_rfl) rfl
structure Otp where
 port:Int
 m:Msg
def Otp.cells (o:Otp):List X:=num o.port::o.m.cells
def otpsC (l:List Otp):qaV:=l.map Otp.cells
structure Fte where
 st:Stp
 kind:Int
 node:qaW
 into:List Stp
 text:qaW
def Fte.cells (f:Fte):List X:=[num f.st.e,.sl false 1 (intsC f.st.p),num f.kind,strX f.node,.sl false 2 (stpsC f.into),strX f.text]
def ftesC (l:List Fte):qaV:=l.map Fte.cells
structure Ocm where
 s:Stt
 outs:List Otp
 fates:List Fte
 letters:List Msg
def Ocm.cells (o:Ocm):List X:=[num o.s.n,num o.s.t,.sl false 10 (sltsC o.s.slots),.sl false 11 (otpsC o.outs),.sl false 11 [],.sl false 6 (ftesC o.fates),.sl false 10 (msgsC o.letters)]
def Val.ok (v:Val):Prop:=v.size<=60000
structure Stp.ok (s:Stp):Prop where
 p:s.p.length<=60000
structure Msg.ok (m:Msg):Prop where
 st:m.st.ok
 orig:m.orig.length<=60000
 body:m.body.ok
structure Slt.ok (s:Slt):Prop where
 key:s.key.ok
 items:s.items.length<=60000
 item:∀m,m∈s.items->m.ok
 vals:s.vals.length<=60000
 val:∀v,v∈s.vals->v.ok
structure Stt.ok (s:Stt):Prop where
 slots:s.slots.length<=60000
 slot:∀x,x∈s.slots->x.ok
section
variable (l m:qaV) (j:Nat)
end
section
variable (l m:qaV) (j:Nat)
end
section
variable (a:List X) (z:qaV) (j:Nat)
end
theorem intsOf_intsC:∀l:List Int,intsOf (intsC l)=some l
 |[]=>rfl
 |x::l=>by
  have h:=intsOf_intsC l;show (match intsOf (intsC l) with
   |some l=>some (x::l)
   |none=>none)=some (x::l)
  rw [h]
theorem clone_row (N:Nat)(l:List Int)(hl:l.length<=60000):callF tab ext (N+1) (.fn 86) [.sl false 1 (intsC l)] []=some (.bs 0 0 l.length,[.row 1 (intsC l)]):=by show cloneExt [.sl false 1 (intsC l)] []=_;unfold cloneExt;simp only [intsOf_intsC,if_pos (show l.length<=1000000 by omega)];rfl
theorem clone_ints (N:Nat)(l:List Int)(hl:l.length<=60000):Gam.pureD (callF tab ext (N+1)) 86 [.sl false 1 (intsC l)]=some (.sl false 1 (intsC l)):=by simp_all[Gam.pureD,clone_row,X.data,rowOf,intsC_length,List.take_of_length_le]
theorem clone_stamp (N:Nat)(s:Stp)(h:s.ok):Gam.pureD (callF tab ext (N+2)) 111 [.agg s.cells]=some (.agg s.cells):=
 pure_of [(7,.p (.sl false 1 (intsC s.p)))] [] (pf1 (clone_ints N s.p h.p)) (x:=.agg s.cells) (bx:=[]) (by kernel_rfl) rfl
theorem clone_msg (N:Nat)(m:Msg)(h:m.ok)(hN:190001<=N):Gam.pureD (callF tab ext N) 64 [.agg m.cells]=some (.agg m.cells):=by obtain ⟨M,rfl⟩:∃M,N=M+3:=⟨N-3,by omega⟩;have h1:=clone_stamp M m.st h.st;have h2:=clone_ints (M+1) m.orig h.orig;have hb:=h.body;unfold Val.ok at hb;have h3:=clone_val (M+2) m.body (by omega) (by omega);obtain ⟨⟨a1,a2⟩,a3,a4,a5,a6,a7,a8,a9,a0⟩:=m;exact pure_of [(5,.p (.agg (Stp.mk a1 a2).cells)),(10,.p (.sl false 1 (intsC a4))),(13,.p (.agg (Val.mk a5 a6 a7 a8 a9 a0).cells))] [] (pf3 h1 h2 h3) (x:=.agg (Msg.mk ⟨a1,a2⟩ a3 a4 (Val.mk a5 a6 a7 a8 a9 a0)).cells) (bx:=[]) (by kernel_rfl) rfl
section
variable (s items acc vals accV:qaV) (n m k j:Nat)
variable (k0 i0 s0:Int) (t0:qaW) (l0 f0:qaV) (n0 d0:Int) (x:List X)
end
def zState:List X:=[num 0,num 0,.sl true 10 []]
section
variable (a b:Int) (l acc:qaV) (n j:Nat) (x:List X)
end
theorem bad_index (x:Int):∃b:Bool,∀N,Gam.pureD (callF tab ext (N+2)) 381 [num x]=some (boolX b):=by
 cases h1:decide (x<0) with
 |true=>exact ⟨true,fun N=>pure_of [(4,.b true)] [] (pf1 h1) (x:=boolX true) (bx:=[]) (by kernel_rfl) rfl⟩
 |false=>
  cases h2:decide (65535<x) with
  |true=>exact ⟨true,fun N=>pure_of [(4,.b false),(7,.b true)] [] (pf2 h1 h2) (x:=boolX true) (bx:=[]) (by kernel_rfl) rfl⟩
  |false=>exact ⟨false,fun N=>pure_of [(4,.b false),(7,.b false)] [] (pf2 h1 h2) (x:=boolX false) (bx:=[]) (by kernel_rfl) rfl⟩
theorem heavy_ok (x:Int):∃b:Bool,∀N,Gam.pureD (callF tab ext (N+2)) 263 [num x]=some (boolX b):=by
 cases h1:decide (x<0) with
 |true=>exact ⟨true,fun N=>pure_of [(4,.b true)] [] (pf1 h1) (x:=boolX true) (bx:=[]) (by kernel_rfl) rfl⟩
 |false=>
  cases h2:decide (1099511627776<x) with
  |true=>exact ⟨true,fun N=>pure_of [(4,.b false),(7,.b true)] [] (pf2 h1 h2) (x:=boolX true) (bx:=[]) (by kernel_rfl) rfl⟩
  |false=>exact ⟨false,fun N=>pure_of [(4,.b false),(7,.b false)] [] (pf2 h1 h2) (x:=boolX false) (bx:=[]) (by kernel_rfl) rfl⟩
theorem entry_ok (x:Int):∃b:Bool,∀N,Gam.pureD (callF tab ext (N+2)) 312 [num x]=some (boolX b):=by
 cases h1:decide (1<=x) with
 |true=>
  cases h2:decide (x<=1048576) with
  |true=>exact ⟨true,fun N=>pure_of [(4,.b true),(7,.b true)] [] (pf2 h1 h2) (x:=boolX true) (bx:=[]) (by kernel_rfl) rfl⟩
  |false=>exact ⟨false,fun N=>pure_of [(4,.b true),(7,.b false)] [] (pf2 h1 h2) (x:=boolX false) (bx:=[]) (by kernel_rfl) rfl⟩
 |false=>exact ⟨false,fun N=>pure_of [(4,.b false)] [] (pf1 h1) (x:=boolX false) (bx:=[]) (by kernel_rfl) rfl⟩
def ixH (l:qaV)(n j:Nat):St:=⟨[(0,.sl false 1 l),(1,.fn 381 []),(7,nat n),(8,nat j)],[]⟩
theorem ix_canon (l:qaV)(n j:Nat):canon 0 (ixH l n j)=some (ixH l n j):=by kernel_rfl
theorem index_loop (l:List Int)(hl:l.length<=60000):∀d j,j+d=l.length->∃(e:Ex) (fin:St),e≠.norm/\((∃k:Nat,e=.ret/\fin=⟨[(4,nat k)],[]⟩)\/(e=.exit 0/\fin=⟨[(0,.sl false 1 (intsC l)),(1,.fn 381 []),(7,nat (intsC l).length),(8,nat (intsC l).length),(9,boolX false)],[]⟩))/\
  ∀M F,d<F->iter 0 (run (callF tab ext (M+2)) 0 (M+2) (loopAt 451 0)) F (ixH (intsC l) (intsC l).length j)=some (e,fin)
 |0,j,hj=>by
  have hn:=intsC_length l;have hj':j=(intsC l).length:=by omega
  subst hj';refine ⟨.exit 0,_,by simp,.inr ⟨rfl,rfl⟩,fun M F hF=>?_⟩;obtain ⟨F',rfl⟩:∃F',F=F'+1:=⟨F-1,by omega⟩;exact iter_end (ix_canon _ _ _) (run_of [(9,.b false)] [] (pf1 (nlt_nat (qar (intsC l).length))) (lo':=[]) (by kernel_rfl)) (by simp)
 |d+1,j,hj=>by
  have hn:=intsC_length l;have hj':j<l.length:=by omega
  have hg:=intsC_get hj';generalize l[j]=x at hg;obtain ⟨b,hb⟩:=bad_index x;cases b with
  |true=>refine ⟨.ret,⟨[(4,nat j)],[]⟩,by simp,.inl ⟨j,rfl,rfl⟩,fun M F hF=>?_⟩;obtain ⟨F',rfl⟩:∃F',F=F'+1:=⟨F-1,by omega⟩;exact iter_end (ix_canon _ _ _) (run_of [(9,.b true),(14,.e [num x]),(16,.p (boolX true))] [] (pf3 (lt_nat (j:=j) (k:=(intsC l).length) (by omega)) hg (hb M)) (lo':=[]) (by kernel_rfl)) (by simp)
  |false=>
   obtain ⟨e,fin,hne,hc,h⟩:=index_loop l hl d (j+1) (by omega);refine ⟨e,fin,hne,hc,fun M F hF=>?_⟩;obtain ⟨F',rfl⟩:∃F',F=F'+1:=⟨F-1,by omega⟩;have hs:run (callF tab ext (M+2)) 0 (M+2) (loopAt 451 0) (ixH (intsC l) (intsC l).length j)=some (.norm,ixH (intsC l) (intsC l).length (j+1)):=
    run_of [(9,.b true),(14,.e [num x]),(16,.p (boolX false)),(18,.i (Int.ofNat (j+1)))] [] (pf4 (lt_nat (j:=j) (k:=(intsC l).length) (by omega)) hg (hb M) (next_nat (j:=j) (by omega))) (lo':=[]) (by kernel_rfl)
   rw [iter_step (ix_canon _ _ _) hs rfl];exact h M F' (by omega)
theorem index_ok (l:List Int)(hl:l.length<=60000):∃c:Int,∀M,l.length<M->Gam.pureD (callF tab ext (M+3)) 451 [.sl false 1 (intsC l),.fn 381 []]=some (num c):=by
 obtain ⟨e,fin,hne,hc,h⟩:=index_loop l hl l.length 0 (by omega);rcases hc with ⟨k,rfl,rfl⟩|⟨rfl,rfl⟩;·exact ⟨Int.ofNat k,fun M hM=>pure_of [] [(.ret,⟨[(4,nat k)],[]⟩)] (pf1 (h M (M+2) (by omega))) (x:=nat k) (bx:=[]) (by kernel_rfl) rfl⟩
 exact ⟨-1,fun M hM=>pure_of [] [(.exit 0,⟨[(0,.sl false 1 (intsC l)),(1,.fn 381 []),(7,nat (intsC l).length),(8,nat (intsC l).length),(9,boolX false)],[]⟩)] (pf1 (h M (M+2) (by omega))) (x:=num (-1)) (bx:=[]) (by kernel_rfl) rfl⟩
theorem contains_ok (l:List Int)(hl:l.length<=60000):∃b:Bool,∀M,l.length<M->Gam.pureD (callF tab ext (M+4)) 380 [.sl false 1 (intsC l),.fn 381 []]=some (boolX b):=by obtain ⟨c,h⟩:=index_ok l hl;exact ⟨decide (0<=c),fun M hM=>pure_of [(7,.p (num c))] [] (pf1 (h M hM)) (x:=boolX (decide (0<=c))) (bx:=[]) (by kernel_rfl) rfl⟩
theorem first_int (h:(Int.ofNat (intsC p).length==0)=false):∃x:Int,(intsC p)[0]?=some [num x]:=by
 cases p with
 |nil=>simp [intsC] at h
 |cons x r=>exact ⟨x,rfl⟩
theorem second_int (h:(Int.ofNat (intsC p).length==0)=false)(h':(Int.ofNat (intsC p).length==1)=false):∃x:Int,(intsC p)[1]?=some [num x]:=by
 match p,h,h' with
 |[],h,_=>simp [intsC] at h
 |[_],_,h'=>simp [intsC] at h'
 |_::y::r,_,_=>exact ⟨y,rfl⟩
def Comes (B:Nat)(f:FuncId)(args:List X):Prop:=∃c:Int,∀N,B<=N->Gam.pureD (callF tab ext N) f args=some (num c)
def ComesB (B:Nat)(f:FuncId)(args:List X):Prop:=∃c:Bool,∀N,B<=N->Gam.pureD (callF tab ext N) f args=some (boolX c)
theorem comes_succ {f:FuncId}(h:∃c:Int,∀N,B<=N->Gam.pureD (callF tab ext (N+1)) f args=some (num c)):Comes (B+1) f args:=by obtain ⟨c,h⟩:=h;refine ⟨c,fun N hN=>?_⟩;obtain ⟨M,rfl⟩:∃M,N=M+1:=⟨N-1,by omega⟩;exact h M (by omega)
theorem comesB_succ {f:FuncId}(h:∃c:Bool,∀N,B<=N->Gam.pureD (callF tab ext (N+1)) f args=some (boolX c)):ComesB (B+1) f args:=by obtain ⟨c,h⟩:=h;refine ⟨c,fun N hN=>?_⟩;obtain ⟨M,rfl⟩:∃M,N=M+1:=⟨N-1,by omega⟩<;>simp_all
theorem contains_comes (l:List Int)(hl:l.length<=60000):ComesB 60005 380 [.sl false 1 (intsC l),.fn 381 []]:=by obtain ⟨b,hb⟩:=contains_ok l hl;refine ⟨b,fun N hN=>?_⟩;obtain ⟨M,rfl⟩:∃M,N=M+4:=⟨N-4,by omega⟩;exact hb M (by omega)
theorem heavy_comes (x:Int):ComesB 2 263 [num x]:=by obtain ⟨b,hb⟩:=heavy_ok x;refine ⟨b,fun N hN=>?_⟩;obtain ⟨M,rfl⟩:∃M,N=M+2:=⟨N-2,by omega⟩;exact hb M
theorem entry_comes (x:Int):ComesB 2 312 [num x]:=by obtain ⟨b,hb⟩:=entry_ok x;refine ⟨b,fun N hN=>?_⟩;obtain ⟨M,rfl⟩:∃M,N=M+2:=⟨N-2,by omega⟩;exact hb M
theorem stamp_comes (s:Stp)(h:s.ok):Comes 60006 311 [.agg s.cells]:=by
 obtain ⟨b,hb⟩:=contains_comes s.p h.p;have hp:=h.p;obtain ⟨e,p⟩:=s;dsimp only at hp hb;apply comes_succ;cases h1:decide (e<1) with
 |true=>exact ⟨2,fun N hN=>pure_of [(6,.b true)] [] (pf1 h1) (x:=num 2) (bx:=[]) (by kernel_rfl) rfl⟩
 |false=>
  cases h2:decide (1048576<e) with
  |true=>exact ⟨2,fun N hN=>pure_of [(6,.b false),(10,.b true)] [] (pf2 h1 h2) (x:=num 2) (bx:=[]) (by kernel_rfl) rfl⟩
  |false=>
   cases h3:(Int.ofNat (intsC p).length==0) with
   |true=>exact ⟨4,fun N hN=>pure_of [(6,.b false),(10,.b false),(16,.b true)] [] (pf3 h1 h2 h3) (x:=num 4) (bx:=[]) (by kernel_rfl) rfl⟩
   |false=>
    cases h4:decide (512<Int.ofNat (intsC p).length) with
    |true=>exact ⟨9,fun N hN=>pure_of [(6,.b false),(10,.b false),(16,.b false),(21,.b true)] [] (pf4 h1 h2 h3 h4) (x:=num 9) (bx:=[]) (by kernel_rfl) rfl⟩
    |false=>
     cases b with
     |true=>exact ⟨2,fun N hN=>pure_of [(6,.b false),(10,.b false),(16,.b false),(21,.b false),(25,.p (boolX true))] [] (pf5 h1 h2 h3 h4 (hb N hN)) (x:=num 2) (bx:=[]) (by kernel_rfl) rfl⟩
     |false=>
      obtain ⟨x,hx⟩:=first_int h3;cases h5:decide (1<x) with
      |true=>exact ⟨11,fun N hN=>pure_of [(6,.b false),(10,.b false),(16,.b false),(21,.b false),(25,.p (boolX false)),(29,.e [num x]),(31,.b true)] [] (pf7 h1 h2 h3 h4 (hb N hN) hx h5) (x:=num 11) (bx:=[]) (by kernel_rfl) rfl⟩
      |false=>
       cases h6:(x==1) with
       |true=>exact ⟨0,fun N hN=>pure_of [(6,.b false),(10,.b false),(16,.b false),(21,.b false),(25,.p (boolX false)),(29,.e [num x]),(31,.b false),(35,.e [num x]),(37,.b true)] [] (pf9 h1 h2 h3 h4 (hb N hN) hx h5 hx h6) (x:=num 0) (bx:=[]) (by kernel_rfl) rfl⟩
       |false=>
        cases h7:(Int.ofNat (intsC p).length==1) with
        |true=>exact ⟨4,fun N hN=>pure_of [(6,.b false),(10,.b false),(16,.b false),(21,.b false),(25,.p (boolX false)),(29,.e [num x]),(31,.b false),(35,.e [num x]),(37,.b false),(42,.b true)] [] (pf10 h1 h2 h3 h4 (hb N hN) hx h5 hx h6 h7) (x:=num 4) (bx:=[]) (by kernel_rfl) rfl⟩
        |false=>
         obtain ⟨y,hy⟩:=second_int h3 (p:=p) (by assumption);cases h8:decide (128<=y) with
         |true=>exact ⟨2,fun N hN=>pure_of [(6,.b false),(10,.b false),(16,.b false),(21,.b false),(25,.p (boolX false)),(29,.e [num x]),(31,.b false),(35,.e [num x]),(37,.b false),(42,.b false),(46,.e [num y]),(48,.b true)] [] (pf12 h1 h2 h3 h4 (hb N hN) hx h5 hx h6 h7 hy h8) (x:=num 2) (bx:=[]) (by kernel_rfl) rfl⟩
         |false=>exact ⟨0,fun N hN=>pure_of [(6,.b false),(10,.b false),(16,.b false),(21,.b false),(25,.p (boolX false)),(29,.e [num x]),(31,.b false),(35,.e [num x]),(37,.b false),(42,.b false),(46,.e [num y]),(48,.b false)] [] (pf12 h1 h2 h3 h4 (hb N hN) hx h5 hx h6 h7 hy h8) (x:=num 0) (bx:=[]) (by kernel_rfl) rfl⟩
def ComesE (B:Nat)(f:FuncId)(args:List X):Prop:=∃c:Int,(0<=c/\c<=100)/\∀N,B<=N->Gam.pureD (callF tab ext N) f args=some (num c)
theorem comesE_succ {f:FuncId}(h:∃c:Int,(0<=c/\c<=100)/\∀N,B<=N->Gam.pureD (callF tab ext (N+1)) f args=some (num c)):ComesE (B+1) f args:=by obtain ⟨c,cr,h⟩:=h;refine ⟨c,cr,fun N hN=>?_⟩;obtain ⟨M,rfl⟩:∃M,N=M+1:=⟨N-1,by omega⟩<;>simp_all
theorem scan {b:C}{H:Nat->St}{e:Ex}{fin τ:St}{n B:Nat}(good:St->Prop)(h0:canon 0 τ=some (H 0))
  (hstep:∀j,j<n->(∃r,good r/\∀M,B<=M->run (callF tab ext M) 0 M b (H j)=some (.ret,r))\/(∃υ,canon 0 υ=some (H (j+1))/\∀M,B<=M->run (callF tab ext M) 0 M b (H j)=some (.norm,υ)))
  (hend:∀M,B<=M->run (callF tab ext M) 0 M b (H n)=some (e,fin)) (hne:e≠.norm):
  (∃r,good r/\∀M,B<=M->n<M->run (callF tab ext M) 0 M (.loop b) τ=some (.ret,r))\/(∀M,B<=M->n<M->run (callF tab ext M) 0 M (.loop b) τ=some (e,fin)):=by
 have key:∀d j,j+d=n->(∃r,good r/\∀M F υ,B<=M->d<F->canon 0 υ=some (H j)->iter 0 (run (callF tab ext M) 0 M b) F υ=some (.ret,r))\/(∀M F υ,B<=M->d<F->canon 0 υ=some (H j)->iter 0 (run (callF tab ext M) 0 M b) F υ=some (e,fin)):=by
  intro d;induction d with
  |zero=>
   intro j hj;have hjn:j=n:=by omega
   subst hjn;right;intro M F υ hM hF hc;obtain ⟨F',rfl⟩:∃F',F=F'+1:=⟨F-1,by omega⟩
   grind[iter_end]
  |succ d ih=>
   intro j hj;rcases hstep j (by omega) with ⟨r,hr,h⟩|⟨ω,hω,h⟩
   ·left;refine ⟨r,hr,fun M F υ hM hF hc=>?_⟩;obtain ⟨F',rfl⟩:∃F',F=F'+1:=⟨F-1,by omega⟩
    grind[iter_end]
   rcases ih (j+1) (by omega) with ⟨r,hr,h'⟩|h';·left;refine ⟨r,hr,fun M F υ hM hF hc=>?_⟩;obtain ⟨F',rfl⟩:∃F',F=F'+1:=⟨F-1,by omega⟩<;>simp_all[iter_step]
   right;intro M F υ hM hF hc;obtain ⟨F',rfl⟩:∃F',F=F'+1:=⟨F-1,by omega⟩<;>simp_all[iter_step]
 grind[run]
def nullV:Val->Bool
 |.mk k i s t l f=>(k==0)&&((i==0)&&((s==0)&&((t.toList==(⟨#[]⟩:qaW).toList)&&((Int.ofNat (cellsL l).length==0)&&(Int.ofNat (cellsF f).length==0)))))
theorem null_val (N:Nat)(v:Val):Gam.pureD (callF tab ext (N+1)) 159 [.agg v.cells]=some (boolX (nullV v)):=by
 obtain ⟨k,i,s,t,l,f⟩:=v;cases h1:(k==0) with
 |true=>
  cases h2:(i==0) with
  |true=>
   cases h3:(s==0) with
   |true=>
    cases h4:(t.toList==(⟨#[]⟩:qaW).toList) with
    |true=>
     cases h5:(Int.ofNat (cellsL l).length==0) with
     |true=>
      cases h6:(Int.ofNat (cellsF f).length==0) with
      |true=>rw [show nullV (Val.mk k i s t l f)=true from by grind[nullV]];exact pure_of [(5,.b true),(9,.b true),(14,.b true),(19,.b true),(25,.b true),(31,.b true)] [] (pf6 h1 h2 h3 h4 h5 h6) (x:=boolX true) (bx:=[]) (by kernel_rfl) rfl
      |false=>rw [show nullV (Val.mk k i s t l f)=false from by grind[nullV]];exact pure_of [(5,.b true),(9,.b true),(14,.b true),(19,.b true),(25,.b true),(31,.b false)] [] (pf6 h1 h2 h3 h4 h5 h6) (x:=boolX false) (bx:=[]) (by kernel_rfl) rfl
     |false=>rw [show nullV (Val.mk k i s t l f)=false from by grind[nullV]];exact pure_of [(5,.b true),(9,.b true),(14,.b true),(19,.b true),(25,.b false)] [] (pf5 h1 h2 h3 h4 h5) (x:=boolX false) (bx:=[]) (by kernel_rfl) rfl
    |false=>rw [show nullV (Val.mk k i s t l f)=false from by grind[nullV]];exact pure_of [(5,.b true),(9,.b true),(14,.b true),(19,.b false)] [] (pf4 h1 h2 h3 h4) (x:=boolX false) (bx:=[]) (by kernel_rfl) rfl
   |false=>rw [show nullV (Val.mk k i s t l f)=false from by grind[nullV]];exact pure_of [(5,.b true),(9,.b true),(14,.b false)] [] (pf3 h1 h2 h3) (x:=boolX false) (bx:=[]) (by kernel_rfl) rfl
  |false=>rw [show nullV (Val.mk k i s t l f)=false from by grind[nullV]];exact pure_of [(5,.b true),(9,.b false)] [] (pf2 h1 h2) (x:=boolX false) (bx:=[]) (by kernel_rfl) rfl
 |false=>rw [show nullV (Val.mk k i s t l f)=false from by grind[nullV]];exact pure_of [(5,.b false)] [] (pf1 h1) (x:=boolX false) (bx:=[]) (by kernel_rfl) rfl
theorem uses1 (i s:Int)(t:qaW)(l:List Val)(f:List (qaW×Val)):ComesB 2 232 [.agg (Val.mk 1 i s t l f).cells]:=by
 apply comesB_succ;cases h1:(s==0) with
 |true=>
  cases h2:(t.toList==(⟨#[]⟩:qaW).toList) with
  |true=>
   cases h3:(Int.ofNat (cellsL l).length==0) with
   |true=>
    cases h4:(Int.ofNat (cellsF f).length==0) with
    |true=>exact ⟨true,fun N hN=>pure_of [(63,.b true),(71,.b true),(80,.b true),(91,.b true)] [] (pf4 h1 h2 h3 h4) (x:=boolX true) (bx:=[]) (by kernel_rfl) rfl⟩
    |false=>exact ⟨false,fun N hN=>pure_of [(63,.b true),(71,.b true),(80,.b true),(91,.b false)] [] (pf4 h1 h2 h3 h4) (x:=boolX false) (bx:=[]) (by kernel_rfl) rfl⟩
   |false=>exact ⟨false,fun N hN=>pure_of [(63,.b true),(71,.b true),(80,.b false)] [] (pf3 h1 h2 h3) (x:=boolX false) (bx:=[]) (by kernel_rfl) rfl⟩
  |false=>exact ⟨false,fun N hN=>pure_of [(63,.b true),(71,.b false)] [] (pf2 h1 h2) (x:=boolX false) (bx:=[]) (by kernel_rfl) rfl⟩
 |false=>exact ⟨false,fun N hN=>pure_of [(63,.b false)] [] (pf1 h1) (x:=boolX false) (bx:=[]) (by kernel_rfl) rfl⟩
theorem uses2 (i s:Int)(t:qaW)(l:List Val)(f:List (qaW×Val)):ComesB 2 232 [.agg (Val.mk 2 i s t l f).cells]:=by
 apply comesB_succ;cases h1:(s==0) with
 |true=>
  cases h2:(t.toList==(⟨#[]⟩:qaW).toList) with
  |true=>
   cases h3:(Int.ofNat (cellsL l).length==0) with
   |true=>
    cases h4:(Int.ofNat (cellsF f).length==0) with
    |true=>exact ⟨true,fun N hN=>pure_of [(63,.b true),(71,.b true),(80,.b true),(91,.b true)] [] (pf4 h1 h2 h3 h4) (x:=boolX true) (bx:=[]) (by kernel_rfl) rfl⟩
    |false=>exact ⟨false,fun N hN=>pure_of [(63,.b true),(71,.b true),(80,.b true),(91,.b false)] [] (pf4 h1 h2 h3 h4) (x:=boolX false) (bx:=[]) (by kernel_rfl) rfl⟩
   |false=>exact ⟨false,fun N hN=>pure_of [(63,.b true),(71,.b true),(80,.b false)] [] (pf3 h1 h2 h3) (x:=boolX false) (bx:=[]) (by kernel_rfl) rfl⟩
  |false=>exact ⟨false,fun N hN=>pure_of [(63,.b true),(71,.b false)] [] (pf2 h1 h2) (x:=boolX false) (bx:=[]) (by kernel_rfl) rfl⟩
 |false=>exact ⟨false,fun N hN=>pure_of [(63,.b false)] [] (pf1 h1) (x:=boolX false) (bx:=[]) (by kernel_rfl) rfl⟩
theorem uses3 (i s:Int)(t:qaW)(l:List Val)(f:List (qaW×Val)):ComesB 2 232 [.agg (Val.mk 3 i s t l f).cells]:=by
 apply comesB_succ;cases h1:(t.toList==(⟨#[]⟩:qaW).toList) with
 |true=>
  cases h2:(Int.ofNat (cellsL l).length==0) with
  |true=>
   cases h3:(Int.ofNat (cellsF f).length==0) with
   |true=>exact ⟨true,fun N hN=>pure_of [(71,.b true),(80,.b true),(91,.b true)] [] (pf3 h1 h2 h3) (x:=boolX true) (bx:=[]) (by kernel_rfl) rfl⟩
   |false=>exact ⟨false,fun N hN=>pure_of [(71,.b true),(80,.b true),(91,.b false)] [] (pf3 h1 h2 h3) (x:=boolX false) (bx:=[]) (by kernel_rfl) rfl⟩
  |false=>exact ⟨false,fun N hN=>pure_of [(71,.b true),(80,.b false)] [] (pf2 h1 h2) (x:=boolX false) (bx:=[]) (by kernel_rfl) rfl⟩
 |false=>exact ⟨false,fun N hN=>pure_of [(71,.b false)] [] (pf1 h1) (x:=boolX false) (bx:=[]) (by kernel_rfl) rfl⟩
theorem uses4 (i s:Int)(t:qaW)(l:List Val)(f:List (qaW×Val)):ComesB 2 232 [.agg (Val.mk 4 i s t l f).cells]:=by
 apply comesB_succ;cases h1:(i==0) with
 |true=>
  cases h2:(s==0) with
  |true=>
   cases h3:(Int.ofNat (cellsL l).length==0) with
   |true=>
    cases h4:(Int.ofNat (cellsF f).length==0) with
    |true=>exact ⟨true,fun N hN=>pure_of [(54,.b true),(63,.b true),(80,.b true),(91,.b true)] [] (pf4 h1 h2 h3 h4) (x:=boolX true) (bx:=[]) (by kernel_rfl) rfl⟩
    |false=>exact ⟨false,fun N hN=>pure_of [(54,.b true),(63,.b true),(80,.b true),(91,.b false)] [] (pf4 h1 h2 h3 h4) (x:=boolX false) (bx:=[]) (by kernel_rfl) rfl⟩
   |false=>exact ⟨false,fun N hN=>pure_of [(54,.b true),(63,.b true),(80,.b false)] [] (pf3 h1 h2 h3) (x:=boolX false) (bx:=[]) (by kernel_rfl) rfl⟩
  |false=>exact ⟨false,fun N hN=>pure_of [(54,.b true),(63,.b false)] [] (pf2 h1 h2) (x:=boolX false) (bx:=[]) (by kernel_rfl) rfl⟩
 |false=>exact ⟨false,fun N hN=>pure_of [(54,.b false)] [] (pf1 h1) (x:=boolX false) (bx:=[]) (by kernel_rfl) rfl⟩
theorem uses5 (i s:Int)(t:qaW)(l:List Val)(f:List (qaW×Val)):ComesB 2 232 [.agg (Val.mk 5 i s t l f).cells]:=by
 apply comesB_succ;cases h1:(i==0) with
 |true=>
  cases h2:(s==0) with
  |true=>
   cases h3:(Int.ofNat (cellsL l).length==0) with
   |true=>
    cases h4:(Int.ofNat (cellsF f).length==0) with
    |true=>exact ⟨true,fun N hN=>pure_of [(54,.b true),(63,.b true),(80,.b true),(91,.b true)] [] (pf4 h1 h2 h3 h4) (x:=boolX true) (bx:=[]) (by kernel_rfl) rfl⟩
    |false=>exact ⟨false,fun N hN=>pure_of [(54,.b true),(63,.b true),(80,.b true),(91,.b false)] [] (pf4 h1 h2 h3 h4) (x:=boolX false) (bx:=[]) (by kernel_rfl) rfl⟩
   |false=>exact ⟨false,fun N hN=>pure_of [(54,.b true),(63,.b true),(80,.b false)] [] (pf3 h1 h2 h3) (x:=boolX false) (bx:=[]) (by kernel_rfl) rfl⟩
  |false=>exact ⟨false,fun N hN=>pure_of [(54,.b true),(63,.b false)] [] (pf2 h1 h2) (x:=boolX false) (bx:=[]) (by kernel_rfl) rfl⟩
 |false=>exact ⟨false,fun N hN=>pure_of [(54,.b false)] [] (pf1 h1) (x:=boolX false) (bx:=[]) (by kernel_rfl) rfl⟩
theorem uses6 (i s:Int)(t:qaW)(l:List Val)(f:List (qaW×Val)):ComesB 2 232 [.agg (Val.mk 6 i s t l f).cells]:=by
 apply comesB_succ;cases h1:(s==0) with
 |true=>
  cases h2:(t.toList==(⟨#[]⟩:qaW).toList) with
  |true=>
   cases h3:(Int.ofNat (cellsL l).length==0) with
   |true=>
    cases h4:(Int.ofNat (cellsF f).length==0) with
    |true=>exact ⟨true,fun N hN=>pure_of [(63,.b true),(71,.b true),(80,.b true),(91,.b true)] [] (pf4 h1 h2 h3 h4) (x:=boolX true) (bx:=[]) (by kernel_rfl) rfl⟩
    |false=>exact ⟨false,fun N hN=>pure_of [(63,.b true),(71,.b true),(80,.b true),(91,.b false)] [] (pf4 h1 h2 h3 h4) (x:=boolX false) (bx:=[]) (by kernel_rfl) rfl⟩
   |false=>exact ⟨false,fun N hN=>pure_of [(63,.b true),(71,.b true),(80,.b false)] [] (pf3 h1 h2 h3) (x:=boolX false) (bx:=[]) (by kernel_rfl) rfl⟩
  |false=>exact ⟨false,fun N hN=>pure_of [(63,.b true),(71,.b false)] [] (pf2 h1 h2) (x:=boolX false) (bx:=[]) (by kernel_rfl) rfl⟩
 |false=>exact ⟨false,fun N hN=>pure_of [(63,.b false)] [] (pf1 h1) (x:=boolX false) (bx:=[]) (by kernel_rfl) rfl⟩
theorem uses7 (i s:Int)(t:qaW)(l:List Val)(f:List (qaW×Val)):ComesB 2 232 [.agg (Val.mk 7 i s t l f).cells]:=by
 apply comesB_succ;cases h1:(s==0) with
 |true=>
  cases h2:(t.toList==(⟨#[]⟩:qaW).toList) with
  |true=>
   cases h3:(Int.ofNat (cellsL l).length==0) with
   |true=>
    cases h4:(Int.ofNat (cellsF f).length==0) with
    |true=>exact ⟨true,fun N hN=>pure_of [(63,.b true),(71,.b true),(80,.b true),(91,.b true)] [] (pf4 h1 h2 h3 h4) (x:=boolX true) (bx:=[]) (by kernel_rfl) rfl⟩
    |false=>exact ⟨false,fun N hN=>pure_of [(63,.b true),(71,.b true),(80,.b true),(91,.b false)] [] (pf4 h1 h2 h3 h4) (x:=boolX false) (bx:=[]) (by kernel_rfl) rfl⟩
   |false=>exact ⟨false,fun N hN=>pure_of [(63,.b true),(71,.b true),(80,.b false)] [] (pf3 h1 h2 h3) (x:=boolX false) (bx:=[]) (by kernel_rfl) rfl⟩
  |false=>exact ⟨false,fun N hN=>pure_of [(63,.b true),(71,.b false)] [] (pf2 h1 h2) (x:=boolX false) (bx:=[]) (by kernel_rfl) rfl⟩
 |false=>exact ⟨false,fun N hN=>pure_of [(63,.b false)] [] (pf1 h1) (x:=boolX false) (bx:=[]) (by kernel_rfl) rfl⟩
theorem uses8 (i s:Int)(t:qaW)(l:List Val)(f:List (qaW×Val)):ComesB 2 232 [.agg (Val.mk 8 i s t l f).cells]:=by
 apply comesB_succ;cases h1:(i==0) with
 |true=>
  cases h2:(s==0) with
  |true=>
   cases h3:(t.toList==(⟨#[]⟩:qaW).toList) with
   |true=>
    cases h4:(Int.ofNat (cellsF f).length==0) with
    |true=>exact ⟨true,fun N hN=>pure_of [(54,.b true),(63,.b true),(71,.b true),(91,.b true)] [] (pf4 h1 h2 h3 h4) (x:=boolX true) (bx:=[]) (by kernel_rfl) rfl⟩
    |false=>exact ⟨false,fun N hN=>pure_of [(54,.b true),(63,.b true),(71,.b true),(91,.b false)] [] (pf4 h1 h2 h3 h4) (x:=boolX false) (bx:=[]) (by kernel_rfl) rfl⟩
   |false=>exact ⟨false,fun N hN=>pure_of [(54,.b true),(63,.b true),(71,.b false)] [] (pf3 h1 h2 h3) (x:=boolX false) (bx:=[]) (by kernel_rfl) rfl⟩
  |false=>exact ⟨false,fun N hN=>pure_of [(54,.b true),(63,.b false)] [] (pf2 h1 h2) (x:=boolX false) (bx:=[]) (by kernel_rfl) rfl⟩
 |false=>exact ⟨false,fun N hN=>pure_of [(54,.b false)] [] (pf1 h1) (x:=boolX false) (bx:=[]) (by kernel_rfl) rfl⟩
theorem uses9 (i s:Int)(t:qaW)(l:List Val)(f:List (qaW×Val)):ComesB 2 232 [.agg (Val.mk 9 i s t l f).cells]:=by
 apply comesB_succ;cases h1:(i==0) with
 |true=>
  cases h2:(s==0) with
  |true=>
   cases h3:(t.toList==(⟨#[]⟩:qaW).toList) with
   |true=>
    cases h4:(Int.ofNat (cellsL l).length==0) with
    |true=>exact ⟨true,fun N hN=>pure_of [(54,.b true),(63,.b true),(71,.b true),(80,.b true)] [] (pf4 h1 h2 h3 h4) (x:=boolX true) (bx:=[]) (by kernel_rfl) rfl⟩
    |false=>exact ⟨false,fun N hN=>pure_of [(54,.b true),(63,.b true),(71,.b true),(80,.b false)] [] (pf4 h1 h2 h3 h4) (x:=boolX false) (bx:=[]) (by kernel_rfl) rfl⟩
   |false=>exact ⟨false,fun N hN=>pure_of [(54,.b true),(63,.b true),(71,.b false)] [] (pf3 h1 h2 h3) (x:=boolX false) (bx:=[]) (by kernel_rfl) rfl⟩
  |false=>exact ⟨false,fun N hN=>pure_of [(54,.b true),(63,.b false)] [] (pf2 h1 h2) (x:=boolX false) (bx:=[]) (by kernel_rfl) rfl⟩
 |false=>exact ⟨false,fun N hN=>pure_of [(54,.b false)] [] (pf1 h1) (x:=boolX false) (bx:=[]) (by kernel_rfl) rfl⟩
theorem uses10 (i s:Int)(t:qaW)(l:List Val)(f:List (qaW×Val)):ComesB 2 232 [.agg (Val.mk 10 i s t l f).cells]:=by
 apply comesB_succ;cases h1:(i==0) with
 |true=>
  cases h2:(s==0) with
  |true=>
   cases h3:(Int.ofNat (cellsF f).length==0) with
   |true=>exact ⟨true,fun N hN=>pure_of [(54,.b true),(63,.b true),(91,.b true)] [] (pf3 h1 h2 h3) (x:=boolX true) (bx:=[]) (by kernel_rfl) rfl⟩
   |false=>exact ⟨false,fun N hN=>pure_of [(54,.b true),(63,.b true),(91,.b false)] [] (pf3 h1 h2 h3) (x:=boolX false) (bx:=[]) (by kernel_rfl) rfl⟩
  |false=>exact ⟨false,fun N hN=>pure_of [(54,.b true),(63,.b false)] [] (pf2 h1 h2) (x:=boolX false) (bx:=[]) (by kernel_rfl) rfl⟩
 |false=>exact ⟨false,fun N hN=>pure_of [(54,.b false)] [] (pf1 h1) (x:=boolX false) (bx:=[]) (by kernel_rfl) rfl⟩
theorem between_comes (x a b:Int):ComesE 2 295 [num x,num a,num b]:=by
 apply comesE_succ;cases h1:decide (x<a) with
 |true=>exact ⟨2,by decide,fun N hN=>pure_of [(9,.b true)] [] (pf1 h1) (x:=num (2)) (bx:=[]) (by kernel_rfl) rfl⟩
 |false=>
  cases h2:decide (b<x) with
  |true=>exact ⟨2,by decide,fun N hN=>pure_of [(9,.b false),(13,.b true)] [] (pf2 h1 h2) (x:=num (2)) (bx:=[]) (by kernel_rfl) rfl⟩
  |false=>exact ⟨0,by decide,fun N hN=>pure_of [(9,.b false),(13,.b false)] [] (pf2 h1 h2) (x:=num (0)) (bx:=[]) (by kernel_rfl) rfl⟩
theorem size_comes (x a e:Int)(he:0<=e/\e<=100):ComesE 2 300 [num x,num a,num e]:=by
 apply comesE_succ;cases h1:decide (a<x) with
 |true=>exact ⟨e,he,fun N hN=>pure_of [(9,.b true)] [] (pf1 h1) (x:=num (e)) (bx:=[]) (by kernel_rfl) rfl⟩
 |false=>exact ⟨0,by decide,fun N hN=>pure_of [(9,.b false)] [] (pf1 h1) (x:=num (0)) (bx:=[]) (by kernel_rfl) rfl⟩
theorem rule120 (v:Val):ComesE 3 294 [.agg v.cells]:=by obtain ⟨k,i,s,t,l,f⟩:=v;obtain ⟨c,cr,hc⟩:=between_comes i 0 1;exact comesE_succ ⟨c,cr,fun N hN=>pure_of [(5,.p (num c))] [] (pf1 (hc N hN)) (x:=num c) (bx:=[]) (by kernel_rfl) rfl⟩
theorem rule122 (v:Val):ComesE 3 296 [.agg v.cells]:=by obtain ⟨k,i,s,t,l,f⟩:=v;obtain ⟨c,cr,hc⟩:=between_comes i (-999999999999999) 999999999999999;exact comesE_succ ⟨c,cr,fun N hN=>pure_of [(5,.p (num c))] [] (pf1 (hc N hN)) (x:=num c) (bx:=[]) (by kernel_rfl) rfl⟩
theorem rule129 (v:Val):ComesE 3 303 [.agg v.cells]:=by obtain ⟨k,i,s,t,l,f⟩:=v;obtain ⟨c,cr,hc⟩:=between_comes i (-719162) 2932896;exact comesE_succ ⟨c,cr,fun N hN=>pure_of [(5,.p (num c))] [] (pf1 (hc N hN)) (x:=num c) (bx:=[]) (by kernel_rfl) rfl⟩
theorem rule130 (v:Val):ComesE 3 304 [.agg v.cells]:=by obtain ⟨k,i,s,t,l,f⟩:=v;obtain ⟨c,cr,hc⟩:=between_comes i (-62135596800000) 253402300799999;exact comesE_succ ⟨c,cr,fun N hN=>pure_of [(5,.p (num c))] [] (pf1 (hc N hN)) (x:=num c) (bx:=[]) (by kernel_rfl) rfl⟩
theorem rule128 (v:Val):ComesE 3 302 [.agg v.cells]:=by obtain ⟨k,i,s,t,l,f⟩:=v;obtain ⟨c,cr,hc⟩:=size_comes (Int.ofNat t.size) 1024 5 (by decide);exact comesE_succ ⟨c,cr,fun N hN=>pure_of [(6,.p (num c))] [] (pf1 (hc N hN)) (x:=num c) (bx:=[]) (by kernel_rfl) rfl⟩
theorem rule131 (v:Val):ComesE 3 305 [.agg v.cells]:=by obtain ⟨k,i,s,t,l,f⟩:=v;obtain ⟨c,cr,hc⟩:=size_comes (Int.ofNat (cellsL l).length) 256 9 (by decide);exact comesE_succ ⟨c,cr,fun N hN=>pure_of [(6,.p (num c))] [] (pf1 (hc N hN)) (x:=num c) (bx:=[]) (by kernel_rfl) rfl⟩
def fiH (l:qaV)(n j:Nat):St:=⟨[(5,.sl false 1 l),(6,nat n),(7,nat j)],[]⟩
theorem first_comes (l:List Int)(hl:l.length<=60000)(hb:∀x,x∈l->0<=x/\x<=100):ComesE 60002 298 [.sl false 1 (intsC l)]:=by
 have hn:=intsC_length l;have:=scan (B:=0) (b:=loopAt 298 0) (H:=fun j=>fiH (intsC l) (intsC l).length j) (τ:=fiH (intsC l) (intsC l).length 0) (n:=(intsC l).length) (e:=.exit 0) (fin:=⟨[(5,.sl false 1 (intsC l)),(6,nat (intsC l).length),(7,nat (intsC l).length),(8,boolX false)],[]⟩) (fun r=>∃x:Int,(0<=x/\x<=100)/\r=⟨[(2,num x)],[]⟩) (by kernel_rfl) (fun j hj=>by
  have hj':j<l.length:=by omega
  have hg:=intsC_get hj';have hx:=hb _ (qal hj');generalize l[j]=x at hg hx;cases h:(!(x==0)) with
  |true=>left;exact ⟨⟨[(2,num x)],[]⟩,⟨x,hx,rfl⟩,fun M _=>run_of [(8,.b true),(9,.e [num x]),(12,.b true)] [] (pf3 (lt_nat (j:=j) (k:=(intsC l).length) (by omega)) hg h) (lo':=[]) (by kernel_rfl)⟩
  |false=>right;exact ⟨fiH (intsC l) (intsC l).length (j+1),by kernel_rfl,fun M _=>run_of [(8,.b true),(9,.e [num x]),(12,.b false),(14,.i (Int.ofNat (j+1)))] [] (pf4 (lt_nat (j:=j) (k:=(intsC l).length) (by omega)) hg h (next_nat (j:=j) (by omega))) (lo':=[]) (by kernel_rfl)⟩)
  (fun M _=>run_of [(8,.b false)] [] (pf1 (nlt_nat (qar (intsC l).length))) (lo':=[]) (σ':=⟨[(5,.sl false 1 (intsC l)),(6,nat (intsC l).length),(7,nat (intsC l).length),(8,boolX false)],[]⟩) (by kernel_rfl)) (by simp)
 apply comesE_succ;rcases this with ⟨r,⟨x,hx,rfl⟩,h⟩|h;·exact ⟨x,hx,fun N hN=>pure_of [] [(.ret,⟨[(2,num x)],[]⟩)] (pf1 (h N (by omega) (by omega))) (x:=num x) (bx:=[]) (by kernel_rfl) rfl⟩
 exact ⟨0,by decide,fun N hN=>pure_of [] [(.exit 0,⟨[(5,.sl false 1 (intsC l)),(6,nat (intsC l).length),(7,nat (intsC l).length),(8,boolX false)],[]⟩)] (pf1 (h N (by omega) (by omega))) (x:=num 0) (bx:=[]) (by kernel_rfl) rfl⟩
theorem rule123 (v:Val):ComesE 60003 297 [.agg v.cells]:=by obtain ⟨k,i,s,t,l,f⟩:=v;obtain ⟨c,cr,hc⟩:=between_comes i (-999999999999999) 999999999999999;obtain ⟨d,dr,hd⟩:=between_comes s 0 12;obtain ⟨e,er,he⟩:=first_comes [c,d] (by simp) (fun x hx=>by grind);exact comesE_succ ⟨e,er,fun N hN=>pure_of [(5,.p (num c)),(8,.p (num d)),(10,.p (num e))] [] (pf3 (hc N (by omega)) (hd N (by omega)) (he N (by omega))) (x:=num e) (bx:=[]) (by kernel_rfl) rfl⟩
theorem valid_ext (N:Nat)(t:qaW)(h:t.size<=9223372036854775807):Gam.pureD (callF tab ext (N+1)) 301 [strX t]=some (boolX (Lib.validD t.data.toList)):=by
 have e:callF tab ext (N+1) (.fn 301) [strX t] []=some (boolX (Lib.validD t.data.toList),[]):=by show validExt [strX t] []=_;unfold validExt strX;simp only [if_pos h];rfl
 unfold Gam.pureD;rw [e];rfl
theorem rule125 (v:Val):ComesE 4 299 [.agg v.cells]:=by
 obtain ⟨k,i,s,t,l,f⟩:=v;apply comesE_succ;cases h0:decide (1024<Int.ofNat t.size) with
 |true=>
  have hc:∀N,2<=N->Gam.pureD (callF tab ext N) 300 [num (Int.ofNat t.size),num 1024,num 5]=some (num 5):=fun N hN=>by obtain ⟨M,rfl⟩:∃M,N=M+1:=⟨N-1,by omega⟩;exact pure_of [(9,.b true)] [] (pf1 h0) (x:=num 5) (bx:=[]) (by kernel_rfl) rfl
  exact ⟨5,by decide,fun N hN=>pure_of [(7,.p (num 5))] [] (pf1 (hc N (by omega))) (x:=num 5) (bx:=[]) (by kernel_rfl) rfl⟩
 |false=>
  have hsz:t.size<=9223372036854775807:=by have:=of_decide_eq_false h0;simp only [qam] at this;omega
  have hc:∀N,2<=N->Gam.pureD (callF tab ext N) 300 [num (Int.ofNat t.size),num 1024,num 5]=some (num 0):=fun N hN=>by obtain ⟨M,rfl⟩:∃M,N=M+1:=⟨N-1,by omega⟩;exact pure_of [(9,.b false)] [] (pf1 h0) (x:=num 0) (bx:=[]) (by kernel_rfl) rfl
  have hv:∀N,3<=N->Gam.pureD (callF tab ext N) 301 [strX t]=some (boolX (Lib.validD t.data.toList)):=fun N hN=>by obtain ⟨M,rfl⟩:∃M,N=M+1:=⟨N-1,by omega⟩<;>simp_all[valid_ext]
  generalize Lib.validD t.data.toList=b at hv;cases b with
  |true=>exact ⟨0,by decide,fun N hN=>pure_of [(7,.p (num 0)),(13,.p (boolX true))] [] (pf2 (hc N (by omega)) (hv N hN)) (x:=num 0) (bx:=[]) (by kernel_rfl) rfl⟩
  |false=>exact ⟨16,by decide,fun N hN=>pure_of [(7,.p (num 0)),(13,.p (boolX false))] [] (pf2 (hc N (by omega)) (hv N hN)) (x:=num 16) (bx:=[]) (by kernel_rfl) rfl⟩
theorem byteRow_get {s:qaW}{j:Nat}(h:j<(byteRow s).length):∃u:Int,(byteRow s)[j]?=some [.v (.int .u8 u)]:=by simp_all[byteRow]
def naH (s:qaW)(n j:Nat):St:=⟨[(23,.sl false 1 (byteRow s)),(24,nat n),(25,nat j)],[]⟩
theorem name_round (s:qaW)(u:Int)(n j:Nat)(hj:j<n)(hn:n<1000000)(hg:(byteRow s)[j]?=some [.v (.int .u8 u)]):
  (∃r,r=⟨[(2,boolX false)],[]⟩/\∀M,0<=M->run (callF tab ext M) 0 M (loopAt 307 0) (naH s n j)=some (.ret,r))\/(∃υ,canon 0 υ=some (naH s n (j+1))/\∀M,0<=M->run (callF tab ext M) 0 M (loopAt 307 0) (naH s n j)=some (.norm,υ)):=by
 cases h1:decide (u<97) with
 |true=>
  cases h2:decide (u<48) with
  |true=>
   cases h3:(!(u==95)) with
   |true=>exact .inl ⟨_,rfl,fun M _=>run_of [(26,.b true),(27,.e [.v (.int .u8 u)]),(30,.b true),(37,.b true),(45,.b true)] [] (pf5 (lt_nat (j:=j) (k:=n) hj) hg h1 h2 h3) (lo':=[]) (by kernel_rfl)⟩
   |false=>grind
  |false=>
   cases h4:decide (57<u) with
   |true=>
    cases h5:(!(u==95)) with
    |true=>exact .inl ⟨_,rfl,fun M _=>run_of [(26,.b true),(27,.e [.v (.int .u8 u)]),(30,.b true),(37,.b false),(40,.b true),(45,.b true)] [] (pf6 (lt_nat (j:=j) (k:=n) hj) hg h1 h2 h4 h5) (lo':=[]) (by kernel_rfl)⟩
    |false=>exact .inr ⟨naH s n (j+1),by kernel_rfl,fun M _=>run_of [(26,.b true),(27,.e [.v (.int .u8 u)]),(30,.b true),(37,.b false),(40,.b true),(45,.b false),(47,.i (Int.ofNat (j+1)))] [] (pf7 (lt_nat (j:=j) (k:=n) hj) hg h1 h2 h4 h5 (next_nat (j:=j) (by omega))) (lo':=[]) (by kernel_rfl)⟩
   |false=>exact .inr ⟨naH s n (j+1),by kernel_rfl,fun M _=>run_of [(26,.b true),(27,.e [.v (.int .u8 u)]),(30,.b true),(37,.b false),(40,.b false),(47,.i (Int.ofNat (j+1)))] [] (pf6 (lt_nat (j:=j) (k:=n) hj) hg h1 h2 h4 (next_nat (j:=j) (by omega))) (lo':=[]) (by kernel_rfl)⟩
 |false=>
  cases h6:decide (122<u) with
  |true=>
   cases h7:decide (u<48) with
   |true=>grind
   |false=>
    cases h9:decide (57<u) with
    |true=>
     cases h10:(!(u==95)) with
     |true=>exact .inl ⟨_,rfl,fun M _=>run_of [(26,.b true),(27,.e [.v (.int .u8 u)]),(30,.b false),(33,.b true),(37,.b false),(40,.b true),(45,.b true)] [] (pf7 (lt_nat (j:=j) (k:=n) hj) hg h1 h6 h7 h9 h10) (lo':=[]) (by kernel_rfl)⟩
     |false=>grind
    |false=>grind
  |false=>exact .inr ⟨naH s n (j+1),by kernel_rfl,fun M _=>run_of [(26,.b true),(27,.e [.v (.int .u8 u)]),(30,.b false),(33,.b false),(47,.i (Int.ofNat (j+1)))] [] (pf5 (lt_nat (j:=j) (k:=n) hj) hg h1 h6 (next_nat (j:=j) (by omega))) (lo':=[]) (by kernel_rfl)⟩
theorem size_pos {s:qaW}(h:(s.toList==(⟨#[]⟩:qaW).toList)=false):0<s.size:=by rcases Nat.eq_zero_or_pos s.size with h0|h0<;>simp_all
theorem name_short (s:qaW)(hs:s.size<=60000):ComesB 60002 307 [strX s]:=by
 have hl:(byteRow s).length=s.size:=by unfold byteRow;rw [qay,Array.length_toList];rfl
 have:=scan (B:=0) (b:=loopAt 307 0) (H:=fun j=>naH s (byteRow s).length j) (τ:=naH s (byteRow s).length 0) (n:=(byteRow s).length) (e:=.exit 0) (fin:=⟨[(23,.sl false 1 (byteRow s)),(24,nat (byteRow s).length),(25,nat (byteRow s).length),(26,boolX false)],[]⟩) (fun r=>r=⟨[(2,boolX false)],[]⟩) (by kernel_rfl) (fun j hj=>by
  grind[byteRow_get,name_round])
  (fun M _=>run_of [(26,.b false)] [] (pf1 (nlt_nat (qar (byteRow s).length))) (lo':=[]) (by kernel_rfl)) (by simp)
 apply comesB_succ;cases h1:(s.toList==(⟨#[]⟩:qaW).toList) with
 |true=>exact ⟨false,fun N hN=>pure_of [(6,.b true)] [] (pf1 h1) (x:=boolX false) (bx:=[]) (by kernel_rfl) rfl⟩
 |false=>
  cases h2:decide (32<Int.ofNat s.size) with
  |true=>exact ⟨false,fun N hN=>pure_of [(6,.b false),(10,.b true)] [] (pf2 h1 h2) (x:=boolX false) (bx:=[]) (by kernel_rfl) rfl⟩
  |false=>
   have hpos:=size_pos h1;cases h3:decide ((((s[0]?).getD 0).toNat:Int)<97) with
   |true=>exact ⟨false,fun N hN=>pure_of [(6,.b false),(10,.b false),(14,.at),(15,.b true)] [] (pf4 h1 h2 hpos h3) (x:=boolX false) (bx:=[]) (by kernel_rfl) rfl⟩
   |false=>
    cases h4:decide (122<(((s[0]?).getD 0).toNat:Int)) with
    |true=>exact ⟨false,fun N hN=>pure_of [(6,.b false),(10,.b false),(14,.at),(15,.b false),(19,.at),(20,.b true)] [] (pf6 h1 h2 hpos h3 hpos h4) (x:=boolX false) (bx:=[]) (by kernel_rfl) rfl⟩
    |false=>
     rcases this with ⟨r,rfl,h⟩|h;·exact ⟨false,fun N hN=>pure_of [(6,.b false),(10,.b false),(14,.at),(15,.b false),(19,.at),(20,.b false)] [(.ret,⟨[(2,boolX false)],[]⟩)] (pf7 h1 h2 hpos h3 hpos h4 (h N (by omega) (by omega))) (x:=boolX false) (bx:=[]) (by kernel_rfl) rfl⟩
     exact ⟨true,fun N hN=>pure_of [(6,.b false),(10,.b false),(14,.at),(15,.b false),(19,.at),(20,.b false)] [(.exit 0,⟨[(23,.sl false 1 (byteRow s)),(24,nat (byteRow s).length),(25,nat (byteRow s).length),(26,boolX false)],[]⟩)] (pf7 h1 h2 hpos h3 hpos h4 (h N (by omega) (by omega))) (x:=boolX true) (bx:=[]) (by kernel_rfl) rfl⟩
theorem name_comes (s:qaW):ComesB 60002 307 [strX s]:=by
 by_cases hs:s.size<=60000
 ·grind[name_short]
 apply comesB_succ;have h2:decide (32<Int.ofNat s.size)=true:=by simp;omega
 cases h1:(s.toList==(⟨#[]⟩:qaW).toList) with
 |true=>exact ⟨false,fun N hN=>pure_of [(6,.b true)] [] (pf1 h1) (x:=boolX false) (bx:=[]) (by kernel_rfl) rfl⟩
 |false=>exact ⟨false,fun N hN=>pure_of [(6,.b false),(10,.b true)] [] (pf2 h1 h2) (x:=boolX false) (bx:=[]) (by kernel_rfl) rfl⟩
theorem rule134 (v:Val):ComesE 60003 308 [.agg v.cells]:=by
 obtain ⟨k,i,s,t,l,f⟩:=v;obtain ⟨b,hb⟩:=name_comes t;obtain ⟨c,cr,hc⟩:=size_comes (Int.ofNat (cellsL l).length) 1 3 (by decide);apply comesE_succ;cases b with
 |true=>
  cases h1:(Int.ofNat (cellsL l).length==0) with
  |true=>exact ⟨4,by decide,fun N hN=>pure_of [(6,.p (boolX true)),(12,.b true)] [] (pf2 (hb N (by omega)) h1) (x:=num (4)) (bx:=[]) (by kernel_rfl) rfl⟩
  |false=>exact ⟨c,cr,fun N hN=>pure_of [(6,.p (boolX true)),(12,.b false),(16,.p (num c))] [] (pf3 (hb N (by omega)) h1 (hc N (by omega))) (x:=num (c)) (bx:=[]) (by kernel_rfl) rfl⟩
 |false=>exact ⟨12,by decide,fun N hN=>pure_of [(6,.p (boolX false))] [] (pf1 (hb N (by omega))) (x:=num (12)) (bx:=[]) (by kernel_rfl) rfl⟩
end Go.Proofs.YtonnphbfclaigaaGreatDoor
