/-.-/
import Derived.Test.YtkeefpkcepodeaaGreatDoorU32
set_option linter.all false
namespace Go.Proofs.YtkeefpkcepodeaaGreatDoor
open Go Go.Em Go.Ab
set_option maxRecDepth 100000
variable {H q1 q2 q3 q4:Int}
namespace Ct
def PR (s:qaW)(p:qaV×Int):Prop:=(1<=p.2/\p.2<=100)/\p.1=[]\/p.2=0/\(1<=p.1.length/\p.1.length<=201)/\∀x,x∈p.1->sW x
theorem WM (s:qaW)(hs:s.size<=1000000):∃p,PR s p/\∃B,∀N,B<=N->Gam.pureD (callF tab ext N) 39 [strX s]=some (.tup [.sl false 3 p.1,num p.2]):=by
 rcases AL s hs with ⟨e,a,f,h⟩|⟨j,a,f,B,h⟩;·obtain ⟨B,h⟩:=gq h (y:=.tup [.sl false 3 [],num e]) rfl;exact ⟨([],e),.inl ⟨⟨a,f⟩,rfl⟩,B,h⟩
 exact ⟨(j,0),.inr ⟨rfl,a,f⟩,B,fun N l=>bf (h N l) (by simp [X.data,dH,rowOf,num])⟩
theorem AB {es:qaV}(h:∀x,x∈es->sW x):∀x,x∈es->D T 1 7 x:=fun x a=>Ub (Int.le_refl _) (h x a)
theorem zn5 {es:qaV}(h1:1<=es.length)(h2:es.length<=201)(h:∀x,x∈es->sW x):D T 2 13 [.sl false 3 es]:=
 dI (by decide) (qaa.2 rfl) ⟨⟨rfl,h1,by omega,AB h⟩,trivial⟩
theorem zpt {es:qaV}(h2:es.length<=201)(h:∀x,x∈es->sW x):∃b,∃B,∀N,B<=N->Gam.pureD (callF tab ext N) 73 [.sl false 3 es,.fn 102 []]=some (boolX b):=by
 obtain ⟨o,j,r,bx,a,l,B,m⟩:=eU (Dd.zkt _ (qaa.2 rfl)) rfl rfl (xs:=[.sl false 3 es,.fn 102 []]) ⟨⟨false,es,1,rfl,by decide,by unfold bW;omega,AB h⟩,⟨[],rfl,trivial⟩,trivial⟩ (bx:=[]) trivial;rcases qal.1 j with rfl|j;·obtain rfl:=qQ l;have a:r=boolX true:=a;subst a;exact ⟨true,B,fun N f=>bf (m N f) rfl⟩
 obtain rfl:=qaa.1 j;obtain rfl:=qQ l;have a:r=boolX false:=a;subst a;exact ⟨false,B,fun N f=>bf (m N f) rfl⟩
theorem zps {seen:qaV}(hl:seen.length<=1000)(hd:∀x,x∈seen->D T 2 13 x){es:qaV}(h2:es.length<=201)(h:∀x,x∈es->sW x):∃b,∃B,∀N,B<=N->Gam.pureD (callF tab ext N) 103 [.sl false 1 seen,.fn 104 [.dp [.sl false 3 es]]]=some (boolX b):=by
 obtain ⟨o,j,r,bx,a,l,B,m⟩:=eU (Dd.zkg _ (qaa.2 rfl)) rfl rfl (xs:=[.sl false 1 seen,.fn 104 [.dp [.sl false 3 es]]]) ⟨⟨false,seen,2,rfl,by decide,by unfold bW;omega,hd⟩,⟨_,rfl,⟨_,rfl,⟨false,es,1,rfl,by decide,by unfold bW;omega,AB h⟩,trivial⟩,trivial⟩,trivial⟩ (bx:=[]) trivial;rcases qal.1 j with rfl|j;·obtain rfl:=qQ l;have a:r=boolX true:=a;subst a;exact ⟨true,B,fun N f=>bf (m N f) rfl⟩
 obtain rfl:=qaa.1 j;obtain rfl:=qQ l;have a:r=boolX false:=a;subst a;exact ⟨false,B,fun N f=>bf (m N f) rfl⟩
section
variable (ru seen:qaV) (n j:Nat) (s:qaW) (o i:Int) (t:qaW) (vs es ls:qaV) (e:Int) (M:Nat)
def foH:St:=⟨[(3,.bs 0 0 j),(13,.sl false 6 ru),(14,nat n),(15,nat j)],[.row 1 seen]⟩
def foE:St:=⟨[(3,.bs 0 0 j),(13,.sl false 6 ru),(14,nat n),(15,nat j),(16,boolX false)],[.row 1 seen]⟩
def foN:St:=⟨[(3,.bs 3 0 (j+1)),(13,.sl false 6 ru),(14,nat n),(15,nat (j+1))],[.dead,.var (fU s o i t vs es),.dead,.row 1 (seen++[[.sl false 3 ls]])]⟩
theorem zbw:canon 0 (foN ru seen n j s o i t vs es ls)=some (foH ru (seen++[[.sl false 3 ls]]) n (j+1)):=by kernel_rfl
theorem zoL (h:¬j<n):run (callF tab ext M) 0 M (loopAt 76 0) (foH ru seen n j)=some (.exit 0,foE ru seen n j):=
 ruA [(16,.b false)] (pf1 (aG h))
theorem zbv (hs:seen.length=j):dH [.row 1 seen,.var (fU s o i t vs es),.dead] false [.bs 0 0 j,.fn 104 [.dp [.sl false 3 ls]]]=some [.sl false 1 seen,.fn 104 [.dp [.sl false 3 ls]]]:=by subst hs;simp [dH,X.data,rowOf]
variable (hj:j<n) (hi:ru[j]?=some (fU s o i t vs es))
include hj hi
theorem zoK (hp:Gam.pureD (callF tab ext M) 39 [strX s]=some (.tup [.sl false 3 ls,num e]))(he:(e !=0)=true):run (callF tab ext M) 0 M (loopAt 76 0) (foH ru seen n j)=some (.ret,⟨[(2,num e)],[.row 1 seen,.var (fU s o i t vs es),.var [.sl false 3 ls]]⟩):=
 ruA [(16,.b true),(17,.e (fU s o i t vs es)),(22,.p (.tup [.sl false 3 ls,num e])),(27,.b true)] (pf4 (aH hj) hi hp he)
variable (hp:Gam.pureD (callF tab ext M) 39 [strX s]=some (.tup [.sl false 3 ls,num 0]))
include hp
theorem zoN (h1:Gam.pureD (callF tab ext M) 73 [.sl false 3 ls,.fn 102 []]=some (boolX true)):run (callF tab ext M) 0 M (loopAt 76 0) (foH ru seen n j)=some (.ret,⟨[(2,num 22)],[.row 1 seen,.var (fU s o i t vs es),.var [.sl false 3 ls]]⟩):=
 ruA [(16,.b true),(17,.e (fU s o i t vs es)),(22,.p (.tup [.sl false 3 ls,num 0])),(31,.p (boolX true))] (pf4 (aH hj) hi hp h1)
variable (hs:seen.length=j) (h1:Gam.pureD (callF tab ext M) 73 [.sl false 3 ls,.fn 102 []]=some (boolX false))
include hs h1
theorem zoM (h2:Gam.pureD (callF tab ext M) 103 [.sl false 1 seen,.fn 104 [.dp [.sl false 3 ls]]]=some (boolX true)):run (callF tab ext M) 0 M (loopAt 76 0) (foH ru seen n j)=some (.ret,⟨[(2,num 7)],[.row 1 seen,.var (fU s o i t vs es),.dead]⟩):=by have a:dH [.row 1 seen,.var (fU s o i t vs es),.dead] false [.bs 0 0 j,.fn 104 [.dp [.sl false 3 ls]]]=some [.sl false 1 seen,.fn 104 [.dp [.sl false 3 ls]]]/\Gam.pureD (callF tab ext M) 103 [.sl false 1 seen,.fn 104 [.dp [.sl false 3 ls]]]=some (boolX true):=⟨zbv seen j s o i t vs es ls hs,h2⟩;exact ruA [(16,.b true),(17,.e (fU s o i t vs es)),(22,.p (.tup [.sl false 3 ls,num 0])),(31,.p (boolX false)),(35,.d [.sl false 1 seen,.fn 104 [.dp [.sl false 3 ls]]] (boolX true))] (pf5 (aH hj) hi hp h1 a)
theorem zlf (hn:n<=1000)(h2:Gam.pureD (callF tab ext M) 103 [.sl false 1 seen,.fn 104 [.dp [.sl false 3 ls]]]=some (boolX false)):run (callF tab ext M) 0 M (loopAt 76 0) (foH ru seen n j)=some (.norm,foN ru seen n j s o i t vs es ls):=by have f:dH [.row 1 seen,.var (fU s o i t vs es),.dead] false [.bs 0 0 j,.fn 104 [.dp [.sl false 3 ls]]]=some [.sl false 1 seen,.fn 104 [.dp [.sl false 3 ls]]]/\Gam.pureD (callF tab ext M) 103 [.sl false 1 seen,.fn 104 [.dp [.sl false 3 ls]]]=some (boolX false):=⟨zbv seen j s o i t vs es ls hs,h2⟩;have a:0+j=seen.length/\cZ (j+1) (23+1)=true/\false=false:=⟨by omega,jd (by omega) (by omega),rfl⟩;exact ruA [(16,.b true),(17,.e (fU s o i t vs es)),(22,.p (.tup [.sl false 3 ls,num 0])),(31,.p (boolX false)),(35,.d [.sl false 1 seen,.fn 104 [.dp [.sl false 3 ls]]] (boolX false)),(39,.app),(40,.i (Int.ofNat (j+1)))] (pf7 (aH hj) hi hp h1 f a (ay (j:=j) (by omega)))
end
structure Rules (ru:qaV) (pr:Nat->qaV×Int) (B:Nat):Prop where
 len:ru.length<=8
 rule:∀j,j<ru.length->∃s o i t vs es,ru[j]?=some (fU s o i t vs es)/\sE 4 (mQ o i t vs es)/\s.size<=60/\PR s (pr j)/\∀N,B<=N->Gam.pureD (callF tab ext N) 39 [strX s]=some (.tup [.sl false 3 (pr j).1,num (pr j).2])
theorem zd0 (ru:qaV)(hl:ru.length<=8)(hr:∀x,x∈ru->zi x):∃pr B,Rules ru pr B:=by
 have h:∀j,j∈List.range ru.length->∃p:qaV×Int,(∃s o i t vs es,ru[j]?=some (fU s o i t vs es)/\sE 4 (mQ o i t vs es)/\s.size<=60/\PR s p)/\∃B,∀N,B<=N->∀s o i t vs es,ru[j]?=some (fU s o i t vs es)->Gam.pureD (callF tab ext N) 39 [strX s]=some (.tup [.sl false 3 p.1,num p.2]):=fun j a=>by
  have a:=List.mem_range.1 a;obtain ⟨s,o,i,t,vs,es,e,f,m⟩:=hr _ (qaf a);obtain ⟨p,H,B,F⟩:=WM s (by omega);have u:ru[j]?=some (fU s o i t vs es):=by rw [qad a,e];rfl
  refine ⟨p,⟨s,o,i,t,vs,es,u,m,f,H⟩,B,fun N n J _ _ _ _ _ l=>?_⟩;rw [u] at l;have w:strX s=strX J:=by simp only [fU,qag,List.cons.injEq] at l;exact l.1
  rw [<-w];exact F N n
 obtain ⟨pr,B,q⟩:=jZ (List.range ru.length) (R:=fun j p=>∃s o i t vs es,ru[j]?=some (fU s o i t vs es)/\sE 4 (mQ o i t vs es)/\s.size<=60/\PR s p) (Q:=fun j p N=>∀s o i t vs es,ru[j]?=some (fU s o i t vs es)->Gam.pureD (callF tab ext N) 39 [strX s]=some (.tup [.sl false 3 p.1,num p.2])) h;exact ⟨pr,B,hl,fun j a=>by obtain ⟨⟨s,o,i,t,vs,es,f,m,y,A⟩,E⟩:=q j (List.mem_range.2 a);exact ⟨s,o,i,t,vs,es,f,m,y,A,fun N n=>E N n s o i t vs es f⟩⟩
theorem zbu (ru:qaV)(pr:Nat->qaV×Int)(B0:Nat)(h:Rules ru pr B0):∃c:Int,(0<=c/\c<=100)/\(c=0->∀j,j<ru.length->(pr j).2=0)/\∃B,∀N,B<=N->Gam.pureD (callF tab ext N) 76 [.agg [.sl false 6 ru]]=some (num c):=by
 have hl:=h.len;obtain ⟨e,σ',B,hQ,f⟩:=jC (nIn:=0) (b:=loopAt 76 0) (H:=fun p:Nat×qaV=>foH ru p.2 ru.length p.1) (I:=fun p=>p.1<=ru.length/\p.2.length=p.1/\(∀x,x∈p.2->D T 2 13 x)/\∀j,j<p.1->(pr j).2=0) (μ:=fun p=>ru.length-p.1)
  (Q:=fun e σ'=>(∃(c:Int) (bx:List Bx),e=.ret/\σ'=⟨[(2,num c)],bx⟩/\1<=c/\c<=100)\/(∃seen,e=.exit 0/\σ'=foE ru seen ru.length ru.length/\∀j,j<ru.length->(pr j).2=0)) (fun p m=>by
   obtain ⟨j,seen⟩:=p;obtain ⟨i1,J,W,Y⟩:=m;dsimp only at i1 J W Y ⊢;by_cases l:j<ru.length
   ·obtain ⟨s,o,i,t,P,A,F,_,_,hP,m⟩:=h.rule j l;generalize hq:pr j=q at hP m;obtain ⟨y,e⟩:=q;dsimp only at m;rcases hP with ⟨⟨e1,e2⟩,_⟩|⟨e0,⟨l1,L⟩,O⟩
    ·dsimp only at e1 e2;have he:(e !=0)=true:=by simp only [bne_iff_ne,ne_eq];omega
     exact .inr ⟨_,_,B0,(by intro e;cases e),.inl ⟨e,_,rfl,rfl,e1,e2⟩,fun M E=>zoK ru seen ru.length j s o i t P A y e M l F (m M E) he⟩
    dsimp only at e0 l1 L O;subst e0;obtain ⟨b,S,zU⟩:=zpt L O;cases b with
    |true=>exact .inr ⟨_,_,max B0 S,(by intro e;cases e),.inl ⟨22,_,rfl,rfl,by decide,by decide⟩,fun M E=>zoN ru seen ru.length j s o i t P A y M l F (m M (by omega)) (zU M (by omega))⟩
    |false=>
     obtain ⟨c,Z,zqq⟩:=zps (seen:=seen) (by omega) W L O;cases c with
     |true=>exact .inr ⟨_,_,B0+S+Z,(by intro e;cases e),.inl ⟨7,_,rfl,rfl,by decide,by decide⟩,fun M E=>zoM ru seen ru.length j s o i t P A y M l F (m M (by omega)) J (zU M (by omega)) (zqq M (by omega))⟩
     |false=>
      refine .inl ⟨_,(j+1,seen++[[.sl false 3 y]]),B0+S+Z,fun M E=>zlf ru seen ru.length j s o i t P A y M l F (m M (by omega)) J (zU M (by omega)) (by omega) (zqq M (by omega)),zbw ..,⟨by dsimp only;omega,by simp [J],fun x u=>?_,fun k hk=>?_⟩,by dsimp only;omega⟩
      ·rcases qaO.1 u with u|u;·exact W x u
       rw [qaa.1 u];exact zn5 l1 L O
      dsimp only at hk;by_cases V:k<j;·exact Y k V
      obtain rfl:k=j:=by omega
      rw [hq]
   obtain rfl:j=ru.length:=by omega
   exact .inr ⟨_,_,0,(by intro e;cases e),.inr ⟨seen,rfl,rfl,Y⟩,fun M _=>zoL ru seen ru.length ru.length M l⟩)
  (a:=(0,[])) ⟨Nat.zero_le _,rfl,(fun x u=>by cases u),fun j l=>absurd l (Nat.not_lt_zero j)⟩ (τ:=⟨[(3,.bs 1 0 0),(13,.sl false 6 ru),(14,nat ru.length),(15,num 0)],[.var [.sl false 6 ru],.row 1 []]⟩) (by kernel_rfl)
 have U:decide (Int.ofNat ru.length>256)=false:=decide_eq_false (by simp only [qaJ];omega);rcases hQ with ⟨c,bx,rfl,rfl,c1,c2⟩|⟨seen,rfl,rfl,w⟩;·refine ⟨c,⟨by omega,c2⟩,fun e=>by omega,B+1,fun N hN=>?_⟩;obtain ⟨M,rfl⟩:=pR_ N;exact puB [(11,.b false)] [(.ret,⟨[(2,num c)],bx⟩)] (pf2 U (f M (by omega))) (num c)
 refine ⟨0,by decide,fun _=>w,B+1,fun N hN=>?_⟩;obtain ⟨M,rfl⟩:=pR_ N;have f:=f M (by omega);generalize ru.length=n at U f;exact puB [(11,.b false)] [(.exit 0,foE ru seen n n)] (pf2 U f) (num 0)
section
variable (ru seen:qaV) (n j:Nat) (s:qaW) (o i:Int) (t:qaW) (vs es ls:qaV) (e:Int) (M:Nat)
def taH:St:=⟨[(3,.bs 0 0 j),(9,.sl false 6 ru),(10,nat n),(11,nat j)],[.row 1 seen]⟩
def taE:St:=⟨[(3,.bs 0 0 j),(9,.sl false 6 ru),(10,nat n),(11,nat j),(12,boolX false)],[.row 1 seen]⟩
def taN:St:=⟨[(3,.bs 2 0 (j+1)),(9,.sl false 6 ru),(10,nat n),(11,nat (j+1))],[.dead,.var (fU s o i t vs es),.row 1 (seen++[[.sl false 3 ls]])]⟩
theorem YR:canon 0 (taN ru seen n j s o i t vs es ls)=some (taH ru (seen++[[.sl false 3 ls]]) n (j+1)):=by kernel_rfl
theorem zhY (hj:j<n)(hi:ru[j]?=some (fU s o i t vs es))(hp:Gam.pureD (callF tab ext M) 39 [strX s]=some (.tup [.sl false 3 ls,num e]))(hs:seen.length=j)(hn:n<=1000):run (callF tab ext M) 0 M (loopAt 107 0) (taH ru seen n j)=some (.norm,taN ru seen n j s o i t vs es ls):=by have a:0+j=seen.length/\cZ (j+1) (23+1)=true/\false=false:=⟨by omega,jd (by omega) (by omega),rfl⟩;exact ruA [(12,.b true),(13,.e (fU s o i t vs es)),(18,.p (.tup [.sl false 3 ls,num e])),(24,.app),(25,.i (Int.ofNat (j+1)))] (pf5 (aH hj) hi hp a (ay (j:=j) (by omega)))
theorem zne:run (callF tab ext M) 0 M (loopAt 107 0) (taH ru seen n n)=some (.exit 0,taE ru seen n n):=
 ruA [(12,.b false)] (pf1 (aG (qas n)))
end
def tgts (pr:Nat->qaV×Int)(k:Nat):qaV:=(List.range k).map fun j=>[.sl false 3 (pr j).1]
theorem YM (pr:Nat->qaV×Int)(k:Nat):tgts pr (k+1)=tgts pr k++[[.sl false 3 (pr k).1]]:=by simp [tgts,List.range_succ]
theorem Tz (pr:Nat->qaV×Int)(k:Nat):(tgts pr k).length=k:=by simp [tgts]
theorem zdq (pr:Nat->qaV×Int){k j:Nat}(h:j<k):(tgts pr k)[j]?=some [.sl false 3 (pr j).1]:=by simp [tgts,h]
theorem MV (ru:qaV)(pr:Nat->qaV×Int)(B0:Nat)(h:Rules ru pr B0)(N:Nat)(hN:B0+20<=N):Gam.pureD (callF tab ext N) 107 [.agg [.sl false 6 ru]]=some (.sl false 1 (tgts pr ru.length)):=by
 obtain ⟨M,rfl⟩:=pR_ N;have A:=h.len;have a:run (callF tab ext M) 0 M (.loop (loopAt 107 0)) ⟨[(3,.bs 1 0 0),(9,.sl false 6 ru),(10,nat ru.length),(11,num 0)],[.var [.sl false 6 ru],.row 1 []]⟩=some (.exit 0,taE ru (tgts pr ru.length) ru.length ru.length):=by refine aQ (σ:=fun j=>taH ru (tgts pr j) ru.length j) (k:=ru.length) (by kernel_rfl) (fun j l=>?_) (zne ..) (by simp) (by omega);obtain ⟨s,o,i,t,y,m,q,_,_,_,u⟩:=h.rule j l;exact ⟨_,zhY ru (tgts pr j) ru.length j s o i t y m (pr j).1 (pr j).2 M l q (u M (by omega)) (Tz ..) (by omega),by rw [YR,YM]⟩
 have f:(X.bs 0 0 ru.length).data [.row 1 (tgts pr ru.length)] false=some (.sl false 1 (tgts pr ru.length)):=by have:=Tz pr ru.length;have w:(tgts pr ru.length).take ru.length=tgts pr ru.length:=List.take_of_length_le (by omega);simp [X.data,rowOf,this,w]
 generalize tgts pr ru.length=tg at a f ⊢;generalize ru.length=n at a f ⊢;exact pure_of [] [(.exit 0,taE ru tg n n)] (pf1 a) (x:=.bs 0 0 n) (bx:=[.row 1 tg]) (by kernel_rfl) f
end Ct
namespace Ct
theorem YK (ns:qaV):X.data [.row 3 ns] false (.tup [.bs 0 0 ns.length,num 0])=some (.tup [.sl false 3 ns,num 0]):=by simp only [X.data,dH,fG (bx:=[.row 3 ns]) (i:=0) (sz:=3) (es:=ns) rfl rfl,qam,num]
theorem ziT (nd:Nod)(k i s:Int)(t:qaW)(l:List Val)(fs:List (qaW×Val))(ps:qaV)(hps:∀x,x∈ps->sW x)(hlen:ps.length<=201):
  ∀M,300<=M->run (callF tab ext M) 0 M (.loop (loopAt 15 0)) ⟨[(3,.ptr 1 0 0),(6,.sl false 3 ps),(8,num 0)],[.var nd.cells,.var (Val.mk k i s t l fs).cells]⟩=some (if ps.any isAll then (.ret,plR k i s t l fs (eG 22)) else (.exit 0,plE k i s t l fs ps ps.length)):=by
 have y:∀j,j<ps.length->∃(k i:Int) (nm:qaW),ps[j]?=some [num k,num i,strX nm]/\isAll (ps.getD j [])=(k==3):=fun j f=>by obtain ⟨k,i,nm,e,_⟩:=hps _ (qaf f);exact ⟨k,i,nm,by rw [qad f,e],by rw [qaF,qad f,Option.getD_some,e];rfl⟩
 have Q:=zil (B:=20) (b:=loopAt 15 0) (nIn:=0) (n:=ps.length) (H:=fun j=>plH k i s t l fs ps j) (P:=fun j=>isAll (ps.getD j [])) (r:=fun _=>plR k i s t l fs (eG 22))
  (υ:=fun j=>plH k i s t l fs ps (j+1)) (fin:=plE k i s t l fs ps ps.length) (e:=.exit 0) (τ:=⟨[(3,.ptr 1 0 0),(6,.sl false 3 ps),(8,num 0)],[.var nd.cells,.var (Val.mk k i s t l fs).cells]⟩) (by kernel_rfl) (fun j f q M A=>?_) (fun j f q=>⟨by kernel_rfl,fun M A=>?_⟩) (fun M A=>?_) (by simp)
 ·intro M A;rcases Q with ⟨j,f,q,_,h⟩|⟨u,h⟩;·have E:ps.any isAll=true:=List.any_eq_true.2 ⟨ps[j],qaf f,by rw [qaF,qad f] at q;exact q⟩;rw [E];exact h M (by omega) (by omega)
  have E:ps.any isAll=false:=by rw [List.any_eq_false];intro x y;obtain ⟨j,f,rfl⟩:=qaR y;have:=u j f;rw [qaF,qad f,Option.getD_some] at this;simp [this]
  rw [E];exact h M (by omega) (by omega)
 ·obtain ⟨w,L,N,F,m⟩:=y j f;have O:=iP 22 (by decide) M (by omega);have m:(w==3)=true:=by rw [<-m];exact q
  have a:=aH f;generalize ps.length=n at a;exact ruA [(25,.b true),(30,.e ([num w,num L,strX N])),(33,.b true),(34,.p (strX (eG 22)))] (pf4 a F m O)
 ·obtain ⟨w,L,N,F,m⟩:=y j f;have m:(w==3)=false:=by rw [<-m];exact q
  have a:=aH f;have J:=ay (j:=j) (by omega);generalize ps.length=n at a;exact ruA [(25,.b true),(30,.e ([num w,num L,strX N])),(33,.b false),(27,.i (Int.ofNat (j+1)))] (pf4 a F m J)
 have a:=aG (qas ps.length);generalize ps.length=n at a;exact ruA [(25,.b false)] (pf1 a)
theorem OT (b:Val)(l:List Val)(j:Nat)(h:j<l.length):ah (mV b l (j+1))=ah (mV b l j)++[(zC b (Int.ofNat j) l[j]).cells]:=by simp [mV,dN,List.range_succ,qad h]
theorem iT (b:Val)(l:List Val)(j:Nat):(ah (mV b l j)).length=j:=by simp [mV,dN]
theorem zlr (k i s:Int)(t:qaW)(bl:List Val)(fs:List (qaW×Val))(hb:(Val.mk k i s t bl fs).wide)(y1 y2 y3:Int)(y4:qaW)(l:List Val)(y6:qaV)(hl:l.length<=6)(hw:∀v,v∈l->v.wide):
  ∃B,∀M,B<=M->run (callF tab ext M) 0 M (.loop (loopAt 15 1)) (elH k i s t bl fs y1 y2 y3 y4 (ah l) y6 [] 0)=some (.exit 3,elE k i s t bl fs y1 y2 y3 y4 (ah l) y6 (ah (mV (.mk k i s t bl fs) l l.length)) l.length):=by
 refine ⟨(Val.mk k i s t bl fs).size+iZ l+500,fun M w=>?_⟩;have P:=aF l;refine aQ (σ:=fun j=>elH k i s t bl fs y1 y2 y3 y4 (ah l) y6 (ah (mV (.mk k i s t bl fs) l j)) j) (k:=l.length) (by kernel_rfl) (fun j m=>?_) ?_ (by simp) (by omega);·have q:=dR m;have y:=fD (qaf m);have h:=zd4 (.mk k i s t bl fs) hb (Int.ofNat j) l[j] (hw _ (qaf m)) M (by omega);have u:=ay (j:=j) (by omega);have a:=aH (show j<(ah l).length by omega);have f:=dX (acc:=ah (mV (.mk k i s t bl fs) l j)) j 2 88 (iT ..).symm (by omega) (by omega);show ∃υ,_/\canon 0 υ=some (elH k i s t bl fs y1 y2 y3 y4 (ah l) y6 (ah (mV (.mk k i s t bl fs) l (j+1))) (j+1));rw [OT _ _ _ m];generalize ah (mV (.mk k i s t bl fs) l j)=acc at f ⊢;generalize l[j]=x at h q ⊢;generalize ah l=L at q a ⊢;obtain ⟨A,E,H,J,N,O⟩:=x;obtain ⟨K,rfl⟩:∃K,M=K+20:=⟨M-20,by omega⟩;clear y w hb hw;unfold zC at h ⊢;generalize PE _ _ _ _ _=F at h ⊢;exact dQ [(69,.b true),(81,.e (Val.mk A E H J N O).cells),(85,.p (.agg (Val.mk 9 0 0 ⟨#[]⟩ [] F).cells)),(87,.app),(71,.i (Int.ofNat (j+1)))] (pf5 a q h f u) (by kernel_rfl)
 have a:=aG (j:=l.length) (k:=(ah l).length) (by omega);generalize ah (mV (.mk k i s t bl fs) l l.length)=acc;generalize l.length=n at a ⊢;generalize ah l=L at a ⊢;exact ruA [(69,.b false)] (pf1 a)
theorem Jk (nd:Nod)(ht:nd.text.size<=60)(v:Val):∃q:SL,q.ok/\∃B,∀N,B<=N->Gam.pureD (callF tab ext N) 35 [.agg nd.cells,.agg (aO 4 v).cells]=some q.list/\Gam.pureD (callF tab ext N) 15 [.agg nd.cells,.agg (aO 4 v).cells]=some (q.els (aO 4 v)):=by
 have hb:=nD v (by decide:4<=4);have pd:=oq hb;have he:=zth v;have A:=zfJ (aO 4 v) hb;generalize aO 4 v=b at hb pd he A ⊢;generalize zo0 b=u at he A;obtain ⟨k,i,s,t,l,j⟩:=b;obtain ⟨J,L,O,P,Q,S⟩:=u;rcases AL nd.text (by omega) with ⟨e,e1,e2,hp⟩|⟨a,⟨_,pe⟩,pa,Bp,hp⟩
 ·obtain ⟨B,hB⟩:=gq hp (y:=.tup [.sl false 3 [],num e]) rfl;refine ⟨.bad (eG e),sN e,B+20,fun N W=>?_⟩;obtain ⟨M,rfl⟩:=pR_ N;have Y:=iP e ⟨by omega,by omega⟩ M (by omega);have m:=hB M (by omega);have z1:(e==0)=false:=by simp;omega
  have z2:(e !=0)=true:=by simp;omega
  exact ⟨zol nd k i s t l j [] M e _ m z1 z2 Y,zop nd k i s t l j [] M e _ m z2 Y⟩
 have m:=fun N W=>bf (hp N W) (YK a);obtain ⟨Ba,zU⟩:=zvl 74 zmh false a (AB pa) (by omega);have f:=ziT nd k i s t l j a pa pe;obtain ⟨y,e,⟨⟨hD,pi⟩,pb⟩,H⟩:=UH false a (hp:=1) (by decide) (AB pa) (by omega) he;cases F:a.any isAll with
 |true=>rw [F] at zU f;refine ⟨.bad (eG 22),sN 22,Bp+Ba+400,fun N W=>?_⟩;obtain ⟨M,rfl⟩:=pR_ N;exact ⟨zom nd k i s t l j a M _ (m M (by omega)) (zU M (by omega)) (iP 22 (by decide) M (by omega)),zoq nd k i s t l j a M _ (m M (by omega)) (f M (by omega))⟩
 |false=>
  rw [F] at zU f;have pb:=pb F;cases hz:(e !=0) with
  |true=>
   obtain ⟨y1,y2,y3,y4,t',y5,pl,y6,rfl,_⟩:=zhf hD;obtain ⟨Bg,E⟩:=gq H (y:=.tup [.agg [num y1,num y2,num y3,strX y4,.sl false 6 y5,.sl false 7 y6],num e]) rfl;cases U:(e==19) with
   |true=>
    refine ⟨.bad kE,U0,Bp+Ba+Bg+200500,fun N W=>?_⟩;obtain ⟨M,rfl⟩:=pR_ N;exact ⟨zry nd k i s t l j a M e y1 y2 y3 y4 y5 y6 (m M (by omega)) J L O P Q S (zU M (by omega)) (A M (by omega)) (E M (by omega)) U,
     zrF nd k i s t l j a M e y1 y2 y3 y4 y5 y6 (m M (by omega)) J L O P Q S a.length (A M (by omega)) (E M (by omega)) (f M (by omega)) U⟩
   |false=>
    refine ⟨.bad (eG e),sN e,Bp+Ba+Bg+200500,fun N W=>?_⟩;obtain ⟨M,rfl⟩:=pR_ N;have Y:=iP e pi M (by omega);exact ⟨zrx nd k i s t l j a M e y1 y2 y3 y4 _ y5 y6 (m M (by omega)) J L O P Q S (zU M (by omega)) (A M (by omega)) (E M (by omega)) U hz Y,
     zrE nd k i s t l j a M e y1 y2 y3 y4 _ y5 y6 (m M (by omega)) J L O P Q S a.length (A M (by omega)) (E M (by omega)) (f M (by omega)) U hz Y⟩
  |false=>
   obtain rfl:e=0:=by simpa using hz
   obtain ⟨_,w,hw,rfl,pj⟩:=pb rfl;obtain ⟨V,Z,w3,w4,n,w6⟩:=w;obtain ⟨Bg,E⟩:=gq H (y:=.tup [.agg (Val.mk V Z w3 w4 n w6).cells,num 0]) rfl;cases h8:(V !=8) with
   |true=>
    refine ⟨.bad (eG 18),sN 18,Bp+Ba+Bg+200500,fun N W=>?_⟩;obtain ⟨M,rfl⟩:=pR_ N;have Y:=iP 18 (by decide) M (by omega);exact ⟨zrv nd k i s t l j a M V Z w3 w4 _ (ah n) (au w6) (m M (by omega)) J L O P Q S (zU M (by omega)) (A M (by omega)) (E M (by omega)) h8 Y,
     zrD nd k i s t l j a M V Z w3 w4 _ (ah n) (au w6) (m M (by omega)) J L O P Q S a.length (A M (by omega)) (f M (by omega)) (E M (by omega)) h8 Y⟩
   |false=>
    obtain ⟨_,_,_,_,_,_,_,_,_,e0,_,pk,_,pg,_⟩:=d11 (h:=6) pj;cases e0;have ll:=aF n;simp only [Val.wide] at hw;have pf:∀v,v∈n->v.wide:=fun v hv=>qZ hw.2.1 hv;cases hn:(Int.ofNat (ah n).length==0) with
    |true=>
     refine ⟨.bad kE,U0,Bp+Ba+Bg+200500,fun N W=>?_⟩;obtain ⟨M,rfl⟩:=pR_ N;exact ⟨zru nd k i s t l j a M V Z w3 w4 (ah n) (au w6) (m M (by omega)) J L O P Q S (zU M (by omega)) (A M (by omega)) (E M (by omega)) h8 hn,
      zrB nd k i s t l j a M V Z w3 w4 (ah n) (au w6) (m M (by omega)) J L O P Q S a.length (A M (by omega)) (f M (by omega)) (E M (by omega)) h8 hn⟩
    |false=>
     obtain ⟨Be,ph⟩:=zlr k i s t l j pd V Z w3 w4 n (au w6) (by omega) pf;have pc:decide (Int.ofNat (ah n).length>64)=false:=by simp;omega
     refine ⟨.good n,⟨?_,by omega,fun v hv=>⟨pf v hv,pg _ (by rw [dN];exact qah.2 ⟨v,hv,rfl⟩)⟩⟩,Bp+Ba+Bg+Be+200500,fun N W=>?_⟩
     ·have h0:(ah n).length≠0:=fun h=>by rw [h] at hn;cases hn
      omega
     obtain ⟨M,rfl⟩:=pR_ N;exact ⟨zrt nd k i s t l j a M V Z w3 w4 (ah n) (au w6) (m M (by omega)) J L O P Q S (zU M (by omega)) (A M (by omega)) (E M (by omega)) h8 hn pc,
      zrA nd k i s t l j a M V Z w3 w4 (ah n) (au w6) (m M (by omega)) J L O P Q S a.length (A M (by omega)) (f M (by omega)) (E M (by omega)) h8 hn pc _ _ (iT ..).symm (ph M (by omega))⟩
end Ct
open Go.Em
def txN (l:List UInt8):qaW:=⟨l.toArray⟩
def iV (x:Int):Val:=.mk 2 x 0 ⟨#[]⟩ [] []
def lV (xs:List Int):Val:=.mk 8 0 0 ⟨#[]⟩ (xs.map iV) []
def bV (xs:List Int):Val:=.mk 9 0 0 ⟨#[]⟩ [] [(txN [108,105,110,101,115],lV xs)]
def eV (xs:List Int)(i x:Int):Val:=.mk 9 0 0 ⟨#[]⟩ [] [(txN [98,111,100,121],bV xs),(txN [105,110,100,101,120],iV i),(txN [105,116,101,109],iV x)]
section
variable {x:Int} {a b:Bool} {N:Nat}
end
section
variable {N:Nat} {xs:List Int} (hx:xs.length<=200)
include hx
end
def ZK:C->List (C×C)
 |.seq a b|.cond _ a b=>ZK a++ZK b
 |.block _ b|.loop b=>ZK b
 |.rf _ _ _ a b=>(a,b)::(ZK a++ZK b)
 |_=>[]
noncomputable def boA:C:=((ZK (bodyOf tab 14)).getD 0 (.skip,.skip)).1
noncomputable def boB:C:=((ZK (bodyOf tab 14)).getD 0 (.skip,.skip)).2
noncomputable def zcg (st:LoopState)(p:Option Ex):Bx:=.loop st p [(2,.ptr 1 0 0),(4,.ptr 2 0 0),(5,.ptr 3 0 0),(8,.ptr 4 0 0)] [25,26] boA boB
def zT:List X:=[num 0,num 0,num 0,strX ⟨#[]⟩,.sl true 6 [],.sl true 7 []]
section
variable {N:Nat} {xs:List Int} (hx:xs.length<=200) {x:Int} {j:Nat} {outs:qaV}
end
def Yo (L:qaV)(bc:List X)(j:Nat):List (Nat×X):=[(0,.yl 0),(2,.dp bc),(7,.sl false 6 L),(8,nat L.length),(9,nat j)]
section
variable (L outs o1:qaV) (bc:List X) (xs:List Int) (x:Int) (j:Nat) {N:Nat}
variable (hlt:decide (Int.ofNat j<Int.ofNat L.length)=true) (hlt0:decide (Int.ofNat 0<Int.ofNat L.length)=true) (he:L[j]?=some (iV x).cells) (he0:L[0]?=some (iV x).cells)
 (hr:Gam.pureD (callF tab ext N) 32 [.sl false 7 [strX (txN [98,111,100,121])::(bV xs).cells,strX (txN [105,110,100,101,120])::(iV (Int.ofNat j)).cells,strX (txN [105,116,101,109])::(iV x).cells]]=some (.agg (eV xs (Int.ofNat j) x).cells))
 (hr0:Gam.pureD (callF tab ext N) 32 [.sl false 7 [strX (txN [98,111,100,121])::(bV xs).cells,strX (txN [105,110,100,101,120])::(iV (Int.ofNat 0)).cells,strX (txN [105,116,101,109])::(iV x).cells]]=some (.agg (eV xs (Int.ofNat 0) x).cells))
 (hN:60<=N)
include hN
include hlt he hr in
include hlt0 he0 hr0 in
include hlt he hr in
include hlt0 he0 hr0 in
omit hN in
end
namespace Ct
noncomputable def sbS (nd:Nod)(j:Nat)(outs:qaV):List Bx:=[zcg .ready none,.var nd.cells,.var [.sl true 6 []],.var [strX ⟨#[]⟩],.var [.bs 5 0 j],.row 6 outs]
noncomputable def sbI (nd:Nod)(j:Nat)(outs:qaV):List Bx:=[zcg .ready none,.var nd.cells,.var [.sl true 6 []],.var [strX ⟨#[]⟩],.var [.bs 6 0 j],.dead,.row 6 outs]
noncomputable def sbE (nd:Nod)(r:qaW)(j:Nat)(outs:qaV):List Bx:=[zcg .done (some .ret),.var nd.cells,.var [.sl true 6 []],.var [strX r],.var [.bs 5 0 j],.row 6 outs]
noncomputable def sbH (nd:Nod)(p:Bool)(t:qaW)(r:List Bx):List Bx:=(if p then zcg .ready none else zcg .done (some .ret))::.var nd.cells::.var [.sl true 6 []]::.var [strX t]::r
def zO (nd:Nod)(E:Val):List X:=[.agg [.sl false 6 nd.rules],.agg E.cells,.agg (dB nd.ty.1 nd.ty.2.1 nd.ty.2.2.1 nd.ty.2.2.2 nd.words nd.elem nd.fields)]
section
variable {N:Nat} (nd:Nod) (E w:Val) (j:Nat) (outs:qaV)
theorem zdY (h:Gam.pureD (callF tab ext N) 37 (zO nd E)=some (.tup [.agg w.cells,num 0]))(hj:j<4000)(ho:j=outs.length):callF tab ext (N+1) .yl [.yl 0,nat j,.agg E.cells] (sbS nd j outs)=some (.v (.bool true),sbI nd (j+1) (outs++[w.cells])):=by
 have f:(outs++[zT])[0+j]?=some zT:=by subst ho;simp
 have a:(outs++[zT]).set (0+j) w.cells=outs++[w.cells]:=by subst ho;simp
 rw [<-a];obtain ⟨A,B,F,H,J,L⟩:=E;obtain ⟨l,m,n,q,u,y⟩:=w;exact yiA [(33,.p (.tup [.agg (Val.mk l m n q u y).cells,num 0])),(44,.app),(45,.at),(1000045,.st zT)] (pf4 h (dX j 5 88 ho (by omega) (by omega)) (show j<j+1 by omega) f)
theorem zio (x:Int)(h:Gam.pureD (callF tab ext N) 37 (zO nd E)=some (.tup [.agg w.cells,num x]))(hx:(x !=0)=true)(rs:qaW)(D5:Gam.pureD (callF tab ext N) 38 [num x]=some (strX rs)):callF tab ext (N+1) .yl [.yl 0,nat j,.agg E.cells] (sbS nd j outs)=some (.v (.bool false),sbE nd rs j outs):=by obtain ⟨u,y,A,B,F,H⟩:=E;obtain ⟨a,f,l,m,n,q⟩:=w;exact yiA [(33,.p (.tup [.agg (Val.mk a f l m n q).cells,num x])),(37,.b true),(39,.p (strX rs))] (pf3 h hx D5)
end
noncomputable def seA:C:=((ZK (bodyOf tab 13)).getD 0 (.skip,.skip)).1
noncomputable def seB:C:=((ZK (bodyOf tab 13)).getD 0 (.skip,.skip)).2
noncomputable def znF:Bx:=.loop .ready none [(8,.ptr 1 0 0)] [23,24] seA seB
noncomputable def seS (j:Nat)(outs:qaV):List Bx:=[znF,.var [.bs 2 0 j],.row 6 outs]
noncomputable def seI (j:Nat)(outs:qaV):List Bx:=[znF,.var [.bs 3 0 j],.dead,.row 6 outs]
theorem zdU {N:Nat}(E:Val)(j:Nat)(outs:qaV)(hj:j<4000)(ho:j=outs.length):callF tab ext (N+1) .yl [.yl 0,nat j,.agg E.cells] (seS j outs)=some (.v (.bool true),seI (j+1) (outs++[E.cells])):=by
 have f:(outs++[zT])[0+j]?=some zT:=by subst ho;simp
 have a:(outs++[zT]).set (0+j) E.cells=outs++[E.cells]:=by subst ho;simp
 rw [<-a];obtain ⟨h,l,m,n,q,u⟩:=E;exact yiA [(29,.app),(30,.at),(1000030,.st zT)] (pf3 (dX j 2 88 ho (by omega) (by omega)) (show j<j+1 by omega) f)
section
variable (nd:Nod) (L outs o1:qaV) (b E:Val) (x1 x2 x3:Int) (x4:qaW) (x5:List Val) (x6:List (qaW×Val)) (j:Nat) (N:Nat) (rs:qaW)
noncomputable def sn0:St:=⟨Yo L b.cells 0,sbS nd 0 []⟩
noncomputable def snH:St:=⟨Yo L b.cells j,sbI nd j outs⟩
noncomputable def snE:St:=⟨Yo L b.cells j++[(27,boolX true)],sbH nd false rs [.var [.bs 6 0 j],.dead,.row 6 outs,.var (Val.mk x1 x2 x3 x4 x5 x6).cells,.var E.cells]⟩
noncomputable def zum:St:=⟨Yo L b.cells 0++[(27,boolX true)],sbH nd false rs [.var [.bs 5 0 0],.row 6 [],.var (Val.mk x1 x2 x3 x4 x5 x6).cells,.var E.cells]⟩
theorem Ez:canon 6 (sn0 nd L b)=some (sn0 nd L b):=by obtain ⟨a,f,h,j,l,m⟩:=b;kernel_rfl
variable (hlt:decide (Int.ofNat j<Int.ofNat L.length)=true) (he:L[j]?=some (Val.mk x1 x2 x3 x4 x5 x6).cells)
 (hr:Gam.pureD (callF tab ext (N+60)) 32 [.sl false 7 [strX nmB::b.cells,strX nmX::(inV (Int.ofNat j)).cells,strX nmI::(Val.mk x1 x2 x3 x4 x5 x6).cells]]=some (.agg E.cells))
include hlt he hr
theorem zh9 (hy:callF tab ext (N+60) .yl [.yl 0,nat j,.agg E.cells] (sbS nd j outs)=some (.v (.bool true),sbI nd (j+1) o1))(hj:j<4000):
  ∃υ,run (callF tab ext (N+60)) 6 (N+60) (loopAt 75 0) (snH nd L outs b j)=some (.norm,υ)/\canon 6 υ=some (snH nd L o1 b (j+1)):=by
 obtain ⟨q,u,w,y,A,B⟩:=b;obtain ⟨a,f,h,l,m,n⟩:=E;exact dQ [(10,.b true),(12,.e (Val.mk x1 x2 x3 x4 x5 x6).cells),(22,.p (.agg (Val.mk a f h l m n).cells)),(26,.r (.v (.bool true)) (sbI nd (j+1) o1)),(28,.i (Int.ofNat (j+1)))] (pf5 hlt he hr hy (ay (j:=j) (by omega))) (by kernel_rfl)
theorem zh8 (hy:callF tab ext (N+60) .yl [.yl 0,nat j,.agg E.cells] (sbS nd j outs)=some (.v (.bool false),sbE nd rs j outs)):
  run (callF tab ext (N+60)) 6 (N+60) (loopAt 75 0) (snH nd L outs b j)=some (.ret,snE nd L outs b E x1 x2 x3 x4 x5 x6 j rs):=by
 obtain ⟨q,u,w,y,A,B⟩:=b;obtain ⟨a,f,h,l,m,n⟩:=E;exact ruA [(10,.b true),(12,.e (Val.mk x1 x2 x3 x4 x5 x6).cells),(22,.p (.agg (Val.mk a f h l m n).cells)),(26,.r (.v (.bool false)) (sbE nd rs j outs))] (pf4 hlt he hr hy)
omit hlt he hr
variable (hlt0:decide (Int.ofNat 0<Int.ofNat L.length)=true) (he0:L[0]?=some (Val.mk x1 x2 x3 x4 x5 x6).cells)
 (hr0:Gam.pureD (callF tab ext (N+60)) 32 [.sl false 7 [strX nmB::b.cells,strX nmX::(inV (Int.ofNat 0)).cells,strX nmI::(Val.mk x1 x2 x3 x4 x5 x6).cells]]=some (.agg E.cells))
include hlt0 he0 hr0
theorem zdJ (hy:callF tab ext (N+60) .yl [.yl 0,nat 0,.agg E.cells] (sbS nd 0 [])=some (.v (.bool true),sbI nd 1 o1)):
  ∃υ,run (callF tab ext (N+60)) 6 (N+60) (loopAt 75 0) (sn0 nd L b)=some (.norm,υ)/\canon 6 υ=some (snH nd L o1 b 1):=by
 obtain ⟨q,u,w,y,A,B⟩:=b;obtain ⟨a,f,h,l,m,n⟩:=E;exact dQ [(10,.b true),(12,.e (Val.mk x1 x2 x3 x4 x5 x6).cells),(22,.p (.agg (Val.mk a f h l m n).cells)),(26,.r (.v (.bool true)) (sbI nd 1 o1)),(28,.i (Int.ofNat 1))] (pf5 hlt0 he0 hr0 hy (ay (j:=0) (by omega))) (by kernel_rfl)
theorem zdI (hy:callF tab ext (N+60) .yl [.yl 0,nat 0,.agg E.cells] (sbS nd 0 [])=some (.v (.bool false),sbE nd rs 0 [])):
  run (callF tab ext (N+60)) 6 (N+60) (loopAt 75 0) (sn0 nd L b)=some (.ret,zum nd L b E x1 x2 x3 x4 x5 x6 rs):=by
 obtain ⟨n,q,u,w,y,A⟩:=b;obtain ⟨a,f,h,j,l,m⟩:=E;exact ruA [(10,.b true),(12,.e (Val.mk x1 x2 x3 x4 x5 x6).cells),(22,.p (.agg (Val.mk a f h j l m).cells)),(26,.r (.v (.bool false)) (sbE nd rs 0 []))] (pf4 hlt0 he0 hr0 hy)
omit hlt0 he0 hr0
theorem znk (hn:j=L.length):run (callF tab ext N) 6 N (loopAt 75 0) (snH nd L outs b j)=some (.exit 0,⟨Yo L b.cells j++[(10,boolX false)],sbI nd j outs⟩):=by obtain ⟨a,f,h,l,m,n⟩:=b;exact ruA [(10,.b false)] (pf1 (aG (j:=j) (k:=L.length) (by omega)))
end
section
variable (L outs o1:qaV) (b E:Val) (x1 x2 x3:Int) (x4:qaW) (x5:List Val) (x6:List (qaW×Val)) (j:Nat) (N:Nat)
noncomputable def ee0:St:=⟨Yo L b.cells 0,seS 0 []⟩
noncomputable def eeH:St:=⟨Yo L b.cells j,seI j outs⟩
theorem zbW:canon 3 (ee0 L b)=some (ee0 L b):=by obtain ⟨a,f,h,j,l,m⟩:=b;kernel_rfl
theorem zlt (hlt:decide (Int.ofNat j<Int.ofNat L.length)=true)(he:L[j]?=some (Val.mk x1 x2 x3 x4 x5 x6).cells)
  (hr:Gam.pureD (callF tab ext (N+60)) 32 [.sl false 7 [strX nmB::b.cells,strX nmX::(inV (Int.ofNat j)).cells,strX nmI::(Val.mk x1 x2 x3 x4 x5 x6).cells]]=some (.agg E.cells)) (hy:callF tab ext (N+60) .yl [.yl 0,nat j,.agg E.cells] (seS j outs)=some (.v (.bool true),seI (j+1) o1)) (hj:j<4000):
  ∃υ,run (callF tab ext (N+60)) 3 (N+60) (loopAt 75 0) (eeH L outs b j)=some (.norm,υ)/\canon 3 υ=some (eeH L o1 b (j+1)):=by
 obtain ⟨q,u,w,y,A,B⟩:=b;obtain ⟨a,f,h,l,m,n⟩:=E;exact dQ [(10,.b true),(12,.e (Val.mk x1 x2 x3 x4 x5 x6).cells),(22,.p (.agg (Val.mk a f h l m n).cells)),(26,.r (.v (.bool true)) (seI (j+1) o1)),(28,.i (Int.ofNat (j+1)))] (pf5 hlt he hr hy (ay (j:=j) (by omega))) (by kernel_rfl)
theorem zfM (hlt0:decide (Int.ofNat 0<Int.ofNat L.length)=true)(he0:L[0]?=some (Val.mk x1 x2 x3 x4 x5 x6).cells)
  (hr0:Gam.pureD (callF tab ext (N+60)) 32 [.sl false 7 [strX nmB::b.cells,strX nmX::(inV (Int.ofNat 0)).cells,strX nmI::(Val.mk x1 x2 x3 x4 x5 x6).cells]]=some (.agg E.cells)) (hy:callF tab ext (N+60) .yl [.yl 0,nat 0,.agg E.cells] (seS 0 [])=some (.v (.bool true),seI 1 o1)):
  ∃υ,run (callF tab ext (N+60)) 3 (N+60) (loopAt 75 0) (ee0 L b)=some (.norm,υ)/\canon 3 υ=some (eeH L o1 b 1):=by
 obtain ⟨q,u,w,y,A,B⟩:=b;obtain ⟨a,f,h,l,m,n⟩:=E;exact dQ [(10,.b true),(12,.e (Val.mk x1 x2 x3 x4 x5 x6).cells),(22,.p (.agg (Val.mk a f h l m n).cells)),(26,.r (.v (.bool true)) (seI 1 o1)),(28,.i (Int.ofNat 1))] (pf5 hlt0 he0 hr0 hy (ay (j:=0) (by omega))) (by kernel_rfl)
theorem zo6 (hn:j=L.length):run (callF tab ext N) 3 N (loopAt 75 0) (eeH L outs b j)=some (.exit 0,⟨Yo L b.cells j++[(10,boolX false)],seI j outs⟩):=by obtain ⟨a,f,h,l,m,n⟩:=b;exact ruA [(10,.b false)] (pf1 (aG (j:=j) (k:=L.length) (by omega)))
end
end Ct
section
variable (xs:List Int) (N:Nat) (hN:1100<=N) (hx:xs.length<=200)
include hN hx
end
section
variable (L outs:qaV) (bc:List X) (n:Nat) (N:Nat)
noncomputable def zto (st:LoopState)(p:Option Ex):Bx:=.loop st p [(2,.ptr 0 0 0),(4,.ptr 2 0 0),(5,.ptr 3 0 0),(8,.ptr 4 0 0)] [25,26] boA boB
end
section
variable {xs:List Int} (hx:xs.length<=200) {N:Nat} (hN:1300<=N)
include hx hN
omit hx in
end
namespace Ct
def dA (a b c:Int)(s:qaW)(l f:qaV):List X:=[num a,num b,num c,strX s,.sl false 6 l,.sl false 7 f]
theorem PL {a b c:Int}{s:qaW}{l f:qaV}(hd:D T H 1 (dA a b c s l f)):val.Is T 0 (.agg (dA a b c s l f)):=by obtain ⟨E,m,n,q⟩:=mP hd;obtain rfl:=qaa.1 n;obtain ⟨_,_,_,⟨_,u⟩,⟨_,w,y,h⟩,⟨_,A,B,j⟩,_⟩:=q;exact ⟨H-1,_,rfl,by omega,⟨a,rfl⟩,⟨b,rfl⟩,⟨c,rfl⟩,⟨s,rfl,by grind[bW]⟩,⟨false,l,rfl,by grind[bW],h⟩,⟨false,f,rfl,by grind[bW],j⟩,trivial⟩
theorem zhy {x:X}(hx:val.Is T 0 x):∃(a b c:Int) (s:qaW) (t:Bool) (l:qaV) (t':Bool) (f:qaV),x=.agg [num a,num b,num c,strX s,.sl t 6 l,.sl t' 7 f]/\∃H,D T H 1 (dA a b c s l f):=by
 obtain ⟨h',xs,rfl,j,h⟩:∃h' xs,x=.agg xs/\0<=h'/\IsL T h' [int,int,int,.s,.slh 6 1,.slh 7 2] xs:=hx
 match xs,h with
 |[_,_,_,_,_,_],⟨⟨a,rfl⟩,⟨b,rfl⟩,⟨c,rfl⟩,⟨s,rfl,k1⟩,⟨t,l,rfl,k2,k3⟩,⟨t',f,rfl,k4,k5⟩,_⟩=>unfold bW at k1 k2 k4;refine ⟨a,b,c,s,t,l,t',f,rfl,h'+1,dI (by omega) (qaa.2 rfl) ?_⟩;rw [Int.add_sub_cancel];exact ⟨⟨rfl,(fun a e=>by cases e),(fun a e=>by cases e)⟩,⟨rfl,(fun a e=>by cases e),(fun a e=>by cases e)⟩,⟨rfl,(fun a e=>by cases e),(fun a e=>by cases e)⟩,⟨by omega,by omega⟩,⟨rfl,by omega,by omega,k3⟩,⟨rfl,by omega,by omega,k5⟩,trivial⟩
theorem WR {a b c:Int}{s:qaW}{l f:qaV}(hd:D T H 1 (dA a b c s l f)):∃g,∃B,∀N,B<=N->Gam.pureD (callF tab ext N) 65 [.agg (dA a b c s l f)]=some (boolX g):=by
 obtain ⟨o,m,r,bx,h,n,B,q⟩:=eU (Dd.FY _ (qaa.2 rfl)) rfl rfl (xs:=[.agg (dA a b c s l f)]) ⟨PL hd,trivial⟩ (bx:=[]) trivial;rcases qal.1 m with rfl|m;·obtain rfl:=qQ n;have h:r=boolX true:=h;subst h;exact ⟨true,B,fun N j=>bf (q N j) rfl⟩
 obtain rfl:=qaa.1 m;obtain rfl:=qQ n;have h:r=boolX false:=h;subst h;exact ⟨false,B,fun N j=>bf (q N j) rfl⟩
theorem zhU {w e f:qaV}(hd:D T (H+1) 14 (dB q1 q2 q3 q4 w e f)):typ.Is T 0 (.agg (dB q1 q2 q3 q4 w e f)):=by obtain ⟨F,m,n,l⟩:=mP hd;obtain rfl:=qaa.1 n;rw [Int.add_sub_cancel] at l;obtain ⟨_,_,_,_,⟨_,q,u,a⟩,⟨_,y,A,h⟩,⟨_,B,E,j⟩,_⟩:=l;exact ⟨H,_,rfl,by omega,⟨q1,rfl⟩,⟨q2,rfl⟩,⟨q3,rfl⟩,⟨q4,rfl⟩,⟨false,w,rfl,by grind[bW],a⟩,⟨false,e,rfl,by grind[bW],h⟩,⟨false,f,rfl,by omega,by omega,j⟩,trivial⟩
theorem Ko {w e f:qaV}(hT:D T (H+1) 14 (dB q1 q2 q3 q4 w e f)){ls:qaV}(hl:ls.length<=201)(hd:∀x,x∈ls->D T 1 7 x):∃g,∃B,∀N,B<=N->Gam.pureD (callF tab ext N) 78 [.agg (dB q1 q2 q3 q4 w e f),.sl false 3 ls]=some (boolX g):=by
 obtain ⟨o,j,r,bx,a,l,B,m⟩:=eU (Dd.zks _ (qaa.2 rfl)) rfl rfl (xs:=[.agg (dB q1 q2 q3 q4 w e f),.sl false 3 ls]) ⟨zhU hT,⟨false,ls,1,rfl,by decide,by grind[bW],hd⟩,trivial⟩ (bx:=[]) trivial;rcases qal.1 j with rfl|j;·obtain rfl:=qQ l;have a:r=boolX true:=a;subst a;exact ⟨true,B,fun N h=>bf (m N h) rfl⟩
 obtain rfl:=qaa.1 j;obtain rfl:=qQ l;have a:r=boolX false:=a;subst a;exact ⟨false,B,fun N h=>bf (m N h) rfl⟩
theorem zea {H1 H2:Int}{a b c:Int}{s:qaW}{l f:qaV}(h1:D T H1 1 (dA a b c s l f)){ls:qaV}(hl0:1<=ls.length)(hl:ls.length<=201)(hd:∀x,x∈ls->D T 1 7 x){a2 b2 c2:Int}{s2:qaW}{l2 f2:qaV}(h2:D T H2 1 (dA a2 b2 c2 s2 l2 f2)):
  ∃(a3 b3 c3:Int) (s3:qaW) (l3 f3:qaV) (e:Int),(∃H3,D T H3 1 (dA a3 b3 c3 s3 l3 f3))/\(0<=e/\e<=100)/\∃B,∀N,B<=N->Gam.pureD (callF tab ext N) 79 [.agg (dA a b c s l f),.sl false 3 ls,.agg (dA a2 b2 c2 s2 l2 f2)]=some (.tup [.agg (dA a3 b3 c3 s3 l3 f3),num e]):=by
 obtain ⟨o,w,r,bx,h,j,B,m⟩:=eU (Dd.zkr _ (qaa.2 rfl)) rfl rfl (xs:=[.agg (dA a b c s l f),.sl false 3 ls,.agg (dA a2 b2 c2 s2 l2 f2)]) ⟨PL h1,⟨false,ls,1,rfl,by decide,by omega,by omega,hd⟩,PL h2,trivial⟩ (bx:=[]) trivial;obtain rfl:=qaa.1 w;obtain rfl:=qQ j;obtain ⟨xs,rfl,u⟩:∃xs,r=.tup xs/\IsL T 0 [val,err] xs:=h
 match xs,u with
 |[x,_],⟨hx,⟨e,rfl,e1,e2⟩,_⟩=>obtain ⟨a3,b3,c3,s3,t,l3,y,f3,rfl,n⟩:=zhy hx;exact ⟨a3,b3,c3,s3,l3,f3,e,n,⟨e1,e2⟩,B,fun N q=>bf (m N q) rfl⟩
end Ct
namespace Ct.Ff
def zw9:List Ctr:=[mkC 206 [.s] [] none [((.kb true),[]),((.kb false),[])]]
theorem zjQ:ak T Gm zw9:=hoA K3 zkK
def zxm:List Ctr:=[(dO 150 [xQ] [] none [(.kb true,[],[aj ⟨2,0⟩ (.k 7),aj ⟨6,0⟩ (.k 0),aj ⟨7,0⟩ (.k 0)]),(.kb true,[],bd 2 8 8++[aj ⟨7,0⟩ (.k 0)]),(.kb true,[],bd 2 9 9++[aj ⟨6,0⟩ (.k 0)]),(.kb true,[],bd 2 10 10++[aj (.k 1) ⟨6,0⟩,aj ⟨6,0⟩ (.k 1),aj ⟨7,0⟩ (.k 0)]),(.kb true,[],[aj (.k 11) ⟨2,0⟩,aj ⟨6,0⟩ (.k 0),aj ⟨7,0⟩ (.k 0)]),(.kb false,[],[])]).with (KG 2)]
theorem zjX:ak T Gm zxm:=hoB K3 ((iQ [⟨[1,3,4],fun e n=>(n+1,[aj (e 3) ⟨n+0,8⟩,aj ⟨n+0,0⟩ ((e 10).up (1))],[(1,.ptr 0 (.k 0) 0),(3,.ptr 1 (.k 0) 0),(4,.i .i64 ⟨n+0,0⟩)],[.var [.i .i64 (e 3),.i .i64 (e 4),.i .i64 (e 5),.s (e 6),.sl none 6 21 (e 7) (e 8),.sl none 7 22 (e 7) (e 10)],.var [.i .i64 (e 3),.i .i64 (e 4),.i .i64 (e 5),.s (e 6),.sl none 6 21 (e 7) (e 8),.sl none 7 22 (e 7) (e 10)]],(e 10,⟨n+0,0⟩))⟩])) zjQ
def zu7:List Ctr:=[dO 150 [xQ] [] none [(.kb true,[],[aj ⟨2,0⟩ (.k 7),aj ⟨6,0⟩ (.k 0),aj ⟨7,0⟩ (.k 0)]),(.kb true,[],bd 2 8 8++[aj ⟨7,0⟩ (.k 0)]),(.kb true,[],bd 2 9 9++[aj ⟨6,0⟩ (.k 0)]),(.kb true,[],bd 2 10 10++[aj (.k 1) ⟨6,0⟩,aj ⟨6,0⟩ (.k 1),aj ⟨7,0⟩ (.k 0)]),(.kb true,[],[aj (.k 11) ⟨2,0⟩,aj ⟨6,0⟩ (.k 0),aj ⟨7,0⟩ (.k 0)]),(.kb false,[],[])]]
theorem zbk:ak T Gm zu7:=.one fun ρ h f a=>zjX _ (qaa.2 rfl) ρ h f ⟨a.zero,a.pos,a.pre,Xd a.zero (s:=2) a.pos (by decide),a.args,a.inb⟩
def zwZ:List Ctr:=[mkC 258 [tfd,.dp [.s]] [] none [(.kb true,[]),(.kb false,[])]]
theorem zaU:ak T Gm zwZ:=hoA K3 .nil
def zsh:List Ctr:=[dO 202 [.slr 11 15 0 100,.fn 258 [.dp [.s]]] [] none [(.ir .i64 (-1) 100,[],[lt 4 1 2])]]
theorem Rh:ak T Gm zsh:=hoB K3 ((iQ [⟨[0,1,7,8],fun e n=>(n+1,[aj (.k 0) ⟨n+0,0⟩,aj ⟨n+0,0⟩ (e 1)],[(0,.sl none 11 15 (e 0) (e 1)),(1,.fn 258 [.dp [.s (e 2)]]),(7,.i .i64 (e 1)),(8,.i .i64 ⟨n+0,0⟩)],[],(e 1,⟨n+0,0⟩))⟩])) zaU
def zuN:List Ctr:=[dO 207 [typ,.s] [] none [(.tu [tfd,.kb true],[],[lt 10 1 1,aj (.k 1) ⟨1,0⟩]),(.tu [tfd,.kb false],[],[])]]
theorem zaY:ak T Gm zuN:=hoA K3 (hpA zaU Rh)
def zso:List Ctr:=[mkC 68 [.s,.s] [] none [((int),[])]]
theorem KR:ak T Gm zso:=hoA K3 zbp
def zxl:List Ctr:=[mkC 153 [zlg,.s] [] none [(int,[])]]
theorem za3:ak T Gm zxl:=hoA K3 KR
end Ct.Ff
namespace Ct.Ff
theorem d22 {x:List X}(hd:D T H 22 x):∃(nm:qaW) (a b c:Int) (s:qaW) (t:Bool) (l:qaV) (t':Bool) (f:qaV),x=[strX nm,num a,num b,num c,strX s,.sl t 6 l,.sl t' 7 f]/\zlg.Is T 0 (.agg [strX nm,num a,num b,num c,strX s,.sl false 6 l,.sl false 7 f]):=by
 obtain ⟨u,h,j,m⟩:=mP hd;obtain rfl:=qaa.1 j
 match x,m with
 |[_,_,_,_,_,_,_],⟨k0,k1,k2,k3,k4,k5,k6,_⟩=>obtain ⟨nm,rfl,w,y⟩:=zhd k0;obtain ⟨a,rfl⟩:=jX k1;obtain ⟨b,rfl⟩:=jX k2;obtain ⟨c,rfl⟩:=jX k3;obtain ⟨s,rfl,A,B⟩:=zhd k4;obtain ⟨t,l,rfl,E,F,n⟩:=Dv k5;obtain ⟨t',f,rfl,J,L,q⟩:=Dv k6;exact ⟨nm,a,b,c,s,t,l,t',f,rfl,H-1,_,rfl,by omega,⟨nm,rfl,by grind[bW]⟩,⟨a,rfl⟩,⟨b,rfl⟩,⟨c,rfl⟩,⟨s,rfl,by grind[bW]⟩,⟨false,l,rfl,by grind[bW],n⟩,⟨false,f,rfl,by omega,by omega,q⟩,trivial⟩
theorem zhh {x:List X}(hd:D T H 22 x){key:qaW}(hk:key.size<=1000000):∃(r:Int) (nm:qaW) (a b c:Int) (s:qaW) (t:Bool) (l:qaV) (t':Bool) (f:qaV),x=[strX nm,num a,num b,num c,strX s,.sl t 6 l,.sl t' 7 f]/\∃B,∀N,B<=N->Gam.pureD (callF tab ext N) 153 [.agg [strX nm,num a,num b,num c,strX s,.sl false 6 l,.sl false 7 f],strX key]=some (num r):=by obtain ⟨nm,a,b,c,s,t,l,t',f,rfl,q⟩:=d22 hd;obtain ⟨o,u,r,bx,h,j,B,m⟩:=eU (za3 _ (qaa.2 rfl)) rfl rfl (xs:=[.agg [strX nm,num a,num b,num c,strX s,.sl false 6 l,.sl false 7 f],strX key]) ⟨q,⟨key,rfl,by grind[bW]⟩,trivial⟩ (bx:=[]) trivial;obtain rfl:=qaa.1 u;obtain rfl:=qQ j;obtain ⟨z,rfl⟩:∃z,r=num z:=h;exact ⟨z,nm,a,b,c,s,t,l,t',f,rfl,B,fun N n=>bf (m N n) rfl⟩
section
variable (fl:Bool) (l:qaV) (key:qaW) (n lo hi:Nat)
def bsH:St:=⟨[(0,.sl fl 7 l),(1,strX key),(2,.fn 153 []),(8,nat n),(9,nat lo),(10,nat hi)],[]⟩
def bsE:St:=⟨[(0,.sl fl 7 l),(1,strX key),(2,.fn 153 []),(8,nat n),(9,nat lo),(10,nat hi),(17,boolX false)],[]⟩
theorem LY:canon 0 (bsH fl l key n lo hi)=some (bsH fl l key n lo hi):=by kernel_rfl
theorem zpf (h:¬lo<hi)(M:Nat):run (callF tab ext M) 0 M (loopAt 152 0) (bsH fl l key n lo hi)=some (.exit 0,bsE fl l key n lo hi):=
 ruA [(17,.b false)] (pf1 (aG h))
theorem zce (r:Int)(nm:qaW)(a b c:Int)(s:qaW)(t:Bool)(l1:qaV)(t':Bool)(f:qaV)(hlt:lo<hi)(hh:hi<4294967)(hg:l[(lo+hi) /2]?=some [strX nm,num a,num b,num c,strX s,.sl t 6 l1,.sl t' 7 f])(M:Nat)(hc:Gam.pureD (callF tab ext M) 153 [.agg [strX nm,num a,num b,num c,strX s,.sl false 6 l1,.sl false 7 f],strX key]=some (num r)):
  (r<0->run (callF tab ext M) 0 M (loopAt 152 0) (bsH fl l key n lo hi)=some (.norm,bsH fl l key n ((lo+hi) /2+1) hi))/\
  (¬r<0->run (callF tab ext M) 0 M (loopAt 152 0) (bsH fl l key n lo hi)=some (.norm,bsH fl l key n lo ((lo+hi) /2))):=by
 have q:=aH hlt;have u:=zmj (a:=lo) (b:=hi) (by omega) (by omega);have w:=zhT (s:=lo+hi) (by omega);have y:=zih (s:=lo+hi);have A:=ze4 (s:=lo+hi) (by omega);have B:=ay (j:=(lo+hi) /2) (by omega);constructor;·intro m;have h:=decide_eq_true m;exact ruA [(17,.b true),(20,.i (Int.ofNat (lo+hi))),(21,.i (Int.ofNat (lo+hi))),(22,.i (Int.ofNat ((lo+hi) /2))),(23,.i (Int.ofNat ((lo+hi) /2))),(27,.e [strX nm,num a,num b,num c,strX s,.sl t 6 l1,.sl t' 7 f]),(30,.p (num r)),(31,.b true),(33,.i (Int.ofNat ((lo+hi) /2+1)))] (pf9 q u w y A hg hc h B)
 intro m;have h:=decide_eq_false m;exact ruA [(17,.b true),(20,.i (Int.ofNat (lo+hi))),(21,.i (Int.ofNat (lo+hi))),(22,.i (Int.ofNat ((lo+hi) /2))),(23,.i (Int.ofNat ((lo+hi) /2))),(27,.e [strX nm,num a,num b,num c,strX s,.sl t 6 l1,.sl t' 7 f]),(30,.p (num r)),(31,.b false)] (pf8 q u w y A hg hc h)
end
theorem zlD (fl:Bool)(l:qaV)(key:qaW)(hl:l.length<=1001000)(hk:key.size<=1000000)(hd:∀e,e∈l->D T H 22 e):∃r B,r<=l.length/\∀M,B<=M->run (callF tab ext M) 0 M (.loop (loopAt 152 0)) (bsH fl l key l.length 0 l.length)=some (.exit 0,bsE fl l key l.length r r):=by
 obtain ⟨e,σ',B,⟨r,rfl,rfl,q⟩,h⟩:=jC (nIn:=0) (b:=loopAt 152 0) (H:=fun p:Nat×Nat=>bsH fl l key l.length p.1 p.2) (I:=fun p=>p.1<=p.2/\p.2<=l.length) (μ:=fun p=>p.2-p.1)
  (Q:=fun e σ'=>∃r,e=.exit 0/\σ'=bsE fl l key l.length r r/\r<=l.length) (fun p O=>by
   obtain ⟨j,m⟩:=p;obtain ⟨N,u⟩:=O;dsimp only at N u ⊢;by_cases n:j<m
   ·left;have L:(j+m) /2<l.length:=by omega
    obtain ⟨r,A,a,b,c,s,t,y,E,f,P,B,F⟩:=zhh (hd _ (qaf L)) hk;have J:l[(j+m) /2]?=some [strX A,num a,num b,num c,strX s,.sl t 6 y,.sl E 7 f]:=by rw [qad L,P]
    by_cases q:r<0;·exact ⟨_,((j+m) /2+1,m),B,fun M w=>(zce fl l key l.length j m r A a b c s t y E f n (by omega) J M (F M w)).1 q,LY ..,⟨by grind,u⟩,by grind⟩
    exact ⟨_,(j,(j+m) /2),B,fun M w=>(zce fl l key l.length j m r A a b c s t y E f n (by omega) J M (F M w)).2 q,LY ..,⟨by grind,by grind⟩,by grind⟩
   right;obtain rfl:j=m:=by omega
   exact ⟨_,_,0,(by grind),⟨j,rfl,rfl,u⟩,fun M _=>zpf fl l key l.length j j n M⟩) (a:=(0,l.length)) ⟨Nat.zero_le _,Nat.le_refl _⟩ (LY ..)
 exact ⟨r,B,q,h⟩
theorem zlC (fl:Bool)(l:qaV)(key:qaW)(hl:l.length<=1001000)(hk:key.size<=1000000)(hd:∀e,e∈l->D T H 22 e):∃(r:Nat) (b:Bool),r<=l.length/\∃B,∀N,B<=N->callF tab ext N (.fn 152) [.sl fl 7 l,strX key,.fn 153 []] []=some (.tup [nat r,boolX b],[]):=by
 obtain ⟨r,B,w,j⟩:=zlD fl l key hl hk hd;have m:∀{b:Bool} {B:Nat},(∀M,B<=M->callF tab ext (M+1) (.fn 152) [.sl fl 7 l,strX key,.fn 153 []] []=some (.tup [nat r,boolX b],[]))->∃B,∀N,B<=N->callF tab ext N (.fn 152) [.sl fl 7 l,strX key,.fn 153 []] []=some (.tup [nat r,boolX b],[]):=fun {b} {B} h=>⟨B+1,fun N S=>by obtain ⟨M,rfl⟩:=pR_ N<;>simp_all⟩;by_cases q:r<l.length
 ·obtain ⟨z,E,a,b,c,s,t,A,F,f,Q,J,O⟩:=zhh (hd _ (qaf q)) hk;have P:l[r]?=some [strX E,num a,num b,num c,strX s,.sl t 6 A,.sl F 7 f]:=by rw [qad q,Q]
  have u:=aH q;generalize l.length=n at j u w ⊢;cases L:(z==0) with
  |true=>exact ⟨r,true,w,m (B:=max B J) fun M y=>caB [(38,.b true),(43,.e [strX E,num a,num b,num c,strX s,.sl t 6 A,.sl F 7 f]),(46,.p (num z)),(47,.b true)] [(.exit 0,bsE fl l key n r r)] (pf5 (j M (by omega)) u P (O M (by omega)) L)⟩
  |false=>exact ⟨r,false,w,m (B:=max B J) fun M y=>caB [(38,.b true),(43,.e [strX E,num a,num b,num c,strX s,.sl t 6 A,.sl F 7 f]),(46,.p (num z)),(47,.b false)] [(.exit 0,bsE fl l key n r r)] (pf5 (j M (by omega)) u P (O M (by omega)) L)⟩
 have u:=aG q;generalize l.length=n at j u w ⊢;exact ⟨r,false,w,m (B:=B) fun M y=>caB [(38,.b false)] [(.exit 0,bsE fl l key n r r)] (pf2 (j M y) u)⟩
def zx1:List Ctr:=[dO 152 [.slr 7 22 0 1001000,.s,.fn 153 []] [] none [(.tu [.ir .i64 0 1001000,.kb true],[],[lt 4 0 2]),(.tu [.ir .i64 0 1001000,.kb false],[],[lt 4 0 2])]]
theorem zkB:ak T Gm zx1:=.one fun ρ A B a=>by
 obtain ⟨u,w⟩:=qw a;have y:=a.args;obtain rfl:=qQ w
 match A,u,y with
 |[_,_,_],⟨⟨fl,l,h',rfl,hh,hl1,hl2,hd⟩,⟨key,rfl,hk⟩,⟨ys,rfl,hys⟩,_⟩,.cons n _=>
  match ys,hys with
  |[],_=>
   unfold bW at hk;obtain ⟨r,b,H,h⟩:=zlC fl l key (by omega) (by omega) hd;have E:(l.length:Int)=ρ 2:=by
    cases n with
    |sl _ _ _ q _=>grind[Lin.v]
   have fact:∀(c:Bool) (n':Nat) (ρ':Rho),More (dO 152 [.slr 7 22 0 1001000,.s,.fn 153 []] [] none [(.tu [.ir .i64 0 1001000,.kb true],[],[lt 4 0 2]),(.tu [.ir .i64 0 1001000,.kb false],[],[lt 4 0 2])]).m ρ n' ρ'->G T n' ρ' ((Sh.tu [.ir .i64 0 1001000,.kb c]).bld (.k 0) 4).1 (.tup [nat r,boolX b])->4<n'->aV n' ρ' [lt 4 0 2]:=fun c n' ρ' f g j=>by
    have J:=f.same 2 (by decide);have F:(r:Int)=ρ' 4:=by
     cases g with
     |tup g=>cases g with
      |cons g _=>exact sI g
    exact .cons (iR j (by omega) (by omega)) .nil
   cases b with
   |true=>exact jS (q:=(.tu [.ir .i64 0 1001000,.kb true],[],[lt 4 0 2])) (qaq ..) a.zero a.pos rfl rfl (r:=.tup [nat r,boolX true]) ⟨_,rfl,zjc (by grind) (by grind),rfl,trivial⟩ (fun n' ρ' f _ g j=>fact true n' ρ' f g (by rw [j];decide)) h
   |false=>exact jS (q:=(.tu [.ir .i64 0 1001000,.kb false],[],[lt 4 0 2])) (qar _ (qaa.2 rfl)) a.zero a.pos rfl rfl (r:=.tup [nat r,boolX false]) ⟨_,rfl,zjc (by grind) (by grind),rfl,trivial⟩ (fun n' ρ' f _ g j=>fact false n' ρ' f g (by rw [j];decide)) h
end Ct.Ff
end Go.Proofs.YtkeefpkcepodeaaGreatDoor
