/-.-/
import Derived.Laws.Bits64
import Derived.Test.YtpcjeobkehmhpaaGreatDoorV15
import Derived.Test.YtpcjeobkehmhpaaGreatDoorV16
import Derived.Test.YtpcjeobkehmhpaaGreatDoorV17
import Derived.Test.YtpcjeobkehmhpaaGreatDoorV18
set_option linter.all false
namespace Go.Proofs.YtpcjeobkehmhpaaGreatDoor
open Go Go.Em Go.Ab
set_option maxRecDepth 100000
variable {nm:qaY}{f:FuncId}{H a b c h h' q1 q2 q3 q4:Int}{outs:List (Sh×List BSh)}{m x xs:List X}{P:Nat->List X->Prop}{mu:Option (Nat×Nat)}{ρ:Rho}{t1:Sh}{x1:X}
namespace Ct
def tZ (e:List X):Prop:=∃(k i:Int) (nm:qaY),e=[num k,num i,aF nm]/\0<=i/\i<=1000000/\nm.size<=1000000
theorem Sj (hh:1<=h){e:List X}(he:tZ e):D T h 7 e:=by obtain ⟨k,i,m,rfl,f,j,l⟩:=he;exact dJ hh (qaa.2 rfl) ⟨⟨rfl,(fun a e=>by cases e),(fun a e=>by cases e)⟩,⟨rfl,(fun a e=>by grind),(fun a e=>by grind)⟩,⟨by omega,by omega⟩,trivial⟩
theorem Zv {s:qaY}(h:(!s.toList==(⟨#[]⟩:qaY).toList)=true):1<=s.size:=by
 rcases Nat.eq_zero_or_pos s.size with h0|h0;·simp_all
 grind
theorem zd8 {s:qaY}(h:(!s.toList==(⟨#[]⟩:qaY).toList)=false):s.size=0:=by
 have e:=ByteArray.toList_eq s;have f:(⟨#[]⟩:qaY).toList=[]:=ByteArray.toList_eq _;rw [e,f] at h;cases j:s.data.toList with
 |nil=>show s.data.size=0<;>grind[Array.length_toList]
 |cons a r=>grind
theorem Vu (s0:qaY)(h0:s0.size<=201)(h00:1<=s0.size):∃e σ' B,((e=.ret/\∃bx,σ'=⟨[(2,.sl true 3 []),(3,num 13)],bx⟩/\(∃es c,bx=[.row 3 es,.var c]))\/(∃(s:qaY) (es:qaX),e=.exit 1/\σ'=⟨[(4,.bs 0 0 es.length),(5,aF s),(19,aj false)],[.row 3 es]⟩/\(1<=es.length/\es.length<=201)/\∀x,x∈es->tZ x))/\
  ∀M,B<=M->run (ah tab ext M) 0 M (.loop (aH 89 0)) ⟨[(4,.bs 0 0 0),(5,aF s0)],[.row 3 []]⟩=some (e,σ'):=by
 refine jI (nIn:=0) (b:=aH 89 0) (H:=fun p:qaY×qaX×Nat=>⟨[(4,.bs 0 0 p.2.2),(5,aF p.1)],[.row 3 p.2.1]⟩) (I:=fun p=>p.2.2=p.2.1.length/\p.1.size+p.2.2<=201/\(p.2.2=0->1<=p.1.size)/\∀x,x∈p.2.1->tZ x) (μ:=fun p=>p.1.size)
  (Q:=fun e σ'=>(e=.ret/\∃bx,σ'=⟨[(2,.sl true 3 []),(3,num 13)],bx⟩/\(∃es c,bx=[.row 3 es,.var c]))\/(∃(s:qaY) (es:qaX),e=.exit 1/\σ'=⟨[(4,.bs 0 0 es.length),(5,aF s),(19,aj false)],[.row 3 es]⟩/\(1<=es.length/\es.length<=201)/\∀x,x∈es->tZ x))
  (fun p V=>?_) (a:=(s0,[],0)) ⟨rfl,by grind,fun _=>h00,fun x y=>by grind⟩ (by kernel_rfl)
 obtain ⟨s,es,n⟩:=p;obtain ⟨N,Y,Z,O⟩:=V;dsimp only at N Y Z O ⊢;cases l:(!s.toList==(⟨#[]⟩:qaY).toList) with
 |false=>subst N;exact .inr ⟨_,_,0,(by grind),.inr ⟨s,es,rfl,rfl,⟨by grind[zd8],by omega⟩,O⟩,fun M _=>ruA [(19,.b false)] (pf1 l)⟩
 |true=>
  have W:=Zv l;obtain ⟨k,i,f,A,b,u,q,m⟩:=XV s W (by omega);obtain ⟨F,u⟩:=ig u rfl;cases b with
  |false=>exact .inr ⟨_,_,F,(by grind),.inl ⟨rfl,_,rfl,es,[num k,num i,aF f],rfl⟩,fun M J=>ruA [(19,.b true),(22,.p (.tup [.agg [num k,num i,aF f],aF A,aj false])),(25,.b false)] (pf3 l (u M J) (show false=false from rfl))⟩
  |true=>
   have m:=m rfl;obtain ⟨c,E,U⟩:=Uy k i f q;obtain ⟨L,E⟩:=ig E rfl;cases c with
   |false=>exact .inr ⟨_,_,max F L,(by grind),.inl ⟨rfl,_,rfl,es,[num k,num i,aF f],rfl⟩,fun M J=>ruA [(19,.b true),(22,.p (.tup [.agg [num k,num i,aF f],aF A,aj true])),(25,.b true),(30,.p (aj false)),(31,.b true)] (pf5 l (u M (by omega)) (show true=true from rfl) (E M (by omega)) (show (!false)=true from rfl))⟩
   |true=>
    obtain ⟨P,S⟩:=U rfl;have j:0+n=es.length/\dh (n+[[num k,num i,aF f]].length) (31+1)=true/\rF 0 (X.sl true 3 [[num k,num i,aF f]]).rows=false:=⟨by omega,iL (by grind) (by grind),rfl⟩;refine .inl ⟨⟨[(4,.bs 2 0 (n+1)),(5,aF A)],[.dead,.var [num k,num i,aF f],.row 3 (es++[[num k,num i,aF f]])]⟩,(A,es++[[num k,num i,aF f]],n+1),max F L,fun M J=>?_,by kernel_rfl,⟨by grind,by grind,(fun h=>by grind),fun x y=>?_⟩,by grind⟩;·exact ruA [(19,.b true),(22,.p (.tup [.agg [num k,num i,aF f],aF A,aj true])),(25,.b true),(30,.p (aj true)),(31,.b false),(36,.app)] (pf6 l (u M (by omega)) (show true=true from rfl) (E M (by omega)) (show (!true)=false from rfl) j)
    rcases qaO.1 y with y|y
    ·grind
    rw [qaa.1 y];exact ⟨k,i,f,rfl,P,S,q⟩
theorem Gg (s:qaY)(hs:s.size<=1000000):(∃e:Int,1<=e/\e<=100/\Back 89 [aF s] (.tup [.sl true 3 [],num e]))\/∃es,(1<=es.length/\es.length<=201)/\(∀x,x∈es->tZ x)/\∃B,∀N,B<=N->ah tab ext N (.fn 89) [aF s] []=some (.tup [.bs 0 0 es.length,num 0],[.row 3 es]):=by
 have a:∀{B:Nat} {r:X} {bx:List Bx},(∀M,B<=M->ah tab ext (M+1) (.fn 89) [aF s] []=some (r,bx))->∃B,∀N,B<=N->ah tab ext N (.fn 89) [aF s] []=some (r,bx):=fun {B} {r} {bx} h=>⟨B+1,fun N P=>by obtain ⟨M,rfl⟩:=pR_ N<;>simp_all⟩;cases f:(s.toList==(⟨#[]⟩:qaY).toList) with
 |true=>exact .inl ⟨4,by decide,by decide,a (B:=0) fun M _=>caA [(11,.b true)] (pf1 f) (r:=some (.tup [.sl true 3 [],num 4],[]))⟩
 |false=>
  cases j:decide (Int.ofNat s.size>200) with
  |true=>exact .inl ⟨5,by decide,by decide,a (B:=0) fun M _=>caA [(11,.b false),(15,.b true)] (pf2 f j) (r:=some (.tup [.sl true 3 [],num 5],[]))⟩
  |false=>
   have q:=of_decide_eq_false j;simp only [qaJ] at q;have E:((⟨#[46]⟩:qaY)++s).size<=201:=by rw [ByteArray.size_append];show 1+s.size<=201;omega
   have u:(⟨#[46]⟩:qaY).size+s.size<=9223372036854775807:=by show 1+s.size<=_;omega
   obtain ⟨e,σ',B,O,m⟩:=Vu _ E (by rw [ByteArray.size_append];show 1<=1+s.size;omega);rcases O with ⟨rfl,bx,rfl,es,c,rfl⟩|⟨H,es,rfl,rfl,⟨A,L⟩,y⟩;·exact .inl ⟨13,by decide,by decide,a (B:=B) fun M l=>caB [(11,.b false),(15,.b false),(17,.at)] [(.ret,⟨[(2,.sl true 3 []),(3,num 13)],[.row 3 es,.var c]⟩)] (pf4 f j u (m M l)) (r:=some (.tup [.sl true 3 [],num 13],[]))⟩
   generalize J:es.length=n at m L A;cases F:decide (Int.ofNat n>16) with
   |true=>exact .inl ⟨9,by decide,by decide,a (B:=B) fun M l=>caB [(11,.b false),(15,.b false),(17,.at),(40,.b true)] [(.exit 1,⟨[(4,.bs 0 0 n),(5,aF H),(19,aj false)],[.row 3 es]⟩)] (pf5 f j u (m M l) F) (r:=some (.tup [.sl true 3 [],num 9],[]))⟩
   |false=>refine .inr ⟨es,⟨by omega,by omega⟩,y,a (B:=B) fun M l=>?_⟩;rw [J];exact caB [(11,.b false),(15,.b false),(17,.at),(40,.b false)] [(.exit 1,⟨[(4,.bs 0 0 n),(5,aF H),(19,aj false)],[.row 3 es]⟩)] (pf5 f j u (m M l) F) (r:=some (.tup [.bs 0 0 n,num 0],[.row 3 es]))
def zut:List Ctr:=[dS 89 [.s] [] none [(.tu [.x (.sl true 3 []),.ir .i64 1 100],[],[]),(.tu [.bs 0,.k .i64 0],[.row 3 7],[lt 2 0 4,lt 4 0 2])]]
theorem dD:ay T Gm zut:=.one fun ρ N F f=>by
 obtain ⟨y,A⟩:=pG f;obtain ⟨x,rfl,j⟩:=zd9 y;obtain rfl:=nK A;obtain ⟨s,rfl,E⟩:=isS j;rcases Gg s (by omega) with ⟨e,m,l,h⟩|⟨a,J,u,h⟩;·exact jY (q:=(.tu [.x (.sl true 3 []),.ir .i64 1 100],[],[])) (qar ..) f.zero f.pos rfl rfl (r:=.tup [.sl true 3 [],num e]) ⟨_,rfl,⟨rfl,rfl⟩,ziE m l,trivial⟩ (fun _ _ _ _ _ _=>.nil) h
 refine sG (q:=(.tu [.bs 0,.k .i64 0],[.row 3 7],[lt 2 0 4,lt 4 0 2])) (qap _ (qaa.2 rfl)) f.zero f.pos rfl rfl (r:=.tup [.bs 0 0 a.length,num 0]) (bx':=[.row 3 a]) ⟨_,rfl,⟨a.length,rfl,by grind[bT]⟩,rfl,trivial⟩ ⟨⟨a,1,rfl,by omega,by grind[bT],fun x j=>Sj (Int.le_refl _) (u x j)⟩,trivial⟩ (fun M ρ' L z g n B=>?_) h;subst B;have l:(a.length:Int)=ρ' 2:=by
  cases g with
  |tup g=>cases g with
   |cons g _=>cases g with
    |bs _ _ _ q=>rw [q];unfold Lin.v;show ρ' 2+0=_;omega
 have H:(a.length:Int)=ρ' 4:=by
  cases n with
  |cons g _=>cases g with
   |row _ _ q _=>rw [q];unfold Lin.v;show ρ' 4+0=_;omega
 exact .cons (iZ (by decide) (by decide) (by omega)) (.cons (iZ (by decide) (by decide) (by omega)) .nil)
end Ct
namespace Ct
def PR (s:qaY)(p:qaX×Int):Prop:=(1<=p.2/\p.2<=100)/\p.1=[]\/p.2=0/\(1<=p.1.length/\p.1.length<=201)/\∀x,x∈p.1->tZ x
theorem Vw (s:qaY)(hs:s.size<=1000000):∃p,PR s p/\∃B,∀N,B<=N->Gam.aC (ah tab ext N) 89 [aF s]=some (.tup [.sl false 3 p.1,num p.2]):=by
 rcases Gg s hs with ⟨e,a,f,h⟩|⟨j,a,f,B,h⟩;·obtain ⟨B,h⟩:=ig h (y:=.tup [.sl false 3 [],num e]) rfl;exact ⟨([],e),.inl ⟨⟨a,f⟩,rfl⟩,B,h⟩
 exact ⟨(j,0),.inr ⟨rfl,a,f⟩,B,fun N l=>aZ (h N l) (by simp [X.data,eG,rowOf,num])⟩
theorem IV {es:qaX}(h:∀x,x∈es->tZ x):∀x,x∈es->D T 1 7 x:=fun x a=>Sj (Int.le_refl _) (h x a)
theorem znD {es:qaX}(h1:1<=es.length)(h2:es.length<=201)(h:∀x,x∈es->tZ x):D T 2 13 [.sl false 3 es]:=
 dJ (by decide) (qaa.2 rfl) ⟨⟨rfl,h1,by omega,IV h⟩,trivial⟩
theorem zo8 {es:qaX}(h2:es.length<=201)(h:∀x,x∈es->tZ x):∃b,∃B,∀N,B<=N->Gam.aC (ah tab ext N) 90 [.sl false 3 es,.fn 91 []]=some (aj b):=by
 obtain ⟨o,j,r,bx,a,l,B,m⟩:=dX (Dd.Ql _ (qaa.2 rfl)) rfl rfl (xs:=[.sl false 3 es,.fn 91 []]) ⟨⟨false,es,1,rfl,by decide,by unfold bT;omega,IV h⟩,⟨[],rfl,trivial⟩,trivial⟩ (bx:=[]) trivial;rcases qak.1 j with rfl|j;·obtain rfl:=nK l;have a:r=aj true:=a;subst a;exact ⟨true,B,fun N f=>aZ (m N f) rfl⟩
 obtain rfl:=qaa.1 j;obtain rfl:=nK l;have a:r=aj false:=a;subst a;exact ⟨false,B,fun N f=>aZ (m N f) rfl⟩
theorem zo7 {seen:qaX}(hl:seen.length<=1000)(hd:∀x,x∈seen->D T 2 13 x){es:qaX}(h2:es.length<=201)(h:∀x,x∈es->tZ x):∃b,∃B,∀N,B<=N->Gam.aC (ah tab ext N) 92 [.sl false 1 seen,.fn 93 [.dp [.sl false 3 es]]]=some (aj b):=by
 obtain ⟨o,j,r,bx,a,l,B,m⟩:=dX (Dd.zjM _ (qaa.2 rfl)) rfl rfl (xs:=[.sl false 1 seen,.fn 93 [.dp [.sl false 3 es]]]) ⟨⟨false,seen,2,rfl,by decide,by unfold bT;omega,hd⟩,⟨_,rfl,⟨_,rfl,⟨false,es,1,rfl,by decide,by unfold bT;omega,IV h⟩,trivial⟩,trivial⟩,trivial⟩ (bx:=[]) trivial;rcases qak.1 j with rfl|j;·obtain rfl:=nK l;have a:r=aj true:=a;subst a;exact ⟨true,B,fun N f=>aZ (m N f) rfl⟩
 obtain rfl:=qaa.1 j;obtain rfl:=nK l;have a:r=aj false:=a;subst a;exact ⟨false,B,fun N f=>aZ (m N f) rfl⟩
section
variable (ru seen:qaX) (n j:Nat) (s:qaY) (o i:Int) (t:qaY) (vs es ls:qaX) (e:Int) (M:Nat)
def foH:St:=⟨[(3,.bs 0 0 j),(13,.sl false 6 ru),(14,nat n),(15,nat j)],[.row 1 seen]⟩
def foE:St:=⟨[(3,.bs 0 0 j),(13,.sl false 6 ru),(14,nat n),(15,nat j),(16,aj false)],[.row 1 seen]⟩
def foN:St:=⟨[(3,.bs 3 0 (j+1)),(13,.sl false 6 ru),(14,nat n),(15,nat (j+1))],[.dead,.var (fQ s o i t vs es),.dead,.row 1 (seen++[[.sl false 3 ls]])]⟩
theorem za2:canon 0 (foN ru seen n j s o i t vs es ls)=some (foH ru (seen++[[.sl false 3 ls]]) n (j+1)):=by kernel_rfl
theorem zop (h:¬j<n):run (ah tab ext M) 0 M (aH 65 0) (foH ru seen n j)=some (.exit 0,foE ru seen n j):=
 ruA [(16,.b false)] (pf1 (aN h))
theorem za1 (hs:seen.length=j):eG [.row 1 seen,.var (fQ s o i t vs es),.dead] false [.bs 0 0 j,.fn 93 [.dp [.sl false 3 ls]]]=some [.sl false 1 seen,.fn 93 [.dp [.sl false 3 ls]]]:=by subst hs;simp [eG,X.data,rowOf]
variable (hj:j<n) (hi:ru[j]?=some (fQ s o i t vs es))
include hj hi
theorem zoo (hp:Gam.aC (ah tab ext M) 89 [aF s]=some (.tup [.sl false 3 ls,num e]))(he:(e !=0)=true):run (ah tab ext M) 0 M (aH 65 0) (foH ru seen n j)=some (.ret,⟨[(2,num e)],[.row 1 seen,.var (fQ s o i t vs es),.var [.sl false 3 ls]]⟩):=
 ruA [(16,.b true),(17,.e (fQ s o i t vs es)),(22,.p (.tup [.sl false 3 ls,num e])),(27,.b true)] (pf4 (aK hj) hi hp he)
variable (hp:Gam.aC (ah tab ext M) 89 [aF s]=some (.tup [.sl false 3 ls,num 0]))
include hp
theorem zor (h1:Gam.aC (ah tab ext M) 90 [.sl false 3 ls,.fn 91 []]=some (aj true)):run (ah tab ext M) 0 M (aH 65 0) (foH ru seen n j)=some (.ret,⟨[(2,num 22)],[.row 1 seen,.var (fQ s o i t vs es),.var [.sl false 3 ls]]⟩):=
 ruA [(16,.b true),(17,.e (fQ s o i t vs es)),(22,.p (.tup [.sl false 3 ls,num 0])),(31,.p (aj true))] (pf4 (aK hj) hi hp h1)
variable (hs:seen.length=j) (h1:Gam.aC (ah tab ext M) 90 [.sl false 3 ls,.fn 91 []]=some (aj false))
include hs h1
theorem zoq (h2:Gam.aC (ah tab ext M) 92 [.sl false 1 seen,.fn 93 [.dp [.sl false 3 ls]]]=some (aj true)):run (ah tab ext M) 0 M (aH 65 0) (foH ru seen n j)=some (.ret,⟨[(2,num 7)],[.row 1 seen,.var (fQ s o i t vs es),.dead]⟩):=by have a:eG [.row 1 seen,.var (fQ s o i t vs es),.dead] false [.bs 0 0 j,.fn 93 [.dp [.sl false 3 ls]]]=some [.sl false 1 seen,.fn 93 [.dp [.sl false 3 ls]]]/\Gam.aC (ah tab ext M) 92 [.sl false 1 seen,.fn 93 [.dp [.sl false 3 ls]]]=some (aj true):=⟨za1 seen j s o i t vs es ls hs,h2⟩;exact ruA [(16,.b true),(17,.e (fQ s o i t vs es)),(22,.p (.tup [.sl false 3 ls,num 0])),(31,.p (aj false)),(35,.d [.sl false 1 seen,.fn 93 [.dp [.sl false 3 ls]]] (aj true))] (pf5 (aK hj) hi hp h1 a)
theorem zkM (hn:n<=1000)(h2:Gam.aC (ah tab ext M) 92 [.sl false 1 seen,.fn 93 [.dp [.sl false 3 ls]]]=some (aj false)):run (ah tab ext M) 0 M (aH 65 0) (foH ru seen n j)=some (.norm,foN ru seen n j s o i t vs es ls):=by have f:eG [.row 1 seen,.var (fQ s o i t vs es),.dead] false [.bs 0 0 j,.fn 93 [.dp [.sl false 3 ls]]]=some [.sl false 1 seen,.fn 93 [.dp [.sl false 3 ls]]]/\Gam.aC (ah tab ext M) 92 [.sl false 1 seen,.fn 93 [.dp [.sl false 3 ls]]]=some (aj false):=⟨za1 seen j s o i t vs es ls hs,h2⟩;have a:0+j=seen.length/\dh (j+1) (23+1)=true/\false=false:=⟨by omega,iL (by omega) (by omega),rfl⟩;exact ruA [(16,.b true),(17,.e (fQ s o i t vs es)),(22,.p (.tup [.sl false 3 ls,num 0])),(31,.p (aj false)),(35,.d [.sl false 1 seen,.fn 93 [.dp [.sl false 3 ls]]] (aj false)),(39,.app),(40,.i (Int.ofNat (j+1)))] (pf7 (aK hj) hi hp h1 f a (aB (j:=j) (by omega)))
end
structure Rules (ru:qaX) (pr:Nat->qaX×Int) (B:Nat):Prop where
 len:ru.length<=8
 rule:∀j,j<ru.length->∃s o i t vs es,ru[j]?=some (fQ s o i t vs es)/\sE 4 (jw o i t vs es)/\s.size<=60/\PR s (pr j)/\∀N,B<=N->Gam.aC (ah tab ext N) 89 [aF s]=some (.tup [.sl false 3 (pr j).1,num (pr j).2])
theorem zdk (ru:qaX)(hl:ru.length<=8)(hr:∀x,x∈ru->wI x):∃pr B,Rules ru pr B:=by
 have h:∀j,j∈List.range ru.length->∃p:qaX×Int,(∃s o i t vs es,ru[j]?=some (fQ s o i t vs es)/\sE 4 (jw o i t vs es)/\s.size<=60/\PR s p)/\∃B,∀N,B<=N->∀s o i t vs es,ru[j]?=some (fQ s o i t vs es)->Gam.aC (ah tab ext N) 89 [aF s]=some (.tup [.sl false 3 p.1,num p.2]):=fun j a=>by
  have a:=List.mem_range.1 a;obtain ⟨s,o,i,t,vs,es,e,f,m⟩:=hr _ (qag a);obtain ⟨p,J,B,H⟩:=Vw s (by omega);have u:ru[j]?=some (fQ s o i t vs es):=by rw [qad a,e];rfl
  refine ⟨p,⟨s,o,i,t,vs,es,u,m,f,J⟩,B,fun N n L _ _ _ _ _ l=>?_⟩;rw [u] at l;have y:aF s=aF L:=by simp only [fQ,qaf,List.cons.injEq] at l;exact l.1
  rw [<-y];exact H N n
 obtain ⟨pr,B,q⟩:=oK (List.range ru.length) (R:=fun j p=>∃s o i t vs es,ru[j]?=some (fQ s o i t vs es)/\sE 4 (jw o i t vs es)/\s.size<=60/\PR s p) (Q:=fun j p N=>∀s o i t vs es,ru[j]?=some (fQ s o i t vs es)->Gam.aC (ah tab ext N) 89 [aF s]=some (.tup [.sl false 3 p.1,num p.2])) h;exact ⟨pr,B,hl,fun j a=>by obtain ⟨⟨s,o,i,t,vs,es,f,m,A,E⟩,F⟩:=q j (List.mem_range.2 a);exact ⟨s,o,i,t,vs,es,f,m,A,E,fun N n=>F N n s o i t vs es f⟩⟩
theorem za0 (ru:qaX)(pr:Nat->qaX×Int)(B0:Nat)(h:Rules ru pr B0):∃c:Int,(0<=c/\c<=100)/\(c=0->∀j,j<ru.length->(pr j).2=0)/\∃B,∀N,B<=N->Gam.aC (ah tab ext N) 65 [.agg [.sl false 6 ru]]=some (num c):=by
 have hl:=h.len;obtain ⟨e,σ',B,hQ,f⟩:=jI (nIn:=0) (b:=aH 65 0) (H:=fun p:Nat×qaX=>foH ru p.2 ru.length p.1) (I:=fun p=>p.1<=ru.length/\p.2.length=p.1/\(∀x,x∈p.2->D T 2 13 x)/\∀j,j<p.1->(pr j).2=0) (μ:=fun p=>ru.length-p.1)
  (Q:=fun e σ'=>(∃(c:Int) (bx:List Bx),e=.ret/\σ'=⟨[(2,num c)],bx⟩/\1<=c/\c<=100)\/(∃seen,e=.exit 0/\σ'=foE ru seen ru.length ru.length/\∀j,j<ru.length->(pr j).2=0)) (fun p m=>by
   obtain ⟨j,seen⟩:=p;obtain ⟨i1,L,Y,Z⟩:=m;dsimp only at i1 L Y Z ⊢;by_cases l:j<ru.length
   ·obtain ⟨s,o,i,t,S,E,J,_,_,hP,m⟩:=h.rule j l;generalize hq:pr j=q at hP m;obtain ⟨A,e⟩:=q;dsimp only at m;rcases hP with ⟨⟨e1,e2⟩,_⟩|⟨e0,⟨l1,O⟩,P⟩
    ·dsimp only at e1 e2;have he:(e !=0)=true:=by simp only [bne_iff_ne,ne_eq];omega
     exact .inr ⟨_,_,B0,(by intro e;cases e),.inl ⟨e,_,rfl,rfl,e1,e2⟩,fun M F=>zoo ru seen ru.length j s o i t S E A e M l J (m M F) he⟩
    dsimp only at e0 l1 O P;subst e0;obtain ⟨b,U,zjZ⟩:=zo8 O P;cases b with
    |true=>exact .inr ⟨_,_,max B0 U,(by intro e;cases e),.inl ⟨22,_,rfl,rfl,by decide,by decide⟩,fun M F=>zor ru seen ru.length j s o i t S E A M l J (m M (by omega)) (zjZ M (by omega))⟩
    |false=>
     obtain ⟨c,B2,zpZ⟩:=zo7 (seen:=seen) (by omega) Y O P;cases c with
     |true=>exact .inr ⟨_,_,B0+U+B2,(by intro e;cases e),.inl ⟨7,_,rfl,rfl,by decide,by decide⟩,fun M F=>zoq ru seen ru.length j s o i t S E A M l J (m M (by omega)) L (zjZ M (by omega)) (zpZ M (by omega))⟩
     |false=>
      refine .inl ⟨_,(j+1,seen++[[.sl false 3 A]]),B0+U+B2,fun M F=>zkM ru seen ru.length j s o i t S E A M l J (m M (by omega)) L (zjZ M (by omega)) (by omega) (zpZ M (by omega)),za2 ..,⟨by dsimp only;omega,by simp [L],fun x u=>?_,fun k hk=>?_⟩,by dsimp only;omega⟩
      ·rcases qaO.1 u with u|u;·exact Y x u
       rw [qaa.1 u];exact znD l1 O P
      dsimp only at hk;by_cases W:k<j;·exact Z k W
      obtain rfl:k=j:=by omega
      rw [hq]
   obtain rfl:j=ru.length:=by omega
   exact .inr ⟨_,_,0,(by intro e;cases e),.inr ⟨seen,rfl,rfl,Z⟩,fun M _=>zop ru seen ru.length ru.length M l⟩)
  (a:=(0,[])) ⟨Nat.zero_le _,rfl,(fun x u=>by cases u),fun j l=>absurd l (Nat.not_lt_zero j)⟩ (τ:=⟨[(3,.bs 1 0 0),(13,.sl false 6 ru),(14,nat ru.length),(15,num 0)],[.var [.sl false 6 ru],.row 1 []]⟩) (by kernel_rfl)
 have V:decide (Int.ofNat ru.length>256)=false:=decide_eq_false (by simp only [qaJ];omega);rcases hQ with ⟨c,bx,rfl,rfl,c1,c2⟩|⟨seen,rfl,rfl,y⟩;·refine ⟨c,⟨by omega,c2⟩,fun e=>by omega,B+1,fun N hN=>?_⟩;obtain ⟨M,rfl⟩:=pR_ N;exact puB [(11,.b false)] [(.ret,⟨[(2,num c)],bx⟩)] (pf2 V (f M (by omega))) (num c)
 refine ⟨0,by decide,fun _=>y,B+1,fun N hN=>?_⟩;obtain ⟨M,rfl⟩:=pR_ N;have f:=f M (by omega);generalize ru.length=n at V f;exact puB [(11,.b false)] [(.exit 0,foE ru seen n n)] (pf2 V f) (num 0)
section
variable (ru seen:qaX) (n j:Nat) (s:qaY) (o i:Int) (t:qaY) (vs es ls:qaX) (e:Int) (M:Nat)
def taH:St:=⟨[(3,.bs 0 0 j),(9,.sl false 6 ru),(10,nat n),(11,nat j)],[.row 1 seen]⟩
def taE:St:=⟨[(3,.bs 0 0 j),(9,.sl false 6 ru),(10,nat n),(11,nat j),(12,aj false)],[.row 1 seen]⟩
def taN:St:=⟨[(3,.bs 2 0 (j+1)),(9,.sl false 6 ru),(10,nat n),(11,nat (j+1))],[.dead,.var (fQ s o i t vs es),.row 1 (seen++[[.sl false 3 ls]])]⟩
theorem XW:canon 0 (taN ru seen n j s o i t vs es ls)=some (taH ru (seen++[[.sl false 3 ls]]) n (j+1)):=by kernel_rfl
theorem zhs (hj:j<n)(hi:ru[j]?=some (fQ s o i t vs es))(hp:Gam.aC (ah tab ext M) 89 [aF s]=some (.tup [.sl false 3 ls,num e]))(hs:seen.length=j)(hn:n<=1000):run (ah tab ext M) 0 M (aH 96 0) (taH ru seen n j)=some (.norm,taN ru seen n j s o i t vs es ls):=by have a:0+j=seen.length/\dh (j+1) (23+1)=true/\false=false:=⟨by omega,iL (by omega) (by omega),rfl⟩;exact ruA [(12,.b true),(13,.e (fQ s o i t vs es)),(18,.p (.tup [.sl false 3 ls,num e])),(24,.app),(25,.i (Int.ofNat (j+1)))] (pf5 (aK hj) hi hp a (aB (j:=j) (by omega)))
theorem zmN:run (ah tab ext M) 0 M (aH 96 0) (taH ru seen n n)=some (.exit 0,taE ru seen n n):=
 ruA [(12,.b false)] (pf1 (aN (qat n)))
end
def tgts (pr:Nat->qaX×Int)(k:Nat):qaX:=(List.range k).map fun j=>[.sl false 3 (pr j).1]
theorem XQ (pr:Nat->qaX×Int)(k:Nat):tgts pr (k+1)=tgts pr k++[[.sl false 3 (pr k).1]]:=by simp [tgts,List.range_succ]
theorem Ry (pr:Nat->qaX×Int)(k:Nat):(tgts pr k).length=k:=by simp [tgts]
theorem zcU (pr:Nat->qaX×Int){k j:Nat}(h:j<k):(tgts pr k)[j]?=some [.sl false 3 (pr j).1]:=by simp [tgts,h]
theorem KJ (ru:qaX)(pr:Nat->qaX×Int)(B0:Nat)(h:Rules ru pr B0)(N:Nat)(hN:B0+20<=N):Gam.aC (ah tab ext N) 96 [.agg [.sl false 6 ru]]=some (.sl false 1 (tgts pr ru.length)):=by
 obtain ⟨M,rfl⟩:=pR_ N;have B:=h.len;have a:run (ah tab ext M) 0 M (.loop (aH 96 0)) ⟨[(3,.bs 1 0 0),(9,.sl false 6 ru),(10,nat ru.length),(11,num 0)],[.var [.sl false 6 ru],.row 1 []]⟩=some (.exit 0,taE ru (tgts pr ru.length) ru.length ru.length):=by refine bF (σ:=fun j=>taH ru (tgts pr j) ru.length j) (k:=ru.length) (by kernel_rfl) (fun j l=>?_) (zmN ..) (by simp) (by omega);obtain ⟨s,o,i,t,A,m,q,_,_,_,u⟩:=h.rule j l;exact ⟨_,zhs ru (tgts pr j) ru.length j s o i t A m (pr j).1 (pr j).2 M l q (u M (by omega)) (Ry ..) (by omega),by rw [XW,XQ]⟩
 have f:(X.bs 0 0 ru.length).data [.row 1 (tgts pr ru.length)] false=some (.sl false 1 (tgts pr ru.length)):=by have:=Ry pr ru.length;have y:(tgts pr ru.length).take ru.length=tgts pr ru.length:=List.take_of_length_le (by omega);simp [X.data,rowOf,this,y]
 generalize tgts pr ru.length=tg at a f ⊢;generalize ru.length=n at a f ⊢;exact eU [] [(.exit 0,taE ru tg n n)] (pf1 a) (x:=.bs 0 0 n) (bx:=[.row 1 tg]) (by kernel_rfl) f
end Ct
namespace Ct
abbrev zmw:List Sh:=[int,int,int,.s,.xq 6 11 0 6,.xq 7 12 0 6]
theorem kC {x:X}(h:Aw P (.i .i64 none none) x):∃z,x=num z:=by
 match x,h with
 |.v (.int _ z),⟨rfl,_⟩=>exact ⟨z,rfl⟩
theorem zgG {x:X}{lo hi:Nat}(h:Aw P (.s lo hi) x):∃s:qaY,x=aF s/\lo<=s.size/\s.size<=hi:=by
 match x,h with
 |.v (.string s),⟨h1,h2⟩=>exact ⟨s,rfl,h1,h2⟩
theorem zQ {x:X}{sz k lo hi:Nat}(h:Aw P (.sl sz k lo hi) x):∃t es,x=.sl t sz es/\lo<=es.length/\es.length<=hi/\∀e,e∈es->P k e:=by
 match x,h with
 |.sl t _ es,⟨rfl,h1,h2,h3⟩=>grind
theorem d11 (hd:D T (h+1) 11 x):0<=h/\∃a b c s t l t' f,x=[num a,num b,num c,aF s,.sl t 6 l,.sl t' 7 f]/\s.size<=1000000/\l.length<=6/\f.length<=6/\(∀e,e∈l->D T h 11 e)/\∀e,e∈f->D T h 12 e:=by
 obtain ⟨y,m,n,j⟩:=l9 hd;rw [qaa.1 n,Int.add_sub_cancel] at j
 match x,j with
 |[_,_,_,_,_,_],⟨k1,k2,k3,k4,k5,k6,_⟩=>
  obtain ⟨a,rfl⟩:=kC k1;obtain ⟨b,rfl⟩:=kC k2;obtain ⟨c,rfl⟩:=kC k3;obtain ⟨s,rfl,_,j⟩:=zgG k4;obtain ⟨t,l,rfl,_,B,u⟩:=zQ k5;obtain ⟨t',f,rfl,_,A,q⟩:=zQ k6
  grind
theorem QH (hd:D T (h+1) 11 x):0<=h/\IsL T h zmw x:=by obtain ⟨j,a,b,c,s,t,l,q,f,rfl,u,y,A,m,n⟩:=d11 hd;exact ⟨j,⟨a,rfl⟩,⟨b,rfl⟩,⟨c,rfl⟩,⟨s,rfl,by grind[bT]⟩,⟨t,l,rfl,by omega,by omega,m⟩,⟨q,f,rfl,by omega,by omega,n⟩,trivial⟩
theorem oJ {a b c:X}{d:X}{u v:Bool}{l f:qaX}(hd:D T h 11 [a,b,c,d,.sl u 6 l,.sl v 7 f]):D T h 11 [a,b,c,d,.sl false 6 l,.sl false 7 f]:=by obtain ⟨m,j,n,q⟩:=l9 hd;obtain rfl:=qaa.1 n;obtain ⟨y,A,B,E,F,H,J⟩:=q;exact dJ m (qaa.2 rfl) ⟨y,A,B,E,F,H,J⟩
theorem ziY (h0:0<=h)(hx:IsL T h zmw x):D T (h+1) 11 x:=by
 match x,hx with
 |[_,_,_,_,_,_],⟨⟨a,rfl⟩,⟨b,rfl⟩,⟨c,rfl⟩,⟨s,rfl,k1⟩,⟨t,l,rfl,k2,k3,k4⟩,⟨t',f,rfl,k5,k6,k7⟩,_⟩=>unfold bT at k1;refine dJ (by omega) (qaa.2 rfl) ?_;rw [Int.add_sub_cancel];exact ⟨⟨rfl,(fun a e=>by cases e),(fun a e=>by cases e)⟩,⟨rfl,(fun a e=>by cases e),(fun a e=>by cases e)⟩,⟨rfl,(fun a e=>by cases e),(fun a e=>by cases e)⟩,⟨by omega,by omega⟩,⟨rfl,by omega,by omega,k4⟩,⟨rfl,by omega,by omega,k7⟩,trivial⟩
theorem ztC {T:Tab}{l:List Sh}(ho:Gj l=true)(hh:0<=h')(ha:IsL T h' l xs):∃ρ,ρ 1=h'/\(mkC f [.rc l] [] mu outs).Sat T ρ [.agg xs] []:=by
 have q:=bG (fun _=>(0:Int)) 1 h';obtain ⟨ρ1,j,y,A⟩:=gK l (h:=⟨1,0⟩) (n:=2) (ρ:=oU (fun _=>(0:Int)) 1 h') ho (by omega) (q.zero (by omega) rfl) (by decide) (by rw [cZ];omega);have u:=j.zero (by omega) (q.zero (by omega) rfl);have a:0<(oO ⟨1,0⟩ 2 l).2.1:=Nat.lt_of_lt_of_le (by omega) j.le;have m:1<(oO ⟨1,0⟩ 2 l).2.1:=Nat.lt_of_lt_of_le (by omega) j.le;refine ⟨ρ1,?_,u,a,?_,⟨[],qaa.2 rfl,.nil⟩,?_,.nil⟩;·rw [j.same 1 (by omega)]<;>simp_all[oU]
 ·refine aY.append ?_ .nil;show aY (oO ⟨1,0⟩ 2 l).2.1 ρ1 ((ak (.k 0) ⟨1,0⟩::(oO ⟨1,0⟩ 2 l).2.2)++[]);rw [List.append_nil];refine aY.cons (aJ.2 ⟨a,m,?_⟩) y;rw [Lin.k_v u,j.lin (show (⟨1,0⟩:Lin).s<2 by decide),cZ]<;>grind
 exact .cons (.agg A) .nil
theorem zvI {T:Tab}{l:List Sh}(h1:t1.own=true)(ho:Gj l=true)(hx:t1.Is T 0 x1)(hh:0<=h')(ha:IsL T h' l xs):
  ∃ρ,ρ (t1.bld (.k 0) 1).2.1=h'/\(mkC f [t1,.rc l] [] mu outs).Sat T ρ [x1,.agg xs] []:=by
 obtain ⟨ρ0,B,F,H⟩:=Sh.fwd t1 (h:=.k 0) (n:=1) (ρ:=fun _=>(0:Int)) h1 (by omega) rfl (by decide) hx;have L:=B.zero (by omega) rfl;generalize y:(t1.bld (.k 0) 1).2.1=n at B F H;have j:0<n:=Nat.lt_of_lt_of_le (by omega) B.le;have q:=bG ρ0 n h';obtain ⟨ρ1,a,O,P⟩:=gK l (h:=⟨n,0⟩) (n:=n+1) (ρ:=oU ρ0 n h') ho (Nat.succ_pos _) (q.zero j L) (qae _) (by rw [cZ];omega);have J:=a.zero (Nat.succ_pos _) (q.zero j L);have A:=Nat.lt_of_lt_of_le (Nat.succ_pos _) a.le;have u:=Nat.lt_of_lt_of_le (qae _) a.le;have E:(mkC f [t1,.rc l] [] mu outs).m=(oO ⟨n,0⟩ (n+1) l).2.1:=by rw [<-y];rfl
 have N:(mkC f [t1,.rc l] [] mu outs).pre=((t1.bld (.k 0) 1).2.2++((ak (.k 0) ⟨n,0⟩::(oO ⟨n,0⟩ (n+1) l).2.2)++[]))++[]:=by rw [<-y];rfl
 have M:(mkC f [t1,.rc l] [] mu outs).args=[(t1.bld (.k 0) 1).1,.agg (oO ⟨n,0⟩ (n+1) l).1]:=by rw [<-y];rfl
 refine ⟨ρ1,?_,J,by grind,?_,⟨[],qaa.2 rfl,.nil⟩,?_,.nil⟩;·rw [a.same n (qae _)]<;>simp_all[oU]
 ·rw [E,N];refine aY.append (aY.append ((q.trans a).facts F) (aY.append (aY.cons (aJ.2 ⟨A,u,?_⟩) O) .nil)) .nil;rw [Lin.k_v J,a.lin (show (⟨n,0⟩:Lin).s<n+1 from qae _),cZ]<;>simp_all
 rw [E,M];exact .cons (H.more (q.trans a)) (.cons (.agg P) .nil)
theorem zqB {T:Tab}{l:List Sh}{outs:List Xl}(h1:t1.own=true)(ho:Gj l=true)(hx:t1.Is T 0 x1)(hh:0<=h')(ha:IsL T h' l xs):
  ∃ρ,ρ (t1.bld (.k 0) 1).2.1=h'/\(dS f [t1,.rc l] [] mu outs).Sat T ρ [x1,.agg xs] []:=by
 obtain ⟨ρ,h,a⟩:=zvI (f:=f) (mu:=mu) (outs:=outs.map fun o=>(o.1,o.2.1)) h1 ho hx hh ha;exact ⟨ρ,h,a.zero,a.pos,a.pre,a.alts,a.args,a.inb⟩
theorem ztR {k i:Int}(h1:0<=i)(h2:i<=1000000)(h3:nm.size<=1000000):Za.Is T h (.agg [num k,num i,aF nm]):=⟨_,rfl,⟨k,rfl⟩,⟨i,rfl,h1,h2⟩,⟨nm,rfl,by grind[bT]⟩,trivial⟩
theorem zC {k i:Int}(h1:0<=i)(h2:i<=1000000)(h3:nm.size<=1000000)(hd:D T (h+1) 11 x):∃b,∃B,∀N,B<=N->Gam.aC (ah tab ext N) 264 [.agg [num k,num i,aF nm],.agg x]=some (aj b):=by
 obtain ⟨n,q⟩:=QH hd;obtain ⟨o,j,r,bx,a,m,B,l⟩:=dX (zjE _ (qaa.2 rfl)) rfl rfl (xs:=[.agg [num k,num i,aF nm],.agg x]) ⟨ztR h1 h2 h3,⟨h,x,rfl,n,q⟩,trivial⟩ (bx:=[]) trivial;rcases qak.1 j with rfl|j;·obtain rfl:=nK m;have a:r=aj true:=a;subst a;exact ⟨true,B,fun N f=>aZ (l N f) rfl⟩
 obtain rfl:=qaa.1 j;obtain rfl:=nK m;have a:r=aj false:=a;subst a;exact ⟨false,B,fun N f=>aZ (l N f) rfl⟩
theorem MF {k i:Int}(h1:0<=i)(h2:i<=1000000)(h3:nm.size<=1000000)(hd:D T (h+1) 11 x):∃ys,ys.length<=6/\(∀y,y∈ys->D T h 11 y)/\∃B,∀N,B<=N->Gam.aC (ah tab ext N) 265 [.agg [num k,num i,aF nm],.agg x]=some (.sl false 6 ys):=by
 obtain ⟨u,S⟩:=QH hd;obtain ⟨ρ,m,j⟩:=zqB (f:=265) (t1:=Za) (l:=zmw) (mu:=none) (outs:=[(.slr 6 11 0 6,[],[lt 11 0 4])]) rfl rfl (ztR h1 h2 h3) u S;obtain ⟨q,Q,Z,ρ',r,n,P,z,E,L,O,H,B,A⟩:=BK j.zero j.pos (zjD _ (qaa.2 rfl) ρ _ _ j);obtain rfl:=qaa.1 Q;obtain rfl:=nK H;obtain ⟨t,ys,V,rfl,_,_,W,_⟩:=O;have Y:=P.same 4 (by decide);have m:ρ 4=h:=m;have M:=DF E (qaa.2 rfl);have a:∀e,e∈ys->D T (ρ' 11) 11 e:=by
  cases L with
  |sl _ _ _ _ w=>intro e J;have:=w e J;unfold Lin.v at this;dsimp only at this;rw [show ρ' 11=ρ' 11+0 by omega];exact this
 exact ⟨ys,by omega,fun y U=>gu (by omega) (a y U),B,fun N F=>aZ (A N F) rfl⟩
theorem zaK {T:Tab}{n:Nat}{cs:List AX}{x:X}(h:G T n ρ (.agg cs) x):∃xs,x=.agg xs/\GL T n ρ cs xs:=by
 cases h<;>simp_all
theorem dB {T:Tab}{n:Nat}{a:AX}{l:List AX}(h:GL T n ρ (a::l) m):∃x r,m=x::r/\G T n ρ a x/\GL T n ρ l r:=by
 cases h with
 |cons h1 h2=>grind
theorem zaH {T:Tab}{n:Nat}(h:GL T n ρ [] m):m=[]:=by
 cases h;rfl
theorem g_i {T:Tab}{n:Nat}{k:IntKind}{l:Lin}{x:X}(h:G T n ρ (.i k l) x):∃z,x=.v (.int k z):=by
 cases h<;>simp_all
theorem g_s {T:Tab}{n:Nat}{l:Lin}{x:X}(h:G T n ρ (.s l) x):∃s:qaY,x=aF s/\(s.size:Int)=l.v ρ:=by
 cases h with
 |s h1 h2=>exact ⟨_,rfl,h2⟩
theorem zp0 {T:Tab}{n:Nat}{t:Option Bool}{sz k:Nat}{h l:Lin}{x:X}(hg:G T n ρ (.sl t sz k h l) x):∃tt es,x=.sl tt sz es/\(es.length:Int)=l.v ρ/\∀e,e∈es->D T (h.v ρ) k e:=by
 cases hg with
 |sl h1 h2 h3 h4 h5=>grind
theorem G9 (hd:D T (h+1) 11 x):∃(a b c:Int) (s:qaY) (t:Bool) (l:qaX) (t':Bool) (f:qaX),D T (h+1) 1 [num a,num b,num c,aF s,.sl t 6 l,.sl t' 7 f]/\∃B,∀N,B<=N->Gam.aC (ah tab ext N) 46 [.agg x]=some (.agg [num a,num b,num c,aF s,.sl t 6 l,.sl t' 7 f]):=by
 obtain ⟨O,V⟩:=QH hd;obtain ⟨ρ,U,n⟩:=ztC (f:=46) (l:=zmw) (mu:=some (1,0)) (outs:=[(.ag [int,int,int,.s,.bs 0,.bs 1],[.y7 6 1 1 12,.y7 7 2 1 13])]) rfl O V;obtain ⟨o,S,ρ',r,bx,q,m,J,L,B,P⟩:=pV _ (qap _ (qaa.2 rfl)) ρ _ _ n;obtain rfl:=qaa.1 S;have z:=q.zero n.pos n.zero;have k1:ρ' 1=h:=by rw [q.same 1 (by decide)];exact U
 obtain ⟨y,W,M⟩:=G.data (y:=.agg [.i .i64 ⟨8,0⟩,.i .i64 ⟨9,0⟩,.i .i64 ⟨10,0⟩,.s ⟨11,0⟩,.sl (some false) 6 1 ⟨1,0⟩ ⟨12,0⟩,.sl (some false) 7 2 ⟨1,0⟩ ⟨13,0⟩]) (raw:=false) m L z J (by kernel_rfl);have E:=fV (l:=⟨11,0⟩) (lo:=0) (hi:=1000000) z (fun f j=>m f (by
  rcases qak.1 j with rfl|j
  ·grind[LW,Sh.bld,oO,bnd,bT]
  obtain rfl:=qaa.1 j
  grind[LW,Sh.bld,oO,bnd,bT]))
 have F:=fV (l:=⟨12,0⟩) (lo:=0) (hi:=1000000) z (fun f j=>m f (by
  rcases qak.1 j with rfl|j;·simp [LW,Sh.bld,oO,um,bnd,bT]
  obtain rfl:=qaa.1 j;simp [LW,Sh.bld,oO,um,bnd,bT]))
 have H:=fV (l:=⟨13,0⟩) (lo:=0) (hi:=1000000) z (fun f j=>m f (by
  rcases qak.1 j with rfl|j;·simp [LW,Sh.bld,oO,um,bnd,bT]
  obtain rfl:=qaa.1 j;simp [LW,Sh.bld,oO,um,bnd,bT]))
 obtain ⟨cs,rfl,Y⟩:=zaK M;obtain ⟨x1,r1,rfl,w1,Z⟩:=dB Y;obtain ⟨x2,r2,rfl,w2,v2⟩:=dB Z;obtain ⟨x3,r3,rfl,w3,v3⟩:=dB v2;obtain ⟨x4,r4,rfl,w4,v4⟩:=dB v3;obtain ⟨x5,r5,rfl,w5,v5⟩:=dB v4;obtain ⟨x6,r6,rfl,w6,v6⟩:=dB v5;obtain rfl:=zaH v6;obtain ⟨a,rfl⟩:=g_i w1;obtain ⟨b,rfl⟩:=g_i w2;obtain ⟨c,rfl⟩:=g_i w3;obtain ⟨s,rfl,e4⟩:=g_s w4;obtain ⟨t,l,rfl,e5,u⟩:=zp0 w5;obtain ⟨t',f,rfl,e6,A⟩:=zp0 w6;refine ⟨a,b,c,s,t,l,t',f,dJ (by omega) (qaa.2 rfl) ?_,B,fun N Q=>aZ (P N Q) W⟩;rw [Int.add_sub_cancel];have v7:Lin.v ⟨1,0⟩ ρ'=h:=by unfold Lin.v;dsimp only;omega
 rw [v7] at u A;exact ⟨⟨rfl,(fun a e=>by cases e),(fun a e=>by cases e)⟩,⟨rfl,(fun a e=>by cases e),(fun a e=>by cases e)⟩,⟨rfl,(fun a e=>by cases e),(fun a e=>by cases e)⟩,⟨by omega,by omega⟩,⟨rfl,by omega,by omega,u⟩,⟨rfl,by omega,by omega,A⟩,trivial⟩
end Ct
namespace Ct
def eF (a b c:Int)(s:qaY)(l f:qaX):List X:=[num a,num b,num c,aF s,.sl false 6 l,.sl false 7 f]
theorem Oe {s:qaY}{l f:qaX}(hd:D T H 1 (eF a b c s l f)):val.Is T 0 (.agg (eF a b c s l f)):=by obtain ⟨F,m,n,q⟩:=l9 hd;obtain rfl:=qaa.1 n;obtain ⟨_,_,_,⟨_,u⟩,⟨_,y,A,h⟩,⟨_,B,E,j⟩,_⟩:=q;exact ⟨H-1,_,rfl,by omega,⟨a,rfl⟩,⟨b,rfl⟩,⟨c,rfl⟩,⟨s,rfl,by grind[bT]⟩,⟨false,l,rfl,by grind[bT],h⟩,⟨false,f,rfl,by grind[bT],j⟩,trivial⟩
theorem zg0 {x:X}(hx:val.Is T 0 x):∃(a b c:Int) (s:qaY) (t:Bool) (l:qaX) (t':Bool) (f:qaX),x=.agg [num a,num b,num c,aF s,.sl t 6 l,.sl t' 7 f]/\∃H,D T H 1 (eF a b c s l f):=by
 obtain ⟨h',xs,rfl,j,h⟩:∃h' xs,x=.agg xs/\0<=h'/\IsL T h' [int,int,int,.s,.slh 6 1,.slh 7 2] xs:=hx
 match xs,h with
 |[_,_,_,_,_,_],⟨⟨a,rfl⟩,⟨b,rfl⟩,⟨c,rfl⟩,⟨s,rfl,k1⟩,⟨t,l,rfl,k2,k3⟩,⟨t',f,rfl,k4,k5⟩,_⟩=>unfold bT at k1 k2 k4;refine ⟨a,b,c,s,t,l,t',f,rfl,h'+1,dJ (by omega) (qaa.2 rfl) ?_⟩;rw [Int.add_sub_cancel];exact ⟨⟨rfl,(fun a e=>by cases e),(fun a e=>by cases e)⟩,⟨rfl,(fun a e=>by cases e),(fun a e=>by cases e)⟩,⟨rfl,(fun a e=>by cases e),(fun a e=>by cases e)⟩,⟨by omega,by omega⟩,⟨rfl,by omega,by omega,k3⟩,⟨rfl,by omega,by omega,k5⟩,trivial⟩
theorem VB {s:qaY}{l f:qaX}(hd:D T H 1 (eF a b c s l f)):∃g,∃B,∀N,B<=N->Gam.aC (ah tab ext N) 67 [.agg (eF a b c s l f)]=some (aj g):=by
 obtain ⟨o,m,r,bx,h,n,B,q⟩:=dX (Dd.yC _ (qaa.2 rfl)) rfl rfl (xs:=[.agg (eF a b c s l f)]) ⟨Oe hd,trivial⟩ (bx:=[]) trivial;rcases qak.1 m with rfl|m;·obtain rfl:=nK n;have h:r=aj true:=h;subst h;exact ⟨true,B,fun N j=>aZ (q N j) rfl⟩
 obtain rfl:=qaa.1 m;obtain rfl:=nK n;have h:r=aj false:=h;subst h;exact ⟨false,B,fun N j=>aZ (q N j) rfl⟩
theorem zho {w e f:qaX}(hd:D T (H+1) 14 (dK q1 q2 q3 q4 w e f)):typ.Is T 0 (.agg (dK q1 q2 q3 q4 w e f)):=by obtain ⟨F,m,n,l⟩:=l9 hd;obtain rfl:=qaa.1 n;rw [Int.add_sub_cancel] at l;obtain ⟨_,_,_,_,⟨_,q,u,a⟩,⟨_,y,A,h⟩,⟨_,B,E,j⟩,_⟩:=l;exact ⟨H,_,rfl,by omega,⟨q1,rfl⟩,⟨q2,rfl⟩,⟨q3,rfl⟩,⟨q4,rfl⟩,⟨false,w,rfl,by grind[bT],a⟩,⟨false,e,rfl,by grind[bT],h⟩,⟨false,f,rfl,by omega,by omega,j⟩,trivial⟩
theorem IK {w e f:qaX}(hT:D T (H+1) 14 (dK q1 q2 q3 q4 w e f)){ls:qaX}(hl:ls.length<=201)(hd:∀x,x∈ls->D T 1 7 x):∃g,∃B,∀N,B<=N->Gam.aC (ah tab ext N) 68 [.agg (dK q1 q2 q3 q4 w e f),.sl false 3 ls]=some (aj g):=by
 obtain ⟨o,j,r,bx,a,l,B,m⟩:=dX (Dd.zjY _ (qaa.2 rfl)) rfl rfl (xs:=[.agg (dK q1 q2 q3 q4 w e f),.sl false 3 ls]) ⟨zho hT,⟨false,ls,1,rfl,by decide,by grind[bT],hd⟩,trivial⟩ (bx:=[]) trivial;rcases qak.1 j with rfl|j;·obtain rfl:=nK l;have a:r=aj true:=a;subst a;exact ⟨true,B,fun N h=>aZ (m N h) rfl⟩
 obtain rfl:=qaa.1 j;obtain rfl:=nK l;have a:r=aj false:=a;subst a;exact ⟨false,B,fun N h=>aZ (m N h) rfl⟩
theorem zdx {H1 H2:Int}{s:qaY}{l f:qaX}(h1:D T H1 1 (eF a b c s l f)){ls:qaX}(hl0:1<=ls.length)(hl:ls.length<=201)(hd:∀x,x∈ls->D T 1 7 x){a2 b2 c2:Int}{s2:qaY}{l2 f2:qaX}(h2:D T H2 1 (eF a2 b2 c2 s2 l2 f2)):
  ∃(a3 b3 c3:Int) (s3:qaY) (l3 f3:qaX) (e:Int),(∃H3,D T H3 1 (eF a3 b3 c3 s3 l3 f3))/\(0<=e/\e<=100)/\∃B,∀N,B<=N->Gam.aC (ah tab ext N) 69 [.agg (eF a b c s l f),.sl false 3 ls,.agg (eF a2 b2 c2 s2 l2 f2)]=some (.tup [.agg (eF a3 b3 c3 s3 l3 f3),num e]):=by
 obtain ⟨o,y,r,bx,h,j,B,m⟩:=dX (Dd.zjX _ (qaa.2 rfl)) rfl rfl (xs:=[.agg (eF a b c s l f),.sl false 3 ls,.agg (eF a2 b2 c2 s2 l2 f2)]) ⟨Oe h1,⟨false,ls,1,rfl,by decide,by omega,by omega,hd⟩,Oe h2,trivial⟩ (bx:=[]) trivial;obtain rfl:=qaa.1 y;obtain rfl:=nK j;obtain ⟨xs,rfl,u⟩:∃xs,r=.tup xs/\IsL T 0 [val,err] xs:=h
 match xs,u with
 |[x,_],⟨hx,⟨e,rfl,e1,e2⟩,_⟩=>obtain ⟨a3,b3,c3,s3,t,l3,A,f3,rfl,n⟩:=zg0 hx;exact ⟨a3,b3,c3,s3,l3,f3,e,n,⟨e1,e2⟩,B,fun N q=>aZ (m N q) rfl⟩
end Ct
namespace Ct.Ff
def zwg:List Ctr:=[mkC 198 [.s] [] none [((.kb true),[]),((.kb false),[])]]
theorem zjl:ay T Gm zwg:=hoA K3 zkg
def zwu:List Ctr:=[(dS 133 [vg] [] none [(.kb true,[],[ak ⟨2,0⟩ (.k 7),ak ⟨6,0⟩ (.k 0),ak ⟨7,0⟩ (.k 0)]),(.kb true,[],bd 2 8 8++[ak ⟨7,0⟩ (.k 0)]),(.kb true,[],bd 2 9 9++[ak ⟨6,0⟩ (.k 0)]),(.kb true,[],bd 2 10 10++[ak (.k 1) ⟨6,0⟩,ak ⟨6,0⟩ (.k 1),ak ⟨7,0⟩ (.k 0)]),(.kb true,[],[ak (.k 11) ⟨2,0⟩,ak ⟨6,0⟩ (.k 0),ak ⟨7,0⟩ (.k 0)]),(.kb false,[],[])]).with (Jd 2)]
theorem zjt:ay T Gm zwu:=hoB K3 ((iQ [⟨[1,3,4],fun e n=>(n+1,[ak (e 3) ⟨n+0,8⟩,ak ⟨n+0,0⟩ ((e 10).up (1))],[(1,.ptr 0 (.k 0) 0),(3,.ptr 1 (.k 0) 0),(4,.i .i64 ⟨n+0,0⟩)],[.var [.i .i64 (e 3),.i .i64 (e 4),.i .i64 (e 5),.s (e 6),.sl none 6 21 (e 7) (e 8),.sl none 7 22 (e 7) (e 10)],.var [.i .i64 (e 3),.i .i64 (e 4),.i .i64 (e 5),.s (e 6),.sl none 6 21 (e 7) (e 8),.sl none 7 22 (e 7) (e 10)]],(e 10,⟨n+0,0⟩))⟩])) zjl
def zup:List Ctr:=[dS 133 [vg] [] none [(.kb true,[],[ak ⟨2,0⟩ (.k 7),ak ⟨6,0⟩ (.k 0),ak ⟨7,0⟩ (.k 0)]),(.kb true,[],bd 2 8 8++[ak ⟨7,0⟩ (.k 0)]),(.kb true,[],bd 2 9 9++[ak ⟨6,0⟩ (.k 0)]),(.kb true,[],bd 2 10 10++[ak (.k 1) ⟨6,0⟩,ak ⟨6,0⟩ (.k 1),ak ⟨7,0⟩ (.k 0)]),(.kb true,[],[ak (.k 11) ⟨2,0⟩,ak ⟨6,0⟩ (.k 0),ak ⟨7,0⟩ (.k 0)]),(.kb false,[],[])]]
theorem zaN:ay T Gm zup:=.one fun ρ h f a=>zjt _ (qaa.2 rfl) ρ h f ⟨a.zero,a.pos,a.pre,VP a.zero (s:=2) a.pos (by decide),a.args,a.inb⟩
def zv6:List Ctr:=[mkC 256 [tfd,.dp [.s]] [] none [(.kb true,[]),(.kb false,[])]]
theorem zah:ay T Gm zv6:=hoA K3 .nil
def zrB:List Ctr:=[dS 193 [.slr 11 15 0 100,.fn 256 [.dp [.s]]] [] none [(.ir .i64 (-1) 100,[],[lt 4 1 2])]]
theorem P9:ay T Gm zrB:=hoB K3 ((iQ [⟨[0,1,7,8],fun e n=>(n+1,[ak (.k 0) ⟨n+0,0⟩,ak ⟨n+0,0⟩ (e 1)],[(0,.sl none 11 15 (e 0) (e 1)),(1,.fn 256 [.dp [.s (e 2)]]),(7,.i .i64 (e 1)),(8,.i .i64 ⟨n+0,0⟩)],[],(e 1,⟨n+0,0⟩))⟩])) zah
def zt4:List Ctr:=[dS 199 [typ,.s] [] none [(.tu [tfd,.kb true],[],[lt 10 1 1,ak (.k 1) ⟨1,0⟩]),(.tu [tfd,.kb false],[],[])]]
theorem zal:ay T Gm zt4:=hoA K3 (hpA zah P9)
def zrK:List Ctr:=[mkC 86 [.s,.s] [] none [((int),[])]]
theorem Jo:ay T Gm zrK:=hoA K3 zaS
def zwt:List Ctr:=[mkC 136 [zkN,.s] [] none [(int,[])]]
theorem zar:ay T Gm zwt:=hoA K3 Jo
end Ct.Ff
open Go.Em
theorem zew {s:Nat}(h:s<4294967296):IntKind.i64.wrap (Int.ofNat (s /2))=Int.ofNat (s /2):=by grind[IntKind.wrap_i64]
theorem zhn {s:Nat}(h:s<4294967296):IntKind.u64.wrap (Int.ofNat s)=Int.ofNat s:=by grind[IntKind.wrap_u64]
theorem zhI {s:Nat}:(Int.ofNat s).fdiv (2^min (Int.toNat 1) IntKind.u64.bits)=Int.ofNat (s /2):=by
 have e:(2:Int)^min (Int.toNat 1) IntKind.u64.bits=2:=by decide
 grind
theorem zlP {a b:Nat}(h:a<4294967296)(h':b<4294967296):IntKind.i64.wrap (Int.ofNat a+Int.ofNat b)=Int.ofNat (a+b):=by grind[IntKind.wrap_i64]
section
variable (l:qaX) (k i s:Int) (tx:qaY) (vl fl:qaX) (n lo hi:Nat)
end
namespace Ct.Ff
theorem d22 (hd:D T H 22 x):∃(nm:qaY) (a b c:Int) (s:qaY) (t:Bool) (l:qaX) (t':Bool) (f:qaX),x=[aF nm,num a,num b,num c,aF s,.sl t 6 l,.sl t' 7 f]/\zkN.Is T 0 (.agg [aF nm,num a,num b,num c,aF s,.sl false 6 l,.sl false 7 f]):=by
 obtain ⟨u,h,j,m⟩:=l9 hd;obtain rfl:=qaa.1 j
 match x,m with
 |[_,_,_,_,_,_,_],⟨k0,k1,k2,k3,k4,k5,k6,_⟩=>obtain ⟨nm,rfl,y,A⟩:=zgG k0;obtain ⟨a,rfl⟩:=kC k1;obtain ⟨b,rfl⟩:=kC k2;obtain ⟨c,rfl⟩:=kC k3;obtain ⟨s,rfl,B,E⟩:=zgG k4;obtain ⟨t,l,rfl,F,J,n⟩:=zQ k5;obtain ⟨t',f,rfl,L,M,q⟩:=zQ k6;exact ⟨nm,a,b,c,s,t,l,t',f,rfl,H-1,_,rfl,by omega,⟨nm,rfl,by grind[bT]⟩,⟨a,rfl⟩,⟨b,rfl⟩,⟨c,rfl⟩,⟨s,rfl,by grind[bT]⟩,⟨false,l,rfl,by grind[bT],n⟩,⟨false,f,rfl,by omega,by omega,q⟩,trivial⟩
theorem zgK (hd:D T H 22 x){key:qaY}(hk:key.size<=1000000):∃(r:Int) (nm:qaY) (a b c:Int) (s:qaY) (t:Bool) (l:qaX) (t':Bool) (f:qaX),x=[aF nm,num a,num b,num c,aF s,.sl t 6 l,.sl t' 7 f]/\∃B,∀N,B<=N->Gam.aC (ah tab ext N) 136 [.agg [aF nm,num a,num b,num c,aF s,.sl false 6 l,.sl false 7 f],aF key]=some (num r):=by obtain ⟨nm,a,b,c,s,t,l,t',f,rfl,q⟩:=d22 hd;obtain ⟨o,u,r,bx,h,j,B,m⟩:=dX (zar _ (qaa.2 rfl)) rfl rfl (xs:=[.agg [aF nm,num a,num b,num c,aF s,.sl false 6 l,.sl false 7 f],aF key]) ⟨q,⟨key,rfl,by grind[bT]⟩,trivial⟩ (bx:=[]) trivial;obtain rfl:=qaa.1 u;obtain rfl:=nK j;obtain ⟨z,rfl⟩:∃z,r=num z:=h;exact ⟨z,nm,a,b,c,s,t,l,t',f,rfl,B,fun N n=>aZ (m N n) rfl⟩
section
variable (fl:Bool) (l:qaX) (key:qaY) (n lo hi:Nat)
def bsH:St:=⟨[(0,.sl fl 7 l),(1,aF key),(2,.fn 136 []),(8,nat n),(9,nat lo),(10,nat hi)],[]⟩
def bsE:St:=⟨[(0,.sl fl 7 l),(1,aF key),(2,.fn 136 []),(8,nat n),(9,nat lo),(10,nat hi),(17,aj false)],[]⟩
theorem JZ:canon 0 (bsH fl l key n lo hi)=some (bsH fl l key n lo hi):=by kernel_rfl
theorem zoV (h:¬lo<hi)(M:Nat):run (ah tab ext M) 0 M (aH 135 0) (bsH fl l key n lo hi)=some (.exit 0,bsE fl l key n lo hi):=
 ruA [(17,.b false)] (pf1 (aN h))
theorem zbK (r:Int)(nm:qaY)(a b c:Int)(s:qaY)(t:Bool)(l1:qaX)(t':Bool)(f:qaX)(hlt:lo<hi)(hh:hi<4294967)(hg:l[(lo+hi) /2]?=some [aF nm,num a,num b,num c,aF s,.sl t 6 l1,.sl t' 7 f])(M:Nat)(hc:Gam.aC (ah tab ext M) 136 [.agg [aF nm,num a,num b,num c,aF s,.sl false 6 l1,.sl false 7 f],aF key]=some (num r)):
  (r<0->run (ah tab ext M) 0 M (aH 135 0) (bsH fl l key n lo hi)=some (.norm,bsH fl l key n ((lo+hi) /2+1) hi))/\
  (¬r<0->run (ah tab ext M) 0 M (aH 135 0) (bsH fl l key n lo hi)=some (.norm,bsH fl l key n lo ((lo+hi) /2))):=by
 have q:=aK hlt;have u:=zlP (a:=lo) (b:=hi) (by omega) (by omega);have y:=zhn (s:=lo+hi) (by omega);have A:=zhI (s:=lo+hi);have B:=zew (s:=lo+hi) (by omega);have E:=aB (j:=(lo+hi) /2) (by omega);constructor;·intro m;have h:=decide_eq_true m;exact ruA [(17,.b true),(20,.i (Int.ofNat (lo+hi))),(21,.i (Int.ofNat (lo+hi))),(22,.i (Int.ofNat ((lo+hi) /2))),(23,.i (Int.ofNat ((lo+hi) /2))),(27,.e [aF nm,num a,num b,num c,aF s,.sl t 6 l1,.sl t' 7 f]),(30,.p (num r)),(31,.b true),(33,.i (Int.ofNat ((lo+hi) /2+1)))] (pf9 q u y A B hg hc h E)
 intro m;have h:=decide_eq_false m;exact ruA [(17,.b true),(20,.i (Int.ofNat (lo+hi))),(21,.i (Int.ofNat (lo+hi))),(22,.i (Int.ofNat ((lo+hi) /2))),(23,.i (Int.ofNat ((lo+hi) /2))),(27,.e [aF nm,num a,num b,num c,aF s,.sl t 6 l1,.sl t' 7 f]),(30,.p (num r)),(31,.b false)] (pf8 q u y A B hg hc h)
end
theorem zlc (fl:Bool)(l:qaX)(key:qaY)(hl:l.length<=1001000)(hk:key.size<=1000000)(hd:∀e,e∈l->D T H 22 e):∃r B,r<=l.length/\∀M,B<=M->run (ah tab ext M) 0 M (.loop (aH 135 0)) (bsH fl l key l.length 0 l.length)=some (.exit 0,bsE fl l key l.length r r):=by
 obtain ⟨e,σ',B,⟨r,rfl,rfl,q⟩,h⟩:=jI (nIn:=0) (b:=aH 135 0) (H:=fun p:Nat×Nat=>bsH fl l key l.length p.1 p.2) (I:=fun p=>p.1<=p.2/\p.2<=l.length) (μ:=fun p=>p.2-p.1)
  (Q:=fun e σ'=>∃r,e=.exit 0/\σ'=bsE fl l key l.length r r/\r<=l.length) (fun p P=>by
   obtain ⟨j,m⟩:=p;obtain ⟨O,u⟩:=P;dsimp only at O u ⊢;by_cases n:j<m
   ·left;have N:(j+m) /2<l.length:=by omega
    obtain ⟨r,E,a,b,c,s,t,A,F,f,S,B,J⟩:=zgK (hd _ (qag N)) hk;have L:l[(j+m) /2]?=some [aF E,num a,num b,num c,aF s,.sl t 6 A,.sl F 7 f]:=by rw [qad N,S]
    by_cases q:r<0;·exact ⟨_,((j+m) /2+1,m),B,fun M y=>(zbK fl l key l.length j m r E a b c s t A F f n (by omega) L M (J M y)).1 q,JZ ..,⟨by grind,u⟩,by grind⟩
    exact ⟨_,(j,(j+m) /2),B,fun M y=>(zbK fl l key l.length j m r E a b c s t A F f n (by omega) L M (J M y)).2 q,JZ ..,⟨by grind,by grind⟩,by grind⟩
   right;obtain rfl:j=m:=by omega
   exact ⟨_,_,0,(by grind),⟨j,rfl,rfl,u⟩,fun M _=>zoV fl l key l.length j j n M⟩) (a:=(0,l.length)) ⟨Nat.zero_le _,Nat.le_refl _⟩ (JZ ..)
 exact ⟨r,B,q,h⟩
theorem zlb (fl:Bool)(l:qaX)(key:qaY)(hl:l.length<=1001000)(hk:key.size<=1000000)(hd:∀e,e∈l->D T H 22 e):∃(r:Nat) (b:Bool),r<=l.length/\∃B,∀N,B<=N->ah tab ext N (.fn 135) [.sl fl 7 l,aF key,.fn 136 []] []=some (.tup [nat r,aj b],[]):=by
 obtain ⟨r,B,y,j⟩:=zlc fl l key hl hk hd;have m:∀{b:Bool} {B:Nat},(∀M,B<=M->ah tab ext (M+1) (.fn 135) [.sl fl 7 l,aF key,.fn 136 []] []=some (.tup [nat r,aj b],[]))->∃B,∀N,B<=N->ah tab ext N (.fn 135) [.sl fl 7 l,aF key,.fn 136 []] []=some (.tup [nat r,aj b],[]):=fun {b} {B} h=>⟨B+1,fun N U=>by obtain ⟨M,rfl⟩:=pR_ N<;>simp_all⟩;by_cases q:r<l.length
 ·obtain ⟨z,F,a,b,c,s,t,E,J,f,S,L,P⟩:=zgK (hd _ (qag q)) hk;have Q:l[r]?=some [aF F,num a,num b,num c,aF s,.sl t 6 E,.sl J 7 f]:=by rw [qad q,S]
  have u:=aK q;generalize l.length=n at j u y ⊢;cases O:(z==0) with
  |true=>exact ⟨r,true,y,m (B:=max B L) fun M A=>caB [(38,.b true),(43,.e [aF F,num a,num b,num c,aF s,.sl t 6 E,.sl J 7 f]),(46,.p (num z)),(47,.b true)] [(.exit 0,bsE fl l key n r r)] (pf5 (j M (by omega)) u Q (P M (by omega)) O)⟩
  |false=>exact ⟨r,false,y,m (B:=max B L) fun M A=>caB [(38,.b true),(43,.e [aF F,num a,num b,num c,aF s,.sl t 6 E,.sl J 7 f]),(46,.p (num z)),(47,.b false)] [(.exit 0,bsE fl l key n r r)] (pf5 (j M (by omega)) u Q (P M (by omega)) O)⟩
 have u:=aN q;generalize l.length=n at j u y ⊢;exact ⟨r,false,y,m (B:=B) fun M A=>caB [(38,.b false)] [(.exit 0,bsE fl l key n r r)] (pf2 (j M A) u)⟩
def zxc:List Ctr:=[dS 135 [.slr 7 22 0 1001000,.s,.fn 136 []] [] none [(.tu [.ir .i64 0 1001000,.kb true],[],[lt 4 0 2]),(.tu [.ir .i64 0 1001000,.kb false],[],[lt 4 0 2])]]
theorem zj7:ay T Gm zxc:=.one fun ρ B E a=>by
 obtain ⟨u,y⟩:=pG a;have A:=a.args;obtain rfl:=nK y
 match B,u,A with
 |[_,_,_],⟨⟨fl,l,h',rfl,hh,hl1,hl2,hd⟩,⟨key,rfl,hk⟩,⟨ys,rfl,hys⟩,_⟩,.cons n _=>
  match ys,hys with
  |[],_=>
   unfold bT at hk;obtain ⟨r,b,J,h⟩:=zlb fl l key (by omega) (by omega) hd;have F:(l.length:Int)=ρ 2:=by
    cases n with
    |sl _ _ _ q _=>grind[Lin.v]
   have fact:∀(c:Bool) (n':Nat) (ρ':Rho),More (dS 135 [.slr 7 22 0 1001000,.s,.fn 136 []] [] none [(.tu [.ir .i64 0 1001000,.kb true],[],[lt 4 0 2]),(.tu [.ir .i64 0 1001000,.kb false],[],[lt 4 0 2])]).m ρ n' ρ'->G T n' ρ' ((Sh.tu [.ir .i64 0 1001000,.kb c]).bld (.k 0) 4).1 (.tup [nat r,aj b])->4<n'->aY n' ρ' [lt 4 0 2]:=fun c n' ρ' f g j=>by
    have L:=f.same 2 (by decide);have H:(r:Int)=ρ' 4:=by
     cases g with
     |tup g=>cases g with
      |cons g _=>exact sI g
    exact .cons (iZ j (by omega) (by omega)) .nil
   cases b with
   |true=>exact jY (q:=(.tu [.ir .i64 0 1001000,.kb true],[],[lt 4 0 2])) (qar ..) a.zero a.pos rfl rfl (r:=.tup [nat r,aj true]) ⟨_,rfl,ziE (by grind) (by grind),rfl,trivial⟩ (fun n' ρ' f _ g j=>fact true n' ρ' f g (by rw [j];decide)) h
   |false=>exact jY (q:=(.tu [.ir .i64 0 1001000,.kb false],[],[lt 4 0 2])) (qap _ (qaa.2 rfl)) a.zero a.pos rfl rfl (r:=.tup [nat r,aj false]) ⟨_,rfl,ziE (by grind) (by grind),rfl,trivial⟩ (fun n' ρ' f _ g j=>fact false n' ρ' f g (by rw [j];decide)) h
end Ct.Ff
end Go.Proofs.YtpcjeobkehmhpaaGreatDoor
