/-.-/
import Derived.Laws.Bits64
import Derived.Test.YtpcjeobkehmhpaaGreatDoorU15
import Derived.Test.YtpcjeobkehmhpaaGreatDoorU16
import Derived.Test.YtpcjeobkehmhpaaGreatDoorU17
import Derived.Test.YtpcjeobkehmhpaaGreatDoorU18
set_option linter.unusedSimpArgs false
set_option linter.unusedVariables false
namespace Go.Proofs.YtpcjeobkehmhpaaGreatDoor
open Go Go.Em Go.Ab
set_option maxRecDepth 100000
variable {nm:qaZ}{f:FuncId}{H a b c h h' q1 q2 q3 q4:Int}{outs:List (Sh×List BSh)}{m x xs:List X}{P:Nat->List X->Prop}{mu:Option (Nat×Nat)}{ρ:Rho}{t1:Sh}{x1:X}
namespace Ct
def tV (e:List X):Prop:=∃(k i:Int) (nm:qaZ),e=[num k,num i,aC nm]/\0<=i/\i<=1000000/\nm.size<=1000000
theorem RZ (hh:1<=h){e:List X}(he:tV e):D T h 7 e:=by obtain ⟨k,i,nm,rfl,h1,h2,h3⟩:=he;exact dH hh (qaa.2 rfl) ⟨⟨rfl,(fun a e=>by cases e),(fun a e=>by cases e)⟩,⟨rfl,(fun a e=>by cases e;exact h1),(fun a e=>by cases e;exact h2)⟩,⟨by omega,by omega⟩,trivial⟩
theorem Zj {s:qaZ}(h:(!s.toList==(⟨#[]⟩:qaZ).toList)=true):1<=s.size:=by
 rcases Nat.eq_zero_or_pos s.size with h0|h0
 ·exfalso;have:s=⟨#[]⟩:=by obtain ⟨d⟩:=s;have:d=#[]:=Array.size_eq_zero_iff.1 h0;rw [this]
  subst this;simp at h
 exact h0
theorem zdM {s:qaZ}(h:(!s.toList==(⟨#[]⟩:qaZ).toList)=false):s.size=0:=by
 have e:s.toList=s.data.toList:=ByteArray.toList_eq s;have e0:(⟨#[]⟩:qaZ).toList=[]:=ByteArray.toList_eq _;rw [e,e0] at h;cases hl:s.data.toList with
 |nil=>show s.data.size=0;rw [<-Array.length_toList,hl];rfl
 |cons a r=>rw [hl] at h;cases h
theorem Vj (s0:qaZ)(h0:s0.size<=201)(h00:1<=s0.size):∃e σ' B,((e=.ret/\∃bx,σ'=⟨[(2,.sl true 3 []),(3,num 13)],bx⟩/\(∃es c,bx=[.row 3 es,.var c]))\/(∃(s:qaZ) (es:qaY),e=.exit 1/\σ'=⟨[(4,.bs 0 0 es.length),(5,aC s),(19,ak false)],[.row 3 es]⟩/\(1<=es.length/\es.length<=201)/\∀x,x∈es->tV x))/\
  ∀M,B<=M->run (ah tab ext M) 0 M (.loop (aH 89 0)) ⟨[(4,.bs 0 0 0),(5,aC s0)],[.row 3 []]⟩=some (e,σ'):=by
 refine jC (nIn:=0) (b:=aH 89 0) (H:=fun p:qaZ×qaY×Nat=>⟨[(4,.bs 0 0 p.2.2),(5,aC p.1)],[.row 3 p.2.1]⟩) (I:=fun p=>p.2.2=p.2.1.length/\p.1.size+p.2.2<=201/\(p.2.2=0->1<=p.1.size)/\∀x,x∈p.2.1->tV x) (μ:=fun p=>p.1.size)
  (Q:=fun e σ'=>(e=.ret/\∃bx,σ'=⟨[(2,.sl true 3 []),(3,num 13)],bx⟩/\(∃es c,bx=[.row 3 es,.var c]))\/(∃(s:qaZ) (es:qaY),e=.exit 1/\σ'=⟨[(4,.bs 0 0 es.length),(5,aC s),(19,ak false)],[.row 3 es]⟩/\(1<=es.length/\es.length<=201)/\∀x,x∈es->tV x))
  (fun p hp=>?_) (a:=(s0,[],0)) ⟨rfl,by dsimp only;omega,fun _=>h00,fun x hx=>by cases hx⟩ (by kernel_rfl)
 obtain ⟨s,es,n⟩:=p;obtain ⟨i1,i2,i4,i3⟩:=hp;dsimp only at i1 i2 i4 i3 ⊢;cases h1:(!s.toList==(⟨#[]⟩:qaZ).toList) with
 |false=>subst i1;exact .inr ⟨_,_,0,(by intro e;cases e),.inr ⟨s,es,rfl,rfl,⟨by have:=zdM h1;omega,by omega⟩,i3⟩,fun M _=>ruA [(19,.b false)] (pf1 h1)⟩
 |true=>
  have hs:=Zj h1;obtain ⟨k,i,nm,s2,b,ht,hnm,hlt⟩:=XK s hs (by omega);obtain ⟨B1,ht⟩:=gY ht rfl;cases b with
  |false=>exact .inr ⟨_,_,B1,(by intro e;cases e),.inl ⟨rfl,_,rfl,es,[num k,num i,aC nm],rfl⟩,fun M hM=>ruA [(19,.b true),(22,.p (.tup [.agg [num k,num i,aC nm],aC s2,ak false])),(25,.b false)] (pf3 h1 (ht M hM) (show false=false from rfl))⟩
  |true=>
   have hlt:=hlt rfl;obtain ⟨c,hv,hc⟩:=Ul k i nm hnm;obtain ⟨B2,hv⟩:=gY hv rfl;cases c with
   |false=>exact .inr ⟨_,_,max B1 B2,(by intro e;cases e),.inl ⟨rfl,_,rfl,es,[num k,num i,aC nm],rfl⟩,fun M hM=>ruA [(19,.b true),(22,.p (.tup [.agg [num k,num i,aC nm],aC s2,ak true])),(25,.b true),(30,.p (ak false)),(31,.b true)] (pf5 h1 (ht M (by omega)) (show true=true from rfl) (hv M (by omega)) (show (!false)=true from rfl))⟩
   |true=>
    obtain ⟨c1,c2⟩:=hc rfl;have hroom:0+n=es.length/\dD (n+[[num k,num i,aC nm]].length) (31+1)=true/\sD 0 (X.sl true 3 [[num k,num i,aC nm]]).rows=false:=⟨by omega,jc (by simp only [qaz,qaR];omega) (by simp only [qaz,qaR];omega),rfl⟩;refine .inl ⟨⟨[(4,.bs 2 0 (n+1)),(5,aC s2)],[.dead,.var [num k,num i,aC nm],.row 3 (es++[[num k,num i,aC nm]])]⟩,(s2,es++[[num k,num i,aC nm]],n+1),max B1 B2,fun M hM=>?_,by kernel_rfl,⟨by simp [i1],by dsimp only;omega,(fun h=>by dsimp only at h;omega),fun x hx=>?_⟩,by dsimp only;omega⟩;·exact ruA [(19,.b true),(22,.p (.tup [.agg [num k,num i,aC nm],aC s2,ak true])),(25,.b true),(30,.p (ak true)),(31,.b false),(36,.app)] (pf6 h1 (ht M (by omega)) (show true=true from rfl) (hv M (by omega)) (show (!true)=false from rfl) hroom)
    rcases qaK.1 hx with hx|hx;·exact i3 x hx
    rw [qaa.1 hx];exact ⟨k,i,nm,rfl,c1,c2,hnm⟩
theorem F6 (s:qaZ)(hs:s.size<=1000000):(∃e:Int,1<=e/\e<=100/\Back 89 [aC s] (.tup [.sl true 3 [],num e]))\/∃es,(1<=es.length/\es.length<=201)/\(∀x,x∈es->tV x)/\∃B,∀N,B<=N->ah tab ext N (.fn 89) [aC s] []=some (.tup [.bs 0 0 es.length,num 0],[.row 3 es]):=by
 have lift:∀{B:Nat} {r:X} {bx:List Bx},(∀M,B<=M->ah tab ext (M+1) (.fn 89) [aC s] []=some (r,bx))->∃B,∀N,B<=N->ah tab ext N (.fn 89) [aC s] []=some (r,bx):=fun {B} {r} {bx} h=>⟨B+1,fun N hN=>by obtain ⟨M,rfl⟩:∃M,N=M+1:=⟨N-1,by omega⟩;exact h M (by omega)⟩;cases h1:(s.toList==(⟨#[]⟩:qaZ).toList) with
 |true=>exact .inl ⟨4,by decide,by decide,lift (B:=0) fun M _=>caA [(11,.b true)] (pf1 h1) (r:=some (.tup [.sl true 3 [],num 4],[]))⟩
 |false=>
  cases h2:decide (Int.ofNat s.size>200) with
  |true=>exact .inl ⟨5,by decide,by decide,lift (B:=0) fun M _=>caA [(11,.b false),(15,.b true)] (pf2 h1 h2) (r:=some (.tup [.sl true 3 [],num 5],[]))⟩
  |false=>
   have h2':¬Int.ofNat s.size>200:=of_decide_eq_false h2;simp only [qaq] at h2';have hsz:((⟨#[46]⟩:qaZ)++s).size<=201:=by rw [ByteArray.size_append];show 1+s.size<=201;omega
   have hc:(⟨#[46]⟩:qaZ).size+s.size<=9223372036854775807:=by show 1+s.size<=_;omega
   obtain ⟨e,σ',B,hr,hl⟩:=Vj _ hsz (by rw [ByteArray.size_append];show 1<=1+s.size;omega);rcases hr with ⟨rfl,bx,rfl,es,c,rfl⟩|⟨s1,es,rfl,rfl,⟨hn1,hn⟩,hes⟩;·exact .inl ⟨13,by decide,by decide,lift (B:=B) fun M hM=>caB [(11,.b false),(15,.b false),(17,.at)] [(.ret,⟨[(2,.sl true 3 []),(3,num 13)],[.row 3 es,.var c]⟩)] (pf4 h1 h2 hc (hl M hM)) (r:=some (.tup [.sl true 3 [],num 13],[]))⟩
   generalize hk:es.length=n at hl hn hn1;cases h3:decide (Int.ofNat n>16) with
   |true=>exact .inl ⟨9,by decide,by decide,lift (B:=B) fun M hM=>caB [(11,.b false),(15,.b false),(17,.at),(40,.b true)] [(.exit 1,⟨[(4,.bs 0 0 n),(5,aC s1),(19,ak false)],[.row 3 es]⟩)] (pf5 h1 h2 hc (hl M hM) h3) (r:=some (.tup [.sl true 3 [],num 9],[]))⟩
   |false=>refine .inr ⟨es,⟨by omega,by omega⟩,hes,lift (B:=B) fun M hM=>?_⟩;rw [hk];exact caB [(11,.b false),(15,.b false),(17,.at),(40,.b false)] [(.exit 1,⟨[(4,.bs 0 0 n),(5,aC s1),(19,ak false)],[.row 3 es]⟩)] (pf5 h1 h2 hc (hl M hM) h3) (r:=some (.tup [.bs 0 0 n,num 0],[.row 3 es]))
def ztz:List Ctr:=[dM 89 [.s] [] none [(.tu [.x (.sl true 3 []),.ir .i64 1 100],[],[]),(.tu [.bs 0,.k .i64 0],[.row 3 7],[lt 2 0 4,lt 4 0 2])]]
theorem dh:ay T Gm ztz:=.one fun ρ xs bx hs=>by
 obtain ⟨ha,hb⟩:=o9 hs;obtain ⟨x,rfl,hx⟩:=zdN ha;obtain rfl:=nD hb;obtain ⟨s,rfl,a1⟩:=isS hx;rcases F6 s (by omega) with ⟨e,e1,e2,h⟩|⟨es,h1,h2,h⟩;·exact jT (q:=(.tu [.x (.sl true 3 []),.ir .i64 1 100],[],[])) (qap ..) hs.zero hs.pos rfl rfl (r:=.tup [.sl true 3 [],num e]) ⟨_,rfl,⟨rfl,rfl⟩,zh8 e1 e2,trivial⟩ (fun _ _ _ _ _ _=>.nil) h
 refine rW (q:=(.tu [.bs 0,.k .i64 0],[.row 3 7],[lt 2 0 4,lt 4 0 2])) (qam _ (qaa.2 rfl)) hs.zero hs.pos rfl rfl (r:=.tup [.bs 0 0 es.length,num 0]) (bx':=[.row 3 es]) ⟨_,rfl,⟨es.length,rfl,by unfold bT;omega⟩,rfl,trivial⟩ ⟨⟨es,1,rfl,by omega,by unfold bT;omega,fun x hx=>RZ (Int.le_refl _) (h2 x hx)⟩,trivial⟩ (fun n' ρ' hm z g gb hn=>?_) h;subst hn;have e2:(es.length:Int)=ρ' 2:=by
  cases g with
  |tup g=>cases g with
   |cons g _=>cases g with
    |bs _ _ _ q=>rw [q];unfold Lin.v;show ρ' 2+0=_;omega
 have e5:(es.length:Int)=ρ' 4:=by
  cases gb with
  |cons g _=>cases g with
   |row _ _ q _=>rw [q];unfold Lin.v;show ρ' 4+0=_;omega
 exact .cons (iR (by decide) (by decide) (by omega)) (.cons (iR (by decide) (by decide) (by omega)) .nil)
end Ct
namespace Ct
def PR (s:qaZ)(p:qaY×Int):Prop:=(1<=p.2/\p.2<=100)/\p.1=[]\/p.2=0/\(1<=p.1.length/\p.1.length<=201)/\∀x,x∈p.1->tV x
theorem Vk (s:qaZ)(hs:s.size<=1000000):∃p,PR s p/\∃B,∀N,B<=N->Gam.aF (ah tab ext N) 89 [aC s]=some (.tup [.sl false 3 p.1,num p.2]):=by
 rcases F6 s hs with ⟨e,h1,h2,h⟩|⟨es,h1,h2,B,h⟩;·obtain ⟨B,h⟩:=gY h (y:=.tup [.sl false 3 [],num e]) rfl;exact ⟨([],e),.inl ⟨⟨h1,h2⟩,rfl⟩,B,h⟩
 exact ⟨(es,0),.inr ⟨rfl,h1,h2⟩,B,fun N hN=>aY (h N hN) (by simp [X.data,dZ,rowOf,num])⟩
theorem IX {es:qaY}(h:∀x,x∈es->tV x):∀x,x∈es->D T 1 7 x:=fun x hx=>RZ (Int.le_refl _) (h x hx)
theorem zm0 {es:qaY}(h1:1<=es.length)(h2:es.length<=201)(h:∀x,x∈es->tV x):D T 2 13 [.sl false 3 es]:=
 dH (by decide) (qaa.2 rfl) ⟨⟨rfl,h1,by omega,IX h⟩,trivial⟩
theorem zoh {es:qaY}(h2:es.length<=201)(h:∀x,x∈es->tV x):∃b,∃B,∀N,B<=N->Gam.aF (ah tab ext N) 90 [.sl false 3 es,.fn 91 []]=some (ak b):=by
 obtain ⟨o,ho,r,bx,h3,h4,B,hB⟩:=dU (Dd.Qj _ (qaa.2 rfl)) rfl rfl (xs:=[.sl false 3 es,.fn 91 []]) ⟨⟨false,es,1,rfl,by decide,by unfold bT;omega,IX h⟩,⟨[],rfl,trivial⟩,trivial⟩ (bx:=[]) trivial;rcases qaj.1 ho with rfl|ho;·obtain rfl:=nD h4;have h3:r=ak true:=h3;subst h3;exact ⟨true,B,fun N hN=>aY (hB N hN) rfl⟩
 obtain rfl:=qaa.1 ho;obtain rfl:=nD h4;have h3:r=ak false:=h3;subst h3;exact ⟨false,B,fun N hN=>aY (hB N hN) rfl⟩
theorem zog {seen:qaY}(hl:seen.length<=1000)(hd:∀x,x∈seen->D T 2 13 x){es:qaY}(h2:es.length<=201)(h:∀x,x∈es->tV x):∃b,∃B,∀N,B<=N->Gam.aF (ah tab ext N) 92 [.sl false 1 seen,.fn 93 [.dp [.sl false 3 es]]]=some (ak b):=by
 obtain ⟨o,ho,r,bx,h3,h4,B,hB⟩:=dU (Dd.zje _ (qaa.2 rfl)) rfl rfl (xs:=[.sl false 1 seen,.fn 93 [.dp [.sl false 3 es]]]) ⟨⟨false,seen,2,rfl,by decide,by unfold bT;omega,hd⟩,⟨_,rfl,⟨_,rfl,⟨false,es,1,rfl,by decide,by unfold bT;omega,IX h⟩,trivial⟩,trivial⟩,trivial⟩ (bx:=[]) trivial;rcases qaj.1 ho with rfl|ho;·obtain rfl:=nD h4;have h3:r=ak true:=h3;subst h3;exact ⟨true,B,fun N hN=>aY (hB N hN) rfl⟩
 obtain rfl:=qaa.1 ho;obtain rfl:=nD h4;have h3:r=ak false:=h3;subst h3;exact ⟨false,B,fun N hN=>aY (hB N hN) rfl⟩
section
variable (ru seen:qaY) (n j:Nat) (s:qaZ) (o i:Int) (t:qaZ) (vs es ls:qaY) (e:Int) (M:Nat)
def foH:St:=⟨[(3,.bs 0 0 j),(13,.sl false 6 ru),(14,nat n),(15,nat j)],[.row 1 seen]⟩
def foE:St:=⟨[(3,.bs 0 0 j),(13,.sl false 6 ru),(14,nat n),(15,nat j),(16,ak false)],[.row 1 seen]⟩
def foN:St:=⟨[(3,.bs 3 0 (j+1)),(13,.sl false 6 ru),(14,nat n),(15,nat (j+1))],[.dead,.var (fM s o i t vs es),.dead,.row 1 (seen++[[.sl false 3 ls]])]⟩
theorem zaN:canon 0 (foN ru seen n j s o i t vs es ls)=some (foH ru (seen++[[.sl false 3 ls]]) n (j+1)):=by kernel_rfl
theorem znC (h:¬j<n):run (ah tab ext M) 0 M (aH 65 0) (foH ru seen n j)=some (.exit 0,foE ru seen n j):=
 ruA [(16,.b false)] (pf1 (aO h))
theorem zaM (hs:seen.length=j):dZ [.row 1 seen,.var (fM s o i t vs es),.dead] false [.bs 0 0 j,.fn 93 [.dp [.sl false 3 ls]]]=some [.sl false 1 seen,.fn 93 [.dp [.sl false 3 ls]]]:=by subst hs;simp [dZ,X.data,rowOf]
variable (hj:j<n) (hi:ru[j]?=some (fM s o i t vs es))
include hj hi
theorem znB (hp:Gam.aF (ah tab ext M) 89 [aC s]=some (.tup [.sl false 3 ls,num e]))(he:(e !=0)=true):run (ah tab ext M) 0 M (aH 65 0) (foH ru seen n j)=some (.ret,⟨[(2,num e)],[.row 1 seen,.var (fM s o i t vs es),.var [.sl false 3 ls]]⟩):=
 ruA [(16,.b true),(17,.e (fM s o i t vs es)),(22,.p (.tup [.sl false 3 ls,num e])),(27,.b true)] (pf4 (aN hj) hi hp he)
variable (hp:Gam.aF (ah tab ext M) 89 [aC s]=some (.tup [.sl false 3 ls,num 0]))
include hp
theorem znE (h1:Gam.aF (ah tab ext M) 90 [.sl false 3 ls,.fn 91 []]=some (ak true)):run (ah tab ext M) 0 M (aH 65 0) (foH ru seen n j)=some (.ret,⟨[(2,num 22)],[.row 1 seen,.var (fM s o i t vs es),.var [.sl false 3 ls]]⟩):=
 ruA [(16,.b true),(17,.e (fM s o i t vs es)),(22,.p (.tup [.sl false 3 ls,num 0])),(31,.p (ak true))] (pf4 (aN hj) hi hp h1)
variable (hs:seen.length=j) (h1:Gam.aF (ah tab ext M) 90 [.sl false 3 ls,.fn 91 []]=some (ak false))
include hs h1
theorem znD (h2:Gam.aF (ah tab ext M) 92 [.sl false 1 seen,.fn 93 [.dp [.sl false 3 ls]]]=some (ak true)):run (ah tab ext M) 0 M (aH 65 0) (foH ru seen n j)=some (.ret,⟨[(2,num 7)],[.row 1 seen,.var (fM s o i t vs es),.dead]⟩):=by have hd:dZ [.row 1 seen,.var (fM s o i t vs es),.dead] false [.bs 0 0 j,.fn 93 [.dp [.sl false 3 ls]]]=some [.sl false 1 seen,.fn 93 [.dp [.sl false 3 ls]]]/\Gam.aF (ah tab ext M) 92 [.sl false 1 seen,.fn 93 [.dp [.sl false 3 ls]]]=some (ak true):=⟨zaM seen j s o i t vs es ls hs,h2⟩;exact ruA [(16,.b true),(17,.e (fM s o i t vs es)),(22,.p (.tup [.sl false 3 ls,num 0])),(31,.p (ak false)),(35,.d [.sl false 1 seen,.fn 93 [.dp [.sl false 3 ls]]] (ak true))] (pf5 (aN hj) hi hp h1 hd)
theorem zkf (hn:n<=1000)(h2:Gam.aF (ah tab ext M) 92 [.sl false 1 seen,.fn 93 [.dp [.sl false 3 ls]]]=some (ak false)):run (ah tab ext M) 0 M (aH 65 0) (foH ru seen n j)=some (.norm,foN ru seen n j s o i t vs es ls):=by have hd:dZ [.row 1 seen,.var (fM s o i t vs es),.dead] false [.bs 0 0 j,.fn 93 [.dp [.sl false 3 ls]]]=some [.sl false 1 seen,.fn 93 [.dp [.sl false 3 ls]]]/\Gam.aF (ah tab ext M) 92 [.sl false 1 seen,.fn 93 [.dp [.sl false 3 ls]]]=some (ak false):=⟨zaM seen j s o i t vs es ls hs,h2⟩;have hroom:0+j=seen.length/\dD (j+1) (23+1)=true/\false=false:=⟨by omega,jc (by omega) (by omega),rfl⟩;exact ruA [(16,.b true),(17,.e (fM s o i t vs es)),(22,.p (.tup [.sl false 3 ls,num 0])),(31,.p (ak false)),(35,.d [.sl false 1 seen,.fn 93 [.dp [.sl false 3 ls]]] (ak false)),(39,.app),(40,.i (Int.ofNat (j+1)))] (pf7 (aN hj) hi hp h1 hd hroom (aB (j:=j) (by omega)))
end
structure Rules (ru:qaY) (pr:Nat->qaY×Int) (B:Nat):Prop where
 len:ru.length<=8
 rule:∀j,j<ru.length->∃s o i t vs es,ru[j]?=some (fM s o i t vs es)/\sE 4 (jH o i t vs es)/\s.size<=60/\PR s (pr j)/\∀N,B<=N->Gam.aF (ah tab ext N) 89 [aC s]=some (.tup [.sl false 3 (pr j).1,num (pr j).2])
theorem zc0 (ru:qaY)(hl:ru.length<=8)(hr:∀x,x∈ru->wE x):∃pr B,Rules ru pr B:=by
 have h:∀j,j∈List.range ru.length->∃p:qaY×Int,(∃s o i t vs es,ru[j]?=some (fM s o i t vs es)/\sE 4 (jH o i t vs es)/\s.size<=60/\PR s p)/\∃B,∀N,B<=N->∀s o i t vs es,ru[j]?=some (fM s o i t vs es)->Gam.aF (ah tab ext N) 89 [aC s]=some (.tup [.sl false 3 p.1,num p.2]):=fun j hj=>by
  have hj:=List.mem_range.1 hj;obtain ⟨s,o,i,t,vs,es,e,h1,h2⟩:=hr _ (qah hj);obtain ⟨p,hp,B,hB⟩:=Vk s (by omega);have hg:ru[j]?=some (fM s o i t vs es):=by rw [qad hj,e];rfl
  refine ⟨p,⟨s,o,i,t,vs,es,hg,h2,h1,hp⟩,B,fun N hN s' _ _ _ _ _ e'=>?_⟩;rw [hg] at e';have e2:aC s=aC s':=by simp only [fM,qag,List.cons.injEq] at e';exact e'.1
  rw [<-e2];exact hB N hN
 obtain ⟨pr,B,hpr⟩:=oG (List.range ru.length) (R:=fun j p=>∃s o i t vs es,ru[j]?=some (fM s o i t vs es)/\sE 4 (jH o i t vs es)/\s.size<=60/\PR s p) (Q:=fun j p N=>∀s o i t vs es,ru[j]?=some (fM s o i t vs es)->Gam.aF (ah tab ext N) 89 [aC s]=some (.tup [.sl false 3 p.1,num p.2])) h;exact ⟨pr,B,hl,fun j hj=>by obtain ⟨⟨s,o,i,t,vs,es,h1,h2,h3,h4⟩,h5⟩:=hpr j (List.mem_range.2 hj);exact ⟨s,o,i,t,vs,es,h1,h2,h3,h4,fun N hN=>h5 N hN s o i t vs es h1⟩⟩
theorem zaL (ru:qaY)(pr:Nat->qaY×Int)(B0:Nat)(h:Rules ru pr B0):∃c:Int,(0<=c/\c<=100)/\(c=0->∀j,j<ru.length->(pr j).2=0)/\∃B,∀N,B<=N->Gam.aF (ah tab ext N) 65 [.agg [.sl false 6 ru]]=some (num c):=by
 have hl:=h.len;obtain ⟨e,σ',B,hQ,hloop⟩:=jC (nIn:=0) (b:=aH 65 0) (H:=fun p:Nat×qaY=>foH ru p.2 ru.length p.1) (I:=fun p=>p.1<=ru.length/\p.2.length=p.1/\(∀x,x∈p.2->D T 2 13 x)/\∀j,j<p.1->(pr j).2=0) (μ:=fun p=>ru.length-p.1)
  (Q:=fun e σ'=>(∃(c:Int) (bx:List Bx),e=.ret/\σ'=⟨[(2,num c)],bx⟩/\1<=c/\c<=100)\/(∃seen,e=.exit 0/\σ'=foE ru seen ru.length ru.length/\∀j,j<ru.length->(pr j).2=0)) (fun p hp=>by
   obtain ⟨j,seen⟩:=p;obtain ⟨i1,i2,i3,i4⟩:=hp;dsimp only at i1 i2 i3 i4 ⊢;by_cases hj:j<ru.length
   ·obtain ⟨s,o,i,t,vs,es,hi,_,_,hP,hp⟩:=h.rule j hj;generalize hq:pr j=q at hP hp;obtain ⟨ls,e⟩:=q;dsimp only at hp;rcases hP with ⟨⟨e1,e2⟩,_⟩|⟨e0,⟨l1,l2⟩,l3⟩
    ·dsimp only at e1 e2;have he:(e !=0)=true:=by simp only [bne_iff_ne,ne_eq];omega
     exact .inr ⟨_,_,B0,(by intro e;cases e),.inl ⟨e,_,rfl,rfl,e1,e2⟩,fun M hM=>znB ru seen ru.length j s o i t vs es ls e M hj hi (hp M hM) he⟩
    dsimp only at e0 l1 l2 l3;subst e0;obtain ⟨b,B1,zjs⟩:=zoh l2 l3;cases b with
    |true=>exact .inr ⟨_,_,max B0 B1,(by intro e;cases e),.inl ⟨22,_,rfl,rfl,by decide,by decide⟩,fun M hM=>znE ru seen ru.length j s o i t vs es ls M hj hi (hp M (by omega)) (zjs M (by omega))⟩
    |false=>
     obtain ⟨c,B2,zo7⟩:=zog (seen:=seen) (by omega) i3 l2 l3;cases c with
     |true=>exact .inr ⟨_,_,B0+B1+B2,(by intro e;cases e),.inl ⟨7,_,rfl,rfl,by decide,by decide⟩,fun M hM=>znD ru seen ru.length j s o i t vs es ls M hj hi (hp M (by omega)) i2 (zjs M (by omega)) (zo7 M (by omega))⟩
     |false=>
      refine .inl ⟨_,(j+1,seen++[[.sl false 3 ls]]),B0+B1+B2,fun M hM=>zkf ru seen ru.length j s o i t vs es ls M hj hi (hp M (by omega)) i2 (zjs M (by omega)) (by omega) (zo7 M (by omega)),zaN ..,⟨by dsimp only;omega,by simp [i2],fun x hx=>?_,fun k hk=>?_⟩,by dsimp only;omega⟩
      ·rcases qaK.1 hx with hx|hx;·exact i3 x hx
       rw [qaa.1 hx];exact zm0 l1 l2 l3
      dsimp only at hk;by_cases hkj:k<j;·exact i4 k hkj
      obtain rfl:k=j:=by omega
      rw [hq]
   obtain rfl:j=ru.length:=by omega
   exact .inr ⟨_,_,0,(by intro e;cases e),.inr ⟨seen,rfl,rfl,i4⟩,fun M _=>znC ru seen ru.length ru.length M hj⟩)
  (a:=(0,[])) ⟨Nat.zero_le _,rfl,(fun x hx=>by cases hx),fun j hj=>absurd hj (Nat.not_lt_zero j)⟩ (τ:=⟨[(3,.bs 1 0 0),(13,.sl false 6 ru),(14,nat ru.length),(15,num 0)],[.var [.sl false 6 ru],.row 1 []]⟩) (by kernel_rfl)
 have h1:decide (Int.ofNat ru.length>256)=false:=decide_eq_false (by simp only [qaq];omega);rcases hQ with ⟨c,bx,rfl,rfl,c1,c2⟩|⟨seen,rfl,rfl,hall⟩;·refine ⟨c,⟨by omega,c2⟩,fun e=>by omega,B+1,fun N hN=>?_⟩;obtain ⟨M,rfl⟩:∃M,N=M+1:=⟨N-1,by omega⟩;exact puB [(11,.b false)] [(.ret,⟨[(2,num c)],bx⟩)] (pf2 h1 (hloop M (by omega))) (num c)
 refine ⟨0,by decide,fun _=>hall,B+1,fun N hN=>?_⟩;obtain ⟨M,rfl⟩:∃M,N=M+1:=⟨N-1,by omega⟩;have hloop:=hloop M (by omega);generalize ru.length=n at h1 hloop;exact puB [(11,.b false)] [(.exit 0,foE ru seen n n)] (pf2 h1 hloop) (num 0)
section
variable (ru seen:qaY) (n j:Nat) (s:qaZ) (o i:Int) (t:qaZ) (vs es ls:qaY) (e:Int) (M:Nat)
def taH:St:=⟨[(3,.bs 0 0 j),(9,.sl false 6 ru),(10,nat n),(11,nat j)],[.row 1 seen]⟩
def taE:St:=⟨[(3,.bs 0 0 j),(9,.sl false 6 ru),(10,nat n),(11,nat j),(12,ak false)],[.row 1 seen]⟩
def taN:St:=⟨[(3,.bs 2 0 (j+1)),(9,.sl false 6 ru),(10,nat n),(11,nat (j+1))],[.dead,.var (fM s o i t vs es),.row 1 (seen++[[.sl false 3 ls]])]⟩
theorem XL:canon 0 (taN ru seen n j s o i t vs es ls)=some (taH ru (seen++[[.sl false 3 ls]]) n (j+1)):=by kernel_rfl
theorem zg0 (hj:j<n)(hi:ru[j]?=some (fM s o i t vs es))(hp:Gam.aF (ah tab ext M) 89 [aC s]=some (.tup [.sl false 3 ls,num e]))(hs:seen.length=j)(hn:n<=1000):run (ah tab ext M) 0 M (aH 96 0) (taH ru seen n j)=some (.norm,taN ru seen n j s o i t vs es ls):=by have hroom:0+j=seen.length/\dD (j+1) (23+1)=true/\false=false:=⟨by omega,jc (by omega) (by omega),rfl⟩;exact ruA [(12,.b true),(13,.e (fM s o i t vs es)),(18,.p (.tup [.sl false 3 ls,num e])),(24,.app),(25,.i (Int.ofNat (j+1)))] (pf5 (aN hj) hi hp hroom (aB (j:=j) (by omega)))
theorem zmd:run (ah tab ext M) 0 M (aH 96 0) (taH ru seen n n)=some (.exit 0,taE ru seen n n):=
 ruA [(12,.b false)] (pf1 (aO (qaC n)))
end
def tgts (pr:Nat->qaY×Int)(k:Nat):qaY:=(List.range k).map fun j=>[.sl false 3 (pr j).1]
theorem XG (pr:Nat->qaY×Int)(k:Nat):tgts pr (k+1)=tgts pr k++[[.sl false 3 (pr k).1]]:=by simp [tgts,List.range_succ]
theorem Rw (pr:Nat->qaY×Int)(k:Nat):(tgts pr k).length=k:=by simp [tgts]
theorem zcC (pr:Nat->qaY×Int){k j:Nat}(h:j<k):(tgts pr k)[j]?=some [.sl false 3 (pr j).1]:=by simp [tgts,h]
theorem KU (ru:qaY)(pr:Nat->qaY×Int)(B0:Nat)(h:Rules ru pr B0)(N:Nat)(hN:B0+20<=N):Gam.aF (ah tab ext N) 96 [.agg [.sl false 6 ru]]=some (.sl false 1 (tgts pr ru.length)):=by
 obtain ⟨M,rfl⟩:∃M,N=M+1:=⟨N-1,by omega⟩;have hl:=h.len;have hloop:run (ah tab ext M) 0 M (.loop (aH 96 0)) ⟨[(3,.bs 1 0 0),(9,.sl false 6 ru),(10,nat ru.length),(11,num 0)],[.var [.sl false 6 ru],.row 1 []]⟩=some (.exit 0,taE ru (tgts pr ru.length) ru.length ru.length):=by refine bJ (σ:=fun j=>taH ru (tgts pr j) ru.length j) (k:=ru.length) (by kernel_rfl) (fun j hj=>?_) (zmd ..) (by simp) (by omega);obtain ⟨s,o,i,t,vs,es,hi,_,_,_,hp⟩:=h.rule j hj;exact ⟨_,zg0 ru (tgts pr j) ru.length j s o i t vs es (pr j).1 (pr j).2 M hj hi (hp M (by omega)) (Rw ..) (by omega),by rw [XL,XG]⟩
 have hd:(X.bs 0 0 ru.length).data [.row 1 (tgts pr ru.length)] false=some (.sl false 1 (tgts pr ru.length)):=by have:=Rw pr ru.length;have ht:(tgts pr ru.length).take ru.length=tgts pr ru.length:=List.take_of_length_le (by omega);simp [X.data,rowOf,this,ht]
 generalize tgts pr ru.length=tg at hloop hd ⊢;generalize ru.length=n at hloop hd ⊢;exact eH [] [(.exit 0,taE ru tg n n)] (pf1 hloop) (x:=.bs 0 0 n) (bx:=[.row 1 tg]) (by kernel_rfl) hd
end Ct
namespace Ct
abbrev zlZ:List Sh:=[int,int,int,.s,.wW 6 11 0 6,.wW 7 12 0 6]
theorem jV {x:X}(h:Ap P (.i .i64 none none) x):∃z,x=num z:=by
 match x,h with
 |.v (.int _ z),⟨rfl,_⟩=>exact ⟨z,rfl⟩
theorem zge {x:X}{lo hi:Nat}(h:Ap P (.s lo hi) x):∃s:qaZ,x=aC s/\lo<=s.size/\s.size<=hi:=by
 match x,h with
 |.v (.string s),⟨h1,h2⟩=>exact ⟨s,rfl,h1,h2⟩
theorem zN {x:X}{sz k lo hi:Nat}(h:Ap P (.sl sz k lo hi) x):∃t es,x=.sl t sz es/\lo<=es.length/\es.length<=hi/\∀e,e∈es->P k e:=by
 match x,h with
 |.sl t _ es,⟨rfl,h1,h2,h3⟩=>exact ⟨t,es,rfl,h1,h2,h3⟩
theorem d11 (hd:D T (h+1) 11 x):0<=h/\∃a b c s t l t' f,x=[num a,num b,num c,aC s,.sl t 6 l,.sl t' 7 f]/\s.size<=1000000/\l.length<=6/\f.length<=6/\(∀e,e∈l->D T h 11 e)/\∀e,e∈f->D T h 12 e:=by
 obtain ⟨h1,alt,ha,hs⟩:=lT hd;rw [qaa.1 ha,Int.add_sub_cancel] at hs
 match x,hs with
 |[_,_,_,_,_,_],⟨k1,k2,k3,k4,k5,k6,_⟩=>obtain ⟨a,rfl⟩:=jV k1;obtain ⟨b,rfl⟩:=jV k2;obtain ⟨c,rfl⟩:=jV k3;obtain ⟨s,rfl,_,hs⟩:=zge k4;obtain ⟨t,l,rfl,_,hl,hl2⟩:=zN k5;obtain ⟨t',f,rfl,_,hf,hf2⟩:=zN k6;exact ⟨by omega,a,b,c,s,t,l,t',f,rfl,hs,hl,hf,hl2,hf2⟩
theorem QF (hd:D T (h+1) 11 x):0<=h/\IsL T h zlZ x:=by obtain ⟨h0,a,b,c,s,t,l,t',f,rfl,h1,h2,h3,h4,h5⟩:=d11 hd;exact ⟨h0,⟨a,rfl⟩,⟨b,rfl⟩,⟨c,rfl⟩,⟨s,rfl,by unfold bT;omega⟩,⟨t,l,rfl,by omega,by omega,h4⟩,⟨t',f,rfl,by omega,by omega,h5⟩,trivial⟩
theorem oD {a b c:X}{d:X}{u v:Bool}{l f:qaY}(hd:D T h 11 [a,b,c,d,.sl u 6 l,.sl v 7 f]):D T h 11 [a,b,c,d,.sl false 6 l,.sl false 7 f]:=by obtain ⟨h1,alt,ha,hs⟩:=lT hd;obtain rfl:=qaa.1 ha;obtain ⟨k1,k2,k3,k4,k5,k6,k7⟩:=hs;exact dH h1 (qaa.2 rfl) ⟨k1,k2,k3,k4,k5,k6,k7⟩
theorem zir (h0:0<=h)(hx:IsL T h zlZ x):D T (h+1) 11 x:=by
 match x,hx with
 |[_,_,_,_,_,_],⟨⟨a,rfl⟩,⟨b,rfl⟩,⟨c,rfl⟩,⟨s,rfl,k1⟩,⟨t,l,rfl,k2,k3,k4⟩,⟨t',f,rfl,k5,k6,k7⟩,_⟩=>unfold bT at k1;refine dH (by omega) (qaa.2 rfl) ?_;rw [Int.add_sub_cancel];exact ⟨⟨rfl,(fun a e=>by cases e),(fun a e=>by cases e)⟩,⟨rfl,(fun a e=>by cases e),(fun a e=>by cases e)⟩,⟨rfl,(fun a e=>by cases e),(fun a e=>by cases e)⟩,⟨by omega,by omega⟩,⟨rfl,by omega,by omega,k4⟩,⟨rfl,by omega,by omega,k7⟩,trivial⟩
theorem zsI {T:Tab}{l:List Sh}(ho:F8 l=true)(hh:0<=h')(ha:IsL T h' l xs):∃ρ,ρ 1=h'/\(mkC f [.rc l] [] mu outs).Sat T ρ [.agg xs] []:=by
 have m0:=bF (fun _=>(0:Int)) 1 h';obtain ⟨ρ1,m1,f1,g1⟩:=gG l (h:=⟨1,0⟩) (n:=2) (ρ:=oK (fun _=>(0:Int)) 1 h') ho (by omega) (m0.zero (by omega) rfl) (by decide) (by rw [cu];exact ha);have z1:=m1.zero (by omega) (m0.zero (by omega) rfl);have hn1:0<(mO ⟨1,0⟩ 2 l).2.1:=Nat.lt_of_lt_of_le (by omega) m1.le;have hlt:1<(mO ⟨1,0⟩ 2 l).2.1:=Nat.lt_of_lt_of_le (by omega) m1.le;refine ⟨ρ1,?_,z1,hn1,?_,⟨[],qaa.2 rfl,.nil⟩,?_,.nil⟩;·rw [m1.same 1 (by omega)];show oK (fun _=>(0:Int)) 1 h' 1=h';unfold oK;rw [if_pos rfl]
 ·refine aX.append ?_ .nil;show aX (mO ⟨1,0⟩ 2 l).2.1 ρ1 ((aj (.k 0) ⟨1,0⟩::(mO ⟨1,0⟩ 2 l).2.2)++[]);rw [List.append_nil];refine aX.cons (aJ.2 ⟨hn1,hlt,?_⟩) f1;rw [Lin.k_v z1,m1.lin (show (⟨1,0⟩:Lin).s<2 by decide),cu];exact hh
 exact .cons (.agg g1) .nil
theorem zuR {T:Tab}{l:List Sh}(h1:t1.own=true)(ho:F8 l=true)(hx:t1.Is T 0 x1)(hh:0<=h')(ha:IsL T h' l xs):
  ∃ρ,ρ (t1.bld (.k 0) 1).2.1=h'/\(mkC f [t1,.rc l] [] mu outs).Sat T ρ [x1,.agg xs] []:=by
 obtain ⟨ρ0,ma,fa,ga⟩:=Sh.fwd t1 (h:=.k 0) (n:=1) (ρ:=fun _=>(0:Int)) h1 (by omega) rfl (by decide) hx;have za:=ma.zero (by omega) rfl;generalize hn:(t1.bld (.k 0) 1).2.1=n at ma fa ga;have hn0:0<n:=Nat.lt_of_lt_of_le (by omega) ma.le;have m0:=bF ρ0 n h';obtain ⟨ρ1,m1,f1,g1⟩:=gG l (h:=⟨n,0⟩) (n:=n+1) (ρ:=oK ρ0 n h') ho (Nat.succ_pos _) (m0.zero hn0 za) (qae _) (by rw [cu];exact ha);have z1:=m1.zero (Nat.succ_pos _) (m0.zero hn0 za);have hn1:0<(mO ⟨n,0⟩ (n+1) l).2.1:=Nat.lt_of_lt_of_le (Nat.succ_pos _) m1.le;have hlt:n<(mO ⟨n,0⟩ (n+1) l).2.1:=Nat.lt_of_lt_of_le (qae _) m1.le;have em:(mkC f [t1,.rc l] [] mu outs).m=(mO ⟨n,0⟩ (n+1) l).2.1:=by rw [<-hn];rfl
 have ep:(mkC f [t1,.rc l] [] mu outs).pre=((t1.bld (.k 0) 1).2.2++((aj (.k 0) ⟨n,0⟩::(mO ⟨n,0⟩ (n+1) l).2.2)++[]))++[]:=by rw [<-hn];rfl
 have ea:(mkC f [t1,.rc l] [] mu outs).args=[(t1.bld (.k 0) 1).1,.agg (mO ⟨n,0⟩ (n+1) l).1]:=by rw [<-hn];rfl
 refine ⟨ρ1,?_,z1,by rw [em];exact hn1,?_,⟨[],qaa.2 rfl,.nil⟩,?_,.nil⟩;·rw [m1.same n (qae _)];unfold oK;rw [if_pos rfl]
 ·rw [em,ep];refine aX.append (aX.append ((m0.trans m1).facts fa) (aX.append (aX.cons (aJ.2 ⟨hn1,hlt,?_⟩) f1) .nil)) .nil;rw [Lin.k_v z1,m1.lin (show (⟨n,0⟩:Lin).s<n+1 from qae _),cu];exact hh
 rw [em,ea];exact .cons (ga.more (m0.trans m1)) (.cons (.agg g1) .nil)
theorem zpH {T:Tab}{l:List Sh}{outs:List Xd}(h1:t1.own=true)(ho:F8 l=true)(hx:t1.Is T 0 x1)(hh:0<=h')(ha:IsL T h' l xs):
  ∃ρ,ρ (t1.bld (.k 0) 1).2.1=h'/\(dM f [t1,.rc l] [] mu outs).Sat T ρ [x1,.agg xs] []:=by
 obtain ⟨ρ,hr,hs⟩:=zuR (f:=f) (mu:=mu) (outs:=outs.map fun o=>(o.1,o.2.1)) h1 ho hx hh ha;exact ⟨ρ,hr,hs.zero,hs.pos,hs.pre,hs.alts,hs.args,hs.inb⟩
theorem zsV {k i:Int}(h1:0<=i)(h2:i<=1000000)(h3:nm.size<=1000000):YX.Is T h (.agg [num k,num i,aC nm]):=⟨_,rfl,⟨k,rfl⟩,⟨i,rfl,h1,h2⟩,⟨nm,rfl,by unfold bT;omega⟩,trivial⟩
theorem zu {k i:Int}(h1:0<=i)(h2:i<=1000000)(h3:nm.size<=1000000)(hd:D T (h+1) 11 x):∃b,∃B,∀N,B<=N->Gam.aF (ah tab ext N) 264 [.agg [num k,num i,aC nm],.agg x]=some (ak b):=by
 obtain ⟨h0,hx⟩:=QF hd;obtain ⟨o,ho,r,bx,hi,hb,B,hB⟩:=dU (zi6 _ (qaa.2 rfl)) rfl rfl (xs:=[.agg [num k,num i,aC nm],.agg x]) ⟨zsV h1 h2 h3,⟨h,x,rfl,h0,hx⟩,trivial⟩ (bx:=[]) trivial;rcases qaj.1 ho with rfl|ho;·obtain rfl:=nD hb;have hi:r=ak true:=hi;subst hi;exact ⟨true,B,fun N hN=>aY (hB N hN) rfl⟩
 obtain rfl:=qaa.1 ho;obtain rfl:=nD hb;have hi:r=ak false:=hi;subst hi;exact ⟨false,B,fun N hN=>aY (hB N hN) rfl⟩
theorem MI {k i:Int}(h1:0<=i)(h2:i<=1000000)(h3:nm.size<=1000000)(hd:D T (h+1) 11 x):∃ys,ys.length<=6/\(∀y,y∈ys->D T h 11 y)/\∃B,∀N,B<=N->Gam.aF (ah tab ext N) 265 [.agg [num k,num i,aC nm],.agg x]=some (.sl false 6 ys):=by
 obtain ⟨h0,hx⟩:=QF hd;obtain ⟨ρ,hr,hs⟩:=zpH (f:=265) (t1:=YX) (l:=zlZ) (mu:=none) (outs:=[(.slr 6 11 0 6,[],[lt 11 0 4])]) rfl rfl (zsV h1 h2 h3) h0 hx;obtain ⟨q,hq,n',ρ',r,bx',hm,z,hF,hg,hi,hb,B,hB⟩:=BD hs.zero hs.pos (zi5 _ (qaa.2 rfl) ρ _ _ hs);obtain rfl:=qaa.1 hq;obtain rfl:=nD hb;obtain ⟨t,ys,h',rfl,_,_,hl,_⟩:=hi;have k4:ρ' 4=ρ 4:=hm.same 4 (by decide);have hr:ρ 4=h:=hr;have hge:=Dw hF (qaa.2 rfl);have hel:∀e,e∈ys->D T (ρ' 11) 11 e:=by
  cases hg with
  |sl _ _ _ _ w=>intro e he;have:=w e he;unfold Lin.v at this;dsimp only at this;rw [show ρ' 11=ρ' 11+0 by omega];exact this
 exact ⟨ys,by omega,fun y hy=>fU (by omega) (hel y hy),B,fun N hN=>aY (hB N hN) rfl⟩
theorem zay {T:Tab}{n:Nat}{cs:List AX}{x:X}(h:G T n ρ (.agg cs) x):∃xs,x=.agg xs/\GL T n ρ cs xs:=by
 cases h with
 |agg h=>exact ⟨_,rfl,h⟩
theorem cZ {T:Tab}{n:Nat}{a:AX}{l:List AX}(h:GL T n ρ (a::l) m):∃x r,m=x::r/\G T n ρ a x/\GL T n ρ l r:=by
 cases h with
 |cons h1 h2=>exact ⟨_,_,rfl,h1,h2⟩
theorem zav {T:Tab}{n:Nat}(h:GL T n ρ [] m):m=[]:=by
 cases h;rfl
theorem g_i {T:Tab}{n:Nat}{k:IntKind}{l:Lin}{x:X}(h:G T n ρ (.i k l) x):∃z,x=.v (.int k z):=by
 cases h;exact ⟨_,rfl⟩
theorem g_s {T:Tab}{n:Nat}{l:Lin}{x:X}(h:G T n ρ (.s l) x):∃s:qaZ,x=aC s/\(s.size:Int)=l.v ρ:=by
 cases h with
 |s h1 h2=>exact ⟨_,rfl,h2⟩
theorem zo8 {T:Tab}{n:Nat}{t:Option Bool}{sz k:Nat}{h l:Lin}{x:X}(hg:G T n ρ (.sl t sz k h l) x):∃tt es,x=.sl tt sz es/\(es.length:Int)=l.v ρ/\∀e,e∈es->D T (h.v ρ) k e:=by
 cases hg with
 |sl h1 h2 h3 h4 h5=>exact ⟨_,_,rfl,h4,h5⟩
theorem GX (hd:D T (h+1) 11 x):∃(a b c:Int) (s:qaZ) (t:Bool) (l:qaY) (t':Bool) (f:qaY),D T (h+1) 1 [num a,num b,num c,aC s,.sl t 6 l,.sl t' 7 f]/\∃B,∀N,B<=N->Gam.aF (ah tab ext N) 46 [.agg x]=some (.agg [num a,num b,num c,aC s,.sl t 6 l,.sl t' 7 f]):=by
 obtain ⟨h0,hx⟩:=QF hd;obtain ⟨ρ,hr,hs⟩:=zsI (f:=46) (l:=zlZ) (mu:=some (1,0)) (outs:=[(.ag [int,int,int,.s,.bs 0,.bs 1],[.yX 6 1 1 12,.yX 7 2 1 13])]) rfl h0 hx;obtain ⟨o,ho,ρ',r,bx,hm,hF,g1,g2,B,hB⟩:=pO _ (qam _ (qaa.2 rfl)) ρ _ _ hs;obtain rfl:=qaa.1 ho;have z:ρ' 0=0:=hm.zero hs.pos hs.zero;have k1:ρ' 1=h:=by rw [hm.same 1 (by decide)];exact hr
 obtain ⟨y,hy,gy⟩:=G.data (y:=.agg [.i .i64 ⟨8,0⟩,.i .i64 ⟨9,0⟩,.i .i64 ⟨10,0⟩,.s ⟨11,0⟩,.sl (some false) 6 1 ⟨1,0⟩ ⟨12,0⟩,.sl (some false) 7 2 ⟨1,0⟩ ⟨13,0⟩]) (raw:=false) hF g2 z g1 (by kernel_rfl);have b11:=fO (l:=⟨11,0⟩) (lo:=0) (hi:=1000000) z (fun f hf=>hF f (by
  rcases qaj.1 hf with rfl|hf;·simp [F9,Sh.bld,mO,qy,bnd,bT]
  obtain rfl:=qaa.1 hf;simp [F9,Sh.bld,mO,qy,bnd,bT]))
 have b12:=fO (l:=⟨12,0⟩) (lo:=0) (hi:=1000000) z (fun f hf=>hF f (by
  rcases qaj.1 hf with rfl|hf;·simp [F9,Sh.bld,mO,qy,bnd,bT]
  obtain rfl:=qaa.1 hf;simp [F9,Sh.bld,mO,qy,bnd,bT]))
 have b13:=fO (l:=⟨13,0⟩) (lo:=0) (hi:=1000000) z (fun f hf=>hF f (by
  rcases qaj.1 hf with rfl|hf;·simp [F9,Sh.bld,mO,qy,bnd,bT]
  obtain rfl:=qaa.1 hf;simp [F9,Sh.bld,mO,qy,bnd,bT]))
 obtain ⟨cs,rfl,v0⟩:=zay gy;obtain ⟨x1,r1,rfl,w1,v1⟩:=cZ v0;obtain ⟨x2,r2,rfl,w2,v2⟩:=cZ v1;obtain ⟨x3,r3,rfl,w3,v3⟩:=cZ v2;obtain ⟨x4,r4,rfl,w4,v4⟩:=cZ v3;obtain ⟨x5,r5,rfl,w5,v5⟩:=cZ v4;obtain ⟨x6,r6,rfl,w6,v6⟩:=cZ v5;obtain rfl:=zav v6;obtain ⟨a,rfl⟩:=g_i w1;obtain ⟨b,rfl⟩:=g_i w2;obtain ⟨c,rfl⟩:=g_i w3;obtain ⟨s,rfl,e4⟩:=g_s w4;obtain ⟨t,l,rfl,e5,q5⟩:=zo8 w5;obtain ⟨t',f,rfl,e6,q6⟩:=zo8 w6;refine ⟨a,b,c,s,t,l,t',f,dH (by omega) (qaa.2 rfl) ?_,B,fun N hN=>aY (hB N hN) hy⟩;rw [Int.add_sub_cancel];have v7:Lin.v ⟨1,0⟩ ρ'=h:=by unfold Lin.v;dsimp only;omega
 rw [v7] at q5 q6;exact ⟨⟨rfl,(fun a e=>by cases e),(fun a e=>by cases e)⟩,⟨rfl,(fun a e=>by cases e),(fun a e=>by cases e)⟩,⟨rfl,(fun a e=>by cases e),(fun a e=>by cases e)⟩,⟨by omega,by omega⟩,⟨rfl,by omega,by omega,q5⟩,⟨rfl,by omega,by omega,q6⟩,trivial⟩
end Ct
namespace Ct
def dW (a b c:Int)(s:qaZ)(l f:qaY):List X:=[num a,num b,num c,aC s,.sl false 6 l,.sl false 7 f]
theorem Oe {s:qaZ}{l f:qaY}(hd:D T H 1 (dW a b c s l f)):val.Is T 0 (.agg (dW a b c s l f)):=by obtain ⟨h1,alt,ha,hs⟩:=lT hd;obtain rfl:=qaa.1 ha;obtain ⟨_,_,_,⟨_,k41⟩,⟨_,k51,k52,k53⟩,⟨_,k61,k62,k63⟩,_⟩:=hs;exact ⟨H-1,_,rfl,by omega,⟨a,rfl⟩,⟨b,rfl⟩,⟨c,rfl⟩,⟨s,rfl,by unfold bT;omega⟩,⟨false,l,rfl,by unfold bT;omega,k53⟩,⟨false,f,rfl,by unfold bT;omega,k63⟩,trivial⟩
theorem zgy {x:X}(hx:val.Is T 0 x):∃(a b c:Int) (s:qaZ) (t:Bool) (l:qaY) (t':Bool) (f:qaY),x=.agg [num a,num b,num c,aC s,.sl t 6 l,.sl t' 7 f]/\∃H,D T H 1 (dW a b c s l f):=by
 obtain ⟨h',xs,rfl,h0,hi⟩:∃h' xs,x=.agg xs/\0<=h'/\IsL T h' [int,int,int,.s,.slh 6 1,.slh 7 2] xs:=hx
 match xs,hi with
 |[_,_,_,_,_,_],⟨⟨a,rfl⟩,⟨b,rfl⟩,⟨c,rfl⟩,⟨s,rfl,k1⟩,⟨t,l,rfl,k2,k3⟩,⟨t',f,rfl,k4,k5⟩,_⟩=>unfold bT at k1 k2 k4;refine ⟨a,b,c,s,t,l,t',f,rfl,h'+1,dH (by omega) (qaa.2 rfl) ?_⟩;rw [Int.add_sub_cancel];exact ⟨⟨rfl,(fun a e=>by cases e),(fun a e=>by cases e)⟩,⟨rfl,(fun a e=>by cases e),(fun a e=>by cases e)⟩,⟨rfl,(fun a e=>by cases e),(fun a e=>by cases e)⟩,⟨by omega,by omega⟩,⟨rfl,by omega,by omega,k3⟩,⟨rfl,by omega,by omega,k5⟩,trivial⟩
theorem Vo {s:qaZ}{l f:qaY}(hd:D T H 1 (dW a b c s l f)):∃g,∃B,∀N,B<=N->Gam.aF (ah tab ext N) 67 [.agg (dW a b c s l f)]=some (ak g):=by
 obtain ⟨o,ho,r,bx,h1,h2,B,hB⟩:=dU (Dd.yw _ (qaa.2 rfl)) rfl rfl (xs:=[.agg (dW a b c s l f)]) ⟨Oe hd,trivial⟩ (bx:=[]) trivial;rcases qaj.1 ho with rfl|ho;·obtain rfl:=nD h2;have h1:r=ak true:=h1;subst h1;exact ⟨true,B,fun N hN=>aY (hB N hN) rfl⟩
 obtain rfl:=qaa.1 ho;obtain rfl:=nD h2;have h1:r=ak false:=h1;subst h1;exact ⟨false,B,fun N hN=>aY (hB N hN) rfl⟩
theorem zgW {w e f:qaY}(hd:D T (H+1) 14 (dI q1 q2 q3 q4 w e f)):typ.Is T 0 (.agg (dI q1 q2 q3 q4 w e f)):=by obtain ⟨h1,alt,ha,hs⟩:=lT hd;obtain rfl:=qaa.1 ha;rw [Int.add_sub_cancel] at hs;obtain ⟨_,_,_,_,⟨_,k51,k52,k53⟩,⟨_,k61,k62,k63⟩,⟨_,k71,k72,k73⟩,_⟩:=hs;exact ⟨H,_,rfl,by omega,⟨q1,rfl⟩,⟨q2,rfl⟩,⟨q3,rfl⟩,⟨q4,rfl⟩,⟨false,w,rfl,by unfold bT;omega,k53⟩,⟨false,e,rfl,by unfold bT;omega,k63⟩,⟨false,f,rfl,by omega,by omega,k73⟩,trivial⟩
theorem IQ {w e f:qaY}(hT:D T (H+1) 14 (dI q1 q2 q3 q4 w e f)){ls:qaY}(hl:ls.length<=201)(hd:∀x,x∈ls->D T 1 7 x):∃g,∃B,∀N,B<=N->Gam.aF (ah tab ext N) 68 [.agg (dI q1 q2 q3 q4 w e f),.sl false 3 ls]=some (ak g):=by
 obtain ⟨o,ho,r,bx,h1,h2,B,hB⟩:=dU (Dd.zjr _ (qaa.2 rfl)) rfl rfl (xs:=[.agg (dI q1 q2 q3 q4 w e f),.sl false 3 ls]) ⟨zgW hT,⟨false,ls,1,rfl,by decide,by unfold bT;omega,hd⟩,trivial⟩ (bx:=[]) trivial;rcases qaj.1 ho with rfl|ho;·obtain rfl:=nD h2;have h1:r=ak true:=h1;subst h1;exact ⟨true,B,fun N hN=>aY (hB N hN) rfl⟩
 obtain rfl:=qaa.1 ho;obtain rfl:=nD h2;have h1:r=ak false:=h1;subst h1;exact ⟨false,B,fun N hN=>aY (hB N hN) rfl⟩
theorem zde {H1 H2:Int}{s:qaZ}{l f:qaY}(h1:D T H1 1 (dW a b c s l f)){ls:qaY}(hl0:1<=ls.length)(hl:ls.length<=201)(hd:∀x,x∈ls->D T 1 7 x){a2 b2 c2:Int}{s2:qaZ}{l2 f2:qaY}(h2:D T H2 1 (dW a2 b2 c2 s2 l2 f2)):
  ∃(a3 b3 c3:Int) (s3:qaZ) (l3 f3:qaY) (e:Int),(∃H3,D T H3 1 (dW a3 b3 c3 s3 l3 f3))/\(0<=e/\e<=100)/\∃B,∀N,B<=N->Gam.aF (ah tab ext N) 69 [.agg (dW a b c s l f),.sl false 3 ls,.agg (dW a2 b2 c2 s2 l2 f2)]=some (.tup [.agg (dW a3 b3 c3 s3 l3 f3),num e]):=by
 obtain ⟨o,ho,r,bx,g1,g2,B,hB⟩:=dU (Dd.zjq _ (qaa.2 rfl)) rfl rfl (xs:=[.agg (dW a b c s l f),.sl false 3 ls,.agg (dW a2 b2 c2 s2 l2 f2)]) ⟨Oe h1,⟨false,ls,1,rfl,by decide,by omega,by omega,hd⟩,Oe h2,trivial⟩ (bx:=[]) trivial;obtain rfl:=qaa.1 ho;obtain rfl:=nD g2;obtain ⟨xs,rfl,hi⟩:∃xs,r=.tup xs/\IsL T 0 [val,err] xs:=g1
 match xs,hi with
 |[x,_],⟨hx,⟨e,rfl,e1,e2⟩,_⟩=>obtain ⟨a3,b3,c3,s3,t,l3,t',f3,rfl,hD⟩:=zgy hx;exact ⟨a3,b3,c3,s3,l3,f3,e,hD,⟨e1,e2⟩,B,fun N hN=>aY (hB N hN) rfl⟩
end Ct
namespace Ct.Ff
def zvt:List Ctr:=[mkC 198 [.s] [] none [((.kb true),[]),((.kb false),[])]]
theorem ziO:ay T Gm zvt:=hoA K3 zjJ
def zvG:List Ctr:=[(dM 133 [uU] [] none [(.kb true,[],[aj ⟨2,0⟩ (.k 7),aj ⟨6,0⟩ (.k 0),aj ⟨7,0⟩ (.k 0)]),(.kb true,[],bd 2 8 8++[aj ⟨7,0⟩ (.k 0)]),(.kb true,[],bd 2 9 9++[aj ⟨6,0⟩ (.k 0)]),(.kb true,[],bd 2 10 10++[aj (.k 1) ⟨6,0⟩,aj ⟨6,0⟩ (.k 1),aj ⟨7,0⟩ (.k 0)]),(.kb true,[],[aj (.k 11) ⟨2,0⟩,aj ⟨6,0⟩ (.k 0),aj ⟨7,0⟩ (.k 0)]),(.kb false,[],[])]).with (Jf 2)]
theorem ziV:ay T Gm zvG:=hoB K3 ((iM [⟨[1,3,4],fun e n=>(n+1,[aj (e 3) ⟨n+0,8⟩,aj ⟨n+0,0⟩ ((e 10).up (1))],[(1,.ptr 0 (.k 0) 0),(3,.ptr 1 (.k 0) 0),(4,.i .i64 ⟨n+0,0⟩)],[.var [.i .i64 (e 3),.i .i64 (e 4),.i .i64 (e 5),.s (e 6),.sl none 6 21 (e 7) (e 8),.sl none 7 22 (e 7) (e 10)],.var [.i .i64 (e 3),.i .i64 (e 4),.i .i64 (e 5),.s (e 6),.sl none 6 21 (e 7) (e 8),.sl none 7 22 (e 7) (e 10)]],(e 10,⟨n+0,0⟩))⟩])) ziO
def ztv:List Ctr:=[dM 133 [uU] [] none [(.kb true,[],[aj ⟨2,0⟩ (.k 7),aj ⟨6,0⟩ (.k 0),aj ⟨7,0⟩ (.k 0)]),(.kb true,[],bd 2 8 8++[aj ⟨7,0⟩ (.k 0)]),(.kb true,[],bd 2 9 9++[aj ⟨6,0⟩ (.k 0)]),(.kb true,[],bd 2 10 10++[aj (.k 1) ⟨6,0⟩,aj ⟨6,0⟩ (.k 1),aj ⟨7,0⟩ (.k 0)]),(.kb true,[],[aj (.k 11) ⟨2,0⟩,aj ⟨6,0⟩ (.k 0),aj ⟨7,0⟩ (.k 0)]),(.kb false,[],[])]]
theorem zaB:ay T Gm ztv:=.one fun ρ xs bx hs=>ziV _ (qaa.2 rfl) ρ xs bx ⟨hs.zero,hs.pos,hs.pre,VB hs.zero (s:=2) hs.pos (by decide),hs.args,hs.inb⟩
def zvj:List Ctr:=[mkC 256 [tfd,.dp [.s]] [] none [(.kb true,[]),(.kb false,[])]]
theorem ZY:ay T Gm zvj:=hoA K3 .nil
def zqE:List Ctr:=[dM 193 [.slr 11 15 0 100,.fn 256 [.dp [.s]]] [] none [(.ir .i64 (-1) 100,[],[lt 4 1 2])]]
theorem P6:ay T Gm zqE:=hoB K3 ((iM [⟨[0,1,7,8],fun e n=>(n+1,[aj (.k 0) ⟨n+0,0⟩,aj ⟨n+0,0⟩ (e 1)],[(0,.sl none 11 15 (e 0) (e 1)),(1,.fn 256 [.dp [.s (e 2)]]),(7,.i .i64 (e 1)),(8,.i .i64 ⟨n+0,0⟩)],[],(e 1,⟨n+0,0⟩))⟩])) ZY
def ztc:List Ctr:=[dM 199 [typ,.s] [] none [(.tu [tfd,.kb true],[],[lt 10 1 1,aj (.k 1) ⟨1,0⟩]),(.tu [tfd,.kb false],[],[])]]
theorem Z8:ay T Gm ztc:=hoA K3 (hpA ZY P6)
def zqN:List Ctr:=[mkC 86 [.s,.s] [] none [((int),[])]]
theorem Jy:ay T Gm zqN:=hoA K3 zaG
def zvF:List Ctr:=[mkC 136 [zkg,.s] [] none [(int,[])]]
theorem zad:ay T Gm zvF:=hoA K3 Jy
end Ct.Ff
open Go.Em
theorem zea {s:Nat}(h:s<4294967296):IntKind.i64.wrap (Int.ofNat (s /2))=Int.ofNat (s /2):=by rw [IntKind.wrap_i64];simp only [qaq];omega
theorem zgV {s:Nat}(h:s<4294967296):IntKind.u64.wrap (Int.ofNat s)=Int.ofNat s:=by rw [IntKind.wrap_u64];simp only [qaq];omega
theorem zhf {s:Nat}:(Int.ofNat s).fdiv (2^min (Int.toNat 1) IntKind.u64.bits)=Int.ofNat (s /2):=by
 have e:(2:Int)^min (Int.toNat 1) IntKind.u64.bits=2:=by decide
 rw [e,Int.fdiv_eq_ediv_of_nonneg _ (by decide)];rfl
theorem zli {a b:Nat}(h:a<4294967296)(h':b<4294967296):IntKind.i64.wrap (Int.ofNat a+Int.ofNat b)=Int.ofNat (a+b):=by rw [IntKind.wrap_i64];simp only [qaq];omega
section
variable (l:qaY) (k i s:Int) (tx:qaZ) (vl fl:qaY) (n lo hi:Nat)
end
namespace Ct.Ff
theorem d22 (hd:D T H 22 x):∃(nm:qaZ) (a b c:Int) (s:qaZ) (t:Bool) (l:qaY) (t':Bool) (f:qaY),x=[aC nm,num a,num b,num c,aC s,.sl t 6 l,.sl t' 7 f]/\zkg.Is T 0 (.agg [aC nm,num a,num b,num c,aC s,.sl false 6 l,.sl false 7 f]):=by
 obtain ⟨h1,alt,ha,hs⟩:=lT hd;obtain rfl:=qaa.1 ha
 match x,hs with
 |[_,_,_,_,_,_,_],⟨k0,k1,k2,k3,k4,k5,k6,_⟩=>obtain ⟨nm,rfl,n1,n2⟩:=zge k0;obtain ⟨a,rfl⟩:=jV k1;obtain ⟨b,rfl⟩:=jV k2;obtain ⟨c,rfl⟩:=jV k3;obtain ⟨s,rfl,q1,q2⟩:=zge k4;obtain ⟨t,l,rfl,q3,q4,q5⟩:=zN k5;obtain ⟨t',f,rfl,q6,q7,q8⟩:=zN k6;exact ⟨nm,a,b,c,s,t,l,t',f,rfl,H-1,_,rfl,by omega,⟨nm,rfl,by unfold bT;omega⟩,⟨a,rfl⟩,⟨b,rfl⟩,⟨c,rfl⟩,⟨s,rfl,by unfold bT;omega⟩,⟨false,l,rfl,by unfold bT;omega,q5⟩,⟨false,f,rfl,by omega,by omega,q8⟩,trivial⟩
theorem zgi (hd:D T H 22 x){key:qaZ}(hk:key.size<=1000000):∃(r:Int) (nm:qaZ) (a b c:Int) (s:qaZ) (t:Bool) (l:qaY) (t':Bool) (f:qaY),x=[aC nm,num a,num b,num c,aC s,.sl t 6 l,.sl t' 7 f]/\∃B,∀N,B<=N->Gam.aF (ah tab ext N) 136 [.agg [aC nm,num a,num b,num c,aC s,.sl false 6 l,.sl false 7 f],aC key]=some (num r):=by obtain ⟨nm,a,b,c,s,t,l,t',f,rfl,hi⟩:=d22 hd;obtain ⟨o,ho,r,bx,h1,h2,B,hB⟩:=dU (zad _ (qaa.2 rfl)) rfl rfl (xs:=[.agg [aC nm,num a,num b,num c,aC s,.sl false 6 l,.sl false 7 f],aC key]) ⟨hi,⟨key,rfl,by unfold bT;omega⟩,trivial⟩ (bx:=[]) trivial;obtain rfl:=qaa.1 ho;obtain rfl:=nD h2;obtain ⟨z,rfl⟩:∃z,r=num z:=h1;exact ⟨z,nm,a,b,c,s,t,l,t',f,rfl,B,fun N hN=>aY (hB N hN) rfl⟩
section
variable (fl:Bool) (l:qaY) (key:qaZ) (n lo hi:Nat)
def bsH:St:=⟨[(0,.sl fl 7 l),(1,aC key),(2,.fn 136 []),(8,nat n),(9,nat lo),(10,nat hi)],[]⟩
def bsE:St:=⟨[(0,.sl fl 7 l),(1,aC key),(2,.fn 136 []),(8,nat n),(9,nat lo),(10,nat hi),(17,ak false)],[]⟩
theorem Kq:canon 0 (bsH fl l key n lo hi)=some (bsH fl l key n lo hi):=by kernel_rfl
theorem zn4 (h:¬lo<hi)(M:Nat):run (ah tab ext M) 0 M (aH 135 0) (bsH fl l key n lo hi)=some (.exit 0,bsE fl l key n lo hi):=
 ruA [(17,.b false)] (pf1 (aO h))
theorem zbt (r:Int)(nm:qaZ)(a b c:Int)(s:qaZ)(t:Bool)(l1:qaY)(t':Bool)(f:qaY)(hlt:lo<hi)(hh:hi<4294967)(hg:l[(lo+hi) /2]?=some [aC nm,num a,num b,num c,aC s,.sl t 6 l1,.sl t' 7 f])(M:Nat)(hc:Gam.aF (ah tab ext M) 136 [.agg [aC nm,num a,num b,num c,aC s,.sl false 6 l1,.sl false 7 f],aC key]=some (num r)):
  (r<0->run (ah tab ext M) 0 M (aH 135 0) (bsH fl l key n lo hi)=some (.norm,bsH fl l key n ((lo+hi) /2+1) hi))/\
  (¬r<0->run (ah tab ext M) 0 M (aH 135 0) (bsH fl l key n lo hi)=some (.norm,bsH fl l key n lo ((lo+hi) /2))):=by
 have h1:=aN hlt;have h2:=zli (a:=lo) (b:=hi) (by omega) (by omega);have h3:=zgV (s:=lo+hi) (by omega);have h4:=zhf (s:=lo+hi);have h5:=zea (s:=lo+hi) (by omega);have h6:=aB (j:=(lo+hi) /2) (by omega);constructor;·intro hr;have h7:decide (r<0)=true:=decide_eq_true hr;exact ruA [(17,.b true),(20,.i (Int.ofNat (lo+hi))),(21,.i (Int.ofNat (lo+hi))),(22,.i (Int.ofNat ((lo+hi) /2))),(23,.i (Int.ofNat ((lo+hi) /2))),(27,.e [aC nm,num a,num b,num c,aC s,.sl t 6 l1,.sl t' 7 f]),(30,.p (num r)),(31,.b true),(33,.i (Int.ofNat ((lo+hi) /2+1)))] (pf9 h1 h2 h3 h4 h5 hg hc h7 h6)
 intro hr;have h7:decide (r<0)=false:=decide_eq_false hr;exact ruA [(17,.b true),(20,.i (Int.ofNat (lo+hi))),(21,.i (Int.ofNat (lo+hi))),(22,.i (Int.ofNat ((lo+hi) /2))),(23,.i (Int.ofNat ((lo+hi) /2))),(27,.e [aC nm,num a,num b,num c,aC s,.sl t 6 l1,.sl t' 7 f]),(30,.p (num r)),(31,.b false)] (pf8 h1 h2 h3 h4 h5 hg hc h7)
end
theorem zkF (fl:Bool)(l:qaY)(key:qaZ)(hl:l.length<=1001000)(hk:key.size<=1000000)(hd:∀e,e∈l->D T H 22 e):∃r B,r<=l.length/\∀M,B<=M->run (ah tab ext M) 0 M (.loop (aH 135 0)) (bsH fl l key l.length 0 l.length)=some (.exit 0,bsE fl l key l.length r r):=by
 obtain ⟨e,σ',B,⟨r,rfl,rfl,hr⟩,h⟩:=jC (nIn:=0) (b:=aH 135 0) (H:=fun p:Nat×Nat=>bsH fl l key l.length p.1 p.2) (I:=fun p=>p.1<=p.2/\p.2<=l.length) (μ:=fun p=>p.2-p.1)
  (Q:=fun e σ'=>∃r,e=.exit 0/\σ'=bsE fl l key l.length r r/\r<=l.length) (fun p hp=>by
   obtain ⟨lo,hi⟩:=p;obtain ⟨h1,h2⟩:=hp;dsimp only at h1 h2 ⊢;by_cases hlt:lo<hi
   ·left;have hj:(lo+hi) /2<l.length:=by omega
    obtain ⟨r,nm,a,b,c,s,t,l1,t',f,hx,B,hc⟩:=zgi (hd _ (qah hj)) hk;have hg:l[(lo+hi) /2]?=some [aC nm,num a,num b,num c,aC s,.sl t 6 l1,.sl t' 7 f]:=by rw [qad hj,hx]
    by_cases hr:r<0;·exact ⟨_,((lo+hi) /2+1,hi),B,fun M hM=>(zbt fl l key l.length lo hi r nm a b c s t l1 t' f hlt (by omega) hg M (hc M hM)).1 hr,Kq ..,⟨by dsimp only;omega,h2⟩,by dsimp only;omega⟩
    exact ⟨_,(lo,(lo+hi) /2),B,fun M hM=>(zbt fl l key l.length lo hi r nm a b c s t l1 t' f hlt (by omega) hg M (hc M hM)).2 hr,Kq ..,⟨by dsimp only;omega,by dsimp only;omega⟩,by dsimp only;omega⟩
   right;obtain rfl:lo=hi:=by omega
   exact ⟨_,_,0,(by intro e;cases e),⟨lo,rfl,rfl,h2⟩,fun M _=>zn4 fl l key l.length lo lo hlt M⟩) (a:=(0,l.length)) ⟨Nat.zero_le _,Nat.le_refl _⟩ (Kq ..)
 exact ⟨r,B,hr,h⟩
theorem zkE (fl:Bool)(l:qaY)(key:qaZ)(hl:l.length<=1001000)(hk:key.size<=1000000)(hd:∀e,e∈l->D T H 22 e):∃(r:Nat) (b:Bool),r<=l.length/\∃B,∀N,B<=N->ah tab ext N (.fn 135) [.sl fl 7 l,aC key,.fn 136 []] []=some (.tup [nat r,ak b],[]):=by
 obtain ⟨r,B,hr,hloop⟩:=zkF fl l key hl hk hd;have lift:∀{b:Bool} {B:Nat},(∀M,B<=M->ah tab ext (M+1) (.fn 135) [.sl fl 7 l,aC key,.fn 136 []] []=some (.tup [nat r,ak b],[]))->∃B,∀N,B<=N->ah tab ext N (.fn 135) [.sl fl 7 l,aC key,.fn 136 []] []=some (.tup [nat r,ak b],[]):=fun {b} {B} h=>⟨B+1,fun N hN=>by obtain ⟨M,rfl⟩:∃M,N=M+1:=⟨N-1,by omega⟩;exact h M (by omega)⟩;by_cases hlt:r<l.length
 ·obtain ⟨z,nm,a,b,c,s,t,l1,t',f,hx,B2,hc⟩:=zgi (hd _ (qah hlt)) hk;have hg:l[r]?=some [aC nm,num a,num b,num c,aC s,.sl t 6 l1,.sl t' 7 f]:=by rw [qad hlt,hx]
  have h1:=aN hlt;generalize l.length=n at hloop h1 hr ⊢;cases h2:(z==0) with
  |true=>exact ⟨r,true,hr,lift (B:=max B B2) fun M hM=>caB [(38,.b true),(43,.e [aC nm,num a,num b,num c,aC s,.sl t 6 l1,.sl t' 7 f]),(46,.p (num z)),(47,.b true)] [(.exit 0,bsE fl l key n r r)] (pf5 (hloop M (by omega)) h1 hg (hc M (by omega)) h2)⟩
  |false=>exact ⟨r,false,hr,lift (B:=max B B2) fun M hM=>caB [(38,.b true),(43,.e [aC nm,num a,num b,num c,aC s,.sl t 6 l1,.sl t' 7 f]),(46,.p (num z)),(47,.b false)] [(.exit 0,bsE fl l key n r r)] (pf5 (hloop M (by omega)) h1 hg (hc M (by omega)) h2)⟩
 have h1:=aO hlt;generalize l.length=n at hloop h1 hr ⊢;exact ⟨r,false,hr,lift (B:=B) fun M hM=>caB [(38,.b false)] [(.exit 0,bsE fl l key n r r)] (pf2 (hloop M hM) h1)⟩
def zwp:List Ctr:=[dM 135 [.slr 7 22 0 1001000,.s,.fn 136 []] [] none [(.tu [.ir .i64 0 1001000,.kb true],[],[lt 4 0 2]),(.tu [.ir .i64 0 1001000,.kb false],[],[lt 4 0 2])]]
theorem zjA:ay T Gm zwp:=.one fun ρ xs bx hs=>by
 obtain ⟨ha,hb⟩:=o9 hs;have hg:=hs.args;obtain rfl:=nD hb
 match xs,ha,hg with
 |[_,_,_],⟨⟨fl,l,h',rfl,hh,hl1,hl2,hd⟩,⟨key,rfl,hk⟩,⟨ys,rfl,hys⟩,_⟩,.cons g1 _=>
  match ys,hys with
  |[],_=>
   unfold bT at hk;obtain ⟨r,b,hr,h⟩:=zkE fl l key (by omega) (by omega) hd;have e2:(l.length:Int)=ρ 2:=by
    cases g1 with
    |sl _ _ _ q _=>rw [q];unfold Lin.v;show ρ 2+0=_;omega
   have fact:∀(c:Bool) (n':Nat) (ρ':Rho),More (dM 135 [.slr 7 22 0 1001000,.s,.fn 136 []] [] none [(.tu [.ir .i64 0 1001000,.kb true],[],[lt 4 0 2]),(.tu [.ir .i64 0 1001000,.kb false],[],[lt 4 0 2])]).m ρ n' ρ'->G T n' ρ' ((Sh.tu [.ir .i64 0 1001000,.kb c]).bld (.k 0) 4).1 (.tup [nat r,ak b])->4<n'->aX n' ρ' [lt 4 0 2]:=fun c n' ρ' hm g hn=>by
    have k2:ρ' 2=ρ 2:=hm.same 2 (by decide);have e4:(r:Int)=ρ' 4:=by
     cases g with
     |tup g=>cases g with
      |cons g _=>exact sI g
    exact .cons (iR hn (by omega) (by omega)) .nil
   cases b with
   |true=>exact jT (q:=(.tu [.ir .i64 0 1001000,.kb true],[],[lt 4 0 2])) (qap ..) hs.zero hs.pos rfl rfl (r:=.tup [nat r,ak true]) ⟨_,rfl,zh8 (by simp only [qaq];omega) (by simp only [qaq];omega),rfl,trivial⟩ (fun n' ρ' hm _ g hn=>fact true n' ρ' hm g (by rw [hn];decide)) h
   |false=>exact jT (q:=(.tu [.ir .i64 0 1001000,.kb false],[],[lt 4 0 2])) (qam _ (qaa.2 rfl)) hs.zero hs.pos rfl rfl (r:=.tup [nat r,ak false]) ⟨_,rfl,zh8 (by simp only [qaq];omega) (by simp only [qaq];omega),rfl,trivial⟩ (fun n' ρ' hm _ g hn=>fact false n' ρ' hm g (by rw [hn];decide)) h
end Ct.Ff
end Go.Proofs.YtpcjeobkehmhpaaGreatDoor
