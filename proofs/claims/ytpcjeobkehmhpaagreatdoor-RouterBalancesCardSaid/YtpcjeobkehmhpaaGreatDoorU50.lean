/-.-/
import Derived.Test.YtpcjeobkehmhpaaGreatDoorU13
import Derived.Test.YtpcjeobkehmhpaaGreatDoorU14
import Derived.Test.YtpcjeobkehmhpaaGreatDoorU17
import Derived.Test.YtpcjeobkehmhpaaGreatDoorU43
import Derived.Test.YtpcjeobkehmhpaaGreatDoorU44
import Derived.Test.YtpcjeobkehmhpaaGreatDoorU48
import Derived.Test.YtpcjeobkehmhpaaGreatDoorU49
set_option linter.all false
namespace Go.Proofs.YtpcjeobkehmhpaaGreatDoor
open Go.Em
set_option maxRecDepth 100000
def zuW (s:Stt):Ocm:=⟨s,[],[],[]⟩
def MK:List (Value×X):=[(.int .i64 1,.fn 47 []),(.int .i64 2,.fn 48 []),(.int .i64 11,.fn 49 []),(.int .i64 12,.fn 50 []),(.int .i64 14,.fn 51 [])]
theorem zdI (N:Nat):ah tab ext (N+1) (.fn 19) [] []=some (.mp 0,[.map MK]):=caA [] pf0
def sJ (k:Int):Bool:=!((!(k==1))&&((!(k==2))&&((!(k==11))&&((!(k==12))&&(!(k==14))))))
theorem Zz (k:Int):∃y,qo true (.v .nilFunc) (.int .i64 k) MK=some (.tup [y,.v (.bool (sJ k))]):=by
 unfold qo MK sJ;simp only [ji,ng,if_true];cases a:(k==1) with
 |true=>simp_all
 |false=>
  cases f:(k==2) with
  |true=>simp_all
  |false=>
   cases h:(k==11) with
   |true=>simp_all
   |false=>
    cases j:(k==12) with
    |true=>simp_all
    |false=>
     cases l:(k==14)<;>simp_all
open Go Go.Em Go.Ab
namespace Ct
inductive Rt where
 |none
 |rej (r:qaZ)
 |pas (m':Msg) (j:Nat)
 |many (n:Nat)
def Rt.cells (t:Bool)(s:Stt)(m:Msg)(name:qaZ):Rt->List X
 |.none=>(zuW s).cells
 |.rej r=>zbT t s m name r
 |.pas m' j=>zfR s m' j
 |.many n=>(mcO s m name n).cells
def Rt.good (m:Msg):Rt->Prop
 |.none=>True
 |.rej _=>True
 |.pas m' _=>m'.okW/\m'.nC=m.nC
 |.many n=>0<n/\n<=64
def Rt.isNone:Rt->Bool
 |.none=>true
 |_=>false
def zh2 (m:Msg):Res->Rt
 |.rej r=>.rej r
 |.pas j=>.pas m j
end Ct
theorem Lp (i:Inp):∃v,(bG i).m.body=aV 4 v:=⟨i.m.body,rfl⟩
theorem zc2 (q:Ct.Rt)(t:Bool)(s:Stt)(m:Msg)(name:qaZ):∃outs dK letters,q.cells t s m name=ocC s.n s.t (bf s.slots) outs dK letters:=by
 cases q with
 |none=>exact ⟨_,_,_,rfl⟩
 |rej r=>exact ⟨_,_,_,rfl⟩
 |pas m' j=>exact ⟨_,_,_,rfl⟩
 |many n=>exact ⟨_,_,_,rfl⟩
theorem CG (M:Nat)(hM:400<=M):Gam.aF (ah tab ext M) 9 []=some (ak true):=by obtain ⟨K,rfl⟩:∃K,M=K+400:=⟨M-400,by omega⟩<;>simp_all[Gt]
theorem ZB (nd nd':Nod)(s:Stt)(i:Inp)(M:Nat)(outs dK letters:qaY)
  (h1:Gam.aF (ah tab ext M) 7 [.agg nd.cells,.agg s.cells,.agg i.cells,num nd.kind]=some (.tup [.agg ({nd' with kind:=nd.kind}:Nod).cells,.agg (shortS s).cells,.agg (bG i).cells])) (h2:Gam.aF (ah tab ext M) 9 []=some (ak true))
  (ha:Gam.aF (ah tab ext M) 8 [.agg ({nd' with kind:=nd.kind}:Nod).cells,.agg (shortS s).cells,.agg (bG i).cells]=some (.agg (ocC (shortS s).n (shortS s).t (bf (shortS s).slots) outs dK letters))) (h50:Gam.aF (ah tab ext M) 10 [.agg (shortS s).cells,.agg (shortS s).cells]=some (ak true)) (hk:((bG i).kind==1)=true):
  ah tab ext (M+1) (.fn 4) [.agg nd.cells,.agg s.cells,.agg i.cells] []=some (.v (.bool true),[]):=by
 generalize bG i=i' at h1 ha hk;generalize shortS s=s' at h1 ha h50;obtain ⟨kd,tm,⟨se,sp⟩,⟨⟨e,p⟩,ms,o,⟨Y,Z,a3,a4,a5,a6⟩⟩,x,b1,b2,⟨c1,c2,c3,c4,c5,c6⟩⟩:=i;obtain ⟨a,l,⟨h,j⟩,⟨⟨y,V⟩,f,U,⟨L,N,O,P,Q,S⟩⟩,W,q,u,⟨A,B,E,F,H,J⟩⟩:=i';obtain ⟨n,t,m⟩:=s';exact caA [(14,.p (.tup [.agg ({nd' with kind:=nd.kind}:Nod).cells,.agg (Stt.mk n t m).cells,.agg (Inp.mk a l ⟨h,j⟩ ⟨⟨y,V⟩,f,U,⟨L,N,O,P,Q,S⟩⟩ W q u ⟨A,B,E,F,H,J⟩).cells])),(21,.p (.agg (ocC n t (bf m) outs dK letters))),(22,.p (ak true)),(28,.p (ak true)),(39,.b true)] (pf5 h1 ha h2 h50 hk)
theorem VE (nd nd':Nod)(s:Stt)(i:Inp)(M:Nat)
  (h1:Gam.aF (ah tab ext M) 7 [.agg nd.cells,.agg s.cells,.agg i.cells,num nd.kind]=some (.tup [.agg ({nd' with kind:=nd.kind}:Nod).cells,.agg (shortS s).cells,.agg (bG i).cells])) (h2:Gam.aF (ah tab ext M) 9 []=some (ak true))
  (ha:Gam.aF (ah tab ext M) 8 [.agg ({nd' with kind:=nd.kind}:Nod).cells,.agg (shortS s).cells,.agg (bG i).cells]=some (.agg (ocC (shortS s).n (shortS s).t (bf (shortS s).slots) [] [] []))) (h50:Gam.aF (ah tab ext M) 10 [.agg (shortS s).cells,.agg (shortS s).cells]=some (ak true)) (hk:((bG i).kind==1)=false):
  ah tab ext (M+1) (.fn 4) [.agg nd.cells,.agg s.cells,.agg i.cells] []=some (.v (.bool true),[]):=by
 generalize bG i=i' at h1 ha hk;generalize shortS s=s' at h1 ha h50;obtain ⟨kd,tm,⟨se,sp⟩,⟨⟨e,p⟩,ms,o,⟨Y,Z,a3,a4,a5,a6⟩⟩,x,b1,b2,⟨c1,c2,c3,c4,c5,c6⟩⟩:=i;obtain ⟨a,l,⟨h,j⟩,⟨⟨y,V⟩,f,U,⟨L,N,O,P,Q,S⟩⟩,W,q,u,⟨A,B,E,F,H,J⟩⟩:=i';obtain ⟨n,t,m⟩:=s';exact caA [(14,.p (.tup [.agg ({nd' with kind:=nd.kind}:Nod).cells,.agg (Stt.mk n t m).cells,.agg (Inp.mk a l ⟨h,j⟩ ⟨⟨y,V⟩,f,U,⟨L,N,O,P,Q,S⟩⟩ W q u ⟨A,B,E,F,H,J⟩).cells])),(21,.p (.agg (ocC n t (bf m) [] [] []))),(22,.p (ak true)),(28,.p (ak true)),(39,.b false)] (pf5 h1 ha h2 h50 hk)
namespace Ct
def One (nd:Nod)(s:Stt)(i:Inp)(q:Rt):Prop:=∃B,∀N,B<=N->Gam.aF (ah tab ext N) 8 [.agg nd.cells,.agg s.cells,.agg i.cells]=some (.agg (q.cells false s i.m nd.name))
theorem zdp (nd:Nod)(s:Stt)(hs:s.ok)(i:Inp)(hk:(i.kind==1)=false):One nd s i .none:=⟨190030,fun N Y=>by
 obtain ⟨M,rfl⟩:∃M,N=M+1:=⟨N-1,by omega⟩;have m:=dP M s hs (by omega);have hk:(i.kind !=1)=true:=by simp only [bne,hk];rfl
 obtain ⟨q,tm,⟨se,sp⟩,⟨⟨e,p⟩,ms,o,⟨u,y,A,B,E,F⟩⟩,x,H,J,⟨L,O,P,Q,S,U⟩⟩:=i;obtain ⟨h,kd,Z,k2,k3,k4,k5,l,⟨a,b,c,d⟩,we,el,f,ty,W,V,ru,ne⟩:=nd;obtain ⟨n,t,j⟩:=s;dsimp only at hk;exact puA [(15,.p (.agg (Stt.mk n t j).cells)),(19,.b true)] (pf2 m hk) (.agg [num n,num t,.sl false 10 (bf j),.sl true 11 [],.sl true 11 [],.sl true 6 [],.sl true 10 []])⟩
theorem zh0 (nd:Nod)(hk:sJ nd.kind=false)(s:Stt)(hs:s.ok)(i:Inp)(hi:i.kind=1)(hm:i.m.ok):One nd s i (.rej unr):=⟨200700,fun N Z=>by
 obtain ⟨M,rfl⟩:∃M,N=M+101:=⟨N-101,by omega⟩;have S:=dP (M+100) s hs (by omega);have U:=jm (M+100) i.m hm (by omega);have V:=je i.m hm nd.name unr (M+100) (by omega);have W:=zdI (M+99);obtain ⟨y,h⟩:=Zz nd.kind;rw [hk] at h;have Y:=KR (M+98) nd i.m;have hz:y=.v .nilFunc:=by unfold sJ at hk;simp only [Bool.not_eq_false',qab,Bool.not_eq_true'] at hk;obtain ⟨J,L,O,P,Q⟩:=hk;unfold qo MK at h;simp only [ji,ng,if_true,J,L,O,P,Q] at h;simpa using h.symm
 subst hz;clear hk hm hs Z;obtain ⟨pa,tm,⟨se,sp⟩,⟨⟨e,p⟩,E,o,⟨j,l,q,u,A,B⟩⟩,x,b1,b2,⟨c1,c2,c3,c4,c5,c6⟩⟩:=i;obtain ⟨name,kd,k1,k2,k3,k4,k5,H,⟨a,b,c,d⟩,we,el,f,ty,ex,ca,ru,ne⟩:=nd;obtain ⟨n,t,F⟩:=s;dsimp only at hi h;subst hi;exact puA [(15,.p (.agg (Stt.mk n t F).cells)),(23,.p (.agg (Msg.mk ⟨e,p⟩ E o (.mk j l q u A B)).cells)),(25,.o (.mp 0) [.map MK]),(28,.g (.tup [.v .nilFunc,ak false])),(36,.p (.agg [.sl false 10 [],num 0,ak false,aC unr])),(56,.p (.agg (Fte.mk ⟨e,p⟩ 4 name [] unr).cells))] (pf6 S U W h Y V) (.agg [num n,num t,.sl false 10 (bf F),.sl true 11 [],.sl true 11 [],.sl true 6 [(Fte.mk ⟨e,p⟩ 4 name [] unr).cells],.sl true 10 [(Msg.mk ⟨e,p⟩ E o (.mk j l q u A B)).cells]])⟩
theorem FU (nd:Nod)(hsm:nd.small)(s:Stt)(hs:s.ok)(i:Inp)(hm:i.m.ok)(hp:i.m.st.p.length<50000)(v:Val)(hv:i.m.body=aV 4 v):∃q:Rt,q.good i.m/\q.isNone=!(i.kind==1)/\One nd s i q:=by
 cases E:(i.kind==1) with
 |false=>exact ⟨.none,trivial,rfl,zdp nd s hs i E⟩
 |true=>
  have E:=eq_of_beq E;have u:{i with kind:=1}=i:=by rw [<-E]
  have n:∀k:Int,nd.kind=k->({nd with kind:=k}:Nod)=nd:=fun k h=>by rw [<-h]
  have H:=hm.w;cases J:sJ nd.kind with
  |false=>exact ⟨.rej unr,trivial,rfl,zh0 nd J s hs i E hm⟩
  |true=>
   by_cases P:nd.kind=1
   ·obtain ⟨f,B,A⟩:=conds nd hsm v 1;rw [<-hv] at A;obtain ⟨O,S⟩:=A 0 (by decide);refine ⟨zh2 i.m (Qz nd (f 0)),?_,?_,B+201010,fun N l=>?_⟩
    ·cases Qz nd (f 0) with
     |rej r=>trivial
     |pas j=>exact ⟨H,rfl⟩
    ·cases Qz nd (f 0)<;>rfl
    obtain ⟨M,rfl⟩:∃M,N=M+3:=⟨N-3,by omega⟩;have a:=LJ nd 1 47 (.inl ⟨rfl,rfl⟩) s hs i hm (Qz nd (f 0)) (M+2) (by omega) (by rw [n 1 P];exact Qy nd hsm i.m hm.body (f 0) O M (by omega) (S M (by omega)));rw [n 1 P,u] at a;cases F:Qz nd (f 0) with
    |rej r=>rw [F] at a;exact a
    |pas j=>rw [F] at a;exact a
   by_cases W:nd.kind=2
   ·obtain ⟨w,x,B,y⟩:=applied nd hsm v;rw [<-hv] at y;have U:=y.1;have L:({i.m with body:=w}:Msg).okW:=⟨hm.st,hm.orig,U⟩;refine ⟨zh2 {i.m with body:=w} (Vx x),?_,?_,B+3*w.size+201010,fun N l=>?_⟩
    ·cases Vx x with
     |rej r=>trivial
     |pas j=>exact ⟨L,rfl⟩
    ·cases Vx x<;>rfl
    obtain ⟨M,rfl⟩:∃M,N=M+2:=⟨N-2,by omega⟩;have a:=FV nd s hs i hm {i.m with body:=w} (Vx x) (M+1) (by omega) (by grind[DX]);rw [n 2 W,u] at a;cases F:Vx x with
    |rej r=>rw [F] at a;exact a
    |pas j=>rw [F] at a;exact a
   by_cases Y:nd.kind=11
   ·obtain ⟨f,B,A⟩:=conds nd hsm v nd.exprs.length;rw [<-hv] at A;obtain ⟨q,_,h1⟩:=QM nd hsm i.m hm.body f B A;refine ⟨zh2 i.m q,?_,?_,B+201010,fun N l=>?_⟩
    ·cases q with
     |rej r=>trivial
     |pas j=>exact ⟨H,rfl⟩
    ·cases q<;>rfl
    obtain ⟨M,rfl⟩:∃M,N=M+3:=⟨N-3,by omega⟩;have a:=LJ nd 11 49 (.inr ⟨rfl,rfl⟩) s hs i hm q (M+2) (by omega) (by grind);rw [n 11 Y] at a;rw [u] at a;cases q with
    |rej r=>exact a
    |pas j=>exact a
   by_cases Q:nd.kind=12
   ·by_cases h:nd.number<1\/64<nd.number;·refine ⟨.rej unr,trivial,rfl,200700,fun N l=>?_⟩;have a:=U5 nd h s hs i hm N l;rw [n 12 Q,u] at a;exact a
    have V:nd.number=Int.ofNat nd.number.toNat:=by simp only [qaq];omega
    refine ⟨.many nd.number.toNat,⟨by omega,by omega⟩,rfl,200700,fun N l=>?_⟩;have a:=LK nd nd.number.toNat V (by omega) (by omega) s hs i hm hp N l;rw [n 12 Q,u] at a;exact a
   have Z:nd.kind=14:=by
    unfold sJ at J;simp at J;rcases J with h|h|h|h|h
    ·grind
    ·grind
    ·grind
    ·grind
    exact h
   refine ⟨.rej nd.text,trivial,rfl,200700,fun N l=>?_⟩;have a:=IK nd s hs i hm N l;rw [n 14 Z,u] at a;exact a
end Ct
theorem Ry (cn:List X)(hcn:isNode cn)(s:Stt)(i:Inp)(kk:Option Int):∃(nd nd':Nod) (q:Ct.Rt),cn=nd.cells/\(∀N,220<=N->Gam.aF (ah tab ext N) 14 [.agg nd.cells]=some (.agg nd'.cells))/\q.good (bG i).m/\q.isNone=!((kk.getD (bG i).kind)==1)/\
  Ct.One {nd' with kind:=nd.kind} (shortS s) (match kk with|some k=>{bG i with kind:=k}|none=>bG i) q:=by
 obtain ⟨nd,nd',rfl,f,B⟩:=Gj hcn;have l:=(qF s).ok;have h:(bG i).m.ok:=by rw [Ac];exact A8 i.m
 have j:=Uz i;obtain ⟨v,n⟩:=Lp i;have a:({nd' with kind:=nd.kind}:Nod).small:=f;cases kk with
 |none=>
  obtain ⟨q,A,u,y⟩:=Ct.FU _ a (shortS s) l (bG i) h j v n
  grind
 |some k=>
  obtain ⟨q,A,u,y⟩:=Ct.FU _ a (shortS s) l {bG i with kind:=k} h j v n
  grind
theorem rkeeps_one (cn:List X)(hcn:isNode cn)(s:Stt)(i:Inp):∃n,ah tab ext n (.fn 4) [.agg cn,.agg s.cells,.agg i.cells] []=some (.v (.bool true),[]):=by
 obtain ⟨u,f,q,rfl,H,_,a,⟨h,F⟩⟩:=Ry cn hcn s i none;refine ⟨h+190401,?_⟩;have J:=(qF s).ok;have y:=F (h+190400) (by omega);have l:=Ik (h+190400) (shortS s) J (by omega);have B:=yx u f H s i u.kind (h+190400) (by omega);have E:=CG (h+190400) (by omega);dsimp only at y;rw [Option.getD_none] at a;cases A:((bG i).kind==1) with
 |true=>
  obtain ⟨O,M,N,L⟩:=zc2 q false (shortS s) (bG i).m f.name
  grind[ZB]
 |false=>
  rw [A] at a;cases q with
  |none=>exact VE u f s i _ B E y l A
  |rej r=>cases a
  |pas m' j=>cases a
  |many n=>cases a
end Go.Proofs.YtpcjeobkehmhpaaGreatDoor
