/-.-/
import Derived.Test.YtpcjeobkehmhpaaGreatDoorU13
import Derived.Test.YtpcjeobkehmhpaaGreatDoorU14
import Derived.Test.YtpcjeobkehmhpaaGreatDoorU17
import Derived.Test.YtpcjeobkehmhpaaGreatDoorU43
import Derived.Test.YtpcjeobkehmhpaaGreatDoorU44
import Derived.Test.YtpcjeobkehmhpaaGreatDoorU48
import Derived.Test.YtpcjeobkehmhpaaGreatDoorU49
set_option linter.unusedSimpArgs false
set_option linter.unusedVariables false
namespace Go.Proofs.YtpcjeobkehmhpaaGreatDoor
open Go.Em
set_option maxRecDepth 100000
def zuW (s:Stt):Ocm:=⟨s,[],[],[]⟩
def MK:List (Value×X):=[(.int .i64 1,.fn 47 []),(.int .i64 2,.fn 48 []),(.int .i64 11,.fn 49 []),(.int .i64 12,.fn 50 []),(.int .i64 14,.fn 51 [])]
theorem zdI (N:Nat):ah tab ext (N+1) (.fn 19) [] []=some (.mp 0,[.map MK]):=caA [] pf0
def sJ (k:Int):Bool:=!((!(k==1))&&((!(k==2))&&((!(k==11))&&((!(k==12))&&(!(k==14))))))
theorem Zz (k:Int):∃y,qo true (.v .nilFunc) (.int .i64 k) MK=some (.tup [y,.v (.bool (sJ k))]):=by
 unfold qo MK sJ;simp only [ji,ng,if_true];cases h1:(k==1) with
 |true=>exact ⟨_,rfl⟩
 |false=>
  cases h2:(k==2) with
  |true=>exact ⟨_,rfl⟩
  |false=>
   cases h3:(k==11) with
   |true=>exact ⟨_,rfl⟩
   |false=>
    cases h4:(k==12) with
    |true=>exact ⟨_,rfl⟩
    |false=>
     cases h5:(k==14) with
     |true=>exact ⟨_,rfl⟩
     |false=>exact ⟨_,rfl⟩
open Go Go.Em Go.Ab
namespace Ct
inductive Rt where
 |none
 |rej (r:qaZ)
 |pas (m':Msg) (j:Nat)
 |many (n:Nat)
def Rt.cells (t:Bool)(s:Stt)(m:Msg)(name:qaZ):Rt->List X
 |.none=>(zuW s).cells
 |.rej r=>zbT t s m name r
 |.pas m' j=>zfR s m' j
 |.many n=>(mcO s m name n).cells
def Rt.good (m:Msg):Rt->Prop
 |.none=>True
 |.rej _=>True
 |.pas m' _=>m'.okW/\m'.nC=m.nC
 |.many n=>0<n/\n<=64
def Rt.isNone:Rt->Bool
 |.none=>true
 |_=>false
def zh2 (m:Msg):Res->Rt
 |.rej r=>.rej r
 |.pas j=>.pas m j
end Ct
theorem Lp (i:Inp):∃v,(bG i).m.body=aV 4 v:=⟨i.m.body,rfl⟩
theorem zc2 (q:Ct.Rt)(t:Bool)(s:Stt)(m:Msg)(name:qaZ):∃outs dK letters,q.cells t s m name=ocC s.n s.t (bf s.slots) outs dK letters:=by
 cases q with
 |none=>exact ⟨_,_,_,rfl⟩
 |rej r=>exact ⟨_,_,_,rfl⟩
 |pas m' j=>exact ⟨_,_,_,rfl⟩
 |many n=>exact ⟨_,_,_,rfl⟩
theorem CG (M:Nat)(hM:400<=M):Gam.aF (ah tab ext M) 9 []=some (ak true):=by obtain ⟨K,rfl⟩:∃K,M=K+400:=⟨M-400,by omega⟩;exact Gt K
theorem ZB (nd nd':Nod)(s:Stt)(i:Inp)(M:Nat)(outs dK letters:qaY)
  (h1:Gam.aF (ah tab ext M) 7 [.agg nd.cells,.agg s.cells,.agg i.cells,num nd.kind]=some (.tup [.agg ({nd' with kind:=nd.kind}:Nod).cells,.agg (shortS s).cells,.agg (bG i).cells])) (h2:Gam.aF (ah tab ext M) 9 []=some (ak true))
  (ha:Gam.aF (ah tab ext M) 8 [.agg ({nd' with kind:=nd.kind}:Nod).cells,.agg (shortS s).cells,.agg (bG i).cells]=some (.agg (ocC (shortS s).n (shortS s).t (bf (shortS s).slots) outs dK letters))) (h50:Gam.aF (ah tab ext M) 10 [.agg (shortS s).cells,.agg (shortS s).cells]=some (ak true)) (hk:((bG i).kind==1)=true):
  ah tab ext (M+1) (.fn 4) [.agg nd.cells,.agg s.cells,.agg i.cells] []=some (.v (.bool true),[]):=by
 generalize bG i=i' at h1 ha hk;generalize shortS s=s' at h1 ha h50;obtain ⟨kd,tm,⟨se,sp⟩,⟨⟨e,p⟩,ms,o,⟨a1,a2,a3,a4,a5,a6⟩⟩,x,b1,b2,⟨c1,c2,c3,c4,c5,c6⟩⟩:=i;obtain ⟨kd',tm',⟨se',sp'⟩,⟨⟨e',p'⟩,ms',o',⟨g1,g2,g3,g4,g5,g6⟩⟩,x',d1,d2,⟨f1,f2,f3,f4,f5,f6⟩⟩:=i';obtain ⟨n,t,ss⟩:=s';exact caA [(14,.p (.tup [.agg ({nd' with kind:=nd.kind}:Nod).cells,.agg (Stt.mk n t ss).cells,.agg (Inp.mk kd' tm' ⟨se',sp'⟩ ⟨⟨e',p'⟩,ms',o',⟨g1,g2,g3,g4,g5,g6⟩⟩ x' d1 d2 ⟨f1,f2,f3,f4,f5,f6⟩).cells])),(21,.p (.agg (ocC n t (bf ss) outs dK letters))),(22,.p (ak true)),(28,.p (ak true)),(39,.b true)] (pf5 h1 ha h2 h50 hk)
theorem VE (nd nd':Nod)(s:Stt)(i:Inp)(M:Nat)
  (h1:Gam.aF (ah tab ext M) 7 [.agg nd.cells,.agg s.cells,.agg i.cells,num nd.kind]=some (.tup [.agg ({nd' with kind:=nd.kind}:Nod).cells,.agg (shortS s).cells,.agg (bG i).cells])) (h2:Gam.aF (ah tab ext M) 9 []=some (ak true))
  (ha:Gam.aF (ah tab ext M) 8 [.agg ({nd' with kind:=nd.kind}:Nod).cells,.agg (shortS s).cells,.agg (bG i).cells]=some (.agg (ocC (shortS s).n (shortS s).t (bf (shortS s).slots) [] [] []))) (h50:Gam.aF (ah tab ext M) 10 [.agg (shortS s).cells,.agg (shortS s).cells]=some (ak true)) (hk:((bG i).kind==1)=false):
  ah tab ext (M+1) (.fn 4) [.agg nd.cells,.agg s.cells,.agg i.cells] []=some (.v (.bool true),[]):=by
 generalize bG i=i' at h1 ha hk;generalize shortS s=s' at h1 ha h50;obtain ⟨kd,tm,⟨se,sp⟩,⟨⟨e,p⟩,ms,o,⟨a1,a2,a3,a4,a5,a6⟩⟩,x,b1,b2,⟨c1,c2,c3,c4,c5,c6⟩⟩:=i;obtain ⟨kd',tm',⟨se',sp'⟩,⟨⟨e',p'⟩,ms',o',⟨g1,g2,g3,g4,g5,g6⟩⟩,x',d1,d2,⟨f1,f2,f3,f4,f5,f6⟩⟩:=i';obtain ⟨n,t,ss⟩:=s';exact caA [(14,.p (.tup [.agg ({nd' with kind:=nd.kind}:Nod).cells,.agg (Stt.mk n t ss).cells,.agg (Inp.mk kd' tm' ⟨se',sp'⟩ ⟨⟨e',p'⟩,ms',o',⟨g1,g2,g3,g4,g5,g6⟩⟩ x' d1 d2 ⟨f1,f2,f3,f4,f5,f6⟩).cells])),(21,.p (.agg (ocC n t (bf ss) [] [] []))),(22,.p (ak true)),(28,.p (ak true)),(39,.b false)] (pf5 h1 ha h2 h50 hk)
namespace Ct
def One (nd:Nod)(s:Stt)(i:Inp)(q:Rt):Prop:=∃B,∀N,B<=N->Gam.aF (ah tab ext N) 8 [.agg nd.cells,.agg s.cells,.agg i.cells]=some (.agg (q.cells false s i.m nd.name))
theorem zdp (nd:Nod)(s:Stt)(hs:s.ok)(i:Inp)(hk:(i.kind==1)=false):One nd s i .none:=⟨190030,fun N hN=>by
 obtain ⟨M,rfl⟩:∃M,N=M+1:=⟨N-1,by omega⟩;have h1:=dP M s hs (by omega);have hk:(i.kind !=1)=true:=by simp only [bne,hk];rfl
 obtain ⟨kd1,tm,⟨se,sp⟩,⟨⟨e,p⟩,ms,o,⟨a1,a2,a3,a4,a5,a6⟩⟩,x,b1,b2,⟨c1,c2,c3,c4,c5,c6⟩⟩:=i;obtain ⟨name,kd,k1,k2,k3,k4,k5,text,⟨a,b,c,d⟩,we,el,f,ty,ex,ca,ru,ne⟩:=nd;obtain ⟨n,t,ss⟩:=s;dsimp only at hk;exact puA [(15,.p (.agg (Stt.mk n t ss).cells)),(19,.b true)] (pf2 h1 hk) (.agg [num n,num t,.sl false 10 (bf ss),.sl true 11 [],.sl true 11 [],.sl true 6 [],.sl true 10 []])⟩
theorem zh0 (nd:Nod)(hk:sJ nd.kind=false)(s:Stt)(hs:s.ok)(i:Inp)(hi:i.kind=1)(hm:i.m.ok):One nd s i (.rej unr):=⟨200700,fun N hN=>by
 obtain ⟨M,rfl⟩:∃M,N=M+101:=⟨N-101,by omega⟩;have h1:=dP (M+100) s hs (by omega);have h2:=jm (M+100) i.m hm (by omega);have h3:=je i.m hm nd.name unr (M+100) (by omega);have h4:=zdI (M+99);obtain ⟨y,h5⟩:=Zz nd.kind;rw [hk] at h5;have h6:=KR (M+98) nd i.m;have hz:y=.v .nilFunc:=by unfold sJ at hk;simp only [Bool.not_eq_false',qab,Bool.not_eq_true'] at hk;obtain ⟨e1,e2,e3,e4,e5⟩:=hk;unfold qo MK at h5;simp only [ji,ng,if_true,e1,e2,e3,e4,e5] at h5;simpa using h5.symm
 subst hz;clear hk hm hs hN;obtain ⟨kd1,tm,⟨se,sp⟩,⟨⟨e,p⟩,ms,o,⟨a1,a2,a3,a4,a5,a6⟩⟩,x,b1,b2,⟨c1,c2,c3,c4,c5,c6⟩⟩:=i;obtain ⟨name,kd,k1,k2,k3,k4,k5,text,⟨a,b,c,d⟩,we,el,f,ty,ex,ca,ru,ne⟩:=nd;obtain ⟨n,t,ss⟩:=s;dsimp only at hi h5;subst hi;exact puA [(15,.p (.agg (Stt.mk n t ss).cells)),(23,.p (.agg (Msg.mk ⟨e,p⟩ ms o (.mk a1 a2 a3 a4 a5 a6)).cells)),(25,.o (.mp 0) [.map MK]),(28,.g (.tup [.v .nilFunc,ak false])),(36,.p (.agg [.sl false 10 [],num 0,ak false,aC unr])),(56,.p (.agg (Fte.mk ⟨e,p⟩ 4 name [] unr).cells))] (pf6 h1 h2 h4 h5 h6 h3) (.agg [num n,num t,.sl false 10 (bf ss),.sl true 11 [],.sl true 11 [],.sl true 6 [(Fte.mk ⟨e,p⟩ 4 name [] unr).cells],.sl true 10 [(Msg.mk ⟨e,p⟩ ms o (.mk a1 a2 a3 a4 a5 a6)).cells]])⟩
theorem FU (nd:Nod)(hsm:nd.small)(s:Stt)(hs:s.ok)(i:Inp)(hm:i.m.ok)(hp:i.m.st.p.length<50000)(v:Val)(hv:i.m.body=aV 4 v):∃q:Rt,q.good i.m/\q.isNone=!(i.kind==1)/\One nd s i q:=by
 cases hi:(i.kind==1) with
 |false=>exact ⟨.none,trivial,rfl,zdp nd s hs i hi⟩
 |true=>
  have hi:i.kind=1:=eq_of_beq hi;have ei:{i with kind:=1}=i:=by rw [<-hi]
  have en:∀k:Int,nd.kind=k->({nd with kind:=k}:Nod)=nd:=fun k h=>by rw [<-h]
  have okm:i.m.okW:=hm.w;cases hk:sJ nd.kind with
  |false=>exact ⟨.rej unr,trivial,rfl,zh0 nd hk s hs i hi hm⟩
  |true=>
   by_cases k1:nd.kind=1
   ·obtain ⟨f,B,hc⟩:=conds nd hsm v 1;rw [<-hv] at hc;obtain ⟨hpf,Qi⟩:=hc 0 (by decide);refine ⟨zh2 i.m (Qz nd (f 0)),?_,?_,B+201010,fun N hN=>?_⟩
    ·cases Qz nd (f 0) with
     |rej r=>trivial
     |pas j=>exact ⟨okm,rfl⟩
    ·cases Qz nd (f 0)<;>rfl
    obtain ⟨M,rfl⟩:∃M,N=M+3:=⟨N-3,by omega⟩;have ha:=LJ nd 1 47 (.inl ⟨rfl,rfl⟩) s hs i hm (Qz nd (f 0)) (M+2) (by omega) (by rw [en 1 k1];exact Qy nd hsm i.m hm.body (f 0) hpf M (by omega) (Qi M (by omega)));rw [en 1 k1,ei] at ha;cases hq:Qz nd (f 0) with
    |rej r=>rw [hq] at ha;exact ha
    |pas j=>rw [hq] at ha;exact ha
   by_cases k2:nd.kind=2
   ·obtain ⟨w,x,B,hap⟩:=applied nd hsm v;rw [<-hv] at hap;have hw:=hap.1;have hm':({i.m with body:=w}:Msg).okW:=⟨hm.st,hm.orig,hw⟩;refine ⟨zh2 {i.m with body:=w} (Vx x),?_,?_,B+3*w.size+201010,fun N hN=>?_⟩
    ·cases Vx x with
     |rej r=>trivial
     |pas j=>exact ⟨hm',rfl⟩
    ·cases Vx x<;>rfl
    obtain ⟨M,rfl⟩:∃M,N=M+2:=⟨N-2,by omega⟩;have ha:=FV nd s hs i hm {i.m with body:=w} (Vx x) (M+1) (by omega) (by rw [en 2 k2];exact DX nd i.m hm w x B hap M (by omega));rw [en 2 k2,ei] at ha;cases hq:Vx x with
    |rej r=>rw [hq] at ha;exact ha
    |pas j=>rw [hq] at ha;exact ha
   by_cases k3:nd.kind=11
   ·obtain ⟨f,B,hc⟩:=conds nd hsm v nd.exprs.length;rw [<-hv] at hc;obtain ⟨q,_,h1⟩:=QM nd hsm i.m hm.body f B hc;refine ⟨zh2 i.m q,?_,?_,B+201010,fun N hN=>?_⟩
    ·cases q with
     |rej r=>trivial
     |pas j=>exact ⟨okm,rfl⟩
    ·cases q<;>rfl
    obtain ⟨M,rfl⟩:∃M,N=M+3:=⟨N-3,by omega⟩;have ha:=LJ nd 11 49 (.inr ⟨rfl,rfl⟩) s hs i hm q (M+2) (by omega) (by rw [en 11 k3];exact h1 _ (by omega));rw [en 11 k3] at ha;rw [ei] at ha;cases q with
    |rej r=>exact ha
    |pas j=>exact ha
   by_cases k4:nd.kind=12
   ·by_cases h:nd.number<1\/64<nd.number;·refine ⟨.rej unr,trivial,rfl,200700,fun N hN=>?_⟩;have ha:=U5 nd h s hs i hm N hN;rw [en 12 k4,ei] at ha;exact ha
    have hx:nd.number=Int.ofNat nd.number.toNat:=by simp only [qaq];omega
    refine ⟨.many nd.number.toNat,⟨by omega,by omega⟩,rfl,200700,fun N hN=>?_⟩;have ha:=LK nd nd.number.toNat hx (by omega) (by omega) s hs i hm hp N hN;rw [en 12 k4,ei] at ha;exact ha
   have k5:nd.kind=14:=by
    unfold sJ at hk;simp only [Bool.not_eq_true',Bool.and_eq_false_iff,Bool.not_eq_false',qaP] at hk;rcases hk with h|h|h|h|h;·exact absurd h k1
    ·exact absurd h k2
    ·exact absurd h k3
    ·exact absurd h k4
    exact h
   refine ⟨.rej nd.text,trivial,rfl,200700,fun N hN=>?_⟩;have ha:=IK nd s hs i hm N hN;rw [en 14 k5,ei] at ha;exact ha
end Ct
theorem Ry (cn:List X)(hcn:isNode cn)(s:Stt)(i:Inp)(kk:Option Int):∃(nd nd':Nod) (q:Ct.Rt),cn=nd.cells/\(∀N,220<=N->Gam.aF (ah tab ext N) 14 [.agg nd.cells]=some (.agg nd'.cells))/\q.good (bG i).m/\q.isNone=!((kk.getD (bG i).kind)==1)/\
  Ct.One {nd' with kind:=nd.kind} (shortS s) (match kk with|some k=>{bG i with kind:=k}|none=>bG i) q:=by
 obtain ⟨nd,nd',rfl,hsm,hn⟩:=Gj hcn;have hs:=(qF s).ok;have hm:(bG i).m.ok:=by rw [Ac];exact A8 i.m
 have hp:=Uz i;obtain ⟨v,hv⟩:=Lp i;have zs3:({nd' with kind:=nd.kind}:Nod).small:=hsm;cases kk with
 |none=>obtain ⟨q,hq,h1,h2⟩:=Ct.FU _ zs3 (shortS s) hs (bG i) hm hp v hv;exact ⟨nd,nd',q,rfl,hn,hq,h1,h2⟩
 |some k=>obtain ⟨q,hq,h1,h2⟩:=Ct.FU _ zs3 (shortS s) hs {bG i with kind:=k} hm hp v hv;exact ⟨nd,nd',q,rfl,hn,hq,h1,h2⟩
theorem rkeeps_one (cn:List X)(hcn:isNode cn)(s:Stt)(i:Inp):∃n,ah tab ext n (.fn 4) [.agg cn,.agg s.cells,.agg i.cells] []=some (.v (.bool true),[]):=by
 obtain ⟨nd,nd',q,rfl,hn,_,hnone,⟨B1,hB⟩⟩:=Ry cn hcn s i none;refine ⟨B1+190401,?_⟩;have hs:=(qF s).ok;have ha:=hB (B1+190400) (by omega);have h50:=Ik (B1+190400) (shortS s) hs (by omega);have h1:=yx nd nd' hn s i nd.kind (B1+190400) (by omega);have h2:=CG (B1+190400) (by omega);dsimp only at ha;rw [Option.getD_none] at hnone;cases hk:((bG i).kind==1) with
 |true=>obtain ⟨o1,f1,l1,e1⟩:=zc2 q false (shortS s) (bG i).m nd'.name;rw [e1] at ha;exact ZB nd nd' s i _ _ _ _ h1 h2 ha h50 hk
 |false=>
  rw [hk] at hnone;cases q with
  |none=>exact VE nd nd' s i _ h1 h2 ha h50 hk
  |rej r=>cases hnone
  |pas m' j=>cases hnone
  |many n=>cases hnone
end Go.Proofs.YtpcjeobkehmhpaaGreatDoor
