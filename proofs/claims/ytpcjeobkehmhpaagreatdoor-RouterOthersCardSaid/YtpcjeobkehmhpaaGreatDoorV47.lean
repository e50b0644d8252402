/-.-/
import Derived.Shelf.LaysC
import Derived.Shelf.LaysM
import Derived.Shelf.Lays
import Derived.Shelf.Strconv.Itoa1
import Derived.Shelf.Strconv.Itoa2
import Derived.Lib.Walk
import Derived.Lib.ItoaMem
import Derived.WalkKit
import Derived.BigCall
import Derived.BigGuard
import Derived.Test.YtpcjeobkehmhpaaGreatDoorV13
import Derived.Test.YtpcjeobkehmhpaaGreatDoorV14
import Derived.Test.YtpcjeobkehmhpaaGreatDoorV15
import Derived.Test.YtpcjeobkehmhpaaGreatDoorV17
import Derived.Test.YtpcjeobkehmhpaaGreatDoorV43
import Derived.Test.YtpcjeobkehmhpaaGreatDoorV44
import Derived.Test.YtpcjeobkehmhpaaGreatDoorV45
import Derived.Test.YtpcjeobkehmhpaaGreatDoorV46
set_option linter.all false
namespace Go.Proofs.YtpcjeobkehmhpaaGreatDoor
set_option maxRecDepth 100000
section
open Go.Em
def znO (s:Stt):Ocm:=⟨s,[],[],[]⟩
theorem ziy {s:Stt}(h:s.ok):(znO s).ok:=⟨h,by simp [znO],(fun x a=>by cases a),by simp [znO],(fun x a=>by cases a),by simp [znO],(fun x a=>by cases a)⟩
end
section
open Go.Em
def CW:List (Value×X):=[(.int .i64 1,.fn 47 []),(.int .i64 2,.fn 48 []),(.int .i64 11,.fn 49 []),(.int .i64 12,.fn 50 []),(.int .i64 14,.fn 51 [])]
theorem SV (N:Nat):ah tab ext (N+1) (.fn 19) [] []=some (.mp 0,[.map CW]):=caA [] pf0
def jr (k:Int):Bool:=!((!(k==1))&&((!(k==2))&&((!(k==11))&&((!(k==12))&&(!(k==14))))))
theorem MH (k:Int):∃y,oz true (.v .nilFunc) (.int .i64 k) CW=some (.tup [y,.v (.bool (jr k))]):=by
 unfold oz CW jr;simp only [iY,lQ,if_true];cases a:(k==1) with
 |true=>simp_all
 |false=>
  cases f:(k==2) with
  |true=>simp_all
  |false=>
   cases h:(k==11) with
   |true=>simp_all
   |false=>
    cases j:(k==12) with
    |true=>simp_all
    |false=>
     cases l:(k==14)<;>simp_all
end
section
open Go Go.Em Go.Ab
namespace Ct
inductive Rt where
 |none
 |rej (r:qaY)
 |pas (m':Msg) (j:Nat)
 |many (n:Nat)
def Rt.cells (t:Bool)(s:Stt)(m:Msg)(name:qaY):Rt->List X
 |.none=>(znO s).cells
 |.rej r=>vV t s m name r
 |.pas m' j=>OV s m' j
 |.many n=>(mcO s m name n).cells
def Rt.good (m:Msg):Rt->Prop
 |.none=>True
 |.rej _=>True
 |.pas m' _=>m'.okW/\m'.qC=m.qC
 |.many n=>0<n/\n<=64
def Rt.isNone:Rt->Bool
 |.none=>true
 |_=>false
theorem YL (q:Rt)(s:Stt)(hs:s.ok)(m:Msg)(hm:m.ok)(hp:m.st.p.length<50000)(name:qaY)(hq:q.good m):∃B,∀N,B<=N->Gam.aC (ah tab ext N) 12 [.agg (q.cells false s m name),.agg (q.cells true s m name)]=some (aj true):=by
 cases q with
 |none=>exact ⟨190020,fun N a=>Sm N _ (ziy hs) a⟩
 |rej r=>exact ⟨190400,fun N a=>zdq s hs m hm false true name r N a⟩
 |pas m' j=>exact ⟨190400+3*m'.body.size,fun N a=>Y8 s hs m' hq.1 j N a⟩
 |many n=>exact ⟨190020,fun N a=>Sm N _ (zn0 s hs m hm hp name n (by have:=hq.2;omega)) a⟩
def VA (m:Msg):Res->Rt
 |.rej r=>.rej r
 |.pas j=>.pas m j
def Both (nd:Nod)(s:Stt)(i:Inp)(q:Rt):Prop:=∃B,∀N,B<=N->Gam.aC (ah tab ext N) 8 [.agg nd.cells,.agg s.cells,.agg i.cells]=some (.agg (q.cells false s i.m nd.name))/\Gam.aC (ah tab ext N) 13 [.agg nd.cells,.agg s.cells,.agg i.cells]=some (.agg (q.cells true s i.m nd.name))
theorem zbM (nd:Nod)(s:Stt)(hs:s.ok)(i:Inp)(hk:(i.kind==1)=false):Both nd s i .none:=⟨190030,fun N Y=>by
 obtain ⟨M,rfl⟩:=pR_ N;have m:=bZ M s hs (by omega);have hk:(i.kind !=1)=true:=by simp only [bne,hk];rfl
 obtain ⟨q,tm,⟨se,sp⟩,⟨⟨e,p⟩,ms,o,⟨u,y,A,B,E,F⟩⟩,x,H,J,⟨L,O,P,Q,S,U⟩⟩:=i;obtain ⟨j,kd,Z,k2,k3,k4,k5,l,⟨a,b,c,d⟩,we,el,f,ty,W,V,ru,ne⟩:=nd;obtain ⟨n,t,h⟩:=s;dsimp only at hk;exact ⟨puA [(15,.p (.agg (Stt.mk n t h).cells)),(19,.b true)] (pf2 m hk) (.agg [num n,num t,.sl false 10 (aW h),.sl true 11 [],.sl true 11 [],.sl true 6 [],.sl true 10 []]),
  puA [(22,.b true)] (pf1 hk) (.agg [num n,num t,.sl false 10 (aW h),.sl true 11 [],.sl true 11 [],.sl true 6 [],.sl true 10 []])⟩⟩
theorem zfx (nd:Nod)(hk:jr nd.kind=false)(s:Stt)(hs:s.ok)(i:Inp)(hi:i.kind=1)(hm:i.m.ok):Both nd s i (.rej unr):=⟨200700,fun N hN=>by
 obtain ⟨M,rfl⟩:∃M,N=M+101:=⟨N-101,by omega⟩;have h1:=bZ (M+100) s hs (by omega);have h2:=iR (M+100) i.m hm (by omega);have h3:=iD i.m hm nd.name unr (M+100) (by omega);have h4:=SV (M+99);obtain ⟨y,h⟩:=MH nd.kind;rw [hk] at h;have h6:=AP (M+98) nd i.m;have hz:y=.v .nilFunc:=by unfold jr at hk;simp only [Bool.not_eq_false',qab,Bool.not_eq_true'] at hk;obtain ⟨W,Y,Z,e4,e5⟩:=hk;unfold oz CW at h;simp only [iY,lQ,if_true,W,Y,Z,e4,e5] at h;simpa using h.symm
 subst hz;have L:=kW i.m.body hm.body (M+100) (by omega);have h8:=rE (M+99) nd s i.m unr;have j:∀k:Int,(k=1\/k=2\/k=11\/k=12\/k=14)->(nd.kind==k)=false:=fun k J=>by
  unfold jr at hk;simp only [Bool.not_eq_false',qab,Bool.not_eq_true'] at hk;rcases J with rfl|rfl|rfl|rfl|rfl
  ·grind
  ·grind
  ·grind
  ·grind
  grind
 have O:=j 1 (.inl rfl);have P:=j 2 (.inr (.inl rfl));have Q:=j 11 (.inr (.inr (.inl rfl)));have S:=j 12 (.inr (.inr (.inr (.inl rfl))));have U:=j 14 (.inr (.inr (.inr (.inr rfl))));clear j hk hm hs hN;generalize zU i.m.body=v at L;obtain ⟨v1,v2,v3,v4,v5,v6⟩:=v;obtain ⟨pa,tm,⟨se,sp⟩,⟨⟨e,p⟩,F,o,⟨l,q,u,A,B,E⟩⟩,x,b1,b2,⟨c1,c2,c3,c4,c5,c6⟩⟩:=i;obtain ⟨name,kd,k1,k2,k3,k4,k5,V,⟨a,b,c,d⟩,we,el,f,ty,ex,ca,ru,ne⟩:=nd;obtain ⟨n,t,H⟩:=s;dsimp only at hi h O P Q S U;subst hi;exact ⟨puA [(15,.p (.agg (Stt.mk n t H).cells)),(23,.p (.agg (Msg.mk ⟨e,p⟩ F o (.mk l q u A B E)).cells)),(25,.o (.mp 0) [.map CW]),(28,.g (.tup [.v .nilFunc,aj false])),(36,.p (.agg [.sl false 10 [],num 0,aj false,aF unr])),(56,.p (.agg (Fte.mk ⟨e,p⟩ 4 name [] unr).cells))] (pf6 h1 h2 h4 h h6 h3) (.agg [num n,num t,.sl false 10 (aW H),.sl true 11 [],.sl true 11 [],.sl true 6 [(Fte.mk ⟨e,p⟩ 4 name [] unr).cells],.sl true 10 [(Msg.mk ⟨e,p⟩ F o (.mk l q u A B E)).cells]]),
  puA [(29,.p (.agg (Val.mk v1 v2 v3 v4 v5 v6).cells)),(33,.b false),(61,.b false),(85,.b false),(114,.b false),(184,.b false),(194,.p (.agg (vV true (Stt.mk n t H) (Msg.mk ⟨e,p⟩ F o (.mk l q u A B E)) name unr)))] (pf7 L O P Q S U h8) (.agg (vV true (Stt.mk n t H) (Msg.mk ⟨e,p⟩ F o (.mk l q u A B E)) name unr))⟩⟩
theorem F5 (nd:Nod)(hsm:nd.small)(s:Stt)(hs:s.ok)(i:Inp)(hm:i.m.ok)(hp:i.m.st.p.length<50000)(v:Val)(hv:i.m.body=aV 4 v):∃q:Rt,q.good i.m/\q.isNone=!(i.kind==1)/\Both nd s i q:=by
 cases H:(i.kind==1) with
 |false=>exact ⟨.none,trivial,rfl,zbM nd s hs i H⟩
 |true=>
  have H:=eq_of_beq H;have E:{i with kind:=1}=i:=by rw [<-H]
  have u:∀k:Int,nd.kind=k->({nd with kind:=k}:Nod)=nd:=fun k h=>by rw [<-h]
  have L:=hm.w;cases O:jr nd.kind with
  |false=>exact ⟨.rej unr,trivial,rfl,zfx nd O s hs i H hm⟩
  |true=>
   by_cases U:nd.kind=1
   ·obtain ⟨f,B,F⟩:=conds nd hsm v 1;rw [<-hv] at F;obtain ⟨J,Y⟩:=F 0 (by decide);refine ⟨VA i.m (wS nd (f 0)),?_,?_,B+201010,fun N n=>?_⟩
    ·cases wS nd (f 0) with
     |rej r=>trivial
     |pas j=>exact ⟨L,rfl⟩
    ·cases wS nd (f 0)<;>rfl
    obtain ⟨M,rfl⟩:∃M,N=M+3:=⟨N-3,by omega⟩;have a:=vS nd 1 47 (.inl ⟨rfl,rfl⟩) s hs i hm (wS nd (f 0)) (M+2) (by omega) (by rw [u 1 U];exact Dz nd hsm i.m hm.body (f 0) J M (by omega) (Y M (by omega)));have l:=Mc nd hsm s i hm (f 0) J (M+1) (by omega) (Y _ (by omega));rw [u 1 U,E] at a l;cases A:wS nd (f 0) with
    |rej r=>rw [A] at a l;exact ⟨a,l⟩
    |pas j=>rw [A] at a l;exact ⟨a,l⟩
   by_cases k2:nd.kind=2
   ·obtain ⟨w,x,B,y⟩:=applied nd hsm v;rw [<-hv] at y;have hw:=y.1;have P:({i.m with body:=w}:Msg).okW:=⟨hm.st,hm.orig,hw⟩;refine ⟨VA {i.m with body:=w} (O9 x),?_,?_,B+3*w.size+201010,fun N n=>?_⟩
    ·cases O9 x with
     |rej r=>trivial
     |pas j=>exact ⟨P,rfl⟩
    ·cases O9 x<;>rfl
    obtain ⟨M,rfl⟩:∃M,N=M+2:=⟨N-2,by omega⟩;have a:=FY nd s hs i hm {i.m with body:=w} (O9 x) (M+1) (by omega) (by grind[D9]);have l:=Zz nd s i hm w x B y (M+1) (by omega);rw [u 2 k2,E] at a l;cases A:O9 x with
    |rej r=>rw [A] at a l;exact ⟨a,l⟩
    |pas j=>rw [A] at a l;exact ⟨a,l⟩
   by_cases V:nd.kind=11
   ·obtain ⟨f,B,F⟩:=conds nd hsm v nd.exprs.length;rw [<-hv] at F;obtain ⟨q,A,h1⟩:=D8 nd hsm i.m hm.body f B F;obtain ⟨q',Q,Z⟩:=Md nd V hsm s i hm f B F;obtain rfl:=QO A Q;refine ⟨VA i.m q,?_,?_,B+201010,fun N n=>?_⟩
    ·cases q with
     |rej r=>trivial
     |pas j=>exact ⟨L,rfl⟩
    ·cases q<;>rfl
    obtain ⟨M,rfl⟩:∃M,N=M+3:=⟨N-3,by omega⟩;have a:=vS nd 11 49 (.inr ⟨rfl,rfl⟩) s hs i hm q (M+2) (by omega) (by grind);have l:=Z (M+3) (by omega);rw [u 11 V] at a;rw [E] at a l;cases q with
    |rej r=>exact ⟨a,l⟩
    |pas j=>exact ⟨a,l⟩
   by_cases W:nd.kind=12
   ·by_cases h:nd.number<1\/64<nd.number;·refine ⟨.rej unr,trivial,rfl,200700,fun N n=>?_⟩;have a:=FZ nd h s hs i hm N n;have l:=Zy nd h s i hm N n;rw [u 12 W,E] at a l;exact ⟨a,l⟩
    have S:nd.number=Int.ofNat nd.number.toNat:=by simp only [qaJ];omega
    refine ⟨.many nd.number.toNat,⟨by omega,by omega⟩,rfl,200700,fun N n=>?_⟩;have a:=y8 nd nd.number.toNat S (by omega) (by omega) s hs i hm hp N n;have l:=O7 nd nd.number.toNat S (by omega) (by omega) s i hm N n;rw [u 12 W,E] at a l;exact ⟨a,l⟩
   have k5:nd.kind=14:=by
    unfold jr at O;simp at O;rcases O with h|h|h|h|h
    ·grind
    ·grind
    ·grind
    ·grind
    exact h
   refine ⟨.rej nd.text,trivial,rfl,200700,fun N n=>?_⟩;have a:=vP nd s hs i hm N n;have l:=L9 nd s i hm N n;rw [u 14 k5,E] at a l;exact ⟨a,l⟩
end Ct
end
section
open Go Go.Em Go.Ab
theorem yX (i:Inp):∃v,(bJ i).m.body=aV 4 v:=⟨i.m.body,rfl⟩
theorem zc5 (cn:List X)(hcn:isNode cn)(s:Stt)(i:Inp)(kk:Option Int):∃(nd nd':Nod) (q:Ct.Rt),cn=nd.cells/\(∀N,220<=N->Gam.aC (ah tab ext N) 14 [.agg nd.cells]=some (.agg nd'.cells))/\q.good (bJ i).m/\q.isNone=!((kk.getD (bJ i).kind)==1)/\
  Ct.Both {nd' with kind:=nd.kind} (shortS s) (match kk with|some k=>{bJ i with kind:=k}|none=>bJ i) q/\∃B,∀N,B<=N->Gam.aC (ah tab ext N) 12 [.agg (q.cells false (shortS s) (bJ i).m nd'.name),.agg (q.cells true (shortS s) (bJ i).m nd'.name)]=some (aj true):=by
 obtain ⟨nd,nd',rfl,y,A⟩:=Gq hcn;have l:=(yV s).ok;have h:(bJ i).m.ok:=by rw [IB];exact Bf i.m
 have j:=FB i;obtain ⟨v,E⟩:=yX i;have f:({nd' with kind:=nd.kind}:Nod).small:=y;cases kk with
 |none=>obtain ⟨q,a,n,u⟩:=Ct.F5 _ f (shortS s) l (bJ i) h j v E;exact ⟨nd,nd',q,rfl,A,a,n,u,Ct.YL q (shortS s) l (bJ i).m h j nd'.name a⟩
 |some k=>obtain ⟨q,a,n,u⟩:=Ct.F5 _ f (shortS s) l {bJ i with kind:=k} h j v E;exact ⟨nd,nd',q,rfl,A,a,n,u,Ct.YL q (shortS s) l (bJ i).m h j nd'.name a⟩
theorem RI (q:Ct.Rt)(t:Bool)(s:Stt)(m:Msg)(name:qaY):∃outs dN letters,q.cells t s m name=ocC s.n s.t (aW s.slots) outs dN letters:=by
 cases q with
 |none=>exact ⟨_,_,_,rfl⟩
 |rej r=>exact ⟨_,_,_,rfl⟩
 |pas m' j=>exact ⟨_,_,_,rfl⟩
 |many n=>exact ⟨_,_,_,rfl⟩
theorem Ze (nd nd':Nod)(s:Stt)(i:Inp)(M:Nat)(n t n' t':Int)(ss outs dN letters ss' zil zbd Jb:qaX)
  (h1:Gam.aC (ah tab ext M) 7 [.agg nd.cells,.agg s.cells,.agg i.cells,num nd.kind]=some (.tup [.agg ({nd' with kind:=nd.kind}:Nod).cells,.agg (shortS s).cells,.agg (bJ i).cells])) (h2:Gam.aC (ah tab ext M) 9 []=some (aj true))
  (ha:Gam.aC (ah tab ext M) 8 [.agg ({nd' with kind:=nd.kind}:Nod).cells,.agg (shortS s).cells,.agg (bJ i).cells]=some (.agg (ocC n t ss outs dN letters))) (hb:Gam.aC (ah tab ext M) 13 [.agg ({nd' with kind:=nd.kind}:Nod).cells,.agg (shortS s).cells,.agg (bJ i).cells]=some (.agg (ocC n' t' ss' zil zbd Jb)))
  (hab:Gam.aC (ah tab ext M) 12 [.agg (ocC n t ss outs dN letters),.agg (ocC n' t' ss' zil zbd Jb)]=some (aj true)):ah tab ext (M+1) (.fn 6) [.agg nd.cells,.agg s.cells,.agg i.cells] []=some (.v (.bool true),[]):=by
 generalize bJ i=i' at h1 ha hb;generalize shortS s=V at h1 ha hb;obtain ⟨kd,tm,⟨se,sp⟩,⟨⟨e,p⟩,ms,o,⟨Y,Z,a3,a4,a5,a6⟩⟩,x,b1,b2,⟨c1,c2,c3,c4,c5,c6⟩⟩:=i;obtain ⟨a,l,⟨h,j⟩,⟨⟨u,U⟩,f,S,⟨J,L,N,O,P,Q⟩⟩,W,m,q,⟨y,A,B,E,F,H⟩⟩:=i';exact caA [(13,.p (.tup [.agg ({nd' with kind:=nd.kind}:Nod).cells,.agg V.cells,.agg (Inp.mk a l ⟨h,j⟩ ⟨⟨u,U⟩,f,S,⟨J,L,N,O,P,Q⟩⟩ W m q ⟨y,A,B,E,F,H⟩).cells])),(17,.p (aj true)),(22,.p (.agg (ocC n t ss outs dN letters))),(26,.p (.agg (ocC n' t' ss' zil zbd Jb))),(27,.p (aj true))] (pf5 h1 h2 ha hb hab)
theorem CV (M:Nat)(hM:400<=M):Gam.aC (ah tab ext M) 9 []=some (aj true):=by obtain ⟨K,rfl⟩:∃K,M=K+400:=⟨M-400,by omega⟩<;>simp_all[VO]
theorem rothers_all (cn:List X)(hcn:isNode cn)(s:Stt)(i:Inp):∃n,ah tab ext n (.fn 6) [.agg cn,.agg s.cells,.agg i.cells] []=some (.v (.bool true),[]):=by obtain ⟨y,a,q,rfl,F,_,_,⟨h,E⟩,j,H⟩:=zc5 cn hcn s i none;refine ⟨h+j+401,?_⟩;obtain ⟨l,u⟩:=E (h+j+400) (by omega);have f:=H (h+j+400) (by omega);obtain ⟨O,J,M,A⟩:=RI q false (shortS s) (bJ i).m a.name;obtain ⟨P,L,N,B⟩:=RI q true (shortS s) (bJ i).m a.name;dsimp only at l u;rw [A] at l f;rw [B] at u f;exact Ze y a s i _ _ _ _ _ _ _ _ _ _ _ _ _ (GN y a F s i y.kind _ (by omega)) (CV _ (by omega)) l u f
end
end Go.Proofs.YtpcjeobkehmhpaaGreatDoor
namespace Go.Proofs
section
open Go.Shelf
theorem cgS {α:Type}{a b:α}(h:a=b:=by kernel_rfl):some a=some b:=congrArg some h
def Tryz.rH:Go.Shelf.Ren:=⟨fun|171=>64|243=>88|246=>121|283=>184|284=>185|285=>186|286=>187|129=>167|317=>242|318=>243|319=>244|320=>245|337=>283|338=>284|n=>n,fun|3=>3|9=>9|2=>2|4=>4|171=>254|0=>0|53=>241|37=>256|5=>5|173=>257|212=>317|51=>239|20=>20|213=>318|46=>196|232=>374|233=>375|n=>n,fun|17=>3|18=>4|19=>5|n=>n⟩
theorem Tryz.laysItoa:Go.Proofs.LaysM.n171 Tryz.prog Tryz.rH:={
 mixed:=by kernel_rfl
 f129:=Tryz.func167.trans cgS
 f171:=Tryz.func64.trans cgS
 f243:=Tryz.func88.trans cgS
 f246:=Tryz.func121.trans cgS
 f283:=Tryz.func184.trans cgS
 f284:=Tryz.func185.trans cgS
 f285:=Tryz.func186.trans cgS
 f286:=Tryz.func187.trans cgS
 f317:=Tryz.func242.trans cgS
 f318:=Tryz.func243.trans cgS
 f319:=Tryz.func244.trans cgS
 f320:=Tryz.func245.trans cgS
 f337:=Tryz.func283.trans cgS
 f338:=Tryz.func284.trans cgS
 t0:=Tryz.underlying0
 a0:=Tryz.isAgg0
 z0:=Tryz.sizeOf0
 v0:=Tryz.zeroValue0
 t2:=Tryz.underlying2
 a2:=Tryz.isAgg2
 z2:=Tryz.sizeOf2
 v2:=Tryz.zeroValue2
 t3:=Tryz.underlying3
 a3:=Tryz.isAgg3
 z3:=Tryz.sizeOf3
 v3:=Tryz.zeroValue3
 t4:=Tryz.underlying4
 a4:=Tryz.isAgg4
 z4:=Tryz.sizeOf4
 v4:=Tryz.zeroValue4
 t5:=Tryz.underlying5
 a5:=Tryz.isAgg5
 z5:=Tryz.sizeOf5
 v5:=Tryz.zeroValue5
 t9:=Tryz.underlying9
 a9:=Tryz.isAgg9
 z9:=Tryz.sizeOf9
 v9:=Tryz.zeroValue9
 t20:=Tryz.underlying20
 a20:=Tryz.isAgg20
 z20:=Tryz.sizeOf20
 v20:=Tryz.zeroValue20
 t37:=Tryz.underlying256
 a37:=Tryz.isAgg256
 z37:=Tryz.sizeOf256
 v37:=Tryz.zeroValue256
 t46:=Tryz.underlying196
 a46:=Tryz.isAgg196
 z46:=Tryz.sizeOf196
 v46:=Tryz.zeroValue196
 t51:=Tryz.underlying239
 a51:=Tryz.isAgg239
 z51:=Tryz.sizeOf239
 v51:=Tryz.zeroValue239
 t53:=Tryz.underlying241
 a53:=Tryz.isAgg241
 z53:=Tryz.sizeOf241
 v53:=Tryz.zeroValue241
 t171:=Tryz.underlying254
 a171:=Tryz.isAgg254
 z171:=Tryz.sizeOf254
 v171:=Tryz.zeroValue254
 t173:=Tryz.underlying257
 a173:=Tryz.isAgg257
 z173:=Tryz.sizeOf257
 v173:=Tryz.zeroValue257
 t212:=Tryz.underlying317
 a212:=Tryz.isAgg317
 z212:=Tryz.sizeOf317
 v212:=Tryz.zeroValue317
 t213:=Tryz.underlying318
 a213:=Tryz.isAgg318
 z213:=Tryz.sizeOf318
 t232:=Tryz.underlying374
 a232:=Tryz.isAgg374
 z232:=Tryz.sizeOf374
 v232:=Tryz.zeroValue374
 t233:=Tryz.underlying375
 a233:=Tryz.isAgg375
 z233:=Tryz.sizeOf375
 v233:=Tryz.zeroValue375
 g17:=by kernel_rfl
 g18:=by kernel_rfl
 g19:=by kernel_rfl
 i0:=by kernel_rfl
 i2:=by kernel_rfl
 i3:=by kernel_rfl
 i4:=by kernel_rfl
 i5:=by kernel_rfl
 i9:=by kernel_rfl
 i20:=by kernel_rfl
 i37:=by kernel_rfl
 i46:=by kernel_rfl
 i51:=by kernel_rfl
 i53:=by kernel_rfl
 i171:=by kernel_rfl
 i173:=by kernel_rfl
 i212:=by kernel_rfl
 i232:=by kernel_rfl
 i233:=by kernel_rfl
 m17:=by kernel_rfl
 m18:=by kernel_rfl
 m19:=by kernel_rfl}
def Tryz.lN:Go.Shelf.Ren:=⟨fun|197=>301|260=>316|n=>n,fun|9=>9|21=>21|3=>3|4=>4|5=>5|105=>364|119=>277|0=>0|46=>196|139=>280|138=>279|n=>n,fun|3=>1|4=>2|n=>n⟩
theorem Tryz.ziU:Go.Proofs.Lays.n197 Tryz.prog Tryz.lN:={
 mixed:=by kernel_rfl
 f197:=Tryz.func301.trans cgS
 f260:=Tryz.func316.trans cgS
 t0:=Tryz.underlying0
 a0:=Tryz.isAgg0
 z0:=Tryz.sizeOf0
 v0:=Tryz.zeroValue0
 t3:=Tryz.underlying3
 a3:=Tryz.isAgg3
 z3:=Tryz.sizeOf3
 v3:=Tryz.zeroValue3
 t4:=Tryz.underlying4
 a4:=Tryz.isAgg4
 z4:=Tryz.sizeOf4
 v4:=Tryz.zeroValue4
 t5:=Tryz.underlying5
 a5:=Tryz.isAgg5
 z5:=Tryz.sizeOf5
 v5:=Tryz.zeroValue5
 t9:=Tryz.underlying9
 a9:=Tryz.isAgg9
 z9:=Tryz.sizeOf9
 v9:=Tryz.zeroValue9
 t21:=Tryz.underlying21
 a21:=Tryz.isAgg21
 z21:=Tryz.sizeOf21
 v21:=Tryz.zeroValue21
 t46:=Tryz.underlying196
 a46:=Tryz.isAgg196
 z46:=Tryz.sizeOf196
 v46:=Tryz.zeroValue196
 t105:=Tryz.underlying364
 a105:=Tryz.isAgg364
 z105:=Tryz.sizeOf364
 v105:=Tryz.zeroValue364
 t119:=Tryz.underlying277
 a119:=Tryz.isAgg277
 z119:=Tryz.sizeOf277
 t138:=Tryz.underlying279
 a138:=Tryz.isAgg279
 z138:=Tryz.sizeOf279
 v138:=Tryz.zeroValue279
 t139:=Tryz.underlying280
 a139:=Tryz.isAgg280
 z139:=Tryz.sizeOf280
 v139:=Tryz.zeroValue280
 g3:=by kernel_rfl
 g4:=by kernel_rfl}
def Tryz.CQ:Go.Shelf.Ren:=⟨fun|105=>305|212=>156|99=>190|165=>319|166=>320|170=>321|169=>275|263=>206|264=>207|206=>250|240=>302|241=>329|276=>317|277=>331|n=>n,fun|9=>9|3=>3|4=>4|20=>20|0=>0|46=>196|109=>228|5=>5|72=>343|76=>265|51=>239|146=>282|53=>241|148=>284|70=>341|37=>256|75=>264|127=>367|164=>383|80=>345|n=>n,fun|n=>n⟩
theorem Tryz.CS:Go.Proofs.Lays.n105 Tryz.prog Tryz.CQ:={
 mixed:=by kernel_rfl
 f99:=Tryz.func190.trans cgS
 f105:=Tryz.func305.trans cgS
 f165:=Tryz.func319.trans cgS
 f166:=Tryz.func320.trans cgS
 f169:=Tryz.func275.trans cgS
 f170:=Tryz.func321.trans cgS
 f206:=Tryz.func250.trans cgS
 f212:=Tryz.func156.trans cgS
 f240:=Tryz.func302.trans cgS
 f241:=Tryz.func329.trans cgS
 f263:=Tryz.func206.trans cgS
 f264:=Tryz.func207.trans cgS
 f276:=Tryz.func317.trans cgS
 f277:=Tryz.func331.trans cgS
 t0:=Tryz.underlying0
 a0:=Tryz.isAgg0
 z0:=Tryz.sizeOf0
 v0:=Tryz.zeroValue0
 t3:=Tryz.underlying3
 a3:=Tryz.isAgg3
 z3:=Tryz.sizeOf3
 v3:=Tryz.zeroValue3
 t4:=Tryz.underlying4
 a4:=Tryz.isAgg4
 z4:=Tryz.sizeOf4
 v4:=Tryz.zeroValue4
 t5:=Tryz.underlying5
 a5:=Tryz.isAgg5
 z5:=Tryz.sizeOf5
 v5:=Tryz.zeroValue5
 t9:=Tryz.underlying9
 a9:=Tryz.isAgg9
 z9:=Tryz.sizeOf9
 v9:=Tryz.zeroValue9
 t20:=Tryz.underlying20
 a20:=Tryz.isAgg20
 z20:=Tryz.sizeOf20
 v20:=Tryz.zeroValue20
 t37:=Tryz.underlying256
 a37:=Tryz.isAgg256
 z37:=Tryz.sizeOf256
 v37:=Tryz.zeroValue256
 t46:=Tryz.underlying196
 a46:=Tryz.isAgg196
 z46:=Tryz.sizeOf196
 v46:=Tryz.zeroValue196
 t51:=Tryz.underlying239
 a51:=Tryz.isAgg239
 z51:=Tryz.sizeOf239
 v51:=Tryz.zeroValue239
 t53:=Tryz.underlying241
 a53:=Tryz.isAgg241
 z53:=Tryz.sizeOf241
 v53:=Tryz.zeroValue241
 t70:=Tryz.underlying341
 a70:=Tryz.isAgg341
 z70:=Tryz.sizeOf341
 v70:=Tryz.zeroValue341
 t72:=Tryz.underlying343
 a72:=Tryz.isAgg343
 z72:=Tryz.sizeOf343
 v72:=Tryz.zeroValue343
 t75:=Tryz.underlying264
 a75:=Tryz.isAgg264
 z75:=Tryz.sizeOf264
 v75:=Tryz.zeroValue264
 t76:=Tryz.underlying265
 a76:=Tryz.isAgg265
 z76:=Tryz.sizeOf265
 v76:=Tryz.zeroValue265
 t109:=Tryz.underlying228
 a109:=Tryz.isAgg228
 z109:=Tryz.sizeOf228
 v109:=Tryz.zeroValue228
 t127:=Tryz.underlying367
 a127:=Tryz.isAgg367
 z127:=Tryz.sizeOf367
 v127:=Tryz.zeroValue367
 t146:=Tryz.underlying282
 a146:=Tryz.isAgg282
 z146:=Tryz.sizeOf282
 v146:=Tryz.zeroValue282
 t148:=Tryz.underlying284
 a148:=Tryz.isAgg284
 z148:=Tryz.sizeOf284
 v148:=Tryz.zeroValue284
 t164:=Tryz.underlying383
 a164:=Tryz.isAgg383
 z164:=Tryz.sizeOf383
 v164:=Tryz.zeroValue383}
def Tryz.Gx:Go.Shelf.Ren:=⟨fun|169=>275|n=>n,fun|70=>341|9=>9|0=>0|72=>343|37=>256|127=>367|3=>3|5=>5|n=>n,fun|n=>n⟩
theorem Tryz.zn6:Go.Proofs.Lays.n169 Tryz.prog Tryz.Gx:={
 mixed:=by kernel_rfl
 f169:=Tryz.func275.trans cgS
 t0:=Tryz.underlying0
 a0:=Tryz.isAgg0
 z0:=Tryz.sizeOf0
 v0:=Tryz.zeroValue0
 t3:=Tryz.underlying3
 a3:=Tryz.isAgg3
 z3:=Tryz.sizeOf3
 v3:=Tryz.zeroValue3
 t9:=Tryz.underlying9
 a9:=Tryz.isAgg9
 z9:=Tryz.sizeOf9
 v9:=Tryz.zeroValue9
 t37:=Tryz.underlying256
 a37:=Tryz.isAgg256
 z37:=Tryz.sizeOf256
 v37:=Tryz.zeroValue256
 t70:=Tryz.underlying341
 a70:=Tryz.isAgg341
 z70:=Tryz.sizeOf341
 v70:=Tryz.zeroValue341
 t72:=Tryz.underlying343
 a72:=Tryz.isAgg343
 z72:=Tryz.sizeOf343
 v72:=Tryz.zeroValue343
 t127:=Tryz.underlying367
 a127:=Tryz.isAgg367
 z127:=Tryz.sizeOf367
 v127:=Tryz.zeroValue367}
def Tryz.rJ:Go.Shelf.Ren:=⟨fun|172=>192|244=>252|245=>253|247=>290|279=>291|280=>292|281=>293|282=>294|287=>311|316=>312|171=>64|205=>313|321=>327|322=>328|243=>88|246=>121|283=>184|284=>185|285=>186|286=>187|129=>167|317=>242|318=>243|319=>244|320=>245|337=>283|338=>284|n=>n,fun|9=>9|3=>3|75=>264|76=>265|4=>4|5=>5|167=>355|37=>256|0=>0|85=>356|2=>2|168=>358|53=>241|175=>376|46=>196|210=>379|127=>367|145=>392|143=>390|21=>21|171=>254|173=>257|212=>317|51=>239|20=>20|213=>318|232=>374|233=>375|80=>345|n=>n,fun|15=>6|16=>7|17=>3|18=>4|19=>5|n=>n⟩
theorem Tryz.laysAtoi:Go.Proofs.LaysC.n172 Tryz.prog Tryz.rJ:={
 mixed:=by kernel_rfl
 f129:=Tryz.func167.trans cgS
 f171:=Tryz.func64.trans cgS
 f172:=Tryz.func192.trans cgS
 f205:=Tryz.func313.trans cgS
 f243:=Tryz.func88.trans cgS
 f244:=Tryz.func252.trans cgS
 f245:=Tryz.func253.trans cgS
 f246:=Tryz.func121.trans cgS
 f247:=Tryz.func290.trans cgS
 f279:=Tryz.func291.trans cgS
 f280:=Tryz.func292.trans cgS
 f281:=Tryz.func293.trans cgS
 f282:=Tryz.func294.trans cgS
 f283:=Tryz.func184.trans cgS
 f284:=Tryz.func185.trans cgS
 f285:=Tryz.func186.trans cgS
 f286:=Tryz.func187.trans cgS
 f287:=Tryz.func311.trans cgS
 f316:=Tryz.func312.trans cgS
 f317:=Tryz.func242.trans cgS
 f318:=Tryz.func243.trans cgS
 f319:=Tryz.func244.trans cgS
 f320:=Tryz.func245.trans cgS
 f321:=Tryz.func327.trans cgS
 f322:=Tryz.func328.trans cgS
 f337:=Tryz.func283.trans cgS
 f338:=Tryz.func284.trans cgS
 t0:=Tryz.underlying0
 a0:=Tryz.isAgg0
 z0:=Tryz.sizeOf0
 v0:=Tryz.zeroValue0
 t2:=Tryz.underlying2
 a2:=Tryz.isAgg2
 z2:=Tryz.sizeOf2
 v2:=Tryz.zeroValue2
 t3:=Tryz.underlying3
 a3:=Tryz.isAgg3
 z3:=Tryz.sizeOf3
 v3:=Tryz.zeroValue3
 t4:=Tryz.underlying4
 a4:=Tryz.isAgg4
 z4:=Tryz.sizeOf4
 v4:=Tryz.zeroValue4
 t5:=Tryz.underlying5
 a5:=Tryz.isAgg5
 z5:=Tryz.sizeOf5
 v5:=Tryz.zeroValue5
 t9:=Tryz.underlying9
 a9:=Tryz.isAgg9
 z9:=Tryz.sizeOf9
 v9:=Tryz.zeroValue9
 t20:=Tryz.underlying20
 a20:=Tryz.isAgg20
 z20:=Tryz.sizeOf20
 v20:=Tryz.zeroValue20
 t21:=Tryz.underlying21
 a21:=Tryz.isAgg21
 z21:=Tryz.sizeOf21
 v21:=Tryz.zeroValue21
 t37:=Tryz.underlying256
 a37:=Tryz.isAgg256
 z37:=Tryz.sizeOf256
 v37:=Tryz.zeroValue256
 t46:=Tryz.underlying196
 a46:=Tryz.isAgg196
 z46:=Tryz.sizeOf196
 v46:=Tryz.zeroValue196
 t51:=Tryz.underlying239
 a51:=Tryz.isAgg239
 z51:=Tryz.sizeOf239
 v51:=Tryz.zeroValue239
 t53:=Tryz.underlying241
 a53:=Tryz.isAgg241
 z53:=Tryz.sizeOf241
 v53:=Tryz.zeroValue241
 t75:=Tryz.underlying264
 a75:=Tryz.isAgg264
 z75:=Tryz.sizeOf264
 v75:=Tryz.zeroValue264
 t76:=Tryz.underlying265
 a76:=Tryz.isAgg265
 z76:=Tryz.sizeOf265
 v76:=Tryz.zeroValue265
 t85:=Tryz.underlying356
 a85:=Tryz.isAgg356
 z85:=Tryz.sizeOf356
 v85:=Tryz.zeroValue356
 t127:=Tryz.underlying367
 a127:=Tryz.isAgg367
 z127:=Tryz.sizeOf367
 v127:=Tryz.zeroValue367
 t143:=Tryz.underlying390
 a143:=Tryz.isAgg390
 z143:=Tryz.sizeOf390
 v143:=Tryz.zeroValue390
 t145:=Tryz.underlying392
 a145:=Tryz.isAgg392
 z145:=Tryz.sizeOf392
 v145:=Tryz.zeroValue392
 t167:=Tryz.underlying355
 a167:=Tryz.isAgg355
 z167:=Tryz.sizeOf355
 v167:=Tryz.zeroValue355
 t168:=Tryz.underlying358
 a168:=Tryz.isAgg358
 z168:=Tryz.sizeOf358
 v168:=Tryz.zeroValue358
 t171:=Tryz.underlying254
 a171:=Tryz.isAgg254
 z171:=Tryz.sizeOf254
 v171:=Tryz.zeroValue254
 t173:=Tryz.underlying257
 a173:=Tryz.isAgg257
 z173:=Tryz.sizeOf257
 v173:=Tryz.zeroValue257
 t175:=Tryz.underlying376
 a175:=Tryz.isAgg376
 z175:=Tryz.sizeOf376
 v175:=Tryz.zeroValue376
 t210:=Tryz.underlying379
 a210:=Tryz.isAgg379
 z210:=Tryz.sizeOf379
 v210:=Tryz.zeroValue379
 t212:=Tryz.underlying317
 a212:=Tryz.isAgg317
 z212:=Tryz.sizeOf317
 v212:=Tryz.zeroValue317
 t213:=Tryz.underlying318
 a213:=Tryz.isAgg318
 z213:=Tryz.sizeOf318
 t232:=Tryz.underlying374
 a232:=Tryz.isAgg374
 z232:=Tryz.sizeOf374
 v232:=Tryz.zeroValue374
 t233:=Tryz.underlying375
 a233:=Tryz.isAgg375
 z233:=Tryz.sizeOf375
 v233:=Tryz.zeroValue375
 g15:=by kernel_rfl
 g16:=by kernel_rfl
 g17:=by kernel_rfl
 g18:=by kernel_rfl
 g19:=by kernel_rfl
 t80:=Tryz.underlying345
 a80:=Tryz.isAgg345
 z80:=Tryz.sizeOf345
 v80:=Tryz.zeroValue345
 i0:=by kernel_rfl
 i2:=by kernel_rfl
 i3:=by kernel_rfl
 i4:=by kernel_rfl
 i5:=by kernel_rfl
 i9:=by kernel_rfl
 i20:=by kernel_rfl
 i21:=by kernel_rfl
 i37:=by kernel_rfl
 i46:=by kernel_rfl
 i51:=by kernel_rfl
 i53:=by kernel_rfl
 i75:=by kernel_rfl
 i76:=by kernel_rfl
 i80:=by kernel_rfl
 i85:=by kernel_rfl
 i127:=by kernel_rfl
 i143:=by kernel_rfl
 i145:=by kernel_rfl
 i167:=by kernel_rfl
 i168:=by kernel_rfl
 i171:=by kernel_rfl
 i173:=by kernel_rfl
 i175:=by kernel_rfl
 i210:=by kernel_rfl
 i212:=by kernel_rfl
 i232:=by kernel_rfl
 i233:=by kernel_rfl
 m15:=by kernel_rfl
 m16:=by kernel_rfl
 m17:=by kernel_rfl
 m18:=by kernel_rfl
 m19:=by kernel_rfl
 c0:=by kernel_rfl
 c2:=by kernel_rfl
 c3:=by kernel_rfl
 c4:=by kernel_rfl
 c5:=by kernel_rfl
 c9:=by kernel_rfl
 c20:=by kernel_rfl
 c21:=by kernel_rfl
 c37:=by kernel_rfl
 c46:=by kernel_rfl
 c51:=by kernel_rfl
 c53:=by kernel_rfl
 c75:=by kernel_rfl
 c76:=by kernel_rfl
 c80:=by kernel_rfl
 c85:=by kernel_rfl
 c127:=by kernel_rfl
 c143:=by kernel_rfl
 c145:=by kernel_rfl
 c167:=by kernel_rfl
 c168:=by kernel_rfl
 c171:=by kernel_rfl
 c173:=by kernel_rfl
 c175:=by kernel_rfl
 c210:=by kernel_rfl
 c212:=by kernel_rfl
 c213:=by kernel_rfl
 c232:=by kernel_rfl
 c233:=by kernel_rfl}
def Tryz.Gw:Go.Shelf.Ren:=⟨fun|168=>274|240=>302|242=>303|276=>317|278=>318|n=>n,fun|70=>341|21=>21|3=>3|75=>264|0=>0|72=>343|37=>256|4=>4|164=>383|51=>239|5=>5|46=>196|80=>345|9=>9|n=>n,fun|n=>n⟩
theorem Tryz.wE:Go.Proofs.Lays.n168 Tryz.prog Tryz.Gw:={
 mixed:=by kernel_rfl
 f168:=Tryz.func274.trans cgS
 f240:=Tryz.func302.trans cgS
 f242:=Tryz.func303.trans cgS
 f276:=Tryz.func317.trans cgS
 f278:=Tryz.func318.trans cgS
 t0:=Tryz.underlying0
 a0:=Tryz.isAgg0
 z0:=Tryz.sizeOf0
 v0:=Tryz.zeroValue0
 t3:=Tryz.underlying3
 a3:=Tryz.isAgg3
 z3:=Tryz.sizeOf3
 v3:=Tryz.zeroValue3
 t4:=Tryz.underlying4
 a4:=Tryz.isAgg4
 z4:=Tryz.sizeOf4
 v4:=Tryz.zeroValue4
 t5:=Tryz.underlying5
 a5:=Tryz.isAgg5
 z5:=Tryz.sizeOf5
 v5:=Tryz.zeroValue5
 t9:=Tryz.underlying9
 a9:=Tryz.isAgg9
 z9:=Tryz.sizeOf9
 v9:=Tryz.zeroValue9
 t20:=Tryz.underlying20
 a20:=Tryz.isAgg20
 z20:=Tryz.sizeOf20
 v20:=Tryz.zeroValue20
 t21:=Tryz.underlying21
 a21:=Tryz.isAgg21
 z21:=Tryz.sizeOf21
 v21:=Tryz.zeroValue21
 t37:=Tryz.underlying256
 a37:=Tryz.isAgg256
 z37:=Tryz.sizeOf256
 v37:=Tryz.zeroValue256
 t46:=Tryz.underlying196
 a46:=Tryz.isAgg196
 z46:=Tryz.sizeOf196
 v46:=Tryz.zeroValue196
 t51:=Tryz.underlying239
 a51:=Tryz.isAgg239
 z51:=Tryz.sizeOf239
 v51:=Tryz.zeroValue239
 t70:=Tryz.underlying341
 a70:=Tryz.isAgg341
 z70:=Tryz.sizeOf341
 v70:=Tryz.zeroValue341
 t72:=Tryz.underlying343
 a72:=Tryz.isAgg343
 z72:=Tryz.sizeOf343
 v72:=Tryz.zeroValue343
 t75:=Tryz.underlying264
 a75:=Tryz.isAgg264
 z75:=Tryz.sizeOf264
 v75:=Tryz.zeroValue264
 t164:=Tryz.underlying383
 a164:=Tryz.isAgg383
 z164:=Tryz.sizeOf383
 v164:=Tryz.zeroValue383}
def Tryz.Pn:Go.Shelf.Ren:=⟨fun|219=>289|217=>309|225=>288|224=>287|267=>310|266=>325|314=>326|n=>n,fun|9=>9|3=>3|4=>4|5=>5|46=>196|146=>282|51=>239|n=>n,fun|1=>0|n=>n⟩
theorem Tryz.ziT:Go.Proofs.Lays.n219 Tryz.prog Tryz.Pn:={
 mixed:=by kernel_rfl
 f217:=Tryz.func309.trans cgS
 f219:=Tryz.func289.trans cgS
 f224:=Tryz.func287.trans cgS
 f225:=Tryz.func288.trans cgS
 f266:=Tryz.func325.trans cgS
 f267:=Tryz.func310.trans cgS
 f314:=Tryz.func326.trans cgS
 t3:=Tryz.underlying3
 a3:=Tryz.isAgg3
 z3:=Tryz.sizeOf3
 v3:=Tryz.zeroValue3
 t4:=Tryz.underlying4
 a4:=Tryz.isAgg4
 z4:=Tryz.sizeOf4
 v4:=Tryz.zeroValue4
 t5:=Tryz.underlying5
 a5:=Tryz.isAgg5
 z5:=Tryz.sizeOf5
 v5:=Tryz.zeroValue5
 t9:=Tryz.underlying9
 a9:=Tryz.isAgg9
 z9:=Tryz.sizeOf9
 v9:=Tryz.zeroValue9
 t46:=Tryz.underlying196
 a46:=Tryz.isAgg196
 z46:=Tryz.sizeOf196
 v46:=Tryz.zeroValue196
 t51:=Tryz.underlying239
 a51:=Tryz.isAgg239
 z51:=Tryz.sizeOf239
 v51:=Tryz.zeroValue239
 t146:=Tryz.underlying282
 a146:=Tryz.isAgg282
 z146:=Tryz.sizeOf282
 v146:=Tryz.zeroValue282
 g1:=by kernel_rfl}
def Tryz.CU:Go.Shelf.Ren:=⟨fun|153=>189|152=>246|226=>247|227=>248|228=>249|137=>285|119=>286|224=>287|225=>288|217=>309|266=>325|n=>n,fun|9=>9|3=>3|4=>4|5=>5|21=>21|117=>322|116=>321|0=>0|46=>196|124=>354|n=>n,fun|n=>n⟩
theorem Tryz.Po:Go.Proofs.Lays.n153 Tryz.prog Tryz.CU:={
 mixed:=by kernel_rfl
 f119:=Tryz.func286.trans cgS
 f137:=Tryz.func285.trans cgS
 f152:=Tryz.func246.trans cgS
 f153:=Tryz.func189.trans cgS
 f217:=Tryz.func309.trans cgS
 f224:=Tryz.func287.trans cgS
 f225:=Tryz.func288.trans cgS
 f226:=Tryz.func247.trans cgS
 f227:=Tryz.func248.trans cgS
 f228:=Tryz.func249.trans cgS
 f266:=Tryz.func325.trans cgS
 t0:=Tryz.underlying0
 a0:=Tryz.isAgg0
 z0:=Tryz.sizeOf0
 v0:=Tryz.zeroValue0
 t3:=Tryz.underlying3
 a3:=Tryz.isAgg3
 z3:=Tryz.sizeOf3
 v3:=Tryz.zeroValue3
 t4:=Tryz.underlying4
 a4:=Tryz.isAgg4
 z4:=Tryz.sizeOf4
 v4:=Tryz.zeroValue4
 t5:=Tryz.underlying5
 a5:=Tryz.isAgg5
 z5:=Tryz.sizeOf5
 v5:=Tryz.zeroValue5
 t9:=Tryz.underlying9
 a9:=Tryz.isAgg9
 z9:=Tryz.sizeOf9
 v9:=Tryz.zeroValue9
 t21:=Tryz.underlying21
 a21:=Tryz.isAgg21
 z21:=Tryz.sizeOf21
 v21:=Tryz.zeroValue21
 t46:=Tryz.underlying196
 a46:=Tryz.isAgg196
 z46:=Tryz.sizeOf196
 v46:=Tryz.zeroValue196
 t116:=Tryz.underlying321
 a116:=Tryz.isAgg321
 z116:=Tryz.sizeOf321
 t117:=Tryz.underlying322
 a117:=Tryz.isAgg322
 z117:=Tryz.sizeOf322
 v117:=Tryz.zeroValue322
 t124:=Tryz.underlying354
 a124:=Tryz.isAgg354
 z124:=Tryz.sizeOf354
 v124:=Tryz.zeroValue354}
end
section
open Go.Shelf Go.RowKit Go.Sort Go.Lib
variable {P:Program} {ρ:Ren}
def NV (g:Nat)(w:World):Prop:=∀i,i<20->w.cell? ⟨g,i,none⟩=some (.int .u64 ((10^i:Nat):Int))
theorem NV.alloc {g:Nat}{w:World}(h:NV g w)(o:Obj):NV g (w.alloc o):=fun i a=>by
 have:=h i a;have f:g≠w.heap.size:=fun e=>by simp_all[World.cell?]
 unfold World.cell? at this ⊢;unfold World.alloc<;>simp_all[Array.getElem?_push]
set_option maxHeartbeats 2000000 in
set_option maxRecDepth 100000 in
theorem zgV.internal_strconv_numDigits (L:LaysM.n284 P ρ)(u:Nat)(h1:1<=u)(h2:u<18446744073709551616)(w:World)
  (htab:NV (ρ.g 17) w):
  Calls P (ρ.f 284) #[.int .u64 u] w fun e w'=>e=.returned (.int .i64 (Lib.nDigits u))/\w'=w:=by
 have mixed:=L.mixed;have t53:=L.t53;have a53:=L.a53;have z53:=L.z53;have v53:=L.v53;have t3:=L.t3;have a3:=L.a3;have z3:=L.z3;have v3:=L.v3;have t212:=L.t212;have a212:=L.a212;have z212:=L.z212;have v212:=L.v212;have t0:=L.t0;have a0:=L.a0;have z0:=L.z0;have v0:=L.v0;have t4:=L.t4;have a4:=L.a4;have z4:=L.z4;have v4:=L.v4;have e129:∀args w,(callFunc (ρ.f 129) args).run P w=.ok (.enter (ρ.f 129) args) w:=enters_of L.f129 (by kernel_rfl) rfl;have e317:∀args w,(callFunc (ρ.f 317) args).run P w=.ok (.enter (ρ.f 317) args) w:=enters_of L.f317 (by kernel_rfl) rfl;have e318:∀args w,(callFunc (ρ.f 318) args).run P w=.ok (.enter (ρ.f 318) args) w:=enters_of L.f318 (by kernel_rfl) rfl;obtain ⟨hnd,h19⟩:=Lib.numDigits_eq u h1 h2;have hL:=Lib.bitLen_le u 64 (Nat.le_refl _) h2;have hcell:w.cell? ⟨(ρ.g 17),Lib.l10 (Lib.bitLen u),none⟩=some (.int .u64 ((10^Lib.l10 (Lib.bitLen u):Nat):Int)):=by exact htab _ (by omega)
 have hto:((u:Int)).toNat=u:=by omega
 generalize hq:Lib.l10 (Lib.bitLen u)=q at hnd h19 hcell;generalize hT:10^q=T at hnd hcell;have h20:q<20:=by omega
 have Hnd:=Lib.hid hnd;clear hnd htab
 go_enter L.f284,Body.n284_ntmps ρ
 go_wp2_with (first
  |(go_at_fn (ρ.f 129);refine (Any.bits_Len64 {L with} _ _ (by omega) (by omega)).mono ?_;rintro e w' ⟨rfl,rfl⟩)
  |(go_at_fn (ρ.f 317);refine (Any.internal_strconv_log10Pow2 {L with} _ (by grind) _).mono ?_;rintro e w' ⟨rfl,rfl⟩)
  |(go_at_fn (ρ.f 318);refine (Any.internal_strconv_bool2_int {L with} _ _).mono ?_;rintro e w' ⟨rfl,rfl⟩))
 all_goals go_ret
 all_goals (
  refine ⟨?_,rfl⟩;have hnd:=Hnd.out
  congr 2
  split at hnd<;>simp_all<;>omega)
set_option maxHeartbeats 6400000 in
set_option maxRecDepth 100000 in
theorem zgV.internal_strconv_FormatInt_10 (L:LaysM.n246 P ρ)(n:Int)(h0:-9223372036854775808<=n)(h1:n<=9223372036854775807)(w:World)
  (htab:NV (ρ.g 17) w):
  Calls P (ρ.f 246) #[.int .i64 n,.int .i64 10] w fun e w'=>e=.returned (.string ⟨(Lib.itoa n).toArray⟩)/\∃k os,w'=grow (w.drewN k) os:=by
 have mixed:=L.mixed;have t2:=L.t2;have a2:=L.a2;have z2:=L.z2;have v2:=L.v2;have t3:=L.t3;have a3:=L.a3;have z3:=L.z3;have v3:=L.v3;have t9:=L.t9;have a9:=L.a9;have z9:=L.z9;have v9:=L.v9;have t4:=L.t4;have a4:=L.a4;have z4:=L.z4;have v4:=L.v4;have t171:=L.t171;have a171:=L.a171;have z171:=L.z171;have v171:=L.v171;have t0:=L.t0;have a0:=L.a0;have z0:=L.z0;have v0:=L.v0;have t53:=L.t53;have a53:=L.a53;have z53:=L.z53;have v53:=L.v53;have t37:=L.t37;have a37:=L.a37;have z37:=L.z37;have v37:=L.v37;have t5:=L.t5;have a5:=L.a5;have z5:=L.z5;have v5:=L.v5;have t173:=L.t173;have a173:=L.a173;have z173:=L.z173;have v173:=L.v173;have e283:∀args w,(callFunc (ρ.f 283) args).run P w=.ok (.enter (ρ.f 283) args) w:=enters_of L.f283 (by kernel_rfl) rfl;have e284:∀args w,(callFunc (ρ.f 284) args).run P w=.ok (.enter (ρ.f 284) args) w:=enters_of L.f284 (by kernel_rfl) rfl;have e285:∀args w,(callFunc (ρ.f 285) args).run P w=.ok (.enter (ρ.f 285) args) w:=enters_of L.f285 (by kernel_rfl) rfl;by_cases hs:0<=n/\n<100
 ·
  obtain ⟨i,rfl⟩:∃i:Nat,n=i:=⟨n.toNat,by omega⟩;have hi:i<100:=by omega
  go_enter L.f246,Body.n246_ntmps ρ
  go_wp2_with (go_at_fn (ρ.f 283);refine (Any.internal_strconv_small {L with} i hi _).mono ?_;rintro e w' ⟨rfl,rfl⟩)
  go_ret
  refine ⟨?_,0,#[],by simp [World.drewN_zero]⟩;rw [Lib.itoa_nonneg];rfl
 by_cases hneg:n<0
 ·obtain ⟨u,rfl⟩:∃u:Nat,n=-(u:Int):=⟨n.natAbs,by omega⟩;have hu1:1<=u:=by omega
  have hu64:u<18446744073709551616:=by omega
  have hnd20:Lib.nDigits u<=20:=by have:=Lib.numDigits_eq u hu1 hu64;split at this<;>omega
  have hwr:IntKind.u64.wrap (-IntKind.u64.wrap (-(u:Int)))=(u:Int):=by rw [IntKind.wrap_u64,IntKind.wrap_u64];omega
  have hb3:Lib.nDigits u<=23:=by omega
  have hal:P.arrayLen (ρ.t 171)=24:=by simp [Program.arrayLen,L.t171]
  have hsl1:∀W,(Instr.sliceAt (ρ.t 171) (.pointer (some ⟨w.heap.size,0,none⟩)) (some (.int .i64 1)) (some (.int .i64 (1+(Lib.nDigits u:Int)))) none).run P W=.ok (.slice (some ⟨w.heap.size,1,none⟩) (Lib.nDigits u) 23) W:=fun W=>by
   rw [run_sliceAt_array_lh W (ρ.t 171) ⟨w.heap.size,0,none⟩ (by grind[Program.elem]) .i64 .i64 1 (1+(Lib.nDigits u:Int)) (by omega) (by omega) (by grind)]
   go_simp
   omega
  have hH0:=Lib.holds_zero w (ρ.t 171) (Lib.nDigits u) (by omega);have hfmt:=Any.internal_strconv_formatBase10 {L with} w.heap.size 1 23 u (Array.replicate (Lib.nDigits u) 0) (w.alloc (.cells Lib.zeros24 (ρ.t 171))) hH0 (by grind[Lib.lt_pow_nDigits]) hu64 (by grind);rw [Array.size_replicate] at hfmt;have HH0:=Lib.hid hH0;clear hH0 hal
  go_enter L.f246,Body.n246_ntmps ρ
  go_wp2_with (first
   |(go_at_fn (ρ.f 284);refine (zgV.internal_strconv_numDigits {L with} u hu1 hu64 _ (htab.alloc _)).mono ?_;rintro e w' ⟨rfl,rfl⟩))
  go_at_fn (ρ.f 285)
  refine hfmt.mono ?_
  rintro e w' ⟨rfl,k,v',dk,rfl,hF⟩
  have hc0:((putRow (fun (b:UInt8)=>Value.int .u8 (b.toNat:Int)) (w.alloc (.cells Lib.zeros24 (ρ.t 171))) w.heap.size 1 dk).drewN k).cell? ⟨w.heap.size,0,none⟩=some (.int .u8 0):=by rw [World.cell?_drewN,cell?_putRow_other _ _ _ _ _ _ (Or.inr (Or.inl (Nat.zero_lt_one))),World.cell?_alloc_new];exact Lib.zeros24_at 0 (by omega)
  have hf0:((putRow (fun (b:UInt8)=>Value.int .u8 (b.toNat:Int)) (w.alloc (.cells Lib.zeros24 (ρ.t 171))) w.heap.size 1 dk).drewN k).frozen? ⟨w.heap.size,0,none⟩=false:=by rw [World.frozen?_drewN,frozen?_putRow];exact World.frozen?_alloc_new _ _ _ _
  have hal:P.arrayLen (ρ.t 171)=24:=by simp [Program.arrayLen,L.t171]
  have hsl2:∀W,(Instr.sliceAt (ρ.t 171) (.pointer (some ⟨w.heap.size,0,none⟩)) none (some (.int .i64 (1+(Lib.nDigits u:Int)))) none).run P W=.ok (.slice (some ⟨w.heap.size,0,none⟩) (1+Lib.nDigits u) 24) W:=fun W=>by
   rw [run_sliceAt_array_h W (ρ.t 171) ⟨w.heap.size,0,none⟩ (by simp_all[Program.elem]) .i64 (1+(Lib.nDigits u:Int)) (by omega) (by omega)]
   go_simp
   omega
  clear hal;have hcv:(convert (ρ.t 37) (ρ.t 9) (.slice (some ⟨w.heap.size,0,none⟩) (1+Lib.nDigits u) 24)).run P (((putRow (fun (b:UInt8)=>Value.int .u8 (b.toNat:Int)) (w.alloc (.cells Lib.zeros24 (ρ.t 171))) w.heap.size 1 dk).drewN k).setCell ⟨w.heap.size,0,none⟩ (.int .u8 45))=.ok (.string ⟨(45::Lib.decDigits u).toArray⟩) (((putRow (fun (b:UInt8)=>Value.int .u8 (b.toNat:Int)) (w.alloc (.cells Lib.zeros24 (ρ.t 171))) w.heap.size 1 dk).drewN k).setCell ⟨w.heap.size,0,none⟩ (.int .u8 45)):=by
   have h:=run_convert_bytes_back (P:=P) (((putRow (fun (b:UInt8)=>Value.int .u8 (b.toNat:Int)) (w.alloc (.cells Lib.zeros24 (ρ.t 171))) w.heap.size 1 dk).drewN k).setCell ⟨w.heap.size,0,none⟩ (.int .u8 45)) (ρ.t 37) (ρ.t 9) (ρ.t 5) ⟨w.heap.size,0,none⟩ 24 (45::Lib.decDigits u) L.t37 L.t5 L.t9 (fun j hj=>by
    rw [Lib.add_plain];cases j with
    |zero=>simp_all[World.cell?_setCell_same]
    |succ i=>
     have hi:i<(Lib.decDigits u).length:=by simpa using hj
     rw [World.cell?_setCell_other _ _ _ _ (by simp),List.getElem_cons_succ,Lib.row_is_numeral hF i hi,World.cell?_drewN,show 0+(i+1)=1+i by omega];exact cell?_putRow (fun (b:UInt8)=>Value.int .u8 (b.toNat:Int)) _ w.heap.size 1 _ dk HH0.out (by rw [hF.size,Array.size_replicate]) i (by rw [hF.size]<;>simp_all[Lib.decDigits_length]))
   rw [List.length_cons,Lib.decDigits_length,Nat.add_comm] at h;exact h
  go_wp2
  go_ret
  obtain ⟨os,eo⟩:=Lib.fin_neg w (.cells Lib.zeros24 (ρ.t 171)) dk k (.int .u8 45);refine ⟨?_,k,os,eo⟩;rw [Lib.itoa_neg u hu1];rfl
 obtain ⟨u,rfl⟩:∃u:Nat,n=u:=⟨n.toNat,by omega⟩;have hu1:1<=u:=by omega
 have hu64:u<18446744073709551616:=by omega
 have hnd20:Lib.nDigits u<=20:=by have:=Lib.numDigits_eq u hu1 hu64;split at this<;>omega
 have hb3:Lib.nDigits u<=23:=by omega
 have hal:P.arrayLen (ρ.t 171)=24:=by simp [Program.arrayLen,L.t171]
 have hsl1:∀W,(Instr.sliceAt (ρ.t 171) (.pointer (some ⟨w.heap.size,0,none⟩)) (some (.int .i64 1)) (some (.int .i64 (1+(Lib.nDigits u:Int)))) none).run P W=.ok (.slice (some ⟨w.heap.size,1,none⟩) (Lib.nDigits u) 23) W:=fun W=>by
  rw [run_sliceAt_array_lh W (ρ.t 171) ⟨w.heap.size,0,none⟩ (by grind[Program.elem]) .i64 .i64 1 (1+(Lib.nDigits u:Int)) (by omega) (by omega) (by grind)]
  go_simp
  omega
 have hH0:=Lib.holds_zero w (ρ.t 171) (Lib.nDigits u) (by omega);have hfmt:=Any.internal_strconv_formatBase10 {L with} w.heap.size 1 23 u (Array.replicate (Lib.nDigits u) 0) (w.alloc (.cells Lib.zeros24 (ρ.t 171))) hH0 (by grind[Lib.lt_pow_nDigits]) hu64 (by grind);rw [Array.size_replicate] at hfmt;have HH0:=Lib.hid hH0;clear hH0 hal
 go_enter L.f246,Body.n246_ntmps ρ
 go_wp2_with (first
  |(go_at_fn (ρ.f 284);refine (zgV.internal_strconv_numDigits {L with} u hu1 hu64 _ (htab.alloc _)).mono ?_;rintro e w' ⟨rfl,rfl⟩))
 go_at_fn (ρ.f 285)
 refine hfmt.mono ?_
 rintro e w' ⟨rfl,k,v',dk,rfl,hF⟩
 have hcv:(convert (ρ.t 37) (ρ.t 9) (.slice (some ⟨w.heap.size,1,none⟩) (Lib.nDigits u) 23)).run P ((putRow (fun (b:UInt8)=>Value.int .u8 (b.toNat:Int)) (w.alloc (.cells Lib.zeros24 (ρ.t 171))) w.heap.size 1 dk).drewN k)=.ok (.string ⟨(Lib.decDigits u).toArray⟩) ((putRow (fun (b:UInt8)=>Value.int .u8 (b.toNat:Int)) (w.alloc (.cells Lib.zeros24 (ρ.t 171))) w.heap.size 1 dk).drewN k):=by have h:=run_convert_bytes_back (P:=P) ((putRow (fun (b:UInt8)=>Value.int .u8 (b.toNat:Int)) (w.alloc (.cells Lib.zeros24 (ρ.t 171))) w.heap.size 1 dk).drewN k) (ρ.t 37) (ρ.t 9) (ρ.t 5) ⟨w.heap.size,1,none⟩ 23 (Lib.decDigits u) L.t37 L.t5 L.t9 (fun j hj=>by rw [Lib.row_is_numeral hF j hj,Lib.add_plain,World.cell?_drewN];exact cell?_putRow (fun (b:UInt8)=>Value.int .u8 (b.toNat:Int)) _ w.heap.size 1 _ dk HH0.out (by rw [hF.size,Array.size_replicate]) j (by rw [hF.size]<;>simp_all[Lib.decDigits_length]));rw [Lib.decDigits_length] at h;exact h
 go_wp2
 go_ret
 obtain ⟨os,eo⟩:=Lib.fin_pos w (.cells Lib.zeros24 (ρ.t 171)) dk k;refine ⟨?_,k,os,eo⟩;rw [Lib.itoa_nonneg];rfl
set_option maxRecDepth 100000 in
theorem zgV.internal_strconv_Itoa (L:LaysM.n243 P ρ)(n:Int)(h0:-9223372036854775808<=n)(h1:n<=9223372036854775807)(w:World)
  (htab:NV (ρ.g 17) w):
  Calls P (ρ.f 243) #[.int .i64 n] w fun e w'=>e=.returned (.string ⟨(Lib.itoa n).toArray⟩)/\∃k os,w'=grow (w.drewN k) os:=by
 have mixed:=L.mixed;have t3:=L.t3;have a3:=L.a3;have z3:=L.z3;have v3:=L.v3;have t9:=L.t9;have a9:=L.a9;have z9:=L.z9;have v9:=L.v9;have t2:=L.t2;have a2:=L.a2;have z2:=L.z2;have v2:=L.v2;have e246:∀args w,(callFunc (ρ.f 246) args).run P w=.ok (.enter (ρ.f 246) args) w:=enters_of L.f246 (by kernel_rfl) rfl
 go_enter L.f243,Body.n243_ntmps ρ
 go_wp2_with (go_at_fn (ρ.f 246);refine (zgV.internal_strconv_FormatInt_10 {L with} n h0 h1 _ htab).mono ?_;rintro e w' ⟨rfl,k,os,rfl⟩)
 go_ret
 exact ⟨rfl,k,os,rfl⟩
set_option maxRecDepth 100000 in
theorem zgV.strconv_Itoa (L:LaysM.n171 P ρ)(n:Int)(h0:-9223372036854775808<=n)(h1:n<=9223372036854775807)(w:World)
  (htab:NV (ρ.g 17) w):
  Calls P (ρ.f 171) #[.int .i64 n] w fun e w'=>e=.returned (.string ⟨(Lib.itoa n).toArray⟩)/\∃k os,w'=grow (w.drewN k) os:=by
 have mixed:=L.mixed;have t3:=L.t3;have a3:=L.a3;have z3:=L.z3;have v3:=L.v3;have t9:=L.t9;have a9:=L.a9;have z9:=L.z9;have v9:=L.v9;have e243:∀args w,(callFunc (ρ.f 243) args).run P w=.ok (.enter (ρ.f 243) args) w:=enters_of L.f243 (by kernel_rfl) rfl
 go_enter L.f171,Body.n171_ntmps ρ
 go_wp2_with (go_at_fn (ρ.f 243);refine (zgV.internal_strconv_Itoa {L with} n h0 h1 _ htab).mono ?_;rintro e w' ⟨rfl,k,os,rfl⟩)
 go_ret
 exact ⟨rfl,k,os,rfl⟩
end
end Go.Proofs
