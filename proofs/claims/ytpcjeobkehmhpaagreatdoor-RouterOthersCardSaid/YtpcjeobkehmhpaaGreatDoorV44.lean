/-.-/
import Derived.Test.YtpcjeobkehmhpaaGreatDoorV15
import Derived.Test.YtpcjeobkehmhpaaGreatDoorV17
import Derived.Test.YtpcjeobkehmhpaaGreatDoorV28
import Derived.Test.YtpcjeobkehmhpaaGreatDoorV42
import Derived.Test.YtpcjeobkehmhpaaGreatDoorV43
set_option linter.all false
namespace Go.Proofs.YtpcjeobkehmhpaaGreatDoor
open Go.Em
set_option maxRecDepth 100000
variable {bs:List Val}
theorem GN (nd nd':Nod)(hn:∀N,220<=N->Gam.aC (ah tab ext N) 14 [.agg nd.cells]=some (.agg nd'.cells))(s:Stt)(i:Inp)(k:Int)(N:Nat)(hN:230<=N):
  Gam.aC (ah tab ext N) 7 [.agg nd.cells,.agg s.cells,.agg i.cells,num k]=some (.tup [.agg ({nd' with kind:=k}:Nod).cells,.agg (shortS s).cells,.agg (bJ i).cells]):=by
 obtain ⟨M,rfl⟩:=pR_ N;have h1:=hn M (by omega);have V:=Ou s M (by omega);have m:=YB i M (by omega);generalize shortS s=Z at V ⊢;generalize bJ i=i' at m ⊢;obtain ⟨kd,tm,⟨se,sp⟩,⟨⟨e,p⟩,ms,o,⟨a1,a2,a3,a4,a5,a6⟩⟩,x,b1,b2,⟨c1,c2,c3,c4,c5,c6⟩⟩:=i;obtain ⟨a,l,⟨h,j⟩,⟨⟨y,Y⟩,f,W,⟨L,O,P,Q,S,U⟩⟩,x',q,u,⟨A,B,E,F,H,J⟩⟩:=i';generalize n:Inp.cells _=ci' at m ⊢;subst n;exact puA [(12,.p (.agg nd'.cells)),(14,.p (.agg Z.cells)),(16,.p (.agg (Inp.mk a l ⟨h,j⟩ ⟨⟨y,Y⟩,f,W,⟨L,O,P,Q,S,U⟩⟩ x' q u ⟨A,B,E,F,H,J⟩).cells))] (pf3 h1 V m) (.tup [.agg ({nd' with kind:=k}:Nod).cells,.agg Z.cells,.agg (Inp.mk a l ⟨h,j⟩ ⟨⟨y,Y⟩,f,W,⟨L,O,P,Q,S,U⟩⟩ x' q u ⟨A,B,E,F,H,J⟩).cells])
def zgE (t:Bool)(f:Fte):List X:=[num f.st.e,.sl false 1 (aI f.st.p),num f.kind,aF f.node,.sl t 2 [],aF f.text]
def vV (t:Bool)(s:Stt)(m:Msg)(name r:qaY):List X:=[num s.n,num s.t,.sl false 10 (aW s.slots),.sl false 11 [],.sl false 11 [],.sl false 6 [zgE t (Fte.mk m.st 4 name [] r)],.sl false 10 [m.cells]]
theorem NS (a:qaY):(a.toList==a.toList)=true:=by grind
theorem zbe (m:Msg)(hm:m.ok)(t u:Bool)(name r:qaY)(N:Nat)(hN:190200<=N):Gam.aC (ah tab ext N) 61 [.agg (zgE t (Fte.mk m.st 4 name [] r)),.agg (zgE u (Fte.mk m.st 4 name [] r))]=some (aj true):=by
 obtain ⟨M,rfl⟩:∃M,N=M+101:=⟨N-101,by omega⟩;have a:=vH (M+100) m.st hm.st (by omega);have f:=NS name;have h:=NS r;have j:Gam.aC (ah tab ext (M+100)) 81 [.sl false 2 [],.sl false 2 [],.fn 59 []]=some (aj true):=by kernel_rfl
 obtain ⟨⟨e,p⟩,E,o,⟨l,n,q,y,A,B⟩⟩:=m;cases t<;>cases u<;>exact puA [(9,.p (aj true)),(22,.b true),(29,.b true),(36,.p (aj true))] (pf4 a f h j) (aj true)
theorem zdq (s:Stt)(hs:s.ok)(m:Msg)(hm:m.ok)(t u:Bool)(name r:qaY)(N:Nat)(hN:190400<=N):Gam.aC (ah tab ext N) 12 [.agg (vV t s m name r),.agg (vV u s m name r)]=some (aj true):=by
 obtain ⟨M,rfl⟩:∃M,N=M+101:=⟨N-101,by omega⟩;have A:=Iw (M+100) s hs (by omega);have B:Gam.aC (ah tab ext (M+100)) 31 [.sl false 6 [zgE t (Fte.mk m.st 4 name [] r)],.sl false 6 [zgE u (Fte.mk m.st 4 name [] r)]]=some (aj true):=by have h:=zbe m hm false false name r (M+99) (by omega);obtain ⟨⟨e,p⟩,F,o,⟨f,j,l,n,q,y⟩⟩:=m;exact puA [(25,.p (aj true))] (pf1 h) (aj true)
 have E:Gam.aC (ah tab ext (M+100)) 32 [.sl false 10 [m.cells],.sl false 10 [m.cells]]=some (aj true):=by have h:=Ai (M+99) m hm (by omega);obtain ⟨⟨e,p⟩,F,o,⟨f,j,l,n,q,y⟩⟩:=m;exact puA [(25,.p (aj true))] (pf1 h) (aj true)
 obtain ⟨a,b,H⟩:=s;exact puA [(10,.p (aj true)),(67,.p (aj true)),(74,.p (aj true))] (pf3 A B E) (aj true)
theorem vP (nd:Nod)(s:Stt)(hs:s.ok)(i:Inp)(hm:i.m.ok)(N:Nat)(hN:200700<=N):Gam.aC (ah tab ext N) 8 [.agg ({nd with kind:=14}:Nod).cells,.agg s.cells,.agg ({i with kind:=1}:Inp).cells]=some (.agg (vV false s i.m nd.name nd.text)):=by obtain ⟨M,rfl⟩:∃M,N=M+101:=⟨N-101,by omega⟩;have E:=bZ (M+100) s hs (by omega);have F:=iR (M+100) i.m hm (by omega);have H:=iD i.m hm nd.name nd.text (M+100) (by omega);obtain ⟨kd,tm,⟨se,sp⟩,⟨⟨e,p⟩,A,o,⟨h,j,l,q,u,y⟩⟩,x,J,L,⟨O,P,Q,S,U,V⟩⟩:=i;obtain ⟨name,Z,k2,k3,w,k5,k6,text,⟨a,b,c,d⟩,we,el,f,ty,Y,W,ru,ne⟩:=nd;obtain ⟨n,t,B⟩:=s;exact puA [(15,.p (.agg (Stt.mk n t B).cells)),(23,.p (.agg (Msg.mk ⟨e,p⟩ A o (.mk h j l q u y)).cells)),(56,.p (.agg (Fte.mk ⟨e,p⟩ 4 name [] text).cells))] (pf3 E F H) (.agg [num n,num t,.sl false 10 (aW B),.sl true 11 [],.sl true 11 [],.sl true 6 [(Fte.mk ⟨e,p⟩ 4 name [] text).cells],.sl true 10 [(Msg.mk ⟨e,p⟩ A o (.mk h j l q u y)).cells]])
theorem L9 (nd:Nod)(s:Stt)(i:Inp)(hm:i.m.ok)(N:Nat)(hN:200700<=N):Gam.aC (ah tab ext N) 13 [.agg ({nd with kind:=14}:Nod).cells,.agg s.cells,.agg ({i with kind:=1}:Inp).cells]=some (.agg (vV true s i.m nd.name nd.text)):=by obtain ⟨M,rfl⟩:∃M,N=M+101:=⟨N-101,by omega⟩;have l:=kW i.m.body hm.body (M+100) (by omega);generalize zU i.m.body=v at l;obtain ⟨J,L,O,P,Q,S⟩:=v;obtain ⟨kd,tm,⟨se,sp⟩,⟨⟨e,p⟩,F,o,⟨q,u,y,A,B,E⟩⟩,x,U,V,⟨W,Y,Z,c4,c5,c6⟩⟩:=i;obtain ⟨h,k1,k2,k3,w,k5,k6,j,⟨a,b,c,d⟩,we,el,f,ty,ex,ca,ru,ne⟩:=nd;obtain ⟨n,t,H⟩:=s;exact puA [(29,.p (.agg (Val.mk J L O P Q S).cells))] (pf1 l) (.agg [num n,num t,.sl false 10 (aW H),.sl false 11 [],.sl false 11 [],.sl false 6 [zgE true (Fte.mk ⟨e,p⟩ 4 h [] j)],.sl false 10 [(Msg.mk ⟨e,p⟩ F o (.mk q u y A B E)).cells]])
def ocC (n t:Int)(ss outs dN letters:qaX):List X:=[num n,num t,.sl false 10 ss,.sl false 11 outs,.sl false 11 [],.sl false 6 dN,.sl false 10 letters]
theorem IB (i:Inp):(bJ i).m=fE i.m:=rfl
open Go Go.Em Go.Ab
namespace Ct
def qw (nd:Nod)(j:Nat):List X:=nd.exprs.getD j (jw 0 0 ziA [] [])
where ziA:qaY:=⟨#[]⟩
theorem QC (nd:Nod)(hs:nd.small)(j:Nat):∃o i t vs es,qw nd j=jw o i t vs es/\sE 4 (jw o i t vs es):=by
 unfold qw;by_cases h:j<nd.exprs.length;·rw [qaA,qad h];have f:=hs.2.2.2.2.1 _ (qag h);obtain ⟨o,i,t,vs,es,e,a⟩:=f;exact ⟨o,i,t,vs,es,e,⟨o,i,t,vs,es,rfl,a⟩⟩
 rw [qaA,qaV (by omega)];exact ⟨0,0,⟨#[]⟩,[],[],rfl,⟨0,0,⟨#[]⟩,[],[],rfl,by decide,by decide,(fun v m=>by grind),by decide,(fun e l=>by grind)⟩⟩
def zl2 (nd:Nod)(v:Val)(f:Nat->Bool×Int)(B:Nat)(k:Nat):Prop:=∀j,j<k->(0<=(f j).2/\(f j).2<=100)/\∀N,B<=N->Gam.aC (ah tab ext N) 63 [.agg (qw nd j),.agg (zU v).cells]=some (.tup [aj (f j).1,num (f j).2])
theorem conds (nd:Nod)(hs:nd.small)(v:Val)(k:Nat):∃f B,zl2 nd (aV 4 v) f B k:=by obtain ⟨f,B,h⟩:=oK (List.range k) (R:=fun j (p:Bool×Int)=>0<=p.2/\p.2<=100) (Q:=fun j p N=>Gam.aC (ah tab ext N) 63 [.agg (qw nd j),.agg (zU (aV 4 v)).cells]=some (.tup [aj p.1,num p.2])) (fun j _=>by obtain ⟨o,i,t,A,q,e,n⟩:=QC nd hs j;obtain ⟨g,a,l,B,u⟩:=zbw (h:=4) (by decide) n v;exact ⟨(g,a),l,B,fun N y=>by grind⟩);exact ⟨f,B,fun j m=>h j (List.mem_range.2 m)⟩
theorem znq (nd:Nod)(hs:nd.small)(j:Nat)(m:Msg)(hm:m.body.ok)(g:Bool)(er:Int)(N:Nat)(hN:200500<=N)(uK:Gam.aC (ah tab ext N) 63 [.agg (qw nd j),.agg (zU m.body).cells]=some (.tup [aj g,num er])):
  Gam.aC (ah tab ext (N+1)) 73 [.agg nd.cells,nat j,.agg m.cells]=some (.tup [aj g,num er]):=by
 have h:=kW m.body hm N (by omega);generalize zU m.body=v at h uK;unfold qw at uK;by_cases H:j<nd.exprs.length
 ·obtain ⟨o,i,L,M,J,e,_⟩:=QC nd hs j;unfold qw at e;rw [e] at uK;have O:nd.exprs[(Int.ofNat j).toNat]?=some (jw o i L M J):=by show nd.exprs[j]?=_;rw [qaA,qad H] at e;rw [qad H];exact congrArg some e
  have l:=aK H;obtain ⟨⟨Z,p⟩,ms,og,⟨P,Q,S,U,V,W⟩⟩:=m;obtain ⟨u,y,A,B,E,F⟩:=v;obtain ⟨n,kd,k1,k2,k3,w,k5,q,⟨a,b,c,d⟩,we,el,f,ty,ex,Y,ru,ne⟩:=nd;cases g with
  |true=>exact puA [(13,.b true),(17,.e (jw o i L M J)),(22,.p (.agg (Val.mk u y A B E F).cells)),(23,.p (.tup [aj true,num er]))] (pf4 l O h uK) (.tup [aj true,num er])
  |false=>exact puA [(13,.b true),(17,.e (jw o i L M J)),(22,.p (.agg (Val.mk u y A B E F).cells)),(23,.p (.tup [aj false,num er]))] (pf4 l O h uK) (.tup [aj false,num er])
 rw [qaA,qaV (by omega)] at uK;have l:=aN H;have uK:Gam.aC (ah tab ext N) 63 [.agg (jw 0 0 ⟨#[]⟩ [] []),.agg v.cells]=some (.tup [aj g,num er]):=uK;obtain ⟨⟨Z,p⟩,ms,og,⟨P,Q,S,U,V,W⟩⟩:=m;obtain ⟨u,y,A,B,E,F⟩:=v;obtain ⟨n,kd,k1,k2,k3,w,k5,q,⟨a,b,c,d⟩,we,el,f,ty,ex,Y,ru,ne⟩:=nd;cases g with
 |true=>exact puA [(13,.b false),(22,.p (.agg (Val.mk u y A B E F).cells)),(23,.p (.tup [aj true,num er]))] (pf3 l h uK) (.tup [aj true,num er])
 |false=>exact puA [(13,.b false),(22,.p (.agg (Val.mk u y A B E F).cells)),(23,.p (.tup [aj false,num er]))] (pf3 l h uK) (.tup [aj false,num er])
theorem znU (nd:Nod)(hs:nd.small)(j:Nat)(v:Val)(g:Bool)(er:Int)(N:Nat)(uK:Gam.aC (ah tab ext N) 63 [.agg (qw nd j),.agg v.cells]=some (.tup [aj g,num er])):
  Gam.aC (ah tab ext (N+1)) 34 [.agg nd.cells,nat j,.agg v.cells]=some (.tup [aj g,num er]):=by
 unfold qw at uK;by_cases n:j<nd.exprs.length
 ·obtain ⟨o,i,u,y,q,e,_⟩:=QC nd hs j;unfold qw at e;rw [e] at uK;have A:nd.exprs[(Int.ofNat j).toNat]?=some (jw o i u y q):=by show nd.exprs[j]?=_;rw [qaA,qad n] at e;rw [qad n];exact congrArg some e
  have h:=aK n;obtain ⟨S,U,V,W,Y,Z⟩:=v;obtain ⟨l,M,F,H,J,w,L,m,⟨a,b,c,d⟩,we,el,f,Q,E,B,P,O⟩:=nd;cases g with
  |true=>exact puA [(13,.b true),(17,.e (jw o i u y q)),(21,.p (.tup [aj true,num er]))] (pf3 h A uK) (.tup [aj true,num er])
  |false=>exact puA [(13,.b true),(17,.e (jw o i u y q)),(21,.p (.tup [aj false,num er]))] (pf3 h A uK) (.tup [aj false,num er])
 rw [qaA,qaV (by omega)] at uK;have h:=aN n;have uK:Gam.aC (ah tab ext N) 63 [.agg (jw 0 0 ⟨#[]⟩ [] []),.agg v.cells]=some (.tup [aj g,num er]):=uK;obtain ⟨S,U,V,W,Y,Z⟩:=v;obtain ⟨l,M,F,H,J,w,L,m,⟨a,b,c,d⟩,we,el,f,Q,E,B,P,O⟩:=nd;cases g with
 |true=>exact puA [(13,.b false),(21,.p (.tup [aj true,num er]))] (pf2 h uK) (.tup [aj true,num er])
 |false=>exact puA [(13,.b false),(21,.p (.tup [aj false,num er]))] (pf2 h uK) (.tup [aj false,num er])
inductive Res where
 |rej (r:qaY)
 |pas (j:Nat)
def Res.cells (m:Msg):Res->List X
 |.rej r=>[.sl false 10 [],num 0,aj false,aF r]
 |.pas j=>[.sl false 10 [m.cells],nat j,aj false,bD]
theorem vU (N:Nat)(r:qaY):Gam.aC (ah tab ext (N+1)) 52 [aF r]=some (.agg [.sl false 10 [],num 0,aj false,aF r]):=by kernel_rfl
theorem BN (N:Nat)(m:Msg)(j:Nat):Gam.aC (ah tab ext (N+1)) 74 [.agg m.cells,nat j]=some (.agg [.sl false 10 [m.cells],nat j,aj false,bD]):=by obtain ⟨⟨u,p⟩,y,A,⟨a,f,h,l,n,q⟩⟩:=m;kernel_rfl
theorem AP (N:Nat)(nd:Nod)(m:Msg):Gam.aC (ah tab ext (N+2)) 20 [.agg nd.cells,.agg m.cells]=some (.agg [.sl false 10 [],num 0,aj false,aF ⟨#[117,110,114,111,117,116,97,98,108,101]⟩]):=by obtain ⟨⟨E,p⟩,P,S,⟨l,n,q,u,y,A⟩⟩:=m;obtain ⟨h,O,H,J,L,w,M,j,⟨a,b,c,d⟩,W,el,f,V,F,B,U,Q⟩:=nd;kernel_rfl
def wS (nd:Nod)(p:Bool×Int):Res:=if p.2 !=0 then .rej (jF p.2) else if p.1 then .pas 0 else .rej nd.text
theorem Dz (nd:Nod)(hs:nd.small)(m:Msg)(hm:m.body.ok)(p:Bool×Int)(hp:0<=p.2/\p.2<=100)(N:Nat)(hN:200500<=N)(uK:Gam.aC (ah tab ext N) 63 [.agg (qw nd 0),.agg (zU m.body).cells]=some (.tup [aj p.1,num p.2])):
  Gam.aC (ah tab ext (N+2)) 47 [.agg nd.cells,.agg m.cells]=some (.agg ((wS nd p).cells m)):=by
 obtain ⟨g,h⟩:=p;have l:=znq nd hs 0 m hm g h N hN uK;have q:=jE h hp (N+1) (by omega);have j:=vU N (jF h);have y:=vU N nd.text;have u:=BN N m 0;unfold wS;dsimp only;generalize jF h=r at q j ⊢;clear uK hm;obtain ⟨⟨L,Q⟩,M,P,⟨A,B,E,F,H,J⟩⟩:=m;obtain ⟨O,kd,V,W,Y,w,Z,text,⟨a,b,c,d⟩,we,el,f,ty,U,S,ru,ne⟩:=nd;cases n:(h !=0) with
 |true=>
  cases g with
  |true=>exact puA [(10,.p (.tup [aj true,num h])),(15,.b true),(17,.p (aF r)),(18,.p (.agg [.sl false 10 [],num 0,aj false,aF r]))] (pf4 l n q j) (.agg [.sl false 10 [],num 0,aj false,aF r])
  |false=>exact puA [(10,.p (.tup [aj false,num h])),(15,.b true),(17,.p (aF r)),(18,.p (.agg [.sl false 10 [],num 0,aj false,aF r]))] (pf4 l n q j) (.agg [.sl false 10 [],num 0,aj false,aF r])
 |false=>
  cases g with
  |true=>exact puA [(10,.p (.tup [aj true,num h])),(15,.b false),(22,.p (.agg [.sl false 10 [(Msg.mk ⟨L,Q⟩ M P (.mk A B E F H J)).cells],nat 0,aj false,bD]))] (pf3 l n u) (.agg [.sl false 10 [(Msg.mk ⟨L,Q⟩ M P (.mk A B E F H J)).cells],nat 0,aj false,bD])
  |false=>exact puA [(10,.p (.tup [aj false,num h])),(15,.b false),(25,.p (.agg [.sl false 10 [],num 0,aj false,aF text]))] (pf3 l n y) (.agg [.sl false 10 [],num 0,aj false,aF text])
def OV (s:Stt)(m:Msg)(j:Nat):List X:=[num s.n,num s.t,.sl false 10 (aW s.slots),.sl false 11 [nat j::m.cells],.sl false 11 [],.sl false 6 [],.sl false 10 []]
def Res.out (t:Bool)(s:Stt)(m:Msg)(name:qaY):Res->List X
 |.rej r=>vV t s m name r
 |.pas j=>OV s m j
theorem vS (nd:Nod)(kd:Int)(fn:FuncId)(hk:(kd=1/\fn=47)\/(kd=11/\fn=49))(s:Stt)(hs:s.ok)(i:Inp)(hm:i.m.ok)(q:Res)(N:Nat)(hN:200700<=N)(hr:Gam.aC (ah tab ext N) fn [.agg ({nd with kind:=kd}:Nod).cells,.agg i.m.cells]=some (.agg (q.cells i.m))):
  Gam.aC (ah tab ext (N+1)) 8 [.agg ({nd with kind:=kd}:Nod).cells,.agg s.cells,.agg ({i with kind:=1}:Inp).cells]=some (.agg (q.out false s i.m nd.name)):=by
 have J:=bZ N s hs (by omega);have L:=iR N i.m hm (by omega);obtain ⟨M,rfl⟩:∃M,N=M+100:=⟨N-100,by omega⟩;cases q with
 |rej r=>
  have P:=iD i.m hm nd.name r (M+100) (by omega);obtain ⟨O,tm,⟨se,sp⟩,⟨⟨e,p⟩,E,o,⟨h,l,u,y,A,B⟩⟩,x,Q,S,⟨U,V,W,Y,Z,c6⟩⟩:=i;obtain ⟨name,k1,k2,k3,w,k5,k6,H,⟨a,b,c,d⟩,we,el,f,ty,ex,ca,ru,ne⟩:=nd;obtain ⟨n,t,F⟩:=s;rcases hk with ⟨rfl,rfl⟩|⟨rfl,rfl⟩;·exact puA [(15,.p (.agg (Stt.mk n t F).cells)),(23,.p (.agg (Msg.mk ⟨e,p⟩ E o (.mk h l u y A B)).cells)),(36,.p (.agg [.sl false 10 [],num 0,aj false,aF r])),(56,.p (.agg (Fte.mk ⟨e,p⟩ 4 name [] r).cells))] (pf4 J L hr P) (.agg [num n,num t,.sl false 10 (aW F),.sl true 11 [],.sl true 11 [],.sl true 6 [(Fte.mk ⟨e,p⟩ 4 name [] r).cells],.sl true 10 [(Msg.mk ⟨e,p⟩ E o (.mk h l u y A B)).cells]])
  exact puA [(15,.p (.agg (Stt.mk n t F).cells)),(23,.p (.agg (Msg.mk ⟨e,p⟩ E o (.mk h l u y A B)).cells)),(36,.p (.agg [.sl false 10 [],num 0,aj false,aF r])),(56,.p (.agg (Fte.mk ⟨e,p⟩ 4 name [] r).cells))] (pf4 J L hr P) (.agg [num n,num t,.sl false 10 (aW F),.sl true 11 [],.sl true 11 [],.sl true 6 [(Fte.mk ⟨e,p⟩ 4 name [] r).cells],.sl true 10 [(Msg.mk ⟨e,p⟩ E o (.mk h l u y A B)).cells]])
 |pas j=>
  obtain ⟨O,tm,⟨se,sp⟩,⟨⟨e,p⟩,E,o,⟨h,l,u,y,A,B⟩⟩,x,Q,S,⟨U,V,W,Y,Z,c6⟩⟩:=i;obtain ⟨name,k1,k2,k3,w,k5,k6,H,⟨a,b,c,d⟩,we,el,f,ty,ex,ca,ru,ne⟩:=nd;obtain ⟨n,t,F⟩:=s;rcases hk with ⟨rfl,rfl⟩|⟨rfl,rfl⟩;·exact puA [(15,.p (.agg (Stt.mk n t F).cells)),(23,.p (.agg (Msg.mk ⟨e,p⟩ E o (.mk h l u y A B)).cells)),(36,.p (.agg [.sl false 10 [(Msg.mk ⟨e,p⟩ E o (.mk h l u y A B)).cells],nat j,aj false,bD]))] (pf3 J L hr) (.agg [num n,num t,.sl false 10 (aW F),.sl true 11 [nat j::(Msg.mk ⟨e,p⟩ E o (.mk h l u y A B)).cells],.sl true 11 [],.sl true 6 [],.sl true 10 []])
  exact puA [(15,.p (.agg (Stt.mk n t F).cells)),(23,.p (.agg (Msg.mk ⟨e,p⟩ E o (.mk h l u y A B)).cells)),(36,.p (.agg [.sl false 10 [(Msg.mk ⟨e,p⟩ E o (.mk h l u y A B)).cells],nat j,aj false,bD]))] (pf3 J L hr) (.agg [num n,num t,.sl false 10 (aW F),.sl true 11 [nat j::(Msg.mk ⟨e,p⟩ E o (.mk h l u y A B)).cells],.sl true 11 [],.sl true 6 [],.sl true 10 []])
theorem rE (N:Nat)(nd:Nod)(s:Stt)(m:Msg)(r:qaY):Gam.aC (ah tab ext (N+1)) 35 [.agg nd.cells,.agg s.cells,.agg m.cells,aF r]=some (.agg (vV true s m nd.name r)):=by obtain ⟨⟨F,p⟩,Q,U,⟨l,q,u,y,A,B⟩⟩:=m;obtain ⟨h,P,J,L,M,w,O,j,⟨a,b,c,d⟩,Z,el,f,Y,H,E,V,S⟩:=nd;obtain ⟨n,t,W⟩:=s;kernel_rfl
theorem Cm (N:Nat)(s:Stt)(m:Msg)(j:Nat):Gam.aC (ah tab ext (N+1)) 37 [.agg s.cells,nat j,.agg m.cells]=some (.agg (OV s m j)):=by obtain ⟨⟨y,p⟩,A,B,⟨a,f,h,l,q,u⟩⟩:=m;obtain ⟨n,t,E⟩:=s;kernel_rfl
theorem Mc (nd:Nod)(hs:nd.small)(s:Stt)(i:Inp)(hm:i.m.ok)(p:Bool×Int)(hp:0<=p.2/\p.2<=100)(N:Nat)(hN:200700<=N)(uK:Gam.aC (ah tab ext N) 63 [.agg (qw nd 0),.agg (zU i.m.body).cells]=some (.tup [aj p.1,num p.2])):
  Gam.aC (ah tab ext (N+2)) 13 [.agg ({nd with kind:=1}:Nod).cells,.agg s.cells,.agg ({i with kind:=1}:Inp).cells]=some (.agg ((wS nd p).out true s i.m nd.name)):=by
 obtain ⟨g,j⟩:=p;have J:=kW i.m.body hm.body (N+1) (by omega);have H:=znU {nd with kind:=1} hs 0 (zU i.m.body) g j N uK;have V:=jE j hp (N+1) (by omega);have W:=rE N {nd with kind:=1} s i.m (jF j);have Z:=rE N {nd with kind:=1} s i.m nd.text;have Y:=Cm N s i.m 0;unfold wS;dsimp only;generalize jF j=r at V W ⊢;clear uK hm;generalize zU i.m.body=v at J H;obtain ⟨M,O,P,Q,S,U⟩:=v;obtain ⟨kd,tm,⟨se,sp⟩,⟨⟨e,p⟩,E,o,⟨l,q,u,y,A,B⟩⟩,x,b1,b2,⟨c1,c2,c3,c4,c5,c6⟩⟩:=i;obtain ⟨h,k1,k2,k3,w,k5,k6,text,⟨a,b,c,d⟩,we,el,f,ty,ex,ca,ru,ne⟩:=nd;obtain ⟨n,t,F⟩:=s;cases L:(j !=0) with
 |true=>
  cases g with
  |true=>exact puA [(29,.p (.agg (Val.mk M O P Q S U).cells)),(37,.p (.tup [aj true,num j])),(42,.b true),(47,.p (aF r)),(48,.p (.agg (vV true (Stt.mk n t F) (Msg.mk ⟨e,p⟩ E o (.mk l q u y A B)) h r)))] (pf5 J H L V W) (.agg (vV true (Stt.mk n t F) (Msg.mk ⟨e,p⟩ E o (.mk l q u y A B)) h r))
  |false=>exact puA [(29,.p (.agg (Val.mk M O P Q S U).cells)),(37,.p (.tup [aj false,num j])),(42,.b true),(47,.p (aF r)),(48,.p (.agg (vV true (Stt.mk n t F) (Msg.mk ⟨e,p⟩ E o (.mk l q u y A B)) h r)))] (pf5 J H L V W) (.agg (vV true (Stt.mk n t F) (Msg.mk ⟨e,p⟩ E o (.mk l q u y A B)) h r))
 |false=>
  cases g with
  |true=>exact puA [(29,.p (.agg (Val.mk M O P Q S U).cells)),(37,.p (.tup [aj true,num j])),(42,.b false),(53,.p (.agg (OV (Stt.mk n t F) (Msg.mk ⟨e,p⟩ E o (.mk l q u y A B)) 0)))] (pf4 J H L Y) (.agg (OV (Stt.mk n t F) (Msg.mk ⟨e,p⟩ E o (.mk l q u y A B)) 0))
  |false=>exact puA [(29,.p (.agg (Val.mk M O P Q S U).cells)),(37,.p (.tup [aj false,num j])),(42,.b false),(59,.p (.agg (vV true (Stt.mk n t F) (Msg.mk ⟨e,p⟩ E o (.mk l q u y A B)) h text)))] (pf4 J H L Z) (.agg (vV true (Stt.mk n t F) (Msg.mk ⟨e,p⟩ E o (.mk l q u y A B)) h text))
end Ct
namespace Ct
theorem zfb (ru:qaX)(hr:∀x,x∈ru->wI x)(v:Val):∃ev B,zlZ ru (zU (aV 4 v)).cells ev B:=by
 obtain ⟨ev,B,h⟩:=oK (List.range ru.length) (R:=fun _ (p:List X×Int)=>okV p.1/\0<=p.2/\p.2<=100) (Q:=fun j p N=>∀s o i t vs es,ru[j]?=some (fQ s o i t vs es)->Gam.aC (ah tab ext N) 87 [.agg (jw o i t vs es),.agg (zU (aV 4 v)).cells]=some (.tup [.agg p.1,num p.2])) (fun j m=>by
  have m:=List.mem_range.1 m;obtain ⟨s,o,i,t,vs,es,e,_,U⟩:=hr _ (qag m);have S:ru[j]?=some (fQ s o i t vs es):=by rw [qad m,e];rfl
  obtain ⟨y,J,⟨⟨H,V⟩,M⟩,P⟩:=Nr (h:=4) (by decide) (Cj 4 _ U) (zoE v);obtain ⟨a,b,c,E,t2,l,t3,f,rfl,A⟩:=zgI V;obtain ⟨B,O⟩:=ig P (y:=.tup [.agg (eF a b c E l f),num J]) rfl;refine ⟨(eF a b c E l f,J),⟨⟨a,b,c,E,l,f,rfl,H,A⟩,M⟩,B,fun N u s' Y W Z F q n=>?_⟩;rw [S] at n;have L:jw o i t vs es=jw Y W Z F q:=by simp only [fQ,qaf,List.cons.injEq] at n;unfold jw;rw [n.2.1,n.2.2.1,n.2.2.2.1,n.2.2.2.2.1,n.2.2.2.2.2.1]
  rw [<-L];exact O N u)
 exact ⟨ev,B,⟨fun j m s o i t vs es e=>⟨(h j (List.mem_range.2 m)).1.1,(h j (List.mem_range.2 m)).1.2,fun N u=>(h j (List.mem_range.2 m)).2 N u s o i t vs es e⟩⟩⟩
def Applied (nd:Nod)(v:Val)(w:Val)(x:Int)(B:Nat):Prop:=w.wide/\(0<=x/\x<=100)/\∀N,B<=N->Gam.aC (ah tab ext N) 38 [.agg [.sl false 6 nd.rules],.agg (zU v).cells,.agg (dK nd.ty.1 nd.ty.2.1 nd.ty.2.2.1 nd.ty.2.2.2 nd.words nd.elem nd.fields)]=some (.tup [.agg w.cells,num x])
theorem applied (nd:Nod)(hs:nd.small)(v:Val):∃w x B,Applied nd (aV 4 v) w x B:=by obtain ⟨_,_,a,_,_,A,j⟩:=hs;obtain ⟨H,m,y⟩:=zdk nd.rules A j;obtain ⟨ev,n,h⟩:=zfb nd.rules j v;have a:=zqC 4 _ a;unfold Applied;generalize zU (aV 4 v)=u at h ⊢;obtain ⟨k,i,s,t,l,f⟩:=u;obtain ⟨w,x,E,F,B,q⟩:=Xj nd.rules H m y k i s t (au l) (aA f) ev n h a;exact ⟨w,x,B,E,F,q⟩
def O9 (x:Int):Res:=if x !=0 then .rej (jF x) else .pas 0
theorem D9 (nd:Nod)(m:Msg)(hm:m.ok)(w:Val)(x:Int)(B:Nat)(h:Applied nd m.body w x B)(N:Nat)(hN:B+w.size+200500<=N):
  Gam.aC (ah tab ext (N+1)) 48 [.agg nd.cells,.agg m.cells]=some (.agg ((O9 x).cells {m with body:=w})):=by
 obtain ⟨V,W,j⟩:=h;have F:=kW m.body hm.body N (by omega);replace j:=j N (by omega);have S:=jE x W N (by omega);have Q:=XC N m hm w V (by omega);obtain ⟨M,rfl⟩:=pR_ N;have E:=vU M (jF x);have P:=BN M {m with body:=w} 0;unfold O9;generalize jF x=r at S E ⊢;generalize zU m.body=v at F j;clear hm hN W V;obtain ⟨⟨H,O⟩,J,L,⟨a1,a2,a3,a4,a5,a6⟩⟩:=m;obtain ⟨v1,v2,v3,v4,v5,v6⟩:=v;obtain ⟨l,n,q,u,y,A⟩:=w;obtain ⟨Y,kd,k1,k2,k3,k4,k5,Z,⟨a,b,c,d⟩,we,el,f,ty,ex,ca,ru,ne⟩:=nd;cases U:(x !=0) with
 |true=>exact puA [(12,.p (.agg (Val.mk v1 v2 v3 v4 v5 v6).cells)),(15,.p (.tup [.agg (Val.mk l n q u y A).cells,num x])),(19,.b true),(21,.p (aF r)),(22,.p (.agg [.sl false 10 [],num 0,aj false,aF r]))] (pf5 F j U S E) (.agg [.sl false 10 [],num 0,aj false,aF r])
 |false=>exact puA [(12,.p (.agg (Val.mk v1 v2 v3 v4 v5 v6).cells)),(15,.p (.tup [.agg (Val.mk l n q u y A).cells,num x])),(19,.b false),(25,.p (.agg (Msg.mk ⟨H,O⟩ J L (.mk l n q u y A)).cells)),(26,.p (.agg [.sl false 10 [(Msg.mk ⟨H,O⟩ J L (.mk l n q u y A)).cells],nat 0,aj false,bD]))] (pf5 F j U Q P) (.agg [.sl false 10 [(Msg.mk ⟨H,O⟩ J L (.mk l n q u y A)).cells],nat 0,aj false,bD])
def Res.ztL (t:Bool)(s:Stt)(m m':Msg)(name:qaY):Res->List X
 |.rej r=>vV t s m name r
 |.pas j=>OV s m' j
theorem FY (nd:Nod)(s:Stt)(hs:s.ok)(i:Inp)(hm:i.m.ok)(m':Msg)(q:Res)(N:Nat)(hN:200700<=N)(hr:Gam.aC (ah tab ext N) 48 [.agg ({nd with kind:=2}:Nod).cells,.agg i.m.cells]=some (.agg (q.cells m'))):
  Gam.aC (ah tab ext (N+1)) 8 [.agg ({nd with kind:=2}:Nod).cells,.agg s.cells,.agg ({i with kind:=1}:Inp).cells]=some (.agg (q.ztL false s i.m m' nd.name)):=by
 have Y:=bZ N s hs (by omega);have Z:=iR N i.m hm (by omega);obtain ⟨M,rfl⟩:∃M,N=M+100:=⟨N-100,by omega⟩;cases q with
 |rej r=>have h3:=iD i.m hm nd.name r (M+100) (by omega);obtain ⟨L,tm,⟨se,sp⟩,⟨⟨e,p⟩,J,o,⟨y,A,B,E,F,H⟩⟩,x,b1,b2,⟨c1,c2,c3,c4,c5,c6⟩⟩:=i;obtain ⟨name,k1,k2,k3,w,k5,k6,u,⟨a,b,c,d⟩,we,el,f,ty,ex,ca,ru,ne⟩:=nd;obtain ⟨n,t,l⟩:=s;exact puA [(15,.p (.agg (Stt.mk n t l).cells)),(23,.p (.agg (Msg.mk ⟨e,p⟩ J o (.mk y A B E F H)).cells)),(36,.p (.agg [.sl false 10 [],num 0,aj false,aF r])),(56,.p (.agg (Fte.mk ⟨e,p⟩ 4 name [] r).cells))] (pf4 Y Z hr h3) (.agg [num n,num t,.sl false 10 (aW l),.sl true 11 [],.sl true 11 [],.sl true 6 [(Fte.mk ⟨e,p⟩ 4 name [] r).cells],.sl true 10 [(Msg.mk ⟨e,p⟩ J o (.mk y A B E F H)).cells]])
 |pas j=>obtain ⟨L,tm,⟨se,sp⟩,⟨⟨e,p⟩,J,o,⟨y,A,B,E,F,H⟩⟩,x,b1,b2,⟨c1,c2,c3,c4,c5,c6⟩⟩:=i;obtain ⟨name,k1,k2,k3,w,k5,k6,u,⟨a,b,c,d⟩,we,el,f,ty,ex,ca,ru,ne⟩:=nd;obtain ⟨n,t,l⟩:=s;obtain ⟨⟨O,p'⟩,h,o',⟨P,Q,S,U,V,W⟩⟩:=m';exact puA [(15,.p (.agg (Stt.mk n t l).cells)),(23,.p (.agg (Msg.mk ⟨e,p⟩ J o (.mk y A B E F H)).cells)),(36,.p (.agg [.sl false 10 [(Msg.mk ⟨O,p'⟩ h o' (.mk P Q S U V W)).cells],nat j,aj false,bD]))] (pf3 Y Z hr) (.agg [num n,num t,.sl false 10 (aW l),.sl true 11 [nat j::(Msg.mk ⟨O,p'⟩ h o' (.mk P Q S U V W)).cells],.sl true 11 [],.sl true 6 [],.sl true 10 []])
theorem Zz (nd:Nod)(s:Stt)(i:Inp)(hm:i.m.ok)(w:Val)(x:Int)(B:Nat)(h:Applied nd i.m.body w x B)(N:Nat)(hN:B+200700<=N):
  Gam.aC (ah tab ext (N+1)) 13 [.agg ({nd with kind:=2}:Nod).cells,.agg s.cells,.agg ({i with kind:=1}:Inp).cells]=some (.agg ((O9 x).ztL true s i.m {i.m with body:=w} nd.name)):=by
 obtain ⟨hw,hx,j⟩:=h;have L:=kW i.m.body hm.body N (by omega);replace j:=j N (by omega);have P:=jE x hx N (by omega);obtain ⟨M,rfl⟩:=pR_ N;have Q:=rE M {nd with kind:=2} s i.m (jF x);have O:=Cm M s {i.m with body:=w} 0;unfold O9;generalize jF x=r at P Q ⊢;generalize zU i.m.body=v at L j;clear hm hN hx hw;obtain ⟨v1,v2,v3,v4,v5,v6⟩:=v;obtain ⟨y,A,E,F,H,J⟩:=w;obtain ⟨kd,tm,⟨se,sp⟩,⟨⟨e,p⟩,q,o,⟨S,U,V,W,Y,Z⟩⟩,x',b1,b2,⟨c1,c2,c3,c4,c5,c6⟩⟩:=i;obtain ⟨l,k1,k2,k3,w,k5,k6,pa,⟨a,b,c,d⟩,we,el,f,ty,ex,ca,ru,ne⟩:=nd;obtain ⟨n,t,u⟩:=s;cases h2:(x !=0) with
 |true=>exact puA [(29,.p (.agg (Val.mk v1 v2 v3 v4 v5 v6).cells)),(68,.p (.tup [.agg (Val.mk y A E F H J).cells,num x])),(72,.b true),(77,.p (aF r)),(78,.p (.agg (vV true (Stt.mk n t u) (Msg.mk ⟨e,p⟩ q o (.mk S U V W Y Z)) l r)))] (pf5 L j h2 P Q) (.agg (vV true (Stt.mk n t u) (Msg.mk ⟨e,p⟩ q o (.mk S U V W Y Z)) l r))
 |false=>exact puA [(29,.p (.agg (Val.mk v1 v2 v3 v4 v5 v6).cells)),(68,.p (.tup [.agg (Val.mk y A E F H J).cells,num x])),(72,.b false),(83,.p (.agg (OV (Stt.mk n t u) (Msg.mk ⟨e,p⟩ q o (.mk y A E F H J)) 0)))] (pf4 L j h2 O) (.agg (OV (Stt.mk n t u) (Msg.mk ⟨e,p⟩ q o (.mk y A E F H J)) 0))
theorem Y8 (s:Stt)(hs:s.ok)(m:Msg)(hm:m.okW)(j:Nat)(N:Nat)(hN:190400+3*m.body.size<=N):Gam.aC (ah tab ext N) 12 [.agg (OV s m j),.agg (OV s m j)]=some (aj true):=by
 obtain ⟨M,rfl⟩:∃M,N=M+101:=⟨N-101,by omega⟩;have f:=Iw (M+100) s hs (by omega);have h:=Zx (M+100) m hm (by omega);have l:(Int.ofNat j !=Int.ofNat j)=false:=by simp
 clear hN hm;obtain ⟨⟨e,p⟩,E,o,⟨n,q,u,y,A,B⟩⟩:=m;obtain ⟨a,b,F⟩:=s;exact puA [(10,.p (aj true)),(40,.b false),(54,.p (aj true))] (pf3 f l h) (aj true)
end Ct
namespace Ct
abbrev Gs (name:qaY) (kd k1 k2 k3 w k5:Int) (text:qaY) (a b c d:Int) (we el f ty ex ru ca ne:qaX):List X:=[aF name,num kd,num k1,num k2,num k3,num w,num k5,aF text,num a,num b,num c,num d,.sl false 1 we,.sl false 7 el,.sl false 11 f,.sl false 7 ty,.sl false 5 ex,.sl false 6 ru,.sl false 2 ca,.sl false 1 ne]
def OH (f:Nat->Bool×Int)(j:Nat):Res:=if (f j).2 !=0 then .rej (jF (f j).2) else .pas j
def Jm (f:Nat->Bool×Int)(j:Nat):Bool:=(f j).2 !=0||(f j).1
section
variable (name:qaY) (kd k1 k2 k3 w k5:Int) (text:qaY) (a b c d:Int) (we el f ty ex ru ca ne:qaX) (m:Msg) (nx j:Nat)
noncomputable abbrev chH:St:=⟨[(2,.ptr 0 0 0),(3,.ptr 1 0 0),(4,.ptr 2 0 0),(10,nat nx),(11,nat j)],[.var (Gs name kd k1 k2 k3 w k5 text a b c d we el f ty ex ru ca ne),.var m.cells,.var [.sl true 10 [],num 0,aj false,bD]]⟩
noncomputable abbrev chR (q:Res):St:=⟨[(4,.ptr 2 0 0)],[.var (Gs name kd k1 k2 k3 w k5 text a b c d we el f ty ex ru ca ne),.var m.cells,.var (q.cells m)]⟩
noncomputable abbrev chE:St:=⟨[(2,.ptr 0 0 0),(3,.ptr 1 0 0),(4,.ptr 2 0 0),(10,nat nx),(11,nat j),(12,aj false)],[.var (Gs name kd k1 k2 k3 w k5 text a b c d we el f ty ex ru ca ne),.var m.cells,.var [.sl true 10 [],num 0,aj false,bD]]⟩
variable (g:Bool) (er:Int) (r:qaY) (M:Nat)
theorem Ua:canon 0 (chH name kd k1 k2 k3 w k5 text a b c d we el f ty ex ru ca ne m nx j)=some (chH name kd k1 k2 k3 w k5 text a b c d we el f ty ex ru ca ne m nx j):=by obtain ⟨⟨A,F⟩,B,E,⟨h,l,n,q,u,y⟩⟩:=m;kernel_rfl
theorem zoP (h1:decide (Int.ofNat j<Int.ofNat nx)=true)(J8:Gam.aC (ah tab ext M) 73 [.agg (Gs name kd k1 k2 k3 w k5 text a b c d we el f ty ex ru ca ne),nat j,.agg m.cells]=some (.tup [aj g,num er]))(h2:(er !=0)=true)(EJ:Gam.aC (ah tab ext M) 36 [num er]=some (aF r))(zcg:Gam.aC (ah tab ext M) 52 [aF r]=some (.agg [.sl false 10 [],num 0,aj false,aF r])):
  run (ah tab ext M) 0 M (aH 49 0) (chH name kd k1 k2 k3 w k5 text a b c d we el f ty ex ru ca ne m nx j)=some (.ret,chR name kd k1 k2 k3 w k5 text a b c d we el f ty ex ru ca ne m (.rej r)):=by
 obtain ⟨⟨A,F⟩,B,E,⟨h,l,n,q,u,y⟩⟩:=m;cases g with
 |true=>exact ruA [(12,.b true),(18,.p (.tup [aj true,num er])),(22,.b true),(24,.p (aF r)),(25,.p (.agg [.sl false 10 [],num 0,aj false,aF r]))] (pf5 h1 J8 h2 EJ zcg)
 |false=>exact ruA [(12,.b true),(18,.p (.tup [aj false,num er])),(22,.b true),(24,.p (aF r)),(25,.p (.agg [.sl false 10 [],num 0,aj false,aF r]))] (pf5 h1 J8 h2 EJ zcg)
theorem zoQ (h1:decide (Int.ofNat j<Int.ofNat nx)=true)(J8:Gam.aC (ah tab ext M) 73 [.agg (Gs name kd k1 k2 k3 w k5 text a b c d we el f ty ex ru ca ne),nat j,.agg m.cells]=some (.tup [aj true,num er]))(h2:(er !=0)=false)(zmm:Gam.aC (ah tab ext M) 74 [.agg m.cells,nat j]=some (.agg [.sl false 10 [m.cells],nat j,aj false,bD])):
  run (ah tab ext M) 0 M (aH 49 0) (chH name kd k1 k2 k3 w k5 text a b c d we el f ty ex ru ca ne m nx j)=some (.ret,chR name kd k1 k2 k3 w k5 text a b c d we el f ty ex ru ca ne m (.pas j)):=by
 obtain ⟨⟨A,F⟩,B,E,⟨h,l,n,q,u,y⟩⟩:=m;exact ruA [(12,.b true),(18,.p (.tup [aj true,num er])),(22,.b false),(29,.p (.agg [.sl false 10 [(Msg.mk ⟨A,F⟩ B E (.mk h l n q u y)).cells],nat j,aj false,bD]))] (pf4 h1 J8 h2 zmm)
theorem zk3 (h1:decide (Int.ofNat j<Int.ofNat nx)=true)(J8:Gam.aC (ah tab ext M) 73 [.agg (Gs name kd k1 k2 k3 w k5 text a b c d we el f ty ex ru ca ne),nat j,.agg m.cells]=some (.tup [aj false,num er]))(h2:(er !=0)=false)(hn:IntKind.i64.wrap (Int.ofNat j+1)=Int.ofNat (j+1)):
  run (ah tab ext M) 0 M (aH 49 0) (chH name kd k1 k2 k3 w k5 text a b c d we el f ty ex ru ca ne m nx j)=some (.norm,chH name kd k1 k2 k3 w k5 text a b c d we el f ty ex ru ca ne m nx (j+1)):=by
 obtain ⟨⟨A,F⟩,B,E,⟨h,l,n,q,u,y⟩⟩:=m;exact ruA [(12,.b true),(18,.p (.tup [aj false,num er])),(22,.b false),(30,.i (Int.ofNat (j+1)))] (pf4 h1 J8 h2 hn)
theorem zoT (h1:decide (Int.ofNat j<Int.ofNat nx)=false):run (ah tab ext M) 0 M (aH 49 0) (chH name kd k1 k2 k3 w k5 text a b c d we el f ty ex ru ca ne m nx j)=some (.exit 0,chE name kd k1 k2 k3 w k5 text a b c d we el f ty ex ru ca ne m nx j):=by obtain ⟨⟨A,F⟩,B,E,⟨h,l,n,q,u,y⟩⟩:=m;exact ruA [(12,.b false)] (pf1 h1)
theorem zoS (q:Res)(h:run (ah tab ext M) 0 M (.loop (aH 49 0)) (chH name kd k1 k2 k3 w k5 text a b c d we el f ty ex ru ca ne m ex.length 0)=some (.ret,chR name kd k1 k2 k3 w k5 text a b c d we el f ty ex ru ca ne m q)):Gam.aC (ah tab ext (M+1)) 49 [.agg (Gs name kd k1 k2 k3 w k5 text a b c d we el f ty ex ru ca ne),.agg m.cells]=some (.agg (q.cells m)):=by
 obtain ⟨⟨E,J⟩,F,H,⟨l,n,u,y,A,B⟩⟩:=m;cases q with
 |rej r=>exact puB [] [(.ret,chR name kd k1 k2 k3 w k5 text a b c d we el f ty ex ru ca ne (Msg.mk ⟨E,J⟩ F H (.mk l n u y A B)) (.rej r))] (pf1 h) (.agg [.sl false 10 [],num 0,aj false,aF r])
 |pas j=>exact puB [] [(.ret,chR name kd k1 k2 k3 w k5 text a b c d we el f ty ex ru ca ne (Msg.mk ⟨E,J⟩ F H (.mk l n u y A B)) (.pas j))] (pf1 h) (.agg [.sl false 10 [(Msg.mk ⟨E,J⟩ F H (.mk l n u y A B)).cells],nat j,aj false,bD])
theorem zoR (h:run (ah tab ext M) 0 M (.loop (aH 49 0)) (chH name kd k1 k2 k3 w k5 text a b c d we el f ty ex ru ca ne m ex.length 0)=some (.exit 0,chE name kd k1 k2 k3 w k5 text a b c d we el f ty ex ru ca ne m ex.length ex.length))(zuo:Gam.aC (ah tab ext M) 20 [.agg (Gs name kd k1 k2 k3 w k5 text a b c d we el f ty ex ru ca ne),.agg m.cells]=some (.agg [.sl false 10 [],num 0,aj false,aF r])):Gam.aC (ah tab ext (M+1)) 49 [.agg (Gs name kd k1 k2 k3 w k5 text a b c d we el f ty ex ru ca ne),.agg m.cells]=some (.agg (Res.cells m (.rej r))):=by obtain ⟨⟨A,F⟩,B,E,⟨j,l,n,q,u,y⟩⟩:=m;exact puB [(33,.p (.agg [.sl false 10 [],num 0,aj false,aF r]))] [(.exit 0,chE name kd k1 k2 k3 w k5 text a b c d we el f ty ex ru ca ne (Msg.mk ⟨A,F⟩ B E (.mk j l n q u y)) ex.length ex.length)] (pf2 h zuo) (.agg [.sl false 10 [],num 0,aj false,aF r])
end
def zct:qaY:=⟨#[117,110,114,111,117,116,97,98,108,101]⟩
def Choice (f:Nat->Bool×Int)(n:Nat)(q:Res):Prop:=(∃j,j<n/\Jm f j=true/\(∀i,i<j->Jm f i=false)/\q=OH f j)\/((∀j,j<n->Jm f j=false)/\q=.rej zct)
theorem QO {f:Nat->Bool×Int}{n:Nat}{q q':Res}(h:Choice f n q)(h':Choice f n q'):q=q':=by
 rcases h with ⟨j,a,m,u,rfl⟩|⟨a,rfl⟩<;>rcases h' with ⟨y,l,A,B,rfl⟩|⟨l,rfl⟩
 ·grind
 ·grind
 ·grind
 rfl
theorem MS {f:Nat->Bool×Int}{j:Nat}(h:Jm f j=false):((f j).2 !=0)=false/\(f j).1=false:=by grind[Jm]
theorem D8 (nd:Nod)(hs:nd.small)(m:Msg)(hm:m.body.ok)(f:Nat->Bool×Int)(B:Nat)(hc:zl2 nd m.body f B nd.exprs.length):∃q,Choice f nd.exprs.length q/\∀N,B+200600<=N->Gam.aC (ah tab ext N) 49 [.agg nd.cells,.agg m.cells]=some (.agg (q.cells m)):=by
 have hl:=hs.2.2.2.1;have J8:∀j,j<nd.exprs.length->∀N,B+200501<=N->Gam.aC (ah tab ext N) 73 [.agg nd.cells,nat j,.agg m.cells]=some (.tup [aj (f j).1,num (f j).2]):=fun j y N hN=>by obtain ⟨M,rfl⟩:=pR_ N;exact znq nd hs j m hm _ _ M (by omega) ((hc j y).2 M (by omega))
 have hr:=fun j (y:j<nd.exprs.length)=>(hc j y).1;have pa:=fun N=>AP N nd m;clear hc hm hs;obtain ⟨l,Y,S,U,V,w,W,u,⟨a,b,c,d⟩,we,el,O,ty,A,L,ru,Z⟩:=nd;dsimp only at J8 hr hl ⊢;have pb:=zhL (nIn:=0) (b:=aH 49 0) (H:=fun j=>chH l Y S U V w W u a b c d we el O ty A ru L Z m A.length j) (P:=Jm f) (r:=fun j=>chR l Y S U V w W u a b c d we el O ty A ru L Z m (OH f j)) (υ:=fun j=>chH l Y S U V w W u a b c d we el O ty A ru L Z m A.length (j+1)) (τ:=chH l Y S U V w W u a b c d we el O ty A ru L Z m A.length 0) (n:=A.length) (B:=B+200510) (e:=.exit 0) (fin:=chE l Y S U V w W u a b c d we el O ty A ru L Z m A.length A.length) (Ua ..)
  (fun j y E M hM=>by
   have J:=J8 j y M (by omega);have hb:=hr j y;unfold Jm at E;unfold OH;generalize f j=p at J hb E ⊢;obtain ⟨g,er⟩:=p;obtain ⟨K,rfl⟩:∃K,M=K+10:=⟨M-10,by omega⟩;cases F:(er !=0) with
   |true=>exact zoP (h1:=aK y) (J8:=J) (h2:=F) (EJ:=jE er hb (K+10) (by omega)) (zcg:=vU (K+9) _) ..
   |false=>
    have Q:g=true:=by dsimp only at E;rw [F] at E;simpa using E
    subst Q;exact zoQ (h1:=aK y) (J8:=J) (h2:=F) (zmm:=BN (K+9) m j) ..)
  (fun j y E=>⟨Ua ..,fun M hM=>by have J:=J8 j y M (by omega);obtain ⟨F,Q⟩:=MS E;generalize f j=p at J F Q;obtain ⟨g,er⟩:=p;dsimp only at F Q;subst Q;exact zk3 (h1:=aK y) (J8:=J) (h2:=F) (hn:=aB (j:=j) (by omega)) ..⟩)
  (fun M _=>zoT (h1:=aN (qat _)) ..) (by simp)
 rcases pb with ⟨j,y,E,hB,h⟩|⟨hF,h⟩;·refine ⟨OH f j,.inl ⟨j,y,E,hB,rfl⟩,fun N hN=>?_⟩;obtain ⟨M,rfl⟩:=pR_ N;exact zoS (h:=h M (by omega) (by omega)) ..
 refine ⟨.rej zct,.inr ⟨hF,rfl⟩,fun N hN=>?_⟩;obtain ⟨M,rfl⟩:∃M,N=M+2+1:=⟨N-3,by omega⟩;exact zoR (h:=h (M+2) (by omega) (by omega)) (zuo:=pa M) ..
section
variable (name:qaY) (k1 k2 k3 w k5:Int) (text:qaY) (a b c d:Int) (we el f ty ex ru ca ne:qaX) (s:Stt) (m:Msg) (v:Val) (j:Nat)
abbrev zqk:List X:=[num 0,num 0,.sl true 10 [],.sl true 11 [],.sl true 11 [],.sl true 6 [],.sl true 10 []]
noncomputable abbrev mcH:St:=⟨[(3,.ptr 0 0 0),(4,.ptr 1 0 0),(6,.ptr 2 0 0),(7,.ptr 3 0 0),(8,.ptr 4 0 0),(13,nat j)],[.var (Gs name 11 k1 k2 k3 w k5 text a b c d we el f ty ex ru ca ne),.var s.cells,.var zqk,.var m.cells,.var v.cells]⟩
noncomputable abbrev mcR (o:List X):St:=⟨[(6,.ptr 2 0 0)],[.var (Gs name 11 k1 k2 k3 w k5 text a b c d we el f ty ex ru ca ne),.var s.cells,.var o,.var m.cells,.var v.cells]⟩
noncomputable abbrev mcE:St:=⟨[(3,.ptr 0 0 0),(4,.ptr 1 0 0),(6,.ptr 2 0 0),(7,.ptr 3 0 0),(8,.ptr 4 0 0),(13,nat j),(90,aj false)],[.var (Gs name 11 k1 k2 k3 w k5 text a b c d we el f ty ex ru ca ne),.var s.cells,.var zqk,.var m.cells,.var v.cells]⟩
variable (g:Bool) (er:Int) (r:qaY) (M:Nat)
theorem zdU:canon 0 (mcH name k1 k2 k3 w k5 text a b c d we el f ty ex ru ca ne s m v j)=some (mcH name k1 k2 k3 w k5 text a b c d we el f ty ex ru ca ne s m v j):=by obtain ⟨⟨B,H⟩,E,F,⟨h,l,q,u,y,A⟩⟩:=m;obtain ⟨L,M,N,O,P,Q⟩:=v;obtain ⟨n,t,J⟩:=s;kernel_rfl
theorem znV (h1:decide (Int.ofNat j<Int.ofNat ex.length)=true)(GI:Gam.aC (ah tab ext M) 34 [.agg (Gs name 11 k1 k2 k3 w k5 text a b c d we el f ty ex ru ca ne),nat j,.agg v.cells]=some (.tup [aj g,num er]))(h2:(er !=0)=true)(EJ:Gam.aC (ah tab ext M) 36 [num er]=some (aF r))(N7:Gam.aC (ah tab ext M) 35 [.agg (Gs name 11 k1 k2 k3 w k5 text a b c d we el f ty ex ru ca ne),.agg s.cells,.agg m.cells,aF r]=some (.agg (vV true s m name r))):
  run (ah tab ext M) 0 M (aH 13 0) (mcH name k1 k2 k3 w k5 text a b c d we el f ty ex ru ca ne s m v j)=some (.ret,mcR name k1 k2 k3 w k5 text a b c d we el f ty ex ru ca ne s m v (vV true s m name r)):=by
 obtain ⟨⟨B,H⟩,E,F,⟨h,l,q,u,y,A⟩⟩:=m;obtain ⟨L,N,O,P,Q,S⟩:=v;obtain ⟨n,t,J⟩:=s;cases g with
 |true=>exact ruA [(90,.b true),(97,.p (.tup [aj true,num er])),(101,.b true),(106,.p (aF r)),(107,.p (.agg (vV true (Stt.mk n t J) (Msg.mk ⟨B,H⟩ E F (.mk h l q u y A)) name r)))] (pf5 h1 GI h2 EJ N7)
 |false=>exact ruA [(90,.b true),(97,.p (.tup [aj false,num er])),(101,.b true),(106,.p (aF r)),(107,.p (.agg (vV true (Stt.mk n t J) (Msg.mk ⟨B,H⟩ E F (.mk h l q u y A)) name r)))] (pf5 h1 GI h2 EJ N7)
theorem znW (h1:decide (Int.ofNat j<Int.ofNat ex.length)=true)(GI:Gam.aC (ah tab ext M) 34 [.agg (Gs name 11 k1 k2 k3 w k5 text a b c d we el f ty ex ru ca ne),nat j,.agg v.cells]=some (.tup [aj true,num er]))(h2:(er !=0)=false)(zmn:Gam.aC (ah tab ext M) 37 [.agg s.cells,nat j,.agg m.cells]=some (.agg (OV s m j))):
  run (ah tab ext M) 0 M (aH 13 0) (mcH name k1 k2 k3 w k5 text a b c d we el f ty ex ru ca ne s m v j)=some (.ret,mcR name k1 k2 k3 w k5 text a b c d we el f ty ex ru ca ne s m v (OV s m j)):=by
 obtain ⟨⟨B,H⟩,E,F,⟨h,l,q,u,y,A⟩⟩:=m;obtain ⟨L,N,O,P,Q,S⟩:=v;obtain ⟨n,t,J⟩:=s;exact ruA [(90,.b true),(97,.p (.tup [aj true,num er])),(101,.b false),(112,.p (.agg (OV (Stt.mk n t J) (Msg.mk ⟨B,H⟩ E F (.mk h l q u y A)) j)))] (pf4 h1 GI h2 zmn)
theorem ziK (h1:decide (Int.ofNat j<Int.ofNat ex.length)=true)(GI:Gam.aC (ah tab ext M) 34 [.agg (Gs name 11 k1 k2 k3 w k5 text a b c d we el f ty ex ru ca ne),nat j,.agg v.cells]=some (.tup [aj false,num er]))(h2:(er !=0)=false)(hn:IntKind.i64.wrap (Int.ofNat j+1)=Int.ofNat (j+1)):
  run (ah tab ext M) 0 M (aH 13 0) (mcH name k1 k2 k3 w k5 text a b c d we el f ty ex ru ca ne s m v j)=some (.norm,mcH name k1 k2 k3 w k5 text a b c d we el f ty ex ru ca ne s m v (j+1)):=by
 obtain ⟨⟨B,H⟩,E,F,⟨h,l,q,u,y,A⟩⟩:=m;obtain ⟨L,N,O,P,Q,S⟩:=v;obtain ⟨n,t,J⟩:=s;exact ruA [(90,.b true),(97,.p (.tup [aj false,num er])),(101,.b false),(92,.i (Int.ofNat (j+1)))] (pf4 h1 GI h2 hn)
theorem znZ (h1:decide (Int.ofNat j<Int.ofNat ex.length)=false):run (ah tab ext M) 0 M (aH 13 0) (mcH name k1 k2 k3 w k5 text a b c d we el f ty ex ru ca ne s m v j)=some (.exit 2,mcE name k1 k2 k3 w k5 text a b c d we el f ty ex ru ca ne s m v j):=by obtain ⟨⟨B,H⟩,E,F,⟨h,l,q,u,y,A⟩⟩:=m;obtain ⟨L,N,O,P,Q,S⟩:=v;obtain ⟨n,t,J⟩:=s;exact ruA [(90,.b false)] (pf1 h1)
variable (i:Inp)
noncomputable abbrev mcS:St:=⟨[(3,.ptr 0 0 0),(4,.ptr 1 0 0),(6,.ptr 3 0 0),(7,.ptr 4 0 0),(8,.ptr 5 0 0),(13,num 0)],[.var (Gs name 11 k1 k2 k3 w k5 text a b c d we el f ty ex ru ca ne),.var s.cells,.var ({i with kind:=1}:Inp).cells,.var zqk,.var i.m.cells,.var v.cells]⟩
theorem ZE:canon 0 (mcS name k1 k2 k3 w k5 text a b c d we el f ty ex ru ca ne s v i)=some (mcH name k1 k2 k3 w k5 text a b c d we el f ty ex ru ca ne s i.m v 0):=by obtain ⟨N,tm,⟨P,Q⟩,⟨⟨e,p⟩,O,o,⟨h,j,l,q,u,y⟩⟩,x,A,B,⟨E,F,H,J,L,M⟩⟩:=i;obtain ⟨U,V,W,Y,Z,v6⟩:=v;obtain ⟨n,t,S⟩:=s;kernel_rfl
theorem znY (q:Res)(GK:Gam.aC (ah tab ext M) 33 [.agg i.m.body.cells]=some (.agg v.cells))(h:run (ah tab ext M) 0 M (.loop (aH 13 0)) (mcS name k1 k2 k3 w k5 text a b c d we el f ty ex ru ca ne s v i)=some (.ret,mcR name k1 k2 k3 w k5 text a b c d we el f ty ex ru ca ne s i.m v (q.out true s i.m name))):
  Gam.aC (ah tab ext (M+1)) 13 [.agg (Gs name 11 k1 k2 k3 w k5 text a b c d we el f ty ex ru ca ne),.agg s.cells,.agg ({i with kind:=1}:Inp).cells]=some (.agg (q.out true s i.m name)):=by
 obtain ⟨kd,tm,⟨se,sp⟩,⟨⟨e,p⟩,F,o,⟨l,u,y,A,B,E⟩⟩,x,S,U,⟨V,W,Y,Z,c5,c6⟩⟩:=i;obtain ⟨J,L,N,O,P,Q⟩:=v;obtain ⟨n,t,H⟩:=s;cases q with
 |rej r=>exact puB [(29,.p (.agg (Val.mk J L N O P Q).cells))] [(.ret,mcR name k1 k2 k3 w k5 text a b c d we el f ty ex ru ca ne (Stt.mk n t H) (Msg.mk ⟨e,p⟩ F o (.mk l u y A B E)) (Val.mk J L N O P Q) (vV true (Stt.mk n t H) (Msg.mk ⟨e,p⟩ F o (.mk l u y A B E)) name r))] (pf2 GK h) (.agg (vV true (Stt.mk n t H) (Msg.mk ⟨e,p⟩ F o (.mk l u y A B E)) name r))
 |pas j=>exact puB [(29,.p (.agg (Val.mk J L N O P Q).cells))] [(.ret,mcR name k1 k2 k3 w k5 text a b c d we el f ty ex ru ca ne (Stt.mk n t H) (Msg.mk ⟨e,p⟩ F o (.mk l u y A B E)) (Val.mk J L N O P Q) (OV (Stt.mk n t H) (Msg.mk ⟨e,p⟩ F o (.mk l u y A B E)) j))] (pf2 GK h) (.agg (OV (Stt.mk n t H) (Msg.mk ⟨e,p⟩ F o (.mk l u y A B E)) j))
theorem znX (GK:Gam.aC (ah tab ext M) 33 [.agg i.m.body.cells]=some (.agg v.cells))(h:run (ah tab ext M) 0 M (.loop (aH 13 0)) (mcS name k1 k2 k3 w k5 text a b c d we el f ty ex ru ca ne s v i)=some (.exit 2,mcE name k1 k2 k3 w k5 text a b c d we el f ty ex ru ca ne s i.m v j))(N7:Gam.aC (ah tab ext M) 35 [.agg (Gs name 11 k1 k2 k3 w k5 text a b c d we el f ty ex ru ca ne),.agg s.cells,.agg i.m.cells,aF zct]=some (.agg (vV true s i.m name zct))):
  Gam.aC (ah tab ext (M+1)) 13 [.agg (Gs name 11 k1 k2 k3 w k5 text a b c d we el f ty ex ru ca ne),.agg s.cells,.agg ({i with kind:=1}:Inp).cells]=some (.agg (Res.out true s i.m name (.rej zct))):=by
 obtain ⟨kd,tm,⟨se,sp⟩,⟨⟨e,p⟩,E,o,⟨l,q,u,y,A,B⟩⟩,x,Q,S,⟨U,V,W,Y,Z,c6⟩⟩:=i;obtain ⟨H,J,L,N,O,P⟩:=v;obtain ⟨n,t,F⟩:=s;exact puB [(29,.p (.agg (Val.mk H J L N O P).cells)),(194,.p (.agg (vV true (Stt.mk n t F) (Msg.mk ⟨e,p⟩ E o (.mk l q u y A B)) name zct)))] [(.exit 2,mcE name k1 k2 k3 w k5 text a b c d we el f ty ex ru ca ne (Stt.mk n t F) (Msg.mk ⟨e,p⟩ E o (.mk l q u y A B)) (Val.mk H J L N O P) j)] (pf3 GK h N7) (.agg (vV true (Stt.mk n t F) (Msg.mk ⟨e,p⟩ E o (.mk l q u y A B)) name zct))
end
theorem Md (nd:Nod)(hk:nd.kind=11)(hs:nd.small)(s:Stt)(i:Inp)(hm:i.m.ok)(f:Nat->Bool×Int)(B:Nat)(hc:zl2 nd i.m.body f B nd.exprs.length):∃q,Choice f nd.exprs.length q/\∀N,B+200700<=N->Gam.aC (ah tab ext N) 13 [.agg nd.cells,.agg s.cells,.agg ({i with kind:=1}:Inp).cells]=some (.agg (q.out true s i.m nd.name)):=by
 have hl:=hs.2.2.2.1;have GK:=fun N=>kW i.m.body hm.body N;have GI:∀j,j<nd.exprs.length->∀N,B+1<=N->Gam.aC (ah tab ext N) 34 [.agg nd.cells,nat j,.agg (zU i.m.body).cells]=some (.tup [aj (f j).1,num (f j).2]):=fun j y N hN=>by obtain ⟨M,rfl⟩:=pR_ N;exact znU nd hs j _ _ _ M ((hc j y).2 M (by omega))
 have hr:=fun j (y:j<nd.exprs.length)=>(hc j y).1;have N7:=fun N r=>rE N nd s i.m r;clear hc hm hs;obtain ⟨l,kd,S,U,V,w,W,u,⟨a,b,c,d⟩,we,el,O,ty,E,L,Z,Y⟩:=nd;dsimp only at GI hr hl hk ⊢;subst hk;generalize zU i.m.body=v at GK GI;have pa:=zhL (nIn:=0) (b:=aH 13 0) (H:=fun j=>mcH l S U V w W u a b c d we el O ty E Z L Y s i.m v j) (P:=Jm f) (r:=fun j=>mcR l S U V w W u a b c d we el O ty E Z L Y s i.m v ((OH f j).out true s i.m l)) (υ:=fun j=>mcH l S U V w W u a b c d we el O ty E Z L Y s i.m v (j+1)) (τ:=mcS l S U V w W u a b c d we el O ty E Z L Y s v i) (n:=E.length) (B:=B+200510) (e:=.exit 2) (fin:=mcE l S U V w W u a b c d we el O ty E Z L Y s i.m v E.length) (ZE ..)
  (fun j y A M hM=>by
   have J:=GI j y M (by omega);have hb:=hr j y;unfold Jm at A;unfold OH;generalize f j=p at J hb A ⊢;obtain ⟨g,er⟩:=p;obtain ⟨K,rfl⟩:∃K,M=K+10:=⟨M-10,by omega⟩;cases F:(er !=0) with
   |true=>exact znV (h1:=aK y) (GI:=J) (h2:=F) (EJ:=jE er hb (K+10) (by omega)) (N7:=N7 (K+9) _) ..
   |false=>
    have Q:g=true:=by dsimp only at A;rw [F] at A;simpa using A
    subst Q;exact znW (h1:=aK y) (GI:=J) (h2:=F) (zmn:=Cm (K+9) s i.m j) ..)
  (fun j y A=>⟨zdU ..,fun M hM=>by have J:=GI j y M (by omega);obtain ⟨F,Q⟩:=MS A;generalize f j=p at J F Q;obtain ⟨g,er⟩:=p;dsimp only at F Q;subst Q;exact ziK (h1:=aK y) (GI:=J) (h2:=F) (hn:=aB (j:=j) (by omega)) ..⟩)
  (fun M _=>znZ (h1:=aN (qat _)) ..) (by simp)
 rcases pa with ⟨j,y,A,hB,h⟩|⟨hF,h⟩;·refine ⟨OH f j,.inl ⟨j,y,A,hB,rfl⟩,fun N hN=>?_⟩;obtain ⟨M,rfl⟩:=pR_ N;exact znY (GK:=GK M (by omega)) (h:=h M (by omega) (by omega)) ..
 refine ⟨.rej zct,.inr ⟨hF,rfl⟩,fun N hN=>?_⟩;obtain ⟨M,rfl⟩:∃M,N=M+1+1:=⟨N-2,by omega⟩;exact znX (GK:=GK (M+1) (by omega)) (h:=h (M+1) (by omega) (by omega)) (N7:=N7 M zct) ..
end Ct
theorem YU (N:Nat)(v:Val)(n:Nat)(h1:1<=n)(h2:n<=16):Gam.aC (ah tab ext (N+500)) 77 [.agg v.cells,nat n]=some (.sl false 6 (List.replicate n v.cells)):=by
 obtain ⟨k,i,s,t,l,f⟩:=v;have h:n=1\/n=2\/n=3\/n=4\/n=5\/n=6\/n=7\/n=8\/n=9\/n=10\/n=11\/n=12\/n=13\/n=14\/n=15\/n=16:=by omega
 rcases h with rfl|rfl|rfl|rfl|rfl|rfl|rfl|rfl|rfl|rfl|rfl|rfl|rfl|rfl|rfl|rfl
 all_goals (show _=_;kernel_rfl)
theorem YT (N:Nat)(v:Val)(n:Nat)(h1:17<=n)(h2:n<=32):Gam.aC (ah tab ext (N+500)) 77 [.agg v.cells,nat n]=some (.sl false 6 (List.replicate n v.cells)):=by
 obtain ⟨k,i,s,t,l,f⟩:=v;have h:n=17\/n=18\/n=19\/n=20\/n=21\/n=22\/n=23\/n=24\/n=25\/n=26\/n=27\/n=28\/n=29\/n=30\/n=31\/n=32:=by omega
 rcases h with rfl|rfl|rfl|rfl|rfl|rfl|rfl|rfl|rfl|rfl|rfl|rfl|rfl|rfl|rfl|rfl
 all_goals (show _=_;kernel_rfl)
theorem YS (N:Nat)(v:Val)(n:Nat)(h1:33<=n)(h2:n<=48):Gam.aC (ah tab ext (N+500)) 77 [.agg v.cells,nat n]=some (.sl false 6 (List.replicate n v.cells)):=by
 obtain ⟨k,i,s,t,l,f⟩:=v;have h:n=33\/n=34\/n=35\/n=36\/n=37\/n=38\/n=39\/n=40\/n=41\/n=42\/n=43\/n=44\/n=45\/n=46\/n=47\/n=48:=by omega
 rcases h with rfl|rfl|rfl|rfl|rfl|rfl|rfl|rfl|rfl|rfl|rfl|rfl|rfl|rfl|rfl|rfl
 all_goals (show _=_;kernel_rfl)
theorem YR (N:Nat)(v:Val)(n:Nat)(h1:49<=n)(h2:n<=64):Gam.aC (ah tab ext (N+500)) 77 [.agg v.cells,nat n]=some (.sl false 6 (List.replicate n v.cells)):=by
 obtain ⟨k,i,s,t,l,f⟩:=v;have h:n=49\/n=50\/n=51\/n=52\/n=53\/n=54\/n=55\/n=56\/n=57\/n=58\/n=59\/n=60\/n=61\/n=62\/n=63\/n=64:=by omega
 rcases h with rfl|rfl|rfl|rfl|rfl|rfl|rfl|rfl|rfl|rfl|rfl|rfl|rfl|rfl|rfl|rfl
 all_goals (show _=_;kernel_rfl)
theorem zdp (v:Val)(n:Nat)(h1:1<=n)(h2:n<=64)(N:Nat)(hN:500<=N):Gam.aC (ah tab ext N) 77 [.agg v.cells,nat n]=some (.sl false 6 (List.replicate n v.cells)):=by
 obtain ⟨M,rfl⟩:∃M,N=M+500:=⟨N-500,by omega⟩
 grind[YU,YT,YS,YR]
theorem XD (m:Msg)(hm:m.ok)(v:Val)(hv:v.ok)(N:Nat)(hN:190010<=N):Gam.aC (ah tab ext N) 75 [.agg m.cells,.agg v.cells]=some (.agg ({m with body:=v}:Msg).cells):=by obtain ⟨M,rfl⟩:=pR_ N;have A:=iR M m hm (by omega);have B:=jy M v (by grind[Val.ok]) (by grind[Val.ok]);obtain ⟨⟨e,p⟩,a,o,⟨h,j,n,q,u,y⟩⟩:=m;obtain ⟨k,i,s,t,l,f⟩:=v;exact puA [(6,.p (.agg (Msg.mk ⟨e,p⟩ a o (.mk h j n q u y)).cells)),(8,.p (.agg (Val.mk k i s t l f).cells))] (pf2 A B) (.agg (Msg.mk ⟨e,p⟩ a o (.mk k i s t l f)).cells)
theorem yt (p:List Int)(k:Int):aI p++[[num k]]=aI (p++[k]):=by
 induction p with
 |nil=>rfl
 |cons a r ih=>exact congrArg (([num a])::·) ih
theorem zg1 (M:Nat)(e k:Int)(l:qaX)(n:Nat)(h1:ah tab ext (M+1) (.fn 45) [.sl false 1 l] []=some (.bs 0 0 n,[.row 1 l]))(hn:n=l.length)(hb:n<1000000):Gam.aC (ah tab ext (M+2)) 106 [.agg [num e,.sl false 1 l],num k]=some (X.agg [num e,.sl false 1 (l++[[num k]])]):=by refine eU [(9,.o (.bs 0 0 n) [.row 1 l]),(12,.app)] [] (pf2 h1 (dO n 0 8 hn hb (by omega))) (x:=.agg [num e,.bs 0 0 (n+1)]) (bx:=[.row 1 (l++[[num k]])]) (by kernel_rfl) ?_;have a:rowOf [.row 1 (l++[[num k]])] 0 0 (n+1)=some (1,l++[[num k]]):=jZ rfl (by rw [qaw];simp [hn])<;>simp_all[num,X.data,eG]
theorem UA (s:Stp)(hs:s.ok)(k:Int)(N:Nat)(hN:10<=N):Gam.aC (ah tab ext N) 106 [.agg s.cells,num k]=some (.agg (Stp.mk s.e (s.p++[k])).cells):=by obtain ⟨M,rfl⟩:∃M,N=M+2:=⟨N-2,by omega⟩;have h:=zg1 M s.e k (aI s.p) s.p.length (NH M s.p hs.p) (bI s.p).symm (by have:=hs.p;omega);rw [yt] at h;exact h
def OE:C->List (C×C)
 |.seq a b|.cond _ a b=>OE a++OE b
 |.block _ b|.loop b=>OE b
 |.rf _ _ _ a b=>(a,b)::(OE a++OE b)
 |_=>[]
noncomputable def paA:C:=((OE (Ht tab 76)).getD 0 (.skip,.skip)).1
noncomputable def paB:C:=((OE (Ht tab 76)).getD 0 (.skip,.skip)).2
noncomputable def zik:Bx:=.loop .ready none [(2,.ptr 1 0 0),(3,.ptr 2 0 0),(5,.ptr 3 0 0)] [14,15] paA paB
def iM (ms:Int)(n j:Nat):Int:=if Int.ofNat j<ms.tmod (Int.ofNat n) then IntKind.i64.wrap (IntKind.i64.wrap (ms.tdiv (Int.ofNat n))+1) else IntKind.i64.wrap (ms.tdiv (Int.ofNat n))
def zM (m:Msg)(b:Val)(n j:Nat):Msg:=⟨⟨m.st.e,m.st.p++[Int.ofNat j]⟩,iM m.qC n j,m.orig,b⟩
def zbr:Val:=.mk 0 0 0 ⟨#[]⟩ [] []
def iP (m:Msg)(bs:List Val)(k:Nat):List Msg:=(List.range k).map fun j=>zM m (bs.getD j zbr) bs.length j
theorem vY (m:Msg)(bs:List Val)(k:Nat):(aP (iP m bs k)).length=k:=by grind[iP,aP]
theorem BO (m:Msg)(bs:List Val)(k:Nat):aP (iP m bs (k+1))=aP (iP m bs k)++[(zM m (bs.getD k zbr) bs.length k).cells]:=by grind[iP,aP,List.range_succ]
theorem Ov (N:Nat)(a b:Int):Gam.aC (ah tab ext (N+2)) 105 [num a,num b]=some (.fn 155 [.dp [num b],.dp [num a]]):=by kernel_rfl
section
variable (mc:List X) (vs:qaX) (j:Nat) (outs:qaX)
noncomputable def paS:List Bx:=[zik,.var mc,.var [.sl false 6 vs],.var [.bs 4 0 j],.row 10 outs]
noncomputable def paI:List Bx:=[zik,.var mc,.var [.sl false 6 vs],.var [.bs 5 0 j],.dead,.row 10 outs]
noncomputable def paO:List Bx:=[zik,.var mc,.var [.sl false 6 vs],.var [.bs 6 0 j],.dead,.dead,.row 10 outs]
end
theorem zdB (N:Nat)(hN:190010<=N)(m:Msg)(hm:m.ok)(b:Val)(hb:b.ok)(vs outs:qaX)(sh:Int)(j:Nat)(hv:vs[j]?=some b.cells)(hj:j<4000)(ho:j=outs.length):
  ah tab ext (N+1) .yl [.yl 0,nat j,num sh] (paS m.cells vs j outs)=some (.v (.bool true),paI m.cells vs (j+1) (outs++[(Msg.mk ⟨m.st.e,m.st.p++[Int.ofNat j]⟩ sh m.orig b).cells])):=by
 have y:=XD m hm b hb N hN;have a:=UA m.st hm.st (Int.ofNat j) N (by omega);obtain ⟨⟨e,p⟩,A,o,⟨B,E,F,H,J,L⟩⟩:=m;obtain ⟨f,h,l,n,q,u⟩:=b;dsimp only at a ⊢;generalize p++[Int.ofNat j]=sp at a ⊢;exact yiA [(19,.e (Val.mk f h l n q u).cells),(21,.p (.agg (Msg.mk ⟨e,p⟩ A o (.mk f h l n q u)).cells)),(25,.p (.agg (Stp.mk e sp).cells)),(32,.app)] (pf4 hv y a (dO j 4 152 ho (by omega) (by omega)))
def zl6 (n:Nat)(ms:Int)(j:Nat):List (Nat×X):=[(0,.yl 0),(1,.dp [nat n]),(2,.dp [num ms]),(6,nat n),(7,nat j)]
def mX (e:Int)(p:qaX)(ms:Int)(o:qaX)(a1 a2 a3:Int)(a4:qaY)(a5 a6:qaX):List X:=[num e,.sl false 1 p,num ms,.sl false 1 o,num a1,num a2,num a3,aF a4,.sl false 6 a5,.sl false 7 a6]
section
variable (e:Int) (p:qaX) (q:Int) (o:qaX) (a1 a2 a3:Int) (a4:qaY) (a5 a6:qaX) (vs:qaX) (n k:Nat) (ms:Int) (j:Nat) (outs:qaX)
noncomputable def sh0:St:=⟨zl6 n ms 0,paS (mX e p q o a1 a2 a3 a4 a5 a6) vs 0 []⟩
noncomputable def shH:St:=⟨zl6 n ms j,paI (mX e p q o a1 a2 a3 a4 a5 a6) vs j outs⟩
noncomputable def ztB:St:=⟨zl6 n ms j,paO (mX e p q o a1 a2 a3 a4 a5 a6) vs j outs⟩
theorem YH:canon 5 (sh0 e p q o a1 a2 a3 a4 a5 a6 vs n ms)=some (sh0 e p q o a1 a2 a3 a4 a5 a6 vs n ms):=by kernel_rfl
theorem zdh:canon 5 (shH e p q o a1 a2 a3 a4 a5 a6 vs n ms j outs)=some (shH e p q o a1 a2 a3 a4 a5 a6 vs n ms j outs):=by kernel_rfl
theorem YI:canon 5 (ztB e p q o a1 a2 a3 a4 a5 a6 vs n ms j outs)=some (shH e p q o a1 a2 a3 a4 a5 a6 vs n ms j outs):=by kernel_rfl
theorem zdg (N:Nat)(x:List X)(hk:j<k+1)(hj:j<4000)(hy:ah tab ext N .yl [.yl 0,nat j,num (iM ms (k+1) j)] (paS (mX e p q o a1 a2 a3 a4 a5 a6) vs j outs)=some (.v (.bool true),paI (mX e p q o a1 a2 a3 a4 a5 a6) vs (j+1) (outs++[x]))):
  run (ah tab ext N) 5 N (aH 155 0) (shH e p q o a1 a2 a3 a4 a5 a6 vs (k+1) ms j outs)=some (.norm,ztB e p q o a1 a2 a3 a4 a5 a6 vs (k+1) ms (j+1) (outs++[x])):=by
 unfold iM at hy;generalize outs++[x]=o1 at hy ⊢;cases h:decide (Int.ofNat j<ms.tmod (Int.ofNat (k+1))) with
 |true=>rw [if_pos (of_decide_eq_true h)] at hy;exact ruA [(8,.b true),(17,.b true),(23,.r (.v (.bool true)) (paI (mX e p q o a1 a2 a3 a4 a5 a6) vs (j+1) o1)),(25,.i (Int.ofNat (j+1)))] (pf4 (aK hk) h hy (aB (j:=j) (by omega)))
 |false=>rw [if_neg (of_decide_eq_false h)] at hy;exact ruA [(8,.b true),(17,.b false),(23,.r (.v (.bool true)) (paI (mX e p q o a1 a2 a3 a4 a5 a6) vs (j+1) o1)),(25,.i (Int.ofNat (j+1)))] (pf4 (aK hk) h hy (aB (j:=j) (by omega)))
theorem YG (N:Nat)(x:List X)(hy:ah tab ext N .yl [.yl 0,nat 0,num (iM ms (k+1) 0)] (paS (mX e p q o a1 a2 a3 a4 a5 a6) vs 0 [])=some (.v (.bool true),paI (mX e p q o a1 a2 a3 a4 a5 a6) vs 1 [x])):
  run (ah tab ext N) 5 N (aH 155 0) (sh0 e p q o a1 a2 a3 a4 a5 a6 vs (k+1) ms)=some (.norm,shH e p q o a1 a2 a3 a4 a5 a6 vs (k+1) ms 1 [x]):=by
 unfold iM at hy;cases h:decide (Int.ofNat 0<ms.tmod (Int.ofNat (k+1))) with
 |true=>rw [if_pos (of_decide_eq_true h)] at hy;exact ruA [(8,.b true),(17,.b true),(23,.r (.v (.bool true)) (paI (mX e p q o a1 a2 a3 a4 a5 a6) vs 1 [x])),(25,.i (Int.ofNat 1))] (pf4 (aK (j:=0) (k:=k+1) (by omega)) h hy (aB (j:=0) (by omega)))
 |false=>rw [if_neg (of_decide_eq_false h)] at hy;exact ruA [(8,.b true),(17,.b false),(23,.r (.v (.bool true)) (paI (mX e p q o a1 a2 a3 a4 a5 a6) vs 1 [x])),(25,.i (Int.ofNat 1))] (pf4 (aK (j:=0) (k:=k+1) (by omega)) h hy (aB (j:=0) (by omega)))
theorem zm8 (N:Nat):run (ah tab ext N) 5 N (aH 155 0) (shH e p q o a1 a2 a3 a4 a5 a6 vs (k+1) ms (k+1) outs)=some (.exit 0,⟨zl6 (k+1) ms (k+1)++[(8,.v (.bool false))],paI (mX e p q o a1 a2 a3 a4 a5 a6) vs (k+1) outs⟩):=
 ruA [(8,.b false)] (pf1 (aN (j:=k+1) (k:=k+1) (by omega)))
end
theorem Uc (m:Msg):∃a1 a2 a3 a4 a5 a6,m.cells=mX m.st.e (aI m.st.p) m.qC (aI m.orig) a1 a2 a3 a4 a5 a6:=by obtain ⟨⟨e,p⟩,a,o,⟨a1,a2,a3,a4,a5,a6⟩⟩:=m;exact ⟨a1,a2,a3,a4,au a5,aA a6,rfl⟩
theorem XG {j:Nat}(h:j<bs.length):(au bs)[j]?=some (bs.getD j zbr).cells:=by grind[gB]
theorem XF {j:Nat}(h:j<bs.length):bs.getD j zbr∈bs:=by grind
theorem Zb (N:Nat)(hN:190020<=N)(m:Msg)(hm:m.ok)(bs:List Val)(hb:∀b,b∈bs->b.ok)(k:Nat)(hk:bs.length=k+1)(hk2:k<3000):
  ah tab ext (N+1) (.fn 155) [.yl 0,.dp [nat (k+1)],.dp [num m.qC]] (paS m.cells (au bs) 0 [])=some (.tup [],paI m.cells (au bs) (k+1) (aP (iP m bs (k+1)))):=by
 obtain ⟨M,rfl⟩:=pR_ N;have hy:∀j,j<k+1->ah tab ext (M+1) .yl [.yl 0,nat j,num (iM m.qC (k+1) j)] (paS m.cells (au bs) j (aP (iP m bs j)))=some (.v (.bool true),paI m.cells (au bs) (j+1) (aP (iP m bs (j+1)))):=by intro j hj;have h:=zdB M (by omega) m hm (bs.getD j zbr) (hb _ (XF (by omega))) (au bs) (aP (iP m bs j)) (iM m.qC (k+1) j) j (XG (by omega)) (by omega) (vY _ _ _).symm;rw [BO,hk];exact h
 have A:aP (iP m bs 0)=[]:=rfl;obtain ⟨f,l,n,q,u,y,E⟩:=Uc m;rw [E] at hy ⊢;have B:∀j,aP (iP m bs (j+1))=aP (iP m bs j)++[(zM m (bs.getD j zbr) bs.length j).cells]:=BO m bs;generalize m.qC=ms at hy ⊢;generalize m.st.e=e at hy ⊢;generalize aI m.st.p=p at hy ⊢;generalize aI m.orig=o at hy ⊢;have a:run (ah tab ext (M+1)) 5 (M+1) (.loop (aH 155 0)) (sh0 e p ms o f l n q u y (au bs) (k+1) ms)=some (.exit 0,⟨zl6 (k+1) ms (k+1)++[(8,.v (.bool false))],paI (mX e p ms o f l n q u y) (au bs) (k+1) (aP (iP m bs (k+1)))⟩):=by
  refine bF (σ:=fun j=>match j with
   |0=>sh0 e p ms o f l n q u y (au bs) (k+1) ms
   |j+1=>shH e p ms o f l n q u y (au bs) (k+1) ms (j+1) (aP (iP m bs (j+1)))) (k:=k+1) (YH ..) (fun j hj=>?_) (zm8 ..) (by simp) (by omega)
  match j with
  |0=>have h:=hy 0 (by omega);rw [A,B 0,A] at h;refine ⟨_,YG (hy:=h) ..,?_⟩<;>grind[zdh]
  |j+1=>have h:=hy (j+1) hj;rw [B (j+1)] at h;refine ⟨_,zdg (hk:=hj) (hj:=by omega) (hy:=h) ..,?_⟩<;>grind[YI]
 generalize aP (iP m bs (k+1))=o1 at a ⊢;exact caB [] [(.exit 0,⟨zl6 (k+1) ms (k+1)++[(8,.v (.bool false))],paI (mX e p ms o f l n q u y) (au bs) (k+1) o1⟩)] (pf1 a)
section
variable (e:Int) (p:qaX) (q:Int) (o:qaX) (a1 a2 a3:Int) (a4:qaY) (a5 a6:qaX) (vs:qaX) (n:Nat) (ms:Int) (outs:qaX)
noncomputable def zvK:Bx:=.loop .ready none [(2,.ptr 0 0 0),(3,.ptr 1 0 0),(5,.ptr 2 0 0)] [14,15] paA paB
def ztH:List (Nat×X):=[(2,.ptr 0 0 0),(3,.ptr 1 0 0),(5,.ptr 2 0 0),(13,.fn 155 [.dp [nat n],.dp [num ms]])]
def ztI:St:=⟨ztH n ms,[.var (mX e p q o a1 a2 a3 a4 a5 a6),.var [.sl false 6 vs],.var [.bs 3 0 0],.row 10 []]⟩
def zij:St:=⟨ztH n ms,[.var (mX e p q o a1 a2 a3 a4 a5 a6),.var [.sl false 6 vs],.var [.bs 5 0 n],.dead,.dead,.row 10 outs]⟩
theorem zqQ (N:Nat)(hy:ah tab ext N (.fn 155) [.yl 0,.dp [nat n],.dp [num ms]] (paS (mX e p q o a1 a2 a3 a4 a5 a6) vs 0 [])=some (.tup [],paI (mX e p q o a1 a2 a3 a4 a5 a6) vs n outs)):
  run (ah tab ext N) 0 N (.rf (.t 13) [14,15] [2,3,5] paA paB) (ztI e p q o a1 a2 a3 a4 a5 a6 vs n ms)=some (.norm,zij e p q o a1 a2 a3 a4 a5 a6 vs n ms outs):=
 Vk (g:=155) (caps:=[.dp [nat n],.dp [num ms]]) (y:=.tup []) (outb:=paI (mX e p q o a1 a2 a3 a4 a5 a6) vs n outs)
  (q:=(.tup [],[.var (mX e p q o a1 a2 a3 a4 a5 a6),.var [.sl false 6 vs],.var [.bs 5 0 n],.dead,zvK,.row 10 outs],[4,0,1,2,3])) hy (by kernel_rfl) (by kernel_rfl) (by kernel_rfl)
theorem zii (N:Nat)(hl:vs.length=n)(h1:Gam.aC (ah tab ext N) 105 [num q,nat vs.length]=some (.fn 155 [.dp [nat vs.length],.dp [num q]]))(hrf:run (ah tab ext N) 0 N (.rf (.t 13) [14,15] [2,3,5] paA paB) (ztI e p q o a1 a2 a3 a4 a5 a6 vs n q)=some (.norm,zij e p q o a1 a2 a3 a4 a5 a6 vs n q outs))(ho:outs.length=n):
  Gam.aC (ah tab ext (N+1)) 76 [.agg (mX e p q o a1 a2 a3 a4 a5 a6),.sl false 6 vs]=some (.sl false 10 outs):=by
 subst hl;refine eU [(13,.p (.fn 155 [.dp [nat vs.length],.dp [num q]]))] [(.norm,zij e p q o a1 a2 a3 a4 a5 a6 vs vs.length q outs)] (pf2 h1 hrf) (x:=.bs 0 0 vs.length) (bx:=[.row 10 outs]) (by kernel_rfl) ?_;simp [X.data,jZ (bx:=[.row 10 outs]) (i:=0) (n:=vs.length) rfl ho.symm]
end
theorem O6 (N:Nat)(hN:190030<=N)(m:Msg)(hm:m.ok)(bs:List Val)(hb:∀b,b∈bs->b.ok)(h0:0<bs.length)(h1:bs.length<3000):
  Gam.aC (ah tab ext N) 76 [.agg m.cells,.sl false 6 (au bs)]=some (.sl false 10 (aP (iP m bs bs.length))):=by
 obtain ⟨M,rfl⟩:∃M,N=M+2:=⟨N-2,by omega⟩;obtain ⟨k,f⟩:∃k,bs.length=k+1:=⟨bs.length-1,by omega⟩;have a:=Zb M (by omega) m hm bs hb k f (by omega);have j:=aS bs;have l:=vY m bs bs.length;rw [<-f] at a;obtain ⟨K,rfl⟩:=pR_ M;have n:=Ov K m.qC (nat (au bs).length|>fun _=>Int.ofNat (au bs).length);obtain ⟨q,u,y,A,B,E,h⟩:=Uc m;rw [h] at a ⊢;exact zii _ _ _ _ _ _ _ _ _ _ _ _ _ _ j n (zqQ _ _ _ _ _ _ _ _ _ _ _ _ _ _ _ a) l
theorem AV {ss:List Stp}{j:Nat}(h:j<ss.length):bY (ss.take (j+1))=bY (ss.take j)++[(ss[j]).cells]:=by grind[List.take_add_one,bY]
section
variable (N n j:Nat) (ms ss:qaX) (e q:Int) (p o:qaX) (a1 a2 a3:Int) (a4:qaY) (a5 a6:qaX)
def smH:St:=⟨[(3,.bs 0 0 j),(6,.sl false 10 ms),(7,nat n),(8,nat j)],[.row 2 ss]⟩
def ztA (mc:List X):St:=⟨[(3,.bs 2 0 (j+1)),(6,.sl false 10 ms),(7,nat n),(8,nat (j+1))],[.dead,.var mc,.row 2 ss]⟩
theorem zdb:canon 0 (smH n j ms ss)=some (smH n j ms ss):=by kernel_rfl
theorem Yi:canon 0 (ztA n j ms ss [num e,.sl false 1 p,num q,.sl false 1 o,num a1,num a2,num a3,aF a4,.sl false 6 a5,.sl false 7 a6])=some (smH n (j+1) ms ss):=by kernel_rfl
theorem zhD (hi:ms[j]?=some [num e,.sl false 1 p,num q,.sl false 1 o,num a1,num a2,num a3,aF a4,.sl false 6 a5,.sl false 7 a6])(h1:Gam.aC (ah tab ext N) 44 [.agg [num e,.sl false 1 p]]=some (.agg [num e,.sl false 1 p]))(hj:j<n)(hl:n<100000)(hs:j=ss.length):
  run (ah tab ext N) 0 N (aH 23 0) (smH n j ms ss)=some (.norm,ztA n j ms (ss++[[num e,.sl false 1 p]]) [num e,.sl false 1 p,num q,.sl false 1 o,num a1,num a2,num a3,aF a4,.sl false 6 a5,.sl false 7 a6]):=
 ruA [(9,.b true),(10,.e [num e,.sl false 1 p,num q,.sl false 1 o,num a1,num a2,num a3,aF a4,.sl false 6 a5,.sl false 7 a6]),(15,.p (.agg [num e,.sl false 1 p])),(17,.app),(18,.i (Int.ofNat (j+1)))] (pf5 (aK hj) hi h1 (dO j 0 32 hs (by omega) (by omega)) (aB (j:=j) (by omega)))
theorem zmS:run (ah tab ext N) 0 N (aH 23 0) (smH n n ms ss)=some (.exit 0,⟨[(3,.bs 0 0 n),(6,.sl false 10 ms),(7,nat n),(8,nat n),(9,.v (.bool false))],[.row 2 ss]⟩):=
 ruA [(9,.b false)] (pf1 (aN (j:=n) (k:=n) (by omega)))
end
def dV (ms:List Msg):List Stp:=ms.map (·.st)
theorem KQ {ms:List Msg}{j:Nat}(h:j<ms.length):bY (dV (ms.take (j+1)))=bY (dV (ms.take j))++[(ms[j]).st.cells]:=by grind[List.take_add_one,bY,dV]
theorem Oq (N:Nat)(ms:List Msg)(hm:∀m,m∈ms->m.ok)(h0:0<ms.length)(hl:ms.length<50000)(hN:ms.length+10<=N):Gam.aC (ah tab ext N) 23 [.sl false 10 (aP ms)]=some (.sl false 2 (bY (dV ms))):=by
 obtain ⟨M,rfl⟩:∃M,N=M+3:=⟨N-3,by omega⟩;have f:=fO ms;have a:run (ah tab ext (M+2)) 0 (M+2) (.loop (aH 23 0)) (smH ms.length 0 (aP ms) [])=some (.exit 0,⟨[(3,.bs 0 0 ms.length),(6,.sl false 10 (aP ms)),(7,nat ms.length),(8,nat ms.length),(9,.v (.bool false))],[.row 2 (bY (dV ms))]⟩):=by
  refine bF (σ:=fun j=>smH ms.length j (aP ms) (bY (dV (ms.take j)))) (k:=ms.length) (zdb ..) (fun j hj=>?_) ?_ (by simp) (by omega);·have h:=lW M (ms[j]).st (hm _ (qag hj)).st;have l:=rD hj;have u:=KQ hj;generalize ms[j]=q at h l u;obtain ⟨⟨e,p⟩,w,o,⟨y,A,B,E,F,H⟩⟩:=q;refine ⟨_,zhD (hi:=l) (h1:=h) (hj:=hj) (hl:=by omega) (hs:=by grind[bY,dV]) ..,?_⟩;rw [u];exact Yi ..
  ·grind[zmS]
 rw [<-f] at a;have hs:(bY (dV ms)).length=(aP ms).length:=by simp [bY,dV,aP]
 generalize bY (dV ms)=so at a hs ⊢;generalize aP ms=mc at a hs ⊢;refine eU [] [(.exit 0,⟨[(3,.bs 0 0 mc.length),(6,.sl false 10 mc),(7,nat mc.length),(8,nat mc.length),(9,.v (.bool false))],[.row 2 so]⟩)] (pf1 a) (x:=.bs 0 0 mc.length) (bx:=[.row 2 so]) (by kernel_rfl) ?_;simp [X.data,jZ (bx:=[.row 2 so]) (i:=0) (n:=mc.length) rfl hs.symm]
section
variable (N n j:Nat) (e k:Int) (p:qaX) (nm:qaY) (l ss:qaX) (se:Int) (sp:qaX)
def itH:St:=⟨[(0,.ptr 0 0 0),(5,.sl false 2 l),(6,nat n),(7,nat j)],[.var [num e,.sl false 1 p,num k,aF nm,.bs 1 0 j,bD],.row 2 ss]⟩
def ztO:St:=⟨[(0,.ptr 0 0 0),(5,.sl false 2 l),(6,nat n),(7,nat (j+1))],[.var [num e,.sl false 1 p,num k,aF nm,.bs 3 0 (j+1),bD],.dead,.var [num se,.sl false 1 sp],.row 2 ss]⟩
theorem Jf:canon 1 (itH n j e k p nm l ss)=some (itH n j e k p nm l ss):=by kernel_rfl
theorem CZ:canon 1 (ztO n j e k p nm l ss se sp)=some (itH n (j+1) e k p nm l ss):=by kernel_rfl
theorem Pq (hi:l[j]?=some [num se,.sl false 1 sp])(h1:Gam.aC (ah tab ext N) 44 [.agg [num se,.sl false 1 sp]]=some (.agg [num se,.sl false 1 sp]))(hj:j<n)(hl:n<100000)(hs:j=ss.length):
  run (ah tab ext N) 1 N (aH 78 0) (itH n j e k p nm l ss)=some (.norm,ztO n j e k p nm l (ss++[[num se,.sl false 1 sp]]) se sp):=
 ruA [(8,.b true),(9,.e [num se,.sl false 1 sp]),(17,.p (.agg [num se,.sl false 1 sp])),(19,.app),(22,.i (Int.ofNat (j+1)))] (pf5 (aK hj) hi h1 (dO j 1 32 hs (by omega) (by omega)) (aB (j:=j) (by omega)))
theorem ZU:run (ah tab ext N) 1 N (aH 78 0) (itH n n e k p nm l ss)=some (.exit 0,⟨[(0,.ptr 0 0 0),(5,.sl false 2 l),(6,nat n),(7,nat n),(8,.v (.bool false))],[.var [num e,.sl false 1 p,num k,aF nm,.bs 1 0 n,bD],.row 2 ss]⟩):=
 ruA [(8,.b false)] (pf1 (aN (j:=n) (k:=n) (by omega)))
end
theorem ZW (N:Nat)(ss:List Stp)(hs:∀s,s∈ss->s.ok)(hl:ss.length<50000)(hN:ss.length+10<=N)(e k:Int)(p:qaX)(nm:qaY):
  ah tab ext N (.fn 78) [.ptr 0 0 0,.dp [.sl false 2 (bY ss)]] [.var [num e,.sl false 1 p,num k,aF nm,.sl true 2 [],bD]]=some (.tup [],[.var [num e,.sl false 1 p,num k,aF nm,.bs 1 0 ss.length,bD],.row 2 (bY ss)]):=by
 obtain ⟨M,rfl⟩:∃M,N=M+3:=⟨N-3,by omega⟩;have f:=qH ss;have a:run (ah tab ext (M+2)) 1 (M+2) (.loop (aH 78 0)) (itH ss.length 0 e k p nm (bY ss) [])=some (.exit 0,⟨[(0,.ptr 0 0 0),(5,.sl false 2 (bY ss)),(6,nat ss.length),(7,nat ss.length),(8,.v (.bool false))],[.var [num e,.sl false 1 p,num k,aF nm,.bs 1 0 ss.length,bD],.row 2 (bY ss)]⟩):=by
  refine bF (σ:=fun j=>itH ss.length j e k p nm (bY ss) (bY (ss.take j))) (k:=ss.length) (Jf ..) (fun j hj=>?_) ?_ (by simp) (by omega);·have h:=lW M ss[j] (hs _ (qag hj));have l:=KL hj;have m:=AV hj;generalize ss[j]=q at h l m;obtain ⟨n,u⟩:=q;refine ⟨_,Pq (hi:=l) (h1:=h) (hj:=hj) (hl:=by omega) (hs:=by grind[bY]) ..,?_⟩;rw [m];exact CZ ..
  ·grind[ZU]
 rw [<-f] at a ⊢;generalize bY ss=so at a ⊢;exact caB [] [(.exit 0,⟨[(0,.ptr 0 0 0),(5,.sl false 2 so),(6,nat so.length),(7,nat so.length),(8,.v (.bool false))],[.var [num e,.sl false 1 p,num k,aF nm,.bs 1 0 so.length,bD],.row 2 so]⟩)] (pf1 a)
theorem zox (N:Nat)(e q:Int)(p o:qaX)(a1 a2 a3:Int)(a4:qaY)(a5 a6:qaX)(nm:qaY)(l:qaX)(h1:Gam.aC (ah tab ext (N+5)) 44 [.agg [num e,.sl false 1 p]]=some (.agg [num e,.sl false 1 p]))
  (h2:ah tab ext (N+5) (.fn 78) [.ptr 0 0 0,.dp [.sl false 2 l]] [.var [num e,.sl false 1 p,num 1,aF nm,.sl true 2 [],bD]]=some (.tup [],[.var [num e,.sl false 1 p,num 1,aF nm,.bs 1 0 l.length,bD],.row 2 l])):
  Gam.aC (ah tab ext (N+6)) 53 [.agg [num e,.sl false 1 p,num q,.sl false 1 o,num a1,num a2,num a3,aF a4,.sl false 6 a5,.sl false 7 a6],aF nm,num 1,.sl false 1 [[.fn 78 [.dp [.sl false 2 l]]]]]=some (.agg [num e,.sl false 1 p,num 1,aF nm,.sl false 2 l,bD]):=by
 refine eU [(14,.p (.agg [num e,.sl false 1 p])),(25,.r (.tup []) [.var [num e,.sl false 1 p,num 1,aF nm,.bs 1 0 l.length,bD],.row 2 l])] [] (pf2 h1 h2) (x:=.agg [num e,.sl false 1 p,num 1,aF nm,.bs 0 0 l.length,bD]) (bx:=[.row 2 l]) (by kernel_rfl) ?_;have a:=jZ (bx:=[.row 2 l]) (i:=0) (n:=l.length) rfl rfl<;>simp_all[X.data,eG,num,aF,bD]
theorem IL (N:Nat)(m:Msg)(h:m.st.ok)(nm:qaY)(ss:List Stp)(hs:∀s,s∈ss->s.ok)(hl:ss.length<50000)(hN:ss.length+30<=N):Gam.aC (ah tab ext N) 22 [.agg m.cells,aF nm,.sl false 2 (bY ss)]=some (.agg (Fte.mk m.st 1 nm ss ⟨#[]⟩).cells):=by obtain ⟨M,rfl⟩:∃M,N=M+12:=⟨N-12,by omega⟩;have B:=lW (M+8) m.st h;have a:=ZW (M+10) ss hs hl (by omega) m.st.e 1 (aI m.st.p) nm;rw [<-qH ss] at a;obtain ⟨⟨e,p⟩,w,o,⟨j,n,q,u,y,A⟩⟩:=m;have f:=zox (M+5) e w (aI p) (aI o) j n q u (au y) (aA A) nm (bY ss) B a;show _=some (X.agg [num e,.sl false 1 (aI p),num 1,aF nm,.sl false 2 (bY ss),bD]);generalize bY ss=l at f ⊢;exact puA [(12,.p (.agg [num e,.sl false 1 (aI p),num 1,aF nm,.sl false 2 l,bD]))] (pf1 f) (.agg [num e,.sl false 1 (aI p),num 1,aF nm,.sl false 2 l,bD])
theorem zW (n:Nat)(v:Val):au (List.replicate n v)=List.replicate n v.cells:=by
 induction n with
 |zero=>rfl
 |succ n ih=>exact congrArg (v.cells::·) ih
def dZ (m:Msg)(n:Nat):List Msg:=iP m (List.replicate n m.body) n
theorem QK (N:Nat)(hN:190030<=N)(m:Msg)(hm:m.ok)(n:Nat)(h0:0<n)(h1:n<3000):
  Gam.aC (ah tab ext N) 76 [.agg m.cells,.sl false 6 (List.replicate n m.body.cells)]=some (.sl false 10 (aP (dZ m n))):=by
 have h:=O6 N hN m hm (List.replicate n m.body) (fun b a=>by rw [List.eq_of_mem_replicate a];exact hm.body) (by grind) (by grind);rw [zW,List.length_replicate] at h;exact h
theorem Ez (nd:Nod)(n:Nat)(hn:nd.number=Int.ofNat n)(h0:0<n)(h1:n<=64)(m:Msg)(hm:m.ok)(N:Nat)(hN:190100<=N):
  Gam.aC (ah tab ext N) 50 [.agg nd.cells,.agg m.cells]=some (.agg [.sl false 10 (aP (dZ m n)),num 0,aj true,bD]):=by
 obtain ⟨M,rfl⟩:=pR_ N;have j:=zdp m.body n h0 h1 M (by omega);have h:=QK M (by omega) m hm n h0 (by omega);have J:decide (Int.ofNat n<1)=false:=decide_eq_false (by grind);have L:decide (Int.ofNat n>64)=false:=decide_eq_false (by grind);obtain ⟨l,Q,S,U,w,V,W,u,⟨a,b,c,d⟩,we,el,f,ty,P,O,Z,Y⟩:=nd;dsimp only at hn;subst hn;generalize aP (dZ m n)=ms at h ⊢;obtain ⟨⟨e,p⟩,q,o,⟨y,A,B,E,F,H⟩⟩:=m;dsimp only at j h;generalize List.replicate n (Val.mk y A B E F H).cells=vs at j h;exact puA [(7,.b false),(11,.b false),(21,.p (.sl false 6 vs)),(22,.p (.sl false 10 ms))] (pf4 J L j h) (.agg ([.sl false 10 ms,num 0,aj true,bD]))
theorem I8 (nd:Nod)(hn:nd.number<1\/64<nd.number)(m:Msg)(N:Nat)(hN:100<=N):
  Gam.aC (ah tab ext N) 50 [.agg nd.cells,.agg m.cells]=some (.agg [.sl false 10 [],num 0,aj false,aF ⟨#[117,110,114,111,117,116,97,98,108,101]⟩]):=by
 obtain ⟨M,rfl⟩:∃M,N=M+90:=⟨N-90,by omega⟩;obtain ⟨j,L,O,P,w,Q,S,l,⟨a,b,c,d⟩,Y,el,f,W,J,H,V,U⟩:=nd;obtain ⟨⟨e,p⟩,q,o,⟨u,y,A,B,E,F⟩⟩:=m;dsimp only at hn;cases h:decide (w<1) with
 |true=>exact puA [(7,.b true)] (pf1 h) (.agg ([.sl false 10 [],num 0,aj false,aF ⟨#[117,110,114,111,117,116,97,98,108,101]⟩]))
 |false=>have n:decide (w>64)=true:=decide_eq_true (by grind);exact puA [(7,.b false),(11,.b true)] (pf2 h n) (.agg ([.sl false 10 [],num 0,aj false,aF ⟨#[117,110,114,111,117,116,97,98,108,101]⟩]))
def zcc (ms:qaX)(j:Nat):qaX:=(List.range j).map fun i=>nat i::ms.getD i []
theorem BZ (ms:qaX)(j:Nat):(zcc ms j).length=j:=by simp [zcc]
theorem Zd (ms:qaX)(j:Nat):zcc ms (j+1)=zcc ms j++[nat j::ms.getD j []]:=by grind[zcc,List.range_succ]
section
variable (N:Nat) (nd:Nod) (a b:Int) (ss:qaX) (e q:Int) (p o:qaX) (a1 a2 a3:Int) (a4:qaY) (a5 a6:qaX) (ms:qaX) (n j:Nat) (outs:qaX) (be bq:Int) (bp bo:qaX) (b1 b2 b3:Int) (b4:qaY) (b5 b6:qaX)
def zl9:List (Nat×X):=[(3,.ptr 0 0 0),(6,.ptr 1 0 0),(7,.ptr 2 0 0),(8,.ptr 3 0 0),(11,.ptr 4 0 0),(66,.sl false 10 ms),(67,nat n),(68,nat j)]
def ztK:List X:=[num 0,num 0,.sl true 10 [],.sl true 11 [],.sl true 11 [],.sl true 6 [],.sl true 10 []]
def zma (k:Nat):List Bx:=[.var nd.cells,.var ztK,.var [num a,num b,.sl false 10 ss,.bs k 0 j,.sl true 11 [],.sl true 6 [],.sl true 10 []],.var (mX e p q o a1 a2 a3 a4 a5 a6),.var [.sl false 10 ms,num 0,aj true,bD]]
def rsH:St:=⟨zl9 ms n j,zma nd a b ss e q p o a1 a2 a3 a4 a5 a6 ms j 5++[.row 11 outs]⟩
def ztD:St:=⟨zl9 ms n (j+1),zma nd a b ss e q p o a1 a2 a3 a4 a5 a6 ms (j+1) 7++[.dead,.var (mX be bp bq bo b1 b2 b3 b4 b5 b6),.row 11 outs]⟩
theorem zdm:canon 0 (rsH nd a b ss e q p o a1 a2 a3 a4 a5 a6 ms n j outs)=some (rsH nd a b ss e q p o a1 a2 a3 a4 a5 a6 ms n j outs):=by kernel_rfl
theorem YM:canon 0 (ztD nd a b ss e q p o a1 a2 a3 a4 a5 a6 ms n j outs be bq bp bo b1 b2 b3 b4 b5 b6)=some (rsH nd a b ss e q p o a1 a2 a3 a4 a5 a6 ms n (j+1) outs):=by kernel_rfl
theorem zhY (hi:ms[j]?=some (mX be bp bq bo b1 b2 b3 b4 b5 b6))(hj:j<n)(hl:n<4000)(ho:j=outs.length):
  run (ah tab ext N) 0 N (aH 8 0) (rsH nd a b ss e q p o a1 a2 a3 a4 a5 a6 ms n j outs)=some (.norm,ztD nd a b ss e q p o a1 a2 a3 a4 a5 a6 ms n j (outs++[nat j::mX be bp bq bo b1 b2 b3 b4 b5 b6]) be bq bp bo b1 b2 b3 b4 b5 b6):=
 ruA [(69,.b true),(71,.e (mX be bp bq bo b1 b2 b3 b4 b5 b6)),(79,.app),(81,.i (Int.ofNat (j+1)))] (pf4 (aK hj) hi (dO j 5 160 ho (by omega) (by omega)) (aB (j:=j) (by omega)))
theorem znf:run (ah tab ext N) 0 N (aH 8 0) (rsH nd a b ss e q p o a1 a2 a3 a4 a5 a6 ms n n outs)=some (.exit 1,⟨zl9 ms n n++[(69,.v (.bool false))],zma nd a b ss e q p o a1 a2 a3 a4 a5 a6 ms n 5++[.row 11 outs]⟩):=
 ruA [(69,.b false)] (pf1 (aN (j:=n) (k:=n) (by omega)))
end
theorem zne (N:Nat)(nd:Nod)(hk:nd.kind=12)(a b:Int)(ss:qaX)(e q:Int)(p o:qaX)(a1 a2 a3:Int)(a4:qaY)(a5 a6:qaX)(ie:Int)(ip:qaX)(i2 i3:Int)(ix1 ix2:Bool)(f1 f2 f3:Int)(f4:qaY)(f5 f6:qaX)(ms outs st:qaX)(fc:List X)
  (h1:Gam.aC (ah tab ext (N+100)) 17 [.agg [num a,num b,.sl false 10 ss]]=some (.agg [num a,num b,.sl false 10 ss])) (h2:Gam.aC (ah tab ext (N+100)) 18 [.agg (mX e p q o a1 a2 a3 a4 a5 a6)]=some (.agg (mX e p q o a1 a2 a3 a4 a5 a6)))
  (h3:Gam.aC (ah tab ext (N+100)) 50 [.agg nd.cells,.agg (mX e p q o a1 a2 a3 a4 a5 a6)]=some (.agg [.sl false 10 ms,num 0,aj true,bD])) (h0:(Int.ofNat ms.length==0)=false)
  (hrun:run (ah tab ext (N+100)) 0 (N+100) (.loop (aH 8 0)) (rsH nd a b ss e q p o a1 a2 a3 a4 a5 a6 ms ms.length 0 [])=some (.exit 1,⟨zl9 ms ms.length ms.length++[(69,.v (.bool false))],zma nd a b ss e q p o a1 a2 a3 a4 a5 a6 ms ms.length 5++[.row 11 outs]⟩))
  (h4:Gam.aC (ah tab ext (N+100)) 23 [.sl false 10 ms]=some (.sl false 2 st)) (h5:Gam.aC (ah tab ext (N+100)) 22 [.agg (mX e p q o a1 a2 a3 a4 a5 a6),aF nd.name,.sl false 2 st]=some (.agg fc)) (ho:outs.length=ms.length)
  (hfc:∃(x1:Int) (x2:qaX) (x3:Int) (x4:qaY) (x5:qaX) (x6:qaY),fc=[num x1,.sl false 1 x2,num x3,aF x4,.sl false 2 x5,aF x6]):
  Gam.aC (ah tab ext (N+101)) 8 [.agg nd.cells,.agg [num a,num b,.sl false 10 ss],.agg ([num 1,num i2,num ie,.sl false 1 ip]++mX e p q o a1 a2 a3 a4 a5 a6++[num i3,aj ix1,aj ix2,num f1,num f2,num f3,aF f4,.sl false 6 f5,.sl false 7 f6])]=some (.agg [num a,num b,.sl false 10 ss,.sl false 11 outs,.sl false 11 [],.sl false 6 [fc],.sl false 10 []]):=by
 obtain ⟨h,S,u,y,w,A,B,j,⟨H,J,L,M⟩,P,el,f,O,m,l,F,E⟩:=nd;dsimp only at hk;subst hk;obtain ⟨x1,x2,x3,x4,x5,x6,rfl⟩:=hfc;refine eU [(15,.p (.agg [num a,num b,.sl false 10 ss])),(23,.p (.agg (mX e p q o a1 a2 a3 a4 a5 a6))),(36,.p (.agg [.sl false 10 ms,num 0,aj true,bD])),(50,.b false),(87,.p (.sl false 2 st)),(88,.p (.agg [num x1,.sl false 1 x2,num x3,aF x4,.sl false 2 x5,aF x6]))]
  [(.exit 1,⟨zl9 ms ms.length ms.length++[(69,.v (.bool false))],zma ⟨h,12,u,y,w,A,B,j,(H,J,L,M),P,el,f,O,m,l,F,E⟩ a b ss e q p o a1 a2 a3 a4 a5 a6 ms ms.length 5++[.row 11 outs]⟩)] (pf7 h1 h2 h3 h0 hrun h4 h5) (x:=.agg [num a,num b,.sl false 10 ss,.bs 0 0 ms.length,.sl true 11 [],.sl true 6 [[num x1,.sl false 1 x2,num x3,aF x4,.sl false 2 x5,aF x6]],.sl true 10 []]) (bx:=[.row 11 outs]) (by kernel_rfl) ?_
 have Q:=jZ (bx:=[.row 11 outs]) (i:=0) (n:=ms.length) rfl ho.symm<;>simp_all[X.data,eG,num]
def mcO (s:Stt)(m:Msg)(name:qaY)(n:Nat):Ocm:=⟨s,(List.range n).map fun i=>⟨Int.ofNat i,zM m ((List.replicate n m.body).getD i zbr) n i⟩,[⟨m.st,1,name,dV (dZ m n),⟨#[]⟩⟩],[]⟩
theorem G5 (m:Msg){n j:Nat}(h:j<n):(aP (dZ m n))[j]?=some (zM m ((List.replicate n m.body).getD j zbr) n j).cells:=by grind[dZ,iP,aP]
theorem O8 (m:Msg){n j:Nat}(h:j<n):(List.replicate n m.body).getD j zbr=m.body:=by grind
theorem zim (s:Stt)(m:Msg)(name:qaY)(n:Nat):zcc (aP (dZ m n)) n=jk (mcO s m name n).outs:=by
 unfold zcc jk mcO;rw [List.map_map];refine List.map_congr_left fun i a=>?_;have h:=G5 m (List.mem_range.1 a);have:(aP (dZ m n)).getD i []=(zM m ((List.replicate n m.body).getD i zbr) n i).cells:=by rw [qaA,h];rfl
 rw [this];rfl
theorem Y9 (m:Msg)(hm:m.ok)(hp:m.st.p.length<50000)(b:Val)(hb:b.ok)(n j:Nat):(zM m b n j).ok:=
 ⟨⟨by show (m.st.p++[Int.ofNat j]).length<=60000<;>grind⟩,hm.orig,hb⟩
theorem DR (m:Msg)(hm:m.ok)(hp:m.st.p.length<50000)(n:Nat):∀x,x∈dZ m n->x.ok:=by intro x a;simp only [dZ,iP,qal,List.mem_range] at a;obtain ⟨i,f,rfl⟩:=a;rw [O8 m f];exact Y9 m hm hp _ hm.body _ _
theorem fU (m:Msg)(n:Nat):(dZ m n).length=n:=by grind[dZ,iP]
theorem zn0 (s:Stt)(hs:s.ok)(m:Msg)(hm:m.ok)(hp:m.st.p.length<50000)(name:qaY)(n:Nat)(hn:n<3000):(mcO s m name n).ok where
 s:=hs
 znR:=by grind[mcO]
 outs:=by intro x a;simp only [mcO,qal,List.mem_range] at a;obtain ⟨i,h,rfl⟩:=a;rw [O8 m h];exact Y9 m hm hp _ hm.body _ _
 zgo:=by simp [mcO]
 dN:=by intro x a;simp [mcO] at a;subst a;exact ⟨hm.st,by grind[dV,fU],fun y f=>by simp [dV] at f;obtain ⟨z,hz,rfl⟩:=f;exact (DR m hm hp n z hz).st⟩
 SA:=by simp [mcO]
 letters:=by grind[mcO]
theorem zbF (m:Msg):∃a1 a2 a3 a4 a5 a6,m.cells=mX m.st.e (aI m.st.p) m.qC (aI m.orig) a1 a2 a3 a4 (au a5) (aA a6):=by obtain ⟨⟨e,p⟩,a,o,⟨a1,a2,a3,a4,a5,a6⟩⟩:=m;exact ⟨a1,a2,a3,a4,a5,a6,rfl⟩
theorem y8 (nd:Nod)(n:Nat)(hn:nd.number=Int.ofNat n)(h0:0<n)(h1:n<=64)(s:Stt)(hs:s.ok)(i:Inp)(hm:i.m.ok)(hp:i.m.st.p.length<50000)(N:Nat)(hN:200700<=N):
  Gam.aC (ah tab ext N) 8 [.agg ({nd with kind:=12}:Nod).cells,.agg s.cells,.agg ({i with kind:=1}:Inp).cells]=some (.agg (mcO s i.m nd.name n).cells):=by
 obtain ⟨M,rfl⟩:∃M,N=M+101:=⟨N-101,by omega⟩;have g1:=bZ (M+100) s hs (by omega);have g2:=iR (M+100) i.m hm (by omega);have Y:=Ez {nd with kind:=12} n hn h0 h1 i.m hm (M+100) (by omega);have S:=Oq (M+100) (dZ i.m n) (DR i.m hm hp n) (by grind[fU]) (by grind[fU]) (by grind[fU]);have U:=IL (M+100) i.m hm.st nd.name (dV (dZ i.m n)) (fun y hy=>by simp [dV] at hy;obtain ⟨z,hz,rfl⟩:=hy;exact (DR i.m hm hp n z hz).st) (by grind[dV,fU]) (by grind[dV,fU]);have f:(aP (dZ i.m n)).length=n:=by rw [fO,fU]
 have L:=zim s i.m nd.name n;have Z:∀j,j<n->∃be bq bp bo b1 b2 b3 b4 b5 b6,(aP (dZ i.m n))[j]?=some (mX be bq bp bo b1 b2 b3 b4 b5 b6):=by intro j hj;obtain ⟨l,u,A,B,E,F,h⟩:=zbF (zM i.m ((List.replicate n i.m.body).getD j zbr) n j);rw [G5 i.m hj,h];exact ⟨_,_,_,_,_,_,_,_,_,_,rfl⟩
 have W:({nd with kind:=12}:Nod).name=nd.name:=rfl;have H:(mcO s i.m nd.name n).cells=[num s.n,num s.t,.sl false 10 (aW s.slots),.sl false 11 (jk (mcO s i.m nd.name n).outs),.sl false 11 [],.sl false 6 [(Fte.mk i.m.st 1 nd.name (dV (dZ i.m n)) ⟨#[]⟩).cells],.sl false 10 []]:=rfl;rw [H,<-L];generalize J:(Fte.mk i.m.st 1 nd.name (dV (dZ i.m n)) ⟨#[]⟩).cells=fc at U ⊢;have V:∃(x1:Int) (x2:qaX) (x3:Int) (x4:qaY) (x5:qaX) (x6:qaY),fc=[num x1,.sl false 1 x2,num x3,aF x4,.sl false 2 x5,aF x6]:=⟨_,_,_,_,_,_,J.symm⟩;clear J H L;generalize bY (dV (dZ i.m n))=st at S U;generalize aP (dZ i.m n)=a at Y S f Z ⊢;obtain ⟨kd,tm,⟨se,sp⟩,⟨⟨e,p⟩,q,o,⟨l,u,A,B,E,F⟩⟩,x,b1,b2,⟨c1,c2,c3,c4,c5,c6⟩⟩:=i;obtain ⟨P,t,Q⟩:=s;have O:run (ah tab ext (M+100)) 0 (M+100) (.loop (aH 8 0)) (rsH {nd with kind:=12} P t (aW Q) e q (aI p) (aI o) l u A B (au E) (aA F) a a.length 0 [])=some (.exit 1,⟨zl9 a a.length a.length++[(69,.v (.bool false))],zma {nd with kind:=12} P t (aW Q) e q (aI p) (aI o) l u A B (au E) (aA F) a a.length 5++[.row 11 (zcc a a.length)]⟩):=by refine bF (σ:=fun j=>rsH {nd with kind:=12} P t (aW Q) e q (aI p) (aI o) l u A B (au E) (aA F) a a.length j (zcc a j)) (k:=a.length) (zdm ..) (fun j hj=>?_) (znf ..) (by simp) (by omega);obtain ⟨be,bp,bq,bo,b1,b2,b3,b4,b5,b6,hi⟩:=Z j (by omega);refine ⟨_,zhY (hi:=hi) (hj:=hj) (hl:=by omega) (ho:=(BZ _ _).symm) ..,?_⟩;rw [Zd,qaA,hi];exact YM ..
 rw [<-f];exact zne M {nd with kind:=12} rfl P t (aW Q) e q (aI p) (aI o) l u A B (au E) (aA F) se (aI sp) tm x b1 b2 c1 c2 c3 c4 (au c5) (aA c6) a (zcc a a.length) st fc g1 g2 Y
  (by grind) O S U (BZ _ _) V
def mdN (nd:Nod)(k:Nat):Nod:={nd with kind:=12,number:=Int.ofNat (k+1)}
def tkP (p:qaX)(j:Nat):qaX:=List.take (0+p.length+1) (List.drop 0 (List.drop 0 ([]++p)++[[nat j]]))
theorem zmI (p:qaX)(j:Nat):tkP p j=p++[[nat j]]:=by unfold tkP;simp only [qaU,List.drop_zero];rw [List.take_of_length_le (by simp)]
section
variable (N:Nat) (nd:Nod) (a b:Int) (ss:qaX) (e q:Int) (p o:qaX) (a1 a2 a3:Int) (a4:qaY) (a5 a6:qaX) (k j:Nat) (outs sts:qaX) (x:List X)
def ziI:List (Nat×X):=[(3,.ptr 0 0 0),(6,.ptr 1 0 0),(7,.ptr 2 0 0),(16,.ptr 3 0 0),(17,.ptr 4 0 0),(18,nat j)]
def ziJ (u v:Nat):List Bx:=[.var (mdN nd k).cells,.var ztK,.var (mX e p q o a1 a2 a3 a4 a5 a6),.var [num a,num b,.sl false 10 ss,.bs u 0 j,.sl true 11 [],.sl true 6 [],.sl true 10 []],.var [num e,.sl false 1 p,num 1,aF nd.name,.bs v 0 j,bD]]
def mdH:St:=⟨ziI j,ziJ nd a b ss e q p o a1 a2 a3 a4 a5 a6 k j 5 6++[.row 11 outs,.row 2 sts]⟩
def mdE (sh:Int)(p':qaX):St:=⟨ziI (j+1),ziJ nd a b ss e q p o a1 a2 a3 a4 a5 a6 k (j+1) 10 11++[.dead,.dead,.var (mX e p' sh o a1 a2 a3 a4 a5 a6),.dead,.dead,.row 11 outs,.row 2 sts]⟩
theorem zdT:canon 0 (mdH nd a b ss e q p o a1 a2 a3 a4 a5 a6 k j outs sts)=some (mdH nd a b ss e q p o a1 a2 a3 a4 a5 a6 k j outs sts):=by kernel_rfl
theorem ZC (sh:Int)(p':qaX):canon 0 (mdE nd a b ss e q p o a1 a2 a3 a4 a5 a6 k j outs sts sh p')=some (mdH nd a b ss e q p o a1 a2 a3 a4 a5 a6 k (j+1) outs sts):=by kernel_rfl
theorem zdQ (hp:p.isEmpty=false)(hpl:p.length<100000)(hk:j<k+1)(hj:j<4000)(ho:j=outs.length)(hs:j=sts.length):
  run (ah tab ext N) 0 N (aH 13 1) (mdH nd a b ss e q p o a1 a2 a3 a4 a5 a6 k j outs sts)=some (.norm,mdE nd a b ss e q p o a1 a2 a3 a4 a5 a6 k j (outs++[nat j::mX e (tkP p j) (iM q (k+1) j) o a1 a2 a3 a4 a5 a6]) (sts++[[num e,.sl false 1 (tkP p j)]]) (iM q (k+1) j) (tkP p j)):=by
 have f:p.isEmpty=false/\dh (0+p.length) 8=true:=⟨hp,iL (by omega) (by omega)⟩;have l:0+(0+p.length)=([]++p).length/\dh (0+p.length+1) 8=true/\rF 8 []=false:=⟨by simp,iL (by omega) (by omega),rfl⟩;have m:0+(0+p.length+1)<=(List.drop 0 ([]++p)++[[nat j]]).length:=by simp
 unfold iM;cases h:decide (Int.ofNat j<q.tmod (Int.ofNat (k+1))) with
 |true=>rw [if_pos (of_decide_eq_true h)];exact ruA [(133,.b true),(141,.fresh),(144,.app),(159,.b true),(170,.app),(177,.app),(135,.i (Int.ofNat (j+1)))] (pf8 (aK hk) f l h m (dO j 5 160 ho (by omega) (by omega)) (dO j 6 32 hs (by omega) (by omega)) (aB (j:=j) (by omega)))
 |false=>rw [if_neg (of_decide_eq_false h)];exact ruA [(133,.b true),(141,.fresh),(144,.app),(159,.b false),(170,.app),(177,.app),(135,.i (Int.ofNat (j+1)))] (pf8 (aK hk) f l h m (dO j 5 160 ho (by omega) (by omega)) (dO j 6 32 hs (by omega) (by omega)) (aB (j:=j) (by omega)))
theorem znT:run (ah tab ext N) 0 N (aH 13 1) (mdH nd a b ss e q p o a1 a2 a3 a4 a5 a6 k (k+1) outs sts)=some (.exit 4,⟨ziI (k+1)++[(133,.v (.bool false))],ziJ nd a b ss e q p o a1 a2 a3 a4 a5 a6 k (k+1) 5 6++[.row 11 outs,.row 2 sts]⟩):=
 ruA [(133,.b false)] (pf1 (aN (j:=k+1) (k:=k+1) (by omega)))
end
section
variable (N:Nat) (nd:Nod) (a b:Int) (ss:qaX) (e q:Int) (o:qaX) (a1 a2 a3:Int) (a4:qaY) (a5 a6:qaX) (k j:Nat) (outs sts:qaX)
def ztN (sh:Int):St:=⟨ziI (j+1),ziJ nd a b ss e q [] o a1 a2 a3 a4 a5 a6 k (j+1) 8 9++[.dead,.dead,.var (mX e [[nat j]] sh o a1 a2 a3 a4 a5 a6),.row 11 outs,.row 2 sts]⟩
theorem ZB (sh:Int):canon 0 (ztN nd a b ss e q o a1 a2 a3 a4 a5 a6 k j outs sts sh)=some (mdH nd a b ss e q [] o a1 a2 a3 a4 a5 a6 k (j+1) outs sts):=by kernel_rfl
theorem zdR (hk:j<k+1)(hj:j<4000)(ho:j=outs.length)(hs:j=sts.length):
  run (ah tab ext N) 0 N (aH 13 1) (mdH nd a b ss e q [] o a1 a2 a3 a4 a5 a6 k j outs sts)=some (.norm,ztN nd a b ss e q o a1 a2 a3 a4 a5 a6 k j (outs++[nat j::mX e [[nat j]] (iM q (k+1) j) o a1 a2 a3 a4 a5 a6]) (sts++[[num e,.sl false 1 [[nat j]]]]) (iM q (k+1) j)):=by
 unfold iM;cases h:decide (Int.ofNat j<q.tmod (Int.ofNat (k+1))) with
 |true=>rw [if_pos (of_decide_eq_true h)];exact ruA [(133,.b true),(159,.b true),(170,.app),(177,.app),(135,.i (Int.ofNat (j+1)))] (pf5 (aK hk) h (dO j 5 160 ho (by omega) (by omega)) (dO j 6 32 hs (by omega) (by omega)) (aB (j:=j) (by omega)))
 |false=>rw [if_neg (of_decide_eq_false h)];exact ruA [(133,.b true),(159,.b false),(170,.app),(177,.app),(135,.i (Int.ofNat (j+1)))] (pf5 (aK hk) h (dO j 5 160 ho (by omega) (by omega)) (dO j 6 32 hs (by omega) (by omega)) (aB (j:=j) (by omega)))
end
theorem ziG (N:Nat)(nd:Nod)(a b:Int)(ss:qaX)(e q:Int)(p o:qaX)(a1 a2 a3:Int)(a4:qaY)(a5 a6:qaX)(k j:Nat)(outs sts:qaX)(hpl:p.length<100000)(hk:j<k+1)(hj:j<4000)(ho:j=outs.length)(hs:j=sts.length):
  ∃υ,run (ah tab ext N) 0 N (aH 13 1) (mdH nd a b ss e q p o a1 a2 a3 a4 a5 a6 k j outs sts)=some (.norm,υ)/\canon 0 υ=some (mdH nd a b ss e q p o a1 a2 a3 a4 a5 a6 k (j+1) (outs++[nat j::mX e (p++[[nat j]]) (iM q (k+1) j) o a1 a2 a3 a4 a5 a6]) (sts++[[num e,.sl false 1 (p++[[nat j]])]])):=by
 cases f:p.isEmpty<;>simp_all[zdR,ZB,zdQ,zmI,ZC]
theorem znS (N:Nat)(nd:Nod)(a b:Int)(ss:qaX)(e q:Int)(p o:qaX)(a1 a2 a3:Int)(a4:qaY)(a5 a6:qaX)(k:Nat)(ie:Int)(ip:qaX)(i2 i3:Int)(ix1 ix2:Bool)(f1 f2 f3:Int)(f4:qaY)(f5 f6:qaX)(v1 v2 v3:Int)(v4:qaY)(v5 v6:qaX)(outs sts:qaX)
  (h1:Gam.aC (ah tab ext (N+100)) 33 [.agg [num a1,num a2,num a3,aF a4,.sl false 6 a5,.sl false 7 a6]]=some (.agg [num v1,num v2,num v3,aF v4,.sl false 6 v5,.sl false 7 v6])) (hk:k+1<=64)
  (hrun:run (ah tab ext (N+100)) 0 (N+100) (.loop (aH 13 1)) (mdH nd a b ss e q p o a1 a2 a3 a4 a5 a6 k 0 [] [])=some (.exit 4,⟨ziI (k+1)++[(133,.v (.bool false))],ziJ nd a b ss e q p o a1 a2 a3 a4 a5 a6 k (k+1) 5 6++[.row 11 outs,.row 2 sts]⟩)) (ho:outs.length=k+1) (hs:sts.length=k+1):
  Gam.aC (ah tab ext (N+101)) 13 [.agg (mdN nd k).cells,.agg [num a,num b,.sl false 10 ss],.agg ([num 1,num i2,num ie,.sl false 1 ip]++mX e p q o a1 a2 a3 a4 a5 a6++[num i3,aj ix1,aj ix2,num f1,num f2,num f3,aF f4,.sl false 6 f5,.sl false 7 f6])]=some (.agg [num a,num b,.sl false 10 ss,.sl false 11 outs,.sl false 11 [],.sl false 6 [[num e,.sl false 1 p,num 1,aF nd.name,.sl false 2 sts,bD]],.sl false 10 []]):=by
 have h:decide (Int.ofNat (k+1)>64)=false:=decide_eq_false (by grind);have f:decide (Int.ofNat (k+1)<1)=false:=decide_eq_false (by grind);have j:0+(k+1)<=sts.length:=by omega
 refine eU [(29,.p (.agg [num v1,num v2,num v3,aF v4,.sl false 6 v5,.sl false 7 v6])),(117,.b false),(121,.b false)] [(.exit 4,⟨ziI (k+1)++[(133,.v (.bool false))],ziJ nd a b ss e q p o a1 a2 a3 a4 a5 a6 k (k+1) 5 6++[.row 11 outs,.row 2 sts]⟩)] (pf5 h1 f h hrun j)
  (x:=.agg [num a,num b,.sl false 10 ss,.bs 0 0 (k+1),.sl true 11 [],.sl true 6 [[num e,.sl false 1 p,num 1,aF nd.name,.sl false 2 (List.take (k+1) (List.drop 0 sts)),bD]],.sl true 10 []]) (bx:=[.row 11 outs]) (by kernel_rfl) ?_
 have l:=jZ (bx:=[.row 11 outs]) (i:=0) (n:=k+1) rfl ho.symm<;>simp_all[List.take_of_length_le,X.data,eG,num]
end Go.Proofs.YtpcjeobkehmhpaaGreatDoor
