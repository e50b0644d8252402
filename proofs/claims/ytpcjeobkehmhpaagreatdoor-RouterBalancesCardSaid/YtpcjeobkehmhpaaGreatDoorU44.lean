/-.-/
import Derived.Shelf.LaysC
import Derived.Shelf.LaysM
import Derived.Shelf.Lays
import Derived.Shelf.Strconv.Itoa1
import Derived.Shelf.Strconv.Itoa2
import Derived.Lib.Walk
import Derived.Lib.ItoaMem
import Derived.WalkKit
import Derived.BigCall
import Derived.BigGuard
import Derived.Test.YtpcjeobkehmhpaaGreatDoorU13
import Derived.Test.YtpcjeobkehmhpaaGreatDoorU14
import Derived.Test.YtpcjeobkehmhpaaGreatDoorU17
import Derived.Test.YtpcjeobkehmhpaaGreatDoorU28
import Derived.Test.YtpcjeobkehmhpaaGreatDoorU42
import Derived.Test.YtpcjeobkehmhpaaGreatDoorU43
set_option linter.all false
namespace Go.Proofs.YtpcjeobkehmhpaaGreatDoor
set_option maxRecDepth 100000
section
open Go.Em
theorem yx (nd nd':Nod)(hn:∀N,220<=N->Gam.aF (ah tab ext N) 14 [.agg nd.cells]=some (.agg nd'.cells))(s:Stt)(i:Inp)(k:Int)(N:Nat)(hN:230<=N):
  Gam.aF (ah tab ext N) 7 [.agg nd.cells,.agg s.cells,.agg i.cells,num k]=some (.tup [.agg ({nd' with kind:=k}:Nod).cells,.agg (shortS s).cells,.agg (bG i).cells]):=by
 obtain ⟨M,rfl⟩:∃M,N=M+1:=⟨N-1,by omega⟩;have h1:=hn M (by omega);have V:=Ot s M (by omega);have m:=Yr i M (by omega);generalize shortS s=Z at V ⊢;generalize bG i=i' at m ⊢;obtain ⟨kd,tm,⟨se,sp⟩,⟨⟨e,p⟩,ms,o,⟨a1,a2,a3,a4,a5,a6⟩⟩,x,b1,b2,⟨c1,c2,c3,c4,c5,c6⟩⟩:=i;obtain ⟨a,l,⟨h,j⟩,⟨⟨y,Y⟩,f,W,⟨L,O,P,Q,S,U⟩⟩,x',q,u,⟨A,B,E,F,H,J⟩⟩:=i';generalize n:Inp.cells _=ci' at m ⊢;subst n;exact puA [(12,.p (.agg nd'.cells)),(14,.p (.agg Z.cells)),(16,.p (.agg (Inp.mk a l ⟨h,j⟩ ⟨⟨y,Y⟩,f,W,⟨L,O,P,Q,S,U⟩⟩ x' q u ⟨A,B,E,F,H,J⟩).cells))] (pf3 h1 V m) (.tup [.agg ({nd' with kind:=k}:Nod).cells,.agg Z.cells,.agg (Inp.mk a l ⟨h,j⟩ ⟨⟨y,Y⟩,f,W,⟨L,O,P,Q,S,U⟩⟩ x' q u ⟨A,B,E,F,H,J⟩).cells])
def znz (t:Bool)(f:Fte):List X:=[num f.st.e,.sl false 1 (aI f.st.p),num f.kind,aC f.node,.sl t 2 [],aC f.text]
def zbT (t:Bool)(s:Stt)(m:Msg)(name r:qaZ):List X:=[num s.n,num s.t,.sl false 10 (bf s.slots),.sl false 11 [],.sl false 11 [],.sl false 6 [znz t (Fte.mk m.st 4 name [] r)],.sl false 10 [m.cells]]
theorem NR (a:qaZ):(a.toList==a.toList)=true:=by grind
theorem zaY (m:Msg)(hm:m.ok)(t u:Bool)(name r:qaZ)(N:Nat)(hN:190200<=N):Gam.aF (ah tab ext N) 61 [.agg (znz t (Fte.mk m.st 4 name [] r)),.agg (znz u (Fte.mk m.st 4 name [] r))]=some (ak true):=by
 obtain ⟨M,rfl⟩:∃M,N=M+101:=⟨N-101,by omega⟩;have a:=Il (M+100) m.st hm.st (by omega);have f:=NR name;have h:=NR r;have j:Gam.aF (ah tab ext (M+100)) 81 [.sl false 2 [],.sl false 2 [],.fn 59 []]=some (ak true):=by kernel_rfl
 obtain ⟨⟨e,p⟩,E,o,⟨l,n,q,y,A,B⟩⟩:=m;cases t<;>cases u<;>exact puA [(9,.p (ak true)),(22,.b true),(29,.b true),(36,.p (ak true))] (pf4 a f h j) (ak true)
theorem zc8 (s:Stt)(hs:s.ok)(m:Msg)(hm:m.ok)(t u:Bool)(name r:qaZ)(N:Nat)(hN:190400<=N):Gam.aF (ah tab ext N) 12 [.agg (zbT t s m name r),.agg (zbT u s m name r)]=some (ak true):=by
 obtain ⟨M,rfl⟩:∃M,N=M+101:=⟨N-101,by omega⟩;have A:=Ik (M+100) s hs (by omega);have B:Gam.aF (ah tab ext (M+100)) 31 [.sl false 6 [znz t (Fte.mk m.st 4 name [] r)],.sl false 6 [znz u (Fte.mk m.st 4 name [] r)]]=some (ak true):=by have h:=zaY m hm false false name r (M+99) (by omega);obtain ⟨⟨e,p⟩,F,o,⟨f,j,l,n,q,y⟩⟩:=m;exact puA [(25,.p (ak true))] (pf1 h) (ak true)
 have E:Gam.aF (ah tab ext (M+100)) 32 [.sl false 10 [m.cells],.sl false 10 [m.cells]]=some (ak true):=by have h:=Sr (M+99) m hm (by omega);obtain ⟨⟨e,p⟩,F,o,⟨f,j,l,n,q,y⟩⟩:=m;exact puA [(25,.p (ak true))] (pf1 h) (ak true)
 obtain ⟨a,b,H⟩:=s;exact puA [(10,.p (ak true)),(67,.p (ak true)),(74,.p (ak true))] (pf3 A B E) (ak true)
theorem IK (nd:Nod)(s:Stt)(hs:s.ok)(i:Inp)(hm:i.m.ok)(N:Nat)(hN:200700<=N):Gam.aF (ah tab ext N) 8 [.agg ({nd with kind:=14}:Nod).cells,.agg s.cells,.agg ({i with kind:=1}:Inp).cells]=some (.agg (zbT false s i.m nd.name nd.text)):=by obtain ⟨M,rfl⟩:∃M,N=M+101:=⟨N-101,by omega⟩;have E:=dP (M+100) s hs (by omega);have F:=jm (M+100) i.m hm (by omega);have H:=je i.m hm nd.name nd.text (M+100) (by omega);obtain ⟨kd,tm,⟨se,sp⟩,⟨⟨e,p⟩,A,o,⟨h,j,l,q,u,y⟩⟩,x,J,L,⟨O,P,Q,S,U,V⟩⟩:=i;obtain ⟨name,Z,k2,k3,w,k5,k6,text,⟨a,b,c,d⟩,we,el,f,ty,Y,W,ru,ne⟩:=nd;obtain ⟨n,t,B⟩:=s;exact puA [(15,.p (.agg (Stt.mk n t B).cells)),(23,.p (.agg (Msg.mk ⟨e,p⟩ A o (.mk h j l q u y)).cells)),(56,.p (.agg (Fte.mk ⟨e,p⟩ 4 name [] text).cells))] (pf3 E F H) (.agg [num n,num t,.sl false 10 (bf B),.sl true 11 [],.sl true 11 [],.sl true 6 [(Fte.mk ⟨e,p⟩ 4 name [] text).cells],.sl true 10 [(Msg.mk ⟨e,p⟩ A o (.mk h j l q u y)).cells]])
def ocC (n t:Int)(ss outs dK letters:qaY):List X:=[num n,num t,.sl false 10 ss,.sl false 11 outs,.sl false 11 [],.sl false 6 dK,.sl false 10 letters]
theorem NT (nd nd':Nod)(hn:∀N,220<=N->Gam.aF (ah tab ext N) 14 [.agg nd.cells]=some (.agg nd'.cells))(s:Stt)(i:Inp)(k:Int)(N:Nat)(hN:200900<=N)(n t n' t':Int)(ss outs dK letters ss' Y1 Nl vY:qaY)
  (ha:Gam.aF (ah tab ext (N-1)) 8 [.agg ({nd' with kind:=k}:Nod).cells,.agg (shortS s).cells,.agg ({bG i with kind:=1}:Inp).cells]=some (.agg (ocC n t ss outs dK letters))) (hb:Gam.aF (ah tab ext (N-1)) 13 [.agg ({nd' with kind:=k}:Nod).cells,.agg (shortS s).cells,.agg ({bG i with kind:=1}:Inp).cells]=some (.agg (ocC n' t' ss' Y1 Nl vY)))
  (hab:Gam.aF (ah tab ext (N-1)) 12 [.agg (ocC n t ss outs dK letters),.agg (ocC n' t' ss' Y1 Nl vY)]=some (ak true)):Gam.aF (ah tab ext N) 11 [.agg nd.cells,.agg s.cells,.agg i.cells,num k]=some (ak true):=by
 obtain ⟨M,rfl⟩:∃M,N=M+1:=⟨N-1,by omega⟩;have a:=yx nd nd' hn s i k M (by omega);have V:Gam.aF (ah tab ext M) 9 []=some (ak true):=by obtain ⟨K,rfl⟩:∃K,M=K+400:=⟨M-400,by omega⟩;exact Gt K
 have ha:Gam.aF (ah tab ext M) 8 [.agg ({nd' with kind:=k}:Nod).cells,.agg (shortS s).cells,.agg ({bG i with kind:=1}:Inp).cells]=some (.agg (ocC n t ss outs dK letters)):=ha;have hb:Gam.aF (ah tab ext M) 13 [.agg ({nd' with kind:=k}:Nod).cells,.agg (shortS s).cells,.agg ({bG i with kind:=1}:Inp).cells]=some (.agg (ocC n' t' ss' Y1 Nl vY)):=hb;have hab:Gam.aF (ah tab ext M) 12 [.agg (ocC n t ss outs dK letters),.agg (ocC n' t' ss' Y1 Nl vY)]=some (ak true):=hab;generalize bG i=i' at a ha hb;generalize shortS s=Z at a ha hb;obtain ⟨kd,tm,⟨se,sp⟩,⟨⟨e,p⟩,ms,o,⟨a1,a2,a3,a4,a5,a6⟩⟩,x,b1,b2,⟨c1,c2,c3,c4,c5,c6⟩⟩:=i;obtain ⟨f,m,⟨j,l⟩,⟨⟨y,Y⟩,h,W,⟨L,O,P,Q,S,U⟩⟩,x',q,u,⟨A,B,E,F,H,J⟩⟩:=i';exact puA [(14,.p (.tup [.agg ({nd' with kind:=k}:Nod).cells,.agg Z.cells,.agg (Inp.mk f m ⟨j,l⟩ ⟨⟨y,Y⟩,h,W,⟨L,O,P,Q,S,U⟩⟩ x' q u ⟨A,B,E,F,H,J⟩).cells])),(19,.p (ak true)),(24,.p (.agg (ocC n t ss outs dK letters))),(28,.p (.agg (ocC n' t' ss' Y1 Nl vY))),(29,.p (ak true))] (pf5 a V ha hb hab) (ak true)
theorem Ac (i:Inp):(bG i).m=eP i.m:=rfl
end
section
open Go Go.Em Go.Ab
namespace Ct
def zn (nd:Nod)(j:Nat):List X:=nd.exprs.getD j (jH 0 0 zh4 [] [])
where zh4:qaZ:=⟨#[]⟩
theorem za2 (nd:Nod)(hs:nd.small)(j:Nat):∃o i t vs es,zn nd j=jH o i t vs es/\sE 4 (jH o i t vs es):=by
 unfold zn;by_cases h:j<nd.exprs.length;·rw [qax,qad h];have f:=hs.2.2.2.2.1 _ (qah h);obtain ⟨o,i,t,vs,es,e,a⟩:=f;exact ⟨o,i,t,vs,es,e,⟨o,i,t,vs,es,rfl,a⟩⟩
 rw [qax,qaX (by omega)];exact ⟨0,0,⟨#[]⟩,[],[],rfl,⟨0,0,⟨#[]⟩,[],[],rfl,by decide,by decide,(fun v m=>by grind),by decide,(fun e l=>by grind)⟩⟩
def zoC (nd:Nod)(v:Val)(f:Nat->Bool×Int)(B:Nat)(k:Nat):Prop:=∀j,j<k->(0<=(f j).2/\(f j).2<=100)/\∀N,B<=N->Gam.aF (ah tab ext N) 63 [.agg (zn nd j),.agg (N8 v).cells]=some (.tup [ak (f j).1,num (f j).2])
theorem conds (nd:Nod)(hs:nd.small)(v:Val)(k:Nat):∃f B,zoC nd (aV 4 v) f B k:=by obtain ⟨f,B,h⟩:=oG (List.range k) (R:=fun j (p:Bool×Int)=>0<=p.2/\p.2<=100) (Q:=fun j p N=>Gam.aF (ah tab ext N) 63 [.agg (zn nd j),.agg (N8 (aV 4 v)).cells]=some (.tup [ak p.1,num p.2])) (fun j _=>by obtain ⟨o,i,t,A,q,e,n⟩:=za2 nd hs j;obtain ⟨g,a,l,B,u⟩:=zbg (h:=4) (by decide) n v;exact ⟨(g,a),l,B,fun N y=>by grind⟩);exact ⟨f,B,fun j m=>h j (List.mem_range.2 m)⟩
theorem zmN (nd:Nod)(hs:nd.small)(j:Nat)(m:Msg)(hm:m.body.ok)(g:Bool)(er:Int)(N:Nat)(hN:200500<=N)(Qi:Gam.aF (ah tab ext N) 63 [.agg (zn nd j),.agg (N8 m.body).cells]=some (.tup [ak g,num er])):
  Gam.aF (ah tab ext (N+1)) 73 [.agg nd.cells,nat j,.agg m.cells]=some (.tup [ak g,num er]):=by
 have h:=JL m.body hm N (by omega);generalize N8 m.body=v at h Qi;unfold zn at Qi;by_cases H:j<nd.exprs.length
 ·obtain ⟨o,i,L,M,J,e,_⟩:=za2 nd hs j;unfold zn at e;rw [e] at Qi;have O:nd.exprs[(Int.ofNat j).toNat]?=some (jH o i L M J):=by show nd.exprs[j]?=_;rw [qax,qad H] at e;rw [qad H];exact congrArg some e
  have l:=aN H;obtain ⟨⟨Z,p⟩,ms,og,⟨P,Q,S,U,V,W⟩⟩:=m;obtain ⟨u,y,A,B,E,F⟩:=v;obtain ⟨n,kd,k1,k2,k3,w,k5,q,⟨a,b,c,d⟩,we,el,f,ty,ex,Y,ru,ne⟩:=nd;cases g with
  |true=>exact puA [(13,.b true),(17,.e (jH o i L M J)),(22,.p (.agg (Val.mk u y A B E F).cells)),(23,.p (.tup [ak true,num er]))] (pf4 l O h Qi) (.tup [ak true,num er])
  |false=>exact puA [(13,.b true),(17,.e (jH o i L M J)),(22,.p (.agg (Val.mk u y A B E F).cells)),(23,.p (.tup [ak false,num er]))] (pf4 l O h Qi) (.tup [ak false,num er])
 rw [qax,qaX (by omega)] at Qi;have l:=aO H;have Qi:Gam.aF (ah tab ext N) 63 [.agg (jH 0 0 ⟨#[]⟩ [] []),.agg v.cells]=some (.tup [ak g,num er]):=Qi;obtain ⟨⟨Z,p⟩,ms,og,⟨P,Q,S,U,V,W⟩⟩:=m;obtain ⟨u,y,A,B,E,F⟩:=v;obtain ⟨n,kd,k1,k2,k3,w,k5,q,⟨a,b,c,d⟩,we,el,f,ty,ex,Y,ru,ne⟩:=nd;cases g with
 |true=>exact puA [(13,.b false),(22,.p (.agg (Val.mk u y A B E F).cells)),(23,.p (.tup [ak true,num er]))] (pf3 l h Qi) (.tup [ak true,num er])
 |false=>exact puA [(13,.b false),(22,.p (.agg (Val.mk u y A B E F).cells)),(23,.p (.tup [ak false,num er]))] (pf3 l h Qi) (.tup [ak false,num er])
inductive Res where
 |rej (r:qaZ)
 |pas (j:Nat)
def Res.cells (m:Msg):Res->List X
 |.rej r=>[.sl false 10 [],num 0,ak false,aC r]
 |.pas j=>[.sl false 10 [m.cells],nat j,ak false,bD]
theorem vK (N:Nat)(r:qaZ):Gam.aF (ah tab ext (N+1)) 52 [aC r]=some (.agg [.sl false 10 [],num 0,ak false,aC r]):=by kernel_rfl
theorem BH (N:Nat)(m:Msg)(j:Nat):Gam.aF (ah tab ext (N+1)) 74 [.agg m.cells,nat j]=some (.agg [.sl false 10 [m.cells],nat j,ak false,bD]):=by obtain ⟨⟨u,p⟩,y,A,⟨a,f,h,l,n,q⟩⟩:=m;kernel_rfl
theorem KR (N:Nat)(nd:Nod)(m:Msg):Gam.aF (ah tab ext (N+2)) 20 [.agg nd.cells,.agg m.cells]=some (.agg [.sl false 10 [],num 0,ak false,aC ⟨#[117,110,114,111,117,116,97,98,108,101]⟩]):=by obtain ⟨⟨E,p⟩,P,S,⟨l,n,q,u,y,A⟩⟩:=m;obtain ⟨h,O,H,J,L,w,M,j,⟨a,b,c,d⟩,W,el,f,V,F,B,U,Q⟩:=nd;kernel_rfl
def Qz (nd:Nod)(p:Bool×Int):Res:=if p.2 !=0 then .rej (kZ p.2) else if p.1 then .pas 0 else .rej nd.text
theorem Qy (nd:Nod)(hs:nd.small)(m:Msg)(hm:m.body.ok)(p:Bool×Int)(hp:0<=p.2/\p.2<=100)(N:Nat)(hN:200500<=N)(Qi:Gam.aF (ah tab ext N) 63 [.agg (zn nd 0),.agg (N8 m.body).cells]=some (.tup [ak p.1,num p.2])):
  Gam.aF (ah tab ext (N+2)) 47 [.agg nd.cells,.agg m.cells]=some (.agg ((Qz nd p).cells m)):=by
 obtain ⟨g,h⟩:=p;have l:=zmN nd hs 0 m hm g h N hN Qi;have q:=pF h hp (N+1) (by omega);have j:=vK N (kZ h);have y:=vK N nd.text;have u:=BH N m 0;unfold Qz;dsimp only;generalize kZ h=r at q j ⊢;clear Qi hm;obtain ⟨⟨L,Q⟩,M,P,⟨A,B,E,F,H,J⟩⟩:=m;obtain ⟨O,kd,V,W,Y,w,Z,text,⟨a,b,c,d⟩,we,el,f,ty,U,S,ru,ne⟩:=nd;cases n:(h !=0) with
 |true=>
  cases g with
  |true=>exact puA [(10,.p (.tup [ak true,num h])),(15,.b true),(17,.p (aC r)),(18,.p (.agg [.sl false 10 [],num 0,ak false,aC r]))] (pf4 l n q j) (.agg [.sl false 10 [],num 0,ak false,aC r])
  |false=>exact puA [(10,.p (.tup [ak false,num h])),(15,.b true),(17,.p (aC r)),(18,.p (.agg [.sl false 10 [],num 0,ak false,aC r]))] (pf4 l n q j) (.agg [.sl false 10 [],num 0,ak false,aC r])
 |false=>
  cases g with
  |true=>exact puA [(10,.p (.tup [ak true,num h])),(15,.b false),(22,.p (.agg [.sl false 10 [(Msg.mk ⟨L,Q⟩ M P (.mk A B E F H J)).cells],nat 0,ak false,bD]))] (pf3 l n u) (.agg [.sl false 10 [(Msg.mk ⟨L,Q⟩ M P (.mk A B E F H J)).cells],nat 0,ak false,bD])
  |false=>exact puA [(10,.p (.tup [ak false,num h])),(15,.b false),(25,.p (.agg [.sl false 10 [],num 0,ak false,aC text]))] (pf3 l n y) (.agg [.sl false 10 [],num 0,ak false,aC text])
def zfR (s:Stt)(m:Msg)(j:Nat):List X:=[num s.n,num s.t,.sl false 10 (bf s.slots),.sl false 11 [nat j::m.cells],.sl false 11 [],.sl false 6 [],.sl false 10 []]
def Res.out (t:Bool)(s:Stt)(m:Msg)(name:qaZ):Res->List X
 |.rej r=>zbT t s m name r
 |.pas j=>zfR s m j
theorem LJ (nd:Nod)(kd:Int)(fn:FuncId)(hk:(kd=1/\fn=47)\/(kd=11/\fn=49))(s:Stt)(hs:s.ok)(i:Inp)(hm:i.m.ok)(q:Res)(N:Nat)(hN:200700<=N)(hr:Gam.aF (ah tab ext N) fn [.agg ({nd with kind:=kd}:Nod).cells,.agg i.m.cells]=some (.agg (q.cells i.m))):
  Gam.aF (ah tab ext (N+1)) 8 [.agg ({nd with kind:=kd}:Nod).cells,.agg s.cells,.agg ({i with kind:=1}:Inp).cells]=some (.agg (q.out false s i.m nd.name)):=by
 have J:=dP N s hs (by omega);have L:=jm N i.m hm (by omega);obtain ⟨M,rfl⟩:∃M,N=M+100:=⟨N-100,by omega⟩;cases q with
 |rej r=>
  have P:=je i.m hm nd.name r (M+100) (by omega);obtain ⟨O,tm,⟨se,sp⟩,⟨⟨e,p⟩,E,o,⟨h,l,u,y,A,B⟩⟩,x,Q,S,⟨U,V,W,Y,Z,c6⟩⟩:=i;obtain ⟨name,k1,k2,k3,w,k5,k6,H,⟨a,b,c,d⟩,we,el,f,ty,ex,ca,ru,ne⟩:=nd;obtain ⟨n,t,F⟩:=s;rcases hk with ⟨rfl,rfl⟩|⟨rfl,rfl⟩;·exact puA [(15,.p (.agg (Stt.mk n t F).cells)),(23,.p (.agg (Msg.mk ⟨e,p⟩ E o (.mk h l u y A B)).cells)),(36,.p (.agg [.sl false 10 [],num 0,ak false,aC r])),(56,.p (.agg (Fte.mk ⟨e,p⟩ 4 name [] r).cells))] (pf4 J L hr P) (.agg [num n,num t,.sl false 10 (bf F),.sl true 11 [],.sl true 11 [],.sl true 6 [(Fte.mk ⟨e,p⟩ 4 name [] r).cells],.sl true 10 [(Msg.mk ⟨e,p⟩ E o (.mk h l u y A B)).cells]])
  exact puA [(15,.p (.agg (Stt.mk n t F).cells)),(23,.p (.agg (Msg.mk ⟨e,p⟩ E o (.mk h l u y A B)).cells)),(36,.p (.agg [.sl false 10 [],num 0,ak false,aC r])),(56,.p (.agg (Fte.mk ⟨e,p⟩ 4 name [] r).cells))] (pf4 J L hr P) (.agg [num n,num t,.sl false 10 (bf F),.sl true 11 [],.sl true 11 [],.sl true 6 [(Fte.mk ⟨e,p⟩ 4 name [] r).cells],.sl true 10 [(Msg.mk ⟨e,p⟩ E o (.mk h l u y A B)).cells]])
 |pas j=>
  obtain ⟨O,tm,⟨se,sp⟩,⟨⟨e,p⟩,E,o,⟨h,l,u,y,A,B⟩⟩,x,Q,S,⟨U,V,W,Y,Z,c6⟩⟩:=i;obtain ⟨name,k1,k2,k3,w,k5,k6,H,⟨a,b,c,d⟩,we,el,f,ty,ex,ca,ru,ne⟩:=nd;obtain ⟨n,t,F⟩:=s;rcases hk with ⟨rfl,rfl⟩|⟨rfl,rfl⟩;·exact puA [(15,.p (.agg (Stt.mk n t F).cells)),(23,.p (.agg (Msg.mk ⟨e,p⟩ E o (.mk h l u y A B)).cells)),(36,.p (.agg [.sl false 10 [(Msg.mk ⟨e,p⟩ E o (.mk h l u y A B)).cells],nat j,ak false,bD]))] (pf3 J L hr) (.agg [num n,num t,.sl false 10 (bf F),.sl true 11 [nat j::(Msg.mk ⟨e,p⟩ E o (.mk h l u y A B)).cells],.sl true 11 [],.sl true 6 [],.sl true 10 []])
  exact puA [(15,.p (.agg (Stt.mk n t F).cells)),(23,.p (.agg (Msg.mk ⟨e,p⟩ E o (.mk h l u y A B)).cells)),(36,.p (.agg [.sl false 10 [(Msg.mk ⟨e,p⟩ E o (.mk h l u y A B)).cells],nat j,ak false,bD]))] (pf3 J L hr) (.agg [num n,num t,.sl false 10 (bf F),.sl true 11 [nat j::(Msg.mk ⟨e,p⟩ E o (.mk h l u y A B)).cells],.sl true 11 [],.sl true 6 [],.sl true 10 []])
theorem Zm (N:Nat)(nd:Nod)(s:Stt)(m:Msg)(r:qaZ):Gam.aF (ah tab ext (N+1)) 35 [.agg nd.cells,.agg s.cells,.agg m.cells,aC r]=some (.agg (zbT true s m nd.name r)):=by obtain ⟨⟨F,p⟩,Q,U,⟨l,q,u,y,A,B⟩⟩:=m;obtain ⟨h,P,J,L,M,w,O,j,⟨a,b,c,d⟩,Z,el,f,Y,H,E,V,S⟩:=nd;obtain ⟨n,t,W⟩:=s;kernel_rfl
theorem Zn (N:Nat)(s:Stt)(m:Msg)(j:Nat):Gam.aF (ah tab ext (N+1)) 37 [.agg s.cells,nat j,.agg m.cells]=some (.agg (zfR s m j)):=by obtain ⟨⟨y,p⟩,A,B,⟨a,f,h,l,q,u⟩⟩:=m;obtain ⟨n,t,E⟩:=s;kernel_rfl
end Ct
end
section
open Go Go.Em Go.Ab
namespace Ct
theorem zeP (ru:qaY)(hr:∀x,x∈ru->wE x)(v:Val):∃ev B,zlu ru (N8 (aV 4 v)).cells ev B:=by
 obtain ⟨ev,B,h⟩:=oG (List.range ru.length) (R:=fun _ (p:List X×Int)=>okV p.1/\0<=p.2/\p.2<=100) (Q:=fun j p N=>∀s o i t vs es,ru[j]?=some (fM s o i t vs es)->Gam.aF (ah tab ext N) 87 [.agg (jH o i t vs es),.agg (N8 (aV 4 v)).cells]=some (.tup [.agg p.1,num p.2])) (fun j m=>by
  have m:=List.mem_range.1 m;obtain ⟨s,o,i,t,vs,es,e,_,U⟩:=hr _ (qah m);have S:ru[j]?=some (fM s o i t vs es):=by rw [qad m,e];rfl
  obtain ⟨y,J,⟨⟨H,V⟩,M⟩,P⟩:=Np (h:=4) (by decide) (BZ 4 _ U) (znQ v);obtain ⟨a,b,c,E,t2,l,t3,f,rfl,A⟩:=zgg V;obtain ⟨B,O⟩:=gY P (y:=.tup [.agg (dW a b c E l f),num J]) rfl;refine ⟨(dW a b c E l f,J),⟨⟨a,b,c,E,l,f,rfl,H,A⟩,M⟩,B,fun N u s' Y W Z F q n=>?_⟩;rw [S] at n;have L:jH o i t vs es=jH Y W Z F q:=by simp only [fM,qag,List.cons.injEq] at n;unfold jH;rw [n.2.1,n.2.2.1,n.2.2.2.1,n.2.2.2.2.1,n.2.2.2.2.2.1]
  rw [<-L];exact O N u)
 exact ⟨ev,B,⟨fun j m s o i t vs es e=>⟨(h j (List.mem_range.2 m)).1.1,(h j (List.mem_range.2 m)).1.2,fun N u=>(h j (List.mem_range.2 m)).2 N u s o i t vs es e⟩⟩⟩
def Applied (nd:Nod)(v:Val)(w:Val)(x:Int)(B:Nat):Prop:=w.wide/\(0<=x/\x<=100)/\∀N,B<=N->Gam.aF (ah tab ext N) 38 [.agg [.sl false 6 nd.rules],.agg (N8 v).cells,.agg (dI nd.ty.1 nd.ty.2.1 nd.ty.2.2.1 nd.ty.2.2.2 nd.words nd.elem nd.fields)]=some (.tup [.agg w.cells,num x])
theorem applied (nd:Nod)(hs:nd.small)(v:Val):∃w x B,Applied nd (aV 4 v) w x B:=by obtain ⟨_,_,a,_,_,A,j⟩:=hs;obtain ⟨H,m,y⟩:=zc0 nd.rules A j;obtain ⟨ev,n,h⟩:=zeP nd.rules j v;have a:=zpI 4 _ a;unfold Applied;generalize N8 (aV 4 v)=u at h ⊢;obtain ⟨k,i,s,t,l,f⟩:=u;obtain ⟨w,x,E,F,B,q⟩:=Xb nd.rules H m y k i s t (au l) (aA f) ev n h a;exact ⟨w,x,B,E,F,q⟩
def Vx (x:Int):Res:=if x !=0 then .rej (kZ x) else .pas 0
theorem DX (nd:Nod)(m:Msg)(hm:m.ok)(w:Val)(x:Int)(B:Nat)(h:Applied nd m.body w x B)(N:Nat)(hN:B+w.size+200500<=N):
  Gam.aF (ah tab ext (N+1)) 48 [.agg nd.cells,.agg m.cells]=some (.agg ((Vx x).cells {m with body:=w})):=by
 obtain ⟨V,W,j⟩:=h;have l:=JL m.body hm.body N (by omega);replace j:=j N (by omega);have S:=pF x W N (by omega);have Q:=Xu N m hm w V (by omega);obtain ⟨M,rfl⟩:∃M,N=M+1:=⟨N-1,by omega⟩;have F:=vK M (kZ x);have P:=BH M {m with body:=w} 0;unfold Vx;generalize kZ x=r at S F ⊢;generalize N8 m.body=v at l j;clear hm hN W V;obtain ⟨⟨H,O⟩,J,L,⟨a1,a2,a3,a4,a5,a6⟩⟩:=m;obtain ⟨v1,v2,v3,v4,v5,v6⟩:=v;obtain ⟨n,q,u,y,A,E⟩:=w;obtain ⟨Y,kd,k1,k2,k3,k4,k5,Z,⟨a,b,c,d⟩,we,el,f,ty,ex,ca,ru,ne⟩:=nd;cases U:(x !=0) with
 |true=>exact puA [(12,.p (.agg (Val.mk v1 v2 v3 v4 v5 v6).cells)),(15,.p (.tup [.agg (Val.mk n q u y A E).cells,num x])),(19,.b true),(21,.p (aC r)),(22,.p (.agg [.sl false 10 [],num 0,ak false,aC r]))] (pf5 l j U S F) (.agg [.sl false 10 [],num 0,ak false,aC r])
 |false=>exact puA [(12,.p (.agg (Val.mk v1 v2 v3 v4 v5 v6).cells)),(15,.p (.tup [.agg (Val.mk n q u y A E).cells,num x])),(19,.b false),(25,.p (.agg (Msg.mk ⟨H,O⟩ J L (.mk n q u y A E)).cells)),(26,.p (.agg [.sl false 10 [(Msg.mk ⟨H,O⟩ J L (.mk n q u y A E)).cells],nat 0,ak false,bD]))] (pf5 l j U Q P) (.agg [.sl false 10 [(Msg.mk ⟨H,O⟩ J L (.mk n q u y A E)).cells],nat 0,ak false,bD])
def Res.zoK (t:Bool)(s:Stt)(m m':Msg)(name:qaZ):Res->List X
 |.rej r=>zbT t s m name r
 |.pas j=>zfR s m' j
theorem FV (nd:Nod)(s:Stt)(hs:s.ok)(i:Inp)(hm:i.m.ok)(m':Msg)(q:Res)(N:Nat)(hN:200700<=N)(hr:Gam.aF (ah tab ext N) 48 [.agg ({nd with kind:=2}:Nod).cells,.agg i.m.cells]=some (.agg (q.cells m'))):
  Gam.aF (ah tab ext (N+1)) 8 [.agg ({nd with kind:=2}:Nod).cells,.agg s.cells,.agg ({i with kind:=1}:Inp).cells]=some (.agg (q.zoK false s i.m m' nd.name)):=by
 have Y:=dP N s hs (by omega);have Z:=jm N i.m hm (by omega);obtain ⟨M,rfl⟩:∃M,N=M+100:=⟨N-100,by omega⟩;cases q with
 |rej r=>have h3:=je i.m hm nd.name r (M+100) (by omega);obtain ⟨L,tm,⟨se,sp⟩,⟨⟨e,p⟩,J,o,⟨y,A,B,E,F,H⟩⟩,x,b1,b2,⟨c1,c2,c3,c4,c5,c6⟩⟩:=i;obtain ⟨name,k1,k2,k3,w,k5,k6,u,⟨a,b,c,d⟩,we,el,f,ty,ex,ca,ru,ne⟩:=nd;obtain ⟨n,t,l⟩:=s;exact puA [(15,.p (.agg (Stt.mk n t l).cells)),(23,.p (.agg (Msg.mk ⟨e,p⟩ J o (.mk y A B E F H)).cells)),(36,.p (.agg [.sl false 10 [],num 0,ak false,aC r])),(56,.p (.agg (Fte.mk ⟨e,p⟩ 4 name [] r).cells))] (pf4 Y Z hr h3) (.agg [num n,num t,.sl false 10 (bf l),.sl true 11 [],.sl true 11 [],.sl true 6 [(Fte.mk ⟨e,p⟩ 4 name [] r).cells],.sl true 10 [(Msg.mk ⟨e,p⟩ J o (.mk y A B E F H)).cells]])
 |pas j=>obtain ⟨L,tm,⟨se,sp⟩,⟨⟨e,p⟩,J,o,⟨y,A,B,E,F,H⟩⟩,x,b1,b2,⟨c1,c2,c3,c4,c5,c6⟩⟩:=i;obtain ⟨name,k1,k2,k3,w,k5,k6,u,⟨a,b,c,d⟩,we,el,f,ty,ex,ca,ru,ne⟩:=nd;obtain ⟨n,t,l⟩:=s;obtain ⟨⟨O,p'⟩,h,o',⟨P,Q,S,U,V,W⟩⟩:=m';exact puA [(15,.p (.agg (Stt.mk n t l).cells)),(23,.p (.agg (Msg.mk ⟨e,p⟩ J o (.mk y A B E F H)).cells)),(36,.p (.agg [.sl false 10 [(Msg.mk ⟨O,p'⟩ h o' (.mk P Q S U V W)).cells],nat j,ak false,bD]))] (pf3 Y Z hr) (.agg [num n,num t,.sl false 10 (bf l),.sl true 11 [nat j::(Msg.mk ⟨O,p'⟩ h o' (.mk P Q S U V W)).cells],.sl true 11 [],.sl true 6 [],.sl true 10 []])
theorem Zo (nd:Nod)(s:Stt)(i:Inp)(hm:i.m.ok)(w:Val)(x:Int)(B:Nat)(h:Applied nd i.m.body w x B)(N:Nat)(hN:B+200700<=N):
  Gam.aF (ah tab ext (N+1)) 13 [.agg ({nd with kind:=2}:Nod).cells,.agg s.cells,.agg ({i with kind:=1}:Inp).cells]=some (.agg ((Vx x).zoK true s i.m {i.m with body:=w} nd.name)):=by
 obtain ⟨hw,hx,j⟩:=h;have O:=JL i.m.body hm.body N (by omega);replace j:=j N (by omega);have Q:=pF x hx N (by omega);obtain ⟨M,rfl⟩:∃M,N=M+1:=⟨N-1,by omega⟩;have q:=Zm M {nd with kind:=2} s i.m (kZ x);have P:=Zn M s {i.m with body:=w} 0;unfold Vx;generalize kZ x=r at Q q ⊢;generalize N8 i.m.body=v at O j;clear hm hN hx hw;obtain ⟨v1,v2,v3,v4,v5,v6⟩:=v;obtain ⟨A,E,F,H,J,L⟩:=w;obtain ⟨kd,tm,⟨se,sp⟩,⟨⟨e,p⟩,u,o,⟨S,U,V,W,Y,Z⟩⟩,x',b1,b2,⟨c1,c2,c3,c4,c5,c6⟩⟩:=i;obtain ⟨l,k1,k2,k3,w,k5,k6,pa,⟨a,b,c,d⟩,we,el,f,ty,ex,ca,ru,ne⟩:=nd;obtain ⟨n,t,y⟩:=s;cases h2:(x !=0) with
 |true=>exact puA [(29,.p (.agg (Val.mk v1 v2 v3 v4 v5 v6).cells)),(68,.p (.tup [.agg (Val.mk A E F H J L).cells,num x])),(72,.b true),(77,.p (aC r)),(78,.p (.agg (zbT true (Stt.mk n t y) (Msg.mk ⟨e,p⟩ u o (.mk S U V W Y Z)) l r)))] (pf5 O j h2 Q q) (.agg (zbT true (Stt.mk n t y) (Msg.mk ⟨e,p⟩ u o (.mk S U V W Y Z)) l r))
 |false=>exact puA [(29,.p (.agg (Val.mk v1 v2 v3 v4 v5 v6).cells)),(68,.p (.tup [.agg (Val.mk A E F H J L).cells,num x])),(72,.b false),(83,.p (.agg (zfR (Stt.mk n t y) (Msg.mk ⟨e,p⟩ u o (.mk A E F H J L)) 0)))] (pf4 O j h2 P) (.agg (zfR (Stt.mk n t y) (Msg.mk ⟨e,p⟩ u o (.mk A E F H J L)) 0))
theorem YW (s:Stt)(hs:s.ok)(m:Msg)(hm:m.okW)(j:Nat)(N:Nat)(hN:190400+3*m.body.size<=N):Gam.aF (ah tab ext N) 12 [.agg (zfR s m j),.agg (zfR s m j)]=some (ak true):=by
 obtain ⟨M,rfl⟩:∃M,N=M+101:=⟨N-101,by omega⟩;have f:=Ik (M+100) s hs (by omega);have h:=Zl (M+100) m hm (by omega);have l:(Int.ofNat j !=Int.ofNat j)=false:=by simp
 clear hN hm;obtain ⟨⟨e,p⟩,E,o,⟨n,q,u,y,A,B⟩⟩:=m;obtain ⟨a,b,F⟩:=s;exact puA [(10,.p (ak true)),(40,.b false),(54,.p (ak true))] (pf3 f l h) (ak true)
theorem zdy (q:Res)(s:Stt)(hs:s.ok)(m m':Msg)(hm:m.ok)(hm':m'.okW)(name:qaZ)(N:Nat)(hN:190400+3*m'.body.size<=N):Gam.aF (ah tab ext N) 12 [.agg (q.zoK false s m m' name),.agg (q.zoK true s m m' name)]=some (ak true):=by
 cases q with
 |rej r=>exact zc8 s hs m hm false true name r N (by omega)
 |pas j=>exact YW s hs m' hm' j N hN
end Ct
theorem Lm (m:Msg):∃v,(eP m).body=aV 4 v:=⟨m.body,rfl⟩
theorem rmaps_all (cn:List X)(hcn:isNode cn)(s:Stt)(i:Inp):∃n,ah tab ext n (.fn 5) [.agg cn,.agg s.cells,.agg i.cells] []=some (.v (.bool true),[]):=by
 obtain ⟨H,a,rfl,F,J⟩:=Gj hcn;have L:=(qF s).ok;have u:(bG i).m.ok:=by rw [Ac];exact A8 i.m
 obtain ⟨v,M⟩:=Lm i.m;obtain ⟨w,x,B,f⟩:=Ct.applied a F v;rw [<-M,<-Ac] at f;have N:=f.1;have E:({(bG i).m with body:=w}:Msg).okW:=⟨u.st,u.orig,N⟩;obtain ⟨K,hK⟩:∃K,K=B+3*w.size+201000:=⟨_,rfl⟩;refine ⟨K+10,?_⟩;have y:=Ct.FV a (shortS s) L (bG i) u {(bG i).m with body:=w} (Ct.Vx x) (K+7) (by omega) (Ct.DX {a with kind:=2} (bG i).m u w x B f (K+6) (by omega));have A:=Ct.Zo a (shortS s) (bG i) u w x B f (K+7) (by omega);have l:=Ct.zdy (Ct.Vx x) (shortS s) L (bG i).m {(bG i).m with body:=w} u E a.name (K+8) (by grind);generalize Ct.Vx x=q at y A l;have h:Gam.aF (ah tab ext (K+9)) 11 [.agg H.cells,.agg s.cells,.agg i.cells,num 2]=some (ak true):=by
  cases q with
  |rej r=>exact NT H a J s i 2 (K+9) (by omega) _ _ _ _ _ _ _ _ _ _ _ _ y A l
  |pas j=>exact NT H a J s i 2 (K+9) (by omega) _ _ _ _ _ _ _ _ _ _ _ _ y A l
 obtain ⟨kd,tm,⟨se,sp⟩,⟨⟨e,p⟩,ms,o,⟨O,P,Q,S,U,V⟩⟩,x',W,Y,⟨Z,c2,c3,c4,c5,c6⟩⟩:=i;exact caA [(10,.p (ak true))] (pf1 h)
end
end Go.Proofs.YtpcjeobkehmhpaaGreatDoor
namespace Go.Proofs
section
open Go.Shelf
theorem cgS {α:Type}{a b:α}(h:a=b:=by kernel_rfl):some a=some b:=congrArg some h
def Tryz.qZ:Go.Shelf.Ren:=⟨fun|171=>64|243=>88|246=>121|283=>184|284=>185|285=>186|286=>187|129=>167|317=>242|318=>243|319=>244|320=>245|337=>283|338=>284|n=>n,fun|3=>3|9=>9|2=>2|4=>4|171=>254|0=>0|53=>241|37=>256|5=>5|173=>257|212=>317|51=>239|20=>20|213=>318|46=>196|232=>374|233=>375|n=>n,fun|17=>3|18=>4|19=>5|n=>n⟩
theorem Tryz.laysItoa:Go.Proofs.LaysM.n171 Tryz.prog Tryz.qZ:={
 mixed:=by kernel_rfl
 f129:=Tryz.func167.trans cgS
 f171:=Tryz.func64.trans cgS
 f243:=Tryz.func88.trans cgS
 f246:=Tryz.func121.trans cgS
 f283:=Tryz.func184.trans cgS
 f284:=Tryz.func185.trans cgS
 f285:=Tryz.func186.trans cgS
 f286:=Tryz.func187.trans cgS
 f317:=Tryz.func242.trans cgS
 f318:=Tryz.func243.trans cgS
 f319:=Tryz.func244.trans cgS
 f320:=Tryz.func245.trans cgS
 f337:=Tryz.func283.trans cgS
 f338:=Tryz.func284.trans cgS
 t0:=Tryz.underlying0
 a0:=Tryz.isAgg0
 z0:=Tryz.sizeOf0
 v0:=Tryz.zeroValue0
 t2:=Tryz.underlying2
 a2:=Tryz.isAgg2
 z2:=Tryz.sizeOf2
 v2:=Tryz.zeroValue2
 t3:=Tryz.underlying3
 a3:=Tryz.isAgg3
 z3:=Tryz.sizeOf3
 v3:=Tryz.zeroValue3
 t4:=Tryz.underlying4
 a4:=Tryz.isAgg4
 z4:=Tryz.sizeOf4
 v4:=Tryz.zeroValue4
 t5:=Tryz.underlying5
 a5:=Tryz.isAgg5
 z5:=Tryz.sizeOf5
 v5:=Tryz.zeroValue5
 t9:=Tryz.underlying9
 a9:=Tryz.isAgg9
 z9:=Tryz.sizeOf9
 v9:=Tryz.zeroValue9
 t20:=Tryz.underlying20
 a20:=Tryz.isAgg20
 z20:=Tryz.sizeOf20
 v20:=Tryz.zeroValue20
 t37:=Tryz.underlying256
 a37:=Tryz.isAgg256
 z37:=Tryz.sizeOf256
 v37:=Tryz.zeroValue256
 t46:=Tryz.underlying196
 a46:=Tryz.isAgg196
 z46:=Tryz.sizeOf196
 v46:=Tryz.zeroValue196
 t51:=Tryz.underlying239
 a51:=Tryz.isAgg239
 z51:=Tryz.sizeOf239
 v51:=Tryz.zeroValue239
 t53:=Tryz.underlying241
 a53:=Tryz.isAgg241
 z53:=Tryz.sizeOf241
 v53:=Tryz.zeroValue241
 t171:=Tryz.underlying254
 a171:=Tryz.isAgg254
 z171:=Tryz.sizeOf254
 v171:=Tryz.zeroValue254
 t173:=Tryz.underlying257
 a173:=Tryz.isAgg257
 z173:=Tryz.sizeOf257
 v173:=Tryz.zeroValue257
 t212:=Tryz.underlying317
 a212:=Tryz.isAgg317
 z212:=Tryz.sizeOf317
 v212:=Tryz.zeroValue317
 t213:=Tryz.underlying318
 a213:=Tryz.isAgg318
 z213:=Tryz.sizeOf318
 t232:=Tryz.underlying374
 a232:=Tryz.isAgg374
 z232:=Tryz.sizeOf374
 v232:=Tryz.zeroValue374
 t233:=Tryz.underlying375
 a233:=Tryz.isAgg375
 z233:=Tryz.sizeOf375
 v233:=Tryz.zeroValue375
 g17:=by kernel_rfl
 g18:=by kernel_rfl
 g19:=by kernel_rfl
 i0:=by kernel_rfl
 i2:=by kernel_rfl
 i3:=by kernel_rfl
 i4:=by kernel_rfl
 i5:=by kernel_rfl
 i9:=by kernel_rfl
 i20:=by kernel_rfl
 i37:=by kernel_rfl
 i46:=by kernel_rfl
 i51:=by kernel_rfl
 i53:=by kernel_rfl
 i171:=by kernel_rfl
 i173:=by kernel_rfl
 i212:=by kernel_rfl
 i232:=by kernel_rfl
 i233:=by kernel_rfl
 m17:=by kernel_rfl
 m18:=by kernel_rfl
 m19:=by kernel_rfl}
def Tryz.lH:Go.Shelf.Ren:=⟨fun|197=>301|260=>316|n=>n,fun|9=>9|21=>21|3=>3|4=>4|5=>5|105=>364|119=>277|0=>0|46=>196|139=>280|138=>279|n=>n,fun|3=>1|4=>2|n=>n⟩
theorem Tryz.zim:Go.Proofs.Lays.n197 Tryz.prog Tryz.lH:={
 mixed:=by kernel_rfl
 f197:=Tryz.func301.trans cgS
 f260:=Tryz.func316.trans cgS
 t0:=Tryz.underlying0
 a0:=Tryz.isAgg0
 z0:=Tryz.sizeOf0
 v0:=Tryz.zeroValue0
 t3:=Tryz.underlying3
 a3:=Tryz.isAgg3
 z3:=Tryz.sizeOf3
 v3:=Tryz.zeroValue3
 t4:=Tryz.underlying4
 a4:=Tryz.isAgg4
 z4:=Tryz.sizeOf4
 v4:=Tryz.zeroValue4
 t5:=Tryz.underlying5
 a5:=Tryz.isAgg5
 z5:=Tryz.sizeOf5
 v5:=Tryz.zeroValue5
 t9:=Tryz.underlying9
 a9:=Tryz.isAgg9
 z9:=Tryz.sizeOf9
 v9:=Tryz.zeroValue9
 t21:=Tryz.underlying21
 a21:=Tryz.isAgg21
 z21:=Tryz.sizeOf21
 v21:=Tryz.zeroValue21
 t46:=Tryz.underlying196
 a46:=Tryz.isAgg196
 z46:=Tryz.sizeOf196
 v46:=Tryz.zeroValue196
 t105:=Tryz.underlying364
 a105:=Tryz.isAgg364
 z105:=Tryz.sizeOf364
 v105:=Tryz.zeroValue364
 t119:=Tryz.underlying277
 a119:=Tryz.isAgg277
 z119:=Tryz.sizeOf277
 t138:=Tryz.underlying279
 a138:=Tryz.isAgg279
 z138:=Tryz.sizeOf279
 v138:=Tryz.zeroValue279
 t139:=Tryz.underlying280
 a139:=Tryz.isAgg280
 z139:=Tryz.sizeOf280
 v139:=Tryz.zeroValue280
 g3:=by kernel_rfl
 g4:=by kernel_rfl}
def Tryz.Ci:Go.Shelf.Ren:=⟨fun|105=>305|212=>156|99=>190|165=>319|166=>320|170=>321|169=>275|263=>206|264=>207|206=>250|240=>302|241=>329|276=>317|277=>331|n=>n,fun|9=>9|3=>3|4=>4|20=>20|0=>0|46=>196|109=>228|5=>5|72=>343|76=>265|51=>239|146=>282|53=>241|148=>284|70=>341|37=>256|75=>264|127=>367|164=>383|80=>345|n=>n,fun|n=>n⟩
theorem Tryz.Cj:Go.Proofs.Lays.n105 Tryz.prog Tryz.Ci:={
 mixed:=by kernel_rfl
 f99:=Tryz.func190.trans cgS
 f105:=Tryz.func305.trans cgS
 f165:=Tryz.func319.trans cgS
 f166:=Tryz.func320.trans cgS
 f169:=Tryz.func275.trans cgS
 f170:=Tryz.func321.trans cgS
 f206:=Tryz.func250.trans cgS
 f212:=Tryz.func156.trans cgS
 f240:=Tryz.func302.trans cgS
 f241:=Tryz.func329.trans cgS
 f263:=Tryz.func206.trans cgS
 f264:=Tryz.func207.trans cgS
 f276:=Tryz.func317.trans cgS
 f277:=Tryz.func331.trans cgS
 t0:=Tryz.underlying0
 a0:=Tryz.isAgg0
 z0:=Tryz.sizeOf0
 v0:=Tryz.zeroValue0
 t3:=Tryz.underlying3
 a3:=Tryz.isAgg3
 z3:=Tryz.sizeOf3
 v3:=Tryz.zeroValue3
 t4:=Tryz.underlying4
 a4:=Tryz.isAgg4
 z4:=Tryz.sizeOf4
 v4:=Tryz.zeroValue4
 t5:=Tryz.underlying5
 a5:=Tryz.isAgg5
 z5:=Tryz.sizeOf5
 v5:=Tryz.zeroValue5
 t9:=Tryz.underlying9
 a9:=Tryz.isAgg9
 z9:=Tryz.sizeOf9
 v9:=Tryz.zeroValue9
 t20:=Tryz.underlying20
 a20:=Tryz.isAgg20
 z20:=Tryz.sizeOf20
 v20:=Tryz.zeroValue20
 t37:=Tryz.underlying256
 a37:=Tryz.isAgg256
 z37:=Tryz.sizeOf256
 v37:=Tryz.zeroValue256
 t46:=Tryz.underlying196
 a46:=Tryz.isAgg196
 z46:=Tryz.sizeOf196
 v46:=Tryz.zeroValue196
 t51:=Tryz.underlying239
 a51:=Tryz.isAgg239
 z51:=Tryz.sizeOf239
 v51:=Tryz.zeroValue239
 t53:=Tryz.underlying241
 a53:=Tryz.isAgg241
 z53:=Tryz.sizeOf241
 v53:=Tryz.zeroValue241
 t70:=Tryz.underlying341
 a70:=Tryz.isAgg341
 z70:=Tryz.sizeOf341
 v70:=Tryz.zeroValue341
 t72:=Tryz.underlying343
 a72:=Tryz.isAgg343
 z72:=Tryz.sizeOf343
 v72:=Tryz.zeroValue343
 t75:=Tryz.underlying264
 a75:=Tryz.isAgg264
 z75:=Tryz.sizeOf264
 v75:=Tryz.zeroValue264
 t76:=Tryz.underlying265
 a76:=Tryz.isAgg265
 z76:=Tryz.sizeOf265
 v76:=Tryz.zeroValue265
 t109:=Tryz.underlying228
 a109:=Tryz.isAgg228
 z109:=Tryz.sizeOf228
 v109:=Tryz.zeroValue228
 t127:=Tryz.underlying367
 a127:=Tryz.isAgg367
 z127:=Tryz.sizeOf367
 v127:=Tryz.zeroValue367
 t146:=Tryz.underlying282
 a146:=Tryz.isAgg282
 z146:=Tryz.sizeOf282
 v146:=Tryz.zeroValue282
 t148:=Tryz.underlying284
 a148:=Tryz.isAgg284
 z148:=Tryz.sizeOf284
 v148:=Tryz.zeroValue284
 t164:=Tryz.underlying383
 a164:=Tryz.isAgg383
 z164:=Tryz.sizeOf383
 v164:=Tryz.zeroValue383}
def Tryz.Gs:Go.Shelf.Ren:=⟨fun|169=>275|n=>n,fun|70=>341|9=>9|0=>0|72=>343|37=>256|127=>367|3=>3|5=>5|n=>n,fun|n=>n⟩
theorem Tryz.zni:Go.Proofs.Lays.n169 Tryz.prog Tryz.Gs:={
 mixed:=by kernel_rfl
 f169:=Tryz.func275.trans cgS
 t0:=Tryz.underlying0
 a0:=Tryz.isAgg0
 z0:=Tryz.sizeOf0
 v0:=Tryz.zeroValue0
 t3:=Tryz.underlying3
 a3:=Tryz.isAgg3
 z3:=Tryz.sizeOf3
 v3:=Tryz.zeroValue3
 t9:=Tryz.underlying9
 a9:=Tryz.isAgg9
 z9:=Tryz.sizeOf9
 v9:=Tryz.zeroValue9
 t37:=Tryz.underlying256
 a37:=Tryz.isAgg256
 z37:=Tryz.sizeOf256
 v37:=Tryz.zeroValue256
 t70:=Tryz.underlying341
 a70:=Tryz.isAgg341
 z70:=Tryz.sizeOf341
 v70:=Tryz.zeroValue341
 t72:=Tryz.underlying343
 a72:=Tryz.isAgg343
 z72:=Tryz.sizeOf343
 v72:=Tryz.zeroValue343
 t127:=Tryz.underlying367
 a127:=Tryz.isAgg367
 z127:=Tryz.sizeOf367
 v127:=Tryz.zeroValue367}
def Tryz.rC:Go.Shelf.Ren:=⟨fun|172=>192|244=>252|245=>253|247=>290|279=>291|280=>292|281=>293|282=>294|287=>311|316=>312|171=>64|205=>313|321=>327|322=>328|243=>88|246=>121|283=>184|284=>185|285=>186|286=>187|129=>167|317=>242|318=>243|319=>244|320=>245|337=>283|338=>284|n=>n,fun|9=>9|3=>3|75=>264|76=>265|4=>4|5=>5|167=>355|37=>256|0=>0|85=>356|2=>2|168=>358|53=>241|175=>376|46=>196|210=>379|127=>367|145=>392|143=>390|21=>21|171=>254|173=>257|212=>317|51=>239|20=>20|213=>318|232=>374|233=>375|80=>345|n=>n,fun|15=>6|16=>7|17=>3|18=>4|19=>5|n=>n⟩
theorem Tryz.laysAtoi:Go.Proofs.LaysC.n172 Tryz.prog Tryz.rC:={
 mixed:=by kernel_rfl
 f129:=Tryz.func167.trans cgS
 f171:=Tryz.func64.trans cgS
 f172:=Tryz.func192.trans cgS
 f205:=Tryz.func313.trans cgS
 f243:=Tryz.func88.trans cgS
 f244:=Tryz.func252.trans cgS
 f245:=Tryz.func253.trans cgS
 f246:=Tryz.func121.trans cgS
 f247:=Tryz.func290.trans cgS
 f279:=Tryz.func291.trans cgS
 f280:=Tryz.func292.trans cgS
 f281:=Tryz.func293.trans cgS
 f282:=Tryz.func294.trans cgS
 f283:=Tryz.func184.trans cgS
 f284:=Tryz.func185.trans cgS
 f285:=Tryz.func186.trans cgS
 f286:=Tryz.func187.trans cgS
 f287:=Tryz.func311.trans cgS
 f316:=Tryz.func312.trans cgS
 f317:=Tryz.func242.trans cgS
 f318:=Tryz.func243.trans cgS
 f319:=Tryz.func244.trans cgS
 f320:=Tryz.func245.trans cgS
 f321:=Tryz.func327.trans cgS
 f322:=Tryz.func328.trans cgS
 f337:=Tryz.func283.trans cgS
 f338:=Tryz.func284.trans cgS
 t0:=Tryz.underlying0
 a0:=Tryz.isAgg0
 z0:=Tryz.sizeOf0
 v0:=Tryz.zeroValue0
 t2:=Tryz.underlying2
 a2:=Tryz.isAgg2
 z2:=Tryz.sizeOf2
 v2:=Tryz.zeroValue2
 t3:=Tryz.underlying3
 a3:=Tryz.isAgg3
 z3:=Tryz.sizeOf3
 v3:=Tryz.zeroValue3
 t4:=Tryz.underlying4
 a4:=Tryz.isAgg4
 z4:=Tryz.sizeOf4
 v4:=Tryz.zeroValue4
 t5:=Tryz.underlying5
 a5:=Tryz.isAgg5
 z5:=Tryz.sizeOf5
 v5:=Tryz.zeroValue5
 t9:=Tryz.underlying9
 a9:=Tryz.isAgg9
 z9:=Tryz.sizeOf9
 v9:=Tryz.zeroValue9
 t20:=Tryz.underlying20
 a20:=Tryz.isAgg20
 z20:=Tryz.sizeOf20
 v20:=Tryz.zeroValue20
 t21:=Tryz.underlying21
 a21:=Tryz.isAgg21
 z21:=Tryz.sizeOf21
 v21:=Tryz.zeroValue21
 t37:=Tryz.underlying256
 a37:=Tryz.isAgg256
 z37:=Tryz.sizeOf256
 v37:=Tryz.zeroValue256
 t46:=Tryz.underlying196
 a46:=Tryz.isAgg196
 z46:=Tryz.sizeOf196
 v46:=Tryz.zeroValue196
 t51:=Tryz.underlying239
 a51:=Tryz.isAgg239
 z51:=Tryz.sizeOf239
 v51:=Tryz.zeroValue239
 t53:=Tryz.underlying241
 a53:=Tryz.isAgg241
 z53:=Tryz.sizeOf241
 v53:=Tryz.zeroValue241
 t75:=Tryz.underlying264
 a75:=Tryz.isAgg264
 z75:=Tryz.sizeOf264
 v75:=Tryz.zeroValue264
 t76:=Tryz.underlying265
 a76:=Tryz.isAgg265
 z76:=Tryz.sizeOf265
 v76:=Tryz.zeroValue265
 t85:=Tryz.underlying356
 a85:=Tryz.isAgg356
 z85:=Tryz.sizeOf356
 v85:=Tryz.zeroValue356
 t127:=Tryz.underlying367
 a127:=Tryz.isAgg367
 z127:=Tryz.sizeOf367
 v127:=Tryz.zeroValue367
 t143:=Tryz.underlying390
 a143:=Tryz.isAgg390
 z143:=Tryz.sizeOf390
 v143:=Tryz.zeroValue390
 t145:=Tryz.underlying392
 a145:=Tryz.isAgg392
 z145:=Tryz.sizeOf392
 v145:=Tryz.zeroValue392
 t167:=Tryz.underlying355
 a167:=Tryz.isAgg355
 z167:=Tryz.sizeOf355
 v167:=Tryz.zeroValue355
 t168:=Tryz.underlying358
 a168:=Tryz.isAgg358
 z168:=Tryz.sizeOf358
 v168:=Tryz.zeroValue358
 t171:=Tryz.underlying254
 a171:=Tryz.isAgg254
 z171:=Tryz.sizeOf254
 v171:=Tryz.zeroValue254
 t173:=Tryz.underlying257
 a173:=Tryz.isAgg257
 z173:=Tryz.sizeOf257
 v173:=Tryz.zeroValue257
 t175:=Tryz.underlying376
 a175:=Tryz.isAgg376
 z175:=Tryz.sizeOf376
 v175:=Tryz.zeroValue376
 t210:=Tryz.underlying379
 a210:=Tryz.isAgg379
 z210:=Tryz.sizeOf379
 v210:=Tryz.zeroValue379
 t212:=Tryz.underlying317
 a212:=Tryz.isAgg317
 z212:=Tryz.sizeOf317
 v212:=Tryz.zeroValue317
 t213:=Tryz.underlying318
 a213:=Tryz.isAgg318
 z213:=Tryz.sizeOf318
 t232:=Tryz.underlying374
 a232:=Tryz.isAgg374
 z232:=Tryz.sizeOf374
 v232:=Tryz.zeroValue374
 t233:=Tryz.underlying375
 a233:=Tryz.isAgg375
 z233:=Tryz.sizeOf375
 v233:=Tryz.zeroValue375
 g15:=by kernel_rfl
 g16:=by kernel_rfl
 g17:=by kernel_rfl
 g18:=by kernel_rfl
 g19:=by kernel_rfl
 t80:=Tryz.underlying345
 a80:=Tryz.isAgg345
 z80:=Tryz.sizeOf345
 v80:=Tryz.zeroValue345
 i0:=by kernel_rfl
 i2:=by kernel_rfl
 i3:=by kernel_rfl
 i4:=by kernel_rfl
 i5:=by kernel_rfl
 i9:=by kernel_rfl
 i20:=by kernel_rfl
 i21:=by kernel_rfl
 i37:=by kernel_rfl
 i46:=by kernel_rfl
 i51:=by kernel_rfl
 i53:=by kernel_rfl
 i75:=by kernel_rfl
 i76:=by kernel_rfl
 i80:=by kernel_rfl
 i85:=by kernel_rfl
 i127:=by kernel_rfl
 i143:=by kernel_rfl
 i145:=by kernel_rfl
 i167:=by kernel_rfl
 i168:=by kernel_rfl
 i171:=by kernel_rfl
 i173:=by kernel_rfl
 i175:=by kernel_rfl
 i210:=by kernel_rfl
 i212:=by kernel_rfl
 i232:=by kernel_rfl
 i233:=by kernel_rfl
 m15:=by kernel_rfl
 m16:=by kernel_rfl
 m17:=by kernel_rfl
 m18:=by kernel_rfl
 m19:=by kernel_rfl
 c0:=by kernel_rfl
 c2:=by kernel_rfl
 c3:=by kernel_rfl
 c4:=by kernel_rfl
 c5:=by kernel_rfl
 c9:=by kernel_rfl
 c20:=by kernel_rfl
 c21:=by kernel_rfl
 c37:=by kernel_rfl
 c46:=by kernel_rfl
 c51:=by kernel_rfl
 c53:=by kernel_rfl
 c75:=by kernel_rfl
 c76:=by kernel_rfl
 c80:=by kernel_rfl
 c85:=by kernel_rfl
 c127:=by kernel_rfl
 c143:=by kernel_rfl
 c145:=by kernel_rfl
 c167:=by kernel_rfl
 c168:=by kernel_rfl
 c171:=by kernel_rfl
 c173:=by kernel_rfl
 c175:=by kernel_rfl
 c210:=by kernel_rfl
 c212:=by kernel_rfl
 c213:=by kernel_rfl
 c232:=by kernel_rfl
 c233:=by kernel_rfl}
def Tryz.Gq:Go.Shelf.Ren:=⟨fun|168=>274|240=>302|242=>303|276=>317|278=>318|n=>n,fun|70=>341|21=>21|3=>3|75=>264|0=>0|72=>343|37=>256|4=>4|164=>383|51=>239|5=>5|46=>196|80=>345|9=>9|n=>n,fun|n=>n⟩
theorem Tryz.wo:Go.Proofs.Lays.n168 Tryz.prog Tryz.Gq:={
 mixed:=by kernel_rfl
 f168:=Tryz.func274.trans cgS
 f240:=Tryz.func302.trans cgS
 f242:=Tryz.func303.trans cgS
 f276:=Tryz.func317.trans cgS
 f278:=Tryz.func318.trans cgS
 t0:=Tryz.underlying0
 a0:=Tryz.isAgg0
 z0:=Tryz.sizeOf0
 v0:=Tryz.zeroValue0
 t3:=Tryz.underlying3
 a3:=Tryz.isAgg3
 z3:=Tryz.sizeOf3
 v3:=Tryz.zeroValue3
 t4:=Tryz.underlying4
 a4:=Tryz.isAgg4
 z4:=Tryz.sizeOf4
 v4:=Tryz.zeroValue4
 t5:=Tryz.underlying5
 a5:=Tryz.isAgg5
 z5:=Tryz.sizeOf5
 v5:=Tryz.zeroValue5
 t9:=Tryz.underlying9
 a9:=Tryz.isAgg9
 z9:=Tryz.sizeOf9
 v9:=Tryz.zeroValue9
 t20:=Tryz.underlying20
 a20:=Tryz.isAgg20
 z20:=Tryz.sizeOf20
 v20:=Tryz.zeroValue20
 t21:=Tryz.underlying21
 a21:=Tryz.isAgg21
 z21:=Tryz.sizeOf21
 v21:=Tryz.zeroValue21
 t37:=Tryz.underlying256
 a37:=Tryz.isAgg256
 z37:=Tryz.sizeOf256
 v37:=Tryz.zeroValue256
 t46:=Tryz.underlying196
 a46:=Tryz.isAgg196
 z46:=Tryz.sizeOf196
 v46:=Tryz.zeroValue196
 t51:=Tryz.underlying239
 a51:=Tryz.isAgg239
 z51:=Tryz.sizeOf239
 v51:=Tryz.zeroValue239
 t70:=Tryz.underlying341
 a70:=Tryz.isAgg341
 z70:=Tryz.sizeOf341
 v70:=Tryz.zeroValue341
 t72:=Tryz.underlying343
 a72:=Tryz.isAgg343
 z72:=Tryz.sizeOf343
 v72:=Tryz.zeroValue343
 t75:=Tryz.underlying264
 a75:=Tryz.isAgg264
 z75:=Tryz.sizeOf264
 v75:=Tryz.zeroValue264
 t164:=Tryz.underlying383
 a164:=Tryz.isAgg383
 z164:=Tryz.sizeOf383
 v164:=Tryz.zeroValue383}
def Tryz.O8:Go.Shelf.Ren:=⟨fun|219=>289|217=>309|225=>288|224=>287|267=>310|266=>325|314=>326|n=>n,fun|9=>9|3=>3|4=>4|5=>5|46=>196|146=>282|51=>239|n=>n,fun|1=>0|n=>n⟩
theorem Tryz.zil:Go.Proofs.Lays.n219 Tryz.prog Tryz.O8:={
 mixed:=by kernel_rfl
 f217:=Tryz.func309.trans cgS
 f219:=Tryz.func289.trans cgS
 f224:=Tryz.func287.trans cgS
 f225:=Tryz.func288.trans cgS
 f266:=Tryz.func325.trans cgS
 f267:=Tryz.func310.trans cgS
 f314:=Tryz.func326.trans cgS
 t3:=Tryz.underlying3
 a3:=Tryz.isAgg3
 z3:=Tryz.sizeOf3
 v3:=Tryz.zeroValue3
 t4:=Tryz.underlying4
 a4:=Tryz.isAgg4
 z4:=Tryz.sizeOf4
 v4:=Tryz.zeroValue4
 t5:=Tryz.underlying5
 a5:=Tryz.isAgg5
 z5:=Tryz.sizeOf5
 v5:=Tryz.zeroValue5
 t9:=Tryz.underlying9
 a9:=Tryz.isAgg9
 z9:=Tryz.sizeOf9
 v9:=Tryz.zeroValue9
 t46:=Tryz.underlying196
 a46:=Tryz.isAgg196
 z46:=Tryz.sizeOf196
 v46:=Tryz.zeroValue196
 t51:=Tryz.underlying239
 a51:=Tryz.isAgg239
 z51:=Tryz.sizeOf239
 v51:=Tryz.zeroValue239
 t146:=Tryz.underlying282
 a146:=Tryz.isAgg282
 z146:=Tryz.sizeOf282
 v146:=Tryz.zeroValue282
 g1:=by kernel_rfl}
def Tryz.Cm:Go.Shelf.Ren:=⟨fun|153=>189|152=>246|226=>247|227=>248|228=>249|137=>285|119=>286|224=>287|225=>288|217=>309|266=>325|n=>n,fun|9=>9|3=>3|4=>4|5=>5|21=>21|117=>322|116=>321|0=>0|46=>196|124=>354|n=>n,fun|n=>n⟩
theorem Tryz.O9:Go.Proofs.Lays.n153 Tryz.prog Tryz.Cm:={
 mixed:=by kernel_rfl
 f119:=Tryz.func286.trans cgS
 f137:=Tryz.func285.trans cgS
 f152:=Tryz.func246.trans cgS
 f153:=Tryz.func189.trans cgS
 f217:=Tryz.func309.trans cgS
 f224:=Tryz.func287.trans cgS
 f225:=Tryz.func288.trans cgS
 f226:=Tryz.func247.trans cgS
 f227:=Tryz.func248.trans cgS
 f228:=Tryz.func249.trans cgS
 f266:=Tryz.func325.trans cgS
 t0:=Tryz.underlying0
 a0:=Tryz.isAgg0
 z0:=Tryz.sizeOf0
 v0:=Tryz.zeroValue0
 t3:=Tryz.underlying3
 a3:=Tryz.isAgg3
 z3:=Tryz.sizeOf3
 v3:=Tryz.zeroValue3
 t4:=Tryz.underlying4
 a4:=Tryz.isAgg4
 z4:=Tryz.sizeOf4
 v4:=Tryz.zeroValue4
 t5:=Tryz.underlying5
 a5:=Tryz.isAgg5
 z5:=Tryz.sizeOf5
 v5:=Tryz.zeroValue5
 t9:=Tryz.underlying9
 a9:=Tryz.isAgg9
 z9:=Tryz.sizeOf9
 v9:=Tryz.zeroValue9
 t21:=Tryz.underlying21
 a21:=Tryz.isAgg21
 z21:=Tryz.sizeOf21
 v21:=Tryz.zeroValue21
 t46:=Tryz.underlying196
 a46:=Tryz.isAgg196
 z46:=Tryz.sizeOf196
 v46:=Tryz.zeroValue196
 t116:=Tryz.underlying321
 a116:=Tryz.isAgg321
 z116:=Tryz.sizeOf321
 t117:=Tryz.underlying322
 a117:=Tryz.isAgg322
 z117:=Tryz.sizeOf322
 v117:=Tryz.zeroValue322
 t124:=Tryz.underlying354
 a124:=Tryz.isAgg354
 z124:=Tryz.sizeOf354
 v124:=Tryz.zeroValue354}
end
section
open Go.Shelf Go.RowKit Go.Sort Go.Lib
variable {P:Program} {ρ:Ren}
def NV (g:Nat)(w:World):Prop:=∀i,i<20->w.cell? ⟨g,i,none⟩=some (.int .u64 ((10^i:Nat):Int))
theorem NV.alloc {g:Nat}{w:World}(h:NV g w)(o:Obj):NV g (w.alloc o):=fun i a=>by
 have:=h i a;have f:g≠w.heap.size:=fun e=>by simp_all[World.cell?]
 unfold World.cell? at this ⊢;unfold World.alloc<;>simp_all[Array.getElem?_push]
set_option maxHeartbeats 2000000 in
set_option maxRecDepth 100000 in
theorem zgt.internal_strconv_numDigits (L:LaysM.n284 P ρ)(u:Nat)(h1:1<=u)(h2:u<18446744073709551616)(w:World)
  (htab:NV (ρ.g 17) w):
  Calls P (ρ.f 284) #[.int .u64 u] w fun e w'=>e=.returned (.int .i64 (Lib.nDigits u))/\w'=w:=by
 have mixed:=L.mixed;have t53:=L.t53;have a53:=L.a53;have z53:=L.z53;have v53:=L.v53;have t3:=L.t3;have a3:=L.a3;have z3:=L.z3;have v3:=L.v3;have t212:=L.t212;have a212:=L.a212;have z212:=L.z212;have v212:=L.v212;have t0:=L.t0;have a0:=L.a0;have z0:=L.z0;have v0:=L.v0;have t4:=L.t4;have a4:=L.a4;have z4:=L.z4;have v4:=L.v4;have e129:∀args w,(callFunc (ρ.f 129) args).run P w=.ok (.enter (ρ.f 129) args) w:=enters_of L.f129 (by kernel_rfl) rfl;have e317:∀args w,(callFunc (ρ.f 317) args).run P w=.ok (.enter (ρ.f 317) args) w:=enters_of L.f317 (by kernel_rfl) rfl;have e318:∀args w,(callFunc (ρ.f 318) args).run P w=.ok (.enter (ρ.f 318) args) w:=enters_of L.f318 (by kernel_rfl) rfl;obtain ⟨hnd,h19⟩:=Lib.numDigits_eq u h1 h2;have hL:=Lib.bitLen_le u 64 (Nat.le_refl _) h2;have hcell:w.cell? ⟨(ρ.g 17),Lib.l10 (Lib.bitLen u),none⟩=some (.int .u64 ((10^Lib.l10 (Lib.bitLen u):Nat):Int)):=by exact htab _ (by omega)
 have hto:((u:Int)).toNat=u:=by omega
 generalize hq:Lib.l10 (Lib.bitLen u)=q at hnd h19 hcell;generalize hT:10^q=T at hnd hcell;have h20:q<20:=by omega
 have Hnd:=Lib.hid hnd;clear hnd htab
 go_enter L.f284,Body.n284_ntmps ρ
 go_wp2_with (first
  |(go_at_fn (ρ.f 129);refine (Any.bits_Len64 {L with} _ _ (by omega) (by omega)).mono ?_;rintro e w' ⟨rfl,rfl⟩)
  |(go_at_fn (ρ.f 317);refine (Any.internal_strconv_log10Pow2 {L with} _ (by grind) _).mono ?_;rintro e w' ⟨rfl,rfl⟩)
  |(go_at_fn (ρ.f 318);refine (Any.internal_strconv_bool2_int {L with} _ _).mono ?_;rintro e w' ⟨rfl,rfl⟩))
 all_goals go_ret
 all_goals (
  refine ⟨?_,rfl⟩;have hnd:=Hnd.out
  congr 2
  split at hnd<;>simp_all<;>omega)
set_option maxHeartbeats 6400000 in
set_option maxRecDepth 100000 in
theorem zgt.internal_strconv_FormatInt_10 (L:LaysM.n246 P ρ)(n:Int)(h0:-9223372036854775808<=n)(h1:n<=9223372036854775807)(w:World)
  (htab:NV (ρ.g 17) w):
  Calls P (ρ.f 246) #[.int .i64 n,.int .i64 10] w fun e w'=>e=.returned (.string ⟨(Lib.itoa n).toArray⟩)/\∃k os,w'=grow (w.drewN k) os:=by
 have mixed:=L.mixed;have t2:=L.t2;have a2:=L.a2;have z2:=L.z2;have v2:=L.v2;have t3:=L.t3;have a3:=L.a3;have z3:=L.z3;have v3:=L.v3;have t9:=L.t9;have a9:=L.a9;have z9:=L.z9;have v9:=L.v9;have t4:=L.t4;have a4:=L.a4;have z4:=L.z4;have v4:=L.v4;have t171:=L.t171;have a171:=L.a171;have z171:=L.z171;have v171:=L.v171;have t0:=L.t0;have a0:=L.a0;have z0:=L.z0;have v0:=L.v0;have t53:=L.t53;have a53:=L.a53;have z53:=L.z53;have v53:=L.v53;have t37:=L.t37;have a37:=L.a37;have z37:=L.z37;have v37:=L.v37;have t5:=L.t5;have a5:=L.a5;have z5:=L.z5;have v5:=L.v5;have t173:=L.t173;have a173:=L.a173;have z173:=L.z173;have v173:=L.v173;have e283:∀args w,(callFunc (ρ.f 283) args).run P w=.ok (.enter (ρ.f 283) args) w:=enters_of L.f283 (by kernel_rfl) rfl;have e284:∀args w,(callFunc (ρ.f 284) args).run P w=.ok (.enter (ρ.f 284) args) w:=enters_of L.f284 (by kernel_rfl) rfl;have e285:∀args w,(callFunc (ρ.f 285) args).run P w=.ok (.enter (ρ.f 285) args) w:=enters_of L.f285 (by kernel_rfl) rfl;by_cases hs:0<=n/\n<100
 ·
  obtain ⟨i,rfl⟩:∃i:Nat,n=i:=⟨n.toNat,by omega⟩;have hi:i<100:=by omega
  go_enter L.f246,Body.n246_ntmps ρ
  go_wp2_with (go_at_fn (ρ.f 283);refine (Any.internal_strconv_small {L with} i hi _).mono ?_;rintro e w' ⟨rfl,rfl⟩)
  go_ret
  refine ⟨?_,0,#[],by simp [World.drewN_zero]⟩;rw [Lib.itoa_nonneg];rfl
 by_cases hneg:n<0
 ·obtain ⟨u,rfl⟩:∃u:Nat,n=-(u:Int):=⟨n.natAbs,by omega⟩;have hu1:1<=u:=by omega
  have hu64:u<18446744073709551616:=by omega
  have hnd20:Lib.nDigits u<=20:=by have:=Lib.numDigits_eq u hu1 hu64;split at this<;>omega
  have hwr:IntKind.u64.wrap (-IntKind.u64.wrap (-(u:Int)))=(u:Int):=by rw [IntKind.wrap_u64,IntKind.wrap_u64];omega
  have hb3:Lib.nDigits u<=23:=by omega
  have hal:P.arrayLen (ρ.t 171)=24:=by simp [Program.arrayLen,L.t171]
  have hsl1:∀W,(Instr.sliceAt (ρ.t 171) (.pointer (some ⟨w.heap.size,0,none⟩)) (some (.int .i64 1)) (some (.int .i64 (1+(Lib.nDigits u:Int)))) none).run P W=.ok (.slice (some ⟨w.heap.size,1,none⟩) (Lib.nDigits u) 23) W:=fun W=>by
   rw [run_sliceAt_array_lh W (ρ.t 171) ⟨w.heap.size,0,none⟩ (by grind[Program.elem]) .i64 .i64 1 (1+(Lib.nDigits u:Int)) (by omega) (by omega) (by grind)]
   go_simp
   omega
  have hH0:=Lib.holds_zero w (ρ.t 171) (Lib.nDigits u) (by omega);have hfmt:=Any.internal_strconv_formatBase10 {L with} w.heap.size 1 23 u (Array.replicate (Lib.nDigits u) 0) (w.alloc (.cells Lib.zeros24 (ρ.t 171))) hH0 (by grind[Lib.lt_pow_nDigits]) hu64 (by grind);rw [Array.size_replicate] at hfmt;have HH0:=Lib.hid hH0;clear hH0 hal
  go_enter L.f246,Body.n246_ntmps ρ
  go_wp2_with (first
   |(go_at_fn (ρ.f 284);refine (zgt.internal_strconv_numDigits {L with} u hu1 hu64 _ (htab.alloc _)).mono ?_;rintro e w' ⟨rfl,rfl⟩))
  go_at_fn (ρ.f 285)
  refine hfmt.mono ?_
  rintro e w' ⟨rfl,k,v',dk,rfl,hF⟩
  have hc0:((putRow (fun (b:UInt8)=>Value.int .u8 (b.toNat:Int)) (w.alloc (.cells Lib.zeros24 (ρ.t 171))) w.heap.size 1 dk).drewN k).cell? ⟨w.heap.size,0,none⟩=some (.int .u8 0):=by rw [World.cell?_drewN,cell?_putRow_other _ _ _ _ _ _ (Or.inr (Or.inl (Nat.zero_lt_one))),World.cell?_alloc_new];exact Lib.zeros24_at 0 (by omega)
  have hf0:((putRow (fun (b:UInt8)=>Value.int .u8 (b.toNat:Int)) (w.alloc (.cells Lib.zeros24 (ρ.t 171))) w.heap.size 1 dk).drewN k).frozen? ⟨w.heap.size,0,none⟩=false:=by rw [World.frozen?_drewN,frozen?_putRow];exact World.frozen?_alloc_new _ _ _ _
  have hal:P.arrayLen (ρ.t 171)=24:=by simp [Program.arrayLen,L.t171]
  have hsl2:∀W,(Instr.sliceAt (ρ.t 171) (.pointer (some ⟨w.heap.size,0,none⟩)) none (some (.int .i64 (1+(Lib.nDigits u:Int)))) none).run P W=.ok (.slice (some ⟨w.heap.size,0,none⟩) (1+Lib.nDigits u) 24) W:=fun W=>by
   rw [run_sliceAt_array_h W (ρ.t 171) ⟨w.heap.size,0,none⟩ (by simp_all[Program.elem]) .i64 (1+(Lib.nDigits u:Int)) (by omega) (by omega)]
   go_simp
   omega
  clear hal;have hcv:(convert (ρ.t 37) (ρ.t 9) (.slice (some ⟨w.heap.size,0,none⟩) (1+Lib.nDigits u) 24)).run P (((putRow (fun (b:UInt8)=>Value.int .u8 (b.toNat:Int)) (w.alloc (.cells Lib.zeros24 (ρ.t 171))) w.heap.size 1 dk).drewN k).setCell ⟨w.heap.size,0,none⟩ (.int .u8 45))=.ok (.string ⟨(45::Lib.decDigits u).toArray⟩) (((putRow (fun (b:UInt8)=>Value.int .u8 (b.toNat:Int)) (w.alloc (.cells Lib.zeros24 (ρ.t 171))) w.heap.size 1 dk).drewN k).setCell ⟨w.heap.size,0,none⟩ (.int .u8 45)):=by
   have h:=run_convert_bytes_back (P:=P) (((putRow (fun (b:UInt8)=>Value.int .u8 (b.toNat:Int)) (w.alloc (.cells Lib.zeros24 (ρ.t 171))) w.heap.size 1 dk).drewN k).setCell ⟨w.heap.size,0,none⟩ (.int .u8 45)) (ρ.t 37) (ρ.t 9) (ρ.t 5) ⟨w.heap.size,0,none⟩ 24 (45::Lib.decDigits u) L.t37 L.t5 L.t9 (fun j hj=>by
    rw [Lib.add_plain];cases j with
    |zero=>simp_all[World.cell?_setCell_same]
    |succ i=>
     have hi:i<(Lib.decDigits u).length:=by simpa using hj
     rw [World.cell?_setCell_other _ _ _ _ (by simp),List.getElem_cons_succ,Lib.row_is_numeral hF i hi,World.cell?_drewN,show 0+(i+1)=1+i by omega];exact cell?_putRow (fun (b:UInt8)=>Value.int .u8 (b.toNat:Int)) _ w.heap.size 1 _ dk HH0.out (by rw [hF.size,Array.size_replicate]) i (by rw [hF.size]<;>simp_all[Lib.decDigits_length]))
   rw [List.length_cons,Lib.decDigits_length,Nat.add_comm] at h;exact h
  go_wp2
  go_ret
  obtain ⟨os,eo⟩:=Lib.fin_neg w (.cells Lib.zeros24 (ρ.t 171)) dk k (.int .u8 45);refine ⟨?_,k,os,eo⟩;rw [Lib.itoa_neg u hu1];rfl
 obtain ⟨u,rfl⟩:∃u:Nat,n=u:=⟨n.toNat,by omega⟩;have hu1:1<=u:=by omega
 have hu64:u<18446744073709551616:=by omega
 have hnd20:Lib.nDigits u<=20:=by have:=Lib.numDigits_eq u hu1 hu64;split at this<;>omega
 have hb3:Lib.nDigits u<=23:=by omega
 have hal:P.arrayLen (ρ.t 171)=24:=by simp [Program.arrayLen,L.t171]
 have hsl1:∀W,(Instr.sliceAt (ρ.t 171) (.pointer (some ⟨w.heap.size,0,none⟩)) (some (.int .i64 1)) (some (.int .i64 (1+(Lib.nDigits u:Int)))) none).run P W=.ok (.slice (some ⟨w.heap.size,1,none⟩) (Lib.nDigits u) 23) W:=fun W=>by
  rw [run_sliceAt_array_lh W (ρ.t 171) ⟨w.heap.size,0,none⟩ (by grind[Program.elem]) .i64 .i64 1 (1+(Lib.nDigits u:Int)) (by omega) (by omega) (by grind)]
  go_simp
  omega
 have hH0:=Lib.holds_zero w (ρ.t 171) (Lib.nDigits u) (by omega);have hfmt:=Any.internal_strconv_formatBase10 {L with} w.heap.size 1 23 u (Array.replicate (Lib.nDigits u) 0) (w.alloc (.cells Lib.zeros24 (ρ.t 171))) hH0 (by grind[Lib.lt_pow_nDigits]) hu64 (by grind);rw [Array.size_replicate] at hfmt;have HH0:=Lib.hid hH0;clear hH0 hal
 go_enter L.f246,Body.n246_ntmps ρ
 go_wp2_with (first
  |(go_at_fn (ρ.f 284);refine (zgt.internal_strconv_numDigits {L with} u hu1 hu64 _ (htab.alloc _)).mono ?_;rintro e w' ⟨rfl,rfl⟩))
 go_at_fn (ρ.f 285)
 refine hfmt.mono ?_
 rintro e w' ⟨rfl,k,v',dk,rfl,hF⟩
 have hcv:(convert (ρ.t 37) (ρ.t 9) (.slice (some ⟨w.heap.size,1,none⟩) (Lib.nDigits u) 23)).run P ((putRow (fun (b:UInt8)=>Value.int .u8 (b.toNat:Int)) (w.alloc (.cells Lib.zeros24 (ρ.t 171))) w.heap.size 1 dk).drewN k)=.ok (.string ⟨(Lib.decDigits u).toArray⟩) ((putRow (fun (b:UInt8)=>Value.int .u8 (b.toNat:Int)) (w.alloc (.cells Lib.zeros24 (ρ.t 171))) w.heap.size 1 dk).drewN k):=by have h:=run_convert_bytes_back (P:=P) ((putRow (fun (b:UInt8)=>Value.int .u8 (b.toNat:Int)) (w.alloc (.cells Lib.zeros24 (ρ.t 171))) w.heap.size 1 dk).drewN k) (ρ.t 37) (ρ.t 9) (ρ.t 5) ⟨w.heap.size,1,none⟩ 23 (Lib.decDigits u) L.t37 L.t5 L.t9 (fun j hj=>by rw [Lib.row_is_numeral hF j hj,Lib.add_plain,World.cell?_drewN];exact cell?_putRow (fun (b:UInt8)=>Value.int .u8 (b.toNat:Int)) _ w.heap.size 1 _ dk HH0.out (by rw [hF.size,Array.size_replicate]) j (by rw [hF.size]<;>simp_all[Lib.decDigits_length]));rw [Lib.decDigits_length] at h;exact h
 go_wp2
 go_ret
 obtain ⟨os,eo⟩:=Lib.fin_pos w (.cells Lib.zeros24 (ρ.t 171)) dk k;refine ⟨?_,k,os,eo⟩;rw [Lib.itoa_nonneg];rfl
set_option maxRecDepth 100000 in
theorem zgt.internal_strconv_Itoa (L:LaysM.n243 P ρ)(n:Int)(h0:-9223372036854775808<=n)(h1:n<=9223372036854775807)(w:World)
  (htab:NV (ρ.g 17) w):
  Calls P (ρ.f 243) #[.int .i64 n] w fun e w'=>e=.returned (.string ⟨(Lib.itoa n).toArray⟩)/\∃k os,w'=grow (w.drewN k) os:=by
 have mixed:=L.mixed;have t3:=L.t3;have a3:=L.a3;have z3:=L.z3;have v3:=L.v3;have t9:=L.t9;have a9:=L.a9;have z9:=L.z9;have v9:=L.v9;have t2:=L.t2;have a2:=L.a2;have z2:=L.z2;have v2:=L.v2;have e246:∀args w,(callFunc (ρ.f 246) args).run P w=.ok (.enter (ρ.f 246) args) w:=enters_of L.f246 (by kernel_rfl) rfl
 go_enter L.f243,Body.n243_ntmps ρ
 go_wp2_with (go_at_fn (ρ.f 246);refine (zgt.internal_strconv_FormatInt_10 {L with} n h0 h1 _ htab).mono ?_;rintro e w' ⟨rfl,k,os,rfl⟩)
 go_ret
 exact ⟨rfl,k,os,rfl⟩
set_option maxRecDepth 100000 in
theorem zgt.strconv_Itoa (L:LaysM.n171 P ρ)(n:Int)(h0:-9223372036854775808<=n)(h1:n<=9223372036854775807)(w:World)
  (htab:NV (ρ.g 17) w):
  Calls P (ρ.f 171) #[.int .i64 n] w fun e w'=>e=.returned (.string ⟨(Lib.itoa n).toArray⟩)/\∃k os,w'=grow (w.drewN k) os:=by
 have mixed:=L.mixed;have t3:=L.t3;have a3:=L.a3;have z3:=L.z3;have v3:=L.v3;have t9:=L.t9;have a9:=L.a9;have z9:=L.z9;have v9:=L.v9;have e243:∀args w,(callFunc (ρ.f 243) args).run P w=.ok (.enter (ρ.f 243) args) w:=enters_of L.f243 (by kernel_rfl) rfl
 go_enter L.f171,Body.n171_ntmps ρ
 go_wp2_with (go_at_fn (ρ.f 243);refine (zgt.internal_strconv_Itoa {L with} n h0 h1 _ htab).mono ?_;rintro e w' ⟨rfl,k,os,rfl⟩)
 go_ret
 exact ⟨rfl,k,os,rfl⟩
end
end Go.Proofs
