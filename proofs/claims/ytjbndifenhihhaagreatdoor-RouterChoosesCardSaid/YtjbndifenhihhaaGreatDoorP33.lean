/- RouterRejects comes to true. -/
import Derived.Shelf.LaysC
import Derived.Shelf.LaysM
import Derived.Shelf.Lays
import Derived.Shelf.Strconv.Itoa1
import Derived.Shelf.Strconv.Itoa2
import Derived.Lib.Walk
import Derived.Lib.ItoaMem
import Derived.WalkKit
import Derived.BigCall
import Derived.BigGuard
import Derived.Test.YtjbndifenhihhaaGreatDoorP13
import Derived.Test.YtjbndifenhihhaaGreatDoorP15
import Derived.Test.YtjbndifenhihhaaGreatDoorP17
import Derived.Test.YtjbndifenhihhaaGreatDoorP31
import Derived.Test.YtjbndifenhihhaaGreatDoorP32
namespace Go.Proofs.YtjbndifenhihhaaGreatDoor
open Go.Em
set_option maxRecDepth 100000
theorem Rj (nd nd':Nod)(hn:∀N,220≤N→Gam.pureD (callF tab ext N) 20 [.agg nd.cells]=some (.agg nd'.cells))(s:Stt)(i:Inp)(k:Int)(N:Nat)(hN:230≤N):
  Gam.pureD (callF tab ext N) 58 [.agg nd.cells,.agg s.cells,.agg i.cells,num k]=some (.tup [.agg ({nd' with kind:=k}:Nod).cells,.agg (shortS s).cells,.agg (gV i).cells]):=by
 obtain ⟨M,rfl⟩:∃M,N=M+1:=⟨N-1,by omega⟩
 have h1:=hn M (by omega)
 have h2:=JI s M (by omega)
 have h3:=Uz i M (by omega)
 generalize shortS s=s' at h2 ⊢
 generalize gV i=i' at h3 ⊢
 obtain ⟨kd,tm,⟨se,sp⟩,⟨⟨e,p⟩,ms,o,⟨a1,a2,a3,a4,a5,a6⟩⟩,x,b1,b2,⟨c1,c2,c3,c4,c5,c6⟩⟩:=i
 obtain ⟨kd',tm',⟨se',sp'⟩,⟨⟨e',p'⟩,ms',o',⟨g1,g2,g3,g4,g5,g6⟩⟩,x',d1,d2,⟨f1,f2,f3,f4,f5,f6⟩⟩:=i'
 generalize hi':Inp.cells _=ci' at h3 ⊢
 subst hi'
 exact pure_of [(12,.p (.agg nd'.cells)),(14,.p (.agg s'.cells)),(16,.p (.agg (Inp.mk kd' tm' ⟨se',sp'⟩ ⟨⟨e',p'⟩,ms',o',⟨g1,g2,g3,g4,g5,g6⟩⟩ x' d1 d2 ⟨f1,f2,f3,f4,f5,f6⟩).cells))] [] (pf3 h1 h2 h3)
  (x:=.tup [.agg ({nd' with kind:=k}:Nod).cells,.agg s'.cells,.agg (Inp.mk kd' tm' ⟨se',sp'⟩ ⟨⟨e',p'⟩,ms',o',⟨g1,g2,g3,g4,g5,g6⟩⟩ x' d1 d2 ⟨f1,f2,f3,f4,f5,f6⟩).cells]) (bx:=[]) (by kernel_rfl) rfl
def zhF (t:Bool)(f:Fte):List X:=[num f.st.e,.sl false 1 (aF f.st.p),num f.kind,strX f.node,.sl t 2 [],strX f.text]
def Eu (t:Bool)(s:Stt)(m:Msg)(name r:ByteArray):List X:=[num s.n,num s.t,.sl false 10 (bf s.slots),.sl false 11 [],.sl false 11 [],.sl false 6 [zhF t (Fte.mk m.st 4 name [] r)],.sl false 10 [m.cells]]
theorem Jq (a:ByteArray):(a.toList==a.toList)=true:=RV a
theorem WI (m:Msg)(hm:m.ok)(t u:Bool)(name r:ByteArray)(N:Nat)(hN:190200≤N):Gam.pureD (callF tab ext N) 81 [.agg (zhF t (Fte.mk m.st 4 name [] r)),.agg (zhF u (Fte.mk m.st 4 name [] r))]=some (boolX true):=by
 obtain ⟨M,rfl⟩:∃M,N=M+101:=⟨N-101,by omega⟩
 have h1:=Ny (M+100) m.st hm.st (by omega)
 have h2:=Jq name
 have h3:=Jq r
 have h4:Gam.pureD (callF tab ext (M+100)) 143 [.sl false 2 [],.sl false 2 [],.fn 79 []]=some (boolX true):=by kernel_rfl
 obtain ⟨⟨e,p⟩,ms,o,⟨a1,a2,a3,a4,a5,a6⟩⟩:=m
 cases t<;>cases u<;>exact pure_of [(9,.p (boolX true)),(22,.b true),(29,.b true),(36,.p (boolX true))] [] (pf4 h1 h2 h3 h4) (x:=boolX true) (bx:=[]) (by kernel_rfl) rfl
theorem YK (s:Stt)(hs:s.ok)(m:Msg)(hm:m.ok)(t u:Bool)(name r:ByteArray)(N:Nat)(hN:190400≤N):Gam.pureD (callF tab ext N) 10 [.agg (Eu t s m name r),.agg (Eu u s m name r)]=some (boolX true):=by
 obtain ⟨M,rfl⟩:∃M,N=M+101:=⟨N-101,by omega⟩
 have h1:=Nw (M+100) s hs (by omega)
 have h2:Gam.pureD (callF tab ext (M+100)) 32 [.sl false 6 [zhF t (Fte.mk m.st 4 name [] r)],.sl false 6 [zhF u (Fte.mk m.st 4 name [] r)]]=some (boolX true):=by
  have h:=WI m hm false false name r (M+99) (by omega)
  obtain ⟨⟨e,p⟩,ms,o,⟨a1,a2,a3,a4,a5,a6⟩⟩:=m
  exact pure_of [(25,.p (boolX true))] [] (pf1 h) (x:=boolX true) (bx:=[]) (by kernel_rfl) rfl
 have h3:Gam.pureD (callF tab ext (M+100)) 33 [.sl false 10 [m.cells],.sl false 10 [m.cells]]=some (boolX true):=by
  have h:=EI (M+99) m hm (by omega)
  obtain ⟨⟨e,p⟩,ms,o,⟨a1,a2,a3,a4,a5,a6⟩⟩:=m
  exact pure_of [(25,.p (boolX true))] [] (pf1 h) (x:=boolX true) (bx:=[]) (by kernel_rfl) rfl
 obtain ⟨a,b,ss⟩:=s
 exact pure_of [(10,.p (boolX true)),(67,.p (boolX true)),(74,.p (boolX true))] [] (pf3 h1 h2 h3) (x:=boolX true) (bx:=[]) (by kernel_rfl) rfl
def ocC (n t:Int)(ss outs LZ letters:List (List X)):List X:=[num n,num t,.sl false 10 ss,.sl false 11 outs,.sl false 11 [],.sl false 6 LZ,.sl false 10 letters]
theorem uF (nd nd':Nod)(hn:∀N,220≤N→Gam.pureD (callF tab ext N) 20 [.agg nd.cells]=some (.agg nd'.cells))(s:Stt)(i:Inp)(k:Int)(N:Nat)(hN:200900≤N)(n t n' t':Int)(ss outs LZ letters ss' U0 I5 tC:List (List X))
  (ha:Gam.pureD (callF tab ext (N-1)) 60 [.agg ({nd' with kind:=k}:Nod).cells,.agg (shortS s).cells,.agg ({gV i with kind:=1}:Inp).cells]=some (.agg (ocC n t ss outs LZ letters))) (hb:Gam.pureD (callF tab ext (N-1)) 61 [.agg ({nd' with kind:=k}:Nod).cells,.agg (shortS s).cells,.agg ({gV i with kind:=1}:Inp).cells]=some (.agg (ocC n' t' ss' U0 I5 tC)))
  (hab:Gam.pureD (callF tab ext (N-1)) 10 [.agg (ocC n t ss outs LZ letters),.agg (ocC n' t' ss' U0 I5 tC)]=some (boolX true)):Gam.pureD (callF tab ext N) 19 [.agg nd.cells,.agg s.cells,.agg i.cells,num k]=some (boolX true):=by
 obtain ⟨M,rfl⟩:∃M,N=M+1:=⟨N-1,by omega⟩
 have h1:=Rj nd nd' hn s i k M (by omega)
 have h2:Gam.pureD (callF tab ext M) 59 []=some (boolX true):=by
  obtain ⟨K,rfl⟩:∃K,M=K+400:=⟨M-400,by omega⟩
  exact QO K
 have ha:Gam.pureD (callF tab ext M) 60 [.agg ({nd' with kind:=k}:Nod).cells,.agg (shortS s).cells,.agg ({gV i with kind:=1}:Inp).cells]=some (.agg (ocC n t ss outs LZ letters)):=ha
 have hb:Gam.pureD (callF tab ext M) 61 [.agg ({nd' with kind:=k}:Nod).cells,.agg (shortS s).cells,.agg ({gV i with kind:=1}:Inp).cells]=some (.agg (ocC n' t' ss' U0 I5 tC)):=hb
 have hab:Gam.pureD (callF tab ext M) 10 [.agg (ocC n t ss outs LZ letters),.agg (ocC n' t' ss' U0 I5 tC)]=some (boolX true):=hab
 generalize gV i=i' at h1 ha hb
 generalize shortS s=s' at h1 ha hb
 obtain ⟨kd,tm,⟨se,sp⟩,⟨⟨e,p⟩,ms,o,⟨a1,a2,a3,a4,a5,a6⟩⟩,x,b1,b2,⟨c1,c2,c3,c4,c5,c6⟩⟩:=i
 obtain ⟨kd',tm',⟨se',sp'⟩,⟨⟨e',p'⟩,ms',o',⟨g1,g2,g3,g4,g5,g6⟩⟩,x',d1,d2,⟨f1,f2,f3,f4,f5,f6⟩⟩:=i'
 exact pure_of [(14,.p (.tup [.agg ({nd' with kind:=k}:Nod).cells,.agg s'.cells,.agg (Inp.mk kd' tm' ⟨se',sp'⟩ ⟨⟨e',p'⟩,ms',o',⟨g1,g2,g3,g4,g5,g6⟩⟩ x' d1 d2 ⟨f1,f2,f3,f4,f5,f6⟩).cells])),(19,.p (boolX true)),(24,.p (.agg (ocC n t ss outs LZ letters))),(28,.p (.agg (ocC n' t' ss' U0 I5 tC))),(29,.p (boolX true))] [] (pf5 h1 h2 ha hb hab) (x:=boolX true) (bx:=[]) (by kernel_rfl) rfl
theorem xU (i:Inp):(gV i).m=dM i.m:=rfl
end Go.Proofs.YtjbndifenhihhaaGreatDoor
namespace Go.Proofs.YtjbndifenhihhaaGreatDoor
open Go Go.Em Go.Ab
set_option maxRecDepth 100000
namespace Ct
def nU (nd:Nod)(j:Nat):List X:=nd.exprs.getD j (jE 0 0 zcV [] [])
where zcV:ByteArray:=⟨#[]⟩
theorem L6 (nd:Nod)(hs:nd.small)(j:Nat):∃o i t vs es,nU nd j=jE o i t vs es∧sE 4 (jE o i t vs es):=by
 unfold nU
 by_cases h:j<nd.exprs.length
 ·rw [List.getD_eq_getElem?_getD,List.getElem?_eq_getElem h]
  have hx:=hs.2.2.2.2.1 _ (List.getElem_mem h)
  obtain ⟨o,i,t,vs,es,e,hr⟩:=hx
  exact ⟨o,i,t,vs,es,e,⟨o,i,t,vs,es,rfl,hr⟩⟩
 ·rw [List.getD_eq_getElem?_getD,List.getElem?_eq_none (by omega)]
  exact ⟨0,0,⟨#[]⟩,[],[],rfl,⟨0,0,⟨#[]⟩,[],[],rfl,by decide,by decide,(fun v hv=>by cases hv),by decide,(fun e he=>by cases he)⟩⟩
def zfL (nd:Nod)(v:Val)(f:Nat→Bool×Int)(B:Nat)(k:Nat):Prop:=∀j,j<k→(0≤(f j).2∧(f j).2≤100)∧∀N,B≤N→Gam.pureD (callF tab ext N) 178 [.agg (nU nd j),.agg (L8 v).cells]=some (.tup [boolX (f j).1,num (f j).2])
theorem conds (nd:Nod)(hs:nd.small)(v:Val)(k:Nat):∃f B,zfL nd (aU 4 v) f B k:=by
 obtain ⟨f,B,h⟩:=Jh (List.range k) (R:=fun j (p:Bool×Int)=>0≤p.2∧p.2≤100) (Q:=fun j p N=>Gam.pureD (callF tab ext N) 178 [.agg (nU nd j),.agg (L8 (aU 4 v)).cells]=some (.tup [boolX p.1,num p.2])) (fun j _=>by
  obtain ⟨o,i,t,vs,es,e,hx⟩:=L6 nd hs j
  obtain ⟨g,e2,er,B,hB⟩:=Xa (h:=4) (by decide) hx v
  exact ⟨(g,e2),er,B,fun N hN=>by rw [e];exact hB N hN⟩)
 exact ⟨f,B,fun j hj=>h j (List.mem_range.2 hj)⟩
theorem zgM (nd:Nod)(hs:nd.small)(j:Nat)(m:Msg)(hm:m.body.ok)(g:Bool)(er:Int)(N:Nat)(hN:200500≤N)(uf:Gam.pureD (callF tab ext N) 178 [.agg (nU nd j),.agg (L8 m.body).cells]=some (.tup [boolX g,num er])):
  Gam.pureD (callF tab ext (N+1)) 228 [.agg nd.cells,nat j,.agg m.cells]=some (.tup [boolX g,num er]):=by
 have h124:=Fz m.body hm N (by omega)
 generalize L8 m.body=v at h124 uf
 unfold nU at uf
 by_cases hj:j<nd.exprs.length
 ·obtain ⟨o,i,t2,vs,es,e,_⟩:=L6 nd hs j
  unfold nU at e
  rw [e] at uf
  have hg:nd.exprs[(Int.ofNat j).toNat]?=some (jE o i t2 vs es):=by
   show nd.exprs[j]?=_
   rw [List.getD_eq_getElem?_getD,List.getElem?_eq_getElem hj] at e
   rw [List.getElem?_eq_getElem hj]
   exact congrArg some e
  have h1:=aI hj
  obtain ⟨⟨e2,p⟩,ms,og,⟨a1,a2,a3,a4,a5,a6⟩⟩:=m
  obtain ⟨v1,v2,v3,v4,v5,v6⟩:=v
  obtain ⟨name,kd,k1,k2,k3,w,k5,text,⟨a,b,c,d⟩,we,el,f,ty,ex,ca,ru,ne⟩:=nd
  cases g with
  |true=>exact pure_of [(13,.b true),(17,.e (jE o i t2 vs es)),(22,.p (.agg (Val.mk v1 v2 v3 v4 v5 v6).cells)),(23,.p (.tup [boolX true,num er]))] [] (pf4 h1 hg h124 uf) (x:=.tup [boolX true,num er]) (bx:=[]) (by kernel_rfl) rfl
  |false=>exact pure_of [(13,.b true),(17,.e (jE o i t2 vs es)),(22,.p (.agg (Val.mk v1 v2 v3 v4 v5 v6).cells)),(23,.p (.tup [boolX false,num er]))] [] (pf4 h1 hg h124 uf) (x:=.tup [boolX false,num er]) (bx:=[]) (by kernel_rfl) rfl
 ·rw [List.getD_eq_getElem?_getD,List.getElem?_eq_none (by omega)] at uf
  have h1:=aJ hj
  have uf:Gam.pureD (callF tab ext N) 178 [.agg (jE 0 0 ⟨#[]⟩ [] []),.agg v.cells]=some (.tup [boolX g,num er]):=uf
  obtain ⟨⟨e2,p⟩,ms,og,⟨a1,a2,a3,a4,a5,a6⟩⟩:=m
  obtain ⟨v1,v2,v3,v4,v5,v6⟩:=v
  obtain ⟨name,kd,k1,k2,k3,w,k5,text,⟨a,b,c,d⟩,we,el,f,ty,ex,ca,ru,ne⟩:=nd
  cases g with
  |true=>exact pure_of [(13,.b false),(22,.p (.agg (Val.mk v1 v2 v3 v4 v5 v6).cells)),(23,.p (.tup [boolX true,num er]))] [] (pf3 h1 h124 uf) (x:=.tup [boolX true,num er]) (bx:=[]) (by kernel_rfl) rfl
  |false=>exact pure_of [(13,.b false),(22,.p (.agg (Val.mk v1 v2 v3 v4 v5 v6).cells)),(23,.p (.tup [boolX false,num er]))] [] (pf3 h1 h124 uf) (x:=.tup [boolX false,num er]) (bx:=[]) (by kernel_rfl) rfl
theorem zhb (nd:Nod)(hs:nd.small)(j:Nat)(v:Val)(g:Bool)(er:Int)(N:Nat)(uf:Gam.pureD (callF tab ext N) 178 [.agg (nU nd j),.agg v.cells]=some (.tup [boolX g,num er])):
  Gam.pureD (callF tab ext (N+1)) 110 [.agg nd.cells,nat j,.agg v.cells]=some (.tup [boolX g,num er]):=by
 unfold nU at uf
 by_cases hj:j<nd.exprs.length
 ·obtain ⟨o,i,t2,vs,es,e,_⟩:=L6 nd hs j
  unfold nU at e
  rw [e] at uf
  have hg:nd.exprs[(Int.ofNat j).toNat]?=some (jE o i t2 vs es):=by
   show nd.exprs[j]?=_
   rw [List.getD_eq_getElem?_getD,List.getElem?_eq_getElem hj] at e
   rw [List.getElem?_eq_getElem hj]
   exact congrArg some e
  have h1:=aI hj
  obtain ⟨v1,v2,v3,v4,v5,v6⟩:=v
  obtain ⟨name,kd,k1,k2,k3,w,k5,text,⟨a,b,c,d⟩,we,el,f,ty,ex,ca,ru,ne⟩:=nd
  cases g with
  |true=>exact pure_of [(13,.b true),(17,.e (jE o i t2 vs es)),(21,.p (.tup [boolX true,num er]))] [] (pf3 h1 hg uf) (x:=.tup [boolX true,num er]) (bx:=[]) (by kernel_rfl) rfl
  |false=>exact pure_of [(13,.b true),(17,.e (jE o i t2 vs es)),(21,.p (.tup [boolX false,num er]))] [] (pf3 h1 hg uf) (x:=.tup [boolX false,num er]) (bx:=[]) (by kernel_rfl) rfl
 ·rw [List.getD_eq_getElem?_getD,List.getElem?_eq_none (by omega)] at uf
  have h1:=aJ hj
  have uf:Gam.pureD (callF tab ext N) 178 [.agg (jE 0 0 ⟨#[]⟩ [] []),.agg v.cells]=some (.tup [boolX g,num er]):=uf
  obtain ⟨v1,v2,v3,v4,v5,v6⟩:=v
  obtain ⟨name,kd,k1,k2,k3,w,k5,text,⟨a,b,c,d⟩,we,el,f,ty,ex,ca,ru,ne⟩:=nd
  cases g with
  |true=>exact pure_of [(13,.b false),(21,.p (.tup [boolX true,num er]))] [] (pf2 h1 uf) (x:=.tup [boolX true,num er]) (bx:=[]) (by kernel_rfl) rfl
  |false=>exact pure_of [(13,.b false),(21,.p (.tup [boolX false,num er]))] [] (pf2 h1 uf) (x:=.tup [boolX false,num er]) (bx:=[]) (by kernel_rfl) rfl
inductive Res where
 |rej (r:ByteArray)
 |pas (j:Nat)
def Res.cells (m:Msg):Res→List X
 |.rej r=>[.sl false 10 [],num 0,boolX false,strX r]
 |.pas j=>[.sl false 10 [m.cells],nat j,boolX false,noText]
theorem yX (N:Nat)(r:ByteArray):Gam.pureD (callF tab ext (N+1)) 176 [strX r]=some (.agg [.sl false 10 [],num 0,boolX false,strX r]):=by kernel_rfl
theorem H6 (N:Nat)(m:Msg)(j:Nat):Gam.pureD (callF tab ext (N+1)) 229 [.agg m.cells,nat j]=some (.agg [.sl false 10 [m.cells],nat j,boolX false,noText]):=by
 obtain ⟨⟨e2,p⟩,ms,og,⟨a1,a2,a3,a4,a5,a6⟩⟩:=m
 kernel_rfl
theorem TA (N:Nat)(nd:Nod)(m:Msg):Gam.pureD (callF tab ext (N+2)) 107 [.agg nd.cells,.agg m.cells]=some (.agg [.sl false 10 [],num 0,boolX false,strX ⟨#[117,110,114,111,117,116,97,98,108,101]⟩]):=by
 obtain ⟨⟨e2,p⟩,ms,og,⟨a1,a2,a3,a4,a5,a6⟩⟩:=m
 obtain ⟨name,kd,k1,k2,k3,w,k5,text,⟨a,b,c,d⟩,we,el,f,ty,ex,ca,ru,ne⟩:=nd
 kernel_rfl
def Wy (nd:Nod)(p:Bool×Int):Res:=if p.2 !=0 then .rej (oM p.2) else if p.1 then .pas 0 else .rej nd.text
theorem LX (nd:Nod)(hs:nd.small)(m:Msg)(hm:m.body.ok)(p:Bool×Int)(hp:0≤p.2∧p.2≤100)(N:Nat)(hN:200500≤N)(uf:Gam.pureD (callF tab ext N) 178 [.agg (nU nd 0),.agg (L8 m.body).cells]=some (.tup [boolX p.1,num p.2])):
  Gam.pureD (callF tab ext (N+2)) 171 [.agg nd.cells,.agg m.cells]=some (.agg ((Wy nd p).cells m)):=by
 obtain ⟨g,er⟩:=p
 have F6:=zgM nd hs 0 m hm g er N hN uf
 have h101:=nH er hp (N+1) (by omega)
 have zd1:=yX N (oM er)
 have zkA:=yX N nd.text
 have zi6:=H6 N m 0
 unfold Wy
 dsimp only
 generalize oM er=r at h101 zd1 ⊢
 clear uf hm
 obtain ⟨⟨e2,pp⟩,ms,og,⟨a1,a2,a3,a4,a5,a6⟩⟩:=m
 obtain ⟨name,kd,k1,k2,k3,w,k5,text,⟨a,b,c,d⟩,we,el,f,ty,ex,ca,ru,ne⟩:=nd
 cases h2:(er !=0) with
 |true=>
  cases g with
  |true=>exact pure_of [(10,.p (.tup [boolX true,num er])),(15,.b true),(17,.p (strX r)),(18,.p (.agg [.sl false 10 [],num 0,boolX false,strX r]))] [] (pf4 F6 h2 h101 zd1) (x:=.agg [.sl false 10 [],num 0,boolX false,strX r]) (bx:=[]) (by kernel_rfl) rfl
  |false=>exact pure_of [(10,.p (.tup [boolX false,num er])),(15,.b true),(17,.p (strX r)),(18,.p (.agg [.sl false 10 [],num 0,boolX false,strX r]))] [] (pf4 F6 h2 h101 zd1) (x:=.agg [.sl false 10 [],num 0,boolX false,strX r]) (bx:=[]) (by kernel_rfl) rfl
 |false=>
  cases g with
  |true=>exact pure_of [(10,.p (.tup [boolX true,num er])),(15,.b false),(22,.p (.agg [.sl false 10 [(Msg.mk ⟨e2,pp⟩ ms og (.mk a1 a2 a3 a4 a5 a6)).cells],nat 0,boolX false,noText]))] [] (pf3 F6 h2 zi6) (x:=.agg [.sl false 10 [(Msg.mk ⟨e2,pp⟩ ms og (.mk a1 a2 a3 a4 a5 a6)).cells],nat 0,boolX false,noText]) (bx:=[]) (by kernel_rfl) rfl
  |false=>exact pure_of [(10,.p (.tup [boolX false,num er])),(15,.b false),(25,.p (.agg [.sl false 10 [],num 0,boolX false,strX text]))] [] (pf3 F6 h2 zkA) (x:=.agg [.sl false 10 [],num 0,boolX false,strX text]) (bx:=[]) (by kernel_rfl) rfl
def UW (s:Stt)(m:Msg)(j:Nat):List X:=[num s.n,num s.t,.sl false 10 (bf s.slots),.sl false 11 [nat j::m.cells],.sl false 11 [],.sl false 6 [],.sl false 10 []]
def Res.out (t:Bool)(s:Stt)(m:Msg)(name:ByteArray):Res→List X
 |.rej r=>Eu t s m name r
 |.pas j=>UW s m j
theorem Hl (nd:Nod)(kd:Int)(fn:FuncId)(hk:(kd=1∧fn=171)∨(kd=11∧fn=173))(s:Stt)(hs:s.ok)(i:Inp)(hm:i.m.ok)(q:Res)(N:Nat)(hN:200700≤N)(hr:Gam.pureD (callF tab ext N) fn [.agg ({nd with kind:=kd}:Nod).cells,.agg i.m.cells]=some (.agg (q.cells i.m))):
  Gam.pureD (callF tab ext (N+1)) 60 [.agg ({nd with kind:=kd}:Nod).cells,.agg s.cells,.agg ({i with kind:=1}:Inp).cells]=some (.agg (q.out false s i.m nd.name)):=by
 have h1:=xK N s hs (by omega)
 have h2:=Jg N i.m hm (by omega)
 obtain ⟨M,rfl⟩:∃M,N=M+100:=⟨N-100,by omega⟩
 cases q with
 |rej r=>
  have h3:=Et i.m hm nd.name r (M+100) (by omega)
  obtain ⟨kd1,tm,⟨se,sp⟩,⟨⟨e,p⟩,ms,o,⟨a1,a2,a3,a4,a5,a6⟩⟩,x,b1,b2,⟨c1,c2,c3,c4,c5,c6⟩⟩:=i
  obtain ⟨name,k1,k2,k3,w,k5,k6,text,⟨a,b,c,d⟩,we,el,f,ty,ex,ca,ru,ne⟩:=nd
  obtain ⟨n,t,ss⟩:=s
  rcases hk with ⟨rfl,rfl⟩|⟨rfl,rfl⟩
  ·exact pure_of [(15,.p (.agg (Stt.mk n t ss).cells)),(23,.p (.agg (Msg.mk ⟨e,p⟩ ms o (.mk a1 a2 a3 a4 a5 a6)).cells)),(36,.p (.agg [.sl false 10 [],num 0,boolX false,strX r])),(56,.p (.agg (Fte.mk ⟨e,p⟩ 4 name [] r).cells))] [] (pf4 h1 h2 hr h3)
    (x:=.agg [num n,num t,.sl false 10 (bf ss),.sl true 11 [],.sl true 11 [],.sl true 6 [(Fte.mk ⟨e,p⟩ 4 name [] r).cells],.sl true 10 [(Msg.mk ⟨e,p⟩ ms o (.mk a1 a2 a3 a4 a5 a6)).cells]]) (bx:=[]) (by kernel_rfl) rfl
  ·exact pure_of [(15,.p (.agg (Stt.mk n t ss).cells)),(23,.p (.agg (Msg.mk ⟨e,p⟩ ms o (.mk a1 a2 a3 a4 a5 a6)).cells)),(36,.p (.agg [.sl false 10 [],num 0,boolX false,strX r])),(56,.p (.agg (Fte.mk ⟨e,p⟩ 4 name [] r).cells))] [] (pf4 h1 h2 hr h3)
    (x:=.agg [num n,num t,.sl false 10 (bf ss),.sl true 11 [],.sl true 11 [],.sl true 6 [(Fte.mk ⟨e,p⟩ 4 name [] r).cells],.sl true 10 [(Msg.mk ⟨e,p⟩ ms o (.mk a1 a2 a3 a4 a5 a6)).cells]]) (bx:=[]) (by kernel_rfl) rfl
 |pas j=>
  obtain ⟨kd1,tm,⟨se,sp⟩,⟨⟨e,p⟩,ms,o,⟨a1,a2,a3,a4,a5,a6⟩⟩,x,b1,b2,⟨c1,c2,c3,c4,c5,c6⟩⟩:=i
  obtain ⟨name,k1,k2,k3,w,k5,k6,text,⟨a,b,c,d⟩,we,el,f,ty,ex,ca,ru,ne⟩:=nd
  obtain ⟨n,t,ss⟩:=s
  rcases hk with ⟨rfl,rfl⟩|⟨rfl,rfl⟩
  ·exact pure_of [(15,.p (.agg (Stt.mk n t ss).cells)),(23,.p (.agg (Msg.mk ⟨e,p⟩ ms o (.mk a1 a2 a3 a4 a5 a6)).cells)),(36,.p (.agg [.sl false 10 [(Msg.mk ⟨e,p⟩ ms o (.mk a1 a2 a3 a4 a5 a6)).cells],nat j,boolX false,noText]))] [] (pf3 h1 h2 hr)
    (x:=.agg [num n,num t,.sl false 10 (bf ss),.sl true 11 [nat j::(Msg.mk ⟨e,p⟩ ms o (.mk a1 a2 a3 a4 a5 a6)).cells],.sl true 11 [],.sl true 6 [],.sl true 10 []]) (bx:=[]) (by kernel_rfl) rfl
  ·exact pure_of [(15,.p (.agg (Stt.mk n t ss).cells)),(23,.p (.agg (Msg.mk ⟨e,p⟩ ms o (.mk a1 a2 a3 a4 a5 a6)).cells)),(36,.p (.agg [.sl false 10 [(Msg.mk ⟨e,p⟩ ms o (.mk a1 a2 a3 a4 a5 a6)).cells],nat j,boolX false,noText]))] [] (pf3 h1 h2 hr)
    (x:=.agg [num n,num t,.sl false 10 (bf ss),.sl true 11 [nat j::(Msg.mk ⟨e,p⟩ ms o (.mk a1 a2 a3 a4 a5 a6)).cells],.sl true 11 [],.sl true 6 [],.sl true 10 []]) (bx:=[]) (by kernel_rfl) rfl
theorem zn (N:Nat)(nd:Nod)(s:Stt)(m:Msg)(r:ByteArray):Gam.pureD (callF tab ext (N+1)) 111 [.agg nd.cells,.agg s.cells,.agg m.cells,strX r]=some (.agg (Eu true s m nd.name r)):=by
 obtain ⟨⟨e2,p⟩,ms,og,⟨a1,a2,a3,a4,a5,a6⟩⟩:=m
 obtain ⟨name,kd,k1,k2,k3,w,k5,text,⟨a,b,c,d⟩,we,el,f,ty,ex,ca,ru,ne⟩:=nd
 obtain ⟨n,t,ss⟩:=s
 kernel_rfl
theorem Ih (N:Nat)(s:Stt)(m:Msg)(j:Nat):Gam.pureD (callF tab ext (N+1)) 112 [.agg s.cells,nat j,.agg m.cells]=some (.agg (UW s m j)):=by
 obtain ⟨⟨e2,p⟩,ms,og,⟨a1,a2,a3,a4,a5,a6⟩⟩:=m
 obtain ⟨n,t,ss⟩:=s
 kernel_rfl
theorem Ii (nd:Nod)(hs:nd.small)(s:Stt)(i:Inp)(hm:i.m.ok)(p:Bool×Int)(hp:0≤p.2∧p.2≤100)(N:Nat)(hN:200700≤N)(uf:Gam.pureD (callF tab ext N) 178 [.agg (nU nd 0),.agg (L8 i.m.body).cells]=some (.tup [boolX p.1,num p.2])):
  Gam.pureD (callF tab ext (N+2)) 61 [.agg ({nd with kind:=1}:Nod).cells,.agg s.cells,.agg ({i with kind:=1}:Inp).cells]=some (.agg ((Wy nd p).out true s i.m nd.name)):=by
 obtain ⟨g,er⟩:=p
 have h1:=Fz i.m.body hm.body (N+1) (by omega)
 have h170:=zhb {nd with kind:=1} hs 0 (L8 i.m.body) g er N uf
 have h101:=nH er hp (N+1) (by omega)
 have h171:=zn N {nd with kind:=1} s i.m (oM er)
 have zkC:=zn N {nd with kind:=1} s i.m nd.text
 have h172:=Ih N s i.m 0
 unfold Wy
 dsimp only
 generalize oM er=r at h101 h171 ⊢
 clear uf hm
 generalize L8 i.m.body=v at h1 h170
 obtain ⟨v1,v2,v3,v4,v5,v6⟩:=v
 obtain ⟨kd,tm,⟨se,sp⟩,⟨⟨e,p⟩,ms,o,⟨a1,a2,a3,a4,a5,a6⟩⟩,x,b1,b2,⟨c1,c2,c3,c4,c5,c6⟩⟩:=i
 obtain ⟨name,k1,k2,k3,w,k5,k6,text,⟨a,b,c,d⟩,we,el,f,ty,ex,ca,ru,ne⟩:=nd
 obtain ⟨n,t,ss⟩:=s
 cases h2:(er !=0) with
 |true=>
  cases g with
  |true=>exact pure_of [(29,.p (.agg (Val.mk v1 v2 v3 v4 v5 v6).cells)),(37,.p (.tup [boolX true,num er])),(42,.b true),(47,.p (strX r)),(48,.p (.agg (Eu true (Stt.mk n t ss) (Msg.mk ⟨e,p⟩ ms o (.mk a1 a2 a3 a4 a5 a6)) name r)))] [] (pf5 h1 h170 h2 h101 h171) (x:=.agg (Eu true (Stt.mk n t ss) (Msg.mk ⟨e,p⟩ ms o (.mk a1 a2 a3 a4 a5 a6)) name r)) (bx:=[]) (by kernel_rfl) rfl
  |false=>exact pure_of [(29,.p (.agg (Val.mk v1 v2 v3 v4 v5 v6).cells)),(37,.p (.tup [boolX false,num er])),(42,.b true),(47,.p (strX r)),(48,.p (.agg (Eu true (Stt.mk n t ss) (Msg.mk ⟨e,p⟩ ms o (.mk a1 a2 a3 a4 a5 a6)) name r)))] [] (pf5 h1 h170 h2 h101 h171) (x:=.agg (Eu true (Stt.mk n t ss) (Msg.mk ⟨e,p⟩ ms o (.mk a1 a2 a3 a4 a5 a6)) name r)) (bx:=[]) (by kernel_rfl) rfl
 |false=>
  cases g with
  |true=>exact pure_of [(29,.p (.agg (Val.mk v1 v2 v3 v4 v5 v6).cells)),(37,.p (.tup [boolX true,num er])),(42,.b false),(53,.p (.agg (UW (Stt.mk n t ss) (Msg.mk ⟨e,p⟩ ms o (.mk a1 a2 a3 a4 a5 a6)) 0)))] [] (pf4 h1 h170 h2 h172) (x:=.agg (UW (Stt.mk n t ss) (Msg.mk ⟨e,p⟩ ms o (.mk a1 a2 a3 a4 a5 a6)) 0)) (bx:=[]) (by kernel_rfl) rfl
  |false=>exact pure_of [(29,.p (.agg (Val.mk v1 v2 v3 v4 v5 v6).cells)),(37,.p (.tup [boolX false,num er])),(42,.b false),(59,.p (.agg (Eu true (Stt.mk n t ss) (Msg.mk ⟨e,p⟩ ms o (.mk a1 a2 a3 a4 a5 a6)) name text)))] [] (pf4 h1 h170 h2 zkC) (x:=.agg (Eu true (Stt.mk n t ss) (Msg.mk ⟨e,p⟩ ms o (.mk a1 a2 a3 a4 a5 a6)) name text)) (bx:=[]) (by kernel_rfl) rfl
theorem YS (s:Stt)(hs:s.ok)(m:Msg)(hm:m.ok)(j:Nat)(N:Nat)(hN:190400≤N):Gam.pureD (callF tab ext N) 10 [.agg (UW s m j),.agg (UW s m j)]=some (boolX true):=by
 obtain ⟨M,rfl⟩:∃M,N=M+101:=⟨N-101,by omega⟩
 have h1:=Nw (M+100) s hs (by omega)
 have h2:=EI (M+100) m hm (by omega)
 have hj:(Int.ofNat j !=Int.ofNat j)=false:=by simp
 obtain ⟨⟨e,p⟩,ms,o,⟨a1,a2,a3,a4,a5,a6⟩⟩:=m
 obtain ⟨a,b,ss⟩:=s
 exact pure_of [(10,.p (boolX true)),(40,.b false),(54,.p (boolX true))] [] (pf3 h1 hj h2) (x:=boolX true) (bx:=[]) (by kernel_rfl) rfl
theorem NM (q:Res)(s:Stt)(hs:s.ok)(m:Msg)(hm:m.ok)(name:ByteArray)(N:Nat)(hN:190400≤N):Gam.pureD (callF tab ext N) 10 [.agg (q.out false s m name),.agg (q.out true s m name)]=some (boolX true):=by
 cases q with
 |rej r=>exact YK s hs m hm false true name r N hN
 |pas j=>exact YS s hs m hm j N hN
end Ct
end Go.Proofs.YtjbndifenhihhaaGreatDoor
namespace Go.Proofs.YtjbndifenhihhaaGreatDoor
open Go Go.Em Go.Ab
set_option maxRecDepth 100000
namespace Ct
abbrev CW (name:ByteArray) (kd k1 k2 k3 w k5:Int) (text:ByteArray) (a b c d:Int) (we el f ty ex ru ca ne:List (List X)):List X:=[strX name,num kd,num k1,num k2,num k3,num w,num k5,strX text,num a,num b,num c,num d,.sl false 1 we,.sl false 7 el,.sl false 11 f,.sl false 7 ty,.sl false 5 ex,.sl false 6 ru,.sl false 2 ca,.sl false 1 ne]
def JV (f:Nat→Bool×Int)(j:Nat):Res:=if (f j).2 !=0 then .rej (oM (f j).2) else .pas j
def EU (f:Nat→Bool×Int)(j:Nat):Bool:=(f j).2 !=0||(f j).1
section
variable (name:ByteArray) (kd k1 k2 k3 w k5:Int) (text:ByteArray) (a b c d:Int) (we el f ty ex ru ca ne:List (List X)) (m:Msg) (nx j:Nat)
noncomputable abbrev chH:St:=⟨[(2,.ptr 0 0 0),(3,.ptr 1 0 0),(4,.ptr 2 0 0),(10,nat nx),(11,nat j)],[.var (CW name kd k1 k2 k3 w k5 text a b c d we el f ty ex ru ca ne),.var m.cells,.var [.sl true 10 [],num 0,boolX false,noText]]⟩
noncomputable abbrev chR (q:Res):St:=⟨[(4,.ptr 2 0 0)],[.var (CW name kd k1 k2 k3 w k5 text a b c d we el f ty ex ru ca ne),.var m.cells,.var (q.cells m)]⟩
noncomputable abbrev chE:St:=⟨[(2,.ptr 0 0 0),(3,.ptr 1 0 0),(4,.ptr 2 0 0),(10,nat nx),(11,nat j),(12,boolX false)],[.var (CW name kd k1 k2 k3 w k5 text a b c d we el f ty ex ru ca ne),.var m.cells,.var [.sl true 10 [],num 0,boolX false,noText]]⟩
variable (g:Bool) (er:Int) (r:ByteArray) (M:Nat)
theorem O4:canon 0 (chH name kd k1 k2 k3 w k5 text a b c d we el f ty ex ru ca ne m nx j)=some (chH name kd k1 k2 k3 w k5 text a b c d we el f ty ex ru ca ne m nx j):=by
 obtain ⟨⟨e2,pp⟩,ms,og,⟨a1,a2,a3,a4,a5,a6⟩⟩:=m
 kernel_rfl
theorem zhW (h1:decide (Int.ofNat j<Int.ofNat nx)=true)(F6:Gam.pureD (callF tab ext M) 228 [.agg (CW name kd k1 k2 k3 w k5 text a b c d we el f ty ex ru ca ne),nat j,.agg m.cells]=some (.tup [boolX g,num er]))(h2:(er !=0)=true)(h101:Gam.pureD (callF tab ext M) 38 [num er]=some (strX r))(zd1:Gam.pureD (callF tab ext M) 176 [strX r]=some (.agg [.sl false 10 [],num 0,boolX false,strX r])):
  run (callF tab ext M) 0 M (loopAt 173 0) (chH name kd k1 k2 k3 w k5 text a b c d we el f ty ex ru ca ne m nx j)=some (.ret,chR name kd k1 k2 k3 w k5 text a b c d we el f ty ex ru ca ne m (.rej r)):=by
 obtain ⟨⟨e2,pp⟩,ms,og,⟨a1,a2,a3,a4,a5,a6⟩⟩:=m
 cases g with
 |true=>exact run_of [(12,.b true),(18,.p (.tup [boolX true,num er])),(22,.b true),(24,.p (strX r)),(25,.p (.agg [.sl false 10 [],num 0,boolX false,strX r]))] [] (pf5 h1 F6 h2 h101 zd1) (lo':=[]) (by kernel_rfl)
 |false=>exact run_of [(12,.b true),(18,.p (.tup [boolX false,num er])),(22,.b true),(24,.p (strX r)),(25,.p (.agg [.sl false 10 [],num 0,boolX false,strX r]))] [] (pf5 h1 F6 h2 h101 zd1) (lo':=[]) (by kernel_rfl)
theorem zhX (h1:decide (Int.ofNat j<Int.ofNat nx)=true)(F6:Gam.pureD (callF tab ext M) 228 [.agg (CW name kd k1 k2 k3 w k5 text a b c d we el f ty ex ru ca ne),nat j,.agg m.cells]=some (.tup [boolX true,num er]))(h2:(er !=0)=false)(zi6:Gam.pureD (callF tab ext M) 229 [.agg m.cells,nat j]=some (.agg [.sl false 10 [m.cells],nat j,boolX false,noText])):
  run (callF tab ext M) 0 M (loopAt 173 0) (chH name kd k1 k2 k3 w k5 text a b c d we el f ty ex ru ca ne m nx j)=some (.ret,chR name kd k1 k2 k3 w k5 text a b c d we el f ty ex ru ca ne m (.pas j)):=by
 obtain ⟨⟨e2,pp⟩,ms,og,⟨a1,a2,a3,a4,a5,a6⟩⟩:=m
 exact run_of [(12,.b true),(18,.p (.tup [boolX true,num er])),(22,.b false),(29,.p (.agg [.sl false 10 [(Msg.mk ⟨e2,pp⟩ ms og (.mk a1 a2 a3 a4 a5 a6)).cells],nat j,boolX false,noText]))] [] (pf4 h1 F6 h2 zi6) (lo':=[]) (by kernel_rfl)
theorem ze1 (h1:decide (Int.ofNat j<Int.ofNat nx)=true)(F6:Gam.pureD (callF tab ext M) 228 [.agg (CW name kd k1 k2 k3 w k5 text a b c d we el f ty ex ru ca ne),nat j,.agg m.cells]=some (.tup [boolX false,num er]))(h2:(er !=0)=false)(hn:IntKind.i64.wrap (Int.ofNat j+1)=Int.ofNat (j+1)):
  run (callF tab ext M) 0 M (loopAt 173 0) (chH name kd k1 k2 k3 w k5 text a b c d we el f ty ex ru ca ne m nx j)=some (.norm,chH name kd k1 k2 k3 w k5 text a b c d we el f ty ex ru ca ne m nx (j+1)):=by
 obtain ⟨⟨e2,pp⟩,ms,og,⟨a1,a2,a3,a4,a5,a6⟩⟩:=m
 exact run_of [(12,.b true),(18,.p (.tup [boolX false,num er])),(22,.b false),(30,.i (Int.ofNat (j+1)))] [] (pf4 h1 F6 h2 hn) (lo':=[]) (by kernel_rfl)
theorem zh0 (h1:decide (Int.ofNat j<Int.ofNat nx)=false):run (callF tab ext M) 0 M (loopAt 173 0) (chH name kd k1 k2 k3 w k5 text a b c d we el f ty ex ru ca ne m nx j)=some (.exit 0,chE name kd k1 k2 k3 w k5 text a b c d we el f ty ex ru ca ne m nx j):=by
 obtain ⟨⟨e2,pp⟩,ms,og,⟨a1,a2,a3,a4,a5,a6⟩⟩:=m
 exact run_of [(12,.b false)] [] (pf1 h1) (lo':=[]) (by kernel_rfl)
theorem zhZ (q:Res)(h:run (callF tab ext M) 0 M (.loop (loopAt 173 0)) (chH name kd k1 k2 k3 w k5 text a b c d we el f ty ex ru ca ne m ex.length 0)=some (.ret,chR name kd k1 k2 k3 w k5 text a b c d we el f ty ex ru ca ne m q)):Gam.pureD (callF tab ext (M+1)) 173 [.agg (CW name kd k1 k2 k3 w k5 text a b c d we el f ty ex ru ca ne),.agg m.cells]=some (.agg (q.cells m)):=by
 obtain ⟨⟨e2,pp⟩,ms,og,⟨a1,a2,a3,a4,a5,a6⟩⟩:=m
 cases q with
 |rej r=>exact pure_of [] [(.ret,chR name kd k1 k2 k3 w k5 text a b c d we el f ty ex ru ca ne (Msg.mk ⟨e2,pp⟩ ms og (.mk a1 a2 a3 a4 a5 a6)) (.rej r))] (pf1 h) (x:=.agg [.sl false 10 [],num 0,boolX false,strX r]) (bx:=[]) (by kernel_rfl) rfl
 |pas j=>exact pure_of [] [(.ret,chR name kd k1 k2 k3 w k5 text a b c d we el f ty ex ru ca ne (Msg.mk ⟨e2,pp⟩ ms og (.mk a1 a2 a3 a4 a5 a6)) (.pas j))] (pf1 h) (x:=.agg [.sl false 10 [(Msg.mk ⟨e2,pp⟩ ms og (.mk a1 a2 a3 a4 a5 a6)).cells],nat j,boolX false,noText]) (bx:=[]) (by kernel_rfl) rfl
theorem zhY (h:run (callF tab ext M) 0 M (.loop (loopAt 173 0)) (chH name kd k1 k2 k3 w k5 text a b c d we el f ty ex ru ca ne m ex.length 0)=some (.exit 0,chE name kd k1 k2 k3 w k5 text a b c d we el f ty ex ru ca ne m ex.length ex.length))(zm4:Gam.pureD (callF tab ext M) 107 [.agg (CW name kd k1 k2 k3 w k5 text a b c d we el f ty ex ru ca ne),.agg m.cells]=some (.agg [.sl false 10 [],num 0,boolX false,strX r])):Gam.pureD (callF tab ext (M+1)) 173 [.agg (CW name kd k1 k2 k3 w k5 text a b c d we el f ty ex ru ca ne),.agg m.cells]=some (.agg (Res.cells m (.rej r))):=by
 obtain ⟨⟨e2,pp⟩,ms,og,⟨a1,a2,a3,a4,a5,a6⟩⟩:=m
 exact pure_of [(33,.p (.agg [.sl false 10 [],num 0,boolX false,strX r]))] [(.exit 0,chE name kd k1 k2 k3 w k5 text a b c d we el f ty ex ru ca ne (Msg.mk ⟨e2,pp⟩ ms og (.mk a1 a2 a3 a4 a5 a6)) ex.length ex.length)] (pf2 h zm4) (x:=.agg [.sl false 10 [],num 0,boolX false,strX r]) (bx:=[]) (by kernel_rfl) rfl
end
def XP:ByteArray:=⟨#[117,110,114,111,117,116,97,98,108,101]⟩
def Choice (f:Nat→Bool×Int)(n:Nat)(q:Res):Prop:=(∃j,j<n∧EU f j=true∧(∀i,i<j→EU f i=false)∧q=JV f j)∨((∀j,j<n→EU f j=false)∧q=.rej XP)
theorem MN {f:Nat→Bool×Int}{n:Nat}{q q':Res}(h:Choice f n q)(h':Choice f n q'):q=q':=by
 rcases h with ⟨j,h1,h2,h3,rfl⟩|⟨h1,rfl⟩<;>rcases h' with ⟨j',k1,k2,k3,rfl⟩|⟨k1,rfl⟩
 ·have:j=j':=by
   rcases Nat.lt_trichotomy j j' with h|h|h
   ·rw [k3 j h] at h2;cases h2
   ·exact h
   ·rw [h3 j' h] at k2;cases k2
  rw [this]
 ·rw [k1 j h1] at h2;cases h2
 ·rw [h1 j' k1] at k2;cases k2
 ·rfl
theorem II {f:Nat→Bool×Int}{j:Nat}(h:EU f j=false):((f j).2 !=0)=false∧(f j).1=false:=by
 unfold EU at h
 exact Bool.or_eq_false_iff.1 h
theorem ML (nd:Nod)(hs:nd.small)(m:Msg)(hm:m.body.ok)(f:Nat→Bool×Int)(B:Nat)(hc:zfL nd m.body f B nd.exprs.length):∃q,Choice f nd.exprs.length q∧∀N,B+200600≤N→Gam.pureD (callF tab ext N) 173 [.agg nd.cells,.agg m.cells]=some (.agg (q.cells m)):=by
 have hl:nd.exprs.length≤8:=hs.2.2.2.1
 have F6:∀j,j<nd.exprs.length→∀N,B+200501≤N→Gam.pureD (callF tab ext N) 228 [.agg nd.cells,nat j,.agg m.cells]=some (.tup [boolX (f j).1,num (f j).2]):=fun j hj N hN=>by
  obtain ⟨M,rfl⟩:∃M,N=M+1:=⟨N-1,by omega⟩
  exact zgM nd hs j m hm _ _ M (by omega) ((hc j hj).2 M (by omega))
 have hr:=fun j (hj:j<nd.exprs.length)=>(hc j hj).1
 have hun:=fun N=>TA N nd m
 clear hc hm hs
 obtain ⟨name,kd,k1,k2,k3,w,k5,text,⟨a,b,c,d⟩,we,el,fi,ty,ex,ca,ru,ne⟩:=nd
 dsimp only at F6 hr hl ⊢
 have key:=zch (nIn:=0) (b:=loopAt 173 0) (H:=fun j=>chH name kd k1 k2 k3 w k5 text a b c d we el fi ty ex ru ca ne m ex.length j) (P:=EU f) (r:=fun j=>chR name kd k1 k2 k3 w k5 text a b c d we el fi ty ex ru ca ne m (JV f j)) (υ:=fun j=>chH name kd k1 k2 k3 w k5 text a b c d we el fi ty ex ru ca ne m ex.length (j+1)) (τ:=chH name kd k1 k2 k3 w k5 text a b c d we el fi ty ex ru ca ne m ex.length 0) (n:=ex.length) (B:=B+200510) (e:=.exit 0) (fin:=chE name kd k1 k2 k3 w k5 text a b c d we el fi ty ex ru ca ne m ex.length ex.length) (O4 ..)
  (fun j hj hP M hM=>by
   have h3:=F6 j hj M (by omega)
   have hb:=hr j hj
   unfold EU at hP
   unfold JV
   generalize f j=p at h3 hb hP ⊢
   obtain ⟨g,er⟩:=p
   obtain ⟨K,rfl⟩:∃K,M=K+10:=⟨M-10,by omega⟩
   cases he:(er !=0) with
   |true=>exact zhW (h1:=aI hj) (F6:=h3) (h2:=he) (h101:=nH er hb (K+10) (by omega)) (zd1:=yX (K+9) _) ..
   |false=>
    have hg:g=true:=by
     dsimp only at hP
     rw [he] at hP
     simpa using hP
    subst hg
    exact zhX (h1:=aI hj) (F6:=h3) (h2:=he) (zi6:=H6 (K+9) m j) ..)
  (fun j hj hP=>⟨O4 ..,fun M hM=>by
   have h3:=F6 j hj M (by omega)
   obtain ⟨he,hg⟩:=II hP
   generalize f j=p at h3 he hg
   obtain ⟨g,er⟩:=p
   dsimp only at he hg
   subst hg
   exact ze1 (h1:=aI hj) (F6:=h3) (h2:=he) (hn:=next_nat (j:=j) (by omega)) ..⟩)
  (fun M _=>zh0 (h1:=aJ (Nat.lt_irrefl _)) ..) (by simp)
 rcases key with ⟨j,hj,hP,hB,h⟩|⟨hF,h⟩
 ·refine ⟨JV f j,.inl ⟨j,hj,hP,hB,rfl⟩,fun N hN=>?_⟩
  obtain ⟨M,rfl⟩:∃M,N=M+1:=⟨N-1,by omega⟩
  exact zhZ (h:=h M (by omega) (by omega)) ..
 ·refine ⟨.rej XP,.inr ⟨hF,rfl⟩,fun N hN=>?_⟩
  obtain ⟨M,rfl⟩:∃M,N=M+2+1:=⟨N-3,by omega⟩
  exact zhY (h:=h (M+2) (by omega) (by omega)) (zm4:=hun M) ..
section
variable (name:ByteArray) (k1 k2 k3 w k5:Int) (text:ByteArray) (a b c d:Int) (we el f ty ex ru ca ne:List (List X)) (s:Stt) (m:Msg) (v:Val) (j:Nat)
abbrev zjj:List X:=[num 0,num 0,.sl true 10 [],.sl true 11 [],.sl true 11 [],.sl true 6 [],.sl true 10 []]
noncomputable abbrev mcH:St:=⟨[(3,.ptr 0 0 0),(4,.ptr 1 0 0),(6,.ptr 2 0 0),(7,.ptr 3 0 0),(8,.ptr 4 0 0),(13,nat j)],[.var (CW name 11 k1 k2 k3 w k5 text a b c d we el f ty ex ru ca ne),.var s.cells,.var zjj,.var m.cells,.var v.cells]⟩
noncomputable abbrev mcR (o:List X):St:=⟨[(6,.ptr 2 0 0)],[.var (CW name 11 k1 k2 k3 w k5 text a b c d we el f ty ex ru ca ne),.var s.cells,.var o,.var m.cells,.var v.cells]⟩
noncomputable abbrev mcE:St:=⟨[(3,.ptr 0 0 0),(4,.ptr 1 0 0),(6,.ptr 2 0 0),(7,.ptr 3 0 0),(8,.ptr 4 0 0),(13,nat j),(90,boolX false)],[.var (CW name 11 k1 k2 k3 w k5 text a b c d we el f ty ex ru ca ne),.var s.cells,.var zjj,.var m.cells,.var v.cells]⟩
variable (g:Bool) (er:Int) (r:ByteArray) (M:Nat)
theorem Y8:canon 0 (mcH name k1 k2 k3 w k5 text a b c d we el f ty ex ru ca ne s m v j)=some (mcH name k1 k2 k3 w k5 text a b c d we el f ty ex ru ca ne s m v j):=by
 obtain ⟨⟨e2,pp⟩,ms,og,⟨a1,a2,a3,a4,a5,a6⟩⟩:=m
 obtain ⟨v1,v2,v3,v4,v5,v6⟩:=v
 obtain ⟨n,t,ss⟩:=s
 kernel_rfl
theorem zhc (h1:decide (Int.ofNat j<Int.ofNat ex.length)=true)(h170:Gam.pureD (callF tab ext M) 110 [.agg (CW name 11 k1 k2 k3 w k5 text a b c d we el f ty ex ru ca ne),nat j,.agg v.cells]=some (.tup [boolX g,num er]))(h2:(er !=0)=true)(h101:Gam.pureD (callF tab ext M) 38 [num er]=some (strX r))(h171:Gam.pureD (callF tab ext M) 111 [.agg (CW name 11 k1 k2 k3 w k5 text a b c d we el f ty ex ru ca ne),.agg s.cells,.agg m.cells,strX r]=some (.agg (Eu true s m name r))):
  run (callF tab ext M) 0 M (loopAt 61 0) (mcH name k1 k2 k3 w k5 text a b c d we el f ty ex ru ca ne s m v j)=some (.ret,mcR name k1 k2 k3 w k5 text a b c d we el f ty ex ru ca ne s m v (Eu true s m name r)):=by
 obtain ⟨⟨e2,pp⟩,ms,og,⟨a1,a2,a3,a4,a5,a6⟩⟩:=m
 obtain ⟨v1,v2,v3,v4,v5,v6⟩:=v
 obtain ⟨n,t,ss⟩:=s
 cases g with
 |true=>exact run_of [(90,.b true),(97,.p (.tup [boolX true,num er])),(101,.b true),(106,.p (strX r)),(107,.p (.agg (Eu true (Stt.mk n t ss) (Msg.mk ⟨e2,pp⟩ ms og (.mk a1 a2 a3 a4 a5 a6)) name r)))] [] (pf5 h1 h170 h2 h101 h171) (lo':=[]) (by kernel_rfl)
 |false=>exact run_of [(90,.b true),(97,.p (.tup [boolX false,num er])),(101,.b true),(106,.p (strX r)),(107,.p (.agg (Eu true (Stt.mk n t ss) (Msg.mk ⟨e2,pp⟩ ms og (.mk a1 a2 a3 a4 a5 a6)) name r)))] [] (pf5 h1 h170 h2 h101 h171) (lo':=[]) (by kernel_rfl)
theorem zhd (h1:decide (Int.ofNat j<Int.ofNat ex.length)=true)(h170:Gam.pureD (callF tab ext M) 110 [.agg (CW name 11 k1 k2 k3 w k5 text a b c d we el f ty ex ru ca ne),nat j,.agg v.cells]=some (.tup [boolX true,num er]))(h2:(er !=0)=false)(h172:Gam.pureD (callF tab ext M) 112 [.agg s.cells,nat j,.agg m.cells]=some (.agg (UW s m j))):
  run (callF tab ext M) 0 M (loopAt 61 0) (mcH name k1 k2 k3 w k5 text a b c d we el f ty ex ru ca ne s m v j)=some (.ret,mcR name k1 k2 k3 w k5 text a b c d we el f ty ex ru ca ne s m v (UW s m j)):=by
 obtain ⟨⟨e2,pp⟩,ms,og,⟨a1,a2,a3,a4,a5,a6⟩⟩:=m
 obtain ⟨v1,v2,v3,v4,v5,v6⟩:=v
 obtain ⟨n,t,ss⟩:=s
 exact run_of [(90,.b true),(97,.p (.tup [boolX true,num er])),(101,.b false),(112,.p (.agg (UW (Stt.mk n t ss) (Msg.mk ⟨e2,pp⟩ ms og (.mk a1 a2 a3 a4 a5 a6)) j)))] [] (pf4 h1 h170 h2 h172) (lo':=[]) (by kernel_rfl)
theorem zc1 (h1:decide (Int.ofNat j<Int.ofNat ex.length)=true)(h170:Gam.pureD (callF tab ext M) 110 [.agg (CW name 11 k1 k2 k3 w k5 text a b c d we el f ty ex ru ca ne),nat j,.agg v.cells]=some (.tup [boolX false,num er]))(h2:(er !=0)=false)(hn:IntKind.i64.wrap (Int.ofNat j+1)=Int.ofNat (j+1)):
  run (callF tab ext M) 0 M (loopAt 61 0) (mcH name k1 k2 k3 w k5 text a b c d we el f ty ex ru ca ne s m v j)=some (.norm,mcH name k1 k2 k3 w k5 text a b c d we el f ty ex ru ca ne s m v (j+1)):=by
 obtain ⟨⟨e2,pp⟩,ms,og,⟨a1,a2,a3,a4,a5,a6⟩⟩:=m
 obtain ⟨v1,v2,v3,v4,v5,v6⟩:=v
 obtain ⟨n,t,ss⟩:=s
 exact run_of [(90,.b true),(97,.p (.tup [boolX false,num er])),(101,.b false),(92,.i (Int.ofNat (j+1)))] [] (pf4 h1 h170 h2 hn) (lo':=[]) (by kernel_rfl)
theorem zhg (h1:decide (Int.ofNat j<Int.ofNat ex.length)=false):run (callF tab ext M) 0 M (loopAt 61 0) (mcH name k1 k2 k3 w k5 text a b c d we el f ty ex ru ca ne s m v j)=some (.exit 2,mcE name k1 k2 k3 w k5 text a b c d we el f ty ex ru ca ne s m v j):=by
 obtain ⟨⟨e2,pp⟩,ms,og,⟨a1,a2,a3,a4,a5,a6⟩⟩:=m
 obtain ⟨v1,v2,v3,v4,v5,v6⟩:=v
 obtain ⟨n,t,ss⟩:=s
 exact run_of [(90,.b false)] [] (pf1 h1) (lo':=[]) (by kernel_rfl)
variable (i:Inp)
noncomputable abbrev mcS:St:=⟨[(3,.ptr 0 0 0),(4,.ptr 1 0 0),(6,.ptr 3 0 0),(7,.ptr 4 0 0),(8,.ptr 5 0 0),(13,num 0)],[.var (CW name 11 k1 k2 k3 w k5 text a b c d we el f ty ex ru ca ne),.var s.cells,.var ({i with kind:=1}:Inp).cells,.var zjj,.var i.m.cells,.var v.cells]⟩
theorem Vm:canon 0 (mcS name k1 k2 k3 w k5 text a b c d we el f ty ex ru ca ne s v i)=some (mcH name k1 k2 k3 w k5 text a b c d we el f ty ex ru ca ne s i.m v 0):=by
 obtain ⟨kd,tm,⟨se,sp⟩,⟨⟨e,p⟩,ms,o,⟨a1,a2,a3,a4,a5,a6⟩⟩,x,b1,b2,⟨c1,c2,c3,c4,c5,c6⟩⟩:=i
 obtain ⟨v1,v2,v3,v4,v5,v6⟩:=v
 obtain ⟨n,t,ss⟩:=s
 kernel_rfl
theorem zhf (q:Res)(h124:Gam.pureD (callF tab ext M) 44 [.agg i.m.body.cells]=some (.agg v.cells))(h:run (callF tab ext M) 0 M (.loop (loopAt 61 0)) (mcS name k1 k2 k3 w k5 text a b c d we el f ty ex ru ca ne s v i)=some (.ret,mcR name k1 k2 k3 w k5 text a b c d we el f ty ex ru ca ne s i.m v (q.out true s i.m name))):
  Gam.pureD (callF tab ext (M+1)) 61 [.agg (CW name 11 k1 k2 k3 w k5 text a b c d we el f ty ex ru ca ne),.agg s.cells,.agg ({i with kind:=1}:Inp).cells]=some (.agg (q.out true s i.m name)):=by
 obtain ⟨kd,tm,⟨se,sp⟩,⟨⟨e,p⟩,ms,o,⟨a1,a2,a3,a4,a5,a6⟩⟩,x,b1,b2,⟨c1,c2,c3,c4,c5,c6⟩⟩:=i
 obtain ⟨v1,v2,v3,v4,v5,v6⟩:=v
 obtain ⟨n,t,ss⟩:=s
 cases q with
 |rej r=>exact pure_of [(29,.p (.agg (Val.mk v1 v2 v3 v4 v5 v6).cells))] [(.ret,mcR name k1 k2 k3 w k5 text a b c d we el f ty ex ru ca ne (Stt.mk n t ss) (Msg.mk ⟨e,p⟩ ms o (.mk a1 a2 a3 a4 a5 a6)) (Val.mk v1 v2 v3 v4 v5 v6) (Eu true (Stt.mk n t ss) (Msg.mk ⟨e,p⟩ ms o (.mk a1 a2 a3 a4 a5 a6)) name r))] (pf2 h124 h) (x:=.agg (Eu true (Stt.mk n t ss) (Msg.mk ⟨e,p⟩ ms o (.mk a1 a2 a3 a4 a5 a6)) name r)) (bx:=[]) (by kernel_rfl) rfl
 |pas j=>exact pure_of [(29,.p (.agg (Val.mk v1 v2 v3 v4 v5 v6).cells))] [(.ret,mcR name k1 k2 k3 w k5 text a b c d we el f ty ex ru ca ne (Stt.mk n t ss) (Msg.mk ⟨e,p⟩ ms o (.mk a1 a2 a3 a4 a5 a6)) (Val.mk v1 v2 v3 v4 v5 v6) (UW (Stt.mk n t ss) (Msg.mk ⟨e,p⟩ ms o (.mk a1 a2 a3 a4 a5 a6)) j))] (pf2 h124 h) (x:=.agg (UW (Stt.mk n t ss) (Msg.mk ⟨e,p⟩ ms o (.mk a1 a2 a3 a4 a5 a6)) j)) (bx:=[]) (by kernel_rfl) rfl
theorem zhe (h124:Gam.pureD (callF tab ext M) 44 [.agg i.m.body.cells]=some (.agg v.cells))(h:run (callF tab ext M) 0 M (.loop (loopAt 61 0)) (mcS name k1 k2 k3 w k5 text a b c d we el f ty ex ru ca ne s v i)=some (.exit 2,mcE name k1 k2 k3 w k5 text a b c d we el f ty ex ru ca ne s i.m v j))(h171:Gam.pureD (callF tab ext M) 111 [.agg (CW name 11 k1 k2 k3 w k5 text a b c d we el f ty ex ru ca ne),.agg s.cells,.agg i.m.cells,strX XP]=some (.agg (Eu true s i.m name XP))):
  Gam.pureD (callF tab ext (M+1)) 61 [.agg (CW name 11 k1 k2 k3 w k5 text a b c d we el f ty ex ru ca ne),.agg s.cells,.agg ({i with kind:=1}:Inp).cells]=some (.agg (Res.out true s i.m name (.rej XP))):=by
 obtain ⟨kd,tm,⟨se,sp⟩,⟨⟨e,p⟩,ms,o,⟨a1,a2,a3,a4,a5,a6⟩⟩,x,b1,b2,⟨c1,c2,c3,c4,c5,c6⟩⟩:=i
 obtain ⟨v1,v2,v3,v4,v5,v6⟩:=v
 obtain ⟨n,t,ss⟩:=s
 exact pure_of [(29,.p (.agg (Val.mk v1 v2 v3 v4 v5 v6).cells)),(194,.p (.agg (Eu true (Stt.mk n t ss) (Msg.mk ⟨e,p⟩ ms o (.mk a1 a2 a3 a4 a5 a6)) name XP)))] [(.exit 2,mcE name k1 k2 k3 w k5 text a b c d we el f ty ex ru ca ne (Stt.mk n t ss) (Msg.mk ⟨e,p⟩ ms o (.mk a1 a2 a3 a4 a5 a6)) (Val.mk v1 v2 v3 v4 v5 v6) j)] (pf3 h124 h h171) (x:=.agg (Eu true (Stt.mk n t ss) (Msg.mk ⟨e,p⟩ ms o (.mk a1 a2 a3 a4 a5 a6)) name XP)) (bx:=[]) (by kernel_rfl) rfl
end
theorem Ij (nd:Nod)(hk:nd.kind=11)(hs:nd.small)(s:Stt)(i:Inp)(hm:i.m.ok)(f:Nat→Bool×Int)(B:Nat)(hc:zfL nd i.m.body f B nd.exprs.length):∃q,Choice f nd.exprs.length q∧∀N,B+200700≤N→Gam.pureD (callF tab ext N) 61 [.agg nd.cells,.agg s.cells,.agg ({i with kind:=1}:Inp).cells]=some (.agg (q.out true s i.m nd.name)):=by
 have hl:nd.exprs.length≤8:=hs.2.2.2.1
 have h124:=fun N=>Fz i.m.body hm.body N
 have h170:∀j,j<nd.exprs.length→∀N,B+1≤N→Gam.pureD (callF tab ext N) 110 [.agg nd.cells,nat j,.agg (L8 i.m.body).cells]=some (.tup [boolX (f j).1,num (f j).2]):=fun j hj N hN=>by
  obtain ⟨M,rfl⟩:∃M,N=M+1:=⟨N-1,by omega⟩
  exact zhb nd hs j _ _ _ M ((hc j hj).2 M (by omega))
 have hr:=fun j (hj:j<nd.exprs.length)=>(hc j hj).1
 have h171:=fun N r=>zn N nd s i.m r
 clear hc hm hs
 obtain ⟨name,kd,k1,k2,k3,w,k5,text,⟨a,b,c,d⟩,we,el,fi,ty,ex,ca,ru,ne⟩:=nd
 dsimp only at h170 hr hl hk ⊢
 subst hk
 generalize L8 i.m.body=v at h124 h170
 have key:=zch (nIn:=0) (b:=loopAt 61 0) (H:=fun j=>mcH name k1 k2 k3 w k5 text a b c d we el fi ty ex ru ca ne s i.m v j) (P:=EU f) (r:=fun j=>mcR name k1 k2 k3 w k5 text a b c d we el fi ty ex ru ca ne s i.m v ((JV f j).out true s i.m name)) (υ:=fun j=>mcH name k1 k2 k3 w k5 text a b c d we el fi ty ex ru ca ne s i.m v (j+1)) (τ:=mcS name k1 k2 k3 w k5 text a b c d we el fi ty ex ru ca ne s v i) (n:=ex.length) (B:=B+200510) (e:=.exit 2) (fin:=mcE name k1 k2 k3 w k5 text a b c d we el fi ty ex ru ca ne s i.m v ex.length) (Vm ..)
  (fun j hj hP M hM=>by
   have h3:=h170 j hj M (by omega)
   have hb:=hr j hj
   unfold EU at hP
   unfold JV
   generalize f j=p at h3 hb hP ⊢
   obtain ⟨g,er⟩:=p
   obtain ⟨K,rfl⟩:∃K,M=K+10:=⟨M-10,by omega⟩
   cases he:(er !=0) with
   |true=>exact zhc (h1:=aI hj) (h170:=h3) (h2:=he) (h101:=nH er hb (K+10) (by omega)) (h171:=h171 (K+9) _) ..
   |false=>
    have hg:g=true:=by
     dsimp only at hP
     rw [he] at hP
     simpa using hP
    subst hg
    exact zhd (h1:=aI hj) (h170:=h3) (h2:=he) (h172:=Ih (K+9) s i.m j) ..)
  (fun j hj hP=>⟨Y8 ..,fun M hM=>by
   have h3:=h170 j hj M (by omega)
   obtain ⟨he,hg⟩:=II hP
   generalize f j=p at h3 he hg
   obtain ⟨g,er⟩:=p
   dsimp only at he hg
   subst hg
   exact zc1 (h1:=aI hj) (h170:=h3) (h2:=he) (hn:=next_nat (j:=j) (by omega)) ..⟩)
  (fun M _=>zhg (h1:=aJ (Nat.lt_irrefl _)) ..) (by simp)
 rcases key with ⟨j,hj,hP,hB,h⟩|⟨hF,h⟩
 ·refine ⟨JV f j,.inl ⟨j,hj,hP,hB,rfl⟩,fun N hN=>?_⟩
  obtain ⟨M,rfl⟩:∃M,N=M+1:=⟨N-1,by omega⟩
  exact zhf (h124:=h124 M (by omega)) (h:=h M (by omega) (by omega)) ..
 ·refine ⟨.rej XP,.inr ⟨hF,rfl⟩,fun N hN=>?_⟩
  obtain ⟨M,rfl⟩:∃M,N=M+1+1:=⟨N-2,by omega⟩
  exact zhe (h124:=h124 (M+1) (by omega)) (h:=h (M+1) (by omega) (by omega)) (h171:=h171 M XP) ..
end Ct
end Go.Proofs.YtjbndifenhihhaaGreatDoor
namespace Go.Proofs.YtjbndifenhihhaaGreatDoor
open Go Go.Em Go.Ab
set_option maxRecDepth 100000
theorem yL (m:Msg):∃v,(dM m).body=aU 4 v:=⟨m.body,rfl⟩
theorem Hq (cn:List X)(hcn:isNode cn)(s:Stt)(i:Inp):∃n,callF tab ext n (.fn 5) [.agg cn,.agg s.cells,.agg i.cells] []=some (.v (.bool true),[]):=by
 obtain ⟨nd,nd',rfl,hsm,hn⟩:=CV hcn
 have hs:=(vZ s).ok
 have hm:(gV i).m.ok:=by rw [xU];exact yK i.m
 obtain ⟨v,hv⟩:=yL i.m
 obtain ⟨f,B,hc⟩:=Ct.conds nd' hsm v 1
 rw [←hv,←xU] at hc
 obtain ⟨hp,uf⟩:=hc 0 (by decide)
 have zhu:({nd' with kind:=1}:Nod).small:=hsm
 refine ⟨B+201010,?_⟩
 obtain ⟨q,hq⟩:∃q,q=Ct.Wy nd' (f 0):=⟨_,rfl⟩
 have ha:=Ct.Hl nd' 1 171 (.inl ⟨rfl,rfl⟩) (shortS s) hs (gV i) hm q (B+201007) (by omega) (by
  have h:=Ct.LX {nd' with kind:=1} zhu (gV i).m hm.body (f 0) hp (B+201005) (by omega) (uf _ (by omega))
  rw [hq]
  exact h)
 have hb:=Ct.Ii nd' hsm (shortS s) (gV i) hm (f 0) hp (B+201006) (by omega) (uf _ (by omega))
 rw [←hq] at hb
 have hab:=Ct.NM q (shortS s) hs (gV i).m hm nd'.name (B+201008) (by omega)
 have h:Gam.pureD (callF tab ext (B+201009)) 19 [.agg nd.cells,.agg s.cells,.agg i.cells,num 1]=some (boolX true):=by
  cases q with
  |rej r=>exact uF nd nd' hn s i 1 (B+201009) (by omega) _ _ _ _ _ _ _ _ _ _ _ _ ha hb hab
  |pas j=>exact uF nd nd' hn s i 1 (B+201009) (by omega) _ _ _ _ _ _ _ _ _ _ _ _ ha hb hab
 obtain ⟨kd,tm,⟨se,sp⟩,⟨⟨e,p⟩,ms,o,⟨a1,a2,a3,a4,a5,a6⟩⟩,x,b1,b2,⟨c1,c2,c3,c4,c5,c6⟩⟩:=i
 exact aB [(10,.p (boolX true))] [] (pf1 h) (by kernel_rfl)
theorem Hy (cn:List X)(hcn:isNode cn)(s:Stt)(i:Inp):∃n,callF tab ext n (.fn 6) [.agg cn,.agg s.cells,.agg i.cells] []=some (.v (.bool true),[]):=by
 obtain ⟨nd,nd',rfl,hsm,hn⟩:=CV hcn
 have hs:=(vZ s).ok
 have hm:(gV i).m.ok:=by rw [xU];exact yK i.m
 obtain ⟨v,hv⟩:=yL i.m
 have zhu:({nd' with kind:=11}:Nod).small:=hsm
 obtain ⟨f,B,hc⟩:=Ct.conds ({nd' with kind:=11}:Nod) zhu v nd'.exprs.length
 rw [←hv,←xU] at hc
 refine ⟨B+201010,?_⟩
 obtain ⟨q,hq,h1⟩:=Ct.ML {nd' with kind:=11} zhu (gV i).m hm.body f B hc
 obtain ⟨q',hq',h2⟩:=Ct.Ij {nd' with kind:=11} rfl zhu (shortS s) (gV i) hm f B hc
 obtain rfl:=Ct.MN hq hq'
 have ha:=Ct.Hl nd' 11 173 (.inr ⟨rfl,rfl⟩) (shortS s) hs (gV i) hm q (B+201007) (by omega) (h1 _ (by omega))
 have hb:=h2 (B+201008) (by omega)
 have hab:=Ct.NM q (shortS s) hs (gV i).m hm nd'.name (B+201008) (by omega)
 have h:Gam.pureD (callF tab ext (B+201009)) 19 [.agg nd.cells,.agg s.cells,.agg i.cells,num 11]=some (boolX true):=by
  cases q with
  |rej r=>exact uF nd nd' hn s i 11 (B+201009) (by omega) _ _ _ _ _ _ _ _ _ _ _ _ ha hb hab
  |pas j=>exact uF nd nd' hn s i 11 (B+201009) (by omega) _ _ _ _ _ _ _ _ _ _ _ _ ha hb hab
 obtain ⟨kd,tm,⟨se,sp⟩,⟨⟨e,p⟩,ms,o,⟨a1,a2,a3,a4,a5,a6⟩⟩,x,b1,b2,⟨c1,c2,c3,c4,c5,c6⟩⟩:=i
 exact aB [(10,.p (boolX true))] [] (pf1 h) (by kernel_rfl)
end Go.Proofs.YtjbndifenhihhaaGreatDoor
namespace Go.Proofs
open Go.Shelf
def Tryz.oV:Go.Shelf.Ren:=⟨fun|171=>87|243=>146|246=>194|283=>256|284=>257|285=>258|286=>259|129=>254|317=>313|318=>314|319=>315|320=>316|337=>350|338=>351|n=>n,fun|3=>3|9=>9|2=>2|4=>4|171=>319|0=>0|53=>317|37=>254|5=>5|173=>321|212=>380|51=>315|20=>20|213=>381|46=>247|232=>436|233=>437|n=>n,fun|17=>3|18=>4|19=>5|n=>n⟩
theorem Tryz.laysItoa:Go.Proofs.LaysM.n171 Tryz.prog Tryz.oV:={
 mixed:=by kernel_rfl
 f129:=Tryz.func254.trans (congrArg some (by kernel_rfl))
 f171:=Tryz.func87.trans (congrArg some (by kernel_rfl))
 f243:=Tryz.func146.trans (congrArg some (by kernel_rfl))
 f246:=Tryz.func194.trans (congrArg some (by kernel_rfl))
 f283:=Tryz.func256.trans (congrArg some (by kernel_rfl))
 f284:=Tryz.func257.trans (congrArg some (by kernel_rfl))
 f285:=Tryz.func258.trans (congrArg some (by kernel_rfl))
 f286:=Tryz.func259.trans (congrArg some (by kernel_rfl))
 f317:=Tryz.func313.trans (congrArg some (by kernel_rfl))
 f318:=Tryz.func314.trans (congrArg some (by kernel_rfl))
 f319:=Tryz.func315.trans (congrArg some (by kernel_rfl))
 f320:=Tryz.func316.trans (congrArg some (by kernel_rfl))
 f337:=Tryz.func350.trans (congrArg some (by kernel_rfl))
 f338:=Tryz.func351.trans (congrArg some (by kernel_rfl))
 t0:=Tryz.underlying0
 a0:=Tryz.isAgg0
 z0:=Tryz.sizeOf0
 v0:=Tryz.zeroValue0
 t2:=Tryz.underlying2
 a2:=Tryz.isAgg2
 z2:=Tryz.sizeOf2
 v2:=Tryz.zeroValue2
 t3:=Tryz.underlying3
 a3:=Tryz.isAgg3
 z3:=Tryz.sizeOf3
 v3:=Tryz.zeroValue3
 t4:=Tryz.underlying4
 a4:=Tryz.isAgg4
 z4:=Tryz.sizeOf4
 v4:=Tryz.zeroValue4
 t5:=Tryz.underlying5
 a5:=Tryz.isAgg5
 z5:=Tryz.sizeOf5
 v5:=Tryz.zeroValue5
 t9:=Tryz.underlying9
 a9:=Tryz.isAgg9
 z9:=Tryz.sizeOf9
 v9:=Tryz.zeroValue9
 t20:=Tryz.underlying20
 a20:=Tryz.isAgg20
 z20:=Tryz.sizeOf20
 v20:=Tryz.zeroValue20
 t37:=Tryz.underlying254
 a37:=Tryz.isAgg254
 z37:=Tryz.sizeOf254
 v37:=Tryz.zeroValue254
 t46:=Tryz.underlying247
 a46:=Tryz.isAgg247
 z46:=Tryz.sizeOf247
 v46:=Tryz.zeroValue247
 t51:=Tryz.underlying315
 a51:=Tryz.isAgg315
 z51:=Tryz.sizeOf315
 v51:=Tryz.zeroValue315
 t53:=Tryz.underlying317
 a53:=Tryz.isAgg317
 z53:=Tryz.sizeOf317
 v53:=Tryz.zeroValue317
 t171:=Tryz.underlying319
 a171:=Tryz.isAgg319
 z171:=Tryz.sizeOf319
 v171:=Tryz.zeroValue319
 t173:=Tryz.underlying321
 a173:=Tryz.isAgg321
 z173:=Tryz.sizeOf321
 v173:=Tryz.zeroValue321
 t212:=Tryz.underlying380
 a212:=Tryz.isAgg380
 z212:=Tryz.sizeOf380
 v212:=Tryz.zeroValue380
 t213:=Tryz.underlying381
 a213:=Tryz.isAgg381
 z213:=Tryz.sizeOf381
 t232:=Tryz.underlying436
 a232:=Tryz.isAgg436
 z232:=Tryz.sizeOf436
 v232:=Tryz.zeroValue436
 t233:=Tryz.underlying437
 a233:=Tryz.isAgg437
 z233:=Tryz.sizeOf437
 v233:=Tryz.zeroValue437
 g17:=by kernel_rfl
 g18:=by kernel_rfl
 g19:=by kernel_rfl
 i0:=by kernel_rfl
 i2:=by kernel_rfl
 i3:=by kernel_rfl
 i4:=by kernel_rfl
 i5:=by kernel_rfl
 i9:=by kernel_rfl
 i20:=by kernel_rfl
 i37:=by kernel_rfl
 i46:=by kernel_rfl
 i51:=by kernel_rfl
 i53:=by kernel_rfl
 i171:=by kernel_rfl
 i173:=by kernel_rfl
 i212:=by kernel_rfl
 i232:=by kernel_rfl
 i233:=by kernel_rfl
 m17:=by kernel_rfl
 m18:=by kernel_rfl
 m19:=by kernel_rfl}
def Tryz.kF:Go.Shelf.Ren:=⟨fun|197=>329|260=>364|n=>n,fun|9=>9|21=>21|3=>3|4=>4|5=>5|105=>390|119=>250|0=>0|46=>247|139=>253|138=>252|n=>n,fun|3=>0|4=>1|n=>n⟩
theorem Tryz.zdb:Go.Proofs.Lays.n197 Tryz.prog Tryz.kF:={
 mixed:=by kernel_rfl
 f197:=Tryz.func329.trans (congrArg some (by kernel_rfl))
 f260:=Tryz.func364.trans (congrArg some (by kernel_rfl))
 t0:=Tryz.underlying0
 a0:=Tryz.isAgg0
 z0:=Tryz.sizeOf0
 v0:=Tryz.zeroValue0
 t3:=Tryz.underlying3
 a3:=Tryz.isAgg3
 z3:=Tryz.sizeOf3
 v3:=Tryz.zeroValue3
 t4:=Tryz.underlying4
 a4:=Tryz.isAgg4
 z4:=Tryz.sizeOf4
 v4:=Tryz.zeroValue4
 t5:=Tryz.underlying5
 a5:=Tryz.isAgg5
 z5:=Tryz.sizeOf5
 v5:=Tryz.zeroValue5
 t9:=Tryz.underlying9
 a9:=Tryz.isAgg9
 z9:=Tryz.sizeOf9
 v9:=Tryz.zeroValue9
 t21:=Tryz.underlying21
 a21:=Tryz.isAgg21
 z21:=Tryz.sizeOf21
 v21:=Tryz.zeroValue21
 t46:=Tryz.underlying247
 a46:=Tryz.isAgg247
 z46:=Tryz.sizeOf247
 v46:=Tryz.zeroValue247
 t105:=Tryz.underlying390
 a105:=Tryz.isAgg390
 z105:=Tryz.sizeOf390
 v105:=Tryz.zeroValue390
 t119:=Tryz.underlying250
 a119:=Tryz.isAgg250
 z119:=Tryz.sizeOf250
 t138:=Tryz.underlying252
 a138:=Tryz.isAgg252
 z138:=Tryz.sizeOf252
 v138:=Tryz.zeroValue252
 t139:=Tryz.underlying253
 a139:=Tryz.isAgg253
 z139:=Tryz.sizeOf253
 v139:=Tryz.zeroValue253
 g3:=by kernel_rfl
 g4:=by kernel_rfl}
def Tryz.zy:Go.Shelf.Ren:=⟨fun|105=>333|212=>338|99=>266|165=>367|166=>368|170=>369|169=>282|263=>373|264=>374|206=>322|240=>330|241=>385|276=>365|277=>393|n=>n,fun|9=>9|3=>3|4=>4|20=>20|0=>0|46=>247|109=>401|5=>5|72=>344|76=>332|51=>315|146=>429|53=>317|148=>431|70=>342|37=>254|75=>331|127=>393|164=>424|80=>346|n=>n,fun|n=>n⟩
theorem Tryz.zA:Go.Proofs.Lays.n105 Tryz.prog Tryz.zy:={
 mixed:=by kernel_rfl
 f99:=Tryz.func266.trans (congrArg some (by kernel_rfl))
 f105:=Tryz.func333.trans (congrArg some (by kernel_rfl))
 f165:=Tryz.func367.trans (congrArg some (by kernel_rfl))
 f166:=Tryz.func368.trans (congrArg some (by kernel_rfl))
 f169:=Tryz.func282.trans (congrArg some (by kernel_rfl))
 f170:=Tryz.func369.trans (congrArg some (by kernel_rfl))
 f206:=Tryz.func322.trans (congrArg some (by kernel_rfl))
 f212:=Tryz.func338.trans (congrArg some (by kernel_rfl))
 f240:=Tryz.func330.trans (congrArg some (by kernel_rfl))
 f241:=Tryz.func385.trans (congrArg some (by kernel_rfl))
 f263:=Tryz.func373.trans (congrArg some (by kernel_rfl))
 f264:=Tryz.func374.trans (congrArg some (by kernel_rfl))
 f276:=Tryz.func365.trans (congrArg some (by kernel_rfl))
 f277:=Tryz.func393.trans (congrArg some (by kernel_rfl))
 t0:=Tryz.underlying0
 a0:=Tryz.isAgg0
 z0:=Tryz.sizeOf0
 v0:=Tryz.zeroValue0
 t3:=Tryz.underlying3
 a3:=Tryz.isAgg3
 z3:=Tryz.sizeOf3
 v3:=Tryz.zeroValue3
 t4:=Tryz.underlying4
 a4:=Tryz.isAgg4
 z4:=Tryz.sizeOf4
 v4:=Tryz.zeroValue4
 t5:=Tryz.underlying5
 a5:=Tryz.isAgg5
 z5:=Tryz.sizeOf5
 v5:=Tryz.zeroValue5
 t9:=Tryz.underlying9
 a9:=Tryz.isAgg9
 z9:=Tryz.sizeOf9
 v9:=Tryz.zeroValue9
 t20:=Tryz.underlying20
 a20:=Tryz.isAgg20
 z20:=Tryz.sizeOf20
 v20:=Tryz.zeroValue20
 t37:=Tryz.underlying254
 a37:=Tryz.isAgg254
 z37:=Tryz.sizeOf254
 v37:=Tryz.zeroValue254
 t46:=Tryz.underlying247
 a46:=Tryz.isAgg247
 z46:=Tryz.sizeOf247
 v46:=Tryz.zeroValue247
 t51:=Tryz.underlying315
 a51:=Tryz.isAgg315
 z51:=Tryz.sizeOf315
 v51:=Tryz.zeroValue315
 t53:=Tryz.underlying317
 a53:=Tryz.isAgg317
 z53:=Tryz.sizeOf317
 v53:=Tryz.zeroValue317
 t70:=Tryz.underlying342
 a70:=Tryz.isAgg342
 z70:=Tryz.sizeOf342
 v70:=Tryz.zeroValue342
 t72:=Tryz.underlying344
 a72:=Tryz.isAgg344
 z72:=Tryz.sizeOf344
 v72:=Tryz.zeroValue344
 t75:=Tryz.underlying331
 a75:=Tryz.isAgg331
 z75:=Tryz.sizeOf331
 v75:=Tryz.zeroValue331
 t76:=Tryz.underlying332
 a76:=Tryz.isAgg332
 z76:=Tryz.sizeOf332
 v76:=Tryz.zeroValue332
 t109:=Tryz.underlying401
 a109:=Tryz.isAgg401
 z109:=Tryz.sizeOf401
 v109:=Tryz.zeroValue401
 t127:=Tryz.underlying393
 a127:=Tryz.isAgg393
 z127:=Tryz.sizeOf393
 v127:=Tryz.zeroValue393
 t146:=Tryz.underlying429
 a146:=Tryz.isAgg429
 z146:=Tryz.sizeOf429
 v146:=Tryz.zeroValue429
 t148:=Tryz.underlying431
 a148:=Tryz.isAgg431
 z148:=Tryz.sizeOf431
 v148:=Tryz.zeroValue431
 t164:=Tryz.underlying424
 a164:=Tryz.isAgg424
 z164:=Tryz.sizeOf424
 v164:=Tryz.zeroValue424}
def Tryz.Dc:Go.Shelf.Ren:=⟨fun|169=>282|n=>n,fun|70=>342|9=>9|0=>0|72=>344|37=>254|127=>393|3=>3|5=>5|n=>n,fun|n=>n⟩
theorem Tryz.zhn:Go.Proofs.Lays.n169 Tryz.prog Tryz.Dc:={
 mixed:=by kernel_rfl
 f169:=Tryz.func282.trans (congrArg some (by kernel_rfl))
 t0:=Tryz.underlying0
 a0:=Tryz.isAgg0
 z0:=Tryz.sizeOf0
 v0:=Tryz.zeroValue0
 t3:=Tryz.underlying3
 a3:=Tryz.isAgg3
 z3:=Tryz.sizeOf3
 v3:=Tryz.zeroValue3
 t9:=Tryz.underlying9
 a9:=Tryz.isAgg9
 z9:=Tryz.sizeOf9
 v9:=Tryz.zeroValue9
 t37:=Tryz.underlying254
 a37:=Tryz.isAgg254
 z37:=Tryz.sizeOf254
 v37:=Tryz.zeroValue254
 t70:=Tryz.underlying342
 a70:=Tryz.isAgg342
 z70:=Tryz.sizeOf342
 v70:=Tryz.zeroValue342
 t72:=Tryz.underlying344
 a72:=Tryz.isAgg344
 z72:=Tryz.sizeOf344
 v72:=Tryz.zeroValue344
 t127:=Tryz.underlying393
 a127:=Tryz.isAgg393
 z127:=Tryz.sizeOf393
 v127:=Tryz.zeroValue393}
def Tryz.oW:Go.Shelf.Ren:=⟨fun|172=>268|244=>324|245=>325|247=>358|279=>359|280=>360|281=>361|282=>362|287=>382|316=>383|171=>87|205=>384|321=>391|322=>392|243=>146|246=>194|283=>256|284=>257|285=>258|286=>259|129=>254|317=>313|318=>314|319=>315|320=>316|337=>350|338=>351|n=>n,fun|9=>9|3=>3|75=>331|76=>332|4=>4|5=>5|167=>418|37=>254|0=>0|85=>419|2=>2|168=>421|53=>317|175=>438|46=>247|210=>441|127=>393|145=>450|143=>448|21=>21|171=>319|173=>321|212=>380|51=>315|20=>20|213=>381|232=>436|233=>437|80=>346|n=>n,fun|15=>6|16=>7|17=>3|18=>4|19=>5|n=>n⟩
theorem Tryz.laysAtoi:Go.Proofs.LaysC.n172 Tryz.prog Tryz.oW:={
 mixed:=by kernel_rfl
 f129:=Tryz.func254.trans (congrArg some (by kernel_rfl))
 f171:=Tryz.func87.trans (congrArg some (by kernel_rfl))
 f172:=Tryz.func268.trans (congrArg some (by kernel_rfl))
 f205:=Tryz.func384.trans (congrArg some (by kernel_rfl))
 f243:=Tryz.func146.trans (congrArg some (by kernel_rfl))
 f244:=Tryz.func324.trans (congrArg some (by kernel_rfl))
 f245:=Tryz.func325.trans (congrArg some (by kernel_rfl))
 f246:=Tryz.func194.trans (congrArg some (by kernel_rfl))
 f247:=Tryz.func358.trans (congrArg some (by kernel_rfl))
 f279:=Tryz.func359.trans (congrArg some (by kernel_rfl))
 f280:=Tryz.func360.trans (congrArg some (by kernel_rfl))
 f281:=Tryz.func361.trans (congrArg some (by kernel_rfl))
 f282:=Tryz.func362.trans (congrArg some (by kernel_rfl))
 f283:=Tryz.func256.trans (congrArg some (by kernel_rfl))
 f284:=Tryz.func257.trans (congrArg some (by kernel_rfl))
 f285:=Tryz.func258.trans (congrArg some (by kernel_rfl))
 f286:=Tryz.func259.trans (congrArg some (by kernel_rfl))
 f287:=Tryz.func382.trans (congrArg some (by kernel_rfl))
 f316:=Tryz.func383.trans (congrArg some (by kernel_rfl))
 f317:=Tryz.func313.trans (congrArg some (by kernel_rfl))
 f318:=Tryz.func314.trans (congrArg some (by kernel_rfl))
 f319:=Tryz.func315.trans (congrArg some (by kernel_rfl))
 f320:=Tryz.func316.trans (congrArg some (by kernel_rfl))
 f321:=Tryz.func391.trans (congrArg some (by kernel_rfl))
 f322:=Tryz.func392.trans (congrArg some (by kernel_rfl))
 f337:=Tryz.func350.trans (congrArg some (by kernel_rfl))
 f338:=Tryz.func351.trans (congrArg some (by kernel_rfl))
 t0:=Tryz.underlying0
 a0:=Tryz.isAgg0
 z0:=Tryz.sizeOf0
 v0:=Tryz.zeroValue0
 t2:=Tryz.underlying2
 a2:=Tryz.isAgg2
 z2:=Tryz.sizeOf2
 v2:=Tryz.zeroValue2
 t3:=Tryz.underlying3
 a3:=Tryz.isAgg3
 z3:=Tryz.sizeOf3
 v3:=Tryz.zeroValue3
 t4:=Tryz.underlying4
 a4:=Tryz.isAgg4
 z4:=Tryz.sizeOf4
 v4:=Tryz.zeroValue4
 t5:=Tryz.underlying5
 a5:=Tryz.isAgg5
 z5:=Tryz.sizeOf5
 v5:=Tryz.zeroValue5
 t9:=Tryz.underlying9
 a9:=Tryz.isAgg9
 z9:=Tryz.sizeOf9
 v9:=Tryz.zeroValue9
 t20:=Tryz.underlying20
 a20:=Tryz.isAgg20
 z20:=Tryz.sizeOf20
 v20:=Tryz.zeroValue20
 t21:=Tryz.underlying21
 a21:=Tryz.isAgg21
 z21:=Tryz.sizeOf21
 v21:=Tryz.zeroValue21
 t37:=Tryz.underlying254
 a37:=Tryz.isAgg254
 z37:=Tryz.sizeOf254
 v37:=Tryz.zeroValue254
 t46:=Tryz.underlying247
 a46:=Tryz.isAgg247
 z46:=Tryz.sizeOf247
 v46:=Tryz.zeroValue247
 t51:=Tryz.underlying315
 a51:=Tryz.isAgg315
 z51:=Tryz.sizeOf315
 v51:=Tryz.zeroValue315
 t53:=Tryz.underlying317
 a53:=Tryz.isAgg317
 z53:=Tryz.sizeOf317
 v53:=Tryz.zeroValue317
 t75:=Tryz.underlying331
 a75:=Tryz.isAgg331
 z75:=Tryz.sizeOf331
 v75:=Tryz.zeroValue331
 t76:=Tryz.underlying332
 a76:=Tryz.isAgg332
 z76:=Tryz.sizeOf332
 v76:=Tryz.zeroValue332
 t85:=Tryz.underlying419
 a85:=Tryz.isAgg419
 z85:=Tryz.sizeOf419
 v85:=Tryz.zeroValue419
 t127:=Tryz.underlying393
 a127:=Tryz.isAgg393
 z127:=Tryz.sizeOf393
 v127:=Tryz.zeroValue393
 t143:=Tryz.underlying448
 a143:=Tryz.isAgg448
 z143:=Tryz.sizeOf448
 v143:=Tryz.zeroValue448
 t145:=Tryz.underlying450
 a145:=Tryz.isAgg450
 z145:=Tryz.sizeOf450
 v145:=Tryz.zeroValue450
 t167:=Tryz.underlying418
 a167:=Tryz.isAgg418
 z167:=Tryz.sizeOf418
 v167:=Tryz.zeroValue418
 t168:=Tryz.underlying421
 a168:=Tryz.isAgg421
 z168:=Tryz.sizeOf421
 v168:=Tryz.zeroValue421
 t171:=Tryz.underlying319
 a171:=Tryz.isAgg319
 z171:=Tryz.sizeOf319
 v171:=Tryz.zeroValue319
 t173:=Tryz.underlying321
 a173:=Tryz.isAgg321
 z173:=Tryz.sizeOf321
 v173:=Tryz.zeroValue321
 t175:=Tryz.underlying438
 a175:=Tryz.isAgg438
 z175:=Tryz.sizeOf438
 v175:=Tryz.zeroValue438
 t210:=Tryz.underlying441
 a210:=Tryz.isAgg441
 z210:=Tryz.sizeOf441
 v210:=Tryz.zeroValue441
 t212:=Tryz.underlying380
 a212:=Tryz.isAgg380
 z212:=Tryz.sizeOf380
 v212:=Tryz.zeroValue380
 t213:=Tryz.underlying381
 a213:=Tryz.isAgg381
 z213:=Tryz.sizeOf381
 t232:=Tryz.underlying436
 a232:=Tryz.isAgg436
 z232:=Tryz.sizeOf436
 v232:=Tryz.zeroValue436
 t233:=Tryz.underlying437
 a233:=Tryz.isAgg437
 z233:=Tryz.sizeOf437
 v233:=Tryz.zeroValue437
 g15:=by kernel_rfl
 g16:=by kernel_rfl
 g17:=by kernel_rfl
 g18:=by kernel_rfl
 g19:=by kernel_rfl
 t80:=Tryz.underlying346
 a80:=Tryz.isAgg346
 z80:=Tryz.sizeOf346
 v80:=Tryz.zeroValue346
 i0:=by kernel_rfl
 i2:=by kernel_rfl
 i3:=by kernel_rfl
 i4:=by kernel_rfl
 i5:=by kernel_rfl
 i9:=by kernel_rfl
 i20:=by kernel_rfl
 i21:=by kernel_rfl
 i37:=by kernel_rfl
 i46:=by kernel_rfl
 i51:=by kernel_rfl
 i53:=by kernel_rfl
 i75:=by kernel_rfl
 i76:=by kernel_rfl
 i80:=by kernel_rfl
 i85:=by kernel_rfl
 i127:=by kernel_rfl
 i143:=by kernel_rfl
 i145:=by kernel_rfl
 i167:=by kernel_rfl
 i168:=by kernel_rfl
 i171:=by kernel_rfl
 i173:=by kernel_rfl
 i175:=by kernel_rfl
 i210:=by kernel_rfl
 i212:=by kernel_rfl
 i232:=by kernel_rfl
 i233:=by kernel_rfl
 m15:=by kernel_rfl
 m16:=by kernel_rfl
 m17:=by kernel_rfl
 m18:=by kernel_rfl
 m19:=by kernel_rfl
 c0:=by kernel_rfl
 c2:=by kernel_rfl
 c3:=by kernel_rfl
 c4:=by kernel_rfl
 c5:=by kernel_rfl
 c9:=by kernel_rfl
 c20:=by kernel_rfl
 c21:=by kernel_rfl
 c37:=by kernel_rfl
 c46:=by kernel_rfl
 c51:=by kernel_rfl
 c53:=by kernel_rfl
 c75:=by kernel_rfl
 c76:=by kernel_rfl
 c80:=by kernel_rfl
 c85:=by kernel_rfl
 c127:=by kernel_rfl
 c143:=by kernel_rfl
 c145:=by kernel_rfl
 c167:=by kernel_rfl
 c168:=by kernel_rfl
 c171:=by kernel_rfl
 c173:=by kernel_rfl
 c175:=by kernel_rfl
 c210:=by kernel_rfl
 c212:=by kernel_rfl
 c213:=by kernel_rfl
 c232:=by kernel_rfl
 c233:=by kernel_rfl}
def Tryz.C9:Go.Shelf.Ren:=⟨fun|168=>281|240=>330|242=>331|276=>365|278=>366|n=>n,fun|70=>342|21=>21|3=>3|75=>331|0=>0|72=>344|37=>254|4=>4|164=>424|51=>315|5=>5|46=>247|80=>346|9=>9|n=>n,fun|n=>n⟩
theorem Tryz.tH:Go.Proofs.Lays.n168 Tryz.prog Tryz.C9:={
 mixed:=by kernel_rfl
 f168:=Tryz.func281.trans (congrArg some (by kernel_rfl))
 f240:=Tryz.func330.trans (congrArg some (by kernel_rfl))
 f242:=Tryz.func331.trans (congrArg some (by kernel_rfl))
 f276:=Tryz.func365.trans (congrArg some (by kernel_rfl))
 f278:=Tryz.func366.trans (congrArg some (by kernel_rfl))
 t0:=Tryz.underlying0
 a0:=Tryz.isAgg0
 z0:=Tryz.sizeOf0
 v0:=Tryz.zeroValue0
 t3:=Tryz.underlying3
 a3:=Tryz.isAgg3
 z3:=Tryz.sizeOf3
 v3:=Tryz.zeroValue3
 t4:=Tryz.underlying4
 a4:=Tryz.isAgg4
 z4:=Tryz.sizeOf4
 v4:=Tryz.zeroValue4
 t5:=Tryz.underlying5
 a5:=Tryz.isAgg5
 z5:=Tryz.sizeOf5
 v5:=Tryz.zeroValue5
 t9:=Tryz.underlying9
 a9:=Tryz.isAgg9
 z9:=Tryz.sizeOf9
 v9:=Tryz.zeroValue9
 t20:=Tryz.underlying20
 a20:=Tryz.isAgg20
 z20:=Tryz.sizeOf20
 v20:=Tryz.zeroValue20
 t21:=Tryz.underlying21
 a21:=Tryz.isAgg21
 z21:=Tryz.sizeOf21
 v21:=Tryz.zeroValue21
 t37:=Tryz.underlying254
 a37:=Tryz.isAgg254
 z37:=Tryz.sizeOf254
 v37:=Tryz.zeroValue254
 t46:=Tryz.underlying247
 a46:=Tryz.isAgg247
 z46:=Tryz.sizeOf247
 v46:=Tryz.zeroValue247
 t51:=Tryz.underlying315
 a51:=Tryz.isAgg315
 z51:=Tryz.sizeOf315
 v51:=Tryz.zeroValue315
 t70:=Tryz.underlying342
 a70:=Tryz.isAgg342
 z70:=Tryz.sizeOf342
 v70:=Tryz.zeroValue342
 t72:=Tryz.underlying344
 a72:=Tryz.isAgg344
 z72:=Tryz.sizeOf344
 v72:=Tryz.zeroValue344
 t75:=Tryz.underlying331
 a75:=Tryz.isAgg331
 z75:=Tryz.sizeOf331
 v75:=Tryz.zeroValue331
 t164:=Tryz.underlying424
 a164:=Tryz.isAgg424
 z164:=Tryz.sizeOf424
 v164:=Tryz.zeroValue424}
def Tryz.KC:Go.Shelf.Ren:=⟨fun|219=>357|217=>380|225=>356|224=>355|267=>381|266=>389|314=>390|n=>n,fun|9=>9|3=>3|4=>4|5=>5|46=>247|146=>429|51=>315|n=>n,fun|1=>2|n=>n⟩
theorem Tryz.zda:Go.Proofs.Lays.n219 Tryz.prog Tryz.KC:={
 mixed:=by kernel_rfl
 f217:=Tryz.func380.trans (congrArg some (by kernel_rfl))
 f219:=Tryz.func357.trans (congrArg some (by kernel_rfl))
 f224:=Tryz.func355.trans (congrArg some (by kernel_rfl))
 f225:=Tryz.func356.trans (congrArg some (by kernel_rfl))
 f266:=Tryz.func389.trans (congrArg some (by kernel_rfl))
 f267:=Tryz.func381.trans (congrArg some (by kernel_rfl))
 f314:=Tryz.func390.trans (congrArg some (by kernel_rfl))
 t3:=Tryz.underlying3
 a3:=Tryz.isAgg3
 z3:=Tryz.sizeOf3
 v3:=Tryz.zeroValue3
 t4:=Tryz.underlying4
 a4:=Tryz.isAgg4
 z4:=Tryz.sizeOf4
 v4:=Tryz.zeroValue4
 t5:=Tryz.underlying5
 a5:=Tryz.isAgg5
 z5:=Tryz.sizeOf5
 v5:=Tryz.zeroValue5
 t9:=Tryz.underlying9
 a9:=Tryz.isAgg9
 z9:=Tryz.sizeOf9
 v9:=Tryz.zeroValue9
 t46:=Tryz.underlying247
 a46:=Tryz.isAgg247
 z46:=Tryz.sizeOf247
 v46:=Tryz.zeroValue247
 t51:=Tryz.underlying315
 a51:=Tryz.isAgg315
 z51:=Tryz.sizeOf315
 v51:=Tryz.zeroValue315
 t146:=Tryz.underlying429
 a146:=Tryz.isAgg429
 z146:=Tryz.sizeOf429
 v146:=Tryz.zeroValue429
 g1:=by kernel_rfl}
def Tryz.zB:Go.Shelf.Ren:=⟨fun|153=>265|152=>318|226=>319|227=>320|228=>321|137=>353|119=>354|224=>355|225=>356|217=>380|266=>389|n=>n,fun|9=>9|3=>3|4=>4|5=>5|21=>21|117=>385|116=>384|0=>0|46=>247|124=>417|n=>n,fun|n=>n⟩
theorem Tryz.KD:Go.Proofs.Lays.n153 Tryz.prog Tryz.zB:={
 mixed:=by kernel_rfl
 f119:=Tryz.func354.trans (congrArg some (by kernel_rfl))
 f137:=Tryz.func353.trans (congrArg some (by kernel_rfl))
 f152:=Tryz.func318.trans (congrArg some (by kernel_rfl))
 f153:=Tryz.func265.trans (congrArg some (by kernel_rfl))
 f217:=Tryz.func380.trans (congrArg some (by kernel_rfl))
 f224:=Tryz.func355.trans (congrArg some (by kernel_rfl))
 f225:=Tryz.func356.trans (congrArg some (by kernel_rfl))
 f226:=Tryz.func319.trans (congrArg some (by kernel_rfl))
 f227:=Tryz.func320.trans (congrArg some (by kernel_rfl))
 f228:=Tryz.func321.trans (congrArg some (by kernel_rfl))
 f266:=Tryz.func389.trans (congrArg some (by kernel_rfl))
 t0:=Tryz.underlying0
 a0:=Tryz.isAgg0
 z0:=Tryz.sizeOf0
 v0:=Tryz.zeroValue0
 t3:=Tryz.underlying3
 a3:=Tryz.isAgg3
 z3:=Tryz.sizeOf3
 v3:=Tryz.zeroValue3
 t4:=Tryz.underlying4
 a4:=Tryz.isAgg4
 z4:=Tryz.sizeOf4
 v4:=Tryz.zeroValue4
 t5:=Tryz.underlying5
 a5:=Tryz.isAgg5
 z5:=Tryz.sizeOf5
 v5:=Tryz.zeroValue5
 t9:=Tryz.underlying9
 a9:=Tryz.isAgg9
 z9:=Tryz.sizeOf9
 v9:=Tryz.zeroValue9
 t21:=Tryz.underlying21
 a21:=Tryz.isAgg21
 z21:=Tryz.sizeOf21
 v21:=Tryz.zeroValue21
 t46:=Tryz.underlying247
 a46:=Tryz.isAgg247
 z46:=Tryz.sizeOf247
 v46:=Tryz.zeroValue247
 t116:=Tryz.underlying384
 a116:=Tryz.isAgg384
 z116:=Tryz.sizeOf384
 t117:=Tryz.underlying385
 a117:=Tryz.isAgg385
 z117:=Tryz.sizeOf385
 v117:=Tryz.zeroValue385
 t124:=Tryz.underlying417
 a124:=Tryz.isAgg417
 z124:=Tryz.sizeOf417
 v124:=Tryz.zeroValue417}
end Go.Proofs
namespace Go.Proofs
open Go.Shelf Go.RowKit Go.Sort Go.Lib
variable {P:Program} {ρ:Ren}
def Ju (g:Nat)(w:World):Prop:=∀i,i<20→w.cell? ⟨g,i,none⟩=some (.int .u64 ((10^i:Nat):Int))
theorem Ju.alloc {g:Nat}{w:World}(h:Ju g w)(o:Obj):Ju g (w.alloc o):=fun i hi=>by
 have:=h i hi
 have hne:g≠w.heap.size:=fun e=>by
  unfold World.cell? at this
  dsimp only at this
  rw [e,Array.getElem?_eq_none (Nat.le_refl _)] at this
  cases this
 unfold World.cell? at this ⊢
 unfold World.alloc
 dsimp only at this ⊢
 rw [Array.getElem?_push,if_neg hne]
 exact this
set_option maxHeartbeats 2000000 in
set_option maxRecDepth 100000 in
theorem zbD.internal_strconv_numDigits (L:LaysM.n284 P ρ)(u:Nat)(h1:1≤u)(h2:u<18446744073709551616)(w:World)
  (htab:Ju (ρ.g 17) w):
  Calls P (ρ.f 284) #[.int .u64 u] w fun e w'=>e=.returned (.int .i64 (Lib.nDigits u))∧w'=w:=by
 have mixed:=L.mixed
 have t53:=L.t53;have a53:=L.a53;have z53:=L.z53;have v53:=L.v53
 have t3:=L.t3;have a3:=L.a3;have z3:=L.z3;have v3:=L.v3
 have t212:=L.t212;have a212:=L.a212;have z212:=L.z212;have v212:=L.v212
 have t0:=L.t0;have a0:=L.a0;have z0:=L.z0;have v0:=L.v0
 have t4:=L.t4;have a4:=L.a4;have z4:=L.z4;have v4:=L.v4
 have e129:∀args w,(callFunc (ρ.f 129) args).run P w=.ok (.enter (ρ.f 129) args) w:=enters_of L.f129 (by kernel_rfl) rfl
 have e317:∀args w,(callFunc (ρ.f 317) args).run P w=.ok (.enter (ρ.f 317) args) w:=enters_of L.f317 (by kernel_rfl) rfl
 have e318:∀args w,(callFunc (ρ.f 318) args).run P w=.ok (.enter (ρ.f 318) args) w:=enters_of L.f318 (by kernel_rfl) rfl
 obtain ⟨hnd,h19⟩:=Lib.numDigits_eq u h1 h2
 have hL:Lib.bitLen u≤64:=Lib.bitLen_le u 64 (Nat.le_refl _) h2
 have hcell:w.cell? ⟨(ρ.g 17),Lib.l10 (Lib.bitLen u),none⟩=some (.int .u64 ((10^Lib.l10 (Lib.bitLen u):Nat):Int)):=by
  exact htab _ (by omega)
 have hto:((u:Int)).toNat=u:=by omega
 generalize hq:Lib.l10 (Lib.bitLen u)=q at hnd h19 hcell
 generalize hT:10^q=T at hnd hcell
 have h20:q<20:=by omega
 have Hnd:=Lib.hid hnd
 clear hnd htab
 go_enter L.f284,Body.n284_ntmps ρ
 go_wp2_with (first
  |(go_at_fn (ρ.f 129);refine (Any.bits_Len64 {L with} _ _ (by omega) (by omega)).mono ?_;rintro e w' ⟨rfl,rfl⟩)
  |(go_at_fn (ρ.f 317);refine (Any.internal_strconv_log10Pow2 {L with} _ (by first|exact hL|(rw [hto];exact hL)) _).mono ?_;rintro e w' ⟨rfl,rfl⟩)
  |(go_at_fn (ρ.f 318);refine (Any.internal_strconv_bool2_int {L with} _ _).mono ?_;rintro e w' ⟨rfl,rfl⟩))
 all_goals go_ret
 all_goals (
  refine ⟨?_,rfl⟩
  have hnd:=Hnd.out
  congr 2
  split at hnd<;>simp_all<;>omega)
set_option maxHeartbeats 6400000 in
set_option maxRecDepth 100000 in
theorem zbD.internal_strconv_FormatInt_10 (L:LaysM.n246 P ρ)(n:Int)(h0:-9223372036854775808≤n)(h1:n≤9223372036854775807)(w:World)
  (htab:Ju (ρ.g 17) w):
  Calls P (ρ.f 246) #[.int .i64 n,.int .i64 10] w fun e w'=>e=.returned (.string ⟨(Lib.itoa n).toArray⟩)∧∃k os,w'=grow (w.drewN k) os:=by
 have mixed:=L.mixed
 have t2:=L.t2;have a2:=L.a2;have z2:=L.z2;have v2:=L.v2
 have t3:=L.t3;have a3:=L.a3;have z3:=L.z3;have v3:=L.v3
 have t9:=L.t9;have a9:=L.a9;have z9:=L.z9;have v9:=L.v9
 have t4:=L.t4;have a4:=L.a4;have z4:=L.z4;have v4:=L.v4
 have t171:=L.t171;have a171:=L.a171;have z171:=L.z171;have v171:=L.v171
 have t0:=L.t0;have a0:=L.a0;have z0:=L.z0;have v0:=L.v0
 have t53:=L.t53;have a53:=L.a53;have z53:=L.z53;have v53:=L.v53
 have t37:=L.t37;have a37:=L.a37;have z37:=L.z37;have v37:=L.v37
 have t5:=L.t5;have a5:=L.a5;have z5:=L.z5;have v5:=L.v5
 have t173:=L.t173;have a173:=L.a173;have z173:=L.z173;have v173:=L.v173
 have e283:∀args w,(callFunc (ρ.f 283) args).run P w=.ok (.enter (ρ.f 283) args) w:=enters_of L.f283 (by kernel_rfl) rfl
 have e284:∀args w,(callFunc (ρ.f 284) args).run P w=.ok (.enter (ρ.f 284) args) w:=enters_of L.f284 (by kernel_rfl) rfl
 have e285:∀args w,(callFunc (ρ.f 285) args).run P w=.ok (.enter (ρ.f 285) args) w:=enters_of L.f285 (by kernel_rfl) rfl
 by_cases hs:0≤n∧n<100
 ·
  obtain ⟨i,rfl⟩:∃i:Nat,n=i:=⟨n.toNat,by omega⟩
  have hi:i<100:=by omega
  go_enter L.f246,Body.n246_ntmps ρ
  go_wp2_with (go_at_fn (ρ.f 283);refine (Any.internal_strconv_small {L with} i hi _).mono ?_;rintro e w' ⟨rfl,rfl⟩)
  go_ret
  refine ⟨?_,0,#[],by simp [World.drewN_zero]⟩
  rw [Lib.itoa_nonneg]
  rfl
 ·by_cases hneg:n<0
  ·obtain ⟨u,rfl⟩:∃u:Nat,n=-(u:Int):=⟨n.natAbs,by omega⟩
   have hu1:1≤u:=by omega
   have hu64:u<18446744073709551616:=by omega
   have hnd20:Lib.nDigits u≤20:=by have:=Lib.numDigits_eq u hu1 hu64;split at this<;>omega
   have hwr:IntKind.u64.wrap (-IntKind.u64.wrap (-(u:Int)))=(u:Int):=by rw [IntKind.wrap_u64,IntKind.wrap_u64];omega
   have hb3:Lib.nDigits u≤23:=by omega
   have hal:P.arrayLen (ρ.t 171)=24:=by simp [Program.arrayLen,L.t171]
   have hsl1:∀W,(Instr.sliceAt (ρ.t 171) (.pointer (some ⟨w.heap.size,0,none⟩)) (some (.int .i64 1)) (some (.int .i64 (1+(Lib.nDigits u:Int)))) none).run P W=.ok (.slice (some ⟨w.heap.size,1,none⟩) (Lib.nDigits u) 23) W:=fun W=>by
    rw [run_sliceAt_array_lh W (ρ.t 171) ⟨w.heap.size,0,none⟩ (by simp [Program.arrayLen,Program.elem,L.t171]) .i64 .i64 1 (1+(Lib.nDigits u:Int)) (by omega) (by omega) (by rw [hal];omega)]
    go_simp
    omega
   have hH0:=Lib.holds_zero w (ρ.t 171) (Lib.nDigits u) (by omega)
   have hfmt:=Any.internal_strconv_formatBase10 {L with} w.heap.size 1 23 u (Array.replicate (Lib.nDigits u) 0) (w.alloc (.cells Lib.zeros24 (ρ.t 171))) hH0 (by rw [Array.size_replicate];exact Lib.lt_pow_nDigits u) hu64 (by rw [Array.size_replicate];omega)
   rw [Array.size_replicate] at hfmt
   have HH0:=Lib.hid hH0
   clear hH0 hal
   go_enter L.f246,Body.n246_ntmps ρ
   go_wp2_with (first
    |(go_at_fn (ρ.f 284);refine (zbD.internal_strconv_numDigits {L with} u hu1 hu64 _ (htab.alloc _)).mono ?_;rintro e w' ⟨rfl,rfl⟩))
   go_at_fn (ρ.f 285)
   refine hfmt.mono ?_
   rintro e w' ⟨rfl,k,v',dk,rfl,hF⟩
   have hc0:((putRow (fun (b:UInt8)=>Value.int .u8 (b.toNat:Int)) (w.alloc (.cells Lib.zeros24 (ρ.t 171))) w.heap.size 1 dk).drewN k).cell? ⟨w.heap.size,0,none⟩=some (.int .u8 0):=by
    rw [World.cell?_drewN,cell?_putRow_other _ _ _ _ _ _ (Or.inr (Or.inl (Nat.zero_lt_one))),World.cell?_alloc_new]
    exact Lib.zeros24_at 0 (by omega)
   have hf0:((putRow (fun (b:UInt8)=>Value.int .u8 (b.toNat:Int)) (w.alloc (.cells Lib.zeros24 (ρ.t 171))) w.heap.size 1 dk).drewN k).frozen? ⟨w.heap.size,0,none⟩=false:=by
    rw [World.frozen?_drewN,frozen?_putRow]
    exact World.frozen?_alloc_new _ _ _ _
   have hal:P.arrayLen (ρ.t 171)=24:=by simp [Program.arrayLen,L.t171]
   have hsl2:∀W,(Instr.sliceAt (ρ.t 171) (.pointer (some ⟨w.heap.size,0,none⟩)) none (some (.int .i64 (1+(Lib.nDigits u:Int)))) none).run P W=.ok (.slice (some ⟨w.heap.size,0,none⟩) (1+Lib.nDigits u) 24) W:=fun W=>by
    rw [run_sliceAt_array_h W (ρ.t 171) ⟨w.heap.size,0,none⟩ (by simp [Program.arrayLen,Program.elem,L.t171]) .i64 (1+(Lib.nDigits u:Int)) (by omega) (by rw [hal];omega)]
    go_simp
    omega
   clear hal
   have hcv:(convert (ρ.t 37) (ρ.t 9) (.slice (some ⟨w.heap.size,0,none⟩) (1+Lib.nDigits u) 24)).run P (((putRow (fun (b:UInt8)=>Value.int .u8 (b.toNat:Int)) (w.alloc (.cells Lib.zeros24 (ρ.t 171))) w.heap.size 1 dk).drewN k).setCell ⟨w.heap.size,0,none⟩ (.int .u8 45))=.ok (.string ⟨(45::Lib.decDigits u).toArray⟩) (((putRow (fun (b:UInt8)=>Value.int .u8 (b.toNat:Int)) (w.alloc (.cells Lib.zeros24 (ρ.t 171))) w.heap.size 1 dk).drewN k).setCell ⟨w.heap.size,0,none⟩ (.int .u8 45)):=by
    have h:=run_convert_bytes_back (P:=P) (((putRow (fun (b:UInt8)=>Value.int .u8 (b.toNat:Int)) (w.alloc (.cells Lib.zeros24 (ρ.t 171))) w.heap.size 1 dk).drewN k).setCell ⟨w.heap.size,0,none⟩ (.int .u8 45)) (ρ.t 37) (ρ.t 9) (ρ.t 5) ⟨w.heap.size,0,none⟩ 24 (45::Lib.decDigits u) L.t37 L.t5 L.t9 (fun j hj=>by
     rw [Lib.add_plain]
     cases j with
     |zero=>exact World.cell?_setCell_same _ _ _ hc0
     |succ i=>
      have hi:i<(Lib.decDigits u).length:=by simpa using hj
      rw [World.cell?_setCell_other _ _ _ _ (by simp),List.getElem_cons_succ,Lib.row_is_numeral hF i hi,World.cell?_drewN,show 0+(i+1)=1+i by omega]
      exact cell?_putRow (fun (b:UInt8)=>Value.int .u8 (b.toNat:Int)) _ w.heap.size 1 _ dk HH0.out (by rw [hF.size,Array.size_replicate]) i (by rw [hF.size];rw [Lib.decDigits_length] at hi;exact hi))
    rw [List.length_cons,Lib.decDigits_length,Nat.add_comm] at h
    exact h
   go_wp2
   go_ret
   obtain ⟨os,eo⟩:=Lib.fin_neg w (.cells Lib.zeros24 (ρ.t 171)) dk k (.int .u8 45)
   refine ⟨?_,k,os,eo⟩
   rw [Lib.itoa_neg u hu1]
   rfl
  ·obtain ⟨u,rfl⟩:∃u:Nat,n=u:=⟨n.toNat,by omega⟩
   have hu1:1≤u:=by omega
   have hu64:u<18446744073709551616:=by omega
   have hnd20:Lib.nDigits u≤20:=by have:=Lib.numDigits_eq u hu1 hu64;split at this<;>omega
   have hb3:Lib.nDigits u≤23:=by omega
   have hal:P.arrayLen (ρ.t 171)=24:=by simp [Program.arrayLen,L.t171]
   have hsl1:∀W,(Instr.sliceAt (ρ.t 171) (.pointer (some ⟨w.heap.size,0,none⟩)) (some (.int .i64 1)) (some (.int .i64 (1+(Lib.nDigits u:Int)))) none).run P W=.ok (.slice (some ⟨w.heap.size,1,none⟩) (Lib.nDigits u) 23) W:=fun W=>by
    rw [run_sliceAt_array_lh W (ρ.t 171) ⟨w.heap.size,0,none⟩ (by simp [Program.arrayLen,Program.elem,L.t171]) .i64 .i64 1 (1+(Lib.nDigits u:Int)) (by omega) (by omega) (by rw [hal];omega)]
    go_simp
    omega
   have hH0:=Lib.holds_zero w (ρ.t 171) (Lib.nDigits u) (by omega)
   have hfmt:=Any.internal_strconv_formatBase10 {L with} w.heap.size 1 23 u (Array.replicate (Lib.nDigits u) 0) (w.alloc (.cells Lib.zeros24 (ρ.t 171))) hH0 (by rw [Array.size_replicate];exact Lib.lt_pow_nDigits u) hu64 (by rw [Array.size_replicate];omega)
   rw [Array.size_replicate] at hfmt
   have HH0:=Lib.hid hH0
   clear hH0 hal
   go_enter L.f246,Body.n246_ntmps ρ
   go_wp2_with (first
    |(go_at_fn (ρ.f 284);refine (zbD.internal_strconv_numDigits {L with} u hu1 hu64 _ (htab.alloc _)).mono ?_;rintro e w' ⟨rfl,rfl⟩))
   go_at_fn (ρ.f 285)
   refine hfmt.mono ?_
   rintro e w' ⟨rfl,k,v',dk,rfl,hF⟩
   have hcv:(convert (ρ.t 37) (ρ.t 9) (.slice (some ⟨w.heap.size,1,none⟩) (Lib.nDigits u) 23)).run P ((putRow (fun (b:UInt8)=>Value.int .u8 (b.toNat:Int)) (w.alloc (.cells Lib.zeros24 (ρ.t 171))) w.heap.size 1 dk).drewN k)=.ok (.string ⟨(Lib.decDigits u).toArray⟩) ((putRow (fun (b:UInt8)=>Value.int .u8 (b.toNat:Int)) (w.alloc (.cells Lib.zeros24 (ρ.t 171))) w.heap.size 1 dk).drewN k):=by
    have h:=run_convert_bytes_back (P:=P) ((putRow (fun (b:UInt8)=>Value.int .u8 (b.toNat:Int)) (w.alloc (.cells Lib.zeros24 (ρ.t 171))) w.heap.size 1 dk).drewN k) (ρ.t 37) (ρ.t 9) (ρ.t 5) ⟨w.heap.size,1,none⟩ 23 (Lib.decDigits u) L.t37 L.t5 L.t9 (fun j hj=>by
     rw [Lib.row_is_numeral hF j hj,Lib.add_plain,World.cell?_drewN]
     exact cell?_putRow (fun (b:UInt8)=>Value.int .u8 (b.toNat:Int)) _ w.heap.size 1 _ dk HH0.out (by rw [hF.size,Array.size_replicate]) j (by rw [hF.size];rw [Lib.decDigits_length] at hj;exact hj))
    rw [Lib.decDigits_length] at h
    exact h
   go_wp2
   go_ret
   obtain ⟨os,eo⟩:=Lib.fin_pos w (.cells Lib.zeros24 (ρ.t 171)) dk k
   refine ⟨?_,k,os,eo⟩
   rw [Lib.itoa_nonneg]
   rfl
set_option maxRecDepth 100000 in
theorem zbD.internal_strconv_Itoa (L:LaysM.n243 P ρ)(n:Int)(h0:-9223372036854775808≤n)(h1:n≤9223372036854775807)(w:World)
  (htab:Ju (ρ.g 17) w):
  Calls P (ρ.f 243) #[.int .i64 n] w fun e w'=>e=.returned (.string ⟨(Lib.itoa n).toArray⟩)∧∃k os,w'=grow (w.drewN k) os:=by
 have mixed:=L.mixed
 have t3:=L.t3;have a3:=L.a3;have z3:=L.z3;have v3:=L.v3
 have t9:=L.t9;have a9:=L.a9;have z9:=L.z9;have v9:=L.v9
 have t2:=L.t2;have a2:=L.a2;have z2:=L.z2;have v2:=L.v2
 have e246:∀args w,(callFunc (ρ.f 246) args).run P w=.ok (.enter (ρ.f 246) args) w:=enters_of L.f246 (by kernel_rfl) rfl
 go_enter L.f243,Body.n243_ntmps ρ
 go_wp2_with (go_at_fn (ρ.f 246);refine (zbD.internal_strconv_FormatInt_10 {L with} n h0 h1 _ htab).mono ?_;rintro e w' ⟨rfl,k,os,rfl⟩)
 go_ret
 exact ⟨rfl,k,os,rfl⟩
set_option maxRecDepth 100000 in
theorem zbD.strconv_Itoa (L:LaysM.n171 P ρ)(n:Int)(h0:-9223372036854775808≤n)(h1:n≤9223372036854775807)(w:World)
  (htab:Ju (ρ.g 17) w):
  Calls P (ρ.f 171) #[.int .i64 n] w fun e w'=>e=.returned (.string ⟨(Lib.itoa n).toArray⟩)∧∃k os,w'=grow (w.drewN k) os:=by
 have mixed:=L.mixed
 have t3:=L.t3;have a3:=L.a3;have z3:=L.z3;have v3:=L.v3
 have t9:=L.t9;have a9:=L.a9;have z9:=L.z9;have v9:=L.v9
 have e243:∀args w,(callFunc (ρ.f 243) args).run P w=.ok (.enter (ρ.f 243) args) w:=enters_of L.f243 (by kernel_rfl) rfl
 go_enter L.f171,Body.n171_ntmps ρ
 go_wp2_with (go_at_fn (ρ.f 243);refine (zbD.internal_strconv_Itoa {L with} n h0 h1 _ htab).mono ?_;rintro e w' ⟨rfl,k,os,rfl⟩)
 go_ret
 exact ⟨rfl,k,os,rfl⟩
end Go.Proofs
