/-.-/
import Derived.Test.YtkeefpkcepodeaaGreatDoorU42
set_option linter.all false
namespace Go.Proofs.YtkeefpkcepodeaaGreatDoor
open Go Go.Em Go.Ab
set_option maxRecDepth 100000
namespace Ct
def spO (s:Stt)(m:Msg)(name:qaW):SL->Ocm
 |.bad r=>⟨s,[],[⟨m.st,4,name,[],r⟩],[m]⟩
 |.good l=>⟨s,(bg m l l.length).map fun x=>⟨0,x⟩,[⟨m.st,1,name,dZ (bg m l l.length),⟨#[]⟩⟩],[]⟩
def zrC (P:qaV)(j:Nat):qaV:=(List.range j).map fun i=>num 0::P.getD i []
theorem uD (P:qaV)(j:Nat):(zrC P j).length=j:=by simp [zrC]
theorem S9 (P:qaV){j:Nat}{x:List X}(h:P[j]?=some x):zrC P (j+1)=zrC P j++[num 0::x]:=by simp [zrC,List.range_succ,h]
theorem Yu (l:List Msg):zrC (aI l) l.length=iH (l.map fun x=>⟨0,x⟩):=by
 unfold zrC iH;rw [List.map_map];refine List.ext_getElem (by simp) fun i a h=>?_;have f:i<l.length:=by simpa using a
 simp [aI,qad f,Otp.cells]
theorem zed (m:Msg)(b:Val)(n j:Nat)(hm:m.ok)(hp:m.st.p.length<50000):(NW m b n j).st.ok:=⟨by show (m.st.p++[Int.ofNat j]).length<=60000;simp;omega⟩
theorem DT (m:Msg)(hm:m.ok)(hp:m.st.p.length<50000)(l:List Val)(k:Nat):∀x,x∈bg m l k->x.st.ok:=fun x a=>by obtain ⟨j,_,rfl⟩:=qah.1 a;exact zed m _ _ _ hm hp
theorem lg (m:Msg)(l:List Val)(k:Nat):(bg m l k).length=k:=by simp [bg]
theorem Fg (m:Msg)(hm:m.ok)(l:List Val)(hl:∀v,v∈l->v.wide)(h0:0<l.length)(h1:l.length<3000)(N:Nat)(hN:190030+iZ l+20<=N):
  Gam.pureD (callF tab ext N) 21 [.agg m.cells,.sl false 6 (ah l)]=some (.sl false 10 (aI (bg m l l.length))):=
 WW (190010+iZ l) N (by omega) (by omega) m hm l (fun b a M f=>YB M m hm b (hl b a) (by have:=fD a;omega)) h0 h1
theorem zZ (l:List Msg):(dZ l).length=l.length:=by simp [dZ]
section
variable (nd:Nod) (i:Inp) (n t:Int) (ss P outs:qaV) (np j:Nat) (N:Nat)
def zuk (P:qaV)(np j:Nat):List (Nat×X):=[(3,.ptr 0 0 0),(5,.ptr 1 0 0),(6,.ptr 2 0 0),(7,.ptr 3 0 0),(10,.sl false 10 P),(48,.sl false 10 P),(49,nat np),(50,nat j)]
def zul:List Bx:=[.var nd.cells,.var i.cells,.var zri,.var [num n,num t,.sl false 10 ss,.bs 4 0 j,.sl true 11 [],.sl true 6 [],.sl true 10 []],.row 11 outs]
def spH:St:=⟨zuk P np j,zul nd i n t ss outs j⟩
def spE:St:=⟨zuk P np j++[(51,boolX false)],zul nd i n t ss outs j⟩
theorem zdF (x:Msg)(hlt:decide (Int.ofNat j<Int.ofNat np)=true)(hg:P[j]?=some x.cells)(ho:j=outs.length)(hj:j<3000):
  ∃υ,run (callF tab ext N) 0 N (loopAt 9 0) (spH nd i n t ss P outs np j)=some (.norm,υ)/\canon 0 υ=some (spH nd i n t ss P (outs++[num 0::x.cells]) np (j+1)):=by
 obtain ⟨kd,tm,⟨se,sp⟩,⟨⟨e,p⟩,q,o,⟨F,H,J,L,M,O⟩⟩,y,Q,S,⟨U,V,W,Y,Z,c6⟩⟩:=i;obtain ⟨⟨w,B⟩,E,A,⟨a,f,h,l,m,u⟩⟩:=x;exact dQ [(51,.b true),(52,.e (Msg.mk ⟨w,B⟩ E A (.mk a f h l m u)).cells),(59,.app),(61,.i (Int.ofNat (j+1)))] (pf4 hlt hg (dX j 4 160 ho (by omega) (by omega)) (ay (j:=j) (by omega))) (by kernel_rfl)
theorem znj (hlt:decide (Int.ofNat j<Int.ofNat np)=false):run (callF tab ext N) 0 N (loopAt 9 0) (spH nd i n t ss P outs np j)=some (.exit 0,spE nd i n t ss P outs np j):=by obtain ⟨M,tm,⟨O,Q⟩,⟨⟨e,p⟩,q,o,⟨a,f,h,l,m,u⟩⟩,y,w,A,⟨B,E,F,H,J,L⟩⟩:=i;exact ruA [(51,.b false)] (pf1 hlt)
theorem Zb:canon 0 ⟨[(3,.ptr 0 0 0),(5,.ptr 2 0 0),(6,.ptr 3 0 0),(7,.ptr 4 0 0),(10,.sl false 10 P),(48,.sl false 10 P),(49,nat np),(50,num 0)],[.var nd.cells,.var [num n,num t,.sl false 10 ss],.var i.cells,.var zri,.var [num n,num t,.sl false 10 ss,.bs 5 0 0,.sl true 11 [],.sl true 6 [],.sl true 10 []],.row 11 []]⟩=some (spH nd i n t ss P [] np 0):=by obtain ⟨L,tm,⟨M,N⟩,⟨⟨e,p⟩,q,o,⟨a,f,h,j,l,m⟩⟩,y,u,w,⟨A,B,E,F,H,J⟩⟩:=i;kernel_rfl
end
theorem zh6 (nd:Nod)(i:Inp)(n t:Int)(ss:qaV)(l:List Msg)(hl:l.length<3000)(N:Nat)(hN:l.length<N):
  run (callF tab ext N) 0 N (.loop (loopAt 9 0)) ⟨[(3,.ptr 0 0 0),(5,.ptr 2 0 0),(6,.ptr 3 0 0),(7,.ptr 4 0 0),(10,.sl false 10 (aI l)),(48,.sl false 10 (aI l)),(49,nat l.length),(50,num 0)],[.var nd.cells,.var [num n,num t,.sl false 10 ss],.var i.cells,.var zri,.var [num n,num t,.sl false 10 ss,.bs 5 0 0,.sl true 11 [],.sl true 6 [],.sl true 10 []],.row 11 []]⟩=some (.exit 0,spE nd i n t ss (aI l) (zrC (aI l) l.length) l.length l.length):=by
 refine aQ (σ:=fun j=>spH nd i n t ss (aI l) (zrC (aI l) j) l.length j) (k:=l.length) (Zb ..) (fun j f=>?_) (znj _ _ _ _ _ _ _ _ _ _ (aG (qas _))) (by simp) hN;have a:=jU f;rw [S9 _ a];exact zdF nd i n t ss (aI l) (zrC (aI l) j) l.length j N l[j] (aH f) a (uD ..).symm (by omega)
theorem TB (nd:Nod)(s:Stt)(hs:s.ok)(i:Inp)(hk:(i.kind==1)=false)(N:Nat)(hN:190030<=N):Gam.pureD (callF tab ext N) 9 [.agg nd.cells,.agg s.cells,.agg i.cells]=some (.agg (zgW s).cells):=by
 obtain ⟨M,rfl⟩:=pR_ N;have f:=kJ M s hs (by omega);have hk:(i.kind !=1)=true:=by simp only [bne,hk];rfl
 obtain ⟨h,tm,⟨P,Q⟩,⟨⟨e,p⟩,O,o,⟨j,l,m,q,u,w⟩⟩,x,y,A,⟨B,E,F,H,J,L⟩⟩:=i;obtain ⟨n,t,a⟩:=s;dsimp only at hk;exact puA [(14,.p (.agg (Stt.mk n t a).cells)),(18,.b true)] (pf2 f hk) (.agg [num n,num t,.sl false 10 (aW a),.sl true 11 [],.sl true 11 [],.sl true 6 [],.sl true 10 []])
theorem PZ (nd:Nod)(s:Stt)(hs:s.ok)(i:Inp)(hm:i.m.ok)(hp:i.m.st.p.length<50000)(q:SL)(hq:q.okB)(B:Nat)(h72:∀N,B<=N->Gam.pureD (callF tab ext N) 14 [.agg nd.cells,.agg i.m.body.cells]=some q.list):
  ∃B,∀N,B<=N->Gam.pureD (callF tab ext N) 9 [.agg nd.cells,.agg s.cells,.agg ({i with kind:=1}:Inp).cells]=some (.agg (spO s i.m nd.name q).cells):=by
 cases q with
 |bad r=>refine ⟨B+200700,fun N hN=>?_⟩;obtain ⟨M,rfl⟩:∃M,N=M+101:=⟨N-101,by omega⟩;have V:=kJ (M+100) s hs (by omega);have h2:=GU (M+100) i.m hm (by omega);have h3:=yJ i.m hm nd.name r (M+100) (by omega);have h72:=h72 (M+100) (by omega);have hq:(!(r.toList==(⟨#[]⟩:qaW).toList))=true:=hq;obtain ⟨pa,tm,⟨se,sp⟩,⟨⟨e,p⟩,U,o,⟨A,E,F,H,J,O⟩⟩,x,b1,b2,⟨c1,c2,c3,c4,c5,c6⟩⟩:=i;obtain ⟨n,t,u⟩:=s;exact puA [(14,.p (.agg (Stt.mk n t u).cells)),(25,.p (.tup ([.sl false 6 [],strX r]))),(29,.b true),(35,.p (.agg (Fte.mk ⟨e,p⟩ 4 nd.name [] r).cells)),(40,.p (.agg (Msg.mk ⟨e,p⟩ U o (.mk A E F H J O)).cells))] (pf5 V h72 hq h3 h2) (.agg [num n,num t,.sl false 10 (aW u),.sl true 11 [],.sl true 11 [],.sl true 6 [(Fte.mk ⟨e,p⟩ 4 nd.name [] r).cells],.sl true 10 [(Msg.mk ⟨e,p⟩ U o (.mk A E F H J O)).cells]])
 |good l=>
  obtain ⟨k1,k2,k3⟩:=hq;refine ⟨B+iZ l+200700,fun N hN=>?_⟩;obtain ⟨M,rfl⟩:∃M,N=M+101:=⟨N-101,by omega⟩;have V:=kJ (M+100) s hs (by omega);have h72:Gam.pureD (callF tab ext (M+100)) 14 [.agg nd.cells,.agg i.m.body.cells]=some (.tup [.sl false 6 (ah l),strX ⟨#[]⟩]):=h72 (M+100) (by omega);have a:=Fg i.m hm l k3 k1 (by omega) (M+100) (by omega);have Y:=lg i.m l l.length;have j:=DT i.m hm hp l l.length;have f:=Eu (M+100) (bg i.m l l.length) j (by omega) (by omega) (by omega);have Z:=zZ (bg i.m l l.length);have w:=yI (M+100) i.m hm.st nd.name (dZ (bg i.m l l.length)) (fun y hy=>by obtain ⟨z,hz,rfl⟩:=qah.1 hy;exact j z hz) (by omega) (by omega);have Q:=zh6 nd {i with kind:=1} s.n s.t (aW s.slots) (bg i.m l l.length) (by omega) (M+100) (by omega);have W:(zrC (aI (bg i.m l l.length)) (bg i.m l l.length).length).length=(bg i.m l l.length).length:=uD ..;have h:=dG (bg i.m l l.length);show Gam.pureD _ _ _=some (.agg [num s.n,num s.t,.sl false 10 (aW s.slots),.sl false 11 (iH ((bg i.m l l.length).map fun x=>⟨0,x⟩)),.sl false 11 [],.sl false 6 [(Fte.mk i.m.st 1 nd.name (dZ (bg i.m l l.length)) ⟨#[]⟩).cells],.sl false 10 []]);rw [<-Yu];clear Y j Z hs hm hp k1 k2 k3 hN;generalize dZ (bg i.m l l.length)=S at f w ⊢;generalize zrC (aI (bg i.m l l.length)) (bg i.m l l.length).length=outs at Q W ⊢;generalize (bg i.m l l.length).length=np at Q W h;generalize aI (bg i.m l l.length)=P at Q a f h;subst h;generalize ah l=L at h72 a;obtain ⟨pa,tm,⟨se,sp⟩,⟨⟨e,p⟩,U,o,⟨A,E,F,H,J,O⟩⟩,x,b1,b2,⟨c1,c2,c3,c4,c5,c6⟩⟩:=i;obtain ⟨n,t,u⟩:=s;refine pure_of [(14,.p (.agg (Stt.mk n t u).cells)),(25,.p (.tup ([.sl false 6 L,strX ⟨#[]⟩]))),(47,.p (.sl false 10 P)),(67,.p (.sl false 2 (bQ S))),(68,.p (.agg (Fte.mk ⟨e,p⟩ 1 nd.name S ⟨#[]⟩).cells))] [(.exit 0,spE nd ⟨1,tm,⟨se,sp⟩,⟨⟨e,p⟩,U,o,⟨A,E,F,H,J,O⟩⟩,x,b1,b2,⟨c1,c2,c3,c4,c5,c6⟩⟩ n t (aW u) P outs P.length P.length)] (pf6 V h72 a Q f w)
   (x:=.agg [num n,num t,.sl false 10 (aW u),.bs 0 0 P.length,.sl true 11 [],.sl true 6 [(Fte.mk ⟨e,p⟩ 1 nd.name S ⟨#[]⟩).cells],.sl true 10 []]) (bx:=[.row 11 outs]) (by kernel_rfl) ?_
  have h6:=fG (bx:=[.row 11 outs]) (i:=0) (n:=P.length) rfl W.symm;simp_all [X.data,dH,num,Fte.cells,strX]
end Ct
namespace Ct
section
variable (name:qaW) (kd k1 k2 k3 w k5:Int) (text:qaW) (a b c d:Int) (we el f ty ex ru ca ne:qaV) (m:Msg) (nx j:Nat)
variable (g:Bool) (er:Int) (r:qaW) (M:Nat)
end
section
variable (name:qaW) (k1 k2 k3 w k5:Int) (text:qaW) (a b c d:Int) (we el f ty ex ru ca ne:qaV) (s:Stt) (m:Msg) (v:Val) (j:Nat)
variable (g:Bool) (er:Int) (r:qaW) (M:Nat)
variable (i:Inp)
end
end Ct
open Go.Em
namespace Ct
end Ct
theorem rX (i:Inp):∃v,(aJ i).m.body=aO 4 v:=⟨i.m.body,rfl⟩
namespace Ct
end Ct
end Go.Proofs.YtkeefpkcepodeaaGreatDoor
