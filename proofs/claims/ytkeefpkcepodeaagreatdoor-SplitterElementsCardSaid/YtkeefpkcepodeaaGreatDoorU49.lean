/-.-/
import Derived.Test.YtkeefpkcepodeaaGreatDoorU45
set_option linter.all false
namespace Go.Proofs.YtkeefpkcepodeaaGreatDoor
open Go Go.Em Go.Ab
set_option maxRecDepth 100000
section
variable (nd nd':Nod) (s:Stt) (i:Inp) (N:Nat) (outs pq letters:qaV)
 (h66:Gam.pureD (callF tab ext N) 8 [.agg nd.cells,.agg i.cells]=some (.tup [.agg nd'.cells,.agg (aJ i).cells])) (h42:Gam.pureD (callF tab ext N) 18 [.agg s.cells]=some (.agg (shortS s).cells)) (h68:Gam.pureD (callF tab ext N) 10 []=some (boolX true))
 (h50:Gam.pureD (callF tab ext N) 19 [.agg (shortS s).cells,.agg (shortS s).cells]=some (boolX true))
include h66 h42 h68 h50
theorem zdM (h67:Gam.pureD (callF tab ext N) 9 [.agg nd'.cells,.agg (shortS s).cells,.agg (aJ i).cells]=some (.agg (ocC (shortS s).n (shortS s).t (aW (shortS s).slots) outs pq letters)))(hk:((aJ i).kind==1)=true):
  callF tab ext (N+1) (.fn 6) [.agg nd.cells,.agg s.cells,.agg i.cells] []=some (.v (.bool true),[]):=by
 generalize aJ i=i' at*;generalize shortS s=s' at*;obtain ⟨kd,tm,⟨se,sp⟩,⟨⟨e,p⟩,ms,o,⟨V,W,Y,Z,a5,a6⟩⟩,x,b1,b2,⟨c1,c2,c3,c4,c5,c6⟩⟩:=i;obtain ⟨a,l,⟨h,j⟩,⟨⟨u,S⟩,f,Q,⟨H,J,L,M,O,P⟩⟩,U,m,q,⟨w,y,A,B,E,F⟩⟩:=i';dsimp only at hk;exact caA [(11,.p (.tup [.agg nd'.cells,.agg (Inp.mk a l ⟨h,j⟩ ⟨⟨u,S⟩,f,Q,⟨H,J,L,M,O,P⟩⟩ U m q ⟨w,y,A,B,E,F⟩).cells])),(15,.p (.agg s'.cells)),(19,.p (.agg (ocC s'.n s'.t (aW s'.slots) outs pq letters))),(20,.p (boolX true)),(26,.p (boolX true)),(37,.b true)] (pf6 h66 h42 h67 h68 h50 hk)
theorem zdN (h67:Gam.pureD (callF tab ext N) 9 [.agg nd'.cells,.agg (shortS s).cells,.agg (aJ i).cells]=some (.agg (zgW (shortS s)).cells))(hk:((aJ i).kind==1)=false):
  callF tab ext (N+1) (.fn 6) [.agg nd.cells,.agg s.cells,.agg i.cells] []=some (.v (.bool true),[]):=by
 generalize aJ i=i' at*;generalize shortS s=s' at*;obtain ⟨kd,tm,⟨se,sp⟩,⟨⟨e,p⟩,ms,o,⟨U,V,W,Y,Z,a6⟩⟩,x,b1,b2,⟨c1,c2,c3,c4,c5,c6⟩⟩:=i;obtain ⟨a,l,⟨h,j⟩,⟨⟨q,Q⟩,f,P,⟨F,H,J,L,M,O⟩⟩,S,m,n,⟨u,w,y,A,B,E⟩⟩:=i';dsimp only at hk;exact caA [(11,.p (.tup [.agg nd'.cells,.agg (Inp.mk a l ⟨h,j⟩ ⟨⟨q,Q⟩,f,P,⟨F,H,J,L,M,O⟩⟩ S m n ⟨u,w,y,A,B,E⟩).cells])),(15,.p (.agg s'.cells)),(19,.p (.agg (zgW s').cells)),(20,.p (boolX true)),(26,.p (boolX true)),(37,.b false)] (pf6 h66 h42 h67 h68 h50 hk)
end
theorem Zc (s:Stt)(m:Msg)(name:qaW)(q:Ct.SL):∃outs pq letters,(Ct.spO s m name q).cells=ocC s.n s.t (aW s.slots) outs pq letters:=by
 cases q with
 |bad r=>exact ⟨_,_,_,rfl⟩
 |good l=>exact ⟨_,_,_,rfl⟩
theorem skeeps_all (cn:List X)(hcn:isNode cn)(s:Stt)(i:Inp):∃n,callF tab ext n (.fn 6) [.agg cn,.agg s.cells,.agg i.cells] []=some (.v (.bool true),[]):=by
 obtain ⟨u,a,q,rfl,A,F,B,w⟩:=Y9 cn hcn i;have l:=(BL s).ok;have E:(aJ i).m.ok:=by rw [yE];exact rW i.m
 cases j:((aJ i).kind==1) with
 |false=>exact ⟨190401,zdN u a s i _ (rY u a A i _ (by omega)) (lK s _ (by omega)) (gY _ (by omega)) (DC _ _ l (by omega)) (Ct.TB a (shortS s) l (aJ i) j 190400 (by omega)) j⟩
 |true=>obtain ⟨y,h⟩:=Ct.PZ a (shortS s) l (aJ i) E (uJ i) q F B w;rw [Oi _ j] at h;obtain ⟨outs,H,f,e⟩:=Zc (shortS s) (aJ i).m a.name q;rw [e] at h;exact ⟨y+190401,zdM u a s i _ outs H f (rY u a A i _ (by omega)) (lK s _ (by omega)) (gY _ (by omega)) (DC _ _ l (by omega)) (h (y+190400) (by omega)) j⟩
theorem TL (l:List Val)(hl:l.length<1000)(hw:∀v,v∈l->v.wide)(N:Nat)(hN:3*iZ l+1020<=N):Gam.pureD (callF tab ext N) 17 [.sl false 6 (ah l),.sl false 6 (ah l)]=some (boolX true):=by
 obtain ⟨M,rfl⟩:=pR_ N;have O:=aF l;have f:run (callF tab ext M) 0 M (.loop (loopAt 17 0)) ⟨[(0,.sl false 6 (ah l)),(1,.sl false 6 (ah l)),(5,num 0)],[]⟩=some (.exit 0,⟨[(0,.sl false 6 (ah l)),(1,.sl false 6 (ah l)),(5,nat l.length),(14,boolX false)],[]⟩):=by
  refine aQ (σ:=fun j=>⟨[(0,.sl false 6 (ah l)),(1,.sl false 6 (ah l)),(5,nat j)],[]⟩) (k:=l.length) (by kernel_rfl) (fun j m=>?_) ?_ (by simp) (by omega);·have h:=dR m;have J:=fD (qaf m);have w:=NK M l[j] (by omega) (hw _ (qaf m));have a:=aH (show j<(ah l).length by omega);have q:=ay (j:=j) (by omega);generalize l[j]=x at h w;generalize ah l=L at h a ⊢;obtain ⟨y,A,B,E,F,H⟩:=x;exact dQ [(14,.b true),(19,.e (Val.mk y A B E F H).cells),(23,.e (Val.mk y A B E F H).cells),(25,.p (boolX true)),(16,.i (Int.ofNat (j+1)))] (pf5 a h h w q) (by kernel_rfl)
  have a:=aG (j:=l.length) (k:=(ah l).length) (by omega);generalize ah l=L at a ⊢;exact ruA [(14,.b false)] (pf1 a)
 have u:(Int.ofNat (ah l).length !=Int.ofNat (ah l).length)=false:=by simp
 generalize ah l=L at f u ⊢;generalize l.length=n at f;exact puB [(10,.b false)] [(.exit 0,⟨[(0,.sl false 6 L),(1,.sl false 6 L),(5,nat n),(14,boolX false)],[]⟩)] (pf2 u f) (boolX true)
theorem zik (nd nd':Nod)(i:Inp)(N:Nat)(L1 L2:qaV)(r1 r2:qaW)(h66:Gam.pureD (callF tab ext N) 8 [.agg nd.cells,.agg i.cells]=some (.tup [.agg nd'.cells,.agg (aJ i).cells]))(h68:Gam.pureD (callF tab ext N) 10 []=some (boolX true))
  (h79:Gam.pureD (callF tab ext N) 13 [.agg nd'.cells,.agg (aJ i).m.body.cells]=some (.tup [.sl false 6 L1,strX r1])) (h80:Gam.pureD (callF tab ext N) 15 [.agg nd'.cells,.agg (aJ i).m.body.cells]=some (.tup [.sl false 6 L1,strX r1]))
  (h72:Gam.pureD (callF tab ext N) 14 [.agg nd'.cells,.agg (aJ i).m.body.cells]=some (.tup [.sl false 6 L2,strX r2])) (h81:Gam.pureD (callF tab ext N) 16 [.agg nd'.cells,.agg (aJ i).m.body.cells]=some (.tup [.sl false 6 L2,strX r2]))
  (g1:Gam.pureD (callF tab ext N) 17 [.sl false 6 L1,.sl false 6 L1]=some (boolX true)) (g2:Gam.pureD (callF tab ext N) 17 [.sl false 6 L2,.sl false 6 L2]=some (boolX true)):
  callF tab ext (N+1) (.fn 5) [.agg nd.cells,.agg i.cells] []=some (.v (.bool true),[]):=by
 have a:=Pj r1;have f:=Pj r2;generalize aJ i=i' at*;obtain ⟨kd,tm,⟨se,sp⟩,⟨⟨e,p⟩,ms,o,⟨Y,Z,a3,a4,a5,a6⟩⟩,x,b1,b2,⟨c1,c2,c3,c4,c5,c6⟩⟩:=i;obtain ⟨h,q,⟨l,n⟩,⟨⟨y,M⟩,j,L,⟨O,P,Q,S,U,V⟩⟩,W,u,w,⟨A,B,E,F,H,J⟩⟩:=i';exact caA [(16,.p (.tup [.agg nd'.cells,.agg (Inp.mk h q ⟨l,n⟩ ⟨⟨y,M⟩,j,L,⟨O,P,Q,S,U,V⟩⟩ W u w ⟨A,B,E,F,H,J⟩).cells])),(24,.p (.tup ([.sl false 6 L1,strX r1]))),(32,.p (.tup ([.sl false 6 L2,strX r2]))),(40,.p (.tup ([.sl false 6 L1,strX r1]))),(48,.p (.tup ([.sl false 6 L2,strX r2]))),(51,.p (boolX true)),(55,.p (boolX true)),(60,.b true),(65,.p (boolX true)),(70,.b true)] (zmF h66 h79 h72 h80 h81 h68 g1 a g2 f)
theorem zfL (b:Val)(hb:b.wide)(q:Ct.SL)(hq:q.ok):∃(L:qaV) (r:qaW) (B:Nat),q.els b=.tup [.sl false 6 L,strX r]/\∀N,B<=N->Gam.pureD (callF tab ext N) 17 [.sl false 6 L,.sl false 6 L]=some (boolX true):=by
 cases q with
 |bad r=>exact ⟨[],r,1020,rfl,fun N a=>TL [] (by decide) (fun v h=>by cases h) N (by simpa [iZ] using a)⟩
 |good l=>
  obtain ⟨u,w,n⟩:=hq;have m:(Ct.mV b l l.length).length=l.length:=by simp [Ct.mV]
  exact ⟨_,_,_,rfl,fun N a=>TL (Ct.mV b l l.length) (by omega) (fun v h=>by obtain ⟨j,f,rfl⟩:=qah.1 h;have f:=List.mem_range.1 f;exact OU b hb _ _ (n _ (Ct.xB f)).1) N a⟩
theorem zaw (q:Ct.SL)(hq:q.okB):∃(L:qaV) (r:qaW) (B:Nat),q.list=.tup [.sl false 6 L,strX r]/\∀N,B<=N->Gam.pureD (callF tab ext N) 17 [.sl false 6 L,.sl false 6 L]=some (boolX true):=by
 cases q with
 |bad r=>exact ⟨[],r,1020,rfl,fun N a=>TL [] (by decide) (fun v f=>by cases f) N (by simpa [iZ] using a)⟩
 |good l=>exact ⟨_,_,_,rfl,fun N a=>TL l (by have:=hq.2.1;omega) hq.2.2 N a⟩
theorem selems_all (cn:List X)(hcn:isNode cn)(i:Inp):∃n,callF tab ext n (.fn 5) [.agg cn,.agg i.cells] []=some (.v (.bool true),[]):=by obtain ⟨y,a,rfl,u,O⟩:=AP hcn;obtain ⟨v,Q⟩:=rX i;obtain ⟨q,S,P,m,B,w⟩:=Ct.Na a u v;obtain ⟨F,U,A,J,M⟩:=zfL (aO 4 v) (oq (nD v (by decide))) q P;obtain ⟨H,V,E,L,N⟩:=zaw S m;rw [J,L,<-Q] at w;obtain ⟨⟨h,j⟩,f,l⟩:=w (B+A+E+400) (by omega);exact ⟨_,zik y a i _ F H U V (rY y a O i _ (by omega)) (gY _ (by omega)) h j f l (M _ (by omega)) (N _ (by omega))⟩
end Go.Proofs.YtkeefpkcepodeaaGreatDoor
