/-.-/
import Derived.Test.YtpcjeobkehmhpaaGreatDoorV44
set_option linter.all false
namespace Go.Proofs.YtpcjeobkehmhpaaGreatDoor
open Go.Em
set_option maxRecDepth 100000
def Ey (m:Msg)(n j:Nat):List Otp:=(List.range j).map fun i=>⟨Int.ofNat i,zM m m.body n i⟩
def zca (m:Msg)(j:Nat):List Stp:=(List.range j).map fun i=>⟨m.st.e,m.st.p++[Int.ofNat i]⟩
theorem zdC (s:Stt)(m:Msg)(name:qaY)(n:Nat):(mcO s m name n).outs=Ey m n n:=by unfold mcO Ey;refine List.map_congr_left fun i a=>?_;rw [O8 m (List.mem_range.1 a)]
theorem zhw (m:Msg)(n:Nat):dV (dZ m n)=zca m n:=by simp [dV,dZ,iP,zca,zM]
theorem LV (m:Msg)(n j:Nat):(jk (Ey m n j)).length=j:=by simp [jk,Ey]
theorem Ol (m:Msg)(j:Nat):(bY (zca m j)).length=j:=by simp [bY,zca]
theorem Vx (m:Msg)(n j:Nat):jk (Ey m n (j+1))=jk (Ey m n j)++[(Otp.mk (Int.ofNat j) (zM m m.body n j)).cells]:=by simp [jk,Ey,List.range_succ]
theorem X5 (m:Msg)(j:Nat):bY (zca m (j+1))=bY (zca m j)++[(Stp.mk m.st.e (m.st.p++[Int.ofNat j])).cells]:=by simp [bY,zca,List.range_succ]
theorem O7 (nd:Nod)(n:Nat)(hn:nd.number=Int.ofNat n)(h0:0<n)(h1:n<=64)(s:Stt)(i:Inp)(hm:i.m.ok)(N:Nat)(hN:200700<=N):
  Gam.aC (ah tab ext N) 13 [.agg ({nd with kind:=12}:Nod).cells,.agg s.cells,.agg ({i with kind:=1}:Inp).cells]=some (.agg (mcO s i.m nd.name n).cells):=by
 obtain ⟨M,rfl⟩:∃M,N=M+101:=⟨N-101,by omega⟩;obtain ⟨k,rfl⟩:=pR_ n;have Q:({nd with kind:=12}:Nod)=mdN nd k:=by obtain ⟨name,k1,k2,k3,w,k5,k6,Y,⟨a,b,c,d⟩,we,el,f,ty,ex,ca,ru,ne⟩:=nd;dsimp only at hn;subst hn;rfl
 rw [Q];have F:=kW i.m.body hm.body (M+100) (by omega);have H:(aI i.m.st.p).length<100000:=by rw [bI];have:=hm.st.p;omega
 have P:(mcO s i.m nd.name (k+1)).cells=[num s.n,num s.t,.sl false 10 (aW s.slots),.sl false 11 (jk (mcO s i.m nd.name (k+1)).outs),.sl false 11 [],.sl false 6 [[num i.m.st.e,.sl false 1 (aI i.m.st.p),num 1,aF nd.name,.sl false 2 (bY (dV (dZ i.m (k+1)))),bD]],.sl false 10 []]:=rfl;rw [P,zdC,zhw];have S:=LV i.m (k+1);have U:=Ol i.m;have V:=Vx i.m (k+1);have W:=X5 i.m;generalize zU i.m.body=v at F;obtain ⟨v1,v2,v3,v4,v5,v6⟩:=v;obtain ⟨kd,tm,⟨se,sp⟩,⟨⟨e,p⟩,q,o,⟨l,u,y,A,B,E⟩⟩,x,Z,b2,⟨c1,c2,c3,c4,c5,c6⟩⟩:=i;obtain ⟨L,t,O⟩:=s;dsimp only at H S U V W ⊢;have e3:∀j,(Otp.mk (Int.ofNat j) (zM ⟨⟨e,p⟩,q,o,⟨l,u,y,A,B,E⟩⟩ ⟨l,u,y,A,B,E⟩ (k+1) j)).cells=nat j::mX e (aI p++[[nat j]]) (iM q (k+1) j) (aI o) l u y A (au B) (aA E):=fun j=>by rw [show nat j=num (Int.ofNat j) from rfl,yt];rfl
 have e4:∀j:Nat,(Stp.mk e (p++[Int.ofNat j])).cells=[num e,.sl false 1 (aI p++[[nat j]])]:=fun j=>by rw [show nat j=num (Int.ofNat j) from rfl,yt];rfl
 have J:run (ah tab ext (M+100)) 0 (M+100) (.loop (aH 13 1)) (mdH nd L t (aW O) e q (aI p) (aI o) l u y A (au B) (aA E) k 0 [] [])=some (.exit 4,⟨ziI (k+1)++[(133,.v (.bool false))],ziJ nd L t (aW O) e q (aI p) (aI o) l u y A (au B) (aA E) k (k+1) 5 6++[.row 11 (jk (Ey ⟨⟨e,p⟩,q,o,⟨l,u,y,A,B,E⟩⟩ (k+1) (k+1))),.row 2 (bY (zca ⟨⟨e,p⟩,q,o,⟨l,u,y,A,B,E⟩⟩ (k+1)))]⟩):=by refine bF (σ:=fun j=>mdH nd L t (aW O) e q (aI p) (aI o) l u y A (au B) (aA E) k j (jk (Ey ⟨⟨e,p⟩,q,o,⟨l,u,y,A,B,E⟩⟩ (k+1) j)) (bY (zca ⟨⟨e,p⟩,q,o,⟨l,u,y,A,B,E⟩⟩ j))) (k:=k+1) (zdT ..) (fun j hj=>?_) (znT ..) (by simp) (by omega);have h:=ziG (M+100) nd L t (aW O) e q (aI p) (aI o) l u y A (au B) (aA E) k j (jk (Ey ⟨⟨e,p⟩,q,o,⟨l,u,y,A,B,E⟩⟩ (k+1) j)) (bY (zca ⟨⟨e,p⟩,q,o,⟨l,u,y,A,B,E⟩⟩ j)) H hj (by omega) (S j).symm (U j).symm;rw [<-e3 j,<-e4 j] at h;rw [V j,W j];exact h
 exact znS M nd L t (aW O) e q (aI p) (aI o) l u y A (au B) (aA E) k se (aI sp) tm x Z b2 c1 c2 c3 c4 (au c5) (aA c6) v1 v2 v3 v4 (au v5) (aA v6) _ _ F h1 J (S _) (U _)
def unr:qaY:=⟨#[117,110,114,111,117,116,97,98,108,101]⟩
theorem FZ (nd:Nod)(hn:nd.number<1\/64<nd.number)(s:Stt)(hs:s.ok)(i:Inp)(hm:i.m.ok)(N:Nat)(hN:200700<=N):Gam.aC (ah tab ext N) 8 [.agg ({nd with kind:=12}:Nod).cells,.agg s.cells,.agg ({i with kind:=1}:Inp).cells]=some (.agg (vV false s i.m nd.name unr)):=by obtain ⟨M,rfl⟩:∃M,N=M+101:=⟨N-101,by omega⟩;have F:=bZ (M+100) s hs (by omega);have H:=iR (M+100) i.m hm (by omega);have J:=iD i.m hm nd.name unr (M+100) (by omega);have L:=I8 {nd with kind:=12} hn i.m (M+100) (by omega);obtain ⟨kd,tm,⟨se,sp⟩,⟨⟨e,p⟩,A,o,⟨h,j,l,q,u,y⟩⟩,x,O,P,⟨Q,S,U,V,W,Y⟩⟩:=i;obtain ⟨name,k1,k2,k3,w,k5,k6,E,⟨a,b,c,d⟩,we,el,f,ty,ex,Z,ru,ne⟩:=nd;obtain ⟨n,t,B⟩:=s;exact puA [(15,.p (.agg (Stt.mk n t B).cells)),(23,.p (.agg (Msg.mk ⟨e,p⟩ A o (.mk h j l q u y)).cells)),(36,.p (.agg [.sl false 10 [],num 0,aj false,aF unr])),(56,.p (.agg (Fte.mk ⟨e,p⟩ 4 name [] unr).cells))] (pf4 F H L J) (.agg [num n,num t,.sl false 10 (aW B),.sl true 11 [],.sl true 11 [],.sl true 6 [(Fte.mk ⟨e,p⟩ 4 name [] unr).cells],.sl true 10 [(Msg.mk ⟨e,p⟩ A o (.mk h j l q u y)).cells]])
theorem Zy (nd:Nod)(hn:nd.number<1\/64<nd.number)(s:Stt)(i:Inp)(hm:i.m.ok)(N:Nat)(hN:200700<=N):Gam.aC (ah tab ext N) 13 [.agg ({nd with kind:=12}:Nod).cells,.agg s.cells,.agg ({i with kind:=1}:Inp).cells]=some (.agg (vV true s i.m nd.name unr)):=by
 obtain ⟨M,rfl⟩:∃M,N=M+101:=⟨N-101,by omega⟩;have j:=kW i.m.body hm.body (M+100) (by omega);generalize zU i.m.body=v at j;obtain ⟨L,O,P,Q,S,U⟩:=v;obtain ⟨kd,tm,⟨se,sp⟩,⟨⟨e,p⟩,F,o,⟨q,u,y,A,B,E⟩⟩,x,W,Y,⟨Z,c2,c3,c4,c5,c6⟩⟩:=i;obtain ⟨h,k1,k2,k3,w,k5,k6,J,⟨a,b,c,d⟩,we,el,f,ty,ex,ca,ru,ne⟩:=nd;obtain ⟨n,t,H⟩:=s;dsimp only at hn;cases l:decide (w<1) with
 |true=>exact puA [(29,.p (.agg (Val.mk L O P Q S U).cells)),(117,.b true)] (pf2 j l) (.agg [num n,num t,.sl false 10 (aW H),.sl false 11 [],.sl false 11 [],.sl false 6 [zgE true (Fte.mk ⟨e,p⟩ 4 h [] unr)],.sl false 10 [(Msg.mk ⟨e,p⟩ F o (.mk q u y A B E)).cells]])
 |false=>have V:decide (w>64)=true:=decide_eq_true (by have:=of_decide_eq_false l;omega);exact puA [(29,.p (.agg (Val.mk L O P Q S U).cells)),(117,.b false),(121,.b true)] (pf3 j l V) (.agg [num n,num t,.sl false 10 (aW H),.sl false 11 [],.sl false 11 [],.sl false 6 [zgE true (Fte.mk ⟨e,p⟩ 4 h [] unr)],.sl false 10 [(Msg.mk ⟨e,p⟩ F o (.mk q u y A B E)).cells]])
theorem FB (i:Inp):(bJ i).m.st.p.length<50000:=by rw [IB];have:=uO i.m.st.p;show (zck i.m.st.p).length<50000;omega
section
variable (N:Nat) (a b:Int) (ss outs dN letters:qaX) (j:Nat)
end
end Go.Proofs.YtpcjeobkehmhpaaGreatDoor
