/-.-/
import Derived.Test.YtcbeoccmflnejaaGreatDoorU15q2q3
import Derived.Test.YtcbeoccmflnejaaGreatDoorU16q2
import Derived.Test.YtcbeoccmflnejaaGreatDoorU18q1q2
import Derived.Test.YtcbeoccmflnejaaGreatDoorU33
import Derived.Test.YtcbeoccmflnejaaGreatDoorU34q1q2
import Derived.Test.YtcbeoccmflnejaaGreatDoorU38q1q2
import Derived.Test.YtcbeoccmflnejaaGreatDoorU38q2q3
import Derived.Test.YtcbeoccmflnejaaGreatDoorU42q2q3
set_option linter.all false
namespace Go.Proofs.YtcbeoccmflnejaaGreatDoor
open Go Go.Em Go.Ab
set_option maxRecDepth 100000
variable {ss:List Slt}{B:Nat}{x:Slt}
theorem zcz (h:x.ok):x.good 190005:=⟨fun k N a=>TU N (by omega) x k h.key,fun N a=>by have h:=tJ N x h a;obtain ⟨⟨k,i,s,t,l,f⟩,n,d,j,m⟩:=x;exact h,fun N a=>BK N x h a⟩
theorem XW (k:Val)(hk:k.wide)(w:Int):(newS k w).good (3*k.size+200):=by
 refine ⟨fun a N f=>?_,fun N f=>?_,fun N f=>KG k hk w N (by omega)⟩;·obtain ⟨M,rfl⟩:=pR_ N;have h:=vI k.size M k a (Nat.le_refl _) (by omega) hk;show Gam.pureD (callF tab ext (M+1)) 132 [.agg (newS k w).cells,.agg a.cells]=some (num (cu k a));generalize cu k a=r at h;obtain ⟨j,l,m,n,q,u⟩:=k;obtain ⟨F,E,H,A,B,y⟩:=a;exact puA [(8,.p (num r))] (pf1 h) (num r)
 obtain ⟨M,rfl⟩:∃M,N=M+51:=⟨N-51,by omega⟩;have h:=iT (M+50) k (by omega) hk;obtain ⟨j,l,m,n,q,u⟩:=k;exact caA [(45,.p (.agg (Val.mk j l m n q u).cells))] (pf1 h)
theorem Slt.good.OI (h:x.good B)(N:Nat)(hN:B<=N):Gam.pureD (callF tab ext N) 84 [.agg x.cells]=some (.agg x.cells):=by have h:=h.clone N hN;obtain ⟨⟨k,i,s,t,l,f⟩,n,d,a,j⟩:=x;refine pureD_of h ?_;simp [X.data,dataL,rowOf,Slt.cells,aJ,Val.cells,num,strX]
theorem Gw (B:Nat)(s:Stt)(h:s.good B)(N:Nat)(hN:B+300<=N):Gam.pureD (callF tab ext N) 77 [.agg s.cells]=some (.agg s.cells):=by
 obtain ⟨M,rfl⟩:=pR_ N;have S:=h.len;have hit:=h.slot;obtain ⟨a,b,f⟩:=s;dsimp only at S hit;have V:=aN f;have P:run (callF tab ext M) 0 M (.loop (loopAt 77 0)) (stH a b (ak f) [] (ak f).length 0)=some (.exit 0,stE a b (ak f) (ak f) (ak f).length (ak f).length):=by
  refine loop_for (σ:=fun j=>stH a b (ak f) ((ak f).take j) (ak f).length j) (k:=(ak f).length) (J9 ..) (fun j W=>?_) ?_ (by simp) (by omega)
  ·have l:j<f.length:=by omega
   have L:=aW l;have O:=(hit _ (qae l)).OI M (by omega);have U:=bI L;generalize f[j]=q at L O U;obtain ⟨⟨n,u,w,y,A,E⟩,F,H,J,m⟩:=q;refine ⟨zif a b (ak f) ((ak f).take j) (ak f).length j (Slt.mk (Val.mk n u w y A E) F H J m).cells,ruA [(14,.b true),(15,.e (Slt.mk (Val.mk n u w y A E) F H J m).cells),(19,.p (.agg (Slt.mk (Val.mk n u w y A E) F H J m).cells)),(21,.app),(22,.i (Int.ofNat (j+1)))] (pf5 (aI (j:=j) (k:=(ak f).length) (by omega)) L O (aU (acc:=(ak f).take j) j 2 152 (by grind) (by omega) (by omega)) (ay (j:=j) (by omega))),?_⟩
   grind[EG]
  rw [List.take_length];exact ruA [(14,.b false)] (pf1 (aG (qan (ak f).length)))
 have Q:callF tab ext (M+1) (.fn 77) [.agg (Stt.mk a b f).cells] []=some (.agg [num a,num b,.bs 0 0 (ak f).length],[.row 10 (ak f)]):=caB [(9,.mk)] [(.exit 0,stE a b (ak f) (ak f) (ak f).length (ak f).length)] (pf2 (a:=0<=(ak f).length/\roomOk (ak f).length 152=true) ⟨by omega,fP (by omega) (by omega)⟩ P);refine pureD_of Q ?_;simp [X.data,dataL,rowOf,Stt.cells,num]
theorem KU (x:Slt)(c:Int)(hx:c<x.n):∀(d w:Nat) (M:List Slt),1<=w->x∈M->(∀y,y∈M->y=x\/y.n<=c)->M.Pairwise (fun a b=>a.n≠b.n)->x∈trimS d w M
 |0,_,_,_,h,_,_=>h
 |d+1,w,M,hw,h,hy,hp=>by
  unfold trimS;split
  ·rename_i hlt;have hsub:=oG M;refine KU x c hx d w (bf M) hw ?_ (fun y hm=>hy y (hsub.subset hm)) (hp.sublist hsub);cases M with
   |nil=>cases h
   |cons a r=>
    have hk:=uh a r;have hg:=rX hk ⟨_,Cj a r,rfl⟩;have hmin:(minS a r).n<=c:=by
     obtain ⟨z,hz,hzx⟩:∃z,z∈a::r/\z.n≠x.n:=by
      cases r with
      |nil=>simp at hlt;omega
      |cons b r=>
       have hab:=(List.pairwise_cons.1 hp).1 b (by simp);by_cases hax:a.n=x.n;·exact ⟨b,by simp,fun h=>hab (by rw [hax,h])⟩
       exact ⟨a,by simp,hax⟩
     have hzc:z.n<=c:=by
      rcases hy z hz with rfl|h;·exact absurd rfl hzx
      exact h
     have hm:=wX r a;rcases qal.1 hz with rfl|h;·have:=hm.1;omega
     have:=hm.2 z h;omega
    obtain ⟨i,hi,e⟩:=List.mem_iff_getElem.1 h;unfold bf;refine List.mem_eraseIdx_iff_getElem.2 ⟨i,hi,fun hik=>?_,e⟩;subst hik;rw [e] at hg;omega
  exact h
theorem VF (ho:JV ss){k:Val}{j:Nat}(hj:j<=ss.length)(hs:zep ss k j)(hne:∀h:j<ss.length,¬cu ss[j].key k=0):(∀x,x∈ss.take j->cu k x.key=1)/\∀x,x∈ss.drop j->cu x.key k=1:=by
 have w:∀(i:Nat) (h:i<ss.length),ss.getD i uw=ss[i]:=fun i h=>by rw [qav,qad h];rfl
 have l:=List.pairwise_iff_getElem.1 ho;constructor
 ·intro x u;obtain ⟨i,q,rfl⟩:=List.mem_iff_getElem.1 u;rw [qag] at q;rw [List.getElem_take];have m:=hs.before (by omega);rw [w _ (by omega)] at m;have f:=zdC m;by_cases n:i=j-1;·subst n;exact f
  exact DY f (l i (j-1) (by omega) (by omega) (by omega))
 intro x u;obtain ⟨i,q,rfl⟩:=List.mem_iff_getElem.1 u;rw [qaK] at q;rw [List.getElem_drop];have a:j<ss.length:=by omega
 have m:=hs.behind a;rw [w _ a] at m;have f:cu ss[j].key k=1:=by
  rcases DX ss[j].key k with h|h|h;·omega
  ·exact absurd h (hne a)
  exact h
 by_cases n:i=0;·subst n;exact f
 exact DY (l j (j+i) a (by omega) (by omega)) f
theorem zbm (ho:JV ss)(x:Slt){j:Nat}(h:(∀y,y∈ss.take j->cu x.key y.key=1)/\∀y,y∈ss.drop j->cu y.key x.key=1):JV (ss.take j++[x]++ss.drop j):=by
 have f:JV (ss.take j++ss.drop j):=by rw [List.take_append_drop];exact ho
 unfold JV at f ⊢;rw [List.pairwise_append] at f;rw [qaL,List.pairwise_append,List.singleton_append,List.pairwise_cons];refine ⟨f.1,⟨h.2,f.2.1⟩,fun a m b l=>?_⟩;rcases qal.1 l with rfl|l;·exact h.1 a m
 exact f.2.2 a m b l
theorem SY (B:Nat)(ss:List Slt)(hl:ss.length<=100)(hx:∀x,x∈ss->x.good B)(key:Val):∃(i:Nat) (b:Bool),i<=ss.length/\(b=true->∃h:i<ss.length,cu ss[i].key key=0)/\(b=false->zep ss key i/\∀h:i<ss.length,¬cu ss[i].key key=0)/\∀(a b0:Int) (N:Nat),B+300<=N->Gam.pureD (callF tab ext N) 83 [.agg (Stt.mk a b0 ss).cells,.agg key.cells]=some (.tup [nat i,boolX b]):=by
 have Q:=aN ss;obtain ⟨r,_,hr,hS⟩:=vY ss key ss.length 0 ss.length (by omega) (by omega);have J:=vX hS (fun h=>absurd h (by omega)) (fun h=>absurd h (by omega));have n:∀(j:Nat) (hj:j<ss.length) (N:Nat),B<=N->Gam.pureD (callF tab ext N) 132 [.agg ss[j].cells,.agg key.cells]=some (num (cu ss[j].key key)):=fun j hj N Y=>(hx _ (qae hj)).cmp key N Y;have P:∀(j:Nat) (hj:j<ss.length),ss.getD j uw=ss[j]:=fun j hj=>by rw [qav,qad hj];rfl
 obtain ⟨k,i,s,l,m,f⟩:=key;have q:∀M,B+200<=M->∀τ,canon 0 τ=some (seH (ak ss) k i s l (ah m) (aj f) (ak ss).length 0 (ak ss).length)->run (callF tab ext M) 0 M (.loop (loopAt 131 0)) τ=some (.exit 0,seE (ak ss) k i s l (ah m) (aj f) (ak ss).length r r):=fun M hM τ hτ=>by
  refine loop_dec (α:=Nat×Nat) (σ:=fun a=>seH (ak ss) k i s l (ah m) (aj f) (ak ss).length a.1 a.2) (I:=fun a=>a.2<=ss.length/\UM ss (.mk k i s l m f) a.1 a.2 r) (μ:=fun a=>a.2-a.1) (fun a ha=>?_) (by simp) (a:=(0,(ak ss).length)) ⟨by dsimp only;omega,by rw [Q];exact hS⟩ hτ (by dsimp only;omega);obtain ⟨E,w⟩:=a;obtain ⟨L,O⟩:=ha;dsimp only at L O ⊢;cases O with
  |stop=>right;exact Qs _ _ _ _ _ _ _ _ _ _ (qan _) M
  |lt h u hr'=>
   left;have F:(E+w) /2<ss.length:=by omega
   rw [P _ F] at u;have:=(qV (ak ss) k i s l (ah m) (aj f) (ak ss).length E w ss[(E+w) /2] _ h (by omega) (aW F) M (n _ F M (by omega))).1 u;exact ⟨_,((E+w) /2+1,w),this,ng ..,⟨L,hr'⟩,by dsimp only;omega⟩
  |ge h u hr'=>
   left;have F:(E+w) /2<ss.length:=by omega
   rw [P _ F] at u;have:=(qV (ak ss) k i s l (ah m) (aj f) (ak ss).length E w ss[(E+w) /2] _ h (by omega) (aW F) M (n _ F M (by omega))).2 u;exact ⟨_,(E,(E+w) /2),this,ng ..,⟨by dsimp only;omega,hr'⟩,by dsimp only;omega⟩
 by_cases A:r<ss.length
 ·refine ⟨r,cu ss[r].key (.mk k i s l m f)==0,hr,fun h=>⟨A,eq_of_beq h⟩,fun h=>⟨J,fun _ hz=>by rw [hz] at h;cases h⟩,fun a b0 N Y=>?_⟩;obtain ⟨M,rfl⟩:∃M,N=M+2:=⟨N-2,by omega⟩;have u:=n r A M (by omega);have Z:=aW A;generalize cu ss[r].key (.mk k i s l m f)=z at u ⊢;generalize ss[r]=x at u Z;have y:=q M (by omega) ⟨[(0,.sl false 10 (ak ss)),(2,.fn 132 []),(4,.ptr 0 0 0),(8,nat (ak ss).length),(9,num 0),(10,nat (ak ss).length)],[.var (WY k i s l (ah m) (aj f))]⟩ (by kernel_rfl);have V:decide (Int.ofNat r<Int.ofNat (ak ss).length)=true:=aI (by omega);have W:Gam.pureD (callF tab ext (M+1)) 131 [.sl false 10 (ak ss),.agg (Val.mk k i s l m f).cells,.fn 132 []]=some (.tup [nat r,boolX (z==0)]):=by
   obtain ⟨⟨k',i',s',S,U,H⟩,n2,c,ms,vs⟩:=x;cases h2:(z==0) with
   |true=>exact puB [(38,.b true),(43,.e (aJ k' i' s' S (ah U) (aj H) n2 c (aA ms) (ah vs))),(46,.p (num z)),(47,.b true)] [(.exit 0,seE (ak ss) k i s l (ah m) (aj f) (ak ss).length r r)] (pf5 y V Z u h2) (.tup [nat r,boolX true])
   |false=>exact puB [(38,.b true),(43,.e (aJ k' i' s' S (ah U) (aj H) n2 c (aA ms) (ah vs))),(46,.p (num z)),(47,.b false)] [(.exit 0,seE (ak ss) k i s l (ah m) (aj f) (ak ss).length r r)] (pf5 y V Z u h2) (.tup [nat r,boolX false])
  exact puA [(9,.p (.tup [nat r,boolX (z==0)]))] (pf1 W) (.tup [nat r,boolX (z==0)])
 refine ⟨r,false,hr,fun h=>(by cases h),fun _=>⟨J,fun h=>absurd h A⟩,fun a b0 N Y=>?_⟩;obtain ⟨M,rfl⟩:∃M,N=M+2:=⟨N-2,by omega⟩;have y:=q M (by omega) ⟨[(0,.sl false 10 (ak ss)),(2,.fn 132 []),(4,.ptr 0 0 0),(8,nat (ak ss).length),(9,num 0),(10,nat (ak ss).length)],[.var (WY k i s l (ah m) (aj f))]⟩ (by kernel_rfl);have V:decide (Int.ofNat r<Int.ofNat (ak ss).length)=false:=aG (by omega);have W:Gam.pureD (callF tab ext (M+1)) 131 [.sl false 10 (ak ss),.agg (Val.mk k i s l m f).cells,.fn 132 []]=some (.tup [nat r,boolX false]):=
  puB [(38,.b false)] [(.exit 0,seE (ak ss) k i s l (ah m) (aj f) (ak ss).length r r)] (pf2 y V) (.tup [nat r,boolX false])
 exact puA [(9,.p (.tup [nat r,boolX false]))] (pf1 W) (.tup [nat r,boolX false])
theorem XZ (B:Nat)(s:Stt)(hs:s.good B)(key:Val)(i:Nat)(hi:i<s.slots.length)(N:Nat)(hf:Gam.pureD (callF tab ext N) 83 [.agg s.cells,.agg key.cells]=some (.tup [nat i,boolX true]))(hN:B<=N):
  Gam.pureD (callF tab ext (N+1)) 38 [.agg s.cells,.agg key.cells]=some (.tup [.agg s.slots[i].cells,boolX true]):=by
 have l:=aW hi;have f:=(hs.slot _ (qae hi)).clone N hN;obtain ⟨a,c,E⟩:=s;obtain ⟨F,H,J,L,M,O⟩:=key;dsimp only at l f ⊢;generalize E[i]=x at l f ⊢;obtain ⟨⟨m,q,u,w,y,A⟩,n,t,h,j⟩:=x;exact pure_of [(11,.p (.tup [nat i,boolX true])),(20,.e (Slt.mk ⟨m,q,u,w,y,A⟩ n t h j).cells),(22,.o (.agg [num m,num q,num u,strX w,.sl false 6 (ah y),.sl false 7 (aj A),num n,num t,.bs 0 0 (aA h).length,.bs 1 0 (ah j).length]) [.row 10 (aA h),.row 6 (ah j)])] [] (pf3 hf l f)
  (x:=.tup [.agg [num m,num q,num u,strX w,.sl false 6 (ah y),.sl false 7 (aj A),num n,num t,.bs 0 0 (aA h).length,.bs 1 0 (ah j).length],boolX true]) (bx:=[.row 10 (aA h),.row 6 (ah j)]) (by kernel_rfl) (by simp [X.data,dataL,rowOf,Slt.cells,aJ,Val.cells,num,strX,boolX])
namespace Ct
theorem Ws (s:Stt)(N:Nat)(hN:190700<=N)(h1:Gam.pureD (callF tab ext (N-1)) 77 [.agg s.cells]=some (.agg s.cells))(nd:Nod)(m:Msg)(hm:m.ok)(r:qaX):
  Gam.pureD (callF tab ext N) 33 [.agg s.cells,.sl false 1 [[.fn 80 [.dp m.cells,.dp nd.cells,.dp [strX r]]]]]=some (.agg (fC false s m nd.name r)):=by
 obtain ⟨M,rfl⟩:∃M,N=M+51:=⟨N-51,by omega⟩;have y:=pR m hm nd.name r (M+49) (by omega);obtain ⟨⟨e,p⟩,q,o,⟨h,j,l,n,u,w⟩⟩:=m;obtain ⟨a,b,f⟩:=s;have h1:Gam.pureD (callF tab ext (M+50)) 77 [.agg (Stt.mk a b f).cells]=some (.agg (Stt.mk a b f).cells):=h1;have A:callF tab ext (M+50) (.fn 80) [.ptr 0 0 0,.dp (Msg.mk ⟨e,p⟩ q o (.mk h j l n u w)).cells,.dp nd.cells,.dp [strX r]] [.var [num a,num b,.sl false 10 (ak f),.sl true 11 [],.sl true 11 [],.sl true 6 [],.sl true 10 []]]=some (.tup [],[.var [num a,num b,.sl false 10 (ak f),.sl true 11 [],.sl true 11 [],.bs 1 0 1,.bs 2 0 1],.row 6 [(Fte.mk ⟨e,p⟩ 4 nd.name [] r).cells],.row 10 [(Msg.mk ⟨e,p⟩ q o (.mk h j l n u w)).cells]]):=
  caA [(14,.p (.agg (Fte.mk ⟨e,p⟩ 4 nd.name [] r).cells))] (pf1 y)
 exact pure_of [(9,.p (.agg (Stt.mk a b f).cells)),(18,.r (.tup []) [.var [num a,num b,.sl false 10 (ak f),.sl true 11 [],.sl true 11 [],.bs 1 0 1,.bs 2 0 1],.row 6 [(Fte.mk ⟨e,p⟩ 4 nd.name [] r).cells],.row 10 [(Msg.mk ⟨e,p⟩ q o (.mk h j l n u w)).cells]])] [] (pf2 h1 A)
  (x:=.agg [num a,num b,.sl false 10 (ak f),.sl true 11 [],.sl true 11 [],.bs 0 0 1,.bs 1 0 1]) (bx:=[.row 6 [(Fte.mk ⟨e,p⟩ 4 nd.name [] r).cells],.row 10 [(Msg.mk ⟨e,p⟩ q o (.mk h j l n u w)).cells]]) (by kernel_rfl) rfl
end Ct
namespace Ct
theorem twice (nd:Nod)(hnd:nd.small)(s:Stt)(hs:s.small)(h6:s.slots.length<=6)(ho:JV s.slots)(hn0:0<=s.n)(hle:∀x,x∈s.slots->x.n<=s.n)(hdis:s.slots.Pairwise fun a b=>a.n≠b.n)(i:Inp)(hm:i.m.ok)(v:Val)(hv:i.m.body=aS 4 v):
  (∃r,Hl nd s i (fC false s i.m nd.name r))\/∃s':Stt,Hl nd s i (G6 s' i.m 0)/\Hl nd s' i (fC false s' i.m nd.name jr)/\∃B,∀N,B<=N->Gam.pureD (callF tab ext N) 15 [.agg s'.cells,.agg s'.cells]=some (boolX true):=by
 obtain ⟨k,Y,⟨hk,he⟩,O,Q⟩:=Rl nd hnd v;rw [<-hv] at Q;obtain ⟨gi,gb,x,_,_,pg,u⟩:=Sz s hs k;have l:=fun K (F:200500<=K)=>qF (K+320) i.m hm (by omega);have q:=fun K (F:O+200500<=K)=>zbE nd hnd i.m hm.body k Y (K+319) (by omega) (Q _ (by omega));have L:∀r,(∀K,O+200500<=K->Gam.pureD (callF tab ext (K+321)) 10 [.agg nd.cells,.agg s.cells,.agg ({i with kind:=1}:Inp).cells]=some (.agg (fC false s i.m nd.name r)))->∃r,Hl nd s i (fC false s i.m nd.name r):=fun r h=>⟨r,O+200900,fun N S=>by obtain ⟨K,rfl⟩:∃K,N=K+321:=⟨N-321,by omega⟩;exact h K (by omega)⟩;cases E:(keyE k Y !=0) with
 |true=>exact .inl (L (iG (keyE k Y)) fun K F=>Wp nd s i k (keyE k Y) K _ (l K (by omega)) (q K F) E (dV _ (Ap he) _ (by omega)) (jM s hs.ok nd i.m hm _ _ (by omega)))
 |false=>
  cases gb with
  |true=>exact .inl (L jr fun K F=>Wq nd s i k _ K x (l K (by omega)) (q K F) E (u _ (by omega)) (jM s hs.ok nd i.m hm _ _ (by omega)))
  |false=>
   by_cases hn:s.n>=1099511627776;·exact .inl (L gG fun K F=>QM nd s i k _ K x (l K (by omega)) (q K F) E (u _ (by omega)) (Eb nd s k (K+319) (decide_eq_true hn)) (jM s hs.ok nd i.m hm _ _ (by omega)))
   right;obtain ⟨SA,P⟩:=pg rfl;obtain ⟨j,b,hj,U,pd,hf⟩:=Jv s.slots (by have:=hs.slots;omega) (fun y A=>(hs.slot y A).1) k;have pb:b=false:=by
    cases b with
    |false=>rfl
    |true=>obtain ⟨J,hc⟩:=U rfl;have e:=qE _ _ hc;rw [<-e] at SA P;exact absurd (Hq ho (qae J) (by assumption) SA P) id
   subst pb;obtain ⟨w,hw⟩:∃w,w=s.n+1:=⟨_,rfl⟩;have pn:IntKind.i64.wrap (s.n+1)=w:=by rw [IntKind.wrap_i64];omega
   have pe:=fun N (S:k.size+100<=N)=>wS k hk w N S;have pp:=Kz false j (newS k w) s.slots;have hS:=pd rfl;have pl:=VF ho hj hS.1 hS.2;have eL:qJ false j (newS k w) s.slots=s.slots.take j++[newS k w]++s.slots.drop j:=by unfold qJ;rw [if_neg (by simp)]
   have pk:JV (qJ false j (newS k w) s.slots):=by rw [eL];exact zbm ho (newS k w) pl
   have V:∀y,y∈qJ false j (newS k w) s.slots->y=newS k w\/y.n<=s.n:=fun y A=>(BR A).imp id (hle y);have pj:(qJ false j (newS k w) s.slots).Pairwise fun a b=>a.n≠b.n:=by
    rw [eL,qaL,List.pairwise_append,List.singleton_append,List.pairwise_cons];have E:(s.slots.take j++s.slots.drop j).Pairwise fun a b=>a.n≠b.n:=by rw [List.take_append_drop];exact hdis
    rw [List.pairwise_append] at E;refine ⟨E.1,⟨fun y A=>?_,E.2.1⟩,fun a ha b U=>?_⟩;·have:=hle y (List.mem_of_mem_drop A);show w≠y.n;omega
    rcases qal.1 U with rfl|U;·have:=hle a (List.mem_of_mem_take ha);show a.n≠w;omega
    exact E.2.2 a ha b U
   have pi:newS k w∈qJ false j (newS k w) s.slots:=by rw [eL];simp
   obtain ⟨T,hT⟩:∃T,T=trimS (s.slots.length+1) (wN nd.number) (qJ false j (newS k w) s.slots):=⟨_,rfl⟩;have H:T.Sublist (qJ false j (newS k w) s.slots):=by rw [hT];exact pF ..
   have pa:JV T:=pk.sublist H;have po:newS k w∈T:=by rw [hT];exact KU (newS k w) s.n (by show s.n<w;omega) _ _ _ (by unfold wN;omega) pi V pj
   have pr:=H.length_le;have ps:=hs.slots;have f:(Stt.mk w s.t T).good (190005+3*k.size):=⟨by show T.length<=100;omega,fun y A=>by
    rcases BR (H.subset A) with rfl|A;·exact (XW k hk w).mono (by omega)
    exact (zcz (hs.slot y A).1).mono (by omega)⟩
   refine ⟨⟨w,s.t,T⟩,⟨O+201500+3*k.size,fun N S=>?_⟩,⟨O+201500+3*k.size,fun N S=>?_⟩,⟨O+201500+3*k.size,fun N S=>?_⟩⟩
   ·obtain ⟨K,rfl⟩:∃K,N=K+321:=⟨N-321,by omega⟩;have Z:=tN nd s hs k (by omega) w pn j false hj (fun h=>by cases h) (hf w s.t) (k.size+100) pe (K+320) (by omega) (by omega);have Z:Gam.pureD (callF tab ext (K+320)) 39 [.agg nd.cells,.agg s.cells,.agg k.cells]=some (.tup [.agg (Stt.mk w s.t T).cells,boolX true]):=by rw [hT];exact Z
    exact QL nd s i k _ K x (l K (by omega)) (q K (by omega)) E (u _ (by omega)) ⟨w,s.t,T⟩ Z (BZ s hs.ok _ i.m _ (by omega))
   ·obtain ⟨K,rfl⟩:∃K,N=K+321:=⟨N-321,by omega⟩;obtain ⟨i2,b2,ph,pc,W,pf⟩:=SY (190005+3*k.size) T f.len f.slot k;cases b2 with
    |false=>exact absurd (Hq pa po ph (W rfl).1 (W rfl).2) id
    |true=>obtain ⟨J,_⟩:=pc rfl;have zi:=XZ _ ⟨w,s.t,T⟩ f k i2 J (K+319) (pf w s.t _ (by omega)) (by omega);exact Wq nd ⟨w,s.t,T⟩ i k _ K T[i2] (l K (by omega)) (q K (by omega)) E zi (Ws _ _ (by omega) (Gw _ _ f _ (by omega)) nd i.m hm jr)
   obtain ⟨M,rfl⟩:∃M,N=M+2:=⟨N-2,by omega⟩;exact Ez M ⟨w,s.t,T⟩ (by have:=f.len;omega) (by omega) fun y A=>(f.slot y A).refl _ (by omega)
end Ct
open Go.Em
theorem UZ (i:Inp)(hm:i.m.ok):∃b:Bool,∀N,120100<=N->Gam.pureD (callF tab ext N) 12 [.agg i.cells]=some (boolX b):=by
 have f:=hm.body;obtain ⟨c,j⟩:=oW i.m.body f;have a:i.m.body.size<=60000:=f;have jT:=fun M=>nD M i.m.body;generalize dw i.m.body=g at jT;obtain ⟨P,tm,⟨S,U⟩,⟨⟨e,p⟩,Q,o,⟨l,n,q,u,w,y⟩⟩,x,A,B,⟨E,F,H,J,L,O⟩⟩:=i;cases g with
 |true=>refine ⟨true,fun N h=>?_⟩;obtain ⟨M,rfl⟩:∃M,N=M+2:=⟨N-2,by omega⟩;exact puA [(6,.p (boolX true))] (pf1 (jT M)) (boolX true)
 |false=>refine ⟨c==0,fun N h=>?_⟩;obtain ⟨M,rfl⟩:∃M,N=M+2:=⟨N-2,by omega⟩;exact puA [(6,.p (boolX false)),(11,.p (num c))] (pf2 (jT M) (j (M+1) (by dsimp only at a ⊢;omega))) (boolX (c==0))
section
variable (nd nd2:Nod) (s s':Stt) (i i':Inp) (N:Nat) (h45:Gam.pureD (callF tab ext N) 6 [.agg nd.cells,.agg s.cells,.agg i.cells]=some (.tup [.agg nd2.cells,.agg s'.cells,.agg i'.cells]))
 (h40:Gam.pureD (callF tab ext N) 7 []=some (boolX true))
include h45 h40
theorem zeV (h46:Gam.pureD (callF tab ext N) 12 [.agg ({i' with kind:=1}:Inp).cells]=some (boolX false)):callF tab ext (N+1) (.fn 4) [.agg nd.cells,.agg s.cells,.agg i.cells] []=some (.v (.bool true),[]):=by obtain ⟨_,_,⟨_,_⟩,⟨⟨_,_⟩,_,_,⟨_,_,_,_,_,_⟩⟩,_,_,_,⟨_,_,_,_,_,_⟩⟩:=i;obtain ⟨a,l,⟨h,j⟩,⟨⟨q,Q⟩,f,P,⟨F,H,J,L,M,O⟩⟩,W,m,n,⟨u,w,y,A,B,E⟩⟩:=i';obtain ⟨S,U,V⟩:=s';exact caA [(13,.p (.tup [.agg nd2.cells,.agg (Stt.mk S U V).cells,.agg (Inp.mk a l ⟨h,j⟩ ⟨⟨q,Q⟩,f,P,⟨F,H,J,L,M,O⟩⟩ W m n ⟨u,w,y,A,B,E⟩).cells])),(18,.p (boolX true)),(22,.p (boolX false)),(31,.p (boolX true))] (pf4 h45 h40 h46 h40)
variable (c:Int) (h46:Gam.pureD (callF tab ext N) 12 [.agg ({i' with kind:=1}:Inp).cells]=some (boolX true)) (h43:Gam.pureD (callF tab ext N) 13 [.agg nd2.cells,.agg s'.cells]=some (num c))
include h46 h43
theorem zeU (hc:(c !=0)=true):callF tab ext (N+1) (.fn 4) [.agg nd.cells,.agg s.cells,.agg i.cells] []=some (.v (.bool true),[]):=by obtain ⟨_,_,⟨_,_⟩,⟨⟨_,_⟩,_,_,⟨_,_,_,_,_,_⟩⟩,_,_,_,⟨_,_,_,_,_,_⟩⟩:=i;obtain ⟨a,l,⟨h,j⟩,⟨⟨q,Q⟩,f,P,⟨F,H,J,L,M,O⟩⟩,W,m,n,⟨u,w,y,A,B,E⟩⟩:=i';obtain ⟨S,U,V⟩:=s';exact caA [(13,.p (.tup [.agg nd2.cells,.agg (Stt.mk S U V).cells,.agg (Inp.mk a l ⟨h,j⟩ ⟨⟨q,Q⟩,f,P,⟨F,H,J,L,M,O⟩⟩ W m n ⟨u,w,y,A,B,E⟩).cells])),(18,.p (boolX true)),(22,.p (boolX true)),(28,.p (num c)),(29,.b true),(31,.p (boolX true))] (pf6 h45 h40 h46 h43 hc h40)
variable (hc:(c !=0)=false)
include hc
theorem zeT (name r:qaX)(h36:Gam.pureD (callF tab ext N) 10 [.agg nd2.cells,.agg s'.cells,.agg ({i' with kind:=1}:Inp).cells]=some (.agg (fC false s' i'.m name r)))(h39:Gam.pureD (callF tab ext N) 14 [.agg (fC false s' i'.m name r)]=some (boolX false)):
  callF tab ext (N+1) (.fn 4) [.agg nd.cells,.agg s.cells,.agg i.cells] []=some (.v (.bool true),[]):=by
 obtain ⟨_,_,⟨_,_⟩,⟨⟨_,_⟩,_,_,⟨_,_,_,_,_,_⟩⟩,_,_,_,⟨_,_,_,_,_,_⟩⟩:=i;obtain ⟨f,l,⟨h,j⟩,⟨⟨n,F⟩,a,E,⟨q,u,w,y,A,B⟩⟩,Y,M,O,⟨P,Q,S,U,V,W⟩⟩:=i';obtain ⟨H,J,L⟩:=s';exact caA [(13,.p (.tup [.agg nd2.cells,.agg (Stt.mk H J L).cells,.agg (Inp.mk f l ⟨h,j⟩ ⟨⟨n,F⟩,a,E,⟨q,u,w,y,A,B⟩⟩ Y M O ⟨P,Q,S,U,V,W⟩).cells])),(18,.p (boolX true)),(22,.p (boolX true)),(28,.p (num c)),(29,.b false),(35,.p (.agg (fC false (Stt.mk H J L) (Msg.mk ⟨n,F⟩ a E (.mk q u w y A B)) name r))),(37,.p (boolX false))] (pf7 h45 h40 h46 h43 hc h36 h39)
theorem zat (s2:Stt)(name:qaX)(h36:Gam.pureD (callF tab ext N) 10 [.agg nd2.cells,.agg s'.cells,.agg ({i' with kind:=1}:Inp).cells]=some (.agg (Ct.G6 s2 i'.m 0)))(h39:Gam.pureD (callF tab ext N) 14 [.agg (Ct.G6 s2 i'.m 0)]=some (boolX true))
  (znh:Gam.pureD (callF tab ext N) 10 [.agg nd2.cells,.agg s2.cells,.agg ({i' with kind:=1}:Inp).cells]=some (.agg (fC false s2 i'.m name Ct.jr))) (h50:Gam.pureD (callF tab ext N) 15 [.agg s2.cells,.agg s2.cells]=some (boolX true)):
  callF tab ext (N+1) (.fn 4) [.agg nd.cells,.agg s.cells,.agg i.cells] []=some (.v (.bool true),[]):=by
 obtain ⟨_,_,⟨_,_⟩,⟨⟨_,_⟩,_,_,⟨_,_,_,_,_,_⟩⟩,_,_,_,⟨_,_,_,_,_,_⟩⟩:=i;obtain ⟨w,F,⟨B,E⟩,⟨⟨f,A⟩,a,y,⟨h,j,l,n,q,u⟩⟩,x',M,O,⟨P,Q,S,U,V,W⟩⟩:=i';obtain ⟨Y,Z,ss⟩:=s';obtain ⟨H,J,L⟩:=s2;exact caA [(13,.p (.tup [.agg nd2.cells,.agg (Stt.mk Y Z ss).cells,.agg (Inp.mk w F ⟨B,E⟩ ⟨⟨f,A⟩,a,y,⟨h,j,l,n,q,u⟩⟩ x' M O ⟨P,Q,S,U,V,W⟩).cells])),(18,.p (boolX true)),(22,.p (boolX true)),(28,.p (num c)),(29,.b false),(35,.p (.agg (Ct.G6 (Stt.mk H J L) (Msg.mk ⟨f,A⟩ a y (.mk h j l n q u)) 0))),(37,.p (boolX true)),(43,.p (.agg (fC false (Stt.mk H J L) (Msg.mk ⟨f,A⟩ a y (.mk h j l n q u)) name Ct.jr))),(75,.p (boolX true))] (pf9 h45 h40 h46 h43 hc h36 h39 znh h50)
end
theorem dtwice_all (cn:List X)(hcn:isNode cn)(s:Stt)(i:Inp):∃n,callF tab ext n (.fn 4) [.agg cn,.agg s.cells,.agg i.cells] []=some (.v (.bool true),[]):=by
 obtain ⟨j,a,rfl,L,q⟩:=Ag hcn;have O:({a with kind:=6}:Nod).small:=L;have S:=lG s;have Y:=qO s;have Q:(fO i).m.ok:=by rw [BM];exact pK i.m
 obtain ⟨v,Z⟩:=lH i;obtain ⟨c,J,F⟩:=AU {a with kind:=6} (shortS s) S;have f:∀N,400<=N->Gam.pureD (callF tab ext N) 7 []=some (boolX true):=fun N hN=>by obtain ⟨M,rfl⟩:∃M,N=M+400:=⟨N-400,by omega⟩;exact rG M
 obtain ⟨vb,h⟩:=UZ {fO i with kind:=1} Q;cases vb with
 |false=>exact ⟨190401,zeV j _ s _ i _ 190400 (cO j a q s i _ (by omega)) (f _ (by omega)) (h _ (by omega))⟩
 |true=>
  cases l:(c !=0) with
  |true=>exact ⟨190401,zeU j _ s _ i _ 190400 (cO j a q s i _ (by omega)) (f _ (by omega)) c (h _ (by omega)) (F _ (by omega)) l⟩
  |false=>
   have H:c=0:=by simpa using l
   have P:=J H;obtain ⟨U,V,W⟩:=xQ P;rcases Ct.twice {a with kind:=6} O (shortS s) S Y U P.lo (fun x hx=>(V x hx).2) W (fO i) Q v Z with ⟨r,B,y⟩|⟨s2,⟨B,y⟩,⟨u,A⟩,⟨w,E⟩⟩;·exact ⟨B+190401,zeT j _ s _ i _ (B+190400) (cO j a q s i _ (by omega)) (f _ (by omega)) c (h _ (by omega)) (F _ (by omega)) l _ r (y _ (by omega)) (E8 _ _ _ r (B+190398))⟩
   exact ⟨B+u+w+190401,zat j _ s _ i _ (B+u+w+190400) (cO j a q s i _ (by omega)) (f _ (by omega)) c (h _ (by omega)) (F _ (by omega)) l s2 _ (y _ (by omega)) (zZ _ _ (B+u+w+190398)) (A _ (by omega)) (E _ (by omega))⟩
end Go.Proofs.YtcbeoccmflnejaaGreatDoor
