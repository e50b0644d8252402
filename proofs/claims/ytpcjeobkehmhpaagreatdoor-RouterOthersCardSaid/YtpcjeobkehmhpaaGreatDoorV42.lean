/-.-/
import Derived.Test.YtpcjeobkehmhpaaGreatDoorV14
import Derived.Test.YtpcjeobkehmhpaaGreatDoorV17
import Derived.Test.YtpcjeobkehmhpaaGreatDoorV33
import Derived.Test.YtpcjeobkehmhpaaGreatDoorV41
set_option linter.all false
namespace Go.Proofs.YtpcjeobkehmhpaaGreatDoor
open Go Go.Em Go.Ab
set_option maxRecDepth 100000
variable {u v:Bool}{nm s t:qaY}{H h i k n op:Int}{ar f l vs:qaX}{c e x x0:List X}
namespace Ct
theorem QN (h0:0<=h)(hx:IsL T h [int,int,int,.s,.slh 6 1,.slh 7 2] x):∃(a b c:Int) (s:qaY) (t:Bool) (l:qaX) (t':Bool) (f:qaX),D T (h+1) 1 [num a,num b,num c,aF s,.sl t 6 l,.sl t' 7 f]/\∃B,∀N,B<=N->Gam.aC (ah tab ext N) 46 [.agg x]=some (.agg [num a,num b,num c,aF s,.sl t 6 l,.sl t' 7 f]):=by
 obtain ⟨ρ,V,n⟩:=ztC (f:=46) (l:=[int,int,int,.s,.slh 6 1,.slh 7 2]) (mu:=some (1,0)) (outs:=[(.ag [int,int,int,.s,.bs 0,.bs 1],[.y7 6 1 1 12,.y7 7 2 1 13])]) rfl h0 hx;obtain ⟨o,U,ρ',r,bx,u,q,L,M,B,P⟩:=pV _ (qar ..) ρ _ _ n;obtain rfl:=qaa.1 U;have z:ρ' 0=0:=u.zero n.pos n.zero;have k1:ρ' 1=h:=by rw [u.same 1 (by decide)];exact V
 obtain ⟨y,W,O⟩:=G.data (y:=.agg [.i .i64 ⟨8,0⟩,.i .i64 ⟨9,0⟩,.i .i64 ⟨10,0⟩,.s ⟨11,0⟩,.sl (some false) 6 1 ⟨1,0⟩ ⟨12,0⟩,.sl (some false) 7 2 ⟨1,0⟩ ⟨13,0⟩]) (raw:=false) q M z L (by kernel_rfl);have j:∀k,k=11\/k=12\/k=13->0<=Lin.v ⟨k,0⟩ ρ'/\Lin.v ⟨k,0⟩ ρ'<=1000000:=fun k S=>fV (l:=⟨k,0⟩) (lo:=0) (hi:=1000000) z (fun f m=>q f (by
  rcases S with rfl|rfl|rfl
  all_goals
   rcases qak.1 m with rfl|m;·simp [LW,Sh.bld,oO,um,bnd,bT]
   obtain rfl:=qaa.1 m;simp [LW,Sh.bld,oO,um,bnd,bT]))
 have F:=j 11 (.inl rfl);have H:=j 12 (.inr (.inl rfl));have J:=j 13 (.inr (.inr rfl));obtain ⟨cs,rfl,Y⟩:=zaK O;obtain ⟨x1,r1,rfl,w1,Z⟩:=dB Y;obtain ⟨x2,r2,rfl,w2,v2⟩:=dB Z;obtain ⟨x3,r3,rfl,w3,v3⟩:=dB v2;obtain ⟨x4,r4,rfl,w4,v4⟩:=dB v3;obtain ⟨x5,r5,rfl,w5,v5⟩:=dB v4;obtain ⟨x6,r6,rfl,w6,v6⟩:=dB v5;obtain rfl:=zaH v6;obtain ⟨a,rfl⟩:=g_i w1;obtain ⟨b,rfl⟩:=g_i w2;obtain ⟨c,rfl⟩:=g_i w3;obtain ⟨s,rfl,e4⟩:=g_s w4;obtain ⟨t,l,rfl,e5,A⟩:=zp0 w5;obtain ⟨t',f,rfl,e6,E⟩:=zp0 w6;refine ⟨a,b,c,s,t,l,t',f,dJ (by omega) (qaa.2 rfl) ?_,B,fun N Q=>aZ (P N Q) W⟩;rw [Int.add_sub_cancel];have v7:Lin.v ⟨1,0⟩ ρ'=h:=by unfold Lin.v;dsimp only;omega
 rw [v7] at A E;exact ⟨⟨rfl,(fun a e=>by cases e),(fun a e=>by cases e)⟩,⟨rfl,(fun a e=>by cases e),(fun a e=>by cases e)⟩,⟨rfl,(fun a e=>by cases e),(fun a e=>by cases e)⟩,⟨by omega,by omega⟩,⟨rfl,by omega,by omega,A⟩,⟨rfl,by omega,by omega,E⟩,trivial⟩
theorem zgZ {x:X}(hx:val.Is T 0 x):∃(h' a b c:Int) (s:qaY) (t:Bool) (l:qaX) (t':Bool) (f:qaX),x=.agg [num a,num b,num c,aF s,.sl t 6 l,.sl t' 7 f]/\0<=h'/\IsL T h' [int,int,int,.s,.slh 6 1,.slh 7 2] [num a,num b,num c,aF s,.sl false 6 l,.sl false 7 f]:=by
 obtain ⟨h',xs,rfl,h,j⟩:∃h' xs,x=.agg xs/\0<=h'/\IsL T h' [int,int,int,.s,.slh 6 1,.slh 7 2] xs:=hx
 match xs,j with
 |[_,_,_,_,_,_],⟨⟨a,rfl⟩,⟨b,rfl⟩,⟨c,rfl⟩,⟨s,rfl,k1⟩,⟨t,l,rfl,k2,k3⟩,⟨t',f,rfl,k4,k5⟩,_⟩=>exact ⟨h',a,b,c,s,t,l,t',f,rfl,h,⟨a,rfl⟩,⟨b,rfl⟩,⟨c,rfl⟩,⟨s,rfl,k1⟩,⟨false,l,rfl,k2,k3⟩,⟨false,f,rfl,k4,k5⟩,trivial⟩
theorem zdW {b:Bx}(hb:(BSh.mP 0 6 oN).Is T b):∃(a b' c:Int) (s:qaY) (t:Bool) (l:qaX) (t':Bool) (f:qaX) (e:Int),b=.var [num a,num b',num c,aF s,.sl t 6 l,.sl t' 7 f,num e]/\0<=e/\e<=100:=by
 obtain ⟨h',xs,rfl,_,_,h⟩:∃h' xs,b=.var xs/\0<=h'/\h'<=6/\IsL T h' oN xs:=hb
 match xs,h with
 |[_,_,_,_,_,_,_],⟨⟨a,rfl⟩,⟨b,rfl⟩,⟨c,rfl⟩,⟨s,rfl,_⟩,⟨t,l,rfl,_⟩,⟨t',f,rfl,_⟩,⟨e,rfl,er⟩,_⟩=>exact ⟨a,b,c,s,t,l,t',f,e,rfl,er⟩
theorem Nr {h:Nat}(hh:h<=900)(hx:okE h [num op,num n,aF s,.sl u 6 vs,.sl v 5 ar])(hx0:D T 7 11 x0):∃y e,((∃H,D T H 1 y)/\0<=e/\e<=100)/\Back 87 [.agg [num op,num n,aF s,.sl u 6 vs,.sl v 5 ar],.agg x0] (.tup [.agg y,num e]):=by
 have U:okE h [num op,num n,aF s,.sl false 6 vs,.sl false 5 ar]:=by
  cases h with
  |zero=>exact hx.elim
  |succ h=>obtain ⟨pb,n',s',u',pc,v',pa,e,hr⟩:=hx;simp only [num,aF,List.cons.injEq,X.v.injEq,Value.int.injEq,Value.string.injEq,X.sl.injEq,and_true,true_and] at e;obtain ⟨rfl,rfl,rfl,⟨_,rfl⟩,⟨_,rfl⟩⟩:=e;exact ⟨op,n,s,false,vs,false,ar,rfl,hr⟩
 have j:∀{r:X} {B:Nat},(∀M,B<=M->ah tab ext (M+1) (.fn 87) [.agg [num op,num n,aF s,.sl u 6 vs,.sl v 5 ar],.agg x0] []=some (r,[]))->Back 87 [.agg [num op,num n,aF s,.sl u 6 vs,.sl v 5 ar],.agg x0] r:=fun {r B} h=>⟨B+1,fun N hN=>by obtain ⟨M,rfl⟩:=pR_ N;exact h M (by omega)⟩;have hz:D T 1 1 [num 0,num 0,num 0,bD,.sl true 6 [],.sl true 7 []]:=dJ (by decide) (qaa.2 rfl) ⟨⟨rfl,(fun a e=>by cases e),(fun a e=>by cases e)⟩,⟨rfl,(fun a e=>by cases e),(fun a e=>by cases e)⟩,⟨rfl,(fun a e=>by cases e),(fun a e=>by cases e)⟩,⟨by decide,by decide⟩,⟨rfl,by decide,by decide,fun e A=>by cases A⟩,⟨rfl,by decide,by decide,fun e A=>by cases A⟩,trivial⟩;obtain ⟨c,⟨S,cr⟩,q⟩:=WO hh U;obtain ⟨L,q⟩:=ig q rfl;obtain ⟨_,a,b,d,s1,t,l,w,f,rfl,V,W,k3,k4,k5⟩:=d11 (h:=6) hx0;cases F:(c !=0) with
 |true=>exact ⟨_,c,⟨⟨1,hz⟩,cr⟩,j (B:=L) fun M J=>caA [(10,.p (num c)),(12,.b true)] (pf2 (q M J) F) (r:=some (.tup [.agg [num 0,num 0,num 0,bD,.sl true 6 [],.sl true 7 []],num c],[]))⟩
 |false=>
  cases P:(a !=9) with
  |true=>exact ⟨_,11,⟨⟨1,hz⟩,by decide,by decide⟩,j (B:=L) fun M J=>caA [(10,.p (num c)),(12,.b false),(17,.b true)] (pf3 (q M J) F P) (r:=some (.tup [.agg [num 0,num 0,num 0,bD,.sl true 6 [],.sl true 7 []],num 11],[]))⟩
  |false=>
   have hd:=S (by simpa using F);obtain ⟨o,ho,r,bx,hi,Q,Y,A⟩:=dX (f:=120) (args:=[.p 0,.el 10]) (inb:=[.mP 0 6 oN]) (mu:=some (1,0)) (outs:=[(val,[.mP 0 6 oN])]) (zoB evA (qar ..)) rfl rfl (xs:=[.ptr 0 0 0,.agg [num op,num n,aF s,.sl false 6 vs,.sl false 5 ar]])
    ⟨rfl,⟨_,9+(h:Int),rfl,by omega,hd⟩,trivial⟩ (bx:=[.var [num a,num b,num d,aF s1,.sl t 6 l,.sl w 7 f,num 0]]) ⟨⟨6,_,rfl,by decide,by decide,⟨a,rfl⟩,⟨b,rfl⟩,⟨d,rfl⟩,⟨s1,rfl,by unfold bT;omega⟩,⟨t,l,rfl,by omega,by omega,k4⟩,⟨w,f,rfl,by omega,by omega,k5⟩,⟨0,rfl,by decide,by decide⟩,trivial⟩,trivial⟩
   obtain rfl:=qaa.1 ho
   match bx,Q with
   |[bb],⟨Q,_⟩=>
    obtain ⟨k0,V,W,s4,t2,ml,w2,mf,E,rfl,err⟩:=zdW Q;obtain ⟨h',Z,b',d',s2,t',l',w',f',rfl,O,m⟩:=zgZ hi;cases h3:(E !=0) with
    |true=>exact ⟨_,E,⟨⟨1,hz⟩,err⟩,j (B:=max L Y) fun M J=>caA [(10,.p (num c)),(12,.b false),(17,.b false),(24,.r (.agg [num Z,num b',num d',aF s2,.sl t' 6 l',.sl w' 7 f']) [.var [num k0,num V,num W,aF s4,.sl t2 6 ml,.sl w2 7 mf,num E]]),(29,.b true)] (pf5 (q M (by omega)) F P (A M (by omega)) h3) (r:=some (.tup [.agg [num 0,num 0,num 0,bD,.sl true 6 [],.sl true 7 []],num E],[]))⟩
    |false=>obtain ⟨a2,b2,d2,s3,t3,l2,w3,f2,hy,B3,m⟩:=QN O m;exact ⟨_,0,⟨⟨_,hy⟩,by decide,by decide⟩,j (B:=L+Y+B3) fun M J=>caA [(10,.p (num c)),(12,.b false),(17,.b false),(24,.r (.agg [num Z,num b',num d',aF s2,.sl t' 6 l',.sl w' 7 f']) [.var [num k0,num V,num W,aF s4,.sl t2 6 ml,.sl w2 7 mf,num E]]),(29,.b false),(36,.p (.agg [num a2,num b2,num d2,aF s3,.sl t3 6 l2,.sl w3 7 f2]))] (pf6 (q M (by omega)) F P (A M (by omega)) h3 (m M (by omega))) (r:=some (.tup [.agg [num a2,num b2,num d2,aF s3,.sl t3 6 l2,.sl w3 7 f2],num 0],[]))⟩
end Ct
namespace Ct
theorem Zu (hd:D T (H+1) 1 x):∃g,∃B,∀N,B<=N->Gam.aC (ah tab ext N) 67 [.agg x]=some (aj g):=by
 obtain ⟨o,h,r,bx,a,l,B,j⟩:=dX (yC _ (qaa.2 rfl)) rfl rfl (xs:=[.agg x]) ⟨zgH hd,trivial⟩ (bx:=[]) trivial;rcases qak.1 h with rfl|h;·obtain rfl:=nK l;have a:r=aj true:=a;subst a;exact ⟨true,B,fun N f=>aZ (j N f) rfl⟩
 obtain rfl:=qaa.1 h;obtain rfl:=nK l;have a:r=aj false:=a;subst a;exact ⟨false,B,fun N f=>aZ (j N f) rfl⟩
theorem zgI (hd:D T H 1 x):∃(a b c:Int) (s:qaY) (t:Bool) (l:qaX) (t':Bool) (f:qaX),x=[num a,num b,num c,aF s,.sl t 6 l,.sl t' 7 f]/\D T H 1 [num a,num b,num c,aF s,.sl false 6 l,.sl false 7 f]:=by
 obtain ⟨j,h,m,n⟩:=l9 hd;obtain rfl:=qaa.1 m
 match x,n with
 |[_,_,_,_,_,_],⟨k1,k2,k3,k4,k5,k6,_⟩=>obtain ⟨a,rfl⟩:=kC k1;obtain ⟨b,rfl⟩:=kC k2;obtain ⟨c,rfl⟩:=kC k3;obtain ⟨s,rfl,q,u⟩:=zgG k4;obtain ⟨t,l,rfl,y,A,B⟩:=zQ k5;obtain ⟨t',f,rfl,E,F,J⟩:=zQ k6;exact ⟨a,b,c,s,t,l,t',f,rfl,dJ j (qaa.2 rfl) ⟨⟨rfl,(fun a e=>by cases e),(fun a e=>by cases e)⟩,⟨rfl,(fun a e=>by cases e),(fun a e=>by cases e)⟩,⟨rfl,(fun a e=>by cases e),(fun a e=>by cases e)⟩,⟨q,u⟩,⟨rfl,y,A,B⟩,⟨rfl,E,F,J⟩,trivial⟩⟩
theorem Zq {h:Nat}(hx:okE h [num op,num n,aF s,.sl u 6 vs,.sl v 5 ar]):okE h [num op,num n,aF s,.sl false 6 vs,.sl false 5 ar]:=by
 cases h with
 |zero=>exact hx.elim
 |succ h=>obtain ⟨j,m,q,y,l,A,a,e,f⟩:=hx;simp only [num,aF,List.cons.injEq,X.v.injEq,Value.int.injEq,Value.string.injEq,X.sl.injEq,and_true,true_and] at e;obtain ⟨rfl,rfl,rfl,⟨_,rfl⟩,⟨_,rfl⟩⟩:=e;exact ⟨op,n,s,false,vs,false,ar,rfl,f⟩
theorem zbv {h:Nat}(hh:h<=900)(hx:okE h [num op,num n,aF s,.sl u 6 vs,.sl v 5 ar])(hx0:D T 7 11 x0):∃(g:Bool) (e:Int),(0<=e/\e<=100)/\Back 63 [.agg [num op,num n,aF s,.sl u 6 vs,.sl v 5 ar],.agg x0] (.tup [aj g,num e]):=by
 have j:∀{r:X} {B:Nat},(∀M,B<=M->ah tab ext (M+1) (.fn 63) [.agg [num op,num n,aF s,.sl u 6 vs,.sl v 5 ar],.agg x0] []=some (r,[]))->Back 63 [.agg [num op,num n,aF s,.sl u 6 vs,.sl v 5 ar],.agg x0] r:=fun {r B} h=>⟨B+1,fun N hN=>by obtain ⟨M,rfl⟩:=pR_ N;exact h M (by omega)⟩;obtain ⟨_,a,b,d,s1,t,l,w,f,rfl,_⟩:=d11 (h:=6) hx0;obtain ⟨y,e,⟨⟨H,hy⟩,Z⟩,A⟩:=Nr hh (Zq hx) (oJ hx0);obtain ⟨m,q,E,L,t',J,w',F,rfl,W⟩:=zgI hy;obtain ⟨O,A⟩:=ig A (y:=.tup [.agg [num m,num q,num E,aF L,.sl false 6 J,.sl false 7 F],num e]) rfl;obtain ⟨g,S,U⟩:=Zu (H:=H-1) (by rw [Int.sub_add_cancel];exact W);cases P:(e !=0) with
 |true=>exact ⟨false,e,Z,j (B:=O) fun M Q=>caA [(11,.p (.tup [.agg [num m,num q,num E,aF L,.sl false 6 J,.sl false 7 F],num e])),(16,.b true)] (pf2 (A M Q) P) (r:=some (.tup [aj false,num e],[]))⟩
 |false=>
  cases g with
  |true=>exact ⟨false,19,by decide,j (B:=max O S) fun M Q=>caA [(11,.p (.tup [.agg [num m,num q,num E,aF L,.sl false 6 J,.sl false 7 F],num e])),(16,.b false),(20,.p (aj true)),(18,.b true)] (pf4 (A M (by omega)) P (U M (by omega)) (show true=true from rfl)) (r:=some (.tup [aj false,num 19],[]))⟩
  |false=>
   cases V:(m !=1) with
   |true=>exact ⟨false,18,by decide,j (B:=max O S) fun M Q=>caA [(11,.p (.tup [.agg [num m,num q,num E,aF L,.sl false 6 J,.sl false 7 F],num e])),(16,.b false),(20,.p (aj false)),(18,.b false),(24,.b true)] (pf5 (A M (by omega)) P (U M (by omega)) (show false=false from rfl) V) (r:=some (.tup [aj false,num 18],[]))⟩
   |false=>
    cases Y:(q==1) with
    |true=>exact ⟨true,0,by decide,j (B:=max O S) fun M Q=>caA [(11,.p (.tup [.agg [num m,num q,num E,aF L,.sl false 6 J,.sl false 7 F],num e])),(16,.b false),(20,.p (aj false)),(18,.b false),(24,.b false),(27,.b true)] (pf6 (A M (by omega)) P (U M (by omega)) (show false=false from rfl) V Y) (r:=some (.tup [aj true,num 0],[]))⟩
    |false=>exact ⟨false,0,by decide,j (B:=max O S) fun M Q=>caA [(11,.p (.tup [.agg [num m,num q,num E,aF L,.sl false 6 J,.sl false 7 F],num e])),(16,.b false),(20,.p (aj false)),(18,.b false),(24,.b false),(27,.b false)] (pf6 (A M (by omega)) P (U M (by omega)) (show false=false from rfl) V Y) (r:=some (.tup [aj false,num 0],[]))⟩
end Ct
open Go.Em
theorem zbf (m:Msg)(hm:m.ok)(name r:qaY)(N:Nat)(hN:300<=N):Gam.aC (ah tab ext N) 53 [.agg m.cells,aF name,num 4,.sl false 1 [[.fn 54 [.dp [aF r]]]]]=some (.agg (Fte.mk m.st 4 name [] r).cells):=by obtain ⟨M,rfl⟩:∃M,N=M+101:=⟨N-101,by omega⟩;have a:=lW (M+98) m.st hm.st;obtain ⟨⟨e,p⟩,u,o,⟨f,h,j,l,n,q⟩⟩:=m;exact puA [(14,.p (.agg (Stp.mk e p).cells))] (pf1 a) (.agg [num e,.sl false 1 (aI p),num 4,aF name,.sl true 2 [],aF r])
theorem iD (m:Msg)(hm:m.ok)(name r:qaY)(N:Nat)(hN:310<=N):Gam.aC (ah tab ext N) 21 [.agg m.cells,aF name,aF r]=some (.agg (Fte.mk m.st 4 name [] r).cells):=by obtain ⟨M,rfl⟩:=pR_ N;have a:=zbf m hm name r M (by omega);obtain ⟨⟨e,p⟩,u,o,⟨f,h,j,l,n,q⟩⟩:=m;exact puA [(11,.p (.agg (Fte.mk ⟨e,p⟩ 4 name [] r).cells))] (pf1 a) (.agg (Fte.mk ⟨e,p⟩ 4 name [] r).cells)
def zgg (nm:qaY)(b:Val):Val:=.mk 9 0 0 ⟨#[]⟩ [] (if jl b then [] else [(nm,b)])
theorem Y2 (nm:qaY)(b:Val):(zgg nm b).size<=b.size+2:=by
 unfold zgg;split;·simp [Val.size,tC,tH]
 simp [Val.size,tC,tH]
theorem Y3 (nm:qaY)(b:Val)(hb:b.size<100000)(N:Nat)(hN:200400<=N):Gam.aC (ah tab ext N) 62 [.sl false 7 [aF nm::b.cells]]=some (.agg (zgg nm b).cells):=by
 obtain ⟨M,rfl⟩:∃M,N=M+301:=⟨N-301,by omega⟩;have m:=Y2 nm b;have a:=jy (M+300) (zgg nm b) (by omega) (by omega);have j:=Sv (M+299) b;unfold zgg at a ⊢;obtain ⟨k,i,s,t,l,f⟩:=b;cases h:jl (.mk k i s t l f) with
 |true=>rw [h] at a j;exact puA [(23,.p (aj true)),(40,.p (.agg (Val.mk 9 0 0 ⟨#[]⟩ [] []).cells))] (pf3 j (Nat.le_refl 0) a) (.agg (Val.mk 9 0 0 ⟨#[]⟩ [] []).cells)
 |false=>rw [h] at a j;exact puA [(23,.p (aj false)),(40,.p (.agg (Val.mk 9 0 0 ⟨#[]⟩ [] [(nm,.mk k i s t l f)]).cells))] (pf3 j (Nat.le_refl 1) a) (.agg (Val.mk 9 0 0 ⟨#[]⟩ [] [(nm,.mk k i s t l f)]).cells)
def zU (b:Val):Val:=zgg ⟨#[98,111,100,121]⟩ b
theorem kW (b:Val)(hb:b.ok)(N:Nat)(hN:200410<=N):Gam.aC (ah tab ext N) 33 [.agg b.cells]=some (.agg (zU b).cells):=by obtain ⟨M,rfl⟩:=pR_ N;have y:=jy M b (by unfold Val.ok at hb;omega) (by unfold Val.ok at hb;omega);have h:=Y3 ⟨#[98,111,100,121]⟩ b (by unfold Val.ok at hb;omega) M (by omega);unfold zU;generalize zgg ⟨#[98,111,100,121]⟩ b=r at h ⊢;obtain ⟨k,i,s,t,l,f⟩:=b;obtain ⟨m,j,q,u,n,a⟩:=r;exact puA [(4,.p (.agg (Val.mk k i s t l f).cells)),(7,.p (.agg (Val.mk m j q u n a).cells))] (pf2 y h) (.agg (Val.mk m j q u n a).cells)
namespace Ct
theorem zgF (hd:D T h 11 c)(hn:nm.size<=1000000):D T h 12 (aF nm::c):=by
 obtain ⟨f,a,j,l⟩:=l9 hd;obtain rfl:=qaa.1 j
 match c,l with
 |[_,_,_,_,_,_],⟨k1,k2,k3,k4,k5,k6,_⟩=>exact dJ f (qaa.2 rfl) ⟨⟨Nat.zero_le _,hn⟩,k1,k2,k3,k4,k5,k6,trivial⟩
theorem zsq (hd:D T h 1 c)(hn:nm.size<=1000000):D T h 2 (aF nm::c):=by
 obtain ⟨f,a,j,l⟩:=l9 hd;obtain rfl:=qaa.1 j
 match c,l with
 |[_,_,_,_,_,_],⟨k1,k2,k3,k4,k5,k6,_⟩=>exact dJ f (qaa.2 rfl) ⟨⟨Nat.zero_le _,hn⟩,k1,k2,k3,k4,k5,k6,trivial⟩
theorem Gv {l:List Val}(h:e∈au l):∃u,u∈l/\e=u.cells:=by
 rw [kD] at h
 grind
theorem xZ {l:List (qaY×Val)}(h:e∈aA l):∃p,p∈l/\e=aF p.1::p.2.cells:=by obtain ⟨j,f,rfl⟩:=qaT h;have m:=bg l;have a:=iF (l:=l) (j:=j) (by omega)<;>grind
theorem zmx {s:Int}(h1:1<=h)(ht:t.size<=1000000)(hl:l.length<=1000000)(hf:f.length<=1000000)(dl:∀e,e∈l->D T (h-1) 1 e)(df:∀e,e∈f->D T (h-1) 2 e):D T h 1 [num k,num i,num s,aF t,.sl u 6 l,.sl v 7 f]:=
 dJ h1 (qaa.2 rfl) ⟨⟨rfl,(fun a e=>by cases e),(fun a e=>by cases e)⟩,⟨rfl,(fun a e=>by cases e),(fun a e=>by cases e)⟩,⟨rfl,(fun a e=>by cases e),(fun a e=>by cases e)⟩,⟨Nat.zero_le _,ht⟩,⟨rfl,Nat.zero_le _,hl,dl⟩,⟨rfl,Nat.zero_le _,hf,df⟩,trivial⟩
theorem Oc {s:Int}(h1:1<=h)(ht:t.size<=1000000)(hl:l.length<=6)(hf:f.length<=6)(dl:∀e,e∈l->D T (h-1) 11 e)(df:∀e,e∈f->D T (h-1) 12 e):D T h 11 [num k,num i,num s,aF t,.sl u 6 l,.sl v 7 f]:=
 dJ h1 (qaa.2 rfl) ⟨⟨rfl,(fun a e=>by cases e),(fun a e=>by cases e)⟩,⟨rfl,(fun a e=>by cases e),(fun a e=>by cases e)⟩,⟨rfl,(fun a e=>by cases e),(fun a e=>by cases e)⟩,⟨Nat.zero_le _,ht⟩,⟨rfl,Nat.zero_le _,hl,dl⟩,⟨rfl,Nat.zero_le _,hf,df⟩,trivial⟩
theorem Bd:∀(n:Nat) (v:Val),D T ((n:Int)+1) 11 (aV n v).cells
 |0,.mk k i s t l f=>Oc (by decide) (by grind[jP]) (Nat.zero_le _) (Nat.zero_le _) (fun e he=>by cases he) (fun e he=>by cases he)
 |n+1,.mk k i s t l f=>by
  have h40:=jP 40 t;refine Oc (by omega) (by omega) ?_ ?_ (fun e he=>?_) (fun e he=>?_)
  ·grind[aS]
  ·grind[bg]
  ·obtain ⟨u,hu,rfl⟩:=Gv he;obtain ⟨w,_,rfl⟩:=qal.1 hu;rw [show ((n+1:Nat):Int)+1-1=(n:Int)+1 by omega];exact Bd n w
  obtain ⟨p,hp,rfl⟩:=xZ he;obtain ⟨q,_,rfl⟩:=qal.1 hp;rw [show ((n+1:Nat):Int)+1-1=(n:Int)+1 by omega];have:=jP 40 q.1;exact zgF (Bd n q.2) (by grind)
theorem Ae:∀(n:Nat) (v:Val),D T ((n:Int)+1) 1 (aV n v).cells
 |0,.mk k i s t l f=>zmx (by decide) (by grind[jP]) (Nat.zero_le _) (Nat.zero_le _) (fun e he=>by cases he) (fun e he=>by cases he)
 |n+1,.mk k i s t l f=>by
  have h40:=jP 40 t;refine zmx (by omega) (by omega) ?_ ?_ (fun e he=>?_) (fun e he=>?_)
  ·grind[aS]
  ·grind[bg]
  ·obtain ⟨u,hu,rfl⟩:=Gv he;obtain ⟨w,_,rfl⟩:=qal.1 hu;rw [show ((n+1:Nat):Int)+1-1=(n:Int)+1 by omega];exact Ae n w
  obtain ⟨p,hp,rfl⟩:=xZ he;obtain ⟨q,_,rfl⟩:=qal.1 hp;rw [show ((n+1:Nat):Int)+1-1=(n:Int)+1 by omega];have:=jP 40 q.1;exact zsq (Ae n q.2) (by grind)
theorem zoE (v:Val):D T 7 11 (zU (aV 4 v)).cells:=by
 refine gu (h:=6) (by decide) ?_;unfold zU zgg;refine Oc (by decide) (by decide) (Nat.zero_le _) ?_ (fun e a=>by cases a) (fun e a=>?_)
 ·grind[bg]
 obtain ⟨p,f,rfl⟩:=xZ a;split at f
 ·grind
 obtain rfl:=qaa.1 f;exact zgF (Bd 4 v) (show 4<=1000000 by decide)
theorem OC (k:Int):∃g,∀N,1<=N->Gam.aC (ah tab ext N) 260 [num k]=some (aj g):=by
 cases a:decide (k>=1) with
 |true=>
  cases f:decide (k<=7) with
  |true=>exact ⟨true,fun N h=>by obtain ⟨M,rfl⟩:=pR_ N;exact puA [(4,.b true),(7,.b true)] (pf2 a f) (aj true)⟩
  |false=>exact ⟨false,fun N h=>by obtain ⟨M,rfl⟩:=pR_ N;exact puA [(4,.b true),(7,.b false)] (pf2 a f) (aj false)⟩
 |false=>exact ⟨false,fun N h=>by obtain ⟨M,rfl⟩:=pR_ N;exact puA [(4,.b false)] (pf1 a) (aj false)⟩
theorem len2 {α:Type}(a b:α)(r:List α):(Int.ofNat (a::b::r).length==0)=false/\(Int.ofNat (a::b::r).length==1)=false:=by grind
theorem Ux (vs:qaX)(hv:∀v,v∈vs->∃w:Val,v=(aV 1 w).cells):∃c:Int,((c=0->1<=vs.length)/\0<=c/\c<=100)/\∃B,∀N,B<=N->Gam.aC (ah tab ext N) 216 [.sl false 6 vs]=some (num c):=by
 match vs,hv with
 |[],_=>exact ⟨4,⟨(fun e=>by cases e),by decide,by decide⟩,1,fun N j=>by obtain ⟨M,rfl⟩:=pR_ N;exact puA [] pf0 (num 4)⟩
 |[v],hv=>
  obtain ⟨w,rfl⟩:=hv v (qaa.2 rfl);have h:=Ad (n:=1) w (by decide);obtain ⟨c,F,m⟩:=Uz (aV 1 w) h;generalize aV 1 w=u at m h;have H:u.size<=60000:=h;obtain ⟨k,i,s,t,l,f⟩:=u;obtain ⟨g,E⟩:=OC k;cases q:(c !=0) with
  |true=>exact ⟨c,⟨fun _=>Nat.le_refl _,F⟩,130000,fun N j=>by obtain ⟨M,rfl⟩:=pR_ N;exact puA [(13,.p (num c)),(15,.b true)] (pf2 (m M (by omega)) q) (num c)⟩
  |false=>
   cases g with
   |true=>exact ⟨0,⟨fun _=>Nat.le_refl _,by decide,by decide⟩,130000,fun N j=>by obtain ⟨M,rfl⟩:=pR_ N;exact puA [(13,.p (num c)),(15,.b false),(21,.p (aj true))] (pf3 (m M (by omega)) q (E M (by omega))) (num 0)⟩
   |false=>exact ⟨18,⟨fun _=>Nat.le_refl _,by decide,by decide⟩,130000,fun N j=>by obtain ⟨M,rfl⟩:=pR_ N;exact puA [(13,.p (num c)),(15,.b false),(21,.p (aj false))] (pf3 (m M (by omega)) q (E M (by omega))) (num 18)⟩
 |a::b::r,_=>obtain ⟨y,A⟩:=len2 a b r;generalize a::b::r=vs at y A;exact ⟨3,⟨(fun e=>by cases e),by decide,by decide⟩,1,fun N j=>by obtain ⟨M,rfl⟩:=pR_ N;exact puA [(7,.b false),(9,.b false)] (pf2 y A) (num 3)⟩
theorem Cj:∀(h:Nat) (x:List X),sE h x->okE h x
 |0,_,hx=>hx.elim
 |h+1,x,⟨o,i,t,vs,es,e,h1,h2,h3,h4,h5⟩=>⟨o,i,t,false,vs,false,es,e,by omega,by omega,by omega,(fun v hv=>by obtain ⟨w,rfl⟩:=h3 v hv;exact gu (h:=2) (by decide) (Ae 1 w)),fun _=>Ux vs h3,fun y hy=>Cj h y (h5 y hy)⟩
theorem zbw {h:Nat}(hh:h<=900){o:Int}{es:qaX}(hx:sE h (jw o i t vs es))(v:Val):∃(g:Bool) (e:Int),(0<=e/\e<=100)/\∃B,∀N,B<=N->Gam.aC (ah tab ext N) 63 [.agg (jw o i t vs es),.agg (zU (aV 4 v)).cells]=some (.tup [aj g,num e]):=by obtain ⟨g,e,a,f⟩:=zbv hh (Cj h _ hx) (zoE v);exact ⟨g,e,a,ig f rfl⟩
def jF (e:Int):qaY:=if e==18 then ⟨#[116,121,112,101]⟩ else ⟨#[101,114,114,111,114,32]⟩++⟨(Lib.itoa e).toArray⟩
theorem jE (e:Int)(h:0<=e/\e<=100)(N:Nat)(hN:10<=N):Gam.aC (ah tab ext N) 36 [num e]=some (aF (jF e)):=by
 obtain ⟨M,rfl⟩:∃M,N=M+2:=⟨N-2,by omega⟩;unfold jF;cases f:(e==18) with
 |true=>exact puA [(4,.b true)] (pf1 f) (aF ⟨#[116,121,112,101]⟩)
 |false=>
  have a:Gam.aC (ah tab ext (M+1)) 64 [num e]=some (aF ⟨(Lib.itoa e).toArray⟩):=by have l:=Je e (by omega) (by omega);refine aZ (y:=aF ⟨(Lib.itoa e).toArray⟩) (x:=aF ⟨(Lib.itoa e).toArray⟩) (bx:=[]) ?_ rfl;show ah tab ext (M+1) (.fn 64) [num e] []=_;unfold ah;exact l
  have m:=Lib.itoa_length_le e (by omega) (by omega);have n:((⟨(Lib.itoa e).toArray⟩:qaY)).size<=100:=by rw [bsz];omega
  have j:(⟨#[101,114,114,111,114,32]⟩:qaY).size+(⟨(Lib.itoa e).toArray⟩:qaY).size<=9223372036854775807:=by show 6+_<=_;omega
  generalize (⟨(Lib.itoa e).toArray⟩:qaY)=d at a j;exact puA [(4,.b false),(6,.p (aF d)),(7,.at)] (pf3 f a j) (aF (⟨#[101,114,114,111,114,32]⟩++d))
end Ct
namespace Ct
theorem uh {P:Nat->List X->Prop}(z:Int):Aw P (.i .i64 none none) (num z):=⟨rfl,(fun a e=>by cases e),(fun a e=>by cases e)⟩
theorem zqC:∀(h:Nat) (x:List X),sT h x->D T ((h:Int)+4) 14 x
 |0,_,hx=>hx.elim
 |h+1,x,⟨a,b,c,d,w,e,f,hxe,hw,dw,he,de,hf,df⟩=>by
  subst hxe;refine dJ (by omega) (qaa.2 rfl) ⟨uh a,uh b,uh c,uh d,⟨rfl,Nat.zero_le _,by omega,fun v hv=>?_⟩,⟨rfl,Nat.zero_le _,by omega,fun y hy=>?_⟩,⟨rfl,Nat.zero_le _,by omega,fun y hy=>?_⟩,trivial⟩;·obtain ⟨t,rfl,ht⟩:=dw v hv;exact dJ (by omega) (qaa.2 rfl) ⟨⟨Nat.zero_le _,by omega⟩,trivial⟩
  ·exact gu (by omega) (zqC h y (de y hy))
  obtain ⟨p,t,q,a',b',c',d',w',e',f',dl,rfl,ht,hT,hdl,hd⟩:=df y hy;obtain ⟨_,alt,ha,hs⟩:=l9 (zqC h _ hT);obtain rfl:=qaa.1 ha;obtain ⟨_,_,_,_,k5,k6,k7,_⟩:=hs;obtain ⟨_,k51,k52,k53⟩:=k5;obtain ⟨_,k61,k62,k63⟩:=k6;obtain ⟨_,k71,k72,k73⟩:=k7;refine dJ (by omega) (qaa.2 rfl) ⟨uh p,⟨Nat.zero_le _,by omega⟩,uh q,uh a',uh b',uh c',uh d',⟨rfl,k51,k52,fun v hv=>gu (by omega) (k53 v hv)⟩,⟨rfl,k61,k62,fun v hv=>gu (by omega) (k63 v hv)⟩,⟨rfl,k71,k72,fun v hv=>gu (by omega) (k73 v hv)⟩,⟨rfl,Nat.zero_le _,by omega,fun v hv=>?_⟩,trivial⟩;obtain ⟨u,rfl⟩:=hd v hv;exact gu (by omega) (Ae 2 u)
end Ct
end Go.Proofs.YtpcjeobkehmhpaaGreatDoor
