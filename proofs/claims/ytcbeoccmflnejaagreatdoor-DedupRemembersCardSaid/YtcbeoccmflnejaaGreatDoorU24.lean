/-.-/
import Derived.Test.YtcbeoccmflnejaaGreatDoorU23
set_option linter.all false
namespace Go.Proofs.YtcbeoccmflnejaaGreatDoor
open Go Go.Em Go.Ab
set_option maxRecDepth 100000
variable {a h hp:Int}{x0 xs:List X}{B:Nat}{r x:X}
namespace Ct
def isAll:List X->Bool
 |.v (.int _ k)::_=>k==3
 |_=>false
theorem zeb (k i:Int)(nm:qaX)(N:Nat):Gam.pureD (callF tab ext (N+5)) 226 [.agg [num k,num i,strX nm]]=some (boolX (k==3)):=by kernel_rfl
theorem zoz (g:FuncId)(hw:∀(k i:Int) (nm:qaX) (N:Nat),Gam.pureD (callF tab ext (N+5)) g [.agg [num k,num i,strX nm]]=some (boolX (k==3)))(t2:Bool)(ps:qaW)(hps:∀e,e∈ps->D T hp 7 e)(hlen:ps.length<=1000000):
  ∃B,∀N,B<=N->Gam.pureD (callF tab ext N) 170 [.sl t2 3 ps,.fn g []]=some (boolX (ps.any isAll)):=by
 have u:∀j,j<ps.length->∃(k i:Int) (nm:qaX),ps[j]?=some [num k,num i,strX nm]/\isAll (ps.getD j [])=(k==3):=fun j f=>by obtain ⟨k,i,nm,e,_⟩:=d7 (hps _ (qae f));exact ⟨k,i,nm,by rw [qad f,e],by rw [qav,qad f,Option.getD_some,e];rfl⟩
 have S:=VP (B:=6) (b:=loopAt 215 0) (nIn:=0) (n:=ps.length) (H:=fun j=>⟨[(0,.sl false 3 ps),(1,.fn g []),(7,nat ps.length),(8,nat j)],[]⟩) (P:=fun j=>isAll (ps.getD j [])) (r:=fun j=>⟨[(4,nat j)],[]⟩)
  (υ:=fun j=>⟨[(0,.sl false 3 ps),(1,.fn g []),(7,nat ps.length),(8,nat (j+1))],[]⟩) (fin:=⟨[(0,.sl false 3 ps),(1,.fn g []),(7,nat ps.length),(8,nat ps.length),(9,boolX false)],[]⟩) (e:=.exit 0) (τ:=⟨[(0,.sl false 3 ps),(1,.fn g []),(7,nat ps.length),(8,nat 0)],[]⟩) (by kernel_rfl) (fun j f l M O=>?_) (fun j f l=>⟨by kernel_rfl,fun M O=>?_⟩) (fun M O=>?_) (by simp)
 ·rcases S with ⟨j,f,l,_,h⟩|⟨m,h⟩;·have y:ps.any isAll=true:=List.any_eq_true.2 ⟨ps[j],qae f,by rw [qav,qad f] at l;exact l⟩;refine ⟨ps.length+10,fun N Q=>?_⟩;obtain ⟨M,rfl⟩:∃M,N=M+2:=⟨N-2,by omega⟩;have h:=h M (by omega) (by omega);rw [y];generalize ps.length=n at h;have w:Gam.pureD (callF tab ext (M+1)) 215 [.sl false 3 ps,.fn g []]=some (nat j):=puB [] [(.ret,⟨[(4,nat j)],[]⟩)] (pf1 h) (nat j);have E:decide (Int.ofNat j>=0)=true:=decide_eq_true (Int.natCast_nonneg j);exact puA [(7,.p (nat j)),(8,.b true)] (pf2 w E) (boolX true)
  have y:ps.any isAll=false:=by rw [List.any_eq_false];intro x u;obtain ⟨j,f,rfl⟩:=qaT u;have:=m j f;rw [qav,qad f,Option.getD_some] at this;simp [this]
  refine ⟨ps.length+10,fun N Q=>?_⟩;obtain ⟨M,rfl⟩:∃M,N=M+2:=⟨N-2,by omega⟩;have h:=h M (by omega) (by omega);rw [y];generalize ps.length=n at h;have w:Gam.pureD (callF tab ext (M+1)) 215 [.sl false 3 ps,.fn g []]=some (num (-1)):=puB [] [(.exit 0,⟨[(0,.sl false 3 ps),(1,.fn g []),(7,nat n),(8,nat n),(9,boolX false)],[]⟩)] (pf1 h) (num (-1));exact puA [(7,.p (num (-1)))] (pf1 w) (boolX false)
 ·obtain ⟨k,i,nm,A,F⟩:=u j f;obtain ⟨L,rfl⟩:∃L,M=L+5:=⟨M-5,by omega⟩;have q:=hw k i nm L;rw [<-F,l] at q;have a:=aI f;generalize ps.length=n at a;exact ruA [(9,.b true),(14,.e [num k,num i,strX nm]),(16,.p (boolX true))] (pf3 a A q)
 ·obtain ⟨k,i,nm,A,F⟩:=u j f;obtain ⟨L,rfl⟩:∃L,M=L+5:=⟨M-5,by omega⟩;have q:=hw k i nm L;rw [<-F,l] at q;have a:=aI f;have J:=ay (j:=j) (by omega);generalize ps.length=n at a;exact ruA [(9,.b true),(14,.e [num k,num i,strX nm]),(16,.p (boolX false)),(18,.i (Int.ofNat (j+1)))] (pf4 a A q J)
 have a:=aG (qan ps.length);generalize ps.length=n at a;exact ruA [(9,.b false)] (pf1 a)
theorem Tz (t2:Bool)(ps:qaW)(hps:∀e,e∈ps->D T hp 7 e)(hlen:ps.length<=1000000):∃B,∀N,B<=N->Gam.pureD (callF tab ext N) 182 [.sl t2 3 ps]=some (boolX (ps.any isAll)):=by obtain ⟨B,a⟩:=zoz 226 zeb false ps hps hlen;refine ⟨B+1,fun N f=>?_⟩;obtain ⟨M,rfl⟩:=pR_ N;exact puA [(4,.p (boolX (ps.any isAll)))] (pf1 (a M (by omega))) (boolX (ps.any isAll))
end Ct
namespace Ct
theorem Ia (t2:Bool)(ps:qaW)(h0:0<=hp)(hps:∀e,e∈ps->D T hp 7 e)(hlen:ps.length<=1000000):∃e:Int,(0<=e/\e<=100)/\∃B,∀N,B<=N->Gam.pureD (callF tab ext N) 223 [.sl t2 3 ps]=some (num e):=by obtain ⟨o,m,r,bx,l,j,B,f⟩:=fU (zcf _ (qaa.2 rfl)) rfl rfl (xs:=[.sl t2 3 ps]) ⟨⟨t2,ps,hp,rfl,h0,by unfold dW;omega,hps⟩,trivial⟩ (bx:=[]) trivial;obtain rfl:=qaa.1 m;obtain rfl:=yQ j;obtain ⟨e,rfl,a⟩:∃e,r=num e/\0<=e/\e<=100:=l;exact ⟨e,a,B,fun N h=>pureD_of (f N h) rfl⟩
def Uw (xs:List X)(r:X)(bx:List Bx):Prop:=∃B,∀N,B<=N->callF tab ext N (.fn 181) xs []=some (r,bx)
theorem kR {bx:List Bx}(h:∀M,B<=M->callF tab ext (M+1) (.fn 181) xs []=some (r,bx)):Uw xs r bx:=⟨B+1,fun N a=>by obtain ⟨M,rfl⟩:=pR_ N;exact h M (by omega)⟩
theorem Gf (t2:Bool)(ps:qaW)(h0:0<=hp)(hps:∀e,e∈ps->D T hp 7 e)(hlen:ps.length<=1000000)(hx0:D T 7 11 x0):
  ∃g,g=ps.any isAll/\(∃B,∀N,B<=N->Gam.pureD (callF tab ext N) 182 [.sl false 3 ps]=some (boolX g))/\((∃e:Int,((e !=0)=true/\0<=e/\e<=100)/\Uw [.agg x0,.sl t2 3 ps] (.tup [.sl true 6 [],num e]) [])\/∃ns:qaW,(∀y,y∈ns->Sm y)/\ns.length<=50000/\(g=false->ns≠[])/\Uw [.agg x0,.sl t2 3 ps] (.tup [.bs 0 0 ns.length,num 0]) [.row 6 ns]):=by
 obtain ⟨P,E⟩:=Tz false ps hps hlen;generalize pb:ps.any isAll=g at E;refine ⟨g,rfl,⟨P,E⟩,?_⟩;obtain ⟨e,er,H,L⟩:=Ia false ps h0 hps hlen;obtain ⟨_,a,b,c,s,u,l,v,f,rfl,_⟩:=d11 (h:=6) hx0;cases Z:(e !=0) with
 |true=>exact .inl ⟨e,⟨Z,er⟩,kR (B:=H) fun M J=>caA [(17,.p (num e)),(19,.b true)] (pf2 (L M J) Z) (r:=some (.tup [.sl true 6 [],num e],[]))⟩
 |false=>
  have e0:e=0:=by simpa using Z
  subst e0;obtain ⟨e,σ',O,hr,F⟩:=outer t2 ps hps hlen hx0 (τ:=⟨[(1,.sl t2 3 ps),(7,.sl true 6 [[num a,num b,num c,strX s,.sl u 6 l,.sl v 7 f]]),(23,.sl t2 3 ps),(24,nat ps.length),(25,num 0)],[.var [num a,num b,num c,strX s,.sl u 6 l,.sl v 7 f]]⟩) (by kernel_rfl);rcases hr with ⟨rfl,bx,rfl,pa⟩|⟨p,rfl,rfl,q1,q2,q3⟩
  ·rcases pa with ⟨V,ns,W,rfl⟩|⟨V,ns,Y,W,rfl⟩;·exact .inl ⟨22,⟨rfl,by decide,by decide⟩,kR (B:=max H O) fun M J=>caB [(17,.p (num 0))] [(.ret,Ed [.var V,.row 6 ns,.var W])] (pf2 (L M (by omega)) (F M (by omega))) (r:=some (.tup [.sl true 6 [],num 22],[]))⟩
   exact .inl ⟨22,⟨rfl,by decide,by decide⟩,kR (B:=max H O) fun M J=>caB [(17,.p (num 0))] [(.ret,Ed [.var V,.row 6 ns,.row 6 Y,.var W])] (pf2 (L M (by omega)) (F M (by omega))) (r:=some (.tup [.sl true 6 [],num 22],[]))⟩
  obtain ⟨w,m,n,j⟩:=p;dsimp only at q1 q2 q3 F;generalize ps.length=np at F;cases w with
  |true=>
   subst q1;obtain ⟨e,σ',S,⟨ns,rfl,rfl,r1,U⟩,A⟩:=copyS m m.length rfl q2 q3 (τ:=⟨[(13,.bs 0 0 0),(55,.sl true 6 m),(56,nat m.length),(57,num 0)],[.row 6 []]⟩) (by kernel_rfl);cases hz:(Int.ofNat m.length==0) with
   |true=>
    cases g with
    |false=>exact .inl ⟨19,⟨rfl,by decide,by decide⟩,kR (B:=P+H+O) fun M J=>caB [(17,.p (num 0)),(49,.b true),(52,.p (boolX false)),(53,.b true)] [(.exit 0,ouE t2 ps np (true,m,m.length,j))] (pf5 (L M (by omega)) (F M (by omega)) hz (E M (by omega)) (show (!false)=true from rfl)) (r:=some (.tup [.sl true 6 [],num 19],[]))⟩
    |true=>refine .inr ⟨ns,U,by omega,(fun e=>by cases e),kR (B:=P+H+O+S) fun M J=>?_⟩;generalize ns.length=q at A;exact caB [(17,.p (num 0)),(49,.b true),(52,.p (boolX true)),(53,.b false)] [(.exit 0,ouE t2 ps np (true,m,m.length,j)),(.exit 4,ceS m m.length ns q m.length)] (pf6 (L M (by omega)) (F M (by omega)) hz (E M (by omega)) (show (!true)=false from rfl) (A M (by omega))) (r:=some (.tup [.bs 0 0 q,num 0],[.row 6 ns]))
   |false=>
    have Q:ns≠[]:=fun e=>by subst e;rw [<-r1] at hz;simp at hz
    refine .inr ⟨ns,U,by omega,fun _=>Q,kR (B:=P+H+O+S) fun M J=>?_⟩;generalize ns.length=q at A;exact caB [(17,.p (num 0)),(49,.b false)] [(.exit 0,ouE t2 ps np (true,m,m.length,j)),(.exit 4,ceS m m.length ns q m.length)] (pf4 (L M (by omega)) (F M (by omega)) hz (A M (by omega))) (r:=some (.tup [.bs 0 0 q,num 0],[.row 6 ns]))
  |false=>
   obtain ⟨e,σ',S,⟨ns,rfl,rfl,r1,U⟩,A⟩:=zjY m n q1 q2 q3 (τ:=⟨[(13,.bs 1 0 0),(55,.bs 0 0 n),(56,nat n),(57,num 0)],[.row 6 m,.row 6 []]⟩) (by kernel_rfl);cases hz:(Int.ofNat n==0) with
   |true=>
    cases g with
    |false=>exact .inl ⟨19,⟨rfl,by decide,by decide⟩,kR (B:=P+H+O) fun M J=>caB [(17,.p (num 0)),(49,.b true),(52,.p (boolX false)),(53,.b true)] [(.exit 0,ouE t2 ps np (false,m,n,j))] (pf5 (L M (by omega)) (F M (by omega)) hz (E M (by omega)) (show (!false)=true from rfl)) (r:=some (.tup [.sl true 6 [],num 19],[]))⟩
    |true=>refine .inr ⟨ns,U,by omega,(fun e=>by cases e),kR (B:=P+H+O+S) fun M J=>?_⟩;generalize ns.length=q at A;exact caB [(17,.p (num 0)),(49,.b true),(52,.p (boolX true)),(53,.b false)] [(.exit 0,ouE t2 ps np (false,m,n,j)),(.exit 4,ceR m n ns q n)] (pf6 (L M (by omega)) (F M (by omega)) hz (E M (by omega)) (show (!true)=false from rfl) (A M (by omega))) (r:=some (.tup [.bs 0 0 q,num 0],[.row 6 ns]))
   |false=>
    have Q:ns≠[]:=fun e=>by subst e;rw [<-r1] at hz;simp at hz
    refine .inr ⟨ns,U,by omega,fun _=>Q,kR (B:=P+H+O+S) fun M J=>?_⟩;generalize ns.length=q at A;exact caB [(17,.p (num 0)),(49,.b false)] [(.exit 0,ouE t2 ps np (false,m,n,j)),(.exit 4,ceR m n ns q n)] (pf4 (L M (by omega)) (F M (by omega)) hz (A M (by omega))) (r:=some (.tup [.bs 0 0 q,num 0],[.row 6 ns]))
theorem Zi (hx:zh2.Is T 0 x):∃x0,x=.agg x0/\D T 7 11 x0:=by obtain ⟨h',xs,rfl,a,h,f⟩:∃h' xs,x=.agg xs/\0<=h'/\h'<=6/\IsL T h' zhm xs:=hx;exact ⟨xs,rfl,iF (by omega) (zbH a f)⟩
theorem zkU {T:Tab}{sz k:Nat}(hx:(Sh.sl sz k).Is T h x):∃t es h',x=.sl t sz es/\0<=h'/\(es.length:Int)<=1000000/\∀e,e∈es->D T h' k e:=hx
def znZ:List Ctr:=[dF 181 [zh2,.sl 3 7] [] none [(.tu [.x (.sl true 6 []),err],[],[]),(.tu [.bs 0,err],[.row 6 1],[lt 10 0 13,lt 13 0 10])]]
theorem zcM:aB T Gm znZ:=.one fun ρ Y M f=>by
 obtain ⟨u,w⟩:=qW f;obtain ⟨x,y,rfl,E,j⟩:=zey u;obtain rfl:=yQ w;obtain ⟨W,rfl,A⟩:=Zi E;obtain ⟨L,J,S,rfl,F,V,H⟩:=zkU j;obtain ⟨g,_,_,⟨e,⟨_,l⟩,h⟩|⟨a,n,P,_,h⟩⟩:=Gf L J F H (by omega) A;·exact jX (q:=(.tu [.x (.sl true 6 []),err],[],[])) (qay ..) f.zero f.pos rfl rfl (r:=.tup [.sl true 6 [],num e]) ⟨_,rfl,⟨rfl,rfl⟩,⟨e,rfl,l⟩,trivial⟩ (fun _ _ _ _ _ _=>.nil) h
 refine zV (q:=(.tu [.bs 0,err],[.row 6 1],[lt 10 0 13,lt 13 0 10])) (qaD _ (qaa.2 rfl)) f.zero f.pos rfl rfl (r:=.tup [.bs 0 0 a.length,num 0]) (bx':=[.row 6 a]) ⟨_,rfl,⟨a.length,rfl,by unfold dW;omega⟩,⟨0,rfl,by decide,by decide⟩,trivial⟩ ⟨⟨a,7,rfl,by omega,by unfold dW;omega,fun y j=>(n y j).1⟩,trivial⟩ (fun U ρ' Q z g m B=>?_) h;subst B;have N:(a.length:Int)=ρ' 10:=by
  cases g with
  |tup g=>cases g with
   |cons g _=>cases g with
    |bs _ _ _ q=>rw [q];unfold Lin.v;show ρ' 10+0=_;omega
 have O:(a.length:Int)=ρ' 13:=by
  cases m with
  |cons g _=>cases g with
   |row _ _ q _=>rw [q];unfold Lin.v;show ρ' 13+0=_;omega
 exact .cons (mJ (by decide) (by decide) (by omega)) (.cons (mJ (by decide) (by decide) (by omega)) .nil)
theorem Vu (ns:qaW):X.data [.row 6 ns] false (.tup [.bs 0 0 ns.length,num 0])=some (.tup [.sl false 6 ns,num 0]):=by simp only [X.data,dataL,jc (bx:=[.row 6 ns]) (i:=0) (sz:=6) (es:=ns) rfl rfl,qao,num]
theorem Ik (h:∀M,B<=M->callF tab ext (M+1) (.fn 142) xs []=some (r,[])):Back 142 xs r:=⟨B+1,fun N a=>by obtain ⟨M,rfl⟩:=pR_ N;exact h M (by omega)⟩
theorem XY (t2:Bool)(ps:qaW)(h0:0<=hp)(hps:∀e,e∈ps->D T hp 7 e)(hlen:ps.length<=1000000)(hx0:D T 7 11 x0):
  ∃(y:List X) (e:Int),((D T 8 1 y/\0<=e/\e<=100)/\(ps.any isAll=false->e=0->Sm y))/\Back 142 [.agg x0,.sl t2 3 ps] (.tup [.agg y,num e]):=by
 obtain ⟨_,a,b,c,s,u,l,v,f,rfl,_⟩:=d11 (h:=6) hx0;have hz:D T 8 1 [num 0,num 0,num 0,noText,.sl true 6 [],.sl true 7 []]:=eX (by decide) (qaa.2 rfl) ⟨⟨rfl,(fun a e=>by cases e),(fun a e=>by cases e)⟩,⟨rfl,(fun a e=>by cases e),(fun a e=>by cases e)⟩,⟨rfl,(fun a e=>by cases e),(fun a e=>by cases e)⟩,⟨by decide,by decide⟩,⟨rfl,by decide,by decide,fun e n=>by cases n⟩,⟨rfl,by decide,by decide,fun e n=>by cases n⟩,trivial⟩;obtain ⟨g,w,⟨Q,q⟩,hr⟩:=Gf false ps h0 hps hlen (yh hx0);rcases hr with ⟨e,⟨J,er⟩,E,j⟩|⟨A,H,n2,n3,E,j⟩;·have j:=fun N O=>pureD_of (j N O) (y:=.tup [.sl false 6 [],num e]) rfl;exact ⟨_,e,⟨⟨hz,er⟩,fun _ e0=>by rw [e0] at J;cases J⟩,Ik (B:=E) fun M L=>caA [(11,.p (.tup [.sl false 6 [],num e])),(16,.b true)] (pf2 (j M L) J) (r:=some (.tup [.agg [num 0,num 0,num 0,noText,.sl true 6 [],.sl true 7 []],num e],[]))⟩
 have j:=fun N O=>pureD_of (j N O) (Vu A);cases g with
 |true=>refine ⟨[num 8,num 0,num 0,noText,.sl false 6 A,.sl true 7 []],0,⟨⟨eX (by decide) (qaa.2 rfl) ⟨⟨rfl,(fun a e=>by cases e),(fun a e=>by cases e)⟩,⟨rfl,(fun a e=>by cases e),(fun a e=>by cases e)⟩,⟨rfl,(fun a e=>by cases e),(fun a e=>by cases e)⟩,⟨by decide,by decide⟩,⟨rfl,Nat.zero_le _,by omega,fun y hy=>(H y hy).1⟩,⟨rfl,by decide,by decide,fun e n=>by cases n⟩,trivial⟩,by decide,by decide⟩,fun P=>by rw [P] at w;cases w⟩,Ik (B:=Q+E) fun M L=>?_⟩;exact caA [(11,.p (.tup [.sl false 6 A,num 0])),(21,.p (boolX true)),(19,.b true)] (pf3 (j M (by omega)) (q M (by omega)) (show true=true from rfl)) (r:=some (.tup [.agg [num 8,num 0,num 0,noText,.sl false 6 A,.sl true 7 []],num 0],[]))
 |false=>
  match A,n3 rfl,H,j with
  |x::r,_,H,j=>
   have m:=H x (qay ..);have F:=m.1;obtain ⟨k1,pa,P,hs⟩:=oN F;obtain rfl:=qaa.1 P
   match x,hs,F,j,m with
   |[_,_,_,_,_,_],⟨w1,w2,w3,w4,w5,w6,_⟩,F,j,m=>obtain ⟨S,rfl⟩:=mM w1;obtain ⟨U,rfl⟩:=mM w2;obtain ⟨V,rfl⟩:=mM w3;obtain ⟨Z,rfl,_,_⟩:=zgr w4;obtain ⟨t',Y,rfl,_,_,_⟩:=Gg w5;obtain ⟨v',W,rfl,_,_,_⟩:=Gg w6;exact ⟨_,0,⟨⟨iF (by decide) F,by decide,by decide⟩,fun _ _=>m⟩,Ik (B:=Q+E) fun M L=>caA [(11,.p (.tup [.sl false 6 ([num S,num U,num V,strX Z,.sl t' 6 Y,.sl v' 7 W]::r),num 0])),(21,.p (boolX false)),(19,.b false)] (pf3 (j M (by omega)) (q M (by omega)) (show false=false from rfl)) (r:=some (.tup [.agg [num S,num U,num V,strX Z,.sl t' 6 Y,.sl v' 7 W],num 0],[]))⟩
theorem zgJ {x:List X}(hd:D T (h+1) 1 x):val.Is T 0 (.agg x):=by
 obtain ⟨F,j,q,a⟩:=oN hd;rw [qaa.1 q,Int.add_sub_cancel] at a
 match x,a with
 |[_,_,_,_,_,_],⟨w1,w2,w3,w4,w5,w6,_⟩=>obtain ⟨f,rfl⟩:=mM w1;obtain ⟨l,rfl⟩:=mM w2;obtain ⟨m,rfl⟩:=mM w3;obtain ⟨A,rfl,_,H⟩:=zgr w4;obtain ⟨B,u,rfl,_,J,w⟩:=Gg w5;obtain ⟨E,n,rfl,_,L,y⟩:=Gg w6;exact ⟨h,_,rfl,by omega,⟨f,rfl⟩,⟨l,rfl⟩,⟨m,rfl⟩,⟨A,rfl,by unfold dW;omega⟩,⟨B,u,rfl,by unfold dW;omega,w⟩,⟨E,n,rfl,by unfold dW;omega,y⟩,trivial⟩
def zln:List Ctr:=[mkC 142 [zh2,.sl 3 7] [] none [(.tu [val,err],[])]]
theorem zcN:aB T Gm zln:=.one (bY (fun o n=>by rw [qaa.1 n];exact ⟨rfl,rfl⟩) fun M F j l=>by obtain ⟨x,y,rfl,q,u⟩:=zey j;obtain rfl:=yQ l;obtain ⟨L,rfl,m⟩:=Zi q;obtain ⟨E,B,H,rfl,w,J,A⟩:=zkU u;obtain ⟨y,e,⟨⟨f,a⟩,_⟩,h⟩:=XY E B w A (by omega) m;exact ⟨_,qaa.2 rfl,.tup [.agg y,num e],[],⟨_,rfl,zgJ (h:=7) f,⟨e,rfl,a⟩,trivial⟩,trivial,h⟩)
end Ct
namespace Ct
theorem YV (h1:-999999999999999<=a)(h2:a<=999999999999999):∃b:Int,0<=b/\b<=999999999999999/\∃B,∀N,B<=N->Gam.pureD (callF tab ext N) 229 [num a]=some (num b):=by
 have f:∀{lo hi lo' hi':Int},mkC 229 [.ir .i64 lo hi] [] none [(.ir .i64 lo' hi',[])]∈zk2->lo<=a->a<=hi->0<=lo'->hi'<=999999999999999->∃b:Int,0<=b/\b<=999999999999999/\∃B,∀N,B<=N->Gam.pureD (callF tab ext N) 229 [num a]=some (num b):=fun q h j w y=>by obtain ⟨o,u,r,bx,hi,n,B,l⟩:=fU (rP _ q) rfl rfl (xs:=[num a]) ⟨zfZ h j,trivial⟩ (bx:=[]) trivial;obtain rfl:=qaa.1 u;obtain rfl:=yQ n;obtain ⟨b,rfl,A,E⟩:=zf7 hi;exact ⟨b,by omega,by omega,B,fun N m=>pureD_of (l N m) rfl⟩
 by_cases h:a<=-1;·exact f (qay ..) h1 h (by decide) (by decide)
 by_cases j:a=0;·exact f (qaD _ (qay ..)) (by omega) (by omega) (by decide) (by decide)
 exact f (qaD _ (qaD _ (qay ..))) (by omega) (by omega) (by decide) (by decide)
theorem Rn (h1:-9223372036854775808<=a)(h2:a<=9223372036854775807):∃d:qaX,1<=d.size/\d.size<=21/\∃B,∀N,B<=N->Gam.pureD (callF tab ext N) 82 [num a]=some (strX d):=by have l:=Lib.itoa_length_le a h1 h2;have m:=KX a;obtain ⟨B,h⟩:=fD (f:=82) (g:=rH) rfl (CV a h1 h2);exact ⟨_,by grind[bsz],by grind[bsz],B,fun N j=>pureD_of (h N j) rfl⟩
theorem H8 {c:Int}(h2:0<=c)(h3:c<=100):∃r:qaX,(r.size:Int)=c/\∃B,∀N,B<=N->Gam.pureD (callF tab ext N) 271 [.v (.string ⟨#[48]⟩),num c]=some (strX r):=by obtain ⟨r,j,l⟩:=zX ⟨#[48]⟩ c rfl h2 h3;obtain ⟨B,a⟩:=fD (f:=271) (g:=jZ) rfl j;exact ⟨r,l,B,fun N h=>pureD_of (a N h) rfl⟩
theorem pfc {p:Prop}{ps:List Prop}(h1:p)(h2:allP ps):allP (p::ps):=⟨h1,h2⟩
theorem OA (a s:Int):(∃e:Int,(0<=e/\e<=100)/\Back 239 [.agg [num a,num s]] (.tup [noText,num e]))\/∃t:qaX,t.size<=60/\Back 239 [.agg [num a,num s]] (.tup [strX t,num 0]):=by
 have f:∀{B:Nat} {r:X},(∀M,B<=M->callF tab ext (M+1) (.fn 239) [.agg [num a,num s]] []=some (r,[]))->Back 239 [.agg [num a,num s]] r:=fun {B} {r} h=>⟨B+1,fun N hN=>by obtain ⟨M,rfl⟩:=pR_ N<;>simp_all⟩;obtain ⟨e,⟨W,er⟩,l⟩:=ZL a s;obtain ⟨m,l⟩:=jo l rfl;cases Z:(e !=0) with
 |true=>exact .inl ⟨e,er,f (B:=m) fun M H=>caA [(7,.p (num e)),(9,.b true)] (pf2 (l M H) Z) (r:=some (.tup [noText,num e],[]))⟩
 |false=>
  have e0:e=0:=by simpa using Z
  subst e0;obtain ⟨o1,o2,o3,o4⟩:=W rfl;obtain ⟨b,b1,b2,O,Q⟩:=YV o1 o2;obtain ⟨d,d1,d2,P,S⟩:=Rn (a:=b) (by omega) (by omega);right;cases L:decide (s>0) with
  |false=>
   cases J:decide (a<0) with
   |true=>
    have hm:(⟨#[45]⟩:qaX).size+d.size<=9223372036854775807:=by show 1+d.size<=_;omega
    refine ⟨⟨#[45]⟩++d,by rw [ByteArray.size_append];show 1+d.size<=60;omega,f (B:=m+O+P) fun M H=>?_⟩;exact caA [(7,.p (num 0)),(13,.p (num b)),(14,.p (strX d)),(17,.b false),(46,.b true),(48,.at)] (pf6 (l M (by omega)) (Q M (by omega)) (S M (by omega)) L J hm) (r:=some (.tup [strX (⟨#[45]⟩++d),num 0],[]))
   |false=>exact ⟨d,by omega,f (B:=m+O+P) fun M H=>caA [(7,.p (num 0)),(13,.p (num b)),(14,.p (strX d)),(17,.b false),(46,.b false)] (pf5 (l M (by omega)) (Q M (by omega)) (S M (by omega)) L J) (r:=some (.tup [strX d,num 0],[]))⟩
  |true=>
   have pb:=of_decide_eq_true L;obtain ⟨w,hw⟩:∃w,w=s+1-Int.ofNat d.size:=⟨_,rfl⟩;simp at hw;obtain ⟨c,V⟩:∃c:Int,(if true=true then if w>0 then w else 0 else if w<0 then w else 0)=c:=⟨_,rfl⟩;have pa:c=max w 0:=by rw [<-V,if_pos rfl];split<;>omega
   obtain ⟨z,pc,Y,hz⟩:=H8 (c:=c) (by omega) (by omega);have pd:(z++d).size=z.size+d.size:=ByteArray.size_append;obtain ⟨k,hk⟩:∃k:Nat,k+s.toNat=(z++d).size:=⟨(z++d).size-s.toNat,by omega⟩;have n:IntKind.i64.wrap (s+1)=s+1:=by rw [IntKind.wrap_i64];omega
   have q:IntKind.i64.wrap (s+1-Int.ofNat d.size)=w:=by rw [IntKind.wrap_i64];simp;omega
   have j:IntKind.i64.wrap (Int.ofNat (z++d).size-s)=Int.ofNat k:=by rw [IntKind.wrap_i64];simp only [qaq];omega
   have u:z.size+d.size<=9223372036854775807:=by omega
   have y:0<=(Int.ofNat k).toNat/\(Int.ofNat k).toNat<=(z++d).size:=⟨Nat.zero_le _,by grind⟩;have x1:((z++d).extract 0 k).size=k:=by rw [ByteArray.size_extract];omega
   have x2:((z++d).extract k (z++d).size).size=s.toNat:=by rw [ByteArray.size_extract];omega
   have A:((z++d).extract 0 (Int.ofNat k).toNat).size+(⟨#[46]⟩:qaX).size<=9223372036854775807:=by show ((z++d).extract 0 k).size+1<=_;omega
   have E:(Int.ofNat k).toNat<=(z++d).size/\(z++d).size<=(z++d).size:=⟨by grind,Nat.le_refl _⟩;have x3:((z++d).extract 0 k++(⟨#[46]⟩:qaX)).size=k+1:=by rw [ByteArray.size_append,x1];rfl
   have F:((z++d).extract 0 (Int.ofNat k).toNat++(⟨#[46]⟩:qaX)).size+((z++d).extract (Int.ofNat k).toNat (z++d).size).size<=9223372036854775807:=by show ((z++d).extract 0 k++(⟨#[46]⟩:qaX)).size+((z++d).extract k (z++d).size).size<=_;omega
   have x4:((z++d).extract 0 k++(⟨#[46]⟩:qaX)++(z++d).extract k (z++d).size).size=k+1+s.toNat:=by rw [ByteArray.size_append,x3,x2]
   cases J:decide (a<0) with
   |true=>
    have U:(⟨#[45]⟩:qaX).size+((z++d).extract 0 (Int.ofNat k).toNat++(⟨#[46]⟩:qaX)++(z++d).extract (Int.ofNat k).toNat (z++d).size).size<=9223372036854775807:=by show 1+((z++d).extract 0 k++(⟨#[46]⟩:qaX)++(z++d).extract k (z++d).size).size<=_;omega
    refine ⟨⟨#[45]⟩++((z++d).extract 0 k++(⟨#[46]⟩:qaX)++(z++d).extract k (z++d).size),by rw [ByteArray.size_append,x4];show 1+(k+1+s.toNat)<=60;omega,f (B:=m+O+P+Y) fun M H=>?_⟩;exact caA [(7,.p (num 0)),(13,.p (num b)),(14,.p (strX d)),(17,.b true),(20,.i (s+1)),(23,.i w),(24,.i c),(25,.p (strX z)),(27,.at),(33,.i (Int.ofNat k)),(34,.cut),(35,.at),(41,.i (Int.ofNat k)),(42,.cut),(43,.at),(46,.b true),(48,.at)] (pfc (l M (by omega)) (pfc (Q M (by omega)) (pfc (S M (by omega)) (pf14 L n q V (hz M (by omega)) u j y A j E F J U)))) (r:=some (.tup [strX (⟨#[45]⟩++((z++d).extract 0 k++(⟨#[46]⟩:qaX)++(z++d).extract k (z++d).size)),num 0],[]))
   |false=>refine ⟨(z++d).extract 0 k++(⟨#[46]⟩:qaX)++(z++d).extract k (z++d).size,by grind,f (B:=m+O+P+Y) fun M H=>?_⟩;exact caA [(7,.p (num 0)),(13,.p (num b)),(14,.p (strX d)),(17,.b true),(20,.i (s+1)),(23,.i w),(24,.i c),(25,.p (strX z)),(27,.at),(33,.i (Int.ofNat k)),(34,.cut),(35,.at),(41,.i (Int.ofNat k)),(42,.cut),(43,.at),(46,.b false)] (pfc (l M (by omega)) (pfc (Q M (by omega)) (pfc (S M (by omega)) (pf13 L n q V (hz M (by omega)) u j y A j E F J)))) (r:=some (.tup [strX ((z++d).extract 0 k++(⟨#[46]⟩:qaX)++(z++d).extract k (z++d).size),num 0],[]))
def znM:List Ctr:=[mkC 239 [mP] [] none [(.tu [.sr 0 60,err],[])]]
theorem SC:aB T Gm znM:=.one (bY (fun o m=>by rw [qaa.1 m];exact ⟨rfl,rfl⟩) fun A u j l=>by
 obtain ⟨x,rfl,n⟩:=zbI j;obtain rfl:=yQ l;obtain ⟨ys,rfl,q⟩:∃ys,x=.agg ys/\IsL T 0 [int,int] ys:=n;obtain ⟨y,z,rfl,⟨a,rfl⟩,⟨s,rfl⟩⟩:=zey q;rcases OA a s with ⟨e,f,h⟩|⟨t,w,h⟩;·exact ⟨_,qaa.2 rfl,.tup [noText,num e],[],⟨_,rfl,⟨⟨#[]⟩,rfl,by decide,by decide⟩,⟨e,rfl,f⟩,trivial⟩,trivial,h⟩
 exact ⟨_,qaa.2 rfl,.tup [strX t,num 0],[],⟨_,rfl,⟨t,rfl,by omega,by omega⟩,⟨0,rfl,by decide,by decide⟩,trivial⟩,trivial,h⟩)
end Ct
namespace Ct
theorem zI (s:qaX)(hs:s.size<=1000000)(c d:Int)(hc0:0<=c)(hc1:c<=97)(hd0:-32<=d)(hd1:d<=32)(hcd:0<=c+d):∃t:qaX,t.size<=1000000/\∃B,∀N,B<=N->Gam.pureD (callF tab ext N) 243 [strX s,.v (.int .u8 c),num d]=some (strX t):=by
 have j:uX [strX s,.v (.int .u8 c),num d] []=some (.v (.string ⟨(s.data.toList.map (shB c d)).toArray⟩),[]):=by show (if 0<=c/\c<=97/\-32<=d/\d<=32/\0<=c+d/\s.size<=1000000 then _ else _)=_;rw [if_pos ⟨hc0,hc1,hd0,hd1,hcd,hs⟩]
 obtain ⟨B,a⟩:=fD (f:=243) (g:=uX) rfl j;exact ⟨_,by grind[bsz,bln],B,fun N h=>pureD_of (a N h) rfl⟩
theorem KD {f:FuncId}{s t:qaX}(h:∀M,B<=M->callF tab ext (M+1) (.fn f) [strX s] []=some (strX t,[])):∃B,∀N,B<=N->callF tab ext N (.fn f) [strX s] []=some (strX t,[]):=⟨B+1,fun N a=>by obtain ⟨M,rfl⟩:=pR_ N<;>simp_all⟩
def znO:List Ctr:=[mkC 195 [.s] [] none [(.s,[])]]
theorem zcE:aB T Gm znO:=.one (bY (fun o m=>by rw [qaa.1 m];exact ⟨rfl,rfl⟩) fun w q j l=>by obtain ⟨x,rfl,n⟩:=zbI j;obtain rfl:=yQ l;obtain ⟨s,rfl,h⟩:=isS n;obtain ⟨t,u,B,a⟩:=zI s (by omega) 65 32 (by decide) (by decide) (by decide) (by decide) (by decide);exact ⟨_,qaa.2 rfl,strX t,[],⟨t,rfl,by grind[dW]⟩,trivial,KD (B:=B) fun M f=>caA [(4,.p (strX t))] (pf1 (a M f)) (r:=some (strX t,[]))⟩)
def znN:List Ctr:=[mkC 196 [.s] [] none [(.s,[])]]
theorem zcD:aB T Gm znN:=.one (bY (fun o m=>by rw [qaa.1 m];exact ⟨rfl,rfl⟩) fun w q j l=>by obtain ⟨x,rfl,n⟩:=zbI j;obtain rfl:=yQ l;obtain ⟨s,rfl,h⟩:=isS n;obtain ⟨t,u,B,a⟩:=zI s (by omega) 97 (-32) (by decide) (by decide) (by decide) (by decide) (by decide);exact ⟨_,qaa.2 rfl,strX t,[],⟨t,rfl,by grind[dW]⟩,trivial,KD (B:=B) fun M f=>caA [(4,.p (strX t))] (pf1 (a M f)) (r:=some (strX t,[]))⟩)
theorem zn6 (n a b c d:Nat)(ha:a<256)(h:¬((Lib.decodeN n a b c d).1=65533/\(Lib.decodeN n a b c d).2<=1)):(Lib.encodeRune ((Lib.decodeN n a b c d).1:Int)).length=(Lib.decodeN n a b c d).2:=by
 have f:∀r:Int,(Lib.encodeRune r).length=(Lib.encodeRuneZ r).length:=fun r=>qaB ..;rw [f]
 revert h
 unfold Lib.decodeN
 repeat' split
 all_goals intro h
 all_goals first
  |exact absurd ⟨rfl,by decide⟩ h
  |(dsimp only at h ⊢
    first
     |rw [Lib.encodeRuneZ_one (by omega) (by omega)];rfl
     |rw [Lib.encodeRuneZ_two (by omega) (by omega)];rfl
     |rw [Lib.encodeRuneZ_three (by omega)];rfl
     |grind[Lib.encodeRuneZ_four])
theorem Yl (s:qaX)(h:1<=s.size):∃c w:Nat,(c<=1114111/\1<=w/\w<=s.size/\(¬(c=65533/\w<=1)->(Lib.encodeRune (c:Int)).length=w))/\∃B,∀N,B<=N->Gam.pureD (callF tab ext N) 267 [strX s]=some (.tup [.v (.int .i32 (Int.ofNat c)),nat w]):=by
 have a:¬s.size=0:=by omega
 obtain ⟨B,l⟩:=fD (f:=267) (g:=yg) (args:=[strX s]) rfl rfl;have j:(qB s).1<=1114111/\1<=(qB s).2/\(qB s).2<=s.size/\(¬((qB s).1=65533/\(qB s).2<=1)->(Lib.encodeRune ((qB s).1:Int)).length=(qB s).2):=by unfold qB;rw [if_neg a,Lib.decode_at];have:=Gn (s.size-0) (s.get! 0).toNat (s.get! (0+1)).toNat (s.get! (0+2)).toNat (s.get! (0+3)).toNat (by omega);exact ⟨Lib.decodeN_rune_le _ _ _ _ _ (UInt8.toNat_lt _),this.1,by omega,zn6 _ _ _ _ _ (UInt8.toNat_lt _)⟩
 exact ⟨(qB s).1,(qB s).2,j,B,fun N m=>pureD_of (l N m) rfl⟩
def za6:C->List (C×C)
 |.seq a b|.cond _ a b=>za6 a++za6 b
 |.block _ b|.loop b=>za6 b
 |.rf _ _ _ a b=>(a,b)::(za6 a++za6 b)
 |_=>[]
noncomputable def ptA:C:=((za6 (bodyOf tab 190)).getD 0 (.skip,.skip)).1
noncomputable def ptB:C:=((za6 (bodyOf tab 190)).getD 0 (.skip,.skip)).2
noncomputable def y7:Bx:=.loop .ready none [(4,.ptr 1 0 0)] [12,13] ptA ptB
noncomputable abbrev jK (w:Bool) (n:Nat) (outs:qaW):List Bx:=match w with
 |false=>[y7,.var [.bs 2 0 n],.row 1 outs]
 |true=>[y7,.var [.bs 3 0 n],.dead,.row 1 outs]
noncomputable abbrev ptH (s:qaX) (p:Bool×Nat×List Int):St:=⟨[(0,.yl 0),(1,.dp [strX s]),(3,nat p.2.1)],jK p.1 p.2.2.length (p.2.2.map fun z=>[num z])⟩
theorem zmJ {r:Int}(h1:0<=r)(h2:r<=1114111):IntKind.i64.wrap r=r:=by grind[IntKind.wrap_i64]
theorem QH (N k n:Nat)(r:Int)(outs:qaW)(h0:0<=r)(h1:r<=1114111)(hn:n=outs.length)(hn2:n<=1000000):callF tab ext (N+1) .yl [.yl 0,nat k,.v (.int .i32 r)] [y7,.var [.bs 2 0 n],.row 1 outs]=some (boolX true,[y7,.var [.bs 3 0 (n+1)],.dead,.row 1 (outs++[[num r]])]):=by have a:0+n=outs.length/\roomOk (n+[[num r]].length) (7+1)=true/\memN 1 (X.sl true 1 [[num r]]).rows=false:=⟨by omega,fP (by grind) (by grind),rfl⟩;exact yiA [(16,.i r),(18,.app)] (pf2 (zmJ h0 h1) a)
noncomputable abbrev ptN (w:Bool) (n:Nat) (outs:qaW):List Bx:=match w with
 |false=>[y7,.var [.bs 3 0 n],.dead,.row 1 outs]
 |true=>[y7,.var [.bs 4 0 n],.dead,.dead,.row 1 outs]
section
variable (s:qaX) (k n c sz k2:Nat) (outs NQ:qaW) (M:Nat)
theorem zfI (w:Bool)(h1:decide (Int.ofNat k<Int.ofNat s.size)=false):run (callF tab ext M) 3 M (loopAt 266 0) ⟨[(0,.yl 0),(1,.dp [strX s]),(3,nat k)],jK w n outs⟩=some (.exit 0,⟨[(0,.yl 0),(1,.dp [strX s]),(3,nat k),(9,boolX false)],jK w n outs⟩):=by
 cases w with
 |false=>exact ruA [(9,.b false)] (pf1 h1)
 |true=>exact ruA [(9,.b false)] (pf1 h1)
theorem zfJ (w:Bool)(h1:decide (Int.ofNat k<Int.ofNat s.size)=true)(h13:(Int.ofNat k).toNat<=s.size/\s.size<=s.size)(hd:Gam.pureD (callF tab ext M) 267 [strX (s.extract (Int.ofNat k).toNat s.size)]=some (.tup [.v (.int .i32 (Int.ofNat c)),nat sz]))(h18:(Int.ofNat c==65533)=true)(h21:decide (Int.ofNat sz<=1)=true):
  run (callF tab ext M) 3 M (loopAt 266 0) ⟨[(0,.yl 0),(1,.dp [strX s]),(3,nat k)],jK w n outs⟩=some (.ret,⟨[(0,.yl 0),(1,.dp [strX s]),(3,nat k),(5,nat sz),(29,boolX true)],jK w n outs⟩):=by
 cases w with
 |false=>exact ruA [(9,.b true),(13,.cut),(14,.p (.tup [.v (.int .i32 (Int.ofNat c)),nat sz])),(18,.b true),(21,.b true)] (pf5 h1 h13 hd h18 h21)
 |true=>exact ruA [(9,.b true),(13,.cut),(14,.p (.tup [.v (.int .i32 (Int.ofNat c)),nat sz])),(18,.b true),(21,.b true)] (pf5 h1 h13 hd h18 h21)
theorem zbj (w:Bool)(h1:decide (Int.ofNat k<Int.ofNat s.size)=true)(h13:(Int.ofNat k).toNat<=s.size/\s.size<=s.size)(hd:Gam.pureD (callF tab ext M) 267 [strX (s.extract (Int.ofNat k).toNat s.size)]=some (.tup [.v (.int .i32 (Int.ofNat c)),nat sz]))(h18:(Int.ofNat c==65533)=true/\decide (Int.ofNat sz<=1)=false\/(Int.ofNat c==65533)=false)
  (hy:callF tab ext M .yl [.yl 0,nat k,.v (.int .i32 (Int.ofNat c))] (jK false n outs)=some (boolX true,ptN false (n+1) NQ)) (hk:IntKind.i64.wrap (Int.ofNat k+Int.ofNat sz)=Int.ofNat k2):
  run (callF tab ext M) 3 M (loopAt 266 0) ⟨[(0,.yl 0),(1,.dp [strX s]),(3,nat k)],jK w n outs⟩=some (.norm,⟨[(0,.yl 0),(1,.dp [strX s]),(3,nat k2)],ptN w (n+1) NQ⟩):=by
 rcases h18 with ⟨h18,a⟩|h18
 ·cases w with
  |false=>exact ruA [(9,.b true),(13,.cut),(14,.p (.tup [.v (.int .i32 (Int.ofNat c)),nat sz])),(18,.b true),(21,.b false),(27,.r (boolX true) [y7,.var [.bs 3 0 (n+1)],.dead,.row 1 NQ]),(32,.i (Int.ofNat k2))] (pf7 h1 h13 hd h18 a hy hk)
  |true=>exact ruA [(9,.b true),(13,.cut),(14,.p (.tup [.v (.int .i32 (Int.ofNat c)),nat sz])),(18,.b true),(21,.b false),(27,.r (boolX true) [y7,.var [.bs 3 0 (n+1)],.dead,.row 1 NQ]),(32,.i (Int.ofNat k2))] (pf7 h1 h13 hd h18 a hy hk)
 cases w with
 |false=>exact ruA [(9,.b true),(13,.cut),(14,.p (.tup [.v (.int .i32 (Int.ofNat c)),nat sz])),(18,.b false),(27,.r (boolX true) [y7,.var [.bs 3 0 (n+1)],.dead,.row 1 NQ]),(32,.i (Int.ofNat k2))] (pf6 h1 h13 hd h18 hy hk)
 |true=>exact ruA [(9,.b true),(13,.cut),(14,.p (.tup [.v (.int .i32 (Int.ofNat c)),nat sz])),(18,.b false),(27,.r (boolX true) [y7,.var [.bs 3 0 (n+1)],.dead,.row 1 NQ]),(32,.i (Int.ofNat k2))] (pf6 h1 h13 hd h18 hy hk)
theorem Wi (w:Bool):canon 3 ⟨[(0,.yl 0),(1,.dp [strX s]),(3,nat k)],ptN w n outs⟩=some ⟨[(0,.yl 0),(1,.dp [strX s]),(3,nat k)],jK true n outs⟩:=by cases w<;>kernel_rfl
end
noncomputable abbrev PtI (s:qaX) (p:Bool×Nat×List Int):Prop:=p.2.1<=s.size/\p.2.2.length<=p.2.1/\(p.2.2.flatMap Lib.encodeRune).length<=p.2.1/\∀z,z∈p.2.2->0<=z/\z<=1114111
theorem zbi (s:qaX)(hs:s.size<=1000000){τ:St}(hτ:canon 3 τ=some (ptH s (false,0,[]))):∃e σ' B,(∃(w:Bool) (zs:List Int) (q:List (Nat×X)),(e=.ret\/e=.exit 0)/\(σ'=⟨q,jK w zs.length (zs.map fun z=>[num z])⟩)/\(∃k:Nat,q=[(0,.yl 0),(1,.dp [strX s]),(3,nat k),(9,boolX false)]/\e=.exit 0\/∃(w2:Nat),q=[(0,.yl 0),(1,.dp [strX s]),(3,nat k),(5,nat w2),(29,boolX true)]/\e=.ret)/\zs.length<=s.size/\(zs.flatMap Lib.encodeRune).length<=s.size)/\∀M,B<=M->run (callF tab ext M) 3 M (.loop (loopAt 266 0)) τ=some (e,σ'):=by
 refine jO (nIn:=3) (b:=loopAt 266 0) (H:=ptH s) (I:=PtI s) (μ:=fun p=>s.size-p.2.1) (Q:=fun e σ'=>∃(w:Bool) (zs:List Int) (q:List (Nat×X)),(e=.ret\/e=.exit 0)/\(σ'=⟨q,jK w zs.length (zs.map fun z=>[num z])⟩)/\(∃k:Nat,q=[(0,.yl 0),(1,.dp [strX s]),(3,nat k),(9,boolX false)]/\e=.exit 0\/∃(w2:Nat),q=[(0,.yl 0),(1,.dp [strX s]),(3,nat k),(5,nat w2),(29,boolX true)]/\e=.ret)/\zs.length<=s.size/\(zs.flatMap Lib.encodeRune).length<=s.size)
  (fun p Z=>?_) (a:=(false,0,[])) ⟨Nat.zero_le _,Nat.le_refl _,Nat.le_refl _,fun z hz=>by grind⟩ hτ
 obtain ⟨w,k,zs⟩:=p;obtain ⟨V,i2,i3,i4⟩:=Z;dsimp only at V i2 i3 i4 ⊢;by_cases U:k<s.size
 ·have P:=aI U;have j:(Int.ofNat k).toNat<=s.size/\s.size<=s.size:=⟨V,Nat.le_refl _⟩;have pa:(s.extract k s.size).size=s.size-k:=by rw [ByteArray.size_extract];omega
  obtain ⟨c,f,⟨c1,c2,c3,c4⟩,B,u⟩:=Yl (s.extract k s.size) (by omega);have u:∀N,B<=N->Gam.pureD (callF tab ext N) 267 [strX (s.extract (Int.ofNat k).toNat s.size)]=some (.tup [.v (.int .i32 (Int.ofNat c)),nat f]):=u;by_cases l:c=65533/\f<=1
  ·have A:(Int.ofNat c==65533)=true:=by rw [l.1];rfl
   have E:decide (Int.ofNat f<=1)=true:=by rw [qaI,qaq];omega
   exact .inr ⟨.ret,⟨[(0,.yl 0),(1,.dp [strX s]),(3,nat k),(5,nat f),(29,boolX true)],jK w zs.length (zs.map fun z=>[num z])⟩,B,(by grind),⟨w,zs,_,.inl rfl,rfl,⟨k,.inr ⟨f,rfl,rfl⟩⟩,by omega,by omega⟩,fun M S=>zfJ s k _ c f _ M w P j (u M S) A E⟩
  have m:(zs.map fun z:Int=>[num z]).length=zs.length:=qaB ..;have L:(0:Int)<=Int.ofNat c:=by simp only [qaq];omega
  have O:Int.ofNat c<=1114111:=by simp;omega
  have W:=fun N=>QH N k zs.length (Int.ofNat c) (zs.map fun z=>[num z]) L O m.symm (by omega);have n:(zs.map fun z:Int=>[num z])++[[num (Int.ofNat c)]]=(zs++[Int.ofNat c]).map fun z=>[num z]:=by simp
  have J:zs.length+1=(zs++[Int.ofNat c]).length:=by simp
  rw [n] at W;have Y:PtI s (true,k+f,zs++[Int.ofNat c]):=by
   refine ⟨by grind,by grind,?_,fun z hz=>?_⟩
   ·grind
   ·grind
  have F:IntKind.i64.wrap (Int.ofNat k+Int.ofNat f)=Int.ofNat (k+f):=by rw [IntKind.wrap_i64];simp only [qaq];omega
  have y:(Int.ofNat c==65533)=true/\decide (Int.ofNat f<=1)=false\/(Int.ofNat c==65533)=false:=by
   by_cases h:c=65533
   ·grind
   ·grind
  refine .inl ⟨⟨[(0,.yl 0),(1,.dp [strX s]),(3,nat (k+f))],ptN w (zs.length+1) ((zs++[Int.ofNat c]).map fun z=>[num z])⟩,(true,k+f,zs++[Int.ofNat c]),B+1,fun M S=>?_,?_,Y,by grind⟩;·obtain ⟨M,rfl⟩:∃M',M=M'+1:=⟨M-1,by omega⟩;exact zbj s k _ c f (k+f) _ _ (M+1) w P j (u (M+1) (by omega)) y (W M) F
  rw [J]<;>grind[Wi]
 exact .inr ⟨.exit 0,⟨[(0,.yl 0),(1,.dp [strX s]),(3,nat k),(9,boolX false)],jK w zs.length (zs.map fun z=>[num z])⟩,0,(by grind),⟨w,zs,_,.inr rfl,rfl,⟨k,.inl ⟨rfl,rfl⟩⟩,by omega,by omega⟩,fun M _=>zfI s k _ _ M w (aG U)⟩
theorem Nz (N:Nat)(s:qaX):Gam.pureD (callF tab ext (N+2)) 233 [strX s]=some (.fn 266 [.dp [strX s]]):=by kernel_rfl
section
variable (s:qaX) (n k w2:Nat) (outs:qaW) (M:Nat)
theorem zfG (h:run (callF tab ext M) 3 M (.loop (loopAt 266 0)) ⟨[(0,.yl 0),(1,.dp [strX s]),(3,nat 0)],jK false 0 []⟩=some (.exit 0,⟨[(0,.yl 0),(1,.dp [strX s]),(3,nat k),(9,boolX false)],jK false n outs⟩)):callF tab ext (M+1) (.fn 266) [.yl 0,.dp [strX s]] (jK false 0 [])=some (.tup [],jK false n outs):=
 caB [] [(.exit 0,⟨[(0,.yl 0),(1,.dp [strX s]),(3,nat k),(9,boolX false)],jK false n outs⟩)] (pf1 h)
theorem zfF (h:run (callF tab ext M) 3 M (.loop (loopAt 266 0)) ⟨[(0,.yl 0),(1,.dp [strX s]),(3,nat 0)],jK false 0 []⟩=some (.exit 0,⟨[(0,.yl 0),(1,.dp [strX s]),(3,nat k),(9,boolX false)],jK true n outs⟩)):callF tab ext (M+1) (.fn 266) [.yl 0,.dp [strX s]] (jK false 0 [])=some (.tup [],jK true n outs):=
 caB [] [(.exit 0,⟨[(0,.yl 0),(1,.dp [strX s]),(3,nat k),(9,boolX false)],jK true n outs⟩)] (pf1 h)
theorem zfE (h:run (callF tab ext M) 3 M (.loop (loopAt 266 0)) ⟨[(0,.yl 0),(1,.dp [strX s]),(3,nat 0)],jK false 0 []⟩=some (.ret,⟨[(0,.yl 0),(1,.dp [strX s]),(3,nat k),(5,nat w2),(29,boolX true)],jK false n outs⟩)):callF tab ext (M+1) (.fn 266) [.yl 0,.dp [strX s]] (jK false 0 [])=some (.tup [],jK false n outs):=
 caB [] [(.ret,⟨[(0,.yl 0),(1,.dp [strX s]),(3,nat k),(5,nat w2),(29,boolX true)],jK false n outs⟩)] (pf1 h)
theorem zfD (h:run (callF tab ext M) 3 M (.loop (loopAt 266 0)) ⟨[(0,.yl 0),(1,.dp [strX s]),(3,nat 0)],jK false 0 []⟩=some (.ret,⟨[(0,.yl 0),(1,.dp [strX s]),(3,nat k),(5,nat w2),(29,boolX true)],jK true n outs⟩)):callF tab ext (M+1) (.fn 266) [.yl 0,.dp [strX s]] (jK false 0 [])=some (.tup [],jK true n outs):=
 caB [] [(.ret,⟨[(0,.yl 0),(1,.dp [strX s]),(3,nat k),(5,nat w2),(29,boolX true)],jK true n outs⟩)] (pf1 h)
noncomputable def zkP:St:=⟨[(4,.ptr 0 0 0),(11,.fn 266 [.dp [strX s]])],[.var [.bs 1 0 0],.row 1 []]⟩
theorem zfC (N:Nat)(hy:callF tab ext N (.fn 266) [.yl 0,.dp [strX s]] (jK false 0 [])=some (.tup [],jK false n outs)):run (callF tab ext N) 0 N (.rf (.t 11) [12,13] [4] ptA ptB) (zkP s)=some (.norm,⟨[(4,.ptr 0 0 0),(11,.fn 266 [.dp [strX s]])],[.var [.bs 1 0 n],.row 1 outs,.dead]⟩):=
 rf_of (g:=266) (caps:=[.dp [strX s]]) (y:=.tup []) (outb:=jK false n outs) (q:=(.tup [],[.var [.bs 1 0 n],.row 1 outs,.loop .ready none [(4,.ptr 0 0 0)] [12,13] ptA ptB],[2,0,1])) hy (by kernel_rfl) (by kernel_rfl) (by kernel_rfl)
theorem zfB (N:Nat)(hy:callF tab ext N (.fn 266) [.yl 0,.dp [strX s]] (jK false 0 [])=some (.tup [],jK true n outs)):run (callF tab ext N) 0 N (.rf (.t 11) [12,13] [4] ptA ptB) (zkP s)=some (.norm,⟨[(4,.ptr 0 0 0),(11,.fn 266 [.dp [strX s]])],[.var [.bs 3 0 n],.dead,.dead,.row 1 outs]⟩):=
 rf_of (g:=266) (caps:=[.dp [strX s]]) (y:=.tup []) (outb:=jK true n outs) (q:=(.tup [],[.var [.bs 3 0 n],.dead,.loop .ready none [(4,.ptr 0 0 0)] [12,13] ptA ptB,.row 1 outs],[2,0,1])) hy (by kernel_rfl) (by kernel_rfl) (by kernel_rfl)
theorem zfH (w:Bool)(hv:Gam.pureD (callF tab ext M) 232 [strX s]=some (boolX true))(hr:Gam.pureD (callF tab ext M) 233 [strX s]=some (.fn 266 [.dp [strX s]]))(hy:callF tab ext M (.fn 266) [.yl 0,.dp [strX s]] (jK false 0 [])=some (.tup [],jK w n outs))(hn:n=outs.length):
  Gam.pureD (callF tab ext (M+1)) 190 [strX s]=some (.tup [.sl false 1 outs,num 0]):=by
 have a:X.data [.row 1 outs] false (.tup [.bs 0 0 n,num 0])=some (.tup [.sl false 1 outs,num 0]):=by simp only [X.data,dataL,jc (bx:=[.row 1 outs]) (i:=0) (sz:=1) (es:=outs) (n:=n) rfl hn,qao,num]
 cases w with
 |false=>exact pure_of [(8,.p (boolX true)),(11,.p (.fn 266 [.dp [strX s]]))] [(.norm,⟨[(4,.ptr 0 0 0),(11,.fn 266 [.dp [strX s]])],[.var [.bs 1 0 n],.row 1 outs,.dead]⟩)] (pf3 hv hr (zfC s n outs M hy)) (x:=.tup [.bs 0 0 n,num 0]) (bx:=[.row 1 outs]) (by kernel_rfl) a
 |true=>exact pure_of [(8,.p (boolX true)),(11,.p (.fn 266 [.dp [strX s]]))] [(.norm,⟨[(4,.ptr 0 0 0),(11,.fn 266 [.dp [strX s]])],[.var [.bs 3 0 n],.dead,.dead,.row 1 outs]⟩)] (pf3 hv hr (zfB s n outs M hy)) (x:=.tup [.bs 0 0 n,num 0]) (bx:=[.row 1 outs]) (by kernel_rfl) a
end
theorem H9 (s:qaX)(hs:s.size<=1000000):∃(e:Int) (t:Bool) (zs:List Int),(0<=e/\e<=100)/\zs.length<=1000000/\(zs.flatMap Lib.encodeRune).length<=1000000/\∃B,∀N,B<=N->Gam.pureD (callF tab ext N) 190 [strX s]=some (.tup [.sl t 1 (zs.map fun z=>[num z]),num e]):=by
 obtain ⟨g,a,l⟩:∃g,∃B,∀N,B<=N->Gam.pureD (callF tab ext N) 232 [strX s]=some (boolX g):=by
  have A:s.size<281474976710656:=by omega
  obtain ⟨g,u⟩:∃g,mY [strX s] []=some (boolX g,[]):=by refine ⟨Lib.validD s.data.toList,?_⟩;show (if s.size<=9223372036854775807 then some (X.v (Value.bool (Lib.validD s.data.toList)),[]) else none:Option (X×List Bx))=_;rw [if_pos (by omega)];rfl
  obtain ⟨B,n⟩:=fD (f:=110) (g:=mY) rfl u;refine ⟨g,B+1,fun N h=>?_⟩;obtain ⟨M,rfl⟩:=pR_ N;exact puA [(4,.p (boolX g))] (pf1 (pureD_of (n M (by omega)) rfl)) (boolX g)
 cases g with
 |false=>exact ⟨16,false,[],by decide,Nat.zero_le _,Nat.zero_le _,a+1,fun N h=>by obtain ⟨M,rfl⟩:=pR_ N;exact puA [(8,.p (boolX false))] (pf1 (l M (by omega))) (.tup [.sl true 1 [],num 16])⟩
 |true=>
  obtain ⟨e,σ',m,⟨w,zs,q,_,rfl,y,H,J⟩,j⟩:=zbi s hs (τ:=⟨[(0,.yl 0),(1,.dp [strX s]),(3,nat 0)],jK false 0 []⟩) (by kernel_rfl);refine ⟨0,false,zs,by decide,by omega,by omega,a+m+3,fun N h=>?_⟩;obtain ⟨M,rfl⟩:∃M,N=M+1+1:=⟨N-2,by omega⟩;have j:=j M (by omega);have E:callF tab ext (M+1) (.fn 266) [.yl 0,.dp [strX s]] (jK false 0 [])=some (.tup [],jK w zs.length (zs.map fun z=>[num z])):=by
   obtain ⟨k,⟨rfl,rfl⟩|⟨F,rfl,rfl⟩⟩:=y
   ·cases w with
    |false=>grind[zfG]
    |true=>grind[zfF]
   cases w with
   |false=>grind[zfE]
   |true=>grind[zfD]
  obtain ⟨K,rfl⟩:=pR_ M;exact zfH s _ _ (K+1+1) w (l _ (by omega)) (Nz _ s) E (qaB ..).symm
theorem Py (N:Nat)(s:qaX):Gam.pureD (callF tab ext (N+2)) 189 [strX s]=some (.agg [num 4,num 0,num 0,strX s,.sl false 6 [],.sl false 7 []]):=by kernel_rfl
theorem Xo (zs:List Int):intsOf (zs.map fun z=>[num z])=some zs:=by
 induction zs with
 |nil=>rfl
 |cons z r ih=>grind[intsOf,num]
theorem zau (t:Bool)(zs:List Int)(h1:zs.length<=1000000)(h2:(zs.flatMap Lib.encodeRune).length<=1000000):∃(r:qaX) (e:Int),r.size<=1000000/\∃B,∀N,B<=N->Gam.pureD (callF tab ext N) 191 [.sl t 1 (zs.map fun z=>[num z])]=some (.tup [strX r,num e]):=by
 have l:∃(r:qaX) (e:Int),r.size<=1000000/\lN [.sl t 1 (zs.map fun z=>[num z])] []=some (.tup [strX r,num e],[]):=by
  have e:lN [.sl t 1 (zs.map fun z=>[num z])] []=(match intsOf (zs.map fun z=>[num z]) with
   |some zs=>if zs.length<=1000000 then (if zs.all jL then some (.tup [.v (.string ⟨(zs.flatMap Lib.encodeRune).toArray⟩),.v (.int .i64 0)],[]) else some (.tup [.v (.string ⟨#[]⟩),.v (.int .i64 2)],[])) else none
   |none=>none):=rfl
  rw [e,Xo];simp only [if_pos h1];split;·exact ⟨_,0,by grind[bsz],rfl⟩
  exact ⟨⟨#[]⟩,2,by decide,rfl⟩
 obtain ⟨r,e,h,m⟩:=l;obtain ⟨B,a⟩:=fD (f:=191) (g:=lN) rfl m;exact ⟨r,e,h,B,fun N j=>pureD_of (a N j) rfl⟩
theorem X3 (zs:List Int)(lo hi:Nat):(((zs.take hi).drop lo).flatMap Lib.encodeRune).length<=(zs.flatMap Lib.encodeRune).length:=by
 have e:zs.flatMap Lib.encodeRune=((zs.take hi).take lo).flatMap Lib.encodeRune++(((zs.take hi).drop lo).flatMap Lib.encodeRune++(zs.drop hi).flatMap Lib.encodeRune):=by rw [<-qaL,<-List.flatMap_append,List.take_append_drop,<-List.flatMap_append,List.take_append_drop]
 grind
section
variable (d1 d2 d3:Int) (d4:qaX) (td t4:Bool) (d5 d6:qaW)
abbrev zeroV:List X:=[num 0,num 0,num 0,noText,.sl true 6 [],.sl true 7 []]
theorem Tt (k:Int)(N:Nat):callF tab ext (N+1) (.fn 143) [.ptr 0 0 0,num k] [.var [num d1,num d2,num d3,strX d4,.sl td 6 d5,.sl t4 7 d6,num 0]]=some (.agg zeroV,[.var [num d1,num d2,num d3,strX d4,.sl td 6 d5,.sl t4 7 d6,num k]]):=by kernel_rfl
variable (a1 a2 a3 b1 b2 b3 c1 c2 c3 e:Int) (a4 b4 c4:qaX) (a5 a6 b5 b6 c5 c6:qaW) (ta tb tc t1 t2 t3:Bool)
theorem MR (ha:a4.size<=1000000)(he:0<=e/\e<=100):∃(y:List X) (e2:Int),(0<=e2/\e2<=100)/\(y=zeroV\/∃r:qaX,r.size<=1000000/\y=[num 4,num 0,num 0,strX r,.sl false 6 [],.sl false 7 []])/\∃B,∀N,B<=N->callF tab ext N (.fn 149) [.ptr 0 0 0,.agg [num a1,num a2,num a3,strX a4,.sl ta 6 a5,.sl t1 7 a6],.agg [num b1,num b2,num b3,strX b4,.sl tb 6 b5,.sl t2 7 b6],.agg [num c1,num c2,num c3,strX c4,.sl tc 6 c5,.sl t3 7 c6]] [.var [num d1,num d2,num d3,strX d4,.sl td 6 d5,.sl t4 7 d6,num e]]=some (.agg y,[.var [num d1,num d2,num d3,strX d4,.sl td 6 d5,.sl t4 7 d6,num e2]]):=by
 have a:∀{y:List X} {e2:Int} {B:Nat},(∀M,B<=M->callF tab ext (M+1) (.fn 149) [.ptr 0 0 0,.agg [num a1,num a2,num a3,strX a4,.sl ta 6 a5,.sl t1 7 a6],.agg [num b1,num b2,num b3,strX b4,.sl tb 6 b5,.sl t2 7 b6],.agg [num c1,num c2,num c3,strX c4,.sl tc 6 c5,.sl t3 7 c6]] [.var [num d1,num d2,num d3,strX d4,.sl td 6 d5,.sl t4 7 d6,num e]]=some (.agg y,[.var [num d1,num d2,num d3,strX d4,.sl td 6 d5,.sl t4 7 d6,num e2]]))->∃B,∀N,B<=N->callF tab ext N (.fn 149) [.ptr 0 0 0,.agg [num a1,num a2,num a3,strX a4,.sl ta 6 a5,.sl t1 7 a6],.agg [num b1,num b2,num b3,strX b4,.sl tb 6 b5,.sl t2 7 b6],.agg [num c1,num c2,num c3,strX c4,.sl tc 6 c5,.sl t3 7 c6]] [.var [num d1,num d2,num d3,strX d4,.sl td 6 d5,.sl t4 7 d6,num e]]=some (.agg y,[.var [num d1,num d2,num d3,strX d4,.sl td 6 d5,.sl t4 7 d6,num e2]]):=fun {y e2 B} h=>⟨B+1,fun N hN=>by obtain ⟨M,rfl⟩:=pR_ N<;>simp_all⟩;cases l:(e !=0) with
 |true=>exact ⟨zeroV,e,he,.inl rfl,a (B:=0) fun M _=>caA [(20,.b true)] (pf1 l) (r:=some (.agg zeroV,[.var [num d1,num d2,num d3,strX d4,.sl td 6 d5,.sl t4 7 d6,num e]]))⟩
 |false=>
  have e0:e=0:=by simpa using l
  subst e0;have w:∀k M,1<=M->callF tab ext M (.fn 143) [.ptr 0 0 0,num k] [.var [num d1,num d2,num d3,strX d4,.sl td 6 d5,.sl t4 7 d6,num 0]]=some (.agg zeroV,[.var [num d1,num d2,num d3,strX d4,.sl td 6 d5,.sl t4 7 d6,num k]]):=fun k M j=>by obtain ⟨M,rfl⟩:∃M',M=M'+1:=⟨M-1,by omega⟩<;>simp_all[Tt]
  cases n:(a1 !=4) with
  |true=>exact ⟨zeroV,18,by decide,.inl rfl,a (B:=1) fun M j=>caA [(20,.b false),(25,.b true),(37,.r (.agg zeroV) [.var [num d1,num d2,num d3,strX d4,.sl td 6 d5,.sl t4 7 d6,num 18]])] (pf3 l n (w 18 M j)) (r:=some (.agg zeroV,[.var [num d1,num d2,num d3,strX d4,.sl td 6 d5,.sl t4 7 d6,num 18]]))⟩
  |false=>
   cases u:(b1 !=2) with
   |true=>exact ⟨zeroV,18,by decide,.inl rfl,a (B:=1) fun M j=>caA [(20,.b false),(25,.b false),(29,.b true),(37,.r (.agg zeroV) [.var [num d1,num d2,num d3,strX d4,.sl td 6 d5,.sl t4 7 d6,num 18]])] (pf4 l n u (w 18 M j)) (r:=some (.agg zeroV,[.var [num d1,num d2,num d3,strX d4,.sl td 6 d5,.sl t4 7 d6,num 18]]))⟩
   |false=>
    cases E:(c1 !=2) with
    |true=>exact ⟨zeroV,18,by decide,.inl rfl,a (B:=1) fun M j=>caA [(20,.b false),(25,.b false),(29,.b false),(34,.b true),(37,.r (.agg zeroV) [.var [num d1,num d2,num d3,strX d4,.sl td 6 d5,.sl t4 7 d6,num 18]])] (pf5 l n u E (w 18 M j)) (r:=some (.agg zeroV,[.var [num d1,num d2,num d3,strX d4,.sl td 6 d5,.sl t4 7 d6,num 18]]))⟩
    |false=>
     obtain ⟨A,Q,f,er,z1,z2,L,m⟩:=H9 a4 ha;have Y:(f.map fun z:Int=>[num z]).length=f.length:=qaB ..;cases P:(A !=0) with
     |true=>generalize (f.map fun z:Int=>[num z])=es at m;exact ⟨zeroV,16,by decide,.inl rfl,a (B:=L+1) fun M j=>caA [(20,.b false),(25,.b false),(29,.b false),(34,.b false),(41,.p (.tup [.sl Q 1 es,num A])),(46,.b true),(48,.r (.agg zeroV) [.var [num d1,num d2,num d3,strX d4,.sl td 6 d5,.sl t4 7 d6,num 16]])] (pf7 l n u E (m M (by omega)) P (w 16 M (by omega))) (r:=some (.agg zeroV,[.var [num d1,num d2,num d3,strX d4,.sl td 6 d5,.sl t4 7 d6,num 16]]))⟩
     |false=>
      cases O:decide (b2<0) with
      |true=>generalize (f.map fun z:Int=>[num z])=es at m;exact ⟨zeroV,2,by decide,.inl rfl,a (B:=L+1) fun M j=>caA [(20,.b false),(25,.b false),(29,.b false),(34,.b false),(41,.p (.tup [.sl Q 1 es,num A])),(46,.b false),(52,.b true),(61,.r (.agg zeroV) [.var [num d1,num d2,num d3,strX d4,.sl td 6 d5,.sl t4 7 d6,num 2]])] (pf8 l n u E (m M (by omega)) P O (w 2 M (by omega))) (r:=some (.agg zeroV,[.var [num d1,num d2,num d3,strX d4,.sl td 6 d5,.sl t4 7 d6,num 2]]))⟩
      |false=>
       cases W:decide (b2>c2) with
       |true=>generalize (f.map fun z:Int=>[num z])=es at m;exact ⟨zeroV,2,by decide,.inl rfl,a (B:=L+1) fun M j=>caA [(20,.b false),(25,.b false),(29,.b false),(34,.b false),(41,.p (.tup [.sl Q 1 es,num A])),(46,.b false),(52,.b false),(58,.b true),(61,.r (.agg zeroV) [.var [num d1,num d2,num d3,strX d4,.sl td 6 d5,.sl t4 7 d6,num 2]])] (pf9 l n u E (m M (by omega)) P O W (w 2 M (by omega))) (r:=some (.agg zeroV,[.var [num d1,num d2,num d3,strX d4,.sl td 6 d5,.sl t4 7 d6,num 2]]))⟩
       |false=>
        have k5:=of_decide_eq_false O;have k6:=of_decide_eq_false W;obtain ⟨lo,J⟩:∃lo:Nat,(lo:Int)=min b2 f.length:=⟨(min b2 f.length).toNat,by omega⟩;obtain ⟨hi,H⟩:∃hi:Nat,(hi:Int)=min c2 f.length:=⟨(min c2 f.length).toNat,by omega⟩;obtain ⟨r,e3,hr,B2,q⟩:=zau false ((f.take hi).drop lo) (by grind) (by grind[X3]);have F:((f.map fun z:Int=>[num z]).take hi).drop lo=((f.take hi).drop lo).map fun z=>[num z]:=by rw [List.map_drop,List.map_take]
        rw [<-F] at q;rw [<-Y] at J H;have Z:(f.map fun z:Int=>[num z]).length<=1000000:=by omega
        clear F z2;generalize (f.map fun z:Int=>[num z])=es at m q J H Z;have S:(if false=true then if Int.ofNat es.length>b2 then Int.ofNat es.length else b2 else if Int.ofNat es.length<b2 then Int.ofNat es.length else b2)=Int.ofNat lo:=by rw [if_neg (by decide)];simp;split<;>omega
        have U:(if false=true then if Int.ofNat es.length>c2 then Int.ofNat es.length else c2 else if Int.ofNat es.length<c2 then Int.ofNat es.length else c2)=Int.ofNat hi:=by rw [if_neg (by decide)];simp;split<;>omega
        have V:(Int.ofNat lo).toNat<=(Int.ofNat hi).toNat/\(Int.ofNat hi).toNat<=es.length:=by show lo<=hi/\hi<=es.length;omega
        refine ⟨[num 4,num 0,num 0,strX r,.sl false 6 [],.sl false 7 []],0,by decide,.inr ⟨r,hr,rfl⟩,a (B:=L+B2+3) fun M j=>?_⟩;have zi1:Gam.pureD (callF tab ext M) 189 [strX r]=some (.agg [num 4,num 0,num 0,strX r,.sl false 6 [],.sl false 7 []]):=by obtain ⟨K,rfl⟩:∃K,M=K+2:=⟨M-2,by omega⟩;exact Py K r
        exact caA [(20,.b false),(25,.b false),(29,.b false),(34,.b false),(41,.p (.tup [.sl Q 1 es,num A])),(46,.b false),(52,.b false),(58,.b false),(66,.i (Int.ofNat lo)),(71,.i (Int.ofNat hi)),(76,.cut),(77,.p (.tup [strX r,num e3])),(81,.p (.agg [num 4,num 0,num 0,strX r,.sl false 6 [],.sl false 7 []]))] (pf13 l n u E (m M (by omega)) P O W S U V (q M (by omega)) zi1) (r:=some (.agg [num 4,num 0,num 0,strX r,.sl false 6 [],.sl false 7 []],[.var [num d1,num d2,num d3,strX d4,.sl td 6 d5,.sl t4 7 d6,num 0]]))
end
def zlm:List Ctr:=[mkC 149 [.p 0,val,val,val] [.jD 0 6 kM] none [(val,[.jD 0 6 kM])]]
theorem vV (hx:val.Is T 0 x):∃(a b c:Int) (s:qaX) (t:Bool) (l:qaW) (t':Bool) (f:qaW),x=.agg [num a,num b,num c,strX s,.sl t 6 l,.sl t' 7 f]/\s.size<=1000000:=by
 obtain ⟨h',xs,rfl,j,h⟩:∃h' xs,x=.agg xs/\0<=h'/\IsL T h' [int,int,int,.s,.slh 6 1,.slh 7 2] xs:=hx
 match xs,h with
 |[_,_,_,_,_,_],⟨⟨a,rfl⟩,⟨b,rfl⟩,⟨c,rfl⟩,⟨s,rfl,k1⟩,⟨t,l,rfl,k2,k3⟩,⟨t',f,rfl,k4,k5⟩,_⟩=>exact ⟨a,b,c,s,t,l,t',f,rfl,by grind[dW]⟩
theorem zcK:aB T Gm zlm:=.one (bY (fun o W=>by rw [qaa.1 W];exact ⟨rfl,rfl⟩) fun xs J U V=>by
 match xs,J,U,V with
 |[_,_,_,_],[_],⟨rfl,h1,h2,h3,_⟩,⟨⟨h',ys,rfl,m0,m1,hi⟩,_⟩=>
  obtain ⟨j,l,m,n,ta,q,t1,u,rfl,Z⟩:=vV h1;obtain ⟨w,A,B,E,tb,F,t2,H,rfl,_⟩:=vV h2;obtain ⟨L,M,N,O,tc,P,t3,Q,rfl,_⟩:=vV h3
  match ys,hi with
  |[_,_,_,_,_,_,_],⟨⟨d1,rfl⟩,⟨d2,rfl⟩,⟨d3,rfl⟩,⟨d4,rfl,k1⟩,⟨td,d5,rfl,k2⟩,⟨t4,d6,rfl,k3⟩,⟨e,rfl,er⟩,_⟩=>
   obtain ⟨y,h,a,Y,S⟩:=MR d1 d2 d3 d4 td t4 d5 d6 j l m w A B L M N e n E O q u F H P Q ta tb tc t1 t2 t3 Z er;refine ⟨_,qaa.2 rfl,.agg y,[.var [num d1,num d2,num d3,strX d4,.sl td 6 d5,.sl t4 7 d6,num h]],?_,⟨⟨h',_,rfl,m0,m1,⟨d1,rfl⟩,⟨d2,rfl⟩,⟨d3,rfl⟩,⟨d4,rfl,k1⟩,⟨td,d5,rfl,k2⟩,⟨t4,d6,rfl,k3⟩,⟨h,rfl,a⟩,trivial⟩,trivial⟩,S⟩;rcases Y with rfl|⟨r,hr,rfl⟩;·exact ⟨0,_,rfl,Int.le_refl _,⟨0,rfl⟩,⟨0,rfl⟩,⟨0,rfl⟩,⟨⟨#[]⟩,rfl,by decide⟩,⟨true,[],rfl,by decide,fun e f=>by grind⟩,⟨true,[],rfl,by decide,fun e f=>by grind⟩,trivial⟩
   exact ⟨0,_,rfl,Int.le_refl _,⟨4,rfl⟩,⟨0,rfl⟩,⟨0,rfl⟩,⟨r,rfl,by grind[dW]⟩,⟨false,[],rfl,by decide,fun e f=>by grind⟩,⟨false,[],rfl,by decide,fun e f=>by grind⟩,trivial⟩)
end Ct
end Go.Proofs.YtcbeoccmflnejaaGreatDoor
