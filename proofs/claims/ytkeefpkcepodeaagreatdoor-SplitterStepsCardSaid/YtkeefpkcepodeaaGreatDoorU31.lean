/-.-/
import Derived.Test.YtkeefpkcepodeaaGreatDoorU30
set_option linter.all false
namespace Go.Proofs.YtkeefpkcepodeaaGreatDoor
open Go Go.Em Go.Ab
set_option maxRecDepth 100000
variable {nm:qaW}{h:Int}{c e x:List X}
namespace Ct
theorem SB (h0:0<=h)(hx:IsL T h [int,int,int,.s,.slh 6 1,.slh 7 2] x):∃(a b c:Int) (s:qaW) (t:Bool) (l:qaV) (t':Bool) (f:qaV),D T (h+1) 1 [num a,num b,num c,strX s,.sl t 6 l,.sl t' 7 f]/\∃B,∀N,B<=N->Gam.pureD (callF tab ext N) 60 [.agg x]=some (.agg [num a,num b,num c,strX s,.sl t 6 l,.sl t' 7 f]):=by
 obtain ⟨ρ,U,n⟩:=zwv (f:=60) (l:=[int,int,int,.s,.slh 6 1,.slh 7 2]) (mu:=some (1,0)) (outs:=[(.ag [int,int,int,.s,.bs 0,.bs 1],[.DL 6 1 1 12,.DL 7 2 1 13])]) rfl h0 hx;obtain ⟨o,S,ρ',r,bx,u,q,J,L,B,O⟩:=uh _ (qaq ..) ρ _ _ n;obtain rfl:=qaa.1 S;have z:ρ' 0=0:=u.zero n.pos n.zero;have k1:ρ' 1=h:=by rw [u.same 1 (by decide)];exact U
 obtain ⟨y,V,M⟩:=G.data (y:=.agg [.i .i64 ⟨8,0⟩,.i .i64 ⟨9,0⟩,.i .i64 ⟨10,0⟩,.s ⟨11,0⟩,.sl (some false) 6 1 ⟨1,0⟩ ⟨12,0⟩,.sl (some false) 7 2 ⟨1,0⟩ ⟨13,0⟩]) (raw:=false) q L z J (by kernel_rfl);have j:∀k,k=11\/k=12\/k=13->0<=Lin.v ⟨k,0⟩ ρ'/\Lin.v ⟨k,0⟩ ρ'<=1000000:=fun k Q=>iI (l:=⟨k,0⟩) (lo:=0) (hi:=1000000) z (fun f m=>q f (by
  rcases Q with rfl|rfl|rfl
  all_goals
   rcases qal.1 m with rfl|m;·simp [Z8,Sh.bld,vg,zV,bnd,bW]
   obtain rfl:=qaa.1 m;simp [Z8,Sh.bld,vg,zV,bnd,bW]))
 have E:=j 11 (.inl rfl);have F:=j 12 (.inr (.inl rfl));have H:=j 13 (.inr (.inr rfl));obtain ⟨cs,rfl,W⟩:=zfs M;obtain ⟨x1,r1,rfl,w1,Y⟩:=dW W;obtain ⟨x2,r2,rfl,w2,Z⟩:=dW Y;obtain ⟨x3,r3,rfl,w3,v3⟩:=dW Z;obtain ⟨x4,r4,rfl,w4,v4⟩:=dW v3;obtain ⟨x5,r5,rfl,w5,v5⟩:=dW v4;obtain ⟨x6,r6,rfl,w6,v6⟩:=dW v5;obtain rfl:=zhb v6;obtain ⟨a,rfl⟩:=g_i w1;obtain ⟨b,rfl⟩:=g_i w2;obtain ⟨c,rfl⟩:=g_i w3;obtain ⟨s,rfl,e4⟩:=g_s w4;obtain ⟨t,l,rfl,e5,w⟩:=zu6 w5;obtain ⟨t',f,rfl,e6,A⟩:=zu6 w6;refine ⟨a,b,c,s,t,l,t',f,dI (by omega) (qaa.2 rfl) ?_,B,fun N P=>bf (O N P) V⟩;rw [Int.add_sub_cancel];have v7:Lin.v ⟨1,0⟩ ρ'=h:=by unfold Lin.v;dsimp only;omega
 rw [v7] at w A;exact ⟨⟨rfl,(fun a e=>by cases e),(fun a e=>by cases e)⟩,⟨rfl,(fun a e=>by cases e),(fun a e=>by cases e)⟩,⟨rfl,(fun a e=>by cases e),(fun a e=>by cases e)⟩,⟨by omega,by omega⟩,⟨rfl,by omega,by omega,w⟩,⟨rfl,by omega,by omega,A⟩,trivial⟩
theorem zhx {x:X}(hx:val.Is T 0 x):∃(h' a b c:Int) (s:qaW) (t:Bool) (l:qaV) (t':Bool) (f:qaV),x=.agg [num a,num b,num c,strX s,.sl t 6 l,.sl t' 7 f]/\0<=h'/\IsL T h' [int,int,int,.s,.slh 6 1,.slh 7 2] [num a,num b,num c,strX s,.sl false 6 l,.sl false 7 f]:=by
 obtain ⟨h',xs,rfl,h,j⟩:∃h' xs,x=.agg xs/\0<=h'/\IsL T h' [int,int,int,.s,.slh 6 1,.slh 7 2] xs:=hx
 match xs,j with
 |[_,_,_,_,_,_],⟨⟨a,rfl⟩,⟨b,rfl⟩,⟨c,rfl⟩,⟨s,rfl,k1⟩,⟨t,l,rfl,k2,k3⟩,⟨t',f,rfl,k4,k5⟩,_⟩=>exact ⟨h',a,b,c,s,t,l,t',f,rfl,h,⟨a,rfl⟩,⟨b,rfl⟩,⟨c,rfl⟩,⟨s,rfl,k1⟩,⟨false,l,rfl,k2,k3⟩,⟨false,f,rfl,k4,k5⟩,trivial⟩
theorem zeu {b:Bx}(hb:(BSh.nI 0 6 pJ).Is T b):∃(a b' c:Int) (s:qaW) (t:Bool) (l:qaV) (t':Bool) (f:qaV) (e:Int),b=.var [num a,num b',num c,strX s,.sl t 6 l,.sl t' 7 f,num e]/\0<=e/\e<=100:=by
 obtain ⟨h',xs,rfl,_,_,h⟩:∃h' xs,b=.var xs/\0<=h'/\h'<=6/\IsL T h' pJ xs:=hb
 match xs,h with
 |[_,_,_,_,_,_,_],⟨⟨a,rfl⟩,⟨b,rfl⟩,⟨c,rfl⟩,⟨s,rfl,_⟩,⟨t,l,rfl,_⟩,⟨t',f,rfl,_⟩,⟨e,rfl,er⟩,_⟩=>exact ⟨a,b,c,s,t,l,t',f,e,rfl,er⟩
theorem zbN {h:Nat}(hh:h<=900){op n:Int}{s:qaW}{u v:Bool}{vs ar:qaV}(hx:okE h [num op,num n,strX s,.sl u 6 vs,.sl v 5 ar]){x0:List X}(hx0:D T 7 11 x0):∃y e,((∃H,D T H 1 y)/\0<=e/\e<=100)/\Back 108 [.agg [num op,num n,strX s,.sl u 6 vs,.sl v 5 ar],.agg x0] (.tup [.agg y,num e]):=by
 have U:okE h [num op,num n,strX s,.sl false 6 vs,.sl false 5 ar]:=by
  cases h with
  |zero=>exact hx.elim
  |succ h=>obtain ⟨pb,n',s',u',pc,v',pa,e,hr⟩:=hx;simp only [num,strX,List.cons.injEq,X.v.injEq,Value.int.injEq,Value.string.injEq,X.sl.injEq,and_true,true_and] at e;obtain ⟨rfl,rfl,rfl,⟨_,rfl⟩,⟨_,rfl⟩⟩:=e;exact ⟨op,n,s,false,vs,false,ar,rfl,hr⟩
 have j:∀{r:X} {B:Nat},(∀M,B<=M->callF tab ext (M+1) (.fn 108) [.agg [num op,num n,strX s,.sl u 6 vs,.sl v 5 ar],.agg x0] []=some (r,[]))->Back 108 [.agg [num op,num n,strX s,.sl u 6 vs,.sl v 5 ar],.agg x0] r:=fun {r B} h=>⟨B+1,fun N hN=>by obtain ⟨M,rfl⟩:=pR_ N;exact h M (by omega)⟩;have hz:D T 1 1 [num 0,num 0,num 0,noText,.sl true 6 [],.sl true 7 []]:=dI (by decide) (qaa.2 rfl) ⟨⟨rfl,(fun a e=>by cases e),(fun a e=>by cases e)⟩,⟨rfl,(fun a e=>by cases e),(fun a e=>by cases e)⟩,⟨rfl,(fun a e=>by cases e),(fun a e=>by cases e)⟩,⟨by decide,by decide⟩,⟨rfl,by decide,by decide,fun e A=>by cases A⟩,⟨rfl,by decide,by decide,fun e A=>by cases A⟩,trivial⟩;obtain ⟨c,⟨S,cr⟩,q⟩:=XQ hh U;obtain ⟨L,q⟩:=gq q rfl;obtain ⟨_,a,b,d,s1,t,l,w,f,rfl,V,W,k3,k4,k5⟩:=d11 (h:=6) hx0;cases F:(c !=0) with
 |true=>exact ⟨_,c,⟨⟨1,hz⟩,cr⟩,j (B:=L) fun M J=>caA [(10,.p (num c)),(12,.b true)] (pf2 (q M J) F) (r:=some (.tup [.agg [num 0,num 0,num 0,noText,.sl true 6 [],.sl true 7 []],num c],[]))⟩
 |false=>
  cases P:(a !=9) with
  |true=>exact ⟨_,11,⟨⟨1,hz⟩,by decide,by decide⟩,j (B:=L) fun M J=>caA [(10,.p (num c)),(12,.b false),(17,.b true)] (pf3 (q M J) F P) (r:=some (.tup [.agg [num 0,num 0,num 0,noText,.sl true 6 [],.sl true 7 []],num 11],[]))⟩
  |false=>
   have hd:=S (by simpa using F);obtain ⟨o,ho,r,bx,hi,Q,Y,A⟩:=eU (f:=145) (args:=[.p 0,.el 10]) (inb:=[.nI 0 6 pJ]) (mu:=some (1,0)) (outs:=[(val,[.nI 0 6 pJ])]) (zoX evA (qaq ..)) rfl rfl (xs:=[.ptr 0 0 0,.agg [num op,num n,strX s,.sl false 6 vs,.sl false 5 ar]])
    ⟨rfl,⟨_,9+(h:Int),rfl,by omega,hd⟩,trivial⟩ (bx:=[.var [num a,num b,num d,strX s1,.sl t 6 l,.sl w 7 f,num 0]]) ⟨⟨6,_,rfl,by decide,by decide,⟨a,rfl⟩,⟨b,rfl⟩,⟨d,rfl⟩,⟨s1,rfl,by unfold bW;omega⟩,⟨t,l,rfl,by omega,by omega,k4⟩,⟨w,f,rfl,by omega,by omega,k5⟩,⟨0,rfl,by decide,by decide⟩,trivial⟩,trivial⟩
   obtain rfl:=qaa.1 ho
   match bx,Q with
   |[bb],⟨Q,_⟩=>
    obtain ⟨k0,V,W,s4,t2,ml,w2,mf,E,rfl,err⟩:=zeu Q;obtain ⟨h',Z,b',d',s2,t',l',w',f',rfl,O,m⟩:=zhx hi;cases h3:(E !=0) with
    |true=>exact ⟨_,E,⟨⟨1,hz⟩,err⟩,j (B:=max L Y) fun M J=>caA [(10,.p (num c)),(12,.b false),(17,.b false),(24,.r (.agg [num Z,num b',num d',strX s2,.sl t' 6 l',.sl w' 7 f']) [.var [num k0,num V,num W,strX s4,.sl t2 6 ml,.sl w2 7 mf,num E]]),(29,.b true)] (pf5 (q M (by omega)) F P (A M (by omega)) h3) (r:=some (.tup [.agg [num 0,num 0,num 0,noText,.sl true 6 [],.sl true 7 []],num E],[]))⟩
    |false=>obtain ⟨a2,b2,d2,s3,t3,l2,w3,f2,hy,B3,m⟩:=SB O m;exact ⟨_,0,⟨⟨_,hy⟩,by decide,by decide⟩,j (B:=L+Y+B3) fun M J=>caA [(10,.p (num c)),(12,.b false),(17,.b false),(24,.r (.agg [num Z,num b',num d',strX s2,.sl t' 6 l',.sl w' 7 f']) [.var [num k0,num V,num W,strX s4,.sl t2 6 ml,.sl w2 7 mf,num E]]),(29,.b false),(36,.p (.agg [num a2,num b2,num d2,strX s3,.sl t3 6 l2,.sl w3 7 f2]))] (pf6 (q M (by omega)) F P (A M (by omega)) h3 (m M (by omega))) (r:=some (.tup [.agg [num a2,num b2,num d2,strX s3,.sl t3 6 l2,.sl w3 7 f2],num 0],[]))⟩
end Ct
namespace Ct
theorem zhf {H:Int}(hd:D T H 1 x):∃(a b c:Int) (s:qaW) (t:Bool) (l:qaV) (t':Bool) (f:qaV),x=[num a,num b,num c,strX s,.sl t 6 l,.sl t' 7 f]/\D T H 1 [num a,num b,num c,strX s,.sl false 6 l,.sl false 7 f]:=by
 obtain ⟨j,h,m,n⟩:=mP hd;obtain rfl:=qaa.1 m
 match x,n with
 |[_,_,_,_,_,_],⟨k1,k2,k3,k4,k5,k6,_⟩=>obtain ⟨a,rfl⟩:=jX k1;obtain ⟨b,rfl⟩:=jX k2;obtain ⟨c,rfl⟩:=jX k3;obtain ⟨s,rfl,q,u⟩:=zhd k4;obtain ⟨t,l,rfl,w,y,A⟩:=Dv k5;obtain ⟨t',f,rfl,B,E,F⟩:=Dv k6;exact ⟨a,b,c,s,t,l,t',f,rfl,dI j (qaa.2 rfl) ⟨⟨rfl,(fun a e=>by cases e),(fun a e=>by cases e)⟩,⟨rfl,(fun a e=>by cases e),(fun a e=>by cases e)⟩,⟨rfl,(fun a e=>by cases e),(fun a e=>by cases e)⟩,⟨q,u⟩,⟨rfl,w,y,A⟩,⟨rfl,B,E,F⟩,trivial⟩⟩
end Ct
namespace Ct
theorem OG (hd:D T h 11 c)(hn:nm.size<=1000000):D T h 12 (strX nm::c):=by
 obtain ⟨f,a,j,l⟩:=mP hd;obtain rfl:=qaa.1 j
 match c,l with
 |[_,_,_,_,_,_],⟨k1,k2,k3,k4,k5,k6,_⟩=>exact dI f (qaa.2 rfl) ⟨⟨Nat.zero_le _,hn⟩,k1,k2,k3,k4,k5,k6,trivial⟩
theorem zs8 (hd:D T h 1 c)(hn:nm.size<=1000000):D T h 2 (strX nm::c):=by
 obtain ⟨f,a,j,l⟩:=mP hd;obtain rfl:=qaa.1 j
 match c,l with
 |[_,_,_,_,_,_],⟨k1,k2,k3,k4,k5,k6,_⟩=>exact dI f (qaa.2 rfl) ⟨⟨Nat.zero_le _,hn⟩,k1,k2,k3,k4,k5,k6,trivial⟩
theorem Jb {l:List Val}(h:e∈ah l):∃u,u∈l/\e=u.cells:=by
 rw [dN] at h
 grind
theorem uQ {l:List (qaW×Val)}(h:e∈au l):∃p,p∈l/\e=strX p.1::p.2.cells:=by obtain ⟨j,f,rfl⟩:=qaR h;have m:=aT l;have a:=iC (l:=l) (j:=j) (by omega)<;>grind
theorem zm1 {k i s:Int}{t:qaW}{u v:Bool}{l f:qaV}(h1:1<=h)(ht:t.size<=1000000)(hl:l.length<=1000000)(hf:f.length<=1000000)(dl:∀e,e∈l->D T (h-1) 1 e)(df:∀e,e∈f->D T (h-1) 2 e):D T h 1 [num k,num i,num s,strX t,.sl u 6 l,.sl v 7 f]:=
 dI h1 (qaa.2 rfl) ⟨⟨rfl,(fun a e=>by cases e),(fun a e=>by cases e)⟩,⟨rfl,(fun a e=>by cases e),(fun a e=>by cases e)⟩,⟨rfl,(fun a e=>by cases e),(fun a e=>by cases e)⟩,⟨Nat.zero_le _,ht⟩,⟨rfl,Nat.zero_le _,hl,dl⟩,⟨rfl,Nat.zero_le _,hf,df⟩,trivial⟩
theorem Ej {k i s:Int}{t:qaW}{u v:Bool}{l f:qaV}(h1:1<=h)(ht:t.size<=1000000)(hl:l.length<=6)(hf:f.length<=6)(dl:∀e,e∈l->D T (h-1) 11 e)(df:∀e,e∈f->D T (h-1) 12 e):D T h 11 [num k,num i,num s,strX t,.sl u 6 l,.sl v 7 f]:=
 dI h1 (qaa.2 rfl) ⟨⟨rfl,(fun a e=>by cases e),(fun a e=>by cases e)⟩,⟨rfl,(fun a e=>by cases e),(fun a e=>by cases e)⟩,⟨rfl,(fun a e=>by cases e),(fun a e=>by cases e)⟩,⟨Nat.zero_le _,ht⟩,⟨rfl,Nat.zero_le _,hl,dl⟩,⟨rfl,Nat.zero_le _,hf,df⟩,trivial⟩
theorem yD:∀(n:Nat) (v:Val),D T ((n:Int)+1) 11 (aO n v).cells
 |0,.mk k i s t l f=>Ej (by decide) (by grind[jI]) (Nat.zero_le _) (Nat.zero_le _) (fun e he=>by cases he) (fun e he=>by cases he)
 |n+1,.mk k i s t l f=>by
  have h40:=jI 40 t;refine Ej (by omega) (by omega) ?_ ?_ (fun e he=>?_) (fun e he=>?_)
  ·grind[aF]
  ·grind[aT]
  ·obtain ⟨u,hu,rfl⟩:=Jb he;obtain ⟨w,_,rfl⟩:=qah.1 hu;rw [show ((n+1:Nat):Int)+1-1=(n:Int)+1 by omega];exact yD n w
  obtain ⟨p,hp,rfl⟩:=uQ he;obtain ⟨q,_,rfl⟩:=qah.1 hp;rw [show ((n+1:Nat):Int)+1-1=(n:Int)+1 by omega];have:=jI 40 q.1;exact OG (yD n q.2) (by grind)
theorem DJ:∀(n:Nat) (v:Val),D T ((n:Int)+1) 1 (aO n v).cells
 |0,.mk k i s t l f=>zm1 (by decide) (by grind[jI]) (Nat.zero_le _) (Nat.zero_le _) (fun e he=>by cases he) (fun e he=>by cases he)
 |n+1,.mk k i s t l f=>by
  have h40:=jI 40 t;refine zm1 (by omega) (by omega) ?_ ?_ (fun e he=>?_) (fun e he=>?_)
  ·grind[aF]
  ·grind[aT]
  ·obtain ⟨u,hu,rfl⟩:=Jb he;obtain ⟨w,_,rfl⟩:=qah.1 hu;rw [show ((n+1:Nat):Int)+1-1=(n:Int)+1 by omega];exact DJ n w
  obtain ⟨p,hp,rfl⟩:=uQ he;obtain ⟨q,_,rfl⟩:=qah.1 hp;rw [show ((n+1:Nat):Int)+1-1=(n:Int)+1 by omega];have:=jI 40 q.1;exact zs8 (DJ n q.2) (by grind)
theorem zth (v:Val):D T 7 11 (zo0 (aO 4 v)).cells:=by
 refine fP (h:=6) (by decide) ?_;unfold zo0 zgP;refine Ej (by decide) (by decide) (Nat.zero_le _) ?_ (fun e a=>by cases a) (fun e a=>?_)
 ·grind[aT]
 obtain ⟨p,f,rfl⟩:=uQ a;split at f
 ·grind
 obtain rfl:=qaa.1 f;exact OG (yD 4 v) (show 4<=1000000 by decide)
theorem Qd (k:Int):∃g,∀N,1<=N->Gam.pureD (callF tab ext N) 270 [num k]=some (boolX g):=by
 cases a:decide (k>=1) with
 |true=>
  cases f:decide (k<=7) with
  |true=>exact ⟨true,fun N h=>by obtain ⟨M,rfl⟩:=pR_ N;exact puA [(4,.b true),(7,.b true)] (pf2 a f) (boolX true)⟩
  |false=>exact ⟨false,fun N h=>by obtain ⟨M,rfl⟩:=pR_ N;exact puA [(4,.b true),(7,.b false)] (pf2 a f) (boolX false)⟩
 |false=>exact ⟨false,fun N h=>by obtain ⟨M,rfl⟩:=pR_ N;exact puA [(4,.b false)] (pf1 a) (boolX false)⟩
theorem len2 {α:Type}(a b:α)(r:List α):(Int.ofNat (a::b::r).length==0)=false/\(Int.ofNat (a::b::r).length==1)=false:=by grind
theorem VA (vs:qaV)(hv:∀v,v∈vs->∃w:Val,v=(aO 1 w).cells):∃c:Int,((c=0->1<=vs.length)/\0<=c/\c<=100)/\∃B,∀N,B<=N->Gam.pureD (callF tab ext N) 233 [.sl false 6 vs]=some (num c):=by
 match vs,hv with
 |[],_=>exact ⟨4,⟨(fun e=>by cases e),by decide,by decide⟩,1,fun N j=>by obtain ⟨M,rfl⟩:=pR_ N;exact puA [] pf0 (num 4)⟩
 |[v],hv=>
  obtain ⟨w,rfl⟩:=hv v (qaa.2 rfl);have h:=nD (n:=1) w (by decide);obtain ⟨c,F,m⟩:=VD (aO 1 w) h;generalize aO 1 w=u at m h;have H:u.size<=60000:=h;obtain ⟨k,i,s,t,l,f⟩:=u;obtain ⟨g,E⟩:=Qd k;cases q:(c !=0) with
  |true=>exact ⟨c,⟨fun _=>Nat.le_refl _,F⟩,130000,fun N j=>by obtain ⟨M,rfl⟩:=pR_ N;exact puA [(13,.p (num c)),(15,.b true)] (pf2 (m M (by omega)) q) (num c)⟩
  |false=>
   cases g with
   |true=>exact ⟨0,⟨fun _=>Nat.le_refl _,by decide,by decide⟩,130000,fun N j=>by obtain ⟨M,rfl⟩:=pR_ N;exact puA [(13,.p (num c)),(15,.b false),(21,.p (boolX true))] (pf3 (m M (by omega)) q (E M (by omega))) (num 0)⟩
   |false=>exact ⟨18,⟨fun _=>Nat.le_refl _,by decide,by decide⟩,130000,fun N j=>by obtain ⟨M,rfl⟩:=pR_ N;exact puA [(13,.p (num c)),(15,.b false),(21,.p (boolX false))] (pf3 (m M (by omega)) q (E M (by omega))) (num 18)⟩
 |a::b::r,_=>obtain ⟨y,A⟩:=len2 a b r;generalize a::b::r=vs at y A;exact ⟨3,⟨(fun e=>by cases e),by decide,by decide⟩,1,fun N j=>by obtain ⟨M,rfl⟩:=pR_ N;exact puA [(7,.b false),(9,.b false)] (pf2 y A) (num 3)⟩
theorem N7:∀(h:Nat) (x:List X),sE h x->okE h x
 |0,_,hx=>hx.elim
 |h+1,x,⟨o,i,t,vs,es,e,h1,h2,h3,h4,h5⟩=>⟨o,i,t,false,vs,false,es,e,by omega,by omega,by omega,(fun v hv=>by obtain ⟨w,rfl⟩:=h3 v hv;exact fP (h:=2) (by decide) (DJ 1 w)),fun _=>VA vs h3,fun y hy=>N7 h y (h5 y hy)⟩
def eG (e:Int):qaW:=if e==18 then ⟨#[116,121,112,101]⟩ else ⟨#[101,114,114,111,114,32]⟩++⟨(Lib.itoa e).toArray⟩
theorem iP (e:Int)(h:0<=e/\e<=100)(N:Nat)(hN:10<=N):Gam.pureD (callF tab ext N) 38 [num e]=some (strX (eG e)):=by
 obtain ⟨M,rfl⟩:∃M,N=M+2:=⟨N-2,by omega⟩;unfold eG;cases f:(e==18) with
 |true=>exact puA [(4,.b true)] (pf1 f) (strX ⟨#[116,121,112,101]⟩)
 |false=>
  have a:Gam.pureD (callF tab ext (M+1)) 82 [num e]=some (strX ⟨(Lib.itoa e).toArray⟩):=by have l:=KH e (by omega) (by omega);refine bf (y:=strX ⟨(Lib.itoa e).toArray⟩) (x:=strX ⟨(Lib.itoa e).toArray⟩) (bx:=[]) ?_ rfl;show callF tab ext (M+1) (.fn 82) [num e] []=_;unfold callF;exact l
  have m:=Lib.itoa_length_le e (by omega) (by omega);have n:((⟨(Lib.itoa e).toArray⟩:qaW)).size<=100:=by rw [bsz];omega
  have j:(⟨#[101,114,114,111,114,32]⟩:qaW).size+(⟨(Lib.itoa e).toArray⟩:qaW).size<=9223372036854775807:=by show 6+_<=_;omega
  generalize (⟨(Lib.itoa e).toArray⟩:qaW)=d at a j;exact puA [(4,.b false),(6,.p (strX d)),(7,.at)] (pf3 f a j) (strX (⟨#[101,114,114,111,114,32]⟩++d))
end Ct
namespace Ct
inductive SL where
 |bad (r:qaW)
 |good (l:List Val)
def SL.ok:SL->Prop
 |.bad r=>(!(r.toList==(⟨#[]⟩:qaW).toList))=true
 |.good l=>0<l.length/\l.length<=6/\∀v,v∈l->v.wide/\D T 6 11 v.cells
def SL.list:SL->X
 |.bad r=>.tup [.sl false 6 [],strX r]
 |.good l=>.tup [.sl false 6 (ah l),strX ⟨#[]⟩]
def mV (b:Val)(l:List Val)(k:Nat):List Val:=(List.range k).map fun j=>zC b (Int.ofNat j) (l.getD j (.mk 0 0 0 ⟨#[]⟩ [] []))
def SL.els (b:Val):SL->X
 |.bad r=>.tup [.sl false 6 [],strX r]
 |.good l=>.tup [.sl false 6 (ah (mV b l l.length)),strX ⟨#[]⟩]
theorem sN (e:Int):(!((eG e).toList==(⟨#[]⟩:qaW).toList))=true:=by
 unfold eG;split;·simp [ByteArray.toList_eq]
 simp [ByteArray.toList_eq,ByteArray.data_append]
def kE:qaW:=⟨#[101,109,112,116,121]⟩
theorem U0:(!(kE.toList==(⟨#[]⟩:qaW).toList))=true:=by simp [ByteArray.toList_eq,kE]
section
variable (nd:Nod) (k i s:Int) (t:qaW) (l f:List Val) (fs:List (qaW×Val)) (ps:qaV) (N:Nat) (e1 e2 y1 y2 y3:Int) (y4 rs:qaW) (y5 y6:qaV) (v:Val)
theorem zol (vP:Gam.pureD (callF tab ext N) 39 [strX nd.text]=some (.tup [.sl false 3 ps,num e1]))(h1:(e1==0)=false)(h2:(e1 !=0)=true)(D5:Gam.pureD (callF tab ext N) 38 [num e1]=some (strX rs)):Gam.pureD (callF tab ext (N+1)) 35 [.agg nd.cells,.agg (Val.mk k i s t l fs).cells]=some (.tup [.sl false 6 [],strX rs]):=
 puA [(12,.p (.tup ([.sl false 3 ps,num e1]))),(16,.b false),(22,.b true),(24,.p (strX rs))] (pf4 vP h1 h2 D5) (.tup ([.sl true 6 [],strX rs]))
theorem zop (vP:Gam.pureD (callF tab ext N) 39 [strX nd.text]=some (.tup [.sl false 3 ps,num e1]))(h2:(e1 !=0)=true)(D5:Gam.pureD (callF tab ext N) 38 [num e1]=some (strX rs)):Gam.pureD (callF tab ext (N+1)) 15 [.agg nd.cells,.agg (Val.mk k i s t l fs).cells]=some (.tup [.sl false 6 [],strX rs]):=
 puA [(15,.p (.tup ([.sl false 3 ps,num e1]))),(19,.b true),(21,.p (strX rs))] (pf3 vP h2 D5) (.tup ([.sl true 6 [],strX rs]))
variable (vP:Gam.pureD (callF tab ext N) 39 [strX nd.text]=some (.tup [.sl false 3 ps,num 0]))
include vP
theorem zom (zU:Gam.pureD (callF tab ext N) 73 [.sl false 3 ps,.fn 74 []]=some (boolX true))(D5:Gam.pureD (callF tab ext N) 38 [num 22]=some (strX rs)):Gam.pureD (callF tab ext (N+1)) 35 [.agg nd.cells,.agg (Val.mk k i s t l fs).cells]=some (.tup [.sl false 6 [],strX rs]):=
 puA [(12,.p (.tup ([.sl false 3 ps,num 0]))),(19,.p (boolX true)),(24,.p (strX rs))] (pf3 vP zU D5) (.tup ([.sl true 6 [],strX rs]))
abbrev plH (k i s:Int) (t:qaW) (l:List Val) (fs:List (qaW×Val)) (ps:qaV) (j:Nat):St:=⟨[(3,.ptr 0 0 0),(6,.sl false 3 ps),(8,nat j)],[.var (Val.mk k i s t l fs).cells]⟩
abbrev plR (k i s:Int) (t:qaW) (l:List Val) (fs:List (qaW×Val)) (rs:qaW):St:=⟨[(4,.sl true 6 []),(5,strX rs)],[.var (Val.mk k i s t l fs).cells]⟩
abbrev plE (k i s:Int) (t:qaW) (l:List Val) (fs:List (qaW×Val)) (ps:qaV) (n:Nat):St:=⟨[(3,.ptr 0 0 0),(6,.sl false 3 ps),(8,nat n),(25,boolX false)],[.var (Val.mk k i s t l fs).cells]⟩
theorem zoq (hl:run (callF tab ext N) 0 N (.loop (loopAt 15 0)) ⟨[(3,.ptr 1 0 0),(6,.sl false 3 ps),(8,num 0)],[.var nd.cells,.var (Val.mk k i s t l fs).cells]⟩=some (.ret,plR k i s t l fs rs)):Gam.pureD (callF tab ext (N+1)) 15 [.agg nd.cells,.agg (Val.mk k i s t l fs).cells]=some (.tup [.sl false 6 [],strX rs]):=
 puB [(15,.p (.tup ([.sl false 3 ps,num 0])))] [(.ret,plR k i s t l fs rs)] (pf2 vP hl) (.tup ([.sl true 6 [],strX rs]))
variable (u1 u2 u3:Int) (u4:qaW) (u5:List Val) (u6:List (qaW×Val)) (n:Nat)
variable (zU:Gam.pureD (callF tab ext N) 73 [.sl false 3 ps,.fn 74 []]=some (boolX false)) (DZ:Gam.pureD (callF tab ext N) 41 [.agg (Val.mk k i s t l fs).cells]=some (.agg (Val.mk u1 u2 u3 u4 u5 u6).cells)) (Mc:Gam.pureD (callF tab ext N) 40 [.agg (Val.mk u1 u2 u3 u4 u5 u6).cells,.sl false 3 ps]=some (.tup [.agg [num y1,num y2,num y3,strX y4,.sl false 6 y5,.sl false 7 y6],num e2]))
 (hl:run (callF tab ext N) 0 N (.loop (loopAt 15 0)) ⟨[(3,.ptr 1 0 0),(6,.sl false 3 ps),(8,num 0)],[.var nd.cells,.var (Val.mk k i s t l fs).cells]⟩=some (.exit 0,plE k i s t l fs ps n))
include DZ Mc
include zU in
theorem zry (h1:(e2==19)=true):Gam.pureD (callF tab ext (N+1)) 35 [.agg nd.cells,.agg (Val.mk k i s t l fs).cells]=some (.tup [.sl false 6 [],strX kE]):=
 puA [(12,.p (.tup ([.sl false 3 ps,num 0]))),(19,.p (boolX false)),(27,.p (.agg (Val.mk u1 u2 u3 u4 u5 u6).cells)),(29,.p (.tup ([.agg ([num y1,num y2,num y3,strX y4,.sl false 6 y5,.sl false 7 y6]),num e2]))),(34,.b true)] (pf5 vP zU DZ Mc h1) (.tup ([.sl true 6 [],strX kE]))
include zU in
theorem zrx (h1:(e2==19)=false)(h2:(e2 !=0)=true)(D5:Gam.pureD (callF tab ext N) 38 [num e2]=some (strX rs)):Gam.pureD (callF tab ext (N+1)) 35 [.agg nd.cells,.agg (Val.mk k i s t l fs).cells]=some (.tup [.sl false 6 [],strX rs]):=
 puA [(12,.p (.tup ([.sl false 3 ps,num 0]))),(19,.p (boolX false)),(27,.p (.agg (Val.mk u1 u2 u3 u4 u5 u6).cells)),(29,.p (.tup ([.agg ([num y1,num y2,num y3,strX y4,.sl false 6 y5,.sl false 7 y6]),num e2]))),(34,.b false),(37,.b true),(39,.p (strX rs))] (pf7 vP zU DZ Mc h1 h2 D5) (.tup ([.sl true 6 [],strX rs]))
include hl in
theorem zrF (h1:(e2==19)=true):Gam.pureD (callF tab ext (N+1)) 15 [.agg nd.cells,.agg (Val.mk k i s t l fs).cells]=some (.tup [.sl false 6 [],strX kE]):=
 puB [(15,.p (.tup ([.sl false 3 ps,num 0]))),(37,.p (.agg (Val.mk u1 u2 u3 u4 u5 u6).cells)),(39,.p (.tup ([.agg ([num y1,num y2,num y3,strX y4,.sl false 6 y5,.sl false 7 y6]),num e2]))),(44,.b true)] [(.exit 0,plE k i s t l fs ps n)] (pf5 vP hl DZ Mc h1) (.tup ([.sl true 6 [],strX kE]))
include hl in
theorem zrE (h1:(e2==19)=false)(h2:(e2 !=0)=true)(D5:Gam.pureD (callF tab ext N) 38 [num e2]=some (strX rs)):Gam.pureD (callF tab ext (N+1)) 15 [.agg nd.cells,.agg (Val.mk k i s t l fs).cells]=some (.tup [.sl false 6 [],strX rs]):=
 puB [(15,.p (.tup ([.sl false 3 ps,num 0]))),(37,.p (.agg (Val.mk u1 u2 u3 u4 u5 u6).cells)),(39,.p (.tup ([.agg ([num y1,num y2,num y3,strX y4,.sl false 6 y5,.sl false 7 y6]),num e2]))),(44,.b false),(47,.b true),(49,.p (strX rs))] [(.exit 0,plE k i s t l fs ps n)] (pf7 vP hl DZ Mc h1 h2 D5) (.tup ([.sl true 6 [],strX rs]))
omit Mc
variable (Rw:Gam.pureD (callF tab ext N) 40 [.agg (Val.mk u1 u2 u3 u4 u5 u6).cells,.sl false 3 ps]=some (.tup [.agg [num y1,num y2,num y3,strX y4,.sl false 6 y5,.sl false 7 y6],num 0]))
include Rw
include zU in
theorem zrv (h1:(y1 !=8)=true)(D5:Gam.pureD (callF tab ext N) 38 [num 18]=some (strX rs)):Gam.pureD (callF tab ext (N+1)) 35 [.agg nd.cells,.agg (Val.mk k i s t l fs).cells]=some (.tup [.sl false 6 [],strX rs]):=
 puA [(12,.p (.tup ([.sl false 3 ps,num 0]))),(19,.p (boolX false)),(27,.p (.agg (Val.mk u1 u2 u3 u4 u5 u6).cells)),(29,.p (.tup ([.agg ([num y1,num y2,num y3,strX y4,.sl false 6 y5,.sl false 7 y6]),num 0]))),(43,.b true),(44,.p (strX rs))] (pf6 vP zU DZ Rw h1 D5) (.tup ([.sl true 6 [],strX rs]))
include hl in
theorem zrD (h1:(y1 !=8)=true)(D5:Gam.pureD (callF tab ext N) 38 [num 18]=some (strX rs)):Gam.pureD (callF tab ext (N+1)) 15 [.agg nd.cells,.agg (Val.mk k i s t l fs).cells]=some (.tup [.sl false 6 [],strX rs]):=
 puB [(15,.p (.tup ([.sl false 3 ps,num 0]))),(37,.p (.agg (Val.mk u1 u2 u3 u4 u5 u6).cells)),(39,.p (.tup ([.agg ([num y1,num y2,num y3,strX y4,.sl false 6 y5,.sl false 7 y6]),num 0]))),(53,.b true),(54,.p (strX rs))] [(.exit 0,plE k i s t l fs ps n)] (pf6 vP hl DZ Rw h1 D5) (.tup ([.sl true 6 [],strX rs]))
variable (h0:(y1 !=8)=false)
include h0
include zU in
theorem zru (h1:(Int.ofNat y5.length==0)=true):Gam.pureD (callF tab ext (N+1)) 35 [.agg nd.cells,.agg (Val.mk k i s t l fs).cells]=some (.tup [.sl false 6 [],strX kE]):=
 puA [(12,.p (.tup ([.sl false 3 ps,num 0]))),(19,.p (boolX false)),(27,.p (.agg (Val.mk u1 u2 u3 u4 u5 u6).cells)),(29,.p (.tup ([.agg ([num y1,num y2,num y3,strX y4,.sl false 6 y5,.sl false 7 y6]),num 0]))),(43,.b false),(49,.b true)] (pf6 vP zU DZ Rw h0 h1) (.tup ([.sl true 6 [],strX kE]))
include hl in
theorem zrB (h1:(Int.ofNat y5.length==0)=true):Gam.pureD (callF tab ext (N+1)) 15 [.agg nd.cells,.agg (Val.mk k i s t l fs).cells]=some (.tup [.sl false 6 [],strX kE]):=
 puB [(15,.p (.tup ([.sl false 3 ps,num 0]))),(37,.p (.agg (Val.mk u1 u2 u3 u4 u5 u6).cells)),(39,.p (.tup ([.agg ([num y1,num y2,num y3,strX y4,.sl false 6 y5,.sl false 7 y6]),num 0]))),(53,.b false),(59,.b true)] [(.exit 0,plE k i s t l fs ps n)] (pf6 vP hl DZ Rw h0 h1) (.tup ([.sl true 6 [],strX kE]))
variable (h1:(Int.ofNat y5.length==0)=false) (h2:decide (Int.ofNat y5.length>64)=false)
include h1 h2
include zU in
theorem zrt:Gam.pureD (callF tab ext (N+1)) 35 [.agg nd.cells,.agg (Val.mk k i s t l fs).cells]=some (.tup [.sl false 6 y5,strX ⟨#[]⟩]):=
 puA [(12,.p (.tup ([.sl false 3 ps,num 0]))),(19,.p (boolX false)),(27,.p (.agg (Val.mk u1 u2 u3 u4 u5 u6).cells)),(29,.p (.tup ([.agg ([num y1,num y2,num y3,strX y4,.sl false 6 y5,.sl false 7 y6]),num 0]))),(43,.b false),(49,.b false),(54,.b false)] (pf7 vP zU DZ Rw h0 h1 h2) (.tup ([.sl false 6 y5,noText]))
abbrev elH (k i s:Int) (t:qaW) (l:List Val) (fs:List (qaW×Val)) (y1 y2 y3:Int) (y4:qaW) (y5 y6 acc:qaV) (j:Nat):St:=⟨[(3,.ptr 0 0 0),(9,.ptr 1 0 0),(10,.bs 2 0 j),(11,nat j)],[.var (Val.mk k i s t l fs).cells,.var [num y1,num y2,num y3,strX y4,.sl false 6 y5,.sl false 7 y6],.row 6 acc]⟩
abbrev elE (k i s:Int) (t:qaW) (l:List Val) (fs:List (qaW×Val)) (y1 y2 y3:Int) (y4:qaW) (y5 y6 acc:qaV) (j:Nat):St:=⟨[(3,.ptr 0 0 0),(9,.ptr 1 0 0),(10,.bs 2 0 j),(11,nat j),(69,boolX false)],[.var (Val.mk k i s t l fs).cells,.var [num y1,num y2,num y3,strX y4,.sl false 6 y5,.sl false 7 y6],.row 6 acc]⟩
include hl in
theorem zrA (acc:qaV)(m:Nat)(hm:m=acc.length)(hl2:run (callF tab ext N) 0 N (.loop (loopAt 15 1)) (elH k i s t l fs y1 y2 y3 y4 y5 y6 [] 0)=some (.exit 3,elE k i s t l fs y1 y2 y3 y4 y5 y6 acc m)):Gam.pureD (callF tab ext (N+1)) 15 [.agg nd.cells,.agg (Val.mk k i s t l fs).cells]=some (.tup [.sl false 6 acc,strX ⟨#[]⟩]):=by refine pure_of [(15,.p (.tup ([.sl false 3 ps,num 0]))),(37,.p (.agg (Val.mk u1 u2 u3 u4 u5 u6).cells)),(39,.p (.tup ([.agg ([num y1,num y2,num y3,strX y4,.sl false 6 y5,.sl false 7 y6]),num 0]))),(53,.b false),(59,.b false),(64,.b false)] [(.exit 0,plE k i s t l fs ps n),(.exit 3,elE k i s t l fs y1 y2 y3 y4 y5 y6 acc m)] (pf8 vP hl DZ Rw h0 h1 h2 hl2) (x:=.tup [.bs 0 0 m,noText]) (bx:=[.row 6 acc]) (by kernel_rfl) ?_;subst hm;simp only [X.data,dH,fG (bx:=[.row 6 acc]) (i:=0) (sz:=6) (es:=acc) rfl rfl,qam,noText,strX]
end
end Ct
namespace Ct
def zxV:List Ctr:=[dO 289 [.sl 1 5] [] none [(.bs 0,[.row 1 5],[lt 3 0 5,lt 5 0 3])]]
theorem zkx:ak T Gm zxV:=.one fun ρ L B f=>by
 obtain ⟨l,m⟩:=qw f;obtain ⟨x,rfl,A⟩:=zeH l;obtain rfl:=qQ m;obtain ⟨t,a,j,rfl,u,w,n⟩:=A;unfold bW at w;refine uK (q:=(.bs 0,[.row 1 5],[lt 3 0 5,lt 5 0 3])) (qaa.2 rfl) f.zero f.pos rfl rfl (r:=.bs 0 0 a.length) (bx':=[.row 1 a]) ⟨a.length,rfl,by grind[bW]⟩ ⟨⟨a,j,rfl,u,by grind[bW],n⟩,trivial⟩ (fun J ρ' H z g h y=>?_) (gI (g:=GV 1) rfl ?_)
 ·subst y;have E:(a.length:Int)=ρ' 3:=by
   cases g with
   |bs _ _ _ q=>rw [q];unfold Lin.v;show ρ' 3+0=_;omega
  have F:(a.length:Int)=ρ' 5:=by
   cases h with
   |cons g _=>cases g with
    |row _ _ q _=>rw [q];unfold Lin.v;show ρ' 5+0=_;omega
  exact .cons (iR (by decide) (by decide) (by omega)) (.cons (iR (by decide) (by decide) (by omega)) .nil)
 show (if 1=1/\a.length<=1000000 then _ else _)=_
 grind
def zrR (k:Nat):Ctr:=(dO 149 [.bsr 0 0 1001000,int,.slr 7 k 1 1] [.zcE 7 k 1001000] none [(.bsr 1 0 1002000,[.dead,.zcE 7 k 1002000],[lt 7 (-1) 1,lt 1 1 7,lt 7 0 9,lt 9 0 7])]).with [[lt 1 0 6,lt 6 0 1,lt 2 0 1,aj (.k 0) ⟨2,0⟩,aj ⟨6,0⟩ (.k 1001000)]]
theorem zaL (k:Nat):(zrR k).Holds T Gm:=fun ρ F A f=>by
 have h:(dO 149 [.bsr 0 0 1001000,int,.slr 7 k 1 1] [.zcE 7 k 1001000] none [(.bsr 1 0 1002000,[.dead,.zcE 7 k 1002000],[lt 7 (-1) 1,lt 1 1 7,lt 7 0 9,lt 9 0 7])]).Sat T ρ F A:=⟨f.zero,f.pos,f.pre,⟨[],qaa.2 rfl,.nil⟩,f.args,f.inb⟩;obtain ⟨p,P,m⟩:=f.alts;obtain rfl:=qaa.1 P;obtain ⟨J,L⟩:=qw h;have M:=h.args;have y:=h.inb
 match F,J,M with
 |[_,_,_],⟨⟨n,rfl,n0,n1⟩,⟨z,rfl⟩,⟨t,es,h3,rfl,hh3,hl1,hl2,hd3⟩,_⟩,.cons H (.cons g2 _)=>
  match A,L,y with
  |[_],⟨⟨rows,h5,rfl,hh5,hl5,hd5⟩,_⟩,.cons Q _=>
   have S:(n:Int)=ρ 1:=by
    cases H with
    |bs _ _ _ q=>grind[Lin.v]
   have U:z=ρ 2:=sI g2;have V:(rows.length:Int)=ρ 6:=by
    cases Q with
    |row _ _ q _=>grind[Lin.v]
   have Z:=Gn (a:=1) (b:=6) (c:=0) m (qaq ..);have f2:=Gn (a:=6) (b:=1) (c:=0) m (qar _ (qaq ..));have f3:=Gn (a:=2) (b:=1) (c:=0) m (qar _ (qar _ (qaq ..)));have f4:0<=ρ 2:=by have:=(aC.1 (m (aj (.k 0) ⟨2,0⟩) (qar _ (qar _ (qar _ (qaq ..)))))).2.2;rw [Lin.k_v h.zero] at this;unfold Lin.v at this;dsimp only at this;omega
   match es,hl1,hl2,hd3 with
   |[e],_,_,hd3=>
    have hz:z.toNat<=rows.length:=by omega
    have l:(rows.take z.toNat++[e]++rows.drop z.toNat).length=rows.length+1:=by simp only [qaw,qai,qaK,List.length_singleton];omega
    obtain rfl:n=rows.length:=by omega
    refine uK (q:=(.bsr 1 0 1002000,[.dead,.zcE 7 k 1002000],[lt 7 (-1) 1,lt 1 1 7,lt 7 0 9,lt 9 0 7])) (qaa.2 rfl) h.zero h.pos rfl rfl (r:=.bs 1 0 (rows.length+1)) (bx':=[.dead,.row 7 (rows.take z.toNat++[e]++rows.drop z.toNat)])
     ⟨rows.length+1,rfl,by omega,by omega⟩ ⟨rfl,⟨_,max h3 h5,rfl,by omega,by omega,fun x j=>?_⟩,trivial⟩ (fun n' ρ' N zz g w O=>?_) (zbL (g:=zaK 7) rfl ?_)
    ·simp only [qaO,qaa] at j;rcases j with (j|rfl)|j;·exact fP (by omega) (hd5 x (List.mem_of_mem_take j))
     ·exact fP (by omega) (hd3 x (qaa.2 rfl))
     exact fP (by omega) (hd5 x (List.mem_of_mem_drop j))
    ·subst O;have k1:=N.same 1 (show 1<7 by decide);have W:((rows.length+1:Nat):Int)=ρ' 7:=by
      cases g with
      |bs _ _ _ q=>rw [q];unfold Lin.v;show ρ' 7+0=_;omega
     have Y:((rows.length+1:Nat):Int)=ρ' 9:=by
      cases w with
      |cons _ w=>cases w with
       |cons g _=>cases g with
        |row _ _ q _=>rw [<-l,q];unfold Lin.v;show ρ' 9+0=_;omega
     have B:(1:Nat)<10:=by decide
     have u:(7:Nat)<10:=by decide
     have E:(9:Nat)<10:=by decide
     exact .cons (iR u B (by omega)) (.cons (iR B u (by omega)) (.cons (iR u E (by omega)) (.cons (iR E u (by omega)) .nil)))
    show (if 7=7/\7=7/\rows.length=rows.length/\rows.length<=2000000/\0<=z/\z.toNat<=rows.length then _ else _)=_
    grind
where
 zbL {f:FuncId} {args:List X} {inb:List Bx} {g:List X->List Bx->Option (X×List Bx)} (hg:ext f=some g) {r:X} {bx:List Bx} (h:g args inb=some (r,bx)):∃B,∀N,B<=N->Gm N (.fn f) args inb=some (r,bx):=
  ⟨1,fun N hN=>by
   obtain ⟨M,rfl⟩:=pR_ N;show callF tab ext (M+1) (.fn f) args inb=_
   grind[callF]⟩
def zx2:List Ctr:=[zrR 2,zrR 22]
theorem zbl:ak T Gm zx2:=.cons (zaL 2) (.one (zaL 22))
theorem Xd {n:Nat}{ρ:Rho}(h0:ρ 0=0){s:Nat}(hn:0<n)(hs:s<n):∃p,p∈KG s/\aV n ρ p:=by
 have up:∀{c:Int},ρ s<=c->(aj ⟨s,0⟩ (.k c)).ok n ρ:=fun h=>aC.2 ⟨hs,hn,by grind[Lin.k_v,Lin.v]⟩;have a:∀{c:Int},c<=ρ s->(aj (.k c) ⟨s,0⟩).ok n ρ:=fun h=>aC.2 ⟨hn,hs,by grind[Lin.k_v,Lin.v]⟩;have m:∀{lo hi:Int},lo<=ρ s->ρ s<=hi->aV n ρ (bd s lo hi):=fun f j=>.cons (a f) (.cons (up j) .nil);unfold KG;by_cases l:ρ s<=0;·exact ⟨_,qaq ..,.cons (up l) .nil⟩
 by_cases q:ρ s<=7
 ·grind
 by_cases u:ρ s<=8
 ·grind
 by_cases w:ρ s<=9
 ·grind
 by_cases y:ρ s<=10
 ·grind
 exact ⟨_,qar _ (qar _ (qar _ (qar _ (qar _ (qaq ..))))),.cons (a (by omega)) .nil⟩
end Ct
namespace Ct
theorem ZQ (N:Nat):callF tab ext (N+61) (.fn 32) [.sl false 7 []] []=some (.agg [num 9,num 0,num 0,noText,.sl false 6 [],.sl false 7 []],[]):=caA [] (pf1 (Nat.le_refl 0))
def zyh:List Ctr:=[mkC 32 [.x (.sl false 7 [])] [] none [(val,[])]]
theorem zkN:ak T Gm zyh:=.one (dh (fun o j=>by rw [qaa.1 j];exact ⟨rfl,rfl⟩) fun n l f h=>by obtain ⟨x,rfl,rfl,_⟩:=zeH f;obtain rfl:=qQ h;refine ⟨_,qaa.2 rfl,.agg [num 9,num 0,num 0,noText,.sl false 6 [],.sl false 7 []],[],⟨0,_,rfl,by decide,⟨9,rfl⟩,⟨0,rfl⟩,⟨0,rfl⟩,⟨⟨#[]⟩,rfl,by decide⟩,⟨false,[],rfl,by decide,fun e a=>by cases a⟩,⟨false,[],rfl,by decide,fun e a=>by cases a⟩,trivial⟩,trivial,61,fun N m=>?_⟩;obtain ⟨M,rfl⟩:∃M,N=M+61:=⟨N-61,by omega⟩;exact ZQ M)
end Ct
end Go.Proofs.YtkeefpkcepodeaaGreatDoor
