/-.-/
import Derived.Laws.Bits64
import Derived.Test.YtkeefpkcepodeaaGreatDoorU17
set_option linter.all false
namespace Go.Proofs.YtkeefpkcepodeaaGreatDoor
open Go Go.Em Go.Ab
set_option maxRecDepth 100000
variable {nm:qaW}{m:C}{Γ:Gam}{h hp:Int}{e x x0 xs:List X}{B fu nIn:Nat}{σ σ' τ:St}{r:X}
namespace Ct
theorem zb8 {k kf:Nat}(P:Nat->Val->Prop)
  (i1:∀{n e},DN T (n+1) k e->∃(a b c:Int) (s:qaW) (t:Bool) (l:qaV) (t':Bool) (f:qaV),e=[num a,num b,num c,strX s,.sl t 6 l,.sl t' 7 f]/\l.length<=1000000/\f.length<=1000100/\(∀x,x∈l->DN T n k x)/\(∀x,x∈f->DN T n kf x)/\
   ∀vl vf,vl.length=l.length->vf.length=f.length->(∀v,v∈vl->P n v)->(∀p,p∈vf->p.1.size<=1000000/\P n p.2)->P (n+1) (.mk a b c s vl vf))
  (i2:∀{n e},DN T n kf e->∃(nm:qaW) (x:List X),e=strX nm::x/\nm.size<=1000000/\DN T n k x):
  ∀(n:Nat) {x:List X},DN T n k x->∃v:Val,P n v/\∃(a b c:Int) (s:qaW) (t:Bool) (l:qaV) (t':Bool) (f:qaV),x=[num a,num b,num c,strX s,.sl t 6 l,.sl t' 7 f]/\∃B,∀N,B<=N->Gam.pureD (callF tab ext N) 60 [.agg [num a,num b,num c,strX s,.sl false 6 l,.sl false 7 f]]=some (.agg v.cells):=by
 intro n;induction n with
 |zero=>exact fun h=>h.elim
 |succ n ih=>
  intro x W;obtain ⟨a,b,c,s,t,l,t',f,rfl,hl,hf,dl,df,hP⟩:=i1 W;have hL:∃(g:Nat->Val) (B:Nat),∀j,j∈List.range l.length->P n (g j)/\∀N,B<=N->∃(a1 a2 a3:Int) (a4:qaW) (u w:Bool) (a5 a6:qaV),l[j]?=some [num a1,num a2,num a3,strX a4,.sl u 6 a5,.sl w 7 a6]/\Gam.pureD (callF tab ext N) 60 [.agg [num a1,num a2,num a3,strX a4,.sl false 6 a5,.sl false 7 a6]]=some (.agg (g j).cells):=
   jZ (List.range l.length) (R:=fun _ v=>P n v) (Q:=fun j v N=>∃(a1 a2 a3:Int) (a4:qaW) (u w:Bool) (a5 a6:qaV),l[j]?=some [num a1,num a2,num a3,strX a4,.sl u 6 a5,.sl w 7 a6]/\Gam.pureD (callF tab ext N) 60 [.agg [num a1,num a2,num a3,strX a4,.sl false 6 a5,.sl false 7 a6]]=some (.agg v.cells)) fun j m=>by have m:=List.mem_range.1 m;obtain ⟨v,y,a1,a2,a3,a4,u,a5,w,a6,e,B,J⟩:=ih (dl _ (qaf m));exact ⟨v,y,B,fun N H=>⟨a1,a2,a3,a4,u,w,a5,a6,by grind,J N H⟩⟩
  have L:∃(g:Nat->qaW×Val) (B:Nat),∀j,j∈List.range f.length->((g j).1.size<=1000000/\P n (g j).2)/\∀N,B<=N->∃(a1 a2 a3:Int) (a4:qaW) (u w:Bool) (a5 a6:qaV),f[j]?=some [strX (g j).1,num a1,num a2,num a3,strX a4,.sl u 6 a5,.sl w 7 a6]/\Gam.pureD (callF tab ext N) 60 [.agg [num a1,num a2,num a3,strX a4,.sl false 6 a5,.sl false 7 a6]]=some (.agg (g j).2.cells):=
   jZ (List.range f.length) (R:=fun _ (p:qaW×Val)=>p.1.size<=1000000/\P n p.2) (Q:=fun j p N=>∃(a1 a2 a3:Int) (a4:qaW) (u w:Bool) (a5 a6:qaV),f[j]?=some [strX p.1,num a1,num a2,num a3,strX a4,.sl u 6 a5,.sl w 7 a6]/\Gam.pureD (callF tab ext N) 60 [.agg [num a1,num a2,num a3,strX a4,.sl false 6 a5,.sl false 7 a6]]=some (.agg p.2.cells)) fun j m=>by have m:=List.mem_range.1 m;obtain ⟨nm,x,e0,U,W⟩:=i2 (df _ (qaf m));obtain ⟨v,y,a1,a2,a3,a4,u,a5,w,a6,e,B,J⟩:=ih W;exact ⟨(nm,v),⟨U,y⟩,B,fun N H=>⟨a1,a2,a3,a4,u,w,a5,a6,by grind,J N H⟩⟩
  obtain ⟨g,Z,O⟩:=hL;obtain ⟨q,B2,V⟩:=L
  let vl:=(List.range l.length).map g
  let vf:=(List.range f.length).map q
  have el:vl.length=l.length:=by simp [vl]
  have Y:vf.length=f.length:=by simp [vf]
  have cl:=aF vl;have cf:=aT vf;have gl:∀j,j<l.length->(ah vl)[j]?=some (g j).cells:=fun j m=>by grind[dN]
  have gf:∀j,j<f.length->(au vf)[j]?=some (strX (q j).1::(q j).2.cells):=fun j m=>by rw [mJ];grind
  refine ⟨.mk a b c s vl vf,hP vl vf el Y (fun v y=>?_) (fun p hp=>?_),a,b,c,s,t,l,t',f,rfl,Z+B2+3000100,fun N H=>?_⟩;·obtain ⟨j,m,rfl⟩:=qah.1 y;exact (O j m).1
  ·obtain ⟨j,m,rfl⟩:=qah.1 hp;exact (V j m).1
  obtain ⟨M,rfl⟩:=pR_ N;have A:run (callF tab ext M) 0 M (.loop (loopAt 60 0)) (clH a b c s l f [] l.length 0)=some (.exit 0,clE a b c s l f (ah vl) l.length l.length):=by
   refine aQ (σ:=fun j=>clH a b c s l f ((ah vl).take j) l.length j) (k:=l.length) (D9 _ _ _ _ _ _ _ _ _) (fun j m=>?_) ?_ (by simp) (by omega)
   ·obtain ⟨a1,a2,a3,a4,u,w,a5,a6,S,y⟩:=(O j (List.mem_range.2 m)).2 M (by omega);refine ⟨_,LQ M a b c s l f _ l.length j (g j) a1 a2 a3 a4 u w a5 a6 y S m (by omega) (by grind),?_⟩
    grind[zJ,bM]
   ·grind[U9]
  have E:run (callF tab ext M) 0 M (.loop (loopAt 60 1)) ⟨[(2,.ptr 1 0 0),(3,.ptr 2 0 0),(27,.sl false 7 f),(28,nat f.length),(29,nat 0)],[.var [num a,num b,num c,strX s,.sl false 6 l,.sl false 7 f],.var CS,.var [num a,num b,num c,strX s,.bs 3 0 l.length,.bs 4 0 0],.row 6 (ah vl),.row 7 []]⟩=some (.exit 2,cfE a b c s f (ah vl) (au vf) f.length f.length l.length):=by
   refine aQ (σ:=fun j=>cfH a b c s f (ah vl) ((au vf).take j) f.length j l.length) (k:=f.length) (by kernel_rfl) (fun j m=>?_) ?_ (by simp) (by omega)
   ·obtain ⟨a1,a2,a3,a4,u,w,a5,a6,S,y⟩:=(V j (List.mem_range.2 m)).2 M (by omega);refine ⟨_,LU M a b c s f _ _ f.length j l.length (q j).2 (q j).1 a1 a2 a3 a4 u w a5 a6 y S m (by omega) (by grind),?_⟩
    grind[zK,bM]
   ·grind[Va]
  have F:(X.agg [num a,num b,num c,strX s,.bs 0 0 l.length,.bs 1 0 f.length]).data [.row 6 (ah vl),.row 7 (au vf)] false=some (.agg (Val.mk a b c s vl vf).cells):=by
   have e1:l.length=(ah vl).length:=by omega
   have e2:f.length=(au vf).length:=by omega
   rw [e1,e2];simp [X.data,dH,rowOf,Val.cells,num,strX]
  clear O V gl gf el Y;generalize ah vl=CL at A E F;generalize au vf=CF at A E F;generalize l.length=n1 at A E F;generalize f.length=n2 at A E F;exact pure_of [] [(.exit 0,clE a b c s l f CL n1 n1),(.exit 2,cfE a b c s f CL CF n2 n2 n1)] (pf2 A E) (bx:=[.row 6 CL,.row 7 CF]) (by kernel_rfl) F
theorem U4 {n:Nat}(h:DN T (n+1) 11 e):∃(a b c:Int) (s:qaW) (t:Bool) (l:qaV) (t':Bool) (f:qaV),e=[num a,num b,num c,strX s,.sl t 6 l,.sl t' 7 f]/\s.size<=1000000/\l.length<=6/\f.length<=6/\(∀x,x∈l->DN T n 11 x)/\∀x,x∈f->DN T n 12 x:=by
 obtain ⟨j,m,q⟩:=h;obtain rfl:=qaa.1 m
 match e,q with
 |[.v (.int _ a),.v (.int _ b),.v (.int _ c),.v (.string s),.sl t _ l,.sl t' _ f],⟨⟨rfl,_⟩,⟨rfl,_⟩,⟨rfl,_⟩,h4,⟨rfl,_,h5,h6⟩,⟨rfl,_,h7,h8⟩,_⟩=>exact ⟨a,b,c,s,t,l,t',f,rfl,h4.2,h5,h7,h6,h8⟩
theorem U3 {n:Nat}(h:DN T n 12 e):∃(nm:qaW) (x:List X),e=strX nm::x/\nm.size<=1000000/\DN T n 11 x:=by
 cases n with
 |zero=>exact h.elim
 |succ n=>
  obtain ⟨a,f,j⟩:=h;obtain rfl:=qaa.1 f
  match e,j with
  |.v (.string s)::x,⟨h1,h2⟩=>exact ⟨s,x,rfl,h1.2,_,qaa.2 rfl,h2⟩
theorem zyo {n:Nat}{v:Val}(hn:nm.size<=1000000)(h:DN T n 11 v.cells):DN T n 12 (strX nm::v.cells):=by
 cases n with
 |zero=>exact h.elim
 |succ n=>obtain ⟨a,f,j⟩:=h;obtain rfl:=qaa.1 f;exact ⟨_,qaa.2 rfl,⟨by omega,hn⟩,j⟩
theorem zfU {n:Nat}(h:DN T n 11 x):∃v:Val,(v.wide/\DN T n 11 v.cells)/\∃(a b c:Int) (s:qaW) (t:Bool) (l:qaV) (t':Bool) (f:qaV),x=[num a,num b,num c,strX s,.sl t 6 l,.sl t' 7 f]/\∃B,∀N,B<=N->Gam.pureD (callF tab ext N) 60 [.agg [num a,num b,num c,strX s,.sl false 6 l,.sl false 7 f]]=some (.agg v.cells):=
 zb8 (k:=11) (kf:=12) (fun n v=>v.wide/\DN T n 11 v.cells) (fun h=>by
  obtain ⟨a,b,c,s,t,l,t',f,rfl,u,F,H,w,y⟩:=U4 h;refine ⟨a,b,c,s,t,l,t',f,rfl,by omega,by omega,w,y,fun L J A E q m=>⟨?_,?_⟩⟩;·simp only [Val.wide];exact ⟨⟨by omega,by omega⟩,Ee fun v h=>(q v h).1,Ef fun p h=>(m p h).2.1⟩
  refine ⟨_,qaa.2 rfl,⟨rfl,(fun a e=>by cases e),(fun a e=>by cases e)⟩,⟨rfl,(fun a e=>by cases e),(fun a e=>by cases e)⟩,⟨rfl,(fun a e=>by cases e),(fun a e=>by cases e)⟩,⟨by omega,u⟩,⟨rfl,by omega,by rw [aF];omega,fun e j=>?_⟩,⟨rfl,by omega,by rw [aT];omega,fun e j=>?_⟩,trivial⟩;·rw [dN] at j;obtain ⟨v,h,rfl⟩:=qah.1 j;exact (q v h).2
  rw [mJ] at j;obtain ⟨p,h,rfl⟩:=qah.1 j;exact zyo (m p h).1 (m p h).2.2) U3 n h
theorem zpb {n:Nat}(hn:nm.size<=1000000)(h:DN T n 1 x):DN T n 2 (strX nm::x):=by
 cases n with
 |zero=>exact h.elim
 |succ n=>obtain ⟨a,f,j⟩:=h;obtain rfl:=qaa.1 f;exact ⟨_,qaa.2 rfl,⟨by omega,hn⟩,j⟩
theorem zbY:∀(n:Nat) {x:List X},DN T n 11 x->DN T n 1 x
 |0,_,h=>h.elim
 |n+1,_,h=>by obtain ⟨a,b,c,s,t,l,t',f,rfl,h1,h2,h3,h4,h5⟩:=U4 h;refine ⟨_,qaa.2 rfl,⟨rfl,(fun a e=>by cases e),(fun a e=>by cases e)⟩,⟨rfl,(fun a e=>by cases e),(fun a e=>by cases e)⟩,⟨rfl,(fun a e=>by cases e),(fun a e=>by cases e)⟩,⟨by omega,h1⟩,⟨rfl,by omega,by omega,fun e he=>zbY n (h4 e he)⟩,⟨rfl,by omega,by omega,fun e he=>?_⟩,trivial⟩;obtain ⟨nm,x,rfl,q,hx⟩:=U3 (h5 e he);exact zpb q (zbY n hx)
def Sm (y:List X):Prop:=D T 7 1 y/\∃v:Val,v.wide/\y=v.cells/\D T 7 11 y
theorem U8 {a b c:Int}{s:qaW}{u w:Bool}{l f:qaV}(hd:D T 7 11 [num a,num b,num c,strX s,.sl u 6 l,.sl w 7 f]):∃(a' b' c':Int) (s':qaW) (t:Bool) (l':qaV) (t':Bool) (f':qaV),Sm [num a',num b',num c',strX s',.sl t 6 l',.sl t' 7 f']/\∃B,∀N,B<=N->Gam.pureD (callF tab ext N) 60 [.agg [num a,num b,num c,strX s,.sl false 6 l,.sl false 7 f]]=some (.agg [num a',num b',num c',strX s',.sl t 6 l',.sl t' 7 f']):=by obtain ⟨⟨a',b',c',s',y,q⟩,⟨m,h⟩,_,_,_,_,_,_,_,_,e,j⟩:=zfU (n:=7) hd;cases e;exact ⟨a',b',c',s',false,ah y,false,au q,⟨zbY 7 h,_,m,rfl,h⟩,j⟩
end Ct
namespace Ct
theorem d7 (hd:D T h 7 x):∃(k i:Int) (nm:qaW),x=[num k,num i,strX nm]/\0<=i/\i<=1000000/\nm.size<=1000000:=by
 obtain ⟨m,a,j,l⟩:=mP hd;obtain rfl:=qaa.1 j
 match x,l with
 |[_,y,_],⟨k1,k2,k3,_⟩=>
  obtain ⟨k,rfl⟩:=jX k1;obtain ⟨nm,rfl,_,f⟩:=zhd k3
  match y,k2 with
  |.v (.int _ i),⟨rfl,q1,q2⟩=>exact ⟨k,i,nm,rfl,q1 0 rfl,q2 1000000 rfl,f⟩
section
variable (t2:Bool) (ps:qaV) (np:Nat)
abbrev ouH (p:Bool×qaV×Nat×Nat):St:=match p.1 with
 |true=>⟨[(1,.sl t2 3 ps),(7,.sl true 6 p.2.1),(23,.sl t2 3 ps),(24,nat np),(25,nat p.2.2.2)],[]⟩
 |false=>⟨[(1,.sl t2 3 ps),(7,.bs 0 0 p.2.2.1),(23,.sl t2 3 ps),(24,nat np),(25,nat p.2.2.2)],[.row 6 p.2.1]⟩
abbrev ouE (p:Bool×qaV×Nat×Nat):St:=match p.1 with
 |true=>⟨[(1,.sl t2 3 ps),(7,.sl true 6 p.2.1),(23,.sl t2 3 ps),(24,nat np),(25,nat p.2.2.2),(26,boolX false)],[]⟩
 |false=>⟨[(1,.sl t2 3 ps),(7,.bs 0 0 p.2.2.1),(23,.sl t2 3 ps),(24,nat np),(25,nat p.2.2.2),(26,boolX false)],[.row 6 p.2.1]⟩
end
def OuI (np:Nat)(p:Bool×qaV×Nat×Nat):Prop:=p.2.2.1=p.2.1.length/\p.2.2.2<=np/\(∀e,e∈p.2.1->D T (7-(p.2.2.2:Int)) 11 e)/\(p.2.2.2<=6->p.2.1.length<=6^p.2.2.2)
theorem zn6 {np:Nat}{p:Bool×qaV×Nat×Nat}(h:OuI np p):p.2.1.length<=50000:=by
 obtain ⟨l,m,f,j⟩:=h;by_cases a:p.2.2.2<=6
 ·have:=j a;have:6^p.2.2.2<=6^6:=Nat.pow_le_pow_right (by decide) a
  grind
 cases n:p.2.1 with
 |nil=>simp
 |cons x r=>have:=(mP (f x (by grind))).1;omega
theorem outer (t2:Bool)(ps:qaV)(hps:∀e,e∈ps->D T hp 7 e)(hlen:ps.length<=1000000)(hx0:D T 7 11 x0)(hτ:canon 0 τ=some (ouH t2 ps ps.length (true,[x0],1,0))):
  ∃e σ' B,((e=.ret/\∃bx,σ'=L9 bx/\zmW bx)\/(∃p,e=.exit 0/\σ'=ouE t2 ps ps.length p/\p.2.2.1=p.2.1.length/\(∀y,y∈p.2.1->D T 7 11 y)/\p.2.1.length<=50000))/\∀M,B<=M->run (callF tab ext M) 0 M (.loop (loopAt 85 0)) τ=some (e,σ'):=by
 refine jC (nIn:=0) (b:=loopAt 85 0) (H:=ouH t2 ps ps.length) (I:=OuI ps.length) (μ:=fun p=>ps.length-p.2.2.2)
  (Q:=fun e σ'=>(e=.ret/\∃bx,σ'=L9 bx/\zmW bx)\/(∃p,e=.exit 0/\σ'=ouE t2 ps ps.length p/\p.2.2.1=p.2.1.length/\(∀y,y∈p.2.1->D T 7 11 y)/\p.2.1.length<=50000))
  (fun p S=>?_) (a:=(true,[x0],1,0)) ⟨rfl,Nat.zero_le _,(fun e he=>by grind),fun _=>Nat.le_refl _⟩ hτ
 have P:=zn6 S;obtain ⟨w,l,n,j⟩:=p;obtain ⟨L,i2,i3,i4⟩:=S;dsimp only at L i2 i3 i4 P ⊢;by_cases hj:j<ps.length
 ·have J:=aH hj;obtain ⟨x,F⟩:∃x,ps[j]?=some x:=⟨_,qad hj⟩;obtain ⟨k,i,m,rfl,p1,p2,p3⟩:=d7 (hps x (qan F));have O:∀e,e∈l->D T ((6-(j:Int))+1) 11 e:=fun e he=>by grind
  generalize W:ps.length=np at*;have next:∀{ns:qaV},ns.length<=6*n->(∀y,y∈ns->D T (6-(j:Int)) 11 y)->OuI np (false,ns,ns.length,j+1):=fun {ns} U V=>by
   refine ⟨rfl,by grind,fun y hy=>?_,fun pa=>?_⟩
   ·grind
   grind
  cases w with
  |true=>
   obtain ⟨e,σ',B,Y,f⟩:=innerS t2 ps l np j n (k:=k) (h:=6-(j:Int)) p1 p2 p3 L O P (τ:=⟨[(1,.sl t2 3 ps),(9,.ptr 0 0 0),(10,.bs 1 0 0),(23,.sl t2 3 ps),(24,nat np),(25,nat j),(29,.sl true 6 l),(30,nat n),(31,num 0)],[.var [num k,num i,strX m],.row 6 []]⟩) (by kernel_rfl);subst L;rcases Y with ⟨rfl,bx,rfl,E⟩|⟨ns,rfl,rfl,U,V⟩
   ·rcases E with ⟨a,ns,b,rfl⟩|⟨a,ns,u,b,rfl⟩;·exact .inr ⟨.ret,L9 [.var a,.row 6 ns,.var b],B,(by grind),.inl ⟨rfl,_,rfl,.inl ⟨_,_,_,rfl⟩⟩,fun M A=>ruB [(26,.b true),(27,.e [num k,num i,strX m])] [(.ret,L9 [.var a,.row 6 ns,.var b])] (pf3 J F (f M A))⟩
    exact .inr ⟨.ret,L9 [.var a,.row 6 ns,.row 6 u,.var b],B,(by grind),.inl ⟨rfl,_,rfl,.inr ⟨_,_,_,_,rfl⟩⟩,fun M A=>ruB [(26,.b true),(27,.e [num k,num i,strX m])] [(.ret,L9 [.var a,.row 6 ns,.row 6 u,.var b])] (pf3 J F (f M A))⟩
   have N:=next U V
   generalize ns.length=q at f N;refine .inl ⟨⟨[(1,.sl t2 3 ps),(7,.bs 1 0 q),(23,.sl t2 3 ps),(24,nat np),(25,nat (j+1))],[.var [num k,num i,strX m],.row 6 ns]⟩,(false,ns,q,j+1),B,fun M A=>?_,by kernel_rfl,N,by grind⟩;exact ruB [(26,.b true),(27,.e [num k,num i,strX m]),(46,.i (Int.ofNat (j+1)))] [(.exit 2,eiS t2 ps l np j l.length k i m ns q l.length)] (pf4 J F (f M A) (ay (j:=j) (by omega)))
  |false=>
   obtain ⟨e,σ',B,Y,f⟩:=zox t2 ps l np j n (k:=k) (h:=6-(j:Int)) p1 p2 p3 L O P (τ:=⟨[(1,.sl t2 3 ps),(9,.ptr 1 0 0),(10,.bs 2 0 0),(23,.sl t2 3 ps),(24,nat np),(25,nat j),(29,.bs 0 0 n),(30,nat n),(31,num 0)],[.row 6 l,.var [num k,num i,strX m],.row 6 []]⟩) (by kernel_rfl);rcases Y with ⟨rfl,bx,rfl,E⟩|⟨ns,rfl,rfl,U,V⟩
   ·rcases E with ⟨a,ns,b,rfl⟩|⟨a,ns,u,b,rfl⟩;·exact .inr ⟨.ret,L9 [.var a,.row 6 ns,.var b],B,(by grind),.inl ⟨rfl,_,rfl,.inl ⟨_,_,_,rfl⟩⟩,fun M A=>ruB [(26,.b true),(27,.e [num k,num i,strX m])] [(.ret,L9 [.var a,.row 6 ns,.var b])] (pf3 J F (f M A))⟩
    exact .inr ⟨.ret,L9 [.var a,.row 6 ns,.row 6 u,.var b],B,(by grind),.inl ⟨rfl,_,rfl,.inr ⟨_,_,_,_,rfl⟩⟩,fun M A=>ruB [(26,.b true),(27,.e [num k,num i,strX m])] [(.ret,L9 [.var a,.row 6 ns,.row 6 u,.var b])] (pf3 J F (f M A))⟩
   have N:=next U V
   generalize ns.length=q at f N;refine .inl ⟨⟨[(1,.sl t2 3 ps),(7,.bs 1 0 q),(23,.sl t2 3 ps),(24,nat np),(25,nat (j+1))],[.var [num k,num i,strX m],.row 6 ns,.row 6 l]⟩,(false,ns,q,j+1),B,fun M A=>?_,by kernel_rfl,N,by grind⟩;exact ruB [(26,.b true),(27,.e [num k,num i,strX m]),(46,.i (Int.ofNat (j+1)))] [(.exit 2,eiR t2 ps l np j n k i m ns q n)] (pf4 J F (f M A) (ay (j:=j) (by omega)))
 have pb:j=ps.length:=by omega
 have Z:∀y,y∈l->D T 7 11 y:=fun y hy=>fP (by omega) (i3 y hy);generalize W:ps.length=np at*;cases w with
 |true=>exact .inr ⟨_,_,0,(by grind),.inr ⟨(true,l,n,j),rfl,rfl,L,Z,P⟩,fun M _=>ruA [(26,.b false)] (pf1 (aG (j:=j) (k:=np) (by omega)))⟩
 |false=>exact .inr ⟨_,_,0,(by grind),.inr ⟨(false,l,n,j),rfl,rfl,L,Z,P⟩,fun M _=>ruA [(26,.b false)] (pf1 (aG (j:=j) (k:=np) (by omega)))⟩
section
variable (es:qaV) (n:Nat)
abbrev coS (ns:qaV) (q m:Nat):St:=⟨[(13,.bs 0 0 q),(55,.sl true 6 es),(56,nat n),(57,nat m)],[.row 6 ns]⟩
abbrev coR (ns:qaV) (q m:Nat):St:=⟨[(13,.bs 0 0 q),(55,.bs 1 0 n),(56,nat n),(57,nat m)],[.row 6 ns,.row 6 es]⟩
abbrev ceS (ns:qaV) (q m:Nat):St:=⟨[(13,.bs 0 0 q),(55,.sl true 6 es),(56,nat n),(57,nat m),(58,boolX false)],[.row 6 ns]⟩
abbrev ceR (ns:qaV) (q m:Nat):St:=⟨[(13,.bs 0 0 q),(55,.bs 1 0 n),(56,nat n),(57,nat m),(58,boolX false)],[.row 6 ns,.row 6 es]⟩
end
theorem copyS (es:qaV)(n:Nat)(hn:n=es.length)(hes:∀e,e∈es->D T 7 11 e)(hl:es.length<=50000)(hτ:canon 0 τ=some (coS es n [] 0 0)):
  ∃e σ' B,(∃ns:qaV,e=.exit 4/\σ'=ceS es n ns ns.length n/\ns.length=n/\∀y,y∈ns->Sm y)/\∀M,B<=M->run (callF tab ext M) 0 M (.loop (loopAt 85 2)) τ=some (e,σ'):=by
 refine jC (nIn:=0) (b:=loopAt 85 2) (H:=fun p:qaV×Nat×Nat=>coS es n p.1 p.2.1 p.2.2) (I:=fun p=>p.2.1=p.1.length/\p.2.2<=n/\p.1.length=p.2.2/\∀y,y∈p.1->Sm y) (μ:=fun p=>n-p.2.2)
  (Q:=fun e σ'=>∃ns:qaV,e=.exit 4/\σ'=ceS es n ns ns.length n/\ns.length=n/\∀y,y∈ns->Sm y)
  (fun p hp=>?_) (a:=([],0,0)) ⟨rfl,Nat.zero_le _,rfl,fun y hy=>by grind⟩ hτ
 obtain ⟨ns,q,m⟩:=p;obtain ⟨W,i2,Y,Z⟩:=hp;dsimp only at W i2 Y Z ⊢;by_cases hm:m<n
 ·have h1:=aH hm;have L:m<es.length:=by omega
  obtain ⟨x,V⟩:∃x,es[m]?=some x:=⟨_,qad L⟩;have U:=hes x (qan V);obtain ⟨h0,a,b,c,s,u,l,v,f,rfl,_⟩:=d11 (h:=6) U;obtain ⟨A,E,F,O,t,N,P,J,y1,B1,hc⟩:=U8 U;have w:0+q=ns.length/\cZ (q+[[num A,num E,num F,strX O,X.sl t 6 N,X.sl P 7 J]].length) (87+1)=true/\tC 0 (X.sl true 6 [[num A,num E,num F,strX O,X.sl t 6 N,X.sl P 7 J]]).rows=false:=⟨by omega,jd (by grind) (by grind),rfl⟩;refine .inl ⟨⟨[(13,.bs 2 0 (q+1)),(55,.sl true 6 es),(56,nat n),(57,nat (m+1))],[.dead,.var [num a,num b,num c,strX s,.sl u 6 l,.sl v 7 f],.row 6 (ns++[[num A,num E,num F,strX O,.sl t 6 N,.sl P 7 J]])]⟩,(ns++[[num A,num E,num F,strX O,.sl t 6 N,.sl P 7 J]],q+1,m+1),B1,fun M hM=>?_,by kernel_rfl,⟨by grind,by grind,by grind,fun y hy=>?_⟩,by grind⟩;·exact ruA [(58,.b true),(59,.e [num a,num b,num c,strX s,.sl u 6 l,.sl v 7 f]),(63,.p (.agg [num A,num E,num F,strX O,.sl t 6 N,.sl P 7 J])),(65,.app),(66,.i (Int.ofNat (m+1)))] (pf5 h1 V (hc M hM) w (ay (j:=m) (by omega)))
  grind
 have S:m=n:=by omega
 subst S;subst W;exact .inr ⟨_,_,0,(by grind),⟨ns,rfl,rfl,Y,Z⟩,fun M _=>ruA [(58,.b false)] (pf1 (aG (qas m)))⟩
theorem ztj (es:qaV)(n:Nat)(hn:n=es.length)(hes:∀e,e∈es->D T 7 11 e)(hl:es.length<=50000)(hτ:canon 0 τ=some (coR es n [] 0 0)):
  ∃e σ' B,(∃ns:qaV,e=.exit 4/\σ'=ceR es n ns ns.length n/\ns.length=n/\∀y,y∈ns->Sm y)/\∀M,B<=M->run (callF tab ext M) 0 M (.loop (loopAt 85 2)) τ=some (e,σ'):=by
 refine jC (nIn:=0) (b:=loopAt 85 2) (H:=fun p:qaV×Nat×Nat=>coR es n p.1 p.2.1 p.2.2) (I:=fun p=>p.2.1=p.1.length/\p.2.2<=n/\p.1.length=p.2.2/\∀y,y∈p.1->Sm y) (μ:=fun p=>n-p.2.2)
  (Q:=fun e σ'=>∃ns:qaV,e=.exit 4/\σ'=ceR es n ns ns.length n/\ns.length=n/\∀y,y∈ns->Sm y)
  (fun p hp=>?_) (a:=([],0,0)) ⟨rfl,Nat.zero_le _,rfl,fun y hy=>by grind⟩ hτ
 obtain ⟨ns,q,m⟩:=p;obtain ⟨Y,i2,Z,i4⟩:=hp;dsimp only at Y i2 Z i4 ⊢;by_cases V:m<n
 ·have h1:=aH V;have L:m<es.length:=by omega
  obtain ⟨x,W⟩:∃x,es[m]?=some x:=⟨_,qad L⟩;have U:=hes x (qan W);obtain ⟨h0,a,b,c,s,u,l,v,f,rfl,_⟩:=d11 (h:=6) U;obtain ⟨A,E,F,O,t,N,P,J,y1,B1,hc⟩:=U8 U;have w:0+q=ns.length/\cZ (q+[[num A,num E,num F,strX O,X.sl t 6 N,X.sl P 7 J]].length) (87+1)=true/\tC 0 (X.sl true 6 [[num A,num E,num F,strX O,X.sl t 6 N,X.sl P 7 J]]).rows=false:=⟨by omega,jd (by grind) (by grind),rfl⟩;refine .inl ⟨⟨[(13,.bs 3 0 (q+1)),(55,.bs 1 0 n),(56,nat n),(57,nat (m+1))],[.dead,.row 6 es,.var [num a,num b,num c,strX s,.sl u 6 l,.sl v 7 f],.row 6 (ns++[[num A,num E,num F,strX O,.sl t 6 N,.sl P 7 J]])]⟩,(ns++[[num A,num E,num F,strX O,.sl t 6 N,.sl P 7 J]],q+1,m+1),B1,fun M hM=>?_,by kernel_rfl,⟨by grind,by grind,by grind,fun y hy=>?_⟩,by grind⟩;·exact ruA [(58,.b true),(59,.at),(60,.ld [num a,num b,num c,strX s,.sl u 6 l,.sl v 7 f]),(63,.p (.agg [num A,num E,num F,strX O,.sl t 6 N,.sl P 7 J])),(65,.app),(66,.i (Int.ofNat (m+1)))] (pf6 h1 V (hz W) (hc M hM) w (ay (j:=m) (by omega)))
  grind
 have S:m=n:=by omega
 subst S;subst Y;exact .inr ⟨_,_,0,(by grind),⟨ns,rfl,rfl,Z,i4⟩,fun M _=>ruA [(58,.b false)] (pf1 (aG (qas m)))⟩
end Ct
open Go.Em
theorem ze4 {s:Nat}(h:s<4294967296):IntKind.i64.wrap (Int.ofNat (s /2))=Int.ofNat (s /2):=by grind[IntKind.wrap_i64]
theorem zhT {s:Nat}(h:s<4294967296):IntKind.u64.wrap (Int.ofNat s)=Int.ofNat s:=by grind[IntKind.wrap_u64]
theorem zih {s:Nat}:(Int.ofNat s).fdiv (2^min (Int.toNat 1) IntKind.u64.bits)=Int.ofNat (s /2):=by
 have e:(2:Int)^min (Int.toNat 1) IntKind.u64.bits=2:=by decide
 grind
theorem zmj {a b:Nat}(h:a<4294967296)(h':b<4294967296):IntKind.i64.wrap (Int.ofNat a+Int.ofNat b)=Int.ofNat (a+b):=by grind[IntKind.wrap_i64]
section
variable (l:qaV) (k i s:Int) (tx:qaW) (vl fl:qaV) (n lo hi:Nat)
end
namespace Ct
def isAll:List X->Bool
 |.v (.int _ k)::_=>k==3
 |_=>false
theorem zmh (k i:Int)(nm:qaW)(N:Nat):Gam.pureD (callF tab ext (N+5)) 74 [.agg [num k,num i,strX nm]]=some (boolX (k==3)):=by kernel_rfl
theorem zmg (k i:Int)(nm:qaW)(N:Nat):Gam.pureD (callF tab ext (N+5)) 126 [.agg [num k,num i,strX nm]]=some (boolX (k==3)):=by kernel_rfl
theorem zvl (g:FuncId)(hw:∀(k i:Int) (nm:qaW) (N:Nat),Gam.pureD (callF tab ext (N+5)) g [.agg [num k,num i,strX nm]]=some (boolX (k==3)))(t2:Bool)(ps:qaV)(hps:∀e,e∈ps->D T hp 7 e)(hlen:ps.length<=1000000):
  ∃B,∀N,B<=N->Gam.pureD (callF tab ext N) 73 [.sl t2 3 ps,.fn g []]=some (boolX (ps.any isAll)):=by
 have u:∀j,j<ps.length->∃(k i:Int) (nm:qaW),ps[j]?=some [num k,num i,strX nm]/\isAll (ps.getD j [])=(k==3):=fun j f=>by obtain ⟨k,i,nm,e,_⟩:=d7 (hps _ (qaf f));exact ⟨k,i,nm,by rw [qad f,e],by rw [qaF,qad f,Option.getD_some,e];rfl⟩
 have S:=zil (B:=6) (b:=loopAt 101 0) (nIn:=0) (n:=ps.length) (H:=fun j=>⟨[(0,.sl false 3 ps),(1,.fn g []),(7,nat ps.length),(8,nat j)],[]⟩) (P:=fun j=>isAll (ps.getD j [])) (r:=fun j=>⟨[(4,nat j)],[]⟩)
  (υ:=fun j=>⟨[(0,.sl false 3 ps),(1,.fn g []),(7,nat ps.length),(8,nat (j+1))],[]⟩) (fin:=⟨[(0,.sl false 3 ps),(1,.fn g []),(7,nat ps.length),(8,nat ps.length),(9,boolX false)],[]⟩) (e:=.exit 0) (τ:=⟨[(0,.sl false 3 ps),(1,.fn g []),(7,nat ps.length),(8,nat 0)],[]⟩) (by kernel_rfl) (fun j f l M O=>?_) (fun j f l=>⟨by kernel_rfl,fun M O=>?_⟩) (fun M O=>?_) (by simp)
 ·rcases S with ⟨j,f,l,_,h⟩|⟨m,h⟩;·have y:ps.any isAll=true:=List.any_eq_true.2 ⟨ps[j],qaf f,by rw [qaF,qad f] at l;exact l⟩;refine ⟨ps.length+10,fun N Q=>?_⟩;obtain ⟨M,rfl⟩:∃M,N=M+2:=⟨N-2,by omega⟩;have h:=h M (by omega) (by omega);rw [y];generalize ps.length=n at h;have w:Gam.pureD (callF tab ext (M+1)) 101 [.sl false 3 ps,.fn g []]=some (nat j):=puB [] [(.ret,⟨[(4,nat j)],[]⟩)] (pf1 h) (nat j);have E:decide (Int.ofNat j>=0)=true:=decide_eq_true (Int.natCast_nonneg j);exact puA [(7,.p (nat j)),(8,.b true)] (pf2 w E) (boolX true)
  have y:ps.any isAll=false:=by rw [List.any_eq_false];intro x u;obtain ⟨j,f,rfl⟩:=qaR u;have:=m j f;rw [qaF,qad f,Option.getD_some] at this;simp [this]
  refine ⟨ps.length+10,fun N Q=>?_⟩;obtain ⟨M,rfl⟩:∃M,N=M+2:=⟨N-2,by omega⟩;have h:=h M (by omega) (by omega);rw [y];generalize ps.length=n at h;have w:Gam.pureD (callF tab ext (M+1)) 101 [.sl false 3 ps,.fn g []]=some (num (-1)):=puB [] [(.exit 0,⟨[(0,.sl false 3 ps),(1,.fn g []),(7,nat n),(8,nat n),(9,boolX false)],[]⟩)] (pf1 h) (num (-1));exact puA [(7,.p (num (-1)))] (pf1 w) (boolX false)
 ·obtain ⟨k,i,nm,A,F⟩:=u j f;obtain ⟨L,rfl⟩:∃L,M=L+5:=⟨M-5,by omega⟩;have q:=hw k i nm L;rw [<-F,l] at q;have a:=aH f;generalize ps.length=n at a;exact ruA [(9,.b true),(14,.e [num k,num i,strX nm]),(16,.p (boolX true))] (pf3 a A q)
 ·obtain ⟨k,i,nm,A,F⟩:=u j f;obtain ⟨L,rfl⟩:∃L,M=L+5:=⟨M-5,by omega⟩;have q:=hw k i nm L;rw [<-F,l] at q;have a:=aH f;have J:=ay (j:=j) (by omega);generalize ps.length=n at a;exact ruA [(9,.b true),(14,.e [num k,num i,strX nm]),(16,.p (boolX false)),(18,.i (Int.ofNat (j+1)))] (pf4 a A q J)
 have a:=aG (qas ps.length);generalize ps.length=n at a;exact ruA [(9,.b false)] (pf1 a)
theorem zbM (t2:Bool)(ps:qaV)(hps:∀e,e∈ps->D T hp 7 e)(hlen:ps.length<=1000000):∃B,∀N,B<=N->Gam.pureD (callF tab ext N) 86 [.sl t2 3 ps]=some (boolX (ps.any isAll)):=by obtain ⟨B,a⟩:=zvl 126 zmg false ps hps hlen;refine ⟨B+1,fun N f=>?_⟩;obtain ⟨M,rfl⟩:=pR_ N;exact puA [(4,.p (boolX (ps.any isAll)))] (pf1 (a M (by omega))) (boolX (ps.any isAll))
end Ct
namespace Ct
theorem Qp (t2:Bool)(ps:qaV)(h0:0<=hp)(hps:∀e,e∈ps->D T hp 7 e)(hlen:ps.length<=1000000):∃e:Int,(0<=e/\e<=100)/\∃B,∀N,B<=N->Gam.pureD (callF tab ext N) 123 [.sl t2 3 ps]=some (num e):=by obtain ⟨o,m,r,bx,l,j,B,f⟩:=eU (zj9 _ (qaa.2 rfl)) rfl rfl (xs:=[.sl t2 3 ps]) ⟨⟨t2,ps,hp,rfl,h0,by unfold bW;omega,hps⟩,trivial⟩ (bx:=[]) trivial;obtain rfl:=qaa.1 m;obtain rfl:=qQ j;obtain ⟨e,rfl,a⟩:∃e,r=num e/\0<=e/\e<=100:=l;exact ⟨e,a,B,fun N h=>bf (f N h) rfl⟩
def zcx (xs:List X)(r:X)(bx:List Bx):Prop:=∃B,∀N,B<=N->callF tab ext N (.fn 85) xs []=some (r,bx)
theorem qC {bx:List Bx}(h:∀M,B<=M->callF tab ext (M+1) (.fn 85) xs []=some (r,bx)):zcx xs r bx:=⟨B+1,fun N a=>by obtain ⟨M,rfl⟩:=pR_ N;exact h M (by omega)⟩
theorem OJ (t2:Bool)(ps:qaV)(h0:0<=hp)(hps:∀e,e∈ps->D T hp 7 e)(hlen:ps.length<=1000000)(hx0:D T 7 11 x0):
  ∃g,g=ps.any isAll/\(∃B,∀N,B<=N->Gam.pureD (callF tab ext N) 86 [.sl false 3 ps]=some (boolX g))/\((∃e:Int,((e !=0)=true/\0<=e/\e<=100)/\zcx [.agg x0,.sl t2 3 ps] (.tup [.sl true 6 [],num e]) [])\/∃ns:qaV,(∀y,y∈ns->Sm y)/\ns.length<=50000/\(g=false->ns≠[])/\zcx [.agg x0,.sl t2 3 ps] (.tup [.bs 0 0 ns.length,num 0]) [.row 6 ns]):=by
 obtain ⟨P,E⟩:=zbM false ps hps hlen;generalize pb:ps.any isAll=g at E;refine ⟨g,rfl,⟨P,E⟩,?_⟩;obtain ⟨e,er,H,L⟩:=Qp false ps h0 hps hlen;obtain ⟨_,a,b,c,s,u,l,v,f,rfl,_⟩:=d11 (h:=6) hx0;cases Z:(e !=0) with
 |true=>exact .inl ⟨e,⟨Z,er⟩,qC (B:=H) fun M J=>caA [(17,.p (num e)),(19,.b true)] (pf2 (L M J) Z) (r:=some (.tup [.sl true 6 [],num e],[]))⟩
 |false=>
  have e0:e=0:=by simpa using Z
  subst e0;obtain ⟨e,σ',O,hr,F⟩:=outer t2 ps hps hlen hx0 (τ:=⟨[(1,.sl t2 3 ps),(7,.sl true 6 [[num a,num b,num c,strX s,.sl u 6 l,.sl v 7 f]]),(23,.sl t2 3 ps),(24,nat ps.length),(25,num 0)],[.var [num a,num b,num c,strX s,.sl u 6 l,.sl v 7 f]]⟩) (by kernel_rfl);rcases hr with ⟨rfl,bx,rfl,pa⟩|⟨p,rfl,rfl,q1,q2,q3⟩
  ·rcases pa with ⟨V,ns,W,rfl⟩|⟨V,ns,Y,W,rfl⟩;·exact .inl ⟨22,⟨rfl,by decide,by decide⟩,qC (B:=max H O) fun M J=>caB [(17,.p (num 0))] [(.ret,L9 [.var V,.row 6 ns,.var W])] (pf2 (L M (by omega)) (F M (by omega))) (r:=some (.tup [.sl true 6 [],num 22],[]))⟩
   exact .inl ⟨22,⟨rfl,by decide,by decide⟩,qC (B:=max H O) fun M J=>caB [(17,.p (num 0))] [(.ret,L9 [.var V,.row 6 ns,.row 6 Y,.var W])] (pf2 (L M (by omega)) (F M (by omega))) (r:=some (.tup [.sl true 6 [],num 22],[]))⟩
  obtain ⟨w,m,n,j⟩:=p;dsimp only at q1 q2 q3 F;generalize ps.length=np at F;cases w with
  |true=>
   subst q1;obtain ⟨e,σ',S,⟨ns,rfl,rfl,r1,U⟩,A⟩:=copyS m m.length rfl q2 q3 (τ:=⟨[(13,.bs 0 0 0),(55,.sl true 6 m),(56,nat m.length),(57,num 0)],[.row 6 []]⟩) (by kernel_rfl);cases hz:(Int.ofNat m.length==0) with
   |true=>
    cases g with
    |false=>exact .inl ⟨19,⟨rfl,by decide,by decide⟩,qC (B:=P+H+O) fun M J=>caB [(17,.p (num 0)),(49,.b true),(52,.p (boolX false)),(53,.b true)] [(.exit 0,ouE t2 ps np (true,m,m.length,j))] (pf5 (L M (by omega)) (F M (by omega)) hz (E M (by omega)) (show (!false)=true from rfl)) (r:=some (.tup [.sl true 6 [],num 19],[]))⟩
    |true=>refine .inr ⟨ns,U,by omega,(fun e=>by cases e),qC (B:=P+H+O+S) fun M J=>?_⟩;generalize ns.length=q at A;exact caB [(17,.p (num 0)),(49,.b true),(52,.p (boolX true)),(53,.b false)] [(.exit 0,ouE t2 ps np (true,m,m.length,j)),(.exit 4,ceS m m.length ns q m.length)] (pf6 (L M (by omega)) (F M (by omega)) hz (E M (by omega)) (show (!true)=false from rfl) (A M (by omega))) (r:=some (.tup [.bs 0 0 q,num 0],[.row 6 ns]))
   |false=>
    have Q:ns≠[]:=fun e=>by subst e;rw [<-r1] at hz;simp at hz
    refine .inr ⟨ns,U,by omega,fun _=>Q,qC (B:=P+H+O+S) fun M J=>?_⟩;generalize ns.length=q at A;exact caB [(17,.p (num 0)),(49,.b false)] [(.exit 0,ouE t2 ps np (true,m,m.length,j)),(.exit 4,ceS m m.length ns q m.length)] (pf4 (L M (by omega)) (F M (by omega)) hz (A M (by omega))) (r:=some (.tup [.bs 0 0 q,num 0],[.row 6 ns]))
  |false=>
   obtain ⟨e,σ',S,⟨ns,rfl,rfl,r1,U⟩,A⟩:=ztj m n q1 q2 q3 (τ:=⟨[(13,.bs 1 0 0),(55,.bs 0 0 n),(56,nat n),(57,num 0)],[.row 6 m,.row 6 []]⟩) (by kernel_rfl);cases hz:(Int.ofNat n==0) with
   |true=>
    cases g with
    |false=>exact .inl ⟨19,⟨rfl,by decide,by decide⟩,qC (B:=P+H+O) fun M J=>caB [(17,.p (num 0)),(49,.b true),(52,.p (boolX false)),(53,.b true)] [(.exit 0,ouE t2 ps np (false,m,n,j))] (pf5 (L M (by omega)) (F M (by omega)) hz (E M (by omega)) (show (!false)=true from rfl)) (r:=some (.tup [.sl true 6 [],num 19],[]))⟩
    |true=>refine .inr ⟨ns,U,by omega,(fun e=>by cases e),qC (B:=P+H+O+S) fun M J=>?_⟩;generalize ns.length=q at A;exact caB [(17,.p (num 0)),(49,.b true),(52,.p (boolX true)),(53,.b false)] [(.exit 0,ouE t2 ps np (false,m,n,j)),(.exit 4,ceR m n ns q n)] (pf6 (L M (by omega)) (F M (by omega)) hz (E M (by omega)) (show (!true)=false from rfl) (A M (by omega))) (r:=some (.tup [.bs 0 0 q,num 0],[.row 6 ns]))
   |false=>
    have Q:ns≠[]:=fun e=>by subst e;rw [<-r1] at hz;simp at hz
    refine .inr ⟨ns,U,by omega,fun _=>Q,qC (B:=P+H+O+S) fun M J=>?_⟩;generalize ns.length=q at A;exact caB [(17,.p (num 0)),(49,.b false)] [(.exit 0,ouE t2 ps np (false,m,n,j)),(.exit 4,ceR m n ns q n)] (pf4 (L M (by omega)) (F M (by omega)) hz (A M (by omega))) (r:=some (.tup [.bs 0 0 q,num 0],[.row 6 ns]))
theorem zgC {x:X}(hx:zqK.Is T 0 x):∃x0,x=.agg x0/\D T 7 11 x0:=by obtain ⟨h',xs,rfl,a,h,f⟩:∃h' xs,x=.agg xs/\0<=h'/\h'<=6/\IsL T h' zpW xs:=hx;exact ⟨xs,rfl,fP (by omega) (zjt a f)⟩
theorem zuz {T:Tab}{sz k:Nat}{x:X}(hx:(Sh.sl sz k).Is T h x):∃t es h',x=.sl t sz es/\0<=h'/\(es.length:Int)<=1000000/\∀e,e∈es->D T h' k e:=hx
def zyg:List Ctr:=[dO 85 [zqK,.sl 3 7] [] none [(.tu [.x (.sl true 6 []),err],[],[]),(.tu [.bs 0,err],[.row 6 1],[lt 10 0 13,lt 13 0 10])]]
theorem zkL:ak T Gm zyg:=.one fun ρ Y M f=>by
 obtain ⟨u,w⟩:=qw f;obtain ⟨x,y,rfl,E,j⟩:=zmL u;obtain rfl:=qQ w;obtain ⟨W,rfl,A⟩:=zgC E;obtain ⟨L,J,S,rfl,F,V,H⟩:=zuz j;obtain ⟨g,_,_,⟨e,⟨_,l⟩,h⟩|⟨a,n,P,_,h⟩⟩:=OJ L J F H (by omega) A;·exact jS (q:=(.tu [.x (.sl true 6 []),err],[],[])) (qaq ..) f.zero f.pos rfl rfl (r:=.tup [.sl true 6 [],num e]) ⟨_,rfl,⟨rfl,rfl⟩,⟨e,rfl,l⟩,trivial⟩ (fun _ _ _ _ _ _=>.nil) h
 refine uK (q:=(.tu [.bs 0,err],[.row 6 1],[lt 10 0 13,lt 13 0 10])) (qar _ (qaa.2 rfl)) f.zero f.pos rfl rfl (r:=.tup [.bs 0 0 a.length,num 0]) (bx':=[.row 6 a]) ⟨_,rfl,⟨a.length,rfl,by unfold bW;omega⟩,⟨0,rfl,by decide,by decide⟩,trivial⟩ ⟨⟨a,7,rfl,by omega,by unfold bW;omega,fun y j=>(n y j).1⟩,trivial⟩ (fun U ρ' Q z g m B=>?_) h;subst B;have N:(a.length:Int)=ρ' 10:=by
  cases g with
  |tup g=>cases g with
   |cons g _=>cases g with
    |bs _ _ _ q=>rw [q];unfold Lin.v;show ρ' 10+0=_;omega
 have O:(a.length:Int)=ρ' 13:=by
  cases m with
  |cons g _=>cases g with
   |row _ _ q _=>rw [q];unfold Lin.v;show ρ' 13+0=_;omega
 exact .cons (iR (by decide) (by decide) (by omega)) (.cons (iR (by decide) (by decide) (by omega)) .nil)
theorem zdo (ns:qaV):X.data [.row 6 ns] false (.tup [.bs 0 0 ns.length,num 0])=some (.tup [.sl false 6 ns,num 0]):=by simp only [X.data,dH,fG (bx:=[.row 6 ns]) (i:=0) (sz:=6) (es:=ns) rfl rfl,qam,num]
theorem Qy (h:∀M,B<=M->callF tab ext (M+1) (.fn 40) xs []=some (r,[])):Back 40 xs r:=⟨B+1,fun N a=>by obtain ⟨M,rfl⟩:=pR_ N;exact h M (by omega)⟩
theorem UH (t2:Bool)(ps:qaV)(h0:0<=hp)(hps:∀e,e∈ps->D T hp 7 e)(hlen:ps.length<=1000000)(hx0:D T 7 11 x0):
  ∃(y:List X) (e:Int),((D T 8 1 y/\0<=e/\e<=100)/\(ps.any isAll=false->e=0->Sm y))/\Back 40 [.agg x0,.sl t2 3 ps] (.tup [.agg y,num e]):=by
 obtain ⟨_,a,b,c,s,u,l,v,f,rfl,_⟩:=d11 (h:=6) hx0;have hz:D T 8 1 [num 0,num 0,num 0,noText,.sl true 6 [],.sl true 7 []]:=dI (by decide) (qaa.2 rfl) ⟨⟨rfl,(fun a e=>by cases e),(fun a e=>by cases e)⟩,⟨rfl,(fun a e=>by cases e),(fun a e=>by cases e)⟩,⟨rfl,(fun a e=>by cases e),(fun a e=>by cases e)⟩,⟨by decide,by decide⟩,⟨rfl,by decide,by decide,fun e n=>by cases n⟩,⟨rfl,by decide,by decide,fun e n=>by cases n⟩,trivial⟩;obtain ⟨g,w,⟨Q,q⟩,hr⟩:=OJ false ps h0 hps hlen (Gu hx0);rcases hr with ⟨e,⟨J,er⟩,E,j⟩|⟨A,H,n2,n3,E,j⟩;·have j:=fun N O=>bf (j N O) (y:=.tup [.sl false 6 [],num e]) rfl;exact ⟨_,e,⟨⟨hz,er⟩,fun _ e0=>by rw [e0] at J;cases J⟩,Qy (B:=E) fun M L=>caA [(11,.p (.tup [.sl false 6 [],num e])),(16,.b true)] (pf2 (j M L) J) (r:=some (.tup [.agg [num 0,num 0,num 0,noText,.sl true 6 [],.sl true 7 []],num e],[]))⟩
 have j:=fun N O=>bf (j N O) (zdo A);cases g with
 |true=>refine ⟨[num 8,num 0,num 0,noText,.sl false 6 A,.sl true 7 []],0,⟨⟨dI (by decide) (qaa.2 rfl) ⟨⟨rfl,(fun a e=>by cases e),(fun a e=>by cases e)⟩,⟨rfl,(fun a e=>by cases e),(fun a e=>by cases e)⟩,⟨rfl,(fun a e=>by cases e),(fun a e=>by cases e)⟩,⟨by decide,by decide⟩,⟨rfl,Nat.zero_le _,by omega,fun y hy=>(H y hy).1⟩,⟨rfl,by decide,by decide,fun e n=>by cases n⟩,trivial⟩,by decide,by decide⟩,fun P=>by rw [P] at w;cases w⟩,Qy (B:=Q+E) fun M L=>?_⟩;exact caA [(11,.p (.tup [.sl false 6 A,num 0])),(21,.p (boolX true)),(19,.b true)] (pf3 (j M (by omega)) (q M (by omega)) (show true=true from rfl)) (r:=some (.tup [.agg [num 8,num 0,num 0,noText,.sl false 6 A,.sl true 7 []],num 0],[]))
 |false=>
  match A,n3 rfl,H,j with
  |x::r,_,H,j=>
   have m:=H x (qaq ..);have F:=m.1;obtain ⟨k1,pa,P,hs⟩:=mP F;obtain rfl:=qaa.1 P
   match x,hs,F,j,m with
   |[_,_,_,_,_,_],⟨w1,w2,w3,w4,w5,w6,_⟩,F,j,m=>obtain ⟨S,rfl⟩:=jX w1;obtain ⟨U,rfl⟩:=jX w2;obtain ⟨V,rfl⟩:=jX w3;obtain ⟨Z,rfl,_,_⟩:=zhd w4;obtain ⟨t',Y,rfl,_,_,_⟩:=Dv w5;obtain ⟨v',W,rfl,_,_,_⟩:=Dv w6;exact ⟨_,0,⟨⟨fP (by decide) F,by decide,by decide⟩,fun _ _=>m⟩,Qy (B:=Q+E) fun M L=>caA [(11,.p (.tup [.sl false 6 ([num S,num U,num V,strX Z,.sl t' 6 Y,.sl v' 7 W]::r),num 0])),(21,.p (boolX false)),(19,.b false)] (pf3 (j M (by omega)) (q M (by omega)) (show false=false from rfl)) (r:=some (.tup [.agg [num S,num U,num V,strX Z,.sl t' 6 Y,.sl v' 7 W],num 0],[]))⟩
theorem zpc (hd:D T (h+1) 1 x):val.Is T 0 (.agg x):=by
 obtain ⟨F,j,q,a⟩:=mP hd;rw [qaa.1 q,Int.add_sub_cancel] at a
 match x,a with
 |[_,_,_,_,_,_],⟨w1,w2,w3,w4,w5,w6,_⟩=>obtain ⟨f,rfl⟩:=jX w1;obtain ⟨l,rfl⟩:=jX w2;obtain ⟨m,rfl⟩:=jX w3;obtain ⟨A,rfl,_,H⟩:=zhd w4;obtain ⟨B,u,rfl,_,J,w⟩:=Dv w5;obtain ⟨E,n,rfl,_,L,y⟩:=Dv w6;exact ⟨h,_,rfl,by omega,⟨f,rfl⟩,⟨l,rfl⟩,⟨m,rfl⟩,⟨A,rfl,by unfold bW;omega⟩,⟨B,u,rfl,by unfold bW;omega,w⟩,⟨E,n,rfl,by unfold bW;omega,y⟩,trivial⟩
def zva:List Ctr:=[mkC 40 [zqK,.sl 3 7] [] none [(.tu [val,err],[])]]
theorem zkM:ak T Gm zva:=.one (dh (fun o n=>by rw [qaa.1 n];exact ⟨rfl,rfl⟩) fun M F j l=>by obtain ⟨x,y,rfl,q,u⟩:=zmL j;obtain rfl:=qQ l;obtain ⟨L,rfl,m⟩:=zgC q;obtain ⟨E,B,H,rfl,w,J,A⟩:=zuz u;obtain ⟨y,e,⟨⟨f,a⟩,_⟩,h⟩:=UH E B w A (by omega) m;exact ⟨_,qaa.2 rfl,.tup [.agg y,num e],[],⟨_,rfl,zpc (h:=7) f,⟨e,rfl,a⟩,trivial⟩,trivial,h⟩)
end Ct
theorem LJ:∀(n N:Nat) (v w:Val),v.size<=n->3*n+12<=N->v.wide->Gam.pureD (callF tab ext N) 87 [.agg v.cells,.agg w.cells]=some (num (qP v w))
 |0,_,.mk ..,_,h,_,_=>by grind[Val.size]
 |n+1,N,.mk k i s t l f,.mk k' i' s' t' l' f',h,hN,hs=>by
  obtain ⟨M,rfl⟩:∃M,N=M+12:=⟨N-12,by omega⟩;simp only [Val.size] at h;simp only [Val.wide] at hs;obtain ⟨⟨hl0,hf0⟩,hwl,hwf⟩:=hs;have hl:=gX l;have hf:=fM f;have h1:Gam.pureD (callF tab ext (M+11)) 127 [.sl false 6 (ah l),.sl false 6 (ah l'),.fn 87 []]=some (num (jD qP l l')):=
   GI (M+10) 87 l l' qP (fun a b ha _=>by have:=fD ha;exact LJ n (M+10) a b (by omega) (by omega) (qZ hwl ha)) (by omega) (by omega)
  have h2:Gam.pureD (callF tab ext (M+11)) 128 [.sl false 7 (au f),.sl false 7 (au f'),.fn 129 []]=some (num (jD U7 f f')):=
   Gy (M+10) 129 f f' U7 (fun a b ha _=>by have:=oD ha;have hv:=LJ n (M+9) a.2 b.2 (by omega) (by omega) (xM hwf ha);obtain ⟨a0,a1,a2,a3,a4,a5,a6⟩:=a;obtain ⟨b0,b1,b2,b3,b4,b5,b6⟩:=b;have ho:=EZ (M+8) [Gx a0 b0,qP (Val.mk a1 a2 a3 a4 a5 a6) (Val.mk b1 b2 b3 b4 b5 b6)] (by simp) (by simp);exact puA [(9,.p (num (Gx a0 b0))),(14,.p (num (qP (Val.mk a1 a2 a3 a4 a5 a6) (Val.mk b1 b2 b3 b4 b5 b6)))),(16,.p (num (orL [Gx a0 b0,qP (Val.mk a1 a2 a3 a4 a5 a6) (Val.mk b1 b2 b3 b4 b5 b6)])))] (pf3 (LK (M+6) a0 b0) hv ho) (num (orL [Gx a0 b0,qP (Val.mk a1 a2 a3 a4 a5 a6) (Val.mk b1 b2 b3 b4 b5 b6)]))) (by omega) (by omega)
  have ho:=EZ (M+10) [oW k k',oW i i',oW s s',Gx t t',jD qP l l',jD U7 f f'] (by simp) (by simp);rw [qP,LM,LP];exact puA [(9,.p (num (oW k k'))),(14,.p (num (oW i i'))),(19,.p (num (oW s s'))),(24,.p (num (Gx t t'))),(29,.p (num (jD qP l l'))),(34,.p (num (jD U7 f f'))),(36,.p (num (orL [oW k k',oW i i',oW s s',Gx t t',jD qP l l',jD U7 f f'])))] (pf7 (uw (M+7) k k') (uw (M+7) i i') (uw (M+7) s s') (LK (M+8) t t') h1 h2 ho) (num (orL [oW k k',oW i i',oW s s',Gx t t',jD qP l l',jD U7 f f']))
theorem zlp (N:Nat)(v w:Val)(h:3*v.size+13<=N)(hs:v.wide):Gam.pureD (callF tab ext N) 42 [.agg v.cells,.agg w.cells]=some (boolX (qP v w==0)):=by obtain ⟨M,rfl⟩:=pR_ N;have y:=LJ v.size M v w (Nat.le_refl _) (by omega) hs;obtain ⟨k,i,s,t,l,f⟩:=v;obtain ⟨m,j,q,u,n,a⟩:=w;exact puA [(7,.p (num (qP (Val.mk k i s t l f) (Val.mk m j q u n a))))] (pf1 y) (boolX (qP (Val.mk k i s t l f) (Val.mk m j q u n a)==0))
theorem NK (N:Nat)(v:Val)(h:3*v.size+13<=N)(hs:v.wide):Gam.pureD (callF tab ext N) 42 [.agg v.cells,.agg v.cells]=some (boolX true):=by grind[zlp,zH]
theorem uY:∀(N:Nat) (v:Val),v.size<N->v.wide->Gam.pureD (callF tab ext N) 60 [.agg v.cells]=some (.agg v.cells)
 |0,_,h,_=>by omega
 |M+1,.mk k i s t l f,h,hs=>by
  simp only [Val.size] at h;simp only [Val.wide] at hs;obtain ⟨⟨hl0,hf0⟩,hwl,hwf⟩:=hs;have hl:=gX l;have hf:=fM f;have el:=aF l;have ef:=aT f;have h1:run (callF tab ext M) 0 M (.loop (loopAt 60 0)) (clH k i s t (ah l) (au f) [] (ah l).length 0)=some (.exit 0,clE k i s t (ah l) (au f) (ah l) (ah l).length (ah l).length):=by
   refine aQ (σ:=fun j=>clH k i s t (ah l) (au f) ((ah l).take j) (ah l).length j) (k:=(ah l).length) (D9 _ _ _ _ _ _ _ _ _) (fun j hj=>?_) ?_ (by simp) (by omega)
   ·have hj':j<l.length:=by omega
    have hg:=dR hj';have hm:=fD (qaf hj');have hc:=uY M l[j] (by omega) (qZ hwl (qaf hj'));have hacc:j=((ah l).take j).length:=by rw [qai];omega
    rw [show (ah l).take (j+1)=(ah l).take j++[l[j].cells] from (bM hg).symm];generalize l[j]=u at hc hg ⊢;obtain ⟨a1,a2,a3,a4,l',f'⟩:=u;refine ⟨_,LQ M k i s t _ _ _ _ j (.mk a1 a2 a3 a4 l' f') a1 a2 a3 a4 false false (ah l') (au f') hc hg (by omega) (by omega) hacc,?_⟩<;>grind[zJ]
   ·grind[U9]
  have h2:run (callF tab ext M) 0 M (.loop (loopAt 60 1)) ⟨[(2,.ptr 1 0 0),(3,.ptr 2 0 0),(27,.sl false 7 (au f)),(28,nat (au f).length),(29,nat 0)],[.var [num k,num i,num s,strX t,.sl false 6 (ah l),.sl false 7 (au f)],.var CS,.var [num k,num i,num s,strX t,.bs 3 0 (ah l).length,.bs 4 0 0],.row 6 (ah l),.row 7 []]⟩=some (.exit 2,cfE k i s t (au f) (ah l) (au f) (au f).length (au f).length (ah l).length):=by
   refine aQ (σ:=fun j=>cfH k i s t (au f) (ah l) ((au f).take j) (au f).length j (ah l).length) (k:=(au f).length) (by kernel_rfl) (fun j hj=>?_) ?_ (by simp) (by omega)
   ·have hj':j<f.length:=by omega
    have hg:=iC hj';have hm:=oD (qaf hj');have hc:=uY M f[j].2 (by omega) (xM hwf (qaf hj'));have hacc:j=((au f).take j).length:=by rw [qai];omega
    rw [show (au f).take (j+1)=(au f).take j++[strX f[j].1::f[j].2.cells] from (bM hg).symm];generalize f[j]=u at hc hg ⊢;obtain ⟨nm,a1,a2,a3,a4,l',f'⟩:=u;refine ⟨_,LU M k i s t _ _ _ _ j _ (.mk a1 a2 a3 a4 l' f') nm a1 a2 a3 a4 false false (ah l') (au f') hc hg (by omega) (by omega) hacc,?_⟩<;>grind[zK]
   ·grind[Va]
  have h3:(X.agg [num k,num i,num s,strX t,.bs 0 0 (ah l).length,.bs 1 0 (au f).length]).data [.row 6 (ah l),.row 7 (au f)] false=some (.agg (Val.mk k i s t l f).cells):=by simp [X.data,dH,rowOf,Val.cells,num,strX]
  exact pure_of [] [(.exit 0,clE k i s t (ah l) (au f) (ah l) (ah l).length (ah l).length),(.exit 2,cfE k i s t (au f) (ah l) (au f) (au f).length (au f).length (ah l).length)]
   (pf2 h1 h2) (bx:=[.row 6 (ah l),.row 7 (au f)]) (by kernel_rfl) h3
structure Msg.okW (m:Msg):Prop where
 st:m.st.ok
 orig:m.orig.length<=60000
 body:m.body.wide
theorem zaq (N:Nat)(m:Msg)(h:m.okW)(hN:190001+3*m.body.size<=N):Gam.pureD (callF tab ext N) 53 [.agg m.cells,.agg m.cells]=some (boolX true):=by obtain ⟨M,rfl⟩:=pR_ N;have f:=yg M m.st h.st (by omega);have j:=Om M m.orig h.orig (by omega);have l:=NK M m.body (by omega) h.body;clear hN h;obtain ⟨⟨q,u⟩,a,w,y,A,B,E,F,n⟩:=m;exact puA [(9,.p (boolX true)),(15,.b true),(22,.p (boolX true)),(29,.p (boolX true))] (pf4 f (eq_self a) j l) (boolX true)
theorem YB (N:Nat)(m:Msg)(h:m.ok)(v:Val)(hv:v.wide)(hN:190010+v.size<=N):Gam.pureD (callF tab ext N) 50 [.agg m.cells,.agg v.cells]=some (.agg ({m with body:=v}:Msg).cells):=by obtain ⟨M,rfl⟩:=pR_ N;have O:=GU M m h (by omega);have P:=uY M v (by omega) hv;clear hN h hv;obtain ⟨⟨a,f⟩,j,l,E,F,H,J,L,B⟩:=m;obtain ⟨n,q,u,w,y,A⟩:=v;exact puA [(6,.p (.agg (Msg.mk ⟨a,f⟩ j l (Val.mk E F H J L B)).cells)),(8,.p (.agg (Val.mk n q u w y A).cells))] (pf2 O P) (.agg (Msg.mk ⟨a,f⟩ j l (Val.mk n q u w y A)).cells)
theorem zbJ (m:Msg)(hm:m.ok)(name r:qaW)(N:Nat)(hN:300<=N):Gam.pureD (callF tab ext N) 47 [.agg m.cells,strX name,num 4,.sl false 1 [[.fn 48 [.dp [strX r]]]]]=some (.agg (Fte.mk m.st 4 name [] r).cells):=by obtain ⟨M,rfl⟩:∃M,N=M+101:=⟨N-101,by omega⟩;have a:=mD (M+98) m.st hm.st;obtain ⟨⟨e,p⟩,u,o,⟨f,h,j,l,n,q⟩⟩:=m;exact puA [(14,.p (.agg (Stp.mk e p).cells))] (pf1 a) (.agg [num e,.sl false 1 (aB p),num 4,strX name,.sl true 2 [],strX r])
theorem yJ (m:Msg)(hm:m.ok)(name r:qaW)(N:Nat)(hN:310<=N):Gam.pureD (callF tab ext N) 20 [.agg m.cells,strX name,strX r]=some (.agg (Fte.mk m.st 4 name [] r).cells):=by obtain ⟨M,rfl⟩:=pR_ N;have a:=zbJ m hm name r M (by omega);obtain ⟨⟨e,p⟩,u,o,⟨f,h,j,l,n,q⟩⟩:=m;exact puA [(11,.p (.agg (Fte.mk ⟨e,p⟩ 4 name [] r).cells))] (pf1 a) (.agg (Fte.mk ⟨e,p⟩ 4 name [] r).cells)
def zgP (nm:qaW)(b:Val):Val:=.mk 9 0 0 ⟨#[]⟩ [] (if dU b then [] else [(nm,b)])
theorem ZT (nm:qaW)(b:Val):(zgP nm b).size<=b.size+2:=by
 unfold zgP;split;·simp [Val.size,iZ,rV]
 simp [Val.size,iZ,rV]
theorem ZU (nm:qaW)(b:Val)(hb:b.size<100000)(N:Nat)(hN:200400<=N):Gam.pureD (callF tab ext N) 32 [.sl false 7 [strX nm::b.cells]]=some (.agg (zgP nm b).cells):=by
 obtain ⟨M,rfl⟩:∃M,N=M+301:=⟨N-301,by omega⟩;have m:=ZT nm b;have a:=jY (M+300) (zgP nm b) (by omega) (by omega);have j:=yQ (M+299) b;unfold zgP at a ⊢;obtain ⟨k,i,s,t,l,f⟩:=b;cases h:dU (.mk k i s t l f) with
 |true=>rw [h] at a j;exact puA [(23,.p (boolX true)),(40,.p (.agg (Val.mk 9 0 0 ⟨#[]⟩ [] []).cells))] (pf3 j (Nat.le_refl 0) a) (.agg (Val.mk 9 0 0 ⟨#[]⟩ [] []).cells)
 |false=>rw [h] at a j;exact puA [(23,.p (boolX false)),(40,.p (.agg (Val.mk 9 0 0 ⟨#[]⟩ [] [(nm,.mk k i s t l f)]).cells))] (pf3 j (Nat.le_refl 1) a) (.agg (Val.mk 9 0 0 ⟨#[]⟩ [] [(nm,.mk k i s t l f)]).cells)
def zo0 (b:Val):Val:=zgP ⟨#[98,111,100,121]⟩ b
theorem zfJ (b:Val)(hb:b.ok)(N:Nat)(hN:200410<=N):Gam.pureD (callF tab ext N) 41 [.agg b.cells]=some (.agg (zo0 b).cells):=by obtain ⟨M,rfl⟩:=pR_ N;have w:=jY M b (by unfold Val.ok at hb;omega) (by unfold Val.ok at hb;omega);have h:=ZU ⟨#[98,111,100,121]⟩ b (by unfold Val.ok at hb;omega) M (by omega);unfold zo0;generalize zgP ⟨#[98,111,100,121]⟩ b=r at h ⊢;obtain ⟨k,i,s,t,l,f⟩:=b;obtain ⟨m,j,q,u,n,a⟩:=r;exact puA [(4,.p (.agg (Val.mk k i s t l f).cells)),(7,.p (.agg (Val.mk m j q u n a).cells))] (pf2 w h) (.agg (Val.mk m j q u n a).cells)
open Go Go.Em
theorem TR {ps:List Prop}(ans:List (Nat×Ans))(lo:List (Ex×St))(hp:kK ps)(h:(match Aw Γ ans nIn fu m σ lo with|some (.norm,υ,[],qs)=>(canon nIn υ).map fun ω=>(ω,qs)|_=>none)=some (σ',ps)):∃υ,run Γ nIn fu m σ=some (.norm,υ)/\canon nIn υ=some σ':=by
 split at h;next υ qs f=>obtain ⟨ω,a,e⟩:=qac.1 h;cases e;exact ⟨υ,gu f hp,a⟩
 cases h
theorem dQ {ps:List Prop}(ans:List (Nat×Ans))(hp:kK ps)(h:(match Aw Γ ans nIn fu m σ [] with|some (.norm,υ,[],qs)=>(canon nIn υ).map fun ω=>(ω,qs)|_=>none)=some (σ',ps)):∃υ,run Γ nIn fu m σ=some (.norm,υ)/\canon nIn υ=some σ':=TR ans [] hp h
def inV (i:Int):Val:=.mk 2 i 0 ⟨#[]⟩ [] []
def nmB:qaW:=⟨#[98,111,100,121]⟩
def nmX:qaW:=⟨#[105,110,100,101,120]⟩
def nmI:qaW:=⟨#[105,116,101,109]⟩
def PE (nb ni:Bool)(b:Val)(i:Int)(x:Val):List (qaW×Val):=match nb,ni with
 |true,true=>[(nmX,inV i)]
 |true,false=>[(nmX,inV i),(nmI,x)]
 |false,true=>[(nmB,b),(nmX,inV i)]
 |false,false=>[(nmB,b),(nmX,inV i),(nmI,x)]
def zC (b:Val)(i:Int)(x:Val):Val:=.mk 9 0 0 ⟨#[]⟩ [] (PE (dU b) (dU x) b i x)
theorem zbQ (b:Val)(i:Int)(x:Val):(zC b i x).size<=b.size+x.size+6:=by unfold zC;cases dU b<;>cases dU x<;>simp [PE,inV,Val.size,iZ,rV]<;>omega
theorem OU (b:Val)(hb:b.wide)(i:Int)(x:Val)(hx:x.wide):(zC b i x).wide:=by
 unfold zC;simp only [Val.wide];refine ⟨⟨by decide,?_⟩,trivial,?_⟩;·cases dU b<;>cases dU x<;>simp [PE]
 have a:(inV i).wide:=by simp [inV,Val.wide,zX,xO]
 cases dU b<;>cases dU x<;>simp [PE,xO,hb,hx,a]
def rcA (b1 b2 b3:Int)(b4:qaW)(b5 b6:qaV)(i:Int)(x1 x2 x3:Int)(x4:qaW)(x5 x6:qaV):qaV:=[[strX nmB,num b1,num b2,num b3,strX b4,.sl false 6 b5,.sl false 7 b6],strX nmX::(inV i).cells,[strX nmI,num x1,num x2,num x3,strX x4,.sl false 6 x5,.sl false 7 x6]]
def rcH (L acc:qaV)(j:Nat):St:=⟨[(0,.sl false 7 L),(2,.ptr 0 0 0),(3,.ptr 1 0 0),(8,.sl false 7 L),(9,nat 3),(10,nat j)],[.var [num 0,num 0,num 0,noText,.sl true 6 [],.sl true 7 []],.var [num 9,num 0,num 0,noText,.sl true 6 [],.bs 2 0 acc.length],.row 7 acc]⟩
def rcE (L acc:qaV)(j:Nat):St:=⟨[(0,.sl false 7 L),(2,.ptr 0 0 0),(3,.ptr 1 0 0),(8,.sl false 7 L),(9,nat 3),(10,nat j),(11,boolX false)],[.var [num 0,num 0,num 0,noText,.sl true 6 [],.sl true 7 []],.var [num 9,num 0,num 0,noText,.sl true 6 [],.bs 2 0 acc.length],.row 7 acc]⟩
section
variable (b1 b2 b3:Int) (b4:qaW) (b5 b6:qaV) (i:Int) (x1 x2 x3:Int) (x4:qaW) (x5 x6:qaV) (N:Nat)
abbrev rcL:=rcA b1 b2 b3 b4 b5 b6 i x1 x2 x3 x4 x5 x6
def fB:List X:=[strX nmB,num b1,num b2,num b3,strX b4,.sl false 6 b5,.sl false 7 b6]
def fX:List X:=strX nmX::(inV i).cells
def fI:List X:=[strX nmI,num x1,num x2,num x3,strX x4,.sl false 6 x5,.sl false 7 x6]
variable (hi:Gam.pureD (callF tab ext (N+100)) 65 [.agg (inV i).cells]=some (boolX false)) (nb ni:Bool)
 (hb:Gam.pureD (callF tab ext (N+100)) 65 [.agg [num b1,num b2,num b3,strX b4,.sl false 6 b5,.sl false 7 b6]]=some (boolX nb)) (hx:Gam.pureD (callF tab ext (N+100)) 65 [.agg [num x1,num x2,num x3,strX x4,.sl false 6 x5,.sl false 7 x6]]=some (boolX ni))
def acB:qaV:=if nb then [] else [fB b1 b2 b3 b4 b5 b6]
def acI:qaV:=if ni then [] else [fI x1 x2 x3 x4 x5 x6]
include hb in
theorem zwB:∃υ,run (callF tab ext (N+100)) 0 (N+100) (loopAt 32 0) (rcH (rcL b1 b2 b3 b4 b5 b6 i x1 x2 x3 x4 x5 x6) [] 0)=some (.norm,υ)/\canon 0 υ=some (rcH (rcL b1 b2 b3 b4 b5 b6 i x1 x2 x3 x4 x5 x6) (acB b1 b2 b3 b4 b5 b6 nb) 1):=by
 cases nb with
 |true=>exact dQ [(23,.p (boolX true))] (pf1 hb) (by kernel_rfl)
 |false=>exact dQ [(23,.p (boolX false))] (pf1 hb) (by kernel_rfl)
include hi in
theorem zwA:∃υ,run (callF tab ext (N+100)) 0 (N+100) (loopAt 32 0) (rcH (rcL b1 b2 b3 b4 b5 b6 i x1 x2 x3 x4 x5 x6) (acB b1 b2 b3 b4 b5 b6 nb) 1)=some (.norm,υ)/\canon 0 υ=some (rcH (rcL b1 b2 b3 b4 b5 b6 i x1 x2 x3 x4 x5 x6) (acB b1 b2 b3 b4 b5 b6 nb++[fX i]) 2):=by
 cases nb with
 |true=>exact dQ [(23,.p (boolX false))] (pf1 hi) (by kernel_rfl)
 |false=>exact dQ [(23,.p (boolX false))] (pf1 hi) (by kernel_rfl)
include hx in
theorem zwz:∃υ,run (callF tab ext (N+100)) 0 (N+100) (loopAt 32 0) (rcH (rcL b1 b2 b3 b4 b5 b6 i x1 x2 x3 x4 x5 x6) (acB b1 b2 b3 b4 b5 b6 nb++[fX i]) 2)=some (.norm,υ)/\canon 0 υ=some (rcH (rcL b1 b2 b3 b4 b5 b6 i x1 x2 x3 x4 x5 x6) (acB b1 b2 b3 b4 b5 b6 nb++[fX i]++acI x1 x2 x3 x4 x5 x6 ni) 3):=by
 cases nb with
 |true=>cases ni with
  |true=>exact dQ [(23,.p (boolX true))] (pf1 hx) (by kernel_rfl)
  |false=>exact dQ [(23,.p (boolX false))] (pf1 hx) (by kernel_rfl)
 |false=>cases ni with
  |true=>exact dQ [(23,.p (boolX true))] (pf1 hx) (by kernel_rfl)
  |false=>exact dQ [(23,.p (boolX false))] (pf1 hx) (by kernel_rfl)
theorem zwy (acc:qaV):run (callF tab ext (N+100)) 0 (N+100) (loopAt 32 0) (rcH (rcL b1 b2 b3 b4 b5 b6 i x1 x2 x3 x4 x5 x6) acc 3)=some (.exit 0,rcE (rcL b1 b2 b3 b4 b5 b6 i x1 x2 x3 x4 x5 x6) acc 3):=
 ruA [] pf0
include hi hb hx in
theorem znT:run (callF tab ext (N+100)) 0 (N+100) (.loop (loopAt 32 0)) (rcH (rcL b1 b2 b3 b4 b5 b6 i x1 x2 x3 x4 x5 x6) [] 0)=some (.exit 0,rcE (rcL b1 b2 b3 b4 b5 b6 i x1 x2 x3 x4 x5 x6) (acB b1 b2 b3 b4 b5 b6 nb++[fX i]++acI x1 x2 x3 x4 x5 x6 ni) 3):=
 aQ (σ:=fun j=>match j with
  |0=>rcH (rcL b1 b2 b3 b4 b5 b6 i x1 x2 x3 x4 x5 x6) [] 0
  |1=>rcH (rcL b1 b2 b3 b4 b5 b6 i x1 x2 x3 x4 x5 x6) (acB b1 b2 b3 b4 b5 b6 nb) 1
  |2=>rcH (rcL b1 b2 b3 b4 b5 b6 i x1 x2 x3 x4 x5 x6) (acB b1 b2 b3 b4 b5 b6 nb++[fX i]) 2
  |_=>rcH (rcL b1 b2 b3 b4 b5 b6 i x1 x2 x3 x4 x5 x6) (acB b1 b2 b3 b4 b5 b6 nb++[fX i]++acI x1 x2 x3 x4 x5 x6 ni) 3) (k:=3) (by kernel_rfl) (fun j a=>by
   match j,a with
   |0,_=>exact zwB b1 b2 b3 b4 b5 b6 i x1 x2 x3 x4 x5 x6 N nb hb
   |1,_=>exact zwA b1 b2 b3 b4 b5 b6 i x1 x2 x3 x4 x5 x6 N hi nb
   |2,_=>exact zwz b1 b2 b3 b4 b5 b6 i x1 x2 x3 x4 x5 x6 N nb ni hx) (zwy ..) (by simp) (by omega)
end
theorem zd4 (b:Val)(hb:b.wide)(i:Int)(x:Val)(hx:x.wide)(N:Nat)(hN:b.size+x.size+400<=N):Gam.pureD (callF tab ext N) 32 [.sl false 7 [strX nmB::b.cells,strX nmX::(inV i).cells,strX nmI::x.cells]]=some (.agg (zC b i x).cells):=by
 obtain ⟨M,rfl⟩:∃M,N=M+101:=⟨N-101,by omega⟩;have L:=zbQ b i x;have E:=uY (M+100) (zC b i x) (by omega) (OU b hb i x hx);have B:=fun a f h j l m n q u w y A=>znT a f h j l m i n q u w y A M (yQ (M+99) (inV i)) (dU b) (dU x);have F:=yQ (M+99) b;have H:=yQ (M+99) x;unfold zC at E ⊢;obtain ⟨a,f,h,j,l,m⟩:=b;obtain ⟨n,q,u,w,y,A⟩:=x;replace B:=B a f h j (ah l) (au m) n q u w (ah y) (au A) F H;clear F H L hb hx hN;generalize dU (.mk a f h j l m)=O at B E ⊢;generalize dU (.mk n q u w y A)=J at B E ⊢;cases O with
 |true=>cases J with
  |true=>exact puB [(40,.p (.agg (Val.mk 9 0 0 ⟨#[]⟩ [] (PE true true (.mk a f h j l m) i (.mk n q u w y A))).cells))] [(.exit 0,rcE (rcL a f h j (ah l) (au m) i n q u w (ah y) (au A)) [fX i] 3)] (pf3 B (show 0+(0+1)<=1 by decide) E) (.agg (Val.mk 9 0 0 ⟨#[]⟩ [] (PE true true (.mk a f h j l m) i (.mk n q u w y A))).cells)
  |false=>exact puB [(40,.p (.agg (Val.mk 9 0 0 ⟨#[]⟩ [] (PE true false (.mk a f h j l m) i (.mk n q u w y A))).cells))] [(.exit 0,rcE (rcL a f h j (ah l) (au m) i n q u w (ah y) (au A)) [fX i,fI n q u w (ah y) (au A)] 3)] (pf3 B (show 0+(0+2)<=2 by decide) E) (.agg (Val.mk 9 0 0 ⟨#[]⟩ [] (PE true false (.mk a f h j l m) i (.mk n q u w y A))).cells)
 |false=>cases J with
  |true=>exact puB [(40,.p (.agg (Val.mk 9 0 0 ⟨#[]⟩ [] (PE false true (.mk a f h j l m) i (.mk n q u w y A))).cells))] [(.exit 0,rcE (rcL a f h j (ah l) (au m) i n q u w (ah y) (au A)) [fB a f h j (ah l) (au m),fX i] 3)] (pf3 B (show 0+(0+2)<=2 by decide) E) (.agg (Val.mk 9 0 0 ⟨#[]⟩ [] (PE false true (.mk a f h j l m) i (.mk n q u w y A))).cells)
  |false=>exact puB [(40,.p (.agg (Val.mk 9 0 0 ⟨#[]⟩ [] (PE false false (.mk a f h j l m) i (.mk n q u w y A))).cells))] [(.exit 0,rcE (rcL a f h j (ah l) (au m) i n q u w (ah y) (au A)) [fB a f h j (ah l) (au m),fX i,fI n q u w (ah y) (au A)] 3)] (pf3 B (show 0+(0+3)<=3 by decide) E) (.agg (Val.mk 9 0 0 ⟨#[]⟩ [] (PE false false (.mk a f h j l m) i (.mk n q u w y A))).cells)
namespace Ct
def sW (e:List X):Prop:=∃(k i:Int) (nm:qaW),e=[num k,num i,strX nm]/\0<=i/\i<=1000000/\nm.size<=1000000
theorem Ub (hh:1<=h)(he:sW e):D T h 7 e:=by obtain ⟨k,i,m,rfl,f,j,l⟩:=he;exact dI hh (qaa.2 rfl) ⟨⟨rfl,(fun a e=>by cases e),(fun a e=>by cases e)⟩,⟨rfl,(fun a e=>by grind),(fun a e=>by grind)⟩,⟨by omega,by omega⟩,trivial⟩
theorem zan {s:qaW}(h:(!s.toList==(⟨#[]⟩:qaW).toList)=true):1<=s.size:=by
 rcases Nat.eq_zero_or_pos s.size with h0|h0;·simp_all
 grind
theorem zeG {s:qaW}(h:(!s.toList==(⟨#[]⟩:qaW).toList)=false):s.size=0:=by
 have e:=ByteArray.toList_eq s;have f:(⟨#[]⟩:qaW).toList=[]:=ByteArray.toList_eq _;rw [e,f] at h;cases j:s.data.toList with
 |nil=>show s.data.size=0<;>grind[Array.length_toList]
 |cons a r=>grind
theorem WL (s0:qaW)(h0:s0.size<=201)(h00:1<=s0.size):∃e σ' B,((e=.ret/\∃bx,σ'=⟨[(2,.sl true 3 []),(3,num 13)],bx⟩/\(∃es c,bx=[.row 3 es,.var c]))\/(∃(s:qaW) (es:qaV),e=.exit 1/\σ'=⟨[(4,.bs 0 0 es.length),(5,strX s),(19,boolX false)],[.row 3 es]⟩/\(1<=es.length/\es.length<=201)/\∀x,x∈es->sW x))/\
  ∀M,B<=M->run (callF tab ext M) 0 M (.loop (loopAt 39 0)) ⟨[(4,.bs 0 0 0),(5,strX s0)],[.row 3 []]⟩=some (e,σ'):=by
 refine jC (nIn:=0) (b:=loopAt 39 0) (H:=fun p:qaW×qaV×Nat=>⟨[(4,.bs 0 0 p.2.2),(5,strX p.1)],[.row 3 p.2.1]⟩) (I:=fun p=>p.2.2=p.2.1.length/\p.1.size+p.2.2<=201/\(p.2.2=0->1<=p.1.size)/\∀x,x∈p.2.1->sW x) (μ:=fun p=>p.1.size)
  (Q:=fun e σ'=>(e=.ret/\∃bx,σ'=⟨[(2,.sl true 3 []),(3,num 13)],bx⟩/\(∃es c,bx=[.row 3 es,.var c]))\/(∃(s:qaW) (es:qaV),e=.exit 1/\σ'=⟨[(4,.bs 0 0 es.length),(5,strX s),(19,boolX false)],[.row 3 es]⟩/\(1<=es.length/\es.length<=201)/\∀x,x∈es->sW x))
  (fun p U=>?_) (a:=(s0,[],0)) ⟨rfl,by grind,fun _=>h00,fun x w=>by grind⟩ (by kernel_rfl)
 obtain ⟨s,es,n⟩:=p;obtain ⟨L,W,Y,N⟩:=U;dsimp only at L W Y N ⊢;cases l:(!s.toList==(⟨#[]⟩:qaW).toList) with
 |false=>subst L;exact .inr ⟨_,_,0,(by grind),.inr ⟨s,es,rfl,rfl,⟨by grind[zeG],by omega⟩,N⟩,fun M _=>ruA [(19,.b false)] (pf1 l)⟩
 |true=>
  have V:=zan l;obtain ⟨k,i,f,y,b,u,q,m⟩:=YQ s V (by omega);obtain ⟨E,u⟩:=gq u rfl;cases b with
  |false=>exact .inr ⟨_,_,E,(by grind),.inl ⟨rfl,_,rfl,es,[num k,num i,strX f],rfl⟩,fun M F=>ruA [(19,.b true),(22,.p (.tup [.agg [num k,num i,strX f],strX y,boolX false])),(25,.b false)] (pf3 l (u M F) (show false=false from rfl))⟩
  |true=>
   have m:=m rfl;obtain ⟨c,A,S⟩:=VB k i f q;obtain ⟨J,A⟩:=gq A rfl;cases c with
   |false=>exact .inr ⟨_,_,max E J,(by grind),.inl ⟨rfl,_,rfl,es,[num k,num i,strX f],rfl⟩,fun M F=>ruA [(19,.b true),(22,.p (.tup [.agg [num k,num i,strX f],strX y,boolX true])),(25,.b true),(30,.p (boolX false)),(31,.b true)] (pf5 l (u M (by omega)) (show true=true from rfl) (A M (by omega)) (show (!false)=true from rfl))⟩
   |true=>
    obtain ⟨O,P⟩:=S rfl;have j:0+n=es.length/\cZ (n+[[num k,num i,strX f]].length) (31+1)=true/\tC 0 (X.sl true 3 [[num k,num i,strX f]]).rows=false:=⟨by omega,jd (by grind) (by grind),rfl⟩;refine .inl ⟨⟨[(4,.bs 2 0 (n+1)),(5,strX y)],[.dead,.var [num k,num i,strX f],.row 3 (es++[[num k,num i,strX f]])]⟩,(y,es++[[num k,num i,strX f]],n+1),max E J,fun M F=>?_,by kernel_rfl,⟨by grind,by grind,(fun h=>by grind),fun x w=>?_⟩,by grind⟩;·exact ruA [(19,.b true),(22,.p (.tup [.agg [num k,num i,strX f],strX y,boolX true])),(25,.b true),(30,.p (boolX true)),(31,.b false),(36,.app)] (pf6 l (u M (by omega)) (show true=true from rfl) (A M (by omega)) (show (!true)=false from rfl) j)
    rcases qaO.1 w with w|w
    ·grind
    rw [qaa.1 w];exact ⟨k,i,f,rfl,O,P,q⟩
theorem AL (s:qaW)(hs:s.size<=1000000):(∃e:Int,1<=e/\e<=100/\Back 39 [strX s] (.tup [.sl true 3 [],num e]))\/∃es,(1<=es.length/\es.length<=201)/\(∀x,x∈es->sW x)/\∃B,∀N,B<=N->callF tab ext N (.fn 39) [strX s] []=some (.tup [.bs 0 0 es.length,num 0],[.row 3 es]):=by
 have a:∀{B:Nat} {r:X} {bx:List Bx},(∀M,B<=M->callF tab ext (M+1) (.fn 39) [strX s] []=some (r,bx))->∃B,∀N,B<=N->callF tab ext N (.fn 39) [strX s] []=some (r,bx):=fun {B} {r} {bx} h=>⟨B+1,fun N O=>by obtain ⟨M,rfl⟩:=pR_ N<;>simp_all⟩;cases f:(s.toList==(⟨#[]⟩:qaW).toList) with
 |true=>exact .inl ⟨4,by decide,by decide,a (B:=0) fun M _=>caA [(11,.b true)] (pf1 f) (r:=some (.tup [.sl true 3 [],num 4],[]))⟩
 |false=>
  cases j:decide (Int.ofNat s.size>200) with
  |true=>exact .inl ⟨5,by decide,by decide,a (B:=0) fun M _=>caA [(11,.b false),(15,.b true)] (pf2 f j) (r:=some (.tup [.sl true 3 [],num 5],[]))⟩
  |false=>
   have q:=of_decide_eq_false j;simp only [qaJ] at q;have A:((⟨#[46]⟩:qaW)++s).size<=201:=by rw [ByteArray.size_append];show 1+s.size<=201;omega
   have u:(⟨#[46]⟩:qaW).size+s.size<=9223372036854775807:=by show 1+s.size<=_;omega
   obtain ⟨e,σ',B,L,m⟩:=WL _ A (by rw [ByteArray.size_append];show 1<=1+s.size;omega);rcases L with ⟨rfl,bx,rfl,es,c,rfl⟩|⟨F,es,rfl,rfl,⟨y,J⟩,w⟩;·exact .inl ⟨13,by decide,by decide,a (B:=B) fun M l=>caB [(11,.b false),(15,.b false),(17,.at)] [(.ret,⟨[(2,.sl true 3 []),(3,num 13)],[.row 3 es,.var c]⟩)] (pf4 f j u (m M l)) (r:=some (.tup [.sl true 3 [],num 13],[]))⟩
   generalize H:es.length=n at m J y;cases E:decide (Int.ofNat n>16) with
   |true=>exact .inl ⟨9,by decide,by decide,a (B:=B) fun M l=>caB [(11,.b false),(15,.b false),(17,.at),(40,.b true)] [(.exit 1,⟨[(4,.bs 0 0 n),(5,strX F),(19,boolX false)],[.row 3 es]⟩)] (pf5 f j u (m M l) E) (r:=some (.tup [.sl true 3 [],num 9],[]))⟩
   |false=>refine .inr ⟨es,⟨by omega,by omega⟩,w,a (B:=B) fun M l=>?_⟩;rw [H];exact caB [(11,.b false),(15,.b false),(17,.at),(40,.b false)] [(.exit 1,⟨[(4,.bs 0 0 n),(5,strX F),(19,boolX false)],[.row 3 es]⟩)] (pf5 f j u (m M l) E) (r:=some (.tup [.bs 0 0 n,num 0],[.row 3 es]))
def zvb:List Ctr:=[dO 39 [.s] [] none [(.tu [.x (.sl true 3 []),.ir .i64 1 100],[],[]),(.tu [.bs 0,.k .i64 0],[.row 3 7],[lt 2 0 4,lt 4 0 2])]]
theorem bZ:ak T Gm zvb:=.one fun ρ M E f=>by
 obtain ⟨w,y⟩:=qw f;obtain ⟨x,rfl,j⟩:=zeH w;obtain rfl:=qQ y;obtain ⟨s,rfl,B⟩:=isS j;rcases AL s (by omega) with ⟨e,m,l,h⟩|⟨a,H,u,h⟩;·exact jS (q:=(.tu [.x (.sl true 3 []),.ir .i64 1 100],[],[])) (qaq ..) f.zero f.pos rfl rfl (r:=.tup [.sl true 3 [],num e]) ⟨_,rfl,⟨rfl,rfl⟩,zjc m l,trivial⟩ (fun _ _ _ _ _ _=>.nil) h
 refine uK (q:=(.tu [.bs 0,.k .i64 0],[.row 3 7],[lt 2 0 4,lt 4 0 2])) (qar _ (qaa.2 rfl)) f.zero f.pos rfl rfl (r:=.tup [.bs 0 0 a.length,num 0]) (bx':=[.row 3 a]) ⟨_,rfl,⟨a.length,rfl,by grind[bW]⟩,rfl,trivial⟩ ⟨⟨a,1,rfl,by omega,by grind[bW],fun x j=>Ub (Int.le_refl _) (u x j)⟩,trivial⟩ (fun L ρ' J z g n A=>?_) h;subst A;have l:(a.length:Int)=ρ' 2:=by
  cases g with
  |tup g=>cases g with
   |cons g _=>cases g with
    |bs _ _ _ q=>rw [q];unfold Lin.v;show ρ' 2+0=_;omega
 have F:(a.length:Int)=ρ' 4:=by
  cases n with
  |cons g _=>cases g with
   |row _ _ q _=>rw [q];unfold Lin.v;show ρ' 4+0=_;omega
 exact .cons (iR (by decide) (by decide) (by omega)) (.cons (iR (by decide) (by decide) (by omega)) .nil)
end Ct
set_option linter.all false
namespace Ct
theorem ar1 (N:Nat):callF tab ext (N+1) (.fn 230) [num 1] []=some (.tup [num 0,num 0],[]):=by kernel_rfl
theorem ar2 (N:Nat):callF tab ext (N+1) (.fn 230) [num 2] []=some (.tup [num 0,num 0],[]):=by kernel_rfl
theorem ar3 (N:Nat):callF tab ext (N+1) (.fn 230) [num 3] []=some (.tup [num 1,num 1],[]):=by kernel_rfl
theorem ar4 (N:Nat):callF tab ext (N+1) (.fn 230) [num 4] []=some (.tup [num 2,num 2],[]):=by kernel_rfl
theorem ar5 (N:Nat):callF tab ext (N+1) (.fn 230) [num 5] []=some (.tup [num 2,num 2],[]):=by kernel_rfl
theorem ar6 (N:Nat):callF tab ext (N+1) (.fn 230) [num 6] []=some (.tup [num 2,num 2],[]):=by kernel_rfl
theorem ar7 (N:Nat):callF tab ext (N+1) (.fn 230) [num 7] []=some (.tup [num 2,num 2],[]):=by kernel_rfl
theorem ar8 (N:Nat):callF tab ext (N+1) (.fn 230) [num 8] []=some (.tup [num 2,num 2],[]):=by kernel_rfl
theorem ar9 (N:Nat):callF tab ext (N+1) (.fn 230) [num 9] []=some (.tup [num 2,num 2],[]):=by kernel_rfl
theorem zyP (N:Nat):callF tab ext (N+1) (.fn 230) [num 10] []=some (.tup [num 2,num 2],[]):=by kernel_rfl
theorem zyO (N:Nat):callF tab ext (N+1) (.fn 230) [num 11] []=some (.tup [num 2,num 2],[]):=by kernel_rfl
theorem zyN (N:Nat):callF tab ext (N+1) (.fn 230) [num 12] []=some (.tup [num 2,num 2],[]):=by kernel_rfl
theorem zyM (N:Nat):callF tab ext (N+1) (.fn 230) [num 13] []=some (.tup [num 2,num 2],[]):=by kernel_rfl
theorem zyL (N:Nat):callF tab ext (N+1) (.fn 230) [num 14] []=some (.tup [num 2,num 2],[]):=by kernel_rfl
theorem zyK (N:Nat):callF tab ext (N+1) (.fn 230) [num 15] []=some (.tup [num 2,num 2],[]):=by kernel_rfl
theorem zyJ (N:Nat):callF tab ext (N+1) (.fn 230) [num 16] []=some (.tup [num 1,num 1],[]):=by kernel_rfl
theorem zyI (N:Nat):callF tab ext (N+1) (.fn 230) [num 17] []=some (.tup [num 2,num 2],[]):=by kernel_rfl
theorem zyH (N:Nat):callF tab ext (N+1) (.fn 230) [num 18] []=some (.tup [num 1,num 1],[]):=by kernel_rfl
theorem zyG (N:Nat):callF tab ext (N+1) (.fn 230) [num 19] []=some (.tup [num 1,num 1],[]):=by kernel_rfl
theorem zyF (N:Nat):callF tab ext (N+1) (.fn 230) [num 20] []=some (.tup [num 1,num 1],[]):=by kernel_rfl
theorem zyE (N:Nat):callF tab ext (N+1) (.fn 230) [num 21] []=some (.tup [num 3,num 3],[]):=by kernel_rfl
theorem zyD (N:Nat):callF tab ext (N+1) (.fn 230) [num 22] []=some (.tup [num 0,num 0],[]):=by kernel_rfl
theorem zyC (N:Nat):callF tab ext (N+1) (.fn 230) [num 23] []=some (.tup [num 2,num 2],[]):=by kernel_rfl
theorem zyB (N:Nat):callF tab ext (N+1) (.fn 230) [num 24] []=some (.tup [num 3,num 3],[]):=by kernel_rfl
theorem zyA (N:Nat):callF tab ext (N+1) (.fn 230) [num 25] []=some (.tup [num 2,num 256],[]):=by kernel_rfl
theorem zyz (N:Nat):callF tab ext (N+1) (.fn 230) [num 26] []=some (.tup [num 0,num 0],[]):=by kernel_rfl
theorem zyy (N:Nat):callF tab ext (N+1) (.fn 230) [num 27] []=some (.tup [num 1,num 1],[]):=by kernel_rfl
theorem zyx (N:Nat):callF tab ext (N+1) (.fn 230) [num 28] []=some (.tup [num 1,num 1],[]):=by kernel_rfl
theorem zn7 {op:Int}(h1:1<=op)(h2:op<=28):op=1\/op=2\/op=3\/op=4\/op=5\/op=6\/op=7\/op=8\/op=9\/op=10\/op=11\/op=12\/op=13\/op=14\/op=15\/op=16\/op=17\/op=18\/op=19\/op=20\/op=21\/op=22\/op=23\/op=24\/op=25\/op=26\/op=27\/op=28:=by omega
def zyb:List Ctr:=[dO 230 [.ir .i64 1 28] [] none [(.tu [.k .i64 0,int],[],bd 1 1 1),(.tu [.k .i64 0,int],[],bd 1 2 2),(.tu [.k .i64 1,int],[],bd 1 3 3),(.tu [.k .i64 2,int],[],bd 1 4 15),(.tu [.k .i64 1,int],[],bd 1 16 16),(.tu [.k .i64 2,int],[],bd 1 17 17),(.tu [.k .i64 1,int],[],bd 1 18 20),(.tu [.k .i64 3,int],[],bd 1 21 21),(.tu [.k .i64 0,int],[],bd 1 22 22),(.tu [.k .i64 2,int],[],bd 1 23 23),(.tu [.k .i64 3,int],[],bd 1 24 24),(.tu [.k .i64 2,int],[],bd 1 25 25),(.tu [.k .i64 0,int],[],bd 1 26 26),(.tu [.k .i64 1,int],[],bd 1 27 28)]]
theorem eY {ρ:Rho}{op lo hi a b:Int}(hs:(dO 230 [.ir .i64 1 28] [] none [(.tu [.k .i64 0,int],[],bd 1 1 1),(.tu [.k .i64 0,int],[],bd 1 2 2),(.tu [.k .i64 1,int],[],bd 1 3 3),(.tu [.k .i64 2,int],[],bd 1 4 15),(.tu [.k .i64 1,int],[],bd 1 16 16),(.tu [.k .i64 2,int],[],bd 1 17 17),(.tu [.k .i64 1,int],[],bd 1 18 20),(.tu [.k .i64 3,int],[],bd 1 21 21),(.tu [.k .i64 0,int],[],bd 1 22 22),(.tu [.k .i64 2,int],[],bd 1 23 23),(.tu [.k .i64 3,int],[],bd 1 24 24),(.tu [.k .i64 2,int],[],bd 1 25 25),(.tu [.k .i64 0,int],[],bd 1 26 26),(.tu [.k .i64 1,int],[],bd 1 27 28)]).Sat T ρ [num op] [])(hm:((.tu [.k .i64 lo,int],[],bd 1 a b):Yh)∈([(.tu [.k .i64 0,int],[],bd 1 1 1),(.tu [.k .i64 0,int],[],bd 1 2 2),(.tu [.k .i64 1,int],[],bd 1 3 3),(.tu [.k .i64 2,int],[],bd 1 4 15),(.tu [.k .i64 1,int],[],bd 1 16 16),(.tu [.k .i64 2,int],[],bd 1 17 17),(.tu [.k .i64 1,int],[],bd 1 18 20),(.tu [.k .i64 3,int],[],bd 1 21 21),(.tu [.k .i64 0,int],[],bd 1 22 22),(.tu [.k .i64 2,int],[],bd 1 23 23),(.tu [.k .i64 3,int],[],bd 1 24 24),(.tu [.k .i64 2,int],[],bd 1 25 25),(.tu [.k .i64 0,int],[],bd 1 26 26),(.tu [.k .i64 1,int],[],bd 1 27 28)]:List Yh))(h1:a<=op)(h2:op<=b)(h:∀N,callF tab ext (N+1) (.fn 230) [num op] []=some (.tup [num lo,num hi],[])):(dO 230 [.ir .i64 1 28] [] none [(.tu [.k .i64 0,int],[],bd 1 1 1),(.tu [.k .i64 0,int],[],bd 1 2 2),(.tu [.k .i64 1,int],[],bd 1 3 3),(.tu [.k .i64 2,int],[],bd 1 4 15),(.tu [.k .i64 1,int],[],bd 1 16 16),(.tu [.k .i64 2,int],[],bd 1 17 17),(.tu [.k .i64 1,int],[],bd 1 18 20),(.tu [.k .i64 3,int],[],bd 1 21 21),(.tu [.k .i64 0,int],[],bd 1 22 22),(.tu [.k .i64 2,int],[],bd 1 23 23),(.tu [.k .i64 3,int],[],bd 1 24 24),(.tu [.k .i64 2,int],[],bd 1 25 25),(.tu [.k .i64 0,int],[],bd 1 26 26),(.tu [.k .i64 1,int],[],bd 1 27 28)]).Res T Gm ρ [num op] []:=by
 have l:op=ρ 1:=by
  cases hs.args with
  |cons w _=>exact sI w
 refine jS hm hs.zero hs.pos rfl rfl (r:=.tup [num lo,num hi]) ⟨_,rfl,rfl,⟨hi,rfl⟩,trivial⟩ (fun q ρ' f u g j=>?_) ⟨1,fun N m=>by obtain ⟨M,rfl⟩:=pR_ N<;>simp_all⟩;subst j;have n:=f.same 1 (by show 1<2;decide);refine .cons (aC.2 ⟨by show 0<3;decide,by show 1<3;decide,?_⟩) (.cons (aC.2 ⟨by show 1<3;decide,by show 0<3;decide,?_⟩) .nil)
 ·grind[Lin.k_v,Lin.v]
 grind[Lin.k_v,Lin.v]
theorem dD:ak T Gm zyb:=.one fun ρ w q f=>by
 obtain ⟨l,m⟩:=qw f;obtain ⟨x,rfl,n⟩:=zeH l;obtain rfl:=qQ m;obtain ⟨u,rfl,h,j⟩:=zov n;rcases zn7 h j with rfl|rfl|rfl|rfl|rfl|rfl|rfl|rfl|rfl|rfl|rfl|rfl|rfl|rfl|rfl|rfl|rfl|rfl|rfl|rfl|rfl|rfl|rfl|rfl|rfl|rfl|rfl|rfl;·exact eY (a:=1) (b:=1) f (by simp) (by decide) (by decide) ar1
 ·exact eY (a:=2) (b:=2) f (by simp) (by decide) (by decide) ar2
 ·exact eY (a:=3) (b:=3) f (by simp) (by decide) (by decide) ar3
 ·exact eY (a:=4) (b:=15) f (by simp) (by decide) (by decide) ar4
 ·exact eY (a:=4) (b:=15) f (by simp) (by decide) (by decide) ar5
 ·exact eY (a:=4) (b:=15) f (by simp) (by decide) (by decide) ar6
 ·exact eY (a:=4) (b:=15) f (by simp) (by decide) (by decide) ar7
 ·exact eY (a:=4) (b:=15) f (by simp) (by decide) (by decide) ar8
 ·exact eY (a:=4) (b:=15) f (by simp) (by decide) (by decide) ar9
 ·exact eY (a:=4) (b:=15) f (by simp) (by decide) (by decide) zyP
 ·exact eY (a:=4) (b:=15) f (by simp) (by decide) (by decide) zyO
 ·exact eY (a:=4) (b:=15) f (by simp) (by decide) (by decide) zyN
 ·exact eY (a:=4) (b:=15) f (by simp) (by decide) (by decide) zyM
 ·exact eY (a:=4) (b:=15) f (by simp) (by decide) (by decide) zyL
 ·exact eY (a:=4) (b:=15) f (by simp) (by decide) (by decide) zyK
 ·exact eY (a:=16) (b:=16) f (by simp) (by decide) (by decide) zyJ
 ·exact eY (a:=17) (b:=17) f (by simp) (by decide) (by decide) zyI
 ·exact eY (a:=18) (b:=20) f (by simp) (by decide) (by decide) zyH
 ·exact eY (a:=18) (b:=20) f (by simp) (by decide) (by decide) zyG
 ·exact eY (a:=18) (b:=20) f (by simp) (by decide) (by decide) zyF
 ·exact eY (a:=21) (b:=21) f (by simp) (by decide) (by decide) zyE
 ·exact eY (a:=22) (b:=22) f (by simp) (by decide) (by decide) zyD
 ·exact eY (a:=23) (b:=23) f (by simp) (by decide) (by decide) zyC
 ·exact eY (a:=24) (b:=24) f (by simp) (by decide) (by decide) zyB
 ·exact eY (a:=25) (b:=25) f (by simp) (by decide) (by decide) zyA
 ·exact eY (a:=26) (b:=26) f (by simp) (by decide) (by decide) zyz
 ·exact eY (a:=27) (b:=28) f (by simp) (by decide) (by decide) zyy
 exact eY (a:=27) (b:=28) f (by simp) (by decide) (by decide) zyx
def zse:List Ctr:=[mkC 231 [int] [] none [((.kb true),[]),((.kb false),[])]]
theorem bH:ak T Gm zse:=hoA K .nil
def zsd:List Ctr:=[mkC 232 [int] [] none [((.kb true),[]),((.kb false),[])]]
theorem bG:ak T Gm zsd:=hoA K .nil
def zsc:List Ctr:=[mkC 234 [part] [] none [(.kb true,[]),(.kb false,[])]]
theorem bC:ak T Gm zsc:=hoA K .nil
def zsf:List Ctr:=[mkC 101 [.sl 3 7,.fn 234 []] [] none [(.ir .i64 (-1) 1000000,[])]]
theorem ze5:ak T Gm zsf:=hoB K ((iQ [⟨[0,1,7,8],fun e n=>(n+1,[aj (.k 0) ⟨n+0,0⟩,aj ⟨n+0,0⟩ (e 1)],[(0,.sl none 3 7 (e 0) (e 1)),(1,.fn 234 []),(7,.i .i64 (e 1)),(8,.i .i64 ⟨n+0,0⟩)],[],(e 1,⟨n+0,0⟩))⟩])) bC
def zsg:List Ctr:=[mkC 73 [.sl 3 7,.fn 234 []] [] none [(.kb true,[]),(.kb false,[])]]
theorem bI:ak T Gm zsg:=hoA K (hpA ze5 bC)
end Ct
end Go.Proofs.YtkeefpkcepodeaaGreatDoor
