/-.-/
import Derived.Test.YtpcjeobkehmhpaaGreatDoorV13
import Derived.Test.YtpcjeobkehmhpaaGreatDoorV14
import Derived.Test.YtpcjeobkehmhpaaGreatDoorV16
import Derived.Test.YtpcjeobkehmhpaaGreatDoorV17
import Derived.Test.YtpcjeobkehmhpaaGreatDoorV19
import Derived.Test.YtpcjeobkehmhpaaGreatDoorV22
import Derived.Test.YtpcjeobkehmhpaaGreatDoorV23
import Derived.Test.YtpcjeobkehmhpaaGreatDoorV24
import Derived.Test.YtpcjeobkehmhpaaGreatDoorV25
import Derived.Test.YtpcjeobkehmhpaaGreatDoorV26
import Derived.Test.YtpcjeobkehmhpaaGreatDoorV27
set_option linter.all false
namespace Go.Proofs.YtpcjeobkehmhpaaGreatDoor
open Go Go.Em Go.Ab
set_option maxRecDepth 100000
variable {H Hv:Int}{ρ:Rho}
namespace Ct.Ff
theorem zou:∀c,c∈fiG->∀k,k<9->oG c k=true:=fun c a k f=>by
 rcases qak.1 a with rfl|a
 ·match k with
  |0=>exact tF0
  |1=>exact tF1
  |2=>exact tF2
  |3=>exact tF3
  |4=>exact tF4
  |5=>exact tF5
  |6=>exact tF6
  |7=>exact tF7
  |8=>exact tF8
  |k+9=>omega
 obtain rfl:=qaa.1 a
 match k with
 |0=>exact tR0
 |1=>exact tR1
 |2=>exact tR2
 |3=>exact tR3
 |4=>exact tR4
 |5=>exact tR5
 |6=>exact tR6
 |7=>exact tR7
 |8=>exact tR8
 |k+9=>omega
theorem zkS:∀c,c∈fiG->c.alts=uN/\c.mu=some ⟨1,0⟩/\Nat.blt 1 c.m=true:=fun c a=>by
 rcases qak.1 a with rfl|a;·exact ⟨rfl,rfl,rfl⟩
 obtain rfl:=qaa.1 a;exact ⟨rfl,rfl,rfl⟩
theorem zow:ay T Gm fiG:=GH (K:=K3) (L:=fiL) zov (by kernel_rfl) (by kernel_rfl) fun c j ρ h F u=>by
 obtain ⟨y,A,B⟩:=zkS c j;obtain ⟨p,q,E⟩:=u.alts;rw [y] at q;obtain ⟨k,m,rfl⟩:=qaT q;have f:k<9:=m;have a:=zou c j k f;refine ⟨(c.with [uN[k]],⟨1,0⟩),rfl,⟨fiO,?_⟩,B,ρ,u.with E,fun l n=>?_,id⟩
 ·unfold oG at a;have e:uN.getD k []=uN[k]:=by rw [qaA,qad m];rfl
  rw [e] at a;exact a
 rw [A] at n;cases n;exact Int.le_refl _
def zpY:List Ctr:=[mkC 101 [zvA,vg] [] none [(.kb true,[]),(.kb false,[])]]
theorem zjI:ay T Gm zpY:=hoA K3 (hpA zaq zow)
end Ct.Ff
section
variable (N:Nat) (k i s:Int) (t:qaY) (l f acc Q8:qaX) (n j m:Nat) (v:Val) (nm:qaY) (a1 a2 a3:Int) (a4:qaY) (u w:Bool) (a5 a6:qaX)
theorem TW (hv:Gam.aC (ah tab ext N) 46 [.agg [num a1,num a2,num a3,aF a4,.sl false 6 a5,.sl false 7 a6]]=some (.agg v.cells))(hi:l[j]?=some [num a1,num a2,num a3,aF a4,.sl u 6 a5,.sl w 7 a6])(hj:j<n)(hn:n<2999999)(ha:j=acc.length):
  run (ah tab ext N) 0 N (aH 46 0) (clH k i s t l f acc n j)=some (.norm,zsC k i s t l f acc n j [num a1,num a2,num a3,aF a4,.sl u 6 a5,.sl w 7 a6] v.cells):=by
 obtain ⟨a,h,m,q,y,A⟩:=v;exact ruA [(15,.b true),(16,.e [num a1,num a2,num a3,aF a4,.sl u 6 a5,.sl w 7 a6]),(21,.p (.agg (Val.mk a h m q y A).cells)),(23,.app),(25,.i (Int.ofNat (j+1)))] (pf5 (aK hj) hi hv (J5 j 3 88 ha (by omega) (by omega)) (aB (j:=j) (by omega)))
theorem Ub (hv:Gam.aC (ah tab ext N) 46 [.agg [num a1,num a2,num a3,aF a4,.sl false 6 a5,.sl false 7 a6]]=some (.agg v.cells))(hi:f[j]?=some [aF nm,num a1,num a2,num a3,aF a4,.sl u 6 a5,.sl w 7 a6])(hj:j<n)(hn:n<2999999)(ha:j=Q8.length):
  run (ah tab ext N) 0 N (aH 46 1) (cfH k i s t f acc Q8 n j m)=some (.norm,zsD k i s t f acc Q8 n j m [aF nm,num a1,num a2,num a3,aF a4,.sl u 6 a5,.sl w 7 a6] (aF nm::v.cells)):=by
 obtain ⟨a,h,l,q,y,A⟩:=v;exact ruA [(30,.b true),(31,.e [aF nm,num a1,num a2,num a3,aF a4,.sl u 6 a5,.sl w 7 a6]),(39,.p (.agg (Val.mk a h l q y A).cells)),(42,.app),(44,.i (Int.ofNat (j+1)))] (pf5 (aK hj) hi hv (J5 j 3 104 ha (by omega) (by omega)) (aB (j:=j) (by omega)))
end
namespace Ct
theorem JG {n:Nat}{e:List X}(h:DN T (n+1) 21 e):∃(a b c:Int) (s:qaY) (t:Bool) (l:qaX) (t':Bool) (f:qaX),e=[num a,num b,num c,aF s,.sl t 6 l,.sl t' 7 f]/\s.size<=1000000/\l.length<=1000000/\f.length<=1000100/\(∀x,x∈l->DN T n 21 x)/\∀x,x∈f->DN T n 22 x:=by
 obtain ⟨j,m,q⟩:=h;obtain rfl:=qaa.1 m
 match e,q with
 |[.v (.int _ a),.v (.int _ b),.v (.int _ c),.v (.string s),.sl t _ l,.sl t' _ f],⟨⟨rfl,_⟩,⟨rfl,_⟩,⟨rfl,_⟩,h4,⟨rfl,_,h5,h6⟩,⟨rfl,_,h7,h8⟩,_⟩=>exact ⟨a,b,c,s,t,l,t',f,rfl,h4.2,h5,h7,h6,h8⟩
theorem TS {n:Nat}{e:List X}(h:DN T n 22 e):∃(nm:qaY) (x:List X),e=aF nm::x/\nm.size<=1000000/\DN T n 21 x:=by
 cases n with
 |zero=>exact h.elim
 |succ n=>
  obtain ⟨a,f,j⟩:=h;obtain rfl:=qaa.1 f
  match e,j with
  |.v (.string s)::x,⟨h1,h2⟩=>exact ⟨s,x,rfl,h1.2,_,qaa.2 rfl,h2⟩
theorem KE:∀{l:List Val},(∀v,v∈l->v.wide)->zG l
 |[],_=>by grind[zG]
 |v::r,h=>by simp only [zG];exact ⟨h v (qar ..),KE fun u hu=>h u (qap _ hu)⟩
theorem KF:∀{l:List (qaY×Val)},(∀p,p∈l->p.2.wide)->zH l
 |[],_=>by grind[zH]
 |(n,v)::r,h=>by simp only [zH];exact ⟨h (n,v) (qar ..),KF fun u hu=>h u (qap _ hu)⟩
instance:Inhabited Val:=⟨.mk 0 0 0 ⟨#[]⟩ [] []⟩
def zss:List X->List X
 |[a,b,c,s,.sl _ 6 l,.sl _ 7 f]=>[a,b,c,s,.sl false 6 l,.sl false 7 f]
 |x=>x
theorem zbA:∀(n:Nat) (a b c:Int) (s:qaY) (l f:qaX),l.length<=1000000->f.length<=1000100->(∀e,e∈l->DN T n 21 e)->(∀e,e∈f->DN T n 22 e)->
  ∃v:Val,v.wide/\∃B,∀N,B<=N->Gam.aC (ah tab ext N) 46 [.agg [num a,num b,num c,aF s,.sl false 6 l,.sl false 7 f]]=some (.agg v.cells):=by
 intro n;induction n with
 |zero=>
  intro a b c s l f hl hf P O;have el:=List.eq_nil_iff_forall_not_mem.2 fun e Y=>P e Y;have S:=List.eq_nil_iff_forall_not_mem.2 fun e Y=>by obtain ⟨_,x,rfl,_,h⟩:=TS (O e Y);exact h
  subst el;subst S;refine ⟨.mk a b c s [] [],by simp_all[Val.wide,zG,zH],2,fun N L=>jy N (.mk a b c s [] []) (by grind[Val.size,tC,tH]) (by grind[Val.size,tC,tH])⟩
 |succ n ih=>
  intro a b c s l f hl hf P O;have hL:∃(g:Nat->Val) (B:Nat),∀j,j∈List.range l.length->(g j).wide/\∀N,B<=N->∃(a1 a2 a3:Int) (a4:qaY) (u w:Bool) (a5 a6:qaX),l[j]?=some [num a1,num a2,num a3,aF a4,.sl u 6 a5,.sl w 7 a6]/\Gam.aC (ah tab ext N) 46 [.agg [num a1,num a2,num a3,aF a4,.sl false 6 a5,.sl false 7 a6]]=some (.agg (g j).cells):=
   oK (List.range l.length) (R:=fun _ v=>Val.wide v) (Q:=fun j v N=>∃(a1 a2 a3:Int) (a4:qaY) (u w:Bool) (a5 a6:qaX),l[j]?=some [num a1,num a2,num a3,aF a4,.sl u 6 a5,.sl w 7 a6]/\Gam.aC (ah tab ext N) 46 [.agg [num a1,num a2,num a3,aF a4,.sl false 6 a5,.sl false 7 a6]]=some (.agg v.cells)) fun j m=>by have m:=List.mem_range.1 m;obtain ⟨a1,a2,a3,a4,u,a5,w,a6,e,_,E,F,H,U⟩:=JG (P _ (qag m));obtain ⟨v,J,B,V⟩:=ih a1 a2 a3 a4 a5 a6 E F H U;exact ⟨v,J,B,fun N L=>⟨a1,a2,a3,a4,u,w,a5,a6,by grind,V N L⟩⟩
  have W:∃(g:Nat->qaY×Val) (B:Nat),∀j,j∈List.range f.length->(g j).2.wide/\∀N,B<=N->∃(a1 a2 a3:Int) (a4:qaY) (u w:Bool) (a5 a6:qaX),f[j]?=some [aF (g j).1,num a1,num a2,num a3,aF a4,.sl u 6 a5,.sl w 7 a6]/\Gam.aC (ah tab ext N) 46 [.agg [num a1,num a2,num a3,aF a4,.sl false 6 a5,.sl false 7 a6]]=some (.agg (g j).2.cells):=
   oK (List.range f.length) (R:=fun _ (p:qaY×Val)=>Val.wide p.2) (Q:=fun j p N=>∃(a1 a2 a3:Int) (a4:qaY) (u w:Bool) (a5 a6:qaX),f[j]?=some [aF p.1,num a1,num a2,num a3,aF a4,.sl u 6 a5,.sl w 7 a6]/\Gam.aC (ah tab ext N) 46 [.agg [num a1,num a2,num a3,aF a4,.sl false 6 a5,.sl false 7 a6]]=some (.agg p.2.cells)) fun j m=>by have m:=List.mem_range.1 m;obtain ⟨nm,x,e0,_,hx⟩:=TS (O _ (qag m));obtain ⟨a1,a2,a3,a4,u,a5,w,a6,e,_,E,F,H,U⟩:=JG hx;obtain ⟨v,J,B,V⟩:=ih a1 a2 a3 a4 a5 a6 E F H U;exact ⟨(nm,v),J,B,fun N L=>⟨a1,a2,a3,a4,u,w,a5,a6,by grind,V N L⟩⟩
  obtain ⟨g,B1,hg⟩:=hL;obtain ⟨q,B2,hq⟩:=W
  let y:=(List.range l.length).map g
  let A:=(List.range f.length).map q
  have el:y.length=l.length:=by simp [y]
  have S:A.length=f.length:=by simp [A]
  have cl:=aS y;have cf:=bg A;have gl:∀j,j<l.length->(au y)[j]?=some (g j).cells:=fun j m=>by grind[kD]
  have gf:∀j,j<f.length->(aA A)[j]?=some (aF (q j).1::(q j).2.cells):=fun j m=>by rw [rX];grind
  refine ⟨.mk a b c s y A,?_,B1+B2+3000100,fun N L=>?_⟩
  ·simp only [Val.wide];refine ⟨⟨by omega,by omega⟩,KE fun v J=>?_,KF fun p hp=>?_⟩
   ·grind
   grind
  obtain ⟨M,rfl⟩:=pR_ N;have E:run (ah tab ext M) 0 M (.loop (aH 46 0)) (clH a b c s l f [] l.length 0)=some (.exit 0,clE a b c s l f (au y) l.length l.length):=by
   refine bF (σ:=fun j=>clH a b c s l f ((au y).take j) l.length j) (k:=l.length) (JW _ _ _ _ _ _ _ _ _) (fun j m=>?_) ?_ (by simp) (by omega)
   ·obtain ⟨a1,a2,a3,a4,u,w,a5,a6,Z,J⟩:=(hg j (List.mem_range.2 m)).2 M (by omega);refine ⟨_,TW M a b c s l f _ l.length j (g j) a1 a2 a3 a4 u w a5 a6 J Z m (by omega) (by grind),?_⟩
    grind[D7,dL]
   ·grind[zbC]
  have F:run (ah tab ext M) 0 M (.loop (aH 46 1)) ⟨[(2,.ptr 1 0 0),(3,.ptr 2 0 0),(27,.sl false 7 f),(28,nat f.length),(29,nat 0)],[.var [num a,num b,num c,aF s,.sl false 6 l,.sl false 7 f],.var zY,.var [num a,num b,num c,aF s,.bs 3 0 l.length,.bs 4 0 0],.row 6 (au y),.row 7 []]⟩=some (.exit 2,cfE a b c s f (au y) (aA A) f.length f.length l.length):=by
   refine bF (σ:=fun j=>cfH a b c s f (au y) ((aA A).take j) f.length j l.length) (k:=f.length) (by kernel_rfl) (fun j m=>?_) ?_ (by simp) (by omega)
   ·obtain ⟨a1,a2,a3,a4,u,w,a5,a6,Z,J⟩:=(hq j (List.mem_range.2 m)).2 M (by omega);refine ⟨_,Ub M a b c s f _ _ f.length j l.length (q j).2 (q j).1 a1 a2 a3 a4 u w a5 a6 J Z m (by omega) (by grind),?_⟩
    grind[Ec,dL]
   ·grind[zbE]
  have H:(X.agg [num a,num b,num c,aF s,.bs 0 0 l.length,.bs 1 0 f.length]).data [.row 6 (au y),.row 7 (aA A)] false=some (.agg (Val.mk a b c s y A).cells):=by
   have e1:l.length=(au y).length:=by omega
   have e2:f.length=(aA A).length:=by omega
   rw [e1,e2];simp [X.data,eG,rowOf,Val.cells,num,aF]
  clear hg hq gl gf el S;generalize au y=CL at E F H;generalize aA A=CF at E F H;generalize l.length=n1 at E F H;generalize f.length=n2 at E F H;exact eU [] [(.exit 0,clE a b c s l f CL n1 n1),(.exit 2,cfE a b c s f CL CF n2 n2 n1)] (pf2 E F) (bx:=[.row 6 CL,.row 7 CF]) (by kernel_rfl) H
theorem zfk {x:List X}(hd:D T H 21 x):∃v:Val,v.wide/\∃B,∀N,B<=N->Gam.aC (ah tab ext N) 46 [.agg (zss x)]=some (.agg v.cells):=by
 unfold D at hd;cases h:H.toNat with
 |zero=>rw [h] at hd;exact hd.elim
 |succ n=>rw [h] at hd;obtain ⟨a,b,c,s,t,l,y,f,rfl,_,j,m,q,u⟩:=JG hd;exact zbA n a b c s l f j m q u
end Ct
namespace Ct
theorem zf8 {q1 q2 q3 q4:Int}{w e f:qaX}(hd:D T (H+1) 14 (dK q1 q2 q3 q4 w e f)):0<=H/\IsL T H [int,int,int,int,.slh 1 5,.slh 7 14,.xq 11 15 0 100] (dK q1 q2 q3 q4 w e f):=by obtain ⟨F,m,n,l⟩:=l9 hd;obtain rfl:=qaa.1 n;rw [Int.add_sub_cancel] at l;obtain ⟨_,_,_,_,⟨_,q,u,a⟩,⟨_,y,A,h⟩,⟨_,B,E,j⟩,_⟩:=l;exact ⟨by omega,⟨q1,rfl⟩,⟨q2,rfl⟩,⟨q3,rfl⟩,⟨q4,rfl⟩,⟨false,w,rfl,by grind[bT],a⟩,⟨false,e,rfl,by grind[bT],h⟩,⟨false,f,rfl,by omega,by omega,j⟩,trivial⟩
theorem zgY {a b c:Int}{s:qaY}{l f:qaX}(hd:D T H 1 [num a,num b,num c,aF s,.sl false 6 l,.sl false 7 f]):val.Is T 0 (.agg [num a,num b,num c,aF s,.sl false 6 l,.sl false 7 f]):=by obtain ⟨F,m,n,q⟩:=l9 hd;obtain rfl:=qaa.1 n;obtain ⟨_,_,_,⟨_,u⟩,⟨_,y,A,h⟩,⟨_,B,E,j⟩,_⟩:=q;exact ⟨H-1,_,rfl,by omega,⟨a,rfl⟩,⟨b,rfl⟩,⟨c,rfl⟩,⟨s,rfl,by grind[bT]⟩,⟨false,l,rfl,by grind[bT],h⟩,⟨false,f,rfl,by grind[bT],j⟩,trivial⟩
theorem DU {n:Nat}{F:List Fact}{bx:List ABx}{bxs:List Bx}{a:AX}{r:X}(z:ρ 0=0)(hF:aY n ρ F)(g1:G T n ρ a r)(g2:GBs T n ρ bx bxs)
  (hd:a.data F bx false=some (.agg [.i .i64 ⟨17,0⟩,.i .i64 ⟨18,0⟩,.i .i64 ⟨19,0⟩,.s ⟨20,0⟩,.sl (some false) 6 21 ⟨16,0⟩ ⟨21,0⟩,.sl (some false) 7 22 ⟨16,0⟩ ⟨22,0⟩])) (b16:0<=ρ 16) (b20:ρ 20<=1000000) (b21:ρ 21<=1000000) (b22:ρ 22<=1000100):
  ∃(a b c:Int) (s:qaY) (l f:qaX),r.data bxs false=some (.agg [num a,num b,num c,aF s,.sl false 6 l,.sl false 7 f])/\∃H,D T H 21 [num a,num b,num c,aF s,.sl false 6 l,.sl false 7 f]:=by
 obtain ⟨y,m,j⟩:=G.data hF g2 z g1 hd;obtain ⟨V,rfl,u⟩:=zaK j;obtain ⟨x1,W,rfl,N,A⟩:=dB u;obtain ⟨x2,Y,rfl,O,B⟩:=dB A;obtain ⟨x3,Z,rfl,P,E⟩:=dB B;obtain ⟨x4,r4,rfl,Q,J⟩:=dB E;obtain ⟨x5,r5,rfl,S,L⟩:=dB J;obtain ⟨x6,r6,rfl,U,M⟩:=dB L;obtain rfl:=zaH M;obtain ⟨a,rfl⟩:=g_i N;obtain ⟨b,rfl⟩:=g_i O;obtain ⟨c,rfl⟩:=g_i P;obtain ⟨s,rfl,h⟩:=g_s Q;cases S with
 |sl i5 j5 f5 e5 q5=>
  rename_i t l;obtain rfl:t=false:=f5;cases U with
  |sl i6 j6 f6 e6 q6=>rename_i q f;obtain rfl:q=false:=f6;unfold Lin.v at h e5 e6 q5 q6;dsimp only at h e5 e6 q5 q6;refine ⟨a,b,c,s,l,f,m,ρ 16+1,dJ (by omega) (qaa.2 rfl) ?_⟩;rw [Int.add_sub_cancel];rw [Int.add_zero] at q5 q6;exact ⟨⟨rfl,(fun a e=>by cases e),(fun a e=>by cases e)⟩,⟨rfl,(fun a e=>by cases e),(fun a e=>by cases e)⟩,⟨rfl,(fun a e=>by cases e),(fun a e=>by cases e)⟩,⟨by omega,by omega⟩,⟨rfl,by omega,by omega,q5⟩,⟨rfl,by omega,by omega,q6⟩,trivial⟩
theorem JM {q1 q2 q3 q4:Int}{w e f:qaX}(hT:D T (H+1) 14 (dK q1 q2 q3 q4 w e f)){a b c:Int}{s:qaY}{l g:qaX}(hv:D T Hv 1 [num a,num b,num c,aF s,.sl false 6 l,.sl false 7 g]):
  ∃(a' b' c':Int) (s':qaY) (l' f':qaX),(∃H',D T H' 21 [num a',num b',num c',aF s',.sl false 6 l',.sl false 7 f'])/\∃B,∀N,B<=N->Gam.aC (ah tab ext N) 100 [.agg (dK q1 q2 q3 q4 w e f),.agg [num a,num b,num c,aF s,.sl false 6 l,.sl false 7 g]]=some (.agg [num a',num b',num c',aF s',.sl false 6 l',.sl false 7 f']):=by
 obtain ⟨Q,L⟩:=zf8 hT;obtain ⟨ρ,M⟩:=I9 (T:=T) (f:=100) (args:=[typ,val]) (inb:=[]) (mu:=some (1,1)) (outs:=oV 16 (.bsr 0 0 1000100)) rfl rfl (xs:=[.agg (dK q1 q2 q3 q4 w e f),.agg [num a,num b,num c,aF s,.sl false 6 l,.sl false 7 g]]) ⟨⟨H,_,rfl,Q,L⟩,zgY hv,trivial⟩ (bx:=[]) trivial;obtain ⟨o,O,ρ',r,bx,V,h,E,J,B,P⟩:=Ff.Qi _ (qar ..) ρ _ _ M;have z:=V.zero M.pos M.zero;rw [wz] at O;obtain ⟨q,y,rfl⟩:=qal.1 O;have j:∀(a':Int) (b' c':Int) (s':qaY) (l' f':qaX),r.data bx false=some (.agg [num a',num b',num c',aF s',.sl false 6 l',.sl false 7 f'])->∃B,∀N,B<=N->Gam.aC (ah tab ext N) 100 [.agg (dK q1 q2 q3 q4 w e f),.agg [num a,num b,num c,aF s,.sl false 6 l,.sl false 7 g]]=some (.agg [num a',num b',num c',aF s',.sl false 6 l',.sl false 7 f']):=fun _ _ _ _ _ _ U=>⟨B,fun N S=>aZ (P N S) U⟩;have up:∀{n k:Nat} {c:Int} {F:List Fact},aY n ρ' F->ak ⟨k,0⟩ (.k c)∈F->ρ' k<=c:=fun {n} {k} {c} {F} h hk=>by have:=(aJ.1 (h _ hk)).2.2<;>grind[Lin.k_v,Lin.v]
 have A:∀{n k:Nat} {c:Int} {F:List Fact},aY n ρ' F->ak (.k c) ⟨k,0⟩∈F->c<=ρ' k:=fun {n} {k} {c} {F} h hk=>by have:=(aJ.1 (h _ hk)).2.2<;>grind[Lin.k_v,Lin.v]
 rcases qak.1 y with rfl|y;·obtain ⟨a',b',c',s',l',f',m,u⟩:=DU z h E J (by kernel_rfl) (A h (of_decide_eq_true (by kernel_rfl))) (up h (of_decide_eq_true (by kernel_rfl))) (up h (of_decide_eq_true (by kernel_rfl))) (up h (of_decide_eq_true (by kernel_rfl)));exact ⟨a',b',c',s',l',f',u,j a' b' c' s' l' f' m⟩
 rcases qak.1 y with rfl|y;·obtain ⟨a',b',c',s',l',f',m,u⟩:=DU z h E J (by kernel_rfl) (A h (of_decide_eq_true (by kernel_rfl))) (up h (of_decide_eq_true (by kernel_rfl))) (up h (of_decide_eq_true (by kernel_rfl))) (up h (of_decide_eq_true (by kernel_rfl)));exact ⟨a',b',c',s',l',f',u,j a' b' c' s' l' f' m⟩
 obtain rfl:=qaa.1 y;obtain ⟨a',b',c',s',l',f',m,u⟩:=DU z h E J (by kernel_rfl) (A h (of_decide_eq_true (by kernel_rfl))) (up h (of_decide_eq_true (by kernel_rfl))) (up h (of_decide_eq_true (by kernel_rfl))) (up h (of_decide_eq_true (by kernel_rfl)));exact ⟨a',b',c',s',l',f',u,j a' b' c' s' l' f' m⟩
theorem zcr {a b c:Int}{s:qaY}{l f:qaX}(hd:D T H 21 [num a,num b,num c,aF s,.sl false 6 l,.sl false 7 f]):vg.Is T 0 (.agg [num a,num b,num c,aF s,.sl false 6 l,.sl false 7 f]):=by obtain ⟨F,m,n,q⟩:=l9 hd;obtain rfl:=qaa.1 n;obtain ⟨_,_,_,⟨_,u⟩,⟨_,y,A,h⟩,⟨_,B,E,j⟩,_⟩:=q;exact ⟨H-1,_,rfl,by omega,⟨a,rfl⟩,⟨b,rfl⟩,⟨c,rfl⟩,⟨s,rfl,by grind[bT]⟩,⟨false,l,rfl,by grind[bT],h⟩,⟨false,f,rfl,by omega,by omega,j⟩,trivial⟩
theorem za3 {q1 q2 q3 q4:Int}{w e f:qaX}(hT:D T 8 14 (dK q1 q2 q3 q4 w e f)){a b c:Int}{s:qaY}{l g:qaX}(hv:D T Hv 21 [num a,num b,num c,aF s,.sl false 6 l,.sl false 7 g]):
  ∃b',∃B,∀N,B<=N->Gam.aC (ah tab ext N) 101 [.agg (dK q1 q2 q3 q4 w e f),.agg [num a,num b,num c,aF s,.sl false 6 l,.sl false 7 g]]=some (aj b'):=by
 obtain ⟨y,m⟩:=zf8 (H:=7) hT;obtain ⟨o,n,r,bx,h,q,B,u⟩:=dX (Ff.zjI _ (qaa.2 rfl)) rfl rfl (xs:=[.agg (dK q1 q2 q3 q4 w e f),.agg [num a,num b,num c,aF s,.sl false 6 l,.sl false 7 g]]) ⟨⟨7,_,rfl,by decide,by decide,m⟩,zcr hv,trivial⟩ (bx:=[]) trivial;rcases qak.1 n with rfl|n;·obtain rfl:=nK q;have h:r=aj true:=h;subst h;exact ⟨true,B,fun N j=>aZ (u N j) rfl⟩
 obtain rfl:=qaa.1 n;obtain rfl:=nK q;have h:r=aj false:=h;subst h;exact ⟨false,B,fun N j=>aZ (u N j) rfl⟩
def vZ:Val:=.mk 0 0 0 ⟨#[]⟩ [] []
theorem qG:vZ.wide:=by simp_all[vZ,Val.wide,zG,zH]
theorem EM {q1 q2 q3 q4:Int}{w e f:qaX}(hT:D T 8 14 (dK q1 q2 q3 q4 w e f)){a b c:Int}{s:qaY}{l g:qaX}(hv:D T Hv 1 [num a,num b,num c,aF s,.sl false 6 l,.sl false 7 g]):
  ∃(v:Val) (x:Int),v.wide/\(x=0\/x=18)/\∃B,∀N,B<=N->Gam.aC (ah tab ext N) 70 [.agg (dK q1 q2 q3 q4 w e f),.agg [num a,num b,num c,aF s,.sl false 6 l,.sl false 7 g]]=some (.tup [.agg v.cells,num x]):=by
 obtain ⟨n,q,u,F,E,y,⟨Z,A⟩,j,h⟩:=JM (H:=7) hT hv;obtain ⟨V,m,zpY⟩:=za3 hT A;cases V with
 |false=>refine ⟨vZ,18,qG,.inr rfl,j+m+1,fun N W=>?_⟩;obtain ⟨M,rfl⟩:=pR_ N;exact puA [(9,.p (.agg [num n,num q,num u,aF F,.sl false 6 E,.sl false 7 y])),(12,.p (aj false))] (pf2 (h M (by omega)) (zpY M (by omega))) (.tup [.agg zY,num 18])
 |true=>obtain ⟨v,Y,U,zci⟩:=zfk A;refine ⟨v,0,Y,.inl rfl,j+m+U+1,fun N W=>?_⟩;obtain ⟨M,rfl⟩:=pR_ N;have zci:=zci M (by omega);obtain ⟨J,L,O,P,Q,S⟩:=v;exact puA [(9,.p (.agg [num n,num q,num u,aF F,.sl false 6 E,.sl false 7 y])),(12,.p (aj true)),(16,.p (.agg (Val.mk J L O P Q S).cells))] (pf3 (h M (by omega)) (zpY M (by omega)) zci) (.tup [.agg (Val.mk J L O P Q S).cells,num 0])
end Ct
open Go.Em
def txN (l:List UInt8):qaY:=⟨l.toArray⟩
def iV (x:Int):Val:=.mk 2 x 0 ⟨#[]⟩ [] []
def lV (xs:List Int):Val:=.mk 8 0 0 ⟨#[]⟩ (xs.map iV) []
def bV (xs:List Int):Val:=.mk 9 0 0 ⟨#[]⟩ [] [(txN [108,105,110,101,115],lV xs)]
def eV (xs:List Int)(i x:Int):Val:=.mk 9 0 0 ⟨#[]⟩ [] [(txN [98,111,100,121],bV xs),(txN [105,110,100,101,120],iV i),(txN [105,116,101,109],iV x)]
def O9:List X:=[.sl false 6 [[aF (txN [110]),num 2,num 0,aF (txN [105,116,101,109]),.sl true 6 [],.sl true 5 []]]]
section
variable {x:Int} {a b:Bool} {N:Nat}
end
section
variable {N:Nat} {xs:List Int} (hx:xs.length<=200)
include hx
end
def zh1:C->List (C×C)
 |.seq a b|.cond _ a b=>zh1 a++zh1 b
 |.block _ b|.loop b=>zh1 b
 |.rf _ _ _ a b=>(a,b)::(zh1 a++zh1 b)
 |_=>[]
section
variable {N:Nat} {xs:List Int} (hx:xs.length<=200) {x:Int} {j:Nat} {outs:qaX}
end
section
variable (L outs o1:qaX) (bc:List X) (xs:List Int) (x:Int) (j:Nat) {N:Nat}
variable (hlt:decide (Int.ofNat j<Int.ofNat L.length)=true) (hlt0:decide (Int.ofNat 0<Int.ofNat L.length)=true) (he:L[j]?=some (iV x).cells) (he0:L[0]?=some (iV x).cells)
 (hr:Gam.aC (ah tab ext N) 62 [.sl false 7 [aF (txN [98,111,100,121])::(bV xs).cells,aF (txN [105,110,100,101,120])::(iV (Int.ofNat j)).cells,aF (txN [105,116,101,109])::(iV x).cells]]=some (.agg (eV xs (Int.ofNat j) x).cells))
 (hr0:Gam.aC (ah tab ext N) 62 [.sl false 7 [aF (txN [98,111,100,121])::(bV xs).cells,aF (txN [105,110,100,101,120])::(iV (Int.ofNat 0)).cells,aF (txN [105,116,101,109])::(iV x).cells]]=some (.agg (eV xs (Int.ofNat 0) x).cells))
 (hN:60<=N)
include hN
include hlt he hr in
include hlt0 he0 hr0 in
include hlt he hr in
include hlt0 he0 hr0 in
omit hN in
end
namespace Ct
noncomputable def apA:C:=((zh1 (Ht tab 38)).getD 0 (.skip,.skip)).1
noncomputable def apB:C:=((zh1 (Ht tab 38)).getD 0 (.skip,.skip)).2
noncomputable def apRec (a b c d:Nat):Bx:=.loop .ready none [(5,.ptr a 0 0),(10,.ptr b 0 0),(11,.ptr c 0 0),(12,.ptr d 0 0)] [31,32] apA apB
noncomputable def apS (ty out:List X)(full:Int)(ab:Bool):List Bx:=[apRec 1 2 3 4,.var ty,.var out,.var [num full],.var [aj ab]]
noncomputable def apI (ty out:List X)(full:Int)(ab:Bool)(fl:Int):List Bx:=[apRec 2 3 4 5,.var [.ptr 6 0 0],.var ty,.var out,.var [num full],.var [aj ab],.var [num fl]]
def okV (y:List X):Prop:=∃(a b c:Int) (s:qaY) (l f:qaX),y=eF a b c s l f/\∃H,D T H 1 y
section
variable (q1 q2 q3 q4:Int) (w e f ls:qaX) (a b c:Int) (s:qaY) (l g:qaX) (a2 b2 c2:Int) (s2:qaY) (l2 g2:qaX) (a3 b3 c3:Int) (s3:qaY) (l3 g3:qaX) (full er:Int) (N:Nat)
variable (Wj:Gam.aC (ah tab ext N) 69 [.agg (eF a b c s l g),.sl false 3 ls,.agg (eF a2 b2 c2 s2 l2 g2)]=some (.tup [.agg (eF a3 b3 c3 s3 l3 g3),num er])) (hf:(full==0)=true)
variable (hg:(full==0)=false)
include Wj hf in
theorem zs6:ah tab ext (N+1) .yl [.yl 0,.sl false 3 ls,.agg (eF a2 b2 c2 s2 l2 g2)] (apS (dK q1 q2 q3 q4 w e f) (eF a b c s l g) full true)=some (.v (.bool true),apS (dK q1 q2 q3 q4 w e f) (eF a3 b3 c3 s3 l3 g3) er true):=
 yiA [(44,.b true),(49,.p (.tup [.agg (eF a3 b3 c3 s3 l3 g3),num er]))] (pf2 hf Wj)
include hg in
theorem zta:ah tab ext (N+1) .yl [.yl 0,.sl false 3 ls,.agg (eF a2 b2 c2 s2 l2 g2)] (apS (dK q1 q2 q3 q4 w e f) (eF a b c s l g) full true)=some (.v (.bool true),apS (dK q1 q2 q3 q4 w e f) (eF a b c s l g) full true):=
 yiA [(44,.b false)] (pf1 hg)
variable (TF:Gam.aC (ah tab ext N) 67 [.agg (eF a2 b2 c2 s2 l2 g2)]=some (aj false))
include TF
include Wj hf in
theorem zs5:ah tab ext (N+1) .yl [.yl 0,.sl false 3 ls,.agg (eF a2 b2 c2 s2 l2 g2)] (apS (dK q1 q2 q3 q4 w e f) (eF a b c s l g) full false)=some (.v (.bool true),apS (dK q1 q2 q3 q4 w e f) (eF a3 b3 c3 s3 l3 g3) er false):=
 yiA [(36,.p (aj false)),(44,.b true),(49,.p (.tup [.agg (eF a3 b3 c3 s3 l3 g3),num er]))] (pf3 TF hf Wj)
include hg in
theorem zs9:ah tab ext (N+1) .yl [.yl 0,.sl false 3 ls,.agg (eF a2 b2 c2 s2 l2 g2)] (apS (dK q1 q2 q3 q4 w e f) (eF a b c s l g) full false)=some (.v (.bool true),apS (dK q1 q2 q3 q4 w e f) (eF a b c s l g) full false):=
 yiA [(36,.p (aj false)),(44,.b false)] (pf2 TF hg)
omit TF
variable (zaF:Gam.aC (ah tab ext N) 67 [.agg (eF a2 b2 c2 s2 l2 g2)]=some (aj true)) (r:Bool) (zch:Gam.aC (ah tab ext N) 68 [.agg (dK q1 q2 q3 q4 w e f),.sl false 3 ls]=some (aj r))
include zaF zch
include Wj hf in
theorem zs4:ah tab ext (N+1) .yl [.yl 0,.sl false 3 ls,.agg (eF a2 b2 c2 s2 l2 g2)] (apS (dK q1 q2 q3 q4 w e f) (eF a b c s l g) full false)=some (.v (.bool true),apS (dK q1 q2 q3 q4 w e f) (eF a3 b3 c3 s3 l3 g3) er r):=by
 cases r with
 |true=>exact yiA [(36,.p (aj true)),(40,.p (aj true)),(44,.b true),(49,.p (.tup [.agg (eF a3 b3 c3 s3 l3 g3),num er]))] (pf4 zaF zch hf Wj)
 |false=>exact yiA [(36,.p (aj true)),(40,.p (aj false)),(44,.b true),(49,.p (.tup [.agg (eF a3 b3 c3 s3 l3 g3),num er]))] (pf4 zaF zch hf Wj)
include hg in
theorem zs8:ah tab ext (N+1) .yl [.yl 0,.sl false 3 ls,.agg (eF a2 b2 c2 s2 l2 g2)] (apS (dK q1 q2 q3 q4 w e f) (eF a b c s l g) full false)=some (.v (.bool true),apS (dK q1 q2 q3 q4 w e f) (eF a b c s l g) full r):=by
 cases r with
 |true=>exact yiA [(36,.p (aj true)),(40,.p (aj true)),(44,.b false)] (pf3 zaF zch hg)
 |false=>exact yiA [(36,.p (aj true)),(40,.p (aj false)),(44,.b false)] (pf3 zaF zch hg)
end
theorem zfG {q1 q2 q3 q4:Int}{w e f:qaX}(hT:D T (H+1) 14 (dK q1 q2 q3 q4 w e f)){ls:qaX}(hl0:1<=ls.length)(hl:ls.length<=201)(hd:∀x,x∈ls->D T 1 7 x){out y:List X}(ho:okV out)(hy:okV y)(full:Int)(hfu:0<=full/\full<=100)(ab:Bool):
  ∃(out':List X) (full':Int) (ab':Bool),okV out'/\(0<=full'/\full'<=100)/\∃B,∀N,B<=N->ah tab ext N .yl [.yl 0,.sl false 3 ls,.agg y] (apS (dK q1 q2 q3 q4 w e f) out full ab)=some (.v (.bool true),apS (dK q1 q2 q3 q4 w e f) out' full' ab'):=by
 obtain ⟨a,b,c,s,l,g,rfl,H1,h1⟩:=ho;obtain ⟨m,n,q,E,A,u,rfl,H2,h2⟩:=hy;obtain ⟨P,Q,S,Y,W,U,L,h3,F,Z,Wj⟩:=zdx h1 hl0 hl hd h2;obtain ⟨nl,B2,TF⟩:=VB h2;obtain ⟨r,B3,zch⟩:=IK hT hl hd;have J:okV (eF P Q S Y W U):=⟨P,Q,S,Y,W,U,rfl,h3⟩;have ok1:okV (eF a b c s l g):=⟨a,b,c,s,l,g,rfl,H1,h1⟩;have j:∀{z:X} {bx:List Bx},(∀M,Z+B2+B3<=M->ah tab ext (M+1) .yl [.yl 0,.sl false 3 ls,.agg (eF m n q E A u)] (apS (dK q1 q2 q3 q4 w e f) (eF a b c s l g) full ab)=some (z,bx))->∃B,∀N,B<=N->ah tab ext N .yl [.yl 0,.sl false 3 ls,.agg (eF m n q E A u)] (apS (dK q1 q2 q3 q4 w e f) (eF a b c s l g) full ab)=some (z,bx):=fun {z} {bx} h=>⟨Z+B2+B3+1,fun N hN=>by obtain ⟨M,rfl⟩:=pR_ N<;>simp_all⟩;cases O:(full==0) with
 |true=>
  cases ab with
  |true=>exact ⟨_,L,true,J,F,j fun M V=>zs6 q1 q2 q3 q4 w e f ls a b c s l g m n q E A u P Q S Y W U full L M (Wj M (by omega)) O⟩
  |false=>
   cases nl with
   |false=>exact ⟨_,L,false,J,F,j fun M V=>zs5 q1 q2 q3 q4 w e f ls a b c s l g m n q E A u P Q S Y W U full L M (Wj M (by omega)) O (TF M (by omega))⟩
   |true=>exact ⟨_,L,r,J,F,j fun M V=>zs4 q1 q2 q3 q4 w e f ls a b c s l g m n q E A u P Q S Y W U full L M (Wj M (by omega)) O (TF M (by omega)) r (zch M (by omega))⟩
 |false=>
  cases ab with
  |true=>exact ⟨_,full,true,ok1,hfu,j fun M V=>zta q1 q2 q3 q4 w e f ls a b c s l g m n q E A u full M O⟩
  |false=>
   cases nl with
   |false=>exact ⟨_,full,false,ok1,hfu,j fun M V=>zs9 q1 q2 q3 q4 w e f ls a b c s l g m n q E A u full M O (TF M (by omega))⟩
   |true=>exact ⟨_,full,r,ok1,hfu,j fun M V=>zs8 q1 q2 q3 q4 w e f ls a b c s l g m n q E A u full M O (TF M (by omega)) r (zch M (by omega))⟩
section
variable (ru tg:qaX) (k1 b1 d1:Int) (s1:qaY) (l1 f1:qaX) (n j:Nat) (q1 q2 q3 q4:Int) (w e f:qaX) (k4 b4 d4:Int) (s4:qaY) (l4 f4:qaX) (k3 b3 d3:Int) (s3:qaY) (l3 f3:qaX) (full full':Int) (ab ab':Bool) (s:qaY) (o i:Int) (t:qaY) (vs es ls:qaX) (a b c:Int) (s2:qaY) (l g:qaX) (er:Int) (N:Nat)
def zqY:List (Nat×X):=[(0,.yl 0),(2,.dp (eF k1 b1 d1 s1 l1 f1)),(3,.ptr 1 0 0),(5,.sl false 1 tg),(13,.sl false 6 ru),(14,nat n),(15,nat j)]
noncomputable def itH:St:=⟨zqY ru tg k1 b1 d1 s1 l1 f1 n j,apI (dK q1 q2 q3 q4 w e f) (eF k4 b4 d4 s4 l4 f4) full ab 0⟩
noncomputable def itN:St:=⟨zqY ru tg k1 b1 d1 s1 l1 f1 n (j+1),apI (dK q1 q2 q3 q4 w e f) (eF k4 b4 d4 s4 l4 f4) full ab 0++[.var (fQ s o i t vs es),.var (eF a b c s2 l g)]⟩
noncomputable def itE:St:=⟨zqY ru tg k1 b1 d1 s1 l1 f1 n j++[(16,aj false)],apI (dK q1 q2 q3 q4 w e f) (eF k4 b4 d4 s4 l4 f4) full ab 0⟩
noncomputable def itF:St:=⟨[],apI (dK q1 q2 q3 q4 w e f) (eF k4 b4 d4 s4 l4 f4) full ab er++[.var (fQ s o i t vs es),.var (eF a b c s2 l g)]⟩
theorem Jf:canon 7 (itH ru tg k1 b1 d1 s1 l1 f1 n j q1 q2 q3 q4 w e f k4 b4 d4 s4 l4 f4 full ab)=some (itH ru tg k1 b1 d1 s1 l1 f1 n j q1 q2 q3 q4 w e f k4 b4 d4 s4 l4 f4 full ab):=by kernel_rfl
theorem CZ:canon 7 (itN ru tg k1 b1 d1 s1 l1 f1 n j q1 q2 q3 q4 w e f k4 b4 d4 s4 l4 f4 full ab s o i t vs es a b c s2 l g)=some (itH ru tg k1 b1 d1 s1 l1 f1 n (j+1) q1 q2 q3 q4 w e f k4 b4 d4 s4 l4 f4 full ab):=by kernel_rfl
theorem ZU (h:¬j<n):run (ah tab ext N) 7 N (aH 95 0) (itH ru tg k1 b1 d1 s1 l1 f1 n j q1 q2 q3 q4 w e f k4 b4 d4 s4 l4 f4 full ab)=some (.exit 0,itE ru tg k1 b1 d1 s1 l1 f1 n j q1 q2 q3 q4 w e f k4 b4 d4 s4 l4 f4 full ab):=
 ruA [(16,.b false)] (pf1 (aN h))
variable (hj:j<n) (hi:ru[j]?=some (fQ s o i t vs es))
include hj hi
theorem ziW (zgB:Gam.aC (ah tab ext N) 87 [.agg (jw o i t vs es),.agg (eF k1 b1 d1 s1 l1 f1)]=some (.tup [.agg (eF a b c s2 l g),num er]))(he:(er !=0)=true):run (ah tab ext N) 7 N (aH 95 0) (itH ru tg k1 b1 d1 s1 l1 f1 n j q1 q2 q3 q4 w e f k4 b4 d4 s4 l4 f4 full ab)=some (.ret,itF q1 q2 q3 q4 w e f k4 b4 d4 s4 l4 f4 full ab s o i t vs es a b c s2 l g er):=
 ruA [(16,.b true),(18,.e (fQ s o i t vs es)),(24,.p (.tup [.agg (eF a b c s2 l g),num er])),(28,.b true)] (pf4 (aK hj) hi zgB he)
theorem Pq (hn:n<=1000)(zgB:Gam.aC (ah tab ext N) 87 [.agg (jw o i t vs es),.agg (eF k1 b1 d1 s1 l1 f1)]=some (.tup [.agg (eF a b c s2 l g),num 0]))(htg:tg[j]?=some [.sl false 3 ls])
  (hy:ah tab ext N .yl [.yl 0,.sl false 3 ls,.agg (eF a b c s2 l g)] (apS (dK q1 q2 q3 q4 w e f) (eF k4 b4 d4 s4 l4 f4) full ab)=some (.v (.bool true),apS (dK q1 q2 q3 q4 w e f) (eF k3 b3 d3 s3 l3 f3) full' ab')):
  run (ah tab ext N) 7 N (aH 95 0) (itH ru tg k1 b1 d1 s1 l1 f1 n j q1 q2 q3 q4 w e f k4 b4 d4 s4 l4 f4 full ab)=some (.norm,itN ru tg k1 b1 d1 s1 l1 f1 n j q1 q2 q3 q4 w e f k3 b3 d3 s3 l3 f3 full' ab' s o i t vs es a b c s2 l g):=
 ruA [(16,.b true),(18,.e (fQ s o i t vs es)),(24,.p (.tup [.agg (eF a b c s2 l g),num 0])),(35,.e [.sl false 3 ls]),(38,.r (.v (.bool true)) (apS (dK q1 q2 q3 q4 w e f) (eF k3 b3 d3 s3 l3 f3) full' ab')),(40,.i (Int.ofNat (j+1)))] (pf6 (aK hj) hi zgB htg hy (aB (j:=j) (by omega)))
end
structure zlZ (ru:qaX) (x0:List X) (ev:Nat->List X×Int) (B:Nat):Prop where
 all:∀j,j<ru.length->∀s o i t vs es,ru[j]?=some (fQ s o i t vs es)->okV (ev j).1/\(0<=(ev j).2/\(ev j).2<=100)/\∀N,B<=N->Gam.aC (ah tab ext N) 87 [.agg (jw o i t vs es),.agg x0]=some (.tup [.agg (ev j).1,num (ev j).2])
def Xn:List X:=eF 9 0 0 ⟨#[]⟩ [] []
theorem zgX:okV Xn:=⟨9,0,0,⟨#[]⟩,[],[],rfl,1,dJ (by decide) (qaa.2 rfl) ⟨⟨rfl,(fun a e=>by cases e),(fun a e=>by cases e)⟩,⟨rfl,(fun a e=>by cases e),(fun a e=>by cases e)⟩,⟨rfl,(fun a e=>by cases e),(fun a e=>by cases e)⟩,⟨by decide,by decide⟩,⟨rfl,by decide,by decide,fun e f=>by grind⟩,⟨rfl,by decide,by decide,fun e f=>by grind⟩,trivial⟩⟩
theorem ZR (ru:qaX)(pr:Nat->qaX×Int)(B0:Nat)(h:Rules ru pr B0)(hok:∀j,j<ru.length->(pr j).2=0)(k1 b1 d1:Int)(s1:qaY)(l1 f1:qaX)(ev:Nat->List X×Int)(Be:Nat)(he:zlZ ru (eF k1 b1 d1 s1 l1 f1) ev Be){q1 q2 q3 q4:Int}{w e f:qaX}(hT:D T (H+1) 14 (dK q1 q2 q3 q4 w e f)):
  ∃(out:List X) (full:Int) (ab:Bool) (fl:Int),okV out/\(0<=full/\full<=100)/\(0<=fl/\fl<=100)/\∃B,∀N,B<=N->ah tab ext N (.fn 95) [.yl 0,.dp [.sl false 6 ru],.dp (eF k1 b1 d1 s1 l1 f1),.ptr 1 0 0] (apI (dK q1 q2 q3 q4 w e f) Xn 0 false 0)=some (.tup [],apI (dK q1 q2 q3 q4 w e f) out full ab fl):=by
 have hl:=h.len;obtain ⟨Z,σ',B,hQ,m⟩:=jI (nIn:=7) (b:=aH 95 0) (H:=fun p:Nat×(Int×Int×Int×qaY×qaX×qaX)×Int×Bool=>itH ru (tgts pr ru.length) k1 b1 d1 s1 l1 f1 ru.length p.1 q1 q2 q3 q4 w e f p.2.1.1 p.2.1.2.1 p.2.1.2.2.1 p.2.1.2.2.2.1 p.2.1.2.2.2.2.1 p.2.1.2.2.2.2.2 p.2.2.1 p.2.2.2)
  (I:=fun p=>p.1<=ru.length/\okV (eF p.2.1.1 p.2.1.2.1 p.2.1.2.2.1 p.2.1.2.2.2.1 p.2.1.2.2.2.2.1 p.2.1.2.2.2.2.2)/\0<=p.2.2.1/\p.2.2.1<=100) (μ:=fun p=>ru.length-p.1)
  (Q:=fun Z σ'=>(∃(k4 b4 d4:Int) (s4:qaY) (l4 f4:qaX) (full:Int) (ab:Bool) (s:qaY) (o i:Int) (t:qaY) (vs es:qaX) (a b c:Int) (s2:qaY) (l g:qaX) (er:Int),Z=.ret/\σ'=itF q1 q2 q3 q4 w e f k4 b4 d4 s4 l4 f4 full ab s o i t vs es a b c s2 l g er/\okV (eF k4 b4 d4 s4 l4 f4)/\(0<=full/\full<=100)/\0<=er/\er<=100)\/
   (∃(k4 b4 d4:Int) (s4:qaY) (l4 f4:qaX) (full:Int) (ab:Bool),Z=.exit 0/\σ'=itE ru (tgts pr ru.length) k1 b1 d1 s1 l1 f1 ru.length ru.length q1 q2 q3 q4 w e f k4 b4 d4 s4 l4 f4 full ab/\okV (eF k4 b4 d4 s4 l4 f4)/\0<=full/\full<=100)) (fun p hp=>by
   obtain ⟨j,⟨k4,b4,d4,s4,l4,f4⟩,full,ab⟩:=p;obtain ⟨i1,O,P,S⟩:=hp;dsimp only at i1 O P S ⊢;by_cases J:j<ru.length
   ·obtain ⟨s,o,i,t,vs,es,hi,_,_,hP,_⟩:=h.rule j J;obtain ⟨⟨a,b,c,s2,l,g,hv,hD⟩,A,E⟩:=he.all j J s o i t vs es hi;have W:=hok j J;generalize hq:pr j=q at hP W;generalize ev j=y at hv hD A E;obtain ⟨y,er⟩:=y;dsimp only at hv hD A E;subst hv;obtain ⟨ls,pe⟩:=q;dsimp only at W;subst W;rcases hP with ⟨⟨c1,_⟩,_⟩|⟨_,⟨n1,n2⟩,n3⟩
    ·grind
    dsimp only at n1 n2 n3;cases hz:(er !=0) with
    |true=>exact .inr ⟨_,_,Be,(by grind),.inl ⟨k4,b4,d4,s4,l4,f4,full,ab,s,o,i,t,vs,es,a,b,c,s2,l,g,er,rfl,rfl,O,⟨P,S⟩,A⟩,fun M hM=>ziW ru (tgts pr ru.length) k1 b1 d1 s1 l1 f1 ru.length j q1 q2 q3 q4 w e f k4 b4 d4 s4 l4 f4 full ab s o i t vs es a b c s2 l g er M J hi (E M hM) hz⟩
    |false=>
     have Y:er=0:=by simpa using hz
     subst Y;obtain ⟨pf,u,L,⟨k3,U,V,s3,l3,f3,pb,pa⟩,pd,By,hy⟩:=zfG hT n1 n2 (IV n3) O (⟨a,b,c,s2,l,g,rfl,hD⟩:okV (eF a b c s2 l g)) full ⟨P,S⟩ ab;subst pb;have pc:(tgts pr ru.length)[j]?=some [.sl false 3 ls]:=by rw [zcU pr J,hq]
     exact .inl ⟨_,(j+1,(k3,U,V,s3,l3,f3),u,L),Be+By,fun M hM=>Pq ru (tgts pr ru.length) k1 b1 d1 s1 l1 f1 ru.length j q1 q2 q3 q4 w e f k4 b4 d4 s4 l4 f4 k3 U V s3 l3 f3 full u ab L s o i t vs es ls a b c s2 l g M J hi (by omega) (E M (by omega)) pc (hy M (by omega)),CZ ..,⟨by grind,⟨k3,U,V,s3,l3,f3,rfl,pa⟩,pd⟩,by grind⟩
   obtain rfl:j=ru.length:=by omega
   exact .inr ⟨_,_,0,(by grind),.inr ⟨k4,b4,d4,s4,l4,f4,full,ab,rfl,rfl,O,P,S⟩,fun M _=>ZU ru (tgts pr ru.length) k1 b1 d1 s1 l1 f1 ru.length ru.length q1 q2 q3 q4 w e f k4 b4 d4 s4 l4 f4 full ab M J⟩)
  (a:=(0,(9,0,0,⟨#[]⟩,[],[]),0,false)) ⟨Nat.zero_le _,zgX,by decide,by decide⟩ (Jf ..)
 have ht:=fun N hN=>KJ ru pr B0 h N hN;generalize tgts pr ru.length=tg at ht m hQ;rcases hQ with ⟨k4,b4,d4,s4,l4,f4,full,ab,s,o,i,t,vs,es,a,b,c,s2,l,g,er,rfl,rfl,ho,F,A⟩|⟨k4,b4,d4,s4,l4,f4,full,ab,rfl,rfl,ho,F⟩
 ·refine ⟨_,full,ab,er,ho,F,A,B0+B+21,fun N hN=>?_⟩;obtain ⟨M,rfl⟩:=pR_ N;exact caB [(11,.p (.sl false 1 tg))] [(.ret,itF q1 q2 q3 q4 w e f k4 b4 d4 s4 l4 f4 full ab s o i t vs es a b c s2 l g er)] (pf2 (ht M (by omega)) (m M (by omega)))
 refine ⟨_,full,ab,0,ho,F,by decide,B0+B+21,fun N hN=>?_⟩;obtain ⟨M,rfl⟩:=pR_ N;have m:=m M (by omega);generalize ru.length=n at m;exact caB [(11,.p (.sl false 1 tg))] [(.exit 0,itE ru tg k1 b1 d1 s1 l1 f1 n n q1 q2 q3 q4 w e f k4 b4 d4 s4 l4 f4 full ab)] (pf2 (ht M (by omega)) m)
end Ct
namespace Ct
section
variable (ru:qaX) (k1 b1 d1:Int) (s1:qaY) (l1 f1:qaX) (q1 q2 q3 q4:Int) (w e f:qaX) (k4 b4 d4:Int) (s4:qaY) (l4 f4:qaX) (full fl:Int) (ab:Bool) (N:Nat)
def zuD:List (Nat×X):=[(5,.ptr 2 0 0),(6,.ptr 3 0 0),(9,.ptr 4 0 0),(10,.ptr 5 0 0),(11,.ptr 6 0 0),(12,.ptr 7 0 0),(30,.fn 95 [.dp [.sl false 6 ru],.dp (eF k1 b1 d1 s1 l1 f1),.ptr 8 0 0])]
def zsZ (out:List X)(full:Int)(ab:Bool)(fl:Int):List Bx:=[.var [.sl false 6 ru],.var (eF k1 b1 d1 s1 l1 f1),.var (dK q1 q2 q3 q4 w e f),.var zY,.var [num fl],.var out,.var [num full],.var [aj ab],.var [.ptr 4 0 0]]
def arS:St:=⟨zuD ru k1 b1 d1 s1 l1 f1,zsZ ru k1 b1 d1 s1 l1 f1 q1 q2 q3 q4 w e f Xn 0 false 0⟩
def arF:St:=⟨zuD ru k1 b1 d1 s1 l1 f1,zsZ ru k1 b1 d1 s1 l1 f1 q1 q2 q3 q4 w e f (eF k4 b4 d4 s4 l4 f4) full ab fl++[.dead]⟩
theorem zs7 (hy:ah tab ext N (.fn 95) [.yl 0,.dp [.sl false 6 ru],.dp (eF k1 b1 d1 s1 l1 f1),.ptr 1 0 0] (apI (dK q1 q2 q3 q4 w e f) Xn 0 false 0)=some (.tup [],apI (dK q1 q2 q3 q4 w e f) (eF k4 b4 d4 s4 l4 f4) full ab fl)):
  run (ah tab ext N) 0 N (.rf (.t 30) [31,32] [5,10,11,12] apA apB) (arS ru k1 b1 d1 s1 l1 f1 q1 q2 q3 q4 w e f)=some (.norm,arF ru k1 b1 d1 s1 l1 f1 q1 q2 q3 q4 w e f k4 b4 d4 s4 l4 f4 full fl ab):=
 Vk (g:=95) (caps:=[.dp [.sl false 6 ru],.dp (eF k1 b1 d1 s1 l1 f1),.ptr 8 0 0]) (y:=.tup []) (outb:=apI (dK q1 q2 q3 q4 w e f) (eF k4 b4 d4 s4 l4 f4) full ab fl)
  (q:=(.tup [],zsZ ru k1 b1 d1 s1 l1 f1 q1 q2 q3 q4 w e f (eF k4 b4 d4 s4 l4 f4) full ab fl++[apRec 2 5 6 7],[9,8,2,5,6,7,4])) hy (by kernel_rfl) (by kernel_rfl) (by kernel_rfl)
variable (c:Int)
theorem zlJ (TD:Gam.aC (ah tab ext N) 65 [.agg [.sl false 6 ru]]=some (num c))(hc:(c !=0)=true):Gam.aC (ah tab ext (N+1)) 38 [.agg [.sl false 6 ru],.agg (eF k1 b1 d1 s1 l1 f1),.agg (dK q1 q2 q3 q4 w e f)]=some (.tup [.agg vZ.cells,num c]):=
 puA [(18,.p (num c)),(20,.b true)] (pf2 TD hc) (.tup [.agg zY,num c])
variable (TD:Gam.aC (ah tab ext (N+20)) 65 [.agg [.sl false 6 ru]]=some (num 0))
include TD
theorem zlG (hk:(k1 !=9)=true):Gam.aC (ah tab ext (N+21)) 38 [.agg [.sl false 6 ru],.agg (eF k1 b1 d1 s1 l1 f1),.agg (dK q1 q2 q3 q4 w e f)]=some (.tup [.agg vZ.cells,num 11]):=
 puA [(18,.p (num 0)),(25,.b true)] (pf2 TD hk) (.tup [.agg zY,num 11])
variable (hk:(k1 !=9)=false) (zaG:Gam.aC (ah tab ext (N+20)) 62 [.sl false 7 []]=some (.agg Xn)) (hrf:run (ah tab ext (N+20)) 0 (N+20) (.rf (.t 30) [31,32] [5,10,11,12] apA apB) (arS ru k1 b1 d1 s1 l1 f1 q1 q2 q3 q4 w e f)=some (.norm,arF ru k1 b1 d1 s1 l1 f1 q1 q2 q3 q4 w e f k4 b4 d4 s4 l4 f4 full fl ab))
include hk zaG hrf
theorem zbU (hf:(fl !=0)=true):Gam.aC (ah tab ext (N+21)) 38 [.agg [.sl false 6 ru],.agg (eF k1 b1 d1 s1 l1 f1),.agg (dK q1 q2 q3 q4 w e f)]=some (.tup [.agg vZ.cells,num fl]):=
 puB [(18,.p (num 0)),(25,.b false),(27,.p (.agg Xn)),(54,.b true)] [(.norm,arF ru k1 b1 d1 s1 l1 f1 q1 q2 q3 q4 w e f k4 b4 d4 s4 l4 f4 full fl ab)] (pf5 TD hk zaG hrf hf) (.tup [.agg zY,num fl])
variable (hf:(fl !=0)=false)
include hf
theorem zlI (hg:(full !=0)=true):Gam.aC (ah tab ext (N+21)) 38 [.agg [.sl false 6 ru],.agg (eF k1 b1 d1 s1 l1 f1),.agg (dK q1 q2 q3 q4 w e f)]=some (.tup [.agg vZ.cells,num full]):=
 puB [(18,.p (num 0)),(25,.b false),(27,.p (.agg Xn)),(54,.b false),(59,.b true)] [(.norm,arF ru k1 b1 d1 s1 l1 f1 q1 q2 q3 q4 w e f k4 b4 d4 s4 l4 f4 full fl ab)] (pf6 TD hk zaG hrf hf hg) (.tup [.agg zY,num full])
variable (hg:(full !=0)=false)
include hg
theorem zbV (ha:ab=true):Gam.aC (ah tab ext (N+21)) 38 [.agg [.sl false 6 ru],.agg (eF k1 b1 d1 s1 l1 f1),.agg (dK q1 q2 q3 q4 w e f)]=some (.tup [.agg vZ.cells,num 19]):=by subst ha;exact puB [(18,.p (num 0)),(25,.b false),(27,.p (.agg Xn)),(54,.b false),(59,.b false)] [(.norm,arF ru k1 b1 d1 s1 l1 f1 q1 q2 q3 q4 w e f k4 b4 d4 s4 l4 f4 full fl true)] (pf6 TD hk zaG hrf hf hg) (.tup [.agg zY,num 19])
variable (ha:ab=false) (v:Val)
include ha
theorem zlF (zeT:Gam.aC (ah tab ext (N+20)) 70 [.agg (dK q1 q2 q3 q4 w e f),.agg (eF k4 b4 d4 s4 l4 f4)]=some (.tup [.agg v.cells,num 18])):Gam.aC (ah tab ext (N+21)) 38 [.agg [.sl false 6 ru],.agg (eF k1 b1 d1 s1 l1 f1),.agg (dK q1 q2 q3 q4 w e f)]=some (.tup [.agg vZ.cells,num 18]):=by subst ha;obtain ⟨a,h,j,l,m,n⟩:=v;exact puB [(18,.p (num 0)),(25,.b false),(27,.p (.agg Xn)),(54,.b false),(59,.b false),(68,.p (.tup [.agg (Val.mk a h j l m n).cells,num 18]))] [(.norm,arF ru k1 b1 d1 s1 l1 f1 q1 q2 q3 q4 w e f k4 b4 d4 s4 l4 f4 full fl false)] (pf7 TD hk zaG hrf hf hg zeT) (.tup [.agg zY,num 18])
variable (zeT:Gam.aC (ah tab ext (N+20)) 70 [.agg (dK q1 q2 q3 q4 w e f),.agg (eF k4 b4 d4 s4 l4 f4)]=some (.tup [.agg v.cells,num 0])) (zmo:Gam.aC (ah tab ext (N+20)) 71 [.agg v.cells]=some (num c))
include zeT zmo
theorem zoX (hc:(c !=0)=true):Gam.aC (ah tab ext (N+21)) 38 [.agg [.sl false 6 ru],.agg (eF k1 b1 d1 s1 l1 f1),.agg (dK q1 q2 q3 q4 w e f)]=some (.tup [.agg vZ.cells,num c]):=by subst ha;obtain ⟨a,h,j,l,m,n⟩:=v;exact puB [(18,.p (num 0)),(25,.b false),(27,.p (.agg Xn)),(54,.b false),(59,.b false),(68,.p (.tup [.agg (Val.mk a h j l m n).cells,num 0])),(76,.p (num c)),(78,.b true)] [(.norm,arF ru k1 b1 d1 s1 l1 f1 q1 q2 q3 q4 w e f k4 b4 d4 s4 l4 f4 full fl false)] (pf9 TD hk zaG hrf hf hg zeT zmo hc) (.tup [.agg zY,num c])
theorem zlH (hc:(c !=0)=false):Gam.aC (ah tab ext (N+21)) 38 [.agg [.sl false 6 ru],.agg (eF k1 b1 d1 s1 l1 f1),.agg (dK q1 q2 q3 q4 w e f)]=some (.tup [.agg v.cells,num 0]):=by subst ha;obtain ⟨a,h,j,l,m,n⟩:=v;exact puB [(18,.p (num 0)),(25,.b false),(27,.p (.agg Xn)),(54,.b false),(59,.b false),(68,.p (.tup [.agg (Val.mk a h j l m n).cells,num 0])),(76,.p (num c)),(78,.b false)] [(.norm,arF ru k1 b1 d1 s1 l1 f1 q1 q2 q3 q4 w e f k4 b4 d4 s4 l4 f4 full fl false)] (pf9 TD hk zaG hrf hf hg zeT zmo hc) (.tup [.agg (Val.mk a h j l m n).cells,num 0])
end
theorem Xj (ru:qaX)(pr:Nat->qaX×Int)(B0:Nat)(h:Rules ru pr B0)(k1 b1 d1:Int)(s1:qaY)(l1 f1:qaX)(ev:Nat->List X×Int)(Be:Nat)(he:zlZ ru (eF k1 b1 d1 s1 l1 f1) ev Be){q1 q2 q3 q4:Int}{w e f:qaX}(hT:D T 8 14 (dK q1 q2 q3 q4 w e f)):
  ∃(v:Val) (x:Int),v.wide/\(0<=x/\x<=100)/\∃B,∀N,B<=N->Gam.aC (ah tab ext N) 38 [.agg [.sl false 6 ru],.agg (eF k1 b1 d1 s1 l1 f1),.agg (dK q1 q2 q3 q4 w e f)]=some (.tup [.agg v.cells,num x]):=by
 obtain ⟨c,hc,m,j,W⟩:=za0 ru pr B0 h;cases pc:(c !=0) with
 |true=>
  refine ⟨vZ,c,qG,hc,j+1,fun N l=>?_⟩;obtain ⟨M,rfl⟩:=pR_ N
  grind[zlJ]
 |false=>
  obtain rfl:c=0:=by grind
  have m:=m rfl;cases hk:(k1 !=9) with
  |true=>
   refine ⟨vZ,11,qG,by decide,j+21,fun N l=>?_⟩;obtain ⟨M,rfl⟩:∃M,N=M+21:=⟨N-21,by omega⟩
   grind[zlG]
  |false=>
   obtain ⟨out,a,E,A,⟨Q,J,O,U,S,P,rfl,Ho,hD⟩,pb,pa,y,hit⟩:=ZR ru pr B0 h m k1 b1 d1 s1 l1 f1 ev Be he (H:=7) hT;have q:∀M,Gam.aC (ah tab ext (M+61)) 62 [.sl false 7 []]=some (.agg Xn):=fun M=>aZ (Y0 M) rfl;have n:=fun M hM=>zs7 ru k1 b1 d1 s1 l1 f1 q1 q2 q3 q4 w e f Q J O U S P a A E M (hit M hM);cases hf:(A !=0) with
   |true=>
    refine ⟨vZ,A,qG,pa,j+y+82,fun N l=>?_⟩;obtain ⟨M,rfl⟩:∃M,N=M+62:=⟨N-62,by omega⟩
    grind[zbU]
   |false=>
    cases hg:(a !=0) with
    |true=>
     refine ⟨vZ,a,qG,pb,j+y+82,fun N l=>?_⟩;obtain ⟨M,rfl⟩:∃M,N=M+62:=⟨N-62,by omega⟩
     grind[zlI]
    |false=>
     cases Y:E with
     |true=>
      refine ⟨vZ,19,qG,by decide,j+y+82,fun N l=>?_⟩;obtain ⟨M,rfl⟩:∃M,N=M+62:=⟨N-62,by omega⟩
      grind[zbV]
     |false=>
      obtain ⟨v,x,hw,hx,V,u⟩:=EM hT hD;rcases hx with rfl|rfl
      ·obtain ⟨L,Z,F⟩:=Fg v hw;cases hz:(L !=0) with
       |true=>refine ⟨vZ,L,qG,Z,j+y+V+60025+v.size+82,fun N l=>?_⟩;obtain ⟨M,rfl⟩:∃M,N=M+62:=⟨N-62,by omega⟩;exact zoX ru k1 b1 d1 s1 l1 f1 q1 q2 q3 q4 w e f Q J O U S P a A E (M+41) L (W _ (by omega)) hk (q M) (n _ (by omega)) hf hg Y v (u _ (by omega)) (F _ (by omega)) hz
       |false=>refine ⟨v,0,hw,by decide,j+y+V+60025+v.size+82,fun N l=>?_⟩;obtain ⟨M,rfl⟩:∃M,N=M+62:=⟨N-62,by omega⟩;exact zlH ru k1 b1 d1 s1 l1 f1 q1 q2 q3 q4 w e f Q J O U S P a A E (M+41) L (W _ (by omega)) hk (q M) (n _ (by omega)) hf hg Y v (u _ (by omega)) (F _ (by omega)) hz
      refine ⟨vZ,18,qG,by decide,j+y+V+82,fun N l=>?_⟩;obtain ⟨M,rfl⟩:∃M,N=M+62:=⟨N-62,by omega⟩;exact zlF ru k1 b1 d1 s1 l1 f1 q1 q2 q3 q4 w e f Q J O U S P a A E (M+41) (W _ (by omega)) hk (q M) (n _ (by omega)) hf hg Y v (u _ (by omega))
end Ct
theorem JQ:∀(n N:Nat) (v w:Val),v.size<=n->3*n+12<=N->v.wide->Gam.aC (ah tab ext N) 79 [.agg v.cells,.agg w.cells]=some (num (qx v w))
 |0,_,.mk ..,_,h,_,_=>by grind[Val.size]
 |n+1,N,.mk k i s t l f,.mk k' i' s' t' l' f',h,hN,hs=>by
  obtain ⟨M,rfl⟩:∃M,N=M+12:=⟨N-12,by omega⟩;simp only [Val.size] at h;simp only [Val.wide] at hs;obtain ⟨⟨hl0,hf0⟩,hwl,hwf⟩:=hs;have hl:=gY l;have hf:=fK f;have h1:Gam.aC (ah tab ext (M+11)) 110 [.sl false 6 (au l),.sl false 6 (au l'),.fn 79 []]=some (num (jJ qx l l')):=
   DY (M+10) 79 l l' qx (fun a b ha _=>by have:=nP ha;exact JQ n (M+10) a b (by omega) (by omega) (uX hwl ha)) (by omega) (by omega)
  have h2:Gam.aC (ah tab ext (M+11)) 111 [.sl false 7 (aA f),.sl false 7 (aA f'),.fn 112 []]=some (num (jJ TV f f')):=
   DW (M+10) 112 f f' TV (fun a b ha _=>by have:=nR ha;have hv:=JQ n (M+9) a.2 b.2 (by omega) (by omega) (uY hwf ha);obtain ⟨a0,a1,a2,a3,a4,a5,a6⟩:=a;obtain ⟨b0,b1,b2,b3,b4,b5,b6⟩:=b;have ho:=Cb (M+8) [DV a0 b0,qx (Val.mk a1 a2 a3 a4 a5 a6) (Val.mk b1 b2 b3 b4 b5 b6)] (by simp) (by simp);exact puA [(9,.p (num (DV a0 b0))),(14,.p (num (qx (Val.mk a1 a2 a3 a4 a5 a6) (Val.mk b1 b2 b3 b4 b5 b6)))),(16,.p (num (orL [DV a0 b0,qx (Val.mk a1 a2 a3 a4 a5 a6) (Val.mk b1 b2 b3 b4 b5 b6)])))] (pf3 (JR (M+6) a0 b0) hv ho) (num (orL [DV a0 b0,qx (Val.mk a1 a2 a3 a4 a5 a6) (Val.mk b1 b2 b3 b4 b5 b6)]))) (by omega) (by omega)
  have ho:=Cb (M+10) [oq k k',oq i i',oq s s',DV t t',jJ qx l l',jJ TV f f'] (by simp) (by simp);rw [qx,JU,JV];exact puA [(9,.p (num (oq k k'))),(14,.p (num (oq i i'))),(19,.p (num (oq s s'))),(24,.p (num (DV t t'))),(29,.p (num (jJ qx l l'))),(34,.p (num (jJ TV f f'))),(36,.p (num (orL [oq k k',oq i i',oq s s',DV t t',jJ qx l l',jJ TV f f'])))] (pf7 (rW (M+7) k k') (rW (M+7) i i') (rW (M+7) s s') (JR (M+8) t t') h1 h2 ho) (num (orL [oq k k',oq i i',oq s s',DV t t',jJ qx l l',jJ TV f f']))
theorem zkW (N:Nat)(v w:Val)(h:3*v.size+13<=N)(hs:v.wide):Gam.aC (ah tab ext N) 56 [.agg v.cells,.agg w.cells]=some (aj (qx v w==0)):=by obtain ⟨M,rfl⟩:=pR_ N;have y:=JQ v.size M v w (Nat.le_refl _) (by omega) hs;obtain ⟨k,i,s,t,l,f⟩:=v;obtain ⟨m,j,q,u,n,a⟩:=w;exact puA [(7,.p (num (qx (Val.mk k i s t l f) (Val.mk m j q u n a))))] (pf1 y) (aj (qx (Val.mk k i s t l f) (Val.mk m j q u n a)==0))
theorem YZ (N:Nat)(v:Val)(h:3*v.size+13<=N)(hs:v.wide):Gam.aC (ah tab ext N) 56 [.agg v.cells,.agg v.cells]=some (aj true):=by grind[zkW,wX]
theorem yK:∀(N:Nat) (v:Val),v.size<N->v.wide->Gam.aC (ah tab ext N) 46 [.agg v.cells]=some (.agg v.cells)
 |0,_,h,_=>by omega
 |M+1,.mk k i s t l f,h,hs=>by
  simp only [Val.size] at h;simp only [Val.wide] at hs;obtain ⟨⟨hl0,hf0⟩,hwl,hwf⟩:=hs;have hl:=gY l;have hf:=fK f;have el:=aS l;have ef:=bg f;have h1:run (ah tab ext M) 0 M (.loop (aH 46 0)) (clH k i s t (au l) (aA f) [] (au l).length 0)=some (.exit 0,clE k i s t (au l) (aA f) (au l) (au l).length (au l).length):=by
   refine bF (σ:=fun j=>clH k i s t (au l) (aA f) ((au l).take j) (au l).length j) (k:=(au l).length) (JW _ _ _ _ _ _ _ _ _) (fun j hj=>?_) ?_ (by simp) (by omega)
   ·have hj':j<l.length:=by omega
    have hg:=gB hj';have hm:=nP (qag hj');have hc:=yK M l[j] (by omega) (uX hwl (qag hj'));have hacc:j=((au l).take j).length:=by rw [qah];omega
    rw [show (au l).take (j+1)=(au l).take j++[l[j].cells] from (dL hg).symm];generalize l[j]=u at hc hg ⊢;obtain ⟨a1,a2,a3,a4,l',f'⟩:=u;refine ⟨_,TW M k i s t _ _ _ _ j (.mk a1 a2 a3 a4 l' f') a1 a2 a3 a4 false false (au l') (aA f') hc hg (by omega) (by omega) hacc,?_⟩<;>grind[D7]
   ·grind[zbC]
  have h2:run (ah tab ext M) 0 M (.loop (aH 46 1)) ⟨[(2,.ptr 1 0 0),(3,.ptr 2 0 0),(27,.sl false 7 (aA f)),(28,nat (aA f).length),(29,nat 0)],[.var [num k,num i,num s,aF t,.sl false 6 (au l),.sl false 7 (aA f)],.var zY,.var [num k,num i,num s,aF t,.bs 3 0 (au l).length,.bs 4 0 0],.row 6 (au l),.row 7 []]⟩=some (.exit 2,cfE k i s t (aA f) (au l) (aA f) (aA f).length (aA f).length (au l).length):=by
   refine bF (σ:=fun j=>cfH k i s t (aA f) (au l) ((aA f).take j) (aA f).length j (au l).length) (k:=(aA f).length) (by kernel_rfl) (fun j hj=>?_) ?_ (by simp) (by omega)
   ·have hj':j<f.length:=by omega
    have hg:=iF hj';have hm:=nR (qag hj');have hc:=yK M f[j].2 (by omega) (uY hwf (qag hj'));have hacc:j=((aA f).take j).length:=by rw [qah];omega
    rw [show (aA f).take (j+1)=(aA f).take j++[aF f[j].1::f[j].2.cells] from (dL hg).symm];generalize f[j]=u at hc hg ⊢;obtain ⟨nm,a1,a2,a3,a4,l',f'⟩:=u;refine ⟨_,Ub M k i s t _ _ _ _ j _ (.mk a1 a2 a3 a4 l' f') nm a1 a2 a3 a4 false false (au l') (aA f') hc hg (by omega) (by omega) hacc,?_⟩<;>grind[Ec]
   ·grind[zbE]
  have h3:(X.agg [num k,num i,num s,aF t,.bs 0 0 (au l).length,.bs 1 0 (aA f).length]).data [.row 6 (au l),.row 7 (aA f)] false=some (.agg (Val.mk k i s t l f).cells):=by simp [X.data,eG,rowOf,Val.cells,num,aF]
  exact eU [] [(.exit 0,clE k i s t (au l) (aA f) (au l) (au l).length (au l).length),(.exit 2,cfE k i s t (aA f) (au l) (aA f) (aA f).length (aA f).length (au l).length)]
   (pf2 h1 h2) (bx:=[.row 6 (au l),.row 7 (aA f)]) (by kernel_rfl) h3
structure Msg.okW (m:Msg):Prop where
 st:m.st.ok
 orig:m.orig.length<=60000
 body:m.body.wide
theorem Msg.ok.w {m:Msg}(h:m.ok):m.okW:=⟨h.st,h.orig,E8 h.body⟩
theorem Zx (N:Nat)(m:Msg)(h:m.okW)(hN:190001+3*m.body.size<=N):Gam.aC (ah tab ext N) 29 [.agg m.cells,.agg m.cells]=some (aj true):=by obtain ⟨M,rfl⟩:=pR_ N;have f:=vH M m.st h.st (by omega);have j:=MP M m.orig h.orig (by omega);have l:=YZ M m.body (by omega) h.body;clear hN h;obtain ⟨⟨q,u⟩,a,y,A,B,E,F,H,n⟩:=m;exact puA [(9,.p (aj true)),(15,.b true),(22,.p (aj true)),(29,.p (aj true))] (pf4 f (eq_self a) j l) (aj true)
theorem XC (N:Nat)(m:Msg)(h:m.ok)(v:Val)(hv:v.wide)(hN:190010+v.size<=N):Gam.aC (ah tab ext N) 75 [.agg m.cells,.agg v.cells]=some (.agg ({m with body:=v}:Msg).cells):=by obtain ⟨M,rfl⟩:=pR_ N;have P:=iR M m h (by omega);have Q:=yK M v (by omega) hv;clear hN h hv;obtain ⟨⟨a,f⟩,j,l,F,H,J,L,O,E⟩:=m;obtain ⟨n,q,u,y,A,B⟩:=v;exact puA [(6,.p (.agg (Msg.mk ⟨a,f⟩ j l (Val.mk F H J L O E)).cells)),(8,.p (.agg (Val.mk n q u y A B).cells))] (pf2 P Q) (.agg (Msg.mk ⟨a,f⟩ j l (Val.mk n q u y A B)).cells)
set_option linter.all false
namespace Ct
theorem ar1 (N:Nat):ah tab ext (N+1) (.fn 213) [num 1] []=some (.tup [num 0,num 0],[]):=by kernel_rfl
theorem ar2 (N:Nat):ah tab ext (N+1) (.fn 213) [num 2] []=some (.tup [num 0,num 0],[]):=by kernel_rfl
theorem ar3 (N:Nat):ah tab ext (N+1) (.fn 213) [num 3] []=some (.tup [num 1,num 1],[]):=by kernel_rfl
theorem ar4 (N:Nat):ah tab ext (N+1) (.fn 213) [num 4] []=some (.tup [num 2,num 2],[]):=by kernel_rfl
theorem ar5 (N:Nat):ah tab ext (N+1) (.fn 213) [num 5] []=some (.tup [num 2,num 2],[]):=by kernel_rfl
theorem ar6 (N:Nat):ah tab ext (N+1) (.fn 213) [num 6] []=some (.tup [num 2,num 2],[]):=by kernel_rfl
theorem ar7 (N:Nat):ah tab ext (N+1) (.fn 213) [num 7] []=some (.tup [num 2,num 2],[]):=by kernel_rfl
theorem ar8 (N:Nat):ah tab ext (N+1) (.fn 213) [num 8] []=some (.tup [num 2,num 2],[]):=by kernel_rfl
theorem ar9 (N:Nat):ah tab ext (N+1) (.fn 213) [num 9] []=some (.tup [num 2,num 2],[]):=by kernel_rfl
theorem zxY (N:Nat):ah tab ext (N+1) (.fn 213) [num 10] []=some (.tup [num 2,num 2],[]):=by kernel_rfl
theorem zxX (N:Nat):ah tab ext (N+1) (.fn 213) [num 11] []=some (.tup [num 2,num 2],[]):=by kernel_rfl
theorem zxW (N:Nat):ah tab ext (N+1) (.fn 213) [num 12] []=some (.tup [num 2,num 2],[]):=by kernel_rfl
theorem zxV (N:Nat):ah tab ext (N+1) (.fn 213) [num 13] []=some (.tup [num 2,num 2],[]):=by kernel_rfl
theorem zxU (N:Nat):ah tab ext (N+1) (.fn 213) [num 14] []=some (.tup [num 2,num 2],[]):=by kernel_rfl
theorem zxT (N:Nat):ah tab ext (N+1) (.fn 213) [num 15] []=some (.tup [num 2,num 2],[]):=by kernel_rfl
theorem zxS (N:Nat):ah tab ext (N+1) (.fn 213) [num 16] []=some (.tup [num 1,num 1],[]):=by kernel_rfl
theorem zxR (N:Nat):ah tab ext (N+1) (.fn 213) [num 17] []=some (.tup [num 2,num 2],[]):=by kernel_rfl
theorem zxQ (N:Nat):ah tab ext (N+1) (.fn 213) [num 18] []=some (.tup [num 1,num 1],[]):=by kernel_rfl
theorem zxP (N:Nat):ah tab ext (N+1) (.fn 213) [num 19] []=some (.tup [num 1,num 1],[]):=by kernel_rfl
theorem zxO (N:Nat):ah tab ext (N+1) (.fn 213) [num 20] []=some (.tup [num 1,num 1],[]):=by kernel_rfl
theorem zxN (N:Nat):ah tab ext (N+1) (.fn 213) [num 21] []=some (.tup [num 3,num 3],[]):=by kernel_rfl
theorem zxM (N:Nat):ah tab ext (N+1) (.fn 213) [num 22] []=some (.tup [num 0,num 0],[]):=by kernel_rfl
theorem zxL (N:Nat):ah tab ext (N+1) (.fn 213) [num 23] []=some (.tup [num 2,num 2],[]):=by kernel_rfl
theorem zxK (N:Nat):ah tab ext (N+1) (.fn 213) [num 24] []=some (.tup [num 3,num 3],[]):=by kernel_rfl
theorem zxJ (N:Nat):ah tab ext (N+1) (.fn 213) [num 25] []=some (.tup [num 2,num 256],[]):=by kernel_rfl
theorem zxI (N:Nat):ah tab ext (N+1) (.fn 213) [num 26] []=some (.tup [num 0,num 0],[]):=by kernel_rfl
theorem zxH (N:Nat):ah tab ext (N+1) (.fn 213) [num 27] []=some (.tup [num 1,num 1],[]):=by kernel_rfl
theorem zxG (N:Nat):ah tab ext (N+1) (.fn 213) [num 28] []=some (.tup [num 1,num 1],[]):=by kernel_rfl
theorem znF {op:Int}(h1:1<=op)(h2:op<=28):op=1\/op=2\/op=3\/op=4\/op=5\/op=6\/op=7\/op=8\/op=9\/op=10\/op=11\/op=12\/op=13\/op=14\/op=15\/op=16\/op=17\/op=18\/op=19\/op=20\/op=21\/op=22\/op=23\/op=24\/op=25\/op=26\/op=27\/op=28:=by omega
def zxm:List Ctr:=[dS 213 [.ir .i64 1 28] [] none [(.tu [.k .i64 0,int],[],bd 1 1 1),(.tu [.k .i64 0,int],[],bd 1 2 2),(.tu [.k .i64 1,int],[],bd 1 3 3),(.tu [.k .i64 2,int],[],bd 1 4 15),(.tu [.k .i64 1,int],[],bd 1 16 16),(.tu [.k .i64 2,int],[],bd 1 17 17),(.tu [.k .i64 1,int],[],bd 1 18 20),(.tu [.k .i64 3,int],[],bd 1 21 21),(.tu [.k .i64 0,int],[],bd 1 22 22),(.tu [.k .i64 2,int],[],bd 1 23 23),(.tu [.k .i64 3,int],[],bd 1 24 24),(.tu [.k .i64 2,int],[],bd 1 25 25),(.tu [.k .i64 0,int],[],bd 1 26 26),(.tu [.k .i64 1,int],[],bd 1 27 28)]]
theorem fB {op lo hi a b:Int}(hs:(dS 213 [.ir .i64 1 28] [] none [(.tu [.k .i64 0,int],[],bd 1 1 1),(.tu [.k .i64 0,int],[],bd 1 2 2),(.tu [.k .i64 1,int],[],bd 1 3 3),(.tu [.k .i64 2,int],[],bd 1 4 15),(.tu [.k .i64 1,int],[],bd 1 16 16),(.tu [.k .i64 2,int],[],bd 1 17 17),(.tu [.k .i64 1,int],[],bd 1 18 20),(.tu [.k .i64 3,int],[],bd 1 21 21),(.tu [.k .i64 0,int],[],bd 1 22 22),(.tu [.k .i64 2,int],[],bd 1 23 23),(.tu [.k .i64 3,int],[],bd 1 24 24),(.tu [.k .i64 2,int],[],bd 1 25 25),(.tu [.k .i64 0,int],[],bd 1 26 26),(.tu [.k .i64 1,int],[],bd 1 27 28)]).Sat T ρ [num op] [])(hm:((.tu [.k .i64 lo,int],[],bd 1 a b):Xl)∈([(.tu [.k .i64 0,int],[],bd 1 1 1),(.tu [.k .i64 0,int],[],bd 1 2 2),(.tu [.k .i64 1,int],[],bd 1 3 3),(.tu [.k .i64 2,int],[],bd 1 4 15),(.tu [.k .i64 1,int],[],bd 1 16 16),(.tu [.k .i64 2,int],[],bd 1 17 17),(.tu [.k .i64 1,int],[],bd 1 18 20),(.tu [.k .i64 3,int],[],bd 1 21 21),(.tu [.k .i64 0,int],[],bd 1 22 22),(.tu [.k .i64 2,int],[],bd 1 23 23),(.tu [.k .i64 3,int],[],bd 1 24 24),(.tu [.k .i64 2,int],[],bd 1 25 25),(.tu [.k .i64 0,int],[],bd 1 26 26),(.tu [.k .i64 1,int],[],bd 1 27 28)]:List Xl))(h1:a<=op)(h2:op<=b)(h:∀N,ah tab ext (N+1) (.fn 213) [num op] []=some (.tup [num lo,num hi],[])):(dS 213 [.ir .i64 1 28] [] none [(.tu [.k .i64 0,int],[],bd 1 1 1),(.tu [.k .i64 0,int],[],bd 1 2 2),(.tu [.k .i64 1,int],[],bd 1 3 3),(.tu [.k .i64 2,int],[],bd 1 4 15),(.tu [.k .i64 1,int],[],bd 1 16 16),(.tu [.k .i64 2,int],[],bd 1 17 17),(.tu [.k .i64 1,int],[],bd 1 18 20),(.tu [.k .i64 3,int],[],bd 1 21 21),(.tu [.k .i64 0,int],[],bd 1 22 22),(.tu [.k .i64 2,int],[],bd 1 23 23),(.tu [.k .i64 3,int],[],bd 1 24 24),(.tu [.k .i64 2,int],[],bd 1 25 25),(.tu [.k .i64 0,int],[],bd 1 26 26),(.tu [.k .i64 1,int],[],bd 1 27 28)]).Res T Gm ρ [num op] []:=by
 have l:op=ρ 1:=by
  cases hs.args with
  |cons w _=>exact sI w
 refine jY hm hs.zero hs.pos rfl rfl (r:=.tup [num lo,num hi]) ⟨_,rfl,rfl,⟨hi,rfl⟩,trivial⟩ (fun q ρ' f u g j=>?_) ⟨1,fun N m=>by obtain ⟨M,rfl⟩:=pR_ N<;>simp_all⟩;subst j;have n:=f.same 1 (by show 1<2;decide);refine .cons (aJ.2 ⟨by show 0<3;decide,by show 1<3;decide,?_⟩) (.cons (aJ.2 ⟨by show 1<3;decide,by show 0<3;decide,?_⟩) .nil)
 ·grind[Lin.k_v,Lin.v]
 grind[Lin.k_v,Lin.v]
theorem dI:ay T Gm zxm:=.one fun ρ y q f=>by
 obtain ⟨l,m⟩:=pG f;obtain ⟨x,rfl,n⟩:=zd9 l;obtain rfl:=nK m;obtain ⟨u,rfl,h,j⟩:=zn9 n;rcases znF h j with rfl|rfl|rfl|rfl|rfl|rfl|rfl|rfl|rfl|rfl|rfl|rfl|rfl|rfl|rfl|rfl|rfl|rfl|rfl|rfl|rfl|rfl|rfl|rfl|rfl|rfl|rfl|rfl;·exact fB (a:=1) (b:=1) f (by simp) (by decide) (by decide) ar1
 ·exact fB (a:=2) (b:=2) f (by simp) (by decide) (by decide) ar2
 ·exact fB (a:=3) (b:=3) f (by simp) (by decide) (by decide) ar3
 ·exact fB (a:=4) (b:=15) f (by simp) (by decide) (by decide) ar4
 ·exact fB (a:=4) (b:=15) f (by simp) (by decide) (by decide) ar5
 ·exact fB (a:=4) (b:=15) f (by simp) (by decide) (by decide) ar6
 ·exact fB (a:=4) (b:=15) f (by simp) (by decide) (by decide) ar7
 ·exact fB (a:=4) (b:=15) f (by simp) (by decide) (by decide) ar8
 ·exact fB (a:=4) (b:=15) f (by simp) (by decide) (by decide) ar9
 ·exact fB (a:=4) (b:=15) f (by simp) (by decide) (by decide) zxY
 ·exact fB (a:=4) (b:=15) f (by simp) (by decide) (by decide) zxX
 ·exact fB (a:=4) (b:=15) f (by simp) (by decide) (by decide) zxW
 ·exact fB (a:=4) (b:=15) f (by simp) (by decide) (by decide) zxV
 ·exact fB (a:=4) (b:=15) f (by simp) (by decide) (by decide) zxU
 ·exact fB (a:=4) (b:=15) f (by simp) (by decide) (by decide) zxT
 ·exact fB (a:=16) (b:=16) f (by simp) (by decide) (by decide) zxS
 ·exact fB (a:=17) (b:=17) f (by simp) (by decide) (by decide) zxR
 ·exact fB (a:=18) (b:=20) f (by simp) (by decide) (by decide) zxQ
 ·exact fB (a:=18) (b:=20) f (by simp) (by decide) (by decide) zxP
 ·exact fB (a:=18) (b:=20) f (by simp) (by decide) (by decide) zxO
 ·exact fB (a:=21) (b:=21) f (by simp) (by decide) (by decide) zxN
 ·exact fB (a:=22) (b:=22) f (by simp) (by decide) (by decide) zxM
 ·exact fB (a:=23) (b:=23) f (by simp) (by decide) (by decide) zxL
 ·exact fB (a:=24) (b:=24) f (by simp) (by decide) (by decide) zxK
 ·exact fB (a:=25) (b:=25) f (by simp) (by decide) (by decide) zxJ
 ·exact fB (a:=26) (b:=26) f (by simp) (by decide) (by decide) zxI
 ·exact fB (a:=27) (b:=28) f (by simp) (by decide) (by decide) zxH
 exact fB (a:=27) (b:=28) f (by simp) (by decide) (by decide) zxG
def zry:List Ctr:=[mkC 214 [int] [] none [((.kb true),[]),((.kb false),[])]]
theorem bP:ay T Gm zry:=hoA K .nil
def zrx:List Ctr:=[mkC 215 [int] [] none [((.kb true),[]),((.kb false),[])]]
theorem bM:ay T Gm zrx:=hoA K .nil
def zrv:List Ctr:=[mkC 217 [part] [] none [(.kb true,[]),(.kb false,[])]]
theorem bH:ay T Gm zrv:=hoA K .nil
def zrz:List Ctr:=[mkC 124 [.sl 3 7,.fn 217 []] [] none [(.ir .i64 (-1) 1000000,[])]]
theorem zex:ay T Gm zrz:=hoB K ((iQ [⟨[0,1,7,8],fun e n=>(n+1,[ak (.k 0) ⟨n+0,0⟩,ak ⟨n+0,0⟩ (e 1)],[(0,.sl none 3 7 (e 0) (e 1)),(1,.fn 217 []),(7,.i .i64 (e 1)),(8,.i .i64 ⟨n+0,0⟩)],[],(e 1,⟨n+0,0⟩))⟩])) bH
def zrA:List Ctr:=[mkC 90 [.sl 3 7,.fn 217 []] [] none [(.kb true,[]),(.kb false,[])]]
theorem bQ:ay T Gm zrA:=hoA K (hpA zex bH)
end Ct
end Go.Proofs.YtpcjeobkehmhpaaGreatDoor
