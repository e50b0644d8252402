/-.-/
import Derived.Test.YtpcjeobkehmhpaaGreatDoorU13
import Derived.Test.YtpcjeobkehmhpaaGreatDoorU14
import Derived.Test.YtpcjeobkehmhpaaGreatDoorU16
import Derived.Test.YtpcjeobkehmhpaaGreatDoorU17
import Derived.Test.YtpcjeobkehmhpaaGreatDoorU19
import Derived.Test.YtpcjeobkehmhpaaGreatDoorU22
import Derived.Test.YtpcjeobkehmhpaaGreatDoorU23
import Derived.Test.YtpcjeobkehmhpaaGreatDoorU24
import Derived.Test.YtpcjeobkehmhpaaGreatDoorU25
import Derived.Test.YtpcjeobkehmhpaaGreatDoorU26
import Derived.Test.YtpcjeobkehmhpaaGreatDoorU27
set_option linter.unusedSimpArgs false
set_option linter.unusedVariables false
namespace Go.Proofs.YtpcjeobkehmhpaaGreatDoor
open Go Go.Em Go.Ab
set_option maxRecDepth 100000
variable {H Hv:Int}{ρ:Rho}
namespace Ct.Ff
theorem znH:∀c,c∈fiG->∀k,k<9->oz c k=true:=fun c hc k hk=>by
 rcases qaj.1 hc with rfl|hc
 ·match k with
  |0=>exact tF0
  |1=>exact tF1
  |2=>exact tF2
  |3=>exact tF3
  |4=>exact tF4
  |5=>exact tF5
  |6=>exact tF6
  |7=>exact tF7
  |8=>exact tF8
  |k+9=>omega
 obtain rfl:=qaa.1 hc
 match k with
 |0=>exact tR0
 |1=>exact tR1
 |2=>exact tR2
 |3=>exact tR3
 |4=>exact tR4
 |5=>exact tR5
 |6=>exact tR6
 |7=>exact tR7
 |8=>exact tR8
 |k+9=>omega
theorem zkl:∀c,c∈fiG->c.alts=uG/\c.mu=some ⟨1,0⟩/\Nat.blt 1 c.m=true:=fun c hc=>by
 rcases qaj.1 hc with rfl|hc;·exact ⟨rfl,rfl,rfl⟩
 obtain rfl:=qaa.1 hc;exact ⟨rfl,rfl,rfl⟩
theorem znJ:ay T Gm fiG:=Gw (K:=K3) (L:=fiL) znI (by kernel_rfl) (by kernel_rfl) fun c hc ρ args inb hs=>by
 obtain ⟨e1,e2,e3⟩:=zkl c hc;obtain ⟨p,hp,hF⟩:=hs.alts;rw [e1] at hp;obtain ⟨k,hk,rfl⟩:=qaU hp;have hk9:k<9:=hk;have hch:=znH c hc k hk9;refine ⟨(c.with [uG[k]],⟨1,0⟩),rfl,⟨fiO,?_⟩,e3,ρ,hs.with hF,fun l hl=>?_,id⟩
 ·unfold oz at hch;have e:uG.getD k []=uG[k]:=by rw [qax,qad hk];rfl
  rw [e] at hch;exact hch
 rw [e2] at hl;cases hl;exact Int.le_refl _
def zo6:List Ctr:=[mkC 101 [zuJ,uU] [] none [(.kb true,[]),(.kb false,[])]]
theorem zja:ay T Gm zo6:=hoA K3 (hpA zac znJ)
end Ct.Ff
section
variable (N:Nat) (k i s:Int) (t:qaZ) (l f acc Q5:qaY) (n j m:Nat) (v:Val) (nm:qaZ) (a1 a2 a3:Int) (a4:qaZ) (u w:Bool) (a5 a6:qaY)
theorem TM (hv:Gam.aF (ah tab ext N) 46 [.agg [num a1,num a2,num a3,aC a4,.sl false 6 a5,.sl false 7 a6]]=some (.agg v.cells))(hi:l[j]?=some [num a1,num a2,num a3,aC a4,.sl u 6 a5,.sl w 7 a6])(hj:j<n)(hn:n<2999999)(ha:j=acc.length):
  run (ah tab ext N) 0 N (aH 46 0) (clH k i s t l f acc n j)=some (.norm,zrJ k i s t l f acc n j [num a1,num a2,num a3,aC a4,.sl u 6 a5,.sl w 7 a6] v.cells):=by
 obtain ⟨b1,b2,b3,b4,b5,b6⟩:=v;exact ruA [(15,.b true),(16,.e [num a1,num a2,num a3,aC a4,.sl u 6 a5,.sl w 7 a6]),(21,.p (.agg (Val.mk b1 b2 b3 b4 b5 b6).cells)),(23,.app),(25,.i (Int.ofNat (j+1)))] (pf5 (aN hj) hi hv (Kt j 3 88 ha (by omega) (by omega)) (aB (j:=j) (by omega)))
theorem TP (hv:Gam.aF (ah tab ext N) 46 [.agg [num a1,num a2,num a3,aC a4,.sl false 6 a5,.sl false 7 a6]]=some (.agg v.cells))(hi:f[j]?=some [aC nm,num a1,num a2,num a3,aC a4,.sl u 6 a5,.sl w 7 a6])(hj:j<n)(hn:n<2999999)(ha:j=Q5.length):
  run (ah tab ext N) 0 N (aH 46 1) (cfH k i s t f acc Q5 n j m)=some (.norm,zrK k i s t f acc Q5 n j m [aC nm,num a1,num a2,num a3,aC a4,.sl u 6 a5,.sl w 7 a6] (aC nm::v.cells)):=by
 obtain ⟨b1,b2,b3,b4,b5,b6⟩:=v;exact ruA [(30,.b true),(31,.e [aC nm,num a1,num a2,num a3,aC a4,.sl u 6 a5,.sl w 7 a6]),(39,.p (.agg (Val.mk b1 b2 b3 b4 b5 b6).cells)),(42,.app),(44,.i (Int.ofNat (j+1)))] (pf5 (aN hj) hi hv (Kt j 3 104 ha (by omega) (by omega)) (aB (j:=j) (by omega)))
end
namespace Ct
theorem JQ {n:Nat}{e:List X}(h:DN T (n+1) 21 e):∃(a b c:Int) (s:qaZ) (t:Bool) (l:qaY) (t':Bool) (f:qaY),e=[num a,num b,num c,aC s,.sl t 6 l,.sl t' 7 f]/\s.size<=1000000/\l.length<=1000000/\f.length<=1000100/\(∀x,x∈l->DN T n 21 x)/\∀x,x∈f->DN T n 22 x:=by
 obtain ⟨alt,ha,hs⟩:=h;obtain rfl:=qaa.1 ha
 match e,hs with
 |[.v (.int _ a),.v (.int _ b),.v (.int _ c),.v (.string s),.sl t _ l,.sl t' _ f],⟨⟨rfl,_⟩,⟨rfl,_⟩,⟨rfl,_⟩,h4,⟨rfl,_,h5,h6⟩,⟨rfl,_,h7,h8⟩,_⟩=>exact ⟨a,b,c,s,t,l,t',f,rfl,h4.2,h5,h7,h6,h8⟩
theorem TI {n:Nat}{e:List X}(h:DN T n 22 e):∃(nm:qaZ) (x:List X),e=aC nm::x/\nm.size<=1000000/\DN T n 21 x:=by
 cases n with
 |zero=>exact h.elim
 |succ n=>
  obtain ⟨alt,ha,hs⟩:=h;obtain rfl:=qaa.1 ha
  match e,hs with
  |.v (.string s)::x,⟨h1,h2⟩=>exact ⟨s,x,rfl,h1.2,_,qaa.2 rfl,h2⟩
theorem KO:∀{l:List Val},(∀v,v∈l->v.wide)->zB l
 |[],_=>by simp only [zB]
 |v::r,h=>by simp only [zB];exact ⟨h v (qap ..),KO fun u hu=>h u (qam _ hu)⟩
theorem KP:∀{l:List (qaZ×Val)},(∀p,p∈l->p.2.wide)->zC l
 |[],_=>by simp only [zC]
 |(n,v)::r,h=>by simp only [zC];exact ⟨h (n,v) (qap ..),KP fun u hu=>h u (qam _ hu)⟩
instance:Inhabited Val:=⟨.mk 0 0 0 ⟨#[]⟩ [] []⟩
def zrz:List X->List X
 |[a,b,c,s,.sl _ 6 l,.sl _ 7 f]=>[a,b,c,s,.sl false 6 l,.sl false 7 f]
 |x=>x
theorem zbk:∀(n:Nat) (a b c:Int) (s:qaZ) (l f:qaY),l.length<=1000000->f.length<=1000100->(∀e,e∈l->DN T n 21 e)->(∀e,e∈f->DN T n 22 e)->
  ∃v:Val,v.wide/\∃B,∀N,B<=N->Gam.aF (ah tab ext N) 46 [.agg [num a,num b,num c,aC s,.sl false 6 l,.sl false 7 f]]=some (.agg v.cells):=by
 intro n;induction n with
 |zero=>
  intro a b c s l f hl hf dl df;have el:l=[]:=List.eq_nil_iff_forall_not_mem.2 fun e he=>dl e he;have ef:f=[]:=List.eq_nil_iff_forall_not_mem.2 fun e he=>by obtain ⟨_,x,rfl,_,h⟩:=TI (df e he);exact h
  subst el;subst ef;refine ⟨.mk a b c s [] [],by simp only [Val.wide,zB,zC];exact ⟨⟨by decide,by decide⟩,trivial,trivial⟩,2,fun N hN=>jl N (.mk a b c s [] []) (by simp only [Val.size,sU,sV];omega) (by simp only [Val.size,sU,sV];omega)⟩
 |succ n ih=>
  intro a b c s l f hl hf dl df;have hL:∃(g:Nat->Val) (B:Nat),∀j,j∈List.range l.length->(g j).wide/\∀N,B<=N->∃(a1 a2 a3:Int) (a4:qaZ) (u w:Bool) (a5 a6:qaY),l[j]?=some [num a1,num a2,num a3,aC a4,.sl u 6 a5,.sl w 7 a6]/\Gam.aF (ah tab ext N) 46 [.agg [num a1,num a2,num a3,aC a4,.sl false 6 a5,.sl false 7 a6]]=some (.agg (g j).cells):=
   oG (List.range l.length) (R:=fun _ v=>Val.wide v) (Q:=fun j v N=>∃(a1 a2 a3:Int) (a4:qaZ) (u w:Bool) (a5 a6:qaY),l[j]?=some [num a1,num a2,num a3,aC a4,.sl u 6 a5,.sl w 7 a6]/\Gam.aF (ah tab ext N) 46 [.agg [num a1,num a2,num a3,aC a4,.sl false 6 a5,.sl false 7 a6]]=some (.agg v.cells)) fun j hj=>by have hj:=List.mem_range.1 hj;obtain ⟨a1,a2,a3,a4,u,a5,w,a6,e,_,h1,h2,h3,h4⟩:=JQ (dl _ (qah hj));obtain ⟨v,hv,B,hB⟩:=ih a1 a2 a3 a4 a5 a6 h1 h2 h3 h4;exact ⟨v,hv,B,fun N hN=>⟨a1,a2,a3,a4,u,w,a5,a6,by rw [qad hj,e],hB N hN⟩⟩
  have hFx:∃(g:Nat->qaZ×Val) (B:Nat),∀j,j∈List.range f.length->(g j).2.wide/\∀N,B<=N->∃(a1 a2 a3:Int) (a4:qaZ) (u w:Bool) (a5 a6:qaY),f[j]?=some [aC (g j).1,num a1,num a2,num a3,aC a4,.sl u 6 a5,.sl w 7 a6]/\Gam.aF (ah tab ext N) 46 [.agg [num a1,num a2,num a3,aC a4,.sl false 6 a5,.sl false 7 a6]]=some (.agg (g j).2.cells):=
   oG (List.range f.length) (R:=fun _ (p:qaZ×Val)=>Val.wide p.2) (Q:=fun j p N=>∃(a1 a2 a3:Int) (a4:qaZ) (u w:Bool) (a5 a6:qaY),f[j]?=some [aC p.1,num a1,num a2,num a3,aC a4,.sl u 6 a5,.sl w 7 a6]/\Gam.aF (ah tab ext N) 46 [.agg [num a1,num a2,num a3,aC a4,.sl false 6 a5,.sl false 7 a6]]=some (.agg p.2.cells)) fun j hj=>by have hj:=List.mem_range.1 hj;obtain ⟨nm,x,e0,_,hx⟩:=TI (df _ (qah hj));obtain ⟨a1,a2,a3,a4,u,a5,w,a6,e,_,h1,h2,h3,h4⟩:=JQ hx;obtain ⟨v,hv,B,hB⟩:=ih a1 a2 a3 a4 a5 a6 h1 h2 h3 h4;exact ⟨(nm,v),hv,B,fun N hN=>⟨a1,a2,a3,a4,u,w,a5,a6,by rw [qad hj,e0,e],hB N hN⟩⟩
  obtain ⟨g,B1,hg⟩:=hL;obtain ⟨q,B2,hq⟩:=hFx
  let vl:=(List.range l.length).map g
  let vf:=(List.range f.length).map q
  have el:vl.length=l.length:=by simp [vl]
  have ef:vf.length=f.length:=by simp [vf]
  have cl:=aS vl;have cf:=bg vf;have gl:∀j,j<l.length->(au vl)[j]?=some (g j).cells:=fun j hj=>by rw [jW];simp [vl,hj]
  have gf:∀j,j<f.length->(aA vf)[j]?=some (aC (q j).1::(q j).2.cells):=fun j hj=>by rw [rO];simp [vf,hj]
  refine ⟨.mk a b c s vl vf,?_,B1+B2+3000100,fun N hN=>?_⟩
  ·simp only [Val.wide];refine ⟨⟨by omega,by omega⟩,KO fun v hv=>?_,KP fun p hp=>?_⟩;·obtain ⟨j,hj,rfl⟩:=qal.1 hv;exact (hg j hj).1
   obtain ⟨j,hj,rfl⟩:=qal.1 hp;exact (hq j hj).1
  obtain ⟨M,rfl⟩:∃M,N=M+1:=⟨N-1,by omega⟩;have h1:run (ah tab ext M) 0 M (.loop (aH 46 0)) (clH a b c s l f [] l.length 0)=some (.exit 0,clE a b c s l f (au vl) l.length l.length):=by
   refine bJ (σ:=fun j=>clH a b c s l f ((au vl).take j) l.length j) (k:=l.length) (J7 _ _ _ _ _ _ _ _ _) (fun j hj=>?_) ?_ (by simp) (by omega);·obtain ⟨a1,a2,a3,a4,u,w,a5,a6,hi,hv⟩:=(hg j (List.mem_range.2 hj)).2 M (by omega);refine ⟨_,TM M a b c s l f _ l.length j (g j) a1 a2 a3 a4 u w a5 a6 hv hi hj (by omega) (by rw [qaf];omega),?_⟩;rw [DW,dJ (gl j hj)]
   have:=zbl M a b c s l f (au vl) l.length;rw [List.take_of_length_le (by omega)];exact this
  have h2:run (ah tab ext M) 0 M (.loop (aH 46 1)) ⟨[(2,.ptr 1 0 0),(3,.ptr 2 0 0),(27,.sl false 7 f),(28,nat f.length),(29,nat 0)],[.var [num a,num b,num c,aC s,.sl false 6 l,.sl false 7 f],.var zV,.var [num a,num b,num c,aC s,.bs 3 0 l.length,.bs 4 0 0],.row 6 (au vl),.row 7 []]⟩=some (.exit 2,cfE a b c s f (au vl) (aA vf) f.length f.length l.length):=by
   refine bJ (σ:=fun j=>cfH a b c s f (au vl) ((aA vf).take j) f.length j l.length) (k:=f.length) (by kernel_rfl) (fun j hj=>?_) ?_ (by simp) (by omega);·obtain ⟨a1,a2,a3,a4,u,w,a5,a6,hi,hv⟩:=(hq j (List.mem_range.2 hj)).2 M (by omega);refine ⟨_,TP M a b c s f _ _ f.length j l.length (q j).2 (q j).1 a1 a2 a3 a4 u w a5 a6 hv hi hj (by omega) (by rw [qaf];omega),?_⟩;rw [D5,dJ (gf j hj)]
   have:=zbn M a b c s f (au vl) (aA vf) f.length l.length;rw [List.take_of_length_le (by omega)];exact this
  have h3:(X.agg [num a,num b,num c,aC s,.bs 0 0 l.length,.bs 1 0 f.length]).data [.row 6 (au vl),.row 7 (aA vf)] false=some (.agg (Val.mk a b c s vl vf).cells):=by
   have e1:l.length=(au vl).length:=by omega
   have e2:f.length=(aA vf).length:=by omega
   rw [e1,e2];simp [X.data,dZ,rowOf,Val.cells,num,aC]
  clear hg hq gl gf el ef;generalize au vl=CL at h1 h2 h3;generalize aA vf=CF at h1 h2 h3;generalize l.length=n1 at h1 h2 h3;generalize f.length=n2 at h1 h2 h3;exact eH [] [(.exit 0,clE a b c s l f CL n1 n1),(.exit 2,cfE a b c s f CL CF n2 n2 n1)] (pf2 h1 h2) (bx:=[.row 6 CL,.row 7 CF]) (by kernel_rfl) h3
theorem zeY {x:List X}(hd:D T H 21 x):∃v:Val,v.wide/\∃B,∀N,B<=N->Gam.aF (ah tab ext N) 46 [.agg (zrz x)]=some (.agg v.cells):=by
 unfold D at hd;cases hn:H.toNat with
 |zero=>rw [hn] at hd;exact hd.elim
 |succ n=>rw [hn] at hd;obtain ⟨a,b,c,s,t,l,t',f,rfl,_,h1,h2,h3,h4⟩:=JQ hd;exact zbk n a b c s l f h1 h2 h3 h4
end Ct
namespace Ct
theorem zfI {q1 q2 q3 q4:Int}{w e f:qaY}(hd:D T (H+1) 14 (dI q1 q2 q3 q4 w e f)):0<=H/\IsL T H [int,int,int,int,.slh 1 5,.slh 7 14,.wW 11 15 0 100] (dI q1 q2 q3 q4 w e f):=by obtain ⟨h1,alt,ha,hs⟩:=lT hd;obtain rfl:=qaa.1 ha;rw [Int.add_sub_cancel] at hs;obtain ⟨_,_,_,_,⟨_,k51,k52,k53⟩,⟨_,k61,k62,k63⟩,⟨_,k71,k72,k73⟩,_⟩:=hs;exact ⟨by omega,⟨q1,rfl⟩,⟨q2,rfl⟩,⟨q3,rfl⟩,⟨q4,rfl⟩,⟨false,w,rfl,by unfold bT;omega,k53⟩,⟨false,e,rfl,by unfold bT;omega,k63⟩,⟨false,f,rfl,by omega,by omega,k73⟩,trivial⟩
theorem zgw {a b c:Int}{s:qaZ}{l f:qaY}(hd:D T H 1 [num a,num b,num c,aC s,.sl false 6 l,.sl false 7 f]):val.Is T 0 (.agg [num a,num b,num c,aC s,.sl false 6 l,.sl false 7 f]):=by obtain ⟨h1,alt,ha,hs⟩:=lT hd;obtain rfl:=qaa.1 ha;obtain ⟨_,_,_,⟨_,k41⟩,⟨_,k51,k52,k53⟩,⟨_,k61,k62,k63⟩,_⟩:=hs;exact ⟨H-1,_,rfl,by omega,⟨a,rfl⟩,⟨b,rfl⟩,⟨c,rfl⟩,⟨s,rfl,by unfold bT;omega⟩,⟨false,l,rfl,by unfold bT;omega,k53⟩,⟨false,f,rfl,by unfold bT;omega,k63⟩,trivial⟩
theorem DI {n:Nat}{F:List Fact}{bx:List ABx}{bxs:List Bx}{a:AX}{r:X}(z:ρ 0=0)(hF:aX n ρ F)(g1:G T n ρ a r)(g2:GBs T n ρ bx bxs)
  (hd:a.data F bx false=some (.agg [.i .i64 ⟨17,0⟩,.i .i64 ⟨18,0⟩,.i .i64 ⟨19,0⟩,.s ⟨20,0⟩,.sl (some false) 6 21 ⟨16,0⟩ ⟨21,0⟩,.sl (some false) 7 22 ⟨16,0⟩ ⟨22,0⟩])) (b16:0<=ρ 16) (b20:ρ 20<=1000000) (b21:ρ 21<=1000000) (b22:ρ 22<=1000100):
  ∃(a b c:Int) (s:qaZ) (l f:qaY),r.data bxs false=some (.agg [num a,num b,num c,aC s,.sl false 6 l,.sl false 7 f])/\∃H,D T H 21 [num a,num b,num c,aC s,.sl false 6 l,.sl false 7 f]:=by
 obtain ⟨y,hy,gy⟩:=G.data hF g2 z g1 hd;obtain ⟨cs,rfl,v0⟩:=zay gy;obtain ⟨x1,r1,rfl,w1,v1⟩:=cZ v0;obtain ⟨x2,r2,rfl,w2,v2⟩:=cZ v1;obtain ⟨x3,r3,rfl,w3,v3⟩:=cZ v2;obtain ⟨x4,r4,rfl,w4,v4⟩:=cZ v3;obtain ⟨x5,r5,rfl,w5,v5⟩:=cZ v4;obtain ⟨x6,r6,rfl,w6,v6⟩:=cZ v5;obtain rfl:=zav v6;obtain ⟨a,rfl⟩:=g_i w1;obtain ⟨b,rfl⟩:=g_i w2;obtain ⟨c,rfl⟩:=g_i w3;obtain ⟨s,rfl,e4⟩:=g_s w4;cases w5 with
 |sl i5 j5 f5 e5 q5=>
  rename_i t l;obtain rfl:t=false:=f5;cases w6 with
  |sl i6 j6 f6 e6 q6=>rename_i t' f;obtain rfl:t'=false:=f6;unfold Lin.v at e4 e5 e6 q5 q6;dsimp only at e4 e5 e6 q5 q6;refine ⟨a,b,c,s,l,f,hy,ρ 16+1,dH (by omega) (qaa.2 rfl) ?_⟩;rw [Int.add_sub_cancel];rw [Int.add_zero] at q5 q6;exact ⟨⟨rfl,(fun a e=>by cases e),(fun a e=>by cases e)⟩,⟨rfl,(fun a e=>by cases e),(fun a e=>by cases e)⟩,⟨rfl,(fun a e=>by cases e),(fun a e=>by cases e)⟩,⟨by omega,by omega⟩,⟨rfl,by omega,by omega,q5⟩,⟨rfl,by omega,by omega,q6⟩,trivial⟩
theorem JY {q1 q2 q3 q4:Int}{w e f:qaY}(hT:D T (H+1) 14 (dI q1 q2 q3 q4 w e f)){a b c:Int}{s:qaZ}{l g:qaY}(hv:D T Hv 1 [num a,num b,num c,aC s,.sl false 6 l,.sl false 7 g]):
  ∃(a' b' c':Int) (s':qaZ) (l' f':qaY),(∃H',D T H' 21 [num a',num b',num c',aC s',.sl false 6 l',.sl false 7 f'])/\∃B,∀N,B<=N->Gam.aF (ah tab ext N) 100 [.agg (dI q1 q2 q3 q4 w e f),.agg [num a,num b,num c,aC s,.sl false 6 l,.sl false 7 g]]=some (.agg [num a',num b',num c',aC s',.sl false 6 l',.sl false 7 f']):=by
 obtain ⟨hH,hTi⟩:=zfI hT;obtain ⟨ρ,hs⟩:=Jc (T:=T) (f:=100) (args:=[typ,val]) (inb:=[]) (mu:=some (1,1)) (outs:=oV 16 (.bsr 0 0 1000100)) rfl rfl (xs:=[.agg (dI q1 q2 q3 q4 w e f),.agg [num a,num b,num c,aC s,.sl false 6 l,.sl false 7 g]]) ⟨⟨H,_,rfl,hH,hTi⟩,zgw hv,trivial⟩ (bx:=[]) trivial;obtain ⟨o,ho,ρ',r,bx,hm,hF,g1,g2,B,hB⟩:=Ff.Qe _ (qap ..) ρ _ _ hs;have z:ρ' 0=0:=hm.zero hs.pos hs.zero;rw [vV] at ho;obtain ⟨q,hq,rfl⟩:=qal.1 ho;have fin:∀(a':Int) (b' c':Int) (s':qaZ) (l' f':qaY),r.data bx false=some (.agg [num a',num b',num c',aC s',.sl false 6 l',.sl false 7 f'])->∃B,∀N,B<=N->Gam.aF (ah tab ext N) 100 [.agg (dI q1 q2 q3 q4 w e f),.agg [num a,num b,num c,aC s,.sl false 6 l,.sl false 7 g]]=some (.agg [num a',num b',num c',aC s',.sl false 6 l',.sl false 7 f']):=fun _ _ _ _ _ _ hd=>⟨B,fun N hN=>aY (hB N hN) hd⟩;have up:∀{n k:Nat} {c:Int} {F:List Fact},aX n ρ' F->aj ⟨k,0⟩ (.k c)∈F->ρ' k<=c:=fun {n} {k} {c} {F} hF hk=>by have:=(aJ.1 (hF _ hk)).2.2;rw [Lin.k_v z] at this;unfold Lin.v at this;dsimp only at this;omega
 have dn:∀{n k:Nat} {c:Int} {F:List Fact},aX n ρ' F->aj (.k c) ⟨k,0⟩∈F->c<=ρ' k:=fun {n} {k} {c} {F} hF hk=>by have:=(aJ.1 (hF _ hk)).2.2;rw [Lin.k_v z] at this;unfold Lin.v at this;dsimp only at this;omega
 rcases qaj.1 hq with rfl|hq;·obtain ⟨a',b',c',s',l',f',h1,h2⟩:=DI z hF g1 g2 (by kernel_rfl) (dn hF (of_decide_eq_true (by kernel_rfl))) (up hF (of_decide_eq_true (by kernel_rfl))) (up hF (of_decide_eq_true (by kernel_rfl))) (up hF (of_decide_eq_true (by kernel_rfl)));exact ⟨a',b',c',s',l',f',h2,fin a' b' c' s' l' f' h1⟩
 rcases qaj.1 hq with rfl|hq;·obtain ⟨a',b',c',s',l',f',h1,h2⟩:=DI z hF g1 g2 (by kernel_rfl) (dn hF (of_decide_eq_true (by kernel_rfl))) (up hF (of_decide_eq_true (by kernel_rfl))) (up hF (of_decide_eq_true (by kernel_rfl))) (up hF (of_decide_eq_true (by kernel_rfl)));exact ⟨a',b',c',s',l',f',h2,fin a' b' c' s' l' f' h1⟩
 obtain rfl:=qaa.1 hq;obtain ⟨a',b',c',s',l',f',h1,h2⟩:=DI z hF g1 g2 (by kernel_rfl) (dn hF (of_decide_eq_true (by kernel_rfl))) (up hF (of_decide_eq_true (by kernel_rfl))) (up hF (of_decide_eq_true (by kernel_rfl))) (up hF (of_decide_eq_true (by kernel_rfl)));exact ⟨a',b',c',s',l',f',h2,fin a' b' c' s' l' f' h1⟩
theorem zb9 {a b c:Int}{s:qaZ}{l f:qaY}(hd:D T H 21 [num a,num b,num c,aC s,.sl false 6 l,.sl false 7 f]):uU.Is T 0 (.agg [num a,num b,num c,aC s,.sl false 6 l,.sl false 7 f]):=by obtain ⟨h1,alt,ha,hs⟩:=lT hd;obtain rfl:=qaa.1 ha;obtain ⟨_,_,_,⟨_,k41⟩,⟨_,k51,k52,k53⟩,⟨_,k61,k62,k63⟩,_⟩:=hs;exact ⟨H-1,_,rfl,by omega,⟨a,rfl⟩,⟨b,rfl⟩,⟨c,rfl⟩,⟨s,rfl,by unfold bT;omega⟩,⟨false,l,rfl,by unfold bT;omega,k53⟩,⟨false,f,rfl,by omega,by omega,k63⟩,trivial⟩
theorem zaO {q1 q2 q3 q4:Int}{w e f:qaY}(hT:D T 8 14 (dI q1 q2 q3 q4 w e f)){a b c:Int}{s:qaZ}{l g:qaY}(hv:D T Hv 21 [num a,num b,num c,aC s,.sl false 6 l,.sl false 7 g]):
  ∃b',∃B,∀N,B<=N->Gam.aF (ah tab ext N) 101 [.agg (dI q1 q2 q3 q4 w e f),.agg [num a,num b,num c,aC s,.sl false 6 l,.sl false 7 g]]=some (ak b'):=by
 obtain ⟨hH,hTi⟩:=zfI (H:=7) hT;obtain ⟨o,ho,r,bx,h1,h2,B,hB⟩:=dU (Ff.zja _ (qaa.2 rfl)) rfl rfl (xs:=[.agg (dI q1 q2 q3 q4 w e f),.agg [num a,num b,num c,aC s,.sl false 6 l,.sl false 7 g]]) ⟨⟨7,_,rfl,by decide,by decide,hTi⟩,zb9 hv,trivial⟩ (bx:=[]) trivial;rcases qaj.1 ho with rfl|ho;·obtain rfl:=nD h2;have h1:r=ak true:=h1;subst h1;exact ⟨true,B,fun N hN=>aY (hB N hN) rfl⟩
 obtain rfl:=qaa.1 ho;obtain rfl:=nD h2;have h1:r=ak false:=h1;subst h1;exact ⟨false,B,fun N hN=>aY (hB N hN) rfl⟩
def vZ:Val:=.mk 0 0 0 ⟨#[]⟩ [] []
theorem qB:vZ.wide:=by unfold vZ;simp only [Val.wide,zB,zC,qaR];exact ⟨⟨by decide,by decide⟩,trivial,trivial⟩
theorem EL {q1 q2 q3 q4:Int}{w e f:qaY}(hT:D T 8 14 (dI q1 q2 q3 q4 w e f)){a b c:Int}{s:qaZ}{l g:qaY}(hv:D T Hv 1 [num a,num b,num c,aC s,.sl false 6 l,.sl false 7 g]):
  ∃(v:Val) (x:Int),v.wide/\(x=0\/x=18)/\∃B,∀N,B<=N->Gam.aF (ah tab ext N) 70 [.agg (dI q1 q2 q3 q4 w e f),.agg [num a,num b,num c,aC s,.sl false 6 l,.sl false 7 g]]=some (.tup [.agg v.cells,num x]):=by
 obtain ⟨a1,b1,c1,s1,l1,f1,⟨H1,hd⟩,B1,zti⟩:=JY (H:=7) hT hv;obtain ⟨b2,B2,zo6⟩:=zaO hT hd;cases b2 with
 |false=>refine ⟨vZ,18,qB,.inr rfl,B1+B2+1,fun N hN=>?_⟩;obtain ⟨M,rfl⟩:∃M,N=M+1:=⟨N-1,by omega⟩;exact puA [(9,.p (.agg [num a1,num b1,num c1,aC s1,.sl false 6 l1,.sl false 7 f1])),(12,.p (ak false))] (pf2 (zti M (by omega)) (zo6 M (by omega))) (.tup [.agg zV,num 18])
 |true=>obtain ⟨v,hw,B3,zb0⟩:=zeY hd;refine ⟨v,0,hw,.inl rfl,B1+B2+B3+1,fun N hN=>?_⟩;obtain ⟨M,rfl⟩:∃M,N=M+1:=⟨N-1,by omega⟩;have zb0:=zb0 M (by omega);obtain ⟨v1,v2,v3,v4,v5,v6⟩:=v;exact puA [(9,.p (.agg [num a1,num b1,num c1,aC s1,.sl false 6 l1,.sl false 7 f1])),(12,.p (ak true)),(16,.p (.agg (Val.mk v1 v2 v3 v4 v5 v6).cells))] (pf3 (zti M (by omega)) (zo6 M (by omega)) zb0) (.tup [.agg (Val.mk v1 v2 v3 v4 v5 v6).cells,num 0])
end Ct
open Go.Em
def txN (l:List UInt8):qaZ:=⟨l.toArray⟩
def iV (x:Int):Val:=.mk 2 x 0 ⟨#[]⟩ [] []
def lV (xs:List Int):Val:=.mk 8 0 0 ⟨#[]⟩ (xs.map iV) []
def bV (xs:List Int):Val:=.mk 9 0 0 ⟨#[]⟩ [] [(txN [108,105,110,101,115],lV xs)]
def eV (xs:List Int)(i x:Int):Val:=.mk 9 0 0 ⟨#[]⟩ [] [(txN [98,111,100,121],bV xs),(txN [105,110,100,101,120],iV i),(txN [105,116,101,109],iV x)]
def Vx:List X:=[.sl false 6 [[aC (txN [110]),num 2,num 0,aC (txN [105,116,101,109]),.sl true 6 [],.sl true 5 []]]]
section
variable {x:Int} {a b:Bool} {N:Nat}
end
section
variable {N:Nat} {xs:List Int} (hx:xs.length<=200)
include hx
end
def zhx:C->List (C×C)
 |.seq a b|.cond _ a b=>zhx a++zhx b
 |.block _ b|.loop b=>zhx b
 |.rf _ _ _ a b=>(a,b)::(zhx a++zhx b)
 |_=>[]
section
variable {N:Nat} {xs:List Int} (hx:xs.length<=200) {x:Int} {j:Nat} {outs:qaY}
end
section
variable (L outs o1:qaY) (bc:List X) (xs:List Int) (x:Int) (j:Nat) {N:Nat}
variable (hlt:decide (Int.ofNat j<Int.ofNat L.length)=true) (hlt0:decide (Int.ofNat 0<Int.ofNat L.length)=true) (he:L[j]?=some (iV x).cells) (he0:L[0]?=some (iV x).cells)
 (hr:Gam.aF (ah tab ext N) 62 [.sl false 7 [aC (txN [98,111,100,121])::(bV xs).cells,aC (txN [105,110,100,101,120])::(iV (Int.ofNat j)).cells,aC (txN [105,116,101,109])::(iV x).cells]]=some (.agg (eV xs (Int.ofNat j) x).cells))
 (hr0:Gam.aF (ah tab ext N) 62 [.sl false 7 [aC (txN [98,111,100,121])::(bV xs).cells,aC (txN [105,110,100,101,120])::(iV (Int.ofNat 0)).cells,aC (txN [105,116,101,109])::(iV x).cells]]=some (.agg (eV xs (Int.ofNat 0) x).cells))
 (hN:60<=N)
include hN
include hlt he hr in
include hlt0 he0 hr0 in
include hlt he hr in
include hlt0 he0 hr0 in
omit hN in
end
namespace Ct
noncomputable def apA:C:=((zhx (G8 tab 38)).getD 0 (.skip,.skip)).1
noncomputable def apB:C:=((zhx (G8 tab 38)).getD 0 (.skip,.skip)).2
noncomputable def apRec (a b c d:Nat):Bx:=.loop .ready none [(5,.ptr a 0 0),(10,.ptr b 0 0),(11,.ptr c 0 0),(12,.ptr d 0 0)] [31,32] apA apB
noncomputable def apS (ty out:List X)(full:Int)(ab:Bool):List Bx:=[apRec 1 2 3 4,.var ty,.var out,.var [num full],.var [ak ab]]
noncomputable def apI (ty out:List X)(full:Int)(ab:Bool)(fl:Int):List Bx:=[apRec 2 3 4 5,.var [.ptr 6 0 0],.var ty,.var out,.var [num full],.var [ak ab],.var [num fl]]
def okV (y:List X):Prop:=∃(a b c:Int) (s:qaZ) (l f:qaY),y=dW a b c s l f/\∃H,D T H 1 y
section
variable (q1 q2 q3 q4:Int) (w e f ls:qaY) (a b c:Int) (s:qaZ) (l g:qaY) (a2 b2 c2:Int) (s2:qaZ) (l2 g2:qaY) (a3 b3 c3:Int) (s3:qaZ) (l3 g3:qaY) (full er:Int) (N:Nat)
variable (VZ:Gam.aF (ah tab ext N) 69 [.agg (dW a b c s l g),.sl false 3 ls,.agg (dW a2 b2 c2 s2 l2 g2)]=some (.tup [.agg (dW a3 b3 c3 s3 l3 g3),num er])) (hf:(full==0)=true)
variable (hg:(full==0)=false)
include VZ hf in
theorem zr9:ah tab ext (N+1) .yl [.yl 0,.sl false 3 ls,.agg (dW a2 b2 c2 s2 l2 g2)] (apS (dI q1 q2 q3 q4 w e f) (dW a b c s l g) full true)=some (.v (.bool true),apS (dI q1 q2 q3 q4 w e f) (dW a3 b3 c3 s3 l3 g3) er true):=
 yiA [(44,.b true),(49,.p (.tup [.agg (dW a3 b3 c3 s3 l3 g3),num er]))] (pf2 hf VZ)
include hg in
theorem zsd:ah tab ext (N+1) .yl [.yl 0,.sl false 3 ls,.agg (dW a2 b2 c2 s2 l2 g2)] (apS (dI q1 q2 q3 q4 w e f) (dW a b c s l g) full true)=some (.v (.bool true),apS (dI q1 q2 q3 q4 w e f) (dW a b c s l g) full true):=
 yiA [(44,.b false)] (pf1 hg)
variable (Tj:Gam.aF (ah tab ext N) 67 [.agg (dW a2 b2 c2 s2 l2 g2)]=some (ak false))
include Tj
include VZ hf in
theorem zr8:ah tab ext (N+1) .yl [.yl 0,.sl false 3 ls,.agg (dW a2 b2 c2 s2 l2 g2)] (apS (dI q1 q2 q3 q4 w e f) (dW a b c s l g) full false)=some (.v (.bool true),apS (dI q1 q2 q3 q4 w e f) (dW a3 b3 c3 s3 l3 g3) er false):=
 yiA [(36,.p (ak false)),(44,.b true),(49,.p (.tup [.agg (dW a3 b3 c3 s3 l3 g3),num er]))] (pf3 Tj hf VZ)
include hg in
theorem zsc:ah tab ext (N+1) .yl [.yl 0,.sl false 3 ls,.agg (dW a2 b2 c2 s2 l2 g2)] (apS (dI q1 q2 q3 q4 w e f) (dW a b c s l g) full false)=some (.v (.bool true),apS (dI q1 q2 q3 q4 w e f) (dW a b c s l g) full false):=
 yiA [(36,.p (ak false)),(44,.b false)] (pf2 Tj hg)
omit Tj
variable (zat:Gam.aF (ah tab ext N) 67 [.agg (dW a2 b2 c2 s2 l2 g2)]=some (ak true)) (r:Bool) (zbZ:Gam.aF (ah tab ext N) 68 [.agg (dI q1 q2 q3 q4 w e f),.sl false 3 ls]=some (ak r))
include zat zbZ
include VZ hf in
theorem zr7:ah tab ext (N+1) .yl [.yl 0,.sl false 3 ls,.agg (dW a2 b2 c2 s2 l2 g2)] (apS (dI q1 q2 q3 q4 w e f) (dW a b c s l g) full false)=some (.v (.bool true),apS (dI q1 q2 q3 q4 w e f) (dW a3 b3 c3 s3 l3 g3) er r):=by
 cases r with
 |true=>exact yiA [(36,.p (ak true)),(40,.p (ak true)),(44,.b true),(49,.p (.tup [.agg (dW a3 b3 c3 s3 l3 g3),num er]))] (pf4 zat zbZ hf VZ)
 |false=>exact yiA [(36,.p (ak true)),(40,.p (ak false)),(44,.b true),(49,.p (.tup [.agg (dW a3 b3 c3 s3 l3 g3),num er]))] (pf4 zat zbZ hf VZ)
include hg in
theorem zsb:ah tab ext (N+1) .yl [.yl 0,.sl false 3 ls,.agg (dW a2 b2 c2 s2 l2 g2)] (apS (dI q1 q2 q3 q4 w e f) (dW a b c s l g) full false)=some (.v (.bool true),apS (dI q1 q2 q3 q4 w e f) (dW a b c s l g) full r):=by
 cases r with
 |true=>exact yiA [(36,.p (ak true)),(40,.p (ak true)),(44,.b false)] (pf3 zat zbZ hg)
 |false=>exact yiA [(36,.p (ak true)),(40,.p (ak false)),(44,.b false)] (pf3 zat zbZ hg)
end
theorem zfi {q1 q2 q3 q4:Int}{w e f:qaY}(hT:D T (H+1) 14 (dI q1 q2 q3 q4 w e f)){ls:qaY}(hl0:1<=ls.length)(hl:ls.length<=201)(hd:∀x,x∈ls->D T 1 7 x){out y:List X}(ho:okV out)(hy:okV y)(full:Int)(hfu:0<=full/\full<=100)(ab:Bool):
  ∃(out':List X) (full':Int) (ab':Bool),okV out'/\(0<=full'/\full'<=100)/\∃B,∀N,B<=N->ah tab ext N .yl [.yl 0,.sl false 3 ls,.agg y] (apS (dI q1 q2 q3 q4 w e f) out full ab)=some (.v (.bool true),apS (dI q1 q2 q3 q4 w e f) out' full' ab'):=by
 obtain ⟨a,b,c,s,l,g,rfl,H1,h1⟩:=ho;obtain ⟨a2,b2,c2,s2,l2,g2,rfl,H2,h2⟩:=hy;obtain ⟨a3,b3,c3,s3,l3,g3,er,h3,her,B1,VZ⟩:=zde h1 hl0 hl hd h2;obtain ⟨nl,B2,Tj⟩:=Vo h2;obtain ⟨r,B3,zbZ⟩:=IQ hT hl hd;have ok3:okV (dW a3 b3 c3 s3 l3 g3):=⟨a3,b3,c3,s3,l3,g3,rfl,h3⟩;have ok1:okV (dW a b c s l g):=⟨a,b,c,s,l,g,rfl,H1,h1⟩;have lift:∀{z:X} {bx:List Bx},(∀M,B1+B2+B3<=M->ah tab ext (M+1) .yl [.yl 0,.sl false 3 ls,.agg (dW a2 b2 c2 s2 l2 g2)] (apS (dI q1 q2 q3 q4 w e f) (dW a b c s l g) full ab)=some (z,bx))->∃B,∀N,B<=N->ah tab ext N .yl [.yl 0,.sl false 3 ls,.agg (dW a2 b2 c2 s2 l2 g2)] (apS (dI q1 q2 q3 q4 w e f) (dW a b c s l g) full ab)=some (z,bx):=fun {z} {bx} h=>⟨B1+B2+B3+1,fun N hN=>by obtain ⟨M,rfl⟩:∃M,N=M+1:=⟨N-1,by omega⟩<;>simp_all⟩;cases hf:(full==0) with
 |true=>
  cases ab with
  |true=>exact ⟨_,er,true,ok3,her,lift fun M hM=>zr9 q1 q2 q3 q4 w e f ls a b c s l g a2 b2 c2 s2 l2 g2 a3 b3 c3 s3 l3 g3 full er M (VZ M (by omega)) hf⟩
  |false=>
   cases nl with
   |false=>exact ⟨_,er,false,ok3,her,lift fun M hM=>zr8 q1 q2 q3 q4 w e f ls a b c s l g a2 b2 c2 s2 l2 g2 a3 b3 c3 s3 l3 g3 full er M (VZ M (by omega)) hf (Tj M (by omega))⟩
   |true=>exact ⟨_,er,r,ok3,her,lift fun M hM=>zr7 q1 q2 q3 q4 w e f ls a b c s l g a2 b2 c2 s2 l2 g2 a3 b3 c3 s3 l3 g3 full er M (VZ M (by omega)) hf (Tj M (by omega)) r (zbZ M (by omega))⟩
 |false=>
  cases ab with
  |true=>exact ⟨_,full,true,ok1,hfu,lift fun M hM=>zsd q1 q2 q3 q4 w e f ls a b c s l g a2 b2 c2 s2 l2 g2 full M hf⟩
  |false=>
   cases nl with
   |false=>exact ⟨_,full,false,ok1,hfu,lift fun M hM=>zsc q1 q2 q3 q4 w e f ls a b c s l g a2 b2 c2 s2 l2 g2 full M hf (Tj M (by omega))⟩
   |true=>exact ⟨_,full,r,ok1,hfu,lift fun M hM=>zsb q1 q2 q3 q4 w e f ls a b c s l g a2 b2 c2 s2 l2 g2 full M hf (Tj M (by omega)) r (zbZ M (by omega))⟩
section
variable (ru tg:qaY) (k1 b1 d1:Int) (s1:qaZ) (l1 f1:qaY) (n j:Nat) (q1 q2 q3 q4:Int) (w e f:qaY) (k4 b4 d4:Int) (s4:qaZ) (l4 f4:qaY) (k3 b3 d3:Int) (s3:qaZ) (l3 f3:qaY) (full full':Int) (ab ab':Bool) (s:qaZ) (o i:Int) (t:qaZ) (vs es ls:qaY) (a b c:Int) (s2:qaZ) (l g:qaY) (er:Int) (N:Nat)
def zp3:List (Nat×X):=[(0,.yl 0),(2,.dp (dW k1 b1 d1 s1 l1 f1)),(3,.ptr 1 0 0),(5,.sl false 1 tg),(13,.sl false 6 ru),(14,nat n),(15,nat j)]
noncomputable def itH:St:=⟨zp3 ru tg k1 b1 d1 s1 l1 f1 n j,apI (dI q1 q2 q3 q4 w e f) (dW k4 b4 d4 s4 l4 f4) full ab 0⟩
noncomputable def itN:St:=⟨zp3 ru tg k1 b1 d1 s1 l1 f1 n (j+1),apI (dI q1 q2 q3 q4 w e f) (dW k4 b4 d4 s4 l4 f4) full ab 0++[.var (fM s o i t vs es),.var (dW a b c s2 l g)]⟩
noncomputable def itE:St:=⟨zp3 ru tg k1 b1 d1 s1 l1 f1 n j++[(16,ak false)],apI (dI q1 q2 q3 q4 w e f) (dW k4 b4 d4 s4 l4 f4) full ab 0⟩
noncomputable def itF:St:=⟨[],apI (dI q1 q2 q3 q4 w e f) (dW k4 b4 d4 s4 l4 f4) full ab er++[.var (fM s o i t vs es),.var (dW a b c s2 l g)]⟩
theorem Jm:canon 7 (itH ru tg k1 b1 d1 s1 l1 f1 n j q1 q2 q3 q4 w e f k4 b4 d4 s4 l4 f4 full ab)=some (itH ru tg k1 b1 d1 s1 l1 f1 n j q1 q2 q3 q4 w e f k4 b4 d4 s4 l4 f4 full ab):=by kernel_rfl
theorem CV:canon 7 (itN ru tg k1 b1 d1 s1 l1 f1 n j q1 q2 q3 q4 w e f k4 b4 d4 s4 l4 f4 full ab s o i t vs es a b c s2 l g)=some (itH ru tg k1 b1 d1 s1 l1 f1 n (j+1) q1 q2 q3 q4 w e f k4 b4 d4 s4 l4 f4 full ab):=by kernel_rfl
theorem ZG (h:¬j<n):run (ah tab ext N) 7 N (aH 95 0) (itH ru tg k1 b1 d1 s1 l1 f1 n j q1 q2 q3 q4 w e f k4 b4 d4 s4 l4 f4 full ab)=some (.exit 0,itE ru tg k1 b1 d1 s1 l1 f1 n j q1 q2 q3 q4 w e f k4 b4 d4 s4 l4 f4 full ab):=
 ruA [(16,.b false)] (pf1 (aO h))
variable (hj:j<n) (hi:ru[j]?=some (fM s o i t vs es))
include hj hi
theorem zio (zgb:Gam.aF (ah tab ext N) 87 [.agg (jH o i t vs es),.agg (dW k1 b1 d1 s1 l1 f1)]=some (.tup [.agg (dW a b c s2 l g),num er]))(he:(er !=0)=true):run (ah tab ext N) 7 N (aH 95 0) (itH ru tg k1 b1 d1 s1 l1 f1 n j q1 q2 q3 q4 w e f k4 b4 d4 s4 l4 f4 full ab)=some (.ret,itF q1 q2 q3 q4 w e f k4 b4 d4 s4 l4 f4 full ab s o i t vs es a b c s2 l g er):=
 ruA [(16,.b true),(18,.e (fM s o i t vs es)),(24,.p (.tup [.agg (dW a b c s2 l g),num er])),(28,.b true)] (pf4 (aN hj) hi zgb he)
theorem Pj (hn:n<=1000)(zgb:Gam.aF (ah tab ext N) 87 [.agg (jH o i t vs es),.agg (dW k1 b1 d1 s1 l1 f1)]=some (.tup [.agg (dW a b c s2 l g),num 0]))(htg:tg[j]?=some [.sl false 3 ls])
  (hy:ah tab ext N .yl [.yl 0,.sl false 3 ls,.agg (dW a b c s2 l g)] (apS (dI q1 q2 q3 q4 w e f) (dW k4 b4 d4 s4 l4 f4) full ab)=some (.v (.bool true),apS (dI q1 q2 q3 q4 w e f) (dW k3 b3 d3 s3 l3 f3) full' ab')):
  run (ah tab ext N) 7 N (aH 95 0) (itH ru tg k1 b1 d1 s1 l1 f1 n j q1 q2 q3 q4 w e f k4 b4 d4 s4 l4 f4 full ab)=some (.norm,itN ru tg k1 b1 d1 s1 l1 f1 n j q1 q2 q3 q4 w e f k3 b3 d3 s3 l3 f3 full' ab' s o i t vs es a b c s2 l g):=
 ruA [(16,.b true),(18,.e (fM s o i t vs es)),(24,.p (.tup [.agg (dW a b c s2 l g),num 0])),(35,.e [.sl false 3 ls]),(38,.r (.v (.bool true)) (apS (dI q1 q2 q3 q4 w e f) (dW k3 b3 d3 s3 l3 f3) full' ab')),(40,.i (Int.ofNat (j+1)))] (pf6 (aN hj) hi zgb htg hy (aB (j:=j) (by omega)))
end
structure zlu (ru:qaY) (x0:List X) (ev:Nat->List X×Int) (B:Nat):Prop where
 all:∀j,j<ru.length->∀s o i t vs es,ru[j]?=some (fM s o i t vs es)->okV (ev j).1/\(0<=(ev j).2/\(ev j).2<=100)/\∀N,B<=N->Gam.aF (ah tab ext N) 87 [.agg (jH o i t vs es),.agg x0]=some (.tup [.agg (ev j).1,num (ev j).2])
def Xf:List X:=dW 9 0 0 ⟨#[]⟩ [] []
theorem zgv:okV Xf:=⟨9,0,0,⟨#[]⟩,[],[],rfl,1,dH (by decide) (qaa.2 rfl) ⟨⟨rfl,(fun a e=>by cases e),(fun a e=>by cases e)⟩,⟨rfl,(fun a e=>by cases e),(fun a e=>by cases e)⟩,⟨rfl,(fun a e=>by cases e),(fun a e=>by cases e)⟩,⟨by decide,by decide⟩,⟨rfl,by decide,by decide,fun e he=>by grind⟩,⟨rfl,by decide,by decide,fun e he=>by grind⟩,trivial⟩⟩
theorem ZE (ru:qaY)(pr:Nat->qaY×Int)(B0:Nat)(h:Rules ru pr B0)(hok:∀j,j<ru.length->(pr j).2=0)(k1 b1 d1:Int)(s1:qaZ)(l1 f1:qaY)(ev:Nat->List X×Int)(Be:Nat)(he:zlu ru (dW k1 b1 d1 s1 l1 f1) ev Be){q1 q2 q3 q4:Int}{w e f:qaY}(hT:D T (H+1) 14 (dI q1 q2 q3 q4 w e f)):
  ∃(out:List X) (full:Int) (ab:Bool) (fl:Int),okV out/\(0<=full/\full<=100)/\(0<=fl/\fl<=100)/\∃B,∀N,B<=N->ah tab ext N (.fn 95) [.yl 0,.dp [.sl false 6 ru],.dp (dW k1 b1 d1 s1 l1 f1),.ptr 1 0 0] (apI (dI q1 q2 q3 q4 w e f) Xf 0 false 0)=some (.tup [],apI (dI q1 q2 q3 q4 w e f) out full ab fl):=by
 have hl:=h.len;obtain ⟨ex,σ',B,hQ,hloop⟩:=jC (nIn:=7) (b:=aH 95 0) (H:=fun p:Nat×(Int×Int×Int×qaZ×qaY×qaY)×Int×Bool=>itH ru (tgts pr ru.length) k1 b1 d1 s1 l1 f1 ru.length p.1 q1 q2 q3 q4 w e f p.2.1.1 p.2.1.2.1 p.2.1.2.2.1 p.2.1.2.2.2.1 p.2.1.2.2.2.2.1 p.2.1.2.2.2.2.2 p.2.2.1 p.2.2.2)
  (I:=fun p=>p.1<=ru.length/\okV (dW p.2.1.1 p.2.1.2.1 p.2.1.2.2.1 p.2.1.2.2.2.1 p.2.1.2.2.2.2.1 p.2.1.2.2.2.2.2)/\0<=p.2.2.1/\p.2.2.1<=100) (μ:=fun p=>ru.length-p.1)
  (Q:=fun ex σ'=>(∃(k4 b4 d4:Int) (s4:qaZ) (l4 f4:qaY) (full:Int) (ab:Bool) (s:qaZ) (o i:Int) (t:qaZ) (vs es:qaY) (a b c:Int) (s2:qaZ) (l g:qaY) (er:Int),ex=.ret/\σ'=itF q1 q2 q3 q4 w e f k4 b4 d4 s4 l4 f4 full ab s o i t vs es a b c s2 l g er/\okV (dW k4 b4 d4 s4 l4 f4)/\(0<=full/\full<=100)/\0<=er/\er<=100)\/
   (∃(k4 b4 d4:Int) (s4:qaZ) (l4 f4:qaY) (full:Int) (ab:Bool),ex=.exit 0/\σ'=itE ru (tgts pr ru.length) k1 b1 d1 s1 l1 f1 ru.length ru.length q1 q2 q3 q4 w e f k4 b4 d4 s4 l4 f4 full ab/\okV (dW k4 b4 d4 s4 l4 f4)/\0<=full/\full<=100)) (fun p hp=>by
   obtain ⟨j,⟨k4,b4,d4,s4,l4,f4⟩,full,ab⟩:=p;obtain ⟨i1,i2,i3,i4⟩:=hp;dsimp only at i1 i2 i3 i4 ⊢;by_cases hj:j<ru.length
   ·obtain ⟨s,o,i,t,vs,es,hi,_,_,hP,_⟩:=h.rule j hj;obtain ⟨⟨a,b,c,s2,l,g,hv,hD⟩,her,zgb⟩:=he.all j hj s o i t vs es hi;have e0:=hok j hj;generalize hq:pr j=q at hP e0;generalize ev j=y at hv hD her zgb;obtain ⟨y,er⟩:=y;dsimp only at hv hD her zgb;subst hv;obtain ⟨ls,pe⟩:=q;dsimp only at e0;subst e0;rcases hP with ⟨⟨c1,_⟩,_⟩|⟨_,⟨n1,n2⟩,n3⟩
    ·grind
    dsimp only at n1 n2 n3;cases hz:(er !=0) with
    |true=>exact .inr ⟨_,_,Be,(by grind),.inl ⟨k4,b4,d4,s4,l4,f4,full,ab,s,o,i,t,vs,es,a,b,c,s2,l,g,er,rfl,rfl,i2,⟨i3,i4⟩,her⟩,fun M hM=>zio ru (tgts pr ru.length) k1 b1 d1 s1 l1 f1 ru.length j q1 q2 q3 q4 w e f k4 b4 d4 s4 l4 f4 full ab s o i t vs es a b c s2 l g er M hj hi (zgb M hM) hz⟩
    |false=>
     have er0:er=0:=by simpa using hz
     subst er0;obtain ⟨out',full',ab',⟨k3,b3,d3,s3,l3,f3,ho',hD'⟩,zvb,By,hy⟩:=zfi hT n1 n2 (IX n3) i2 (⟨a,b,c,s2,l,g,rfl,hD⟩:okV (dW a b c s2 l g)) full ⟨i3,i4⟩ ab;subst ho';have htg:(tgts pr ru.length)[j]?=some [.sl false 3 ls]:=by rw [zcC pr hj,hq]
     exact .inl ⟨_,(j+1,(k3,b3,d3,s3,l3,f3),full',ab'),Be+By,fun M hM=>Pj ru (tgts pr ru.length) k1 b1 d1 s1 l1 f1 ru.length j q1 q2 q3 q4 w e f k4 b4 d4 s4 l4 f4 k3 b3 d3 s3 l3 f3 full full' ab ab' s o i t vs es ls a b c s2 l g M hj hi (by omega) (zgb M (by omega)) htg (hy M (by omega)),CV ..,⟨by grind,⟨k3,b3,d3,s3,l3,f3,rfl,hD'⟩,zvb⟩,by grind⟩
   obtain rfl:j=ru.length:=by omega
   exact .inr ⟨_,_,0,(by grind),.inr ⟨k4,b4,d4,s4,l4,f4,full,ab,rfl,rfl,i2,i3,i4⟩,fun M _=>ZG ru (tgts pr ru.length) k1 b1 d1 s1 l1 f1 ru.length ru.length q1 q2 q3 q4 w e f k4 b4 d4 s4 l4 f4 full ab M hj⟩)
  (a:=(0,(9,0,0,⟨#[]⟩,[],[]),0,false)) ⟨Nat.zero_le _,zgv,by decide,by decide⟩ (Jm ..)
 have ht:=fun N hN=>KU ru pr B0 h N hN;generalize tgts pr ru.length=tg at ht hloop hQ;rcases hQ with ⟨k4,b4,d4,s4,l4,f4,full,ab,s,o,i,t,vs,es,a,b,c,s2,l,g,er,rfl,rfl,ho,hfu,her⟩|⟨k4,b4,d4,s4,l4,f4,full,ab,rfl,rfl,ho,hfu⟩
 ·refine ⟨_,full,ab,er,ho,hfu,her,B0+B+21,fun N hN=>?_⟩;obtain ⟨M,rfl⟩:∃M,N=M+1:=⟨N-1,by omega⟩;exact caB [(11,.p (.sl false 1 tg))] [(.ret,itF q1 q2 q3 q4 w e f k4 b4 d4 s4 l4 f4 full ab s o i t vs es a b c s2 l g er)] (pf2 (ht M (by omega)) (hloop M (by omega)))
 refine ⟨_,full,ab,0,ho,hfu,by decide,B0+B+21,fun N hN=>?_⟩;obtain ⟨M,rfl⟩:∃M,N=M+1:=⟨N-1,by omega⟩;have hloop:=hloop M (by omega);generalize ru.length=n at hloop;exact caB [(11,.p (.sl false 1 tg))] [(.exit 0,itE ru tg k1 b1 d1 s1 l1 f1 n n q1 q2 q3 q4 w e f k4 b4 d4 s4 l4 f4 full ab)] (pf2 (ht M (by omega)) hloop)
end Ct
namespace Ct
section
variable (ru:qaY) (k1 b1 d1:Int) (s1:qaZ) (l1 f1:qaY) (q1 q2 q3 q4:Int) (w e f:qaY) (k4 b4 d4:Int) (s4:qaZ) (l4 f4:qaY) (full fl:Int) (ab:Bool) (N:Nat)
def ztJ:List (Nat×X):=[(5,.ptr 2 0 0),(6,.ptr 3 0 0),(9,.ptr 4 0 0),(10,.ptr 5 0 0),(11,.ptr 6 0 0),(12,.ptr 7 0 0),(30,.fn 95 [.dp [.sl false 6 ru],.dp (dW k1 b1 d1 s1 l1 f1),.ptr 8 0 0])]
def zr5 (out:List X)(full:Int)(ab:Bool)(fl:Int):List Bx:=[.var [.sl false 6 ru],.var (dW k1 b1 d1 s1 l1 f1),.var (dI q1 q2 q3 q4 w e f),.var zV,.var [num fl],.var out,.var [num full],.var [ak ab],.var [.ptr 4 0 0]]
def arS:St:=⟨ztJ ru k1 b1 d1 s1 l1 f1,zr5 ru k1 b1 d1 s1 l1 f1 q1 q2 q3 q4 w e f Xf 0 false 0⟩
def arF:St:=⟨ztJ ru k1 b1 d1 s1 l1 f1,zr5 ru k1 b1 d1 s1 l1 f1 q1 q2 q3 q4 w e f (dW k4 b4 d4 s4 l4 f4) full ab fl++[.dead]⟩
theorem zsa (hy:ah tab ext N (.fn 95) [.yl 0,.dp [.sl false 6 ru],.dp (dW k1 b1 d1 s1 l1 f1),.ptr 1 0 0] (apI (dI q1 q2 q3 q4 w e f) Xf 0 false 0)=some (.tup [],apI (dI q1 q2 q3 q4 w e f) (dW k4 b4 d4 s4 l4 f4) full ab fl)):
  run (ah tab ext N) 0 N (.rf (.t 30) [31,32] [5,10,11,12] apA apB) (arS ru k1 b1 d1 s1 l1 f1 q1 q2 q3 q4 w e f)=some (.norm,arF ru k1 b1 d1 s1 l1 f1 q1 q2 q3 q4 w e f k4 b4 d4 s4 l4 f4 full fl ab):=
 U8 (g:=95) (caps:=[.dp [.sl false 6 ru],.dp (dW k1 b1 d1 s1 l1 f1),.ptr 8 0 0]) (y:=.tup []) (outb:=apI (dI q1 q2 q3 q4 w e f) (dW k4 b4 d4 s4 l4 f4) full ab fl)
  (q:=(.tup [],zr5 ru k1 b1 d1 s1 l1 f1 q1 q2 q3 q4 w e f (dW k4 b4 d4 s4 l4 f4) full ab fl++[apRec 2 5 6 7],[9,8,2,5,6,7,4])) hy (by kernel_rfl) (by kernel_rfl) (by kernel_rfl)
variable (c:Int)
theorem zlc (Jw:Gam.aF (ah tab ext N) 65 [.agg [.sl false 6 ru]]=some (num c))(hc:(c !=0)=true):Gam.aF (ah tab ext (N+1)) 38 [.agg [.sl false 6 ru],.agg (dW k1 b1 d1 s1 l1 f1),.agg (dI q1 q2 q3 q4 w e f)]=some (.tup [.agg vZ.cells,num c]):=
 puA [(18,.p (num c)),(20,.b true)] (pf2 Jw hc) (.tup [.agg zV,num c])
variable (Jw:Gam.aF (ah tab ext (N+20)) 65 [.agg [.sl false 6 ru]]=some (num 0))
include Jw
theorem zk9 (hk:(k1 !=9)=true):Gam.aF (ah tab ext (N+21)) 38 [.agg [.sl false 6 ru],.agg (dW k1 b1 d1 s1 l1 f1),.agg (dI q1 q2 q3 q4 w e f)]=some (.tup [.agg vZ.cells,num 11]):=
 puA [(18,.p (num 0)),(25,.b true)] (pf2 Jw hk) (.tup [.agg zV,num 11])
variable (hk:(k1 !=9)=false) (Tm:Gam.aF (ah tab ext (N+20)) 62 [.sl false 7 []]=some (.agg Xf)) (hrf:run (ah tab ext (N+20)) 0 (N+20) (.rf (.t 30) [31,32] [5,10,11,12] apA apB) (arS ru k1 b1 d1 s1 l1 f1 q1 q2 q3 q4 w e f)=some (.norm,arF ru k1 b1 d1 s1 l1 f1 q1 q2 q3 q4 w e f k4 b4 d4 s4 l4 f4 full fl ab))
include hk Tm hrf
theorem zbC (hf:(fl !=0)=true):Gam.aF (ah tab ext (N+21)) 38 [.agg [.sl false 6 ru],.agg (dW k1 b1 d1 s1 l1 f1),.agg (dI q1 q2 q3 q4 w e f)]=some (.tup [.agg vZ.cells,num fl]):=
 puB [(18,.p (num 0)),(25,.b false),(27,.p (.agg Xf)),(54,.b true)] [(.norm,arF ru k1 b1 d1 s1 l1 f1 q1 q2 q3 q4 w e f k4 b4 d4 s4 l4 f4 full fl ab)] (pf5 Jw hk Tm hrf hf) (.tup [.agg zV,num fl])
variable (hf:(fl !=0)=false)
include hf
theorem zlb (hg:(full !=0)=true):Gam.aF (ah tab ext (N+21)) 38 [.agg [.sl false 6 ru],.agg (dW k1 b1 d1 s1 l1 f1),.agg (dI q1 q2 q3 q4 w e f)]=some (.tup [.agg vZ.cells,num full]):=
 puB [(18,.p (num 0)),(25,.b false),(27,.p (.agg Xf)),(54,.b false),(59,.b true)] [(.norm,arF ru k1 b1 d1 s1 l1 f1 q1 q2 q3 q4 w e f k4 b4 d4 s4 l4 f4 full fl ab)] (pf6 Jw hk Tm hrf hf hg) (.tup [.agg zV,num full])
variable (hg:(full !=0)=false)
include hg
theorem zbD (ha:ab=true):Gam.aF (ah tab ext (N+21)) 38 [.agg [.sl false 6 ru],.agg (dW k1 b1 d1 s1 l1 f1),.agg (dI q1 q2 q3 q4 w e f)]=some (.tup [.agg vZ.cells,num 19]):=by subst ha;exact puB [(18,.p (num 0)),(25,.b false),(27,.p (.agg Xf)),(54,.b false),(59,.b false)] [(.norm,arF ru k1 b1 d1 s1 l1 f1 q1 q2 q3 q4 w e f k4 b4 d4 s4 l4 f4 full fl true)] (pf6 Jw hk Tm hrf hf hg) (.tup [.agg zV,num 19])
variable (ha:ab=false) (v:Val)
include ha
theorem zk8 (zex:Gam.aF (ah tab ext (N+20)) 70 [.agg (dI q1 q2 q3 q4 w e f),.agg (dW k4 b4 d4 s4 l4 f4)]=some (.tup [.agg v.cells,num 18])):Gam.aF (ah tab ext (N+21)) 38 [.agg [.sl false 6 ru],.agg (dW k1 b1 d1 s1 l1 f1),.agg (dI q1 q2 q3 q4 w e f)]=some (.tup [.agg vZ.cells,num 18]):=by subst ha;obtain ⟨v1,v2,v3,v4,v5,v6⟩:=v;exact puB [(18,.p (num 0)),(25,.b false),(27,.p (.agg Xf)),(54,.b false),(59,.b false),(68,.p (.tup [.agg (Val.mk v1 v2 v3 v4 v5 v6).cells,num 18]))] [(.norm,arF ru k1 b1 d1 s1 l1 f1 q1 q2 q3 q4 w e f k4 b4 d4 s4 l4 f4 full fl false)] (pf7 Jw hk Tm hrf hf hg zex) (.tup [.agg zV,num 18])
variable (zex:Gam.aF (ah tab ext (N+20)) 70 [.agg (dI q1 q2 q3 q4 w e f),.agg (dW k4 b4 d4 s4 l4 f4)]=some (.tup [.agg v.cells,num 0])) (zlR:Gam.aF (ah tab ext (N+20)) 71 [.agg v.cells]=some (num c))
include zex zlR
theorem zn6 (hc:(c !=0)=true):Gam.aF (ah tab ext (N+21)) 38 [.agg [.sl false 6 ru],.agg (dW k1 b1 d1 s1 l1 f1),.agg (dI q1 q2 q3 q4 w e f)]=some (.tup [.agg vZ.cells,num c]):=by subst ha;obtain ⟨v1,v2,v3,v4,v5,v6⟩:=v;exact puB [(18,.p (num 0)),(25,.b false),(27,.p (.agg Xf)),(54,.b false),(59,.b false),(68,.p (.tup [.agg (Val.mk v1 v2 v3 v4 v5 v6).cells,num 0])),(76,.p (num c)),(78,.b true)] [(.norm,arF ru k1 b1 d1 s1 l1 f1 q1 q2 q3 q4 w e f k4 b4 d4 s4 l4 f4 full fl false)] (pf9 Jw hk Tm hrf hf hg zex zlR hc) (.tup [.agg zV,num c])
theorem zla (hc:(c !=0)=false):Gam.aF (ah tab ext (N+21)) 38 [.agg [.sl false 6 ru],.agg (dW k1 b1 d1 s1 l1 f1),.agg (dI q1 q2 q3 q4 w e f)]=some (.tup [.agg v.cells,num 0]):=by subst ha;obtain ⟨v1,v2,v3,v4,v5,v6⟩:=v;exact puB [(18,.p (num 0)),(25,.b false),(27,.p (.agg Xf)),(54,.b false),(59,.b false),(68,.p (.tup [.agg (Val.mk v1 v2 v3 v4 v5 v6).cells,num 0])),(76,.p (num c)),(78,.b false)] [(.norm,arF ru k1 b1 d1 s1 l1 f1 q1 q2 q3 q4 w e f k4 b4 d4 s4 l4 f4 full fl false)] (pf9 Jw hk Tm hrf hf hg zex zlR hc) (.tup [.agg (Val.mk v1 v2 v3 v4 v5 v6).cells,num 0])
end
theorem Xb (ru:qaY)(pr:Nat->qaY×Int)(B0:Nat)(h:Rules ru pr B0)(k1 b1 d1:Int)(s1:qaZ)(l1 f1:qaY)(ev:Nat->List X×Int)(Be:Nat)(he:zlu ru (dW k1 b1 d1 s1 l1 f1) ev Be){q1 q2 q3 q4:Int}{w e f:qaY}(hT:D T 8 14 (dI q1 q2 q3 q4 w e f)):
  ∃(v:Val) (x:Int),v.wide/\(0<=x/\x<=100)/\∃B,∀N,B<=N->Gam.aF (ah tab ext N) 38 [.agg [.sl false 6 ru],.agg (dW k1 b1 d1 s1 l1 f1),.agg (dI q1 q2 q3 q4 w e f)]=some (.tup [.agg v.cells,num x]):=by
 obtain ⟨c,hc,hok,B1,Jw⟩:=zaL ru pr B0 h;cases hcz:(c !=0) with
 |true=>refine ⟨vZ,c,qB,hc,B1+1,fun N hN=>?_⟩;obtain ⟨M,rfl⟩:∃M,N=M+1:=⟨N-1,by omega⟩;exact zlc ru k1 b1 d1 s1 l1 f1 q1 q2 q3 q4 w e f M c (Jw M (by omega)) hcz
 |false=>
  obtain rfl:c=0:=by simpa using hcz
  have hok:=hok rfl;cases hk:(k1 !=9) with
  |true=>refine ⟨vZ,11,qB,by decide,B1+21,fun N hN=>?_⟩;obtain ⟨M,rfl⟩:∃M,N=M+21:=⟨N-21,by omega⟩;exact zk9 ru k1 b1 d1 s1 l1 f1 q1 q2 q3 q4 w e f M (Jw (M+20) (by omega)) hk
  |false=>
   obtain ⟨out,full,ab,fl,⟨k4,b4,d4,s4,l4,f4,rfl,Ho,hD⟩,hfu,hfl,B2,hit⟩:=ZE ru pr B0 h hok k1 b1 d1 s1 l1 f1 ev Be he (H:=7) hT;have Tm:∀M,Gam.aF (ah tab ext (M+61)) 62 [.sl false 7 []]=some (.agg Xf):=fun M=>aY (YO M) rfl;have hrf:=fun M hM=>zsa ru k1 b1 d1 s1 l1 f1 q1 q2 q3 q4 w e f k4 b4 d4 s4 l4 f4 full fl ab M (hit M hM);cases hf:(fl !=0) with
   |true=>refine ⟨vZ,fl,qB,hfl,B1+B2+82,fun N hN=>?_⟩;obtain ⟨M,rfl⟩:∃M,N=M+62:=⟨N-62,by omega⟩;exact zbC ru k1 b1 d1 s1 l1 f1 q1 q2 q3 q4 w e f k4 b4 d4 s4 l4 f4 full fl ab (M+41) (Jw _ (by omega)) hk (Tm M) (hrf _ (by omega)) hf
   |false=>
    cases hg:(full !=0) with
    |true=>refine ⟨vZ,full,qB,hfu,B1+B2+82,fun N hN=>?_⟩;obtain ⟨M,rfl⟩:∃M,N=M+62:=⟨N-62,by omega⟩;exact zlb ru k1 b1 d1 s1 l1 f1 q1 q2 q3 q4 w e f k4 b4 d4 s4 l4 f4 full fl ab (M+41) (Jw _ (by omega)) hk (Tm M) (hrf _ (by omega)) hf hg
    |false=>
     cases ha:ab with
     |true=>refine ⟨vZ,19,qB,by decide,B1+B2+82,fun N hN=>?_⟩;obtain ⟨M,rfl⟩:∃M,N=M+62:=⟨N-62,by omega⟩;exact zbD ru k1 b1 d1 s1 l1 f1 q1 q2 q3 q4 w e f k4 b4 d4 s4 l4 f4 full fl ab (M+41) (Jw _ (by omega)) hk (Tm M) (hrf _ (by omega)) hf hg ha
     |false=>
      obtain ⟨v,x,hw,hx,B3,zex⟩:=EL hT hD;rcases hx with rfl|rfl
      ·obtain ⟨c2,hc2,zlR⟩:=Fe v hw;cases hz:(c2 !=0) with
       |true=>refine ⟨vZ,c2,qB,hc2,B1+B2+B3+60025+v.size+82,fun N hN=>?_⟩;obtain ⟨M,rfl⟩:∃M,N=M+62:=⟨N-62,by omega⟩;exact zn6 ru k1 b1 d1 s1 l1 f1 q1 q2 q3 q4 w e f k4 b4 d4 s4 l4 f4 full fl ab (M+41) c2 (Jw _ (by omega)) hk (Tm M) (hrf _ (by omega)) hf hg ha v (zex _ (by omega)) (zlR _ (by omega)) hz
       |false=>refine ⟨v,0,hw,by decide,B1+B2+B3+60025+v.size+82,fun N hN=>?_⟩;obtain ⟨M,rfl⟩:∃M,N=M+62:=⟨N-62,by omega⟩;exact zla ru k1 b1 d1 s1 l1 f1 q1 q2 q3 q4 w e f k4 b4 d4 s4 l4 f4 full fl ab (M+41) c2 (Jw _ (by omega)) hk (Tm M) (hrf _ (by omega)) hf hg ha v (zex _ (by omega)) (zlR _ (by omega)) hz
      refine ⟨vZ,18,qB,by decide,B1+B2+B3+82,fun N hN=>?_⟩;obtain ⟨M,rfl⟩:∃M,N=M+62:=⟨N-62,by omega⟩;exact zk8 ru k1 b1 d1 s1 l1 f1 q1 q2 q3 q4 w e f k4 b4 d4 s4 l4 f4 full fl ab (M+41) (Jw _ (by omega)) hk (Tm M) (hrf _ (by omega)) hf hg ha v (zex _ (by omega))
end Ct
theorem J3:∀(n N:Nat) (v w:Val),v.size<=n->3*n+12<=N->v.wide->Gam.aF (ah tab ext N) 79 [.agg v.cells,.agg w.cells]=some (num (oM v w))
 |0,_,.mk ..,_,h,_,_=>by simp [Val.size] at h
 |n+1,N,.mk k i s t l f,.mk k' i' s' t' l' f',h,hN,hs=>by
  obtain ⟨M,rfl⟩:∃M,N=M+12:=⟨N-12,by omega⟩;simp only [Val.size] at h;simp only [Val.wide] at hs;obtain ⟨⟨hl0,hf0⟩,hwl,hwf⟩:=hs;have hl:=gV l;have hf:=fG f;have h1:Gam.aF (ah tab ext (M+11)) 110 [.sl false 6 (au l),.sl false 6 (au l'),.fn 79 []]=some (num (jD oM l l')):=
   DR (M+10) 79 l l' oM (fun a b ha _=>by have:=nJ ha;exact J3 n (M+10) a b (by omega) (by omega) (uQ hwl ha)) (by omega) (by omega)
  have h2:Gam.aF (ah tab ext (M+11)) 111 [.sl false 7 (aA f),.sl false 7 (aA f'),.fn 112 []]=some (num (jD TL f f')):=
   DK (M+10) 112 f f' TL (fun a b ha _=>by have:=nK ha;have hv:Gam.aF (ah tab ext (M+9)) 79 [.agg a.2.cells,.agg b.2.cells]=some (num (oM a.2 b.2)):=J3 n (M+9) a.2 b.2 (by omega) (by omega) (uS hwf ha);obtain ⟨a0,a1,a2,a3,a4,a5,a6⟩:=a;obtain ⟨b0,b1,b2,b3,b4,b5,b6⟩:=b;have ho:=BQ (M+8) [DJ a0 b0,oM (Val.mk a1 a2 a3 a4 a5 a6) (Val.mk b1 b2 b3 b4 b5 b6)] (by simp) (by simp);exact puA [(9,.p (num (DJ a0 b0))),(14,.p (num (oM (Val.mk a1 a2 a3 a4 a5 a6) (Val.mk b1 b2 b3 b4 b5 b6)))),(16,.p (num (orL [DJ a0 b0,oM (Val.mk a1 a2 a3 a4 a5 a6) (Val.mk b1 b2 b3 b4 b5 b6)])))] (pf3 (J4 (M+6) a0 b0) hv ho) (num (orL [DJ a0 b0,oM (Val.mk a1 a2 a3 a4 a5 a6) (Val.mk b1 b2 b3 b4 b5 b6)]))) (by omega) (by omega)
  have ho:=BQ (M+10) [nZ k k',nZ i i',nZ s s',DJ t t',jD oM l l',jD TL f f'] (by simp) (by simp);rw [oM,J5,J6];exact puA [(9,.p (num (nZ k k'))),(14,.p (num (nZ i i'))),(19,.p (num (nZ s s'))),(24,.p (num (DJ t t'))),(29,.p (num (jD oM l l'))),(34,.p (num (jD TL f f'))),(36,.p (num (orL [nZ k k',nZ i i',nZ s s',DJ t t',jD oM l l',jD TL f f'])))] (pf7 (rM (M+7) k k') (rM (M+7) i i') (rM (M+7) s s') (J4 (M+8) t t') h1 h2 ho) (num (orL [nZ k k',nZ i i',nZ s s',DJ t t',jD oM l l',jD TL f f']))
theorem zkp (N:Nat)(v w:Val)(h:3*v.size+13<=N)(hs:v.wide):Gam.aF (ah tab ext N) 56 [.agg v.cells,.agg w.cells]=some (ak (oM v w==0)):=by obtain ⟨M,rfl⟩:∃M,N=M+1:=⟨N-1,by omega⟩;have hc:=J3 v.size M v w (Nat.le_refl _) (by omega) hs;obtain ⟨k,i,s,t,l,f⟩:=v;obtain ⟨k',i',s',t',l',f'⟩:=w;exact puA [(7,.p (num (oM (Val.mk k i s t l f) (Val.mk k' i' s' t' l' f'))))] (pf1 hc) (ak (oM (Val.mk k i s t l f) (Val.mk k' i' s' t' l' f')==0))
theorem YN (N:Nat)(v:Val)(h:3*v.size+13<=N)(hs:v.wide):Gam.aF (ah tab ext N) 56 [.agg v.cells,.agg v.cells]=some (ak true):=by have:=zkp N v v h hs;rw [wR] at this;exact this
theorem yH:∀(N:Nat) (v:Val),v.size<N->v.wide->Gam.aF (ah tab ext N) 46 [.agg v.cells]=some (.agg v.cells)
 |0,_,h,_=>by omega
 |M+1,.mk k i s t l f,h,hs=>by
  simp only [Val.size] at h;simp only [Val.wide] at hs;obtain ⟨⟨hl0,hf0⟩,hwl,hwf⟩:=hs;have hl:=gV l;have hf:=fG f;have el:=aS l;have ef:=bg f;have h1:run (ah tab ext M) 0 M (.loop (aH 46 0)) (clH k i s t (au l) (aA f) [] (au l).length 0)=some (.exit 0,clE k i s t (au l) (aA f) (au l) (au l).length (au l).length):=by
   refine bJ (σ:=fun j=>clH k i s t (au l) (aA f) ((au l).take j) (au l).length j) (k:=(au l).length) (J7 _ _ _ _ _ _ _ _ _) (fun j hj=>?_) ?_ (by simp) (by omega)
   ·have hj':j<l.length:=by omega
    have hg:=fV hj';have hm:=nJ (qah hj');have hc:=yH M l[j] (by omega) (uQ hwl (qah hj'));have hacc:j=((au l).take j).length:=by rw [qaf];omega
    rw [show (au l).take (j+1)=(au l).take j++[l[j].cells] from (dJ hg).symm];generalize l[j]=u at hc hg ⊢;obtain ⟨a1,a2,a3,a4,l',f'⟩:=u;refine ⟨_,TM M k i s t _ _ _ _ j (.mk a1 a2 a3 a4 l' f') a1 a2 a3 a4 false false (au l') (aA f') hc hg (by omega) (by omega) hacc,?_⟩;rw [DW]
   have:=zbl M k i s t (au l) (aA f) (au l) (au l).length;rw [List.take_length];exact this
  have h2:run (ah tab ext M) 0 M (.loop (aH 46 1)) ⟨[(2,.ptr 1 0 0),(3,.ptr 2 0 0),(27,.sl false 7 (aA f)),(28,nat (aA f).length),(29,nat 0)],[.var [num k,num i,num s,aC t,.sl false 6 (au l),.sl false 7 (aA f)],.var zV,.var [num k,num i,num s,aC t,.bs 3 0 (au l).length,.bs 4 0 0],.row 6 (au l),.row 7 []]⟩=some (.exit 2,cfE k i s t (aA f) (au l) (aA f) (aA f).length (aA f).length (au l).length):=by
   refine bJ (σ:=fun j=>cfH k i s t (aA f) (au l) ((aA f).take j) (aA f).length j (au l).length) (k:=(aA f).length) (by kernel_rfl) (fun j hj=>?_) ?_ (by simp) (by omega)
   ·have hj':j<f.length:=by omega
    have hg:=iD hj';have hm:=nK (qah hj');have hc:=yH M f[j].2 (by omega) (uS hwf (qah hj'));have hacc:j=((aA f).take j).length:=by rw [qaf];omega
    rw [show (aA f).take (j+1)=(aA f).take j++[aC f[j].1::f[j].2.cells] from (dJ hg).symm];generalize f[j]=u at hc hg ⊢;obtain ⟨nm,a1,a2,a3,a4,l',f'⟩:=u;refine ⟨_,TP M k i s t _ _ _ _ j _ (.mk a1 a2 a3 a4 l' f') nm a1 a2 a3 a4 false false (au l') (aA f') hc hg (by omega) (by omega) hacc,?_⟩;rw [D5]
   have:=zbn M k i s t (aA f) (au l) (aA f) (aA f).length (au l).length;rw [List.take_length];exact this
  have h3:(X.agg [num k,num i,num s,aC t,.bs 0 0 (au l).length,.bs 1 0 (aA f).length]).data [.row 6 (au l),.row 7 (aA f)] false=some (.agg (Val.mk k i s t l f).cells):=by simp [X.data,dZ,rowOf,Val.cells,num,aC]
  exact eH [] [(.exit 0,clE k i s t (au l) (aA f) (au l) (au l).length (au l).length),(.exit 2,cfE k i s t (aA f) (au l) (aA f) (aA f).length (aA f).length (au l).length)]
   (pf2 h1 h2) (bx:=[.row 6 (au l),.row 7 (aA f)]) (by kernel_rfl) h3
structure Msg.okW (m:Msg):Prop where
 st:m.st.ok
 orig:m.orig.length<=60000
 body:m.body.wide
theorem Msg.ok.w {m:Msg}(h:m.ok):m.okW:=⟨h.st,h.orig,E5 h.body⟩
theorem Zl (N:Nat)(m:Msg)(h:m.okW)(hN:190001+3*m.body.size<=N):Gam.aF (ah tab ext N) 29 [.agg m.cells,.agg m.cells]=some (ak true):=by obtain ⟨M,rfl⟩:∃M,N=M+1:=⟨N-1,by omega⟩;have h1:=Il M m.st h.st (by omega);have h2:=MO M m.orig h.orig (by omega);have h3:=YN M m.body (by omega) h.body;clear hN h;obtain ⟨⟨a1,a2⟩,a3,a4,a5,a6,a7,a8,a9,a0⟩:=m;exact puA [(9,.p (ak true)),(15,.b true),(22,.p (ak true)),(29,.p (ak true))] (pf4 h1 (eq_self a3) h2 h3) (ak true)
theorem Xu (N:Nat)(m:Msg)(h:m.ok)(v:Val)(hv:v.wide)(hN:190010+v.size<=N):Gam.aF (ah tab ext N) 75 [.agg m.cells,.agg v.cells]=some (.agg ({m with body:=v}:Msg).cells):=by obtain ⟨M,rfl⟩:∃M,N=M+1:=⟨N-1,by omega⟩;have h1:=jm M m h (by omega);have h2:=yH M v (by omega) hv;clear hN h hv;obtain ⟨⟨a1,a2⟩,a3,a4,a5,a6,a7,a8,a9,a0⟩:=m;obtain ⟨v1,v2,v3,v4,v5,v6⟩:=v;exact puA [(6,.p (.agg (Msg.mk ⟨a1,a2⟩ a3 a4 (Val.mk a5 a6 a7 a8 a9 a0)).cells)),(8,.p (.agg (Val.mk v1 v2 v3 v4 v5 v6).cells))] (pf2 h1 h2) (.agg (Msg.mk ⟨a1,a2⟩ a3 a4 (Val.mk v1 v2 v3 v4 v5 v6)).cells)
set_option linter.all false
namespace Ct
theorem ar1 (N:Nat):ah tab ext (N+1) (.fn 213) [num 1] []=some (.tup [num 0,num 0],[]):=by kernel_rfl
theorem ar2 (N:Nat):ah tab ext (N+1) (.fn 213) [num 2] []=some (.tup [num 0,num 0],[]):=by kernel_rfl
theorem ar3 (N:Nat):ah tab ext (N+1) (.fn 213) [num 3] []=some (.tup [num 1,num 1],[]):=by kernel_rfl
theorem ar4 (N:Nat):ah tab ext (N+1) (.fn 213) [num 4] []=some (.tup [num 2,num 2],[]):=by kernel_rfl
theorem ar5 (N:Nat):ah tab ext (N+1) (.fn 213) [num 5] []=some (.tup [num 2,num 2],[]):=by kernel_rfl
theorem ar6 (N:Nat):ah tab ext (N+1) (.fn 213) [num 6] []=some (.tup [num 2,num 2],[]):=by kernel_rfl
theorem ar7 (N:Nat):ah tab ext (N+1) (.fn 213) [num 7] []=some (.tup [num 2,num 2],[]):=by kernel_rfl
theorem ar8 (N:Nat):ah tab ext (N+1) (.fn 213) [num 8] []=some (.tup [num 2,num 2],[]):=by kernel_rfl
theorem ar9 (N:Nat):ah tab ext (N+1) (.fn 213) [num 9] []=some (.tup [num 2,num 2],[]):=by kernel_rfl
theorem zxd (N:Nat):ah tab ext (N+1) (.fn 213) [num 10] []=some (.tup [num 2,num 2],[]):=by kernel_rfl
theorem zxc (N:Nat):ah tab ext (N+1) (.fn 213) [num 11] []=some (.tup [num 2,num 2],[]):=by kernel_rfl
theorem zxb (N:Nat):ah tab ext (N+1) (.fn 213) [num 12] []=some (.tup [num 2,num 2],[]):=by kernel_rfl
theorem zxa (N:Nat):ah tab ext (N+1) (.fn 213) [num 13] []=some (.tup [num 2,num 2],[]):=by kernel_rfl
theorem zw9 (N:Nat):ah tab ext (N+1) (.fn 213) [num 14] []=some (.tup [num 2,num 2],[]):=by kernel_rfl
theorem zw8 (N:Nat):ah tab ext (N+1) (.fn 213) [num 15] []=some (.tup [num 2,num 2],[]):=by kernel_rfl
theorem zw7 (N:Nat):ah tab ext (N+1) (.fn 213) [num 16] []=some (.tup [num 1,num 1],[]):=by kernel_rfl
theorem zw6 (N:Nat):ah tab ext (N+1) (.fn 213) [num 17] []=some (.tup [num 2,num 2],[]):=by kernel_rfl
theorem zw5 (N:Nat):ah tab ext (N+1) (.fn 213) [num 18] []=some (.tup [num 1,num 1],[]):=by kernel_rfl
theorem zw4 (N:Nat):ah tab ext (N+1) (.fn 213) [num 19] []=some (.tup [num 1,num 1],[]):=by kernel_rfl
theorem zw3 (N:Nat):ah tab ext (N+1) (.fn 213) [num 20] []=some (.tup [num 1,num 1],[]):=by kernel_rfl
theorem zw2 (N:Nat):ah tab ext (N+1) (.fn 213) [num 21] []=some (.tup [num 3,num 3],[]):=by kernel_rfl
theorem zw1 (N:Nat):ah tab ext (N+1) (.fn 213) [num 22] []=some (.tup [num 0,num 0],[]):=by kernel_rfl
theorem zw0 (N:Nat):ah tab ext (N+1) (.fn 213) [num 23] []=some (.tup [num 2,num 2],[]):=by kernel_rfl
theorem zwZ (N:Nat):ah tab ext (N+1) (.fn 213) [num 24] []=some (.tup [num 3,num 3],[]):=by kernel_rfl
theorem zwY (N:Nat):ah tab ext (N+1) (.fn 213) [num 25] []=some (.tup [num 2,num 256],[]):=by kernel_rfl
theorem zwX (N:Nat):ah tab ext (N+1) (.fn 213) [num 26] []=some (.tup [num 0,num 0],[]):=by kernel_rfl
theorem zwW (N:Nat):ah tab ext (N+1) (.fn 213) [num 27] []=some (.tup [num 1,num 1],[]):=by kernel_rfl
theorem zwV (N:Nat):ah tab ext (N+1) (.fn 213) [num 28] []=some (.tup [num 1,num 1],[]):=by kernel_rfl
theorem zm2 {op:Int}(h1:1<=op)(h2:op<=28):op=1\/op=2\/op=3\/op=4\/op=5\/op=6\/op=7\/op=8\/op=9\/op=10\/op=11\/op=12\/op=13\/op=14\/op=15\/op=16\/op=17\/op=18\/op=19\/op=20\/op=21\/op=22\/op=23\/op=24\/op=25\/op=26\/op=27\/op=28:=by omega
def zwA:List Ctr:=[dM 213 [.ir .i64 1 28] [] none [(.tu [.k .i64 0,int],[],bd 1 1 1),(.tu [.k .i64 0,int],[],bd 1 2 2),(.tu [.k .i64 1,int],[],bd 1 3 3),(.tu [.k .i64 2,int],[],bd 1 4 15),(.tu [.k .i64 1,int],[],bd 1 16 16),(.tu [.k .i64 2,int],[],bd 1 17 17),(.tu [.k .i64 1,int],[],bd 1 18 20),(.tu [.k .i64 3,int],[],bd 1 21 21),(.tu [.k .i64 0,int],[],bd 1 22 22),(.tu [.k .i64 2,int],[],bd 1 23 23),(.tu [.k .i64 3,int],[],bd 1 24 24),(.tu [.k .i64 2,int],[],bd 1 25 25),(.tu [.k .i64 0,int],[],bd 1 26 26),(.tu [.k .i64 1,int],[],bd 1 27 28)]]
theorem eX {op lo hi a b:Int}(hs:(dM 213 [.ir .i64 1 28] [] none [(.tu [.k .i64 0,int],[],bd 1 1 1),(.tu [.k .i64 0,int],[],bd 1 2 2),(.tu [.k .i64 1,int],[],bd 1 3 3),(.tu [.k .i64 2,int],[],bd 1 4 15),(.tu [.k .i64 1,int],[],bd 1 16 16),(.tu [.k .i64 2,int],[],bd 1 17 17),(.tu [.k .i64 1,int],[],bd 1 18 20),(.tu [.k .i64 3,int],[],bd 1 21 21),(.tu [.k .i64 0,int],[],bd 1 22 22),(.tu [.k .i64 2,int],[],bd 1 23 23),(.tu [.k .i64 3,int],[],bd 1 24 24),(.tu [.k .i64 2,int],[],bd 1 25 25),(.tu [.k .i64 0,int],[],bd 1 26 26),(.tu [.k .i64 1,int],[],bd 1 27 28)]).Sat T ρ [num op] [])(hm:((.tu [.k .i64 lo,int],[],bd 1 a b):Xd)∈([(.tu [.k .i64 0,int],[],bd 1 1 1),(.tu [.k .i64 0,int],[],bd 1 2 2),(.tu [.k .i64 1,int],[],bd 1 3 3),(.tu [.k .i64 2,int],[],bd 1 4 15),(.tu [.k .i64 1,int],[],bd 1 16 16),(.tu [.k .i64 2,int],[],bd 1 17 17),(.tu [.k .i64 1,int],[],bd 1 18 20),(.tu [.k .i64 3,int],[],bd 1 21 21),(.tu [.k .i64 0,int],[],bd 1 22 22),(.tu [.k .i64 2,int],[],bd 1 23 23),(.tu [.k .i64 3,int],[],bd 1 24 24),(.tu [.k .i64 2,int],[],bd 1 25 25),(.tu [.k .i64 0,int],[],bd 1 26 26),(.tu [.k .i64 1,int],[],bd 1 27 28)]:List Xd))(h1:a<=op)(h2:op<=b)(h:∀N,ah tab ext (N+1) (.fn 213) [num op] []=some (.tup [num lo,num hi],[])):(dM 213 [.ir .i64 1 28] [] none [(.tu [.k .i64 0,int],[],bd 1 1 1),(.tu [.k .i64 0,int],[],bd 1 2 2),(.tu [.k .i64 1,int],[],bd 1 3 3),(.tu [.k .i64 2,int],[],bd 1 4 15),(.tu [.k .i64 1,int],[],bd 1 16 16),(.tu [.k .i64 2,int],[],bd 1 17 17),(.tu [.k .i64 1,int],[],bd 1 18 20),(.tu [.k .i64 3,int],[],bd 1 21 21),(.tu [.k .i64 0,int],[],bd 1 22 22),(.tu [.k .i64 2,int],[],bd 1 23 23),(.tu [.k .i64 3,int],[],bd 1 24 24),(.tu [.k .i64 2,int],[],bd 1 25 25),(.tu [.k .i64 0,int],[],bd 1 26 26),(.tu [.k .i64 1,int],[],bd 1 27 28)]).Res T Gm ρ [num op] []:=by
 have e1:op=ρ 1:=by
  cases hs.args with
  |cons w _=>exact sI w
 refine jT hm hs.zero hs.pos rfl rfl (r:=.tup [num lo,num hi]) ⟨_,rfl,rfl,⟨hi,rfl⟩,trivial⟩ (fun n' ρ' hm' z' g hn=>?_) ⟨1,fun N hN=>by obtain ⟨M,rfl⟩:∃M,N=M+1:=⟨N-1,by omega⟩;exact h M⟩;subst hn;have k1:ρ' 1=ρ 1:=hm'.same 1 (by show 1<2;decide);refine .cons (aJ.2 ⟨by show 0<3;decide,by show 1<3;decide,?_⟩) (.cons (aJ.2 ⟨by show 1<3;decide,by show 0<3;decide,?_⟩) .nil);·rw [Lin.k_v z'];unfold Lin.v;dsimp only;omega
 rw [Lin.k_v z'];unfold Lin.v;dsimp only;omega
theorem dG:ay T Gm zwA:=.one fun ρ xs bx hs=>by
 obtain ⟨ha,hb⟩:=o9 hs;obtain ⟨x,rfl,hx⟩:=zdN ha;obtain rfl:=nD hb;obtain ⟨op,rfl,a1,a2⟩:=znl hx;rcases zm2 a1 a2 with rfl|rfl|rfl|rfl|rfl|rfl|rfl|rfl|rfl|rfl|rfl|rfl|rfl|rfl|rfl|rfl|rfl|rfl|rfl|rfl|rfl|rfl|rfl|rfl|rfl|rfl|rfl|rfl;·exact eX (a:=1) (b:=1) hs (by simp) (by decide) (by decide) ar1
 ·exact eX (a:=2) (b:=2) hs (by simp) (by decide) (by decide) ar2
 ·exact eX (a:=3) (b:=3) hs (by simp) (by decide) (by decide) ar3
 ·exact eX (a:=4) (b:=15) hs (by simp) (by decide) (by decide) ar4
 ·exact eX (a:=4) (b:=15) hs (by simp) (by decide) (by decide) ar5
 ·exact eX (a:=4) (b:=15) hs (by simp) (by decide) (by decide) ar6
 ·exact eX (a:=4) (b:=15) hs (by simp) (by decide) (by decide) ar7
 ·exact eX (a:=4) (b:=15) hs (by simp) (by decide) (by decide) ar8
 ·exact eX (a:=4) (b:=15) hs (by simp) (by decide) (by decide) ar9
 ·exact eX (a:=4) (b:=15) hs (by simp) (by decide) (by decide) zxd
 ·exact eX (a:=4) (b:=15) hs (by simp) (by decide) (by decide) zxc
 ·exact eX (a:=4) (b:=15) hs (by simp) (by decide) (by decide) zxb
 ·exact eX (a:=4) (b:=15) hs (by simp) (by decide) (by decide) zxa
 ·exact eX (a:=4) (b:=15) hs (by simp) (by decide) (by decide) zw9
 ·exact eX (a:=4) (b:=15) hs (by simp) (by decide) (by decide) zw8
 ·exact eX (a:=16) (b:=16) hs (by simp) (by decide) (by decide) zw7
 ·exact eX (a:=17) (b:=17) hs (by simp) (by decide) (by decide) zw6
 ·exact eX (a:=18) (b:=20) hs (by simp) (by decide) (by decide) zw5
 ·exact eX (a:=18) (b:=20) hs (by simp) (by decide) (by decide) zw4
 ·exact eX (a:=18) (b:=20) hs (by simp) (by decide) (by decide) zw3
 ·exact eX (a:=21) (b:=21) hs (by simp) (by decide) (by decide) zw2
 ·exact eX (a:=22) (b:=22) hs (by simp) (by decide) (by decide) zw1
 ·exact eX (a:=23) (b:=23) hs (by simp) (by decide) (by decide) zw0
 ·exact eX (a:=24) (b:=24) hs (by simp) (by decide) (by decide) zwZ
 ·exact eX (a:=25) (b:=25) hs (by simp) (by decide) (by decide) zwY
 ·exact eX (a:=26) (b:=26) hs (by simp) (by decide) (by decide) zwX
 ·exact eX (a:=27) (b:=28) hs (by simp) (by decide) (by decide) zwW
 exact eX (a:=27) (b:=28) hs (by simp) (by decide) (by decide) zwV
def zqB:List Ctr:=[mkC 214 [int] [] none [((.kb true),[]),((.kb false),[])]]
theorem bP:ay T Gm zqB:=hoA K .nil
def zqA:List Ctr:=[mkC 215 [int] [] none [((.kb true),[]),((.kb false),[])]]
theorem bM:ay T Gm zqA:=hoA K .nil
def zqz:List Ctr:=[mkC 217 [part] [] none [(.kb true,[]),(.kb false,[])]]
theorem bH:ay T Gm zqz:=hoA K .nil
def zqC:List Ctr:=[mkC 124 [.sl 3 7,.fn 217 []] [] none [(.ir .i64 (-1) 1000000,[])]]
theorem zeb:ay T Gm zqC:=hoB K ((iM [⟨[0,1,7,8],fun e n=>(n+1,[aj (.k 0) ⟨n+0,0⟩,aj ⟨n+0,0⟩ (e 1)],[(0,.sl none 3 7 (e 0) (e 1)),(1,.fn 217 []),(7,.i .i64 (e 1)),(8,.i .i64 ⟨n+0,0⟩)],[],(e 1,⟨n+0,0⟩))⟩])) bH
def zqD:List Ctr:=[mkC 90 [.sl 3 7,.fn 217 []] [] none [(.kb true,[]),(.kb false,[])]]
theorem bQ:ay T Gm zqD:=hoA K (hpA zeb bH)
end Ct
end Go.Proofs.YtpcjeobkehmhpaaGreatDoor
