/-.-/
import Derived.Test.YtpcjeobkehmhpaaGreatDoorEmU3
set_option linter.unusedSimpArgs false
set_option linter.unusedVariables false
namespace Go.Em
variable {b b' bx:List Bx}{r:Nat}{y:X}
variable {P:Program} {R:aT} {x:Ctx} {K:Kn} {C:List CB} {σ:St} {a:Act} {w:World}
variable {A:Ann} {Γ:Gam}
def zos (Γ:Gam)(tm:List (Nat×X))(b b':List Bx)(i:I)(y:X)(fp:FP):Prop:=
 b'=b/\∀b2:List Bx,(∀r,r∈fp.rd->b2[r]?=b[r]?)->aG Γ ⟨tm,b2⟩ i=some (y,b2,fp)
theorem kC {tm:List (Nat×X)}{i:I}{fp:FP}(f:Option X)(h:∀b2:List Bx,aG Γ ⟨tm,b2⟩ i=f.map fun z=>(z,b2,⟨false,[],[]⟩))(e:aG Γ ⟨tm,b⟩ i=some (y,b',fp)):
  zos Γ tm b b' i y fp/\∀r,r∉fp.wr->b'[r]?=b[r]?:=by
 rw [h b] at e;obtain ⟨z,hz,e1⟩:=map_some e;cases e1;exact ⟨⟨rfl,fun b2 _=>by grind⟩,fun _ _=>rfl⟩
theorem LD {i:Nat}{B:Bx}(h:r≠i):(bx.set i B)[r]?=bx[r]?:=by grind
theorem zlG {l:List Bx}(h:∀k,k<l.length->r≠bx.length+k):(bx++l)[r]?=bx[r]?:=by grind
theorem wS {fv:Fv}{args:List X}{sel:List Nat}(e:iT Γ fv args b=some (y,b',sel))(h:r∉sel++List.range' b.length (b'.length-b.length)):b'[r]?=b[r]?:=by
 unfold iT at e;dsimp only at e;split at e
 ·split at e
  ·grind
  split at e
  ·grind
  split at e
  ·cases e;simp only [qaK,not_or,List.mem_range'_1,not_and,Nat.not_lt,qau,fH,qaL] at h
   grind[fH,kW]
  grind
 grind
theorem AP {tm:List (Nat×X)}{b b':List Bx}{i:I}{y:X}{fp:FP}(e:aG Γ ⟨tm,b⟩ i=some (y,b',fp)):
  (fp.eff=false->zos Γ tm b b' i y fp)/\∀r,r∉fp.wr->b'[r]?=b[r]?:=by
 have hev:=fun b2 q=>Dx tm b2 [] q;cases i with
 |mov p=>have:=kC ((St.ev ⟨tm,[]⟩ p)) (fun b2=>by grind[aG]) e;grind
 |pick c p q=>
  have:=kC (match St.ev ⟨tm,[]⟩ c,St.ev ⟨tm,[]⟩ p,St.ev ⟨tm,[]⟩ q with|some (.v (.bool t)),some y1,some y2=>some (if t then y1 else y2)|_,_,_=>none)
   (fun b2=>by grind[aG]) e
  grind
 |alloc z=>
  simp only [aG,qag,qaJ] at e
  grind
 |box p=>
  simp only [aG] at e
  grind
 |build z ps=>
  have:=kC (match kG ⟨tm,[]⟩ ps with|none=>none|some ps=>(EK z ps).map .agg) (fun b2=>by grind[aG,L6,Option.map_map,Function.comp_def]) e
  grind
 |D8 n z ps=>
  have:=kC (match lg ⟨tm,[]⟩ ps with|none=>none|some ps=>if n==ps.length then (pY z.length 0 ps).map (.sl true z.length) else none) (fun b2=>by grind[aG,L9,Option.map_map,Function.comp_def]) e
  grind
 |load n p=>
  simp only [aG] at e;split at e
  ·grind
  rename_i q hq;obtain ⟨z,hz,e1⟩:=map_some e;cases e1;refine ⟨fun _=>⟨rfl,fun b2 h2=>?_⟩,fun _ _=>rfl⟩
  grind[aG,zdC]
 |store n p q=>
  simp only [aG] at e;split at e
  ·obtain ⟨z,hz,e1⟩:=map_some e;cases e1;refine ⟨fun h=>by grind,fun r hr=>?_⟩;unfold kD at hz;split at hz
   ·split at hz
    ·rename_i i e o;simp only [jX,qaa] at hr;split at hz
     ·split at hz;·obtain ⟨cs,_,rfl⟩:=map_some hz<;>simp_all[LD]
      grind
     ·split at hz
      ·grind
      split at hz;·obtain ⟨cs,_,rfl⟩:=map_some hz<;>simp_all[LD]
      grind
     grind
    grind
   grind
  grind
 |bin op p q=>
  have:=kC (match St.ev ⟨tm,[]⟩ p,St.ev ⟨tm,[]⟩ q with|some (.v m),some (.v n)=>(kH op m n).map .v|_,_=>none) (fun b2=>by grind[aG,Option.map_map,Function.comp_def]) e
  grind
 |beq n p q=>
  have:=kC (match St.ev ⟨tm,[]⟩ p,St.ev ⟨tm,[]⟩ q with|some (.v (.bool m)),some (.v (.bool k))=>some (.v (.bool (if n then !(m==k) else m==k)))|_,_=>none) (fun b2=>by grind[aG]) e
  grind
 |ceq ks n p q=>
  have:=kC (match St.ev ⟨tm,[]⟩ p,St.ev ⟨tm,[]⟩ q with|some (.agg m),some (.agg k)=>(uN ks m k).map fun e=>.v (.bool (if n then !e else e))|_,_=>none) (fun b2=>by grind[aG,Option.map_map,Function.comp_def]) e
  grind
 |zfM n p=>
  have:=kC (match St.ev ⟨tm,[]⟩ p with|some (.bs _ _ (_+1))=>some (.v (.bool n))|some (.sl _ _ (_::_))=>some (.v (.bool n))|_=>none) (fun b2=>by grind[aG]) e
  grind
 |un op p=>
  have:=kC (match St.ev ⟨tm,[]⟩ p with|some (.v m)=>(unV op m).map .v|_=>none) (fun b2=>by grind[aG,Option.map_map,Function.comp_def]) e
  grind
 |conv k p=>
  have:=kC (match St.ev ⟨tm,[]⟩ p with|some (.v (.int _ n))=>some (.v (.int k (k.wrap n)))|_=>none) (fun b2=>by grind[aG]) e
  grind
 |idc p=>
  have:=kC (match St.ev ⟨tm,[]⟩ p with|some (.v (.string s))=>some (.v (.string s))|_=>none) (fun b2=>by grind[aG]) e
  grind
 |s2b p=>
  have:=kC (match St.ev ⟨tm,[]⟩ p with|some (.v (.string s))=>some (.sl false 1 (byteRow s))|_=>none) (fun b2=>by grind[aG]) e
  grind
 |zlJ f l=>
  have:=kC ((evs ⟨tm,[]⟩ l).map (.fn f)) (fun b2=>by grind[aG,TB,Option.map_map,Function.comp_def]) e
  grind
 |zf0 n z p q=>
  simp only [aG] at e
  grind
 |slice s p lo hi mx=>
  simp only [aG] at e;split at e
  ·rename_i t s' es hq;have:fp=⟨false,[],[]⟩/\b'=b:=by
    split at e
    ·grind
    ·grind
   obtain ⟨rfl,rfl⟩:=this;refine ⟨fun _=>⟨rfl,fun b2 _=>?_⟩,fun _ _=>rfl⟩;simp only [aG,Dx tm b2 b',vT tm b2 b',hq];split at e
   ·grind
   grind
  ·rename_i i off len hq;split at e
   ·rename_i l h el eh;split at e
    ·rename_i hc;split at e;next hlh=>cases e;refine ⟨fun _=>⟨rfl,fun b2 _=>?_⟩,fun _ _=>rfl⟩;simp only [aG,Dx tm b2 b,vT tm b2 b,hq,el,eh]<;>simp_all
     rename_i hlh;split at e
     ·rename_i s' es hb;split at e;next hss=>cases e;refine ⟨fun _=>⟨rfl,fun b2 h2=>?_⟩,fun _ _=>rfl⟩;simp only [aG,Dx tm b2 b,vT tm b2 b,hq,el,eh]<;>simp_all
      grind
     grind
    grind
   grind
  grind
 |tC p lo hi=>
  have:=kC (match St.ev ⟨tm,[]⟩ p with
   |some (.v (.string s))=>match dQ ⟨tm,[]⟩ 0 lo,dQ ⟨tm,[]⟩ s.size hi with
    |some l,some h=>if l<=h&&h<=s.size then some (.v (.string (s.extract l h))) else none
    |_,_=>none
   |_=>none) (fun b2=>by
   simp only [aG,hev b2,vT tm b2 []]
   grind) e
  grind
 |V7 n p=>
  have:=kC (match St.ev ⟨tm,[]⟩ p with|some (.ptr i e o)=>some (.ptr i e (o+n))|some (.dp cs)=>some (.dp (cs.drop n))|_=>none) (fun b2=>by grind[aG]) e
  grind
 |field n o p=>
  have:=kC (match St.ev ⟨tm,[]⟩ p with
   |some (.agg cs)=>match n with
    |none=>cs[o]?
    |some n=>if ((cs.drop o).take n).length==n then some (.agg ((cs.drop o).take n)) else none
   |_=>none) (fun b2=>by
   simp only [aG,hev b2]
   grind) e
  grind
 |yg ar s p q=>
  simp only [aG] at e;split at e
  ·rename_i yz n ez en;split at e
   ·rename_i t s' es;split at e;next hss=>obtain ⟨z,hz,e1⟩:=map_some e;cases e1;refine ⟨fun _=>⟨rfl,fun b2 _=>?_⟩,fun _ _=>rfl⟩<;>simp_all[aG]
    grind
   ·rename_i i off len;split at e
    ·rename_i s' es hb;split at e;next hc=>cases e;refine ⟨fun _=>⟨rfl,fun b2 h2=>?_⟩,fun _ _=>rfl⟩<;>simp_all[aG]
     grind
    grind
   ·split at e;next hc=>cases e;refine ⟨fun _=>⟨rfl,fun b2 _=>?_⟩,fun _ _=>rfl⟩<;>simp_all[aG]
    grind
   ·split at e;next hc=>cases e;refine ⟨fun _=>⟨rfl,fun b2 _=>?_⟩,fun _ _=>rfl⟩<;>simp_all[aG]
    grind
   grind
  grind
 |zlh m s r p q=>
  have:=kC (match St.ev ⟨tm,[]⟩ p,(St.ev ⟨tm,[]⟩ q).bind Ju with
   |some (.agg cs),some j=>if j<m then (match r with
    |none=>cs[j*s]?
    |some k=>if ((cs.drop (j*s)).take k).length==k then some (.agg ((cs.drop (j*s)).take k)) else none) else none
   |_,_=>none) (fun b2=>by
   simp only [aG,hev b2];cases St.ev ⟨tm,[]⟩ p with
   |none=>rfl
   |some xx=>cases xx with
    |agg cs=>cases (St.ev ⟨tm,[]⟩ q).bind Ju with
     |none=>rfl
     |some jj=>grind
    |_=>rfl) e
  grind
 |zfO p q=>
  have:=kC (match St.ev ⟨tm,[]⟩ p,(St.ev ⟨tm,[]⟩ q).bind Ju with
   |some (.v (.string s)),some n=>match s[n]? with
    |some b=>some (.v (.int .u8 b.toNat))
    |none=>none
   |_,_=>none) (fun b2=>by
   grind[aG]) e
  grind
 |Vp p=>
  have:=kC (match St.ev ⟨tm,[]⟩ p with|some (.ptr i e o)=>some (.ptr i e o)|some (.dp cs)=>some (.dp cs)|some (.fn f cs)=>some (.fn f cs)|some (.yl i)=>some (.yl i)|_=>none) (fun b2=>by grind[aG]) e
  grind
 |extract p n=>
  have:=kC (match St.ev ⟨tm,[]⟩ p with|some (.tup xs)=>xs[n]?|_=>none) (fun b2=>by grind[aG]) e
  grind
 |Vt=>
  simp only [aG,qag,qaJ] at e
  grind
 |zfZ kk m k v=>
  simp only [aG] at e;split at e
  ·split at e
   ·split at e
    ·obtain ⟨z,hz,e1⟩:=map_some e
     grind
    grind
   grind
  grind
 |zf1 kk o z m k=>
  simp only [aG] at e;split at e
  ·rename_i i kv em ek;split at e
   ·rename_i es hb;split at e;next hc=>obtain ⟨q,hz,e1⟩:=map_some e;cases e1;refine ⟨fun _=>⟨rfl,fun b2 h2=>?_⟩,fun _ _=>rfl⟩<;>simp_all[aG]
    grind
   grind
  ·rename_i kv em ek;split at e;next hc=>obtain ⟨q,hz,e1⟩:=map_some e;cases e1;refine ⟨fun _=>⟨rfl,fun b2 h2=>?_⟩,fun _ _=>rfl⟩<;>simp_all[aG]
   grind
  grind
 |copy sz d s=>
  simp only [aG] at e;split at e
  ·grind
  grind
 |zh6 m=>
  simp only [aG] at e;split at e
  ·rename_i i em;split at e;next es hb=>cases e;refine ⟨fun _=>⟨rfl,fun b2 h2=>?_⟩,fun _ _=>rfl⟩<;>simp_all[aG]
   grind
  next em=>cases e;refine ⟨fun _=>⟨rfl,fun b2 h2=>?_⟩,fun _ _=>rfl⟩<;>simp_all[aG]
  grind
 |Vu p=>
  have:=kC ((St.ev ⟨tm,[]⟩ p).map fun _=>X.ifc) (fun b2=>by grind[aG,Option.map_map,Function.comp_def]) e
  grind
 |zit n p=>
  have:=kC (match St.ev ⟨tm,[]⟩ p with|some .ifc=>some (.v (.bool n))|some (.v .nilIface)=>some (.v (.bool (!n)))|_=>none) (fun b2=>by grind[aG]) e
  grind
 |len p=>
  have:=kC (match St.ev ⟨tm,[]⟩ p with|some (.sl _ _ es)=>some (.v (.int .i64 (es.length:Int)))|some (.bs _ _ n)=>some (.v (.int .i64 (n:Int)))|_=>none) (fun b2=>by grind[aG]) e
  grind
 |slen p=>
  have:=kC (match St.ev ⟨tm,[]⟩ p with|some (.v (.string s))=>some (.v (.int .i64 (s.size:Int)))|_=>none) (fun b2=>by grind[aG]) e
  grind
 |mm m l=>
  have:=kC (match evs ⟨tm,[]⟩ l with|some (.v (.int .i64 k)::r)=>(mmV m k r).map fun z=>.v (.int .i64 z)|_=>none) (fun b2=>by grind[aG,TB,Option.map_map,Function.comp_def]) e
  grind
 |app own s n p q=>
  simp only [aG] at e;split at e
  ·rename_i yp yq ep eq;split at e
   ·grind
   rename_i sz' new hsrc;split at e
   ·grind
   rename_i hsz;split at e
   ·rename_i sz0 es;split at e
    ·rename_i hc;split at e
     ·grind
     rename_i hown;cases e;refine ⟨fun _=>⟨rfl,fun b2 h2=>?_⟩,fun _ _=>rfl⟩;simp only [aG,Dx tm b2 b,ep,eq,zcP h2,hsrc]<;>simp_all
    grind
   ·grind
   grind
  grind
 |call own ref raw f l=>
  simp only [aG] at e;split at e
  ·rename_i yf ys ef es;unfold uI at e;split at e
   ·grind
   rename_i as hconv;split at e
   ·rename_i g caps;split at e
    ·rename_i hc;split at e
     ·grind
     rename_i z hz;split at e;next hcond=>cases e;refine ⟨fun _=>⟨rfl,fun b2 h2=>?_⟩,fun _ _=>rfl⟩;simp only [qab,Bool.not_eq_true'] at hc;have hd:dZ b2 raw ys=dZ b raw ys:=Ak ys h2;simp only [aG,Dx tm b2 b,TB tm b2 b,ef,es,uI,hd,hc.1.2]<;>simp_all
     grind
    split at e
    ·split at e
     ·grind
     rename_i hz;cases e
     grind[Ew,wS]
    grind
   ·split at e
    ·split at e
     ·grind
     rename_i hz;cases e
     grind[Ew,wS]
    grind
   grind
  grind
end Go.Em
namespace Go.Em
variable {ops:Array Oper}{fp:FP}{i j:Ins}{tm:List (Nat×X)}{b b':List Bx}{fps:List FP}{l:List Ins}{L:List Nat}{d n:Nat}{σ σ' σ1:St}{y:X}
variable {P:Program} {A:Ann} {Γ:Gam}
def core (Γ:Gam)(i:Ins)(σ:St):Option (X×List Bx×FP):=
 match i.g with
 |none=>aG Γ σ i.op
 |some (s,want)=>match lk σ.tm s with
  |some (.v (.bool b))=>if b==want then aG Γ σ i.op else some (iY,σ.bx,⟨false,[],[]⟩)
  |some (.v (.tuple _))=>some (iY,σ.bx,⟨false,[],[]⟩)
  |_=>none
theorem nG (i:Ins)(σ:St):step Γ i σ=(core Γ i σ).map fun q=>(⟨yT i.dst q.1 σ.tm,q.2.1⟩,q.2.2):=by
 have hgo:qC Γ i σ=(aG Γ σ i.op).map fun q=>(⟨yT i.dst q.1 σ.tm,q.2.1⟩,q.2.2):=by
  unfold qC;cases aG Γ σ i.op with
  |none=>rfl
  |some q=>rfl
 unfold step core;cases i.g with
 |none=>grind
 |some g=>
  obtain ⟨s,want⟩:=g;dsimp only;cases lk σ.tm s with
  |none=>rfl
  |some z=>cases z with
   |v u=>cases u with
    |bool t=>
     dsimp only;by_cases h:(t==want)=true
     ·grind
     rw [if_neg h,if_neg h];rfl
    |tuple=>rfl
    |_=>rfl
   |_=>rfl
theorem QH {tm':List (Nat×X)}(h:∀n,n∈i.slots->lk tm n=lk tm' n):core Γ i ⟨tm,b⟩=core Γ i ⟨tm',b⟩:=by
 have h1:Ed tm tm' i.op.mF:=fun n hn=>h n (by
  simp [Ins.slots]
  grind)
 grind[zcM,core,Ins.slots]
theorem GI (e:core Γ i ⟨tm,b⟩=some (y,b',fp)):
  (fp.eff=false->b'=b/\∀b2:List Bx,(∀r,r∈fp.rd->b2[r]?=b[r]?)->core Γ i ⟨tm,b2⟩=some (y,b2,fp))/\∀r,r∉fp.wr->b'[r]?=b[r]?:=by
 unfold core at e ⊢;cases hg:i.g with
 |none=>rw [hg] at e;have:=AP e;exact ⟨fun h=>this.1 h,this.2⟩
 |some g=>
  obtain ⟨s,want⟩:=g;rw [hg] at e;dsimp only at e ⊢;split at e
  ·rename_i t ht;split at e;next hw=>have:=AP e;refine ⟨fun h=>?_,this.2⟩;obtain ⟨h1,h2⟩:=this.1 h<;>simp_all
   grind
  ·grind
  grind
def Hl (σ τ:St):Prop:=σ.bx=τ.bx/\∀n,lk σ.tm n=lk τ.tm n
theorem Hl.refl (σ:St):Hl σ σ:=⟨rfl,fun _=>rfl⟩
theorem Hl.trans {a b c:St}(h:Hl a b)(h':Hl b c):Hl a c:=⟨h.1.trans h'.1,fun n=>(h.2 n).trans (h'.2 n)⟩
theorem step_eq {τ:St}(h:Hl σ τ)(e:step Γ i σ=some (σ1,fp)):∃τ1,step Γ i τ=some (τ1,fp)/\Hl σ1 τ1:=by
 obtain ⟨tm,b⟩:=σ;obtain ⟨tm',b'⟩:=τ;obtain ⟨h1,h2⟩:=h;dsimp only at h1 h2;subst h1;rw [nG] at e;obtain ⟨q,hq,e1⟩:=map_some e;simp at e1;obtain ⟨rfl,rfl⟩:=e1;refine ⟨⟨yT i.dst q.1 tm',q.2.1⟩,?_,rfl,fun n=>?_⟩
 ·grind[nG,QH]
 grind[Cc]
theorem TJ {l m:List Nat}:EP l m=true↔∀r,r∈l->r∉m:=by grind[EP,pG]
theorem He (h:apart i j=true)(hd:i.dst=some d):d∉j.slots/\j.dst≠some d:=by
 simp only [apart,hd,qab,Bool.not_eq_true'] at h
 grind[pG]
theorem QZ (h:apart i j=true)(hd:j.dst=some d):d∉i.slots:=by
 simp only [apart,hd,qab,Bool.not_eq_true'] at h
 grind[pG]
theorem XW {bx bx':List Bx}{p z:X}(e:kD bx n p z=some bx'):∃k B,jX p=[k]/\bx'=bx.set k B/\∀b2:List Bx,b2[k]?=bx[k]?->kD b2 n p z=some (b2.set k B):=by
 unfold kD at e;split at e
 ·rename_i h0;split at e
  ·rename_i i e' o;split at e
   ·rename_i cs hb;split at e;next h1=>obtain ⟨cs',hs,rfl⟩:=map_some e;refine ⟨i,_,rfl,rfl,fun b2 h2=>?_⟩<;>simp_all[kD]
    grind
   ·rename_i sz es hb;split at e
    ·grind
    rename_i cs hc;split at e;next h1=>obtain ⟨cs',hs,rfl⟩:=map_some e;refine ⟨i,_,rfl,rfl,fun b2 h2=>?_⟩<;>simp_all[kD]
    grind
   grind
  grind
 grind
theorem Fj {q r:Opd}(e:aG Γ ⟨tm,b⟩ (.store n q r)=some (y,b',fp)):∃k B,fp.wr=[k]/\b'=b.set k B/\∀b2:List Bx,b2[k]?=b[k]?->aG Γ ⟨tm,b2⟩ (.store n q r)=some (y,b2.set k B,fp):=by
 simp only [aG] at e;split at e
 ·rename_i p z hp hz;obtain ⟨b1,hs,e1⟩:=map_some e;simp at e1;obtain ⟨rfl,rfl,rfl⟩:=e1
  grind[XW,aG,Dx]
 grind
theorem GH (hs:Jp i=true)(e:core Γ i ⟨tm,b⟩=some (y,b',fp)):
  (b'=b/\∀b2:List Bx,core Γ i ⟨tm,b2⟩=some (y,b2,fp))\/∃k B,fp.wr=[k]/\b'=b.set k B/\∀b2:List Bx,b2[k]?=b[k]?->core Γ i ⟨tm,b2⟩=some (y,b2.set k B,fp):=by
 obtain ⟨n,q,r,hop⟩:∃n q r,i.op=.store n q r:=by grind[Jp]
 unfold core at e ⊢;rw [hop] at e ⊢;cases hg:i.g with
 |none=>grind[Fj]
 |some g=>
  obtain ⟨s,want⟩:=g;rw [hg] at e;dsimp only at e ⊢;split at e
  ·rename_i t ht;split at e
   ·rename_i hw;obtain ⟨k,B,h1,h2,h3⟩:=Fj e
    grind
   grind
  ·grind
  grind
theorem X0 {σ2:St}{f1 f2:FP}(ha:apart i j=true)(hf:(zo9 f1 f2||zX (some i) (some j) f1 f2)=true)(e1:step Γ i σ=some (σ1,f1))(e2:step Γ j σ1=some (σ2,f2)):
  ∃τ1 τ2,step Γ j σ=some (τ1,f2)/\step Γ i τ1=some (τ2,f1)/\Hl σ2 τ2:=by
 obtain ⟨tm,b⟩:=σ;rw [nG] at e1;obtain ⟨⟨y1,b1,g1⟩,hq1,e1⟩:=map_some e1;simp at e1;obtain ⟨rfl,rfl⟩:=e1;rw [nG] at e2;obtain ⟨⟨y2,b2,g2⟩,hq2,e2⟩:=map_some e2;simp at e2;obtain ⟨rfl,rfl⟩:=e2;have hj:∀(bb:List Bx),core Γ j ⟨yT i.dst y1 tm,bb⟩=core Γ j ⟨tm,bb⟩:=fun bb=>QH fun n hn=>by rw [Cc,if_neg];grind[He]
 have hi:∀(bb:List Bx),core Γ i ⟨yT j.dst y2 tm,bb⟩=core Γ i ⟨tm,bb⟩:=fun bb=>QH fun n hn=>by rw [Cc,if_neg];grind[QZ]
 rw [hj] at hq2;have fr1:=GI hq1;have fr2:=GI hq2;have hlast:Hl ⟨yT j.dst y2 (yT i.dst y1 tm),b2⟩ ⟨yT i.dst y1 (yT j.dst y2 tm),b2⟩:=by
  refine ⟨rfl,fun n=>?_⟩;simp only [Cc];by_cases h1:i.dst=some n;·have:=(He ha h1).2<;>grind
  ·grind
 have done:∀bm,core Γ j ⟨tm,b⟩=some (y2,bm,g2)->core Γ i ⟨tm,bm⟩=some (y1,b2,g1)->∃τ1 τ2,step Γ j ⟨tm,b⟩=some (τ1,g2)/\step Γ i τ1=some (τ2,g1)/\Hl ⟨yT j.dst y2 (yT i.dst y1 tm),b2⟩ τ2:=by
  intro bm c1 c2;refine ⟨⟨yT j.dst y2 tm,bm⟩,⟨yT i.dst y1 (yT j.dst y2 tm),b2⟩,?_,?_,hlast⟩
  ·grind[nG]
  ·grind[nG]
 rw [Bool.or_eq_true] at hf;rcases hf with hf|hf
 rotate_left
 ·simp only [zX,qab,TJ] at hf;obtain ⟨⟨s1,s2⟩,hd⟩:=hf;rcases GH s1 hq1 with h1|⟨k1,B1,w1,rfl,p1⟩
  ·grind
  rcases GH s2 hq2 with h2|⟨k2,B2,w2,rfl,p2⟩
  ·grind
  have hne:k1≠k2:=fun e=>hd k1 (by grind) (by grind);have e1:(b.set k1 B1)[k2]?=b[k2]?:=List.getElem?_set_ne hne;have e2:(b.set k2 B2)[k1]?=b[k1]?:=List.getElem?_set_ne (fun e=>hne e.symm);have c1:=p2 b e1.symm;have c2:=p1 (b.set k2 B2) e2;rw [List.set_comm _ _ (fun e=>hne e.symm)] at c2;exact done _ c1 c2
 simp only [zo9,qab,Bool.not_eq_true',TJ] at hf;obtain ⟨⟨hf0,hf1⟩,hf2⟩:=hf;cases he:g1.eff with
 |false=>grind
 |true=>grind
inductive Runs (Γ:Gam) (l:List Ins) (fps:List FP):List Nat->St->St->Prop
 |nil (σ:St):Runs Γ l fps [] σ σ
 |cons {i:Nat} {L:List Nat} {σ σ1 σ2:St} {ins:Ins} {fp:FP}:l[i]?=some ins->fps[i]?=some fp->step Γ ins σ=some (σ1,fp)->Runs Γ l fps L σ1 σ2->Runs Γ l fps (i::L) σ σ2
theorem Runs.eq (h:Runs Γ l fps L σ σ'):∀{τ:St},Hl σ τ->∃τ',Runs Γ l fps L τ τ'/\Hl σ' τ':=by
 induction h with
 |nil σ=>exact fun h=>⟨_,.nil _,h⟩
 |cons h1 h2 h3 _ ih=>intro τ h;obtain ⟨τ1,h4,h5⟩:=step_eq h h3;obtain ⟨τ',h6,h7⟩:=ih h5;exact ⟨τ',.cons h1 h2 h4 h6,h7⟩
def Free (l:List Ins)(fps:List FP)(i j:Nat):Prop:=∀a b f g,l[i]?=some a->l[j]?=some b->fps[i]?=some f->fps[j]?=some g->apart a b=true/\(zo9 f g||zX (some a) (some b) f g)=true
theorem Runs.push {l:List Ins}{fps:List FP}{i:Nat}{L2:List Nat}:∀{L1:List Nat} {σ σ':St},Runs Γ l fps (i::(L1++L2)) σ σ'->(∀j,j∈L1->Free l fps i j)->∃τ,Runs Γ l fps (L1++i::L2) σ τ/\Hl σ' τ
 |[],σ,σ',h,_=>⟨σ',h,.refl _⟩
 |j::L1,σ,σ',h,hf=>by
  cases h with
  |cons a1 a2 a3 h=>
   cases h with
   |cons b1 b2 b3 h=>obtain ⟨h1,h2⟩:=hf j (by simp) _ _ _ _ a1 b1 a2 b2;obtain ⟨τ1,τ2,c1,c2,c3⟩:=X0 h1 h2 a3 b3;obtain ⟨τ',d1,d2⟩:=Runs.eq h c3;obtain ⟨τ,e1,e2⟩:=Runs.push (.cons a1 a2 c2 d1) (fun k hk=>hf k (by simp [hk]));exact ⟨τ,.cons b1 b2 c1 e1,d2.trans e2⟩
theorem Runs.order {l:List Ins}{fps:List FP}:∀{m k:Nat} {L:List Nat} {σ σ':St},Runs Γ l fps (List.range' k m) σ σ'->L.Perm (List.range' k m)->L.Pairwise (fun j i=>i<j->Free l fps i j)->∃τ,Runs Γ l fps L σ τ/\Hl σ' τ
 |0,k,L,σ,σ',h,hp,_=>by
  have:L=[]:=by simpa using hp
  subst this;exact ⟨σ',h,.refl _⟩
 |m+1,k,L,σ,σ',h,hp,hw=>by
  rw [List.range'_succ] at h hp;obtain ⟨L1,L2,rfl⟩:=List.append_of_mem (hp.symm.subset (qap));have hp':=(List.perm_cons k).1 (List.perm_middle.symm.trans hp);cases h with
  |cons h1 h2 h3 h4=>have hs:(L1++L2).Sublist (L1++k::L2):=List.Sublist.append (List.Sublist.refl _) (List.sublist_cons_self _ _);obtain ⟨τ,r1,r2⟩:=Runs.order h4 hp' (hw.sublist hs);obtain ⟨τ',r3,r4⟩:=Runs.push (.cons h1 h2 h3 r1) (fun j hj=>by have h5:=(List.pairwise_append.1 hw).2.2 j hj k (by simp);have h6:j∈List.range' (k+1) m:=hp'.subset (by simp [hj])<;>grind);exact ⟨τ',r3,r2.trans r4⟩
theorem vF {l:List Ins}{fps:List FP}:∀{m:List Ins} {k:Nat} {σ σ':St} {gs:List FP},steps Γ m σ=some (σ',gs)->(∀j,j<m.length->l[k+j]?=m[j]?/\fps[k+j]?=gs[j]?)->Runs Γ l fps (List.range' k m.length) σ σ'
 |[],k,σ,σ',gs,e,_=>by simp only [steps,qag,qaJ] at e;obtain ⟨rfl,_⟩:=e;exact .nil _
 |i::r,k,σ,σ',gs,e,h=>by
  simp only [steps] at e;split at e
  ·grind
  rename_i σ1 fp hs;obtain ⟨q,hq,e1⟩:=map_some e;simp at e1;obtain ⟨rfl,rfl⟩:=e1;rw [qaz,List.range'_succ];have h0:=h 0 (by simp);simp at h0;refine .cons h0.1 h0.2 hs (vF hq fun j hj=>?_);have:=h (j+1) (by simp;omega)<;>grind
theorem LG (e:steps Γ l σ=some (σ',fps)):Runs Γ l fps (List.range' 0 l.length) σ σ':=
 by grind[vF]
theorem Iw {rows:List Nat}{i:Nat}:∀{es:List Edge},(zhv rows es).testBit i=true->∃e∈es,Region.binds .any e=true/\(e.on=i\/(e.on<rows.length/\(rows.getD e.on 0).testBit i=true))
 |[],h=>by grind[zhv]
 |e::r,h=>by
  simp only [zhv] at h;split at h
  ·rename_i hc;rw [qab] at hc;change (((1<<<e.on)|||rows.getD e.on 0)|||zhv rows r).testBit i=true at h;rw [Nat.testBit_or,Nat.testBit_or,Bool.or_eq_true,Bool.or_eq_true] at h;rcases h with (h|h)|h;·refine ⟨e,by simp,hc.1,.inl ?_⟩<;>simp_all[Nat.one_shiftLeft,Nat.testBit_two_pow]
   ·grind
   obtain ⟨e',h1,h2⟩:=Iw h<;>grind
  obtain ⟨e',h1,h2⟩:=Iw h<;>grind
def zgo (ops:Array Oper)(rows:List Nat):Prop:=
 ∀j,j<rows.length->∀i,(rows.getD j 0).testBit i=true->∀L,Order ops L->∀L1 L2,L=L1++j::L2->i∈L1
theorem qL:∀{os:List Oper} {rows:List Nat},(xA rows os).length=rows.length+os.length
 |[],rows=>by simp [xA]
 |o::r,rows=>by rw [xA,qL]<;>grind
theorem RH {ops:Array Oper}:∀{os:List Oper} {rows:List Nat},zgo ops rows->ops.toList.drop rows.length=os->zgo ops (xA rows os)
 |[],rows,h,_=>h
 |o::r,rows,h,e=>by
  rw [xA];have ho:ops.getD rows.length default=o:=by
   have h1:(ops.toList.drop rows.length)[0]?=some o:=by rw [e];rfl
   rw [qav] at h1;simp at h1;simp [Array.getD_eq_getD_getElem?,h1]
  refine RH ?_ (by rw [qau,List.length_singleton,<-List.drop_drop,e];rfl);intro j hj i hi L hL L1 L2 eL;rw [qau,List.length_singleton] at hj;by_cases hlt:j<rows.length;·rw [qax,qar hlt,<-qax] at hi;exact h j hlt i hi L hL L1 L2 eL
  have hje:j=rows.length:=by omega
  subst hje;rw [qax,qaA (by omega)] at hi;simp at hi;obtain ⟨ed,h1,h2,h3⟩:=Iw hi;have hed:zeT (ops.getD rows.length default) ed.on=true:=by rw [ho];simp only [zeT,List.any_eq_true,qab,qaP];exact ⟨ed,h1,h2,rfl⟩
  have hm:=hL.follows L1 L2 _ eL _ hed;rcases h3 with rfl|⟨h4,h5⟩
  ·grind
  obtain ⟨A,B,rfl⟩:=List.append_of_mem hm;have:=h ed.on h4 i h5 L hL A (B++rows.length::L2) (by rw [eL];simp)<;>grind
theorem JG {i j:Nat}(hj:j<ops.size)(hi:i<j)(he:((xA [] ops.toList).getD j 0).testBit i=false):(i,j)∈Dl ops:=by
 have hlen:(xA [] ops.toList).length=ops.size:=by rw [qL];simp
 simp only [Dl,List.mem_flatMap,List.mem_range,List.mem_filterMap];refine ⟨((xA [] ops.toList).getD j 0,j),?_,i,hi,by simp only [he];rfl⟩<;>grind
theorem YB {ps:List (Nat×Nat)}(hl:l.length=ops.size)(hd:oC ops l=some ps)(e:steps Γ l σ=some (σ',fps))(hp:BL l fps ps=true)(hL:Order ops L):
  ∃τ,Runs Γ l fps L σ τ/\Hl σ' τ:=by
 refine Runs.order (LG e) ?_ ?_;·refine (List.perm_ext_iff_of_nodup hL.nodup (List.nodup_range' ..)).2 fun i=>?_;rw [hL.all i,List.mem_range'_1,hl];omega
 unfold oC at hd;dsimp only at hd;split at hd
 ·rename_i hc;simp at hd;subst hd;rw [qab] at hc;have hA:=qas.1 hc.2;have hB:=qas.1 hp;rw [List.pairwise_iff_getElem];intro p q hp hq hpq hlt;have hsplit:L=L.take p++L[p]::L.drop (p+1):=by simp
  have hjs:L[p]<ops.size:=(hL.all _).1 (qah _);have hne:((xA [] ops.toList).getD L[p] 0).testBit L[q]=false:=by
   cases hx:((xA [] ops.toList).getD L[p] 0).testBit L[q] with
   |false=>rfl
   |true=>
    have hrl:(xA [] ops.toList).length=ops.size:=by rw [qL];simp
    have h1:=RH (ops:=ops) (rows:=[]) (fun j hj=>by grind) (by simp) _ (by grind) _ hx L hL _ _ hsplit;obtain ⟨s,hs,es⟩:=List.mem_iff_getElem.1 h1;rw [List.getElem_take] at es;have hs':s<p:=by simp at hs;omega
    exact absurd es (List.pairwise_iff_getElem.1 hL.nodup s q (by omega) hq (by omega))
  have hm:=JG hjs hlt hne;have h1:=hA _ hm;have h2:=hB _ hm;intro a b f g ha hb hf hg<;>grind
 grind
end Go.Em
namespace Go.Em
variable {ops:Array Oper}{Q:Exit->Act->World->Prop}{fps:List FP}{l:List Ins}{L:List Nat}{id:Nat}{o:Oper}{r:Option Nat}{σ':St}
variable {P:Program} {R:aT} {x:Ctx} {K:Kn} {C:List CB} {σ:St} {a:Act} {w:World}
variable {A:Ann} {Γ:Gam}
theorem oU {nt:Nat}{ops:Array Oper}:∀{m:List Oper} {l:List Ins},oW P R.gl A nt ops m=some l->l.length=m.length/\∀(j:Nat) (i:Ins),l[j]?=some i->∃o,m[j]?=some o/\Rq P R.gl A nt ops o=some i
 |[],l,e=>by simp_all[oW]
 |o::m,l,e=>by
  simp only [oW] at e;split at e
  ·grind
  rename_i i hi;obtain ⟨q,hq,rfl⟩:=map_some e;obtain ⟨h1,h2⟩:=oU hq
  grind
theorem Ur {i:I}(h:zly P R.gl A o=some i):∀c,o.op≠.defer c:=by intro c e<;>simp_all[zly]
theorem Og {nt:Nat}{i:Ins}(h:Rq P R.gl A nt ops o=some i):
  i.dst=o.dst/\(∀n,o.dst=some n->n<nt)/\zly P R.gl A o=some i.op/\
   ((o.guard=none/\i.g=none)\/∃j want s,o.guard=some (j,want)/\(ops[j]?).bind (·.dst)=some s/\i.g=some (s,want)):=by
 unfold Rq at h;split at h
 ·grind
 rename_i hd;have hd':∀n,o.dst=some n->n<nt:=by intro n e;rw [e] at hd;simpa [znV] using hd
 grind
theorem Xt {i:Nat}{ins:Ins}{σ1:St}{fp:FP}(hΓ:rQ P R Γ)(h:Rel P R x K C σ a w)
  (hl:oW P R.gl A x.nt ops ops.toList=some l) (hi:l[i]?=some ins) (hs:step Γ ins σ=some (σ1,fp))
  (hn:∀K' C' a' w',Em.Rel P R x K' C' σ1 a' w'->wpOpsIn (Fr r) 0 P ops Q L a' w'):wpOpsIn (Fr r) 0 P ops Q (i::L) a w:=by
 obtain ⟨o,ho,ht⟩:=(oU hl).2 i ins hi;obtain ⟨hd,hlt,hop,hg⟩:=Og ht;have ho':ops[i]?=some o:=by simpa using ho
 have habout:∀f,o.about P w a.eval=some f->(Fr r).fn f:=fun _ _=>trivial;simp only [wpOpsIn,ho'];have hgo:qC Γ ins σ=some (σ1,fp)->o.wpIn (Fr r) 0 P a w (wpOpsIn (Fr r) 0 P ops Q L) Q:=by
  intro e;unfold qC at e;split at e
  ·grind
  rename_i y bx fp' hst;simp at e;obtain ⟨rfl,rfl⟩:=e;refine ⟨habout,?_⟩;rw [Oper.semAt_eq _ _ _ (Ur hop)];refine Ol hΓ h hop hst r _ Q fun K' C' v w' hr hp=>?_;have:=hr.set hp o.dst hlt<;>grind
 have zu3:zY ins σ=some (σ1,fp)->wpOpsIn (Fr r) 0 P ops Q L (a.put o.dst undef) w:=by intro e;unfold zY at e;simp at e;obtain ⟨rfl,rfl⟩:=e;have:=h.set (y:=iY) (v:=undef) (.v rfl) o.dst hlt;rw [<-hd] at this ⊢;exact hn K C _ w this
 unfold step at hs;rcases hg with ⟨hg1,hg2⟩|⟨j,want,s,hg1,hg2,hg3⟩;·simp_all[Region.wanted]
 rw [hg3] at hs;simp only [Region.wanted,hg1];dsimp only at hs;split at hs
 ·rename_i b hb;obtain ⟨v,hv,hr⟩:=h.tm s _ hb;have hv':=fD hr;subst hv';have hy:yielded ops a.tmps j=some b:=by simp [yielded,hg2,hv]
  grind
 next t hb=>obtain ⟨v,hv,hr⟩:=h.tm s _ hb;have hv':=fD hr<;>simp_all[yielded]
 grind
theorem FT (hΓ:rQ P R Γ)(hl:oW P R.gl A x.nt ops ops.toList=some l){σ σ':St}(hr:Runs Γ l fps L σ σ'):
  ∀{K:Kn} {C:List CB} {a:Act} {w:World},Rel P R x K C σ a w->(∀K' C' a' w',Em.Rel P R x K' C' σ' a' w'->Q .normal a' w')->wpOpsIn (Fr r) 0 P ops Q L a w:=by
 induction hr with
 |nil σ=>intro K C a w h hn;exact hn K C a w h
 |cons h1 h2 h3 h4 ih=>grind[Xt]
theorem Rel.zuQ {τ:St}(h:Rel P R x K C σ a w)(e:Hl σ τ):Rel P R x K C τ a w:=by obtain ⟨tm,bx⟩:=σ;obtain ⟨tm',bx'⟩:=τ;obtain ⟨h1,h2⟩:=e;dsimp only at h1 h2;subst h1;exact h.tms fun n y hy=>h.tm n y (by grind)
theorem Hl.symm {σ τ:St}(h:Hl σ τ):Hl τ σ:=⟨h.1.symm,fun n=>(h.2 n).symm⟩
theorem OH (hΓ:rQ P R Γ)(h:Rel P R x K C σ a w)(hl:oW P R.gl A x.nt ops ops.toList=some l)
  (hs:steps Γ l σ=some (σ',fps)) (hn:∀K' C' a' w',Em.Rel P R x K' C' σ' a' w'->Q .normal a' w'):(Code.region id ops false).wpIn (Fr r) 0 P Q a w:=by
 refine wpIn_region ?_;have:=LG hs;rw [(oU hl).1,<-List.range_eq_range'] at this<;>grind[FT]
theorem OI {ps:List (Nat×Nat)}(hΓ:rQ P R Γ)(h:Rel P R x K C σ a w)(hl:oW P R.gl A x.nt ops ops.toList=some l)
  (hd:oC ops l=some ps) (hs:steps Γ l σ=some (σ',fps)) (hp:BL l fps ps=true) (hn:∀K' C' a' w',Em.Rel P R x K' C' σ' a' w'->Q .normal a' w'):(Code.region id ops true).wpIn (Fr r) 0 P Q a w:=by
 refine wpIn_region_draw fun t=>?_;have he:JO ops=true:=by
  unfold oC at hd;dsimp only at hd;split at hd
  ·grind
  ·grind
 obtain ⟨τ,h1,h2⟩:=YB (by rw [(oU hl).1];simp) hd hs hp (Ef he (P.follows .mixedOrders) t);exact FT hΓ hl h1 (h.still (aK.drew _ w)) fun K' C' a' w' hr=>hn K' C' a' w' (hr.zuQ h2.symm)
end Go.Em
