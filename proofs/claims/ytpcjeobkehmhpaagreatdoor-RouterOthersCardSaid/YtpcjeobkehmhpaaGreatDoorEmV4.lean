/-.-/
import Derived.Test.YtpcjeobkehmhpaaGreatDoorEmV3
set_option linter.all false
namespace Go.Em
section
variable {b b' bx:List Bx}{r:Nat}{y:X}
variable {P:Program} {R:aT} {x:Ctx} {K:Kn} {C:List CB} {σ:St} {a:Act} {w:World}
variable {A:Ann} {Γ:Gam}
def zpm (Γ:Gam)(tm:List (Nat×X))(b b':List Bx)(i:I)(y:X)(fp:FP):Prop:=
 b'=b/\∀b2:List Bx,(∀r,r∈fp.rd->b2[r]?=b[r]?)->aG Γ ⟨tm,b2⟩ i=some (y,b2,fp)
theorem kJ {tm:List (Nat×X)}{i:I}{fp:FP}(f:Option X)(h:∀b2:List Bx,aG Γ ⟨tm,b2⟩ i=f.map fun z=>(z,b2,⟨false,[],[]⟩))(e:aG Γ ⟨tm,b⟩ i=some (y,b',fp)):
  zpm Γ tm b b' i y fp/\∀r,r∉fp.wr->b'[r]?=b[r]?:=by
 rw [h b] at e;obtain ⟨z,hz,a⟩:=map_some e;cases a;exact ⟨⟨rfl,fun b2 _=>by grind⟩,fun _ _=>rfl⟩
theorem Ll {i:Nat}{B:Bx}(h:r≠i):(bx.set i B)[r]?=bx[r]?:=by grind
theorem zmc {l:List Bx}(h:∀k,k<l.length->r≠bx.length+k):(bx++l)[r]?=bx[r]?:=by grind
theorem wY {fv:Fv}{args:List X}{sel:List Nat}(e:jc Γ fv args b=some (y,b',sel))(h:r∉sel++List.range' b.length (b'.length-b.length)):b'[r]?=b[r]?:=by
 unfold jc at e;dsimp only at e;split at e
 ·split at e
  ·grind
  split at e
  ·grind
  split at e
  ·cases e;simp only [qaO,not_or,List.mem_range'_1,not_and,Nat.not_lt,qaw,fM,qaK] at h
   grind[fM,lC]
  grind
 grind
theorem AY {tm:List (Nat×X)}{b b':List Bx}{i:I}{y:X}{fp:FP}(e:aG Γ ⟨tm,b⟩ i=some (y,b',fp)):
  (fp.eff=false->zpm Γ tm b b' i y fp)/\∀r,r∉fp.wr->b'[r]?=b[r]?:=by
 have H:=fun a q=>DI tm a [] q;cases i with
 |mov p=>have:=kJ ((St.ev ⟨tm,[]⟩ p)) (fun a=>by grind[aG]) e;grind
 |pick c p q=>
  have:=kJ (match St.ev ⟨tm,[]⟩ c,St.ev ⟨tm,[]⟩ p,St.ev ⟨tm,[]⟩ q with|some (.v (.bool t)),some y1,some y2=>some (if t then y1 else y2)|_,_,_=>none)
   (fun a=>by grind[aG]) e
  grind
 |alloc z=>
  simp only [aG,qaf,qaI] at e
  grind
 |box p=>
  simp only [aG] at e
  grind
 |build z ps=>
  have:=kJ (match kN ⟨tm,[]⟩ ps with|none=>none|some ps=>(EL z ps).map .agg) (fun a=>by grind[aG,LM,Option.map_map,Function.comp_def]) e
  grind
 |Ef n z ps=>
  have:=kJ (match lF ⟨tm,[]⟩ ps with|none=>none|some ps=>if n==ps.length then (qh z.length 0 ps).map (.sl true z.length) else none) (fun a=>by grind[aG,LQ,Option.map_map,Function.comp_def]) e
  grind
 |load n p=>
  simp only [aG] at e;split at e
  ·grind
  rename_i q L;obtain ⟨z,hz,E⟩:=map_some e;cases E;refine ⟨fun _=>⟨rfl,fun a B=>?_⟩,fun _ _=>rfl⟩
  grind[aG,zdZ]
 |store n p q=>
  simp only [aG] at e;split at e
  ·obtain ⟨z,hz,E⟩:=map_some e;cases E;refine ⟨fun h=>by grind,fun r hr=>?_⟩;unfold kK at hz;split at hz
   ·split at hz
    ·rename_i i e o;simp only [kE,qaa] at hr;split at hz
     ·split at hz;·obtain ⟨u,_,rfl⟩:=map_some hz<;>simp_all[Ll]
      grind
     ·split at hz
      ·grind
      split at hz;·obtain ⟨u,_,rfl⟩:=map_some hz<;>simp_all[Ll]
      grind
     grind
    grind
   grind
  grind
 |bin op p q=>
  have:=kJ (match St.ev ⟨tm,[]⟩ p,St.ev ⟨tm,[]⟩ q with|some (.v m),some (.v n)=>(kP op m n).map .v|_,_=>none) (fun a=>by grind[aG,Option.map_map,Function.comp_def]) e
  grind
 |beq n p q=>
  have:=kJ (match St.ev ⟨tm,[]⟩ p,St.ev ⟨tm,[]⟩ q with|some (.v (.bool m)),some (.v (.bool k))=>some (.v (.bool (if n then !(m==k) else m==k)))|_,_=>none) (fun a=>by grind[aG]) e
  grind
 |ceq ks n p q=>
  have:=kJ (match St.ev ⟨tm,[]⟩ p,St.ev ⟨tm,[]⟩ q with|some (.agg m),some (.agg k)=>(uU ks m k).map fun e=>.v (.bool (if n then !e else e))|_,_=>none) (fun a=>by grind[aG,Option.map_map,Function.comp_def]) e
  grind
 |zgc n p=>
  have:=kJ (match St.ev ⟨tm,[]⟩ p with|some (.bs _ _ (_+1))=>some (.v (.bool n))|some (.sl _ _ (_::_))=>some (.v (.bool n))|_=>none) (fun a=>by grind[aG]) e
  grind
 |un op p=>
  have:=kJ (match St.ev ⟨tm,[]⟩ p with|some (.v m)=>(unV op m).map .v|_=>none) (fun a=>by grind[aG,Option.map_map,Function.comp_def]) e
  grind
 |conv k p=>
  have:=kJ (match St.ev ⟨tm,[]⟩ p with|some (.v (.int _ n))=>some (.v (.int k (k.wrap n)))|_=>none) (fun a=>by grind[aG]) e
  grind
 |idc p=>
  have:=kJ (match St.ev ⟨tm,[]⟩ p with|some (.v (.string s))=>some (.v (.string s))|_=>none) (fun a=>by grind[aG]) e
  grind
 |s2b p=>
  have:=kJ (match St.ev ⟨tm,[]⟩ p with|some (.v (.string s))=>some (.sl false 1 (byteRow s))|_=>none) (fun a=>by grind[aG]) e
  grind
 |zmf f l=>
  have:=kJ ((evs ⟨tm,[]⟩ l).map (.fn f)) (fun a=>by grind[aG,TN,Option.map_map,Function.comp_def]) e
  grind
 |zgq n z p q=>
  simp only [aG] at e
  grind
 |slice s p lo hi mx=>
  simp only [aG] at e;split at e
  ·rename_i t N A L;have:fp=⟨false,[],[]⟩/\b'=b:=by
    split at e
    ·grind
    ·grind
   obtain ⟨rfl,rfl⟩:=this;refine ⟨fun _=>⟨rfl,fun a _=>?_⟩,fun _ _=>rfl⟩;simp only [aG,DI tm a b',wu tm a b',L];split at e
   ·grind
   grind
  ·rename_i i W len L;split at e
   ·rename_i l h el Z;split at e
    ·rename_i F;split at e;next S=>cases e;refine ⟨fun _=>⟨rfl,fun a _=>?_⟩,fun _ _=>rfl⟩;simp only [aG,DI tm a b,wu tm a b,L,el,Z]<;>simp_all
     rename_i S;split at e
     ·rename_i N A O;split at e;next M=>cases e;refine ⟨fun _=>⟨rfl,fun a B=>?_⟩,fun _ _=>rfl⟩;simp only [aG,DI tm a b,wu tm a b,L,el,Z]<;>simp_all
      grind
     grind
    grind
   grind
  grind
 |tN p lo hi=>
  have:=kJ (match St.ev ⟨tm,[]⟩ p with
   |some (.v (.string s))=>match dR ⟨tm,[]⟩ 0 lo,dR ⟨tm,[]⟩ s.size hi with
    |some l,some h=>if l<=h&&h<=s.size then some (.v (.string (s.extract l h))) else none
    |_,_=>none
   |_=>none) (fun a=>by
   simp only [aG,H a,wu tm a []]
   grind) e
  grind
 |Ws n p=>
  have:=kJ (match St.ev ⟨tm,[]⟩ p with|some (.ptr i e o)=>some (.ptr i e (o+n))|some (.dp u)=>some (.dp (u.drop n))|_=>none) (fun a=>by grind[aG]) e
  grind
 |field n o p=>
  have:=kJ (match St.ev ⟨tm,[]⟩ p with
   |some (.agg u)=>match n with
    |none=>u[o]?
    |some n=>if ((u.drop o).take n).length==n then some (.agg ((u.drop o).take n)) else none
   |_=>none) (fun a=>by
   simp only [aG,H a]
   grind) e
  grind
 |yu ar s p q=>
  simp only [aG] at e;split at e
  ·rename_i yz n ez en;split at e
   ·rename_i t N A;split at e;next M=>obtain ⟨z,hz,E⟩:=map_some e;cases E;refine ⟨fun _=>⟨rfl,fun a _=>?_⟩,fun _ _=>rfl⟩<;>simp_all[aG]
    grind
   ·rename_i i W len;split at e
    ·rename_i N A O;split at e;next F=>cases e;refine ⟨fun _=>⟨rfl,fun a B=>?_⟩,fun _ _=>rfl⟩<;>simp_all[aG]
     grind
    grind
   ·split at e;next F=>cases e;refine ⟨fun _=>⟨rfl,fun a _=>?_⟩,fun _ _=>rfl⟩<;>simp_all[aG]
    grind
   ·split at e;next F=>cases e;refine ⟨fun _=>⟨rfl,fun a _=>?_⟩,fun _ _=>rfl⟩<;>simp_all[aG]
    grind
   grind
  grind
 |zlO m s r p q=>
  have:=kJ (match St.ev ⟨tm,[]⟩ p,(St.ev ⟨tm,[]⟩ q).bind Jk with
   |some (.agg u),some j=>if j<m then (match r with
    |none=>u[j*s]?
    |some k=>if ((u.drop (j*s)).take k).length==k then some (.agg ((u.drop (j*s)).take k)) else none) else none
   |_,_=>none) (fun a=>by
   simp only [aG,H a];cases St.ev ⟨tm,[]⟩ p with
   |none=>rfl
   |some xx=>cases xx with
    |agg u=>cases (St.ev ⟨tm,[]⟩ q).bind Jk with
     |none=>rfl
     |some jj=>grind
    |_=>rfl) e
  grind
 |zge p q=>
  have:=kJ (match St.ev ⟨tm,[]⟩ p,(St.ev ⟨tm,[]⟩ q).bind Jk with
   |some (.v (.string s)),some n=>match s[n]? with
    |some b=>some (.v (.int .u8 b.toNat))
    |none=>none
   |_,_=>none) (fun a=>by
   grind[aG]) e
  grind
 |VD p=>
  have:=kJ (match St.ev ⟨tm,[]⟩ p with|some (.ptr i e o)=>some (.ptr i e o)|some (.dp u)=>some (.dp u)|some (.fn f u)=>some (.fn f u)|some (.yl i)=>some (.yl i)|_=>none) (fun a=>by grind[aG]) e
  grind
 |extract p n=>
  have:=kJ (match St.ev ⟨tm,[]⟩ p with|some (.tup xs)=>xs[n]?|_=>none) (fun a=>by grind[aG]) e
  grind
 |VH=>
  simp only [aG,qaf,qaI] at e
  grind
 |zgp kk m k v=>
  simp only [aG] at e;split at e
  ·split at e
   ·split at e
    ·obtain ⟨z,hz,E⟩:=map_some e
     grind
    grind
   grind
  grind
 |zgr kk o z m k=>
  simp only [aG] at e;split at e
  ·rename_i i kv P ek;split at e
   ·rename_i A O;split at e;next F=>obtain ⟨q,hz,E⟩:=map_some e;cases E;refine ⟨fun _=>⟨rfl,fun a B=>?_⟩,fun _ _=>rfl⟩<;>simp_all[aG]
    grind
   grind
  ·rename_i kv P ek;split at e;next F=>obtain ⟨q,hz,E⟩:=map_some e;cases E;refine ⟨fun _=>⟨rfl,fun a B=>?_⟩,fun _ _=>rfl⟩<;>simp_all[aG]
   grind
  grind
 |copy sz d s=>
  simp only [aG] at e;split at e
  ·grind
  grind
 |ziC m=>
  simp only [aG] at e;split at e
  ·rename_i i P;split at e;next A O=>cases e;refine ⟨fun _=>⟨rfl,fun a B=>?_⟩,fun _ _=>rfl⟩<;>simp_all[aG]
   grind
  next P=>cases e;refine ⟨fun _=>⟨rfl,fun a B=>?_⟩,fun _ _=>rfl⟩<;>simp_all[aG]
  grind
 |VI p=>
  have:=kJ ((St.ev ⟨tm,[]⟩ p).map fun _=>X.ifc) (fun a=>by grind[aG,Option.map_map,Function.comp_def]) e
  grind
 |zi0 n p=>
  have:=kJ (match St.ev ⟨tm,[]⟩ p with|some .ifc=>some (.v (.bool n))|some (.v .nilIface)=>some (.v (.bool (!n)))|_=>none) (fun a=>by grind[aG]) e
  grind
 |len p=>
  have:=kJ (match St.ev ⟨tm,[]⟩ p with|some (.sl _ _ A)=>some (.v (.int .i64 (A.length:Int)))|some (.bs _ _ n)=>some (.v (.int .i64 (n:Int)))|_=>none) (fun a=>by grind[aG]) e
  grind
 |slen p=>
  have:=kJ (match St.ev ⟨tm,[]⟩ p with|some (.v (.string s))=>some (.v (.int .i64 (s.size:Int)))|_=>none) (fun a=>by grind[aG]) e
  grind
 |mm m l=>
  have:=kJ (match evs ⟨tm,[]⟩ l with|some (.v (.int .i64 k)::r)=>(mmV m k r).map fun z=>.v (.int .i64 z)|_=>none) (fun a=>by grind[aG,TN,Option.map_map,Function.comp_def]) e
  grind
 |app own s n p q=>
  simp only [aG] at e;split at e
  ·rename_i yp yq ep eq;split at e
   ·grind
   rename_i pb pe J;split at e
   ·grind
   rename_i pd;split at e
   ·rename_i pc A;split at e
    ·rename_i F;split at e
     ·grind
     rename_i Y;cases e;refine ⟨fun _=>⟨rfl,fun a B=>?_⟩,fun _ _=>rfl⟩;simp only [aG,DI tm a b,ep,eq,zc9 B,J]<;>simp_all
    grind
   ·grind
   grind
  grind
 |call own ref raw f l=>
  simp only [aG] at e;split at e
  ·rename_i yf Q ef A;unfold uP at e;split at e
   ·grind
   rename_i as U;split at e
   ·rename_i g pa;split at e
    ·rename_i F;split at e
     ·grind
     rename_i z hz;split at e;next V=>cases e;refine ⟨fun _=>⟨rfl,fun a B=>?_⟩,fun _ _=>rfl⟩;simp only [qab,Bool.not_eq_true'] at F;have hd:eG a raw Q=eG b raw Q:=Aq Q B;simp only [aG,DI tm a b,TN tm a b,ef,A,uP,hd,F.1.2]<;>simp_all
     grind
    split at e
    ·split at e
     ·grind
     rename_i hz;cases e
     grind[Et,wY]
    grind
   ·split at e
    ·split at e
     ·grind
     rename_i hz;cases e
     grind[Et,wY]
    grind
   grind
  grind
end
section
variable {ops:Array Oper}{fp:FP}{i j:Ins}{tm:List (Nat×X)}{b b':List Bx}{fps:List FP}{l:List Ins}{L:List Nat}{d n:Nat}{σ σ' σ1:St}{y:X}
variable {P:Program} {A:Ann} {Γ:Gam}
def core (Γ:Gam)(i:Ins)(σ:St):Option (X×List Bx×FP):=
 match i.g with
 |none=>aG Γ σ i.op
 |some (s,want)=>match lk σ.tm s with
  |some (.v (.bool b))=>if b==want then aG Γ σ i.op else some (jg,σ.bx,⟨false,[],[]⟩)
  |some (.v (.tuple _))=>some (jg,σ.bx,⟨false,[],[]⟩)
  |_=>none
theorem nM (i:Ins)(σ:St):step Γ i σ=(core Γ i σ).map fun q=>(⟨yY i.dst q.1 σ.tm,q.2.1⟩,q.2.2):=by
 have f:qI Γ i σ=(aG Γ σ i.op).map fun q=>(⟨yY i.dst q.1 σ.tm,q.2.1⟩,q.2.2):=by
  unfold qI;cases aG Γ σ i.op with
  |none=>rfl
  |some q=>rfl
 unfold step core;cases i.g with
 |none=>grind
 |some g=>
  obtain ⟨s,a⟩:=g;dsimp only;cases lk σ.tm s with
  |none=>rfl
  |some z=>cases z with
   |v u=>cases u with
    |bool t=>
     dsimp only;by_cases h:(t==a)=true
     ·grind
     rw [if_neg h,if_neg h];rfl
    |tuple=>rfl
    |_=>rfl
   |_=>rfl
theorem QJ {tm':List (Nat×X)}(h:∀n,n∈i.slots->lk tm n=lk tm' n):core Γ i ⟨tm,b⟩=core Γ i ⟨tm',b⟩:=by
 have a:Eo tm tm' i.op.mW:=fun n f=>h n (by
  simp [Ins.slots]
  grind)
 grind[zc6,core,Ins.slots]
theorem GZ (e:core Γ i ⟨tm,b⟩=some (y,b',fp)):
  (fp.eff=false->b'=b/\∀b2:List Bx,(∀r,r∈fp.rd->b2[r]?=b[r]?)->core Γ i ⟨tm,b2⟩=some (y,b2,fp))/\∀r,r∉fp.wr->b'[r]?=b[r]?:=by
 unfold core at e ⊢;cases f:i.g with
 |none=>rw [f] at e;have:=AY e;exact ⟨fun h=>this.1 h,this.2⟩
 |some g=>
  obtain ⟨s,a⟩:=g;rw [f] at e;dsimp only at e ⊢;split at e
  ·rename_i t j;split at e;next l=>have:=AY e;refine ⟨fun h=>?_,this.2⟩;obtain ⟨m,n⟩:=this.1 h<;>simp_all
   grind
  ·grind
  grind
def HY (σ τ:St):Prop:=σ.bx=τ.bx/\∀n,lk σ.tm n=lk τ.tm n
theorem HY.refl (σ:St):HY σ σ:=⟨rfl,fun _=>rfl⟩
theorem HY.trans {a b c:St}(h:HY a b)(h':HY b c):HY a c:=⟨h.1.trans h'.1,fun n=>(h.2 n).trans (h'.2 n)⟩
theorem step_eq {τ:St}(h:HY σ τ)(e:step Γ i σ=some (σ1,fp)):∃τ1,step Γ i τ=some (τ1,fp)/\HY σ1 τ1:=by
 obtain ⟨tm,b⟩:=σ;obtain ⟨a,m⟩:=τ;obtain ⟨j,l⟩:=h;dsimp only at j l;subst j;rw [nM] at e;obtain ⟨q,u,f⟩:=map_some e;simp at f;obtain ⟨rfl,rfl⟩:=f;refine ⟨⟨yY i.dst q.1 a,q.2.1⟩,?_,rfl,fun n=>?_⟩
 ·grind[nM,QJ]
 grind[CJ]
theorem TT {l m:List Nat}:ER l m=true↔∀r,r∈l->r∉m:=by grind[ER,pK]
theorem Hw (h:apart i j=true)(hd:i.dst=some d):d∉j.slots/\j.dst≠some d:=by
 simp only [apart,hd,qab,Bool.not_eq_true'] at h
 grind[pK]
theorem Q7 (h:apart i j=true)(hd:j.dst=some d):d∉i.slots:=by
 simp only [apart,hd,qab,Bool.not_eq_true'] at h
 grind[pK]
theorem X8 {bx bx':List Bx}{p z:X}(e:kK bx n p z=some bx'):∃k B,kE p=[k]/\bx'=bx.set k B/\∀b2:List Bx,b2[k]?=bx[k]?->kK b2 n p z=some (b2.set k B):=by
 unfold kK at e;split at e
 ·rename_i q;split at e
  ·rename_i i A o;split at e
   ·rename_i m f;split at e;next h=>obtain ⟨a,j,rfl⟩:=map_some e;refine ⟨i,_,rfl,rfl,fun b2 l=>?_⟩<;>simp_all[kK]
    grind
   ·rename_i E y f;split at e
    ·grind
    rename_i m u;split at e;next h=>obtain ⟨a,j,rfl⟩:=map_some e;refine ⟨i,_,rfl,rfl,fun b2 l=>?_⟩<;>simp_all[kK]
    grind
   grind
  grind
 grind
theorem Fq {q r:Opd}(e:aG Γ ⟨tm,b⟩ (.store n q r)=some (y,b',fp)):∃k B,fp.wr=[k]/\b'=b.set k B/\∀b2:List Bx,b2[k]?=b[k]?->aG Γ ⟨tm,b2⟩ (.store n q r)=some (y,b2.set k B,fp):=by
 simp only [aG] at e;split at e
 ·rename_i p z j hz;obtain ⟨h,f,a⟩:=map_some e;simp at a;obtain ⟨rfl,rfl,rfl⟩:=a
  grind[X8,aG,DI]
 grind
theorem GY (hs:Jh i=true)(e:core Γ i ⟨tm,b⟩=some (y,b',fp)):
  (b'=b/\∀b2:List Bx,core Γ i ⟨tm,b2⟩=some (y,b2,fp))\/∃k B,fp.wr=[k]/\b'=b.set k B/\∀b2:List Bx,b2[k]?=b[k]?->core Γ i ⟨tm,b2⟩=some (y,b2.set k B,fp):=by
 obtain ⟨n,q,r,a⟩:∃n q r,i.op=.store n q r:=by grind[Jh]
 unfold core at e ⊢;rw [a] at e ⊢;cases h:i.g with
 |none=>grind[Fq]
 |some g=>
  obtain ⟨s,f⟩:=g;rw [h] at e;dsimp only at e ⊢;split at e
  ·rename_i t j;split at e
   ·rename_i l;obtain ⟨k,B,u,A,m⟩:=Fq e
    grind
   grind
  ·grind
  grind
theorem Yb {σ2:St}{f1 f2:FP}(ha:apart i j=true)(hf:(zp1 f1 f2||Aa (some i) (some j) f1 f2)=true)(e1:step Γ i σ=some (σ1,f1))(e2:step Γ j σ1=some (σ2,f2)):
  ∃τ1 τ2,step Γ j σ=some (τ1,f2)/\step Γ i τ1=some (τ2,f1)/\HY σ2 τ2:=by
 obtain ⟨tm,b⟩:=σ;rw [nM] at e1;obtain ⟨⟨m,b1,E⟩,q,e1⟩:=map_some e1;simp at e1;obtain ⟨rfl,rfl⟩:=e1;rw [nM] at e2;obtain ⟨⟨f,u,J⟩,a,e2⟩:=map_some e2;simp at e2;obtain ⟨rfl,rfl⟩:=e2;have U:∀(bb:List Bx),core Γ j ⟨yY i.dst m tm,bb⟩=core Γ j ⟨tm,bb⟩:=fun bb=>QJ fun n W=>by rw [CJ,if_neg];grind[Hw]
 have hi:∀(bb:List Bx),core Γ i ⟨yY j.dst f tm,bb⟩=core Γ i ⟨tm,bb⟩:=fun bb=>QJ fun n W=>by rw [CJ,if_neg];grind[Q7]
 rw [U] at a;have pa:=GZ q;have Q:=GZ a;have l:HY ⟨yY j.dst f (yY i.dst m tm),u⟩ ⟨yY i.dst m (yY j.dst f tm),u⟩:=by
  refine ⟨rfl,fun n=>?_⟩;simp only [CJ];by_cases M:i.dst=some n;·have:=(Hw ha M).2<;>grind
  ·grind
 have y:∀bm,core Γ j ⟨tm,b⟩=some (f,bm,J)->core Γ i ⟨tm,bm⟩=some (m,u,E)->∃τ1 τ2,step Γ j ⟨tm,b⟩=some (τ1,J)/\step Γ i τ1=some (τ2,E)/\HY ⟨yY j.dst f (yY i.dst m tm),u⟩ τ2:=by
  intro bm H F;refine ⟨⟨yY j.dst f tm,bm⟩,⟨yY i.dst m (yY j.dst f tm),u⟩,?_,?_,l⟩
  ·grind[nM]
  ·grind[nM]
 rw [Bool.or_eq_true] at hf;rcases hf with hf|hf
 rotate_left
 ·simp only [Aa,qab,TT] at hf;obtain ⟨⟨O,Z⟩,Y⟩:=hf;rcases GY O q with M|⟨A,B1,w1,rfl,V⟩
  ·grind
  rcases GY Z a with h2|⟨B,L,w2,rfl,S⟩
  ·grind
  have h:A≠B:=fun e=>Y A (by grind) (by grind);have e1:(b.set A B1)[B]?=b[B]?:=List.getElem?_set_ne h;have e2:(b.set B L)[A]?=b[A]?:=List.getElem?_set_ne (fun e=>h e.symm);have H:=S b e1.symm;have F:=V (b.set B L) e2;rw [List.set_comm _ _ (fun e=>h e.symm)] at F;exact y _ H F
 simp only [zp1,qab,Bool.not_eq_true',TT] at hf;obtain ⟨⟨pb,P⟩,N⟩:=hf;cases he:E.eff with
 |false=>grind
 |true=>grind
inductive Runs (Γ:Gam) (l:List Ins) (fps:List FP):List Nat->St->St->Prop
 |nil (σ:St):Runs Γ l fps [] σ σ
 |cons {i:Nat} {L:List Nat} {σ σ1 σ2:St} {ins:Ins} {fp:FP}:l[i]?=some ins->fps[i]?=some fp->step Γ ins σ=some (σ1,fp)->Runs Γ l fps L σ1 σ2->Runs Γ l fps (i::L) σ σ2
theorem Runs.eq (h:Runs Γ l fps L σ σ'):∀{τ:St},HY σ τ->∃τ',Runs Γ l fps L τ τ'/\HY σ' τ':=by
 induction h with
 |nil σ=>exact fun h=>⟨_,.nil _,h⟩
 |cons h1 h2 h3 _ ih=>intro τ h;obtain ⟨τ1,m,j⟩:=step_eq h h3;obtain ⟨τ',a,f⟩:=ih j;exact ⟨τ',.cons h1 h2 m a,f⟩
def Free (l:List Ins)(fps:List FP)(i j:Nat):Prop:=∀a b f g,l[i]?=some a->l[j]?=some b->fps[i]?=some f->fps[j]?=some g->apart a b=true/\(zp1 f g||Aa (some a) (some b) f g)=true
theorem Runs.push {l:List Ins}{fps:List FP}{i:Nat}{L2:List Nat}:∀{L1:List Nat} {σ σ':St},Runs Γ l fps (i::(L1++L2)) σ σ'->(∀j,j∈L1->Free l fps i j)->∃τ,Runs Γ l fps (L1++i::L2) σ τ/\HY σ' τ
 |[],σ,σ',h,_=>⟨σ',h,.refl _⟩
 |j::L1,σ,σ',h,hf=>by
  cases h with
  |cons a1 a2 a3 h=>
   cases h with
   |cons b1 b2 b3 h=>obtain ⟨h1,h2⟩:=hf j (by simp) _ _ _ _ a1 b1 a2 b2;obtain ⟨τ1,τ2,c1,c2,c3⟩:=Yb h1 h2 a3 b3;obtain ⟨τ',d1,d2⟩:=Runs.eq h c3;obtain ⟨τ,e1,e2⟩:=Runs.push (.cons a1 a2 c2 d1) (fun k hk=>hf k (by simp [hk]));exact ⟨τ,.cons b1 b2 c1 e1,d2.trans e2⟩
theorem Runs.order {l:List Ins}{fps:List FP}:∀{m k:Nat} {L:List Nat} {σ σ':St},Runs Γ l fps (List.range' k m) σ σ'->L.Perm (List.range' k m)->L.Pairwise (fun j i=>i<j->Free l fps i j)->∃τ,Runs Γ l fps L σ τ/\HY σ' τ
 |0,k,L,σ,σ',h,hp,_=>by
  have:L=[]:=by simpa using hp
  subst this;exact ⟨σ',h,.refl _⟩
 |m+1,k,L,σ,σ',h,hp,hw=>by
  rw [List.range'_succ] at h hp;obtain ⟨L1,L2,rfl⟩:=List.append_of_mem (hp.symm.subset (qar));have hp':=(List.perm_cons k).1 (List.perm_middle.symm.trans hp);cases h with
  |cons h1 h2 h3 h4=>have hs:(L1++L2).Sublist (L1++k::L2):=List.Sublist.append (List.Sublist.refl _) (List.sublist_cons_self _ _);obtain ⟨τ,r1,r2⟩:=Runs.order h4 hp' (hw.sublist hs);obtain ⟨τ',r3,r4⟩:=Runs.push (.cons h1 h2 h3 r1) (fun j hj=>by have h5:=(List.pairwise_append.1 hw).2.2 j hj k (by simp);have h6:j∈List.range' (k+1) m:=hp'.subset (by simp [hj])<;>grind);exact ⟨τ',r3,r2.trans r4⟩
theorem vM {l:List Ins}{fps:List FP}:∀{m:List Ins} {k:Nat} {σ σ':St} {gs:List FP},steps Γ m σ=some (σ',gs)->(∀j,j<m.length->l[k+j]?=m[j]?/\fps[k+j]?=gs[j]?)->Runs Γ l fps (List.range' k m.length) σ σ'
 |[],k,σ,σ',gs,e,_=>by simp only [steps,qaf,qaI] at e;obtain ⟨rfl,_⟩:=e;exact .nil _
 |i::r,k,σ,σ',gs,e,h=>by
  simp only [steps] at e;split at e
  ·grind
  rename_i σ1 fp hs;obtain ⟨q,hq,e1⟩:=map_some e;simp at e1;obtain ⟨rfl,rfl⟩:=e1;rw [qaG,List.range'_succ];have h0:=h 0 (by simp);simp at h0;refine .cons h0.1 h0.2 hs (vM hq fun j hj=>?_);have:=h (j+1) (by simp;omega)<;>grind
theorem Lm (e:steps Γ l σ=some (σ',fps)):Runs Γ l fps (List.range' 0 l.length) σ σ':=
 by grind[vM]
theorem II {rows:List Nat}{i:Nat}:∀{es:List Edge},(zhZ rows es).testBit i=true->∃e∈es,Region.binds .any e=true/\(e.on=i\/(e.on<rows.length/\(rows.getD e.on 0).testBit i=true))
 |[],h=>by grind[zhZ]
 |e::r,h=>by
  simp only [zhZ] at h;split at h
  ·rename_i hc;rw [qab] at hc;change (((1<<<e.on)|||rows.getD e.on 0)|||zhZ rows r).testBit i=true at h;rw [Nat.testBit_or,Nat.testBit_or,Bool.or_eq_true,Bool.or_eq_true] at h;rcases h with (h|h)|h;·refine ⟨e,by simp,hc.1,.inl ?_⟩<;>simp_all[Nat.one_shiftLeft,Nat.testBit_two_pow]
   ·grind
   obtain ⟨e',h1,h2⟩:=II h<;>grind
  obtain ⟨e',h1,h2⟩:=II h<;>grind
def zgQ (ops:Array Oper)(rows:List Nat):Prop:=
 ∀j,j<rows.length->∀i,(rows.getD j 0).testBit i=true->∀L,Order ops L->∀L1 L2,L=L1++j::L2->i∈L1
theorem qP:∀{os:List Oper} {rows:List Nat},(xG rows os).length=rows.length+os.length
 |[],rows=>by simp [xG]
 |o::r,rows=>by rw [xG,qP]<;>grind
theorem RJ {ops:Array Oper}:∀{os:List Oper} {rows:List Nat},zgQ ops rows->ops.toList.drop rows.length=os->zgQ ops (xG rows os)
 |[],rows,h,_=>h
 |o::r,rows,h,e=>by
  rw [xG];have ho:ops.getD rows.length default=o:=by
   have h1:(ops.toList.drop rows.length)[0]?=some o:=by rw [e];rfl
   rw [qas] at h1;simp at h1;simp [Array.getD_eq_getD_getElem?,h1]
  refine RJ ?_ (by rw [qaw,List.length_singleton,<-List.drop_drop,e];rfl);intro j hj i hi L hL L1 L2 eL;rw [qaw,List.length_singleton] at hj;by_cases hlt:j<rows.length;·rw [qaA,qao hlt,<-qaA] at hi;exact h j hlt i hi L hL L1 L2 eL
  have hje:j=rows.length:=by omega
  subst hje;rw [qaA,qax (by omega)] at hi;simp at hi;obtain ⟨ed,h1,h2,h3⟩:=II hi;have hed:zff (ops.getD rows.length default) ed.on=true:=by rw [ho];simp only [zff,List.any_eq_true,qab,qaQ];exact ⟨ed,h1,h2,rfl⟩
  have hm:=hL.follows L1 L2 _ eL _ hed;rcases h3 with rfl|⟨h4,h5⟩
  ·grind
  obtain ⟨A,B,rfl⟩:=List.append_of_mem hm;have:=h ed.on h4 i h5 L hL A (B++rows.length::L2) (by rw [eL];simp)<;>grind
theorem Jz {i j:Nat}(hj:j<ops.size)(hi:i<j)(he:((xG [] ops.toList).getD j 0).testBit i=false):(i,j)∈Dt ops:=by
 have a:(xG [] ops.toList).length=ops.size:=by rw [qP];simp
 simp only [Dt,List.mem_flatMap,List.mem_range,List.mem_filterMap];refine ⟨((xG [] ops.toList).getD j 0,j),?_,i,hi,by simp only [he];rfl⟩<;>grind
theorem YK {ps:List (Nat×Nat)}(hl:l.length=ops.size)(hd:oH ops l=some ps)(e:steps Γ l σ=some (σ',fps))(hp:BR l fps ps=true)(hL:Order ops L):
  ∃τ,Runs Γ l fps L σ τ/\HY σ' τ:=by
 refine Runs.order (Lm e) ?_ ?_;·refine (List.perm_ext_iff_of_nodup hL.nodup (List.nodup_range' ..)).2 fun i=>?_;rw [hL.all i,List.mem_range'_1,hl];omega
 unfold oH at hd;dsimp only at hd;split at hd
 ·rename_i y;simp at hd;subst hd;rw [qab] at y;have M:=qaq.1 y.2;have P:=qaq.1 hp;rw [List.pairwise_iff_getElem];intro p q hp J Q u;have h:L=L.take p++L[p]::L.drop (p+1):=by simp
  have m:L[p]<ops.size:=(hL.all _).1 (qag _);have n:((xG [] ops.toList).getD L[p] 0).testBit L[q]=false:=by
   cases N:((xG [] ops.toList).getD L[p] 0).testBit L[q] with
   |false=>rfl
   |true=>
    have O:(xG [] ops.toList).length=ops.size:=by rw [qP];simp
    have E:=RJ (ops:=ops) (rows:=[]) (fun j S=>by grind) (by simp) _ (by grind) _ N L hL _ _ h;obtain ⟨s,H,A⟩:=List.mem_iff_getElem.1 E;rw [List.getElem_take] at A;have F:s<p:=by simp at H;omega
    exact absurd A (List.pairwise_iff_getElem.1 hL.nodup s q (by omega) J (by omega))
  have B:=Jz m u n;have E:=M _ B;have U:=P _ B;intro a b f g ha hb hf hg<;>grind
 grind
end
section
variable {ops:Array Oper}{Q:Exit->Act->World->Prop}{fps:List FP}{l:List Ins}{L:List Nat}{id:Nat}{o:Oper}{r:Option Nat}{σ':St}
variable {P:Program} {R:aT} {x:Ctx} {K:Kn} {C:List CB} {σ:St} {a:Act} {w:World}
variable {A:Ann} {Γ:Gam}
theorem o7 {nt:Nat}{ops:Array Oper}:∀{m:List Oper} {l:List Ins},o8 P R.gl A nt ops m=some l->l.length=m.length/\∀(j:Nat) (i:Ins),l[j]?=some i->∃o,m[j]?=some o/\Rw P R.gl A nt ops o=some i
 |[],l,e=>by simp_all[o8]
 |o::m,l,e=>by
  simp only [o8] at e;split at e
  ·grind
  rename_i i hi;obtain ⟨q,hq,rfl⟩:=map_some e;obtain ⟨h1,h2⟩:=o7 hq
  grind
theorem UD {i:I}(h:zl4 P R.gl A o=some i):∀c,o.op≠.defer c:=by intro c e<;>simp_all[zl4]
theorem Og {nt:Nat}{i:Ins}(h:Rw P R.gl A nt ops o=some i):
  i.dst=o.dst/\(∀n,o.dst=some n->n<nt)/\zl4 P R.gl A o=some i.op/\
   ((o.guard=none/\i.g=none)\/∃j want s,o.guard=some (j,want)/\(ops[j]?).bind (·.dst)=some s/\i.g=some (s,want)):=by
 unfold Rw at h;split at h
 ·grind
 rename_i a;have f:∀n,o.dst=some n->n<nt:=by intro n e;rw [e] at a;simpa [zoK] using a
 grind
theorem XB {i:Nat}{ins:Ins}{σ1:St}{fp:FP}(hΓ:qE P R Γ)(h:Rel P R x K C σ a w)
  (hl:o8 P R.gl A x.nt ops ops.toList=some l) (hi:l[i]?=some ins) (hs:step Γ ins σ=some (σ1,fp))
  (hn:∀K' C' a' w',Em.Rel P R x K' C' σ1 a' w'->wpOpsIn (Fr r) 0 P ops Q L a' w'):wpOpsIn (Fr r) 0 P ops Q (i::L) a w:=by
 obtain ⟨o,Y,V⟩:=(o7 hl).2 i ins hi;obtain ⟨U,B,n,Z⟩:=Og V;have J:ops[i]?=some o:=by simpa using Y
 have m:∀f,o.about P w a.eval=some f->(Fr r).fn f:=fun _ _=>trivial;simp only [wpOpsIn,J];have W:qI Γ ins σ=some (σ1,fp)->o.wpIn (Fr r) 0 P a w (wpOpsIn (Fr r) 0 P ops Q L) Q:=by
  intro e;unfold qI at e;split at e
  ·grind
  rename_i y bx pa M;simp at e;obtain ⟨rfl,rfl⟩:=e;refine ⟨m,?_⟩;rw [Oper.semAt_eq _ _ _ (UD n)];refine Om hΓ h n M r _ Q fun K' C' v w' u hp=>?_;have:=u.set hp o.dst B<;>grind
 have pb:Ac ins σ=some (σ1,fp)->wpOpsIn (Fr r) 0 P ops Q L (a.put o.dst undef) w:=by intro e;unfold Ac at e;simp at e;obtain ⟨rfl,rfl⟩:=e;have:=h.set (y:=jg) (v:=undef) (.v rfl) o.dst B;rw [<-U] at this ⊢;exact hn K C _ w this
 unfold step at hs;rcases Z with ⟨q,F⟩|⟨j,S,s,q,F,H⟩;·simp_all[Region.wanted]
 rw [H] at hs;simp only [Region.wanted,q];dsimp only at hs;split at hs
 ·rename_i b N;obtain ⟨v,O,u⟩:=h.tm s _ N;have E:=fH u;subst E;have hy:yielded ops a.tmps j=some b:=by simp [yielded,F,O]
  grind
 next t N=>obtain ⟨v,O,u⟩:=h.tm s _ N;have E:=fH u<;>simp_all[yielded]
 grind
theorem FW (hΓ:qE P R Γ)(hl:o8 P R.gl A x.nt ops ops.toList=some l){σ σ':St}(hr:Runs Γ l fps L σ σ'):
  ∀{K:Kn} {C:List CB} {a:Act} {w:World},Rel P R x K C σ a w->(∀K' C' a' w',Em.Rel P R x K' C' σ' a' w'->Q .normal a' w')->wpOpsIn (Fr r) 0 P ops Q L a w:=by
 induction hr with
 |nil σ=>intro K C a w h f;exact f K C a w h
 |cons h1 h2 h3 h4 ih=>grind[XB]
theorem Rel.zvH {τ:St}(h:Rel P R x K C σ a w)(e:HY σ τ):Rel P R x K C τ a w:=by obtain ⟨tm,q⟩:=σ;obtain ⟨l,j⟩:=τ;obtain ⟨f,m⟩:=e;dsimp only at f m;subst f;exact h.tms fun n y u=>h.tm n y (by grind)
theorem HY.symm {σ τ:St}(h:HY σ τ):HY τ σ:=⟨h.1.symm,fun n=>(h.2 n).symm⟩
theorem OJ (hΓ:qE P R Γ)(h:Rel P R x K C σ a w)(hl:o8 P R.gl A x.nt ops ops.toList=some l)
  (hs:steps Γ l σ=some (σ',fps)) (hn:∀K' C' a' w',Em.Rel P R x K' C' σ' a' w'->Q .normal a' w'):(Code.region id ops false).wpIn (Fr r) 0 P Q a w:=by
 refine wpIn_region ?_;have:=Lm hs;rw [(o7 hl).1,<-List.range_eq_range'] at this<;>grind[FW]
theorem OL {ps:List (Nat×Nat)}(hΓ:qE P R Γ)(h:Rel P R x K C σ a w)(hl:o8 P R.gl A x.nt ops ops.toList=some l)
  (hd:oH ops l=some ps) (hs:steps Γ l σ=some (σ',fps)) (hp:BR l fps ps=true) (hn:∀K' C' a' w',Em.Rel P R x K' C' σ' a' w'->Q .normal a' w'):(Code.region id ops true).wpIn (Fr r) 0 P Q a w:=by
 refine wpIn_region_draw fun t=>?_;have m:JF ops=true:=by
  unfold oH at hd;dsimp only at hd;split at hd
  ·grind
  ·grind
 obtain ⟨τ,f,n⟩:=YK (by rw [(o7 hl).1];simp) hd hs hp (Es m (P.follows .mixedOrders) t);exact FW hΓ hl f (h.still (aO.drew _ w)) fun K' C' a' w' j=>hn K' C' a' w' (j.zvH n.symm)
end
end Go.Em
