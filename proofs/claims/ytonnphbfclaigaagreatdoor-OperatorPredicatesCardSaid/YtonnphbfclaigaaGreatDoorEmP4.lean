/-.-/
import Derived.Test.YtonnphbfclaigaaGreatDoorEmP3
set_option linter.all false
namespace Go.Em
variable {b b':List Bx}{r:Nat}{y:X}
variable {P:Program} {R:CodeRel} {x:Ctx} {K:Kn} {C:List CB} {σ:St} {a:Act} {w:World}
variable {A:Ann} {Γ:Gam}
def Pure1 (Γ:Gam)(tm:List (Nat×X))(b b':List Bx)(i:I)(y:X)(fp:FP):Prop:=
 b'=b/\∀b2:List Bx,(∀r,r∈fp.rd->b2[r]?=b[r]?)->stepI Γ ⟨tm,b2⟩ i=some (y,b2,fp)
theorem pure0 {tm:List (Nat×X)}{i:I}{fp:FP}(f:Option X)(h:∀b2:List Bx,stepI Γ ⟨tm,b2⟩ i=f.map fun z=>(z,b2,⟨false,[],[]⟩))(e:stepI Γ ⟨tm,b⟩ i=some (y,b',fp)):
  Pure1 Γ tm b b' i y fp/\∀r,r∉fp.wr->b'[r]?=b[r]?:=by
 rw [h b] at e;obtain ⟨z,hz,e1⟩:=map_some e;simp only [qaH] at e1;obtain ⟨rfl,rfl,rfl⟩:=e1;exact ⟨⟨rfl,fun b2 _=>by grind⟩,fun _ _=>rfl⟩
theorem set_other {bx:List Bx}{i:Nat}{B:Bx}(h:r≠i):(bx.set i B)[r]?=bx[r]?:=by grind
theorem callRef_other {fv:Fv}{args:List X}{sel:List Nat}(e:callRef Γ fv args b=some (y,b',sel))(h:r∉sel++List.range' b.length (b'.length-b.length)):b'[r]?=b[r]?:=by
 unfold callRef at e;dsimp only at e;split at e
 ·split at e
  ·grind
  split at e
  ·grind
  split at e
  ·simp only [qaE,qaH] at e;obtain ⟨_,rfl,rfl⟩:=e;simp only [qbm,not_or,List.mem_range'_1,not_and,Nat.not_lt,qaZ,setBs_length,qba] at h
   grind[setBs_length,setBs_other]
  grind
 grind
theorem stepI_frame {tm:List (Nat×X)}{b b':List Bx}{i:I}{y:X}{fp:FP}(e:stepI Γ ⟨tm,b⟩ i=some (y,b',fp)):
  (fp.eff=false->Pure1 Γ tm b b' i y fp)/\∀r,r∉fp.wr->b'[r]?=b[r]?:=by
 have hev:=fun b2 q=>ev_bx tm b2 [] q;cases i with
 |mov p=>have:=pure0 ((St.ev ⟨tm,[]⟩ p)) (fun b2=>by grind[stepI]) e;grind
 |pick c p q=>
  have:=pure0 (match St.ev ⟨tm,[]⟩ c,St.ev ⟨tm,[]⟩ p,St.ev ⟨tm,[]⟩ q with|some (.v (.bool t)),some y1,some y2=>some (if t then y1 else y2)|_,_,_=>none)
   (fun b2=>by grind[stepI]) e
  grind
 |alloc z=>
  simp only [stepI,qaE,qaH] at e
  grind
 |box p=>
  simp only [stepI] at e
  grind
 |build z ps=>
  have:=pure0 (match parts3 ⟨tm,[]⟩ ps with|none=>none|some ps=>(fillX z ps).map .agg) (fun b2=>by grind[stepI,parts3_bx,Option.map_map,Function.comp_def]) e
  grind
 |bslice n z ps=>
  have:=pure0 (match parts2 ⟨tm,[]⟩ ps with|none=>none|some ps=>if n==ps.length then (bsElems z.length 0 ps).map (.sl true z.length) else none) (fun b2=>by grind[stepI,parts2_bx,Option.map_map,Function.comp_def]) e
  grind
 |load n p=>
  simp only [stepI] at e;split at e
  ·grind
  rename_i q hq;obtain ⟨z,hz,e1⟩:=map_some e;simp only [qaH] at e1;obtain ⟨rfl,rfl,rfl⟩:=e1;refine ⟨fun _=>⟨rfl,fun b2 h2=>?_⟩,fun _ _=>rfl⟩
  grind[stepI,loadX_on]
 |store n p q=>
  simp only [stepI] at e;split at e
  ·obtain ⟨z,hz,e1⟩:=map_some e;simp only [qaH] at e1;obtain ⟨rfl,rfl,rfl⟩:=e1;refine ⟨fun h=>by grind,fun r hr=>?_⟩;unfold storeX at hz;split at hz
   ·split at hz
    ·rename_i i e o;simp only [boxesRead,qbB] at hr;split at hz
     ·split at hz;·obtain ⟨cs,_,rfl⟩:=map_some hz<;>simp_all[set_other]
      grind
     ·split at hz
      ·grind
      split at hz;·obtain ⟨cs,_,rfl⟩:=map_some hz<;>simp_all[set_other]
      grind
     grind
    grind
   grind
  grind
 |bin op p q=>
  have:=pure0 (match St.ev ⟨tm,[]⟩ p,St.ev ⟨tm,[]⟩ q with|some (.v m),some (.v n)=>(binV op m n).map .v|_,_=>none) (fun b2=>by grind[stepI,Option.map_map,Function.comp_def]) e
  grind
 |beq n p q=>
  have:=pure0 (match St.ev ⟨tm,[]⟩ p,St.ev ⟨tm,[]⟩ q with|some (.v (.bool m)),some (.v (.bool k))=>some (.v (.bool (if n then !(m==k) else m==k)))|_,_=>none) (fun b2=>by grind[stepI]) e
  grind
 |ceq ks n p q=>
  have:=pure0 (match St.ev ⟨tm,[]⟩ p,St.ev ⟨tm,[]⟩ q with|some (.agg m),some (.agg k)=>(aggEq ks m k).map fun e=>.v (.bool (if n then !e else e))|_,_=>none) (fun b2=>by grind[stepI,Option.map_map,Function.comp_def]) e
  grind
 |snil n p=>
  have:=pure0 (match St.ev ⟨tm,[]⟩ p with|some (.bs _ _ (_+1))=>some (.v (.bool n))|some (.sl _ _ (_::_))=>some (.v (.bool n))|_=>none) (fun b2=>by grind[stepI]) e
  grind
 |un op p=>
  have:=pure0 (match St.ev ⟨tm,[]⟩ p with|some (.v m)=>(unV op m).map .v|_=>none) (fun b2=>by grind[stepI,Option.map_map,Function.comp_def]) e
  grind
 |conv k p=>
  have:=pure0 (match St.ev ⟨tm,[]⟩ p with|some (.v (.int _ n))=>some (.v (.int k (k.wrap n)))|_=>none) (fun b2=>by grind[stepI]) e
  grind
 |idc p=>
  have:=pure0 (match St.ev ⟨tm,[]⟩ p with|some (.v (.string s))=>some (.v (.string s))|_=>none) (fun b2=>by grind[stepI]) e
  grind
 |s2b p=>
  have:=pure0 (match St.ev ⟨tm,[]⟩ p with|some (.v (.string s))=>some (.sl false 1 (byteRow s))|_=>none) (fun b2=>by grind[stepI]) e
  grind
 |mkfn f l=>
  have:=pure0 ((evs ⟨tm,[]⟩ l).map (.fn f)) (fun b2=>by grind[stepI,evs_bx,Option.map_map,Function.comp_def]) e
  grind
 |mksl n z p q=>
  simp only [stepI] at e
  grind
 |slice s p lo hi mx=>
  simp only [stepI] at e;split at e
  ·rename_i t s' es hq;have:fp=⟨false,[],[]⟩/\b'=b:=by
    split at e
    ·grind
    ·grind
   obtain ⟨rfl,rfl⟩:=this;refine ⟨fun _=>⟨rfl,fun b2 _=>?_⟩,fun _ _=>rfl⟩;simp only [stepI,ev_bx tm b2 b',optNat_bx tm b2 b',hq];split at e
   ·grind
   grind
  ·rename_i i off len hq;split at e
   ·rename_i l h el eh;split at e
    ·rename_i hc;split at e;next hlh=>simp only [qaE,qaH] at e;obtain ⟨rfl,rfl,rfl⟩:=e;refine ⟨fun _=>⟨rfl,fun b2 _=>?_⟩,fun _ _=>rfl⟩;simp only [stepI,ev_bx tm b2 b,optNat_bx tm b2 b,hq,el,eh]<;>simp_all
     rename_i hlh;split at e
     ·rename_i s' es hb;split at e;next hss=>simp only [qaE,qaH] at e;obtain ⟨rfl,rfl,rfl⟩:=e;refine ⟨fun _=>⟨rfl,fun b2 h2=>?_⟩,fun _ _=>rfl⟩;simp only [stepI,ev_bx tm b2 b,optNat_bx tm b2 b,hq,el,eh]<;>simp_all
      grind
     grind
    grind
   grind
  grind
 |sslice p lo hi=>
  have:=pure0 (match St.ev ⟨tm,[]⟩ p with
   |some (.v (.string s))=>match optNat ⟨tm,[]⟩ 0 lo,optNat ⟨tm,[]⟩ s.size hi with
    |some l,some h=>if l<=h&&h<=s.size then some (.v (.string (s.extract l h))) else none
    |_,_=>none
   |_=>none) (fun b2=>by
   simp only [stepI,hev b2,optNat_bx tm b2 []]
   grind) e
  grind
 |faddr n p=>
  have:=pure0 (match St.ev ⟨tm,[]⟩ p with|some (.ptr i e o)=>some (.ptr i e (o+n))|some (.dp cs)=>some (.dp (cs.drop n))|_=>none) (fun b2=>by grind[stepI]) e
  grind
 |field n o p=>
  have:=pure0 (match St.ev ⟨tm,[]⟩ p with
   |some (.agg cs)=>match n with
    |none=>cs[o]?
    |some n=>if ((cs.drop o).take n).length==n then some (.agg ((cs.drop o).take n)) else none
   |_=>none) (fun b2=>by
   simp only [stepI,hev b2]
   grind) e
  grind
 |iaddr ar s p q=>
  simp only [stepI] at e;split at e
  ·rename_i yz n ez en;split at e
   ·rename_i t s' es;split at e;next hss=>obtain ⟨z,hz,e1⟩:=map_some e;simp only [qaH] at e1;obtain ⟨rfl,rfl,rfl⟩:=e1;refine ⟨fun _=>⟨rfl,fun b2 _=>?_⟩,fun _ _=>rfl⟩<;>simp_all[stepI]
    grind
   ·rename_i i off len;split at e
    ·rename_i s' es hb;split at e;next hc=>simp only [qaE,qaH] at e;obtain ⟨rfl,rfl,rfl⟩:=e;refine ⟨fun _=>⟨rfl,fun b2 h2=>?_⟩,fun _ _=>rfl⟩<;>simp_all[stepI]
     grind
    grind
   ·split at e;next hc=>simp only [qaE,qaH] at e;obtain ⟨rfl,rfl,rfl⟩:=e;refine ⟨fun _=>⟨rfl,fun b2 _=>?_⟩,fun _ _=>rfl⟩<;>simp_all[stepI]
    grind
   ·split at e;next hc=>simp only [qaE,qaH] at e;obtain ⟨rfl,rfl,rfl⟩:=e;refine ⟨fun _=>⟨rfl,fun b2 _=>?_⟩,fun _ _=>rfl⟩<;>simp_all[stepI]
    grind
   grind
  grind
 |aidx m s r p q=>
  have:=pure0 (match St.ev ⟨tm,[]⟩ p,(St.ev ⟨tm,[]⟩ q).bind idxX with
   |some (.agg cs),some j=>if j<m then (match r with
    |none=>cs[j*s]?
    |some k=>if ((cs.drop (j*s)).take k).length==k then some (.agg ((cs.drop (j*s)).take k)) else none) else none
   |_,_=>none) (fun b2=>by
   simp only [stepI,hev b2];cases St.ev ⟨tm,[]⟩ p with
   |none=>rfl
   |some xx=>cases xx with
    |agg cs=>cases (St.ev ⟨tm,[]⟩ q).bind idxX with
     |none=>rfl
     |some jj=>grind
    |_=>rfl) e
  grind
 |sidx p q=>
  have:=pure0 (match St.ev ⟨tm,[]⟩ p,(St.ev ⟨tm,[]⟩ q).bind idxX with
   |some (.v (.string s)),some n=>match s[n]? with
    |some b=>some (.v (.int .u8 b.toNat))
    |none=>none
   |_,_=>none) (fun b2=>by
   grind[stepI]) e
  grind
 |nilck p=>
  have:=pure0 (match St.ev ⟨tm,[]⟩ p with|some (.ptr i e o)=>some (.ptr i e o)|some (.dp cs)=>some (.dp cs)|some (.fn f cs)=>some (.fn f cs)|some (.yl i)=>some (.yl i)|_=>none) (fun b2=>by grind[stepI]) e
  grind
 |extract p n=>
  have:=pure0 (match St.ev ⟨tm,[]⟩ p with|some (.tup xs)=>xs[n]?|_=>none) (fun b2=>by grind[stepI]) e
  grind
 |mkmap=>
  simp only [stepI,qaE,qaH] at e
  grind
 |mput kk m k v=>
  simp only [stepI] at e;split at e
  ·split at e
   ·split at e
    ·obtain ⟨z,hz,e1⟩:=map_some e
     grind
    grind
   grind
  grind
 |mget kk o z m k=>
  simp only [stepI] at e;split at e
  ·rename_i i kv em ek;split at e
   ·rename_i es hb;split at e;next hc=>obtain ⟨q,hz,e1⟩:=map_some e;simp only [qaH] at e1;obtain ⟨rfl,rfl,rfl⟩:=e1;refine ⟨fun _=>⟨rfl,fun b2 h2=>?_⟩,fun _ _=>rfl⟩<;>simp_all[stepI]
    grind
   grind
  ·rename_i kv em ek;split at e;next hc=>obtain ⟨q,hz,e1⟩:=map_some e;simp only [qaH] at e1;obtain ⟨rfl,rfl,rfl⟩:=e1;refine ⟨fun _=>⟨rfl,fun b2 h2=>?_⟩,fun _ _=>rfl⟩<;>simp_all[stepI]
   grind
  grind
 |copy sz d s=>
  simp only [stepI] at e;split at e
  ·grind
  grind
 |mrange m=>
  simp only [stepI] at e;split at e
  ·split at e
   ·simp only [qaE,qaH] at e
    grind
   grind
  grind
 |mnext m=>simp only [stepI,reduceCtorEq] at e
 |mentry m=>
  simp only [stepI] at e;split at e
  ·rename_i i em;split at e
   ·rename_i mi s k hb;split at e
    ·rename_i es hm;split at e;next hc=>obtain ⟨q,hz,e1⟩:=map_some e;simp only [qaH] at e1;obtain ⟨rfl,rfl,rfl⟩:=e1;refine ⟨fun _=>⟨rfl,fun b2 h2=>?_⟩,fun _ _=>rfl⟩<;>simp_all[stepI]
     grind
    grind
   grind
  grind
 |mlen m=>
  simp only [stepI] at e;split at e
  ·rename_i i em;split at e;next es hb=>simp only [qaE,qaH] at e;obtain ⟨rfl,rfl,rfl⟩:=e;refine ⟨fun _=>⟨rfl,fun b2 h2=>?_⟩,fun _ _=>rfl⟩<;>simp_all[stepI]
   grind
  next em=>simp only [qaE,qaH] at e;obtain ⟨rfl,rfl,rfl⟩:=e;refine ⟨fun _=>⟨rfl,fun b2 h2=>?_⟩,fun _ _=>rfl⟩<;>simp_all[stepI]
  grind
 |mkifc p=>
  have:=pure0 ((St.ev ⟨tm,[]⟩ p).map fun _=>X.ifc) (fun b2=>by grind[stepI,Option.map_map,Function.comp_def]) e
  grind
 |inil n p=>
  have:=pure0 (match St.ev ⟨tm,[]⟩ p with|some .ifc=>some (.v (.bool n))|some (.v .nilIface)=>some (.v (.bool (!n)))|_=>none) (fun b2=>by grind[stepI]) e
  grind
 |len p=>
  have:=pure0 (match St.ev ⟨tm,[]⟩ p with|some (.sl _ _ es)=>some (.v (.int .i64 (es.length:Int)))|some (.bs _ _ n)=>some (.v (.int .i64 (n:Int)))|_=>none) (fun b2=>by grind[stepI]) e
  grind
 |slen p=>
  have:=pure0 (match St.ev ⟨tm,[]⟩ p with|some (.v (.string s))=>some (.v (.int .i64 (s.size:Int)))|_=>none) (fun b2=>by grind[stepI]) e
  grind
 |mm m l=>
  have:=pure0 (match evs ⟨tm,[]⟩ l with|some (.v (.int .i64 k)::r)=>(mmV m k r).map fun z=>.v (.int .i64 z)|_=>none) (fun b2=>by grind[stepI,evs_bx,Option.map_map,Function.comp_def]) e
  grind
 |app own s n p q=>
  simp only [stepI] at e;split at e
  ·rename_i yp yq ep eq;split at e
   ·grind
   rename_i sz' new hsrc;split at e
   ·grind
   rename_i hsz;split at e
   ·rename_i sz0 es;split at e
    ·rename_i hc;split at e
     ·grind
     rename_i hown;simp only [qaE,qaH] at e;obtain ⟨rfl,rfl,rfl⟩:=e;refine ⟨fun _=>⟨rfl,fun b2 h2=>?_⟩,fun _ _=>rfl⟩;simp only [stepI,ev_bx tm b2 b,ep,eq,srcOf_on h2,hsrc]<;>simp_all
    grind
   ·grind
   grind
  grind
 |call own ref raw f l=>
  simp only [stepI] at e;split at e
  ·rename_i yf ys ef es;unfold callX at e;split at e
   ·grind
   rename_i as hconv;split at e
   ·rename_i g caps;split at e
    ·rename_i hc;split at e
     ·grind
     rename_i z hz;split at e;next hcond=>simp only [qaE,qaH] at e;obtain ⟨rfl,rfl,rfl⟩:=e;refine ⟨fun _=>⟨rfl,fun b2 h2=>?_⟩,fun _ _=>rfl⟩;simp only [qa4,Bool.not_eq_true'] at hc;have hd:dataL b2 raw ys=dataL b raw ys:=dataL_on ys h2;simp only [stepI,ev_bx tm b2 b,evs_bx tm b2 b,ef,es,callX,hd,hc.1.2]<;>simp_all
     grind
    split at e
    ·split at e
     ·grind
     rename_i hz;simp only [qaE,qaH] at e;obtain ⟨rfl,rfl,rfl⟩:=e
     grind[refFP,callRef_other]
    grind
   ·split at e
    ·split at e
     ·grind
     rename_i hz;simp only [qaE,qaH] at e;obtain ⟨rfl,rfl,rfl⟩:=e
     grind[refFP,callRef_other]
    grind
   grind
  grind
end Go.Em
namespace Go.Em
variable {ops:Array Oper}{fp:FP}{ps:List (Nat×Nat)}{tm:List (Nat×X)}{b b':List Bx}{fps:List FP}{l:List Ins}{L:List Nat}{d i j n:Nat}{s:Nat->Nat}{σ σ' σ1 τ:St}{y:X}
variable {P:Program} {A:Ann} {Γ:Gam}
def core (Γ:Gam)(i:Ins)(σ:St):Option (X×List Bx×FP):=
 match i.g with
 |none=>stepI Γ σ i.op
 |some (s,want)=>match lk σ.tm s with
  |some (.v (.bool b))=>if b==want then stepI Γ σ i.op else some (undefX,σ.bx,⟨false,[],[]⟩)
  |some (.v (.tuple _))=>some (undefX,σ.bx,⟨false,[],[]⟩)
  |_=>none
theorem step_core (i:Ins)(σ:St):step Γ i σ=(core Γ i σ).map fun q=>(⟨setD i.dst q.1 σ.tm,q.2.1⟩,q.2.2):=by
 have hgo:stepGo Γ i σ=(stepI Γ σ i.op).map fun q=>(⟨setD i.dst q.1 σ.tm,q.2.1⟩,q.2.2):=by
  unfold stepGo;cases stepI Γ σ i.op with
  |none=>rfl
  |some q=>rfl
 unfold step core;cases i.g with
 |none=>grind
 |some g=>
  obtain ⟨s,want⟩:=g;dsimp only;cases lk σ.tm s with
  |none=>rfl
  |some z=>cases z with
   |v u=>cases u with
    |bool t=>
     dsimp only;by_cases h:(t==want)=true
     ·grind
     rw [if_neg h,if_neg h];rfl
    |tuple=>rfl
    |_=>rfl
   |_=>rfl
theorem core_on {i:Ins}{tm':List (Nat×X)}(h:∀n,n∈i.slots->lk tm n=lk tm' n):core Γ i ⟨tm,b⟩=core Γ i ⟨tm',b⟩:=by
 have h1:SameOn tm tm' i.op.opds:=fun n hn=>h n (by
  simp [Ins.slots]
  grind)
 grind[stepI_on,core,Ins.slots]
theorem core_frame {i:Ins}(e:core Γ i ⟨tm,b⟩=some (y,b',fp)):
  (fp.eff=false->b'=b/\∀b2:List Bx,(∀r,r∈fp.rd->b2[r]?=b[r]?)->core Γ i ⟨tm,b2⟩=some (y,b2,fp))/\∀r,r∉fp.wr->b'[r]?=b[r]?:=by
 unfold core at e ⊢;cases hg:i.g with
 |none=>rw [hg] at e;have:=stepI_frame e;exact ⟨fun h=>this.1 h,this.2⟩
 |some g=>
  obtain ⟨s,want⟩:=g;rw [hg] at e;dsimp only at e ⊢;split at e
  ·rename_i t ht;split at e;next hw=>have:=stepI_frame e;refine ⟨fun h=>?_,this.2⟩;obtain ⟨h1,h2⟩:=this.1 h<;>simp_all
   grind
  ·grind
  grind
def StEq (σ τ:St):Prop:=σ.bx=τ.bx/\∀n,lk σ.tm n=lk τ.tm n
theorem StEq.refl (σ:St):StEq σ σ:=⟨rfl,fun _=>rfl⟩
theorem StEq.trans {a b c:St}(h:StEq a b)(h':StEq b c):StEq a c:=⟨h.1.trans h'.1,fun n=>(h.2 n).trans (h'.2 n)⟩
theorem step_eq {i:Ins}(h:StEq σ τ)(e:step Γ i σ=some (σ1,fp)):∃τ1,step Γ i τ=some (τ1,fp)/\StEq σ1 τ1:=by
 obtain ⟨tm,b⟩:=σ;obtain ⟨tm',b'⟩:=τ;obtain ⟨h1,h2⟩:=h;dsimp only at h1 h2;subst h1;rw [step_core] at e;obtain ⟨q,hq,e1⟩:=map_some e;simp at e1;obtain ⟨rfl,rfl⟩:=e1;refine ⟨⟨setD i.dst q.1 tm',q.2.1⟩,?_,rfl,fun n=>?_⟩
 ·grind[step_core,core_on]
 grind[lk_setD]
theorem disj_iff {l m:List Nat}:disj l m=true↔∀r,r∈l->r∉m:=by grind[disj,memN_iff]
theorem apart_left {i j:Ins}(h:apart i j=true)(hd:i.dst=some d):d∉j.slots/\j.dst≠some d:=by
 simp only [apart,hd,qa4,Bool.not_eq_true'] at h
 grind[memN_iff]
theorem apart_right {i j:Ins}(h:apart i j=true)(hd:j.dst=some d):d∉i.slots:=by
 simp only [apart,hd,qa4,Bool.not_eq_true'] at h
 grind[memN_iff]
theorem storeX_at {bx bx':List Bx}{p z:X}(e:storeX bx n p z=some bx'):∃k B,boxesRead p=[k]/\bx'=bx.set k B/\∀b2:List Bx,b2[k]?=bx[k]?->storeX b2 n p z=some (b2.set k B):=by
 unfold storeX at e;split at e
 ·rename_i h0;split at e
  ·rename_i i e' o;split at e
   ·rename_i cs hb;split at e;next h1=>obtain ⟨cs',hs,rfl⟩:=map_some e;refine ⟨i,_,rfl,rfl,fun b2 h2=>?_⟩<;>simp_all[storeX]
    grind
   ·rename_i sz es hb;split at e
    ·grind
    rename_i cs hc;split at e;next h1=>obtain ⟨cs',hs,rfl⟩:=map_some e;refine ⟨i,_,rfl,rfl,fun b2 h2=>?_⟩<;>simp_all[storeX]
    grind
   grind
  grind
 grind
theorem store_step {q r:Opd}(e:stepI Γ ⟨tm,b⟩ (.store n q r)=some (y,b',fp)):∃k B,fp.wr=[k]/\b'=b.set k B/\∀b2:List Bx,b2[k]?=b[k]?->stepI Γ ⟨tm,b2⟩ (.store n q r)=some (y,b2.set k B,fp):=by
 simp only [stepI] at e;split at e
 ·rename_i p z hp hz;obtain ⟨b1,hs,e1⟩:=map_some e;simp at e1;obtain ⟨rfl,rfl,rfl⟩:=e1
  grind[storeX_at,stepI,ev_bx]
 grind
theorem core_store {i:Ins}(hs:isStore i=true)(e:core Γ i ⟨tm,b⟩=some (y,b',fp)):
  (b'=b/\∀b2:List Bx,core Γ i ⟨tm,b2⟩=some (y,b2,fp))\/∃k B,fp.wr=[k]/\b'=b.set k B/\∀b2:List Bx,b2[k]?=b[k]?->core Γ i ⟨tm,b2⟩=some (y,b2.set k B,fp):=by
 obtain ⟨n,q,r,hop⟩:∃n q r,i.op=.store n q r:=by grind[isStore]
 unfold core at e ⊢;rw [hop] at e ⊢;cases hg:i.g with
 |none=>grind[store_step]
 |some g=>
  obtain ⟨s,want⟩:=g;rw [hg] at e;dsimp only at e ⊢;split at e
  ·rename_i t ht;split at e
   ·rename_i hw;obtain ⟨k,B,h1,h2,h3⟩:=store_step e
    grind
   grind
  ·grind
  grind
theorem step_swap {i j:Ins}{σ2:St}{f1 f2:FP}(ha:apart i j=true)(hf:(fpOk f1 f2||storesOk (some i) (some j) f1 f2)=true)(e1:step Γ i σ=some (σ1,f1))(e2:step Γ j σ1=some (σ2,f2)):
  ∃τ1 τ2,step Γ j σ=some (τ1,f2)/\step Γ i τ1=some (τ2,f1)/\StEq σ2 τ2:=by
 obtain ⟨tm,b⟩:=σ;rw [step_core] at e1;obtain ⟨⟨y1,b1,g1⟩,hq1,e1⟩:=map_some e1;simp at e1;obtain ⟨rfl,rfl⟩:=e1;rw [step_core] at e2;obtain ⟨⟨y2,b2,g2⟩,hq2,e2⟩:=map_some e2;simp at e2;obtain ⟨rfl,rfl⟩:=e2;have hj:∀(bb:List Bx),core Γ j ⟨setD i.dst y1 tm,bb⟩=core Γ j ⟨tm,bb⟩:=fun bb=>core_on fun n hn=>by rw [lk_setD,if_neg];grind[apart_left]
 have hi:∀(bb:List Bx),core Γ i ⟨setD j.dst y2 tm,bb⟩=core Γ i ⟨tm,bb⟩:=fun bb=>core_on fun n hn=>by rw [lk_setD,if_neg];grind[apart_right]
 rw [hj] at hq2;have fr1:=core_frame hq1;have fr2:=core_frame hq2;have hlast:StEq ⟨setD j.dst y2 (setD i.dst y1 tm),b2⟩ ⟨setD i.dst y1 (setD j.dst y2 tm),b2⟩:=by
  refine ⟨rfl,fun n=>?_⟩;simp only [lk_setD];by_cases h1:i.dst=some n;·have:=(apart_left ha h1).2<;>grind
  ·grind
 have done:∀bm,core Γ j ⟨tm,b⟩=some (y2,bm,g2)->core Γ i ⟨tm,bm⟩=some (y1,b2,g1)->∃τ1 τ2,step Γ j ⟨tm,b⟩=some (τ1,g2)/\step Γ i τ1=some (τ2,g1)/\StEq ⟨setD j.dst y2 (setD i.dst y1 tm),b2⟩ τ2:=by
  intro bm c1 c2;refine ⟨⟨setD j.dst y2 tm,bm⟩,⟨setD i.dst y1 (setD j.dst y2 tm),b2⟩,?_,?_,hlast⟩
  ·grind[step_core]
  ·grind[step_core]
 rw [Bool.or_eq_true] at hf;rcases hf with hf|hf
 rotate_left
 ·simp only [storesOk,qa4,disj_iff] at hf;obtain ⟨⟨s1,s2⟩,hd⟩:=hf;rcases core_store s1 hq1 with h1|⟨k1,B1,w1,rfl,p1⟩
  ·grind
  rcases core_store s2 hq2 with h2|⟨k2,B2,w2,rfl,p2⟩
  ·grind
  have hne:k1≠k2:=fun e=>hd k1 (by grind) (by grind);have e1:(b.set k1 B1)[k2]?=b[k2]?:=List.getElem?_set_ne hne;have e2:(b.set k2 B2)[k1]?=b[k1]?:=List.getElem?_set_ne (fun e=>hne e.symm);have c1:=p2 b e1.symm;have c2:=p1 (b.set k2 B2) e2;rw [List.set_comm _ _ (fun e=>hne e.symm)] at c2;exact done _ c1 c2
 simp only [fpOk,qa4,Bool.not_eq_true',disj_iff] at hf;obtain ⟨⟨hf0,hf1⟩,hf2⟩:=hf;cases he:g1.eff with
 |false=>grind
 |true=>grind
inductive Runs (Γ:Gam) (l:List Ins) (fps:List FP):List Nat->St->St->Prop
 |nil (σ:St):Runs Γ l fps [] σ σ
 |cons {i:Nat} {L:List Nat} {σ σ1 σ2:St} {ins:Ins} {fp:FP}:l[i]?=some ins->fps[i]?=some fp->step Γ ins σ=some (σ1,fp)->Runs Γ l fps L σ1 σ2->Runs Γ l fps (i::L) σ σ2
theorem Runs.eq (h:Runs Γ l fps L σ σ'):∀{τ:St},StEq σ τ->∃τ',Runs Γ l fps L τ τ'/\StEq σ' τ':=by
 induction h with
 |nil σ=>exact fun h=>⟨_,.nil _,h⟩
 |cons h1 h2 h3 _ ih=>intro τ h;obtain ⟨τ1,h4,h5⟩:=step_eq h h3;obtain ⟨τ',h6,h7⟩:=ih h5;exact ⟨τ',.cons h1 h2 h4 h6,h7⟩
def Free (l:List Ins)(fps:List FP)(i j:Nat):Prop:=∀a b f g,l[i]?=some a->l[j]?=some b->fps[i]?=some f->fps[j]?=some g->apart a b=true/\(fpOk f g||storesOk (some a) (some b) f g)=true
theorem Runs.push {l:List Ins}{fps:List FP}{i:Nat}{L2:List Nat}:∀{L1:List Nat} {σ σ':St},Runs Γ l fps (i::(L1++L2)) σ σ'->(∀j,j∈L1->Free l fps i j)->∃τ,Runs Γ l fps (L1++i::L2) σ τ/\StEq σ' τ
 |[],σ,σ',h,_=>⟨σ',h,.refl _⟩
 |j::L1,σ,σ',h,hf=>by
  cases h with
  |cons a1 a2 a3 h=>
   cases h with
   |cons b1 b2 b3 h=>obtain ⟨h1,h2⟩:=hf j (by simp) _ _ _ _ a1 b1 a2 b2;obtain ⟨τ1,τ2,c1,c2,c3⟩:=step_swap h1 h2 a3 b3;obtain ⟨τ',d1,d2⟩:=Runs.eq h c3;obtain ⟨τ,e1,e2⟩:=Runs.push (.cons a1 a2 c2 d1) (fun k hk=>hf k (by simp [hk]));exact ⟨τ,.cons b1 b2 c1 e1,d2.trans e2⟩
theorem Runs.order {l:List Ins}{fps:List FP}:∀{m k:Nat} {L:List Nat} {σ σ':St},Runs Γ l fps (List.range' k m) σ σ'->L.Perm (List.range' k m)->L.Pairwise (fun j i=>i<j->Free l fps i j)->∃τ,Runs Γ l fps L σ τ/\StEq σ' τ
 |0,k,L,σ,σ',h,hp,_=>by
  have:L=[]:=by simpa using hp
  subst this;exact ⟨σ',h,.refl _⟩
 |m+1,k,L,σ,σ',h,hp,hw=>by
  rw [List.range'_succ] at h hp;obtain ⟨L1,L2,rfl⟩:=List.append_of_mem (hp.symm.subset (qbE));have hp':=(List.perm_cons k).1 (List.perm_middle.symm.trans hp);cases h with
  |cons h1 h2 h3 h4=>have hs:(L1++L2).Sublist (L1++k::L2):=List.Sublist.append (List.Sublist.refl _) (List.sublist_cons_self _ _);obtain ⟨τ,r1,r2⟩:=Runs.order h4 hp' (hw.sublist hs);obtain ⟨τ',r3,r4⟩:=Runs.push (.cons h1 h2 h3 r1) (fun j hj=>by have h5:=(List.pairwise_append.1 hw).2.2 j hj k (by simp);have h6:j∈List.range' (k+1) m:=hp'.subset (by simp [hj])<;>grind);exact ⟨τ',r3,r2.trans r4⟩
theorem runs_of_steps {l:List Ins}{fps:List FP}:∀{m:List Ins} {k:Nat} {σ σ':St} {gs:List FP},steps Γ m σ=some (σ',gs)->(∀j,j<m.length->l[k+j]?=m[j]?/\fps[k+j]?=gs[j]?)->Runs Γ l fps (List.range' k m.length) σ σ'
 |[],k,σ,σ',gs,e,_=>by simp only [steps,qaE,qaH] at e;obtain ⟨rfl,_⟩:=e;exact .nil _
 |i::r,k,σ,σ',gs,e,h=>by
  simp only [steps] at e;split at e
  ·grind
  rename_i σ1 fp hs;obtain ⟨q,hq,e1⟩:=map_some e;simp at e1;obtain ⟨rfl,rfl⟩:=e1;rw [qbr,List.range'_succ];have h0:=h 0 (by simp);simp at h0;refine .cons h0.1 h0.2 hs (runs_of_steps hq fun j hj=>?_);have:=h (j+1) (by simp;omega)<;>grind
theorem steps_length:∀{m:List Ins} {σ σ':St} {gs:List FP},steps Γ m σ=some (σ',gs)->gs.length=m.length
 |[],σ,σ',gs,e=>by grind[steps]
 |i::r,σ,σ',gs,e=>by
  simp only [steps] at e;split at e
  ·grind
  obtain ⟨q,hq,e1⟩:=map_some e;simp at e1;obtain ⟨_,rfl⟩:=e1;simp [steps_length hq]
theorem runs_text (e:steps Γ l σ=some (σ',fps)):Runs Γ l fps (List.range' 0 l.length) σ σ':=
 by grind[runs_of_steps]
theorem rowE_bit {rows:List Nat}{i:Nat}:∀{es:List Edge},(rowE rows es).testBit i=true->∃e∈es,Region.binds .any e=true/\(e.on=i\/(e.on<rows.length/\(rows.getD e.on 0).testBit i=true))
 |[],h=>by grind[rowE]
 |e::r,h=>by
  simp only [rowE] at h;split at h
  ·rename_i hc;rw [qa4] at hc;change (((1<<<e.on)|||rows.getD e.on 0)|||rowE rows r).testBit i=true at h;rw [Nat.testBit_or,Nat.testBit_or,Bool.or_eq_true,Bool.or_eq_true] at h;rcases h with (h|h)|h;·refine ⟨e,by simp,hc.1,.inl ?_⟩<;>simp_all[Nat.one_shiftLeft,Nat.testBit_two_pow]
   ·grind
   obtain ⟨e',h1,h2⟩:=rowE_bit h<;>grind
  obtain ⟨e',h1,h2⟩:=rowE_bit h<;>grind
def RowsOk (ops:Array Oper)(rows:List Nat):Prop:=
 ∀j,j<rows.length->∀i,(rows.getD j 0).testBit i=true->∀L,Order ops L->∀L1 L2,L=L1++j::L2->i∈L1
theorem rowsE_length:∀{os:List Oper} {rows:List Nat},(rowsE rows os).length=rows.length+os.length
 |[],rows=>by simp [rowsE]
 |o::r,rows=>by rw [rowsE,rowsE_length]<;>grind
theorem rowsE_ok {ops:Array Oper}:∀{os:List Oper} {rows:List Nat},RowsOk ops rows->ops.toList.drop rows.length=os->RowsOk ops (rowsE rows os)
 |[],rows,h,_=>h
 |o::r,rows,h,e=>by
  rw [rowsE];have ho:ops.getD rows.length default=o:=by
   have h1:(ops.toList.drop rows.length)[0]?=some o:=by rw [e];rfl
   rw [qa8] at h1;simp at h1;simp [Array.getD_eq_getD_getElem?,h1]
  refine rowsE_ok ?_ (by rw [qaZ,List.length_singleton,<-List.drop_drop,e];rfl);intro j hj i hi L hL L1 L2 eL;rw [qaZ,List.length_singleton] at hj;by_cases hlt:j<rows.length;·rw [qby,qa6 hlt,<-qby] at hi;exact h j hlt i hi L hL L1 L2 eL
  have hje:j=rows.length:=by omega
  subst hje;rw [qby,qbf (by omega)] at hi;simp at hi;obtain ⟨ed,h1,h2,h3⟩:=rowE_bit hi;have hed:edged (ops.getD rows.length default) ed.on=true:=by rw [ho];simp only [edged,List.any_eq_true,qa4,qbg];exact ⟨ed,h1,h2,rfl⟩
  have hm:=hL.follows L1 L2 _ eL _ hed;rcases h3 with rfl|⟨h4,h5⟩
  ·grind
  obtain ⟨A,B,rfl⟩:=List.append_of_mem hm;have:=h ed.on h4 i h5 L hL A (B++rows.length::L2) (by rw [eL];simp)<;>grind
theorem freePairs_mem (hj:j<ops.size)(hi:i<j)(he:((rowsE [] ops.toList).getD j 0).testBit i=false):(i,j)∈freePairs ops:=by
 have hlen:(rowsE [] ops.toList).length=ops.size:=by rw [rowsE_length];simp
 simp only [freePairs,List.mem_flatMap,List.mem_range,List.mem_filterMap];refine ⟨((rowsE [] ops.toList).getD j 0,j),?_,i,hi,by simp only [he];rfl⟩<;>grind
theorem runs_draw (hl:l.length=ops.size)(hd:drawPairs ops l=some ps)(e:steps Γ l σ=some (σ',fps))(hp:pairsOk l fps ps=true)(hL:Order ops L):
  ∃τ,Runs Γ l fps L σ τ/\StEq σ' τ:=by
 refine Runs.order (runs_text e) ?_ ?_;·refine (List.perm_ext_iff_of_nodup hL.nodup (List.nodup_range' ..)).2 fun i=>?_;rw [hL.all i,List.mem_range'_1,hl];omega
 unfold drawPairs at hd;dsimp only at hd;split at hd
 ·rename_i hc;simp at hd;subst hd;rw [qa4] at hc;have hA:=qbo.1 hc.2;have hB:=qbo.1 hp;rw [List.pairwise_iff_getElem];intro p q hp hq hpq hlt;have hsplit:L=L.take p++L[p]::L.drop (p+1):=by simp
  have hjs:L[p]<ops.size:=(hL.all _).1 (qbk _);have hne:((rowsE [] ops.toList).getD L[p] 0).testBit L[q]=false:=by
   cases hx:((rowsE [] ops.toList).getD L[p] 0).testBit L[q] with
   |false=>rfl
   |true=>
    have hrl:(rowsE [] ops.toList).length=ops.size:=by rw [rowsE_length];simp
    have h1:=rowsE_ok (ops:=ops) (rows:=[]) (fun j hj=>by grind) (by simp) _ (by grind) _ hx L hL _ _ hsplit;obtain ⟨s,hs,es⟩:=List.mem_iff_getElem.1 h1;rw [List.getElem_take] at es;have hs':s<p:=by simp at hs;omega
    exact absurd es (List.pairwise_iff_getElem.1 hL.nodup s q (by omega) hq (by omega))
  have hm:=freePairs_mem hjs hlt hne;have h1:=hA _ hm;have h2:=hB _ hm;intro a b f g ha hb hf hg<;>grind
 grind
theorem mvB_mvI (h:i<j)(k:Nat):mvB i j (mvI i j k)=k:=by
 simp only [mvI,mvB,qbg]
 grind
theorem mvI_mvB (h:i<j)(k:Nat):mvI i j (mvB i j k)=k:=by
 simp only [mvI,mvB,qbg]
 grind
theorem mvI_lt (h:i<j)(hj:j<n)(k:Nat):mvI i j k<n↔k<n:=by
 simp only [mvI,qbg]
 grind
theorem mvB_lt (h:i<j)(hj:j<n)(k:Nat):mvB i j k<n↔k<n:=by
 simp only [mvB,qbg]
 grind
theorem permL_length {α:Type}(s:Nat->Nat)(l:List α):(permL s l).length=l.length:=by
 cases l<;>simp [permL]
theorem permL_get {α:Type}{l:List α}(hs:∀k,s k<l.length↔k<l.length)(k:Nat):(permL s l)[k]?=l[s k]?:=by
 by_cases hk:k<l.length
 ·have h2:=(hs k).2 hk;cases l with
  |nil=>simp at hk
  |cons a r=>unfold permL;rw [qbe,List.getElem?_range hk,qbw,qby,qa3 h2];rfl
 rw [qbH (by rw [permL_length];omega),qbH (by have:=mt (hs k).1 hk;omega)]
theorem moved_get {α:Type}{l:List α}(h:i<j)(hj:j<l.length)(k:Nat):(permL (mvB i j) l)[mvI i j k]?=l[k]?:=by rw [permL_get (mvB_lt h hj),mvB_mvI h]
theorem runs_back {l:List Ins}{fqs:List FP}{i j:Nat}(h:i<j)(h1:j<l.length)(h2:j<fqs.length):∀{L:List Nat} {σ τ:St},Runs Γ (permL (mvB i j) l) fqs (L.map (mvI i j)) σ τ->Runs Γ l (permL (mvI i j) fqs) L σ τ
 |[],σ,τ,hr=>by
  cases hr;exact .nil _
 |k::L,σ,τ,hr=>by
  rw [qbt] at hr;cases hr with
  |cons a1 a2 a3 a4=>rw [moved_get h h1] at a1;refine .cons a1 ?_ a3 (runs_back h h1 h2 a4);rw [permL_get (mvI_lt h h2),a2]
theorem pairsBut_ok (h:pairsBut i j l fps s ps=true){a b:Nat}(hm:(a,b)∈ps)(hne:¬(a=i/\b=j)):
  ∃f g,fps[s a]?=some f/\fps[s b]?=some g/\(fpOk f g||storesOk l[a]? l[b]? f g)=true:=by
 have:=qbo.1 h _ hm;dsimp only at this;rw [Bool.or_eq_true] at this;rcases this with h1|h1;·simp at h1;exact absurd h1 hne
 split at h1;next f g hf hg=>exact ⟨f,g,hf,hg,h1⟩
 cases h1
theorem fpOk_symm {a b:FP}(h:fpOk a b=true):fpOk b a=true:=by
 unfold fpOk at h ⊢
 grind
theorem apart_symm {a b:Ins}(h:apart a b=true):apart b a=true:=by
 unfold apart at h ⊢;cases ha:a.dst with
 |none=>
  cases hb:b.dst with
  |none=>rfl
  |some e=>rw [ha,hb] at h;dsimp only at h ⊢;rw [Bool.true_and] at h;rw [h];rfl
 |some d=>
  cases hb:b.dst with
  |none=>rw [ha,hb] at h;dsimp only at h ⊢;rw [Bool.and_true,Bool.and_true] at h;rw [h];rfl
  |some e=>
   rw [ha,hb] at h;dsimp only at h ⊢;rw [qa4,qa4] at h;have h3:(!(e==d))=true:=by have h4:=h.1.2;simp only [Bool.not_eq_true',beq_eq_false_iff_ne] at h4 ⊢;exact fun x=>h4 x.symm
   rw [h.2,h.1.1,h3];rfl
theorem storesOk_symm {a b:Option Ins}{f g:FP}(h:storesOk a b f g=true):storesOk b a g f=true:=by
 unfold storesOk at h ⊢;cases a<;>cases b<;>simp only [qa4,disj_iff] at h ⊢;·cases h
 ·cases h
 ·cases h
 exact ⟨⟨h.1.2,h.1.1⟩,fun r h1 h2=>h.2 r h2 h1⟩
theorem mayMove_ok (h:mayMove i j ps=true){b:Nat}(h1:i<b)(h2:b<j):(b,j)∈ps:=by have:=qbo.1 h b (List.mem_range'_1.2 ⟨by omega,by omega⟩);rw [List.any_eq_true] at this;obtain ⟨p,hp,he⟩:=this;rw [qa4,qbg,qbg] at he;obtain ⟨x,y⟩:=p;obtain ⟨rfl,rfl⟩:=he;exact hp
theorem runs_twin {fqs:List FP}(hl:l.length=ops.size)(hd:drawPairs ops l=some ps)(e:steps Γ l σ=some (σ',fps))(hmv:mayMove i j ps=true)(hp:pairsBut i j l fps id ps=true)
  (e2:steps Γ (permL (mvB i j) l) σ=some (τ,fqs)) (hp2:pairsBut i j l fqs (mvI i j) ps=true) (hij:i<j) (hi:j<l.length) (hL:Order ops L):
  ∃gs ω,Runs Γ l gs L σ ω/\(StEq σ' ω\/StEq τ ω):=by
 have hap:∀a b,(a,b)∈ps->∀x y,l[a]?=some x->l[b]?=some y->apart x y=true:=by
  intro a b hm x y hx hy;unfold drawPairs at hd;dsimp only at hd;split at hd;next hc=>simp at hd;subst hd;rw [qa4] at hc;have:=qbo.1 hc.2 _ hm;dsimp only at this;rw [hx,hy] at this;exact this
  cases hd
 have hfree:∀a b,a<b->b<ops.size->((rowsE [] ops.toList).getD b 0).testBit a=false->(a,b)∈ps:=by
  intro a b hab hb hne;have hm:=freePairs_mem hb hab hne;unfold drawPairs at hd;dsimp only at hd;split at hd;·simp at hd;subst hd;exact hm
  cases hd
 have hnoEdge:∀p q (hp:p<L.length) (hq:q<L.length),p<q->L[q]<L[p]->((rowsE [] ops.toList).getD L[p] 0).testBit L[q]=false:=by
  intro p q hp hq hpq hlt;have hsplit:L=L.take p++L[p]::L.drop (p+1):=by simp
  cases hx:((rowsE [] ops.toList).getD L[p] 0).testBit L[q] with
  |false=>rfl
  |true=>
   have hrl:(rowsE [] ops.toList).length=ops.size:=by rw [rowsE_length];simp
   have h1:=rowsE_ok (ops:=ops) (rows:=[]) (fun j hj=>by grind) (by simp) _ (by grind) _ hx L hL _ _ hsplit;obtain ⟨s,hs,es⟩:=List.mem_iff_getElem.1 h1;rw [List.getElem_take] at es;have hs':s<p:=by simp at hs;omega
   exact absurd es (List.pairwise_iff_getElem.1 hL.nodup s q (by omega) hq (by omega))
 have hperm:L.Perm (List.range' 0 l.length):=(List.perm_ext_iff_of_nodup hL.nodup (List.nodup_range' ..)).2 fun k=>by rw [hL.all k,List.mem_range'_1,hl];omega
 by_cases hbad:∃p q,∃(hp:p<L.length) (hq:q<L.length),p<q/\L[p]=j/\L[q]=i
 ·obtain ⟨p0,q0,hp0,hq0,hpq0,e1,e3⟩:=hbad;have hfl:=steps_length e2;rw [permL_length] at hfl;have hperm2:(L.map (mvI i j)).Perm (List.range' 0 (permL (mvB i j) l).length):=by
   rw [permL_length];refine (List.perm_ext_iff_of_nodup ?_ (List.nodup_range' ..)).2 fun k=>?_;·unfold List.Nodup;rw [List.pairwise_map];exact hL.nodup.imp fun {a b} hab h=>hab (by rw [<-mvB_mvI hij a,h,mvB_mvI hij])
   rw [qbh,List.mem_range'_1];constructor
   ·rintro ⟨m,hm,rfl⟩
    have:=(hL.all m).1 hm;rw [<-hl] at this;exact ⟨Nat.zero_le _,by rw [Nat.zero_add];exact (mvI_lt hij hi m).2 this⟩
   intro hk;refine ⟨mvB i j k,(hL.all _).2 ?_,mvI_mvB hij k⟩;rw [<-hl];exact (mvB_lt hij hi k).2 (by omega)
  have hpw:(L.map (mvI i j)).Pairwise (fun j' k=>k<j'->Free (permL (mvB i j) l) fqs k j'):=by
   rw [List.pairwise_iff_getElem];intro p q hp hq hpq hlt;rw [qa9] at hp hq;rw [List.getElem_map,List.getElem_map] at hlt ⊢;intro x y f g hx hy hf hg;rw [moved_get hij hi] at hx hy;by_cases hab:L[q]<L[p]
   ·have hjs:L[p]<ops.size:=(hL.all _).1 (qbk _);have hm:=hfree _ _ hab hjs (hnoEdge p q hp hq hpq hab);have hne:¬(L[q]=i/\L[p]=j):=by
     rintro ⟨h1,h2⟩
     rw [h1,h2] at hlt;simp only [mvI,qbg] at hlt
     grind
    obtain ⟨f',g',hf',hg',hok⟩:=pairsBut_ok hp2 hm hne;rw [hf] at hf';rw [hg] at hg';cases hf';cases hg';rw [hx,hy] at hok;exact ⟨hap _ _ hm x y hx hy,hok⟩
   have hne:L[q]≠L[p]:=fun h=>(List.pairwise_iff_getElem.1 hL.nodup p q hp hq hpq) h.symm;have h3:L[q]=j/\i<=L[p]/\L[p]<j:=by
    simp only [mvI,qbg] at hlt
    grind
   by_cases hpi:L[p]=i
   ·exfalso;have hpp:p=q0:=by
     rcases Nat.lt_trichotomy p q0 with h|h|h;·exact absurd (hpi.trans e3.symm) (List.pairwise_iff_getElem.1 hL.nodup p q0 hp hq0 h)
     ·exact h
     exact absurd (e3.trans hpi.symm) (List.pairwise_iff_getElem.1 hL.nodup q0 p hq0 hp h)
    have hqq:q=p0:=by
     rcases Nat.lt_trichotomy q p0 with h|h|h;·exact absurd (h3.1.trans e1.symm) (List.pairwise_iff_getElem.1 hL.nodup q p0 hq hp0 h)
     ·exact h
     exact absurd (e1.trans h3.1.symm) (List.pairwise_iff_getElem.1 hL.nodup p0 q hp0 hq h)
    omega
   have hm:=mayMove_ok hmv (b:=L[p]) (by omega) h3.2.2;obtain ⟨f',g',hf',hg',hok⟩:=pairsBut_ok hp2 hm (fun h=>hpi h.1);rw [h3.1] at hx hf;rw [hg] at hf';rw [hf] at hg';cases hf';cases hg';rw [hx,hy,Bool.or_eq_true] at hok;refine ⟨apart_symm (hap _ _ hm y x hy hx),?_⟩;rw [Bool.or_eq_true];rcases hok with h|h;·exact .inl (fpOk_symm h)
   exact .inr (storesOk_symm h)
  obtain ⟨ω,h1,h2⟩:=Runs.order (runs_text e2) hperm2 hpw;exact ⟨_,ω,runs_back hij hi (by omega) h1,.inr h2⟩
 have hpw:L.Pairwise (fun j k=>k<j->Free l fps k j):=by rw [List.pairwise_iff_getElem];intro p q hp' hq hpq hlt;have hjs:L[p]<ops.size:=(hL.all _).1 (qbk _);have hm:=hfree _ _ hlt hjs (hnoEdge p q hp' hq hpq hlt);obtain ⟨f',g',hf',hg',hok⟩:=pairsBut_ok hp hm (fun h=>hbad ⟨p,q,hp',hq,hpq,h.2,h.1⟩);intro x y f g hx hy hf hg;have hf'':fps[L[q]]?=some f':=hf';have hg'':fps[L[p]]?=some g':=hg';rw [hf] at hf'';rw [hg] at hg'';cases hf'';cases hg'';rw [hx,hy] at hok;exact ⟨hap _ _ hm x y hx hy,hok⟩
 obtain ⟨ω,h1,h2⟩:=Runs.order (runs_text e) hperm hpw;exact ⟨_,ω,h1,.inl h2⟩
end Go.Em
namespace Go.Em
variable {ops:Array Oper}{Q:Exit->Act->World->Prop}{ps:List (Nat×Nat)}{fps:List FP}{l:List Ins}{L:List Nat}{id:Nat}{o:Oper}{r:Option Nat}{σ':St}
variable {P:Program} {R:CodeRel} {x:Ctx} {K:Kn} {C:List CB} {σ:St} {a:Act} {w:World}
variable {A:Ann} {Γ:Gam}
theorem trOpers_get {nt:Nat}{ops:Array Oper}:∀{m:List Oper} {l:List Ins},trOpers P R.gl A nt ops m=some l->l.length=m.length/\∀(j:Nat) (i:Ins),l[j]?=some i->∃o,m[j]?=some o/\trOper P R.gl A nt ops o=some i
 |[],l,e=>by simp_all[trOpers]
 |o::m,l,e=>by
  simp only [trOpers] at e;split at e
  ·grind
  rename_i i hi;obtain ⟨q,hq,rfl⟩:=map_some e;obtain ⟨h1,h2⟩:=trOpers_get hq
  grind
theorem trOp_defer {i:I}(h:trOp P R.gl A o=some i):∀c,o.op≠.defer c:=by intro c e<;>simp_all[trOp]
theorem trOper_spec {nt:Nat}{i:Ins}(h:trOper P R.gl A nt ops o=some i):
  i.dst=o.dst/\(∀n,o.dst=some n->n<nt)/\trOp P R.gl A o=some i.op/\
   ((o.guard=none/\i.g=none)\/∃j want s,o.guard=some (j,want)/\(ops[j]?).bind (·.dst)=some s/\i.g=some (s,want)):=by
 unfold trOper at h;split at h
 ·grind
 rename_i hd;have hd':∀n,o.dst=some n->n<nt:=by intro n e;rw [e] at hd;simpa [dstOk] using hd
 grind
theorem wpOps_one {i:Nat}{ins:Ins}{σ1:St}{fp:FP}(hΓ:GamOk P R Γ)(h:Rel P R x K C σ a w)
  (hl:trOpers P R.gl A x.nt ops ops.toList=some l) (hi:l[i]?=some ins) (hs:step Γ ins σ=some (σ1,fp))
  (hn:∀K' C' a' w',Em.Rel P R x K' C' σ1 a' w'->wpOpsIn (Fr r) 0 P ops Q L a' w'):wpOpsIn (Fr r) 0 P ops Q (i::L) a w:=by
 obtain ⟨o,ho,ht⟩:=(trOpers_get hl).2 i ins hi;obtain ⟨hd,hlt,hop,hg⟩:=trOper_spec ht;have ho':ops[i]?=some o:=by simpa using ho
 have habout:∀f,o.about P w a.eval=some f->(Fr r).fn f:=fun _ _=>trivial;simp only [wpOpsIn,ho'];have hgo:stepGo Γ ins σ=some (σ1,fp)->o.wpIn (Fr r) 0 P a w (wpOpsIn (Fr r) 0 P ops Q L) Q:=by
  intro e;unfold stepGo at e;split at e
  ·grind
  rename_i y bx fp' hst;simp at e;obtain ⟨rfl,rfl⟩:=e;refine ⟨habout,?_⟩;rw [Oper.semAt_eq _ _ _ (trOp_defer hop)];refine stepI_sound hΓ h hop hst r _ Q fun K' C' v w' hr hp=>?_;have:=hr.set hp o.dst hlt<;>grind
 have hskip:stepSkip ins σ=some (σ1,fp)->wpOpsIn (Fr r) 0 P ops Q L (a.put o.dst undef) w:=by intro e;unfold stepSkip at e;simp at e;obtain ⟨rfl,rfl⟩:=e;have:=h.set (y:=undefX) (v:=undef) (.v rfl) o.dst hlt;rw [<-hd] at this ⊢;exact hn K C _ w this
 unfold step at hs;rcases hg with ⟨hg1,hg2⟩|⟨j,want,s,hg1,hg2,hg3⟩;·simp_all[Region.wanted]
 rw [hg3] at hs;simp only [Region.wanted,hg1];dsimp only at hs;split at hs
 ·rename_i b hb;obtain ⟨v,hv,hr⟩:=h.tm s _ hb;have hv':=rep_v hr;subst hv';have hy:yielded ops a.tmps j=some b:=by simp [yielded,hg2,hv]
  grind
 next t hb=>obtain ⟨v,hv,hr⟩:=h.tm s _ hb;have hv':=rep_v hr<;>simp_all[yielded]
 grind
theorem runs_sound (hΓ:GamOk P R Γ)(hl:trOpers P R.gl A x.nt ops ops.toList=some l){σ σ':St}(hr:Runs Γ l fps L σ σ'):
  ∀{K:Kn} {C:List CB} {a:Act} {w:World},Rel P R x K C σ a w->(∀K' C' a' w',Em.Rel P R x K' C' σ' a' w'->Q .normal a' w')->wpOpsIn (Fr r) 0 P ops Q L a w:=by
 induction hr with
 |nil σ=>intro K C a w h hn;exact hn K C a w h
 |cons h1 h2 h3 h4 ih=>grind[wpOps_one]
theorem Rel.stEq {τ:St}(h:Rel P R x K C σ a w)(e:StEq σ τ):Rel P R x K C τ a w:=by obtain ⟨tm,bx⟩:=σ;obtain ⟨tm',bx'⟩:=τ;obtain ⟨h1,h2⟩:=e;dsimp only at h1 h2;subst h1;exact h.tms fun n y hy=>h.tm n y (by grind)
theorem StEq.symm {σ τ:St}(h:StEq σ τ):StEq τ σ:=⟨h.1.symm,fun n=>(h.2 n).symm⟩
theorem region_text (hΓ:GamOk P R Γ)(h:Rel P R x K C σ a w)(hl:trOpers P R.gl A x.nt ops ops.toList=some l)
  (hs:steps Γ l σ=some (σ',fps)) (hn:∀K' C' a' w',Em.Rel P R x K' C' σ' a' w'->Q .normal a' w'):(Code.region id ops false).wpIn (Fr r) 0 P Q a w:=by
 refine wpIn_region ?_;have:=runs_text hs;rw [(trOpers_get hl).1,<-List.range_eq_range'] at this<;>grind[runs_sound]
theorem region_draw (hΓ:GamOk P R Γ)(h:Rel P R x K C σ a w)(hl:trOpers P R.gl A x.nt ops ops.toList=some l)
  (hd:drawPairs ops l=some ps) (hs:steps Γ l σ=some (σ',fps)) (hp:pairsOk l fps ps=true) (hn:∀K' C' a' w',Em.Rel P R x K' C' σ' a' w'->Q .normal a' w'):(Code.region id ops true).wpIn (Fr r) 0 P Q a w:=by
 refine wpIn_region_draw fun t=>?_;have he:edgesOk ops=true:=by
  unfold drawPairs at hd;dsimp only at hd;split at hd
  ·grind
  ·grind
 obtain ⟨τ,h1,h2⟩:=runs_draw (by rw [(trOpers_get hl).1];simp) hd hs hp (schedule_order he (P.follows .mixedOrders) t);exact runs_sound hΓ hl h1 (h.still (FrameOk.drew _ w)) fun K' C' a' w' hr=>hn K' C' a' w' (hr.stEq h2.symm)
theorem vsame_iff (a b:Value):vsame a b=true↔a=b:=by
 unfold vsame;split
 ·rw [qa4,decide_eq_true_iff,decide_eq_true_iff]
  grind
 ·rw [qbg]
  grind
 ·rw [decide_eq_true_iff]
  grind
 exact @decide_eq_true_iff _ (Classical.propDecidable _)
mutual
theorem X.same_iff:∀(a b:X),X.same a b=true↔a=b
 |.v a,b=>by
  cases b with
  |v b=>show vsame a b=true↔_;rw [vsame_iff];grind
  |_=>exact @decide_eq_true_iff _ (Classical.propDecidable _)
 |.sl t n es,b=>by
  cases b with
  |sl t' n' es'=>
   show (t==t'&&n==n'&&sameL2 es es')=true↔_;have:=sameL2_iff es es';simp only [qa4,qbg,this]
   grind
  |_=>exact @decide_eq_true_iff _ (Classical.propDecidable _)
 |.bs x y z,b=>by
  cases b with
  |bs x' y' z'=>
   show (x==x'&&y==y'&&z==z')=true↔_;simp only [qa4,qbg]
   grind
  |_=>exact @decide_eq_true_iff _ (Classical.propDecidable _)
 |.ptr x y z,b=>by
  cases b with
  |ptr x' y' z'=>
   show (x==x'&&y==y'&&z==z')=true↔_;simp only [qa4,qbg]
   grind
  |_=>exact @decide_eq_true_iff _ (Classical.propDecidable _)
 |.dp a,b=>by
  cases b with
  |dp b=>show sameL a b=true↔_;rw [sameL_iff a b];grind
  |_=>exact @decide_eq_true_iff _ (Classical.propDecidable _)
 |.agg a,b=>by
  cases b with
  |agg b=>show sameL a b=true↔_;rw [sameL_iff a b];grind
  |_=>exact @decide_eq_true_iff _ (Classical.propDecidable _)
 |.tup a,b=>by
  cases b with
  |tup b=>show sameL a b=true↔_;rw [sameL_iff a b];grind
  |_=>exact @decide_eq_true_iff _ (Classical.propDecidable _)
 |.fn f l,b=>by cases b<;>exact @decide_eq_true_iff _ (Classical.propDecidable _)
 |.yl i,b=>by cases b<;>exact @decide_eq_true_iff _ (Classical.propDecidable _)
 |.mp i,b=>by cases b<;>exact @decide_eq_true_iff _ (Classical.propDecidable _)
 |.it i,b=>by cases b<;>exact @decide_eq_true_iff _ (Classical.propDecidable _)
 |.ifc,b=>by cases b<;>exact @decide_eq_true_iff _ (Classical.propDecidable _)
theorem sameL_iff:∀(a b:List X),sameL a b=true↔a=b
 |[],[]=>by simp [sameL]
 |[],_::_=>@decide_eq_true_iff _ (Classical.propDecidable _)
 |_::_,[]=>@decide_eq_true_iff _ (Classical.propDecidable _)
 |x::r,y::s=>by
  show (x.same y&&sameL r s)=true↔_;rw [qa4,X.same_iff x y,sameL_iff r s]
  grind
theorem sameL2_iff:∀(a b:qbI),sameL2 a b=true↔a=b
 |[],[]=>by simp [sameL2]
 |[],_::_=>@decide_eq_true_iff _ (Classical.propDecidable _)
 |_::_,[]=>@decide_eq_true_iff _ (Classical.propDecidable _)
 |x::r,y::s=>by
  show (sameL x y&&sameL2 r s)=true↔_;rw [qa4,sameL_iff x y,sameL2_iff r s]
  grind
end
theorem Bx.same_iff (a b:Bx):Bx.same a b=true↔a=b:=by
 unfold Bx.same;split;·rw [sameL_iff];grind
 ·simp only [qa4,qbg,sameL2_iff]
  grind
 ·simp
 exact @decide_eq_true_iff _ (Classical.propDecidable _)
theorem sameB_iff:∀a b:List Bx,sameB a b=true↔a=b
 |[],[]=>by simp [sameB]
 |[],_::_=>by simp [sameB]
 |_::_,[]=>by simp [sameB]
 |a::r,b::s=>by
  unfold sameB;rw [qa4,Bx.same_iff,sameB_iff r s]
  grind
theorem sameT_iff:∀a b:List (Nat×X),sameT a b=true↔a=b
 |[],[]=>by simp [sameT]
 |[],_::_=>by simp [sameT]
 |_::_,[]=>by simp [sameT]
 |a::r,b::s=>by
  unfold sameT;rw [qa4,qa4,qbg,X.same_iff,sameT_iff r s]
  grind
theorem St.same_iff (a b:St):St.same a b=true↔a=b:=by
 obtain ⟨t,l⟩:=a;obtain ⟨t',l'⟩:=b;unfold St.same;rw [qa4,sameT_iff,sameB_iff]
 grind
theorem region_twin {nIn:Nat}{live:List Nat}{s t:St}(hΓ:GamOk P R Γ)(h:Rel P R x K C σ a w)(hl:trOpers P R.gl A x.nt ops ops.toList=some l)
  (hd:drawPairs ops l=some ps) (hs:steps Γ l σ=some (σ',fps)) (ht:twin Γ nIn l ps live σ σ' fps=some (s,t))
  (hn:∀(τ:St) K' C' a' w',(canon nIn ⟨keep live τ.tm,τ.bx⟩=some s\/canon nIn ⟨keep live τ.tm,τ.bx⟩=some t)->Em.Rel P R x K' C' τ a' w'->Q .normal a' w'):(Code.region id ops true).wpIn (Fr r) 0 P Q a w:=by
 refine wpIn_region_draw fun n=>?_;have he:edgesOk ops=true:=by
  unfold drawPairs at hd;dsimp only at hd;split at hd
  ·grind
  ·grind
 unfold twin at ht;split at ht;·cases ht
 rename_i i j hi;split at ht
 ·rename_i hc;rw [qa4,decide_eq_true_iff,qa4] at hc;split at ht;·cases ht
  rename_i τ fqs hs2;split at ht
  ·rename_i hp2;split at ht
   ·rename_i c1 c2 hc1 hc2;simp only [qaE,qaH] at ht;obtain ⟨rfl,rfl⟩:=ht;obtain ⟨gs,ω,h1,h2⟩:=runs_twin (by rw [(trOpers_get hl).1];simp) hd hs hc.2.1 hc.2.2 hs2 hp2 hc.1.1 hc.1.2 (schedule_order he (P.follows .mixedOrders) n);refine runs_sound hΓ hl h1 (h.still (FrameOk.drew _ w)) fun K' C' a' w' hr=>?_;rcases h2 with h2|h2;·exact hn _ K' C' a' w' (.inl hc1) (hr.stEq h2.symm)
    exact hn _ K' C' a' w' (.inr hc2) (hr.stEq h2.symm)
   cases ht
  cases ht
 cases ht
end Go.Em
