/-.-/
import Derived.MapKept
import Derived.Test.YtpcjeobkehmhpaaGreatDoorEmU1
set_option linter.unusedSimpArgs false
set_option linter.unusedVariables false
namespace Go.Em
variable {args:Array Operand}{es new:qaY}{z:List X}{bytes c cap h l len m n sz:Nat}{p':Opd}{p:Operand}{ob oc:Option Addr}{hi' lo':Option Opd}{hi lo mx:Option Operand}
variable {P:Program} {R:aT} {x:Ctx} {K:Kn} {C:List CB} {σ:St} {a:Act} {w:World}
variable {o:Oper} {y:X} {bx:List Bx} {fp:FP} {A:Ann} {Γ:Gam}
theorem mW {n y:Nat}(code:BoundsCode)(h:n<=y)(w:World):(Instr.sliceBound (.int .i64 (n:Int)) y code).run P w=.ok n w:=by simp_all[Instr.sliceBound,asIntOf]
def ig (a:Act)(d:Nat):Option Operand->Nat->Prop
 |none,n=>n=d
 |some p,n=>a.eval p=.int .i64 (n:Int)
theorem lu {d:Nat}(hg:qp R K)(ht:zA K C σ.tm a.tmps)(hl:kU P R.gl lo=some lo')(e:dQ σ d lo'=some n):ig a d lo n:=by
 cases lo with
 |none=>simp only [kU,qag] at hl;subst hl;simp only [dQ,qag] at e;exact e.symm
 |some p=>simp only [kU] at hl;obtain ⟨q,hq,rfl⟩:=qac.1 hl;simp only [dQ] at e;obtain ⟨z,hz,hn⟩:=qaD.1 e;exact I9 (bC hg ht hq hz) hn
theorem qE (hl:ig a 0 lo l)(hh:ig a len hi h)(hm:ig a cap mx m)(h1:l<=h)(h2:h<=m)(h3:m<=cap)(hmx:mx=none\/hi.isSome=true)(isSlice:Bool)(w:World):
  (Instr.sliceBounds isSlice len cap (lo.map a.eval) (hi.map a.eval) (mx.map a.eval)).run P w=.ok (l,h,m) w:=by
 cases mx with
 |none=>
  simp only [ig] at hm;subst hm;cases hi with
  |none=>simp only [ig] at hh;subst hh;cases lo<;>simp_all[ig,Instr.sliceBounds,mW]
  |some q=>simp only [ig] at hh;cases lo<;>simp_all[ig,Instr.sliceBounds,mW]
 |some r=>
  simp only [ig] at hm;cases hi with
  |none=>grind
  |some q=>simp only [ig] at hh;cases lo<;>simp_all[ig,Instr.sliceBounds,mW]
theorem qJ {t e:TypeId}(ho:o.op=.slice t p lo hi mx)(hu:P.underlying t=some (.slice e))(hs:dY P e=some sz)
  (hv:a.eval p=.slice ob len cap) (hl:ig a 0 lo l) (hh:ig a len hi h) (hm:ig a cap mx m) (h1:l<=h) (h2:h<=m) (h3:m<=cap) (hmx:mx=none\/hi.isSome=true):
  (execOp a.eval o).run P w=.ok (.value (.slice (if m=l then ob else ob.map (·.add (l*sz))) (h-l) (m-l))) w:=by
 have hb:=qE (P:=P) hl hh hm h1 h2 h3 hmx true w;simp only [execOp,ho,Instr.sliceAt,Sem.run_bind,run_underlying hu,Result.andThen_ok,Instr.slice,hv,hb,dL hs w];rfl
theorem BR {t t1 e:TypeId}{mx':Option Opd}{tt:Bool}(hr:Rel P R x K C σ a w)(ho:o.op=.slice t p lo hi mx)(hu:P.underlying t=some (.slice e))(hs:dY P e=some sz)
  (hp:aW P R.gl t1 p=some p') (hlo:kU P R.gl lo=some lo') (hhi:kU P R.gl hi=some hi') (hmx:kU P R.gl mx=some mx') (ep:σ.ev p'=some (.sl tt sz es)) (el:dQ σ 0 lo'=some l) (eh:dQ σ es.length hi'=some h)
  (h1:l<=h) (h2:h<=es.length) (tf:Bool) (hcase:(mx=none/\tf=(tt&&h==es.length))\/(∃m,mx=some m/\hi.isSome=true/\ig a 0 mx h/\tf=true)):
  dR P R x σ a w o (.sl tf sz ((es.take h).drop l)) σ.bx:=by
 have hrep:=bC hr.inv.glob hr.tm hp ep;have bl:=lu hr.inv.glob hr.tm hlo el;have bh:=lu hr.inv.glob hr.tm hhi eh;have hlen:((es.take h).drop l).length=h-l:=by simp;omega
 generalize hv:a.eval p=v at hrep;have fin:∀ob cap,v=.slice ob es.length cap->es.length<=cap->(tt=true->cap=es.length)->(ob=none->cap=0)->(∀b o',ob=some ⟨b,o',none⟩->∃fl,Flat K sz es fl/\∀k v,fl[k]?=some v->K b (o'+k)=some v)->
   (∀ad,ob=some ad->ad.spot=none)->dR P R x σ a w o (.sl tf sz ((es.take h).drop l)) σ.bx:=by
  intro ob cap hvo hcap htt hnone hfl hspot;subst hvo;have main:∀m,ig a cap mx m->h<=m->m<=cap->(mx=none\/hi.isSome=true)->(tf=true->m=h)->dR P R x σ a w o (.sl tf sz ((es.take h).drop l)) σ.bx:=by
   intro m bm hhm hmc hor htf;refine .still hr (qJ ho hu hs hv bl bh bm h1 hhm hmc hor) ?_;cases ob with
   |none=>
    have hc0:=hnone rfl;have:(es.take h).drop l=[]:=qaM (by omega);rw [this];have e1:h-l=0:=by omega
    have e2:m-l=0:=by omega
    rw [e1,e2];split<;>exact .iK
   |some ad=>
    obtain ⟨b,o',sp⟩:=ad;have:=hspot _ rfl;simp only at this;subst this;obtain ⟨fl,hf,hk⟩:=hfl b o' rfl;rw [<-hlen];by_cases hml:m=l;·rw [if_pos hml];have:(es.take h).drop l=[]:=qaM (by omega);rw [this];exact (Flat.nil (K:=K) (sz:=sz)).rep (fun k v hv=>by grind) (fun _=>by grind) (by simp)
    rw [if_neg hml];simp only [qao,addr_add];refine ((hf.take h).drop l).rep (fun k v hv=>?_) (fun e=>by rw [hlen,htf e]) (by omega)<;>grind
  rcases hcase with ⟨rfl,rfl⟩|⟨m,rfl,hsome,bm,rfl⟩;·refine main cap rfl (by omega) (Nat.le_refl _) (.inl rfl) (fun e=>?_)<;>simp_all
  exact main h bm (Nat.le_refl _) (by omega) (.inr hsome) (fun _=>rfl)
 have zqn:=hrep;cases hrep with
 |iK=>
  have hh0:h=0:=by simpa using h2
  have hl0:l=0:=by omega
  subst hh0;subst hl0;have e0:(([]:qaY).take 0).drop 0=[]:=rfl;rw [e0];rcases hcase with ⟨rfl,rfl⟩|⟨m,rfl,hsome,bm,rfl⟩;·refine .still hr (qJ ho hu hs hv bl bh rfl (Nat.le_refl _) (Nat.le_refl _) (Nat.le_refl _) (.inl rfl)) ?_<;>simp_all
  refine .still hr (qJ ho hu hs hv bl bh bm (Nat.le_refl _) (Nat.le_refl _) (Nat.le_refl _) (.inr hsome)) ?_;simp only [Nat.sub_self,if_true];exact .iK
 |sl vals hle ht hcap hcell hk hrr=>refine fin _ _ rfl hcap ht (fun e=>by cases e) (fun b' o'' e=>?_) (fun ad e=>by grind);cases e;exact zqn.flat
theorem BU {t t1 e:TypeId}{i off:Nat}(hr:Rel P R x K C σ a w)(ho:o.op=.slice t p lo hi none)(hu:P.underlying t=some (.slice e))(hs:dY P e=some sz)
  (hp:aW P R.gl t1 p=some p') (hlo:kU P R.gl lo=some lo') (hhi:kU P R.gl hi=some hi') (ep:σ.ev p'=some (.bs i off len)) (el:dQ σ 0 lo'=some l) (eh:dQ σ len hi'=some h)
  (h1:l<=h) (h2:h<=len) (hy:(l=h/\y=.sl false sz [])\/(l≠h/\(∃es,σ.bx[i]?=some (.row sz es))/\y=.bs i (off+l) (h-l))):dR P R x σ a w o y σ.bx:=by
 have hrep:=bC hr.inv.glob hr.tm hp ep;have bl:=lu hr.inv.glob hr.tm hlo el;have bh:=lu hr.inv.glob hr.tm hhi eh;generalize hv:a.eval p=v at hrep;cases hrep with
 |bs hc hcap hlen=>
  rename_i b base hi0 sz' cap;refine .still hr (qJ ho hu hs hv bl bh rfl h1 (by omega) (Nat.le_refl _) (.inl rfl)) ?_;rcases hy with ⟨e1,rfl⟩|⟨e1,⟨es,hb⟩,rfl⟩
  ·subst e1;rw [Nat.sub_self];split;·exact (Flat.nil (K:=K) (sz:=sz)).rep (fun k v hv=>by grind) (fun e=>by grind) (by simp)
   simp only [qao,addr_add];exact (Flat.nil (K:=K) (sz:=sz)).rep (fun k v hv=>by grind) (fun e=>by grind) (by simp)
  obtain ⟨hszz,_⟩:=hr.inv.box i _ _ hb hc;subst hszz;rw [if_neg (by omega)];simp only [qao,addr_add];have:=Rep.bs (K:=K) (off:=off+l) (len:=h-l) (cap:=cap-l) hc (by rw [show off+l+(cap-l)=off+cap by omega];exact hcap) (by omega)<;>grind
 |lQ hc=>
  refine .still hr (qJ ho hu hs hv bl bh rfl h1 (by omega) (Nat.le_refl _) (.inl rfl)) ?_;have e1:h=0:=by omega
  have e2:l=0:=by omega
  subst e1;subst e2;rcases hy with ⟨_,rfl⟩|⟨e1,_⟩;·simp only [Nat.sub_self,if_true];exact .iK
  grind
theorem Y5 {t t1:TypeId}{s:qaZ}(hr:Rel P R x K C σ a w)(ho:o.op=.slice t p lo hi none)(hu:P.underlying t=some .string)
  (hp:aW P R.gl t1 p=some p') (hlo:kU P R.gl lo=some lo') (hhi:kU P R.gl hi=some hi') (ep:σ.ev p'=some (.v (.string s))) (el:dQ σ 0 lo'=some l) (eh:dQ σ s.size hi'=some h)
  (h1:l<=h) (h2:h<=s.size):dR P R x σ a w o (.v (.string (s.extract l h))) σ.bx:=by
 have r1:=fD (bC hr.inv.glob hr.tm hp ep);have bl:=lu hr.inv.glob hr.tm hlo el;have bh:=lu hr.inv.glob hr.tm hhi eh;refine .still hr (v:=.string (s.extract l h)) ?_ (.v rfl);have hb:=qE (P:=P) (mx:=none) bl bh (m:=s.size) rfl h1 h2 (Nat.le_refl _) (.inl rfl) false w;simp only [Option.map_none] at hb;simp only [execOp,ho,Instr.sliceAt,Sem.run_bind,run_underlying hu,Result.andThen_ok,Instr.slice,r1,Option.map_none,Option.isSome_none]<;>simp_all
theorem Sz {isMax:Bool}(f:Value->Value->Sem Value)(hf:∀m n:Int,f (.int .i64 m) (.int .i64 n)=pure (.int .i64 (if isMax then (if n>m then n else m) else (if n<m then n else m)))):
  ∀{ys:List X} {vs:List Value} {m z:Int},vs.length=ys.length->(∀(j:Nat) (y:X) (v:Value),ys[j]?=some y->vs[j]?=some v->Rep K C y v)->mmV isMax m ys=some z->(vs.foldlM f (.int .i64 m)).run P w=.ok (.int .i64 z) w
 |[],vs,m,z,h1,h2,h3=>by simp_all[mmV]
 |y::r,[],m,z,h1,h2,h3=>by grind
 |y::r,v::vs,m,z,h1,h2,h3=>by
  unfold mmV at h3;split at h3
  ·grind
  next m' n r' e1=>simp only [List.cons.injEq] at e1;obtain ⟨rfl,rfl⟩:=e1;have hv:=fD (h2 0 _ v rfl rfl);subst hv;simp only [List.foldlM_cons,hf,pure_bind];exact Sz f hf (by grind) (fun j y v e e'=>h2 (j+1) y v (by grind) (by grind)) h3
  grind
theorem zpY {isMax:Bool}{tys:Array TypeId}{qs:List Opd}{ys:List X}{m z:Int}(h:Rel P R x K C σ a w)(ho:o.op=.call ⟨.builtin (if isMax then .max else .min),args,tys⟩)(hq:iG P R.gl tys.toList args.toList=some qs)
  (he:evs σ qs=some (.v (.int .i64 m)::ys)) (hm:mmV isMax m ys=some z):dR P R x σ a w o (.v (.int .i64 z)) σ.bx:=by
 obtain ⟨h1,h2⟩:=JJ h.inv.glob h.tm hq he;refine .still h (v:=.int .i64 z) ?_ (.v rfl);have hargs:∃p r,args.toList=p::r:=by
  cases hl:args.toList with
  |nil=>grind
  |cons p r=>grind
 obtain ⟨p,r,hl⟩:=hargs;rw [hl] at h1 h2;have hp:=fD (h2 0 _ (a.eval p) rfl rfl);have hlist:(args.map a.eval).toList=.int .i64 m::r.map a.eval:=by simp [hl,hp]
 have hfold:=fun f hf=>Sz (P:=P) (w:=w) (K:=K) (C:=C) (isMax:=isMax) f hf (ys:=ys) (vs:=r.map a.eval) (by grind) (fun j y v e e'=>h2 (j+1) y v (by grind) (by grind)) hm;cases isMax;·have:=hfold Builtin.min2 (fun m n=>by simp [Builtin.min2]);simp only [execOp,ho,resolve,invoke,builtin,Sem.run_bind,Sem.run_pure,Result.andThen_ok,Builtin.min_,hlist,this,qaQ,if_false]
 have:=hfold Builtin.max2 (fun m n=>by simp [Builtin.max2]);simp only [execOp,ho,resolve,invoke,builtin,Sem.run_bind,Sem.run_pure,Result.andThen_ok,Builtin.max_,hlist,this,if_true]
theorem pq {t0 t1 ty e e1:TypeId}(h0:P.underlying t0=some (.slice e))(h1:P.underlying t1=some (.slice e1))(hs:dY P e=some sz)(news:List Value)(w':World)
  (hf:(Builtin.firstCells sz m (.slice oc m c)).run P w=.ok news.toArray w) (hroom:n+m<=cap)
  (hst:∀ad,ob=some ad->(storeCells (ad.add (n*sz)) news).run P w=.ok () w') (hno:ob=none->w'=w):
  (Builtin.append_ #[t0,t1] ty #[.slice ob n cap,.slice oc m c]).run P w=.ok (.slice ob (n+m) cap) w':=by
 cases ob with
 |none=>have:=hno rfl;subst this;simp [Builtin.append_,run_underlying h0,run_underlying h1,dL hs,Builtin.lenOf,hroom,hf]
 |some ad=>simp [Builtin.append_,run_underlying h0,run_underlying h1,dL hs,Builtin.lenOf,hroom,hf,hst ad rfl]
theorem qK {t0 t1 ty e e1:TypeId}(h0:P.underlying t0=some (.slice e))(h1:P.underlying t1=some (.slice e1))(hs:dY P e=some sz)(hb:uf P e=some bytes)(hz:oN P e=some z)(olds news:List Value)
  (ho:∀w':World,w'.heap=w.heap->(Builtin.firstCells sz n (.slice ob n cap)).run P w'=.ok olds.toArray w') (hf:∀w':World,w'.heap=w.heap->(Builtin.firstCells sz m (.slice oc m c)).run P w'=.ok news.toArray w')
  (hroom:cap<n+m) (hbig:(n+m)*bytes<=140737488355328) (h63:n+m<2^62) (hpos:0<bytes):
  ∃rest:List Value,(Builtin.append_ #[t0,t1] ty #[.slice ob n cap,.slice oc m c]).run P w=.ok (.slice (some ⟨w.heap.size,0,none⟩) (n+m) (grownCap w (n+m) cap e)) (w.drew.alloc (.cells (olds++news++rest).toArray e))/\
   rest.length=(grownCap w (n+m) cap e-(n+m))*sz:=by
 obtain ⟨zv,hrun,hr,hsz,hp⟩:=kR hz w;have hzs:zv.cells.size=sz:=by have:=(hr (fun _ _=>none) []).len;rw [hs] at hsz;simp at hsz this;omega
 unfold uf at hb;obtain ⟨i,hi,rfl⟩:=qac.1 hb;have hiz:i.zero=some zv:=by
  simp only [zeroValue,typeInfo,Sem.run_bind,run_program,Result.andThen_ok,hi] at hrun;simp only [Sem.run_pure,Result.andThen_ok] at hrun;split at hrun;·simp_all
  simp_all
 have his:i.size=sz:=by simpa [dY,hi] using hs
 have hn:¬(n+m<=cap):=by omega
 have hfit:=growslice_fits (need:=n+m) (old:=cap) (bytes:=i.bytes) hroom hbig;have h63':¬(9223372036854775807<((n:Int)+(m:Int))):=by omega
 have h48':¬(281474976710656<Builtin.nextslicecap (n+m) cap*i.bytes):=by omega
 refine ⟨(Builtin.zeroCells zv.cells (grownCap w (n+m) cap e-(n+m))).toList,?_,by grind[Builtin.zeroCells]⟩;have hd:=ho w.drew rfl;have hw:=hf w.drew rfl;simp [Builtin.append_,run_underlying h0,run_underlying h1,sizeOf,typeInfo,zeroValue,hi,hiz,his,Builtin.lenOf,hn,h63',h48',Question.forced,hd,hw,newRow,grownCap]
 congr 2
 simp_all
theorem Io (h:Inv P R K C σ.bx w){z:X}{v:Value}(hr:Rep K C z v)(e:o8 σ.bx z=some (sz,new)):
  ∃oc c news,v=.slice oc new.length c/\Flat K sz new news/\(∀w':World,w'.heap=w.heap->(Builtin.firstCells sz new.length (.slice oc new.length c)).run P w'=.ok news.toArray w')/\
   (∀ad,oc=some ad->∀k u,news[k]?=some u->w.cell? ⟨ad.block,ad.off+k,none⟩=some u):=by
 have fc:∀(b o' m c:Nat) (news:List Value),news.length=m*sz->(∀k u,news[k]?=some u->w.cell? ⟨b,o'+k,none⟩=some u)->∀w':World,w'.heap=w.heap->
   (Builtin.firstCells sz m (.slice (some ⟨b,o',none⟩) m c)).run P w'=.ok news.toArray w':=by
  intro b o' m c news hl hn w' hw;refine run_firstCells_some w' sz m ⟨b,o',none⟩ m c news hl (fun j u hu=>?_);rw [addr_add];have:=hn j u hu;simp only [World.cell?,hw] at this ⊢;exact this
 unfold o8 at e;split at e
 ·rename_i t s es;cases e;have hr':=hr;cases hr with
  |iK=>rename_i ob;exact ⟨ob,0,[],rfl,Flat.nil,fun w' _=>by cases ob<;>simp [Builtin.firstCells,loadCells,loadCellsFrom],fun _ _ k u e=>by grind⟩
  |sl vals hle ht hcap hcell hk hrr=>obtain ⟨fl,hf,hkk⟩:=hr'.flat;exact ⟨_,_,fl,rfl,hf,fc _ _ _ _ fl hf.len (fun k u hu=>h.known _ _ _ (hkk k u hu)),fun ad e=>by cases e;exact fun k u hu=>h.known _ _ _ (hkk k u hu)⟩
 ·rename_i i off len;unfold rowOf at e;split at e
  ·rename_i s es hb;split at e
   ·rename_i hle;cases e;have hlen:((es.drop off).take len).length=len:=by simp;omega
    cases hr with
    |bs hc hcap hlc=>
     rename_i b base hi sz' cap;obtain ⟨arr,el,h1,h2,h3,hbl,hf⟩:=(h.box i _ _ hb hc).flat;subst h1;have hcells:∀k u,(((((arr.toList.drop base).take (es.length*sz')).drop (off*sz')).take (len*sz')))[k]?=some u->w.cell? ⟨b,base+off*sz'+k,none⟩=some u:=by
      intro k u hu;rw [qay] at hu;split at hu
      ·rw [qav,qay] at hu
       grind[World.cell?]
      ·grind
     have hf2:=(hf.drop off).take len;refine ⟨_,cap,_,by rw [hlen],hf2,?_,fun ad e=>by cases e<;>grind⟩;rw [hlen];exact fc _ _ _ _ _ (by rw [hf2.len,hlen]) hcells
    |lQ hc=>
     have he:((es.drop 0).take 0)=[]:=by simp
     rw [he];rename_i ob;refine ⟨ob,0,[],rfl,Flat.nil,fun w' hw=>by cases ob<;>simp [Builtin.firstCells,loadCells,loadCellsFrom],fun ad _ k u e=>by grind⟩
   grind
  grind
 grind
theorem Zb {t0 t1 e e1:TypeId}{tys:Array TypeId}{ps pz:Operand}{qs qz:Opd}{ts tz:TypeId}{yz:X}(h:Rel P R x K C σ a w)(ho:o.op=.call ⟨.builtin .append,args,tys⟩)(ha:args.toList=[ps,pz])
  (h0:tys[0]?=some t0) (h1:tys[1]?=some t1) (hu0:P.underlying t0=some (.slice e)) (hu1:P.underlying t1=some (.slice e1)) (hs:dY P e=some sz) (hb:uf P e=some bytes) (hz:oN P e=some z) (hpos:0<bytes)
  (hps:aW P R.gl ts ps=some qs) (hpz:aW P R.gl tz pz=some qz) (eps:σ.ev qs=some (.sl true sz es)) (epz:σ.ev qz=some yz) (hsrc:o8 σ.bx yz=some (sz,new)) (hroom:dD (es.length+new.length) bytes=true):
  (new=[]->dR P R x σ a w o (.sl true sz es) σ.bx)/\dR P R x σ a w o (.sl false sz (es++new)) σ.bx/\
   (new≠[]->dR P R x σ a w o (.bs σ.bx.length 0 (es.length+new.length)) (σ.bx++[.row sz (es++new)])):=by
 have ha':args=#[ps,pz]:=by rw [<-Array.toArray_toList (xs:=args),ha]
 subst ha';have zqh:∃rest,tys=(t0::t1::rest).toArray:=by
  have e0:tys=tys.toList.toArray:=by simp
  cases hl:tys.toList with
  |nil=>rw [e0,hl] at h0<;>grind
  |cons a0 r=>cases r with
   |nil=>rw [e0,hl] at h1<;>grind
   |cons b0 r=>rw [e0,hl] at h0 h1<;>grind
 obtain ⟨rest,rfl⟩:=zqh;simp only [dD,qab,qaF] at hroom;have r1:=bC h.inv.glob h.tm hps eps;have r2:=bC h.inv.glob h.tm hpz epz;obtain ⟨oc,c,news,hv2,hf2,hfc,_⟩:=Io h.inv r2 hsrc;have EI:(execOp a.eval o).run P w=((Builtin.append_ (t0::t1::rest).toArray o.type #[a.eval ps,a.eval pz]).run P w).andThen fun v w'=>.ok (.value v) w':=by simp only [execOp,ho,resolve,invoke,builtin,Sem.run_bind,Sem.run_pure,Result.andThen_ok,List.map_toArray,qaT,List.map_nil]
 have hargs:Builtin.append_ (t0::t1::rest).toArray o.type #[a.eval ps,a.eval pz]=Builtin.append_ #[t0,t1] o.type #[a.eval ps,a.eval pz]:=by simp [Builtin.append_]
 rw [hargs] at EI;rw [hv2] at EI;generalize hv1:a.eval ps=v1 at r1 EI;have hin:∃ob cap olds,v1=.slice ob es.length cap/\cap=es.length/\Flat K sz es olds/\(∀w':World,w'.heap=w.heap->(Builtin.firstCells sz es.length (.slice ob es.length cap)).run P w'=.ok olds.toArray w'):=by
  obtain ⟨ob,cap,olds,e1,e2,e3,_⟩:=Io (σ:=σ) h.inv r1 (z:=.sl true sz es) rfl;refine ⟨ob,cap,olds,e1,?_,e2,e3⟩;subst e1;cases r1 with
  |iK=>rfl
  |sl vals hle ht=>grind
 obtain ⟨ob,cap,olds,rfl,hcap,hfo,zlO⟩:=hin;have stay:new=[]->(execOp a.eval o).run P w=.ok (.value (.slice ob es.length cap)) w:=by intro hn;subst hn;have hnews:news=[]:=qaM (by simpa using hf2.len);subst hnews;have:=pq (P:=P) (ty:=o.type) (ob:=ob) (n:=es.length) (cap:=cap) hu0 hu1 hs [] w (hfc w rfl) (by grind) (fun ad _=>by simp [storeCells]) (fun _=>rfl);rw [EI,this];simp
 have grow:new≠[]->∃(tail:List Value) (m:Nat),(execOp a.eval o).run P w=.ok (.value (.slice (some ⟨w.heap.size,0,none⟩) (es.length+new.length) m)) (w.drew.alloc (.cells (olds++news++tail).toArray e))/\es.length+new.length<=m/\tail.length=(m-(es.length+new.length))*sz:=by intro hn;have hpn:0<new.length:=List.length_pos_iff.2 hn;obtain ⟨tail,hrun,htl⟩:=qK (P:=P) (ty:=o.type) hu0 hu1 hs hb hz olds news zlO hfc (by omega) (by omega) hroom.2 hpos;exact ⟨tail,_,by simp_all,grownCap_ge _ _ _ _,htl⟩
 have hfl:=hfo.append hf2;refine ⟨fun hn=>.still h (stay hn) r1,?_,fun hn=>?_⟩
 ·by_cases hn:new=[]
  ·refine .still h (stay hn) ?_;subst hn;rw [List.append_nil];cases r1 with
   |iK=>exact .iK
   |sl vals hle ht hc hcell hk hrr=>exact .sl vals hle (by simp) hc hcell hk hrr
  obtain ⟨tail,m,hrun,hm,_⟩:=grow hn;have hd:=h.still (aK.drew nowhere w);refine ⟨_,C,_,_,_,hrun,.inl rfl,hd.learn (olds++news++tail).toArray e,?_⟩;rw [<-qau];refine (hfl.mono (Kn.zy hd.inv _)).rep (fun k v hv=>?_) (by simp) (by grind);simp only [Kn.add,World.size_drew,if_true,Nat.zero_add]
  grind
 obtain ⟨tail,m,hrun,hm,htl⟩:=grow hn;have hd:=h.still (aK.drew nowhere w);have hsz:(olds++news++tail).toArray.size=m*sz:=by
  have:=hfl.len;simp only [qau] at this;simp only [List.size_toArray,qau,this,htl,<-Nat.add_mul]
  congr 1;omega
 have hc2:(C++[CB.at w.heap.size 0 (m*sz) sz])[σ.bx.length]?=some (.at w.heap.size 0 (m*sz) sz):=by rw [<-h.inv.size];simp
 refine ⟨K,C++[.at w.heap.size 0 (m*sz) sz],_,_,_,hrun,.inl rfl,?_,?_⟩
 ·refine hd.push _ (hfl.box (jZ w.drew _) (fun k v hv=>?_) ?_ (by omega)) (fun b k hw=>hw.1)
  ·grind
  simp_all[qaG]
 have:=Rep.bs (K:=K) (off:=0) (len:=es.length+new.length) (cap:=m) hc2 (by simp) hm<;>grind
end Go.Em
namespace Go.Em
variable {kk:KK}{es:List (Value×X)}{m':Opd}{k m:Operand}{k' kv v:Value}{xm y z:X}
variable {P:Program} {R:aT} {x:Ctx} {K:Kn} {C:List CB} {σ:St} {a:Act} {w:World} {o:Oper}
def KK.desc:KK->TypeDesc
 |.int k=>.int k
 |.str=>.string
 |.bool=>.bool
theorem Si (h:sZ kk v=true):MapKept.IsKey kk.desc v:=by
 cases kk<;>cases v<;>simp_all [sZ,MapKept.IsKey,KK.desc]
theorem MN {t:TypeId}(h:zlL P t=some kk):P.underlying t=some kk.desc:=by unfold zlL at h;split at h<;>simp at h<;>subst h<;>assumption
theorem CP {k:Value}{b:Bool}(hk:sZ kk k=true)(h:ng k k'=some b):Instr.sameNow kk.desc k k'=some b:=by
 cases kk<;>cases k<;>cases k'<;>simp_all [sZ,ng,Instr.sameNow,KK.desc]
theorem VD {k:Value}(h:ng k k'=some true):k'=k:=by
 cases k<;>cases k'<;>simp_all [ng,MapKept.bytes_beq]
theorem lF {kk:KK}{k:Value}(hk:sZ kk k=true):∀{es:List (Value×X)} {ents:List MapEntry} {i:Nat} {r:Option (Nat×X)},Ee K es ents->ji k es i=some r->
  (r=none/\Instr.findNow kk.desc k ents i=some none)\/(∃j y m,r=some (i+j,y)/\ents[j]?=some m/\es[j]?=some (k,y)/\m.key=k/\Instr.findNow kk.desc k ents i=some (some (i+j,m.val)))
 |[],ents,i,r,hE,h=>by have:=qaM (by rw [hE.len];rfl);subst this;simp [ji] at h;exact .inl ⟨h.symm,rfl⟩
 |e::es,[],i,r,hE,h=>by have:=hE.len<;>grind
 |e::es,m::ents,i,r,hE,h=>by
  have hkey:=hE.key 0 e m rfl rfl;have hE':Ee K es ents:=⟨by have:=hE.len<;>grind,fun j e' m' h1 h2=>hE.key (j+1) e' m' (by grind) (by grind),fun j e' m' h1 h2=>hE.val (j+1) e' m' (by grind) (by grind)⟩;simp only [ji] at h;split at h;next hs=>have hn:=CP hk hs;have he:=VD hs;simp at h;refine .inr ⟨0,e.2,m,by rw [<-h];rfl,rfl,by rw [<-he];rfl,by rw [hkey,he],?_⟩<;>simp_all[Instr.findNow]
  ·rename_i hs;have hn:=CP hk hs;rcases lF hk hE' h with ⟨h1,h2⟩|⟨j,y,m',h1,h2,h3,h4,h5⟩
   ·grind[Instr.findNow]
   refine .inr ⟨j+1,y,m',by grind,by grind,by grind,h4,?_⟩;simp only [Instr.findNow,hkey,hn,h5]
   grind
  grind
theorem zdl {t kt e:TypeId}(h:Rel P R x K C σ a w)(ho:o.op=.makeMap t none)(_:P.underlying t=some (.map kt e)):dR P R x σ a w o (.mp σ.bx.length) (σ.bx++[.map []]):=by
 have hc:(C++[CB.obj w.heap.size])[σ.bx.length]?=some (.obj w.heap.size):=by rw [<-h.inv.size];simp
 refine ⟨K,C++[.obj w.heap.size],_,.map (some w.heap.size),w.alloc (.map #[] 0),?_,.inl rfl,?_,.mp hc⟩;·simp_all[execOp,Instr.makeMap]
 exact h.push _ ⟨#[],0,jZ _ _,rfl,by simp,by simp⟩ (fun b k hw=>hw)
theorem Y7 {t kt e t1 t2 t3:TypeId}{v:Operand}{k' v':Opd}{i:Nat}{es':List (Value×X)}(h:Rel P R x K C σ a w)(ho:o.op=.insert t m k v\/o.op=.mapUpdate t m k v)
  (hu:P.underlying t=some (.map kt e)) (hkk:zlL P kt=some kk) (hm:aW P R.gl t1 m=some m') (hk:aW P R.gl t2 k=some k') (hv:aW P R.gl t3 v=some v') (em:σ.ev m'=some (.mp i)) (ek:σ.ev k'=some (.v kv)) (ev:σ.ev v'=some y)
  (hb:σ.bx[i]?=some (.map es)) (hok:sZ kk kv=true) (h1:y.ok1=true) (hn:oh y=true) (hp:Cb kv y es=some es'):dR P R x σ a w o iY (σ.bx.set i (.map es')):=by
 have r1:=bC h.inv.glob h.tm hm em;have r2:=bC h.inv.glob h.tm hk ek;have r3:=bC h.inv.glob h.tm hv ev;have e2:=fD r2;generalize hmv:a.eval m=mv at r1;cases r1 with
 |mp hc=>
  rename_i b;obtain ⟨ents,clock,hheap,hE⟩:=h.inv.box i _ _ hb hc;have href:=List.isEmpty_iff.1 hn;have hy:Rep K [] y (a.eval v):=r3.oh href;have znq:∀n (w':World),(Instr.mapUpdate t (.map (some b)) kv (a.eval v)).run P w=.ok () w'->n=Next.skip->(execOp a.eval o).run P w=.ok n w':=fun n w' hr hn=>by subst hn;rcases ho with ho|ho<;>simp [execOp,ho,hmv,e2,hr,Result.andThen]
  have hd:=MN hkk;have hIs:=Si hok;unfold Cb at hp;split at hp
  ·rename_i hf;simp at hp;subst hp;rcases lF hok hE hf with ⟨_,hfn⟩|⟨j,z,mm,h1',_⟩
   ·refine ⟨K,C,.skip,undef,{w with heap:=w.heap.setIfInBounds b (.map (ents.push {key:=kv,val:=a.eval v,born:=clock}) (clock+1))},znq _ _ ?_ rfl,.inr ⟨rfl,rfl⟩,?_,.v rfl⟩;·simp [Instr.mapUpdate,run_underlying hu,MapKept.run_getObj_map hheap,MapKept.run_checkKey hd hIs,MapKept.run_findKey hd hfn,MapKept.run_setObj_map _ hheap,Result.andThen]
    refine h.yU hb rfl hc (aK.setObj hheap trivial trivial fun _=>rfl) ⟨_,_,(MapKept.heap_set hheap).1,?_⟩ (fun e=>by grind[Bx.gu]);refine ⟨by simp [hE.len],fun j e' m' h1' h2'=>?_,fun j e' m' h1' h2'=>?_⟩
    ·rw [Array.toList_push] at h2';by_cases hj:j<es.length;·rw [qar hj] at h1';rw [qar (by rw [hE.len]<;>grind)] at h2';exact hE.key j e' m' h1' h2'
     rw [qaA (by omega)] at h1';rw [qaA (by rw [hE.len];omega),hE.len] at h2'<;>grind
    rw [Array.toList_push] at h2';by_cases hj:j<es.length;·rw [qar hj] at h1';rw [qar (by rw [hE.len]<;>grind)] at h2';exact hE.val j e' m' h1' h2'
    rw [qaA (by omega)] at h1';rw [qaA (by rw [hE.len];omega),hE.len] at h2'<;>grind
   grind
  ·rename_i j0 z0 hf;simp at hp;subst hp;rcases lF hok hE hf with ⟨h1',_⟩|⟨j,z,mm,h1',h2',h3',h4',hfn⟩
   ·grind
   simp at h1';obtain ⟨rfl,rfl⟩:=h1';have hej:ents[j0]?=some mm:=by simpa using h2'
   refine ⟨K,C,.skip,undef,{w with heap:=w.heap.setIfInBounds b (.map (ents.modify j0 fun e=>{e with key:=kv,val:=a.eval v}) clock)},znq _ _ ?_ rfl,.inr ⟨rfl,rfl⟩,?_,.v rfl⟩;·simp [Instr.mapUpdate,run_underlying hu,MapKept.run_getObj_map hheap,MapKept.run_checkKey hd hIs,MapKept.run_findKey hd hfn,hej,h4',MapKept.run_keyThatStays hIs,MapKept.run_setObj_map _ hheap,Result.andThen]
   refine h.yU hb rfl hc (aK.setObj hheap trivial trivial fun _=>rfl) ⟨_,_,(MapKept.heap_set hheap).1,?_⟩ (fun e=>by grind[Bx.gu]);have hmod:∀(j:Nat) (m':MapEntry),(ents.modify j0 fun e=>{e with key:=kv,val:=a.eval v}).toList[j]?=some m'->(j=j0/\m'.key=kv/\m'.val=a.eval v)\/(j≠j0/\ents.toList[j]?=some m'):=fun j m' e=>by grind
   have hset:∀(j:Nat) (e':Value×X),(es.set j0 (kv,y))[j]?=some e'->(j=j0/\e'=(kv,y))\/(j≠j0/\es[j]?=some e'):=fun j e' e=>by grind
   refine ⟨by simp [hE.len],fun j e' m' h1' h2'=>?_,fun j e' m' h1' h2'=>?_⟩
   ·rcases hset j e' h1' with ⟨g1,g2⟩|⟨g1,g2⟩
    ·grind
    rcases hmod j m' h2' with ⟨k1,_,_⟩|⟨_,k2⟩
    ·grind
    exact hE.key j e' m' g2 k2
   rcases hset j e' h1' with ⟨g1,g2⟩|⟨g1,g2⟩
   ·grind
   rcases hmod j m' h2' with ⟨k1,_,_⟩|⟨_,k2⟩
   ·grind
   exact hE.val j e' m' g2 k2
  grind
theorem Ze {K:Kn}{C:List CB}(h:fF K C [z] v.cells.toList)(ha:∀vs,v≠.agg vs):Rep K C z v:=by
 have hv:v.cells=#[v]:=by
  cases v<;>first|rfl|grind
 rw [hv] at h;exact h.rep 0 z v rfl rfl
theorem zbG {K:Kn}{C:List CB}{l:List X}(h:fF K C l v.cells.toList)(ha:∃vs,v=.agg vs):Rep K C (.agg l) v:=by obtain ⟨vs,rfl⟩:=ha;exact .agg (by have:=h.len<;>grind[Value.cells]) h.cell (fun j x v e e'=>h.rep j x v e (by grind[Value.cells]))
theorem Xo {e:TypeId}(h:zb3 P e=some z)(w:World):∃v,(zeroValue e).run P w=.ok v w/\∀K C,Rep K C z v:=by
 have key:∀v l,(P.info? e).bind (·.zero)=some v->oN P e=some l->(zeroValue e).run P w=.ok v w/\∀(K:Kn) (C:List CB),fF K C l v.cells.toList:=fun v l hv hl=>by obtain ⟨u,hrun,hr,_,_⟩:=kR hl w;obtain ⟨i,hi,hiz⟩:=qaD.1 hv<;>simp_all[zeroValue,typeInfo]
 unfold zb3 at h;split at h;next vs l hv hl=>simp at h;subst h<;>simp_all[zbG]
 ·grind[Ze]
 grind
theorem Y9 {t kt e t1 t2:TypeId}{k':Opd}{ok:Bool}{zero:X}(h:Rel P R x K C σ a w)(ho:o.op=.lookup t m k ok)
  (hu:P.underlying t=some (.map kt e)) (hkk:zlL P kt=some kk) (hz:zb3 P e=some zero) (hm:aW P R.gl t1 m=some m') (hk:aW P R.gl t2 k=some k') (em:σ.ev m'=some xm) (ek:σ.ev k'=some (.v kv))
  (hb:(∃i,xm=.mp i/\σ.bx[i]?=some (.map es))\/(xm=.v (.map none)/\es=[])) (hok:sZ kk kv=true) (hg:qo ok zero kv es=some y):dR P R x σ a w o y σ.bx:=by
 have r1:=bC h.inv.glob h.tm hm em;have e2:=fD (bC h.inv.glob h.tm hk ek);obtain ⟨zv,zqf,hzr⟩:=Xo hz w;have hd:=MN hkk;have hIs:=Si hok;generalize hmv:a.eval m=mv at r1;have key:∃ents:List MapEntry,Ee K es ents/\∀q:Option (Nat×Value),Instr.findNow kk.desc kv ents 0=some q->(execOp a.eval o).run P w=.ok (.value (match q with|some (_,v)=>if ok then .tuple #[v,.bool true] else v|none=>if ok then .tuple #[zv,.bool false] else zv)) w:=by
  rcases hb with ⟨i,rfl,hbx⟩|⟨rfl,rfl⟩
  ·cases r1 with
   |mp hc=>
    rename_i b;obtain ⟨ents,clock,hheap,hE⟩:=h.inv.box i _ _ hbx hc;refine ⟨ents.toList,hE,fun q hq=>?_⟩;have hfk:=MapKept.run_findKey (w:=w) hd hq;have hck:=MapKept.run_checkKey (P:=P) (w:=w) hd hIs ents.isEmpty 9999;cases q with
    |none=>cases ok<;>simp [execOp,ho,hmv,e2,Instr.lookup,run_underlying hu,MapKept.run_getObj_map hheap,hck,hfk,zqf,Result.andThen]
    |some p=>cases ok<;>simp [execOp,ho,hmv,e2,Instr.lookup,run_underlying hu,MapKept.run_getObj_map hheap,hck,hfk,Result.andThen]
  have:=fD r1;subst this;refine ⟨[],⟨rfl,by simp,by simp⟩,fun q hq=>?_⟩;have hfk:=MapKept.run_findKey (w:=w) hd hq;have hck:=MapKept.run_checkKey (P:=P) (w:=w) hd hIs true 9999;cases q with
  |none=>simp_all[execOp,Instr.lookup,run_underlying]
  |some p=>simp_all[execOp,Instr.lookup,run_underlying]
 obtain ⟨ents,hE,hrun⟩:=key;have zx6:∀{z:X} {v:Value} {b:Bool},Rep K C z v->Rep K C (.tup [z,.v (.bool b)]) (.tuple #[v,.bool b]):=fun {z v b} hr=>
  .tup rfl fun j u uv e e'=>by
   cases j with
   |zero=>grind
   |succ j=>cases j with
    |zero=>simp at e e';subst e;subst e';exact .v rfl
    |succ j=>simp_all
 unfold qo at hg;split at hg
 ·rename_i hf;simp at hg;subst hg;rcases lF hok hE hf with ⟨_,hfn⟩|⟨j,z,mm,h1',_⟩;·refine .still h (hrun none hfn) ?_<;>grind
  grind
 ·rename_i j0 z0 hf;simp at hg;subst hg;rcases lF hok hE hf with ⟨h1',_⟩|⟨j,z,mm,h1',h2',h3',h4',hfn⟩
  ·grind
  simp at h1';obtain ⟨rfl,rfl⟩:=h1';have hv:=(hE.val j0 _ _ h3' h2').2.2.mono (KLe.refl _) (CLe.nil C);refine .still h (hrun _ hfn) ?_<;>grind
 grind
theorem Y8 {tys:Array TypeId}{t kt e t1:TypeId}(h:Rel P R x K C σ a w)(ho:o.op=.call ⟨.builtin .len,#[m],tys⟩)(ht:tys[0]?=some t)(hu:P.underlying t=some (.map kt e))
  (hm:aW P R.gl t1 m=some m') (em:σ.ev m'=some xm) (hb:(∃i,xm=.mp i/\σ.bx[i]?=some (.map es))\/(xm=.v (.map none)/\es=[])):dR P R x σ a w o (.v (.int .i64 (es.length:Int))) σ.bx:=by
 have r1:=bC h.inv.glob h.tm hm em;generalize hmv:a.eval m=mv at r1;refine .still h (v:=.int .i64 (es.length:Int)) ?_ (.v rfl);rcases hb with ⟨i,rfl,hbx⟩|⟨rfl,rfl⟩
 ·cases r1 with
  |mp hc=>
   obtain ⟨ents,clock,hheap,hE⟩:=h.inv.box i _ _ hbx hc;have hl:ents.size=es.length:=by have:=hE.len;simpa using this
   simp [execOp,ho,resolve,invoke,builtin,Builtin.len_,ht,hmv,run_underlying hu,MapKept.run_getObj_map hheap,Result.andThen,goInt,hl]
 have:=fD r1;subst this;simp [execOp,ho,resolve,invoke,builtin,Builtin.len_,ht,hmv,run_underlying hu,Result.andThen,goInt]
theorem zdm {t t1:TypeId}{z:Operand}{z':Opd}{d:TypeDesc}(h:Rel P R x K C σ a w)(ho:o.op=.makeInterface t z)(hu:P.underlying t=some d)(hd:∀ms,d≠.interface ms)(_:aW P R.gl t1 z=some z')(_:σ.ev z'=some y):dR P R x σ a w o .ifc σ.bx:=by refine .still h (v:=.iface t (a.eval z)) ?_ .ifc<;>simp_all[execOp,Instr.makeInterface,run_underlying]
theorem I4 {op:BinOp}{t t1 u:TypeId}{p:Operand}{p':Opd}{neg:Bool}{ms:Array (String×TypeId)}(h:Rel P R x K C σ a w)(ho:o.op=.binOp op t p (.const .nilIface) u)(hop:op=if neg then .neq else .eql)(hu:P.underlying t=some (.interface ms))
  (hp:aW P R.gl t1 p=some p') (ep:σ.ev p'=some y) {b:Bool} (hy:(y=.ifc/\b=neg)\/(y=.v .nilIface/\b=!neg)):dR P R x σ a w o (.v (.bool b)) σ.bx:=by
 have r:=bC h.inv.glob h.tm hp ep;generalize hpv:a.eval p=pv at r;refine .still h (v:=.bool b) ?_ (.v rfl);have hq':a.eval (.const .nilIface)=.nilIface:=rfl;rcases hy with ⟨rfl,rfl⟩|⟨rfl,rfl⟩
 ·cases r with
  |ifc=>
   rename_i t' v';have he:∀d,(Op.equalIn (d+1) t (.iface t' v') .nilIface).run P w=.ok false w:=by intro d;simp [Op.equalIn,run_underlying hu]
   have he':(Op.equal t (.iface t' v') .nilIface).run P w=.ok false w:=he 9999;have b1:binOp .eql t (.iface t' v') .nilIface=(do pure (.bool (<-Op.equal t (.iface t' v') .nilIface)):Sem Value):=rfl;have b2:binOp .neq t (.iface t' v') .nilIface=(do pure (.bool (!(<-Op.equal t (.iface t' v') .nilIface))):Sem Value):=rfl;generalize Op.equal t (.iface t' v') .nilIface=s at he' b1 b2;have hg:(eqGuard op t p (.const .nilIface) (.iface t' v') .nilIface).run P w=.ok () w:=by unfold eqGuard;split<;>rfl
   have hb:(binOp op t (.iface t' v') .nilIface).run P w=.ok (.bool b) w:=by
    cases b with
    |true=>simp_all
    |false=>simp_all
   simp_all[execOp]
 have:=fD r;subst this;have he:∀d,(Op.equalIn (d+1) t .nilIface .nilIface).run P w=.ok true w:=by intro d;simp [Op.equalIn,run_underlying hu]
 have he':(Op.equal t .nilIface .nilIface).run P w=.ok true w:=he 9999;have b1:binOp .eql t .nilIface .nilIface=(do pure (.bool (<-Op.equal t .nilIface .nilIface)):Sem Value):=rfl;have b2:binOp .neq t .nilIface .nilIface=(do pure (.bool (!(<-Op.equal t .nilIface .nilIface))):Sem Value):=rfl;generalize Op.equal t .nilIface .nilIface=s at he' b1 b2;have hg:(eqGuard op t p (.const .nilIface) .nilIface .nilIface).run P w=.ok () w:=by unfold eqGuard;split<;>first|rfl|simp
 have hb:(binOp op t .nilIface .nilIface).run P w=.ok (.bool (!neg)) w:=by
  cases neg with
  |true=>simp_all
  |false=>simp_all
 simp_all[execOp]
end Go.Em
namespace Go.Em
variable {new:qaY}{sz:Nat}
variable {P:Program} {R:aT} {x:Ctx} {K:Kn} {C:List CB} {σ:St} {a:Act} {w:World}
variable {o:Oper} {y:X} {bx:List Bx} {fp:FP} {A:Ann} {Γ:Gam}
theorem X6 (h:Inv P R K C σ.bx w){z:X}{v:Value}(hr:Rep K C z v)(e:o8 σ.bx z=some (sz,new)):
  ∃oc c news,v=.slice oc new.length c/\Flat K sz new news/\∀n,n<=new.length->(Builtin.firstCells sz n (.slice oc new.length c)).run P w=.ok (news.take (n*sz)).toArray w:=by
 have fc:∀(b o' m c:Nat) (news:List Value),news.length=m*sz->(∀k u,news[k]?=some u->w.cell? ⟨b,o'+k,none⟩=some u)->∀n,n<=m->
   (Builtin.firstCells sz n (.slice (some ⟨b,o',none⟩) m c)).run P w=.ok (news.take (n*sz)).toArray w:=by
  intro b o' m c news hl hn n hnm;refine run_firstCells_some w sz n ⟨b,o',none⟩ m c _ ?_ (fun j u hu=>?_);·simp_all
  ·grind[addr_add]
 unfold o8 at e;split at e
 ·rename_i t s es;simp at e;obtain ⟨rfl,rfl⟩:=e;have hr':=hr;cases hr with
  |iK=>
   rename_i ob;exact ⟨ob,0,[],rfl,Flat.nil,fun n hn=>by
    have:n=0:=by simpa using hn
    subst this;cases ob<;>simp [Builtin.firstCells,loadCells,loadCellsFrom]⟩
  |sl vals hle ht hcap hcell hk hrr=>obtain ⟨fl,hf,hkk⟩:=hr'.flat;exact ⟨_,_,fl,rfl,hf,fc _ _ _ _ fl hf.len (fun k u hu=>h.known _ _ _ (hkk k u hu))⟩
 ·rename_i i off len;unfold rowOf at e;split at e
  ·rename_i s es hb;split at e
   ·rename_i hle;simp at e;obtain ⟨rfl,rfl⟩:=e;have hlen:((es.drop off).take len).length=len:=by simp;omega
    cases hr with
    |bs hc hcap hlc=>
     rename_i b base hi sz' cap;obtain ⟨arr,el,h1,h2,h3,hbl,hf⟩:=(h.box i _ _ hb hc).flat;subst h1;have hcells:∀k u,(((((arr.toList.drop base).take (es.length*sz')).drop (off*sz')).take (len*sz')))[k]?=some u->w.cell? ⟨b,base+off*sz'+k,none⟩=some u:=by
      intro k u hu;rw [qay] at hu;split at hu;·rw [qav,qay] at hu<;>grind[World.cell?]
      ·grind
     have hf2:=(hf.drop off).take len;refine ⟨_,cap,_,by rw [hlen],hf2,?_⟩;rw [hlen];exact fc _ _ _ _ _ (by rw [hf2.len,hlen]) hcells
    |lQ hc=>
     have he:((es.drop 0).take 0)=[]:=by simp
     rw [he];rename_i ob;exact ⟨ob,0,[],rfl,Flat.nil,fun n hn=>by
      have:n=0:=by simpa using hn
      subst this;cases ob<;>simp [Builtin.firstCells,loadCells,loadCellsFrom]⟩
   grind
  grind
 grind
theorem zhX {t0 e:TypeId}{args:Array Operand}{tys:Array TypeId}{pd ps:Operand}{qd qs:Opd}{td ts:TypeId}{i off len:Nat}{es:qaY}{ys:X}(h:Rel P R x K C σ a w)(ho:o.op=.call ⟨.builtin .copy,args,tys⟩)(ha:args.toList=[pd,ps])
  (h0:tys[0]?=some t0) (hu0:P.underlying t0=some (.slice e)) (hs:dY P e=some sz)
  (hpd:aW P R.gl td pd=some qd) (hps:aW P R.gl ts ps=some qs) (epd:σ.ev qd=some (.bs i off (len+1))) (eps:σ.ev qs=some ys) (hsrc:o8 σ.bx ys=some (sz,new)) (hbx:σ.bx[i]?=some (.row sz es)) (hend:off+(len+1)<=es.length):
  dR P R x σ a w o (.v (.int .i64 ((min new.length (len+1):Nat):Int))) (σ.bx.set i (.row sz (es.take off++new.take (min new.length (len+1))++es.drop (off+min new.length (len+1))))):=by
 have ha':args=#[pd,ps]:=by rw [<-Array.toArray_toList (xs:=args),ha]
 subst ha';have r1:=bC h.inv.glob h.tm hpd epd;have r2:=bC h.inv.glob h.tm hps eps;obtain ⟨oc,c,news,hv2,hf2,hfc⟩:=X6 h.inv r2 hsrc;have zqq:min new.length (len+1)<=new.length:=Nat.min_le_left _ _;have zqp:min new.length (len+1)<=len+1:=Nat.min_le_right _ _;have hmin:Nat.min new.length (len+1)=min new.length (len+1):=rfl;generalize hn:min new.length (len+1)=n at zqq zqp hmin ⊢;have hfc:=hfc n zqq;generalize hdv:a.eval pd=dv at r1;cases r1 with
 |bs hc hcap hlc=>
  rename_i b base hi sz' cap;obtain ⟨arr,el,g1,g2,g3,hbl,hfe⟩:=(h.inv.box i _ _ hbx hc).flat;subst g1;have hmul:=qaG sz' (show off+n<=es.length by omega);rw [Nat.add_mul] at hmul;have htl:(news.take (n*sz')).length=n*sz':=by have:=qaG sz' zqq;rw [qaf,hf2.len];omega
  have hf3:=hf2.take n;have hst:=run_storeCells_at P b (base+off*sz') el (news.take (n*sz')) 0 arr w hbl (by omega) hf3.oneCell;simp only [Nat.add_zero] at hst;generalize harr:(arr.toList.take (base+off*sz')++news.take (n*sz')++arr.toList.drop (base+off*sz'+(news.take (n*sz')).length)).toArray=arr' at hst;have hT:(arr.toList.take (base+off*sz')).length=base+off*sz':=by simp;omega
  have hsize:arr'.size=arr.size:=by rw [<-harr];simp;omega
  refine ⟨K,C,_,.int .i64 (n:Int),w.setRow b arr',?_,.inl rfl,?_,.v rfl⟩
  ·obtain ⟨ii,hi1,hi2⟩:∃ii,P.info? e=some ii/\ii.size=sz':=by simp_all[dY]
   simp [execOp,ho,resolve,invoke,builtin,Builtin.copy_,h0,run_underlying hu0,hdv,hv2,Builtin.lenOf,hmin,sizeOf,typeInfo,hi1,hi2,hfc,hst,goInt,Result.andThen]
  have hget:∀q,arr'[q]?=if q<base+off*sz' then arr[q]? else if q<base+off*sz'+n*sz' then news[q-(base+off*sz')]? else arr[q]?:=by
   intro q;rw [<-harr,List.getElem?_toArray,htl];by_cases h1:q<base+off*sz';·simp_all[qar]
   rw [if_neg h1];by_cases h2:q<base+off*sz'+n*sz';·rw [if_pos h2,qar (by grind),qaA (by omega),hT,qay,if_pos (by omega)]
   rw [if_neg h2,qaA (by rw [qau];omega),qav,qau,hT,htl,Array.getElem?_toList]<;>simp_all
  have hfl:=((hfe.take off).append hf3).append (hfe.drop (off+n));have hlen':(es.take off++new.take n++es.drop (off+n)).length=es.length:=by simp;omega
  have zqy:=hfe.len;refine h.yU hbx rfl hc (aK.setRow hbl hsize fun q hq=>?_) (hfl.box (setRow_heap w b arr arr' el _ hbl) (fun k v hv=>?_) ?_ (by omega)) (fun e=>by grind[Bx.gu])
  ·rw [hget];by_cases h1:q<base+off*sz'
   ·grind
   rw [if_neg h1];by_cases h2:q<base+off*sz'+n*sz';·exact absurd ⟨rfl,by omega,by omega⟩ hq
   grind
  ·rw [hget];have hk:=(qak.1 hv).1;have e1:(((arr.toList.drop base).take (es.length*sz')).take (off*sz')).length=off*sz':=by rw [qaf,zqy];omega
   have zu6:(off+n)*sz'=off*sz'+n*sz':=Nat.add_mul _ _ _;by_cases h1:k<off*sz'
   ·rw [if_pos (by omega)];rw [qaO,qar (by omega),qay,if_pos h1,qay] at hv;split at hv;·rw [qav,Array.getElem?_toList] at hv<;>grind
    grind
   rw [if_neg (by omega)];by_cases h2:k<off*sz'+n*sz'
   ·rw [if_pos (by omega)];rw [qar (by grind),qaA (by omega),e1,qay] at hv;split at hv;·rw [<-hv];congr 1;omega
    grind
   rw [if_neg (by omega)];rw [qaA (by grind),qau,e1,htl,qav,qay] at hv;split at hv;·rw [qav,Array.getElem?_toList] at hv;rw [<-hv];congr 1;omega
   grind
  grind
end Go.Em
namespace Go.Em
variable {i:Nat}
variable {P:Program} {R:aT} {x:Ctx} {K:Kn} {C:List CB} {σ:St} {a:Act} {w:World}
variable {o:Oper} {y:X} {bx:List Bx} {fp:FP} {A:Ann} {Γ:Gam}
theorem Rel.move (h:Rel P R x K C σ a w){D B:Bx}{c c':CB}(hD:σ.bx[i]?=some D)(hl:D.live=true)(hnl:D.gu=false)(hc:C[i]?=some c)(hsub:∀b o,c'.owns b o->c.owns b o)
  (hB:BoxOk P R K (C++[c']) w B c'):Rel P R x K (C++[c']) ⟨σ.tm,σ.bx.set i .dead++[B]⟩ a w:=by
 have hk:=h.kill i (fun B' e e'=>by grind);have MP:∀b o,c'.owns b o->kJ C σ.bx b o:=fun b o hw=>⟨i,c,D,hc,hD,hl,hsub b o hw⟩;have hnot:∀b o,c'.owns b o->¬kJ C (σ.bx.set i .dead) b o:=by
  rintro b o hw ⟨j,d,A',hd,hA',hl',hw'⟩
  rw [List.getElem?_set] at hA';split at hA'
  ·grind[Bx.live]
  rename_i hij;exact h.inv.EP i j c d D A' b o hij hc hd hD hA' hl hl' (hsub b o hw) hw'
 have hnew:∀b o,kJ (C++[c']) (σ.bx.set i .dead++[B]) b o->kJ C σ.bx b o:=by
  intro b o ho;rcases lq (by simpa using h.inv.size) ho with ho|ho
  ·grind[BN]
  ·grind
 refine {hk with inv:=?_,tm:=?_,own:=?_,cin:=?_,defs:=?_,loops:=?_};·exact hk.inv.push hB (fun b o hw=>h.inv.apart b o (MP b o hw)) hnot
 ·exact hk.tm.mono (KLe.refl _) (CLe.append _ _)
 ·intro b o ho;exact h.own b o (hnew b o ho)
 ·intro j d e;exact CLe.append _ _ _ _ (h.cin j d e)
 ·obtain ⟨rs,h1,h2,h3⟩:=h.defs.marks;exact ⟨⟨rs,h1,h2,fun r hr=>⟨(h3 r hr).1,(h3 r hr).2.1,fun q ho=>(h3 r hr).2.2 q (hnew r q ho)⟩⟩,h.defs.round⟩
 intro j hj hl';obtain ⟨B',hB',hl''⟩:=hk.loops j hj hl'<;>grind
theorem Zc {t0 t1 e e1:TypeId}{args:Array Operand}{tys:Array TypeId}{ps pz:Operand}{qs qz:Opd}{ts tz:TypeId}{sz bytes off len:Nat}{z:List X}{es new:qaY}{yz:X}(h:Rel P R x K C σ a w)(ho:o.op=.call ⟨.builtin .append,args,tys⟩)(ha:args.toList=[ps,pz])
  (h0:tys[0]?=some t0) (h1:tys[1]?=some t1) (hu0:P.underlying t0=some (.slice e)) (hu1:P.underlying t1=some (.slice e1)) (hs:dY P e=some sz) (hb:uf P e=some bytes) (hz:oN P e=some z) (hpos:0<bytes)
  (hps:aW P R.gl ts ps=some qs) (hpz:aW P R.gl tz pz=some qz) (eps:σ.ev qs=some (.bs i off len)) (epz:σ.ev qz=some yz) (hsrc:o8 σ.bx yz=some (sz,new)) (hbx:σ.bx[i]?=some (.row sz es)) (hend:off+len=es.length)
  (hroom:dD (len+new.length) bytes=true):
  dR P R x σ a w o (.bs σ.bx.length 0 (len+new.length)) (σ.bx.set i .dead++[.row sz (es.drop off++new)]):=by
 have ha':args=#[ps,pz]:=by rw [<-Array.toArray_toList (xs:=args),ha]
 subst ha';have zqh:∃rest,tys=(t0::t1::rest).toArray:=by
  have e0:tys=tys.toList.toArray:=by simp
  cases hl:tys.toList with
  |nil=>rw [e0,hl] at h0<;>grind
  |cons a0 r=>cases r with
   |nil=>rw [e0,hl] at h1<;>grind
   |cons b0 r=>rw [e0,hl] at h0 h1<;>grind
 obtain ⟨rest,rfl⟩:=zqh;simp only [dD,qab,qaF] at hroom;have r1:=bC h.inv.glob h.tm hps eps;have r2:=bC h.inv.glob h.tm hpz epz;obtain ⟨oc,c,news,hv2,hf2,hfc,_⟩:=Io h.inv r2 hsrc;have hsrc1:o8 σ.bx (.bs i off len)=some (sz,es.drop off):=by
  simp only [o8,rowOf,hbx];rw [if_pos (by omega)]
  congr 2
  exact List.take_of_length_le (by grind)
 obtain ⟨ob,cap,olds,e1',hfo,zlO,hspot⟩:=Io h.inv r1 hsrc1;have hlen:(es.drop off).length=len:=by simp;omega
 rw [hlen] at e1' zlO;have EI:(execOp a.eval o).run P w=((Builtin.append_ #[t0,t1] o.type #[.slice ob len cap,.slice oc new.length c]).run P w).andThen fun v w'=>.ok (.value v) w':=by
  have hargs:Builtin.append_ (t0::t1::rest).toArray o.type #[a.eval ps,a.eval pz]=Builtin.append_ #[t0,t1] o.type #[a.eval ps,a.eval pz]:=by simp [Builtin.append_]
  simp only [execOp,ho,resolve,invoke,builtin,Sem.run_bind,Sem.run_pure,Result.andThen_ok,List.map_toArray,qaT,List.map_nil,hargs];rw [e1',hv2]
 have hfl:=hfo.append hf2;have zqu:(olds++news).length=(len+new.length)*sz:=by rw [hfl.len,qau,hlen]
 have hnl:(Bx.row sz es).gu=false:=rfl;have grow:cap<len+new.length->dR P R x σ a w o (.bs σ.bx.length 0 (len+new.length)) (σ.bx.set i .dead++[.row sz (es.drop off++new)]):=by
  intro hlt;obtain ⟨tail,hrun,htl⟩:=qK (P:=P) (ty:=o.type) hu0 hu1 hs hb hz olds news zlO hfc hlt (by omega) hroom.2 hpos;have hm:=grownCap_ge w (len+new.length) cap e;generalize hmm:grownCap w (len+new.length) cap e=m at hrun htl hm;have hk:=(h.still (aK.drew nowhere w)).kill i (fun B e e'=>by grind);have hsz:(olds++news++tail).toArray.size=m*sz:=by simp only [List.size_toArray];rw [qau,zqu,htl,<-Nat.add_mul];congr 1;omega
  have hc2:(C++[CB.at w.heap.size 0 (m*sz) sz])[σ.bx.length]?=some (.at w.heap.size 0 (m*sz) sz):=by rw [<-h.inv.size];simp
  refine ⟨K,C++[.at w.heap.size 0 (m*sz) sz],_,_,_,by rw [EI,hrun];rfl,.inl rfl,?_,?_⟩
  ·refine hk.push _ (hfl.box (jZ w.drew _) (fun k v hv=>?_) ?_ (by omega)) (fun b k hw=>hw.1)
   ·grind
   simp_all[qaG]
  have:=Rep.bs (K:=K) (off:=0) (len:=len+new.length) (cap:=m) hc2 (by simp) hm<;>grind
 rw [e1'] at r1;cases r1 with
 |bs hc hcap hlc=>
  rename_i b base hi sz';obtain ⟨arr,el,g1,g2,g3,hbl,hfe⟩:=(h.inv.box i _ _ hbx hc).flat;subst g1;by_cases hfit:len+new.length<=cap
  ·have hin:base+off*sz'+(len+new.length)*sz'<=hi:=by have h5:=qaG sz' hfit;rw [Nat.add_mul] at hcap;omega
   have zx7:=hf2.len;rw [Nat.add_mul] at hin;have hst:=run_storeCells_at P b (base+off*sz'+len*sz') el news 0 arr w hbl (by omega) hf2.oneCell;simp only [Nat.add_zero] at hst;have hrun:=pq (P:=P) (ty:=o.type) (ob:=some ⟨b,base+off*sz',none⟩) hu0 hu1 hs news _ (hfc w rfl) hfit (fun ad e=>by cases e;rw [addr_add];omega) (fun e=>by cases e);generalize harr:(arr.toList.take (base+off*sz'+len*sz')++news++arr.toList.drop (base+off*sz'+len*sz'+news.length)).toArray=arr' at hrun hst;have hT:(arr.toList.take (base+off*sz'+len*sz')).length=base+off*sz'+len*sz':=by simp;omega
   have hsize:arr'.size=arr.size:=by rw [<-harr];simp;omega
   have hget:∀q,arr'[q]?=if q<base+off*sz'+len*sz' then arr[q]? else if q<base+off*sz'+len*sz'+news.length then news[q-(base+off*sz'+len*sz')]? else arr[q]?:=by
    intro q;rw [<-harr,List.getElem?_toArray];by_cases h5:q<base+off*sz'+len*sz';·simp_all[qar]
    rw [if_neg h5,qaO,qaA (by omega),hT];by_cases h6:q<base+off*sz'+len*sz'+news.length;·rw [if_pos h6,qar (by omega)]
    rw [if_neg h6,qaA (by omega),qav,bn]
    congr 1;omega
   have zx8:es.length*sz'=off*sz'+len*sz':=by rw [<-hend,Nat.add_mul]
   have zvd:=hfe.append hf2;have znv:BoxOk P R K C (w.setRow b arr') (.row sz' (es++new)) (.at b base hi sz'):=by
    refine zvd.box (setRow_heap w b arr arr' el _ hbl) (fun k v hv=>?_) (by rw [qau,Nat.add_mul];omega) (by omega);have hL:((arr.toList.drop base).take (es.length*sz')).length=es.length*sz':=by simp;omega
    rw [hget];by_cases hk:k<es.length*sz'
    ·rw [qar (by omega),qay,if_pos hk,qav,bn] at hv
     grind
    rw [qaA (by omega),hL] at hv;have:=(qak.1 hv).1;rw [if_neg (by omega),if_pos (by omega),<-hv];congr 1;omega
   have zqo:=h.yU (B:=.row sz' (es++new)) hbx rfl hc (aK.setRow hbl hsize fun q hq=>by
    rw [hget];have hout:¬(base<=q/\q<hi):=fun hh=>hq ⟨rfl,hh.1,hh.2⟩;by_cases h5:q<base+off*sz'+len*sz'
    ·grind
    rw [if_neg h5,if_neg (by omega)]) znv (fun e=>by cases e)
   have zL:(σ.bx.set i (.row sz' (es++new)))[i]?=some (.row sz' (es++new)):=by simp [(qak.1 hbx).1]
   have zqv:BoxOk P R K (C++[.at b (base+off*sz') hi sz']) (w.setRow b arr') (.row sz' (es.drop off++new)) (.at b (base+off*sz') hi sz'):=by
    obtain ⟨_,_,_,zlW,el2,hb2,hl2,hr2⟩:=znv;rw [setRow_heap w b arr arr' el _ hbl] at hb2;simp only [qag,Obj.cells.injEq] at hb2;obtain ⟨rfl,rfl,_⟩:=hb2;refine ⟨rfl,by rw [qau,hlen,Nat.add_mul];omega,fun e0 he0=>?_,arr',el,setRow_heap w b arr arr' el _ hbl,by omega,fun i' j y hy=>?_⟩
    ·rcases qaK.1 he0 with he0|he0;·exact hfe.elems _ (List.mem_of_mem_drop he0)
     exact hf2.elems _ he0
    have hd:es.drop off++new=(es++new).drop off:=by rw [List.drop_append_of_le_length (by omega)]
    obtain ⟨e0,he0,hj⟩:=bY.1 hy;rw [hd,qav] at he0;obtain ⟨hc1,v,hv,hrv⟩:=hr2 (off+i') j y (bY.2 ⟨e0,he0,hj⟩);refine ⟨hc1,v,?_,hrv⟩<;>grind
   have znr:=zqo.move zL rfl rfl hc (c':=.at b (base+off*sz') hi sz') (fun b' o' hw=>⟨hw.1,by have:=hw.2.1;omega,hw.2.2⟩) zqv;have hset:(σ.bx.set i (.row sz' (es++new))).set i .dead=σ.bx.set i .dead:=by simp
   simp at znr;have hc2:(C++[CB.at b (base+off*sz') hi sz'])[σ.bx.length]?=some (.at b (base+off*sz') hi sz'):=by rw [<-h.inv.size];simp
   refine ⟨K,_,_,_,_,by rw [EI,hrun];rfl,.inl rfl,znr,?_⟩;have:=Rep.bs (K:=K) (off:=0) (len:=len+new.length) (cap:=cap) hc2 (by grind) hfit
   grind
  grind
 |lQ hc=>
  by_cases hn:new=[];·subst hn;have hnews:news=[]:=qaM (by grind);subst hnews;have he:es=[]:=qaM (by omega);subst he;have hrun:=fun ob=>pq (P:=P) (ty:=o.type) (ob:=ob) (n:=0) (cap:=0) hu0 hu1 hs [] w (hfc w rfl) (by simp) (fun ad e=>by simp [storeCells]) (fun _=>rfl);have hrel:=h.move (B:=.row sz []) (c':=.ghost) hbx rfl rfl hc (fun b o hw=>hw.elim) rfl;refine ⟨K,_,_,_,_,by rw [EI,hrun];rfl,.inl rfl,hrel,?_⟩;exact Rep.lQ (C:=C++[CB.ghost]) (by rw [<-h.inv.size];simp)
  grind
end Go.Em
namespace Go.Em
variable {tm:List (Nat×X)}{inb:List Bx}{C':List CB}{sel:List Nat}{i n:Nat}{f:Nat->Nat}{y:X}
variable {P:Program} {R:aT} {x:Ctx} {K:Kn} {C:List CB} {σ:St} {a:Act} {w:World}
def Fr (r:Option Nat):Fence:={Fence.wide with round:=r}
structure zls (P:Program) (R:aT) (K:Kn) (C:List CB) (inb:List Bx) (w:World) (res:X) (outb:List Bx) (v:Value) (w':World) (K':Kn) (E:List CB):Prop where
 inv:Inv P R K' (C++E) outb w'
 res:Rep K' (C++E) res v
 kle:KLe K K'
 knew:∀(b o:Nat) (u:Value),K' b o=some u->K b o=some u\/kJ C inb b o\/w.heap.size<=b
 own:∀(b o:Nat),kJ (C++E) outb b o->kJ C inb b o\/w.heap.size<=b
 frame:aK (kJ C inb) w w'
 loops:∀(i:Nat) (B:Bx),inb[i]?=some B->B.gu=true->∃B',outb[i]?=some B'/\B'.gu=true
def Post (P:Program)(R:aT)(K:Kn)(C:List CB)(inb:List Bx)(w:World)(res:X)(outb:List Bx)(e:Ending)(w':World):Prop:=
 ∃(v:Value) (K':Kn) (E:List CB),e=.returned v/\zls P R K C inb w res outb v w' K' E
def dB (K:Kn)(C:List CB)(args:List X)(aQ:Array Value):Prop:=
 aQ.size=args.length/\∀(j:Nat) (y:X) (v:Value),args[j]?=some y->aQ[j]?=some v->Rep K C y v
def Hr (P:Program)(R:aT)(f:FuncId)(args:List X)(inb:List Bx)(res:X)(outb:List Bx):Prop:=
 ∀(K:Kn) (C:List CB) (w:World) (aQ:Array Value),Inv P R K C inb w->dB K C args aQ->Calls P f aQ w (Post P R K C inb w res outb)
def ztK (P:Program)(R:aT)(args:List X)(inb:List Bx)(res:X)(outb:List Bx):Prop:=
 ∃(i:Nat) (as:List X),args=.yl i::as/\∀(K:Kn) (C:List CB) (w:World) (aQ:Array Value) (l:Nat) (r:Option Nat),Inv P R K C inb w->C[i]?=some (.obj l)->dB K C as aQ->
  ∃(f:FuncId) (tmps:Array Value) (assign body:Code),(Instr.yield l aQ).run P w=.ok (.round l f tmps assign body) w/\RoundIn (Fr r) 0 P l f tmps assign body w (Post P R K C inb w res outb)
def zfo (P:Program)(f:FuncId):Prop:=∀(args:Array Value) (w:World),(callFunc f args).run P w=.ok (.enter f args) w
structure rQ (P:Program) (R:aT) (Γ:Gam):Prop where
 fn:∀(f:FuncId) (args:List X) (inb:List Bx) (res:X) (outb:List Bx),Γ (.fn f) args inb=some (res,outb)->zfo P f/\Hr P R f args inb res outb
 yl:∀(args:List X) (inb:List Bx) (res:X) (outb:List Bx),Γ .yl args inb=some (res,outb)->ztK P R args inb res outb
theorem MX {bx:List Bx}:∀{sel:List Nat} {l:List Bx},Qp bx sel=some l->l.length=sel.length/\∀(j i:Nat),sel[j]?=some i->∃B,bx[i]?=some B/\l[j]?=some B
 |[],l,h=>by grind[Qp]
 |i::r,l,h=>by
  simp only [Qp] at h;cases hb:bx[i]? with
  |none=>grind
  |some b=>
   simp only [hb] at h;obtain ⟨l',hl,rfl⟩:=qac.1 h;obtain ⟨h1,h2⟩:=MX hl
   grind
theorem Gg:∀{l:List Nat},Gi l=true↔l.Nodup
 |[]=>by simp [Gi]
 |n::r=>by
  have:sD n r=true↔n∈r:=pG;simp only [Gi,qab,Bool.not_eq_true',List.nodup_cons,Gg (l:=r)]
  grind
theorem Jv {l:List Nat}(h:l.Nodup){j:Nat}(e:l[j]?=some i):uO i l=j:=by grind[wJ,List.getElem?_inj]
theorem xZ (f:Nat->Nat)(B:Bx):(B.ren f).gu=B.gu:=by cases B<;>rfl
theorem mG (f:Nat->Nat)(B:Bx):(B.ren f).live=B.live:=by cases B<;>rfl
theorem Zt (f:Nat->Nat):∀(tm:List (Nat×X)) (n:Nat),lk (zfP f tm) n=(lk tm n).map (X.ren f)
 |[],n=>rfl
 |(k,y)::r,n=>by have ih:=Zt f r n<;>grind[zfP,lk]
theorem zf3 :lk tm n=some y->∃p,p∈tm/\p.2=y:=by
 induction tm with
 |nil=>grind[lk]
 |cons p r ih=>grind[lk]
theorem Vd (h:lk tm n=some y)(hi:i∈y.refs):i∈bZ (tm.map (·.2)):=by obtain ⟨p,hp,rfl⟩:=zf3 h;exact eF.2 ⟨p.2,qal.2 ⟨p,hp,rfl⟩,hi⟩
theorem zA.ren {tmps:Array Value}(h:zA K C tm tmps)(hC:∀i,i∈bZ (tm.map (·.2))->∀c,C[i]?=some c->C'[f i]?=some c):zA K C' (zfP f tm) tmps:=by intro n y e;rw [Zt] at e;obtain ⟨z,hz,rfl⟩:=qac.1 e;obtain ⟨v,hv,hr⟩:=h n z hz;exact ⟨v,hv,hr.ren fun i hi=>hC i (Vd hz hi)⟩
theorem fF.ren {xs:List X}{vs:List Value}(h:fF K C xs vs)(hC:∀i,i∈bZ xs->∀c,C[i]?=some c->C'[f i]?=some c):fF K C' (NZ f xs) vs:=by
 refine ⟨by rw [jd];simpa using h.len,fun y hy=>?_,fun j y v e e'=>?_⟩;·rw [jd] at hy;obtain ⟨z,hz,rfl⟩:=qal.1 hy;rw [Gv];exact h.cell z hz
 rw [jd,qaw] at e;obtain ⟨z,hz,rfl⟩:=qac.1 e;exact (h.rep j z v hz e').ren fun i hi=>hC i (eF.2 ⟨z,qan hz,hi⟩)
theorem BoxOk.ren {B:Bx}{c:CB}(h:BoxOk P R K C w B c)(hC:∀i,i∈B.refs->∀c,C[i]?=some c->C'[f i]?=some c):BoxOk P R K C' w (B.ren f) c:=by
 cases B with
 |dead=>trivial
 |var cs=>cases c with
  |«at»=>obtain ⟨h1,h2,arr,el,hb,hr⟩:=h;exact ⟨h1,by grind[jd],arr,el,hb,hr.ren hC⟩
  |ghost=>exact h.elim
  |obj=>exact h.elim
 |row sz es=>cases c with
  |«at»=>exact h
  |ghost=>exact h
  |obj=>exact h.elim
 |map es=>cases c with
  |obj=>exact h
  |«at»=>exact h.elim
  |ghost=>exact h.elim
 |loop st p tm ps a b=>cases c with
  |obj=>obtain ⟨l,hl,ho⟩:=h;exact ⟨l,hl,ho.hst,ho.zd6,ho.htm.ren hC,ho.hps,ho.hin,ho.hcode⟩
  |«at»=>exact h.elim
  |ghost=>exact h.elim
theorem Inv.pick {bx:List Bx}(h:Inv P R K C bx w)(e:Ez bx sel=some inb):
  ∃C1:List CB,Inv P R K C1 inb w/\C1.length=sel.length/\(∀(j i:Nat) (c:CB),sel[j]?=some i->C[i]?=some c->C1[j]?=some c)/\
   (∀(j i:Nat),sel[j]?=some i->∃B,bx[i]?=some B/\inb[j]?=some (B.ren (uO · sel)))/\inb.length=sel.length/\sel.Nodup/\(∀(j:Nat) (c:CB),C1[j]?=some c->∃i,sel[j]?=some i/\C[i]?=some c)/\
   (∀i,i∈sel->∀c,C[i]?=some c->C1[uO i sel]?=some c):=by
 unfold Ez at e;split at e
 ·grind
 rename_i l hl;split at e
 ·rename_i hc;simp at e;subst e;simp at hc;have hnd:=Gg.1 hc.1;obtain ⟨hlen,hget⟩:=MX hl;have hC1:∀(j i:Nat) (c:CB),sel[j]?=some i->C[i]?=some c->(sel.map fun i=>C.getD i .ghost)[j]?=some c:=by intro j i c e1 e2;simp [e1,List.getD,e2]
  have VY:∀(j:Nat) (c:CB),(sel.map fun i=>C.getD i .ghost)[j]?=some c->∃i,sel[j]?=some i/\C[i]?=some c:=by intro j c e1;rw [qaw] at e1;obtain ⟨i,hi,rfl⟩:=qac.1 e1;obtain ⟨B,hB,_⟩:=hget j i hi;obtain ⟨c,hc,_⟩:=h.get hB;exact ⟨i,hi,by grind⟩
  have hidx:∀i,i∈sel->∀c,C[i]?=some c->(sel.map fun i=>C.getD i .ghost)[uO i sel]?=some c:=fun i hi c e=>hC1 _ i c (wJ hi) e;have hin:∀(j i:Nat),sel[j]?=some i->∃B,bx[i]?=some B/\(l.map (Bx.ren (uO · sel)))[j]?=some (B.ren (uO · sel)):=by intro j i e1;obtain ⟨B,h1,h2⟩:=hget j i e1;exact ⟨B,h1,by grind⟩
  have hin':∀(j:Nat) (B':Bx),(l.map (Bx.ren (uO · sel)))[j]?=some B'->∃i B,sel[j]?=some i/\bx[i]?=some B/\B'=B.ren (uO · sel)/\Oj B.refs sel=true:=by
   intro j B' e1;have hj:j<sel.length:=by have:=(qak.1 e1).1;simp at this;omega
   obtain ⟨B,h1,h2⟩:=hget j sel[j] (qad hj);rw [qaw,h2] at e1;simp at e1;exact ⟨sel[j],B,qad hj,h1,e1.symm,hc.2 B (qan h2)⟩
  have howns:∀(b o:Nat),kJ (sel.map fun i=>C.getD i .ghost) (l.map (Bx.ren (uO · sel))) b o->kJ C bx b o:=by
   rintro b o ⟨j,c,B',h1,h2,h3,h4⟩
   obtain ⟨i,B,e1,e2,rfl,_⟩:=hin' j B' h2;obtain ⟨i',e3,e4⟩:=VY j c h1;rw [e1] at e3;cases e3;exact ⟨i,c,B,e4,e2,by grind[mG],h4⟩
  refine ⟨sel.map fun i=>C.getD i .ghost,⟨h.glob,h.known,by grind,fun b o ho=>h.apart b o (howns b o ho),?_,?_⟩,by simp,hC1,hin,by grind,hnd,VY,hidx⟩;·intro j k c d A B b o hne hc' hd hA hB hlA hlB hw;obtain ⟨i,A0,e1,e2,rfl,_⟩:=hin' j A hA;obtain ⟨i',B0,f1,f2,rfl,_⟩:=hin' k B hB;obtain ⟨i2,e3,e4⟩:=VY j c hc';obtain ⟨i3,f3,f4⟩:=VY k d hd;rw [e1] at e3;cases e3;rw [f1] at f3;cases f3;rw [mG] at hlA hlB;refine h.EP i i' c d A0 B0 b o (fun hii=>hne ?_) e4 f4 e2 f2 hlA hlB hw;subst hii;rw [<-Jv hnd e1,<-Jv hnd f1]
  intro j B' c hB hc';obtain ⟨i,B,e1,e2,rfl,e5⟩:=hin' j B' hB;obtain ⟨i',e3,e4⟩:=VY j c hc';rw [e1] at e3;cases e3;exact (h.box i B c e2 e4).ren fun k hk=>hidx k (vg.1 e5 k hk)
 grind
theorem fH:∀(sel:List Nat) (s bx:List Bx),(ku sel s bx).length=bx.length
 |[],_,_=>by simp [ku]
 |_::_,[],_=>by simp [ku]
 |i::r,b::s,bx=>by simp [ku,fH r s]
theorem kW:∀(sel:List Nat) (s bx:List Bx) (i:Nat),i∉sel->(ku sel s bx)[i]?=bx[i]?
 |[],_,_,_,_=>by simp [ku]
 |_::_,[],_,_,_=>by simp [ku]
 |k::r,b::s,bx,i,h=>by simp at h;rw [ku,kW r s _ i h.2,List.getElem?_set_ne (fun e=>h.1 e.symm)]
theorem Ir:∀(sel:List Nat) (s bx:List Bx) (j i:Nat) (B:Bx),sel.Nodup->sel[j]?=some i->s[j]?=some B->i<bx.length->(ku sel s bx)[i]?=some B
 |[],_,_,_,_,_,_,h,_,_=>by grind
 |_::_,[],_,_,_,_,_,_,h,_=>by grind
 |k::r,b::s,bx,j,i,B,hn,h1,h2,h3=>by
  rw [List.nodup_cons] at hn;cases j with
  |zero=>grind[ku,kW]
  |succ j=>simp at h1 h2;rw [ku];exact Ir r s _ j i B hn.2 h1 h2 (by grind)
theorem NK (h:Rel P R x K C σ a w){outb:List Bx}{C1:List CB}{v:Value}{w':World}{K':Kn}{E:List CB}
  (VY:∀(j:Nat) (c:CB),C1[j]?=some c->∃i,sel[j]?=some i/\C[i]?=some c) (hl1:C1.length=sel.length)
  (hin:∀(j i:Nat),sel[j]?=some i->∃B,σ.bx[i]?=some B/\inb[j]?=some (B.ren (uO · sel))) (hinl:inb.length=sel.length) (hnd:sel.Nodup)
  (hp:zls P R K C1 inb w y outb v w' K' E) (hle:sel.length<=outb.length):
  let back:=fun j=>if j<sel.length then sel.getD j 0 else σ.bx.length+(j-sel.length)
  Rel P R x K' (C++E) ⟨σ.tm,ku sel (outb.map (Bx.ren back)) σ.bx++(outb.map (Bx.ren back)).drop sel.length⟩ a w'/\Rep K' (C++E) (y.ren back) v:=by
 intro back;have hCs:=h.inv.size;have hEl:=hp.inv.size;rw [qau,hl1] at hEl;have hback:∀(j:Nat) (c:CB),(C1++E)[j]?=some c->(C++E)[back j]?=some c:=by
  intro j c e;by_cases hj:j<sel.length
  ·grind
  ·grind
 have hown1:∀(b o:Nat),kJ C1 inb b o->∃i c B,i∈sel/\C[i]?=some c/\σ.bx[i]?=some B/\B.live=true/\c.owns b o:=by
  rintro b o ⟨j,c,B',h1,h2,h3,h4⟩
  obtain ⟨i,e1,e2⟩:=VY j c h1;obtain ⟨B,e3,e4⟩:=hin j i e1;rw [e4] at h2;cases h2;exact ⟨i,c,B,qan e1,e2,e3,by grind[mG],h4⟩
 have Tf:∀(b o:Nat),kJ C1 inb b o->kJ C σ.bx b o:=by intro b o ho;obtain ⟨i,c,B,_,h2,h3,h4,h5⟩:=hown1 b o ho;exact ⟨i,c,B,h2,h3,h4,h5⟩
 generalize hout:outb.map (Bx.ren back)=outs;have zu5:outs.length=outb.length:=by rw [<-hout];simp
 have hsplit:∀(i:Nat) (B:Bx),(ku sel outs σ.bx++outs.drop sel.length)[i]?=some B->(i∉sel/\i<σ.bx.length/\σ.bx[i]?=some B)\/(∃(j:Nat) (B0:Bx),back j=i/\outb[j]?=some B0/\B=B0.ren back):=by
  intro i B e;by_cases hi:i<σ.bx.length
  ·rw [qar (by grind[fH])] at e;by_cases hm:i∈sel
   ·have hj:=wJ hm;have hjl:=(qak.1 hj).1;have ho:outs[uO i sel]?=some outs[uO i sel]:=qad (by omega);rw [Ir sel outs σ.bx (uO i sel) i _ hnd hj ho hi] at e
    grind
   grind[kW]
  rw [qaA (by grind[fH]),fH,qav] at e
  grind
 have zvf:∀j k,j<outb.length->k<outb.length->back j=back k->j=k:=by
  intro j k hj hk e;have hlt:∀j,j<sel.length->sel.getD j 0<σ.bx.length:=by intro j hj;obtain ⟨B,hB,_⟩:=hin j sel[j] (qad hj);have:=(qak.1 hB).1;simpa [List.getD,hj] using this
  by_cases h1:j<sel.length
  ·by_cases h2:k<sel.length
   ·simp only [back,h1,h2,if_true] at e;have e1:sel[j]?=some (sel.getD j 0):=by simp [List.getD,h1]
    have e2:sel[k]?=some (sel.getD k 0):=by simp [List.getD,h2]
    rw [<-Jv hnd e1,<-Jv hnd e2,e]
   grind
  ·grind
 have zlP:∀(j:Nat) (B0:Bx) (c:CB),outb[j]?=some B0->(C++E)[back j]?=some c->(C1++E)[j]?=some c:=by intro j B0 c h1 h2;obtain ⟨c',h3,_⟩:=hp.inv.get h1;rw [hback j c' h3] at h2;cases h2;exact h3
 have VN:∀(i:Nat) (c:CB),i<σ.bx.length->(C++E)[i]?=some c->C[i]?=some c:=by intro i c hi e;rwa [qar (by omega)] at e
 have hownW:∀(b o:Nat),kJ (C++E) (ku sel outs σ.bx++outs.drop sel.length) b o->
   (∃i c B,i∉sel/\C[i]?=some c/\σ.bx[i]?=some B/\B.live=true/\c.owns b o)\/kJ (C1++E) outb b o:=by
  rintro b o ⟨i,c,B,h1,h2,h3,h4⟩
  rcases hsplit i B h2 with ⟨hm,hi,hB⟩|⟨j,B0,rfl,hB,rfl⟩
  ·grind
  exact .inr ⟨j,c,B0,zlP j B0 c hB h1,hB,by grind[mG],h4⟩
 have hleft:∀(i:Nat) (c:CB) (B:Bx) (b o:Nat),i∉sel->C[i]?=some c->σ.bx[i]?=some B->B.live=true->c.owns b o->¬kJ C1 inb b o:=by intro i c B b o hm hc hB hl hw ho;obtain ⟨k,d,A,hk,hd,hA,hlA,hw'⟩:=hown1 b o ho;exact h.inv.EP i k c d B A b o (fun e=>hm (e▸hk)) hc hd hB hA hl hlA hw hw'
 have ZT:∀(i:Nat) (c:CB) (B:Bx) (b o:Nat),C[i]?=some c->σ.bx[i]?=some B->B.live=true->c.owns b o->b<w.heap.size:=
  fun i c B b o hc hB hl hw=>h.inv.qU ⟨i,c,B,hc,hB,hl,hw⟩
 refine ⟨{h with inv:=?_,tm:=?_,k0:=h.k0.trans hp.kle,knew:=?_,own:=?_,cin:=?_,frame:=?_,defs:=?_,loops:=?_},hp.res.ren fun i _ c e=>hback i c e⟩
 ·refine ⟨hp.inv.glob,hp.inv.known,?_,?_,?_,?_⟩
  ·grind[fH]
  ·intro b o ho;rcases hownW b o ho with ⟨i,c,B,hm,hc,hB,hl,hw⟩|ho
   ·cases e:K' b o with
    |none=>rfl
    |some u=>
     rcases hp.knew b o u e with h1|h1|h1;·rw [h.inv.apart b o ⟨i,c,B,hc,hB,hl,hw⟩] at h1<;>grind
     ·grind
     grind
   exact hp.inv.apart b o ho
  ·intro i k c d A B b o hne hc hd hA hB hlA hlB hw hw';rcases hsplit i A hA with ⟨hm,hi,hA1⟩|⟨j,A0,rfl,hA1,rfl⟩
   ·rcases hsplit k B hB with ⟨hm',hk,hB1⟩|⟨j',B0,rfl,hB1,rfl⟩;·exact h.inv.EP i k c d A B b o hne (VN i c hi hc) (VN k d hk hd) hA1 hB1 hlA hlB hw hw'
    have ho:kJ (C1++E) outb b o:=⟨j',d,B0,zlP j' B0 d hB1 hd,hB1,by rwa [mG] at hlB,hw'⟩;rcases hp.own b o ho with h1|h1
    ·grind
    have:=ZT i c A b o (VN i c hi hc) hA1 hlA hw;omega
   rcases hsplit k B hB with ⟨hm',hk,hB1⟩|⟨j',B0,rfl,hB1,rfl⟩
   ·have ho:kJ (C1++E) outb b o:=⟨j,c,A0,zlP j A0 c hA1 hc,hA1,by rwa [mG] at hlA,hw⟩;rcases hp.own b o ho with h1|h1
    ·grind
    have:=ZT k d B b o (VN k d hk hd) hB1 hlB hw';omega
   rw [mG] at hlA hlB;exact hp.inv.EP j j' c d A0 B0 b o (fun e=>hne (by rw [e])) (zlP j A0 c hA1 hc) (zlP j' B0 d hB1 hd) hA1 hB1 hlA hlB hw hw'
  intro i B c hB hc;rcases hsplit i B hB with ⟨hm,hi,hB1⟩|⟨j,B0,rfl,hB1,rfl⟩
  ·by_cases hl:B.live=true;·exact (h.inv.box i B c hB1 (VN i c hi hc)).mono hp.kle (CLe.append _ _) hp.frame (fun b o hw=>hleft i c B b o hm (VN i c hi hc) hB1 hl hw)
   cases B<;>first|trivial|simp [Bx.live] at hl
  exact (hp.inv.box j B0 c hB1 (zlP j B0 c hB1 hc)).ren fun k _ d e=>hback k d e
 ·exact h.tm.mono hp.kle (CLe.append _ _)
 ·intro b o u e;rcases hp.knew b o u e with h1|h1|h1;·exact h.knew b o u h1
  ·exact .inr (h.own b o (Tf b o h1))
  exact .inr (.inr (Nat.le_trans h.frame.size h1))
 ·intro b o ho;rcases hownW b o ho with ⟨i,c,B,hm,hc,hB,hl,hw⟩|ho;·exact h.own b o ⟨i,c,B,hc,hB,hl,hw⟩
  rcases hp.own b o ho with h1|h1;·exact h.own b o (Tf b o h1)
  exact .inr (Nat.le_trans h.frame.size h1)
 ·intro i c e;exact CLe.append _ _ _ _ (h.cin i c e)
 ·refine h.frame.trans hp.frame (fun b o hlt ho=>?_);rcases h.own b o (Tf b o ho) with h1|h1
  ·grind
  grind
 ·obtain ⟨rs,h1,h2,h3⟩:=h.defs.marks;refine ⟨⟨rs,h1,h2,fun r hr=>⟨hp.frame.obj (h3 r hr).1 trivial (o₀:=0) (fun ho=>(h3 r hr).2.2 0 (Tf r 0 ho)),(h3 r hr).2.1,fun o ho=>?_⟩⟩,h.defs.round⟩;rcases hownW r o ho with ⟨i,c,B,hm,hc,hB,hl,hw⟩|ho;·exact (h3 r hr).2.2 o ⟨i,c,B,hc,hB,hl,hw⟩
  rcases hp.own r o ho with h4|h4
  ·grind
  grind
 intro i hi hl;obtain ⟨B,hB,hl'⟩:=h.loops i hi hl;have hib:=(qak.1 hB).1;show ∃B',(ku sel outs σ.bx++outs.drop sel.length)[i]?=some B'/\B'.gu=true;rw [qar (by grind[fH])];by_cases hm:i∈sel;·have hj:=wJ hm;obtain ⟨B0,e1,e2⟩:=hin _ i hj;rw [hB] at e1;cases e1;obtain ⟨B',e3,e4⟩:=hp.loops _ _ e2 (by grind[xZ]);refine ⟨B'.ren back,Ir sel outs σ.bx (uO i sel) i _ hnd hj ?_ hib,by grind[xZ]⟩;rw [<-hout];simp [e3]
 grind[kW]
end Go.Em
namespace Go.Em
variable {aQ:Array Value}{raw:Bool}{g:FuncId}{K2:Kn}{bx':List Bx}{sel:List Nat}{args:List X}{v:Value}{z:X}
variable {P:Program} {R:aT} {x:Ctx} {K:Kn} {C:List CB} {σ:St} {a:Act} {w:World}
variable {o:Oper} {y:X} {bx:List Bx} {A:Ann} {Γ:Gam}
theorem wQ {raw:Bool}:∀{cs ds:List X},dZ bx raw cs=some ds->ds.length=cs.length/\∀(j:Nat) (z:X),cs[j]?=some z->∃z',ds[j]?=some z'/\z.data bx raw=some z'
 |[],ds,h=>by grind[dZ]
 |z::r,ds,h=>by
  simp only [dZ] at h;cases hz:z.data bx raw with
  |none=>grind
  |some z'=>
   simp only [hz] at h;obtain ⟨l,hl,rfl⟩:=qac.1 h;obtain ⟨h1,h2⟩:=wQ hl
   grind
theorem zba {z':X}(h:z.data bx raw=some z'):z'.eU=z.eU:=by
 cases z with
 |bs i off len=>simp only [X.data] at h;obtain ⟨p,_,rfl⟩:=qac.1 h;rfl
 |agg cs=>simp only [X.data] at h;obtain ⟨p,_,rfl⟩:=qac.1 h;rfl
 |tup cs=>simp only [X.data] at h;obtain ⟨p,_,rfl⟩:=qac.1 h;rfl
 |_=>simp [X.data] at h;subst h;rfl
theorem vW {i:Nat}:∀{cs:List X},i∈iQ cs↔∃z,z∈cs/\i∈z.rows
 |[]=>by simp [iQ]
 |z::r=>by simp [iQ,vW (cs:=r)]
theorem Rep.data (hI:Inv P R K C bx w)(hK:KLe K K2)(h:Rep K C z v)
  (hrow:(∀(b o:Nat) (u:Value),kJ C bx b o->w.cell? ⟨b,o,none⟩=some u->K2 b o=some u)\/z.rows=[]):∀{z':X},z.data bx raw=some z'->Rep K2 C z' v:=by
 induction h with
 |v h=>intro z' e;simp [X.data] at e;subst e;exact .v h
 |iK=>intro z' e;simp [X.data] at e;subst e;exact .iK
 |sl vals hlen ht hcap hcell hk hr ih=>intro z' e;simp [X.data] at e;subst e;exact .sl vals hlen (fun e=>ht (by grind)) hcap hcell (fun i j z e=>hK _ _ _ (hk i j z e)) (fun i j z e=>(hr i j z e).mono hK (CLe.refl _))
 |bs hc hcap hlen=>
  rename_i C i off len b base hi sz cap;intro z' e;simp only [X.data] at e;obtain ⟨p,hp,rfl⟩:=qac.1 e;unfold rowOf at hp;split at hp
  ·rename_i s es hb;split at hp
   ·rename_i hle;simp at hp;subst hp;obtain ⟨arr,el,g1,g2,g3,hbl,hf⟩:=(hI.box i _ _ hb hc).flat;subst g1;have hlen':((es.drop off).take len).length=len:=by simp;omega
    rcases hrow with hrow|hrow
    ·have:=(((hf.drop off).take len).mono hK).rep (K:=K2) (C:=C) (t:=false) (b:=b) (o:=base+off*sz) (cap:=cap) (fun k u hu=>?_) (by simp) (by omega)
     ·grind
     rw [qay] at hu;split at hu
     ·rename_i hk1;rw [qav,qay] at hu;split at hu
      ·rename_i hk2;rw [qav,bn] at hu;have e1:base+off*sz+k=base+(off*sz+k):=by omega
       refine hrow b _ u ⟨i,_,_,hc,hb,rfl,rfl,by omega,?_⟩ ?_;·omega
       grind[World.cell?]
      grind
     grind
    grind[X.rows]
   grind
  grind
 |lQ hc=>
  rename_i C i ob;intro z' e;simp only [X.data] at e;obtain ⟨p,hp,rfl⟩:=qac.1 e;unfold rowOf at hp;split at hp
  ·split at hp;·cases hp;simp;exact .iK
   grind
  grind
 |ptr hc=>intro z' e;simp [X.data] at e;subst e;exact .ptr hc
 |dp vals hcell hk hr ih=>intro z' e;simp [X.data] at e;subst e;exact .dp vals hcell (fun j z e=>hK _ _ _ (hk j z e)) (fun j z e=>(hr j z e).mono hK (CLe.refl _))
 |fn hs hr ih=>intro z' e;simp [X.data] at e;subst e;exact .fn hs (fun j z v e e'=>(hr j z v e e').mono hK (CLe.refl _))
 |agg hs hcell hr ih=>
  intro z' e;simp only [X.data] at e;obtain ⟨ds,hd,rfl⟩:=qac.1 e;obtain ⟨h1,h2⟩:=wQ hd;rename_i C cs vs;refine .agg (by grind) (fun z hz=>?_) (fun j z v e e'=>?_);·obtain ⟨j,hj,rfl⟩:=List.mem_iff_getElem.1 hz;obtain ⟨z',e1,e2⟩:=h2 j cs[j] (qad (by omega))<;>grind[zba,qah]
  have hj:=(qak.1 e).1;obtain ⟨z',e1,e2⟩:=h2 j cs[j] (qad (by omega));rw [e] at e1;cases e1;refine ih j _ v (qad (by omega)) e' hI (hrow.imp_right fun hn=>?_) e2;refine List.eq_nil_iff_forall_not_mem.2 fun i hi=>?_;have:=vW.2 ⟨cs[j],qah _,hi⟩
  grind[X.rows]
 |tup hs hr ih=>
  intro z' e;simp only [X.data] at e;obtain ⟨ds,hd,rfl⟩:=qac.1 e;obtain ⟨h1,h2⟩:=wQ hd;rename_i C cs vs;refine .tup (by grind) (fun j z v e e'=>?_);have hj:=(qak.1 e).1;obtain ⟨z',e1,e2⟩:=h2 j cs[j] (qad (by omega));rw [e] at e1;cases e1;refine ih j _ v (qad (by omega)) e' hI (hrow.imp_right fun hn=>?_) e2;refine List.eq_nil_iff_forall_not_mem.2 fun i hi=>?_;have:=vW.2 ⟨cs[j],qah _,hi⟩
  grind[X.rows]
 |yl hc=>intro z' e;simp [X.data] at e;subst e;exact .yl hc
 |mp hc=>intro z' e;simp [X.data] at e;subst e;exact .mp hc
 |ifc=>intro z' e;simp [X.data] at e;subst e;exact .ifc
theorem su:∀{cs:List X},yZ cs=true->∀z,z∈cs->z.plain=true
 |[],_,_,h=>by grind
 |z::r,h,u,hu=>by
  simp [yZ] at h;rcases qaj.1 hu with rfl|hu
  ·grind
  exact su h.2 u hu
theorem Rep.plain (h:Rep K C z v):∀{C2:List CB},z.plain=true->Rep K2 C2 z v:=by
 induction h with
 |v h=>exact fun _=>.v h
 |agg hs hcell hr ih=>exact fun hp=>.agg hs hcell (fun j z v e e'=>ih j z v e e' (su (by grind[X.plain]) z (qan e)))
 |tup hs hr ih=>exact fun hp=>.tup hs (fun j z v e e'=>ih j z v e e' (su (by grind[X.plain]) z (qan e)))
 |fn hs hr ih=>exact fun hp=>.fn hs (fun j z v e e'=>ih j z v e e' (su (by grind[X.plain]) z (qan e)))
 |_=>grind[X.plain]
def Ht (P:Program)(R:aT)(x:Ctx)(C:List CB)(tm:List (Nat×X))(bx:List Bx)(a:Act)(y:X)(e:Ending)(w':World):Prop:=
 ∃(v:Value) (K':Kn) (C':List CB),e=.returned v/\CLe C C'/\Em.Rel P R x K' C' ⟨tm,bx⟩ a w'/\Rep K' C' y v
theorem Ht.step {tm:List (Nat×X)}{e:Ending}{w':World}(h:Ht P R x C tm bx a y e w'):∃(v:Value) (K':Kn) (C':List CB),e=.returned v/\Em.Rel P R x K' C' ⟨tm,bx⟩ a w'/\Rep K' C' y v:=
 let ⟨v,K',C',h1,_,h2,h3⟩:=h
 ⟨v,K',C',h1,h2,h3⟩
theorem Eb {C':List CB}{f:Nat->Nat}(h:dB K C args aQ)(hC:∀i,i∈bZ args->∀c,C[i]?=some c->C'[f i]?=some c):dB K C' (NZ f args) aQ:=by refine ⟨by rw [jd];simpa using h.1,fun j z v e e'=>?_⟩;rw [jd,qaw] at e;obtain ⟨u,hu,rfl⟩:=qac.1 e;exact (h.2 j u v hu e').ren fun i hi=>hC i (eF.2 ⟨u,qan hu,hi⟩)
theorem G7 (hΓ:rQ P R Γ)(h:Rel P R x K C σ a w)(hargs:dB K C args aQ)(e:iT Γ (.fn g) args σ.bx=some (y,bx',sel)):
  zfo P g/\Calls P g aQ w (Ht P R x C σ.tm bx' a y):=by
 unfold iT at e;dsimp only at e;split at e
 ·rename_i hsub;split at e
  ·grind
  rename_i inb hpick;split at e
  ·grind
  rename_i r outb hcall;split at e
  ·rename_i hle;cases e;obtain ⟨C1,hI,hl1,hC1,hin,hinl,hnd,VY,hidx⟩:=h.inv.pick hpick;obtain ⟨hok,zd5⟩:=hΓ.fn g _ _ _ _ hcall;refine ⟨hok,(zd5 K C1 w aQ hI (Eb hargs fun i hi=>hidx i (vg.1 hsub i hi))).mono ?_⟩
   rintro e w' ⟨v,K',E,rfl,hp⟩
   obtain ⟨h1,h2⟩:=NK h VY hl1 hin hinl hnd hp hle;exact ⟨v,K',C++E,rfl,CLe.append _ _,h1,h2⟩
  grind
 grind
theorem WC (hΓ:rQ P R Γ)(h:Rel P R x K C σ a w){i l:Nat}{as:List X}(hi:C[i]?=some (.obj l))(hargs:dB K C as aQ)(e:iT Γ .yl (.yl i::as) σ.bx=some (y,bx',sel))(r:Option Nat):
  ∃(f:FuncId) (tmps:Array Value) (assign body:Code),(Instr.yield l aQ).run P w=.ok (.round l f tmps assign body) w/\RoundIn (Fr r) 0 P l f tmps assign body w (Ht P R x C σ.tm bx' a y):=by
 unfold iT at e;dsimp only at e;split at e
 ·rename_i hsub;split at e
  ·grind
  rename_i inb hpick;split at e
  ·grind
  rename_i res outb hcall;split at e
  ·rename_i hle;cases e;obtain ⟨C1,hI,hl1,hC1,hin,hinl,hnd,VY,hidx⟩:=h.inv.pick hpick;obtain ⟨i',as',he,zd5⟩:=hΓ.yl _ _ _ _ hcall;simp only [NZ,X.ren,List.cons.injEq,X.yl.injEq] at he;obtain ⟨rfl,rfl⟩:=he;have hsubs:=vg.1 hsub;obtain ⟨f,tmps,assign,body,hrun,ZR⟩:=zd5 K C1 w aQ l r hI (hidx i (hsubs i (by grind[bZ,X.refs])) _ hi) (Eb hargs fun k hk=>hidx k (hsubs k (by grind[bZ])));refine ⟨f,tmps,assign,body,hrun,ZR.mono ?_⟩
   rintro e w' ⟨v,K',E,rfl,hp⟩
   obtain ⟨h1,h2⟩:=NK h VY hl1 hin hinl hnd hp hle;exact ⟨v,K',C++E,rfl,CLe.append _ _,h1,h2⟩
  grind
 grind
theorem ql {xs:List X}(h:(bZ xs).isEmpty=true)(hz:z∈xs):z.refs=[]:=by simp_all[List.eq_nil_iff_forall_not_mem,eF]
def seen (w:World):Kn:=fun b o=>w.cell? ⟨b,o,none⟩
theorem mD {b o:Nat}:¬kJ [] [] b o:=by rintro ⟨i,c,B,h,_⟩<;>grind
theorem OJ (hΓ:rQ P R Γ)(h:Rel P R x K C σ a w)(hargs:dB K C args aQ)(hno:(bZ args).isEmpty=true)(e:Γ.aF g args=some y)(hny:oh y=true):
  zfo P g/\Calls P g aQ w (Ht P R x C σ.tm σ.bx a y):=by
 unfold Gam.aF at e;split at e
 ·rename_i r outb hcall;obtain ⟨hok,zd5⟩:=hΓ.fn g _ _ _ _ hcall;have hI:Inv P R K [] [] w:=⟨h.inv.glob,h.inv.known,rfl,fun b o ho=>(mD ho).elim,fun i j c d A B b o _ hc=>by grind,fun i B c hB=>by grind⟩;refine ⟨hok,(zd5 K [] w aQ hI ⟨hargs.1,fun j z v e e'=>(hargs.2 j z v e e').oh (ql hno (qan e))⟩).mono ?_⟩
  rintro e' w' ⟨v,K',E,rfl,hp⟩
  have hf:aK nowhere w w':=hp.frame.mono (fun b o _ ho=>(mD ho).elim)
  let K2:Kn:=fun b o=>match K' b o with
   |some u=>some u
   |none=>if w.heap.size<=b then w'.cell? ⟨b,o,none⟩ else none
  have hK2:KLe K' K2:=fun b o u e=>by grind
  have hrep:Rep K2 ([]++E) y v:=hp.res.data hp.inv hK2 (.inl fun b o u ho hu=>by
   simp only [K2];cases e1:K' b o with
   |some u'=>have:=hp.inv.known b o u' e1<;>grind
   |none=>rcases hp.own b o ho with h1|h1<;>grind[mD]) e
  have hnr:y.refs=[]:=by simpa [oh] using hny
  have znt:∀(b o:Nat) (u:Value),K2 b o=some u->K b o=some u\/w.heap.size<=b:=by
   intro b o u e1;simp only [K2] at e1;split at e1
   ·rename_i u' e2;cases e1;rcases hp.knew b o _ e2 with h1|h1|h1
    ·grind
    ·grind[mD]
    grind
   ·grind
  have hs:=h.still hf;refine ⟨v,K2,C,rfl,CLe.refl _,{hs with inv:=?_,tm:=hs.tm.mono (hp.kle.trans hK2) (CLe.refl _),k0:=h.k0.trans (hp.kle.trans hK2),knew:=?_},hrep.oh hnr⟩
  ·refine hs.inv.know (hp.kle.trans hK2) (fun b o u e1=>?_) (fun b o ho=>?_)
   ·simp only [K2] at e1;split at e1;next u' e2=>cases e1;exact hp.inv.known b o _ e2
    grind
   cases e1:K2 b o with
   |none=>rfl
   |some u=>
    rcases znt b o u e1 with h1|h1;·rw [h.inv.apart b o ho] at h1<;>grind
    have:=h.inv.qU ho;omega
  intro b o u e1;rcases znt b o u e1 with h1|h1;·exact h.knew b o u h1
  exact .inr (.inr (Nat.le_trans h.frame.size h1))
 grind
theorem OL (hΓ:rQ P R Γ)(h:Rel P R x K C σ a w)(hargs:dB (seen w) C args aQ)(hno:(bZ args).isEmpty=true)(e:Γ.aF g args=some y)(hny:y.plain=true):
  zfo P g/\Calls P g aQ w (Ht P R x C σ.tm σ.bx a y):=by
 unfold Gam.aF at e;split at e
 ·rename_i r outb hcall;obtain ⟨hok,zd5⟩:=hΓ.fn g _ _ _ _ hcall;have hI:Inv P R (seen w) [] [] w:=⟨h.inv.glob.mono (fun b o v e=>h.inv.known b o v e),fun b o v e=>e,rfl,fun b o ho=>(mD ho).elim,fun i j c d A B b o _ hc=>by grind,fun i B c hB=>by grind⟩;refine ⟨hok,(zd5 (seen w) [] w aQ hI ⟨hargs.1,fun j z v e e'=>(hargs.2 j z v e e').oh (ql hno (qan e))⟩).mono ?_⟩
  rintro e' w' ⟨v,K',E,rfl,hp⟩
  have hf:aK nowhere w w':=hp.frame.mono (fun b o _ ho=>(mD ho).elim);have hrep:Rep (seen w') ([]++E) y v:=hp.res.data hp.inv (fun b o u e=>hp.inv.known b o u e) (.inl fun b o u _ hu=>hu) e;exact ⟨v,K,C,rfl,CLe.refl _,h.still hf,hrep.plain hny⟩
 grind
end Go.Em
