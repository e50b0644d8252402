/-.-/
import Derived.MapKept
import Derived.Test.YtonnphbfclaigaaGreatDoorEmP1
set_option linter.all false
namespace Go.Em
variable {args:Array Operand}{es new:qbI}{z:List X}{bytes c cap h l len m n sz:Nat}{p':Opd}{p:Operand}{ob oc:Option Addr}{hi' lo':Option Opd}{hi lo mx:Option Operand}
variable {P:Program} {R:CodeRel} {x:Ctx} {K:Kn} {C:List CB} {σ:St} {a:Act} {w:World}
variable {o:Oper} {y:X} {bx:List Bx} {fp:FP} {A:Ann} {Γ:Gam}
theorem sliceBound_run {n y:Nat}(code:BoundsCode)(h:n<=y)(w:World):(Instr.sliceBound (.int .i64 (n:Int)) y code).run P w=.ok n w:=by simp_all[Instr.sliceBound,asIntOf]
def BoundIs (a:Act)(d:Nat):Option Operand->Nat->Prop
 |none,n=>n=d
 |some p,n=>a.eval p=.int .i64 (n:Int)
theorem optNat_is {d:Nat}(hg:GlobOk R K)(ht:TmOk K C σ.tm a.tmps)(hl:trOpt P R.gl lo=some lo')(e:optNat σ d lo'=some n):BoundIs a d lo n:=by
 cases lo with
 |none=>simp only [trOpt,qaE] at hl;subst hl;simp only [optNat,qaE] at e;exact e.symm
 |some p=>simp only [trOpt] at hl;obtain ⟨q,hq,rfl⟩:=qa1.1 hl;simp only [optNat] at e;obtain ⟨z,hz,hn⟩:=qbi.1 e;exact natX_rep (ev_rep hg ht hq hz) hn
theorem sliceBounds_run (hl:BoundIs a 0 lo l)(hh:BoundIs a len hi h)(hm:BoundIs a cap mx m)(h1:l<=h)(h2:h<=m)(h3:m<=cap)(hmx:mx=none\/hi.isSome=true)(isSlice:Bool)(w:World):
  (Instr.sliceBounds isSlice len cap (lo.map a.eval) (hi.map a.eval) (mx.map a.eval)).run P w=.ok (l,h,m) w:=by
 cases mx with
 |none=>
  simp only [BoundIs] at hm;subst hm;cases hi with
  |none=>simp only [BoundIs] at hh;subst hh;cases lo<;>simp_all[BoundIs,Instr.sliceBounds,sliceBound_run]
  |some q=>simp only [BoundIs] at hh;cases lo<;>simp_all[BoundIs,Instr.sliceBounds,sliceBound_run]
 |some r=>
  simp only [BoundIs] at hm;cases hi with
  |none=>grind
  |some q=>simp only [BoundIs] at hh;cases lo<;>simp_all[BoundIs,Instr.sliceBounds,sliceBound_run]
theorem run_slice {t e:TypeId}(ho:o.op=.slice t p lo hi mx)(hu:P.underlying t=some (.slice e))(hs:sizeP P e=some sz)
  (hv:a.eval p=.slice ob len cap) (hl:BoundIs a 0 lo l) (hh:BoundIs a len hi h) (hm:BoundIs a cap mx m) (h1:l<=h) (h2:h<=m) (h3:m<=cap) (hmx:mx=none\/hi.isSome=true):
  (execOp a.eval o).run P w=.ok (.value (.slice (if m=l then ob else ob.map (·.add (l*sz))) (h-l) (m-l))) w:=by
 have hb:=sliceBounds_run (P:=P) hl hh hm h1 h2 h3 hmx true w;simp only [execOp,ho,Instr.sliceAt,Sem.run_bind,run_underlying hu,Result.andThen_ok,Instr.slice,hv,hb,sizeP_run hs w];rfl
theorem op_slice_sl {t t1 e:TypeId}{mx':Option Opd}{tt:Bool}(hr:Rel P R x K C σ a w)(ho:o.op=.slice t p lo hi mx)(hu:P.underlying t=some (.slice e))(hs:sizeP P e=some sz)
  (hp:trOpd P R.gl t1 p=some p') (hlo:trOpt P R.gl lo=some lo') (hhi:trOpt P R.gl hi=some hi') (hmx:trOpt P R.gl mx=some mx') (ep:σ.ev p'=some (.sl tt sz es)) (el:optNat σ 0 lo'=some l) (eh:optNat σ es.length hi'=some h)
  (h1:l<=h) (h2:h<=es.length) (tf:Bool) (hcase:(mx=none/\tf=(tt&&h==es.length))\/(∃m,mx=some m/\hi.isSome=true/\BoundIs a 0 mx h/\tf=true)):
  OpOk P R x σ a w o (.sl tf sz ((es.take h).drop l)) σ.bx:=by
 have hrep:=ev_rep hr.inv.glob hr.tm hp ep;have bl:=optNat_is hr.inv.glob hr.tm hlo el;have bh:=optNat_is hr.inv.glob hr.tm hhi eh;have hlen:((es.take h).drop l).length=h-l:=by simp;omega
 generalize hv:a.eval p=v at hrep;have fin:∀ob cap,v=.slice ob es.length cap->es.length<=cap->(tt=true->cap=es.length)->(ob=none->cap=0)->(∀b o',ob=some ⟨b,o',none⟩->∃fl,Flat K sz es fl/\∀k v,fl[k]?=some v->K b (o'+k)=some v)->
   (∀ad,ob=some ad->ad.spot=none)->OpOk P R x σ a w o (.sl tf sz ((es.take h).drop l)) σ.bx:=by
  intro ob cap hvo hcap htt hnone hfl hspot;subst hvo;have main:∀m,BoundIs a cap mx m->h<=m->m<=cap->(mx=none\/hi.isSome=true)->(tf=true->m=h)->OpOk P R x σ a w o (.sl tf sz ((es.take h).drop l)) σ.bx:=by
   intro m bm hhm hmc hor htf;refine .still hr (run_slice ho hu hs hv bl bh bm h1 hhm hmc hor) ?_;cases ob with
   |none=>
    have hc0:=hnone rfl;have:(es.take h).drop l=[]:=qbx (by omega);rw [this];have e1:h-l=0:=by omega
    have e2:m-l=0:=by omega
    rw [e1,e2];split<;>exact .slNil
   |some ad=>
    obtain ⟨b,o',sp⟩:=ad;have:=hspot _ rfl;simp only at this;subst this;obtain ⟨fl,hf,hk⟩:=hfl b o' rfl;rw [<-hlen];by_cases hml:m=l;·rw [if_pos hml];have:(es.take h).drop l=[]:=qbx (by omega);rw [this];exact (Flat.nil (K:=K) (sz:=sz)).rep (fun k v hv=>by grind) (fun _=>by grind) (by simp)
    rw [if_neg hml];simp only [qbw,addr_add];refine ((hf.take h).drop l).rep (fun k v hv=>?_) (fun e=>by rw [hlen,htf e]) (by omega)<;>grind
  rcases hcase with ⟨rfl,rfl⟩|⟨m,rfl,hsome,bm,rfl⟩;·refine main cap rfl (by omega) (Nat.le_refl _) (.inl rfl) (fun e=>?_)<;>simp_all
  exact main h bm (Nat.le_refl _) (by omega) (.inr hsome) (fun _=>rfl)
 have hrep':=hrep;cases hrep with
 |slNil=>
  have hh0:h=0:=by simpa using h2
  have hl0:l=0:=by omega
  subst hh0;subst hl0;have e0:(([]:qbI).take 0).drop 0=[]:=rfl;rw [e0];rcases hcase with ⟨rfl,rfl⟩|⟨m,rfl,hsome,bm,rfl⟩;·refine .still hr (run_slice ho hu hs hv bl bh rfl (Nat.le_refl _) (Nat.le_refl _) (Nat.le_refl _) (.inl rfl)) ?_<;>simp_all
  refine .still hr (run_slice ho hu hs hv bl bh bm (Nat.le_refl _) (Nat.le_refl _) (Nat.le_refl _) (.inr hsome)) ?_;simp only [Nat.sub_self,if_true];exact .slNil
 |sl vals hle ht hcap hcell hk hrr=>refine fin _ _ rfl hcap ht (fun e=>by cases e) (fun b' o'' e=>?_) (fun ad e=>by grind);cases e;exact hrep'.flat
theorem op_slice_bs {t t1 e:TypeId}{i off:Nat}(hr:Rel P R x K C σ a w)(ho:o.op=.slice t p lo hi none)(hu:P.underlying t=some (.slice e))(hs:sizeP P e=some sz)
  (hp:trOpd P R.gl t1 p=some p') (hlo:trOpt P R.gl lo=some lo') (hhi:trOpt P R.gl hi=some hi') (ep:σ.ev p'=some (.bs i off len)) (el:optNat σ 0 lo'=some l) (eh:optNat σ len hi'=some h)
  (h1:l<=h) (h2:h<=len) (hy:(l=h/\y=.sl false sz [])\/(l≠h/\(∃es,σ.bx[i]?=some (.row sz es))/\y=.bs i (off+l) (h-l))):OpOk P R x σ a w o y σ.bx:=by
 have hrep:=ev_rep hr.inv.glob hr.tm hp ep;have bl:=optNat_is hr.inv.glob hr.tm hlo el;have bh:=optNat_is hr.inv.glob hr.tm hhi eh;generalize hv:a.eval p=v at hrep;cases hrep with
 |bs hc hcap hlen=>
  rename_i b base hi0 sz' cap;refine .still hr (run_slice ho hu hs hv bl bh rfl h1 (by omega) (Nat.le_refl _) (.inl rfl)) ?_;rcases hy with ⟨e1,rfl⟩|⟨e1,⟨es,hb⟩,rfl⟩
  ·subst e1;rw [Nat.sub_self];split;·exact (Flat.nil (K:=K) (sz:=sz)).rep (fun k v hv=>by grind) (fun e=>by grind) (by simp)
   simp only [qbw,addr_add];exact (Flat.nil (K:=K) (sz:=sz)).rep (fun k v hv=>by grind) (fun e=>by grind) (by simp)
  obtain ⟨hszz,_⟩:=hr.inv.box i _ _ hb hc;subst hszz;rw [if_neg (by omega)];simp only [qbw,addr_add];have:=Rep.bs (K:=K) (off:=off+l) (len:=h-l) (cap:=cap-l) hc (by rw [show off+l+(cap-l)=off+cap by omega];exact hcap) (by omega)<;>grind
 |bsNil hc=>
  refine .still hr (run_slice ho hu hs hv bl bh rfl h1 (by omega) (Nat.le_refl _) (.inl rfl)) ?_;have e1:h=0:=by omega
  have e2:l=0:=by omega
  subst e1;subst e2;rcases hy with ⟨_,rfl⟩|⟨e1,_⟩;·simp only [Nat.sub_self,if_true];exact .slNil
  grind
theorem op_sslice {t t1:TypeId}{s:qbJ}(hr:Rel P R x K C σ a w)(ho:o.op=.slice t p lo hi none)(hu:P.underlying t=some .string)
  (hp:trOpd P R.gl t1 p=some p') (hlo:trOpt P R.gl lo=some lo') (hhi:trOpt P R.gl hi=some hi') (ep:σ.ev p'=some (.v (.string s))) (el:optNat σ 0 lo'=some l) (eh:optNat σ s.size hi'=some h)
  (h1:l<=h) (h2:h<=s.size):OpOk P R x σ a w o (.v (.string (s.extract l h))) σ.bx:=by
 have r1:=rep_v (ev_rep hr.inv.glob hr.tm hp ep);have bl:=optNat_is hr.inv.glob hr.tm hlo el;have bh:=optNat_is hr.inv.glob hr.tm hhi eh;refine .still hr (v:=.string (s.extract l h)) ?_ (.v rfl);have hb:=sliceBounds_run (P:=P) (mx:=none) bl bh (m:=s.size) rfl h1 h2 (Nat.le_refl _) (.inl rfl) false w;simp only [qbD] at hb;simp only [execOp,ho,Instr.sliceAt,Sem.run_bind,run_underlying hu,Result.andThen_ok,Instr.slice,r1,qbD,Option.isSome_none]<;>simp_all
theorem max_fold {isMax:Bool}(f:Value->Value->Sem Value)(hf:∀m n:Int,f (.int .i64 m) (.int .i64 n)=pure (.int .i64 (if isMax then (if n>m then n else m) else (if n<m then n else m)))):
  ∀{ys:List X} {vs:List Value} {m z:Int},vs.length=ys.length->(∀(j:Nat) (y:X) (v:Value),ys[j]?=some y->vs[j]?=some v->Rep K C y v)->mmV isMax m ys=some z->(vs.foldlM f (.int .i64 m)).run P w=.ok (.int .i64 z) w
 |[],vs,m,z,h1,h2,h3=>by simp_all[mmV]
 |y::r,[],m,z,h1,h2,h3=>by grind
 |y::r,v::vs,m,z,h1,h2,h3=>by
  unfold mmV at h3;split at h3
  ·grind
  next m' n r' e1=>simp only [List.cons.injEq] at e1;obtain ⟨rfl,rfl⟩:=e1;have hv:=rep_v (h2 0 _ v rfl rfl);subst hv;simp only [List.foldlM_cons,hf,pure_bind];exact max_fold f hf (by grind) (fun j y v e e'=>h2 (j+1) y v (by grind) (by grind)) h3
  grind
theorem op_mm {isMax:Bool}{tys:Array TypeId}{qs:List Opd}{ys:List X}{m z:Int}(h:Rel P R x K C σ a w)(ho:o.op=.call ⟨.builtin (if isMax then .max else .min),args,tys⟩)(hq:trOpds P R.gl tys.toList args.toList=some qs)
  (he:evs σ qs=some (.v (.int .i64 m)::ys)) (hm:mmV isMax m ys=some z):OpOk P R x σ a w o (.v (.int .i64 z)) σ.bx:=by
 obtain ⟨h1,h2⟩:=evs_rep h.inv.glob h.tm hq he;refine .still h (v:=.int .i64 z) ?_ (.v rfl);have hargs:∃p r,args.toList=p::r:=by
  cases hl:args.toList with
  |nil=>grind
  |cons p r=>grind
 obtain ⟨p,r,hl⟩:=hargs;rw [hl] at h1 h2;have hp:=rep_v (h2 0 _ (a.eval p) rfl rfl);have hlist:(args.map a.eval).toList=.int .i64 m::r.map a.eval:=by simp [hl,hp]
 have hfold:=fun f hf=>max_fold (P:=P) (w:=w) (K:=K) (C:=C) (isMax:=isMax) f hf (ys:=ys) (vs:=r.map a.eval) (by grind) (fun j y v e e'=>h2 (j+1) y v (by grind) (by grind)) hm;cases isMax;·have:=hfold Builtin.min2 (fun m n=>by simp [Builtin.min2]);simp only [execOp,ho,resolve,invoke,builtin,Sem.run_bind,Sem.run_pure,Result.andThen_ok,Builtin.min_,hlist,this,qbc,if_false]
 have:=hfold Builtin.max2 (fun m n=>by simp [Builtin.max2]);simp only [execOp,ho,resolve,invoke,builtin,Sem.run_bind,Sem.run_pure,Result.andThen_ok,Builtin.max_,hlist,this,if_true]
theorem run_app_fit {t0 t1 ty e e1:TypeId}(h0:P.underlying t0=some (.slice e))(h1:P.underlying t1=some (.slice e1))(hs:sizeP P e=some sz)(news:List Value)(w':World)
  (hf:(Builtin.firstCells sz m (.slice oc m c)).run P w=.ok news.toArray w) (hroom:n+m<=cap)
  (hst:∀ad,ob=some ad->(storeCells (ad.add (n*sz)) news).run P w=.ok () w') (hno:ob=none->w'=w):
  (Builtin.append_ #[t0,t1] ty #[.slice ob n cap,.slice oc m c]).run P w=.ok (.slice ob (n+m) cap) w':=by
 cases ob with
 |none=>have:=hno rfl;subst this;simp [Builtin.append_,run_underlying h0,run_underlying h1,sizeP_run hs,Builtin.lenOf,hroom,hf]
 |some ad=>simp [Builtin.append_,run_underlying h0,run_underlying h1,sizeP_run hs,Builtin.lenOf,hroom,hf,hst ad rfl]
theorem run_app_grow {t0 t1 ty e e1:TypeId}(h0:P.underlying t0=some (.slice e))(h1:P.underlying t1=some (.slice e1))(hs:sizeP P e=some sz)(hb:bytesP P e=some bytes)(hz:zeroP P e=some z)(olds news:List Value)
  (ho:∀w':World,w'.heap=w.heap->(Builtin.firstCells sz n (.slice ob n cap)).run P w'=.ok olds.toArray w') (hf:∀w':World,w'.heap=w.heap->(Builtin.firstCells sz m (.slice oc m c)).run P w'=.ok news.toArray w')
  (hroom:cap<n+m) (hbig:(n+m)*bytes<=140737488355328) (h63:n+m<2^62) (hpos:0<bytes):
  ∃rest:List Value,(Builtin.append_ #[t0,t1] ty #[.slice ob n cap,.slice oc m c]).run P w=.ok (.slice (some ⟨w.heap.size,0,none⟩) (n+m) (grownCap w (n+m) cap e)) (w.drew.alloc (.cells (olds++news++rest).toArray e))/\
   rest.length=(grownCap w (n+m) cap e-(n+m))*sz:=by
 obtain ⟨zv,hrun,hr,hsz,hp⟩:=zeroP_run hz w;have hzs:zv.cells.size=sz:=by have:=(hr (fun _ _=>none) []).len;rw [hs] at hsz;simp at hsz this;omega
 unfold bytesP at hb;obtain ⟨i,hi,rfl⟩:=qa1.1 hb;have hiz:i.zero=some zv:=by
  simp only [zeroValue,typeInfo,Sem.run_bind,run_program,Result.andThen_ok,hi] at hrun;simp only [Sem.run_pure,Result.andThen_ok] at hrun;split at hrun;·simp_all
  simp_all
 have his:i.size=sz:=by simpa [sizeP,hi] using hs
 have hn:¬(n+m<=cap):=by omega
 have hfit:=growslice_fits (need:=n+m) (old:=cap) (bytes:=i.bytes) hroom hbig;have h63':¬(9223372036854775807<((n:Int)+(m:Int))):=by omega
 have h48':¬(281474976710656<Builtin.nextslicecap (n+m) cap*i.bytes):=by omega
 refine ⟨(Builtin.zeroCells zv.cells (grownCap w (n+m) cap e-(n+m))).toList,?_,by grind[Builtin.zeroCells]⟩;have hd:=ho w.drew rfl;have hw:=hf w.drew rfl;simp [Builtin.append_,run_underlying h0,run_underlying h1,sizeOf,typeInfo,zeroValue,hi,hiz,his,Builtin.lenOf,hn,h63',h48',Question.forced,hd,hw,newRow,grownCap]
 congr 2
 simp_all
theorem src_rep (h:Inv P R K C σ.bx w){z:X}{v:Value}(hr:Rep K C z v)(e:srcOf σ.bx z=some (sz,new)):
  ∃oc c news,v=.slice oc new.length c/\Flat K sz new news/\(∀w':World,w'.heap=w.heap->(Builtin.firstCells sz new.length (.slice oc new.length c)).run P w'=.ok news.toArray w')/\
   (∀ad,oc=some ad->∀k u,news[k]?=some u->w.cell? ⟨ad.block,ad.off+k,none⟩=some u):=by
 have fc:∀(b o' m c:Nat) (news:List Value),news.length=m*sz->(∀k u,news[k]?=some u->w.cell? ⟨b,o'+k,none⟩=some u)->∀w':World,w'.heap=w.heap->
   (Builtin.firstCells sz m (.slice (some ⟨b,o',none⟩) m c)).run P w'=.ok news.toArray w':=by
  intro b o' m c news hl hn w' hw;refine run_firstCells_some w' sz m ⟨b,o',none⟩ m c news hl (fun j u hu=>?_);rw [addr_add];have:=hn j u hu;simp only [World.cell?,hw] at this ⊢;exact this
 unfold srcOf at e;split at e
 ·rename_i t s es;simp only [qaE,qaH] at e;obtain ⟨rfl,rfl⟩:=e;have hr':=hr;cases hr with
  |slNil=>rename_i ob;exact ⟨ob,0,[],rfl,Flat.nil,fun w' _=>by cases ob<;>simp [Builtin.firstCells,loadCells,loadCellsFrom],fun _ _ k u e=>by grind⟩
  |sl vals hle ht hcap hcell hk hrr=>obtain ⟨fl,hf,hkk⟩:=hr'.flat;exact ⟨_,_,fl,rfl,hf,fc _ _ _ _ fl hf.len (fun k u hu=>h.known _ _ _ (hkk k u hu)),fun ad e=>by cases e;exact fun k u hu=>h.known _ _ _ (hkk k u hu)⟩
 ·rename_i i off len;unfold rowOf at e;split at e
  ·rename_i s es hb;split at e
   ·rename_i hle;simp only [qaE,qaH] at e;obtain ⟨rfl,rfl⟩:=e;have hlen:((es.drop off).take len).length=len:=by simp;omega
    cases hr with
    |bs hc hcap hlc=>
     rename_i b base hi sz' cap;obtain ⟨arr,el,h1,h2,h3,hbl,hf⟩:=(h.box i _ _ hb hc).flat;subst h1;have hcells:∀k u,(((((arr.toList.drop base).take (es.length*sz')).drop (off*sz')).take (len*sz')))[k]?=some u->w.cell? ⟨b,base+off*sz'+k,none⟩=some u:=by
      intro k u hu;rw [qbb] at hu;split at hu
      ·rw [qa8,qbb] at hu
       grind[World.cell?]
      ·grind
     have hf2:=(hf.drop off).take len;refine ⟨_,cap,_,by rw [hlen],hf2,?_,fun ad e=>by cases e<;>grind⟩;rw [hlen];exact fc _ _ _ _ _ (by rw [hf2.len,hlen]) hcells
    |bsNil hc=>
     have he:((es.drop 0).take 0)=[]:=by simp
     rw [he];rename_i ob;refine ⟨ob,0,[],rfl,Flat.nil,fun w' hw=>by cases ob<;>simp [Builtin.firstCells,loadCells,loadCellsFrom],fun ad _ k u e=>by grind⟩
   grind
  grind
 grind
theorem op_app_sl {t0 t1 e e1:TypeId}{tys:Array TypeId}{ps pz:Operand}{qs qz:Opd}{ts tz:TypeId}{yz:X}(h:Rel P R x K C σ a w)(ho:o.op=.call ⟨.builtin .append,args,tys⟩)(ha:args.toList=[ps,pz])
  (h0:tys[0]?=some t0) (h1:tys[1]?=some t1) (hu0:P.underlying t0=some (.slice e)) (hu1:P.underlying t1=some (.slice e1)) (hs:sizeP P e=some sz) (hb:bytesP P e=some bytes) (hz:zeroP P e=some z) (hpos:0<bytes)
  (hps:trOpd P R.gl ts ps=some qs) (hpz:trOpd P R.gl tz pz=some qz) (eps:σ.ev qs=some (.sl true sz es)) (epz:σ.ev qz=some yz) (hsrc:srcOf σ.bx yz=some (sz,new)) (hroom:roomOk (es.length+new.length) bytes=true):
  (new=[]->OpOk P R x σ a w o (.sl true sz es) σ.bx)/\OpOk P R x σ a w o (.sl false sz (es++new)) σ.bx/\
   (new≠[]->OpOk P R x σ a w o (.bs σ.bx.length 0 (es.length+new.length)) (σ.bx++[.row sz (es++new)])):=by
 have ha':args=#[ps,pz]:=by rw [<-Array.toArray_toList (xs:=args),ha]
 subst ha';have htys:∃rest,tys=(t0::t1::rest).toArray:=by
  have e0:tys=tys.toList.toArray:=by simp
  cases hl:tys.toList with
  |nil=>rw [e0,hl] at h0<;>grind
  |cons a0 r=>cases r with
   |nil=>rw [e0,hl] at h1<;>grind
   |cons b0 r=>rw [e0,hl] at h0 h1<;>grind
 obtain ⟨rest,rfl⟩:=htys;simp only [roomOk,qa4,qbu] at hroom;have r1:=ev_rep h.inv.glob h.tm hps eps;have r2:=ev_rep h.inv.glob h.tm hpz epz;obtain ⟨oc,c,news,hv2,hf2,hfc,_⟩:=src_rep h.inv r2 hsrc;have hexec:(execOp a.eval o).run P w=((Builtin.append_ (t0::t1::rest).toArray o.type #[a.eval ps,a.eval pz]).run P w).andThen fun v w'=>.ok (.value v) w':=by simp only [execOp,ho,resolve,invoke,builtin,Sem.run_bind,Sem.run_pure,Result.andThen_ok,List.map_toArray,qbt,List.map_nil]
 have hargs:Builtin.append_ (t0::t1::rest).toArray o.type #[a.eval ps,a.eval pz]=Builtin.append_ #[t0,t1] o.type #[a.eval ps,a.eval pz]:=by simp [Builtin.append_]
 rw [hargs] at hexec;rw [hv2] at hexec;generalize hv1:a.eval ps=v1 at r1 hexec;have hin:∃ob cap olds,v1=.slice ob es.length cap/\cap=es.length/\Flat K sz es olds/\(∀w':World,w'.heap=w.heap->(Builtin.firstCells sz es.length (.slice ob es.length cap)).run P w'=.ok olds.toArray w'):=by
  obtain ⟨ob,cap,olds,e1,e2,e3,_⟩:=src_rep (σ:=σ) h.inv r1 (z:=.sl true sz es) rfl;refine ⟨ob,cap,olds,e1,?_,e2,e3⟩;subst e1;cases r1 with
  |slNil=>rfl
  |sl vals hle ht=>grind
 obtain ⟨ob,cap,olds,rfl,hcap,hfo,hfco⟩:=hin;have stay:new=[]->(execOp a.eval o).run P w=.ok (.value (.slice ob es.length cap)) w:=by intro hn;subst hn;have hnews:news=[]:=qbx (by simpa using hf2.len);subst hnews;have:=run_app_fit (P:=P) (ty:=o.type) (ob:=ob) (n:=es.length) (cap:=cap) hu0 hu1 hs [] w (hfc w rfl) (by grind) (fun ad _=>by simp [storeCells]) (fun _=>rfl);rw [hexec,this];simp
 have grow:new≠[]->∃(tail:List Value) (m:Nat),(execOp a.eval o).run P w=.ok (.value (.slice (some ⟨w.heap.size,0,none⟩) (es.length+new.length) m)) (w.drew.alloc (.cells (olds++news++tail).toArray e))/\es.length+new.length<=m/\tail.length=(m-(es.length+new.length))*sz:=by intro hn;have hpn:0<new.length:=List.length_pos_iff.2 hn;obtain ⟨tail,hrun,htl⟩:=run_app_grow (P:=P) (ty:=o.type) hu0 hu1 hs hb hz olds news hfco hfc (by omega) (by omega) hroom.2 hpos;exact ⟨tail,_,by simp_all,grownCap_ge _ _ _ _,htl⟩
 have hfl:=hfo.append hf2;refine ⟨fun hn=>.still h (stay hn) r1,?_,fun hn=>?_⟩
 ·by_cases hn:new=[]
  ·refine .still h (stay hn) ?_;subst hn;rw [List.append_nil];cases r1 with
   |slNil=>exact .slNil
   |sl vals hle ht hc hcell hk hrr=>exact .sl vals hle (by simp) hc hcell hk hrr
  obtain ⟨tail,m,hrun,hm,_⟩:=grow hn;have hd:=h.still (FrameOk.drew nowhere w);refine ⟨_,C,_,_,_,hrun,.inl rfl,hd.learn (olds++news++tail).toArray e,?_⟩;rw [<-qaZ];refine (hfl.mono (Kn.add_le hd.inv _)).rep (fun k v hv=>?_) (by simp) (by grind);simp only [Kn.add,World.size_drew,if_true,Nat.zero_add]
  grind
 obtain ⟨tail,m,hrun,hm,htl⟩:=grow hn;have hd:=h.still (FrameOk.drew nowhere w);have hsz:(olds++news++tail).toArray.size=m*sz:=by
  have:=hfl.len;simp only [qaZ] at this;simp only [List.size_toArray,qaZ,this,htl,<-Nat.add_mul]
  congr 1;omega
 have hc2:(C++[CB.at w.heap.size 0 (m*sz) sz])[σ.bx.length]?=some (.at w.heap.size 0 (m*sz) sz):=by rw [<-h.inv.size];simp
 refine ⟨K,C++[.at w.heap.size 0 (m*sz) sz],_,_,_,hrun,.inl rfl,?_,?_⟩
 ·refine hd.push _ (hfl.box (alloc_get w.drew _) (fun k v hv=>?_) ?_ (by omega)) (fun b k hw=>hw.1)
  ·grind
  simp_all[qbn]
 have:=Rep.bs (K:=K) (off:=0) (len:=es.length+new.length) (cap:=m) hc2 (by simp) hm<;>grind
end Go.Em
namespace Go.Em
variable {ents:Array MapEntry}{seen:Array Nat}{kk:KK}{es:List (Value×X)}{l:List Nat}{bm clock i mi r s:Nat}{m':Opd}{m:Operand}{k k' kv v:Value}{xm y z:X}
variable {P:Program} {R:CodeRel} {x:Ctx} {K:Kn} {C:List CB} {σ:St} {a:Act} {w:World} {o:Oper}
def KK.desc:KK->TypeDesc
 |.int k=>.int k
 |.str=>.string
 |.bool=>.bool
theorem okKey_is (h:okKey kk v=true):MapKept.IsKey kk.desc v:=by
 cases kk<;>cases v<;>simp_all [okKey,MapKept.IsKey,KK.desc]
theorem okKey_okV (h:okKey kk v=true):okV v=true:=by
 cases kk<;>cases v<;>simp_all [okKey,okV]
theorem keyP_desc {t:TypeId}(h:keyP P t=some kk):P.underlying t=some kk.desc:=by unfold keyP at h;split at h<;>simp at h<;>subst h<;>assumption
theorem keySame_now {b:Bool}(hk:okKey kk k=true)(h:keySame k k'=some b):Instr.sameNow kk.desc k k'=some b:=by
 cases kk<;>cases k<;>cases k'<;>simp_all [okKey,keySame,Instr.sameNow,KK.desc]
theorem keySame_eq (h:keySame k k'=some true):k'=k:=by
 cases k<;>cases k'<;>simp_all [keySame,MapKept.bytes_beq]
theorem mapFind_now {kk:KK}{k:Value}(hk:okKey kk k=true):∀{es:List (Value×X)} {ents:List MapEntry} {i:Nat} {r:Option (Nat×X)},EntsOk K es ents->mapFind k es i=some r->
  (r=none/\Instr.findNow kk.desc k ents i=some none)\/(∃j y m,r=some (i+j,y)/\ents[j]?=some m/\es[j]?=some (k,y)/\m.key=k/\Instr.findNow kk.desc k ents i=some (some (i+j,m.val)))
 |[],ents,i,r,hE,h=>by have:=qbx (by rw [hE.len];rfl);subst this;simp [mapFind] at h;exact .inl ⟨h.symm,rfl⟩
 |e::es,[],i,r,hE,h=>by have:=hE.len<;>grind
 |e::es,m::ents,i,r,hE,h=>by
  have hkey:=hE.key 0 e m rfl rfl;have hE':EntsOk K es ents:=⟨by have:=hE.len<;>grind,fun j e' m' h1 h2=>hE.key (j+1) e' m' (by grind) (by grind),fun j e' m' h1 h2=>hE.val (j+1) e' m' (by grind) (by grind)⟩;simp only [mapFind] at h;split at h;next hs=>have hn:=keySame_now hk hs;have he:=keySame_eq hs;simp at h;refine .inr ⟨0,e.2,m,by rw [<-h];rfl,rfl,by rw [<-he];rfl,by rw [hkey,he],?_⟩<;>simp_all[Instr.findNow]
  ·rename_i hs;have hn:=keySame_now hk hs;rcases mapFind_now hk hE' h with ⟨h1,h2⟩|⟨j,y,m',h1,h2,h3,h4,h5⟩
   ·grind[Instr.findNow]
   refine .inr ⟨j+1,y,m',by grind,by grind,by grind,h4,?_⟩;simp only [Instr.findNow,hkey,hn,h5]
   grind
  grind
theorem Born.push (h:Born ents clock)(hk:okV k=true):Born (ents.push {key:=k,val:=v,born:=clock}) (clock+1):=by
 have hc:=h.clock;refine ⟨by simp [hc],fun j m e=>?_,fun j m e=>?_⟩
 ·rw [Array.getElem?_push] at e;split at e;·simp at e;subst e;show clock=j;omega
  exact h.born j m e
 rw [Array.getElem?_push] at e;split at e;·simp at e;subst e;exact hk
 exact h.key j m e
theorem Born.modify {j0:Nat}(h:Born ents clock)(hk:okV k=true):Born (ents.modify j0 fun e=>{e with key:=k,val:=v}) clock:=by
 refine ⟨by simp [h.clock],fun j m e=>?_,fun j m e=>?_⟩
 ·rw [Array.getElem?_modify] at e;split at e;·obtain ⟨m0,h0,rfl⟩:=qa1.1 e;exact h.born j m0 h0
  exact h.born j m e
 rw [Array.getElem?_modify] at e;split at e;·obtain ⟨m0,h0,rfl⟩:=qa1.1 e;exact hk
 exact h.key j m e
theorem op_mkmap {t kt e:TypeId}(h:Rel P R x K C σ a w)(ho:o.op=.makeMap t none)(_:P.underlying t=some (.map kt e)):OpOk P R x σ a w o (.mp σ.bx.length) (σ.bx++[.map []]):=by
 have hc:(C++[CB.obj w.heap.size])[σ.bx.length]?=some (.obj w.heap.size):=by rw [<-h.inv.size];simp
 refine ⟨K,C++[.obj w.heap.size],_,.map (some w.heap.size),w.alloc (.map #[] 0),?_,.inl rfl,?_,.mp hc⟩;·simp_all[execOp,Instr.makeMap]
 exact h.push _ ⟨#[],0,alloc_get _ _,⟨rfl,by simp,by simp⟩,rfl,by simp,by simp⟩ (fun b k hw=>hw)
theorem op_mput {t kt e t1 t2 t3:TypeId}{k v:Operand}{k' v':Opd}{es':List (Value×X)}(h:Rel P R x K C σ a w)(ho:o.op=.insert t m k v\/o.op=.mapUpdate t m k v)
  (hu:P.underlying t=some (.map kt e)) (hkk:keyP P kt=some kk) (hm:trOpd P R.gl t1 m=some m') (hk:trOpd P R.gl t2 k=some k') (hv:trOpd P R.gl t3 v=some v') (em:σ.ev m'=some (.mp i)) (ek:σ.ev k'=some (.v kv)) (ev:σ.ev v'=some y)
  (hb:σ.bx[i]?=some (.map es)) (hok:okKey kk kv=true) (h1:y.ok1=true) (hn:noRef y=true) (hp:mapPut kv y es=some es'):OpOk P R x σ a w o undefX (σ.bx.set i (.map es')):=by
 have r1:=ev_rep h.inv.glob h.tm hm em;have r2:=ev_rep h.inv.glob h.tm hk ek;have r3:=ev_rep h.inv.glob h.tm hv ev;have e2:=rep_v r2;generalize hmv:a.eval m=mv at r1;cases r1 with
 |mp hc=>
  rename_i b;obtain ⟨ents,clock,hheap,hE,hB⟩:=h.inv.box i _ _ hb hc;have href:=List.isEmpty_iff.1 hn;have hy:Rep K [] y (a.eval v):=r3.noRef href;have hrunO:∀n (w':World),(Instr.mapUpdate t (.map (some b)) kv (a.eval v)).run P w=.ok () w'->n=Next.skip->(execOp a.eval o).run P w=.ok n w':=fun n w' hr hn=>by subst hn;rcases ho with ho|ho<;>simp [execOp,ho,hmv,e2,hr,Result.andThen]
  have hd:=keyP_desc hkk;have hIs:=okKey_is hok;unfold mapPut at hp;split at hp
  ·rename_i hf;simp at hp;subst hp;rcases mapFind_now hok hE hf with ⟨_,hfn⟩|⟨j,z,mm,h1',_⟩
   ·refine ⟨K,C,.skip,undef,{w with heap:=w.heap.setIfInBounds b (.map (ents.push {key:=kv,val:=a.eval v,born:=clock}) (clock+1))},hrunO _ _ ?_ rfl,.inr ⟨rfl,rfl⟩,?_,.v rfl⟩;·simp [Instr.mapUpdate,run_underlying hu,MapKept.run_getObj_map hheap,MapKept.run_checkKey hd hIs,MapKept.run_findKey hd hfn,MapKept.run_setObj_map _ hheap,Result.andThen]
    refine h.setBox hb rfl hc (FrameOk.setObj hheap trivial trivial fun _=>rfl) ⟨_,_,(MapKept.heap_set hheap).1,?_,hB.push (okKey_okV hok)⟩ (fun e=>by grind[Bx.isLoop]);refine ⟨by simp [hE.len],fun j e' m' h1' h2'=>?_,fun j e' m' h1' h2'=>?_⟩
    ·rw [Array.toList_push] at h2';by_cases hj:j<es.length;·rw [qa6 hj] at h1';rw [qa6 (by rw [hE.len]<;>grind)] at h2';exact hE.key j e' m' h1' h2'
     rw [qbf (by omega)] at h1';rw [qbf (by rw [hE.len];omega),hE.len] at h2'<;>grind
    rw [Array.toList_push] at h2';by_cases hj:j<es.length;·rw [qa6 hj] at h1';rw [qa6 (by rw [hE.len]<;>grind)] at h2';exact hE.val j e' m' h1' h2'
    rw [qbf (by omega)] at h1';rw [qbf (by rw [hE.len];omega),hE.len] at h2'<;>grind
   grind
  ·rename_i j0 z0 hf;simp at hp;subst hp;rcases mapFind_now hok hE hf with ⟨h1',_⟩|⟨j,z,mm,h1',h2',h3',h4',hfn⟩
   ·grind
   simp at h1';obtain ⟨rfl,rfl⟩:=h1';have hej:ents[j0]?=some mm:=by simpa using h2'
   refine ⟨K,C,.skip,undef,{w with heap:=w.heap.setIfInBounds b (.map (ents.modify j0 fun e=>{e with key:=kv,val:=a.eval v}) clock)},hrunO _ _ ?_ rfl,.inr ⟨rfl,rfl⟩,?_,.v rfl⟩;·simp [Instr.mapUpdate,run_underlying hu,MapKept.run_getObj_map hheap,MapKept.run_checkKey hd hIs,MapKept.run_findKey hd hfn,hej,h4',MapKept.run_keyThatStays hIs,MapKept.run_setObj_map _ hheap,Result.andThen]
   refine h.setBox hb rfl hc (FrameOk.setObj hheap trivial trivial fun _=>rfl) ⟨_,_,(MapKept.heap_set hheap).1,?_,hB.modify (okKey_okV hok)⟩ (fun e=>by grind[Bx.isLoop]);have hmod:∀(j:Nat) (m':MapEntry),(ents.modify j0 fun e=>{e with key:=kv,val:=a.eval v}).toList[j]?=some m'->(j=j0/\m'.key=kv/\m'.val=a.eval v)\/(j≠j0/\ents.toList[j]?=some m'):=fun j m' e=>by grind
   have hset:∀(j:Nat) (e':Value×X),(es.set j0 (kv,y))[j]?=some e'->(j=j0/\e'=(kv,y))\/(j≠j0/\es[j]?=some e'):=fun j e' e=>by grind
   refine ⟨by simp [hE.len],fun j e' m' h1' h2'=>?_,fun j e' m' h1' h2'=>?_⟩
   ·rcases hset j e' h1' with ⟨g1,g2⟩|⟨g1,g2⟩
    ·grind
    rcases hmod j m' h2' with ⟨k1,_,_⟩|⟨_,k2⟩
    ·grind
    exact hE.key j e' m' g2 k2
   rcases hset j e' h1' with ⟨g1,g2⟩|⟨g1,g2⟩
   ·grind
   rcases hmod j m' h2' with ⟨k1,_,_⟩|⟨_,k2⟩
   ·grind
   exact hE.val j e' m' g2 k2
  grind
theorem one_cells {K:Kn}{C:List CB}(h:CRep K C [z] v.cells.toList)(ha:∀vs,v≠.agg vs):Rep K C z v:=by
 have hv:v.cells=#[v]:=by
  cases v<;>first|rfl|grind
 rw [hv] at h;exact h.rep 0 z v rfl rfl
theorem agg_cells {K:Kn}{C:List CB}{l:List X}(h:CRep K C l v.cells.toList)(ha:∃vs,v=.agg vs):Rep K C (.agg l) v:=by obtain ⟨vs,rfl⟩:=ha;exact .agg (by have:=h.len<;>grind[Value.cells]) h.cell (fun j x v e e'=>h.rep j x v e (by grind[Value.cells]))
theorem zeroX_run {e:TypeId}(h:zeroX P e=some z)(w:World):∃v,(zeroValue e).run P w=.ok v w/\∀K C,Rep K C z v:=by
 have key:∀v l,(P.info? e).bind (·.zero)=some v->zeroP P e=some l->(zeroValue e).run P w=.ok v w/\∀(K:Kn) (C:List CB),CRep K C l v.cells.toList:=fun v l hv hl=>by obtain ⟨u,hrun,hr,_,_⟩:=zeroP_run hl w;obtain ⟨i,hi,hiz⟩:=qbi.1 hv<;>simp_all[zeroValue,typeInfo]
 unfold zeroX at h;split at h;next vs l hv hl=>simp at h;subst h<;>simp_all[agg_cells]
 ·grind[one_cells]
 grind
theorem op_mget {t kt e t1 t2:TypeId}{k:Operand}{k':Opd}{ok:Bool}{zero:X}(h:Rel P R x K C σ a w)(ho:o.op=.lookup t m k ok)
  (hu:P.underlying t=some (.map kt e)) (hkk:keyP P kt=some kk) (hz:zeroX P e=some zero) (hm:trOpd P R.gl t1 m=some m') (hk:trOpd P R.gl t2 k=some k') (em:σ.ev m'=some xm) (ek:σ.ev k'=some (.v kv))
  (hb:(∃i,xm=.mp i/\σ.bx[i]?=some (.map es))\/(xm=.v (.map none)/\es=[])) (hok:okKey kk kv=true) (hg:mapGet ok zero kv es=some y):OpOk P R x σ a w o y σ.bx:=by
 have r1:=ev_rep h.inv.glob h.tm hm em;have e2:=rep_v (ev_rep h.inv.glob h.tm hk ek);obtain ⟨zv,hzrun,hzr⟩:=zeroX_run hz w;have hd:=keyP_desc hkk;have hIs:=okKey_is hok;generalize hmv:a.eval m=mv at r1;have key:∃ents:List MapEntry,EntsOk K es ents/\∀q:Option (Nat×Value),Instr.findNow kk.desc kv ents 0=some q->(execOp a.eval o).run P w=.ok (.value (match q with|some (_,v)=>if ok then .tuple #[v,.bool true] else v|none=>if ok then .tuple #[zv,.bool false] else zv)) w:=by
  rcases hb with ⟨i,rfl,hbx⟩|⟨rfl,rfl⟩
  ·cases r1 with
   |mp hc=>
    rename_i b;obtain ⟨ents,clock,hheap,hE,_⟩:=h.inv.box i _ _ hbx hc;refine ⟨ents.toList,hE,fun q hq=>?_⟩;have hfk:=MapKept.run_findKey (w:=w) hd hq;have hck:=MapKept.run_checkKey (P:=P) (w:=w) hd hIs ents.isEmpty 9999;cases q with
    |none=>cases ok<;>simp [execOp,ho,hmv,e2,Instr.lookup,run_underlying hu,MapKept.run_getObj_map hheap,hck,hfk,hzrun,Result.andThen]
    |some p=>cases ok<;>simp [execOp,ho,hmv,e2,Instr.lookup,run_underlying hu,MapKept.run_getObj_map hheap,hck,hfk,Result.andThen]
  have:=rep_v r1;subst this;refine ⟨[],⟨rfl,by simp,by simp⟩,fun q hq=>?_⟩;have hfk:=MapKept.run_findKey (w:=w) hd hq;have hck:=MapKept.run_checkKey (P:=P) (w:=w) hd hIs true 9999;cases q with
  |none=>simp_all[execOp,Instr.lookup,run_underlying]
  |some p=>simp_all[execOp,Instr.lookup,run_underlying]
 obtain ⟨ents,hE,hrun⟩:=key;have tup2:∀{z:X} {v:Value} {b:Bool},Rep K C z v->Rep K C (.tup [z,.v (.bool b)]) (.tuple #[v,.bool b]):=fun {z v b} hr=>
  .tup rfl fun j u uv e e'=>by
   cases j with
   |zero=>grind
   |succ j=>cases j with
    |zero=>simp at e e';subst e;subst e';exact .v rfl
    |succ j=>simp_all
 unfold mapGet at hg;split at hg
 ·rename_i hf;simp at hg;subst hg;rcases mapFind_now hok hE hf with ⟨_,hfn⟩|⟨j,z,mm,h1',_⟩;·refine .still h (hrun none hfn) ?_<;>grind
  grind
 ·rename_i j0 z0 hf;simp at hg;subst hg;rcases mapFind_now hok hE hf with ⟨h1',_⟩|⟨j,z,mm,h1',h2',h3',h4',hfn⟩
  ·grind
  simp at h1';obtain ⟨rfl,rfl⟩:=h1';have hv:=(hE.val j0 _ _ h3' h2').2.2.mono (KLe.refl _) (CLe.nil C);refine .still h (hrun _ hfn) ?_<;>grind
 grind
theorem op_mlen {tys:Array TypeId}{t kt e t1:TypeId}(h:Rel P R x K C σ a w)(ho:o.op=.call ⟨.builtin .len,#[m],tys⟩)(ht:tys[0]?=some t)(hu:P.underlying t=some (.map kt e))
  (hm:trOpd P R.gl t1 m=some m') (em:σ.ev m'=some xm) (hb:(∃i,xm=.mp i/\σ.bx[i]?=some (.map es))\/(xm=.v (.map none)/\es=[])):OpOk P R x σ a w o (.v (.int .i64 (es.length:Int))) σ.bx:=by
 have r1:=ev_rep h.inv.glob h.tm hm em;generalize hmv:a.eval m=mv at r1;refine .still h (v:=.int .i64 (es.length:Int)) ?_ (.v rfl);rcases hb with ⟨i,rfl,hbx⟩|⟨rfl,rfl⟩
 ·cases r1 with
  |mp hc=>
   obtain ⟨ents,clock,hheap,hE,_⟩:=h.inv.box i _ _ hbx hc;have hl:ents.size=es.length:=by have:=hE.len;simpa using this
   simp [execOp,ho,resolve,invoke,builtin,Builtin.len_,ht,hmv,run_underlying hu,MapKept.run_getObj_map hheap,Result.andThen,goInt,hl]
 have:=rep_v r1;subst this;simp [execOp,ho,resolve,invoke,builtin,Builtin.len_,ht,hmv,run_underlying hu,Result.andThen,goInt]
theorem find_at (me:MapEntry):∀(l:List MapEntry) (b k:Nat),(∀(j:Nat) (m:MapEntry),l[j]?=some m->m.born=b+j)->l[k]?=some me->l.find? (fun e=>e.born==b+k)=some me
 |[],_,_,_,h=>by simp at h
 |x::l,b,0,hb,h=>by simp only [List.getElem?_cons_zero,qaE] at h;subst h;have:=hb 0 x rfl;simp [this]
 |x::l,b,k+1,hb,h=>by
  simp only [List.getElem?_cons_succ] at h;have h0:x.born=b:=by simpa using hb 0 x rfl
  have hne:(x.born==b+(k+1))=false:=by rw [h0];simp
  rw [List.find?_cons,hne];have:=find_at me l (b+1) k (fun j m e=>by rw [hb (j+1) m (by simpa using e)];omega) h;rw [show b+(k+1)=b+1+k by omega];exact this
theorem run_entry_at {w:World}{k:Nat}{me:MapEntry}(hr:w.heap[r]?=some (.mapIter (some bm) s seen s))(hb:w.heap[bm]?=some (.map ents clock))(hk:seen.back?=some k)(hB:Born ents clock)(hcl:clock=s)(hm:ents[k]?=some me):
  (Instr.entry (.pointer (some ⟨r,0,none⟩))).run P w=.ok (.tuple #[me.key,me.val]) w:=by
 have hf:ents.find? (fun e=>e.born==k)=some me:=by rw [<-Array.find?_toList];have:=find_at me ents.toList 0 k (fun j m e=>by rw [hB.born j m (by simpa using e)];omega) (by simpa using hm);simpa using this
 subst hcl;simp [Instr.entry,getObj,Sem.run,hr,hb,hk,hf,Result.andThen]
theorem run_next_any {w:World}(ty:TypeId)(hr:w.heap[r]?=some (.mapIter (some bm) s seen s))(hb:w.heap[bm]?=some (.map ents s))(hold:∀x∈ents.toList,x.born<s):
  ((∀e∈ents.toList,e.born∈seen)/\(Instr.next (.pointer (some ⟨r,0,none⟩)) false ty).run P w=.ok (.tuple #[.bool false]) w)\/
  ∃e∈ents.toList,e.born∉seen/\∃w1:World,(w1=w\/w1=w.drew)/\(Instr.next (.pointer (some ⟨r,0,none⟩)) false ty).run P w=.ok (.tuple #[.bool true,e.key,e.val]) {w1 with heap:=w1.heap.setIfInBounds r (.mapIter (some bm) s (seen.push e.born) s)}:=by
 have hall:(!seen.isEmpty&&!ents.isEmpty&&ents.all (fun x=>decide (x.born>=s)))=false:=by
  cases he:ents.isEmpty with
  |true=>simp
  |false=>
   have h0:0<ents.size:=by
    rcases Nat.eq_zero_or_pos ents.size with h0|h0;·simp [Array.isEmpty,h0] at he
    exact h0
   have h2:=hold ents[0] (by simp);have:ents.all (fun x=>decide (x.born>=s))=false:=by rw [Bool.eq_false_iff];intro h;rw [Array.all_eq_true_iff_forall_mem] at h;have h1:=h _ (Array.getElem_mem h0);simp at h1;omega
   simp [this]
 simp only [Instr.next,getObj,Sem.run_bind,Sem.run,hr,hb,Result.andThen,hall,qbc,if_false];have hmem:∀x∈(Array.filter (fun e=>!seen.contains e.born) ents).toList,x∈ents.toList/\x.born∉seen:=fun x hx=>by simpa using hx
 have hnone:(Array.filter (fun e=>!seen.contains e.born) ents).size=0->∀e∈ents.toList,e.born∈seen:=fun h0 e he=>by
  apply Classical.byContradiction;intro hn;have hin:e∈(Array.filter (fun e=>!seen.contains e.born) ents):=by rw [Array.mem_filter];exact ⟨by simpa using he,by simpa using hn⟩
  rw [Array.eq_empty_of_size_eq_zero h0] at hin;simp at hin
 generalize Array.filter (fun e=>!seen.contains e.born) ents=L at hmem hnone ⊢;have e1:L.filter (fun x=>decide (x.born<s))=L:=Array.filter_eq_self.2 (fun x hx=>by simpa using hold x (hmem x (by simpa using hx)).1);have e2:L.filter (fun x=>decide (x.born>=s))=#[]:=by rw [Array.filter_eq_empty_iff];intro x hx;have:=hold x (hmem x (by simpa using hx)).1;simp;omega
 simp only [e1,e2,Array.append_empty];by_cases h0:L.size=0;·left;refine ⟨hnone h0,?_⟩;have:L=#[]:=Array.eq_empty_of_size_eq_zero h0;subst this;simp [choose,Sem.run,Question.forced]
 right;have hne:L.isEmpty=false:=by simp [Array.isEmpty,h0]
 simp only [hne,qbc,if_false,Array.empty_append,Array.size_map];have hch:∃(j:Nat) (w1:World),j<L.size/\(w1=w\/w1=w.drew)/\(choose (Question.mapNext L.size)).run P w=.ok j w1:=by
  by_cases hf:L.size<=1;·exact ⟨0,w,by omega,.inl rfl,by simp [choose,Sem.run,Question.forced,hf]⟩
  exact ⟨_,w.drew,Nat.mod_lt _ (by omega),.inr rfl,by simp only [choose,Sem.run,Question.forced,qbu,hf,if_false,Question.cut];rfl⟩
 obtain ⟨j,w1,hj,hal,hrun⟩:=hch;have hr1:w1.heap[r]?=some (.mapIter (some bm) s seen s):=by rcases hal with rfl|rfl<;>exact hr
 refine ⟨L[j],(hmem L[j] (by simp)).1,(hmem L[j] (by simp)).2,w1,hal,?_⟩;have hset:∀o':Obj,(setObj r o').run P w1=.ok () {w1 with heap:=w1.heap.setIfInBounds r o'}:=fun o'=>by simp only [setObj,Sem.run,hr1]
 simp only [hrun,Array.getElem?_map,qa7 hj,qbw,Sem.run_bind,hset,Result.andThen];rfl
theorem op_mrange {t kt e t1:TypeId}(h:Rel P R x K C σ a w)(ho:o.op=.range t m)(hu:P.underlying t=some (.map kt e))(hm:trOpd P R.gl t1 m=some m')(em:σ.ev m'=some (.mp i))(hb:σ.bx[i]?=some (.map es)):
  OpOk P R x σ a w o (.it σ.bx.length) (σ.bx++[.iter i es.length []]):=by
 have r1:=ev_rep h.inv.glob h.tm hm em;generalize hmv:a.eval m=mv at r1;cases r1 with
 |mp hc=>
  rename_i b;obtain ⟨ents,clock,hheap,hE,hB⟩:=h.inv.box i _ _ hb hc;have hl:clock=es.length:=by have:=hE.len;rw [hB.clock];simpa using this
  subst hl;have hc':(C++[CB.obj w.heap.size])[σ.bx.length]?=some (.obj w.heap.size):=by rw [<-h.inv.size];simp
  refine ⟨K,C++[.obj w.heap.size],_,.pointer (some ⟨w.heap.size,0,none⟩),w.alloc (.mapIter (some b) es.length #[] es.length),?_,.inl rfl,?_,.it hc'⟩;·simp [execOp,ho,hmv,Instr.range,run_underlying hu,MapKept.run_getObj_map hheap,Result.andThen]
  exact h.push _ ⟨b,CLe.append _ _ _ _ hc,alloc_get _ _⟩ (fun b k hw=>hw)
theorem op_mnext {t1:TypeId}(h:Rel P R x K C σ a w)(ho:o.op=.next m false)(hm:trOpd P R.gl t1 m=some m')(em:σ.ev m'=some (.it i))(hb:σ.bx[i]?=some (.iter mi s l))(hbm:σ.bx[mi]?=some (.map es))(hs:es.length=s):
  ((∀j,j<s->j∈l)/\OpOk P R x σ a w o (.tup [.v (.bool false)]) σ.bx)\/
  ∃(j:Nat) (e:Value×X),es[j]?=some e/\j∉l/\OpOk P R x σ a w o (.tup [.v (.bool true),.v e.1,e.2]) (σ.bx.set i (.iter mi s (l++[j]))):=by
 have r1:=ev_rep h.inv.glob h.tm hm em;generalize hmv:a.eval m=mv at r1;cases r1 with
 |it hc=>
  rename_i b;obtain ⟨bm,hcm,hheap⟩:=h.inv.box i _ _ hb hc;obtain ⟨ents,clock,hh,hE,hB⟩:=h.inv.box mi _ _ hbm hcm;have hcl:clock=s:=by rw [hB.clock,<-hs,<-hE.len];simp
  subst hcl;have hidx:∀x∈ents.toList,∃j,ents[j]?=some x/\x.born=j/\j<clock:=fun x hx=>by
   obtain ⟨j,hj,rfl⟩:=List.mem_iff_getElem.1 hx;have hj':j<ents.size:=by simpa using hj
   have hg:ents[j]?=some ents[j]:=qa7 hj';refine ⟨j,by simpa using hg,by simpa using hB.born j _ hg,by rw [hB.clock];exact hj'⟩
  rcases run_next_any (P:=P) o.type hheap hh (fun x hx=>by obtain ⟨j,_,e,hj⟩:=hidx x hx;omega) with ⟨hall,hrun⟩|⟨me,hme,hnot,w1,hal,hrun⟩
  ·refine .inl ⟨fun j hj=>?_,.still h (v:=.tuple #[.bool false]) (by simp only [execOp,ho,hmv];rw [Sem.run_bind,hrun];rfl) (.tup rfl fun j u uv e1 e2=>?_)⟩
   ·have hj':j<ents.size:=by rw [<-hB.clock];exact hj
    have hg:ents[j]?=some ents[j]:=qa7 hj';have:=hall ents[j] (by simp);rw [hB.born j _ hg] at this;simpa using this
   match j,e1,e2 with
   |0,e1,e2=>simp at e1 e2;subst e1;subst e2;exact .v rfl
   |j+1,e1,_=>simp at e1
  obtain ⟨j,hg,hbj,hj⟩:=hidx me hme;have hje:j<es.length:=by omega
  have he:es[j]?=some es[j]:=qa3 hje;have hg':ents.toList[j]?=some me:=by simpa using hg
  have hk:=hE.key j _ me he hg';have hv:=hE.val j _ me he hg';have hok:=hB.key j me hg;refine .inr ⟨j,es[j],he,by rw [<-hbj];simpa using hnot,?_⟩;have hrel:Em.Rel P R x K C σ a w1:=by
   rcases hal with rfl|rfl;·exact h
   exact h.still (FrameOk.drew _ w)
  have hheap1:w1.heap[b]?=some (.mapIter (some bm) clock l.toArray clock):=by rcases hal with rfl|rfl<;>exact hheap
  refine ⟨K,C,_,_,_,by simp only [execOp,ho,hmv];rw [Sem.run_bind,hrun];rfl,.inl rfl,?_,?_⟩;·refine hrel.setBox hb rfl hc (FrameOk.setObj hheap1 trivial trivial fun _=>rfl) ⟨bm,hcm,?_⟩ (fun e=>by grind[Bx.isLoop]);have:=(MapKept.heap_set (o':=.mapIter (some bm) clock (l.toArray.push me.born) clock) hheap1).1;rw [hbj] at this ⊢;simpa using this
  refine .tup rfl fun j' u uv e1 e2=>?_
  match j',e1,e2 with
  |0,e1,e2=>simp at e1 e2;subst e1;subst e2;exact .v rfl
  |1,e1,e2=>simp at e1 e2;subst e1;subst e2;rw [hk] at hok ⊢;exact .v hok
  |2,e1,e2=>simp at e1 e2;subst e1;subst e2;exact hv.2.2.mono (KLe.refl _) (CLe.nil C)
  |j'+3,e1,_=>simp at e1
theorem op_mentry {t1:TypeId}{k:Nat}{e:Value×X}(h:Rel P R x K C σ a w)(ho:o.op=.entry m)(hm:trOpd P R.gl t1 m=some m')(em:σ.ev m'=some (.it i))(hb:σ.bx[i]?=some (.iter mi s l))(hbm:σ.bx[mi]?=some (.map es))(hs:es.length=s)(hk:l.getLast?=some k)(he:es[k]?=some e):
  OpOk P R x σ a w o (.tup [.v e.1,e.2]) σ.bx:=by
 have r1:=ev_rep h.inv.glob h.tm hm em;generalize hmv:a.eval m=mv at r1;cases r1 with
 |it hc=>
  rename_i b;obtain ⟨bm,hcm,hheap⟩:=h.inv.box i _ _ hb hc;obtain ⟨ents,clock,hh,hE,hB⟩:=h.inv.box mi _ _ hbm hcm;have hlt:k<ents.size:=by have:=(qaY.1 he).1;have h2:=hE.len;simp at h2;omega
  have hg:ents[k]?=some ents[k]:=qa7 hlt;have hg':ents.toList[k]?=some ents[k]:=by simpa using hg
  have hkey:=hE.key k _ _ he hg';have hv:=hE.val k _ _ he hg';have hok:=hB.key k _ hg;have hrun:=run_entry_at (P:=P) hheap hh (by simpa using hk) hB (by rw [hB.clock,<-hs,<-hE.len];simp) hg;refine .still h (v:=.tuple #[ents[k].key,ents[k].val]) (by simp only [execOp,ho,hmv];rw [Sem.run_bind,hrun];rfl) (.tup rfl fun j u uv e1 e2=>?_)
  match j,e1,e2 with
  |0,e1,e2=>simp at e1 e2;subst e1;subst e2;rw [hkey] at hok ⊢;exact .v hok
  |1,e1,e2=>simp at e1 e2;subst e1;subst e2;exact hv.2.2.mono (KLe.refl _) (CLe.nil C)
  |j+2,e1,_=>simp at e1
theorem op_mkifc {t t1:TypeId}{z:Operand}{z':Opd}{d:TypeDesc}(h:Rel P R x K C σ a w)(ho:o.op=.makeInterface t z)(hu:P.underlying t=some d)(hd:∀ms,d≠.interface ms)(_:trOpd P R.gl t1 z=some z')(_:σ.ev z'=some y):OpOk P R x σ a w o .ifc σ.bx:=by refine .still h (v:=.iface t (a.eval z)) ?_ .ifc<;>simp_all[execOp,Instr.makeInterface,run_underlying]
theorem op_inil {op:BinOp}{t t1 u:TypeId}{p:Operand}{p':Opd}{neg:Bool}{ms:Array (String×TypeId)}(h:Rel P R x K C σ a w)(ho:o.op=.binOp op t p (.const .nilIface) u)(hop:op=if neg then .neq else .eql)(hu:P.underlying t=some (.interface ms))
  (hp:trOpd P R.gl t1 p=some p') (ep:σ.ev p'=some y) {b:Bool} (hy:(y=.ifc/\b=neg)\/(y=.v .nilIface/\b=!neg)):OpOk P R x σ a w o (.v (.bool b)) σ.bx:=by
 have r:=ev_rep h.inv.glob h.tm hp ep;generalize hpv:a.eval p=pv at r;refine .still h (v:=.bool b) ?_ (.v rfl);have hq':a.eval (.const .nilIface)=.nilIface:=rfl;rcases hy with ⟨rfl,rfl⟩|⟨rfl,rfl⟩
 ·cases r with
  |ifc=>
   rename_i t' v';have he:∀d,(Op.equalIn (d+1) t (.iface t' v') .nilIface).run P w=.ok false w:=by intro d;simp [Op.equalIn,run_underlying hu]
   have he':(Op.equal t (.iface t' v') .nilIface).run P w=.ok false w:=he 9999;have b1:binOp .eql t (.iface t' v') .nilIface=(do pure (.bool (<-Op.equal t (.iface t' v') .nilIface)):Sem Value):=rfl;have b2:binOp .neq t (.iface t' v') .nilIface=(do pure (.bool (!(<-Op.equal t (.iface t' v') .nilIface))):Sem Value):=rfl;generalize Op.equal t (.iface t' v') .nilIface=s at he' b1 b2;have hg:(eqGuard op t p (.const .nilIface) (.iface t' v') .nilIface).run P w=.ok () w:=by unfold eqGuard;split<;>rfl
   have hb:(binOp op t (.iface t' v') .nilIface).run P w=.ok (.bool b) w:=by
    cases b with
    |true=>simp_all
    |false=>simp_all
   simp_all[execOp]
 have:=rep_v r;subst this;have he:∀d,(Op.equalIn (d+1) t .nilIface .nilIface).run P w=.ok true w:=by intro d;simp [Op.equalIn,run_underlying hu]
 have he':(Op.equal t .nilIface .nilIface).run P w=.ok true w:=he 9999;have b1:binOp .eql t .nilIface .nilIface=(do pure (.bool (<-Op.equal t .nilIface .nilIface)):Sem Value):=rfl;have b2:binOp .neq t .nilIface .nilIface=(do pure (.bool (!(<-Op.equal t .nilIface .nilIface))):Sem Value):=rfl;generalize Op.equal t .nilIface .nilIface=s at he' b1 b2;have hg:(eqGuard op t p (.const .nilIface) .nilIface .nilIface).run P w=.ok () w:=by unfold eqGuard;split<;>first|rfl|simp
 have hb:(binOp op t .nilIface .nilIface).run P w=.ok (.bool (!neg)) w:=by
  cases neg with
  |true=>simp_all
  |false=>simp_all
 simp_all[execOp]
end Go.Em
namespace Go.Em
variable {new:qbI}{sz:Nat}
variable {P:Program} {R:CodeRel} {x:Ctx} {K:Kn} {C:List CB} {σ:St} {a:Act} {w:World}
variable {o:Oper} {y:X} {bx:List Bx} {fp:FP} {A:Ann} {Γ:Gam}
theorem src_first (h:Inv P R K C σ.bx w){z:X}{v:Value}(hr:Rep K C z v)(e:srcOf σ.bx z=some (sz,new)):
  ∃oc c news,v=.slice oc new.length c/\Flat K sz new news/\∀n,n<=new.length->(Builtin.firstCells sz n (.slice oc new.length c)).run P w=.ok (news.take (n*sz)).toArray w:=by
 have fc:∀(b o' m c:Nat) (news:List Value),news.length=m*sz->(∀k u,news[k]?=some u->w.cell? ⟨b,o'+k,none⟩=some u)->∀n,n<=m->
   (Builtin.firstCells sz n (.slice (some ⟨b,o',none⟩) m c)).run P w=.ok (news.take (n*sz)).toArray w:=by
  intro b o' m c news hl hn n hnm;refine run_firstCells_some w sz n ⟨b,o',none⟩ m c _ ?_ (fun j u hu=>?_);·simp_all
  ·grind[addr_add]
 unfold srcOf at e;split at e
 ·rename_i t s es;simp at e;obtain ⟨rfl,rfl⟩:=e;have hr':=hr;cases hr with
  |slNil=>
   rename_i ob;exact ⟨ob,0,[],rfl,Flat.nil,fun n hn=>by
    have:n=0:=by simpa using hn
    subst this;cases ob<;>simp [Builtin.firstCells,loadCells,loadCellsFrom]⟩
  |sl vals hle ht hcap hcell hk hrr=>obtain ⟨fl,hf,hkk⟩:=hr'.flat;exact ⟨_,_,fl,rfl,hf,fc _ _ _ _ fl hf.len (fun k u hu=>h.known _ _ _ (hkk k u hu))⟩
 ·rename_i i off len;unfold rowOf at e;split at e
  ·rename_i s es hb;split at e
   ·rename_i hle;simp at e;obtain ⟨rfl,rfl⟩:=e;have hlen:((es.drop off).take len).length=len:=by simp;omega
    cases hr with
    |bs hc hcap hlc=>
     rename_i b base hi sz' cap;obtain ⟨arr,el,h1,h2,h3,hbl,hf⟩:=(h.box i _ _ hb hc).flat;subst h1;have hcells:∀k u,(((((arr.toList.drop base).take (es.length*sz')).drop (off*sz')).take (len*sz')))[k]?=some u->w.cell? ⟨b,base+off*sz'+k,none⟩=some u:=by
      intro k u hu;rw [qbb] at hu;split at hu;·rw [qa8,qbb] at hu<;>grind[World.cell?]
      ·grind
     have hf2:=(hf.drop off).take len;refine ⟨_,cap,_,by rw [hlen],hf2,?_⟩;rw [hlen];exact fc _ _ _ _ _ (by rw [hf2.len,hlen]) hcells
    |bsNil hc=>
     have he:((es.drop 0).take 0)=[]:=by simp
     rw [he];rename_i ob;exact ⟨ob,0,[],rfl,Flat.nil,fun n hn=>by
      have:n=0:=by simpa using hn
      subst this;cases ob<;>simp [Builtin.firstCells,loadCells,loadCellsFrom]⟩
   grind
  grind
 grind
theorem op_copy {t0 e:TypeId}{args:Array Operand}{tys:Array TypeId}{pd ps:Operand}{qd qs:Opd}{td ts:TypeId}{i off len:Nat}{es:qbI}{ys:X}(h:Rel P R x K C σ a w)(ho:o.op=.call ⟨.builtin .copy,args,tys⟩)(ha:args.toList=[pd,ps])
  (h0:tys[0]?=some t0) (hu0:P.underlying t0=some (.slice e)) (hs:sizeP P e=some sz)
  (hpd:trOpd P R.gl td pd=some qd) (hps:trOpd P R.gl ts ps=some qs) (epd:σ.ev qd=some (.bs i off (len+1))) (eps:σ.ev qs=some ys) (hsrc:srcOf σ.bx ys=some (sz,new)) (hbx:σ.bx[i]?=some (.row sz es)) (hend:off+(len+1)<=es.length):
  OpOk P R x σ a w o (.v (.int .i64 ((min new.length (len+1):Nat):Int))) (σ.bx.set i (.row sz (es.take off++new.take (min new.length (len+1))++es.drop (off+min new.length (len+1))))):=by
 have ha':args=#[pd,ps]:=by rw [<-Array.toArray_toList (xs:=args),ha]
 subst ha';have r1:=ev_rep h.inv.glob h.tm hpd epd;have r2:=ev_rep h.inv.glob h.tm hps eps;obtain ⟨oc,c,news,hv2,hf2,hfc⟩:=src_first h.inv r2 hsrc;have hnle:min new.length (len+1)<=new.length:=Nat.min_le_left _ _;have hnle2:min new.length (len+1)<=len+1:=Nat.min_le_right _ _;have hmin:Nat.min new.length (len+1)=min new.length (len+1):=rfl;generalize hn:min new.length (len+1)=n at hnle hnle2 hmin ⊢;have hfc:=hfc n hnle;generalize hdv:a.eval pd=dv at r1;cases r1 with
 |bs hc hcap hlc=>
  rename_i b base hi sz' cap;obtain ⟨arr,el,g1,g2,g3,hbl,hfe⟩:=(h.inv.box i _ _ hbx hc).flat;subst g1;have hmul:=qbn sz' (show off+n<=es.length by omega);rw [Nat.add_mul] at hmul;have htl:(news.take (n*sz')).length=n*sz':=by have:=qbn sz' hnle;rw [qaN,hf2.len];omega
  have hf3:=hf2.take n;have hst:=run_storeCells_at P b (base+off*sz') el (news.take (n*sz')) 0 arr w hbl (by omega) hf3.oneCell;simp only [Nat.add_zero] at hst;generalize harr:(arr.toList.take (base+off*sz')++news.take (n*sz')++arr.toList.drop (base+off*sz'+(news.take (n*sz')).length)).toArray=arr' at hst;have hT:(arr.toList.take (base+off*sz')).length=base+off*sz':=by simp;omega
  have hsize:arr'.size=arr.size:=by rw [<-harr];simp;omega
  refine ⟨K,C,_,.int .i64 (n:Int),w.setRow b arr',?_,.inl rfl,?_,.v rfl⟩
  ·obtain ⟨ii,hi1,hi2⟩:∃ii,P.info? e=some ii/\ii.size=sz':=by simp_all[sizeP]
   simp [execOp,ho,resolve,invoke,builtin,Builtin.copy_,h0,run_underlying hu0,hdv,hv2,Builtin.lenOf,hmin,sizeOf,typeInfo,hi1,hi2,hfc,hst,goInt,Result.andThen]
  have hget:∀q,arr'[q]?=if q<base+off*sz' then arr[q]? else if q<base+off*sz'+n*sz' then news[q-(base+off*sz')]? else arr[q]?:=by
   intro q;rw [<-harr,List.getElem?_toArray,htl];by_cases h1:q<base+off*sz';·simp_all[qa6]
   rw [if_neg h1];by_cases h2:q<base+off*sz'+n*sz';·rw [if_pos h2,qa6 (by grind),qbf (by omega),hT,qbb,if_pos (by omega)]
   rw [if_neg h2,qbf (by rw [qaZ];omega),qa8,qaZ,hT,htl,Array.getElem?_toList]<;>simp_all
  have hfl:=((hfe.take off).append hf3).append (hfe.drop (off+n));have hlen':(es.take off++new.take n++es.drop (off+n)).length=es.length:=by simp;omega
  have hLen1:=hfe.len;refine h.setBox hbx rfl hc (FrameOk.setRow hbl hsize fun q hq=>?_) (hfl.box (setRow_heap w b arr arr' el _ hbl) (fun k v hv=>?_) ?_ (by omega)) (fun e=>by grind[Bx.isLoop])
  ·rw [hget];by_cases h1:q<base+off*sz'
   ·grind
   rw [if_neg h1];by_cases h2:q<base+off*sz'+n*sz';·exact absurd ⟨rfl,by omega,by omega⟩ hq
   grind
  ·rw [hget];have hk:=(qaY.1 hv).1;have e1:(((arr.toList.drop base).take (es.length*sz')).take (off*sz')).length=off*sz':=by rw [qaN,hLen1];omega
   have hmul2:(off+n)*sz'=off*sz'+n*sz':=Nat.add_mul _ _ _;by_cases h1:k<off*sz'
   ·rw [if_pos (by omega)];rw [qbj,qa6 (by omega),qbb,if_pos h1,qbb] at hv;split at hv;·rw [qa8,Array.getElem?_toList] at hv<;>grind
    grind
   rw [if_neg (by omega)];by_cases h2:k<off*sz'+n*sz'
   ·rw [if_pos (by omega)];rw [qa6 (by grind),qbf (by omega),e1,qbb] at hv;split at hv;·rw [<-hv];congr 1;omega
    grind
   rw [if_neg (by omega)];rw [qbf (by grind),qaZ,e1,htl,qa8,qbb] at hv;split at hv;·rw [qa8,Array.getElem?_toList] at hv;rw [<-hv];congr 1;omega
   grind
  grind
end Go.Em
namespace Go.Em
variable {i:Nat}
variable {P:Program} {R:CodeRel} {x:Ctx} {K:Kn} {C:List CB} {σ:St} {a:Act} {w:World}
variable {o:Oper} {y:X} {bx:List Bx} {fp:FP} {A:Ann} {Γ:Gam}
theorem Rel.move (h:Rel P R x K C σ a w){D B:Bx}{c c':CB}(hD:σ.bx[i]?=some D)(hl:D.live=true)(hnl:D.isLoop=false)(hc:C[i]?=some c)(hsub:∀b o,c'.owns b o->c.owns b o)
  (hB:BoxOk P R K (C++[c']) w B c'):Rel P R x K (C++[c']) ⟨σ.tm,σ.bx.set i .dead++[B]⟩ a w:=by
 have hk:=h.kill i (fun B' e e'=>by grind);have hmine:∀b o,c'.owns b o->Owns C σ.bx b o:=fun b o hw=>⟨i,c,D,hc,hD,hl,hsub b o hw⟩;have hnot:∀b o,c'.owns b o->¬Owns C (σ.bx.set i .dead) b o:=by
  rintro b o hw ⟨j,d,A',hd,hA',hl',hw'⟩
  rw [List.getElem?_set] at hA';split at hA'
  ·grind[Bx.live]
  rename_i hij;exact h.inv.disj i j c d D A' b o hij hc hd hD hA' hl hl' (hsub b o hw) hw'
 have hnew:∀b o,Owns (C++[c']) (σ.bx.set i .dead++[B]) b o->Owns C σ.bx b o:=by
  intro b o ho;rcases owns_push (by simpa using h.inv.size) ho with ho|ho
  ·grind[owns_kill]
  ·grind
 refine {hk with inv:=?_,tm:=?_,own:=?_,cin:=?_,defs:=?_,loops:=?_};·exact hk.inv.push hB (fun b o hw=>h.inv.apart b o (hmine b o hw)) hnot
 ·exact hk.tm.mono (KLe.refl _) (CLe.append _ _)
 ·intro b o ho;exact h.own b o (hnew b o ho)
 ·intro j d e;exact CLe.append _ _ _ _ (h.cin j d e)
 ·obtain ⟨rs,h1,h2,h3⟩:=h.defs.marks;exact ⟨⟨rs,h1,h2,fun r hr=>⟨(h3 r hr).1,(h3 r hr).2.1,fun q ho=>(h3 r hr).2.2 q (hnew r q ho)⟩⟩,h.defs.round⟩
 intro j hj hl';obtain ⟨B',hB',hl''⟩:=hk.loops j hj hl'<;>grind
theorem op_app_bs {t0 t1 e e1:TypeId}{args:Array Operand}{tys:Array TypeId}{ps pz:Operand}{qs qz:Opd}{ts tz:TypeId}{sz bytes off len:Nat}{z:List X}{es new:qbI}{yz:X}(h:Rel P R x K C σ a w)(ho:o.op=.call ⟨.builtin .append,args,tys⟩)(ha:args.toList=[ps,pz])
  (h0:tys[0]?=some t0) (h1:tys[1]?=some t1) (hu0:P.underlying t0=some (.slice e)) (hu1:P.underlying t1=some (.slice e1)) (hs:sizeP P e=some sz) (hb:bytesP P e=some bytes) (hz:zeroP P e=some z) (hpos:0<bytes)
  (hps:trOpd P R.gl ts ps=some qs) (hpz:trOpd P R.gl tz pz=some qz) (eps:σ.ev qs=some (.bs i off len)) (epz:σ.ev qz=some yz) (hsrc:srcOf σ.bx yz=some (sz,new)) (hbx:σ.bx[i]?=some (.row sz es)) (hend:off+len=es.length)
  (hroom:roomOk (len+new.length) bytes=true):
  OpOk P R x σ a w o (.bs σ.bx.length 0 (len+new.length)) (σ.bx.set i .dead++[.row sz (es.drop off++new)]):=by
 have ha':args=#[ps,pz]:=by rw [<-Array.toArray_toList (xs:=args),ha]
 subst ha';have htys:∃rest,tys=(t0::t1::rest).toArray:=by
  have e0:tys=tys.toList.toArray:=by simp
  cases hl:tys.toList with
  |nil=>rw [e0,hl] at h0<;>grind
  |cons a0 r=>cases r with
   |nil=>rw [e0,hl] at h1<;>grind
   |cons b0 r=>rw [e0,hl] at h0 h1<;>grind
 obtain ⟨rest,rfl⟩:=htys;simp only [roomOk,qa4,qbu] at hroom;have r1:=ev_rep h.inv.glob h.tm hps eps;have r2:=ev_rep h.inv.glob h.tm hpz epz;obtain ⟨oc,c,news,hv2,hf2,hfc,_⟩:=src_rep h.inv r2 hsrc;have hsrc1:srcOf σ.bx (.bs i off len)=some (sz,es.drop off):=by
  simp only [srcOf,rowOf,hbx];rw [if_pos (by omega)]
  congr 2
  exact List.take_of_length_le (by grind)
 obtain ⟨ob,cap,olds,e1',hfo,hfco,hspot⟩:=src_rep h.inv r1 hsrc1;have hlen:(es.drop off).length=len:=by simp;omega
 rw [hlen] at e1' hfco;have hexec:(execOp a.eval o).run P w=((Builtin.append_ #[t0,t1] o.type #[.slice ob len cap,.slice oc new.length c]).run P w).andThen fun v w'=>.ok (.value v) w':=by
  have hargs:Builtin.append_ (t0::t1::rest).toArray o.type #[a.eval ps,a.eval pz]=Builtin.append_ #[t0,t1] o.type #[a.eval ps,a.eval pz]:=by simp [Builtin.append_]
  simp only [execOp,ho,resolve,invoke,builtin,Sem.run_bind,Sem.run_pure,Result.andThen_ok,List.map_toArray,qbt,List.map_nil,hargs];rw [e1',hv2]
 have hfl:=hfo.append hf2;have hflen:(olds++news).length=(len+new.length)*sz:=by rw [hfl.len,qaZ,hlen]
 have hnl:(Bx.row sz es).isLoop=false:=rfl;have grow:cap<len+new.length->OpOk P R x σ a w o (.bs σ.bx.length 0 (len+new.length)) (σ.bx.set i .dead++[.row sz (es.drop off++new)]):=by
  intro hlt;obtain ⟨tail,hrun,htl⟩:=run_app_grow (P:=P) (ty:=o.type) hu0 hu1 hs hb hz olds news hfco hfc hlt (by omega) hroom.2 hpos;have hm:=grownCap_ge w (len+new.length) cap e;generalize hmm:grownCap w (len+new.length) cap e=m at hrun htl hm;have hk:=(h.still (FrameOk.drew nowhere w)).kill i (fun B e e'=>by grind);have hsz:(olds++news++tail).toArray.size=m*sz:=by simp only [List.size_toArray];rw [qaZ,hflen,htl,<-Nat.add_mul];congr 1;omega
  have hc2:(C++[CB.at w.heap.size 0 (m*sz) sz])[σ.bx.length]?=some (.at w.heap.size 0 (m*sz) sz):=by rw [<-h.inv.size];simp
  refine ⟨K,C++[.at w.heap.size 0 (m*sz) sz],_,_,_,by rw [hexec,hrun];rfl,.inl rfl,?_,?_⟩
  ·refine hk.push _ (hfl.box (alloc_get w.drew _) (fun k v hv=>?_) ?_ (by omega)) (fun b k hw=>hw.1)
   ·grind
   simp_all[qbn]
  have:=Rep.bs (K:=K) (off:=0) (len:=len+new.length) (cap:=m) hc2 (by simp) hm<;>grind
 rw [e1'] at r1;cases r1 with
 |bs hc hcap hlc=>
  rename_i b base hi sz';obtain ⟨arr,el,g1,g2,g3,hbl,hfe⟩:=(h.inv.box i _ _ hbx hc).flat;subst g1;by_cases hfit:len+new.length<=cap
  ·have hin:base+off*sz'+(len+new.length)*sz'<=hi:=by have h5:=qbn sz' hfit;rw [Nat.add_mul] at hcap;omega
   have hnl':=hf2.len;rw [Nat.add_mul] at hin;have hst:=run_storeCells_at P b (base+off*sz'+len*sz') el news 0 arr w hbl (by omega) hf2.oneCell;simp only [Nat.add_zero] at hst;have hrun:=run_app_fit (P:=P) (ty:=o.type) (ob:=some ⟨b,base+off*sz',none⟩) hu0 hu1 hs news _ (hfc w rfl) hfit (fun ad e=>by cases e;rw [addr_add];omega) (fun e=>by cases e);generalize harr:(arr.toList.take (base+off*sz'+len*sz')++news++arr.toList.drop (base+off*sz'+len*sz'+news.length)).toArray=arr' at hrun hst;have hT:(arr.toList.take (base+off*sz'+len*sz')).length=base+off*sz'+len*sz':=by simp;omega
   have hsize:arr'.size=arr.size:=by rw [<-harr];simp;omega
   have hget:∀q,arr'[q]?=if q<base+off*sz'+len*sz' then arr[q]? else if q<base+off*sz'+len*sz'+news.length then news[q-(base+off*sz'+len*sz')]? else arr[q]?:=by
    intro q;rw [<-harr,List.getElem?_toArray];by_cases h5:q<base+off*sz'+len*sz';·simp_all[qa6]
    rw [if_neg h5,qbj,qbf (by omega),hT];by_cases h6:q<base+off*sz'+len*sz'+news.length;·rw [if_pos h6,qa6 (by omega)]
    rw [if_neg h6,qbf (by omega),qa8,toArray_getElem?]
    congr 1;omega
   have hesl:es.length*sz'=off*sz'+len*sz':=by rw [<-hend,Nat.add_mul]
   have hfes:=hfe.append hf2;have hbox1:BoxOk P R K C (w.setRow b arr') (.row sz' (es++new)) (.at b base hi sz'):=by
    refine hfes.box (setRow_heap w b arr arr' el _ hbl) (fun k v hv=>?_) (by rw [qaZ,Nat.add_mul];omega) (by omega);have hL:((arr.toList.drop base).take (es.length*sz')).length=es.length*sz':=by simp;omega
    rw [hget];by_cases hk:k<es.length*sz'
    ·rw [qa6 (by omega),qbb,if_pos hk,qa8,toArray_getElem?] at hv
     grind
    rw [qbf (by omega),hL] at hv;have:=(qaY.1 hv).1;rw [if_neg (by omega),if_pos (by omega),<-hv];congr 1;omega
   have hrel1:=h.setBox (B:=.row sz' (es++new)) hbx rfl hc (FrameOk.setRow hbl hsize fun q hq=>by
    rw [hget];have hout:¬(base<=q/\q<hi):=fun hh=>hq ⟨rfl,hh.1,hh.2⟩;by_cases h5:q<base+off*sz'+len*sz'
    ·grind
    rw [if_neg h5,if_neg (by omega)]) hbox1 (fun e=>by cases e)
   have hget1:(σ.bx.set i (.row sz' (es++new)))[i]?=some (.row sz' (es++new)):=by simp [(qaY.1 hbx).1]
   have hbox2:BoxOk P R K (C++[.at b (base+off*sz') hi sz']) (w.setRow b arr') (.row sz' (es.drop off++new)) (.at b (base+off*sz') hi sz'):=by
    obtain ⟨_,_,_,arr2,el2,hb2,hl2,hr2⟩:=hbox1;rw [setRow_heap w b arr arr' el _ hbl] at hb2;simp only [qaE,Obj.cells.injEq] at hb2;obtain ⟨rfl,rfl,_⟩:=hb2;refine ⟨rfl,by rw [qaZ,hlen,Nat.add_mul];omega,fun e0 he0=>?_,arr',el,setRow_heap w b arr arr' el _ hbl,by omega,fun i' j y hy=>?_⟩
    ·rcases qbm.1 he0 with he0|he0;·exact hfe.elems _ (List.mem_of_mem_drop he0)
     exact hf2.elems _ he0
    have hd:es.drop off++new=(es++new).drop off:=by rw [List.drop_append_of_le_length (by omega)]
    obtain ⟨e0,he0,hj⟩:=at2_some.1 hy;rw [hd,qa8] at he0;obtain ⟨hc1,v,hv,hrv⟩:=hr2 (off+i') j y (at2_some.2 ⟨e0,he0,hj⟩);refine ⟨hc1,v,?_,hrv⟩<;>grind
   have hrel2:=hrel1.move hget1 rfl rfl hc (c':=.at b (base+off*sz') hi sz') (fun b' o' hw=>⟨hw.1,by have:=hw.2.1;omega,hw.2.2⟩) hbox2;have hset:(σ.bx.set i (.row sz' (es++new))).set i .dead=σ.bx.set i .dead:=by simp
   simp at hrel2;have hc2:(C++[CB.at b (base+off*sz') hi sz'])[σ.bx.length]?=some (.at b (base+off*sz') hi sz'):=by rw [<-h.inv.size];simp
   refine ⟨K,_,_,_,_,by rw [hexec,hrun];rfl,.inl rfl,hrel2,?_⟩;have:=Rep.bs (K:=K) (off:=0) (len:=len+new.length) (cap:=cap) hc2 (by grind) hfit
   grind
  grind
 |bsNil hc=>
  by_cases hn:new=[];·subst hn;have hnews:news=[]:=qbx (by grind);subst hnews;have he:es=[]:=qbx (by omega);subst he;have hrun:=fun ob=>run_app_fit (P:=P) (ty:=o.type) (ob:=ob) (n:=0) (cap:=0) hu0 hu1 hs [] w (hfc w rfl) (by simp) (fun ad e=>by simp [storeCells]) (fun _=>rfl);have hrel:=h.move (B:=.row sz []) (c':=.ghost) hbx rfl rfl hc (fun b o hw=>hw.elim) rfl;refine ⟨K,_,_,_,_,by rw [hexec,hrun];rfl,.inl rfl,hrel,?_⟩;exact Rep.bsNil (C:=C++[CB.ghost]) (by rw [<-h.inv.size];simp)
  grind
end Go.Em
namespace Go.Em
variable {tm:List (Nat×X)}{inb:List Bx}{C':List CB}{sel:List Nat}{i n:Nat}{f:Nat->Nat}{y:X}
variable {P:Program} {R:CodeRel} {x:Ctx} {K:Kn} {C:List CB} {σ:St} {a:Act} {w:World}
def Fr (r:Option Nat):Fence:={Fence.wide with round:=r}
structure PostK (P:Program) (R:CodeRel) (K:Kn) (C:List CB) (inb:List Bx) (w:World) (res:X) (outb:List Bx) (v:Value) (w':World) (K':Kn) (E:List CB):Prop where
 inv:Inv P R K' (C++E) outb w'
 res:Rep K' (C++E) res v
 kle:KLe K K'
 knew:∀(b o:Nat) (u:Value),K' b o=some u->K b o=some u\/Owns C inb b o\/w.heap.size<=b
 own:∀(b o:Nat),Owns (C++E) outb b o->Owns C inb b o\/w.heap.size<=b
 frame:FrameOk (Owns C inb) w w'
 loops:∀(i:Nat) (B:Bx),inb[i]?=some B->B.isLoop=true->∃B',outb[i]?=some B'/\B'.isLoop=true
def Post (P:Program)(R:CodeRel)(K:Kn)(C:List CB)(inb:List Bx)(w:World)(res:X)(outb:List Bx)(e:Ending)(w':World):Prop:=
 ∃(v:Value) (K':Kn) (E:List CB),e=.returned v/\PostK P R K C inb w res outb v w' K' E
def ArgsRep (K:Kn)(C:List CB)(args:List X)(cargs:Array Value):Prop:=
 cargs.size=args.length/\∀(j:Nat) (y:X) (v:Value),args[j]?=some y->cargs[j]?=some v->Rep K C y v
def FSem (P:Program)(R:CodeRel)(f:FuncId)(args:List X)(inb:List Bx)(res:X)(outb:List Bx):Prop:=
 ∀(K:Kn) (C:List CB) (w:World) (cargs:Array Value),Inv P R K C inb w->ArgsRep K C args cargs->Calls P f cargs w (Post P R K C inb w res outb)
def YSem (P:Program)(R:CodeRel)(args:List X)(inb:List Bx)(res:X)(outb:List Bx):Prop:=
 ∃(i:Nat) (as:List X),args=.yl i::as/\∀(K:Kn) (C:List CB) (w:World) (cargs:Array Value) (l:Nat) (r:Option Nat),Inv P R K C inb w->C[i]?=some (.obj l)->ArgsRep K C as cargs->
  ∃(f:FuncId) (tmps:Array Value) (assign body:Code),(Instr.yield l cargs).run P w=.ok (.round l f tmps assign body) w/\RoundIn (Fr r) 0 P l f tmps assign body w (Post P R K C inb w res outb)
def FnOk (P:Program)(f:FuncId):Prop:=∀(args:Array Value) (w:World),(callFunc f args).run P w=.ok (.enter f args) w
structure GamOk (P:Program) (R:CodeRel) (Γ:Gam):Prop where
 fn:∀(f:FuncId) (args:List X) (inb:List Bx) (res:X) (outb:List Bx),Γ (.fn f) args inb=some (res,outb)->FnOk P f/\FSem P R f args inb res outb
 yl:∀(args:List X) (inb:List Bx) (res:X) (outb:List Bx),Γ .yl args inb=some (res,outb)->YSem P R args inb res outb
theorem getBs_get {bx:List Bx}:∀{sel:List Nat} {l:List Bx},getBs bx sel=some l->l.length=sel.length/\∀(j i:Nat),sel[j]?=some i->∃B,bx[i]?=some B/\l[j]?=some B
 |[],l,h=>by grind[getBs]
 |i::r,l,h=>by
  simp only [getBs] at h;cases hb:bx[i]? with
  |none=>grind
  |some b=>
   simp only [hb] at h;obtain ⟨l',hl,rfl⟩:=qa1.1 h;obtain ⟨h1,h2⟩:=getBs_get hl
   grind
theorem nodupN_iff:∀{l:List Nat},nodupN l=true↔l.Nodup
 |[]=>by simp [nodupN]
 |n::r=>by
  have:memN n r=true↔n∈r:=memN_iff;simp only [nodupN,qa4,Bool.not_eq_true',List.nodup_cons,nodupN_iff (l:=r)]
  grind
theorem idxN_at {l:List Nat}(h:l.Nodup){j:Nat}(e:l[j]?=some i):idxN i l=j:=by grind[idxN_get,List.getElem?_inj]
theorem isLoop_ren (f:Nat->Nat)(B:Bx):(B.ren f).isLoop=B.isLoop:=by cases B<;>rfl
theorem live_ren (f:Nat->Nat)(B:Bx):(B.ren f).live=B.live:=by cases B<;>rfl
theorem lk_renT (f:Nat->Nat):∀(tm:List (Nat×X)) (n:Nat),lk (renT f tm) n=(lk tm n).map (X.ren f)
 |[],n=>rfl
 |(k,y)::r,n=>by have ih:=lk_renT f r n<;>grind[renT,lk]
theorem lk_mem :lk tm n=some y->∃p,p∈tm/\p.2=y:=by
 induction tm with
 |nil=>grind[lk]
 |cons p r ih=>grind[lk]
theorem refs_of_lk (h:lk tm n=some y)(hi:i∈y.refs):i∈refsL (tm.map (·.2)):=by obtain ⟨p,hp,rfl⟩:=lk_mem h;exact mem_refsL.2 ⟨p.2,qbh.2 ⟨p,hp,rfl⟩,hi⟩
theorem TmOk.ren {tmps:Array Value}(h:TmOk K C tm tmps)(hC:∀i,i∈refsL (tm.map (·.2))->∀c,C[i]?=some c->C'[f i]?=some c):TmOk K C' (renT f tm) tmps:=by intro n y e;rw [lk_renT] at e;obtain ⟨z,hz,rfl⟩:=qa1.1 e;obtain ⟨v,hv,hr⟩:=h n z hz;exact ⟨v,hv,hr.ren fun i hi=>hC i (refs_of_lk hz hi)⟩
theorem CRep.ren {xs:List X}{vs:List Value}(h:CRep K C xs vs)(hC:∀i,i∈refsL xs->∀c,C[i]?=some c->C'[f i]?=some c):CRep K C' (renL f xs) vs:=by
 refine ⟨by rw [renL_eq];simpa using h.len,fun y hy=>?_,fun j y v e e'=>?_⟩;·rw [renL_eq] at hy;obtain ⟨z,hz,rfl⟩:=qbh.1 hy;rw [isCell_ren];exact h.cell z hz
 rw [renL_eq,qbe] at e;obtain ⟨z,hz,rfl⟩:=qa1.1 e;exact (h.rep j z v hz e').ren fun i hi=>hC i (mem_refsL.2 ⟨z,qa5 hz,hi⟩)
theorem BoxOk.ren {B:Bx}{c:CB}(h:BoxOk P R K C w B c)(hC:∀i,i∈B.refs->∀c,C[i]?=some c->C'[f i]?=some c):BoxOk P R K C' w (B.ren f) c:=by
 cases B with
 |dead=>trivial
 |var cs=>cases c with
  |«at»=>obtain ⟨h1,h2,arr,el,hb,hr⟩:=h;exact ⟨h1,by grind[renL_eq],arr,el,hb,hr.ren hC⟩
  |ghost=>exact h.elim
  |obj=>exact h.elim
 |row sz es=>cases c with
  |«at»=>exact h
  |ghost=>exact h
  |obj=>exact h.elim
 |iter m s k=>cases c with
  |obj=>obtain ⟨bm,hm,h2⟩:=h;exact ⟨bm,hC m (by simp [Bx.refs]) _ hm,h2⟩
  |«at»=>exact h.elim
  |ghost=>exact h.elim
 |map es=>cases c with
  |obj=>exact h
  |«at»=>exact h.elim
  |ghost=>exact h.elim
 |loop st p tm ps a b=>cases c with
  |obj=>obtain ⟨l,hl,ho⟩:=h;exact ⟨l,hl,ho.hst,ho.hpend,ho.htm.ren hC,ho.hps,ho.hin,ho.hcode⟩
  |«at»=>exact h.elim
  |ghost=>exact h.elim
theorem Inv.pick {bx:List Bx}(h:Inv P R K C bx w)(e:pickB bx sel=some inb):
  ∃C1:List CB,Inv P R K C1 inb w/\C1.length=sel.length/\(∀(j i:Nat) (c:CB),sel[j]?=some i->C[i]?=some c->C1[j]?=some c)/\
   (∀(j i:Nat),sel[j]?=some i->∃B,bx[i]?=some B/\inb[j]?=some (B.ren (idxN · sel)))/\inb.length=sel.length/\sel.Nodup/\(∀(j:Nat) (c:CB),C1[j]?=some c->∃i,sel[j]?=some i/\C[i]?=some c)/\
   (∀i,i∈sel->∀c,C[i]?=some c->C1[idxN i sel]?=some c):=by
 unfold pickB at e;split at e
 ·grind
 rename_i l hl;split at e
 ·rename_i hc;simp at e;subst e;simp at hc;have hnd:=nodupN_iff.1 hc.1;obtain ⟨hlen,hget⟩:=getBs_get hl;have hC1:∀(j i:Nat) (c:CB),sel[j]?=some i->C[i]?=some c->(sel.map fun i=>C.getD i .ghost)[j]?=some c:=by intro j i c e1 e2;simp [e1,List.getD,e2]
  have hC1':∀(j:Nat) (c:CB),(sel.map fun i=>C.getD i .ghost)[j]?=some c->∃i,sel[j]?=some i/\C[i]?=some c:=by intro j c e1;rw [qbe] at e1;obtain ⟨i,hi,rfl⟩:=qa1.1 e1;obtain ⟨B,hB,_⟩:=hget j i hi;obtain ⟨c,hc,_⟩:=h.get hB;exact ⟨i,hi,by grind⟩
  have hidx:∀i,i∈sel->∀c,C[i]?=some c->(sel.map fun i=>C.getD i .ghost)[idxN i sel]?=some c:=fun i hi c e=>hC1 _ i c (idxN_get hi) e;have hin:∀(j i:Nat),sel[j]?=some i->∃B,bx[i]?=some B/\(l.map (Bx.ren (idxN · sel)))[j]?=some (B.ren (idxN · sel)):=by intro j i e1;obtain ⟨B,h1,h2⟩:=hget j i e1;exact ⟨B,h1,by grind⟩
  have hin':∀(j:Nat) (B':Bx),(l.map (Bx.ren (idxN · sel)))[j]?=some B'->∃i B,sel[j]?=some i/\bx[i]?=some B/\B'=B.ren (idxN · sel)/\subN B.refs sel=true:=by
   intro j B' e1;have hj:j<sel.length:=by have:=(qaY.1 e1).1;simp at this;omega
   obtain ⟨B,h1,h2⟩:=hget j sel[j] (qa3 hj);rw [qbe,h2] at e1;simp at e1;exact ⟨sel[j],B,qa3 hj,h1,e1.symm,hc.2 B (qa5 h2)⟩
  have howns:∀(b o:Nat),Owns (sel.map fun i=>C.getD i .ghost) (l.map (Bx.ren (idxN · sel))) b o->Owns C bx b o:=by
   rintro b o ⟨j,c,B',h1,h2,h3,h4⟩
   obtain ⟨i,B,e1,e2,rfl,_⟩:=hin' j B' h2;obtain ⟨i',e3,e4⟩:=hC1' j c h1;rw [e1] at e3;cases e3;exact ⟨i,c,B,e4,e2,by grind[live_ren],h4⟩
  refine ⟨sel.map fun i=>C.getD i .ghost,⟨h.glob,h.known,by grind,fun b o ho=>h.apart b o (howns b o ho),?_,?_⟩,by simp,hC1,hin,by grind,hnd,hC1',hidx⟩;·intro j k c d A B b o hne hc' hd hA hB hlA hlB hw;obtain ⟨i,A0,e1,e2,rfl,_⟩:=hin' j A hA;obtain ⟨i',B0,f1,f2,rfl,_⟩:=hin' k B hB;obtain ⟨i2,e3,e4⟩:=hC1' j c hc';obtain ⟨i3,f3,f4⟩:=hC1' k d hd;rw [e1] at e3;cases e3;rw [f1] at f3;cases f3;rw [live_ren] at hlA hlB;refine h.disj i i' c d A0 B0 b o (fun hii=>hne ?_) e4 f4 e2 f2 hlA hlB hw;subst hii;rw [<-idxN_at hnd e1,<-idxN_at hnd f1]
  intro j B' c hB hc';obtain ⟨i,B,e1,e2,rfl,e5⟩:=hin' j B' hB;obtain ⟨i',e3,e4⟩:=hC1' j c hc';rw [e1] at e3;cases e3;exact (h.box i B c e2 e4).ren fun k hk=>hidx k (subN_iff.1 e5 k hk)
 grind
theorem setBs_length:∀(sel:List Nat) (s bx:List Bx),(setBs sel s bx).length=bx.length
 |[],_,_=>by simp [setBs]
 |_::_,[],_=>by simp [setBs]
 |i::r,b::s,bx=>by simp [setBs,setBs_length r s]
theorem setBs_other:∀(sel:List Nat) (s bx:List Bx) (i:Nat),i∉sel->(setBs sel s bx)[i]?=bx[i]?
 |[],_,_,_,_=>by simp [setBs]
 |_::_,[],_,_,_=>by simp [setBs]
 |k::r,b::s,bx,i,h=>by simp at h;rw [setBs,setBs_other r s _ i h.2,List.getElem?_set_ne (fun e=>h.1 e.symm)]
theorem setBs_at:∀(sel:List Nat) (s bx:List Bx) (j i:Nat) (B:Bx),sel.Nodup->sel[j]?=some i->s[j]?=some B->i<bx.length->(setBs sel s bx)[i]?=some B
 |[],_,_,_,_,_,_,h,_,_=>by grind
 |_::_,[],_,_,_,_,_,_,h,_=>by grind
 |k::r,b::s,bx,j,i,B,hn,h1,h2,h3=>by
  rw [List.nodup_cons] at hn;cases j with
  |zero=>grind[setBs,setBs_other]
  |succ j=>simp at h1 h2;rw [setBs];exact setBs_at r s _ j i B hn.2 h1 h2 (by grind)
theorem call_back (h:Rel P R x K C σ a w){outb:List Bx}{C1:List CB}{v:Value}{w':World}{K':Kn}{E:List CB}
  (hC1':∀(j:Nat) (c:CB),C1[j]?=some c->∃i,sel[j]?=some i/\C[i]?=some c) (hl1:C1.length=sel.length)
  (hin:∀(j i:Nat),sel[j]?=some i->∃B,σ.bx[i]?=some B/\inb[j]?=some (B.ren (idxN · sel))) (hinl:inb.length=sel.length) (hnd:sel.Nodup)
  (hp:PostK P R K C1 inb w y outb v w' K' E) (hle:sel.length<=outb.length):
  let back:=fun j=>if j<sel.length then sel.getD j 0 else σ.bx.length+(j-sel.length)
  Rel P R x K' (C++E) ⟨σ.tm,setBs sel (outb.map (Bx.ren back)) σ.bx++(outb.map (Bx.ren back)).drop sel.length⟩ a w'/\Rep K' (C++E) (y.ren back) v:=by
 intro back;have hCs:=h.inv.size;have hEl:=hp.inv.size;rw [qaZ,hl1] at hEl;have hback:∀(j:Nat) (c:CB),(C1++E)[j]?=some c->(C++E)[back j]?=some c:=by
  intro j c e;by_cases hj:j<sel.length
  ·grind
  ·grind
 have hown1:∀(b o:Nat),Owns C1 inb b o->∃i c B,i∈sel/\C[i]?=some c/\σ.bx[i]?=some B/\B.live=true/\c.owns b o:=by
  rintro b o ⟨j,c,B',h1,h2,h3,h4⟩
  obtain ⟨i,e1,e2⟩:=hC1' j c h1;obtain ⟨B,e3,e4⟩:=hin j i e1;rw [e4] at h2;cases h2;exact ⟨i,c,B,qa5 e1,e2,e3,by grind[live_ren],h4⟩
 have hown1':∀(b o:Nat),Owns C1 inb b o->Owns C σ.bx b o:=by intro b o ho;obtain ⟨i,c,B,_,h2,h3,h4,h5⟩:=hown1 b o ho;exact ⟨i,c,B,h2,h3,h4,h5⟩
 generalize hout:outb.map (Bx.ren back)=outs;have houtl:outs.length=outb.length:=by rw [<-hout];simp
 have hsplit:∀(i:Nat) (B:Bx),(setBs sel outs σ.bx++outs.drop sel.length)[i]?=some B->(i∉sel/\i<σ.bx.length/\σ.bx[i]?=some B)\/(∃(j:Nat) (B0:Bx),back j=i/\outb[j]?=some B0/\B=B0.ren back):=by
  intro i B e;by_cases hi:i<σ.bx.length
  ·rw [qa6 (by grind[setBs_length])] at e;by_cases hm:i∈sel
   ·have hj:=idxN_get hm;have hjl:=(qaY.1 hj).1;have ho:outs[idxN i sel]?=some outs[idxN i sel]:=qa3 (by omega);rw [setBs_at sel outs σ.bx (idxN i sel) i _ hnd hj ho hi] at e
    grind
   grind[setBs_other]
  rw [qbf (by grind[setBs_length]),setBs_length,qa8] at e
  grind
 have hbinj:∀j k,j<outb.length->k<outb.length->back j=back k->j=k:=by
  intro j k hj hk e;have hlt:∀j,j<sel.length->sel.getD j 0<σ.bx.length:=by intro j hj;obtain ⟨B,hB,_⟩:=hin j sel[j] (qa3 hj);have:=(qaY.1 hB).1;simpa [List.getD,hj] using this
  by_cases h1:j<sel.length
  ·by_cases h2:k<sel.length
   ·simp only [back,h1,h2,if_true] at e;have e1:sel[j]?=some (sel.getD j 0):=by simp [List.getD,h1]
    have e2:sel[k]?=some (sel.getD k 0):=by simp [List.getD,h2]
    rw [<-idxN_at hnd e1,<-idxN_at hnd e2,e]
   grind
  ·grind
 have hcof:∀(j:Nat) (B0:Bx) (c:CB),outb[j]?=some B0->(C++E)[back j]?=some c->(C1++E)[j]?=some c:=by intro j B0 c h1 h2;obtain ⟨c',h3,_⟩:=hp.inv.get h1;rw [hback j c' h3] at h2;cases h2;exact h3
 have hcold:∀(i:Nat) (c:CB),i<σ.bx.length->(C++E)[i]?=some c->C[i]?=some c:=by intro i c hi e;rwa [qa6 (by omega)] at e
 have hownW:∀(b o:Nat),Owns (C++E) (setBs sel outs σ.bx++outs.drop sel.length) b o->
   (∃i c B,i∉sel/\C[i]?=some c/\σ.bx[i]?=some B/\B.live=true/\c.owns b o)\/Owns (C1++E) outb b o:=by
  rintro b o ⟨i,c,B,h1,h2,h3,h4⟩
  rcases hsplit i B h2 with ⟨hm,hi,hB⟩|⟨j,B0,rfl,hB,rfl⟩
  ·grind
  exact .inr ⟨j,c,B0,hcof j B0 c hB h1,hB,by grind[live_ren],h4⟩
 have hleft:∀(i:Nat) (c:CB) (B:Bx) (b o:Nat),i∉sel->C[i]?=some c->σ.bx[i]?=some B->B.live=true->c.owns b o->¬Owns C1 inb b o:=by intro i c B b o hm hc hB hl hw ho;obtain ⟨k,d,A,hk,hd,hA,hlA,hw'⟩:=hown1 b o ho;exact h.inv.disj i k c d B A b o (fun e=>hm (e▸hk)) hc hd hB hA hl hlA hw hw'
 have hleftlt:∀(i:Nat) (c:CB) (B:Bx) (b o:Nat),C[i]?=some c->σ.bx[i]?=some B->B.live=true->c.owns b o->b<w.heap.size:=
  fun i c B b o hc hB hl hw=>h.inv.owns_lt ⟨i,c,B,hc,hB,hl,hw⟩
 refine ⟨{h with inv:=?_,tm:=?_,k0:=h.k0.trans hp.kle,knew:=?_,own:=?_,cin:=?_,frame:=?_,defs:=?_,loops:=?_},hp.res.ren fun i _ c e=>hback i c e⟩
 ·refine ⟨hp.inv.glob,hp.inv.known,?_,?_,?_,?_⟩
  ·grind[setBs_length]
  ·intro b o ho;rcases hownW b o ho with ⟨i,c,B,hm,hc,hB,hl,hw⟩|ho
   ·cases e:K' b o with
    |none=>rfl
    |some u=>
     rcases hp.knew b o u e with h1|h1|h1;·rw [h.inv.apart b o ⟨i,c,B,hc,hB,hl,hw⟩] at h1<;>grind
     ·grind
     grind
   exact hp.inv.apart b o ho
  ·intro i k c d A B b o hne hc hd hA hB hlA hlB hw hw';rcases hsplit i A hA with ⟨hm,hi,hA1⟩|⟨j,A0,rfl,hA1,rfl⟩
   ·rcases hsplit k B hB with ⟨hm',hk,hB1⟩|⟨j',B0,rfl,hB1,rfl⟩;·exact h.inv.disj i k c d A B b o hne (hcold i c hi hc) (hcold k d hk hd) hA1 hB1 hlA hlB hw hw'
    have ho:Owns (C1++E) outb b o:=⟨j',d,B0,hcof j' B0 d hB1 hd,hB1,by rwa [live_ren] at hlB,hw'⟩;rcases hp.own b o ho with h1|h1
    ·grind
    have:=hleftlt i c A b o (hcold i c hi hc) hA1 hlA hw;omega
   rcases hsplit k B hB with ⟨hm',hk,hB1⟩|⟨j',B0,rfl,hB1,rfl⟩
   ·have ho:Owns (C1++E) outb b o:=⟨j,c,A0,hcof j A0 c hA1 hc,hA1,by rwa [live_ren] at hlA,hw⟩;rcases hp.own b o ho with h1|h1
    ·grind
    have:=hleftlt k d B b o (hcold k d hk hd) hB1 hlB hw';omega
   rw [live_ren] at hlA hlB;exact hp.inv.disj j j' c d A0 B0 b o (fun e=>hne (by rw [e])) (hcof j A0 c hA1 hc) (hcof j' B0 d hB1 hd) hA1 hB1 hlA hlB hw hw'
  intro i B c hB hc;rcases hsplit i B hB with ⟨hm,hi,hB1⟩|⟨j,B0,rfl,hB1,rfl⟩
  ·by_cases hl:B.live=true;·exact (h.inv.box i B c hB1 (hcold i c hi hc)).mono hp.kle (CLe.append _ _) hp.frame (fun b o hw=>hleft i c B b o hm (hcold i c hi hc) hB1 hl hw)
   cases B<;>first|trivial|simp [Bx.live] at hl
  exact (hp.inv.box j B0 c hB1 (hcof j B0 c hB1 hc)).ren fun k _ d e=>hback k d e
 ·exact h.tm.mono hp.kle (CLe.append _ _)
 ·intro b o u e;rcases hp.knew b o u e with h1|h1|h1;·exact h.knew b o u h1
  ·exact .inr (h.own b o (hown1' b o h1))
  exact .inr (.inr (Nat.le_trans h.frame.size h1))
 ·intro b o ho;rcases hownW b o ho with ⟨i,c,B,hm,hc,hB,hl,hw⟩|ho;·exact h.own b o ⟨i,c,B,hc,hB,hl,hw⟩
  rcases hp.own b o ho with h1|h1;·exact h.own b o (hown1' b o h1)
  exact .inr (Nat.le_trans h.frame.size h1)
 ·intro i c e;exact CLe.append _ _ _ _ (h.cin i c e)
 ·refine h.frame.trans hp.frame (fun b o hlt ho=>?_);rcases h.own b o (hown1' b o ho) with h1|h1
  ·grind
  grind
 ·obtain ⟨rs,h1,h2,h3⟩:=h.defs.marks;refine ⟨⟨rs,h1,h2,fun r hr=>⟨hp.frame.obj (h3 r hr).1 trivial (o₀:=0) (fun ho=>(h3 r hr).2.2 0 (hown1' r 0 ho)),(h3 r hr).2.1,fun o ho=>?_⟩⟩,h.defs.round⟩;rcases hownW r o ho with ⟨i,c,B,hm,hc,hB,hl,hw⟩|ho;·exact (h3 r hr).2.2 o ⟨i,c,B,hc,hB,hl,hw⟩
  rcases hp.own r o ho with h4|h4
  ·grind
  grind
 intro i hi hl;obtain ⟨B,hB,hl'⟩:=h.loops i hi hl;have hib:=(qaY.1 hB).1;show ∃B',(setBs sel outs σ.bx++outs.drop sel.length)[i]?=some B'/\B'.isLoop=true;rw [qa6 (by grind[setBs_length])];by_cases hm:i∈sel;·have hj:=idxN_get hm;obtain ⟨B0,e1,e2⟩:=hin _ i hj;rw [hB] at e1;cases e1;obtain ⟨B',e3,e4⟩:=hp.loops _ _ e2 (by grind[isLoop_ren]);refine ⟨B'.ren back,setBs_at sel outs σ.bx (idxN i sel) i _ hnd hj ?_ hib,by grind[isLoop_ren]⟩;rw [<-hout];simp [e3]
 grind[setBs_other]
end Go.Em
namespace Go.Em
variable {cargs:Array Value}{raw:Bool}{g:FuncId}{K2:Kn}{bx':List Bx}{sel:List Nat}{args:List X}{v:Value}{z:X}
variable {P:Program} {R:CodeRel} {x:Ctx} {K:Kn} {C:List CB} {σ:St} {a:Act} {w:World}
variable {o:Oper} {y:X} {bx:List Bx} {A:Ann} {Γ:Gam}
theorem dataL_get {raw:Bool}:∀{cs ds:List X},dataL bx raw cs=some ds->ds.length=cs.length/\∀(j:Nat) (z:X),cs[j]?=some z->∃z',ds[j]?=some z'/\z.data bx raw=some z'
 |[],ds,h=>by grind[dataL]
 |z::r,ds,h=>by
  simp only [dataL] at h;cases hz:z.data bx raw with
  |none=>grind
  |some z'=>
   simp only [hz] at h;obtain ⟨l,hl,rfl⟩:=qa1.1 h;obtain ⟨h1,h2⟩:=dataL_get hl
   grind
theorem data_cell {z':X}(h:z.data bx raw=some z'):z'.isCell=z.isCell:=by
 cases z with
 |bs i off len=>simp only [X.data] at h;obtain ⟨p,_,rfl⟩:=qa1.1 h;rfl
 |agg cs=>simp only [X.data] at h;obtain ⟨p,_,rfl⟩:=qa1.1 h;rfl
 |tup cs=>simp only [X.data] at h;obtain ⟨p,_,rfl⟩:=qa1.1 h;rfl
 |_=>simp [X.data] at h;subst h;rfl
theorem mem_rowsL {i:Nat}:∀{cs:List X},i∈rowsL cs↔∃z,z∈cs/\i∈z.rows
 |[]=>by simp [rowsL]
 |z::r=>by simp [rowsL,mem_rowsL (cs:=r)]
theorem Rep.data (hI:Inv P R K C bx w)(hK:KLe K K2)(h:Rep K C z v)
  (hrow:(∀(b o:Nat) (u:Value),Owns C bx b o->w.cell? ⟨b,o,none⟩=some u->K2 b o=some u)\/z.rows=[]):∀{z':X},z.data bx raw=some z'->Rep K2 C z' v:=by
 induction h with
 |v h=>intro z' e;simp [X.data] at e;subst e;exact .v h
 |slNil=>intro z' e;simp [X.data] at e;subst e;exact .slNil
 |sl vals hlen ht hcap hcell hk hr ih=>intro z' e;simp [X.data] at e;subst e;exact .sl vals hlen (fun e=>ht (by grind)) hcap hcell (fun i j z e=>hK _ _ _ (hk i j z e)) (fun i j z e=>(hr i j z e).mono hK (CLe.refl _))
 |bs hc hcap hlen=>
  rename_i C i off len b base hi sz cap;intro z' e;simp only [X.data] at e;obtain ⟨p,hp,rfl⟩:=qa1.1 e;unfold rowOf at hp;split at hp
  ·rename_i s es hb;split at hp
   ·rename_i hle;simp at hp;subst hp;obtain ⟨arr,el,g1,g2,g3,hbl,hf⟩:=(hI.box i _ _ hb hc).flat;subst g1;have hlen':((es.drop off).take len).length=len:=by simp;omega
    rcases hrow with hrow|hrow
    ·have:=(((hf.drop off).take len).mono hK).rep (K:=K2) (C:=C) (t:=false) (b:=b) (o:=base+off*sz) (cap:=cap) (fun k u hu=>?_) (by simp) (by omega)
     ·grind
     rw [qbb] at hu;split at hu
     ·rename_i hk1;rw [qa8,qbb] at hu;split at hu
      ·rename_i hk2;rw [qa8,toArray_getElem?] at hu;have e1:base+off*sz+k=base+(off*sz+k):=by omega
       refine hrow b _ u ⟨i,_,_,hc,hb,rfl,rfl,by omega,?_⟩ ?_;·omega
       grind[World.cell?]
      grind
     grind
    grind[X.rows]
   grind
  grind
 |bsNil hc=>
  rename_i C i ob;intro z' e;simp only [X.data] at e;obtain ⟨p,hp,rfl⟩:=qa1.1 e;unfold rowOf at hp;split at hp
  ·split at hp;·simp only [qaE] at hp;subst hp;simp;exact .slNil
   grind
  grind
 |ptr hc=>intro z' e;simp [X.data] at e;subst e;exact .ptr hc
 |dp vals hcell hk hr ih=>intro z' e;simp [X.data] at e;subst e;exact .dp vals hcell (fun j z e=>hK _ _ _ (hk j z e)) (fun j z e=>(hr j z e).mono hK (CLe.refl _))
 |fn hs hr ih=>intro z' e;simp [X.data] at e;subst e;exact .fn hs (fun j z v e e'=>(hr j z v e e').mono hK (CLe.refl _))
 |agg hs hcell hr ih=>
  intro z' e;simp only [X.data] at e;obtain ⟨ds,hd,rfl⟩:=qa1.1 e;obtain ⟨h1,h2⟩:=dataL_get hd;rename_i C cs vs;refine .agg (by grind) (fun z hz=>?_) (fun j z v e e'=>?_);·obtain ⟨j,hj,rfl⟩:=List.mem_iff_getElem.1 hz;obtain ⟨z',e1,e2⟩:=h2 j cs[j] (qa3 (by omega))<;>grind[data_cell,qbk]
  have hj:=(qaY.1 e).1;obtain ⟨z',e1,e2⟩:=h2 j cs[j] (qa3 (by omega));rw [e] at e1;cases e1;refine ih j _ v (qa3 (by omega)) e' hI (hrow.imp_right fun hn=>?_) e2;refine List.eq_nil_iff_forall_not_mem.2 fun i hi=>?_;have:=mem_rowsL.2 ⟨cs[j],qbk _,hi⟩
  grind[X.rows]
 |tup hs hr ih=>
  intro z' e;simp only [X.data] at e;obtain ⟨ds,hd,rfl⟩:=qa1.1 e;obtain ⟨h1,h2⟩:=dataL_get hd;rename_i C cs vs;refine .tup (by grind) (fun j z v e e'=>?_);have hj:=(qaY.1 e).1;obtain ⟨z',e1,e2⟩:=h2 j cs[j] (qa3 (by omega));rw [e] at e1;cases e1;refine ih j _ v (qa3 (by omega)) e' hI (hrow.imp_right fun hn=>?_) e2;refine List.eq_nil_iff_forall_not_mem.2 fun i hi=>?_;have:=mem_rowsL.2 ⟨cs[j],qbk _,hi⟩
  grind[X.rows]
 |yl hc=>intro z' e;simp [X.data] at e;subst e;exact .yl hc
 |mp hc=>intro z' e;simp [X.data] at e;subst e;exact .mp hc
 |it hc=>intro z' e;simp [X.data] at e;subst e;exact .it hc
 |ifc=>intro z' e;simp [X.data] at e;subst e;exact .ifc
theorem mem_plainL:∀{cs:List X},plainL cs=true->∀z,z∈cs->z.plain=true
 |[],_,_,h=>by grind
 |z::r,h,u,hu=>by
  simp [plainL] at h;rcases qbl.1 hu with rfl|hu
  ·grind
  exact mem_plainL h.2 u hu
theorem Rep.plain (h:Rep K C z v):∀{C2:List CB},z.plain=true->Rep K2 C2 z v:=by
 induction h with
 |v h=>exact fun _=>.v h
 |agg hs hcell hr ih=>exact fun hp=>.agg hs hcell (fun j z v e e'=>ih j z v e e' (mem_plainL (by grind[X.plain]) z (qa5 e)))
 |tup hs hr ih=>exact fun hp=>.tup hs (fun j z v e e'=>ih j z v e e' (mem_plainL (by grind[X.plain]) z (qa5 e)))
 |fn hs hr ih=>exact fun hp=>.fn hs (fun j z v e e'=>ih j z v e e' (mem_plainL (by grind[X.plain]) z (qa5 e)))
 |_=>grind[X.plain]
def BackTo (P:Program)(R:CodeRel)(x:Ctx)(C:List CB)(tm:List (Nat×X))(bx:List Bx)(a:Act)(y:X)(e:Ending)(w':World):Prop:=
 ∃(v:Value) (K':Kn) (C':List CB),e=.returned v/\CLe C C'/\Em.Rel P R x K' C' ⟨tm,bx⟩ a w'/\Rep K' C' y v
theorem BackTo.step {tm:List (Nat×X)}{e:Ending}{w':World}(h:BackTo P R x C tm bx a y e w'):∃(v:Value) (K':Kn) (C':List CB),e=.returned v/\Em.Rel P R x K' C' ⟨tm,bx⟩ a w'/\Rep K' C' y v:=
 let ⟨v,K',C',h1,_,h2,h3⟩:=h
 ⟨v,K',C',h1,h2,h3⟩
theorem argsRep_ren {C':List CB}{f:Nat->Nat}(h:ArgsRep K C args cargs)(hC:∀i,i∈refsL args->∀c,C[i]?=some c->C'[f i]?=some c):ArgsRep K C' (renL f args) cargs:=by refine ⟨by rw [renL_eq];simpa using h.1,fun j z v e e'=>?_⟩;rw [renL_eq,qbe] at e;obtain ⟨u,hu,rfl⟩:=qa1.1 e;exact (h.2 j u v hu e').ren fun i hi=>hC i (mem_refsL.2 ⟨u,qa5 hu,hi⟩)
theorem callRef_fn (hΓ:GamOk P R Γ)(h:Rel P R x K C σ a w)(hargs:ArgsRep K C args cargs)(e:callRef Γ (.fn g) args σ.bx=some (y,bx',sel)):
  FnOk P g/\Calls P g cargs w (BackTo P R x C σ.tm bx' a y):=by
 unfold callRef at e;dsimp only at e;split at e
 ·rename_i hsub;split at e
  ·grind
  rename_i inb hpick;split at e
  ·grind
  rename_i r outb hcall;split at e
  ·rename_i hle;simp only [qaE,qaH] at e;obtain ⟨rfl,rfl,rfl⟩:=e;obtain ⟨C1,hI,hl1,hC1,hin,hinl,hnd,hC1',hidx⟩:=h.inv.pick hpick;obtain ⟨hok,hsem⟩:=hΓ.fn g _ _ _ _ hcall;refine ⟨hok,(hsem K C1 w cargs hI (argsRep_ren hargs fun i hi=>hidx i (subN_iff.1 hsub i hi))).mono ?_⟩
   rintro e w' ⟨v,K',E,rfl,hp⟩
   obtain ⟨h1,h2⟩:=call_back h hC1' hl1 hin hinl hnd hp hle;exact ⟨v,K',C++E,rfl,CLe.append _ _,h1,h2⟩
  grind
 grind
theorem callRef_yl (hΓ:GamOk P R Γ)(h:Rel P R x K C σ a w){i l:Nat}{as:List X}(hi:C[i]?=some (.obj l))(hargs:ArgsRep K C as cargs)(e:callRef Γ .yl (.yl i::as) σ.bx=some (y,bx',sel))(r:Option Nat):
  ∃(f:FuncId) (tmps:Array Value) (assign body:Code),(Instr.yield l cargs).run P w=.ok (.round l f tmps assign body) w/\RoundIn (Fr r) 0 P l f tmps assign body w (BackTo P R x C σ.tm bx' a y):=by
 unfold callRef at e;dsimp only at e;split at e
 ·rename_i hsub;split at e
  ·grind
  rename_i inb hpick;split at e
  ·grind
  rename_i res outb hcall;split at e
  ·rename_i hle;simp only [qaE,qaH] at e;obtain ⟨rfl,rfl,rfl⟩:=e;obtain ⟨C1,hI,hl1,hC1,hin,hinl,hnd,hC1',hidx⟩:=h.inv.pick hpick;obtain ⟨i',as',he,hsem⟩:=hΓ.yl _ _ _ _ hcall;simp only [renL,X.ren,List.cons.injEq,X.yl.injEq] at he;obtain ⟨rfl,rfl⟩:=he;have hsubs:=subN_iff.1 hsub;obtain ⟨f,tmps,assign,body,hrun,hround⟩:=hsem K C1 w cargs l r hI (hidx i (hsubs i (by grind[refsL,X.refs])) _ hi) (argsRep_ren hargs fun k hk=>hidx k (hsubs k (by grind[refsL])));refine ⟨f,tmps,assign,body,hrun,hround.mono ?_⟩
   rintro e w' ⟨v,K',E,rfl,hp⟩
   obtain ⟨h1,h2⟩:=call_back h hC1' hl1 hin hinl hnd hp hle;exact ⟨v,K',C++E,rfl,CLe.append _ _,h1,h2⟩
  grind
 grind
theorem noRef_of_isEmpty {xs:List X}(h:(refsL xs).isEmpty=true)(hz:z∈xs):z.refs=[]:=by simp_all[List.eq_nil_iff_forall_not_mem,mem_refsL]
def seen (w:World):Kn:=fun b o=>w.cell? ⟨b,o,none⟩
theorem owns_nil {b o:Nat}:¬Owns [] [] b o:=by rintro ⟨i,c,B,h,_⟩<;>grind
theorem pureD_sound (hΓ:GamOk P R Γ)(h:Rel P R x K C σ a w)(hargs:ArgsRep K C args cargs)(hno:(refsL args).isEmpty=true)(e:Γ.pureD g args=some y)(hny:noRef y=true):
  FnOk P g/\Calls P g cargs w (BackTo P R x C σ.tm σ.bx a y):=by
 unfold Gam.pureD at e;split at e
 ·rename_i r outb hcall;obtain ⟨hok,hsem⟩:=hΓ.fn g _ _ _ _ hcall;have hI:Inv P R K [] [] w:=⟨h.inv.glob,h.inv.known,rfl,fun b o ho=>(owns_nil ho).elim,fun i j c d A B b o _ hc=>by grind,fun i B c hB=>by grind⟩;refine ⟨hok,(hsem K [] w cargs hI ⟨hargs.1,fun j z v e e'=>(hargs.2 j z v e e').noRef (noRef_of_isEmpty hno (qa5 e))⟩).mono ?_⟩
  rintro e' w' ⟨v,K',E,rfl,hp⟩
  have hf:FrameOk nowhere w w':=hp.frame.mono (fun b o _ ho=>(owns_nil ho).elim)
  let K2:Kn:=fun b o=>match K' b o with
   |some u=>some u
   |none=>if w.heap.size<=b then w'.cell? ⟨b,o,none⟩ else none
  have hK2:KLe K' K2:=fun b o u e=>by grind
  have hrep:Rep K2 ([]++E) y v:=hp.res.data hp.inv hK2 (.inl fun b o u ho hu=>by
   simp only [K2];cases e1:K' b o with
   |some u'=>have:=hp.inv.known b o u' e1<;>grind
   |none=>rcases hp.own b o ho with h1|h1<;>grind[owns_nil]) e
  have hnr:y.refs=[]:=by simpa [noRef] using hny
  have hknew:∀(b o:Nat) (u:Value),K2 b o=some u->K b o=some u\/w.heap.size<=b:=by
   intro b o u e1;simp only [K2] at e1;split at e1
   ·rename_i u' e2;cases e1;rcases hp.knew b o _ e2 with h1|h1|h1
    ·grind
    ·grind[owns_nil]
    grind
   ·grind
  have hs:=h.still hf;refine ⟨v,K2,C,rfl,CLe.refl _,{hs with inv:=?_,tm:=hs.tm.mono (hp.kle.trans hK2) (CLe.refl _),k0:=h.k0.trans (hp.kle.trans hK2),knew:=?_},hrep.noRef hnr⟩
  ·refine hs.inv.know (hp.kle.trans hK2) (fun b o u e1=>?_) (fun b o ho=>?_)
   ·simp only [K2] at e1;split at e1;next u' e2=>cases e1;exact hp.inv.known b o _ e2
    grind
   cases e1:K2 b o with
   |none=>rfl
   |some u=>
    rcases hknew b o u e1 with h1|h1;·rw [h.inv.apart b o ho] at h1<;>grind
    have:=h.inv.owns_lt ho;omega
  intro b o u e1;rcases hknew b o u e1 with h1|h1;·exact h.knew b o u h1
  exact .inr (.inr (Nat.le_trans h.frame.size h1))
 grind
theorem pureD_plain (hΓ:GamOk P R Γ)(h:Rel P R x K C σ a w)(hargs:ArgsRep (seen w) C args cargs)(hno:(refsL args).isEmpty=true)(e:Γ.pureD g args=some y)(hny:y.plain=true):
  FnOk P g/\Calls P g cargs w (BackTo P R x C σ.tm σ.bx a y):=by
 unfold Gam.pureD at e;split at e
 ·rename_i r outb hcall;obtain ⟨hok,hsem⟩:=hΓ.fn g _ _ _ _ hcall;have hI:Inv P R (seen w) [] [] w:=⟨h.inv.glob.mono (fun b o v e=>h.inv.known b o v e),fun b o v e=>e,rfl,fun b o ho=>(owns_nil ho).elim,fun i j c d A B b o _ hc=>by grind,fun i B c hB=>by grind⟩;refine ⟨hok,(hsem (seen w) [] w cargs hI ⟨hargs.1,fun j z v e e'=>(hargs.2 j z v e e').noRef (noRef_of_isEmpty hno (qa5 e))⟩).mono ?_⟩
  rintro e' w' ⟨v,K',E,rfl,hp⟩
  have hf:FrameOk nowhere w w':=hp.frame.mono (fun b o _ ho=>(owns_nil ho).elim);have hrep:Rep (seen w') ([]++E) y v:=hp.res.data hp.inv (fun b o u e=>hp.inv.known b o u e) (.inl fun b o u _ hu=>hu) e;exact ⟨v,K,C,rfl,CLe.refl _,h.still hf,hrep.plain hny⟩
 grind
end Go.Em
