/-.-/
import Derived.MapKept
import Derived.Test.YtcbeoccmflnejaaGreatDoorEmU1
set_option linter.all false
namespace Go.Em
section
variable {args:Array Operand}{es new:qaW}{z:List X}{bytes c cap h l len m n sz:Nat}{p':Opd}{p:Operand}{ob oc:Option Addr}{hi' lo':Option Opd}{hi lo mx:Option Operand}
variable {P:Program} {R:CodeRel} {x:Ctx} {K:Kn} {C:List CB} {σ:St} {a:Act} {w:World}
variable {o:Oper} {y:X} {bx:List Bx} {fp:FP} {A:Ann} {Γ:Gam}
theorem sliceBound_run {n y:Nat}(code:BoundsCode)(h:n<=y)(w:World):(Instr.sliceBound (.int .i64 (n:Int)) y code).run P w=.ok n w:=by simp_all[Instr.sliceBound,asIntOf]
def BoundIs (a:Act)(d:Nat):Option Operand->Nat->Prop
 |none,n=>n=d
 |some p,n=>a.eval p=.int .i64 (n:Int)
theorem optNat_is {d:Nat}(hg:GlobOk R K)(ht:TmOk K C σ.tm a.tmps)(hl:trOpt P R.gl lo=some lo')(e:optNat σ d lo'=some n):BoundIs a d lo n:=by
 cases lo with
 |none=>simp only [trOpt,qah] at hl;subst hl;simp only [optNat,qah] at e;exact e.symm
 |some p=>simp only [trOpt] at hl;obtain ⟨q,h,rfl⟩:=qac.1 hl;simp only [optNat] at e;obtain ⟨z,hz,f⟩:=qaG.1 e;exact natX_rep (ev_rep hg ht h hz) f
theorem sliceBounds_run (hl:BoundIs a 0 lo l)(hh:BoundIs a len hi h)(hm:BoundIs a cap mx m)(h1:l<=h)(h2:h<=m)(h3:m<=cap)(hmx:mx=none\/hi.isSome=true)(isSlice:Bool)(w:World):
  (Instr.sliceBounds isSlice len cap (lo.map a.eval) (hi.map a.eval) (mx.map a.eval)).run P w=.ok (l,h,m) w:=by
 cases mx with
 |none=>
  simp only [BoundIs] at hm;subst hm;cases hi with
  |none=>simp only [BoundIs] at hh;subst hh;cases lo<;>simp_all[BoundIs,Instr.sliceBounds,sliceBound_run]
  |some q=>simp only [BoundIs] at hh;cases lo<;>simp_all[BoundIs,Instr.sliceBounds,sliceBound_run]
 |some r=>
  simp only [BoundIs] at hm;cases hi with
  |none=>grind
  |some q=>simp only [BoundIs] at hh;cases lo<;>simp_all[BoundIs,Instr.sliceBounds,sliceBound_run]
theorem run_slice {t e:TypeId}(ho:o.op=.slice t p lo hi mx)(hu:P.underlying t=some (.slice e))(hs:sizeP P e=some sz)
  (hv:a.eval p=.slice ob len cap) (hl:BoundIs a 0 lo l) (hh:BoundIs a len hi h) (hm:BoundIs a cap mx m) (h1:l<=h) (h2:h<=m) (h3:m<=cap) (hmx:mx=none\/hi.isSome=true):
  (execOp a.eval o).run P w=.ok (.value (.slice (if m=l then ob else ob.map (·.add (l*sz))) (h-l) (m-l))) w:=by
 have f:=sliceBounds_run (P:=P) hl hh hm h1 h2 h3 hmx true w;simp only [execOp,ho,Instr.sliceAt,Sem.run_bind,run_underlying hu,Result.andThen_ok,Instr.slice,hv,f,sizeP_run hs w];rfl
theorem op_slice_sl {t t1 e:TypeId}{mx':Option Opd}{tt:Bool}(hr:Rel P R x K C σ a w)(ho:o.op=.slice t p lo hi mx)(hu:P.underlying t=some (.slice e))(hs:sizeP P e=some sz)
  (hp:trOpd P R.gl t1 p=some p') (hlo:trOpt P R.gl lo=some lo') (hhi:trOpt P R.gl hi=some hi') (hmx:trOpt P R.gl mx=some mx') (ep:σ.ev p'=some (.sl tt sz es)) (el:optNat σ 0 lo'=some l) (eh:optNat σ es.length hi'=some h)
  (h1:l<=h) (h2:h<=es.length) (tf:Bool) (hcase:(mx=none/\tf=(tt&&h==es.length))\/(∃m,mx=some m/\hi.isSome=true/\BoundIs a 0 mx h/\tf=true)):
  OpOk P R x σ a w o (.sl tf sz ((es.take h).drop l)) σ.bx:=by
 have j:=ev_rep hr.inv.glob hr.tm hp ep;have L:=optNat_is hr.inv.glob hr.tm hlo el;have J:=optNat_is hr.inv.glob hr.tm hhi eh;have q:((es.take h).drop l).length=h-l:=by simp;omega
 generalize H:a.eval p=v at j;have M:∀ob cap,v=.slice ob es.length cap->es.length<=cap->(tt=true->cap=es.length)->(ob=none->cap=0)->(∀b o',ob=some ⟨b,o',none⟩->∃fl,Flat K sz es fl/\∀k v,fl[k]?=some v->K b (o'+k)=some v)->
   (∀ad,ob=some ad->ad.spot=none)->OpOk P R x σ a w o (.sl tf sz ((es.take h).drop l)) σ.bx:=by
  intro ob cap Y n pb y N B;subst Y;have u:∀m,BoundIs a cap mx m->h<=m->m<=cap->(mx=none\/hi.isSome=true)->(tf=true->m=h)->OpOk P R x σ a w o (.sl tf sz ((es.take h).drop l)) σ.bx:=by
   intro m E Q U V W;refine .still hr (run_slice ho hu hs H L J E h1 Q U V) ?_;cases ob with
   |none=>
    have pa:=y rfl;have:(es.take h).drop l=[]:=qaP (by omega);rw [this];have e1:h-l=0:=by omega
    have e2:m-l=0:=by omega
    rw [e1,e2];split<;>exact .slNil
   |some ad=>
    obtain ⟨b,o',sp⟩:=ad;have:=B _ rfl;simp only at this;subst this;obtain ⟨fl,hf,hk⟩:=N b o' rfl;rw [<-q];by_cases F:m=l;·rw [if_pos F];have:(es.take h).drop l=[]:=qaP (by omega);rw [this];exact (Flat.nil (K:=K) (sz:=sz)).rep (fun k v H=>by grind) (fun _=>by grind) (by simp)
    rw [if_neg F];simp only [qao,addr_add];refine ((hf.take h).drop l).rep (fun k v H=>?_) (fun e=>by rw [q,W e]) (by omega)<;>grind
  rcases hcase with ⟨rfl,rfl⟩|⟨m,rfl,f,E,rfl⟩;·refine u cap rfl (by omega) (Nat.le_refl _) (.inl rfl) (fun e=>?_)<;>simp_all
  exact u h E (Nat.le_refl _) (by omega) (.inr f) (fun _=>rfl)
 have A:=j;cases j with
 |slNil=>
  have O:h=0:=by simpa using h2
  have S:l=0:=by omega
  subst O;subst S;have Z:(([]:qaW).take 0).drop 0=[]:=rfl;rw [Z];rcases hcase with ⟨rfl,rfl⟩|⟨m,rfl,f,E,rfl⟩;·refine .still hr (run_slice ho hu hs H L J rfl (Nat.le_refl _) (Nat.le_refl _) (Nat.le_refl _) (.inl rfl)) ?_<;>simp_all
  refine .still hr (run_slice ho hu hs H L J E (Nat.le_refl _) (Nat.le_refl _) (Nat.le_refl _) (.inr f)) ?_;simp only [Nat.sub_self,if_true];exact .slNil
 |sl vals hle ht n hcell hk hrr=>refine M _ _ rfl n ht (fun e=>by cases e) (fun b' pc e=>?_) (fun ad e=>by grind);cases e;exact A.flat
theorem op_slice_bs {t t1 e:TypeId}{i off:Nat}(hr:Rel P R x K C σ a w)(ho:o.op=.slice t p lo hi none)(hu:P.underlying t=some (.slice e))(hs:sizeP P e=some sz)
  (hp:trOpd P R.gl t1 p=some p') (hlo:trOpt P R.gl lo=some lo') (hhi:trOpt P R.gl hi=some hi') (ep:σ.ev p'=some (.bs i off len)) (el:optNat σ 0 lo'=some l) (eh:optNat σ len hi'=some h)
  (h1:l<=h) (h2:h<=len) (hy:(l=h/\y=.sl false sz [])\/(l≠h/\(∃es,σ.bx[i]?=some (.row sz es))/\y=.bs i (off+l) (h-l))):OpOk P R x σ a w o y σ.bx:=by
 have f:=ev_rep hr.inv.glob hr.tm hp ep;have A:=optNat_is hr.inv.glob hr.tm hlo el;have u:=optNat_is hr.inv.glob hr.tm hhi eh;generalize n:a.eval p=v at f;cases f with
 |bs hc hcap hlen=>
  rename_i b q F H cap;refine .still hr (run_slice ho hu hs n A u rfl h1 (by omega) (Nat.le_refl _) (.inl rfl)) ?_;rcases hy with ⟨j,rfl⟩|⟨j,⟨es,E⟩,rfl⟩
  ·subst j;rw [Nat.sub_self];split;·exact (Flat.nil (K:=K) (sz:=sz)).rep (fun k v n=>by grind) (fun e=>by grind) (by simp)
   simp only [qao,addr_add];exact (Flat.nil (K:=K) (sz:=sz)).rep (fun k v n=>by grind) (fun e=>by grind) (by simp)
  obtain ⟨m,_⟩:=hr.inv.box i _ _ E hc;subst m;rw [if_neg (by omega)];simp only [qao,addr_add];have:=Rep.bs (K:=K) (off:=off+l) (len:=h-l) (cap:=cap-l) hc (by rw [show off+l+(cap-l)=off+cap by omega];exact hcap) (by omega)<;>grind
 |bsNil hc=>
  refine .still hr (run_slice ho hu hs n A u rfl h1 (by omega) (Nat.le_refl _) (.inl rfl)) ?_;have j:h=0:=by omega
  have B:l=0:=by omega
  subst j;subst B;rcases hy with ⟨_,rfl⟩|⟨j,_⟩;·simp only [Nat.sub_self,if_true];exact .slNil
  grind
theorem op_sslice {t t1:TypeId}{s:qaX}(hr:Rel P R x K C σ a w)(ho:o.op=.slice t p lo hi none)(hu:P.underlying t=some .string)
  (hp:trOpd P R.gl t1 p=some p') (hlo:trOpt P R.gl lo=some lo') (hhi:trOpt P R.gl hi=some hi') (ep:σ.ev p'=some (.v (.string s))) (el:optNat σ 0 lo'=some l) (eh:optNat σ s.size hi'=some h)
  (h1:l<=h) (h2:h<=s.size):OpOk P R x σ a w o (.v (.string (s.extract l h))) σ.bx:=by
 have q:=rep_v (ev_rep hr.inv.glob hr.tm hp ep);have j:=optNat_is hr.inv.glob hr.tm hlo el;have f:=optNat_is hr.inv.glob hr.tm hhi eh;refine .still hr (v:=.string (s.extract l h)) ?_ (.v rfl);have n:=sliceBounds_run (P:=P) (mx:=none) j f (m:=s.size) rfl h1 h2 (Nat.le_refl _) (.inl rfl) false w;simp only [Option.map_none] at n;simp only [execOp,ho,Instr.sliceAt,Sem.run_bind,run_underlying hu,Result.andThen_ok,Instr.slice,q,Option.map_none,Option.isSome_none]<;>simp_all
theorem max_fold {isMax:Bool}(f:Value->Value->Sem Value)(hf:∀m n:Int,f (.int .i64 m) (.int .i64 n)=pure (.int .i64 (if isMax then (if n>m then n else m) else (if n<m then n else m)))):
  ∀{ys:List X} {vs:List Value} {m z:Int},vs.length=ys.length->(∀(j:Nat) (y:X) (v:Value),ys[j]?=some y->vs[j]?=some v->Rep K C y v)->mmV isMax m ys=some z->(vs.foldlM f (.int .i64 m)).run P w=.ok (.int .i64 z) w
 |[],vs,m,z,h1,h2,h3=>by simp_all[mmV]
 |y::r,[],m,z,h1,h2,h3=>by grind
 |y::r,v::vs,m,z,h1,h2,h3=>by
  unfold mmV at h3;split at h3
  ·grind
  next m' n r' e1=>simp only [List.cons.injEq] at e1;obtain ⟨rfl,rfl⟩:=e1;have hv:=rep_v (h2 0 _ v rfl rfl);subst hv;simp only [List.foldlM_cons,hf,pure_bind];exact max_fold f hf (by grind) (fun j y v e e'=>h2 (j+1) y v (by grind) (by grind)) h3
  grind
theorem op_mm {isMax:Bool}{tys:Array TypeId}{qs:List Opd}{ys:List X}{m z:Int}(h:Rel P R x K C σ a w)(ho:o.op=.call ⟨.builtin (if isMax then .max else .min),args,tys⟩)(hq:trOpds P R.gl tys.toList args.toList=some qs)
  (he:evs σ qs=some (.v (.int .i64 m)::ys)) (hm:mmV isMax m ys=some z):OpOk P R x σ a w o (.v (.int .i64 z)) σ.bx:=by
 obtain ⟨E,A⟩:=evs_rep h.inv.glob h.tm hq he;refine .still h (v:=.int .i64 z) ?_ (.v rfl);have u:∃p r,args.toList=p::r:=by
  cases B:args.toList with
  |nil=>grind
  |cons p r=>grind
 obtain ⟨p,r,B⟩:=u;rw [B] at E A;have H:=rep_v (A 0 _ (a.eval p) rfl rfl);have q:(args.map a.eval).toList=.int .i64 m::r.map a.eval:=by simp [B,H]
 have l:=fun f F=>max_fold (P:=P) (w:=w) (K:=K) (C:=C) (isMax:=isMax) f F (ys:=ys) (vs:=r.map a.eval) (by grind) (fun j y v e J=>A (j+1) y v (by grind) (by grind)) hm;cases isMax;·have:=l Builtin.min2 (fun m n=>by simp [Builtin.min2]);simp only [execOp,ho,resolve,invoke,builtin,Sem.run_bind,Sem.run_pure,Result.andThen_ok,Builtin.min_,q,this,qai,if_false]
 have:=l Builtin.max2 (fun m n=>by simp [Builtin.max2]);simp only [execOp,ho,resolve,invoke,builtin,Sem.run_bind,Sem.run_pure,Result.andThen_ok,Builtin.max_,q,this,if_true]
theorem run_app_fit {t0 t1 ty e e1:TypeId}(h0:P.underlying t0=some (.slice e))(h1:P.underlying t1=some (.slice e1))(hs:sizeP P e=some sz)(news:List Value)(w':World)
  (hf:(Builtin.firstCells sz m (.slice oc m c)).run P w=.ok news.toArray w) (hroom:n+m<=cap)
  (hst:∀ad,ob=some ad->(storeCells (ad.add (n*sz)) news).run P w=.ok () w') (hno:ob=none->w'=w):
  (Builtin.append_ #[t0,t1] ty #[.slice ob n cap,.slice oc m c]).run P w=.ok (.slice ob (n+m) cap) w':=by
 cases ob with
 |none=>have:=hno rfl;subst this;simp [Builtin.append_,run_underlying h0,run_underlying h1,sizeP_run hs,Builtin.lenOf,hroom,hf]
 |some ad=>simp [Builtin.append_,run_underlying h0,run_underlying h1,sizeP_run hs,Builtin.lenOf,hroom,hf,hst ad rfl]
theorem run_app_grow {t0 t1 ty e e1:TypeId}(h0:P.underlying t0=some (.slice e))(h1:P.underlying t1=some (.slice e1))(hs:sizeP P e=some sz)(hb:bytesP P e=some bytes)(hz:zeroP P e=some z)(olds news:List Value)
  (ho:∀w':World,w'.heap=w.heap->(Builtin.firstCells sz n (.slice ob n cap)).run P w'=.ok olds.toArray w') (hf:∀w':World,w'.heap=w.heap->(Builtin.firstCells sz m (.slice oc m c)).run P w'=.ok news.toArray w')
  (hroom:cap<n+m) (hbig:(n+m)*bytes<=140737488355328) (h63:n+m<2^62) (hpos:0<bytes):
  ∃rest:List Value,(Builtin.append_ #[t0,t1] ty #[.slice ob n cap,.slice oc m c]).run P w=.ok (.slice (some ⟨w.heap.size,0,none⟩) (n+m) (grownCap w (n+m) cap e)) (w.drew.alloc (.cells (olds++news++rest).toArray e))/\
   rest.length=(grownCap w (n+m) cap e-(n+m))*sz:=by
 obtain ⟨y,a,F,j,L⟩:=zeroP_run hz w;have J:y.cells.size=sz:=by have:=(F (fun _ _=>none) []).len;rw [hs] at j;simp at j this;omega
 unfold bytesP at hb;obtain ⟨i,l,rfl⟩:=qac.1 hb;have u:i.zero=some y:=by
  simp only [zeroValue,typeInfo,Sem.run_bind,run_program,Result.andThen_ok,l] at a;simp only [Sem.run_pure,Result.andThen_ok] at a;split at a;·simp_all
  simp_all
 have q:i.size=sz:=by simpa [sizeP,l] using hs
 have E:¬(n+m<=cap):=by omega
 have A:=growslice_fits (need:=n+m) (old:=cap) (bytes:=i.bytes) hroom hbig;have h:¬(9223372036854775807<((n:Int)+(m:Int))):=by omega
 have f:¬(281474976710656<Builtin.nextslicecap (n+m) cap*i.bytes):=by omega
 refine ⟨(Builtin.zeroCells y.cells (grownCap w (n+m) cap e-(n+m))).toList,?_,by grind[Builtin.zeroCells]⟩;have B:=ho w.drew rfl;have H:=hf w.drew rfl;simp [Builtin.append_,run_underlying h0,run_underlying h1,sizeOf,typeInfo,zeroValue,l,u,q,Builtin.lenOf,E,h,f,Question.forced,B,H,newRow,grownCap]
 congr 2
 simp_all
theorem src_rep (h:Inv P R K C σ.bx w){z:X}{v:Value}(hr:Rep K C z v)(e:srcOf σ.bx z=some (sz,new)):
  ∃oc c news,v=.slice oc new.length c/\Flat K sz new news/\(∀w':World,w'.heap=w.heap->(Builtin.firstCells sz new.length (.slice oc new.length c)).run P w'=.ok news.toArray w')/\
   (∀ad,oc=some ad->∀k u,news[k]?=some u->w.cell? ⟨ad.block,ad.off+k,none⟩=some u):=by
 have O:∀(b o' m c:Nat) (news:List Value),news.length=m*sz->(∀k u,news[k]?=some u->w.cell? ⟨b,o'+k,none⟩=some u)->∀w':World,w'.heap=w.heap->
   (Builtin.firstCells sz m (.slice (some ⟨b,o',none⟩) m c)).run P w'=.ok news.toArray w':=by
  intro b o' m c news Z hn w' S;refine run_firstCells_some w' sz m ⟨b,o',none⟩ m c news Z (fun j u l=>?_);rw [addr_add];have:=hn j u l;simp only [World.cell?,S] at this ⊢;exact this
 unfold srcOf at e;split at e
 ·rename_i t s F;cases e;have N:=hr;cases hr with
  |slNil=>rename_i E;exact ⟨E,0,[],rfl,Flat.nil,fun w' _=>by cases E<;>simp [Builtin.firstCells,loadCells,loadCellsFrom],fun _ _ k u e=>by grind⟩
  |sl vals M ht hcap hcell hk hrr=>obtain ⟨Q,H,B⟩:=N.flat;exact ⟨_,_,Q,rfl,H,O _ _ _ _ Q H.len (fun k u l=>h.known _ _ _ (B k u l)),fun ad e=>by cases e;exact fun k u l=>h.known _ _ _ (B k u l)⟩
 ·rename_i i n len;unfold rowOf at e;split at e
  ·rename_i s F V;split at e
   ·rename_i M;cases e;have a:((F.drop n).take len).length=len:=by simp;omega
    cases hr with
    |bs hc hcap hlc=>
     rename_i b y hi q L;obtain ⟨J,el,U,h2,h3,W,H⟩:=(h.box i _ _ V hc).flat;subst U;have f:∀k u,(((((J.toList.drop y).take (F.length*q)).drop (n*q)).take (len*q)))[k]?=some u->w.cell? ⟨b,y+n*q+k,none⟩=some u:=by
      intro k u l;rw [qax] at l;split at l
      ·rw [qaw,qax] at l
       grind[World.cell?]
      ·grind
     have A:=(H.drop n).take len;refine ⟨_,L,_,by rw [a],A,?_,fun ad e=>by cases e<;>grind⟩;rw [a];exact O _ _ _ _ _ (by rw [A.len,a]) f
    |bsNil hc=>
     have Y:((F.drop 0).take 0)=[]:=by simp
     rw [Y];rename_i E;refine ⟨E,0,[],rfl,Flat.nil,fun w' S=>by cases E<;>simp [Builtin.firstCells,loadCells,loadCellsFrom],fun ad _ k u e=>by grind⟩
   grind
  grind
 grind
theorem op_app_sl {t0 t1 e e1:TypeId}{tys:Array TypeId}{ps pz:Operand}{qs qz:Opd}{ts tz:TypeId}{yz:X}(h:Rel P R x K C σ a w)(ho:o.op=.call ⟨.builtin .append,args,tys⟩)(ha:args.toList=[ps,pz])
  (h0:tys[0]?=some t0) (h1:tys[1]?=some t1) (hu0:P.underlying t0=some (.slice e)) (hu1:P.underlying t1=some (.slice e1)) (hs:sizeP P e=some sz) (hb:bytesP P e=some bytes) (hz:zeroP P e=some z) (hpos:0<bytes)
  (hps:trOpd P R.gl ts ps=some qs) (hpz:trOpd P R.gl tz pz=some qz) (eps:σ.ev qs=some (.sl true sz es)) (epz:σ.ev qz=some yz) (hsrc:srcOf σ.bx yz=some (sz,new)) (hroom:roomOk (es.length+new.length) bytes=true):
  (new=[]->OpOk P R x σ a w o (.sl true sz es) σ.bx)/\OpOk P R x σ a w o (.sl false sz (es++new)) σ.bx/\
   (new≠[]->OpOk P R x σ a w o (.bs σ.bx.length 0 (es.length+new.length)) (σ.bx++[.row sz (es++new)])):=by
 have Q:args=#[ps,pz]:=by rw [<-Array.toArray_toList (xs:=args),ha]
 subst Q;have L:∃rest,tys=(t0::t1::rest).toArray:=by
  have O:tys=tys.toList.toArray:=by simp
  cases W:tys.toList with
  |nil=>rw [O,W] at h0<;>grind
  |cons a0 r=>cases r with
   |nil=>rw [O,W] at h1<;>grind
   |cons b0 r=>rw [O,W] at h0 h1<;>grind
 obtain ⟨rest,rfl⟩:=L;simp only [roomOk,qab,qaI] at hroom;have M:=ev_rep h.inv.glob h.tm hps eps;have r2:=ev_rep h.inv.glob h.tm hpz epz;obtain ⟨oc,c,j,Y,F,H,_⟩:=src_rep h.inv r2 hsrc;have f:(execOp a.eval o).run P w=((Builtin.append_ (t0::t1::rest).toArray o.type #[a.eval ps,a.eval pz]).run P w).andThen fun v w'=>.ok (.value v) w':=by simp only [execOp,ho,resolve,invoke,builtin,Sem.run_bind,Sem.run_pure,Result.andThen_ok,List.map_toArray,qaR,List.map_nil]
 have y:Builtin.append_ (t0::t1::rest).toArray o.type #[a.eval ps,a.eval pz]=Builtin.append_ #[t0,t1] o.type #[a.eval ps,a.eval pz]:=by simp [Builtin.append_]
 rw [y] at f;rw [Y] at f;generalize pc:a.eval ps=v1 at M f;have V:∃ob cap olds,v1=.slice ob es.length cap/\cap=es.length/\Flat K sz es olds/\(∀w':World,w'.heap=w.heap->(Builtin.firstCells sz es.length (.slice ob es.length cap)).run P w'=.ok olds.toArray w'):=by
  obtain ⟨ob,cap,olds,e1,e2,e3,_⟩:=src_rep (σ:=σ) h.inv M (z:=.sl true sz es) rfl;refine ⟨ob,cap,olds,e1,?_,e2,e3⟩;subst e1;cases M with
  |slNil=>rfl
  |sl vals hle ht=>grind
 obtain ⟨ob,cap,olds,rfl,Z,U,J⟩:=V;have u:new=[]->(execOp a.eval o).run P w=.ok (.value (.slice ob es.length cap)) w:=by intro q;subst q;have B:j=[]:=qaP (by simpa using F.len);subst B;have:=run_app_fit (P:=P) (ty:=o.type) (ob:=ob) (n:=es.length) (cap:=cap) hu0 hu1 hs [] w (H w rfl) (by grind) (fun ad _=>by simp [storeCells]) (fun _=>rfl);rw [f,this];simp
 have grow:new≠[]->∃(tail:List Value) (m:Nat),(execOp a.eval o).run P w=.ok (.value (.slice (some ⟨w.heap.size,0,none⟩) (es.length+new.length) m)) (w.drew.alloc (.cells (olds++j++tail).toArray e))/\es.length+new.length<=m/\tail.length=(m-(es.length+new.length))*sz:=by intro q;have pa:0<new.length:=List.length_pos_iff.2 q;obtain ⟨tail,l,E⟩:=run_app_grow (P:=P) (ty:=o.type) hu0 hu1 hs hb hz olds j J H (by omega) (by omega) hroom.2 hpos;exact ⟨tail,_,by simp_all,grownCap_ge _ _ _ _,E⟩
 have A:=U.append F;refine ⟨fun q=>.still h (u q) M,?_,fun q=>?_⟩
 ·by_cases q:new=[]
  ·refine .still h (u q) ?_;subst q;rw [List.append_nil];cases M with
   |slNil=>exact .slNil
   |sl vals hle ht hc hcell hk hrr=>exact .sl vals hle (by simp) hc hcell hk hrr
  obtain ⟨tail,m,l,hm,_⟩:=grow q;have N:=h.still (FrameOk.drew nowhere w);refine ⟨_,C,_,_,_,l,.inl rfl,N.learn (olds++j++tail).toArray e,?_⟩;rw [<-qau];refine (A.mono (Kn.add_le N.inv _)).rep (fun k v hv=>?_) (by simp) (by grind);simp only [Kn.add,World.size_drew,if_true,Nat.zero_add]
  grind
 obtain ⟨tail,m,l,hm,E⟩:=grow q;have N:=h.still (FrameOk.drew nowhere w);have pb:(olds++j++tail).toArray.size=m*sz:=by
  have:=A.len;simp only [qau] at this;simp only [List.size_toArray,qau,this,E,<-Nat.add_mul]
  congr 1;omega
 have S:(C++[CB.at w.heap.size 0 (m*sz) sz])[σ.bx.length]?=some (.at w.heap.size 0 (m*sz) sz):=by rw [<-h.inv.size];simp
 refine ⟨K,C++[.at w.heap.size 0 (m*sz) sz],_,_,_,l,.inl rfl,?_,?_⟩
 ·refine N.push _ (A.box (alloc_get w.drew _) (fun k v hv=>?_) ?_ (by omega)) (fun b k hw=>hw.1)
  ·grind
  simp_all[qaJ]
 have:=Rep.bs (K:=K) (off:=0) (len:=es.length+new.length) (cap:=m) S (by simp) hm<;>grind
end
section
variable {kk:KK}{es:List (Value×X)}{m':Opd}{k m:Operand}{k' kv v:Value}{xm y z:X}
variable {P:Program} {R:CodeRel} {x:Ctx} {K:Kn} {C:List CB} {σ:St} {a:Act} {w:World} {o:Oper}
def KK.desc:KK->TypeDesc
 |.int k=>.int k
 |.str=>.string
 |.bool=>.bool
theorem okKey_is (h:okKey kk v=true):MapKept.IsKey kk.desc v:=by
 cases kk<;>cases v<;>simp_all [okKey,MapKept.IsKey,KK.desc]
theorem keyP_desc {t:TypeId}(h:keyP P t=some kk):P.underlying t=some kk.desc:=by unfold keyP at h;split at h<;>simp at h<;>subst h<;>assumption
theorem keySame_now {k:Value}{b:Bool}(hk:okKey kk k=true)(h:keySame k k'=some b):Instr.sameNow kk.desc k k'=some b:=by
 cases kk<;>cases k<;>cases k'<;>simp_all [okKey,keySame,Instr.sameNow,KK.desc]
theorem keySame_eq {k:Value}(h:keySame k k'=some true):k'=k:=by
 cases k<;>cases k'<;>simp_all [keySame,MapKept.bytes_beq]
theorem mapFind_now {kk:KK}{k:Value}(hk:okKey kk k=true):∀{es:List (Value×X)} {ents:List MapEntry} {i:Nat} {r:Option (Nat×X)},EntsOk K es ents->mapFind k es i=some r->
  (r=none/\Instr.findNow kk.desc k ents i=some none)\/(∃j y m,r=some (i+j,y)/\ents[j]?=some m/\es[j]?=some (k,y)/\m.key=k/\Instr.findNow kk.desc k ents i=some (some (i+j,m.val)))
 |[],ents,i,r,hE,h=>by have:=qaP (by rw [hE.len];rfl);subst this;simp [mapFind] at h;exact .inl ⟨h.symm,rfl⟩
 |e::es,[],i,r,hE,h=>by have:=hE.len<;>grind
 |e::es,m::ents,i,r,hE,h=>by
  have hkey:=hE.key 0 e m rfl rfl;have hE':EntsOk K es ents:=⟨by have:=hE.len<;>grind,fun j e' m' h1 h2=>hE.key (j+1) e' m' (by grind) (by grind),fun j e' m' h1 h2=>hE.val (j+1) e' m' (by grind) (by grind)⟩;simp only [mapFind] at h;split at h;next hs=>have hn:=keySame_now hk hs;have he:=keySame_eq hs;simp at h;refine .inr ⟨0,e.2,m,by rw [<-h];rfl,rfl,by rw [<-he];rfl,by rw [hkey,he],?_⟩<;>simp_all[Instr.findNow]
  ·rename_i hs;have hn:=keySame_now hk hs;rcases mapFind_now hk hE' h with ⟨h1,h2⟩|⟨j,y,m',h1,h2,h3,h4,h5⟩
   ·grind[Instr.findNow]
   refine .inr ⟨j+1,y,m',by grind,by grind,by grind,h4,?_⟩;simp only [Instr.findNow,hkey,hn,h5]
   grind
  grind
theorem op_mkmap {t kt e:TypeId}(h:Rel P R x K C σ a w)(ho:o.op=.makeMap t none)(_:P.underlying t=some (.map kt e)):OpOk P R x σ a w o (.mp σ.bx.length) (σ.bx++[.map []]):=by
 have f:(C++[CB.obj w.heap.size])[σ.bx.length]?=some (.obj w.heap.size):=by rw [<-h.inv.size];simp
 refine ⟨K,C++[.obj w.heap.size],_,.map (some w.heap.size),w.alloc (.map #[] 0),?_,.inl rfl,?_,.mp f⟩;·simp_all[execOp,Instr.makeMap]
 exact h.push _ ⟨#[],0,alloc_get _ _,rfl,by simp,by simp⟩ (fun b k j=>j)
theorem op_mput {t kt e t1 t2 t3:TypeId}{v:Operand}{k' v':Opd}{i:Nat}{es':List (Value×X)}(h:Rel P R x K C σ a w)(ho:o.op=.insert t m k v\/o.op=.mapUpdate t m k v)
  (hu:P.underlying t=some (.map kt e)) (hkk:keyP P kt=some kk) (hm:trOpd P R.gl t1 m=some m') (hk:trOpd P R.gl t2 k=some k') (hv:trOpd P R.gl t3 v=some v') (em:σ.ev m'=some (.mp i)) (ek:σ.ev k'=some (.v kv)) (ev:σ.ev v'=some y)
  (hb:σ.bx[i]?=some (.map es)) (hok:okKey kk kv=true) (h1:y.ok1=true) (hn:noRef y=true) (hp:mapPut kv y es=some es'):OpOk P R x σ a w o undefX (σ.bx.set i (.map es')):=by
 have r1:=ev_rep h.inv.glob h.tm hm em;have r2:=ev_rep h.inv.glob h.tm hk ek;have r3:=ev_rep h.inv.glob h.tm hv ev;have e2:=rep_v r2;generalize Y:a.eval m=mv at r1;cases r1 with
 |mp hc=>
  rename_i b;obtain ⟨ents,u,f,A⟩:=h.inv.box i _ _ hb hc;have N:=List.isEmpty_iff.1 hn;have hy:Rep K [] y (a.eval v):=r3.noRef N;have B:∀n (w':World),(Instr.mapUpdate t (.map (some b)) kv (a.eval v)).run P w=.ok () w'->n=Next.skip->(execOp a.eval o).run P w=.ok n w':=fun n w' hr hn=>by subst hn;rcases ho with ho|ho<;>simp [execOp,ho,Y,e2,hr,Result.andThen]
  have O:=keyP_desc hkk;have J:=okKey_is hok;unfold mapPut at hp;split at hp
  ·rename_i V;simp at hp;subst hp;rcases mapFind_now hok A V with ⟨_,L⟩|⟨j,z,mm,l,_⟩
   ·refine ⟨K,C,.skip,undef,{w with heap:=w.heap.setIfInBounds b (.map (ents.push {key:=kv,val:=a.eval v,born:=u}) (u+1))},B _ _ ?_ rfl,.inr ⟨rfl,rfl⟩,?_,.v rfl⟩;·simp [Instr.mapUpdate,run_underlying hu,MapKept.run_getObj_map f,MapKept.run_checkKey O J,MapKept.run_findKey O L,MapKept.run_setObj_map _ f,Result.andThen]
    refine h.setBox hb rfl hc (FrameOk.setObj f trivial trivial fun _=>rfl) ⟨_,_,(MapKept.heap_set f).1,?_⟩ (fun e=>by grind[Bx.isLoop]);refine ⟨by simp [A.len],fun j e' m' l q=>?_,fun j e' m' l q=>?_⟩
    ·rw [Array.toList_push] at q;by_cases W:j<es.length;·rw [qar W] at l;rw [qar (by rw [A.len]<;>grind)] at q;exact A.key j e' m' l q
     rw [qaz (by omega)] at l;rw [qaz (by rw [A.len];omega),A.len] at q<;>grind
    rw [Array.toList_push] at q;by_cases W:j<es.length;·rw [qar W] at l;rw [qar (by rw [A.len]<;>grind)] at q;exact A.val j e' m' l q
    rw [qaz (by omega)] at l;rw [qaz (by rw [A.len];omega),A.len] at q<;>grind
   grind
  ·rename_i H z0 V;simp at hp;subst hp;rcases mapFind_now hok A V with ⟨l,_⟩|⟨j,z,mm,l,q,pa,S,L⟩
   ·grind
   simp at l;obtain ⟨rfl,rfl⟩:=l;have U:ents[H]?=some mm:=by simpa using q
   refine ⟨K,C,.skip,undef,{w with heap:=w.heap.setIfInBounds b (.map (ents.modify H fun e=>{e with key:=kv,val:=a.eval v}) u)},B _ _ ?_ rfl,.inr ⟨rfl,rfl⟩,?_,.v rfl⟩;·simp [Instr.mapUpdate,run_underlying hu,MapKept.run_getObj_map f,MapKept.run_checkKey O J,MapKept.run_findKey O L,U,S,MapKept.run_keyThatStays J,MapKept.run_setObj_map _ f,Result.andThen]
   refine h.setBox hb rfl hc (FrameOk.setObj f trivial trivial fun _=>rfl) ⟨_,_,(MapKept.heap_set f).1,?_⟩ (fun e=>by grind[Bx.isLoop]);have E:∀(j:Nat) (m':MapEntry),(ents.modify H fun e=>{e with key:=kv,val:=a.eval v}).toList[j]?=some m'->(j=H/\m'.key=kv/\m'.val=a.eval v)\/(j≠H/\ents.toList[j]?=some m'):=fun j m' e=>by grind
   have F:∀(j:Nat) (e':Value×X),(es.set H (kv,y))[j]?=some e'->(j=H/\e'=(kv,y))\/(j≠H/\es[j]?=some e'):=fun j e' e=>by grind
   refine ⟨by simp [A.len],fun j e' m' l q=>?_,fun j e' m' l q=>?_⟩
   ·rcases F j e' l with ⟨Q,M⟩|⟨Q,M⟩
    ·grind
    rcases E j m' q with ⟨k1,_,_⟩|⟨_,Z⟩
    ·grind
    exact A.key j e' m' M Z
   rcases F j e' l with ⟨Q,M⟩|⟨Q,M⟩
   ·grind
   rcases E j m' q with ⟨k1,_,_⟩|⟨_,Z⟩
   ·grind
   exact A.val j e' m' M Z
  grind
theorem one_cells {K:Kn}{C:List CB}(h:CRep K C [z] v.cells.toList)(ha:∀vs,v≠.agg vs):Rep K C z v:=by
 have a:v.cells=#[v]:=by
  cases v<;>first|rfl|grind
 rw [a] at h;exact h.rep 0 z v rfl rfl
theorem agg_cells {K:Kn}{C:List CB}{l:List X}(h:CRep K C l v.cells.toList)(ha:∃vs,v=.agg vs):Rep K C (.agg l) v:=by obtain ⟨vs,rfl⟩:=ha;exact .agg (by have:=h.len<;>grind[Value.cells]) h.cell (fun j x v e a=>h.rep j x v e (by grind[Value.cells]))
theorem zeroX_run {e:TypeId}(h:zeroX P e=some z)(w:World):∃v,(zeroValue e).run P w=.ok v w/\∀K C,Rep K C z v:=by
 have n:∀v l,(P.info? e).bind (·.zero)=some v->zeroP P e=some l->(zeroValue e).run P w=.ok v w/\∀(K:Kn) (C:List CB),CRep K C l v.cells.toList:=fun v l j a=>by obtain ⟨u,f,y,_,_⟩:=zeroP_run a w;obtain ⟨i,q,m⟩:=qaG.1 j<;>simp_all[zeroValue,typeInfo]
 unfold zeroX at h;split at h;next A l j a=>simp at h;subst h<;>simp_all[agg_cells]
 ·grind[one_cells]
 grind
theorem op_mget {t kt e t1 t2:TypeId}{k':Opd}{ok:Bool}{zero:X}(h:Rel P R x K C σ a w)(ho:o.op=.lookup t m k ok)
  (hu:P.underlying t=some (.map kt e)) (hkk:keyP P kt=some kk) (hz:zeroX P e=some zero) (hm:trOpd P R.gl t1 m=some m') (hk:trOpd P R.gl t2 k=some k') (em:σ.ev m'=some xm) (ek:σ.ev k'=some (.v kv))
  (hb:(∃i,xm=.mp i/\σ.bx[i]?=some (.map es))\/(xm=.v (.map none)/\es=[])) (hok:okKey kk kv=true) (hg:mapGet ok zero kv es=some y):OpOk P R x σ a w o y σ.bx:=by
 have Y:=ev_rep h.inv.glob h.tm hm em;have e2:=rep_v (ev_rep h.inv.glob h.tm hk ek);obtain ⟨zv,F,pc⟩:=zeroX_run hz w;have M:=keyP_desc hkk;have J:=okKey_is hok;generalize L:a.eval m=mv at Y;have W:∃ents:List MapEntry,EntsOk K es ents/\∀q:Option (Nat×Value),Instr.findNow kk.desc kv ents 0=some q->(execOp a.eval o).run P w=.ok (.value (match q with|some (_,v)=>if ok then .tuple #[v,.bool true] else v|none=>if ok then .tuple #[zv,.bool false] else zv)) w:=by
  rcases hb with ⟨i,rfl,S⟩|⟨rfl,rfl⟩
  ·cases Y with
   |mp hc=>
    rename_i b;obtain ⟨ents,N,f,H⟩:=h.inv.box i _ _ S hc;refine ⟨ents.toList,H,fun q V=>?_⟩;have B:=MapKept.run_findKey (w:=w) M V;have A:=MapKept.run_checkKey (P:=P) (w:=w) M J ents.isEmpty 9999;cases q with
    |none=>cases ok<;>simp [execOp,ho,L,e2,Instr.lookup,run_underlying hu,MapKept.run_getObj_map f,A,B,F,Result.andThen]
    |some p=>cases ok<;>simp [execOp,ho,L,e2,Instr.lookup,run_underlying hu,MapKept.run_getObj_map f,A,B,Result.andThen]
  have:=rep_v Y;subst this;refine ⟨[],⟨rfl,by simp,by simp⟩,fun q V=>?_⟩;have B:=MapKept.run_findKey (w:=w) M V;have A:=MapKept.run_checkKey (P:=P) (w:=w) M J true 9999;cases q with
  |none=>simp_all[execOp,Instr.lookup,run_underlying]
  |some p=>simp_all[execOp,Instr.lookup,run_underlying]
 obtain ⟨ents,H,n⟩:=W;have pa:∀{z:X} {v:Value} {b:Bool},Rep K C z v->Rep K C (.tup [z,.v (.bool b)]) (.tuple #[v,.bool b]):=fun {z v b} hr=>
  .tup rfl fun j u uv e Z=>by
   cases j with
   |zero=>grind
   |succ j=>cases j with
    |zero=>simp at e Z;subst e;subst Z;exact .v rfl
    |succ j=>simp_all
 unfold mapGet at hg;split at hg
 ·rename_i U;simp at hg;subst hg;rcases mapFind_now hok H U with ⟨_,E⟩|⟨j,z,mm,l,_⟩;·refine .still h (n none E) ?_<;>grind
  grind
 ·rename_i j0 z0 U;simp at hg;subst hg;rcases mapFind_now hok H U with ⟨l,_⟩|⟨j,z,mm,l,O,Q,pb,E⟩
  ·grind
  simp at l;obtain ⟨rfl,rfl⟩:=l;have hv:=(H.val j0 _ _ Q O).2.2.mono (KLe.refl _) (CLe.nil C);refine .still h (n _ E) ?_<;>grind
 grind
theorem op_mlen {tys:Array TypeId}{t kt e t1:TypeId}(h:Rel P R x K C σ a w)(ho:o.op=.call ⟨.builtin .len,#[m],tys⟩)(ht:tys[0]?=some t)(hu:P.underlying t=some (.map kt e))
  (hm:trOpd P R.gl t1 m=some m') (em:σ.ev m'=some xm) (hb:(∃i,xm=.mp i/\σ.bx[i]?=some (.map es))\/(xm=.v (.map none)/\es=[])):OpOk P R x σ a w o (.v (.int .i64 (es.length:Int))) σ.bx:=by
 have q:=ev_rep h.inv.glob h.tm hm em;generalize j:a.eval m=mv at q;refine .still h (v:=.int .i64 (es.length:Int)) ?_ (.v rfl);rcases hb with ⟨i,rfl,n⟩|⟨rfl,rfl⟩
 ·cases q with
  |mp hc=>
   obtain ⟨ents,l,f,u⟩:=h.inv.box i _ _ n hc;have y:ents.size=es.length:=by have:=u.len;simpa using this
   simp [execOp,ho,resolve,invoke,builtin,Builtin.len_,ht,j,run_underlying hu,MapKept.run_getObj_map f,Result.andThen,goInt,y]
 have:=rep_v q;subst this;simp [execOp,ho,resolve,invoke,builtin,Builtin.len_,ht,j,run_underlying hu,Result.andThen,goInt]
theorem op_mkifc {t t1:TypeId}{z:Operand}{z':Opd}{d:TypeDesc}(h:Rel P R x K C σ a w)(ho:o.op=.makeInterface t z)(hu:P.underlying t=some d)(hd:∀ms,d≠.interface ms)(_:trOpd P R.gl t1 z=some z')(_:σ.ev z'=some y):OpOk P R x σ a w o .ifc σ.bx:=by refine .still h (v:=.iface t (a.eval z)) ?_ .ifc<;>simp_all[execOp,Instr.makeInterface,run_underlying]
theorem op_inil {op:BinOp}{t t1 u:TypeId}{p:Operand}{p':Opd}{neg:Bool}{ms:Array (String×TypeId)}(h:Rel P R x K C σ a w)(ho:o.op=.binOp op t p (.const .nilIface) u)(hop:op=if neg then .neq else .eql)(hu:P.underlying t=some (.interface ms))
  (hp:trOpd P R.gl t1 p=some p') (ep:σ.ev p'=some y) {b:Bool} (hy:(y=.ifc/\b=neg)\/(y=.v .nilIface/\b=!neg)):OpOk P R x σ a w o (.v (.bool b)) σ.bx:=by
 have r:=ev_rep h.inv.glob h.tm hp ep;generalize E:a.eval p=pv at r;refine .still h (v:=.bool b) ?_ (.v rfl);have F:a.eval (.const .nilIface)=.nilIface:=rfl;rcases hy with ⟨rfl,rfl⟩|⟨rfl,rfl⟩
 ·cases r with
  |ifc=>
   rename_i f j;have q:∀d,(Op.equalIn (d+1) t (.iface f j) .nilIface).run P w=.ok false w:=by intro d;simp [Op.equalIn,run_underlying hu]
   have l:(Op.equal t (.iface f j) .nilIface).run P w=.ok false w:=q 9999;have m:binOp .eql t (.iface f j) .nilIface=(do pure (.bool (<-Op.equal t (.iface f j) .nilIface)):Sem Value):=rfl;have n:binOp .neq t (.iface f j) .nilIface=(do pure (.bool (!(<-Op.equal t (.iface f j) .nilIface))):Sem Value):=rfl;generalize Op.equal t (.iface f j) .nilIface=s at l m n;have B:(eqGuard op t p (.const .nilIface) (.iface f j) .nilIface).run P w=.ok () w:=by unfold eqGuard;split<;>rfl
   have A:(binOp op t (.iface f j) .nilIface).run P w=.ok (.bool b) w:=by
    cases b with
    |true=>simp_all
    |false=>simp_all
   simp_all[execOp]
 have:=rep_v r;subst this;have q:∀d,(Op.equalIn (d+1) t .nilIface .nilIface).run P w=.ok true w:=by intro d;simp [Op.equalIn,run_underlying hu]
 have l:(Op.equal t .nilIface .nilIface).run P w=.ok true w:=q 9999;have m:binOp .eql t .nilIface .nilIface=(do pure (.bool (<-Op.equal t .nilIface .nilIface)):Sem Value):=rfl;have n:binOp .neq t .nilIface .nilIface=(do pure (.bool (!(<-Op.equal t .nilIface .nilIface))):Sem Value):=rfl;generalize Op.equal t .nilIface .nilIface=s at l m n;have B:(eqGuard op t p (.const .nilIface) .nilIface .nilIface).run P w=.ok () w:=by unfold eqGuard;split<;>first|rfl|simp
 have A:(binOp op t .nilIface .nilIface).run P w=.ok (.bool (!neg)) w:=by
  cases neg with
  |true=>simp_all
  |false=>simp_all
 simp_all[execOp]
end
section
variable {new:qaW}{sz:Nat}
variable {P:Program} {R:CodeRel} {x:Ctx} {K:Kn} {C:List CB} {σ:St} {a:Act} {w:World}
variable {o:Oper} {y:X} {bx:List Bx} {fp:FP} {A:Ann} {Γ:Gam}
theorem src_first (h:Inv P R K C σ.bx w){z:X}{v:Value}(hr:Rep K C z v)(e:srcOf σ.bx z=some (sz,new)):
  ∃oc c news,v=.slice oc new.length c/\Flat K sz new news/\∀n,n<=new.length->(Builtin.firstCells sz n (.slice oc new.length c)).run P w=.ok (news.take (n*sz)).toArray w:=by
 have S:∀(b o' m c:Nat) (news:List Value),news.length=m*sz->(∀k u,news[k]?=some u->w.cell? ⟨b,o'+k,none⟩=some u)->∀n,n<=m->
   (Builtin.firstCells sz n (.slice (some ⟨b,o',none⟩) m c)).run P w=.ok (news.take (n*sz)).toArray w:=by
  intro b o' m c news hl J n pa;refine run_firstCells_some w sz n ⟨b,o',none⟩ m c _ ?_ (fun j u A=>?_);·simp_all
  ·grind[addr_add]
 unfold srcOf at e;split at e
 ·rename_i t s F;simp at e;obtain ⟨rfl,rfl⟩:=e;have Q:=hr;cases hr with
  |slNil=>
   rename_i E;exact ⟨E,0,[],rfl,Flat.nil,fun n J=>by
    have:n=0:=by simpa using J
    subst this;cases E<;>simp [Builtin.firstCells,loadCells,loadCellsFrom]⟩
  |sl vals O ht hcap hcell hk hrr=>obtain ⟨U,H,N⟩:=Q.flat;exact ⟨_,_,U,rfl,H,S _ _ _ _ U H.len (fun k u A=>h.known _ _ _ (N k u A))⟩
 ·rename_i i l len;unfold rowOf at e;split at e
  ·rename_i s F W;split at e
   ·rename_i O;simp at e;obtain ⟨rfl,rfl⟩:=e;have a:((F.drop l).take len).length=len:=by simp;omega
    cases hr with
    |bs hc hcap hlc=>
     rename_i b y hi q M;obtain ⟨L,el,V,h2,h3,Y,H⟩:=(h.box i _ _ W hc).flat;subst V;have f:∀k u,(((((L.toList.drop y).take (F.length*q)).drop (l*q)).take (len*q)))[k]?=some u->w.cell? ⟨b,y+l*q+k,none⟩=some u:=by
      intro k u A;rw [qax] at A;split at A;·rw [qaw,qax] at A<;>grind[World.cell?]
      ·grind
     have B:=(H.drop l).take len;refine ⟨_,M,_,by rw [a],B,?_⟩;rw [a];exact S _ _ _ _ _ (by rw [B.len,a]) f
    |bsNil hc=>
     have Z:((F.drop 0).take 0)=[]:=by simp
     rw [Z];rename_i E;exact ⟨E,0,[],rfl,Flat.nil,fun n J=>by
      have:n=0:=by simpa using J
      subst this;cases E<;>simp [Builtin.firstCells,loadCells,loadCellsFrom]⟩
   grind
  grind
 grind
theorem op_copy {t0 e:TypeId}{args:Array Operand}{tys:Array TypeId}{pd ps:Operand}{qd qs:Opd}{td ts:TypeId}{i off len:Nat}{es:qaW}{ys:X}(h:Rel P R x K C σ a w)(ho:o.op=.call ⟨.builtin .copy,args,tys⟩)(ha:args.toList=[pd,ps])
  (h0:tys[0]?=some t0) (hu0:P.underlying t0=some (.slice e)) (hs:sizeP P e=some sz)
  (hpd:trOpd P R.gl td pd=some qd) (hps:trOpd P R.gl ts ps=some qs) (epd:σ.ev qd=some (.bs i off (len+1))) (eps:σ.ev qs=some ys) (hsrc:srcOf σ.bx ys=some (sz,new)) (hbx:σ.bx[i]?=some (.row sz es)) (hend:off+(len+1)<=es.length):
  OpOk P R x σ a w o (.v (.int .i64 ((min new.length (len+1):Nat):Int))) (σ.bx.set i (.row sz (es.take off++new.take (min new.length (len+1))++es.drop (off+min new.length (len+1))))):=by
 have Z:args=#[pd,ps]:=by rw [<-Array.toArray_toList (xs:=args),ha]
 subst Z;have r1:=ev_rep h.inv.glob h.tm hpd epd;have r2:=ev_rep h.inv.glob h.tm hps eps;obtain ⟨oc,c,m,ph,U,J⟩:=src_first h.inv r2 hsrc;have u:min new.length (len+1)<=new.length:=Nat.min_le_left _ _;have M:min new.length (len+1)<=len+1:=Nat.min_le_right _ _;have E:Nat.min new.length (len+1)=min new.length (len+1):=rfl;generalize hn:min new.length (len+1)=n at u M E ⊢;have J:=J n u;generalize pa:a.eval pd=dv at r1;cases r1 with
 |bs hc hcap hlc=>
  rename_i b j hi f pi;obtain ⟨l,el,g1,g2,g3,H,L⟩:=(h.inv.box i _ _ hbx hc).flat;subst g1;have W:=qaJ f (show off+n<=es.length by omega);rw [Nat.add_mul] at W;have Q:(m.take (n*f)).length=n*f:=by have:=qaJ f u;rw [qag,U.len];omega
  have V:=U.take n;have O:=run_storeCells_at P b (j+off*f) el (m.take (n*f)) 0 l w H (by omega) V.oneCell;simp only [Nat.add_zero] at O;generalize A:(l.toList.take (j+off*f)++m.take (n*f)++l.toList.drop (j+off*f+(m.take (n*f)).length)).toArray=arr' at O;have hT:(l.toList.take (j+off*f)).length=j+off*f:=by simp;omega
  have N:arr'.size=l.size:=by rw [<-A];simp;omega
  refine ⟨K,C,_,.int .i64 (n:Int),w.setRow b arr',?_,.inl rfl,?_,.v rfl⟩
  ·obtain ⟨ii,pc,pe⟩:∃ii,P.info? e=some ii/\ii.size=f:=by simp_all[sizeP]
   simp [execOp,ho,resolve,invoke,builtin,Builtin.copy_,h0,run_underlying hu0,pa,ph,Builtin.lenOf,E,sizeOf,typeInfo,pc,pe,J,O,goInt,Result.andThen]
  have B:∀q,arr'[q]?=if q<j+off*f then l[q]? else if q<j+off*f+n*f then m[q-(j+off*f)]? else l[q]?:=by
   intro q;rw [<-A,List.getElem?_toArray,Q];by_cases S:q<j+off*f;·simp_all[qar]
   rw [if_neg S];by_cases Y:q<j+off*f+n*f;·rw [if_pos Y,qar (by grind),qaz (by omega),hT,qax,if_pos (by omega)]
   rw [if_neg Y,qaz (by rw [qau];omega),qaw,qau,hT,Q,Array.getElem?_toList]<;>simp_all
  have pb:=((L.take off).append V).append (L.drop (off+n));have pf:(es.take off++new.take n++es.drop (off+n)).length=es.length:=by simp;omega
  have F:=L.len;refine h.setBox hbx rfl hc (FrameOk.setRow H N fun q hq=>?_) (pb.box (setRow_heap w b l arr' el _ H) (fun k v y=>?_) ?_ (by omega)) (fun e=>by grind[Bx.isLoop])
  ·rw [B];by_cases S:q<j+off*f
   ·grind
   rw [if_neg S];by_cases Y:q<j+off*f+n*f;·exact absurd ⟨rfl,by omega,by omega⟩ hq
   grind
  ·rw [B];have hk:=(qak.1 y).1;have e1:(((l.toList.drop j).take (es.length*f)).take (off*f)).length=off*f:=by rw [qag,F];omega
   have pg:(off+n)*f=off*f+n*f:=Nat.add_mul _ _ _;by_cases S:k<off*f
   ·rw [if_pos (by omega)];rw [qaL,qar (by omega),qax,if_pos S,qax] at y;split at y;·rw [qaw,Array.getElem?_toList] at y<;>grind
    grind
   rw [if_neg (by omega)];by_cases Y:k<off*f+n*f
   ·rw [if_pos (by omega)];rw [qar (by grind),qaz (by omega),e1,qax] at y;split at y;·rw [<-y];congr 1;omega
    grind
   rw [if_neg (by omega)];rw [qaz (by grind),qau,e1,Q,qaw,qax] at y;split at y;·rw [qaw,Array.getElem?_toList] at y;rw [<-y];congr 1;omega
   grind
  grind
end
section
variable {i:Nat}
variable {P:Program} {R:CodeRel} {x:Ctx} {K:Kn} {C:List CB} {σ:St} {a:Act} {w:World}
variable {o:Oper} {y:X} {bx:List Bx} {fp:FP} {A:Ann} {Γ:Gam}
theorem Rel.move (h:Rel P R x K C σ a w){D B:Bx}{c c':CB}(hD:σ.bx[i]?=some D)(hl:D.live=true)(hnl:D.isLoop=false)(hc:C[i]?=some c)(hsub:∀b o,c'.owns b o->c.owns b o)
  (hB:BoxOk P R K (C++[c']) w B c'):Rel P R x K (C++[c']) ⟨σ.tm,σ.bx.set i .dead++[B]⟩ a w:=by
 have E:=h.kill i (fun O e Z=>by grind);have n:∀b o,c'.owns b o->Owns C σ.bx b o:=fun b o A=>⟨i,c,D,hc,hD,hl,hsub b o A⟩;have y:∀b o,c'.owns b o->¬Owns C (σ.bx.set i .dead) b o:=by
  rintro b o A ⟨j,d,N,V,l,m,L⟩
  rw [List.getElem?_set] at l;split at l
  ·grind[Bx.live]
  rename_i H;exact h.inv.disj i j c d D N b o H hc V hD l hl m (hsub b o A) L
 have f:∀b o,Owns (C++[c']) (σ.bx.set i .dead++[B]) b o->Owns C σ.bx b o:=by
  intro b o u;rcases owns_push (by simpa using h.inv.size) u with u|u
  ·grind[owns_kill]
  ·grind
 refine {E with inv:=?_,tm:=?_,own:=?_,cin:=?_,defs:=?_,loops:=?_};·exact E.inv.push hB (fun b o A=>h.inv.apart b o (n b o A)) y
 ·exact E.tm.mono (KLe.refl _) (CLe.append _ _)
 ·intro b o u;exact h.own b o (f b o u)
 ·intro j d e;exact CLe.append _ _ _ _ (h.cin j d e)
 ·obtain ⟨Y,Q,S,F⟩:=h.defs.marks;exact ⟨⟨Y,Q,S,fun r J=>⟨(F r J).1,(F r J).2.1,fun q u=>(F r J).2.2 q (f r q u)⟩⟩,h.defs.round⟩
 intro j W m;obtain ⟨O,U,M⟩:=E.loops j W m<;>grind
theorem op_app_bs {t0 t1 e e1:TypeId}{args:Array Operand}{tys:Array TypeId}{ps pz:Operand}{qs qz:Opd}{ts tz:TypeId}{sz bytes off len:Nat}{z:List X}{es new:qaW}{yz:X}(h:Rel P R x K C σ a w)(ho:o.op=.call ⟨.builtin .append,args,tys⟩)(ha:args.toList=[ps,pz])
  (h0:tys[0]?=some t0) (h1:tys[1]?=some t1) (hu0:P.underlying t0=some (.slice e)) (hu1:P.underlying t1=some (.slice e1)) (hs:sizeP P e=some sz) (hb:bytesP P e=some bytes) (hz:zeroP P e=some z) (hpos:0<bytes)
  (hps:trOpd P R.gl ts ps=some qs) (hpz:trOpd P R.gl tz pz=some qz) (eps:σ.ev qs=some (.bs i off len)) (epz:σ.ev qz=some yz) (hsrc:srcOf σ.bx yz=some (sz,new)) (hbx:σ.bx[i]?=some (.row sz es)) (hend:off+len=es.length)
  (hroom:roomOk (len+new.length) bytes=true):
  OpOk P R x σ a w o (.bs σ.bx.length 0 (len+new.length)) (σ.bx.set i .dead++[.row sz (es.drop off++new)]):=by
 have pw:args=#[ps,pz]:=by rw [<-Array.toArray_toList (xs:=args),ha]
 subst pw;have pu:∃rest,tys=(t0::t1::rest).toArray:=by
  have e0:tys=tys.toList.toArray:=by simp
  cases hl:tys.toList with
  |nil=>rw [e0,hl] at h0<;>grind
  |cons a0 r=>cases r with
   |nil=>rw [e0,hl] at h1<;>grind
   |cons b0 r=>rw [e0,hl] at h0 h1<;>grind
 obtain ⟨rest,rfl⟩:=pu;simp only [roomOk,qab,qaI] at hroom;have r1:=ev_rep h.inv.glob h.tm hps eps;have r2:=ev_rep h.inv.glob h.tm hpz epz;obtain ⟨oc,c,u,qi,M,pe,_⟩:=src_rep h.inv r2 hsrc;have pk:srcOf σ.bx (.bs i off len)=some (sz,es.drop off):=by
  simp only [srcOf,rowOf,hbx];rw [if_pos (by omega)]
  congr 2
  exact List.take_of_length_le (by grind)
 obtain ⟨ob,cap,S,Z,py,V,qf⟩:=src_rep h.inv r1 pk;have O:(es.drop off).length=len:=by simp;omega
 rw [O] at Z V;have H:(execOp a.eval o).run P w=((Builtin.append_ #[t0,t1] o.type #[.slice ob len cap,.slice oc new.length c]).run P w).andThen fun v w'=>.ok (.value v) w':=by
  have pa:Builtin.append_ (t0::t1::rest).toArray o.type #[a.eval ps,a.eval pz]=Builtin.append_ #[t0,t1] o.type #[a.eval ps,a.eval pz]:=by simp [Builtin.append_]
  simp only [execOp,ho,resolve,invoke,builtin,Sem.run_bind,Sem.run_pure,Result.andThen_ok,List.map_toArray,qaR,List.map_nil,pa];rw [Z,qi]
 have po:=py.append M;have pf:(S++u).length=(len+new.length)*sz:=by rw [po.len,qau,O]
 have ra:(Bx.row sz es).isLoop=false:=rfl;have grow:cap<len+new.length->OpOk P R x σ a w o (.bs σ.bx.length 0 (len+new.length)) (σ.bx.set i .dead++[.row sz (es.drop off++new)]):=by
  intro qb;obtain ⟨pv,E,pt⟩:=run_app_grow (P:=P) (ty:=o.type) hu0 hu1 hs hb hz S u V pe qb (by omega) hroom.2 hpos;have hm:=grownCap_ge w (len+new.length) cap e;generalize qv:grownCap w (len+new.length) cap e=m at E pt hm;have hk:=(h.still (FrameOk.drew nowhere w)).kill i (fun B e e'=>by grind);have rb:(S++u++pv).toArray.size=m*sz:=by simp only [List.size_toArray];rw [qau,pf,pt,<-Nat.add_mul];congr 1;omega
  have pd:(C++[CB.at w.heap.size 0 (m*sz) sz])[σ.bx.length]?=some (.at w.heap.size 0 (m*sz) sz):=by rw [<-h.inv.size];simp
  refine ⟨K,C++[.at w.heap.size 0 (m*sz) sz],_,_,_,by rw [H,E];rfl,.inl rfl,?_,?_⟩
  ·refine hk.push _ (po.box (alloc_get w.drew _) (fun k v hv=>?_) ?_ (by omega)) (fun b k hw=>hw.1)
   ·grind
   simp_all[qaJ]
  have:=Rep.bs (K:=K) (off:=0) (len:=len+new.length) (cap:=m) pd (by simp) hm<;>grind
 rw [Z] at r1;cases r1 with
 |bs hc hcap hlc=>
  rename_i b l Y f;obtain ⟨A,el,g1,g2,g3,J,pl⟩:=(h.inv.box i _ _ hbx hc).flat;subst g1;by_cases N:len+new.length<=cap
  ·have qa:l+off*f+(len+new.length)*f<=Y:=by have h5:=qaJ f N;rw [Nat.add_mul] at hcap;omega
   have qn:=M.len;rw [Nat.add_mul] at qa;have pr:=run_storeCells_at P b (l+off*f+len*f) el u 0 A w J (by omega) M.oneCell;simp only [Nat.add_zero] at pr;have E:=run_app_fit (P:=P) (ty:=o.type) (ob:=some ⟨b,l+off*f,none⟩) hu0 hu1 hs u _ (pe w rfl) N (fun ad e=>by cases e;rw [addr_add];omega) (fun e=>by cases e);generalize U:(A.toList.take (l+off*f+len*f)++u++A.toList.drop (l+off*f+len*f+u.length)).toArray=arr' at E pr;have hT:(A.toList.take (l+off*f+len*f)).length=l+off*f+len*f:=by simp;omega
   have pj:arr'.size=A.size:=by rw [<-U];simp;omega
   have W:∀q,arr'[q]?=if q<l+off*f+len*f then A[q]? else if q<l+off*f+len*f+u.length then u[q-(l+off*f+len*f)]? else A[q]?:=by
    intro q;rw [<-U,List.getElem?_toArray];by_cases h5:q<l+off*f+len*f;·simp_all[qar]
    rw [if_neg h5,qaL,qaz (by omega),hT];by_cases h6:q<l+off*f+len*f+u.length;·rw [if_pos h6,qar (by omega)]
    rw [if_neg h6,qaz (by omega),qaw,toArray_getElem?]
    congr 1;omega
   have qm:es.length*f=off*f+len*f:=by rw [<-hend,Nat.add_mul]
   have pn:=pl.append M;have L:BoxOk P R K C (w.setRow b arr') (.row f (es++new)) (.at b l Y f):=by
    refine pn.box (setRow_heap w b A arr' el _ J) (fun k v hv=>?_) (by rw [qau,Nat.add_mul];omega) (by omega);have hL:((A.toList.drop l).take (es.length*f)).length=es.length*f:=by simp;omega
    rw [W];by_cases hk:k<es.length*f
    ·rw [qar (by omega),qax,if_pos hk,qaw,toArray_getElem?] at hv
     grind
    rw [qaz (by omega),hL] at hv;have:=(qak.1 hv).1;rw [if_neg (by omega),if_pos (by omega),<-hv];congr 1;omega
   have pi:=h.setBox (B:=.row f (es++new)) hbx rfl hc (FrameOk.setRow J pj fun q hq=>by
    rw [W];have qq:¬(l<=q/\q<Y):=fun hh=>hq ⟨rfl,hh.1,hh.2⟩;by_cases h5:q<l+off*f+len*f
    ·grind
    rw [if_neg h5,if_neg (by omega)]) L (fun e=>by cases e)
   have pg:(σ.bx.set i (.row f (es++new)))[i]?=some (.row f (es++new)):=by simp [(qak.1 hbx).1]
   have pc:BoxOk P R K (C++[.at b (l+off*f) Y f]) (w.setRow b arr') (.row f (es.drop off++new)) (.at b (l+off*f) Y f):=by
    obtain ⟨_,_,_,qk,qt,pb,qu,qd⟩:=L;rw [setRow_heap w b A arr' el _ J] at pb;simp only [qah,Obj.cells.injEq] at pb;obtain ⟨rfl,rfl,_⟩:=pb;refine ⟨rfl,by rw [qau,O,Nat.add_mul];omega,fun e0 F=>?_,arr',el,setRow_heap w b A arr' el _ J,by omega,fun i' j y hy=>?_⟩
    ·rcases qaO.1 F with F|F;·exact pl.elems _ (List.mem_of_mem_drop F)
     exact M.elems _ F
    have hd:es.drop off++new=(es++new).drop off:=by rw [List.drop_append_of_le_length (by omega)]
    obtain ⟨e0,F,hj⟩:=at2_some.1 hy;rw [hd,qaw] at F;obtain ⟨px,v,hv,qe⟩:=qd (off+i') j y (at2_some.2 ⟨e0,F,hj⟩);refine ⟨px,v,?_,qe⟩<;>grind
   have Q:=pi.move pg rfl rfl hc (c':=.at b (l+off*f) Y f) (fun b' o' hw=>⟨hw.1,by have:=hw.2.1;omega,hw.2.2⟩) pc;have qr:(σ.bx.set i (.row f (es++new))).set i .dead=σ.bx.set i .dead:=by simp
   simp at Q;have pd:(C++[CB.at b (l+off*f) Y f])[σ.bx.length]?=some (.at b (l+off*f) Y f):=by rw [<-h.inv.size];simp
   refine ⟨K,_,_,_,_,by rw [H,E];rfl,.inl rfl,Q,?_⟩;have:=Rep.bs (K:=K) (off:=0) (len:=len+new.length) (cap:=cap) pd (by grind) N
   grind
  grind
 |bsNil hc=>
  by_cases hn:new=[];·subst hn;have ph:u=[]:=qaP (by grind);subst ph;have he:es=[]:=qaP (by omega);subst he;have E:=fun ob=>run_app_fit (P:=P) (ty:=o.type) (ob:=ob) (n:=0) (cap:=0) hu0 hu1 hs [] w (pe w rfl) (by simp) (fun ad e=>by simp [storeCells]) (fun _=>rfl);have pp:=h.move (B:=.row sz []) (c':=.ghost) hbx rfl rfl hc (fun b o hw=>hw.elim) rfl;refine ⟨K,_,_,_,_,by rw [H,E];rfl,.inl rfl,pp,?_⟩;exact Rep.bsNil (C:=C++[CB.ghost]) (by rw [<-h.inv.size];simp)
  grind
end
section
variable {tm:List (Nat×X)}{inb:List Bx}{C':List CB}{sel:List Nat}{i n:Nat}{f:Nat->Nat}{y:X}
variable {P:Program} {R:CodeRel} {x:Ctx} {K:Kn} {C:List CB} {σ:St} {a:Act} {w:World}
def Fr (r:Option Nat):Fence:={Fence.wide with round:=r}
structure PostK (P:Program) (R:CodeRel) (K:Kn) (C:List CB) (inb:List Bx) (w:World) (res:X) (outb:List Bx) (v:Value) (w':World) (K':Kn) (E:List CB):Prop where
 inv:Inv P R K' (C++E) outb w'
 res:Rep K' (C++E) res v
 kle:KLe K K'
 knew:∀(b o:Nat) (u:Value),K' b o=some u->K b o=some u\/Owns C inb b o\/w.heap.size<=b
 own:∀(b o:Nat),Owns (C++E) outb b o->Owns C inb b o\/w.heap.size<=b
 frame:FrameOk (Owns C inb) w w'
 loops:∀(i:Nat) (B:Bx),inb[i]?=some B->B.isLoop=true->∃B',outb[i]?=some B'/\B'.isLoop=true
def Post (P:Program)(R:CodeRel)(K:Kn)(C:List CB)(inb:List Bx)(w:World)(res:X)(outb:List Bx)(e:Ending)(w':World):Prop:=
 ∃(v:Value) (K':Kn) (E:List CB),e=.returned v/\PostK P R K C inb w res outb v w' K' E
def ArgsRep (K:Kn)(C:List CB)(args:List X)(cargs:Array Value):Prop:=
 cargs.size=args.length/\∀(j:Nat) (y:X) (v:Value),args[j]?=some y->cargs[j]?=some v->Rep K C y v
def FSem (P:Program)(R:CodeRel)(f:FuncId)(args:List X)(inb:List Bx)(res:X)(outb:List Bx):Prop:=
 ∀(K:Kn) (C:List CB) (w:World) (cargs:Array Value),Inv P R K C inb w->ArgsRep K C args cargs->Calls P f cargs w (Post P R K C inb w res outb)
def YSem (P:Program)(R:CodeRel)(args:List X)(inb:List Bx)(res:X)(outb:List Bx):Prop:=
 ∃(i:Nat) (as:List X),args=.yl i::as/\∀(K:Kn) (C:List CB) (w:World) (cargs:Array Value) (l:Nat) (r:Option Nat),Inv P R K C inb w->C[i]?=some (.obj l)->ArgsRep K C as cargs->
  ∃(f:FuncId) (tmps:Array Value) (assign body:Code),(Instr.yield l cargs).run P w=.ok (.round l f tmps assign body) w/\RoundIn (Fr r) 0 P l f tmps assign body w (Post P R K C inb w res outb)
def FnOk (P:Program)(f:FuncId):Prop:=∀(args:Array Value) (w:World),(callFunc f args).run P w=.ok (.enter f args) w
structure GamOk (P:Program) (R:CodeRel) (Γ:Gam):Prop where
 fn:∀(f:FuncId) (args:List X) (inb:List Bx) (res:X) (outb:List Bx),Γ (.fn f) args inb=some (res,outb)->FnOk P f/\FSem P R f args inb res outb
 yl:∀(args:List X) (inb:List Bx) (res:X) (outb:List Bx),Γ .yl args inb=some (res,outb)->YSem P R args inb res outb
theorem getBs_get {bx:List Bx}:∀{sel:List Nat} {l:List Bx},getBs bx sel=some l->l.length=sel.length/\∀(j i:Nat),sel[j]?=some i->∃B,bx[i]?=some B/\l[j]?=some B
 |[],l,h=>by grind[getBs]
 |i::r,l,h=>by
  simp only [getBs] at h;cases hb:bx[i]? with
  |none=>grind
  |some b=>
   simp only [hb] at h;obtain ⟨l',hl,rfl⟩:=qac.1 h;obtain ⟨h1,h2⟩:=getBs_get hl
   grind
theorem nodupN_iff:∀{l:List Nat},nodupN l=true↔l.Nodup
 |[]=>by simp [nodupN]
 |n::r=>by
  have:memN n r=true↔n∈r:=memN_iff;simp only [nodupN,qab,Bool.not_eq_true',List.nodup_cons,nodupN_iff (l:=r)]
  grind
theorem idxN_at {l:List Nat}(h:l.Nodup){j:Nat}(e:l[j]?=some i):idxN i l=j:=by grind[idxN_get,List.getElem?_inj]
theorem isLoop_ren (f:Nat->Nat)(B:Bx):(B.ren f).isLoop=B.isLoop:=by cases B<;>rfl
theorem live_ren (f:Nat->Nat)(B:Bx):(B.ren f).live=B.live:=by cases B<;>rfl
theorem lk_renT (f:Nat->Nat):∀(tm:List (Nat×X)) (n:Nat),lk (renT f tm) n=(lk tm n).map (X.ren f)
 |[],n=>rfl
 |(k,y)::r,n=>by have ih:=lk_renT f r n<;>grind[renT,lk]
theorem lk_mem :lk tm n=some y->∃p,p∈tm/\p.2=y:=by
 induction tm with
 |nil=>grind[lk]
 |cons p r ih=>grind[lk]
theorem refs_of_lk (h:lk tm n=some y)(hi:i∈y.refs):i∈refsL (tm.map (·.2)):=by obtain ⟨p,a,rfl⟩:=lk_mem h;exact mem_refsL.2 ⟨p.2,qam.2 ⟨p,a,rfl⟩,hi⟩
theorem TmOk.ren {tmps:Array Value}(h:TmOk K C tm tmps)(hC:∀i,i∈refsL (tm.map (·.2))->∀c,C[i]?=some c->C'[f i]?=some c):TmOk K C' (renT f tm) tmps:=by intro n y e;rw [lk_renT] at e;obtain ⟨z,hz,rfl⟩:=qac.1 e;obtain ⟨v,l,j⟩:=h n z hz;exact ⟨v,l,j.ren fun i a=>hC i (refs_of_lk hz a)⟩
theorem CRep.ren {xs:List X}{vs:List Value}(h:CRep K C xs vs)(hC:∀i,i∈refsL xs->∀c,C[i]?=some c->C'[f i]?=some c):CRep K C' (renL f xs) vs:=by
 refine ⟨by rw [renL_eq];simpa using h.len,fun y a=>?_,fun j y v e l=>?_⟩;·rw [renL_eq] at a;obtain ⟨z,hz,rfl⟩:=qam.1 a;rw [isCell_ren];exact h.cell z hz
 rw [renL_eq,qaA] at e;obtain ⟨z,hz,rfl⟩:=qac.1 e;exact (h.rep j z v hz l).ren fun i m=>hC i (mem_refsL.2 ⟨z,qap hz,m⟩)
theorem BoxOk.ren {B:Bx}{c:CB}(h:BoxOk P R K C w B c)(hC:∀i,i∈B.refs->∀c,C[i]?=some c->C'[f i]?=some c):BoxOk P R K C' w (B.ren f) c:=by
 cases B with
 |dead=>trivial
 |var cs=>cases c with
  |«at»=>obtain ⟨n,A,m,el,q,y⟩:=h;exact ⟨n,by grind[renL_eq],m,el,q,y.ren hC⟩
  |ghost=>exact h.elim
  |obj=>exact h.elim
 |row sz es=>cases c with
  |«at»=>exact h
  |ghost=>exact h
  |obj=>exact h.elim
 |map es=>cases c with
  |obj=>exact h
  |«at»=>exact h.elim
  |ghost=>exact h.elim
 |loop st p tm ps a b=>cases c with
  |obj=>obtain ⟨l,u,j⟩:=h;exact ⟨l,u,j.hst,j.hpend,j.htm.ren hC,j.hps,j.hin,j.hcode⟩
  |«at»=>exact h.elim
  |ghost=>exact h.elim
theorem Inv.pick {bx:List Bx}(h:Inv P R K C bx w)(e:pickB bx sel=some inb):
  ∃C1:List CB,Inv P R K C1 inb w/\C1.length=sel.length/\(∀(j i:Nat) (c:CB),sel[j]?=some i->C[i]?=some c->C1[j]?=some c)/\
   (∀(j i:Nat),sel[j]?=some i->∃B,bx[i]?=some B/\inb[j]?=some (B.ren (idxN · sel)))/\inb.length=sel.length/\sel.Nodup/\(∀(j:Nat) (c:CB),C1[j]?=some c->∃i,sel[j]?=some i/\C[i]?=some c)/\
   (∀i,i∈sel->∀c,C[i]?=some c->C1[idxN i sel]?=some c):=by
 unfold pickB at e;split at e
 ·grind
 rename_i l hl;split at e
 ·rename_i U;simp at e;subst e;simp at U;have F:=nodupN_iff.1 U.1;obtain ⟨pa,n⟩:=getBs_get hl;have O:∀(j i:Nat) (c:CB),sel[j]?=some i->C[i]?=some c->(sel.map fun i=>C.getD i .ghost)[j]?=some c:=by intro j i c a y;simp [a,List.getD,y]
  have f:∀(j:Nat) (c:CB),(sel.map fun i=>C.getD i .ghost)[j]?=some c->∃i,sel[j]?=some i/\C[i]?=some c:=by intro j c a;rw [qaA] at a;obtain ⟨i,V,rfl⟩:=qac.1 a;obtain ⟨B,N,_⟩:=n j i V;obtain ⟨c,U,_⟩:=h.get N;exact ⟨i,V,by grind⟩
  have u:∀i,i∈sel->∀c,C[i]?=some c->(sel.map fun i=>C.getD i .ghost)[idxN i sel]?=some c:=fun i V c e=>O _ i c (idxN_get V) e;have Y:∀(j i:Nat),sel[j]?=some i->∃B,bx[i]?=some B/\(l.map (Bx.ren (idxN · sel)))[j]?=some (B.ren (idxN · sel)):=by intro j i a;obtain ⟨B,L,M⟩:=n j i a;exact ⟨B,L,by grind⟩
  have m:∀(j:Nat) (B':Bx),(l.map (Bx.ren (idxN · sel)))[j]?=some B'->∃i B,sel[j]?=some i/\bx[i]?=some B/\B'=B.ren (idxN · sel)/\subN B.refs sel=true:=by
   intro j B' a;have hj:j<sel.length:=by have:=(qak.1 a).1;simp at this;omega
   obtain ⟨B,L,M⟩:=n j sel[j] (qad hj);rw [qaA,M] at a;simp at a;exact ⟨sel[j],B,qad hj,L,a.symm,U.2 B (qap M)⟩
  have H:∀(b o:Nat),Owns (sel.map fun i=>C.getD i .ghost) (l.map (Bx.ren (idxN · sel))) b o->Owns C bx b o:=by
   rintro b o ⟨j,c,B',L,M,h3,h4⟩
   obtain ⟨i,B,a,y,rfl,_⟩:=m j B' M;obtain ⟨i',q,J⟩:=f j c L;rw [a] at q;cases q;exact ⟨i,c,B,J,y,by grind[live_ren],h4⟩
  refine ⟨sel.map fun i=>C.getD i .ghost,⟨h.glob,h.known,by grind,fun b o ho=>h.apart b o (H b o ho),?_,?_⟩,by simp,O,Y,by grind,F,f,u⟩;·intro j k c d A B b o Z E hd hA N Q S hw;obtain ⟨i,A0,a,y,rfl,_⟩:=m j A hA;obtain ⟨i',B0,f1,f2,rfl,_⟩:=m k B N;obtain ⟨i2,q,J⟩:=f j c E;obtain ⟨i3,f3,f4⟩:=f k d hd;rw [a] at q;cases q;rw [f1] at f3;cases f3;rw [live_ren] at Q S;refine h.disj i i' c d A0 B0 b o (fun W=>Z ?_) J f4 y f2 Q S hw;subst W;rw [<-idxN_at F a,<-idxN_at F f1]
  intro j B' c N E;obtain ⟨i,B,a,y,rfl,e5⟩:=m j B' N;obtain ⟨i',q,J⟩:=f j c E;rw [a] at q;cases q;exact (h.box i B c y J).ren fun k hk=>u k (subN_iff.1 e5 k hk)
 grind
theorem setBs_length:∀(sel:List Nat) (s bx:List Bx),(setBs sel s bx).length=bx.length
 |[],_,_=>by simp [setBs]
 |_::_,[],_=>by simp [setBs]
 |i::r,b::s,bx=>by simp [setBs,setBs_length r s]
theorem setBs_other:∀(sel:List Nat) (s bx:List Bx) (i:Nat),i∉sel->(setBs sel s bx)[i]?=bx[i]?
 |[],_,_,_,_=>by simp [setBs]
 |_::_,[],_,_,_=>by simp [setBs]
 |k::r,b::s,bx,i,h=>by simp at h;rw [setBs,setBs_other r s _ i h.2,List.getElem?_set_ne (fun e=>h.1 e.symm)]
theorem setBs_at:∀(sel:List Nat) (s bx:List Bx) (j i:Nat) (B:Bx),sel.Nodup->sel[j]?=some i->s[j]?=some B->i<bx.length->(setBs sel s bx)[i]?=some B
 |[],_,_,_,_,_,_,h,_,_=>by grind
 |_::_,[],_,_,_,_,_,_,h,_=>by grind
 |k::r,b::s,bx,j,i,B,hn,h1,h2,h3=>by
  rw [List.nodup_cons] at hn;cases j with
  |zero=>grind[setBs,setBs_other]
  |succ j=>simp at h1 h2;rw [setBs];exact setBs_at r s _ j i B hn.2 h1 h2 (by grind)
theorem call_back (h:Rel P R x K C σ a w){outb:List Bx}{C1:List CB}{v:Value}{w':World}{K':Kn}{E:List CB}
  (hC1':∀(j:Nat) (c:CB),C1[j]?=some c->∃i,sel[j]?=some i/\C[i]?=some c) (hl1:C1.length=sel.length)
  (hin:∀(j i:Nat),sel[j]?=some i->∃B,σ.bx[i]?=some B/\inb[j]?=some (B.ren (idxN · sel))) (hinl:inb.length=sel.length) (hnd:sel.Nodup)
  (hp:PostK P R K C1 inb w y outb v w' K' E) (hle:sel.length<=outb.length):
  let back:=fun j=>if j<sel.length then sel.getD j 0 else σ.bx.length+(j-sel.length)
  Rel P R x K' (C++E) ⟨σ.tm,setBs sel (outb.map (Bx.ren back)) σ.bx++(outb.map (Bx.ren back)).drop sel.length⟩ a w'/\Rep K' (C++E) (y.ren back) v:=by
 intro back;have pl:=h.inv.size;have pf:=hp.inv.size;rw [qau,hl1] at pf;have Q:∀(j:Nat) (c:CB),(C1++E)[j]?=some c->(C++E)[back j]?=some c:=by
  intro j c e;by_cases hj:j<sel.length
  ·grind
  ·grind
 have pb:∀(b o:Nat),Owns C1 inb b o->∃i c B,i∈sel/\C[i]?=some c/\σ.bx[i]?=some B/\B.live=true/\c.owns b o:=by
  rintro b o ⟨j,c,B',l,V,h3,h4⟩
  obtain ⟨i,e1,e2⟩:=hC1' j c l;obtain ⟨B,e3,e4⟩:=hin j i e1;rw [e4] at V;cases V;exact ⟨i,c,B,qap e1,e2,e3,by grind[live_ren],h4⟩
 have F:∀(b o:Nat),Owns C1 inb b o->Owns C σ.bx b o:=by intro b o q;obtain ⟨i,c,B,_,V,h3,h4,h5⟩:=pb b o q;exact ⟨i,c,B,V,h3,h4,h5⟩
 generalize pc:outb.map (Bx.ren back)=outs;have pk:outs.length=outb.length:=by rw [<-pc];simp
 have m:∀(i:Nat) (B:Bx),(setBs sel outs σ.bx++outs.drop sel.length)[i]?=some B->(i∉sel/\i<σ.bx.length/\σ.bx[i]?=some B)\/(∃(j:Nat) (B0:Bx),back j=i/\outb[j]?=some B0/\B=B0.ren back):=by
  intro i B e;by_cases hi:i<σ.bx.length
  ·rw [qar (by grind[setBs_length])] at e;by_cases Z:i∈sel
   ·have hj:=idxN_get Z;have pn:=(qak.1 hj).1;have q:outs[idxN i sel]?=some outs[idxN i sel]:=qad (by omega);rw [setBs_at sel outs σ.bx (idxN i sel) i _ hnd hj q hi] at e
    grind
   grind[setBs_other]
  rw [qaz (by grind[setBs_length]),setBs_length,qaw] at e
  grind
 have pg:∀j k,j<outb.length->k<outb.length->back j=back k->j=k:=by
  intro j k hj hk e;have pi:∀j,j<sel.length->sel.getD j 0<σ.bx.length:=by intro j hj;obtain ⟨B,H,_⟩:=hin j sel[j] (qad hj);have:=(qak.1 H).1;simpa [List.getD,hj] using this
  by_cases l:j<sel.length
  ·by_cases V:k<sel.length
   ·simp only [back,l,V,if_true] at e;have e1:sel[j]?=some (sel.getD j 0):=by simp [List.getD,l]
    have e2:sel[k]?=some (sel.getD k 0):=by simp [List.getD,V]
    rw [<-idxN_at hnd e1,<-idxN_at hnd e2,e]
   grind
  ·grind
 have J:∀(j:Nat) (B0:Bx) (c:CB),outb[j]?=some B0->(C++E)[back j]?=some c->(C1++E)[j]?=some c:=by intro j B0 c l V;obtain ⟨c',h3,_⟩:=hp.inv.get l;rw [Q j c' h3] at V;cases V;exact h3
 have n:∀(i:Nat) (c:CB),i<σ.bx.length->(C++E)[i]?=some c->C[i]?=some c:=by intro i c hi e;rwa [qar (by omega)] at e
 have U:∀(b o:Nat),Owns (C++E) (setBs sel outs σ.bx++outs.drop sel.length) b o->
   (∃i c B,i∉sel/\C[i]?=some c/\σ.bx[i]?=some B/\B.live=true/\c.owns b o)\/Owns (C1++E) outb b o:=by
  rintro b o ⟨i,c,B,l,V,h3,h4⟩
  rcases m i B V with ⟨Z,hi,H⟩|⟨j,B0,rfl,H,rfl⟩
  ·grind
  exact .inr ⟨j,c,B0,J j B0 c H l,H,by grind[live_ren],h4⟩
 have pd:∀(i:Nat) (c:CB) (B:Bx) (b o:Nat),i∉sel->C[i]?=some c->σ.bx[i]?=some B->B.live=true->c.owns b o->¬Owns C1 inb b o:=by intro i c B b o Z L H W N q;obtain ⟨k,d,A,hk,hd,hA,S,Y⟩:=pb b o q;exact h.inv.disj i k c d B A b o (fun e=>Z (e▸hk)) L hd H hA W S N Y
 have M:∀(i:Nat) (c:CB) (B:Bx) (b o:Nat),C[i]?=some c->σ.bx[i]?=some B->B.live=true->c.owns b o->b<w.heap.size:=
  fun i c B b o L H W N=>h.inv.owns_lt ⟨i,c,B,L,H,W,N⟩
 refine ⟨{h with inv:=?_,tm:=?_,k0:=h.k0.trans hp.kle,knew:=?_,own:=?_,cin:=?_,frame:=?_,defs:=?_,loops:=?_},hp.res.ren fun i _ c e=>Q i c e⟩
 ·refine ⟨hp.inv.glob,hp.inv.known,?_,?_,?_,?_⟩
  ·grind[setBs_length]
  ·intro b o q;rcases U b o q with ⟨i,c,B,Z,L,H,W,N⟩|q
   ·cases e:K' b o with
    |none=>rfl
    |some u=>
     rcases hp.knew b o u e with l|l|l;·rw [h.inv.apart b o ⟨i,c,B,L,H,W,N⟩] at l<;>grind
     ·grind
     grind
   exact hp.inv.apart b o q
  ·intro i k c d A B b o pe L hd hA H S pa N Y;rcases m i A hA with ⟨Z,hi,O⟩|⟨j,A0,rfl,O,rfl⟩
   ·rcases m k B H with ⟨pj,hk,f⟩|⟨j',B0,rfl,f,rfl⟩;·exact h.inv.disj i k c d A B b o pe (n i c hi L) (n k d hk hd) O f S pa N Y
    have q:Owns (C1++E) outb b o:=⟨j',d,B0,J j' B0 d f hd,f,by rwa [live_ren] at pa,Y⟩;rcases hp.own b o q with l|l
    ·grind
    have:=M i c A b o (n i c hi L) O S N;omega
   rcases m k B H with ⟨pj,hk,f⟩|⟨j',B0,rfl,f,rfl⟩
   ·have q:Owns (C1++E) outb b o:=⟨j,c,A0,J j A0 c O L,O,by rwa [live_ren] at S,N⟩;rcases hp.own b o q with l|l
    ·grind
    have:=M k d B b o (n k d hk hd) f pa Y;omega
   rw [live_ren] at S pa;exact hp.inv.disj j j' c d A0 B0 b o (fun e=>pe (by rw [e])) (J j A0 c O L) (J j' B0 d f hd) O f S pa N Y
  intro i B c H L;rcases m i B H with ⟨Z,hi,f⟩|⟨j,B0,rfl,f,rfl⟩
  ·by_cases W:B.live=true;·exact (h.inv.box i B c f (n i c hi L)).mono hp.kle (CLe.append _ _) hp.frame (fun b o N=>pd i c B b o Z (n i c hi L) f W N)
   cases B<;>first|trivial|simp [Bx.live] at W
  exact (hp.inv.box j B0 c f (J j B0 c f L)).ren fun k _ d e=>Q k d e
 ·exact h.tm.mono hp.kle (CLe.append _ _)
 ·intro b o u e;rcases hp.knew b o u e with l|l|l;·exact h.knew b o u l
  ·exact .inr (h.own b o (F b o l))
  exact .inr (.inr (Nat.le_trans h.frame.size l))
 ·intro b o q;rcases U b o q with ⟨i,c,B,Z,L,H,W,N⟩|q;·exact h.own b o ⟨i,c,B,L,H,W,N⟩
  rcases hp.own b o q with l|l;·exact h.own b o (F b o l)
  exact .inr (Nat.le_trans h.frame.size l)
 ·intro i c e;exact CLe.append _ _ _ _ (h.cin i c e)
 ·refine h.frame.trans hp.frame (fun b o pi q=>?_);rcases h.own b o (F b o q) with l|l
  ·grind
  grind
 ·obtain ⟨rs,l,V,h3⟩:=h.defs.marks;refine ⟨⟨rs,l,V,fun r hr=>⟨hp.frame.obj (h3 r hr).1 trivial (o₀:=0) (fun q=>(h3 r hr).2.2 0 (F r 0 q)),(h3 r hr).2.1,fun o q=>?_⟩⟩,h.defs.round⟩;rcases U r o q with ⟨i,c,B,Z,L,H,W,N⟩|q;·exact (h3 r hr).2.2 o ⟨i,c,B,L,H,W,N⟩
  rcases hp.own r o q with h4|h4
  ·grind
  grind
 intro i hi W;obtain ⟨B,H,po⟩:=h.loops i hi W;have ph:=(qak.1 H).1;show ∃B',(setBs sel outs σ.bx++outs.drop sel.length)[i]?=some B'/\B'.isLoop=true;rw [qar (by grind[setBs_length])];by_cases Z:i∈sel;·have hj:=idxN_get Z;obtain ⟨B0,e1,e2⟩:=hin _ i hj;rw [H] at e1;cases e1;obtain ⟨B',e3,e4⟩:=hp.loops _ _ e2 (by grind[isLoop_ren]);refine ⟨B'.ren back,setBs_at sel outs σ.bx (idxN i sel) i _ hnd hj ?_ ph,by grind[isLoop_ren]⟩;rw [<-pc];simp [e3]
 grind[setBs_other]
end
section
variable {cargs:Array Value}{raw:Bool}{g:FuncId}{K2:Kn}{bx':List Bx}{sel:List Nat}{args:List X}{v:Value}{z:X}
variable {P:Program} {R:CodeRel} {x:Ctx} {K:Kn} {C:List CB} {σ:St} {a:Act} {w:World}
variable {o:Oper} {y:X} {bx:List Bx} {A:Ann} {Γ:Gam}
theorem dataL_get {raw:Bool}:∀{cs ds:List X},dataL bx raw cs=some ds->ds.length=cs.length/\∀(j:Nat) (z:X),cs[j]?=some z->∃z',ds[j]?=some z'/\z.data bx raw=some z'
 |[],ds,h=>by grind[dataL]
 |z::r,ds,h=>by
  simp only [dataL] at h;cases hz:z.data bx raw with
  |none=>grind
  |some z'=>
   simp only [hz] at h;obtain ⟨l,hl,rfl⟩:=qac.1 h;obtain ⟨h1,h2⟩:=dataL_get hl
   grind
theorem data_cell {z':X}(h:z.data bx raw=some z'):z'.isCell=z.isCell:=by
 cases z with
 |bs i off len=>simp only [X.data] at h;obtain ⟨p,_,rfl⟩:=qac.1 h;rfl
 |agg cs=>simp only [X.data] at h;obtain ⟨p,_,rfl⟩:=qac.1 h;rfl
 |tup cs=>simp only [X.data] at h;obtain ⟨p,_,rfl⟩:=qac.1 h;rfl
 |_=>simp [X.data] at h;subst h;rfl
theorem mem_rowsL {i:Nat}:∀{cs:List X},i∈rowsL cs↔∃z,z∈cs/\i∈z.rows
 |[]=>by simp [rowsL]
 |z::r=>by simp [rowsL,mem_rowsL (cs:=r)]
theorem Rep.data (hI:Inv P R K C bx w)(hK:KLe K K2)(h:Rep K C z v)
  (hrow:(∀(b o:Nat) (u:Value),Owns C bx b o->w.cell? ⟨b,o,none⟩=some u->K2 b o=some u)\/z.rows=[]):∀{z':X},z.data bx raw=some z'->Rep K2 C z' v:=by
 induction h with
 |v h=>intro z' e;simp [X.data] at e;subst e;exact .v h
 |slNil=>intro z' e;simp [X.data] at e;subst e;exact .slNil
 |sl vals hlen ht hcap hcell hk hr ih=>intro z' e;simp [X.data] at e;subst e;exact .sl vals hlen (fun e=>ht (by grind)) hcap hcell (fun i j z e=>hK _ _ _ (hk i j z e)) (fun i j z e=>(hr i j z e).mono hK (CLe.refl _))
 |bs hc hcap hlen=>
  rename_i C i f len b a E J cap;intro z' e;simp only [X.data] at e;obtain ⟨p,l,rfl⟩:=qac.1 e;unfold rowOf at l;split at l
  ·rename_i s Q L;split at l
   ·rename_i pa;simp at l;subst l;obtain ⟨N,el,S,g2,g3,V,W⟩:=(hI.box i _ _ L hc).flat;subst S;have H:((Q.drop f).take len).length=len:=by simp;omega
    rcases hrow with hrow|hrow
    ·have:=(((W.drop f).take len).mono hK).rep (K:=K2) (C:=C) (t:=false) (b:=b) (o:=a+f*J) (cap:=cap) (fun k u y=>?_) (by simp) (by omega)
     ·grind
     rw [qax] at y;split at y
     ·rename_i Y;rw [qaw,qax] at y;split at y
      ·rename_i Z;rw [qaw,toArray_getElem?] at y;have m:a+f*J+k=a+(f*J+k):=by omega
       refine hrow b _ u ⟨i,_,_,hc,L,rfl,rfl,by omega,?_⟩ ?_;·omega
       grind[World.cell?]
      grind
     grind
    grind[X.rows]
   grind
  grind
 |bsNil hc=>
  rename_i C i ob;intro z' e;simp only [X.data] at e;obtain ⟨p,l,rfl⟩:=qac.1 e;unfold rowOf at l;split at l
  ·split at l;·cases l;simp;exact .slNil
   grind
  grind
 |ptr hc=>intro z' e;simp [X.data] at e;subst e;exact .ptr hc
 |dp vals hcell hk hr ih=>intro z' e;simp [X.data] at e;subst e;exact .dp vals hcell (fun j z e=>hK _ _ _ (hk j z e)) (fun j z e=>(hr j z e).mono hK (CLe.refl _))
 |fn hs hr ih=>intro z' e;simp [X.data] at e;subst e;exact .fn hs (fun j z v e q=>(hr j z v e q).mono hK (CLe.refl _))
 |agg hs hcell hr ih=>
  intro z' e;simp only [X.data] at e;obtain ⟨O,F,rfl⟩:=qac.1 e;obtain ⟨U,B⟩:=dataL_get F;rename_i C n vs;refine .agg (by grind) (fun z hz=>?_) (fun j z v e q=>?_);·obtain ⟨j,M,rfl⟩:=List.mem_iff_getElem.1 hz;obtain ⟨z',m,A⟩:=B j n[j] (qad (by omega))<;>grind[data_cell,qae]
  have M:=(qak.1 e).1;obtain ⟨z',m,A⟩:=B j n[j] (qad (by omega));rw [e] at m;cases m;refine ih j _ v (qad (by omega)) q hI (hrow.imp_right fun hn=>?_) A;refine List.eq_nil_iff_forall_not_mem.2 fun i E=>?_;have:=mem_rowsL.2 ⟨n[j],qae _,E⟩
  grind[X.rows]
 |tup hs hr ih=>
  intro z' e;simp only [X.data] at e;obtain ⟨O,F,rfl⟩:=qac.1 e;obtain ⟨U,B⟩:=dataL_get F;rename_i C n vs;refine .tup (by grind) (fun j z v e q=>?_);have M:=(qak.1 e).1;obtain ⟨z',m,A⟩:=B j n[j] (qad (by omega));rw [e] at m;cases m;refine ih j _ v (qad (by omega)) q hI (hrow.imp_right fun hn=>?_) A;refine List.eq_nil_iff_forall_not_mem.2 fun i E=>?_;have:=mem_rowsL.2 ⟨n[j],qae _,E⟩
  grind[X.rows]
 |yl hc=>intro z' e;simp [X.data] at e;subst e;exact .yl hc
 |mp hc=>intro z' e;simp [X.data] at e;subst e;exact .mp hc
 |ifc=>intro z' e;simp [X.data] at e;subst e;exact .ifc
theorem mem_plainL:∀{cs:List X},plainL cs=true->∀z,z∈cs->z.plain=true
 |[],_,_,h=>by grind
 |z::r,h,u,hu=>by
  simp [plainL] at h;rcases qal.1 hu with rfl|hu
  ·grind
  exact mem_plainL h.2 u hu
theorem Rep.plain (h:Rep K C z v):∀{C2:List CB},z.plain=true->Rep K2 C2 z v:=by
 induction h with
 |v h=>exact fun _=>.v h
 |agg hs hcell hr ih=>exact fun f=>.agg hs hcell (fun j z v e a=>ih j z v e a (mem_plainL (by grind[X.plain]) z (qap e)))
 |tup hs hr ih=>exact fun f=>.tup hs (fun j z v e a=>ih j z v e a (mem_plainL (by grind[X.plain]) z (qap e)))
 |fn hs hr ih=>exact fun f=>.fn hs (fun j z v e a=>ih j z v e a (mem_plainL (by grind[X.plain]) z (qap e)))
 |_=>grind[X.plain]
def BackTo (P:Program)(R:CodeRel)(x:Ctx)(C:List CB)(tm:List (Nat×X))(bx:List Bx)(a:Act)(y:X)(e:Ending)(w':World):Prop:=
 ∃(v:Value) (K':Kn) (C':List CB),e=.returned v/\CLe C C'/\Em.Rel P R x K' C' ⟨tm,bx⟩ a w'/\Rep K' C' y v
theorem BackTo.step {tm:List (Nat×X)}{e:Ending}{w':World}(h:BackTo P R x C tm bx a y e w'):∃(v:Value) (K':Kn) (C':List CB),e=.returned v/\Em.Rel P R x K' C' ⟨tm,bx⟩ a w'/\Rep K' C' y v:=
 let ⟨v,K',C',h1,_,h2,h3⟩:=h
 ⟨v,K',C',h1,h2,h3⟩
theorem argsRep_ren {C':List CB}{f:Nat->Nat}(h:ArgsRep K C args cargs)(hC:∀i,i∈refsL args->∀c,C[i]?=some c->C'[f i]?=some c):ArgsRep K C' (renL f args) cargs:=by refine ⟨by rw [renL_eq];simpa using h.1,fun j z v e l=>?_⟩;rw [renL_eq,qaA] at e;obtain ⟨u,a,rfl⟩:=qac.1 e;exact (h.2 j u v a l).ren fun i m=>hC i (mem_refsL.2 ⟨u,qap a,m⟩)
theorem callRef_fn (hΓ:GamOk P R Γ)(h:Rel P R x K C σ a w)(hargs:ArgsRep K C args cargs)(e:callRef Γ (.fn g) args σ.bx=some (y,bx',sel)):
  FnOk P g/\Calls P g cargs w (BackTo P R x C σ.tm bx' a y):=by
 unfold callRef at e;dsimp only at e;split at e
 ·rename_i u;split at e
  ·grind
  rename_i Y j;split at e
  ·grind
  rename_i r L f;split at e
  ·rename_i F;cases e;obtain ⟨M,U,B,S,A,n,H,l,m⟩:=h.inv.pick j;obtain ⟨J,q⟩:=hΓ.fn g _ _ _ _ f;refine ⟨J,(q K M w cargs U (argsRep_ren hargs fun i V=>m i (subN_iff.1 u i V))).mono ?_⟩
   rintro e w' ⟨v,N,E,rfl,W⟩
   obtain ⟨O,Q⟩:=call_back h l B A n H W F;exact ⟨v,N,C++E,rfl,CLe.append _ _,O,Q⟩
  grind
 grind
theorem callRef_yl (hΓ:GamOk P R Γ)(h:Rel P R x K C σ a w){i l:Nat}{as:List X}(hi:C[i]?=some (.obj l))(hargs:ArgsRep K C as cargs)(e:callRef Γ .yl (.yl i::as) σ.bx=some (y,bx',sel))(r:Option Nat):
  ∃(f:FuncId) (tmps:Array Value) (assign body:Code),(Instr.yield l cargs).run P w=.ok (.round l f tmps assign body) w/\RoundIn (Fr r) 0 P l f tmps assign body w (BackTo P R x C σ.tm bx' a y):=by
 unfold callRef at e;dsimp only at e;split at e
 ·rename_i J;split at e
  ·grind
  rename_i pb u;split at e
  ·grind
  rename_i pc S q;split at e
  ·rename_i N;cases e;obtain ⟨U,hI,M,pa,L,B,O,A,n⟩:=h.inv.pick u;obtain ⟨i',W,Q,H⟩:=hΓ.yl _ _ _ _ q;simp only [renL,X.ren,List.cons.injEq,X.yl.injEq] at Q;obtain ⟨rfl,rfl⟩:=Q;have j:=subN_iff.1 J;obtain ⟨f,tmps,assign,body,F,m⟩:=H K U w cargs l r hI (n i (j i (by grind[refsL,X.refs])) _ hi) (argsRep_ren hargs fun k hk=>n k (j k (by grind[refsL])));refine ⟨f,tmps,assign,body,F,m.mono ?_⟩
   rintro e w' ⟨v,V,E,rfl,hp⟩
   obtain ⟨Y,Z⟩:=call_back h A M L B O hp N;exact ⟨v,V,C++E,rfl,CLe.append _ _,Y,Z⟩
  grind
 grind
theorem noRef_of_isEmpty {xs:List X}(h:(refsL xs).isEmpty=true)(hz:z∈xs):z.refs=[]:=by simp_all[List.eq_nil_iff_forall_not_mem,mem_refsL]
def seen (w:World):Kn:=fun b o=>w.cell? ⟨b,o,none⟩
theorem owns_nil {b o:Nat}:¬Owns [] [] b o:=by rintro ⟨i,c,B,h,_⟩<;>grind
theorem pureD_sound (hΓ:GamOk P R Γ)(h:Rel P R x K C σ a w)(hargs:ArgsRep K C args cargs)(hno:(refsL args).isEmpty=true)(e:Γ.pureD g args=some y)(hny:noRef y=true):
  FnOk P g/\Calls P g cargs w (BackTo P R x C σ.tm σ.bx a y):=by
 unfold Gam.pureD at e;split at e
 ·rename_i r W H;obtain ⟨Q,L⟩:=hΓ.fn g _ _ _ _ H;have Y:Inv P R K [] [] w:=⟨h.inv.glob,h.inv.known,rfl,fun b o F=>(owns_nil F).elim,fun i j c d A B b o _ hc=>by grind,fun i B c hB=>by grind⟩;refine ⟨Q,(L K [] w cargs Y ⟨hargs.1,fun j z v e V=>(hargs.2 j z v e V).noRef (noRef_of_isEmpty hno (qap e))⟩).mono ?_⟩
  rintro V w' ⟨v,M,E,rfl,m⟩
  have Z:FrameOk nowhere w w':=m.frame.mono (fun b o _ F=>(owns_nil F).elim)
  let q:Kn:=fun b o=>match M b o with
   |some u=>some u
   |none=>if w.heap.size<=b then w'.cell? ⟨b,o,none⟩ else none
  have n:KLe M q:=fun b o u e=>by grind
  have J:Rep q ([]++E) y v:=m.res.data m.inv n (.inl fun b o u F hu=>by
   simp only [q];cases f:M b o with
   |some U=>have:=m.inv.known b o U f<;>grind
   |none=>rcases m.own b o F with h1|h1<;>grind[owns_nil]) e
  have O:y.refs=[]:=by simpa [noRef] using hny
  have l:∀(b o:Nat) (u:Value),q b o=some u->K b o=some u\/w.heap.size<=b:=by
   intro b o u f;simp only [q] at f;split at f
   ·rename_i U N;cases f;rcases m.knew b o _ N with h1|h1|h1
    ·grind
    ·grind[owns_nil]
    grind
   ·grind
  have S:=h.still Z;refine ⟨v,q,C,rfl,CLe.refl _,{S with inv:=?_,tm:=S.tm.mono (m.kle.trans n) (CLe.refl _),k0:=h.k0.trans (m.kle.trans n),knew:=?_},J.noRef O⟩
  ·refine S.inv.know (m.kle.trans n) (fun b o u f=>?_) (fun b o F=>?_)
   ·simp only [q] at f;split at f;next U N=>cases f;exact m.inv.known b o _ N
    grind
   cases f:q b o with
   |none=>rfl
   |some u=>
    rcases l b o u f with h1|h1;·rw [h.inv.apart b o F] at h1<;>grind
    have:=h.inv.owns_lt F;omega
  intro b o u f;rcases l b o u f with h1|h1;·exact h.knew b o u h1
  exact .inr (.inr (Nat.le_trans h.frame.size h1))
 grind
theorem pureD_plain (hΓ:GamOk P R Γ)(h:Rel P R x K C σ a w)(hargs:ArgsRep (seen w) C args cargs)(hno:(refsL args).isEmpty=true)(e:Γ.pureD g args=some y)(hny:y.plain=true):
  FnOk P g/\Calls P g cargs w (BackTo P R x C σ.tm σ.bx a y):=by
 unfold Gam.pureD at e;split at e
 ·rename_i r J f;obtain ⟨F,m⟩:=hΓ.fn g _ _ _ _ f;have L:Inv P R (seen w) [] [] w:=⟨h.inv.glob.mono (fun b o v e=>h.inv.known b o v e),fun b o v e=>e,rfl,fun b o q=>(owns_nil q).elim,fun i j c d A B b o _ S=>by grind,fun i B c Q=>by grind⟩;refine ⟨F,(m (seen w) [] w cargs L ⟨hargs.1,fun j z v e H=>(hargs.2 j z v e H).noRef (noRef_of_isEmpty hno (qap e))⟩).mono ?_⟩
  rintro H w' ⟨v,O,E,rfl,n⟩
  have M:FrameOk nowhere w w':=n.frame.mono (fun b o _ q=>(owns_nil q).elim);have l:Rep (seen w') ([]++E) y v:=n.res.data n.inv (fun b o u e=>n.inv.known b o u e) (.inl fun b o u _ N=>N) e;exact ⟨v,K,C,rfl,CLe.refl _,h.still M,l.plain hny⟩
 grind
end
end Go.Em
