/-.-/
import Derived.MapKept
import Derived.Test.YtkeefpkcepodeaaGreatDoorEmU1
set_option linter.all false
namespace Go.Em
section
variable {args:Array Operand}{es new:qaV}{z:List X}{bytes c cap h l len m n sz:Nat}{p':Opd}{p:Operand}{ob oc:Option Addr}{hi' lo':Option Opd}{hi lo mx:Option Operand}
variable {P:Program} {R:aP} {x:Ctx} {K:Kn} {C:List CB} {σ:St} {a:Act} {w:World}
variable {o:Oper} {y:X} {bx:List Bx} {fp:FP} {A:Ann} {Γ:Gam}
theorem nV {n y:Nat}(code:BoundsCode)(h:n<=y)(w:World):(Instr.sliceBound (.int .i64 (n:Int)) y code).run P w=.ok n w:=by simp_all[Instr.sliceBound,asIntOf]
def iq (a:Act)(d:Nat):Option Operand->Nat->Prop
 |none,n=>n=d
 |some p,n=>a.eval p=.int .i64 (n:Int)
theorem lT {d:Nat}(hg:qR R K)(ht:CQ K C σ.tm a.tmps)(hl:lD P R.gl lo=some lo')(e:dL σ d lo'=some n):iq a d lo n:=by
 cases lo with
 |none=>simp only [lD,qag] at hl;subst hl;simp only [dL,qag] at e;exact e.symm
 |some p=>simp only [lD] at hl;obtain ⟨q,h,rfl⟩:=qac.1 hl;simp only [dL] at e;obtain ⟨z,hz,f⟩:=qaz.1 e;exact KA (aZ hg ht h hz) f
theorem rU (hl:iq a 0 lo l)(hh:iq a len hi h)(hm:iq a cap mx m)(h1:l<=h)(h2:h<=m)(h3:m<=cap)(hmx:mx=none\/hi.isSome=true)(isSlice:Bool)(w:World):
  (Instr.sliceBounds isSlice len cap (lo.map a.eval) (hi.map a.eval) (mx.map a.eval)).run P w=.ok (l,h,m) w:=by
 cases mx with
 |none=>
  simp only [iq] at hm;subst hm;cases hi with
  |none=>simp only [iq] at hh;subst hh;cases lo<;>simp_all[iq,Instr.sliceBounds,nV]
  |some q=>simp only [iq] at hh;cases lo<;>simp_all[iq,Instr.sliceBounds,nV]
 |some r=>
  simp only [iq] at hm;cases hi with
  |none=>grind
  |some q=>simp only [iq] at hh;cases lo<;>simp_all[iq,Instr.sliceBounds,nV]
theorem sH {t e:TypeId}(ho:o.op=.slice t p lo hi mx)(hu:P.underlying t=some (.slice e))(hs:eF P e=some sz)
  (hv:a.eval p=.slice ob len cap) (hl:iq a 0 lo l) (hh:iq a len hi h) (hm:iq a cap mx m) (h1:l<=h) (h2:h<=m) (h3:m<=cap) (hmx:mx=none\/hi.isSome=true):
  (execOp a.eval o).run P w=.ok (.value (.slice (if m=l then ob else ob.map (·.add (l*sz))) (h-l) (m-l))) w:=by
 have f:=rU (P:=P) hl hh hm h1 h2 h3 hmx true w;simp only [execOp,ho,Instr.sliceAt,Sem.run_bind,run_underlying hu,Result.andThen_ok,Instr.slice,hv,f,dF hs w];rfl
theorem E5 {t t1 e:TypeId}{mx':Option Opd}{tt:Bool}(hr:Rel P R x K C σ a w)(ho:o.op=.slice t p lo hi mx)(hu:P.underlying t=some (.slice e))(hs:eF P e=some sz)
  (hp:aU P R.gl t1 p=some p') (hlo:lD P R.gl lo=some lo') (hhi:lD P R.gl hi=some hi') (hmx:lD P R.gl mx=some mx') (ep:σ.ev p'=some (.sl tt sz es)) (el:dL σ 0 lo'=some l) (eh:dL σ es.length hi'=some h)
  (h1:l<=h) (h2:h<=es.length) (tf:Bool) (hcase:(mx=none/\tf=(tt&&h==es.length))\/(∃m,mx=some m/\hi.isSome=true/\iq a 0 mx h/\tf=true)):
  dP P R x σ a w o (.sl tf sz ((es.take h).drop l)) σ.bx:=by
 have j:=aZ hr.inv.glob hr.tm hp ep;have J:=lT hr.inv.glob hr.tm hlo el;have H:=lT hr.inv.glob hr.tm hhi eh;have q:((es.take h).drop l).length=h-l:=by simp;omega
 generalize F:a.eval p=v at j;have L:∀ob cap,v=.slice ob es.length cap->es.length<=cap->(tt=true->cap=es.length)->(ob=none->cap=0)->(∀b o',ob=some ⟨b,o',none⟩->∃fl,Flat K sz es fl/\∀k v,fl[k]?=some v->K b (o'+k)=some v)->
   (∀ad,ob=some ad->ad.spot=none)->dP P R x σ a w o (.sl tf sz ((es.take h).drop l)) σ.bx:=by
  intro ob cap W n pb y M A;subst W;have u:∀m,iq a cap mx m->h<=m->m<=cap->(mx=none\/hi.isSome=true)->(tf=true->m=h)->dP P R x σ a w o (.sl tf sz ((es.take h).drop l)) σ.bx:=by
   intro m B O S U V;refine .still hr (sH ho hu hs F J H B h1 O S U) ?_;cases ob with
   |none=>
    have pa:=y rfl;have:(es.take h).drop l=[]:=qaL (by omega);rw [this];have e1:h-l=0:=by omega
    have e2:m-l=0:=by omega
    rw [e1,e2];split<;>exact .iJ
   |some ad=>
    obtain ⟨b,o',sp⟩:=ad;have:=A _ rfl;simp only at this;subst this;obtain ⟨fl,hf,hk⟩:=M b o' rfl;rw [<-q];by_cases E:m=l;·rw [if_pos E];have:(es.take h).drop l=[]:=qaL (by omega);rw [this];exact (Flat.nil (K:=K) (sz:=sz)).rep (fun k v F=>by grind) (fun _=>by grind) (by simp)
    rw [if_neg E];simp only [qam,addr_add];refine ((hf.take h).drop l).rep (fun k v F=>?_) (fun e=>by rw [q,V e]) (by omega)<;>grind
  rcases hcase with ⟨rfl,rfl⟩|⟨m,rfl,f,B,rfl⟩;·refine u cap rfl (by omega) (Nat.le_refl _) (.inl rfl) (fun e=>?_)<;>simp_all
  exact u h B (Nat.le_refl _) (by omega) (.inr f) (fun _=>rfl)
 have Y:=j;cases j with
 |iJ=>
  have N:h=0:=by simpa using h2
  have Q:l=0:=by omega
  subst N;subst Q;have Z:(([]:qaV).take 0).drop 0=[]:=rfl;rw [Z];rcases hcase with ⟨rfl,rfl⟩|⟨m,rfl,f,B,rfl⟩;·refine .still hr (sH ho hu hs F J H rfl (Nat.le_refl _) (Nat.le_refl _) (Nat.le_refl _) (.inl rfl)) ?_<;>simp_all
  refine .still hr (sH ho hu hs F J H B (Nat.le_refl _) (Nat.le_refl _) (Nat.le_refl _) (.inr f)) ?_;simp only [Nat.sub_self,if_true];exact .iJ
 |sl vals hle ht n hcell hk hrr=>refine L _ _ rfl n ht (fun e=>by cases e) (fun b' pc e=>?_) (fun ad e=>by grind);cases e;exact Y.flat
theorem E8 {t t1 e:TypeId}{i off:Nat}(hr:Rel P R x K C σ a w)(ho:o.op=.slice t p lo hi none)(hu:P.underlying t=some (.slice e))(hs:eF P e=some sz)
  (hp:aU P R.gl t1 p=some p') (hlo:lD P R.gl lo=some lo') (hhi:lD P R.gl hi=some hi') (ep:σ.ev p'=some (.bs i off len)) (el:dL σ 0 lo'=some l) (eh:dL σ len hi'=some h)
  (h1:l<=h) (h2:h<=len) (hy:(l=h/\y=.sl false sz [])\/(l≠h/\(∃es,σ.bx[i]?=some (.row sz es))/\y=.bs i (off+l) (h-l))):dP P R x σ a w o y σ.bx:=by
 have f:=aZ hr.inv.glob hr.tm hp ep;have A:=lT hr.inv.glob hr.tm hlo el;have u:=lT hr.inv.glob hr.tm hhi eh;generalize n:a.eval p=v at f;cases f with
 |bs hc hcap hlen=>
  rename_i b q F H cap;refine .still hr (sH ho hu hs n A u rfl h1 (by omega) (Nat.le_refl _) (.inl rfl)) ?_;rcases hy with ⟨j,rfl⟩|⟨j,⟨es,E⟩,rfl⟩
  ·subst j;rw [Nat.sub_self];split;·exact (Flat.nil (K:=K) (sz:=sz)).rep (fun k v n=>by grind) (fun e=>by grind) (by simp)
   simp only [qam,addr_add];exact (Flat.nil (K:=K) (sz:=sz)).rep (fun k v n=>by grind) (fun e=>by grind) (by simp)
  obtain ⟨m,_⟩:=hr.inv.box i _ _ E hc;subst m;rw [if_neg (by omega)];simp only [qam,addr_add];have:=Rep.bs (K:=K) (off:=off+l) (len:=h-l) (cap:=cap-l) hc (by rw [show off+l+(cap-l)=off+cap by omega];exact hcap) (by omega)<;>grind
 |mM hc=>
  refine .still hr (sH ho hu hs n A u rfl h1 (by omega) (Nat.le_refl _) (.inl rfl)) ?_;have j:h=0:=by omega
  have B:l=0:=by omega
  subst j;subst B;rcases hy with ⟨_,rfl⟩|⟨j,_⟩;·simp only [Nat.sub_self,if_true];exact .iJ
  grind
theorem zaa {t t1:TypeId}{s:qaW}(hr:Rel P R x K C σ a w)(ho:o.op=.slice t p lo hi none)(hu:P.underlying t=some .string)
  (hp:aU P R.gl t1 p=some p') (hlo:lD P R.gl lo=some lo') (hhi:lD P R.gl hi=some hi') (ep:σ.ev p'=some (.v (.string s))) (el:dL σ 0 lo'=some l) (eh:dL σ s.size hi'=some h)
  (h1:l<=h) (h2:h<=s.size):dP P R x σ a w o (.v (.string (s.extract l h))) σ.bx:=by
 have q:=fJ (aZ hr.inv.glob hr.tm hp ep);have j:=lT hr.inv.glob hr.tm hlo el;have f:=lT hr.inv.glob hr.tm hhi eh;refine .still hr (v:=.string (s.extract l h)) ?_ (.v rfl);have n:=rU (P:=P) (mx:=none) j f (m:=s.size) rfl h1 h2 (Nat.le_refl _) (.inl rfl) false w;simp only [Option.map_none] at n;simp only [execOp,ho,Instr.sliceAt,Sem.run_bind,run_underlying hu,Result.andThen_ok,Instr.slice,q,Option.map_none,Option.isSome_none]<;>simp_all
theorem Ug {isMax:Bool}(f:Value->Value->Sem Value)(hf:∀m n:Int,f (.int .i64 m) (.int .i64 n)=pure (.int .i64 (if isMax then (if n>m then n else m) else (if n<m then n else m)))):
  ∀{ys:List X} {vs:List Value} {m z:Int},vs.length=ys.length->(∀(j:Nat) (y:X) (v:Value),ys[j]?=some y->vs[j]?=some v->Rep K C y v)->mmV isMax m ys=some z->(vs.foldlM f (.int .i64 m)).run P w=.ok (.int .i64 z) w
 |[],vs,m,z,h1,h2,h3=>by simp_all[mmV]
 |y::r,[],m,z,h1,h2,h3=>by grind
 |y::r,v::vs,m,z,h1,h2,h3=>by
  unfold mmV at h3;split at h3
  ·grind
  next m' n r' e1=>simp only [List.cons.injEq] at e1;obtain ⟨rfl,rfl⟩:=e1;have hv:=fJ (h2 0 _ v rfl rfl);subst hv;simp only [List.foldlM_cons,hf,pure_bind];exact Ug f hf (by grind) (fun j y v e e'=>h2 (j+1) y v (by grind) (by grind)) h3
  grind
theorem zrl {isMax:Bool}{tys:Array TypeId}{qs:List Opd}{ys:List X}{m z:Int}(h:Rel P R x K C σ a w)(ho:o.op=.call ⟨.builtin (if isMax then .max else .min),args,tys⟩)(hq:iF P R.gl tys.toList args.toList=some qs)
  (he:evs σ qs=some (.v (.int .i64 m)::ys)) (hm:mmV isMax m ys=some z):dP P R x σ a w o (.v (.int .i64 z)) σ.bx:=by
 obtain ⟨E,A⟩:=Lh h.inv.glob h.tm hq he;refine .still h (v:=.int .i64 z) ?_ (.v rfl);have u:∃p r,args.toList=p::r:=by
  cases B:args.toList with
  |nil=>grind
  |cons p r=>grind
 obtain ⟨p,r,B⟩:=u;rw [B] at E A;have H:=fJ (A 0 _ (a.eval p) rfl rfl);have q:(args.map a.eval).toList=.int .i64 m::r.map a.eval:=by simp [B,H]
 have l:=fun f F=>Ug (P:=P) (w:=w) (K:=K) (C:=C) (isMax:=isMax) f F (ys:=ys) (vs:=r.map a.eval) (by grind) (fun j y v e J=>A (j+1) y v (by grind) (by grind)) hm;cases isMax;·have:=l Builtin.min2 (fun m n=>by simp [Builtin.min2]);simp only [execOp,ho,resolve,invoke,builtin,Sem.run_bind,Sem.run_pure,Result.andThen_ok,Builtin.min_,q,this,qaP,if_false]
 have:=l Builtin.max2 (fun m n=>by simp [Builtin.max2]);simp only [execOp,ho,resolve,invoke,builtin,Sem.run_bind,Sem.run_pure,Result.andThen_ok,Builtin.max_,q,this,if_true]
theorem qx {t0 t1 ty e e1:TypeId}(h0:P.underlying t0=some (.slice e))(h1:P.underlying t1=some (.slice e1))(hs:eF P e=some sz)(news:List Value)(w':World)
  (hf:(Builtin.firstCells sz m (.slice oc m c)).run P w=.ok news.toArray w) (hroom:n+m<=cap)
  (hst:∀ad,ob=some ad->(storeCells (ad.add (n*sz)) news).run P w=.ok () w') (hno:ob=none->w'=w):
  (Builtin.append_ #[t0,t1] ty #[.slice ob n cap,.slice oc m c]).run P w=.ok (.slice ob (n+m) cap) w':=by
 cases ob with
 |none=>have:=hno rfl;subst this;simp [Builtin.append_,run_underlying h0,run_underlying h1,dF hs,Builtin.lenOf,hroom,hf]
 |some ad=>simp [Builtin.append_,run_underlying h0,run_underlying h1,dF hs,Builtin.lenOf,hroom,hf,hst ad rfl]
theorem sJ {t0 t1 ty e e1:TypeId}(h0:P.underlying t0=some (.slice e))(h1:P.underlying t1=some (.slice e1))(hs:eF P e=some sz)(hb:vY P e=some bytes)(hz:pK P e=some z)(olds news:List Value)
  (ho:∀w':World,w'.heap=w.heap->(Builtin.firstCells sz n (.slice ob n cap)).run P w'=.ok olds.toArray w') (hf:∀w':World,w'.heap=w.heap->(Builtin.firstCells sz m (.slice oc m c)).run P w'=.ok news.toArray w')
  (hroom:cap<n+m) (hbig:(n+m)*bytes<=140737488355328) (h63:n+m<2^62) (hpos:0<bytes):
  ∃rest:List Value,(Builtin.append_ #[t0,t1] ty #[.slice ob n cap,.slice oc m c]).run P w=.ok (.slice (some ⟨w.heap.size,0,none⟩) (n+m) (grownCap w (n+m) cap e)) (w.drew.alloc (.cells (olds++news++rest).toArray e))/\
   rest.length=(grownCap w (n+m) cap e-(n+m))*sz:=by
 obtain ⟨y,a,F,j,L⟩:=lq hz w;have J:y.cells.size=sz:=by have:=(F (fun _ _=>none) []).len;rw [hs] at j;simp at j this;omega
 unfold vY at hb;obtain ⟨i,l,rfl⟩:=qac.1 hb;have u:i.zero=some y:=by
  simp only [zeroValue,typeInfo,Sem.run_bind,run_program,Result.andThen_ok,l] at a;simp only [Sem.run_pure,Result.andThen_ok] at a;split at a;·simp_all
  simp_all
 have q:i.size=sz:=by simpa [eF,l] using hs
 have E:¬(n+m<=cap):=by omega
 have A:=growslice_fits (need:=n+m) (old:=cap) (bytes:=i.bytes) hroom hbig;have h:¬(9223372036854775807<((n:Int)+(m:Int))):=by omega
 have f:¬(281474976710656<Builtin.nextslicecap (n+m) cap*i.bytes):=by omega
 refine ⟨(Builtin.zeroCells y.cells (grownCap w (n+m) cap e-(n+m))).toList,?_,by grind[Builtin.zeroCells]⟩;have B:=ho w.drew rfl;have H:=hf w.drew rfl;simp [Builtin.append_,run_underlying h0,run_underlying h1,sizeOf,typeInfo,zeroValue,l,u,q,Builtin.lenOf,E,h,f,Question.forced,B,H,newRow,grownCap]
 congr 2
 simp_all
theorem J3 (h:Inv P R K C σ.bx w){z:X}{v:Value}(hr:Rep K C z v)(e:qh σ.bx z=some (sz,new)):
  ∃oc c news,v=.slice oc new.length c/\Flat K sz new news/\(∀w':World,w'.heap=w.heap->(Builtin.firstCells sz new.length (.slice oc new.length c)).run P w'=.ok news.toArray w')/\
   (∀ad,oc=some ad->∀k u,news[k]?=some u->w.cell? ⟨ad.block,ad.off+k,none⟩=some u):=by
 have O:∀(b o' m c:Nat) (news:List Value),news.length=m*sz->(∀k u,news[k]?=some u->w.cell? ⟨b,o'+k,none⟩=some u)->∀w':World,w'.heap=w.heap->
   (Builtin.firstCells sz m (.slice (some ⟨b,o',none⟩) m c)).run P w'=.ok news.toArray w':=by
  intro b o' m c news Z hn w' S;refine run_firstCells_some w' sz m ⟨b,o',none⟩ m c news Z (fun j u l=>?_);rw [addr_add];have:=hn j u l;simp only [World.cell?,S] at this ⊢;exact this
 unfold qh at e;split at e
 ·rename_i t s F;cases e;have N:=hr;cases hr with
  |iJ=>rename_i E;exact ⟨E,0,[],rfl,Flat.nil,fun w' _=>by cases E<;>simp [Builtin.firstCells,loadCells,loadCellsFrom],fun _ _ k u e=>by grind⟩
  |sl vals M ht hcap hcell hk hrr=>obtain ⟨Q,H,B⟩:=N.flat;exact ⟨_,_,Q,rfl,H,O _ _ _ _ Q H.len (fun k u l=>h.known _ _ _ (B k u l)),fun ad e=>by cases e;exact fun k u l=>h.known _ _ _ (B k u l)⟩
 ·rename_i i n len;unfold rowOf at e;split at e
  ·rename_i s F V;split at e
   ·rename_i M;cases e;have a:((F.drop n).take len).length=len:=by simp;omega
    cases hr with
    |bs hc hcap hlc=>
     rename_i b y hi q L;obtain ⟨J,el,U,h2,h3,W,H⟩:=(h.box i _ _ V hc).flat;subst U;have f:∀k u,(((((J.toList.drop y).take (F.length*q)).drop (n*q)).take (len*q)))[k]?=some u->w.cell? ⟨b,y+n*q+k,none⟩=some u:=by
      intro k u l;rw [qau] at l;split at l
      ·rw [qat,qau] at l
       grind[World.cell?]
      ·grind
     have A:=(H.drop n).take len;refine ⟨_,L,_,by rw [a],A,?_,fun ad e=>by cases e<;>grind⟩;rw [a];exact O _ _ _ _ _ (by rw [A.len,a]) f
    |mM hc=>
     have Y:((F.drop 0).take 0)=[]:=by simp
     rw [Y];rename_i E;refine ⟨E,0,[],rfl,Flat.nil,fun w' S=>by cases E<;>simp [Builtin.firstCells,loadCells,loadCellsFrom],fun ad _ k u e=>by grind⟩
   grind
  grind
 grind
theorem zah {t0 t1 e e1:TypeId}{tys:Array TypeId}{ps pz:Operand}{qs qz:Opd}{ts tz:TypeId}{yz:X}(h:Rel P R x K C σ a w)(ho:o.op=.call ⟨.builtin .append,args,tys⟩)(ha:args.toList=[ps,pz])
  (h0:tys[0]?=some t0) (h1:tys[1]?=some t1) (hu0:P.underlying t0=some (.slice e)) (hu1:P.underlying t1=some (.slice e1)) (hs:eF P e=some sz) (hb:vY P e=some bytes) (hz:pK P e=some z) (hpos:0<bytes)
  (hps:aU P R.gl ts ps=some qs) (hpz:aU P R.gl tz pz=some qz) (eps:σ.ev qs=some (.sl true sz es)) (epz:σ.ev qz=some yz) (hsrc:qh σ.bx yz=some (sz,new)) (hroom:cZ (es.length+new.length) bytes=true):
  (new=[]->dP P R x σ a w o (.sl true sz es) σ.bx)/\dP P R x σ a w o (.sl false sz (es++new)) σ.bx/\
   (new≠[]->dP P R x σ a w o (.bs σ.bx.length 0 (es.length+new.length)) (σ.bx++[.row sz (es++new)])):=by
 have N:args=#[ps,pz]:=by rw [<-Array.toArray_toList (xs:=args),ha]
 subst N;have Y:∃rest,tys=(t0::t1::rest).toArray:=by
  have M:tys=tys.toList.toArray:=by simp
  cases U:tys.toList with
  |nil=>rw [M,U] at h0<;>grind
  |cons a0 r=>cases r with
   |nil=>rw [M,U] at h1<;>grind
   |cons b0 r=>rw [M,U] at h0 h1<;>grind
 obtain ⟨rest,rfl⟩:=Y;simp only [cZ,qab,qaC] at hroom;have H:=aZ h.inv.glob h.tm hps eps;have r2:=aZ h.inv.glob h.tm hpz epz;obtain ⟨oc,c,f,V,E,F,_⟩:=J3 h.inv r2 hsrc;have J:(execOp a.eval o).run P w=((Builtin.append_ (t0::t1::rest).toArray o.type #[a.eval ps,a.eval pz]).run P w).andThen fun v w'=>.ok (.value v) w':=by simp only [execOp,ho,resolve,invoke,builtin,Sem.run_bind,Sem.run_pure,Result.andThen_ok,List.map_toArray,qaT,List.map_nil]
 have u:Builtin.append_ (t0::t1::rest).toArray o.type #[a.eval ps,a.eval pz]=Builtin.append_ #[t0,t1] o.type #[a.eval ps,a.eval pz]:=by simp [Builtin.append_]
 rw [u] at J;rw [V] at J;generalize pc:a.eval ps=v1 at H J;have S:∃ob cap olds,v1=.slice ob es.length cap/\cap=es.length/\Flat K sz es olds/\(∀w':World,w'.heap=w.heap->(Builtin.firstCells sz es.length (.slice ob es.length cap)).run P w'=.ok olds.toArray w'):=by
  obtain ⟨ob,cap,olds,e1,e2,e3,_⟩:=J3 (σ:=σ) h.inv H (z:=.sl true sz es) rfl;refine ⟨ob,cap,olds,e1,?_,e2,e3⟩;subst e1;cases H with
  |iJ=>rfl
  |sl vals hle ht=>grind
 obtain ⟨ob,cap,olds,rfl,Z,Q,W⟩:=S;have q:new=[]->(execOp a.eval o).run P w=.ok (.value (.slice ob es.length cap)) w:=by intro l;subst l;have A:f=[]:=qaL (by simpa using E.len);subst A;have:=qx (P:=P) (ty:=o.type) (ob:=ob) (n:=es.length) (cap:=cap) hu0 hu1 hs [] w (F w rfl) (by grind) (fun ad _=>by simp [storeCells]) (fun _=>rfl);rw [J,this];simp
 have grow:new≠[]->∃(tail:List Value) (m:Nat),(execOp a.eval o).run P w=.ok (.value (.slice (some ⟨w.heap.size,0,none⟩) (es.length+new.length) m)) (w.drew.alloc (.cells (olds++f++tail).toArray e))/\es.length+new.length<=m/\tail.length=(m-(es.length+new.length))*sz:=by intro l;have pa:0<new.length:=List.length_pos_iff.2 l;obtain ⟨tail,j,B⟩:=sJ (P:=P) (ty:=o.type) hu0 hu1 hs hb hz olds f W F (by omega) (by omega) hroom.2 hpos;exact ⟨tail,_,by simp_all,grownCap_ge _ _ _ _,B⟩
 have y:=Q.append E;refine ⟨fun l=>.still h (q l) H,?_,fun l=>?_⟩
 ·by_cases l:new=[]
  ·refine .still h (q l) ?_;subst l;rw [List.append_nil];cases H with
   |iJ=>exact .iJ
   |sl vals hle ht hc hcell hk hrr=>exact .sl vals hle (by simp) hc hcell hk hrr
  obtain ⟨tail,m,j,hm,_⟩:=grow l;have L:=h.still (aK.drew nowhere w);refine ⟨_,C,_,_,_,j,.inl rfl,L.learn (olds++f++tail).toArray e,?_⟩;rw [<-qaw];refine (y.mono (Kn.CP L.inv _)).rep (fun k v hv=>?_) (by simp) (by grind);simp only [Kn.add,World.size_drew,if_true,Nat.zero_add]
  grind
 obtain ⟨tail,m,j,hm,B⟩:=grow l;have L:=h.still (aK.drew nowhere w);have pb:(olds++f++tail).toArray.size=m*sz:=by
  have:=y.len;simp only [qaw] at this;simp only [List.size_toArray,qaw,this,B,<-Nat.add_mul]
  congr 1;omega
 have O:(C++[CB.at w.heap.size 0 (m*sz) sz])[σ.bx.length]?=some (.at w.heap.size 0 (m*sz) sz):=by rw [<-h.inv.size];simp
 refine ⟨K,C++[.at w.heap.size 0 (m*sz) sz],_,_,_,j,.inl rfl,?_,?_⟩
 ·refine L.push _ (y.box (kD w.drew _) (fun k v hv=>?_) ?_ (by omega)) (fun b k hw=>hw.1)
  ·grind
  simp_all[qaA]
 have:=Rep.bs (K:=K) (off:=0) (len:=es.length+new.length) (cap:=m) O (by simp) hm<;>grind
end
section
variable {kk:KK}{es:List (Value×X)}{m':Opd}{k m:Operand}{k' kv v:Value}{xm y z:X}
variable {P:Program} {R:aP} {x:Ctx} {K:Kn} {C:List CB} {σ:St} {a:Act} {w:World} {o:Oper}
def KK.desc:KK->TypeDesc
 |.int k=>.int k
 |.str=>.string
 |.bool=>.bool
theorem Uc (h:vN kk v=true):MapKept.IsKey kk.desc v:=by
 cases kk<;>cases v<;>simp_all [vN,MapKept.IsKey,KK.desc]
theorem Ol {t:TypeId}(h:zmK P t=some kk):P.underlying t=some kk.desc:=by unfold zmK at h;split at h<;>simp at h<;>subst h<;>assumption
theorem FD {k:Value}{b:Bool}(hk:vN kk k=true)(h:tX k k'=some b):Instr.sameNow kk.desc k k'=some b:=by
 cases kk<;>cases k<;>cases k'<;>simp_all [vN,tX,Instr.sameNow,KK.desc]
theorem Xe {k:Value}(h:tX k k'=some true):k'=k:=by
 cases k<;>cases k'<;>simp_all [tX,MapKept.bytes_beq]
theorem lX {kk:KK}{k:Value}(hk:vN kk k=true):∀{es:List (Value×X)} {ents:List MapEntry} {i:Nat} {r:Option (Nat×X)},Hg K es ents->kH k es i=some r->
  (r=none/\Instr.findNow kk.desc k ents i=some none)\/(∃j y m,r=some (i+j,y)/\ents[j]?=some m/\es[j]?=some (k,y)/\m.key=k/\Instr.findNow kk.desc k ents i=some (some (i+j,m.val)))
 |[],ents,i,r,hE,h=>by have:=qaL (by rw [hE.len];rfl);subst this;simp [kH] at h;exact .inl ⟨h.symm,rfl⟩
 |e::es,[],i,r,hE,h=>by have:=hE.len<;>grind
 |e::es,m::ents,i,r,hE,h=>by
  have hkey:=hE.key 0 e m rfl rfl;have hE':Hg K es ents:=⟨by have:=hE.len<;>grind,fun j e' m' h1 h2=>hE.key (j+1) e' m' (by grind) (by grind),fun j e' m' h1 h2=>hE.val (j+1) e' m' (by grind) (by grind)⟩;simp only [kH] at h;split at h;next hs=>have hn:=FD hk hs;have he:=Xe hs;simp at h;refine .inr ⟨0,e.2,m,by rw [<-h];rfl,rfl,by rw [<-he];rfl,by rw [hkey,he],?_⟩<;>simp_all[Instr.findNow]
  ·rename_i hs;have hn:=FD hk hs;rcases lX hk hE' h with ⟨h1,h2⟩|⟨j,y,m',h1,h2,h3,h4,h5⟩
   ·grind[Instr.findNow]
   refine .inr ⟨j+1,y,m',by grind,by grind,by grind,h4,?_⟩;simp only [Instr.findNow,hkey,hn,h5]
   grind
  grind
theorem zei {t kt e:TypeId}(h:Rel P R x K C σ a w)(ho:o.op=.makeMap t none)(_:P.underlying t=some (.map kt e)):dP P R x σ a w o (.mp σ.bx.length) (σ.bx++[.map []]):=by
 have f:(C++[CB.obj w.heap.size])[σ.bx.length]?=some (.obj w.heap.size):=by rw [<-h.inv.size];simp
 refine ⟨K,C++[.obj w.heap.size],_,.map (some w.heap.size),w.alloc (.map #[] 0),?_,.inl rfl,?_,.mp f⟩;·simp_all[execOp,Instr.makeMap]
 exact h.push _ ⟨#[],0,kD _ _,rfl,by simp,by simp⟩ (fun b k j=>j)
theorem zac {t kt e t1 t2 t3:TypeId}{v:Operand}{k' v':Opd}{i:Nat}{es':List (Value×X)}(h:Rel P R x K C σ a w)(ho:o.op=.insert t m k v\/o.op=.mapUpdate t m k v)
  (hu:P.underlying t=some (.map kt e)) (hkk:zmK P kt=some kk) (hm:aU P R.gl t1 m=some m') (hk:aU P R.gl t2 k=some k') (hv:aU P R.gl t3 v=some v') (em:σ.ev m'=some (.mp i)) (ek:σ.ev k'=some (.v kv)) (ev:σ.ev v'=some y)
  (hb:σ.bx[i]?=some (.map es)) (hok:vN kk kv=true) (h1:y.ok1=true) (hn:oZ y=true) (hp:Fh kv y es=some es'):dP P R x σ a w o undefX (σ.bx.set i (.map es')):=by
 have r1:=aZ h.inv.glob h.tm hm em;have r2:=aZ h.inv.glob h.tm hk ek;have r3:=aZ h.inv.glob h.tm hv ev;have e2:=fJ r2;generalize Z:a.eval m=mv at r1;cases r1 with
 |mp hc=>
  rename_i b;obtain ⟨u,A,f,B⟩:=h.inv.box i _ _ hb hc;have N:=List.isEmpty_iff.1 hn;have hy:Rep K [] y (a.eval v):=r3.oZ N;have O:∀n (w':World),(Instr.mapUpdate t (.map (some b)) kv (a.eval v)).run P w=.ok () w'->n=Next.skip->(execOp a.eval o).run P w=.ok n w':=fun n w' hr hn=>by subst hn;rcases ho with ho|ho<;>simp [execOp,ho,Z,e2,hr,Result.andThen]
  have Q:=Ol hkk;have J:=Uc hok;unfold Fh at hp;split at hp
  ·rename_i W;simp at hp;subst hp;rcases lX hok B W with ⟨_,L⟩|⟨j,z,mm,l,_⟩
   ·refine ⟨K,C,.skip,undef,{w with heap:=w.heap.setIfInBounds b (.map (u.push {key:=kv,val:=a.eval v,born:=A}) (A+1))},O _ _ ?_ rfl,.inr ⟨rfl,rfl⟩,?_,.v rfl⟩;·simp [Instr.mapUpdate,run_underlying hu,MapKept.run_getObj_map f,MapKept.run_checkKey Q J,MapKept.run_findKey Q L,MapKept.run_setObj_map _ f,Result.andThen]
    refine h.BN hb rfl hc (aK.setObj f trivial trivial fun _=>rfl) ⟨_,_,(MapKept.heap_set f).1,?_⟩ (fun e=>by grind[Bx.gG]);refine ⟨by simp [B.len],fun j e' m' l q=>?_,fun j e' m' l q=>?_⟩
    ·rw [Array.toList_push] at q;by_cases Y:j<es.length;·rw [qap Y] at l;rw [qap (by rw [B.len]<;>grind)] at q;exact B.key j e' m' l q
     rw [qax (by omega)] at l;rw [qax (by rw [B.len];omega),B.len] at q<;>grind
    rw [Array.toList_push] at q;by_cases Y:j<es.length;·rw [qap Y] at l;rw [qap (by rw [B.len]<;>grind)] at q;exact B.val j e' m' l q
    rw [qax (by omega)] at l;rw [qax (by rw [B.len];omega),B.len] at q<;>grind
   grind
  ·rename_i H z0 W;simp at hp;subst hp;rcases lX hok B W with ⟨l,_⟩|⟨j,z,mm,l,q,pa,U,L⟩
   ·grind
   simp at l;obtain ⟨rfl,rfl⟩:=l;have V:u[H]?=some mm:=by simpa using q
   refine ⟨K,C,.skip,undef,{w with heap:=w.heap.setIfInBounds b (.map (u.modify H fun e=>{e with key:=kv,val:=a.eval v}) A)},O _ _ ?_ rfl,.inr ⟨rfl,rfl⟩,?_,.v rfl⟩;·simp [Instr.mapUpdate,run_underlying hu,MapKept.run_getObj_map f,MapKept.run_checkKey Q J,MapKept.run_findKey Q L,V,U,MapKept.run_keyThatStays J,MapKept.run_setObj_map _ f,Result.andThen]
   refine h.BN hb rfl hc (aK.setObj f trivial trivial fun _=>rfl) ⟨_,_,(MapKept.heap_set f).1,?_⟩ (fun e=>by grind[Bx.gG]);have E:∀(j:Nat) (m':MapEntry),(u.modify H fun e=>{e with key:=kv,val:=a.eval v}).toList[j]?=some m'->(j=H/\m'.key=kv/\m'.val=a.eval v)\/(j≠H/\u.toList[j]?=some m'):=fun j m' e=>by grind
   have F:∀(j:Nat) (e':Value×X),(es.set H (kv,y))[j]?=some e'->(j=H/\e'=(kv,y))\/(j≠H/\es[j]?=some e'):=fun j e' e=>by grind
   refine ⟨by simp [B.len],fun j e' m' l q=>?_,fun j e' m' l q=>?_⟩
   ·rcases F j e' l with ⟨S,M⟩|⟨S,M⟩
    ·grind
    rcases E j m' q with ⟨k1,_,_⟩|⟨_,k2⟩
    ·grind
    exact B.key j e' m' M k2
   rcases F j e' l with ⟨S,M⟩|⟨S,M⟩
   ·grind
   rcases E j m' q with ⟨k1,_,_⟩|⟨_,k2⟩
   ·grind
   exact B.val j e' m' M k2
  grind
theorem zak {K:Kn}{C:List CB}(h:fK K C [z] v.cells.toList)(ha:∀vs,v≠.agg vs):Rep K C z v:=by
 have a:v.cells=#[v]:=by
  cases v<;>first|rfl|grind
 rw [a] at h;exact h.rep 0 z v rfl rfl
theorem zcr {K:Kn}{C:List CB}{l:List X}(h:fK K C l v.cells.toList)(ha:∃vs,v=.agg vs):Rep K C (.agg l) v:=by obtain ⟨vs,rfl⟩:=ha;exact .agg (by have:=h.len<;>grind[Value.cells]) h.cell (fun j x v e a=>h.rep j x v e (by grind[Value.cells]))
theorem Yw {e:TypeId}(h:zcO P e=some z)(w:World):∃v,(zeroValue e).run P w=.ok v w/\∀K C,Rep K C z v:=by
 have n:∀v l,(P.info? e).bind (·.zero)=some v->pK P e=some l->(zeroValue e).run P w=.ok v w/\∀(K:Kn) (C:List CB),fK K C l v.cells.toList:=fun v l j a=>by obtain ⟨u,f,y,_,_⟩:=lq a w;obtain ⟨i,q,m⟩:=qaz.1 j<;>simp_all[zeroValue,typeInfo]
 unfold zcO at h;split at h;next A l j a=>simp at h;subst h<;>simp_all[zcr]
 ·grind[zak]
 grind
theorem zae {t kt e t1 t2:TypeId}{k':Opd}{ok:Bool}{zero:X}(h:Rel P R x K C σ a w)(ho:o.op=.lookup t m k ok)
  (hu:P.underlying t=some (.map kt e)) (hkk:zmK P kt=some kk) (hz:zcO P e=some zero) (hm:aU P R.gl t1 m=some m') (hk:aU P R.gl t2 k=some k') (em:σ.ev m'=some xm) (ek:σ.ev k'=some (.v kv))
  (hb:(∃i,xm=.mp i/\σ.bx[i]?=some (.map es))\/(xm=.v (.map none)/\es=[])) (hok:vN kk kv=true) (hg:yT ok zero kv es=some y):dP P R x σ a w o y σ.bx:=by
 have W:=aZ h.inv.glob h.tm hm em;have e2:=fJ (aZ h.inv.glob h.tm hk ek);obtain ⟨zv,Y,pb⟩:=Yw hz w;have L:=Ol hkk;have H:=Uc hok;generalize J:a.eval m=mv at W;have V:∃ents:List MapEntry,Hg K es ents/\∀q:Option (Nat×Value),Instr.findNow kk.desc kv ents 0=some q->(execOp a.eval o).run P w=.ok (.value (match q with|some (_,v)=>if ok then .tuple #[v,.bool true] else v|none=>if ok then .tuple #[zv,.bool false] else zv)) w:=by
  rcases hb with ⟨i,rfl,Q⟩|⟨rfl,rfl⟩
  ·cases W with
   |mp hc=>
    rename_i b;obtain ⟨ents,M,f,F⟩:=h.inv.box i _ _ Q hc;refine ⟨ents.toList,F,fun q U=>?_⟩;have B:=MapKept.run_findKey (w:=w) L U;have A:=MapKept.run_checkKey (P:=P) (w:=w) L H ents.isEmpty 9999;cases q with
    |none=>cases ok<;>simp [execOp,ho,J,e2,Instr.lookup,run_underlying hu,MapKept.run_getObj_map f,A,B,Y,Result.andThen]
    |some p=>cases ok<;>simp [execOp,ho,J,e2,Instr.lookup,run_underlying hu,MapKept.run_getObj_map f,A,B,Result.andThen]
  have:=fJ W;subst this;refine ⟨[],⟨rfl,by simp,by simp⟩,fun q U=>?_⟩;have B:=MapKept.run_findKey (w:=w) L U;have A:=MapKept.run_checkKey (P:=P) (w:=w) L H true 9999;cases q with
  |none=>simp_all[execOp,Instr.lookup,run_underlying]
  |some p=>simp_all[execOp,Instr.lookup,run_underlying]
 obtain ⟨ents,F,n⟩:=V;have pc:∀{z:X} {v:Value} {b:Bool},Rep K C z v->Rep K C (.tup [z,.v (.bool b)]) (.tuple #[v,.bool b]):=fun {z v b} hr=>
  .tup rfl fun j u uv e Z=>by
   cases j with
   |zero=>grind
   |succ j=>cases j with
    |zero=>simp at e Z;subst e;subst Z;exact .v rfl
    |succ j=>simp_all
 unfold yT at hg;split at hg
 ·rename_i S;simp at hg;subst hg;rcases lX hok F S with ⟨_,E⟩|⟨j,z,mm,l,_⟩;·refine .still h (n none E) ?_<;>grind
  grind
 ·rename_i j0 z0 S;simp at hg;subst hg;rcases lX hok F S with ⟨l,_⟩|⟨j,z,mm,l,N,O,pa,E⟩
  ·grind
  simp at l;obtain ⟨rfl,rfl⟩:=l;have hv:=(F.val j0 _ _ O N).2.2.mono (KLe.refl _) (CLe.nil C);refine .still h (n _ E) ?_<;>grind
 grind
theorem zad {tys:Array TypeId}{t kt e t1:TypeId}(h:Rel P R x K C σ a w)(ho:o.op=.call ⟨.builtin .len,#[m],tys⟩)(ht:tys[0]?=some t)(hu:P.underlying t=some (.map kt e))
  (hm:aU P R.gl t1 m=some m') (em:σ.ev m'=some xm) (hb:(∃i,xm=.mp i/\σ.bx[i]?=some (.map es))\/(xm=.v (.map none)/\es=[])):dP P R x σ a w o (.v (.int .i64 (es.length:Int))) σ.bx:=by
 have u:=aZ h.inv.glob h.tm hm em;generalize l:a.eval m=mv at u;refine .still h (v:=.int .i64 (es.length:Int)) ?_ (.v rfl);rcases hb with ⟨i,rfl,q⟩|⟨rfl,rfl⟩
 ·cases u with
  |mp hc=>
   obtain ⟨j,n,f,y⟩:=h.inv.box i _ _ q hc;have A:j.size=es.length:=by have:=y.len;simpa using this
   simp [execOp,ho,resolve,invoke,builtin,Builtin.len_,ht,l,run_underlying hu,MapKept.run_getObj_map f,Result.andThen,goInt,A]
 have:=fJ u;subst this;simp [execOp,ho,resolve,invoke,builtin,Builtin.len_,ht,l,run_underlying hu,Result.andThen,goInt]
theorem zej {t t1:TypeId}{z:Operand}{z':Opd}{d:TypeDesc}(h:Rel P R x K C σ a w)(ho:o.op=.makeInterface t z)(hu:P.underlying t=some d)(hd:∀ms,d≠.interface ms)(_:aU P R.gl t1 z=some z')(_:σ.ev z'=some y):dP P R x σ a w o .ifc σ.bx:=by refine .still h (v:=.iface t (a.eval z)) ?_ .ifc<;>simp_all[execOp,Instr.makeInterface,run_underlying]
theorem Kv {op:BinOp}{t t1 u:TypeId}{p:Operand}{p':Opd}{neg:Bool}{ms:Array (String×TypeId)}(h:Rel P R x K C σ a w)(ho:o.op=.binOp op t p (.const .nilIface) u)(hop:op=if neg then .neq else .eql)(hu:P.underlying t=some (.interface ms))
  (hp:aU P R.gl t1 p=some p') (ep:σ.ev p'=some y) {b:Bool} (hy:(y=.ifc/\b=neg)\/(y=.v .nilIface/\b=!neg)):dP P R x σ a w o (.v (.bool b)) σ.bx:=by
 have r:=aZ h.inv.glob h.tm hp ep;generalize E:a.eval p=pv at r;refine .still h (v:=.bool b) ?_ (.v rfl);have F:a.eval (.const .nilIface)=.nilIface:=rfl;rcases hy with ⟨rfl,rfl⟩|⟨rfl,rfl⟩
 ·cases r with
  |ifc=>
   rename_i f j;have q:∀d,(Op.equalIn (d+1) t (.iface f j) .nilIface).run P w=.ok false w:=by intro d;simp [Op.equalIn,run_underlying hu]
   have l:(Op.equal t (.iface f j) .nilIface).run P w=.ok false w:=q 9999;have m:binOp .eql t (.iface f j) .nilIface=(do pure (.bool (<-Op.equal t (.iface f j) .nilIface)):Sem Value):=rfl;have n:binOp .neq t (.iface f j) .nilIface=(do pure (.bool (!(<-Op.equal t (.iface f j) .nilIface))):Sem Value):=rfl;generalize Op.equal t (.iface f j) .nilIface=s at l m n;have B:(eqGuard op t p (.const .nilIface) (.iface f j) .nilIface).run P w=.ok () w:=by unfold eqGuard;split<;>rfl
   have A:(binOp op t (.iface f j) .nilIface).run P w=.ok (.bool b) w:=by
    cases b with
    |true=>simp_all
    |false=>simp_all
   simp_all[execOp]
 have:=fJ r;subst this;have q:∀d,(Op.equalIn (d+1) t .nilIface .nilIface).run P w=.ok true w:=by intro d;simp [Op.equalIn,run_underlying hu]
 have l:(Op.equal t .nilIface .nilIface).run P w=.ok true w:=q 9999;have m:binOp .eql t .nilIface .nilIface=(do pure (.bool (<-Op.equal t .nilIface .nilIface)):Sem Value):=rfl;have n:binOp .neq t .nilIface .nilIface=(do pure (.bool (!(<-Op.equal t .nilIface .nilIface))):Sem Value):=rfl;generalize Op.equal t .nilIface .nilIface=s at l m n;have B:(eqGuard op t p (.const .nilIface) .nilIface .nilIface).run P w=.ok () w:=by unfold eqGuard;split<;>first|rfl|simp
 have A:(binOp op t .nilIface .nilIface).run P w=.ok (.bool (!neg)) w:=by
  cases neg with
  |true=>simp_all
  |false=>simp_all
 simp_all[execOp]
end
section
variable {new:qaV}{sz:Nat}
variable {P:Program} {R:aP} {x:Ctx} {K:Kn} {C:List CB} {σ:St} {a:Act} {w:World}
variable {o:Oper} {y:X} {bx:List Bx} {fp:FP} {A:Ann} {Γ:Gam}
theorem Y7 (h:Inv P R K C σ.bx w){z:X}{v:Value}(hr:Rep K C z v)(e:qh σ.bx z=some (sz,new)):
  ∃oc c news,v=.slice oc new.length c/\Flat K sz new news/\∀n,n<=new.length->(Builtin.firstCells sz n (.slice oc new.length c)).run P w=.ok (news.take (n*sz)).toArray w:=by
 have S:∀(b o' m c:Nat) (news:List Value),news.length=m*sz->(∀k u,news[k]?=some u->w.cell? ⟨b,o'+k,none⟩=some u)->∀n,n<=m->
   (Builtin.firstCells sz n (.slice (some ⟨b,o',none⟩) m c)).run P w=.ok (news.take (n*sz)).toArray w:=by
  intro b o' m c news hl J n pa;refine run_firstCells_some w sz n ⟨b,o',none⟩ m c _ ?_ (fun j u A=>?_);·simp_all
  ·grind[addr_add]
 unfold qh at e;split at e
 ·rename_i t s F;simp at e;obtain ⟨rfl,rfl⟩:=e;have Q:=hr;cases hr with
  |iJ=>
   rename_i E;exact ⟨E,0,[],rfl,Flat.nil,fun n J=>by
    have:n=0:=by simpa using J
    subst this;cases E<;>simp [Builtin.firstCells,loadCells,loadCellsFrom]⟩
  |sl vals O ht hcap hcell hk hrr=>obtain ⟨U,H,N⟩:=Q.flat;exact ⟨_,_,U,rfl,H,S _ _ _ _ U H.len (fun k u A=>h.known _ _ _ (N k u A))⟩
 ·rename_i i l len;unfold rowOf at e;split at e
  ·rename_i s F W;split at e
   ·rename_i O;simp at e;obtain ⟨rfl,rfl⟩:=e;have a:((F.drop l).take len).length=len:=by simp;omega
    cases hr with
    |bs hc hcap hlc=>
     rename_i b y hi q M;obtain ⟨L,el,V,h2,h3,Y,H⟩:=(h.box i _ _ W hc).flat;subst V;have f:∀k u,(((((L.toList.drop y).take (F.length*q)).drop (l*q)).take (len*q)))[k]?=some u->w.cell? ⟨b,y+l*q+k,none⟩=some u:=by
      intro k u A;rw [qau] at A;split at A;·rw [qat,qau] at A<;>grind[World.cell?]
      ·grind
     have B:=(H.drop l).take len;refine ⟨_,M,_,by rw [a],B,?_⟩;rw [a];exact S _ _ _ _ _ (by rw [B.len,a]) f
    |mM hc=>
     have Z:((F.drop 0).take 0)=[]:=by simp
     rw [Z];rename_i E;exact ⟨E,0,[],rfl,Flat.nil,fun n J=>by
      have:n=0:=by simpa using J
      subst this;cases E<;>simp [Builtin.firstCells,loadCells,loadCellsFrom]⟩
   grind
  grind
 grind
theorem zi3 {t0 e:TypeId}{args:Array Operand}{tys:Array TypeId}{pd ps:Operand}{qd qs:Opd}{td ts:TypeId}{i off len:Nat}{es:qaV}{ys:X}(h:Rel P R x K C σ a w)(ho:o.op=.call ⟨.builtin .copy,args,tys⟩)(ha:args.toList=[pd,ps])
  (h0:tys[0]?=some t0) (hu0:P.underlying t0=some (.slice e)) (hs:eF P e=some sz)
  (hpd:aU P R.gl td pd=some qd) (hps:aU P R.gl ts ps=some qs) (epd:σ.ev qd=some (.bs i off (len+1))) (eps:σ.ev qs=some ys) (hsrc:qh σ.bx ys=some (sz,new)) (hbx:σ.bx[i]?=some (.row sz es)) (hend:off+(len+1)<=es.length):
  dP P R x σ a w o (.v (.int .i64 ((min new.length (len+1):Nat):Int))) (σ.bx.set i (.row sz (es.take off++new.take (min new.length (len+1))++es.drop (off+min new.length (len+1))))):=by
 have W:args=#[pd,ps]:=by rw [<-Array.toArray_toList (xs:=args),ha]
 subst W;have r1:=aZ h.inv.glob h.tm hpd epd;have r2:=aZ h.inv.glob h.tm hps eps;obtain ⟨oc,c,m,pe,Q,F⟩:=Y7 h.inv r2 hsrc;have N:min new.length (len+1)<=new.length:=Nat.min_le_left _ _;have pf:min new.length (len+1)<=len+1:=Nat.min_le_right _ _;have B:Nat.min new.length (len+1)=min new.length (len+1):=rfl;generalize hn:min new.length (len+1)=n at N pf B ⊢;have F:=F n N;generalize Y:a.eval pd=dv at r1;cases r1 with
 |bs hc hcap hlc=>
  rename_i b j hi f ph;obtain ⟨l,el,g1,g2,g3,E,H⟩:=(h.inv.box i _ _ hbx hc).flat;subst g1;have U:=qaA f (show off+n<=es.length by omega);rw [Nat.add_mul] at U;have M:(m.take (n*f)).length=n*f:=by have:=qaA f N;rw [qai,Q.len];omega
  have S:=Q.take n;have L:=run_storeCells_at P b (j+off*f) el (m.take (n*f)) 0 l w E (by omega) S.oneCell;simp only [Nat.add_zero] at L;generalize y:(l.toList.take (j+off*f)++m.take (n*f)++l.toList.drop (j+off*f+(m.take (n*f)).length)).toArray=arr' at L;have hT:(l.toList.take (j+off*f)).length=j+off*f:=by simp;omega
  have J:arr'.size=l.size:=by rw [<-y];simp;omega
  refine ⟨K,C,_,.int .i64 (n:Int),w.setRow b arr',?_,.inl rfl,?_,.v rfl⟩
  ·obtain ⟨ii,pa,pb⟩:∃ii,P.info? e=some ii/\ii.size=f:=by simp_all[eF]
   simp [execOp,ho,resolve,invoke,builtin,Builtin.copy_,h0,run_underlying hu0,Y,pe,Builtin.lenOf,B,sizeOf,typeInfo,pa,pb,F,L,goInt,Result.andThen]
  have A:∀q,arr'[q]?=if q<j+off*f then l[q]? else if q<j+off*f+n*f then m[q-(j+off*f)]? else l[q]?:=by
   intro q;rw [<-y,List.getElem?_toArray,M];by_cases O:q<j+off*f;·simp_all[qap]
   rw [if_neg O];by_cases V:q<j+off*f+n*f;·rw [if_pos V,qap (by grind),qax (by omega),hT,qau,if_pos (by omega)]
   rw [if_neg V,qax (by rw [qaw];omega),qat,qaw,hT,M,Array.getElem?_toList]<;>simp_all
  have Z:=((H.take off).append S).append (H.drop (off+n));have pc:(es.take off++new.take n++es.drop (off+n)).length=es.length:=by simp;omega
  have pg:=H.len;refine h.BN hbx rfl hc (aK.setRow E J fun q hq=>?_) (Z.box (setRow_heap w b l arr' el _ E) (fun k v u=>?_) ?_ (by omega)) (fun e=>by grind[Bx.gG])
  ·rw [A];by_cases O:q<j+off*f
   ·grind
   rw [if_neg O];by_cases V:q<j+off*f+n*f;·exact absurd ⟨rfl,by omega,by omega⟩ hq
   grind
  ·rw [A];have hk:=(qak.1 u).1;have e1:(((l.toList.drop j).take (es.length*f)).take (off*f)).length=off*f:=by rw [qai,pg];omega
   have pi:(off+n)*f=off*f+n*f:=Nat.add_mul _ _ _;by_cases O:k<off*f
   ·rw [if_pos (by omega)];rw [qaM,qap (by omega),qau,if_pos O,qau] at u;split at u;·rw [qat,Array.getElem?_toList] at u<;>grind
    grind
   rw [if_neg (by omega)];by_cases V:k<off*f+n*f
   ·rw [if_pos (by omega)];rw [qap (by grind),qax (by omega),e1,qau] at u;split at u;·rw [<-u];congr 1;omega
    grind
   rw [if_neg (by omega)];rw [qax (by grind),qaw,e1,M,qat,qau] at u;split at u;·rw [qat,Array.getElem?_toList] at u;rw [<-u];congr 1;omega
   grind
  grind
end
section
variable {i:Nat}
variable {P:Program} {R:aP} {x:Ctx} {K:Kn} {C:List CB} {σ:St} {a:Act} {w:World}
variable {o:Oper} {y:X} {bx:List Bx} {fp:FP} {A:Ann} {Γ:Gam}
theorem Rel.move (h:Rel P R x K C σ a w){D B:Bx}{c c':CB}(hD:σ.bx[i]?=some D)(hl:D.live=true)(hnl:D.gG=false)(hc:C[i]?=some c)(hsub:∀b o,c'.owns b o->c.owns b o)
  (hB:BoxOk P R K (C++[c']) w B c'):Rel P R x K (C++[c']) ⟨σ.tm,σ.bx.set i .dead++[B]⟩ a w:=by
 have A:=h.kill i (fun N e Z=>by grind);have O:∀b o,c'.owns b o->kT C σ.bx b o:=fun b o y=>⟨i,c,D,hc,hD,hl,hsub b o y⟩;have u:∀b o,c'.owns b o->¬kT C (σ.bx.set i .dead) b o:=by
  rintro b o y ⟨j,d,M,V,l,m,J⟩
  rw [List.getElem?_set] at l;split at l
  ·grind[Bx.live]
  rename_i F;exact h.inv.Ic i j c d D M b o F hc V hD l hl m (hsub b o y) J
 have f:∀b o,kT (C++[c']) (σ.bx.set i .dead++[B]) b o->kT C σ.bx b o:=by
  intro b o n;rcases lS (by simpa using h.inv.size) n with n|n
  ·grind[EY]
  ·grind
 refine {A with inv:=?_,tm:=?_,own:=?_,cin:=?_,defs:=?_,loops:=?_};·exact A.inv.push hB (fun b o y=>h.inv.apart b o (O b o y)) u
 ·exact A.tm.mono (KLe.refl _) (CLe.append _ _)
 ·intro b o n;exact h.own b o (f b o n)
 ·intro j d e;exact CLe.append _ _ _ _ (h.cin j d e)
 ·obtain ⟨Y,Q,S,E⟩:=h.defs.marks;exact ⟨⟨Y,Q,S,fun r H=>⟨(E r H).1,(E r H).2.1,fun q n=>(E r H).2.2 q (f r q n)⟩⟩,h.defs.round⟩
 intro j W m;obtain ⟨N,U,L⟩:=A.loops j W m<;>grind
theorem zai {t0 t1 e e1:TypeId}{args:Array Operand}{tys:Array TypeId}{ps pz:Operand}{qs qz:Opd}{ts tz:TypeId}{sz bytes off len:Nat}{z:List X}{es new:qaV}{yz:X}(h:Rel P R x K C σ a w)(ho:o.op=.call ⟨.builtin .append,args,tys⟩)(ha:args.toList=[ps,pz])
  (h0:tys[0]?=some t0) (h1:tys[1]?=some t1) (hu0:P.underlying t0=some (.slice e)) (hu1:P.underlying t1=some (.slice e1)) (hs:eF P e=some sz) (hb:vY P e=some bytes) (hz:pK P e=some z) (hpos:0<bytes)
  (hps:aU P R.gl ts ps=some qs) (hpz:aU P R.gl tz pz=some qz) (eps:σ.ev qs=some (.bs i off len)) (epz:σ.ev qz=some yz) (hsrc:qh σ.bx yz=some (sz,new)) (hbx:σ.bx[i]?=some (.row sz es)) (hend:off+len=es.length)
  (hroom:cZ (len+new.length) bytes=true):
  dP P R x σ a w o (.bs σ.bx.length 0 (len+new.length)) (σ.bx.set i .dead++[.row sz (es.drop off++new)]):=by
 have pn:args=#[ps,pz]:=by rw [<-Array.toArray_toList (xs:=args),ha]
 subst pn;have qb:∃rest,tys=(t0::t1::rest).toArray:=by
  have e0:tys=tys.toList.toArray:=by simp
  cases hl:tys.toList with
  |nil=>rw [e0,hl] at h0<;>grind
  |cons a0 r=>cases r with
   |nil=>rw [e0,hl] at h1<;>grind
   |cons b0 r=>rw [e0,hl] at h0 h1<;>grind
 obtain ⟨rest,rfl⟩:=qb;simp only [cZ,qab,qaC] at hroom;have r1:=aZ h.inv.glob h.tm hps eps;have r2:=aZ h.inv.glob h.tm hpz epz;obtain ⟨oc,c,u,pw,J,Z,_⟩:=J3 h.inv r2 hsrc;have pc:qh σ.bx (.bs i off len)=some (sz,es.drop off):=by
  simp only [qh,rowOf,hbx];rw [if_pos (by omega)]
  congr 2
  exact List.take_of_length_le (by grind)
 obtain ⟨ob,cap,N,U,pp,pj,pv⟩:=J3 h.inv r1 pc;have M:(es.drop off).length=len:=by simp;omega
 rw [M] at U pj;have H6:(execOp a.eval o).run P w=((Builtin.append_ #[t0,t1] o.type #[.slice ob len cap,.slice oc new.length c]).run P w).andThen fun v w'=>.ok (.value v) w':=by
  have V:Builtin.append_ (t0::t1::rest).toArray o.type #[a.eval ps,a.eval pz]=Builtin.append_ #[t0,t1] o.type #[a.eval ps,a.eval pz]:=by simp [Builtin.append_]
  simp only [execOp,ho,resolve,invoke,builtin,Sem.run_bind,Sem.run_pure,Result.andThen_ok,List.map_toArray,qaT,List.map_nil,V];rw [U,pw]
 have pe:=pp.append J;have py:(N++u).length=(len+new.length)*sz:=by rw [pe.len,qaw,M]
 have qn:(Bx.row sz es).gG=false:=rfl;have grow:cap<len+new.length->dP P R x σ a w o (.bs σ.bx.length 0 (len+new.length)) (σ.bx.set i .dead++[.row sz (es.drop off++new)]):=by
  intro pr;obtain ⟨pi,E,ph⟩:=sJ (P:=P) (ty:=o.type) hu0 hu1 hs hb hz N u pj Z pr (by omega) hroom.2 hpos;have hm:=grownCap_ge w (len+new.length) cap e;generalize qm:grownCap w (len+new.length) cap e=m at E ph hm;have hk:=(h.still (aK.drew nowhere w)).kill i (fun B e e'=>by grind);have qq:(N++u++pi).toArray.size=m*sz:=by simp only [List.size_toArray];rw [qaw,py,ph,<-Nat.add_mul];congr 1;omega
  have Y:(C++[CB.at w.heap.size 0 (m*sz) sz])[σ.bx.length]?=some (.at w.heap.size 0 (m*sz) sz):=by rw [<-h.inv.size];simp
  refine ⟨K,C++[.at w.heap.size 0 (m*sz) sz],_,_,_,by rw [H6,E];rfl,.inl rfl,?_,?_⟩
  ·refine hk.push _ (pe.box (kD w.drew _) (fun k v hv=>?_) ?_ (by omega)) (fun b k hw=>hw.1)
   ·grind
   simp_all[qaA]
  have:=Rep.bs (K:=K) (off:=0) (len:=len+new.length) (cap:=m) Y (by simp) hm<;>grind
 rw [U] at r1;cases r1 with
 |bs hc hcap hlc=>
  rename_i b l S f;obtain ⟨A,el,g1,g2,g3,H,pd⟩:=(h.inv.box i _ _ hbx hc).flat;subst g1;by_cases L:len+new.length<=cap
  ·have pq:l+off*f+(len+new.length)*f<=S:=by have h5:=qaA f L;rw [Nat.add_mul] at hcap;omega
   have qt:=J.len;rw [Nat.add_mul] at pq;have pg:=run_storeCells_at P b (l+off*f+len*f) el u 0 A w H (by omega) J.oneCell;simp only [Nat.add_zero] at pg;have E:=qx (P:=P) (ty:=o.type) (ob:=some ⟨b,l+off*f,none⟩) hu0 hu1 hs u _ (Z w rfl) L (fun ad e=>by cases e;rw [addr_add];omega) (fun e=>by cases e);generalize O:(A.toList.take (l+off*f+len*f)++u++A.toList.drop (l+off*f+len*f+u.length)).toArray=arr' at E pg;have hT:(A.toList.take (l+off*f+len*f)).length=l+off*f+len*f:=by simp;omega
   have pb:arr'.size=A.size:=by rw [<-O];simp;omega
   have Q:∀q,arr'[q]?=if q<l+off*f+len*f then A[q]? else if q<l+off*f+len*f+u.length then u[q-(l+off*f+len*f)]? else A[q]?:=by
    intro q;rw [<-O,List.getElem?_toArray];by_cases h5:q<l+off*f+len*f;·simp_all[qap]
    rw [if_neg h5,qaM,qax (by omega),hT];by_cases h6:q<l+off*f+len*f+u.length;·rw [if_pos h6,qap (by omega)]
    rw [if_neg h6,qax (by omega),qat,aY]
    congr 1;omega
   have qu:es.length*f=off*f+len*f:=by rw [<-hend,Nat.add_mul]
   have qd:=pd.append J;have pl:BoxOk P R K C (w.setRow b arr') (.row f (es++new)) (.at b l S f):=by
    refine qd.box (setRow_heap w b A arr' el _ H) (fun k v hv=>?_) (by rw [qaw,Nat.add_mul];omega) (by omega);have hL:((A.toList.drop l).take (es.length*f)).length=es.length*f:=by simp;omega
    rw [Q];by_cases hk:k<es.length*f
    ·rw [qap (by omega),qau,if_pos hk,qat,aY] at hv
     grind
    rw [qax (by omega),hL] at hv;have:=(qak.1 hv).1;rw [if_neg (by omega),if_pos (by omega),<-hv];congr 1;omega
   have px:=h.BN (B:=.row f (es++new)) hbx rfl hc (aK.setRow H pb fun q hq=>by
    rw [Q];have qe:¬(l<=q/\q<S):=fun hh=>hq ⟨rfl,hh.1,hh.2⟩;by_cases h5:q<l+off*f+len*f
    ·grind
    rw [if_neg h5,if_neg (by omega)]) pl (fun e=>by cases e)
   have Dt:(σ.bx.set i (.row f (es++new)))[i]?=some (.row f (es++new)):=by simp [(qak.1 hbx).1]
   have qa:BoxOk P R K (C++[.at b (l+off*f) S f]) (w.setRow b arr') (.row f (es.drop off++new)) (.at b (l+off*f) S f):=by
    obtain ⟨_,_,_,qr,qi,W,qk,pt⟩:=pl;rw [setRow_heap w b A arr' el _ H] at W;simp only [qag,Obj.cells.injEq] at W;obtain ⟨rfl,rfl,_⟩:=W;refine ⟨rfl,by rw [qaw,M,Nat.add_mul];omega,fun e0 F=>?_,arr',el,setRow_heap w b A arr' el _ H,by omega,fun i' j y hy=>?_⟩
    ·rcases qaO.1 F with F|F;·exact pd.elems _ (List.mem_of_mem_drop F)
     exact J.elems _ F
    have hd:es.drop off++new=(es++new).drop off:=by rw [List.drop_append_of_le_length (by omega)]
    obtain ⟨e0,F,hj⟩:=bP.1 hy;rw [hd,qat] at F;obtain ⟨po,v,hv,pu⟩:=pt (off+i') j y (bP.2 ⟨e0,F,hj⟩);refine ⟨po,v,?_,pu⟩<;>grind
   have pk:=px.move Dt rfl rfl hc (c':=.at b (l+off*f) S f) (fun b' o' hw=>⟨hw.1,by have:=hw.2.1;omega,hw.2.2⟩) qa;have qf:(σ.bx.set i (.row f (es++new))).set i .dead=σ.bx.set i .dead:=by simp
   simp at pk;have Y:(C++[CB.at b (l+off*f) S f])[σ.bx.length]?=some (.at b (l+off*f) S f):=by rw [<-h.inv.size];simp
   refine ⟨K,_,_,_,_,by rw [H6,E];rfl,.inl rfl,pk,?_⟩;have:=Rep.bs (K:=K) (off:=0) (len:=len+new.length) (cap:=cap) Y (by grind) L
   grind
  grind
 |mM hc=>
  by_cases hn:new=[];·subst hn;have pa:u=[]:=qaL (by grind);subst pa;have he:es=[]:=qaL (by omega);subst he;have E:=fun ob=>qx (P:=P) (ty:=o.type) (ob:=ob) (n:=0) (cap:=0) hu0 hu1 hs [] w (Z w rfl) (by simp) (fun ad e=>by simp [storeCells]) (fun _=>rfl);have pf:=h.move (B:=.row sz []) (c':=.ghost) hbx rfl rfl hc (fun b o hw=>hw.elim) rfl;refine ⟨K,_,_,_,_,by rw [H6,E];rfl,.inl rfl,pf,?_⟩;exact Rep.mM (C:=C++[CB.ghost]) (by rw [<-h.inv.size];simp)
  grind
end
section
variable {tm:List (Nat×X)}{inb:List Bx}{C':List CB}{sel:List Nat}{i n:Nat}{f:Nat->Nat}{y:X}
variable {P:Program} {R:aP} {x:Ctx} {K:Kn} {C:List CB} {σ:St} {a:Act} {w:World}
def Fr (r:Option Nat):Fence:={Fence.wide with round:=r}
structure zms (P:Program) (R:aP) (K:Kn) (C:List CB) (inb:List Bx) (w:World) (res:X) (outb:List Bx) (v:Value) (w':World) (K':Kn) (E:List CB):Prop where
 inv:Inv P R K' (C++E) outb w'
 res:Rep K' (C++E) res v
 kle:KLe K K'
 knew:∀(b o:Nat) (u:Value),K' b o=some u->K b o=some u\/kT C inb b o\/w.heap.size<=b
 own:∀(b o:Nat),kT (C++E) outb b o->kT C inb b o\/w.heap.size<=b
 frame:aK (kT C inb) w w'
 loops:∀(i:Nat) (B:Bx),inb[i]?=some B->B.gG=true->∃B',outb[i]?=some B'/\B'.gG=true
def Post (P:Program)(R:aP)(K:Kn)(C:List CB)(inb:List Bx)(w:World)(res:X)(outb:List Bx)(e:Ending)(w':World):Prop:=
 ∃(v:Value) (K':Kn) (E:List CB),e=.returned v/\zms P R K C inb w res outb v w' K' E
def cO (K:Kn)(C:List CB)(args:List X)(aN:Array Value):Prop:=
 aN.size=args.length/\∀(j:Nat) (y:X) (v:Value),args[j]?=some y->aN[j]?=some v->Rep K C y v
def JF (P:Program)(R:aP)(f:FuncId)(args:List X)(inb:List Bx)(res:X)(outb:List Bx):Prop:=
 ∀(K:Kn) (C:List CB) (w:World) (aN:Array Value),Inv P R K C inb w->cO K C args aN->Calls P f aN w (Post P R K C inb w res outb)
def zvm (P:Program)(R:aP)(args:List X)(inb:List Bx)(res:X)(outb:List Bx):Prop:=
 ∃(i:Nat) (as:List X),args=.yl i::as/\∀(K:Kn) (C:List CB) (w:World) (aN:Array Value) (l:Nat) (r:Option Nat),Inv P R K C inb w->C[i]?=some (.obj l)->cO K C as aN->
  ∃(f:FuncId) (tmps:Array Value) (assign body:Code),(Instr.yield l aN).run P w=.ok (.round l f tmps assign body) w/\RoundIn (Fr r) 0 P l f tmps assign body w (Post P R K C inb w res outb)
def zgm (P:Program)(f:FuncId):Prop:=∀(args:Array Value) (w:World),(callFunc f args).run P w=.ok (.enter f args) w
structure uz (P:Program) (R:aP) (Γ:Gam):Prop where
 fn:∀(f:FuncId) (args:List X) (inb:List Bx) (res:X) (outb:List Bx),Γ (.fn f) args inb=some (res,outb)->zgm P f/\JF P R f args inb res outb
 yl:∀(args:List X) (inb:List Bx) (res:X) (outb:List Bx),Γ .yl args inb=some (res,outb)->zvm P R args inb res outb
theorem Oz {bx:List Bx}:∀{sel:List Nat} {l:List Bx},RH bx sel=some l->l.length=sel.length/\∀(j i:Nat),sel[j]?=some i->∃B,bx[i]?=some B/\l[j]?=some B
 |[],l,h=>by grind[RH]
 |i::r,l,h=>by
  simp only [RH] at h;cases hb:bx[i]? with
  |none=>grind
  |some b=>
   simp only [hb] at h;obtain ⟨l',hl,rfl⟩:=qac.1 h;obtain ⟨h1,h2⟩:=Oz hl
   grind
theorem I7:∀{l:List Nat},I8 l=true↔l.Nodup
 |[]=>by simp [I8]
 |n::r=>by
  have:tC n r=true↔n∈r:=qB;simp only [I8,qab,Bool.not_eq_true',List.nodup_cons,I7 (l:=r)]
  grind
theorem KQ {l:List Nat}(h:l.Nodup){j:Nat}(e:l[j]?=some i):xK i l=j:=by grind[zq,List.getElem?_inj]
theorem AV (f:Nat->Nat)(B:Bx):(B.ren f).gG=B.gG:=by cases B<;>rfl
theorem nO (f:Nat->Nat)(B:Bx):(B.ren f).live=B.live:=by cases B<;>rfl
theorem zau (f:Nat->Nat):∀(tm:List (Nat×X)) (n:Nat),lk (zgO f tm) n=(lk tm n).map (X.ren f)
 |[],n=>rfl
 |(k,y)::r,n=>by have ih:=zau f r n<;>grind[zgO,lk]
theorem zg1 :lk tm n=some y->∃p,p∈tm/\p.2=y:=by
 induction tm with
 |nil=>grind[lk]
 |cons p r ih=>grind[lk]
theorem WE (h:lk tm n=some y)(hi:i∈y.refs):i∈bT (tm.map (·.2)):=by obtain ⟨p,a,rfl⟩:=zg1 h;exact eH.2 ⟨p.2,qah.2 ⟨p,a,rfl⟩,hi⟩
theorem CQ.ren {tmps:Array Value}(h:CQ K C tm tmps)(hC:∀i,i∈bT (tm.map (·.2))->∀c,C[i]?=some c->C'[f i]?=some c):CQ K C' (zgO f tm) tmps:=by intro n y e;rw [zau] at e;obtain ⟨z,hz,rfl⟩:=qac.1 e;obtain ⟨v,l,j⟩:=h n z hz;exact ⟨v,l,j.ren fun i a=>hC i (WE hz a)⟩
theorem fK.ren {xs:List X}{vs:List Value}(h:fK K C xs vs)(hC:∀i,i∈bT xs->∀c,C[i]?=some c->C'[f i]?=some c):fK K C' (Px f xs) vs:=by
 refine ⟨by rw [je];simpa using h.len,fun y a=>?_,fun j y v e l=>?_⟩;·rw [je] at a;obtain ⟨z,hz,rfl⟩:=qah.1 a;rw [Jf];exact h.cell z hz
 rw [je,qav] at e;obtain ⟨z,hz,rfl⟩:=qac.1 e;exact (h.rep j z v hz l).ren fun i m=>hC i (eH.2 ⟨z,qan hz,m⟩)
theorem BoxOk.ren {B:Bx}{c:CB}(h:BoxOk P R K C w B c)(hC:∀i,i∈B.refs->∀c,C[i]?=some c->C'[f i]?=some c):BoxOk P R K C' w (B.ren f) c:=by
 cases B with
 |dead=>trivial
 |var cs=>cases c with
  |«at»=>obtain ⟨n,A,m,el,q,y⟩:=h;exact ⟨n,by grind[je],m,el,q,y.ren hC⟩
  |ghost=>exact h.elim
  |obj=>exact h.elim
 |row sz es=>cases c with
  |«at»=>exact h
  |ghost=>exact h
  |obj=>exact h.elim
 |map es=>cases c with
  |obj=>exact h
  |«at»=>exact h.elim
  |ghost=>exact h.elim
 |loop st p tm ps a b=>cases c with
  |obj=>obtain ⟨l,u,j⟩:=h;exact ⟨l,u,j.hst,j.ze0,j.htm.ren hC,j.hps,j.hin,j.hcode⟩
  |«at»=>exact h.elim
  |ghost=>exact h.elim
theorem Inv.pick {bx:List Bx}(h:Inv P R K C bx w)(e:Hu bx sel=some inb):
  ∃C1:List CB,Inv P R K C1 inb w/\C1.length=sel.length/\(∀(j i:Nat) (c:CB),sel[j]?=some i->C[i]?=some c->C1[j]?=some c)/\
   (∀(j i:Nat),sel[j]?=some i->∃B,bx[i]?=some B/\inb[j]?=some (B.ren (xK · sel)))/\inb.length=sel.length/\sel.Nodup/\(∀(j:Nat) (c:CB),C1[j]?=some c->∃i,sel[j]?=some i/\C[i]?=some c)/\
   (∀i,i∈sel->∀c,C[i]?=some c->C1[xK i sel]?=some c):=by
 unfold Hu at e;split at e
 ·grind
 rename_i l hl;split at e
 ·rename_i U;simp at e;subst e;simp at U;have E:=I7.1 U.1;obtain ⟨pa,m⟩:=Oz hl;have O:∀(j i:Nat) (c:CB),sel[j]?=some i->C[i]?=some c->(sel.map fun i=>C.getD i .ghost)[j]?=some c:=by intro j i c a u;simp [a,List.getD,u]
  have H:∀(j:Nat) (c:CB),(sel.map fun i=>C.getD i .ghost)[j]?=some c->∃i,sel[j]?=some i/\C[i]?=some c:=by intro j c a;rw [qav] at a;obtain ⟨i,V,rfl⟩:=qac.1 a;obtain ⟨B,N,_⟩:=m j i V;obtain ⟨c,U,_⟩:=h.get N;exact ⟨i,V,by grind⟩
  have q:∀i,i∈sel->∀c,C[i]?=some c->(sel.map fun i=>C.getD i .ghost)[xK i sel]?=some c:=fun i V c e=>O _ i c (zq V) e;have Y:∀(j i:Nat),sel[j]?=some i->∃B,bx[i]?=some B/\(l.map (Bx.ren (xK · sel)))[j]?=some (B.ren (xK · sel)):=by intro j i a;obtain ⟨B,L,M⟩:=m j i a;exact ⟨B,L,by grind⟩
  have f:∀(j:Nat) (B':Bx),(l.map (Bx.ren (xK · sel)))[j]?=some B'->∃i B,sel[j]?=some i/\bx[i]?=some B/\B'=B.ren (xK · sel)/\PU B.refs sel=true:=by
   intro j B' a;have hj:j<sel.length:=by have:=(qak.1 a).1;simp at this;omega
   obtain ⟨B,L,M⟩:=m j sel[j] (qad hj);rw [qav,M] at a;simp at a;exact ⟨sel[j],B,qad hj,L,a.symm,U.2 B (qan M)⟩
  have F:∀(b o:Nat),kT (sel.map fun i=>C.getD i .ghost) (l.map (Bx.ren (xK · sel))) b o->kT C bx b o:=by
   rintro b o ⟨j,c,B',L,M,h3,h4⟩
   obtain ⟨i,B,a,u,rfl,_⟩:=f j B' M;obtain ⟨i',n,J⟩:=H j c L;rw [a] at n;cases n;exact ⟨i,c,B,J,u,by grind[nO],h4⟩
  refine ⟨sel.map fun i=>C.getD i .ghost,⟨h.glob,h.known,by grind,fun b o ho=>h.apart b o (F b o ho),?_,?_⟩,by simp,O,Y,by grind,E,H,q⟩;·intro j k c d A B b o Z y hd hA N Q S hw;obtain ⟨i,A0,a,u,rfl,_⟩:=f j A hA;obtain ⟨i',B0,f1,f2,rfl,_⟩:=f k B N;obtain ⟨i2,n,J⟩:=H j c y;obtain ⟨i3,f3,f4⟩:=H k d hd;rw [a] at n;cases n;rw [f1] at f3;cases f3;rw [nO] at Q S;refine h.Ic i i' c d A0 B0 b o (fun W=>Z ?_) J f4 u f2 Q S hw;subst W;rw [<-KQ E a,<-KQ E f1]
  intro j B' c N y;obtain ⟨i,B,a,u,rfl,e5⟩:=f j B' N;obtain ⟨i',n,J⟩:=H j c y;rw [a] at n;cases n;exact (h.box i B c u J).ren fun k hk=>q k (xZ.1 e5 k hk)
 grind
theorem fO:∀(sel:List Nat) (s bx:List Bx),(kF sel s bx).length=bx.length
 |[],_,_=>by simp [kF]
 |_::_,[],_=>by simp [kF]
 |i::r,b::s,bx=>by simp [kF,fO r s]
theorem lM:∀(sel:List Nat) (s bx:List Bx) (i:Nat),i∉sel->(kF sel s bx)[i]?=bx[i]?
 |[],_,_,_,_=>by simp [kF]
 |_::_,[],_,_,_=>by simp [kF]
 |k::r,b::s,bx,i,h=>by simp at h;rw [kF,lM r s _ i h.2,List.getElem?_set_ne (fun e=>h.1 e.symm)]
theorem J6:∀(sel:List Nat) (s bx:List Bx) (j i:Nat) (B:Bx),sel.Nodup->sel[j]?=some i->s[j]?=some B->i<bx.length->(kF sel s bx)[i]?=some B
 |[],_,_,_,_,_,_,h,_,_=>by grind
 |_::_,[],_,_,_,_,_,_,h,_=>by grind
 |k::r,b::s,bx,j,i,B,hn,h1,h2,h3=>by
  rw [List.nodup_cons] at hn;cases j with
  |zero=>grind[kF,lM]
  |succ j=>simp at h1 h2;rw [kF];exact J6 r s _ j i B hn.2 h1 h2 (by grind)
theorem O8 (h:Rel P R x K C σ a w){outb:List Bx}{C1:List CB}{v:Value}{w':World}{K':Kn}{E:List CB}
  (Xw:∀(j:Nat) (c:CB),C1[j]?=some c->∃i,sel[j]?=some i/\C[i]?=some c) (hl1:C1.length=sel.length)
  (hin:∀(j i:Nat),sel[j]?=some i->∃B,σ.bx[i]?=some B/\inb[j]?=some (B.ren (xK · sel))) (hinl:inb.length=sel.length) (hnd:sel.Nodup)
  (hp:zms P R K C1 inb w y outb v w' K' E) (hle:sel.length<=outb.length):
  let back:=fun j=>if j<sel.length then sel.getD j 0 else σ.bx.length+(j-sel.length)
  Rel P R x K' (C++E) ⟨σ.tm,kF sel (outb.map (Bx.ren back)) σ.bx++(outb.map (Bx.ren back)).drop sel.length⟩ a w'/\Rep K' (C++E) (y.ren back) v:=by
 intro back;have pj:=h.inv.size;have pf:=hp.inv.size;rw [qaw,hl1] at pf;have L:∀(j:Nat) (c:CB),(C1++E)[j]?=some c->(C++E)[back j]?=some c:=by
  intro j c e;by_cases hj:j<sel.length
  ·grind
  ·grind
 have pa:∀(b o:Nat),kT C1 inb b o->∃i c B,i∈sel/\C[i]?=some c/\σ.bx[i]?=some B/\B.live=true/\c.owns b o:=by
  rintro b o ⟨j,c,B',l,O,W,h4⟩
  obtain ⟨i,e1,e2⟩:=Xw j c l;obtain ⟨B,e3,e4⟩:=hin j i e1;rw [e4] at O;cases O;exact ⟨i,c,B,qan e1,e2,e3,by grind[nO],h4⟩
 have UD:∀(b o:Nat),kT C1 inb b o->kT C σ.bx b o:=by intro b o n;obtain ⟨i,c,B,_,O,W,h4,h5⟩:=pa b o n;exact ⟨i,c,B,O,W,h4,h5⟩
 generalize pb:outb.map (Bx.ren back)=outs;have pn:outs.length=outb.length:=by rw [<-pb];simp
 have m:∀(i:Nat) (B:Bx),(kF sel outs σ.bx++outs.drop sel.length)[i]?=some B->(i∉sel/\i<σ.bx.length/\σ.bx[i]?=some B)\/(∃(j:Nat) (B0:Bx),back j=i/\outb[j]?=some B0/\B=B0.ren back):=by
  intro i B e;by_cases Y:i<σ.bx.length
  ·rw [qap (by grind[fO])] at e;by_cases V:i∈sel
   ·have hj:=zq V;have pk:=(qak.1 hj).1;have n:outs[xK i sel]?=some outs[xK i sel]:=qad (by omega);rw [J6 sel outs σ.bx (xK i sel) i _ hnd hj n Y] at e
    grind
   grind[lM]
  rw [qax (by grind[fO]),fO,qat] at e
  grind
 have po:∀j k,j<outb.length->k<outb.length->back j=back k->j=k:=by
  intro j k hj hk e;have ph:∀j,j<sel.length->sel.getD j 0<σ.bx.length:=by intro j hj;obtain ⟨B,q,_⟩:=hin j sel[j] (qad hj);have:=(qak.1 q).1;simpa [List.getD,hj] using this
  by_cases l:j<sel.length
  ·by_cases O:k<sel.length
   ·simp only [back,l,O,if_true] at e;have e1:sel[j]?=some (sel.getD j 0):=by simp [List.getD,l]
    have e2:sel[k]?=some (sel.getD k 0):=by simp [List.getD,O]
    rw [<-KQ hnd e1,<-KQ hnd e2,e]
   grind
  ·grind
 have U:∀(j:Nat) (B0:Bx) (c:CB),outb[j]?=some B0->(C++E)[back j]?=some c->(C1++E)[j]?=some c:=by intro j B0 c l O;obtain ⟨c',W,_⟩:=hp.inv.get l;rw [L j c' W] at O;cases O;exact W
 have Xm:∀(i:Nat) (c:CB),i<σ.bx.length->(C++E)[i]?=some c->C[i]?=some c:=by intro i c Y e;rwa [qap (by omega)] at e
 have N:∀(b o:Nat),kT (C++E) (kF sel outs σ.bx++outs.drop sel.length) b o->
   (∃i c B,i∉sel/\C[i]?=some c/\σ.bx[i]?=some B/\B.live=true/\c.owns b o)\/kT (C1++E) outb b o:=by
  rintro b o ⟨i,c,B,l,O,W,h4⟩
  rcases m i B O with ⟨V,Y,q⟩|⟨j,B0,rfl,q,rfl⟩
  ·grind
  exact .inr ⟨j,c,B0,U j B0 c q l,q,by grind[nO],h4⟩
 have pc:∀(i:Nat) (c:CB) (B:Bx) (b o:Nat),i∉sel->C[i]?=some c->σ.bx[i]?=some B->B.live=true->c.owns b o->¬kT C1 inb b o:=by intro i c B b o V F q Q H n;obtain ⟨k,d,A,hk,hd,hA,M,S⟩:=pa b o n;exact h.inv.Ic i k c d B A b o (fun e=>V (e▸hk)) F hd q hA Q M H S
 have pe:∀(i:Nat) (c:CB) (B:Bx) (b o:Nat),C[i]?=some c->σ.bx[i]?=some B->B.live=true->c.owns b o->b<w.heap.size:=
  fun i c B b o F q Q H=>h.inv.sU ⟨i,c,B,F,q,Q,H⟩
 refine ⟨{h with inv:=?_,tm:=?_,k0:=h.k0.trans hp.kle,knew:=?_,own:=?_,cin:=?_,frame:=?_,defs:=?_,loops:=?_},hp.res.ren fun i _ c e=>L i c e⟩
 ·refine ⟨hp.inv.glob,hp.inv.known,?_,?_,?_,?_⟩
  ·grind[fO]
  ·intro b o n;rcases N b o n with ⟨i,c,B,V,F,q,Q,H⟩|n
   ·cases e:K' b o with
    |none=>rfl
    |some u=>
     rcases hp.knew b o u e with l|l|l;·rw [h.inv.apart b o ⟨i,c,B,F,q,Q,H⟩] at l<;>grind
     ·grind
     grind
   exact hp.inv.apart b o n
  ·intro i k c d A B b o pd F hd hA q M Z H S;rcases m i A hA with ⟨V,Y,J⟩|⟨j,A0,rfl,J,rfl⟩
   ·rcases m k B q with ⟨pi,hk,f⟩|⟨j',B0,rfl,f,rfl⟩;·exact h.inv.Ic i k c d A B b o pd (Xm i c Y F) (Xm k d hk hd) J f M Z H S
    have n:kT (C1++E) outb b o:=⟨j',d,B0,U j' B0 d f hd,f,by rwa [nO] at Z,S⟩;rcases hp.own b o n with l|l
    ·grind
    have:=pe i c A b o (Xm i c Y F) J M H;omega
   rcases m k B q with ⟨pi,hk,f⟩|⟨j',B0,rfl,f,rfl⟩
   ·have n:kT (C1++E) outb b o:=⟨j,c,A0,U j A0 c J F,J,by rwa [nO] at M,H⟩;rcases hp.own b o n with l|l
    ·grind
    have:=pe k d B b o (Xm k d hk hd) f Z S;omega
   rw [nO] at M Z;exact hp.inv.Ic j j' c d A0 B0 b o (fun e=>pd (by rw [e])) (U j A0 c J F) (U j' B0 d f hd) J f M Z H S
  intro i B c q F;rcases m i B q with ⟨V,Y,f⟩|⟨j,B0,rfl,f,rfl⟩
  ·by_cases Q:B.live=true;·exact (h.inv.box i B c f (Xm i c Y F)).mono hp.kle (CLe.append _ _) hp.frame (fun b o H=>pc i c B b o V (Xm i c Y F) f Q H)
   cases B<;>first|trivial|simp [Bx.live] at Q
  exact (hp.inv.box j B0 c f (U j B0 c f F)).ren fun k _ d e=>L k d e
 ·exact h.tm.mono hp.kle (CLe.append _ _)
 ·intro b o u e;rcases hp.knew b o u e with l|l|l;·exact h.knew b o u l
  ·exact .inr (h.own b o (UD b o l))
  exact .inr (.inr (Nat.le_trans h.frame.size l))
 ·intro b o n;rcases N b o n with ⟨i,c,B,V,F,q,Q,H⟩|n;·exact h.own b o ⟨i,c,B,F,q,Q,H⟩
  rcases hp.own b o n with l|l;·exact h.own b o (UD b o l)
  exact .inr (Nat.le_trans h.frame.size l)
 ·intro i c e;exact CLe.append _ _ _ _ (h.cin i c e)
 ·refine h.frame.trans hp.frame (fun b o ph n=>?_);rcases h.own b o (UD b o n) with l|l
  ·grind
  grind
 ·obtain ⟨rs,l,O,W⟩:=h.defs.marks;refine ⟨⟨rs,l,O,fun r hr=>⟨hp.frame.obj (W r hr).1 trivial (o₀:=0) (fun n=>(W r hr).2.2 0 (UD r 0 n)),(W r hr).2.1,fun o n=>?_⟩⟩,h.defs.round⟩;rcases N r o n with ⟨i,c,B,V,F,q,Q,H⟩|n;·exact (W r hr).2.2 o ⟨i,c,B,F,q,Q,H⟩
  rcases hp.own r o n with h4|h4
  ·grind
  grind
 intro i Y Q;obtain ⟨B,q,pl⟩:=h.loops i Y Q;have pg:=(qak.1 q).1;show ∃B',(kF sel outs σ.bx++outs.drop sel.length)[i]?=some B'/\B'.gG=true;rw [qap (by grind[fO])];by_cases V:i∈sel;·have hj:=zq V;obtain ⟨B0,e1,e2⟩:=hin _ i hj;rw [q] at e1;cases e1;obtain ⟨B',e3,e4⟩:=hp.loops _ _ e2 (by grind[AV]);refine ⟨B'.ren back,J6 sel outs σ.bx (xK i sel) i _ hnd hj ?_ pg,by grind[AV]⟩;rw [<-pb];simp [e3]
 grind[lM]
end
section
variable {aN:Array Value}{raw:Bool}{g:FuncId}{K2:Kn}{bx':List Bx}{sel:List Nat}{args:List X}{v:Value}{z:X}
variable {P:Program} {R:aP} {x:Ctx} {K:Kn} {C:List CB} {σ:St} {a:Act} {w:World}
variable {o:Oper} {y:X} {bx:List Bx} {A:Ann} {Γ:Gam}
theorem zG {raw:Bool}:∀{cs ds:List X},dH bx raw cs=some ds->ds.length=cs.length/\∀(j:Nat) (z:X),cs[j]?=some z->∃z',ds[j]?=some z'/\z.data bx raw=some z'
 |[],ds,h=>by grind[dH]
 |z::r,ds,h=>by
  simp only [dH] at h;cases hz:z.data bx raw with
  |none=>grind
  |some z'=>
   simp only [hz] at h;obtain ⟨l,hl,rfl⟩:=qac.1 h;obtain ⟨h1,h2⟩:=zG hl
   grind
theorem zbZ {z':X}(h:z.data bx raw=some z'):z'.eX=z.eX:=by
 cases z with
 |bs i off len=>simp only [X.data] at h;obtain ⟨p,_,rfl⟩:=qac.1 h;rfl
 |agg cs=>simp only [X.data] at h;obtain ⟨p,_,rfl⟩:=qac.1 h;rfl
 |tup cs=>simp only [X.data] at h;obtain ⟨p,_,rfl⟩:=qac.1 h;rfl
 |_=>simp [X.data] at h;subst h;rfl
theorem yS {i:Nat}:∀{cs:List X},i∈iO cs↔∃z,z∈cs/\i∈z.rows
 |[]=>by simp [iO]
 |z::r=>by simp [iO,yS (cs:=r)]
theorem Rep.data (hI:Inv P R K C bx w)(hK:KLe K K2)(h:Rep K C z v)
  (hrow:(∀(b o:Nat) (u:Value),kT C bx b o->w.cell? ⟨b,o,none⟩=some u->K2 b o=some u)\/z.rows=[]):∀{z':X},z.data bx raw=some z'->Rep K2 C z' v:=by
 induction h with
 |v h=>intro z' e;simp [X.data] at e;subst e;exact .v h
 |iJ=>intro z' e;simp [X.data] at e;subst e;exact .iJ
 |sl vals hlen ht hcap hcell hk hr ih=>intro z' e;simp [X.data] at e;subst e;exact .sl vals hlen (fun e=>ht (by grind)) hcap hcell (fun i j z e=>hK _ _ _ (hk i j z e)) (fun i j z e=>(hr i j z e).mono hK (CLe.refl _))
 |bs hc hcap hlen=>
  rename_i C i f len b a E J cap;intro z' e;simp only [X.data] at e;obtain ⟨p,l,rfl⟩:=qac.1 e;unfold rowOf at l;split at l
  ·rename_i s Q L;split at l
   ·rename_i pa;simp at l;subst l;obtain ⟨N,el,S,g2,g3,V,W⟩:=(hI.box i _ _ L hc).flat;subst S;have H:((Q.drop f).take len).length=len:=by simp;omega
    rcases hrow with hrow|hrow
    ·have:=(((W.drop f).take len).mono hK).rep (K:=K2) (C:=C) (t:=false) (b:=b) (o:=a+f*J) (cap:=cap) (fun k u y=>?_) (by simp) (by omega)
     ·grind
     rw [qau] at y;split at y
     ·rename_i Y;rw [qat,qau] at y;split at y
      ·rename_i Z;rw [qat,aY] at y;have m:a+f*J+k=a+(f*J+k):=by omega
       refine hrow b _ u ⟨i,_,_,hc,L,rfl,rfl,by omega,?_⟩ ?_;·omega
       grind[World.cell?]
      grind
     grind
    grind[X.rows]
   grind
  grind
 |mM hc=>
  rename_i C i ob;intro z' e;simp only [X.data] at e;obtain ⟨p,l,rfl⟩:=qac.1 e;unfold rowOf at l;split at l
  ·split at l;·cases l;simp;exact .iJ
   grind
  grind
 |ptr hc=>intro z' e;simp [X.data] at e;subst e;exact .ptr hc
 |dp vals hcell hk hr ih=>intro z' e;simp [X.data] at e;subst e;exact .dp vals hcell (fun j z e=>hK _ _ _ (hk j z e)) (fun j z e=>(hr j z e).mono hK (CLe.refl _))
 |fn hs hr ih=>intro z' e;simp [X.data] at e;subst e;exact .fn hs (fun j z v e q=>(hr j z v e q).mono hK (CLe.refl _))
 |agg hs hcell hr ih=>
  intro z' e;simp only [X.data] at e;obtain ⟨O,F,rfl⟩:=qac.1 e;obtain ⟨U,B⟩:=zG F;rename_i C n vs;refine .agg (by grind) (fun z hz=>?_) (fun j z v e q=>?_);·obtain ⟨j,M,rfl⟩:=List.mem_iff_getElem.1 hz;obtain ⟨z',m,A⟩:=B j n[j] (qad (by omega))<;>grind[zbZ,qaf]
  have M:=(qak.1 e).1;obtain ⟨z',m,A⟩:=B j n[j] (qad (by omega));rw [e] at m;cases m;refine ih j _ v (qad (by omega)) q hI (hrow.imp_right fun hn=>?_) A;refine List.eq_nil_iff_forall_not_mem.2 fun i E=>?_;have:=yS.2 ⟨n[j],qaf _,E⟩
  grind[X.rows]
 |tup hs hr ih=>
  intro z' e;simp only [X.data] at e;obtain ⟨O,F,rfl⟩:=qac.1 e;obtain ⟨U,B⟩:=zG F;rename_i C n vs;refine .tup (by grind) (fun j z v e q=>?_);have M:=(qak.1 e).1;obtain ⟨z',m,A⟩:=B j n[j] (qad (by omega));rw [e] at m;cases m;refine ih j _ v (qad (by omega)) q hI (hrow.imp_right fun hn=>?_) A;refine List.eq_nil_iff_forall_not_mem.2 fun i E=>?_;have:=yS.2 ⟨n[j],qaf _,E⟩
  grind[X.rows]
 |yl hc=>intro z' e;simp [X.data] at e;subst e;exact .yl hc
 |mp hc=>intro z' e;simp [X.data] at e;subst e;exact .mp hc
 |ifc=>intro z' e;simp [X.data] at e;subst e;exact .ifc
theorem uP:∀{cs:List X},BQ cs=true->∀z,z∈cs->z.plain=true
 |[],_,_,h=>by grind
 |z::r,h,u,hu=>by
  simp [BQ] at h;rcases qal.1 hu with rfl|hu
  ·grind
  exact uP h.2 u hu
theorem Rep.plain (h:Rep K C z v):∀{C2:List CB},z.plain=true->Rep K2 C2 z v:=by
 induction h with
 |v h=>exact fun _=>.v h
 |agg hs hcell hr ih=>exact fun f=>.agg hs hcell (fun j z v e a=>ih j z v e a (uP (by grind[X.plain]) z (qan e)))
 |tup hs hr ih=>exact fun f=>.tup hs (fun j z v e a=>ih j z v e a (uP (by grind[X.plain]) z (qan e)))
 |fn hs hr ih=>exact fun f=>.fn hs (fun j z v e a=>ih j z v e a (uP (by grind[X.plain]) z (qan e)))
 |_=>grind[X.plain]
def JG (P:Program)(R:aP)(x:Ctx)(C:List CB)(tm:List (Nat×X))(bx:List Bx)(a:Act)(y:X)(e:Ending)(w':World):Prop:=
 ∃(v:Value) (K':Kn) (C':List CB),e=.returned v/\CLe C C'/\Em.Rel P R x K' C' ⟨tm,bx⟩ a w'/\Rep K' C' y v
theorem JG.step {tm:List (Nat×X)}{e:Ending}{w':World}(h:JG P R x C tm bx a y e w'):∃(v:Value) (K':Kn) (C':List CB),e=.returned v/\Em.Rel P R x K' C' ⟨tm,bx⟩ a w'/\Rep K' C' y v:=
 let ⟨v,K',C',h1,_,h2,h3⟩:=h
 ⟨v,K',C',h1,h2,h3⟩
theorem G9 {C':List CB}{f:Nat->Nat}(h:cO K C args aN)(hC:∀i,i∈bT args->∀c,C[i]?=some c->C'[f i]?=some c):cO K C' (Px f args) aN:=by refine ⟨by rw [je];simpa using h.1,fun j z v e l=>?_⟩;rw [je,qav] at e;obtain ⟨u,a,rfl⟩:=qac.1 e;exact (h.2 j u v a l).ren fun i m=>hC i (eH.2 ⟨u,qan a,m⟩)
theorem Jw (hΓ:uz P R Γ)(h:Rel P R x K C σ a w)(hargs:cO K C args aN)(e:iU Γ (.fn g) args σ.bx=some (y,bx',sel)):
  zgm P g/\Calls P g aN w (JG P R x C σ.tm bx' a y):=by
 unfold iU at e;dsimp only at e;split at e
 ·rename_i n;split at e
  ·grind
  rename_i Y j;split at e
  ·grind
  rename_i r J f;split at e
  ·rename_i A;cases e;obtain ⟨L,U,u,S,q,m,B,N,l⟩:=h.inv.pick j;obtain ⟨F,H⟩:=hΓ.fn g _ _ _ _ f;refine ⟨F,(H K L w aN U (G9 hargs fun i V=>l i (xZ.1 n i V))).mono ?_⟩
   rintro e w' ⟨v,M,E,rfl,W⟩
   obtain ⟨O,Q⟩:=O8 h N u q m B W A;exact ⟨v,M,C++E,rfl,CLe.append _ _,O,Q⟩
  grind
 grind
theorem XR (hΓ:uz P R Γ)(h:Rel P R x K C σ a w){i l:Nat}{as:List X}(hi:C[i]?=some (.obj l))(hargs:cO K C as aN)(e:iU Γ .yl (.yl i::as) σ.bx=some (y,bx',sel))(r:Option Nat):
  ∃(f:FuncId) (tmps:Array Value) (assign body:Code),(Instr.yield l aN).run P w=.ok (.round l f tmps assign body) w/\RoundIn (Fr r) 0 P l f tmps assign body w (JG P R x C σ.tm bx' a y):=by
 unfold iU at e;dsimp only at e;split at e
 ·rename_i B;split at e
  ·grind
  rename_i pb q;split at e
  ·grind
  rename_i pc O n;split at e
  ·rename_i J;cases e;obtain ⟨Q,hI,H,pa,F,u,L,V,m⟩:=h.inv.pick q;obtain ⟨i',W,N,M⟩:=hΓ.yl _ _ _ _ n;simp only [Px,X.ren,List.cons.injEq,X.yl.injEq] at N;obtain ⟨rfl,rfl⟩:=N;have j:=xZ.1 B;obtain ⟨f,tmps,assign,body,A,S⟩:=M K Q w aN l r hI (m i (j i (by grind[bT,X.refs])) _ hi) (G9 hargs fun k hk=>m k (j k (by grind[bT])));refine ⟨f,tmps,assign,body,A,S.mono ?_⟩
   rintro e w' ⟨v,U,E,rfl,hp⟩
   obtain ⟨Y,Z⟩:=O8 h V H F u L hp J;exact ⟨v,U,C++E,rfl,CLe.append _ _,Y,Z⟩
  grind
 grind
theorem qO {xs:List X}(h:(bT xs).isEmpty=true)(hz:z∈xs):z.refs=[]:=by simp_all[List.eq_nil_iff_forall_not_mem,eH]
def seen (w:World):Kn:=fun b o=>w.cell? ⟨b,o,none⟩
theorem nK {b o:Nat}:¬kT [] [] b o:=by rintro ⟨i,c,B,h,_⟩<;>grind
theorem Ql (hΓ:uz P R Γ)(h:Rel P R x K C σ a w)(hargs:cO K C args aN)(hno:(bT args).isEmpty=true)(e:Γ.pureD g args=some y)(hny:oZ y=true):
  zgm P g/\Calls P g aN w (JG P R x C σ.tm σ.bx a y):=by
 unfold Gam.pureD at e;split at e
 ·rename_i r V q;obtain ⟨N,S⟩:=hΓ.fn g _ _ _ _ q;have W:Inv P R K [] [] w:=⟨h.inv.glob,h.inv.known,rfl,fun b o n=>(nK n).elim,fun i j c d A B b o _ hc=>by grind,fun i B c Z=>by grind⟩;refine ⟨N,(S K [] w aN W ⟨hargs.1,fun j z v e U=>(hargs.2 j z v e U).oZ (qO hno (qan e))⟩).mono ?_⟩
  rintro U w' ⟨v,J,E,rfl,l⟩
  have Y:aK nowhere w w':=l.frame.mono (fun b o _ n=>(nK n).elim)
  let K2:Kn:=fun b o=>match J b o with
   |some u=>some u
   |none=>if w.heap.size<=b then w'.cell? ⟨b,o,none⟩ else none
  have m:KLe J K2:=fun b o u e=>by grind
  have F:Rep K2 ([]++E) y v:=l.res.data l.inv m (.inl fun b o u n hu=>by
   simp only [K2];cases f:J b o with
   |some Q=>have:=l.inv.known b o Q f<;>grind
   |none=>rcases l.own b o n with h1|h1<;>grind[nK]) e
  have M:y.refs=[]:=by simpa [oZ] using hny
  have H:∀(b o:Nat) (u:Value),K2 b o=some u->K b o=some u\/w.heap.size<=b:=by
   intro b o u f;simp only [K2] at f;split at f
   ·rename_i Q L;cases f;rcases l.knew b o _ L with h1|h1|h1
    ·grind
    ·grind[nK]
    grind
   ·grind
  have O:=h.still Y;refine ⟨v,K2,C,rfl,CLe.refl _,{O with inv:=?_,tm:=O.tm.mono (l.kle.trans m) (CLe.refl _),k0:=h.k0.trans (l.kle.trans m),knew:=?_},F.oZ M⟩
  ·refine O.inv.know (l.kle.trans m) (fun b o u f=>?_) (fun b o n=>?_)
   ·simp only [K2] at f;split at f;next Q L=>cases f;exact l.inv.known b o _ L
    grind
   cases f:K2 b o with
   |none=>rfl
   |some u=>
    rcases H b o u f with h1|h1;·rw [h.inv.apart b o n] at h1<;>grind
    have:=h.inv.sU n;omega
  intro b o u f;rcases H b o u f with h1|h1;·exact h.knew b o u h1
  exact .inr (.inr (Nat.le_trans h.frame.size h1))
 grind
theorem Qm (hΓ:uz P R Γ)(h:Rel P R x K C σ a w)(hargs:cO (seen w) C args aN)(hno:(bT args).isEmpty=true)(e:Γ.pureD g args=some y)(hny:y.plain=true):
  zgm P g/\Calls P g aN w (JG P R x C σ.tm σ.bx a y):=by
 unfold Gam.pureD at e;split at e
 ·rename_i r J f;obtain ⟨q,F⟩:=hΓ.fn g _ _ _ _ f;have L:Inv P R (seen w) [] [] w:=⟨h.inv.glob.mono (fun b o v e=>h.inv.known b o v e),fun b o v e=>e,rfl,fun b o n=>(nK n).elim,fun i j c d A B b o _ S=>by grind,fun i B c Q=>by grind⟩;refine ⟨q,(F (seen w) [] w aN L ⟨hargs.1,fun j z v e H=>(hargs.2 j z v e H).oZ (qO hno (qan e))⟩).mono ?_⟩
  rintro H w' ⟨v,O,E,rfl,m⟩
  have M:aK nowhere w w':=m.frame.mono (fun b o _ n=>(nK n).elim);have l:Rep (seen w') ([]++E) y v:=m.res.data m.inv (fun b o u e=>m.inv.known b o u e) (.inl fun b o u _ N=>N) e;exact ⟨v,K,C,rfl,CLe.refl _,h.still M,l.plain hny⟩
 grind
end
end Go.Em
