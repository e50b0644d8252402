/-.-/
import Derived.MapKept
import Derived.Test.YtpcjeobkehmhpaaGreatDoorEmV1
set_option linter.all false
namespace Go.Em
section
variable {args:Array Operand}{es new:qaX}{z:List X}{bytes c cap h l len m n sz:Nat}{p':Opd}{p:Operand}{ob oc:Option Addr}{hi' lo':Option Opd}{hi lo mx:Option Operand}
variable {P:Program} {R:aT} {x:Ctx} {K:Kn} {C:List CB} {σ:St} {a:Act} {w:World}
variable {o:Oper} {y:X} {bx:List Bx} {fp:FP} {A:Ann} {Γ:Gam}
theorem nD {n y:Nat}(code:BoundsCode)(h:n<=y)(w:World):(Instr.sliceBound (.int .i64 (n:Int)) y code).run P w=.ok n w:=by simp_all[Instr.sliceBound,asIntOf]
def iw (a:Act)(d:Nat):Option Operand->Nat->Prop
 |none,n=>n=d
 |some p,n=>a.eval p=.int .i64 (n:Int)
theorem lH {d:Nat}(hg:qy R K)(ht:zF K C σ.tm a.tmps)(hl:lq P R.gl lo=some lo')(e:dR σ d lo'=some n):iw a d lo n:=by
 cases lo with
 |none=>simp only [lq,qaf] at hl;subst hl;simp only [dR,qaf] at e;exact e.symm
 |some p=>simp only [lq] at hl;obtain ⟨q,f,rfl⟩:=qac.1 hl;simp only [dR] at e;obtain ⟨z,hz,h⟩:=qaz.1 e;exact I5 (bC hg ht f hz) h
theorem qJ (hl:iw a 0 lo l)(hh:iw a len hi h)(hm:iw a cap mx m)(h1:l<=h)(h2:h<=m)(h3:m<=cap)(hmx:mx=none\/hi.isSome=true)(isSlice:Bool)(w:World):
  (Instr.sliceBounds isSlice len cap (lo.map a.eval) (hi.map a.eval) (mx.map a.eval)).run P w=.ok (l,h,m) w:=by
 cases mx with
 |none=>
  simp only [iw] at hm;subst hm;cases hi with
  |none=>simp only [iw] at hh;subst hh;cases lo<;>simp_all[iw,Instr.sliceBounds,nD]
  |some q=>simp only [iw] at hh;cases lo<;>simp_all[iw,Instr.sliceBounds,nD]
 |some r=>
  simp only [iw] at hm;cases hi with
  |none=>grind
  |some q=>simp only [iw] at hh;cases lo<;>simp_all[iw,Instr.sliceBounds,nD]
theorem qN {t e:TypeId}(ho:o.op=.slice t p lo hi mx)(hu:P.underlying t=some (.slice e))(hs:eP P e=some sz)
  (hv:a.eval p=.slice ob len cap) (hl:iw a 0 lo l) (hh:iw a len hi h) (hm:iw a cap mx m) (h1:l<=h) (h2:h<=m) (h3:m<=cap) (hmx:mx=none\/hi.isSome=true):
  (execOp a.eval o).run P w=.ok (.value (.slice (if m=l then ob else ob.map (·.add (l*sz))) (h-l) (m-l))) w:=by
 have f:=qJ (P:=P) hl hh hm h1 h2 h3 hmx true w;simp only [execOp,ho,Instr.sliceAt,Sem.run_bind,run_underlying hu,Result.andThen_ok,Instr.slice,hv,f,dM hs w];rfl
theorem Cc {t t1 e:TypeId}{mx':Option Opd}{tt:Bool}(hr:Rel P R x K C σ a w)(ho:o.op=.slice t p lo hi mx)(hu:P.underlying t=some (.slice e))(hs:eP P e=some sz)
  (hp:aX P R.gl t1 p=some p') (hlo:lq P R.gl lo=some lo') (hhi:lq P R.gl hi=some hi') (hmx:lq P R.gl mx=some mx') (ep:σ.ev p'=some (.sl tt sz es)) (el:dR σ 0 lo'=some l) (eh:dR σ es.length hi'=some h)
  (h1:l<=h) (h2:h<=es.length) (tf:Bool) (hcase:(mx=none/\tf=(tt&&h==es.length))\/(∃m,mx=some m/\hi.isSome=true/\iw a 0 mx h/\tf=true)):
  dU P R x σ a w o (.sl tf sz ((es.take h).drop l)) σ.bx:=by
 have j:=bC hr.inv.glob hr.tm hp ep;have J:=lH hr.inv.glob hr.tm hlo el;have Y:=lH hr.inv.glob hr.tm hhi eh;have u:((es.take h).drop l).length=h-l:=by simp;omega
 generalize B:a.eval p=v at j;have M:∀ob cap,v=.slice ob es.length cap->es.length<=cap->(tt=true->cap=es.length)->(ob=none->cap=0)->(∀b o',ob=some ⟨b,o',none⟩->∃fl,Flat K sz es fl/\∀k v,fl[k]?=some v->K b (o'+k)=some v)->
   (∀ad,ob=some ad->ad.spot=none)->dU P R x σ a w o (.sl tf sz ((es.take h).drop l)) σ.bx:=by
  intro ob cap V q pc A L y;subst V;have n:∀m,iw a cap mx m->h<=m->m<=cap->(mx=none\/hi.isSome=true)->(tf=true->m=h)->dU P R x σ a w o (.sl tf sz ((es.take h).drop l)) σ.bx:=by
   intro m F U W N O;refine .still hr (qN ho hu hs B J Y F h1 U W N) ?_;cases ob with
   |none=>
    have pa:=A rfl;have:(es.take h).drop l=[]:=qaL (by omega);rw [this];have e1:h-l=0:=by omega
    have e2:m-l=0:=by omega
    rw [e1,e2];split<;>exact .iK
   |some ad=>
    obtain ⟨b,o',sp⟩:=ad;have:=y _ rfl;simp only at this;subst this;obtain ⟨fl,Z,hk⟩:=L b o' rfl;rw [<-u];by_cases E:m=l;·rw [if_pos E];have:(es.take h).drop l=[]:=qaL (by omega);rw [this];exact (Flat.nil (K:=K) (sz:=sz)).rep (fun k v B=>by grind) (fun _=>by grind) (by simp)
    rw [if_neg E];simp only [qan,addr_add];refine ((Z.take h).drop l).rep (fun k v B=>?_) (fun e=>by rw [u,O e]) (by omega)<;>grind
  rcases hcase with ⟨rfl,rfl⟩|⟨m,rfl,f,F,rfl⟩;·refine n cap rfl (by omega) (Nat.le_refl _) (.inl rfl) (fun e=>?_)<;>simp_all
  exact n h F (Nat.le_refl _) (by omega) (.inr f) (fun _=>rfl)
 have S:=j;cases j with
 |iK=>
  have H:h=0:=by simpa using h2
  have Q:l=0:=by omega
  subst H;subst Q;have e0:(([]:qaX).take 0).drop 0=[]:=rfl;rw [e0];rcases hcase with ⟨rfl,rfl⟩|⟨m,rfl,f,F,rfl⟩;·refine .still hr (qN ho hu hs B J Y rfl (Nat.le_refl _) (Nat.le_refl _) (Nat.le_refl _) (.inl rfl)) ?_<;>simp_all
  refine .still hr (qN ho hu hs B J Y F (Nat.le_refl _) (Nat.le_refl _) (Nat.le_refl _) (.inr f)) ?_;simp only [Nat.sub_self,if_true];exact .iK
 |sl vals hle ht q hcell hk hrr=>refine M _ _ rfl q ht (fun e=>by cases e) (fun b' pb e=>?_) (fun ad e=>by grind);cases e;exact S.flat
theorem Ce {t t1 e:TypeId}{i off:Nat}(hr:Rel P R x K C σ a w)(ho:o.op=.slice t p lo hi none)(hu:P.underlying t=some (.slice e))(hs:eP P e=some sz)
  (hp:aX P R.gl t1 p=some p') (hlo:lq P R.gl lo=some lo') (hhi:lq P R.gl hi=some hi') (ep:σ.ev p'=some (.bs i off len)) (el:dR σ 0 lo'=some l) (eh:dR σ len hi'=some h)
  (h1:l<=h) (h2:h<=len) (hy:(l=h/\y=.sl false sz [])\/(l≠h/\(∃es,σ.bx[i]?=some (.row sz es))/\y=.bs i (off+l) (h-l))):dU P R x σ a w o y σ.bx:=by
 have f:=bC hr.inv.glob hr.tm hp ep;have u:=lH hr.inv.glob hr.tm hlo el;have A:=lH hr.inv.glob hr.tm hhi eh;generalize n:a.eval p=v at f;cases f with
 |bs hc hcap hlen=>
  rename_i b q F B cap;refine .still hr (qN ho hu hs n u A rfl h1 (by omega) (Nat.le_refl _) (.inl rfl)) ?_;rcases hy with ⟨m,rfl⟩|⟨m,⟨es,H⟩,rfl⟩
  ·subst m;rw [Nat.sub_self];split;·exact (Flat.nil (K:=K) (sz:=sz)).rep (fun k v n=>by grind) (fun e=>by grind) (by simp)
   simp only [qan,addr_add];exact (Flat.nil (K:=K) (sz:=sz)).rep (fun k v n=>by grind) (fun e=>by grind) (by simp)
  obtain ⟨j,_⟩:=hr.inv.box i _ _ H hc;subst j;rw [if_neg (by omega)];simp only [qan,addr_add];have:=Rep.bs (K:=K) (off:=off+l) (len:=h-l) (cap:=cap-l) hc (by rw [show off+l+(cap-l)=off+cap by omega];exact hcap) (by omega)<;>grind
 |lZ hc=>
  refine .still hr (qN ho hu hs n u A rfl h1 (by omega) (Nat.le_refl _) (.inl rfl)) ?_;have m:h=0:=by omega
  have E:l=0:=by omega
  subst m;subst E;rcases hy with ⟨_,rfl⟩|⟨m,_⟩;·simp only [Nat.sub_self,if_true];exact .iK
  grind
theorem Zg {t t1:TypeId}{s:qaY}(hr:Rel P R x K C σ a w)(ho:o.op=.slice t p lo hi none)(hu:P.underlying t=some .string)
  (hp:aX P R.gl t1 p=some p') (hlo:lq P R.gl lo=some lo') (hhi:lq P R.gl hi=some hi') (ep:σ.ev p'=some (.v (.string s))) (el:dR σ 0 lo'=some l) (eh:dR σ s.size hi'=some h)
  (h1:l<=h) (h2:h<=s.size):dU P R x σ a w o (.v (.string (s.extract l h))) σ.bx:=by
 have n:=fH (bC hr.inv.glob hr.tm hp ep);have q:=lH hr.inv.glob hr.tm hlo el;have f:=lH hr.inv.glob hr.tm hhi eh;refine .still hr (v:=.string (s.extract l h)) ?_ (.v rfl);have j:=qJ (P:=P) (mx:=none) q f (m:=s.size) rfl h1 h2 (Nat.le_refl _) (.inl rfl) false w;simp only [Option.map_none] at j;simp only [execOp,ho,Instr.sliceAt,Sem.run_bind,run_underlying hu,Result.andThen_ok,Instr.slice,n,Option.map_none,Option.isSome_none]<;>simp_all
theorem SC {isMax:Bool}(f:Value->Value->Sem Value)(hf:∀m n:Int,f (.int .i64 m) (.int .i64 n)=pure (.int .i64 (if isMax then (if n>m then n else m) else (if n<m then n else m)))):
  ∀{ys:List X} {vs:List Value} {m z:Int},vs.length=ys.length->(∀(j:Nat) (y:X) (v:Value),ys[j]?=some y->vs[j]?=some v->Rep K C y v)->mmV isMax m ys=some z->(vs.foldlM f (.int .i64 m)).run P w=.ok (.int .i64 z) w
 |[],vs,m,z,h1,h2,h3=>by simp_all[mmV]
 |y::r,[],m,z,h1,h2,h3=>by grind
 |y::r,v::vs,m,z,h1,h2,h3=>by
  unfold mmV at h3;split at h3
  ·grind
  next m' n r' e1=>simp only [List.cons.injEq] at e1;obtain ⟨rfl,rfl⟩:=e1;have hv:=fH (h2 0 _ v rfl rfl);subst hv;simp only [List.foldlM_cons,hf,pure_bind];exact SC f hf (by grind) (fun j y v e e'=>h2 (j+1) y v (by grind) (by grind)) h3
  grind
theorem zqT {isMax:Bool}{tys:Array TypeId}{qs:List Opd}{ys:List X}{m z:Int}(h:Rel P R x K C σ a w)(ho:o.op=.call ⟨.builtin (if isMax then .max else .min),args,tys⟩)(hq:iI P R.gl tys.toList args.toList=some qs)
  (he:evs σ qs=some (.v (.int .i64 m)::ys)) (hm:mmV isMax m ys=some z):dU P R x σ a w o (.v (.int .i64 z)) σ.bx:=by
 obtain ⟨F,B⟩:=JC h.inv.glob h.tm hq he;refine .still h (v:=.int .i64 z) ?_ (.v rfl);have u:∃p r,args.toList=p::r:=by
  cases A:args.toList with
  |nil=>grind
  |cons p r=>grind
 obtain ⟨p,r,A⟩:=u;rw [A] at F B;have H:=fH (B 0 _ (a.eval p) rfl rfl);have l:(args.map a.eval).toList=.int .i64 m::r.map a.eval:=by simp [A,H]
 have q:=fun f E=>SC (P:=P) (w:=w) (K:=K) (C:=C) (isMax:=isMax) f E (ys:=ys) (vs:=r.map a.eval) (by grind) (fun j y v e J=>B (j+1) y v (by grind) (by grind)) hm;cases isMax;·have:=q Builtin.min2 (fun m n=>by simp [Builtin.min2]);simp only [execOp,ho,resolve,invoke,builtin,Sem.run_bind,Sem.run_pure,Result.andThen_ok,Builtin.min_,l,this,qaP,if_false]
 have:=q Builtin.max2 (fun m n=>by simp [Builtin.max2]);simp only [execOp,ho,resolve,invoke,builtin,Sem.run_bind,Sem.run_pure,Result.andThen_ok,Builtin.max_,l,this,if_true]
theorem pI {t0 t1 ty e e1:TypeId}(h0:P.underlying t0=some (.slice e))(h1:P.underlying t1=some (.slice e1))(hs:eP P e=some sz)(news:List Value)(w':World)
  (hf:(Builtin.firstCells sz m (.slice oc m c)).run P w=.ok news.toArray w) (hroom:n+m<=cap)
  (hst:∀ad,ob=some ad->(storeCells (ad.add (n*sz)) news).run P w=.ok () w') (hno:ob=none->w'=w):
  (Builtin.append_ #[t0,t1] ty #[.slice ob n cap,.slice oc m c]).run P w=.ok (.slice ob (n+m) cap) w':=by
 cases ob with
 |none=>have:=hno rfl;subst this;simp [Builtin.append_,run_underlying h0,run_underlying h1,dM hs,Builtin.lenOf,hroom,hf]
 |some ad=>simp [Builtin.append_,run_underlying h0,run_underlying h1,dM hs,Builtin.lenOf,hroom,hf,hst ad rfl]
theorem qO {t0 t1 ty e e1:TypeId}(h0:P.underlying t0=some (.slice e))(h1:P.underlying t1=some (.slice e1))(hs:eP P e=some sz)(hb:uj P e=some bytes)(hz:oP P e=some z)(olds news:List Value)
  (ho:∀w':World,w'.heap=w.heap->(Builtin.firstCells sz n (.slice ob n cap)).run P w'=.ok olds.toArray w') (hf:∀w':World,w'.heap=w.heap->(Builtin.firstCells sz m (.slice oc m c)).run P w'=.ok news.toArray w')
  (hroom:cap<n+m) (hbig:(n+m)*bytes<=140737488355328) (h63:n+m<2^62) (hpos:0<bytes):
  ∃rest:List Value,(Builtin.append_ #[t0,t1] ty #[.slice ob n cap,.slice oc m c]).run P w=.ok (.slice (some ⟨w.heap.size,0,none⟩) (n+m) (grownCap w (n+m) cap e)) (w.drew.alloc (.cells (olds++news++rest).toArray e))/\
   rest.length=(grownCap w (n+m) cap e-(n+m))*sz:=by
 obtain ⟨l,a,H,h,L⟩:=kY hz w;have J:l.cells.size=sz:=by have:=(H (fun _ _=>none) []).len;rw [hs] at h;simp at h this;omega
 unfold uj at hb;obtain ⟨i,y,rfl⟩:=qac.1 hb;have u:i.zero=some l:=by
  simp only [zeroValue,typeInfo,Sem.run_bind,run_program,Result.andThen_ok,y] at a;simp only [Sem.run_pure,Result.andThen_ok] at a;split at a;·simp_all
  simp_all
 have q:i.size=sz:=by simpa [eP,y] using hs
 have E:¬(n+m<=cap):=by omega
 have A:=growslice_fits (need:=n+m) (old:=cap) (bytes:=i.bytes) hroom hbig;have j:¬(9223372036854775807<((n:Int)+(m:Int))):=by omega
 have f:¬(281474976710656<Builtin.nextslicecap (n+m) cap*i.bytes):=by omega
 refine ⟨(Builtin.zeroCells l.cells (grownCap w (n+m) cap e-(n+m))).toList,?_,by grind[Builtin.zeroCells]⟩;have B:=ho w.drew rfl;have F:=hf w.drew rfl;simp [Builtin.append_,run_underlying h0,run_underlying h1,sizeOf,typeInfo,zeroValue,y,u,q,Builtin.lenOf,E,j,f,Question.forced,B,F,newRow,grownCap]
 congr 2
 simp_all
theorem Iy (h:Inv P R K C σ.bx w){z:X}{v:Value}(hr:Rep K C z v)(e:pF σ.bx z=some (sz,new)):
  ∃oc c news,v=.slice oc new.length c/\Flat K sz new news/\(∀w':World,w'.heap=w.heap->(Builtin.firstCells sz new.length (.slice oc new.length c)).run P w'=.ok news.toArray w')/\
   (∀ad,oc=some ad->∀k u,news[k]?=some u->w.cell? ⟨ad.block,ad.off+k,none⟩=some u):=by
 have S:∀(b o' m c:Nat) (news:List Value),news.length=m*sz->(∀k u,news[k]?=some u->w.cell? ⟨b,o'+k,none⟩=some u)->∀w':World,w'.heap=w.heap->
   (Builtin.firstCells sz m (.slice (some ⟨b,o',none⟩) m c)).run P w'=.ok news.toArray w':=by
  intro b o' m c news U W w' Q;refine run_firstCells_some w' sz m ⟨b,o',none⟩ m c news U (fun j u n=>?_);rw [addr_add];have:=W j u n;simp only [World.cell?,Q] at this ⊢;exact this
 unfold pF at e;split at e
 ·rename_i t s H;cases e;have M:=hr;cases hr with
  |iK=>rename_i E;exact ⟨E,0,[],rfl,Flat.nil,fun w' _=>by cases E<;>simp [Builtin.firstCells,loadCells,loadCellsFrom],fun _ _ k u e=>by grind⟩
  |sl vals L ht hcap hcell hk hrr=>obtain ⟨O,F,B⟩:=M.flat;exact ⟨_,_,O,rfl,F,S _ _ _ _ O F.len (fun k u n=>h.known _ _ _ (B k u n)),fun ad e=>by cases e;exact fun k u n=>h.known _ _ _ (B k u n)⟩
 ·rename_i i q len;unfold rowOf at e;split at e
  ·rename_i s H V;split at e
   ·rename_i L;cases e;have a:((H.drop q).take len).length=len:=by simp;omega
    cases hr with
    |bs hc hcap hlc=>
     rename_i b y hi f N;obtain ⟨J,el,Z,h2,h3,Y,F⟩:=(h.box i _ _ V hc).flat;subst Z;have l:∀k u,(((((J.toList.drop y).take (H.length*f)).drop (q*f)).take (len*f)))[k]?=some u->w.cell? ⟨b,y+q*f+k,none⟩=some u:=by
      intro k u n;rw [qau] at n;split at n
      ·rw [qas,qau] at n
       grind[World.cell?]
      ·grind
     have A:=(F.drop q).take len;refine ⟨_,N,_,by rw [a],A,?_,fun ad e=>by cases e<;>grind⟩;rw [a];exact S _ _ _ _ _ (by rw [A.len,a]) l
    |lZ hc=>
     have he:((H.drop 0).take 0)=[]:=by simp
     rw [he];rename_i E;refine ⟨E,0,[],rfl,Flat.nil,fun w' Q=>by cases E<;>simp [Builtin.firstCells,loadCells,loadCellsFrom],fun ad _ k u e=>by grind⟩
   grind
  grind
 grind
theorem Zm {t0 t1 e e1:TypeId}{tys:Array TypeId}{ps pz:Operand}{qs qz:Opd}{ts tz:TypeId}{yz:X}(h:Rel P R x K C σ a w)(ho:o.op=.call ⟨.builtin .append,args,tys⟩)(ha:args.toList=[ps,pz])
  (h0:tys[0]?=some t0) (h1:tys[1]?=some t1) (hu0:P.underlying t0=some (.slice e)) (hu1:P.underlying t1=some (.slice e1)) (hs:eP P e=some sz) (hb:uj P e=some bytes) (hz:oP P e=some z) (hpos:0<bytes)
  (hps:aX P R.gl ts ps=some qs) (hpz:aX P R.gl tz pz=some qz) (eps:σ.ev qs=some (.sl true sz es)) (epz:σ.ev qz=some yz) (hsrc:pF σ.bx yz=some (sz,new)) (hroom:dh (es.length+new.length) bytes=true):
  (new=[]->dU P R x σ a w o (.sl true sz es) σ.bx)/\dU P R x σ a w o (.sl false sz (es++new)) σ.bx/\
   (new≠[]->dU P R x σ a w o (.bs σ.bx.length 0 (es.length+new.length)) (σ.bx++[.row sz (es++new)])):=by
 have O:args=#[ps,pz]:=by rw [<-Array.toArray_toList (xs:=args),ha]
 subst O;have Q:∃rest,tys=(t0::t1::rest).toArray:=by
  have U:tys=tys.toList.toArray:=by simp
  cases N:tys.toList with
  |nil=>rw [U,N] at h0<;>grind
  |cons a0 r=>cases r with
   |nil=>rw [U,N] at h1<;>grind
   |cons b0 r=>rw [U,N] at h0 h1<;>grind
 obtain ⟨rest,rfl⟩:=Q;simp only [dh,qab,qaF] at hroom;have H:=bC h.inv.glob h.tm hps eps;have r2:=bC h.inv.glob h.tm hpz epz;obtain ⟨oc,c,f,Y,E,F,_⟩:=Iy h.inv r2 hsrc;have L:(execOp a.eval o).run P w=((Builtin.append_ (t0::t1::rest).toArray o.type #[a.eval ps,a.eval pz]).run P w).andThen fun v w'=>.ok (.value v) w':=by simp only [execOp,ho,resolve,invoke,builtin,Sem.run_bind,Sem.run_pure,Result.andThen_ok,List.map_toArray,qaS,List.map_nil]
 have B:Builtin.append_ (t0::t1::rest).toArray o.type #[a.eval ps,a.eval pz]=Builtin.append_ #[t0,t1] o.type #[a.eval ps,a.eval pz]:=by simp [Builtin.append_]
 rw [B] at L;rw [Y] at L;generalize pb:a.eval ps=v1 at H L;have V:∃ob cap olds,v1=.slice ob es.length cap/\cap=es.length/\Flat K sz es olds/\(∀w':World,w'.heap=w.heap->(Builtin.firstCells sz es.length (.slice ob es.length cap)).run P w'=.ok olds.toArray w'):=by
  obtain ⟨ob,cap,olds,e1,e2,e3,_⟩:=Iy (σ:=σ) h.inv H (z:=.sl true sz es) rfl;refine ⟨ob,cap,olds,e1,?_,e2,e3⟩;subst e1;cases H with
  |iK=>rfl
  |sl vals hle ht=>grind
 obtain ⟨ob,cap,olds,rfl,Z,S,W⟩:=V;have q:new=[]->(execOp a.eval o).run P w=.ok (.value (.slice ob es.length cap)) w:=by intro l;subst l;have A:f=[]:=qaL (by simpa using E.len);subst A;have:=pI (P:=P) (ty:=o.type) (ob:=ob) (n:=es.length) (cap:=cap) hu0 hu1 hs [] w (F w rfl) (by grind) (fun ad _=>by simp [storeCells]) (fun _=>rfl);rw [L,this];simp
 have grow:new≠[]->∃(tail:List Value) (m:Nat),(execOp a.eval o).run P w=.ok (.value (.slice (some ⟨w.heap.size,0,none⟩) (es.length+new.length) m)) (w.drew.alloc (.cells (olds++f++tail).toArray e))/\es.length+new.length<=m/\tail.length=(m-(es.length+new.length))*sz:=by intro l;have pc:0<new.length:=List.length_pos_iff.2 l;obtain ⟨tail,j,y⟩:=qO (P:=P) (ty:=o.type) hu0 hu1 hs hb hz olds f W F (by omega) (by omega) hroom.2 hpos;exact ⟨tail,_,by simp_all,grownCap_ge _ _ _ _,y⟩
 have u:=S.append E;refine ⟨fun l=>.still h (q l) H,?_,fun l=>?_⟩
 ·by_cases l:new=[]
  ·refine .still h (q l) ?_;subst l;rw [List.append_nil];cases H with
   |iK=>exact .iK
   |sl vals hle ht hc hcell hk hrr=>exact .sl vals hle (by simp) hc hcell hk hrr
  obtain ⟨tail,m,j,hm,_⟩:=grow l;have J:=h.still (aO.drew nowhere w);refine ⟨_,C,_,_,_,j,.inl rfl,J.learn (olds++f++tail).toArray e,?_⟩;rw [<-qaw];refine (u.mono (Kn.zD J.inv _)).rep (fun k v hv=>?_) (by simp) (by grind);simp only [Kn.add,World.size_drew,if_true,Nat.zero_add]
  grind
 obtain ⟨tail,m,j,hm,y⟩:=grow l;have J:=h.still (aO.drew nowhere w);have pa:(olds++f++tail).toArray.size=m*sz:=by
  have:=u.len;simp only [qaw] at this;simp only [List.size_toArray,qaw,this,y,<-Nat.add_mul]
  congr 1;omega
 have M:(C++[CB.at w.heap.size 0 (m*sz) sz])[σ.bx.length]?=some (.at w.heap.size 0 (m*sz) sz):=by rw [<-h.inv.size];simp
 refine ⟨K,C++[.at w.heap.size 0 (m*sz) sz],_,_,_,j,.inl rfl,?_,?_⟩
 ·refine J.push _ (u.box (kG w.drew _) (fun k v hv=>?_) ?_ (by omega)) (fun b k hw=>hw.1)
  ·grind
  simp_all[qaB]
 have:=Rep.bs (K:=K) (off:=0) (len:=es.length+new.length) (cap:=m) M (by simp) hm<;>grind
end
section
variable {kk:KK}{es:List (Value×X)}{m':Opd}{k m:Operand}{k' kv v:Value}{xm y z:X}
variable {P:Program} {R:aT} {x:Ctx} {K:Kn} {C:List CB} {σ:St} {a:Act} {w:World} {o:Oper}
def KK.desc:KK->TypeDesc
 |.int k=>.int k
 |.str=>.string
 |.bool=>.bool
theorem Sl (h:tK kk v=true):MapKept.IsKey kk.desc v:=by
 cases kk<;>cases v<;>simp_all [tK,MapKept.IsKey,KK.desc]
theorem ML {t:TypeId}(h:zmh P t=some kk):P.underlying t=some kk.desc:=by unfold zmh at h;split at h<;>simp at h<;>subst h<;>assumption
theorem CX {k:Value}{b:Bool}(hk:tK kk k=true)(h:lQ k k'=some b):Instr.sameNow kk.desc k k'=some b:=by
 cases kk<;>cases k<;>cases k'<;>simp_all [tK,lQ,Instr.sameNow,KK.desc]
theorem VQ {k:Value}(h:lQ k k'=some true):k'=k:=by
 cases k<;>cases k'<;>simp_all [lQ,MapKept.bytes_beq]
theorem lK {kk:KK}{k:Value}(hk:tK kk k=true):∀{es:List (Value×X)} {ents:List MapEntry} {i:Nat} {r:Option (Nat×X)},Ep K es ents->iY k es i=some r->
  (r=none/\Instr.findNow kk.desc k ents i=some none)\/(∃j y m,r=some (i+j,y)/\ents[j]?=some m/\es[j]?=some (k,y)/\m.key=k/\Instr.findNow kk.desc k ents i=some (some (i+j,m.val)))
 |[],ents,i,r,hE,h=>by have:=qaL (by rw [hE.len];rfl);subst this;simp [iY] at h;exact .inl ⟨h.symm,rfl⟩
 |e::es,[],i,r,hE,h=>by have:=hE.len<;>grind
 |e::es,m::ents,i,r,hE,h=>by
  have hkey:=hE.key 0 e m rfl rfl;have hE':Ep K es ents:=⟨by have:=hE.len<;>grind,fun j e' m' h1 h2=>hE.key (j+1) e' m' (by grind) (by grind),fun j e' m' h1 h2=>hE.val (j+1) e' m' (by grind) (by grind)⟩;simp only [iY] at h;split at h;next hs=>have hn:=CX hk hs;have he:=VQ hs;simp at h;refine .inr ⟨0,e.2,m,by rw [<-h];rfl,rfl,by rw [<-he];rfl,by rw [hkey,he],?_⟩<;>simp_all[Instr.findNow]
  ·rename_i hs;have hn:=CX hk hs;rcases lK hk hE' h with ⟨h1,h2⟩|⟨j,y,m',h1,h2,h3,h4,h5⟩
   ·grind[Instr.findNow]
   refine .inr ⟨j+1,y,m',by grind,by grind,by grind,h4,?_⟩;simp only [Instr.findNow,hkey,hn,h5]
   grind
  grind
theorem zdF {t kt e:TypeId}(h:Rel P R x K C σ a w)(ho:o.op=.makeMap t none)(_:P.underlying t=some (.map kt e)):dU P R x σ a w o (.mp σ.bx.length) (σ.bx++[.map []]):=by
 have j:(C++[CB.obj w.heap.size])[σ.bx.length]?=some (.obj w.heap.size):=by rw [<-h.inv.size];simp
 refine ⟨K,C++[.obj w.heap.size],_,.map (some w.heap.size),w.alloc (.map #[] 0),?_,.inl rfl,?_,.mp j⟩;·simp_all[execOp,Instr.makeMap]
 exact h.push _ ⟨#[],0,kG _ _,rfl,by simp,by simp⟩ (fun b k f=>f)
theorem Zi {t kt e t1 t2 t3:TypeId}{v:Operand}{k' v':Opd}{i:Nat}{es':List (Value×X)}(h:Rel P R x K C σ a w)(ho:o.op=.insert t m k v\/o.op=.mapUpdate t m k v)
  (hu:P.underlying t=some (.map kt e)) (hkk:zmh P kt=some kk) (hm:aX P R.gl t1 m=some m') (hk:aX P R.gl t2 k=some k') (hv:aX P R.gl t3 v=some v') (em:σ.ev m'=some (.mp i)) (ek:σ.ev k'=some (.v kv)) (ev:σ.ev v'=some y)
  (hb:σ.bx[i]?=some (.map es)) (hok:tK kk kv=true) (h1:y.ok1=true) (hn:ou y=true) (hp:CG kv y es=some es'):dU P R x σ a w o jg (σ.bx.set i (.map es')):=by
 have r1:=bC h.inv.glob h.tm hm em;have r2:=bC h.inv.glob h.tm hk ek;have r3:=bC h.inv.glob h.tm hv ev;have e2:=fH r2;generalize U:a.eval m=mv at r1;cases r1 with
 |mp hc=>
  rename_i b;obtain ⟨u,A,f,B⟩:=h.inv.box i _ _ hb hc;have N:=List.isEmpty_iff.1 hn;have hy:Rep K [] y (a.eval v):=r3.ou N;have O:∀n (w':World),(Instr.mapUpdate t (.map (some b)) kv (a.eval v)).run P w=.ok () w'->n=Next.skip->(execOp a.eval o).run P w=.ok n w':=fun n w' hr hn=>by subst hn;rcases ho with ho|ho<;>simp [execOp,ho,U,e2,hr,Result.andThen]
  have Q:=ML hkk;have L:=Sl hok;unfold CG at hp;split at hp
  ·rename_i S;simp at hp;subst hp;rcases lK hok B S with ⟨_,J⟩|⟨j,z,mm,l,_⟩
   ·refine ⟨K,C,.skip,undef,{w with heap:=w.heap.setIfInBounds b (.map (u.push {key:=kv,val:=a.eval v,born:=A}) (A+1))},O _ _ ?_ rfl,.inr ⟨rfl,rfl⟩,?_,.v rfl⟩;·simp [Instr.mapUpdate,run_underlying hu,MapKept.run_getObj_map f,MapKept.run_checkKey Q L,MapKept.run_findKey Q J,MapKept.run_setObj_map _ f,Result.andThen]
    refine h.yZ hb rfl hc (aO.setObj f trivial trivial fun _=>rfl) ⟨_,_,(MapKept.heap_set f).1,?_⟩ (fun e=>by grind[Bx.gI]);refine ⟨by simp [B.len],fun j e' m' l q=>?_,fun j e' m' l q=>?_⟩
    ·rw [Array.toList_push] at q;by_cases V:j<es.length;·rw [qao V] at l;rw [qao (by rw [B.len]<;>grind)] at q;exact B.key j e' m' l q
     rw [qax (by omega)] at l;rw [qax (by rw [B.len];omega),B.len] at q<;>grind
    rw [Array.toList_push] at q;by_cases V:j<es.length;·rw [qao V] at l;rw [qao (by rw [B.len]<;>grind)] at q;exact B.val j e' m' l q
    rw [qax (by omega)] at l;rw [qax (by rw [B.len];omega),B.len] at q<;>grind
   grind
  ·rename_i H z0 S;simp at hp;subst hp;rcases lK hok B S with ⟨l,_⟩|⟨j,z,mm,l,q,pb,W,J⟩
   ·grind
   simp at l;obtain ⟨rfl,rfl⟩:=l;have pa:u[H]?=some mm:=by simpa using q
   refine ⟨K,C,.skip,undef,{w with heap:=w.heap.setIfInBounds b (.map (u.modify H fun e=>{e with key:=kv,val:=a.eval v}) A)},O _ _ ?_ rfl,.inr ⟨rfl,rfl⟩,?_,.v rfl⟩;·simp [Instr.mapUpdate,run_underlying hu,MapKept.run_getObj_map f,MapKept.run_checkKey Q L,MapKept.run_findKey Q J,pa,W,MapKept.run_keyThatStays L,MapKept.run_setObj_map _ f,Result.andThen]
   refine h.yZ hb rfl hc (aO.setObj f trivial trivial fun _=>rfl) ⟨_,_,(MapKept.heap_set f).1,?_⟩ (fun e=>by grind[Bx.gI]);have F:∀(j:Nat) (m':MapEntry),(u.modify H fun e=>{e with key:=kv,val:=a.eval v}).toList[j]?=some m'->(j=H/\m'.key=kv/\m'.val=a.eval v)\/(j≠H/\u.toList[j]?=some m'):=fun j m' e=>by grind
   have E:∀(j:Nat) (e':Value×X),(es.set H (kv,y))[j]?=some e'->(j=H/\e'=(kv,y))\/(j≠H/\es[j]?=some e'):=fun j e' e=>by grind
   refine ⟨by simp [B.len],fun j e' m' l q=>?_,fun j e' m' l q=>?_⟩
   ·rcases E j e' l with ⟨Y,M⟩|⟨Y,M⟩
    ·grind
    rcases F j m' q with ⟨k1,_,_⟩|⟨_,Z⟩
    ·grind
    exact B.key j e' m' M Z
   rcases E j e' l with ⟨Y,M⟩|⟨Y,M⟩
   ·grind
   rcases F j m' q with ⟨k1,_,_⟩|⟨_,Z⟩
   ·grind
   exact B.val j e' m' M Z
  grind
theorem Zp {K:Kn}{C:List CB}(h:fJ K C [z] v.cells.toList)(ha:∀vs,v≠.agg vs):Rep K C z v:=by
 have a:v.cells=#[v]:=by
  cases v<;>first|rfl|grind
 rw [a] at h;exact h.rep 0 z v rfl rfl
theorem zbY {K:Kn}{C:List CB}{l:List X}(h:fJ K C l v.cells.toList)(ha:∃vs,v=.agg vs):Rep K C (.agg l) v:=by obtain ⟨vs,rfl⟩:=ha;exact .agg (by have:=h.len<;>grind[Value.cells]) h.cell (fun j x v e a=>h.rep j x v e (by grind[Value.cells]))
theorem Xx {e:TypeId}(h:zcl P e=some z)(w:World):∃v,(zeroValue e).run P w=.ok v w/\∀K C,Rep K C z v:=by
 have m:∀v l,(P.info? e).bind (·.zero)=some v->oP P e=some l->(zeroValue e).run P w=.ok v w/\∀(K:Kn) (C:List CB),fJ K C l v.cells.toList:=fun v l a j=>by obtain ⟨u,f,y,_,_⟩:=kY j w;obtain ⟨i,A,n⟩:=qaz.1 a<;>simp_all[zeroValue,typeInfo]
 unfold zcl at h;split at h;next q l a j=>simp at h;subst h<;>simp_all[zbY]
 ·grind[Zp]
 grind
theorem Zk {t kt e t1 t2:TypeId}{k':Opd}{ok:Bool}{zero:X}(h:Rel P R x K C σ a w)(ho:o.op=.lookup t m k ok)
  (hu:P.underlying t=some (.map kt e)) (hkk:zmh P kt=some kk) (hz:zcl P e=some zero) (hm:aX P R.gl t1 m=some m') (hk:aX P R.gl t2 k=some k') (em:σ.ev m'=some xm) (ek:σ.ev k'=some (.v kv))
  (hb:(∃i,xm=.mp i/\σ.bx[i]?=some (.map es))\/(xm=.v (.map none)/\es=[])) (hok:tK kk kv=true) (hg:oz ok zero kv es=some y):dU P R x σ a w o y σ.bx:=by
 have Y:=bC h.inv.glob h.tm hm em;have e2:=fH (bC h.inv.glob h.tm hk ek);obtain ⟨zv,U,pa⟩:=Xx hz w;have L:=ML hkk;have H:=Sl hok;generalize F:a.eval m=mv at Y;have S:∃ents:List MapEntry,Ep K es ents/\∀q:Option (Nat×Value),Instr.findNow kk.desc kv ents 0=some q->(execOp a.eval o).run P w=.ok (.value (match q with|some (_,v)=>if ok then .tuple #[v,.bool true] else v|none=>if ok then .tuple #[zv,.bool false] else zv)) w:=by
  rcases hb with ⟨i,rfl,M⟩|⟨rfl,rfl⟩
  ·cases Y with
   |mp hc=>
    rename_i b;obtain ⟨ents,W,f,J⟩:=h.inv.box i _ _ M hc;refine ⟨ents.toList,J,fun q V=>?_⟩;have E:=MapKept.run_findKey (w:=w) L V;have A:=MapKept.run_checkKey (P:=P) (w:=w) L H ents.isEmpty 9999;cases q with
    |none=>cases ok<;>simp [execOp,ho,F,e2,Instr.lookup,run_underlying hu,MapKept.run_getObj_map f,A,E,U,Result.andThen]
    |some p=>cases ok<;>simp [execOp,ho,F,e2,Instr.lookup,run_underlying hu,MapKept.run_getObj_map f,A,E,Result.andThen]
  have:=fH Y;subst this;refine ⟨[],⟨rfl,by simp,by simp⟩,fun q V=>?_⟩;have E:=MapKept.run_findKey (w:=w) L V;have A:=MapKept.run_checkKey (P:=P) (w:=w) L H true 9999;cases q with
  |none=>simp_all[execOp,Instr.lookup,run_underlying]
  |some p=>simp_all[execOp,Instr.lookup,run_underlying]
 obtain ⟨ents,J,n⟩:=S;have pc:∀{z:X} {v:Value} {b:Bool},Rep K C z v->Rep K C (.tup [z,.v (.bool b)]) (.tuple #[v,.bool b]):=fun {z v b} hr=>
  .tup rfl fun j u uv e Z=>by
   cases j with
   |zero=>grind
   |succ j=>cases j with
    |zero=>simp at e Z;subst e;subst Z;exact .v rfl
    |succ j=>simp_all
 unfold oz at hg;split at hg
 ·rename_i N;simp at hg;subst hg;rcases lK hok J N with ⟨_,B⟩|⟨j,z,mm,l,_⟩;·refine .still h (n none B) ?_<;>grind
  grind
 ·rename_i j0 z0 N;simp at hg;subst hg;rcases lK hok J N with ⟨l,_⟩|⟨j,z,mm,l,Q,O,pb,B⟩
  ·grind
  simp at l;obtain ⟨rfl,rfl⟩:=l;have hv:=(J.val j0 _ _ O Q).2.2.mono (KLe.refl _) (CLe.nil C);refine .still h (n _ B) ?_<;>grind
 grind
theorem Zj {tys:Array TypeId}{t kt e t1:TypeId}(h:Rel P R x K C σ a w)(ho:o.op=.call ⟨.builtin .len,#[m],tys⟩)(ht:tys[0]?=some t)(hu:P.underlying t=some (.map kt e))
  (hm:aX P R.gl t1 m=some m') (em:σ.ev m'=some xm) (hb:(∃i,xm=.mp i/\σ.bx[i]?=some (.map es))\/(xm=.v (.map none)/\es=[])):dU P R x σ a w o (.v (.int .i64 (es.length:Int))) σ.bx:=by
 have q:=bC h.inv.glob h.tm hm em;generalize j:a.eval m=mv at q;refine .still h (v:=.int .i64 (es.length:Int)) ?_ (.v rfl);rcases hb with ⟨i,rfl,n⟩|⟨rfl,rfl⟩
 ·cases q with
  |mp hc=>
   obtain ⟨l,u,f,y⟩:=h.inv.box i _ _ n hc;have A:l.size=es.length:=by have:=y.len;simpa using this
   simp [execOp,ho,resolve,invoke,builtin,Builtin.len_,ht,j,run_underlying hu,MapKept.run_getObj_map f,Result.andThen,goInt,A]
 have:=fH q;subst this;simp [execOp,ho,resolve,invoke,builtin,Builtin.len_,ht,j,run_underlying hu,Result.andThen,goInt]
theorem zdG {t t1:TypeId}{z:Operand}{z':Opd}{d:TypeDesc}(h:Rel P R x K C σ a w)(ho:o.op=.makeInterface t z)(hu:P.underlying t=some d)(hd:∀ms,d≠.interface ms)(_:aX P R.gl t1 z=some z')(_:σ.ev z'=some y):dU P R x σ a w o .ifc σ.bx:=by refine .still h (v:=.iface t (a.eval z)) ?_ .ifc<;>simp_all[execOp,Instr.makeInterface,run_underlying]
theorem IY {op:BinOp}{t t1 u:TypeId}{p:Operand}{p':Opd}{neg:Bool}{ms:Array (String×TypeId)}(h:Rel P R x K C σ a w)(ho:o.op=.binOp op t p (.const .nilIface) u)(hop:op=if neg then .neq else .eql)(hu:P.underlying t=some (.interface ms))
  (hp:aX P R.gl t1 p=some p') (ep:σ.ev p'=some y) {b:Bool} (hy:(y=.ifc/\b=neg)\/(y=.v .nilIface/\b=!neg)):dU P R x σ a w o (.v (.bool b)) σ.bx:=by
 have r:=bC h.inv.glob h.tm hp ep;generalize A:a.eval p=pv at r;refine .still h (v:=.bool b) ?_ (.v rfl);have F:a.eval (.const .nilIface)=.nilIface:=rfl;rcases hy with ⟨rfl,rfl⟩|⟨rfl,rfl⟩
 ·cases r with
  |ifc=>
   rename_i j f;have q:∀d,(Op.equalIn (d+1) t (.iface j f) .nilIface).run P w=.ok false w:=by intro d;simp [Op.equalIn,run_underlying hu]
   have l:(Op.equal t (.iface j f) .nilIface).run P w=.ok false w:=q 9999;have n:binOp .eql t (.iface j f) .nilIface=(do pure (.bool (<-Op.equal t (.iface j f) .nilIface)):Sem Value):=rfl;have m:binOp .neq t (.iface j f) .nilIface=(do pure (.bool (!(<-Op.equal t (.iface j f) .nilIface))):Sem Value):=rfl;generalize Op.equal t (.iface j f) .nilIface=s at l n m;have E:(eqGuard op t p (.const .nilIface) (.iface j f) .nilIface).run P w=.ok () w:=by unfold eqGuard;split<;>rfl
   have B:(binOp op t (.iface j f) .nilIface).run P w=.ok (.bool b) w:=by
    cases b with
    |true=>simp_all
    |false=>simp_all
   simp_all[execOp]
 have:=fH r;subst this;have q:∀d,(Op.equalIn (d+1) t .nilIface .nilIface).run P w=.ok true w:=by intro d;simp [Op.equalIn,run_underlying hu]
 have l:(Op.equal t .nilIface .nilIface).run P w=.ok true w:=q 9999;have n:binOp .eql t .nilIface .nilIface=(do pure (.bool (<-Op.equal t .nilIface .nilIface)):Sem Value):=rfl;have m:binOp .neq t .nilIface .nilIface=(do pure (.bool (!(<-Op.equal t .nilIface .nilIface))):Sem Value):=rfl;generalize Op.equal t .nilIface .nilIface=s at l n m;have E:(eqGuard op t p (.const .nilIface) .nilIface .nilIface).run P w=.ok () w:=by unfold eqGuard;split<;>first|rfl|simp
 have B:(binOp op t .nilIface .nilIface).run P w=.ok (.bool (!neg)) w:=by
  cases neg with
  |true=>simp_all
  |false=>simp_all
 simp_all[execOp]
end
section
variable {new:qaX}{sz:Nat}
variable {P:Program} {R:aT} {x:Ctx} {K:Kn} {C:List CB} {σ:St} {a:Act} {w:World}
variable {o:Oper} {y:X} {bx:List Bx} {fp:FP} {A:Ann} {Γ:Gam}
theorem Yf (h:Inv P R K C σ.bx w){z:X}{v:Value}(hr:Rep K C z v)(e:pF σ.bx z=some (sz,new)):
  ∃oc c news,v=.slice oc new.length c/\Flat K sz new news/\∀n,n<=new.length->(Builtin.firstCells sz n (.slice oc new.length c)).run P w=.ok (news.take (n*sz)).toArray w:=by
 have U:∀(b o' m c:Nat) (news:List Value),news.length=m*sz->(∀k u,news[k]?=some u->w.cell? ⟨b,o'+k,none⟩=some u)->∀n,n<=m->
   (Builtin.firstCells sz n (.slice (some ⟨b,o',none⟩) m c)).run P w=.ok (news.take (n*sz)).toArray w:=by
  intro b o' m c news hl J n V;refine run_firstCells_some w sz n ⟨b,o',none⟩ m c _ ?_ (fun j u A=>?_);·simp_all
  ·grind[addr_add]
 unfold pF at e;split at e
 ·rename_i t s H;simp at e;obtain ⟨rfl,rfl⟩:=e;have O:=hr;cases hr with
  |iK=>
   rename_i E;exact ⟨E,0,[],rfl,Flat.nil,fun n J=>by
    have:n=0:=by simpa using J
    subst this;cases E<;>simp [Builtin.firstCells,loadCells,loadCellsFrom]⟩
  |sl vals M ht hcap hcell hk hrr=>obtain ⟨S,F,N⟩:=O.flat;exact ⟨_,_,S,rfl,F,U _ _ _ _ S F.len (fun k u A=>h.known _ _ _ (N k u A))⟩
 ·rename_i i q len;unfold rowOf at e;split at e
  ·rename_i s H W;split at e
   ·rename_i M;simp at e;obtain ⟨rfl,rfl⟩:=e;have a:((H.drop q).take len).length=len:=by simp;omega
    cases hr with
    |bs hc hcap hlc=>
     rename_i b y hi f Q;obtain ⟨L,el,Z,h2,h3,Y,F⟩:=(h.box i _ _ W hc).flat;subst Z;have l:∀k u,(((((L.toList.drop y).take (H.length*f)).drop (q*f)).take (len*f)))[k]?=some u->w.cell? ⟨b,y+q*f+k,none⟩=some u:=by
      intro k u A;rw [qau] at A;split at A;·rw [qas,qau] at A<;>grind[World.cell?]
      ·grind
     have B:=(F.drop q).take len;refine ⟨_,Q,_,by rw [a],B,?_⟩;rw [a];exact U _ _ _ _ _ (by rw [B.len,a]) l
    |lZ hc=>
     have he:((H.drop 0).take 0)=[]:=by simp
     rw [he];rename_i E;exact ⟨E,0,[],rfl,Flat.nil,fun n J=>by
      have:n=0:=by simpa using J
      subst this;cases E<;>simp [Builtin.firstCells,loadCells,loadCellsFrom]⟩
   grind
  grind
 grind
theorem zit {t0 e:TypeId}{args:Array Operand}{tys:Array TypeId}{pd ps:Operand}{qd qs:Opd}{td ts:TypeId}{i off len:Nat}{es:qaX}{ys:X}(h:Rel P R x K C σ a w)(ho:o.op=.call ⟨.builtin .copy,args,tys⟩)(ha:args.toList=[pd,ps])
  (h0:tys[0]?=some t0) (hu0:P.underlying t0=some (.slice e)) (hs:eP P e=some sz)
  (hpd:aX P R.gl td pd=some qd) (hps:aX P R.gl ts ps=some qs) (epd:σ.ev qd=some (.bs i off (len+1))) (eps:σ.ev qs=some ys) (hsrc:pF σ.bx ys=some (sz,new)) (hbx:σ.bx[i]?=some (.row sz es)) (hend:off+(len+1)<=es.length):
  dU P R x σ a w o (.v (.int .i64 ((min new.length (len+1):Nat):Int))) (σ.bx.set i (.row sz (es.take off++new.take (min new.length (len+1))++es.drop (off+min new.length (len+1))))):=by
 have Y:args=#[pd,ps]:=by rw [<-Array.toArray_toList (xs:=args),ha]
 subst Y;have r1:=bC h.inv.glob h.tm hpd epd;have r2:=bC h.inv.glob h.tm hps eps;obtain ⟨oc,c,m,pe,O,F⟩:=Yf h.inv r2 hsrc;have H:min new.length (len+1)<=new.length:=Nat.min_le_left _ _;have pg:min new.length (len+1)<=len+1:=Nat.min_le_right _ _;have B:Nat.min new.length (len+1)=min new.length (len+1):=rfl;generalize hn:min new.length (len+1)=n at H pg B ⊢;have F:=F n H;generalize Z:a.eval pd=dv at r1;cases r1 with
 |bs hc hcap hlc=>
  rename_i b j hi f ph;obtain ⟨l,el,g1,g2,g3,L,N⟩:=(h.inv.box i _ _ hbx hc).flat;subst g1;have Q:=qaB f (show off+n<=es.length by omega);rw [Nat.add_mul] at Q;have J:(m.take (n*f)).length=n*f:=by have:=qaB f H;rw [qah,O.len];omega
  have S:=O.take n;have M:=run_storeCells_at P b (j+off*f) el (m.take (n*f)) 0 l w L (by omega) S.oneCell;simp only [Nat.add_zero] at M;generalize A:(l.toList.take (j+off*f)++m.take (n*f)++l.toList.drop (j+off*f+(m.take (n*f)).length)).toArray=arr' at M;have hT:(l.toList.take (j+off*f)).length=j+off*f:=by simp;omega
  have E:arr'.size=l.size:=by rw [<-A];simp;omega
  refine ⟨K,C,_,.int .i64 (n:Int),w.setRow b arr',?_,.inl rfl,?_,.v rfl⟩
  ·obtain ⟨ii,pb,pa⟩:∃ii,P.info? e=some ii/\ii.size=f:=by simp_all[eP]
   simp [execOp,ho,resolve,invoke,builtin,Builtin.copy_,h0,run_underlying hu0,Z,pe,Builtin.lenOf,B,sizeOf,typeInfo,pb,pa,F,M,goInt,Result.andThen]
  have y:∀q,arr'[q]?=if q<j+off*f then l[q]? else if q<j+off*f+n*f then m[q-(j+off*f)]? else l[q]?:=by
   intro q;rw [<-A,List.getElem?_toArray,J];by_cases U:q<j+off*f;·simp_all[qao]
   rw [if_neg U];by_cases V:q<j+off*f+n*f;·rw [if_pos V,qao (by grind),qax (by omega),hT,qau,if_pos (by omega)]
   rw [if_neg V,qax (by rw [qaw];omega),qas,qaw,hT,J,Array.getElem?_toList]<;>simp_all
  have W:=((N.take off).append S).append (N.drop (off+n));have pc:(es.take off++new.take n++es.drop (off+n)).length=es.length:=by simp;omega
  have pf:=N.len;refine h.yZ hbx rfl hc (aO.setRow L E fun q hq=>?_) (W.box (setRow_heap w b l arr' el _ L) (fun k v u=>?_) ?_ (by omega)) (fun e=>by grind[Bx.gI])
  ·rw [y];by_cases U:q<j+off*f
   ·grind
   rw [if_neg U];by_cases V:q<j+off*f+n*f;·exact absurd ⟨rfl,by omega,by omega⟩ hq
   grind
  ·rw [y];have hk:=(qaj.1 u).1;have e1:(((l.toList.drop j).take (es.length*f)).take (off*f)).length=off*f:=by rw [qah,pf];omega
   have pi:(off+n)*f=off*f+n*f:=Nat.add_mul _ _ _;by_cases U:k<off*f
   ·rw [if_pos (by omega)];rw [qaM,qao (by omega),qau,if_pos U,qau] at u;split at u;·rw [qas,Array.getElem?_toList] at u<;>grind
    grind
   rw [if_neg (by omega)];by_cases V:k<off*f+n*f
   ·rw [if_pos (by omega)];rw [qao (by grind),qax (by omega),e1,qau] at u;split at u;·rw [<-u];congr 1;omega
    grind
   rw [if_neg (by omega)];rw [qax (by grind),qaw,e1,J,qas,qau] at u;split at u;·rw [qas,Array.getElem?_toList] at u;rw [<-u];congr 1;omega
   grind
  grind
end
section
variable {i:Nat}
variable {P:Program} {R:aT} {x:Ctx} {K:Kn} {C:List CB} {σ:St} {a:Act} {w:World}
variable {o:Oper} {y:X} {bx:List Bx} {fp:FP} {A:Ann} {Γ:Gam}
theorem Rel.move (h:Rel P R x K C σ a w){D B:Bx}{c c':CB}(hD:σ.bx[i]?=some D)(hl:D.live=true)(hnl:D.gI=false)(hc:C[i]?=some c)(hsub:∀b o,c'.owns b o->c.owns b o)
  (hB:BoxOk P R K (C++[c']) w B c'):Rel P R x K (C++[c']) ⟨σ.tm,σ.bx.set i .dead++[B]⟩ a w:=by
 have A:=h.kill i (fun O e Z=>by grind);have W:∀b o,c'.owns b o->kQ C σ.bx b o:=fun b o y=>⟨i,c,D,hc,hD,hl,hsub b o y⟩;have u:∀b o,c'.owns b o->¬kQ C (σ.bx.set i .dead) b o:=by
  rintro b o y ⟨j,d,N,M,n,m,E⟩
  rw [List.getElem?_set] at n;split at n
  ·grind[Bx.live]
  rename_i H;exact h.inv.ER i j c d D N b o H hc M hD n hl m (hsub b o y) E
 have f:∀b o,kQ (C++[c']) (σ.bx.set i .dead++[B]) b o->kQ C σ.bx b o:=by
  intro b o l;rcases lG (by simpa using h.inv.size) l with l|l
  ·grind[BX]
  ·grind
 refine {A with inv:=?_,tm:=?_,own:=?_,cin:=?_,defs:=?_,loops:=?_};·exact A.inv.push hB (fun b o y=>h.inv.apart b o (W b o y)) u
 ·exact A.tm.mono (KLe.refl _) (CLe.append _ _)
 ·intro b o l;exact h.own b o (f b o l)
 ·intro j d e;exact CLe.append _ _ _ _ (h.cin j d e)
 ·obtain ⟨S,U,Q,F⟩:=h.defs.marks;exact ⟨⟨S,U,Q,fun r J=>⟨(F r J).1,(F r J).2.1,fun q l=>(F r J).2.2 q (f r q l)⟩⟩,h.defs.round⟩
 intro j Y m;obtain ⟨O,V,L⟩:=A.loops j Y m<;>grind
theorem Zn {t0 t1 e e1:TypeId}{args:Array Operand}{tys:Array TypeId}{ps pz:Operand}{qs qz:Opd}{ts tz:TypeId}{sz bytes off len:Nat}{z:List X}{es new:qaX}{yz:X}(h:Rel P R x K C σ a w)(ho:o.op=.call ⟨.builtin .append,args,tys⟩)(ha:args.toList=[ps,pz])
  (h0:tys[0]?=some t0) (h1:tys[1]?=some t1) (hu0:P.underlying t0=some (.slice e)) (hu1:P.underlying t1=some (.slice e1)) (hs:eP P e=some sz) (hb:uj P e=some bytes) (hz:oP P e=some z) (hpos:0<bytes)
  (hps:aX P R.gl ts ps=some qs) (hpz:aX P R.gl tz pz=some qz) (eps:σ.ev qs=some (.bs i off len)) (epz:σ.ev qz=some yz) (hsrc:pF σ.bx yz=some (sz,new)) (hbx:σ.bx[i]?=some (.row sz es)) (hend:off+len=es.length)
  (hroom:dh (len+new.length) bytes=true):
  dU P R x σ a w o (.bs σ.bx.length 0 (len+new.length)) (σ.bx.set i .dead++[.row sz (es.drop off++new)]):=by
 have pt:args=#[ps,pz]:=by rw [<-Array.toArray_toList (xs:=args),ha]
 subst pt;have pu:∃rest,tys=(t0::t1::rest).toArray:=by
  have e0:tys=tys.toList.toArray:=by simp
  cases hl:tys.toList with
  |nil=>rw [e0,hl] at h0<;>grind
  |cons a0 r=>cases r with
   |nil=>rw [e0,hl] at h1<;>grind
   |cons b0 r=>rw [e0,hl] at h0 h1<;>grind
 obtain ⟨rest,rfl⟩:=pu;simp only [dh,qab,qaF] at hroom;have r1:=bC h.inv.glob h.tm hps eps;have r2:=bC h.inv.glob h.tm hpz epz;obtain ⟨oc,c,u,qd,J,pb,_⟩:=Iy h.inv r2 hsrc;have Y:pF σ.bx (.bs i off len)=some (sz,es.drop off):=by
  simp only [pF,rowOf,hbx];rw [if_pos (by omega)]
  congr 2
  exact List.take_of_length_le (by grind)
 obtain ⟨ob,cap,L,pc,pv,pf,pp⟩:=Iy h.inv r1 Y;have M:(es.drop off).length=len:=by simp;omega
 rw [M] at pc pf;have EI:(execOp a.eval o).run P w=((Builtin.append_ #[t0,t1] o.type #[.slice ob len cap,.slice oc new.length c]).run P w).andThen fun v w'=>.ok (.value v) w':=by
  have pd:Builtin.append_ (t0::t1::rest).toArray o.type #[a.eval ps,a.eval pz]=Builtin.append_ #[t0,t1] o.type #[a.eval ps,a.eval pz]:=by simp [Builtin.append_]
  simp only [execOp,ho,resolve,invoke,builtin,Sem.run_bind,Sem.run_pure,Result.andThen_ok,List.map_toArray,qaS,List.map_nil,pd];rw [pc,qd]
 have pe:=pv.append J;have po:(L++u).length=(len+new.length)*sz:=by rw [pe.len,qaw,M]
 have qv:(Bx.row sz es).gI=false:=rfl;have grow:cap<len+new.length->dU P R x σ a w o (.bs σ.bx.length 0 (len+new.length)) (σ.bx.set i .dead++[.row sz (es.drop off++new)]):=by
  intro qe;obtain ⟨ph,E,pi⟩:=qO (P:=P) (ty:=o.type) hu0 hu1 hs hb hz L u pf pb qe (by omega) hroom.2 hpos;have hm:=grownCap_ge w (len+new.length) cap e;generalize qu:grownCap w (len+new.length) cap e=m at E pi hm;have hk:=(h.still (aO.drew nowhere w)).kill i (fun B e e'=>by grind);have qm:(L++u++ph).toArray.size=m*sz:=by simp only [List.size_toArray];rw [qaw,po,pi,<-Nat.add_mul];congr 1;omega
  have pa:(C++[CB.at w.heap.size 0 (m*sz) sz])[σ.bx.length]?=some (.at w.heap.size 0 (m*sz) sz):=by rw [<-h.inv.size];simp
  refine ⟨K,C++[.at w.heap.size 0 (m*sz) sz],_,_,_,by rw [EI,E];rfl,.inl rfl,?_,?_⟩
  ·refine hk.push _ (pe.box (kG w.drew _) (fun k v hv=>?_) ?_ (by omega)) (fun b k W=>W.1)
   ·grind
   simp_all[qaB]
  have:=Rep.bs (K:=K) (off:=0) (len:=len+new.length) (cap:=m) pa (by simp) hm<;>grind
 rw [pc] at r1;cases r1 with
 |bs hc hcap hlc=>
  rename_i b l S f;obtain ⟨A,el,g1,g2,g3,N,pn⟩:=(h.inv.box i _ _ hbx hc).flat;subst g1;by_cases H:len+new.length<=cap
  ·have qb:l+off*f+(len+new.length)*f<=S:=by have h5:=qaB f H;rw [Nat.add_mul] at hcap;omega
   have ra:=J.len;rw [Nat.add_mul] at qb;have pl:=run_storeCells_at P b (l+off*f+len*f) el u 0 A w N (by omega) J.oneCell;simp only [Nat.add_zero] at pl;have E:=pI (P:=P) (ty:=o.type) (ob:=some ⟨b,l+off*f,none⟩) hu0 hu1 hs u _ (pb w rfl) H (fun ad e=>by cases e;rw [addr_add];omega) (fun e=>by cases e);generalize Q:(A.toList.take (l+off*f+len*f)++u++A.toList.drop (l+off*f+len*f+u.length)).toArray=arr' at E pl;have hT:(A.toList.take (l+off*f+len*f)).length=l+off*f+len*f:=by simp;omega
   have V:arr'.size=A.size:=by rw [<-Q];simp;omega
   have O:∀q,arr'[q]?=if q<l+off*f+len*f then A[q]? else if q<l+off*f+len*f+u.length then u[q-(l+off*f+len*f)]? else A[q]?:=by
    intro q;rw [<-Q,List.getElem?_toArray];by_cases h5:q<l+off*f+len*f;·simp_all[qao]
    rw [if_neg h5,qaM,qax (by omega),hT];by_cases h6:q<l+off*f+len*f+u.length;·rw [if_pos h6,qao (by omega)]
    rw [if_neg h6,qax (by omega),qas,bn]
    congr 1;omega
   have qq:es.length*f=off*f+len*f:=by rw [<-hend,Nat.add_mul]
   have qf:=pn.append J;have pk:BoxOk P R K C (w.setRow b arr') (.row f (es++new)) (.at b l S f):=by
    refine qf.box (setRow_heap w b A arr' el _ N) (fun k v hv=>?_) (by rw [qaw,Nat.add_mul];omega) (by omega);have hL:((A.toList.drop l).take (es.length*f)).length=es.length*f:=by simp;omega
    rw [O];by_cases hk:k<es.length*f
    ·rw [qao (by omega),qau,if_pos hk,qas,bn] at hv
     grind
    rw [qax (by omega),hL] at hv;have:=(qaj.1 hv).1;rw [if_neg (by omega),if_pos (by omega),<-hv];congr 1;omega
   have qa:=h.yZ (B:=.row f (es++new)) hbx rfl hc (aO.setRow N V fun q hq=>by
    rw [O];have qk:¬(l<=q/\q<S):=fun hh=>hq ⟨rfl,hh.1,hh.2⟩;by_cases h5:q<l+off*f+len*f
    ·grind
    rw [if_neg h5,if_neg (by omega)]) pk (fun e=>by cases e)
   have zN:(σ.bx.set i (.row f (es++new)))[i]?=some (.row f (es++new)):=by simp [(qaj.1 hbx).1]
   have px:BoxOk P R K (C++[.at b (l+off*f) S f]) (w.setRow b arr') (.row f (es.drop off++new)) (.at b (l+off*f) S f):=by
    obtain ⟨_,_,_,qt,qn,U,qr,pw⟩:=pk;rw [setRow_heap w b A arr' el _ N] at U;simp only [qaf,Obj.cells.injEq] at U;obtain ⟨rfl,rfl,_⟩:=U;refine ⟨rfl,by rw [qaw,M,Nat.add_mul];omega,fun e0 F=>?_,arr',el,setRow_heap w b A arr' el _ N,by omega,fun i' j y hy=>?_⟩
    ·rcases qaO.1 F with F|F;·exact pn.elems _ (List.mem_of_mem_drop F)
     exact J.elems _ F
    have hd:es.drop off++new=(es++new).drop off:=by rw [List.drop_append_of_le_length (by omega)]
    obtain ⟨e0,F,hj⟩:=cu.1 hy;rw [hd,qas] at F;obtain ⟨py,v,hv,pr⟩:=pw (off+i') j y (cu.2 ⟨e0,F,hj⟩);refine ⟨py,v,?_,pr⟩<;>grind
   have pg:=qa.move zN rfl rfl hc (c':=.at b (l+off*f) S f) (fun b' o' W=>⟨W.1,by have:=W.2.1;omega,W.2.2⟩) px;have qi:(σ.bx.set i (.row f (es++new))).set i .dead=σ.bx.set i .dead:=by simp
   simp at pg;have pa:(C++[CB.at b (l+off*f) S f])[σ.bx.length]?=some (.at b (l+off*f) S f):=by rw [<-h.inv.size];simp
   refine ⟨K,_,_,_,_,by rw [EI,E];rfl,.inl rfl,pg,?_⟩;have:=Rep.bs (K:=K) (off:=0) (len:=len+new.length) (cap:=cap) pa (by grind) H
   grind
  grind
 |lZ hc=>
  by_cases hn:new=[];·subst hn;have Z:u=[]:=qaL (by grind);subst Z;have he:es=[]:=qaL (by omega);subst he;have E:=fun ob=>pI (P:=P) (ty:=o.type) (ob:=ob) (n:=0) (cap:=0) hu0 hu1 hs [] w (pb w rfl) (by simp) (fun ad e=>by simp [storeCells]) (fun _=>rfl);have pj:=h.move (B:=.row sz []) (c':=.ghost) hbx rfl rfl hc (fun b o W=>W.elim) rfl;refine ⟨K,_,_,_,_,by rw [EI,E];rfl,.inl rfl,pj,?_⟩;exact Rep.lZ (C:=C++[CB.ghost]) (by rw [<-h.inv.size];simp)
  grind
end
section
variable {tm:List (Nat×X)}{inb:List Bx}{C':List CB}{sel:List Nat}{i n:Nat}{f:Nat->Nat}{y:X}
variable {P:Program} {R:aT} {x:Ctx} {K:Kn} {C:List CB} {σ:St} {a:Act} {w:World}
def Fr (r:Option Nat):Fence:={Fence.wide with round:=r}
structure zlX (P:Program) (R:aT) (K:Kn) (C:List CB) (inb:List Bx) (w:World) (res:X) (outb:List Bx) (v:Value) (w':World) (K':Kn) (E:List CB):Prop where
 inv:Inv P R K' (C++E) outb w'
 res:Rep K' (C++E) res v
 kle:KLe K K'
 knew:∀(b o:Nat) (u:Value),K' b o=some u->K b o=some u\/kQ C inb b o\/w.heap.size<=b
 own:∀(b o:Nat),kQ (C++E) outb b o->kQ C inb b o\/w.heap.size<=b
 frame:aO (kQ C inb) w w'
 loops:∀(i:Nat) (B:Bx),inb[i]?=some B->B.gI=true->∃B',outb[i]?=some B'/\B'.gI=true
def Post (P:Program)(R:aT)(K:Kn)(C:List CB)(inb:List Bx)(w:World)(res:X)(outb:List Bx)(e:Ending)(w':World):Prop:=
 ∃(v:Value) (K':Kn) (E:List CB),e=.returned v/\zlX P R K C inb w res outb v w' K' E
def dG (K:Kn)(C:List CB)(args:List X)(aQ:Array Value):Prop:=
 aQ.size=args.length/\∀(j:Nat) (y:X) (v:Value),args[j]?=some y->aQ[j]?=some v->Rep K C y v
def EZ (P:Program)(R:aT)(f:FuncId)(args:List X)(inb:List Bx)(res:X)(outb:List Bx):Prop:=
 ∀(K:Kn) (C:List CB) (w:World) (aQ:Array Value),Inv P R K C inb w->dG K C args aQ->Calls P f aQ w (Post P R K C inb w res outb)
def zuE (P:Program)(R:aT)(args:List X)(inb:List Bx)(res:X)(outb:List Bx):Prop:=
 ∃(i:Nat) (as:List X),args=.yl i::as/\∀(K:Kn) (C:List CB) (w:World) (aQ:Array Value) (l:Nat) (r:Option Nat),Inv P R K C inb w->C[i]?=some (.obj l)->dG K C as aQ->
  ∃(f:FuncId) (tmps:Array Value) (assign body:Code),(Instr.yield l aQ).run P w=.ok (.round l f tmps assign body) w/\RoundIn (Fr r) 0 P l f tmps assign body w (Post P R K C inb w res outb)
def zfN (P:Program)(f:FuncId):Prop:=∀(args:Array Value) (w:World),(callFunc f args).run P w=.ok (.enter f args) w
structure qE (P:Program) (R:aT) (Γ:Gam):Prop where
 fn:∀(f:FuncId) (args:List X) (inb:List Bx) (res:X) (outb:List Bx),Γ (.fn f) args inb=some (res,outb)->zfN P f/\EZ P R f args inb res outb
 yl:∀(args:List X) (inb:List Bx) (res:X) (outb:List Bx),Γ .yl args inb=some (res,outb)->zuE P R args inb res outb
theorem Na {bx:List Bx}:∀{sel:List Nat} {l:List Bx},Qr bx sel=some l->l.length=sel.length/\∀(j i:Nat),sel[j]?=some i->∃B,bx[i]?=some B/\l[j]?=some B
 |[],l,h=>by grind[Qr]
 |i::r,l,h=>by
  simp only [Qr] at h;cases hb:bx[i]? with
  |none=>grind
  |some b=>
   simp only [hb] at h;obtain ⟨l',hl,rfl⟩:=qac.1 h;obtain ⟨h1,h2⟩:=Na hl
   grind
theorem Gn:∀{l:List Nat},Gp l=true↔l.Nodup
 |[]=>by simp [Gp]
 |n::r=>by
  have:rF n r=true↔n∈r:=pK;simp only [Gp,qab,Bool.not_eq_true',List.nodup_cons,Gn (l:=r)]
  grind
theorem Jl {l:List Nat}(h:l.Nodup){j:Nat}(e:l[j]?=some i):uV i l=j:=by grind[wO,List.getElem?_inj]
theorem yj (f:Nat->Nat)(B:Bx):(B.ren f).gI=B.gI:=by cases B<;>rfl
theorem mY (f:Nat->Nat)(B:Bx):(B.ren f).live=B.live:=by cases B<;>rfl
theorem ZH (f:Nat->Nat):∀(tm:List (Nat×X)) (n:Nat),lk (zgf f tm) n=(lk tm n).map (X.ren f)
 |[],n=>rfl
 |(k,y)::r,n=>by have ih:=ZH f r n<;>grind[zgf,lk]
theorem zgt :lk tm n=some y->∃p,p∈tm/\p.2=y:=by
 induction tm with
 |nil=>grind[lk]
 |cons p r ih=>grind[lk]
theorem Vp (h:lk tm n=some y)(hi:i∈y.refs):i∈cO (tm.map (·.2)):=by obtain ⟨p,a,rfl⟩:=zgt h;exact eX.2 ⟨p.2,qal.2 ⟨p,a,rfl⟩,hi⟩
theorem zF.ren {tmps:Array Value}(h:zF K C tm tmps)(hC:∀i,i∈cO (tm.map (·.2))->∀c,C[i]?=some c->C'[f i]?=some c):zF K C' (zgf f tm) tmps:=by intro n y e;rw [ZH] at e;obtain ⟨z,hz,rfl⟩:=qac.1 e;obtain ⟨v,a,l⟩:=h n z hz;exact ⟨v,a,l.ren fun i j=>hC i (Vp hz j)⟩
theorem fJ.ren {xs:List X}{vs:List Value}(h:fJ K C xs vs)(hC:∀i,i∈cO xs->∀c,C[i]?=some c->C'[f i]?=some c):fJ K C' (NZ f xs) vs:=by
 refine ⟨by rw [ji];simpa using h.len,fun y a=>?_,fun j y v e m=>?_⟩;·rw [ji] at a;obtain ⟨z,hz,rfl⟩:=qal.1 a;rw [Gz];exact h.cell z hz
 rw [ji,qav] at e;obtain ⟨z,hz,rfl⟩:=qac.1 e;exact (h.rep j z v hz m).ren fun i l=>hC i (eX.2 ⟨z,qam hz,l⟩)
theorem BoxOk.ren {B:Bx}{c:CB}(h:BoxOk P R K C w B c)(hC:∀i,i∈B.refs->∀c,C[i]?=some c->C'[f i]?=some c):BoxOk P R K C' w (B.ren f) c:=by
 cases B with
 |dead=>trivial
 |var cs=>cases c with
  |«at»=>obtain ⟨n,A,m,el,q,u⟩:=h;exact ⟨n,by grind[ji],m,el,q,u.ren hC⟩
  |ghost=>exact h.elim
  |obj=>exact h.elim
 |row sz es=>cases c with
  |«at»=>exact h
  |ghost=>exact h
  |obj=>exact h.elim
 |map es=>cases c with
  |obj=>exact h
  |«at»=>exact h.elim
  |ghost=>exact h.elim
 |loop st p tm ps a b=>cases c with
  |obj=>obtain ⟨l,y,j⟩:=h;exact ⟨l,y,j.hst,j.zes,j.htm.ren hC,j.hps,j.hin,j.hcode⟩
  |«at»=>exact h.elim
  |ghost=>exact h.elim
theorem Inv.pick {bx:List Bx}(h:Inv P R K C bx w)(e:Ew bx sel=some inb):
  ∃C1:List CB,Inv P R K C1 inb w/\C1.length=sel.length/\(∀(j i:Nat) (c:CB),sel[j]?=some i->C[i]?=some c->C1[j]?=some c)/\
   (∀(j i:Nat),sel[j]?=some i->∃B,bx[i]?=some B/\inb[j]?=some (B.ren (uV · sel)))/\inb.length=sel.length/\sel.Nodup/\(∀(j:Nat) (c:CB),C1[j]?=some c->∃i,sel[j]?=some i/\C[i]?=some c)/\
   (∀i,i∈sel->∀c,C[i]?=some c->C1[uV i sel]?=some c):=by
 unfold Ew at e;split at e
 ·grind
 rename_i l hl;split at e
 ·rename_i U;simp at e;subst e;simp at U;have F:=Gn.1 U.1;obtain ⟨pb,m⟩:=Na hl;have O:∀(j i:Nat) (c:CB),sel[j]?=some i->C[i]?=some c->(sel.map fun i=>C.getD i .ghost)[j]?=some c:=by intro j i c a E;simp [a,List.getD,E]
  have J:∀(j:Nat) (c:CB),(sel.map fun i=>C.getD i .ghost)[j]?=some c->∃i,sel[j]?=some i/\C[i]?=some c:=by intro j c a;rw [qav] at a;obtain ⟨i,V,rfl⟩:=qac.1 a;obtain ⟨B,L,_⟩:=m j i V;obtain ⟨c,U,_⟩:=h.get L;exact ⟨i,V,by grind⟩
  have q:∀i,i∈sel->∀c,C[i]?=some c->(sel.map fun i=>C.getD i .ghost)[uV i sel]?=some c:=fun i V c e=>O _ i c (wO V) e;have pa:∀(j i:Nat),sel[j]?=some i->∃B,bx[i]?=some B/\(l.map (Bx.ren (uV · sel)))[j]?=some (B.ren (uV · sel)):=by intro j i a;obtain ⟨B,Q,M⟩:=m j i a;exact ⟨B,Q,by grind⟩
  have f:∀(j:Nat) (B':Bx),(l.map (Bx.ren (uV · sel)))[j]?=some B'->∃i B,sel[j]?=some i/\bx[i]?=some B/\B'=B.ren (uV · sel)/\Oj B.refs sel=true:=by
   intro j B' a;have hj:j<sel.length:=by have:=(qaj.1 a).1;simp at this;omega
   obtain ⟨B,Q,M⟩:=m j sel[j] (qad hj);rw [qav,M] at a;simp at a;exact ⟨sel[j],B,qad hj,Q,a.symm,U.2 B (qam M)⟩
  have y:∀(b o:Nat),kQ (sel.map fun i=>C.getD i .ghost) (l.map (Bx.ren (uV · sel))) b o->kQ C bx b o:=by
   rintro b o ⟨j,c,B',Q,M,h3,h4⟩
   obtain ⟨i,B,a,E,rfl,_⟩:=f j B' M;obtain ⟨W,n,H⟩:=J j c Q;rw [a] at n;cases n;exact ⟨i,c,B,H,E,by grind[mY],h4⟩
  refine ⟨sel.map fun i=>C.getD i .ghost,⟨h.glob,h.known,by grind,fun b o ho=>h.apart b o (y b o ho),?_,?_⟩,by simp,O,pa,by grind,F,J,q⟩;·intro j k c d A B b o Y u hd hA L N S hw;obtain ⟨i,A0,a,E,rfl,_⟩:=f j A hA;obtain ⟨W,B0,f1,f2,rfl,_⟩:=f k B L;obtain ⟨i2,n,H⟩:=J j c u;obtain ⟨i3,f3,f4⟩:=J k d hd;rw [a] at n;cases n;rw [f1] at f3;cases f3;rw [mY] at N S;refine h.ER i W c d A0 B0 b o (fun Z=>Y ?_) H f4 E f2 N S hw;subst Z;rw [<-Jl F a,<-Jl F f1]
  intro j B' c L u;obtain ⟨i,B,a,E,rfl,e5⟩:=f j B' L;obtain ⟨W,n,H⟩:=J j c u;rw [a] at n;cases n;exact (h.box i B c E H).ren fun k hk=>q k (vG.1 e5 k hk)
 grind
theorem fM:∀(sel:List Nat) (s bx:List Bx),(kH sel s bx).length=bx.length
 |[],_,_=>by simp [kH]
 |_::_,[],_=>by simp [kH]
 |i::r,b::s,bx=>by simp [kH,fM r s]
theorem lC:∀(sel:List Nat) (s bx:List Bx) (i:Nat),i∉sel->(kH sel s bx)[i]?=bx[i]?
 |[],_,_,_,_=>by simp [kH]
 |_::_,[],_,_,_=>by simp [kH]
 |k::r,b::s,bx,i,h=>by simp at h;rw [kH,lC r s _ i h.2,List.getElem?_set_ne (fun e=>h.1 e.symm)]
theorem IE:∀(sel:List Nat) (s bx:List Bx) (j i:Nat) (B:Bx),sel.Nodup->sel[j]?=some i->s[j]?=some B->i<bx.length->(kH sel s bx)[i]?=some B
 |[],_,_,_,_,_,_,h,_,_=>by grind
 |_::_,[],_,_,_,_,_,_,h,_=>by grind
 |k::r,b::s,bx,j,i,B,hn,h1,h2,h3=>by
  rw [List.nodup_cons] at hn;cases j with
  |zero=>grind[kH,lC]
  |succ j=>simp at h1 h2;rw [kH];exact IE r s _ j i B hn.2 h1 h2 (by grind)
theorem NM (h:Rel P R x K C σ a w){outb:List Bx}{C1:List CB}{v:Value}{w':World}{K':Kn}{E:List CB}
  (Wi:∀(j:Nat) (c:CB),C1[j]?=some c->∃i,sel[j]?=some i/\C[i]?=some c) (hl1:C1.length=sel.length)
  (hin:∀(j i:Nat),sel[j]?=some i->∃B,σ.bx[i]?=some B/\inb[j]?=some (B.ren (uV · sel))) (hinl:inb.length=sel.length) (hnd:sel.Nodup)
  (hp:zlX P R K C1 inb w y outb v w' K' E) (hle:sel.length<=outb.length):
  let back:=fun j=>if j<sel.length then sel.getD j 0 else σ.bx.length+(j-sel.length)
  Rel P R x K' (C++E) ⟨σ.tm,kH sel (outb.map (Bx.ren back)) σ.bx++(outb.map (Bx.ren back)).drop sel.length⟩ a w'/\Rep K' (C++E) (y.ren back) v:=by
 intro back;have pl:=h.inv.size;have pf:=hp.inv.size;rw [qaw,hl1] at pf;have M:∀(j:Nat) (c:CB),(C1++E)[j]?=some c->(C++E)[back j]?=some c:=by
  intro j c e;by_cases hj:j<sel.length
  ·grind
  ·grind
 have W:∀(b o:Nat),kQ C1 inb b o->∃i c B,i∈sel/\C[i]?=some c/\σ.bx[i]?=some B/\B.live=true/\c.owns b o:=by
  rintro b o ⟨j,c,B',l,O,h3,h4⟩
  obtain ⟨i,e1,e2⟩:=Wi j c l;obtain ⟨B,e3,e4⟩:=hin j i e1;rw [e4] at O;cases O;exact ⟨i,c,B,qam e1,e2,e3,by grind[mY],h4⟩
 have TA:∀(b o:Nat),kQ C1 inb b o->kQ C σ.bx b o:=by intro b o n;obtain ⟨i,c,B,_,O,h3,h4,h5⟩:=W b o n;exact ⟨i,c,B,O,h3,h4,h5⟩
 generalize pa:outb.map (Bx.ren back)=outs;have pn:outs.length=outb.length:=by rw [<-pa];simp
 have m:∀(i:Nat) (B:Bx),(kH sel outs σ.bx++outs.drop sel.length)[i]?=some B->(i∉sel/\i<σ.bx.length/\σ.bx[i]?=some B)\/(∃(j:Nat) (B0:Bx),back j=i/\outb[j]?=some B0/\B=B0.ren back):=by
  intro i B e;by_cases Z:i<σ.bx.length
  ·rw [qao (by grind[fM])] at e;by_cases V:i∈sel
   ·have hj:=wO V;have pj:=(qaj.1 hj).1;have n:outs[uV i sel]?=some outs[uV i sel]:=qad (by omega);rw [IE sel outs σ.bx (uV i sel) i _ hnd hj n Z] at e
    grind
   grind[lC]
  rw [qax (by grind[fM]),fM,qas] at e
  grind
 have pi:∀j k,j<outb.length->k<outb.length->back j=back k->j=k:=by
  intro j k hj hk e;have ph:∀j,j<sel.length->sel.getD j 0<σ.bx.length:=by intro j hj;obtain ⟨B,q,_⟩:=hin j sel[j] (qad hj);have:=(qaj.1 q).1;simpa [List.getD,hj] using this
  by_cases l:j<sel.length
  ·by_cases O:k<sel.length
   ·simp only [back,l,O,if_true] at e;have e1:sel[j]?=some (sel.getD j 0):=by simp [List.getD,l]
    have e2:sel[k]?=some (sel.getD k 0):=by simp [List.getD,O]
    rw [<-Jl hnd e1,<-Jl hnd e2,e]
   grind
  ·grind
 have U:∀(j:Nat) (B0:Bx) (c:CB),outb[j]?=some B0->(C++E)[back j]?=some c->(C1++E)[j]?=some c:=by intro j B0 c l O;obtain ⟨c',h3,_⟩:=hp.inv.get l;rw [M j c' h3] at O;cases O;exact h3
 have VZ:∀(i:Nat) (c:CB),i<σ.bx.length->(C++E)[i]?=some c->C[i]?=some c:=by intro i c Z e;rwa [qao (by omega)] at e
 have N:∀(b o:Nat),kQ (C++E) (kH sel outs σ.bx++outs.drop sel.length) b o->
   (∃i c B,i∉sel/\C[i]?=some c/\σ.bx[i]?=some B/\B.live=true/\c.owns b o)\/kQ (C1++E) outb b o:=by
  rintro b o ⟨i,c,B,l,O,h3,h4⟩
  rcases m i B O with ⟨V,Z,q⟩|⟨j,B0,rfl,q,rfl⟩
  ·grind
  exact .inr ⟨j,c,B0,U j B0 c q l,q,by grind[mY],h4⟩
 have pb:∀(i:Nat) (c:CB) (B:Bx) (b o:Nat),i∉sel->C[i]?=some c->σ.bx[i]?=some B->B.live=true->c.owns b o->¬kQ C1 inb b o:=by intro i c B b o V F q Q H n;obtain ⟨k,d,A,hk,hd,hA,L,S⟩:=W b o n;exact h.inv.ER i k c d B A b o (fun e=>V (e▸hk)) F hd q hA Q L H S
 have pc:∀(i:Nat) (c:CB) (B:Bx) (b o:Nat),C[i]?=some c->σ.bx[i]?=some B->B.live=true->c.owns b o->b<w.heap.size:=
  fun i c B b o F q Q H=>h.inv.qX ⟨i,c,B,F,q,Q,H⟩
 refine ⟨{h with inv:=?_,tm:=?_,k0:=h.k0.trans hp.kle,knew:=?_,own:=?_,cin:=?_,frame:=?_,defs:=?_,loops:=?_},hp.res.ren fun i _ c e=>M i c e⟩
 ·refine ⟨hp.inv.glob,hp.inv.known,?_,?_,?_,?_⟩
  ·grind[fM]
  ·intro b o n;rcases N b o n with ⟨i,c,B,V,F,q,Q,H⟩|n
   ·cases e:K' b o with
    |none=>rfl
    |some u=>
     rcases hp.knew b o u e with l|l|l;·rw [h.inv.apart b o ⟨i,c,B,F,q,Q,H⟩] at l<;>grind
     ·grind
     grind
   exact hp.inv.apart b o n
  ·intro i k c d A B b o pd F hd hA q L Y H S;rcases m i A hA with ⟨V,Z,J⟩|⟨j,A0,rfl,J,rfl⟩
   ·rcases m k B q with ⟨pe,hk,f⟩|⟨j',B0,rfl,f,rfl⟩;·exact h.inv.ER i k c d A B b o pd (VZ i c Z F) (VZ k d hk hd) J f L Y H S
    have n:kQ (C1++E) outb b o:=⟨j',d,B0,U j' B0 d f hd,f,by rwa [mY] at Y,S⟩;rcases hp.own b o n with l|l
    ·grind
    have:=pc i c A b o (VZ i c Z F) J L H;omega
   rcases m k B q with ⟨pe,hk,f⟩|⟨j',B0,rfl,f,rfl⟩
   ·have n:kQ (C1++E) outb b o:=⟨j,c,A0,U j A0 c J F,J,by rwa [mY] at L,H⟩;rcases hp.own b o n with l|l
    ·grind
    have:=pc k d B b o (VZ k d hk hd) f Y S;omega
   rw [mY] at L Y;exact hp.inv.ER j j' c d A0 B0 b o (fun e=>pd (by rw [e])) (U j A0 c J F) (U j' B0 d f hd) J f L Y H S
  intro i B c q F;rcases m i B q with ⟨V,Z,f⟩|⟨j,B0,rfl,f,rfl⟩
  ·by_cases Q:B.live=true;·exact (h.inv.box i B c f (VZ i c Z F)).mono hp.kle (CLe.append _ _) hp.frame (fun b o H=>pb i c B b o V (VZ i c Z F) f Q H)
   cases B<;>first|trivial|simp [Bx.live] at Q
  exact (hp.inv.box j B0 c f (U j B0 c f F)).ren fun k _ d e=>M k d e
 ·exact h.tm.mono hp.kle (CLe.append _ _)
 ·intro b o u e;rcases hp.knew b o u e with l|l|l;·exact h.knew b o u l
  ·exact .inr (h.own b o (TA b o l))
  exact .inr (.inr (Nat.le_trans h.frame.size l))
 ·intro b o n;rcases N b o n with ⟨i,c,B,V,F,q,Q,H⟩|n;·exact h.own b o ⟨i,c,B,F,q,Q,H⟩
  rcases hp.own b o n with l|l;·exact h.own b o (TA b o l)
  exact .inr (Nat.le_trans h.frame.size l)
 ·intro i c e;exact CLe.append _ _ _ _ (h.cin i c e)
 ·refine h.frame.trans hp.frame (fun b o ph n=>?_);rcases h.own b o (TA b o n) with l|l
  ·grind
  grind
 ·obtain ⟨rs,l,O,h3⟩:=h.defs.marks;refine ⟨⟨rs,l,O,fun r hr=>⟨hp.frame.obj (h3 r hr).1 trivial (o₀:=0) (fun n=>(h3 r hr).2.2 0 (TA r 0 n)),(h3 r hr).2.1,fun o n=>?_⟩⟩,h.defs.round⟩;rcases N r o n with ⟨i,c,B,V,F,q,Q,H⟩|n;·exact (h3 r hr).2.2 o ⟨i,c,B,F,q,Q,H⟩
  rcases hp.own r o n with h4|h4
  ·grind
  grind
 intro i Z Q;obtain ⟨B,q,pk⟩:=h.loops i Z Q;have pg:=(qaj.1 q).1;show ∃B',(kH sel outs σ.bx++outs.drop sel.length)[i]?=some B'/\B'.gI=true;rw [qao (by grind[fM])];by_cases V:i∈sel;·have hj:=wO V;obtain ⟨B0,e1,e2⟩:=hin _ i hj;rw [q] at e1;cases e1;obtain ⟨B',e3,e4⟩:=hp.loops _ _ e2 (by grind[yj]);refine ⟨B'.ren back,IE sel outs σ.bx (uV i sel) i _ hnd hj ?_ pg,by grind[yj]⟩;rw [<-pa];simp [e3]
 grind[lC]
end
section
variable {aQ:Array Value}{raw:Bool}{g:FuncId}{K2:Kn}{bx':List Bx}{sel:List Nat}{args:List X}{v:Value}{z:X}
variable {P:Program} {R:aT} {x:Ctx} {K:Kn} {C:List CB} {σ:St} {a:Act} {w:World}
variable {o:Oper} {y:X} {bx:List Bx} {A:Ann} {Γ:Gam}
theorem wW {raw:Bool}:∀{cs ds:List X},eG bx raw cs=some ds->ds.length=cs.length/\∀(j:Nat) (z:X),cs[j]?=some z->∃z',ds[j]?=some z'/\z.data bx raw=some z'
 |[],ds,h=>by grind[eG]
 |z::r,ds,h=>by
  simp only [eG] at h;cases hz:z.data bx raw with
  |none=>grind
  |some z'=>
   simp only [hz] at h;obtain ⟨l,hl,rfl⟩:=qac.1 h;obtain ⟨h1,h2⟩:=wW hl
   grind
theorem zbq {z':X}(h:z.data bx raw=some z'):z'.fA=z.fA:=by
 cases z with
 |bs i off len=>simp only [X.data] at h;obtain ⟨p,_,rfl⟩:=qac.1 h;rfl
 |agg cs=>simp only [X.data] at h;obtain ⟨p,_,rfl⟩:=qac.1 h;rfl
 |tup cs=>simp only [X.data] at h;obtain ⟨p,_,rfl⟩:=qac.1 h;rfl
 |_=>simp [X.data] at h;subst h;rfl
theorem wB {i:Nat}:∀{cs:List X},i∈iW cs↔∃z,z∈cs/\i∈z.rows
 |[]=>by simp [iW]
 |z::r=>by simp [iW,wB (cs:=r)]
theorem Rep.data (hI:Inv P R K C bx w)(hK:KLe K K2)(h:Rep K C z v)
  (hrow:(∀(b o:Nat) (u:Value),kQ C bx b o->w.cell? ⟨b,o,none⟩=some u->K2 b o=some u)\/z.rows=[]):∀{z':X},z.data bx raw=some z'->Rep K2 C z' v:=by
 induction h with
 |v h=>intro z' e;simp [X.data] at e;subst e;exact .v h
 |iK=>intro z' e;simp [X.data] at e;subst e;exact .iK
 |sl vals hlen ht hcap hcell hk hr ih=>intro z' e;simp [X.data] at e;subst e;exact .sl vals hlen (fun e=>ht (by grind)) hcap hcell (fun i j z e=>hK _ _ _ (hk i j z e)) (fun i j z e=>(hr i j z e).mono hK (CLe.refl _))
 |bs hc hcap hlen=>
  rename_i C i f len b a E F cap;intro z' e;simp only [X.data] at e;obtain ⟨p,l,rfl⟩:=qac.1 e;unfold rowOf at l;split at l
  ·rename_i s U L;split at l
   ·rename_i S;simp at l;subst l;obtain ⟨O,el,g1,g2,g3,pa,Q⟩:=(hI.box i _ _ L hc).flat;subst g1;have J:((U.drop f).take len).length=len:=by simp;omega
    rcases hrow with hrow|hrow
    ·have:=(((Q.drop f).take len).mono hK).rep (K:=K2) (C:=C) (t:=false) (b:=b) (o:=a+f*F) (cap:=cap) (fun k u y=>?_) (by simp) (by omega)
     ·grind
     rw [qau] at y;split at y
     ·rename_i W;rw [qas,qau] at y;split at y
      ·rename_i Z;rw [qas,bn] at y;have m:a+f*F+k=a+(f*F+k):=by omega
       refine hrow b _ u ⟨i,_,_,hc,L,rfl,rfl,by omega,?_⟩ ?_;·omega
       grind[World.cell?]
      grind
     grind
    grind[X.rows]
   grind
  grind
 |lZ hc=>
  rename_i C i ob;intro z' e;simp only [X.data] at e;obtain ⟨p,l,rfl⟩:=qac.1 e;unfold rowOf at l;split at l
  ·split at l;·cases l;simp;exact .iK
   grind
  grind
 |ptr hc=>intro z' e;simp [X.data] at e;subst e;exact .ptr hc
 |dp vals hcell hk hr ih=>intro z' e;simp [X.data] at e;subst e;exact .dp vals hcell (fun j z e=>hK _ _ _ (hk j z e)) (fun j z e=>(hr j z e).mono hK (CLe.refl _))
 |fn hs hr ih=>intro z' e;simp [X.data] at e;subst e;exact .fn hs (fun j z v e q=>(hr j z v e q).mono hK (CLe.refl _))
 |agg hs hcell hr ih=>
  intro z' e;simp only [X.data] at e;obtain ⟨V,H,rfl⟩:=qac.1 e;obtain ⟨h1,A⟩:=wW H;rename_i C n N;refine .agg (by grind) (fun z hz=>?_) (fun j z v e q=>?_);·obtain ⟨j,M,rfl⟩:=List.mem_iff_getElem.1 hz;obtain ⟨z',m,B⟩:=A j n[j] (qad (by omega))<;>grind[zbq,qag]
  have M:=(qaj.1 e).1;obtain ⟨z',m,B⟩:=A j n[j] (qad (by omega));rw [e] at m;cases m;refine ih j _ v (qad (by omega)) q hI (hrow.imp_right fun Y=>?_) B;refine List.eq_nil_iff_forall_not_mem.2 fun i E=>?_;have:=wB.2 ⟨n[j],qag _,E⟩
  grind[X.rows]
 |tup hs hr ih=>
  intro z' e;simp only [X.data] at e;obtain ⟨V,H,rfl⟩:=qac.1 e;obtain ⟨h1,A⟩:=wW H;rename_i C n N;refine .tup (by grind) (fun j z v e q=>?_);have M:=(qaj.1 e).1;obtain ⟨z',m,B⟩:=A j n[j] (qad (by omega));rw [e] at m;cases m;refine ih j _ v (qad (by omega)) q hI (hrow.imp_right fun Y=>?_) B;refine List.eq_nil_iff_forall_not_mem.2 fun i E=>?_;have:=wB.2 ⟨n[j],qag _,E⟩
  grind[X.rows]
 |yl hc=>intro z' e;simp [X.data] at e;subst e;exact .yl hc
 |mp hc=>intro z' e;simp [X.data] at e;subst e;exact .mp hc
 |ifc=>intro z' e;simp [X.data] at e;subst e;exact .ifc
theorem sN:∀{cs:List X},zf cs=true->∀z,z∈cs->z.plain=true
 |[],_,_,h=>by grind
 |z::r,h,u,hu=>by
  simp [zf] at h;rcases qak.1 hu with rfl|hu
  ·grind
  exact sN h.2 u hu
theorem Rep.plain (h:Rep K C z v):∀{C2:List CB},z.plain=true->Rep K2 C2 z v:=by
 induction h with
 |v h=>exact fun _=>.v h
 |agg hs hcell hr ih=>exact fun f=>.agg hs hcell (fun j z v e a=>ih j z v e a (sN (by grind[X.plain]) z (qam e)))
 |tup hs hr ih=>exact fun f=>.tup hs (fun j z v e a=>ih j z v e a (sN (by grind[X.plain]) z (qam e)))
 |fn hs hr ih=>exact fun f=>.fn hs (fun j z v e a=>ih j z v e a (sN (by grind[X.plain]) z (qam e)))
 |_=>grind[X.plain]
def H7 (P:Program)(R:aT)(x:Ctx)(C:List CB)(tm:List (Nat×X))(bx:List Bx)(a:Act)(y:X)(e:Ending)(w':World):Prop:=
 ∃(v:Value) (K':Kn) (C':List CB),e=.returned v/\CLe C C'/\Em.Rel P R x K' C' ⟨tm,bx⟩ a w'/\Rep K' C' y v
theorem H7.step {tm:List (Nat×X)}{e:Ending}{w':World}(h:H7 P R x C tm bx a y e w'):∃(v:Value) (K':Kn) (C':List CB),e=.returned v/\Em.Rel P R x K' C' ⟨tm,bx⟩ a w'/\Rep K' C' y v:=
 let ⟨v,K',C',h1,_,h2,h3⟩:=h
 ⟨v,K',C',h1,h2,h3⟩
theorem Ej {C':List CB}{f:Nat->Nat}(h:dG K C args aQ)(hC:∀i,i∈cO args->∀c,C[i]?=some c->C'[f i]?=some c):dG K C' (NZ f args) aQ:=by refine ⟨by rw [ji];simpa using h.1,fun j z v e m=>?_⟩;rw [ji,qav] at e;obtain ⟨u,a,rfl⟩:=qac.1 e;exact (h.2 j u v a m).ren fun i l=>hC i (eX.2 ⟨u,qam a,l⟩)
theorem Hq (hΓ:qE P R Γ)(h:Rel P R x K C σ a w)(hargs:dG K C args aQ)(e:jc Γ (.fn g) args σ.bx=some (y,bx',sel)):
  zfN P g/\Calls P g aQ w (H7 P R x C σ.tm bx' a y):=by
 unfold jc at e;dsimp only at e;split at e
 ·rename_i m;split at e
  ·grind
  rename_i Q f;split at e
  ·grind
  rename_i r J j;split at e
  ·rename_i u;cases e;obtain ⟨V,L,H,O,A,l,B,U,n⟩:=h.inv.pick f;obtain ⟨q,F⟩:=hΓ.fn g _ _ _ _ j;refine ⟨q,(F K V w aQ L (Ej hargs fun i N=>n i (vG.1 m i N))).mono ?_⟩
   rintro e w' ⟨v,M,E,rfl,Y⟩
   obtain ⟨S,W⟩:=NM h U H A l B Y u;exact ⟨v,M,C++E,rfl,CLe.append _ _,S,W⟩
  grind
 grind
theorem WQ (hΓ:qE P R Γ)(h:Rel P R x K C σ a w){i l:Nat}{as:List X}(hi:C[i]?=some (.obj l))(hargs:dG K C as aQ)(e:jc Γ .yl (.yl i::as) σ.bx=some (y,bx',sel))(r:Option Nat):
  ∃(f:FuncId) (tmps:Array Value) (assign body:Code),(Instr.yield l aQ).run P w=.ok (.round l f tmps assign body) w/\RoundIn (Fr r) 0 P l f tmps assign body w (H7 P R x C σ.tm bx' a y):=by
 unfold jc at e;dsimp only at e;split at e
 ·rename_i A;split at e
  ·grind
  rename_i pa n;split at e
  ·grind
  rename_i V O q;split at e
  ·rename_i H;cases e;obtain ⟨Y,S,N,Z,J,u,L,Wi,m⟩:=h.inv.pick n;obtain ⟨i',W,Q,M⟩:=hΓ.yl _ _ _ _ q;simp only [NZ,X.ren,List.cons.injEq,X.yl.injEq] at Q;obtain ⟨rfl,rfl⟩:=Q;have j:=vG.1 A;obtain ⟨f,tmps,assign,body,B,F⟩:=M K Y w aQ l r S (m i (j i (by grind[cO,X.refs])) _ hi) (Ej hargs fun k hk=>m k (j k (by grind[cO])));refine ⟨f,tmps,assign,body,B,F.mono ?_⟩
   rintro e w' ⟨v,U,E,rfl,hp⟩
   obtain ⟨h1,h2⟩:=NM h Wi N J u L hp H;exact ⟨v,U,C++E,rfl,CLe.append _ _,h1,h2⟩
  grind
 grind
theorem qp {xs:List X}(h:(cO xs).isEmpty=true)(hz:z∈xs):z.refs=[]:=by simp_all[List.eq_nil_iff_forall_not_mem,eX]
def seen (w:World):Kn:=fun b o=>w.cell? ⟨b,o,none⟩
theorem mV {b o:Nat}:¬kQ [] [] b o:=by rintro ⟨i,c,B,h,_⟩<;>grind
theorem OM (hΓ:qE P R Γ)(h:Rel P R x K C σ a w)(hargs:dG K C args aQ)(hno:(cO args).isEmpty=true)(e:Γ.aC g args=some y)(hny:ou y=true):
  zfN P g/\Calls P g aQ w (H7 P R x C σ.tm σ.bx a y):=by
 unfold Gam.aC at e;split at e
 ·rename_i r V q;obtain ⟨N,M⟩:=hΓ.fn g _ _ _ _ q;have Y:Inv P R K [] [] w:=⟨h.inv.glob,h.inv.known,rfl,fun b o n=>(mV n).elim,fun i j c d A B b o _ Z=>by grind,fun i B c hB=>by grind⟩;refine ⟨N,(M K [] w aQ Y ⟨hargs.1,fun j z v e U=>(hargs.2 j z v e U).ou (qp hno (qam e))⟩).mono ?_⟩
  rintro U w' ⟨v,O,E,rfl,l⟩
  have W:aO nowhere w w':=l.frame.mono (fun b o _ n=>(mV n).elim)
  let K2:Kn:=fun b o=>match O b o with
   |some u=>some u
   |none=>if w.heap.size<=b then w'.cell? ⟨b,o,none⟩ else none
  have m:KLe O K2:=fun b o u e=>by grind
  have H:Rep K2 ([]++E) y v:=l.res.data l.inv m (.inl fun b o u n hu=>by
   simp only [K2];cases f:O b o with
   |some J=>have:=l.inv.known b o J f<;>grind
   |none=>rcases l.own b o n with h1|h1<;>grind[mV]) e
  have S:y.refs=[]:=by simpa [ou] using hny
  have F:∀(b o:Nat) (u:Value),K2 b o=some u->K b o=some u\/w.heap.size<=b:=by
   intro b o u f;simp only [K2] at f;split at f
   ·rename_i J Q;cases f;rcases l.knew b o _ Q with h1|h1|h1
    ·grind
    ·grind[mV]
    grind
   ·grind
  have L:=h.still W;refine ⟨v,K2,C,rfl,CLe.refl _,{L with inv:=?_,tm:=L.tm.mono (l.kle.trans m) (CLe.refl _),k0:=h.k0.trans (l.kle.trans m),knew:=?_},H.ou S⟩
  ·refine L.inv.know (l.kle.trans m) (fun b o u f=>?_) (fun b o n=>?_)
   ·simp only [K2] at f;split at f;next J Q=>cases f;exact l.inv.known b o _ Q
    grind
   cases f:K2 b o with
   |none=>rfl
   |some u=>
    rcases F b o u f with h1|h1;·rw [h.inv.apart b o n] at h1<;>grind
    have:=h.inv.qX n;omega
  intro b o u f;rcases F b o u f with h1|h1;·exact h.knew b o u h1
  exact .inr (.inr (Nat.le_trans h.frame.size h1))
 grind
theorem OO (hΓ:qE P R Γ)(h:Rel P R x K C σ a w)(hargs:dG (seen w) C args aQ)(hno:(cO args).isEmpty=true)(e:Γ.aC g args=some y)(hny:y.plain=true):
  zfN P g/\Calls P g aQ w (H7 P R x C σ.tm σ.bx a y):=by
 unfold Gam.aC at e;split at e
 ·rename_i r J f;obtain ⟨n,F⟩:=hΓ.fn g _ _ _ _ f;have M:Inv P R (seen w) [] [] w:=⟨h.inv.glob.mono (fun b o v e=>h.inv.known b o v e),fun b o v e=>e,rfl,fun b o q=>(mV q).elim,fun i j c d A B b o _ Q=>by grind,fun i B c S=>by grind⟩;refine ⟨n,(F (seen w) [] w aQ M ⟨hargs.1,fun j z v e H=>(hargs.2 j z v e H).ou (qp hno (qam e))⟩).mono ?_⟩
  rintro H w' ⟨v,O,E,rfl,m⟩
  have L:aO nowhere w w':=m.frame.mono (fun b o _ q=>(mV q).elim);have l:Rep (seen w') ([]++E) y v:=m.res.data m.inv (fun b o u e=>m.inv.known b o u e) (.inl fun b o u _ N=>N) e;exact ⟨v,K,C,rfl,CLe.refl _,h.still L,l.plain hny⟩
 grind
end
end Go.Em
