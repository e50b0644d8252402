/-.-/
import Derived.Orders
import Derived.Test.YtpcjeobkehmhpaaGreatDoorEmV2
set_option linter.all false
namespace Go.Em
section
variable {raw:Bool}
variable {P:Program} {R:aT} {x:Ctx} {K:Kn} {C:List CB} {σ:St} {a:Act} {w:World}
variable {o:Oper} {y:X} {bx:List Bx} {A:Ann} {Γ:Gam} {fp:FP}
def Upon (P:Program)(R:aT)(x:Ctx)(σ:St)(a:Act)(w:World)(o:Oper)(y:X)(bx:List Bx):Prop:=
 ∀(r:Option Nat) (next:Act->World->Prop) (Q:Exit->Act->World->Prop),
  (∀(K':Kn) (C':List CB) (v:Value) (w':World),Em.Rel P R x K' C' ⟨σ.tm,bx⟩ a w'->Rep K' C' y v->next (a.put o.dst v) w')->o.uponIn (Fr r) 0 P a next Q ((execOp a.eval o).run P w)
theorem dU.upon (h:dU P R x σ a w o y bx):Upon P R x σ a w o y bx:=by
 obtain ⟨n,q,B,v,u,l,A,j,f⟩:=h;intro r next Q m
 rw [l];rcases A with rfl|⟨rfl,rfl⟩;·exact m n q v u j f
 exact m n q undef u j f
theorem Hl {r:Option Nat}{n:Nat}{f:FuncId}{args:Array Value}{Q:Ending->World->Prop}(h:Calls P f args w Q):CallsIn (Fr r) n P f args w Q:=
 (callsIn_wide (n:=n)).2 h
theorem zp5 (args:Array Operand)(a:Act):(args.map a.eval).toList=args.toList.map a.eval:=by simp
theorem wV {K2:Kn}(hI:Inv P R K C σ.bx w)(hK:KLe K K2){args ds:List X}{aQ:Array Value}(h:dG K C args aQ)(e:eG σ.bx raw args=some ds)
  (hrow:(∀(b o:Nat) (u:Value),kQ C σ.bx b o->w.cell? ⟨b,o,none⟩=some u->K2 b o=some u)\/iW args=[]):dG K2 C ds aQ:=by
 obtain ⟨m,n⟩:=wW e;refine ⟨by rw [h.1,m],fun j z v a ev=>?_⟩;have y:=(qaj.1 a).1;obtain ⟨A,f,l⟩:=n j args[j] (qad (by omega));rw [a] at f;cases f;refine (h.2 j _ v (qad (by omega)) ev).data hI hK (hrow.imp_right fun q=>?_) l<;>simp_all[List.eq_nil_iff_forall_not_mem,wB]
theorem jV {as cs:List X}{va vc:Array Value}(h:dG K C as va)(h':dG K C cs vc):dG K C (as++cs) (va++vc):=by
 refine ⟨by simp [h.1,h'.1],fun j z v e a=>?_⟩;by_cases f:j<as.length;·rw [qao f] at e;rw [Array.getElem?_append_left (by rw [h.1]<;>grind)] at a;exact h.2 j z v e a
 rw [qax (by omega)] at e;rw [Array.getElem?_append_right (by rw [h.1];omega),h.1] at a;exact h'.2 _ z v e a
theorem ziv {f:Operand}{args:Array Operand}{tys:Array TypeId}{t1:TypeId}{f':Opd}{ts:List TypeId}{qs:List Opd}{own ref:Bool}{yf:X}{ys:List X}(hΓ:qE P R Γ)(h:Rel P R x K C σ a w)(ho:o.op=.call ⟨.value f,args,tys⟩)(hf:aX P R.gl t1 f=some f')
  (hq:iI P R.gl ts args.toList=some qs) (ef:σ.ev f'=some yf) (eq:evs σ qs=some ys) (e:uP Γ own ref raw yf ys σ.bx=some (y,bx,fp)):Upon P R x σ a w o y bx:=by
 have rf:=bC h.inv.glob h.tm hf ef;obtain ⟨q1,q2⟩:=JC h.inv.glob h.tm hq eq;have A:dG K C ys (args.map a.eval):=⟨by grind,fun j z v e e'=>q2 j z v e (by grind)⟩;have B:∀(g:FuncId) (all:Array Value) (Q':Ending->World->Prop),(execOp a.eval o).run P w=(callFunc g all).run P w->zfN P g->Calls P g all w Q'->(∀e w',Q' e w'->∃(v:Value) (K':Kn) (C':List CB),e=.returned v/\Em.Rel P R x K' C' ⟨σ.tm,bx⟩ a w'/\Rep K' C' y v)->Upon P R x σ a w o y bx:=by
  intro g all Q' q E O hQ r next Q hn
  rw [q,E all w];rw [Oper.uponIn_enter];refine ⟨fun hd=>by grind[Fr,Fence.wide],Hl (O.mono fun e w' hq=>?_)⟩;obtain ⟨v,K',C',rfl,Z,hp⟩:=hQ e w' hq;exact hn K' C' v w' Z hp
 generalize W:a.eval f=vf at rf;unfold uP at e;split at e
 ·grind
 rename_i as n;split at e
 ·
  rename_i g J;cases rf with
  |fn hs Z=>
   rename_i vs;have F:dG K C J vs:=⟨hs,Z⟩;have q:(execOp a.eval o).run P w=(callFunc g (args.map a.eval++vs)).run P w:=by simp [execOp,ho,resolve,Deferred.ofValue,W,invoke]
   split at e
   ·rename_i O;simp only [qab,Bool.not_eq_true'] at O;obtain ⟨⟨pf,pb⟩,S⟩:=O;rw [pb] at n;simp at n;split at e
    ·grind
    rename_i z hz;split at e
    ·rename_i m;simp only [qab] at m;simp at e;obtain ⟨rfl,rfl,_⟩:=e;by_cases L:iW ys=[];·have M:=jV (wV h.inv (KLe.refl K) A n (.inr L)) F;obtain ⟨E,Y⟩:=OM hΓ h M S hz m.1;exact B g _ _ q E Y fun e w' hq=>hq.step
     have pa:z.plain=true:=by
      rcases Bool.or_eq_true _ _▸m.2 with h1|h1
      ·grind
      ·grind
     have hK:KLe K (seen w):=fun b o v e=>h.inv.known b o v e;have M:=jV (wV h.inv hK A n (.inl fun b o u _ hu=>hu)) (⟨F.1,fun j z v e e'=>(F.2 j z v e e').mono hK (CLe.refl _)⟩:dG (seen w) C J vs);obtain ⟨E,Y⟩:=OO hΓ h M S hz pa;exact B g _ _ q E Y fun e w' hq=>hq.step
    grind
   split at e
   ·rename_i m;have M:dG K C as (args.map a.eval):=by
     cases N:ref with
     |true=>grind
     |false=>rw [N] at n m;simp at n;simp only [Bool.false_or] at m;exact wV h.inv (KLe.refl K) A n (.inr (List.isEmpty_iff.1 m))
    split at e
    ·grind
    rename_i z pe pc hz;simp at e;obtain ⟨rfl,rfl,_⟩:=e;obtain ⟨E,Y⟩:=Hq hΓ h (jV M F) hz;exact B g _ _ q E Y fun e w' hq=>hq.step
   grind
 ·
  rename_i i;cases rf with
  |yl O=>
   rename_i l;split at e
   ·rename_i m;have M:dG K C as (args.map a.eval):=by
     cases N:ref with
     |true=>grind
     |false=>rw [N] at n m;simp at n;simp only [Bool.false_or] at m;exact wV h.inv (KLe.refl K) A n (.inr (List.isEmpty_iff.1 m))
    split at e
    ·grind
    rename_i z pe pc hz;simp at e;obtain ⟨rfl,rfl,_⟩:=e;intro r next Q hn
    obtain ⟨f0,V,H,U,q,pd⟩:=WQ hΓ h O M hz r;have EI:(execOp a.eval o).run P w=.ok (.round l f0 V H U) w:=by simp [execOp,ho,resolve,Deferred.ofValue,W,invoke,q]
    rw [EI,Oper.uponIn_round];refine ⟨fun hd=>by grind[Fr,Fence.wide],pd.mono fun e w' hq=>?_⟩;obtain ⟨v,K',C',rfl,Z,hp⟩:=hq.step
    grind
   grind
 grind
end
section
variable {args:Array Operand}{i:I}{qs:List Opd}{l:List Operand}{sz:Nat}{p z':Opd}{z:Operand}{lo':Option Opd}{lo:Option Operand}
variable {P:Program} {R:aT} {x:Ctx} {K:Kn} {C:List CB} {σ:St} {a:Act} {w:World}
variable {o:Oper} {y:X} {bx:List Bx} {A:Ann} {Γ:Gam} {fp:FP}
theorem map_some {α β:Type}{f:α->β}{o:Option α}{b:β}(h:o.map f=some b):∃a,o=some a/\f a=b:=by intros;simp_all
theorem Fj {ts:List TypeId}{q:Opd}(h:iI P R.gl ts l=some [p,q]):∃a b t t',l=[a,b]/\aX P R.gl t a=some p/\aX P R.gl t' b=some q:=by
 cases l with
 |nil=>grind[iI]
 |cons a r=>
  simp only [iI] at h;cases y:aX P R.gl (hd0 ts) a with
  |none=>grind
  |some p'=>
   simp only [y] at h;obtain ⟨A,f,e⟩:=map_some h;cases e;cases r with
   |nil=>grind[iI]
   |cons b s=>
    simp only [iI] at f;cases m:aX P R.gl (hd0 ts.tail) b with
    |none=>grind
    |some q'=>
     simp only [m] at f;obtain ⟨n,j,e⟩:=map_some f;cases e;cases s with
     |nil=>grind
     |cons c u=>grind[iI,map_some]
theorem xu {ts:List TypeId}(h:iI P R.gl ts l=some [p]):∃a t,l=[a]/\aX P R.gl t a=some p:=by
 cases l with
 |nil=>grind[iI]
 |cons a r=>
  simp only [iI] at h;cases j:aX P R.gl (hd0 ts) a with
  |none=>grind
  |some p'=>
   simp only [j] at h;obtain ⟨n,f,e⟩:=map_some h;cases e;cases r with
   |nil=>grind
   |cons b s=>simp only [iI] at f;cases m:aX P R.gl (hd0 ts.tail) b<;>simp_all
theorem zc3 {tys:Array TypeId}(h:Rel P R x K C σ a w)(ho:o.op=.call ⟨.builtin .len,args,tys⟩)
  (htr:(match (tys[0]?).bind P.underlying,qs with|some (.slice _),[x]=>some (I.len x)|some .string,[x]=>some (.slen x)|some (.map _ _),[x]=>some (.ziC x)|_,_=>none)=some i) (hq:iI P R.gl tys.toList args.toList=some qs) (hs:aG Γ σ i=some (y,bx,fp)):Upon P R x σ a w o y bx:=by
 split at htr
 ·rename_i e q A;cases htr;obtain ⟨t,l,j⟩:=qaz.1 A;obtain ⟨p,H,u,m⟩:=xu hq;simp only [aG] at hs;split at hs;next es f=>cases hs;obtain ⟨L,E,B⟩:=YV (bC h.inv.glob h.tm m f) rfl;exact (dU.still h (lD ho u l j B (.inl ⟨_,_,_,rfl,rfl⟩)) (.v rfl)).upon
  next n f=>cases hs;obtain ⟨L,E,B⟩:=YV (bC h.inv.glob h.tm m f) rfl;exact (dU.still h (lD ho u l j B (.inl ⟨_,_,_,rfl,rfl⟩)) (.v rfl)).upon
  grind
 ·rename_i q A;cases htr;obtain ⟨t,l,j⟩:=qaz.1 A;obtain ⟨p,H,u,m⟩:=xu hq;simp only [aG] at hs;split at hs;next s f=>cases hs;exact (dU.still h (lD ho u l j (fH (bC h.inv.glob h.tm m f)) (.inr ⟨s,rfl,rfl,rfl⟩)) (.v rfl)).upon
  grind
 ·rename_i M e q A;cases htr;obtain ⟨t,l,j⟩:=qaz.1 A;obtain ⟨p,H,u,m⟩:=xu hq;have F:args=#[p]:=by rw [<-Array.toArray_toList (xs:=args),u]
  subst F;simp only [aG] at hs;split at hs
  ·rename_i i f;split at hs;next es J=>cases hs;exact (Zj h ho l j m f (.inl ⟨i,rfl,J⟩)).upon
   grind
  next f=>cases hs;exact (Zj (es:=[]) h ho l j m f (.inr ⟨rfl,rfl⟩)).upon
  grind
 grind
theorem Yc {isMax:Bool}{tys:Array TypeId}(h:Rel P R x K C σ a w)(ho:o.op=.call ⟨.builtin (if isMax then .max else .min),args,tys⟩)(hq:iI P R.gl tys.toList args.toList=some qs)
  (hs:aG Γ σ (.mm isMax qs)=some (y,bx,fp)):Upon P R x σ a w o y bx:=by
 simp only [aG] at hs;split at hs;next m r f=>obtain ⟨z,hz,e⟩:=map_some hs;cases e;exact (zqT h ho hq f hz).upon
 grind
theorem zc4 {tys:Array TypeId}(h:Rel P R x K C σ a w)(ho:o.op=.call ⟨.builtin .append,args,tys⟩){own:Bool}
  (htr:(match (tys[0]?).bind P.underlying,(tys[1]?).bind P.underlying,qs with
    |some (.slice e),some (.slice _),[s,x]=>match eP P e,uj P e,oP P e with
     |some n,some (b+1),some _=>some (I.app own n (b+1) s x)
     |_,_,_=>none
    |_,_,_=>none)=some i) (hq:iI P R.gl tys.toList args.toList=some qs) (hs:aG Γ σ i=some (y,bx,fp)):Upon P R x σ a w o y bx:=by
 split at htr
 ·rename_i e e1 s z Q S;split at htr
  ·rename_i n b zr W V hz;cases htr;obtain ⟨t0,B,H⟩:=qaz.1 Q;obtain ⟨t1,A,J⟩:=qaz.1 S;obtain ⟨p,q,tp,tq,U,Y,E⟩:=Fj hq;simp only [aG] at hs;split at hs
   ·rename_i ys yz evs L;split at hs
    ·grind
    rename_i N pa l;split at hs
    ·grind
    rename_i m;have m:N=n:=by simpa using m
    subst m;split at hs
    ·rename_i O Z;split at hs
     ·rename_i u;simp only [qab,qaQ] at u;obtain ⟨rfl,f⟩:=u;obtain ⟨k1,k2,k3⟩:=Zm h ho U B A H J W V hz (by omega) Y E evs L l f;split at hs
      ·split at hs;next j=>cases hs;exact (k1 (List.isEmpty_iff.1 j)).upon
       rename_i j;cases hs;exact (k3 (fun e=>j (by grind))).upon
      cases hs;exact k2.upon
     grind
    ·rename_i ib pb len;split at hs
     ·rename_i O Z M;split at hs;next u=>simp only [qab,qaQ] at u;obtain ⟨⟨⟨rfl,F⟩,f⟩,_⟩:=u;cases hs;exact (Zn h ho U B A H J W V hz (by omega) Y E evs L l M F f).upon
      grind
     grind
    grind
   grind
  grind
 grind
theorem Fz {arr:Option Nat}{t t1 t2 e:TypeId}{iz:Operand}{i':Opd}(h:Rel P R x K C σ a w)(ho:o.op=.indexAddr t z iz)(hu:(arr=none/\P.underlying t=some (.slice e))\/(∃m,arr=some m/\P.underlying t=some (.array m e)))(hs:eP P e=some sz)
  (hz:aX P R.gl t1 z=some z') (hi:aX P R.gl t2 iz=some i') (hst:aG Γ σ (.yu arr sz z' i')=some (y,bx,fp)):Upon P R x σ a w o y bx:=by
 simp only [aG] at hst;split at hst
 ·rename_i Y n q F;obtain ⟨Q,u,A⟩:=qaz.1 F;split at hst
  ·rename_i V s H;split at hst
   ·rename_i j;have j:s=sz:=by simpa using j
    subst j;obtain ⟨O,M,E⟩:=map_some hst;simp only [qaI] at E;obtain ⟨rfl,rfl,_⟩:=E;rcases hu with ⟨_,hu⟩|⟨m,l,_⟩;·exact (OY h ho hu hs hz hi q u A M).upon
    grind
   grind
  ·rename_i W L len;split at hst
   ·rename_i s H J;split at hst
    ·rename_i B;simp only [qab,qaQ,qaF] at B;obtain ⟨rfl,f⟩:=B;cases hst;rcases hu with ⟨_,hu⟩|⟨m,l,_⟩;·exact (OZ h ho hu hs hz hi q u A J f).upon
     grind
    grind
   grind
  ·rename_i len N Z S;split at hst
   ·rename_i f;cases hst;rcases hu with ⟨l,_⟩|⟨m,l,hu⟩
    ·grind
    cases l;exact (zh h ho hu hs hz hi q u A f rfl).upon
   grind
  ·rename_i len U;split at hst
   ·rename_i f;cases hst;rcases hu with ⟨l,_⟩|⟨m,l,hu⟩
    ·grind
    cases l;exact (zh h ho hu hs hz hi q u A f rfl).upon
   grind
  grind
 grind
theorem UG {t t1 e:TypeId}{hi mx:Option Operand}{hi' mx':Option Opd}(h:Rel P R x K C σ a w)(ho:o.op=.slice t z lo hi mx)(hu:P.underlying t=some (.slice e))(hs:eP P e=some sz)
  (hz:aX P R.gl t1 z=some z') (hlo:lq P R.gl lo=some lo') (hhi:lq P R.gl hi=some hi') (hmx:lq P R.gl mx=some mx') (hor:mx=none\/hi.isSome=true) (hst:aG Γ σ (.slice sz z' lo' hi' mx')=some (y,bx,fp)):Upon P R x σ a w o y bx:=by
 simp only [aG] at hst;split at hst
 ·rename_i W s L u;split at hst
  ·rename_i l J el A;split at hst
   ·rename_i j;simp only [qab,qaQ,qaF] at j;obtain ⟨⟨rfl,M⟩,N⟩:=j;cases mx with
    |none=>simp only [lq,qaf] at hmx;subst hmx;cases hst;exact (Cc h ho hu hs hz hlo hhi rfl u el A M N _ (.inl ⟨rfl,rfl⟩)).upon
    |some m=>
     have B:=hmx;simp only [lq] at hmx;obtain ⟨Y,O,rfl⟩:=map_some hmx;simp only at hst;split at hst
     ·rename_i Q S;split at hst
      ·rename_i f;have f:J=Q:=by simpa using f
       subst f;cases hst;have q:hi.isSome=true:=by rcases hor with F|F;cases F;exact F
       refine (Cc h ho hu hs hz hlo hhi B u el A M N true (.inr ⟨m,rfl,q,?_,rfl⟩)).upon;exact lH h.inv.glob h.tm B S
      grind
     grind
   grind
  grind
 ·rename_i i V len u;split at hst
  ·rename_i l J el A;have E:mx=none:=by
    cases mx with
    |none=>rfl
    |some m=>simp_all[lq]
   subst E;split at hst
   ·rename_i j;simp only [qab,qaF] at j;split at hst
    ·rename_i f;have f:l=J:=by simpa using f
     cases hst;exact (Ce h ho hu hs hz hlo hhi u el A j.1 j.2 (.inl ⟨f,rfl⟩)).upon
    rename_i H;split at hst
    ·rename_i s L U;split at hst
     ·rename_i n;have n:s=sz:=by simpa using n
      subst n;cases hst;exact (Ce h ho hu hs hz hlo hhi u el A j.1 j.2 (.inr ⟨fun e=>H (by grind),⟨L,U⟩,rfl⟩)).upon
     grind
    grind
   grind
  grind
 grind
theorem Fh (h:lq P R.gl lo=some lo'):lo'.isSome=lo.isSome:=by
 cases lo with
 |none=>grind[lq]
 |some p=>simp only [lq] at h;obtain ⟨q,_,rfl⟩:=map_some h;rfl
set_option maxHeartbeats 1600000 in
theorem Om (hΓ:qE P R Γ)(h:Rel P R x K C σ a w)(htr:zl4 P R.gl A o=some i)(hs:aG Γ σ i=some (y,bx,fp)):Upon P R x σ a w o y bx:=by
 unfold zl4 at htr;split at htr;next z B=>obtain ⟨q,H,rfl⟩:=map_some htr;simp only [aG] at hs;obtain ⟨v,J,e⟩:=map_some hs;cases e;exact (zgh h (.inl B) H J).upon
 next z B=>obtain ⟨q,H,rfl⟩:=map_some htr;simp only [aG] at hs;obtain ⟨v,J,e⟩:=map_some hs;cases e;exact (zgh h (.inr B) H J).upon
 ·rename_i c p q B;split at htr
  ·rename_i c' p' q' M L H;cases htr;simp only [aG] at hs;split at hs;next t y1 y2 F O e3=>cases hs;exact (zio h B M L H F O e3).upon
   grind
  grind
 next e B=>obtain ⟨l,hl,rfl⟩:=map_some htr;simp only [aG,qaf,qaI] at hs;obtain ⟨rfl,rfl,_⟩:=hs;exact (zdH h B hl).upon
 ·rename_i t z B;obtain ⟨q,H,rfl⟩:=map_some htr;simp only [aG] at hs;split at hs
  ·grind
  rename_i v J;split at hs;next h1=>cases hs;exact (znI h B H J h1).upon
  grind
 ·rename_i t pe B;split at htr
  ·rename_i fs z E hz;split at htr
   ·rename_i pj;obtain ⟨qs,H,rfl⟩:=map_some htr;simp only [aG] at hs;split at hs
    ·grind
    rename_i ps L;obtain ⟨cs,Q,e⟩:=map_some hs;cases e;exact (Ci h B E hz pj H L Q).upon
   grind
  ·rename_i m e z E hz;obtain ⟨n,N,htr⟩:=qaz.1 htr;obtain ⟨qs,H,rfl⟩:=map_some htr;simp only [aG] at hs;split at hs
   ·grind
   rename_i ps L;obtain ⟨cs,Q,e⟩:=map_some hs;cases e;exact (LZ h B E hz N H L Q).upon
  grind
 ·rename_i t len pe B;split at htr
  ·rename_i e E;split at htr
   ·rename_i z qi hz H;split at htr
    ·rename_i hl;cases htr;simp only [aG] at hs;split at hs
     ·grind
     rename_i ps L;split at hs
     ·rename_i pb;have pb:len=ps.length:=by simpa using pb
      obtain ⟨es,Q,e⟩:=map_some hs;cases e;exact (Zl h B E hz hl H L pb Q).upon
     grind
    grind
   grind
  grind
 ·rename_i t z B;split at htr
  ·rename_i n q N H;cases htr;simp only [aG] at hs;split at hs
   ·grind
   rename_i p L;obtain ⟨v,J,e⟩:=map_some hs;cases e;exact (zis h B N H L J).upon
  grind
 ·rename_i t p z B;split at htr
  ·rename_i n p' z' N L hz;cases htr;simp only [aG] at hs;split at hs;next yp yz F O=>obtain ⟨qk,V,e⟩:=map_some hs;cases e;exact (zdD h B N L hz F O V).upon
   grind
  grind
 ·rename_i z B;obtain ⟨q,H,rfl⟩:=map_some htr;simp only [aG] at hs;split at hs<;>first
   |(rename_i J
     cases hs;exact (zdE h B H J rfl).upon)
   |grind
 ·rename_i op t p q u B;split at htr
  ·rename_i p' q' L H;split at htr
   ·rename_i E;cases htr;simp only [aG] at hs;split at hs;next m n F O=>cases hs;have:=zgk h B E (.inl rfl) L H F O;simpa using this.upon
    grind
   ·rename_i E;cases htr;simp only [aG] at hs;split at hs;next m n F O=>cases hs;have:=zgk h B E (.inr rfl) L H F O;simpa using this.upon
    grind
   ·rename_i e E;split at htr
    ·cases htr;simp only [aG] at hs;split at hs<;>first
      |(rename_i J
        cases hs;have:=Zh h B E (.inl rfl) rfl L J rfl;simpa using this.upon)
      |grind
    grind
   ·rename_i e E;split at htr
    ·cases htr;simp only [aG] at hs;split at hs<;>first
      |(rename_i J
        cases hs;have:=Zh h B E (.inr rfl) rfl L J rfl;simpa using this.upon)
      |grind
    grind
   ·rename_i ms E;split at htr
    ·cases htr;simp only [aG] at hs;split at hs;next F=>cases hs;exact (IY (neg:=false) h B rfl E L F (.inl ⟨rfl,rfl⟩)).upon
     next F=>cases hs;exact (IY (neg:=false) h B rfl E L F (.inr ⟨rfl,rfl⟩)).upon
     grind
    grind
   ·rename_i ms E;split at htr
    ·cases htr;simp only [aG] at hs;split at hs;next F=>cases hs;exact (IY (neg:=true) h B rfl E L F (.inl ⟨rfl,rfl⟩)).upon
     next F=>cases hs;exact (IY (neg:=true) h B rfl E L F (.inr ⟨rfl,rfl⟩)).upon
     grind
    grind
   ·cases htr;simp only [aG] at hs;split at hs;next m n F O=>obtain ⟨z,hz,e⟩:=map_some hs;cases e;exact (zgj h B L H F O hz).upon
    grind
   ·cases htr;simp only [aG] at hs;split at hs;next m n F O=>obtain ⟨z,hz,e⟩:=map_some hs;cases e;exact (zgj h B L H F O hz).upon
    grind
   ·obtain ⟨ks,Q,rfl⟩:=map_some htr;simp only [aG] at hs;split at hs;next m n F O=>obtain ⟨z,hz,e⟩:=map_some hs;cases e;have:=zgi h B Q (.inl rfl) L H F O hz;simpa using this.upon
    grind
   ·obtain ⟨ks,Q,rfl⟩:=map_some htr;simp only [aG] at hs;split at hs;next m n F O=>obtain ⟨z,hz,e⟩:=map_some hs;cases e;have:=zgi h B Q (.inr rfl) L H F O hz;simpa using this.upon
    grind
   grind
  grind
 ·rename_i op t z B;obtain ⟨q,H,rfl⟩:=map_some htr;simp only [aG] at hs;split at hs;next m F=>obtain ⟨u,E,e⟩:=map_some hs;cases e;exact (zqS h B H F E).upon
  grind
 ·rename_i s d z B;split at htr
  ·rename_i ks k q pa W H;cases htr;simp only [aG] at hs;split at hs;next k' n F=>cases hs;exact (ziu h B pa W H F).upon
   grind
  ·rename_i q pa W H;cases htr;simp only [aG] at hs;split at hs;next b F=>cases hs;exact (znH h B pa W H F).upon
   grind
  ·rename_i e q pa W H;split at htr
   ·rename_i pz;cases htr;simp only [aG] at hs;split at hs;next b F=>cases hs;exact (znG h B pa W pz H F).upon
    grind
   grind
  grind
 ·rename_i t B;split at htr;next kt e E=>cases htr;simp only [aG,qaf,qaI] at hs;obtain ⟨rfl,rfl,_⟩:=hs;exact (zdF h B E).upon
  grind
 ·rename_i t m k v B;split at htr
  ·rename_i kt e m' E hm;split at htr
   ·rename_i k' v' kk hk J U;cases htr;simp only [aG] at hs;split at hs
    ·rename_i i kv y1 em ek ev;split at hs
     ·rename_i es V;split at hs;next M=>simp only [qab] at M;obtain ⟨pu,L,F⟩:=map_some hs;cases F;exact (Zi h (.inl B) E U hm hk J em ek ev V M.1.1 M.1.2 M.2 L).upon
      grind
     grind
    grind
   grind
  grind
 ·rename_i t m k v B;split at htr
  ·rename_i kt e m' E hm;split at htr
   ·rename_i k' v' kk hk J U;cases htr;simp only [aG] at hs;split at hs
    ·rename_i i kv y1 em ek ev;split at hs
     ·rename_i es V;split at hs;next M=>simp only [qab] at M;obtain ⟨pu,L,F⟩:=map_some hs;cases F;exact (Zi h (.inr B) E U hm hk J em ek ev V M.1.1 M.1.2 M.2 L).upon
      grind
     grind
    grind
   grind
  grind
 ·rename_i t m k ok B;split at htr
  ·rename_i kt e m' E hm;split at htr
   ·rename_i k' z kk hk hz U;cases htr;simp only [aG] at hs;split at hs
    ·rename_i i kv em ek;split at hs
     ·rename_i es V;split at hs;next M=>obtain ⟨y1,hg,F⟩:=map_some hs;cases F;exact (Zk h B E U hz hm hk em ek (.inl ⟨i,rfl,V⟩) M hg).upon
      grind
     grind
    ·rename_i kv em ek;split at hs;next M=>obtain ⟨y1,hg,F⟩:=map_some hs;cases F;exact (Zk h B E U hz hm hk em ek (.inr ⟨rfl,rfl⟩) M hg).upon
     grind
    grind
   grind
  grind
 ·rename_i t z B;split at htr
  ·grind
  next d q hd E H=>cases htr;simp only [aG] at hs;obtain ⟨v,J,F⟩:=map_some hs;cases F;exact (zdG h B E (fun ms e=>hd ms (by grind)) H J).upon
  grind
 next f first qe B=>
  split at htr;next Q=>obtain ⟨qs,H,rfl⟩:=map_some htr;simp only [aG] at hs;obtain ⟨cs,M,e⟩:=map_some hs;cases e;exact (zir h B Q H M).upon
  grind
 ·rename_i t l c B;split at htr
  ·rename_i e E;split at htr
   ·rename_i z b l' c' hz V hl M;cases htr;simp only [aG] at hs;split at hs
    ·rename_i n m F O;obtain ⟨yl,el,nl⟩:=qaz.1 F;obtain ⟨yc,ec,nc⟩:=qaz.1 O;split at hs;next Z=>simp only [qab,qaF] at Z;cases hs;exact (ziq h B E hz V hl M el ec nl nc Z.1 Z.2).upon
     grind
    grind
   grind
  grind
 ·rename_i t z lo hi mx B;split at htr
  ·rename_i z' py pn E hz pf pg ph;cases htr;have qa:mx=none:=by
    cases mx with
    |none=>rfl
    |some m=>simp_all[lq]
   subst qa;simp only [aG] at hs;split at hs
   ·rename_i s es;split at hs
    ·rename_i l hh el eh;split at hs;next M=>simp only [qab,qaF] at M;cases hs;exact (Zg h B E hz pf pg es el eh M.1 M.2).upon
     grind
    grind
   grind
  ·rename_i e z' py pn qr E hz pf pg ph;split at htr
   ·rename_i pi;obtain ⟨n,N,rfl⟩:=map_some htr;refine UG h B E N hz pf pg ph ?_ hs;rw [Bool.or_eq_true] at pi;rcases pi with h1|h1;·left;have:=Fh ph<;>simp_all
    grind[Fh]
   grind
  grind
 ·rename_i t z f B;split at htr
  ·rename_i fs E;split at htr
   ·rename_i fd q Q H;split at htr
    ·rename_i n N;cases htr;simp only [aG] at hs;split at hs;next i e k J=>cases hs;exact (RY h B E Q N H J rfl).upon
     next cs J=>cases hs;exact (RY h B E Q N H J rfl).upon
     grind
    grind
   grind
  grind
 ·rename_i t z f B;split at htr
  ·rename_i fs E;split at htr
   ·rename_i fd q Q H;obtain ⟨n,N,rfl⟩:=map_some htr;simp only [aG] at hs;split at hs
    ·rename_i cs J;cases n with
     |none=>simp only at hs;obtain ⟨v,Y,e⟩:=map_some hs;cases e;exact (RX h B E Q rfl N H J Y).upon
     |some n=>
      simp only at hs;split at hs;next hl=>cases hs;exact (RX h B E Q rfl N H J (by grind)).upon
      grind
    grind
   grind
  grind
 ·rename_i t z i B;split at htr;next e z' i' E hz hi=>obtain ⟨n,N,rfl⟩:=map_some htr;exact Fz h B (.inl ⟨rfl,E⟩) N hz hi hs
  next m e z' i' E hz hi=>obtain ⟨n,N,rfl⟩:=map_some htr;exact Fz h B (.inr ⟨m,rfl,E⟩) N hz hi hs
  grind
 ·rename_i t z i B;split at htr
  ·rename_i m e z' i' E hz hi;split at htr
   ·rename_i n r N hr;cases htr;simp only [aG] at hs;split at hs
    ·rename_i cs j J hj;obtain ⟨yi,ei,pc⟩:=qaz.1 hj;split at hs
     ·rename_i pl;cases r with
      |none=>simp only at hs;obtain ⟨v,Y,e⟩:=map_some hs;cases e;exact (Zo h B E N hr hz hi J ei pc pl Y).upon
      |some k=>
       simp only at hs;split at hs;next hl=>cases hs;exact (Zo h B E N hr hz hi J ei pc pl (by grind)).upon
       grind
     grind
    grind
   grind
  ·rename_i z' i' E hz hi;cases htr;simp only [aG] at hs;split at hs
   ·rename_i s n J hj;obtain ⟨yi,ei,pc⟩:=qaz.1 hj;split at hs;next b V=>cases hs;exact (zin h B E hz hi J ei pc V).upon
    grind
   grind
  grind
 ·rename_i z i B;obtain ⟨q,H,rfl⟩:=map_some htr;simp only [aG] at hs;split at hs;next xs J=>obtain ⟨v,Y,e⟩:=map_some hs;cases e;exact (Vz h B H J Y).upon
  grind
 ·rename_i c B;split at htr
  ·grind
  rename_i qb S;obtain ⟨qt,aQ,tys⟩:=c;dsimp only at htr S;split at htr
  ·rename_i f;obtain ⟨f',Q,rfl⟩:=map_some htr
   grind[aG,ziv]
  ·grind[zc3]
  ·split at htr
   ·rename_i e qd qs E;obtain ⟨n,N,rfl⟩:=map_some htr;obtain ⟨t0,po,pt⟩:=qaz.1 E;simp only [aG] at hs;split at hs
    ·rename_i i qn len y1 F O;split at hs
     ·rename_i qq es qf qm V pk;split at hs;next M=>cases hs;simp only [qab,qaQ,qaF] at M;obtain ⟨⟨px,pw⟩,pp⟩:=M;subst px;subst pw;obtain ⟨pd,ps,ta,tb,hl,pv,pr⟩:=Fj S;exact (zit h B hl po pt N pv pr F O pk V pp).upon
      grind
     grind
    grind
   grind
  ·grind[Yc]
  ·grind[Yc]
  ·exact zc4 h B htr S hs
  grind
 grind
end
section
variable {ops:Array Oper}{md:Region.Mode}
variable {P:Program} {R:aT} {x:Ctx} {K:Kn} {C:List CB} {σ:St} {a:Act} {w:World}
variable {A:Ann} {Γ:Gam}
def zgS (md:Region.Mode)(ops:Array Oper)(acc M:List Nat):Prop:=
 (acc++M).Nodup/\(∀i,i∈M->i<ops.size)/\∀(M1 M2:List Nat) (j:Nat),M=M1++j::M2->∀(e:Edge),e∈(ops.getD j default).after.toList->Region.binds md e=true->e.on∈acc\/e.on∈M1
theorem LG {listed:Array Bool}{acc:List Nat}(hs:listed.size=ops.size)(hl:∀i,i<ops.size->(listed.getD i true=true↔i∈acc))(hf:∀i,ops.size<=i->listed.getD i false=false){i:Nat}:
  i∈Region.ready md ops listed↔i<ops.size/\i∉acc/\∀(e:Edge),e∈(ops.getD i default).after.toList->Region.binds md e=true->e.on∈acc/\e.on<ops.size:=by
 have n:∀j,listed.getD j false=true↔j∈acc/\j<ops.size:=by
  intro j;by_cases y:j<ops.size
  ·grind
  ·grind
 simp only [Region.ready,List.mem_filter,List.mem_range,qab,Bool.not_eq_true'];constructor
 ·rintro ⟨f,m,a⟩
  have h:ops[i]?=some (ops.getD i default):=by simp [Array.getD,f]
  rw [h] at a;simp only [qan,Option.getD_some] at a;refine ⟨f,(fun q=>by grind),fun e l u=>?_⟩;have:=(Array.all_eq_true_iff_forall_mem.1 a) e (by simpa using l)<;>simp_all
 rintro ⟨f,m,a⟩
 have h:ops[i]?=some (ops.getD i default):=by simp [Array.getD,f]
 grind
theorem EC :∀(fuel t:Nat) (listed:Array Bool) (acc:List Nat),listed.size=ops.size->(∀i,i<ops.size->(listed.getD i true=true↔i∈acc))->acc.Nodup->(∀i,i∈acc->i<ops.size)->
  zgS md ops acc (Region.linearise.go md ops fuel t listed [])/\
   ((Region.linearise.go md ops fuel t listed []).length=fuel\/∃acc':List Nat,(∀i,i∈acc'↔i∈acc\/i∈Region.linearise.go md ops fuel t listed [])/\∀i,i<ops.size->i∉acc'->∃e:Edge,e∈(ops.getD i default).after.toList/\Region.binds md e=true/\¬(e.on∈acc'/\e.on<ops.size)):=by
 intro fuel;induction fuel with
 |zero=>intro t listed acc h E O L;simp only [Region.linearise.go,List.reverse_nil];exact ⟨⟨by grind,by simp,fun y B j e=>by simp_all⟩,.inl rfl⟩
 |succ fuel ih=>
  intro t listed acc h E O L;have M:∀i,ops.size<=i->listed.getD i false=false:=by intro i J;simp [Array.getD,h,Nat.not_lt.2 J]
  simp only [Region.linearise.go];change zgS md ops acc (match (Region.ready md ops listed)[t%(Region.ready md ops listed).length]? with
   |some i=>Region.linearise.go md ops fuel (t /(Region.ready md ops listed).length) (listed.setIfInBounds i true) [i]
   |none=>[].reverse)/\((match (Region.ready md ops listed)[t%(Region.ready md ops listed).length]? with
   |some i=>Region.linearise.go md ops fuel (t /(Region.ready md ops listed).length) (listed.setIfInBounds i true) [i]
   |none=>[].reverse).length=fuel+1\/∃acc':List Nat,(∀i,i∈acc'↔i∈acc\/i∈(match (Region.ready md ops listed)[t%(Region.ready md ops listed).length]? with
   |some i=>Region.linearise.go md ops fuel (t /(Region.ready md ops listed).length) (listed.setIfInBounds i true) [i]
   |none=>[].reverse))/\∀i,i<ops.size->i∉acc'->∃e:Edge,e∈(ops.getD i default).after.toList/\Region.binds md e=true/\¬(e.on∈acc'/\e.on<ops.size))
  cases J:(Region.ready md ops listed)[t%(Region.ready md ops listed).length]? with
  |none=>
   simp only [List.reverse_nil];have n:Region.ready md ops listed=[]:=by
    cases hr:Region.ready md ops listed with
    |nil=>rfl
    |cons u us=>grind[Nat.mod_lt]
   refine ⟨⟨by grind,by simp,fun y B j e=>by grind⟩,.inr ⟨acc,by simp,fun i f q=>?_⟩⟩;have H:i∉Region.ready md ops listed:=by rw [n];simp
   rw [LG h E M] at H
   grind
  |some i=>
   simp only [];rw [linearise_go_acc,List.reverse_singleton,List.singleton_append];obtain ⟨Z,Y,W⟩:=(LG h E M).1 (qam J);have F:∀j,j<ops.size->((listed.setIfInBounds i true).getD j true=true↔j∈i::acc):=by
    intro j l;by_cases A:j=i;·subst A;simp [Array.getD,h,l]
    have:(listed.setIfInBounds i true).getD j true=listed.getD j true:=by simp only [Array.size_setIfInBounds,h,l,dif_pos];have:=Array.getElem?_setIfInBounds_ne (xs:=listed) (a:=true) (i:=i) (j:=j) (fun e=>A e.symm);simpa [h,l] using this
    grind
   obtain ⟨⟨Q,U,S⟩,V⟩:=ih (t /(Region.ready md ops listed).length) (listed.setIfInBounds i true) (i::acc) (by grind) F (List.nodup_cons.2 ⟨Y,O⟩) (by grind);refine ⟨⟨?_,?_,?_⟩,?_⟩;·rw [List.cons_append,List.nodup_cons] at Q;have hp:(acc++i::Region.linearise.go md ops fuel (t /(Region.ready md ops listed).length) (listed.setIfInBounds i true) []).Perm (i::(acc++Region.linearise.go md ops fuel (t /(Region.ready md ops listed).length) (listed.setIfInBounds i true) [])):=List.perm_middle;exact hp.nodup_iff.2 (List.nodup_cons.2 Q)
   ·intro j l;rcases qak.1 l with rfl|l;exact Z;exact U j l
   ·intro y B j e P m N;cases y with
    |nil=>simp at e;rw [<-e.1] at m;exact .inl (W P m N).1
    |cons u y=>
     simp at e;rcases S y B j e.2 P m N with f|f
     ·rcases qak.1 f with q|q;·right;rw [q,e.1];simp
      grind
     right;simp [f]
   rcases V with f|⟨acc',f,q⟩;·left;simp [f]
   right;refine ⟨acc',fun j=>?_,q⟩;rw [f j];simp;constructor
   ·grind
   grind
theorem Gl {n:Nat}{l:List Nat}(hn:l.Nodup)(hlt:∀i,i∈l->i<n)(hl:l.length=n):∀i,i<n->i∈l:=by
 intro i q;have a:∀j,j∈l->j∈List.range n:=fun j f=>List.mem_range.2 (hlt j f);rcases Classical.em (i∈l) with h|h;·exact h
 have m:=List.nodup_cons.2 ⟨h,hn⟩;have u:∀j,j∈i::l->j∈List.range n:=by intro j f;rcases qak.1 f with rfl|f;exact List.mem_range.2 q;exact a j f
 have:=List.Nodup.length_le_of_subset m u<;>grind
structure Order (ops:Array Oper) (L:List Nat):Prop where
 nodup:L.Nodup
 all:∀i,i∈L↔i<ops.size
 follows:∀(L1 L2:List Nat) (j:Nat),L=L1++j::L2->∀i,zff (ops.getD j default) i=true->i∈L1
theorem CO (h0:(Region.linearise md ops 0).length=ops.size)(t:Nat):Order ops (Region.linearise md ops t):=by
 have B:∀i,i<ops.size->((Array.replicate ops.size false).getD i true=true↔i∈([]:List Nat)):=by intro i m;simp [Array.getD,m]
 have F:=fun t=>EC (md:=md) (ops:=ops) ops.size t (Array.replicate ops.size false) [] (by simp) B (by simp) (by simp);have e:∀t,Region.linearise md ops t=Region.linearise.go md ops ops.size t (Array.replicate ops.size false) []:=fun _=>rfl;rw [e] at h0;obtain ⟨⟨k1,N,Y⟩,_⟩:=F 0;have h:=Gl (by grind) N h0;obtain ⟨⟨g1,P,Z⟩,g4⟩:=F t;rw [e];have E:(Region.linearise.go md ops ops.size t (Array.replicate ops.size false) []).length=ops.size:=by
  rcases g4 with V|⟨a,V,M⟩
  ·grind
  ·
   rcases Classical.em (∀i,i<ops.size->i∈a) with hA|hA
   ·have y:∀i,i<ops.size->i∈Region.linearise.go md ops ops.size t (Array.replicate ops.size false) []:=fun i m=>by grind
    have h5:(Region.linearise.go md ops ops.size t (Array.replicate ops.size false) []).length<=ops.size:=by have:=List.Nodup.length_le_of_subset (by grind) (fun j A=>List.mem_range.2 (P j A));simpa using this
    have h6:ops.size<=(Region.linearise.go md ops ops.size t (Array.replicate ops.size false) []).length:=by have:=List.Nodup.length_le_of_subset (List.nodup_range (n:=ops.size)) (fun j A=>y j (List.mem_range.1 A));simpa using this
    omega
   exfalso;have S:∃L1 j L2,Region.linearise.go md ops ops.size 0 (Array.replicate ops.size false) []=L1++j::L2/\j∉a/\∀i,i∈L1->i∈a:=by
    have f:∃i,i∈Region.linearise.go md ops ops.size 0 (Array.replicate ops.size false) []/\i∉a:=by simp only [Classical.not_forall] at hA;obtain ⟨i,m,q⟩:=hA;exact ⟨i,h i m,q⟩
    generalize Region.linearise.go md ops ops.size 0 (Array.replicate ops.size false) []=L at f;clear k1 N Y h h0;induction L with
    |nil=>grind
    |cons u us ih=>
     by_cases hu:u∈a
     ·obtain ⟨i,m,q⟩:=f;rcases qak.1 m with rfl|m
      ·grind
      obtain ⟨L1,j,L2,O,U,W⟩:=ih ⟨i,m,q⟩;exact ⟨u::L1,j,L2,by grind,U,fun k hk=>by grind⟩
     exact ⟨[],u,us,rfl,hu,by simp⟩
   obtain ⟨L1,j,L2,O,U,W⟩:=S;have A:=N j (by rw [O];simp);obtain ⟨J,l,Q,hx⟩:=M j A U;rcases Y L1 L2 j O J l Q with h3|h3;·simp at h3
   exact hx ⟨W _ h3,N _ (by rw [O];simp [h3])⟩
 have H:=Gl (by grind) P E;refine ⟨by grind,fun i=>⟨P i,H i⟩,fun L1 L2 j e i l=>?_⟩;simp only [zff,List.any_eq_true,qab,qaQ] at l;obtain ⟨J,V,M,rfl⟩:=l;have Q:Region.binds md J=true:=by unfold Region.binds at M ⊢;split at M<;>simp_all
 rcases Z L1 L2 j e J V Q with h3|h3
 ·grind
 grind
theorem Es (h:JF ops=true)(mixed:Bool)(t:Nat):Order ops (Region.schedule mixed ops t):=by
 simp [JF] at h
 grind[Region.schedule,CO]
end
section
variable {tm tm':List (Nat×X)}{b b':List Bx}{l:List Opd}{p:X}
variable {P:Program} {R:aT} {x:Ctx} {K:Kn} {C:List CB} {σ:St} {a:Act} {w:World}
variable {A:Ann} {Γ:Gam}
theorem DI (tm:List (Nat×X))(b b':List Bx)(q:Opd):St.ev ⟨tm,b⟩ q=St.ev ⟨tm,b'⟩ q:=by cases q<;>rfl
theorem TN (tm:List (Nat×X))(b b':List Bx):∀l,evs ⟨tm,b⟩ l=evs ⟨tm,b'⟩ l
 |[]=>rfl
 |q::r=>by simp only [evs,DI tm b b' q,TN tm b b' r]
theorem LM (tm:List (Nat×X))(b b':List Bx):∀l,kN ⟨tm,b⟩ l=kN ⟨tm,b'⟩ l
 |[]=>rfl
 |(i,j,q)::r=>by simp only [kN,DI tm b b' q,LM tm b b' r]
theorem LQ (tm:List (Nat×X))(b b':List Bx):∀l,lF ⟨tm,b⟩ l=lF ⟨tm,b'⟩ l
 |[]=>rfl
 |(i,q)::r=>by simp only [lF,DI tm b b' q,LQ tm b b' r]
theorem wu (tm:List (Nat×X))(b b':List Bx)(d:Nat)(l:Option Opd):dR ⟨tm,b⟩ d l=dR ⟨tm,b'⟩ d l:=by
 cases l<;>simp only [dR]<;>grind[DI]
def Eo (tm tm':List (Nat×X))(l:List Opd):Prop:=∀n,Opd.t n∈l->lk tm n=lk tm' n
theorem gq (h:Eo tm tm' l){q:Opd}(hq:q∈l):St.ev ⟨tm,b⟩ q=St.ev ⟨tm',b⟩ q:=by
 cases q with
 |t n=>exact h n hq
 |k y=>rfl
theorem TM {tm tm':List (Nat×X)}{b:List Bx}{l:List Opd}(h:Eo tm tm' l):∀{m:List Opd},(∀q,q∈m->q∈l)->evs ⟨tm,b⟩ m=evs ⟨tm',b⟩ m
 |[],_=>rfl
 |q::r,hm=>by simp only [evs,gq (b:=b) h (hm q (by simp)),TM h (m:=r) (fun q hq=>hm q (by grind))]
theorem LK {tm tm':List (Nat×X)}{b:List Bx}{l:List Opd}(h:Eo tm tm' l):∀{m:List (Nat×Nat×Opd)},(∀q,q∈m.map (·.2.2)->q∈l)->kN ⟨tm,b⟩ m=kN ⟨tm',b⟩ m
 |[],_=>rfl
 |(i,j,q)::r,hm=>by simp only [kN,gq (b:=b) h (hm q (by simp)),LK h (m:=r) (fun q hq=>hm q (by grind))]
theorem LP {tm tm':List (Nat×X)}{b:List Bx}{l:List Opd}(h:Eo tm tm' l):∀{m:List (Nat×Opd)},(∀q,q∈m.map (·.2)->q∈l)->lF ⟨tm,b⟩ m=lF ⟨tm',b⟩ m
 |[],_=>rfl
 |(i,q)::r,hm=>by simp only [lF,gq (b:=b) h (hm q (by simp)),LP h (m:=r) (fun q hq=>hm q (by grind))]
theorem wo (h:Eo tm tm' l){d:Nat}{m:Option Opd}(hm:∀q,q∈m.toList->q∈l):dR ⟨tm,b⟩ d m=dR ⟨tm',b⟩ d m:=by
 cases m<;>grind[dR,gq]
theorem zdY (tm tm':List (Nat×X))(b:List Bx)(n:Option Nat)(p:X):oC ⟨tm,b⟩ n p=oC ⟨tm',b⟩ n p:=rfl
theorem zc6 {i:I}(h:Eo tm tm' i.mW):aG Γ ⟨tm,b⟩ i=aG Γ ⟨tm',b⟩ i:=by
 cases i with
 |build z ps=>grind[aG,LK,I.mW]
 |Ef n z ps=>grind[aG,LP,I.mW]
 |zmf f l=>grind[aG,TM,I.mW]
 |mm m l=>grind[aG,TM,I.mW]
 |call o r w f l=>grind[aG,gq,I.mW,TM]
 |slice s y lo hi j=>
  have A:=gq (b:=b) h (q:=y) (by simp [I.mW]);have u:=wo (b:=b) h (d:=0) (m:=lo) (fun q a=>by grind[I.mW]);have E:=fun d=>wo (b:=b) h (d:=d) (m:=hi) (fun q a=>by grind[I.mW]);have F:∀q,j=some q->St.ev ⟨tm,b⟩ q=St.ev ⟨tm',b⟩ q:=fun q a=>gq (b:=b) h (q:=q) (by grind[I.mW]);cases j with
  |none=>grind[aG]
  |some q=>simp only [aG,A,u,E,F q rfl]
 |tN y lo hi=>
  have B:∀q,q∈(I.tN y lo hi).mW↔q=y\/q∈lo.toList\/q∈hi.toList:=by intro q;cases lo<;>cases hi<;>simp [I.mW]
  have A:=gq (b:=b) h (q:=y) ((B y).2 (.inl rfl));have u:=wo (b:=b) h (d:=0) (m:=lo) (fun q a=>(B q).2 (.inr (.inl a)))<;>grind[wo,aG]
 |pick c p q=>grind[aG,gq,I.mW]
 |alloc z=>rfl
 |load n p=>grind[aG,gq,I.mW,zdY]
 |store n p q=>grind[aG,gq,I.mW]
 |bin o p q=>grind[aG,gq,I.mW]
 |beq o p q=>grind[aG,gq,I.mW]
 |ceq ks o p q=>grind[aG,gq,I.mW]
 |zgq n z p q=>grind[aG,gq,I.mW]
 |yu ar s p q=>grind[aG,gq,I.mW]
 |zlO n s r p q=>grind[aG,gq,I.mW]
 |zge p q=>grind[aG,gq,I.mW]
 |app o s n p q=>grind[aG,gq,I.mW]
 |mov p=>grind[aG,gq,I.mW]
 |box p=>grind[aG,gq,I.mW]
 |zgc n p=>grind[aG,gq,I.mW]
 |un n p=>grind[aG,gq,I.mW]
 |conv n p=>grind[aG,gq,I.mW]
 |idc p=>grind[aG,gq,I.mW]
 |s2b p=>grind[aG,gq,I.mW]
 |Ws n p=>grind[aG,gq,I.mW]
 |field n s p=>grind[aG,gq,I.mW]
 |VD p=>grind[aG,gq,I.mW]
 |extract p n=>grind[aG,gq,I.mW]
 |len p=>grind[aG,gq,I.mW]
 |slen p=>grind[aG,gq,I.mW]
 |VH=>rfl
 |zgp kk m k v=>grind[aG,gq,I.mW]
 |zgr kk o z m k=>grind[aG,gq,I.mW]
 |copy sz d s=>grind[aG,gq,I.mW]
 |ziC p=>grind[aG,gq,I.mW]
 |VI p=>grind[aG,gq,I.mW]
 |zi0 n p=>grind[aG,gq,I.mW]
theorem RQ {i off len:Nat}(h:b'[i]?=b[i]?):rowOf b' i off len=rowOf b i off len:=by grind[rowOf]
mutual
theorem zk0 {b b':List Bx}{raw:Bool}:∀(z:X),(∀i,i∈z.rows->b'[i]?=b[i]?)->z.data b' raw=z.data b raw
 |.bs i off len,h=>by grind[X.data,RQ,X.rows]
 |.agg cs,h=>by simp only [X.data,Aq cs (fun i hi=>h i (by grind[X.rows]))]
 |.tup cs,h=>by simp only [X.data,Aq cs (fun i hi=>h i (by grind[X.rows]))]
 |.ptr ..,_=>rfl
 |.yl _,_=>rfl
 |.mp _,_=>rfl
 |.ifc,_=>rfl
 |.fn ..,_=>rfl
 |.v _,_=>rfl
 |.sl ..,_=>rfl
 |.dp _,_=>rfl
theorem Aq {b b':List Bx}{raw:Bool}:∀(cs:List X),(∀i,i∈iW cs->b'[i]?=b[i]?)->eG b' raw cs=eG b raw cs
 |[],_=>rfl
 |z::r,h=>by simp only [eG,zk0 z (fun i hi=>h i (by grind[iW])),Aq r (fun i hi=>h i (by grind[iW]))]
end
theorem zdZ {n:Option Nat}(h:∀i,i∈kE p->b'[i]?=b[i]?):oC ⟨tm,b'⟩ n p=oC ⟨tm,b⟩ n p:=by
 have:ku ⟨tm,b'⟩ p=ku ⟨tm,b⟩ p:=by
  cases p with
  |ptr i e o=>grind[ku,kE]
  |_=>rfl
 grind[oC]
theorem zc9 (h:∀i,i∈p.rows->b'[i]?=b[i]?):pF b' p=pF b p:=by
 cases p with
 |bs i off len=>grind[pF,RQ,X.rows]
 |_=>rfl
end
end Go.Em
