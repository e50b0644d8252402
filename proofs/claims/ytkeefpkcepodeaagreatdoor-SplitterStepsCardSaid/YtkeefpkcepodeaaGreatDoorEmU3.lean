/-.-/
import Derived.Orders
import Derived.Test.YtkeefpkcepodeaaGreatDoorEmU2
set_option linter.all false
namespace Go.Em
section
variable {raw:Bool}
variable {P:Program} {R:aP} {x:Ctx} {K:Kn} {C:List CB} {σ:St} {a:Act} {w:World}
variable {o:Oper} {y:X} {bx:List Bx} {A:Ann} {Γ:Gam} {fp:FP}
def Upon (P:Program)(R:aP)(x:Ctx)(σ:St)(a:Act)(w:World)(o:Oper)(y:X)(bx:List Bx):Prop:=
 ∀(r:Option Nat) (next:Act->World->Prop) (Q:Exit->Act->World->Prop),
  (∀(K':Kn) (C':List CB) (v:Value) (w':World),Em.Rel P R x K' C' ⟨σ.tm,bx⟩ a w'->Rep K' C' y v->next (a.put o.dst v) w')->o.uponIn (Fr r) 0 P a next Q ((execOp a.eval o).run P w)
theorem dP.upon (h:dP P R x σ a w o y bx):Upon P R x σ a w o y bx:=by
 obtain ⟨n,m,B,v,u,l,A,f,j⟩:=h;intro r next Q q
 rw [l];rcases A with rfl|⟨rfl,rfl⟩;·exact q n m v u f j
 exact q n m undef u f j
theorem Jv {r:Option Nat}{n:Nat}{f:FuncId}{args:Array Value}{Q:Ending->World->Prop}(h:Calls P f args w Q):CallsIn (Fr r) n P f args w Q:=
 (callsIn_wide (n:=n)).2 h
theorem zF {K2:Kn}(hI:Inv P R K C σ.bx w)(hK:KLe K K2){args ds:List X}{aN:Array Value}(h:cO K C args aN)(e:dH σ.bx raw args=some ds)
  (hrow:(∀(b o:Nat) (u:Value),kT C σ.bx b o->w.cell? ⟨b,o,none⟩=some u->K2 b o=some u)\/iO args=[]):cO K2 C ds aN:=by
 obtain ⟨m,n⟩:=zG e;refine ⟨by rw [h.1,m],fun j z v f ev=>?_⟩;have q:=(qak.1 f).1;obtain ⟨A,a,l⟩:=n j args[j] (qad (by omega));rw [f] at a;cases a;refine (h.2 j _ v (qad (by omega)) ev).data hI hK (hrow.imp_right fun y=>?_) l<;>simp_all[List.eq_nil_iff_forall_not_mem,yS]
theorem jP {as cs:List X}{va vc:Array Value}(h:cO K C as va)(h':cO K C cs vc):cO K C (as++cs) (va++vc):=by
 refine ⟨by simp [h.1,h'.1],fun j z v e a=>?_⟩;by_cases f:j<as.length;·rw [qap f] at e;rw [Array.getElem?_append_left (by rw [h.1]<;>grind)] at a;exact h.2 j z v e a
 rw [qax (by omega)] at e;rw [Array.getElem?_append_right (by rw [h.1];omega),h.1] at a;exact h'.2 _ z v e a
theorem zi5 {f:Operand}{args:Array Operand}{tys:Array TypeId}{t1:TypeId}{f':Opd}{ts:List TypeId}{qs:List Opd}{own ref:Bool}{yf:X}{ys:List X}(hΓ:uz P R Γ)(h:Rel P R x K C σ a w)(ho:o.op=.call ⟨.value f,args,tys⟩)(hf:aU P R.gl t1 f=some f')
  (hq:iF P R.gl ts args.toList=some qs) (ef:σ.ev f'=some yf) (eq:evs σ qs=some ys) (e:xE Γ own ref raw yf ys σ.bx=some (y,bx,fp)):Upon P R x σ a w o y bx:=by
 have rf:=aZ h.inv.glob h.tm hf ef;obtain ⟨q1,q2⟩:=Lh h.inv.glob h.tm hq eq;have A:cO K C ys (args.map a.eval):=⟨by grind,fun j z v e e'=>q2 j z v e (by grind)⟩;have B:∀(g:FuncId) (all:Array Value) (Q':Ending->World->Prop),(execOp a.eval o).run P w=(callFunc g all).run P w->zgm P g->Calls P g all w Q'->(∀e w',Q' e w'->∃(v:Value) (K':Kn) (C':List CB),e=.returned v/\Em.Rel P R x K' C' ⟨σ.tm,bx⟩ a w'/\Rep K' C' y v)->Upon P R x σ a w o y bx:=by
  intro g all Q' q E O hQ r next Q hn
  rw [q,E all w];rw [Oper.uponIn_enter];refine ⟨fun hd=>by grind[Fr,Fence.wide],Jv (O.mono fun e w' hq=>?_)⟩;obtain ⟨v,K',C',rfl,Z,hp⟩:=hQ e w' hq;exact hn K' C' v w' Z hp
 generalize W:a.eval f=vf at rf;unfold xE at e;split at e
 ·grind
 rename_i as n;split at e
 ·
  rename_i g J;cases rf with
  |fn hs Z=>
   rename_i vs;have H:cO K C J vs:=⟨hs,Z⟩;have q:(execOp a.eval o).run P w=(callFunc g (args.map a.eval++vs)).run P w:=by simp [execOp,ho,resolve,Deferred.ofValue,W,invoke]
   split at e
   ·rename_i O;simp only [qab,Bool.not_eq_true'] at O;obtain ⟨⟨pe,pb⟩,V⟩:=O;rw [pb] at n;simp at n;split at e
    ·grind
    rename_i z hz;split at e
    ·rename_i m;simp only [qab] at m;simp at e;obtain ⟨rfl,rfl,_⟩:=e;by_cases N:iO ys=[];·have L:=jP (zF h.inv (KLe.refl K) A n (.inr N)) H;obtain ⟨E,S⟩:=Ql hΓ h L V hz m.1;exact B g _ _ q E S fun e w' hq=>hq.step
     have pc:z.plain=true:=by
      rcases Bool.or_eq_true _ _▸m.2 with h1|h1
      ·grind
      ·grind
     have hK:KLe K (seen w):=fun b o v e=>h.inv.known b o v e;have L:=jP (zF h.inv hK A n (.inl fun b o u _ hu=>hu)) (⟨H.1,fun j z v e e'=>(H.2 j z v e e').mono hK (CLe.refl _)⟩:cO (seen w) C J vs);obtain ⟨E,S⟩:=Qm hΓ h L V hz pc;exact B g _ _ q E S fun e w' hq=>hq.step
    grind
   split at e
   ·rename_i m;have L:cO K C as (args.map a.eval):=by
     cases M:ref with
     |true=>grind
     |false=>rw [M] at n m;simp at n;simp only [Bool.false_or] at m;exact zF h.inv (KLe.refl K) A n (.inr (List.isEmpty_iff.1 m))
    split at e
    ·grind
    rename_i z pa pd hz;simp at e;obtain ⟨rfl,rfl,_⟩:=e;obtain ⟨E,S⟩:=Jw hΓ h (jP L H) hz;exact B g _ _ q E S fun e w' hq=>hq.step
   grind
 ·
  rename_i i;cases rf with
  |yl O=>
   rename_i l;split at e
   ·rename_i m;have L:cO K C as (args.map a.eval):=by
     cases M:ref with
     |true=>grind
     |false=>rw [M] at n m;simp at n;simp only [Bool.false_or] at m;exact zF h.inv (KLe.refl K) A n (.inr (List.isEmpty_iff.1 m))
    split at e
    ·grind
    rename_i z pa pd hz;simp at e;obtain ⟨rfl,rfl,_⟩:=e;intro r next Q hn
    obtain ⟨f0,Y,F,U,q,Ce⟩:=XR hΓ h O L hz r;have H6:(execOp a.eval o).run P w=.ok (.round l f0 Y F U) w:=by simp [execOp,ho,resolve,Deferred.ofValue,W,invoke,q]
    rw [H6,Oper.uponIn_round];refine ⟨fun hd=>by grind[Fr,Fence.wide],Ce.mono fun e w' hq=>?_⟩;obtain ⟨v,K',C',rfl,Z,hp⟩:=hq.step
    grind
   grind
 grind
end
section
variable {args:Array Operand}{i:I}{qs:List Opd}{l:List Operand}{sz:Nat}{p z':Opd}{z:Operand}{lo':Option Opd}{lo:Option Operand}
variable {P:Program} {R:aP} {x:Ctx} {K:Kn} {C:List CB} {σ:St} {a:Act} {w:World}
variable {o:Oper} {y:X} {bx:List Bx} {A:Ann} {Γ:Gam} {fp:FP}
theorem map_some {α β:Type}{f:α->β}{o:Option α}{b:β}(h:o.map f=some b):∃a,o=some a/\f a=b:=by intros;simp_all
theorem Iu {ts:List TypeId}{q:Opd}(h:iF P R.gl ts l=some [p,q]):∃a b t t',l=[a,b]/\aU P R.gl t a=some p/\aU P R.gl t' b=some q:=by
 cases l with
 |nil=>grind[iF]
 |cons a r=>
  simp only [iF] at h;cases j:aU P R.gl (hd0 ts) a with
  |none=>grind
  |some p'=>
   simp only [j] at h;obtain ⟨y,f,e⟩:=map_some h;cases e;cases r with
   |nil=>grind[iF]
   |cons b s=>
    simp only [iF] at f;cases m:aU P R.gl (hd0 ts.tail) b with
    |none=>grind
    |some q'=>
     simp only [m] at f;obtain ⟨w,n,e⟩:=map_some f;cases e;cases s with
     |nil=>grind
     |cons c u=>grind[iF,map_some]
theorem zY {ts:List TypeId}(h:iF P R.gl ts l=some [p]):∃a t,l=[a]/\aU P R.gl t a=some p:=by
 cases l with
 |nil=>grind[iF]
 |cons a r=>
  simp only [iF] at h;cases f:aU P R.gl (hd0 ts) a with
  |none=>grind
  |some p'=>
   simp only [f] at h;obtain ⟨n,j,e⟩:=map_some h;cases e;cases r with
   |nil=>grind
   |cons b s=>simp only [iF] at j;cases m:aU P R.gl (hd0 ts.tail) b<;>simp_all
theorem zdz {tys:Array TypeId}(h:Rel P R x K C σ a w)(ho:o.op=.call ⟨.builtin .len,args,tys⟩)
  (htr:(match (tys[0]?).bind P.underlying,qs with|some (.slice _),[x]=>some (I.len x)|some .string,[x]=>some (.slen x)|some (.map _ _),[x]=>some (.zja x)|_,_=>none)=some i) (hq:iF P R.gl tys.toList args.toList=some qs) (hs:aA Γ σ i=some (y,bx,fp)):Upon P R x σ a w o y bx:=by
 split at htr
 ·rename_i e q A;cases htr;obtain ⟨t,m,j⟩:=qaz.1 A;obtain ⟨p,H,u,l⟩:=zY hq;simp only [aA] at hs;split at hs;next es f=>cases hs;obtain ⟨L,B,F⟩:=ZN (aZ h.inv.glob h.tm l f) rfl;exact (dP.still h (lN ho u m j F (.inl ⟨_,_,_,rfl,rfl⟩)) (.v rfl)).upon
  next n f=>cases hs;obtain ⟨L,B,F⟩:=ZN (aZ h.inv.glob h.tm l f) rfl;exact (dP.still h (lN ho u m j F (.inl ⟨_,_,_,rfl,rfl⟩)) (.v rfl)).upon
  grind
 ·rename_i q A;cases htr;obtain ⟨t,m,j⟩:=qaz.1 A;obtain ⟨p,H,u,l⟩:=zY hq;simp only [aA] at hs;split at hs;next s f=>cases hs;exact (dP.still h (lN ho u m j (fJ (aZ h.inv.glob h.tm l f)) (.inr ⟨s,rfl,rfl,rfl⟩)) (.v rfl)).upon
  grind
 ·rename_i M e q A;cases htr;obtain ⟨t,m,j⟩:=qaz.1 A;obtain ⟨p,H,u,l⟩:=zY hq;have E:args=#[p]:=by rw [<-Array.toArray_toList (xs:=args),u]
  subst E;simp only [aA] at hs;split at hs
  ·rename_i i f;split at hs;next es J=>cases hs;exact (zad h ho m j l f (.inl ⟨i,rfl,J⟩)).upon
   grind
  next f=>cases hs;exact (zad (es:=[]) h ho m j l f (.inr ⟨rfl,rfl⟩)).upon
  grind
 grind
theorem Y4 {isMax:Bool}{tys:Array TypeId}(h:Rel P R x K C σ a w)(ho:o.op=.call ⟨.builtin (if isMax then .max else .min),args,tys⟩)(hq:iF P R.gl tys.toList args.toList=some qs)
  (hs:aA Γ σ (.mm isMax qs)=some (y,bx,fp)):Upon P R x σ a w o y bx:=by
 simp only [aA] at hs;split at hs;next m r f=>obtain ⟨z,hz,e⟩:=map_some hs;cases e;exact (zrl h ho hq f hz).upon
 grind
theorem zdA {tys:Array TypeId}(h:Rel P R x K C σ a w)(ho:o.op=.call ⟨.builtin .append,args,tys⟩){own:Bool}
  (htr:(match (tys[0]?).bind P.underlying,(tys[1]?).bind P.underlying,qs with
    |some (.slice e),some (.slice _),[s,x]=>match eF P e,vY P e,pK P e with
     |some n,some (b+1),some _=>some (I.app own n (b+1) s x)
     |_,_,_=>none
    |_,_,_=>none)=some i) (hq:iF P R.gl tys.toList args.toList=some qs) (hs:aA Γ σ i=some (y,bx,fp)):Upon P R x σ a w o y bx:=by
 split at htr
 ·rename_i e e1 s z N O;split at htr
  ·rename_i n b zr W U hz;cases htr;obtain ⟨t0,F,L⟩:=qaz.1 N;obtain ⟨t1,H,J⟩:=qaz.1 O;obtain ⟨p,q,tp,tq,V,Y,E⟩:=Iu hq;simp only [aA] at hs;split at hs
   ·rename_i ys yz evs u;split at hs
    ·grind
    rename_i Q pa l;split at hs
    ·grind
    rename_i m;have m:Q=n:=by simpa using m
    subst m;split at hs
    ·rename_i S Z;split at hs
     ·rename_i A;simp only [qab,qaQ] at A;obtain ⟨rfl,f⟩:=A;obtain ⟨k1,k2,k3⟩:=zah h ho V F H L J W U hz (by omega) Y E evs u l f;split at hs
      ·split at hs;next j=>cases hs;exact (k1 (List.isEmpty_iff.1 j)).upon
       rename_i j;cases hs;exact (k3 (fun e=>j (by grind))).upon
      cases hs;exact k2.upon
     grind
    ·rename_i ib pb len;split at hs
     ·rename_i S Z M;split at hs;next A=>simp only [qab,qaQ] at A;obtain ⟨⟨⟨rfl,B⟩,f⟩,_⟩:=A;cases hs;exact (zai h ho V F H L J W U hz (by omega) Y E evs u l M B f).upon
      grind
     grind
    grind
   grind
  grind
 grind
theorem Iy {arr:Option Nat}{t t1 t2 e:TypeId}{iz:Operand}{i':Opd}(h:Rel P R x K C σ a w)(ho:o.op=.indexAddr t z iz)(hu:(arr=none/\P.underlying t=some (.slice e))\/(∃m,arr=some m/\P.underlying t=some (.array m e)))(hs:eF P e=some sz)
  (hz:aU P R.gl t1 z=some z') (hi:aU P R.gl t2 iz=some i') (hst:aA Γ σ (.iaddr arr sz z' i')=some (y,bx,fp)):Upon P R x σ a w o y bx:=by
 simp only [aA] at hst;split at hst
 ·rename_i Z n u F;obtain ⟨Y,q,A⟩:=qaz.1 F;split at hst
  ·rename_i W s H;split at hst
   ·rename_i l;have l:s=sz:=by simpa using l
    subst l;obtain ⟨O,L,B⟩:=map_some hst;simp only [qaI] at B;obtain ⟨rfl,rfl,_⟩:=B;rcases hu with ⟨_,hu⟩|⟨m,j,_⟩;·exact (Qs h ho hu hs hz hi u q A L).upon
    grind
   grind
  ·rename_i S M len;split at hst
   ·rename_i s H J;split at hst
    ·rename_i E;simp only [qab,qaQ,qaC] at E;obtain ⟨rfl,f⟩:=E;cases hst;rcases hu with ⟨_,hu⟩|⟨m,j,_⟩;·exact (Qu h ho hu hs hz hi u q A J f).upon
     grind
    grind
   grind
  ·rename_i len U Q V;split at hst
   ·rename_i f;cases hst;rcases hu with ⟨j,_⟩|⟨m,j,hu⟩
    ·grind
    cases j;exact (BR h ho hu hs hz hi u q A f rfl).upon
   grind
  ·rename_i len N;split at hst
   ·rename_i f;cases hst;rcases hu with ⟨j,_⟩|⟨m,j,hu⟩
    ·grind
    cases j;exact (BR h ho hu hs hz hi u q A f rfl).upon
   grind
  grind
 grind
theorem VI {t t1 e:TypeId}{hi mx:Option Operand}{hi' mx':Option Opd}(h:Rel P R x K C σ a w)(ho:o.op=.slice t z lo hi mx)(hu:P.underlying t=some (.slice e))(hs:eF P e=some sz)
  (hz:aU P R.gl t1 z=some z') (hlo:lD P R.gl lo=some lo') (hhi:lD P R.gl hi=some hi') (hmx:lD P R.gl mx=some mx') (hor:mx=none\/hi.isSome=true) (hst:aA Γ σ (.slice sz z' lo' hi' mx')=some (y,bx,fp)):Upon P R x σ a w o y bx:=by
 simp only [aA] at hst;split at hst
 ·rename_i Y s L A;split at hst
  ·rename_i l F el u;split at hst
   ·rename_i j;simp only [qab,qaQ,qaC] at j;obtain ⟨⟨rfl,M⟩,N⟩:=j;cases mx with
    |none=>simp only [lD,qag] at hmx;subst hmx;cases hst;exact (E5 h ho hu hs hz hlo hhi rfl A el u M N _ (.inl ⟨rfl,rfl⟩)).upon
    |some m=>
     have B:=hmx;simp only [lD] at hmx;obtain ⟨W,S,rfl⟩:=map_some hmx;simp only at hst;split at hst
     ·rename_i U Q;split at hst
      ·rename_i f;have f:F=U:=by simpa using f
       subst f;cases hst;have n:hi.isSome=true:=by rcases hor with E|E;cases E;exact E
       refine (E5 h ho hu hs hz hlo hhi B A el u M N true (.inr ⟨m,rfl,n,?_,rfl⟩)).upon;exact lT h.inv.glob h.tm B Q
      grind
     grind
   grind
  grind
 ·rename_i i V len A;split at hst
  ·rename_i l F el u;have H:mx=none:=by
    cases mx with
    |none=>rfl
    |some m=>simp_all[lD]
   subst H;split at hst
   ·rename_i j;simp only [qab,qaC] at j;split at hst
    ·rename_i f;have f:l=F:=by simpa using f
     cases hst;exact (E8 h ho hu hs hz hlo hhi A el u j.1 j.2 (.inl ⟨f,rfl⟩)).upon
    rename_i J;split at hst
    ·rename_i s L O;split at hst
     ·rename_i q;have q:s=sz:=by simpa using q
      subst q;cases hst;exact (E8 h ho hu hs hz hlo hhi A el u j.1 j.2 (.inr ⟨fun e=>J (by grind),⟨L,O⟩,rfl⟩)).upon
     grind
    grind
   grind
  grind
 grind
theorem Ir (h:lD P R.gl lo=some lo'):lo'.isSome=lo.isSome:=by
 cases lo with
 |none=>grind[lD]
 |some p=>simp only [lD] at h;obtain ⟨q,_,rfl⟩:=map_some h;rfl
set_option maxHeartbeats 1600000 in
theorem PV (hΓ:uz P R Γ)(h:Rel P R x K C σ a w)(htr:zmy P R.gl A o=some i)(hs:aA Γ σ i=some (y,bx,fp)):Upon P R x σ a w o y bx:=by
 unfold zmy at htr;split at htr;next z B=>obtain ⟨q,H,rfl⟩:=map_some htr;simp only [aA] at hs;obtain ⟨v,J,e⟩:=map_some hs;cases e;exact (zgQ h (.inl B) H J).upon
 next z B=>obtain ⟨q,H,rfl⟩:=map_some htr;simp only [aA] at hs;obtain ⟨v,J,e⟩:=map_some hs;cases e;exact (zgQ h (.inr B) H J).upon
 ·rename_i c p q B;split at htr
  ·rename_i c' p' q' M L H;cases htr;simp only [aA] at hs;split at hs;next t y1 y2 F O e3=>cases hs;exact (ziZ h B M L H F O e3).upon
   grind
  grind
 next e B=>obtain ⟨l,hl,rfl⟩:=map_some htr;simp only [aA,qag,qaI] at hs;obtain ⟨rfl,rfl,_⟩:=hs;exact (zek h B hl).upon
 ·rename_i t z B;obtain ⟨q,H,rfl⟩:=map_some htr;simp only [aA] at hs;split at hs
  ·grind
  rename_i v J;split at hs;next h1=>cases hs;exact (zoa h B H J h1).upon
  grind
 ·rename_i t ph B;split at htr
  ·rename_i fs z E hz;split at htr
   ·rename_i pi;obtain ⟨qs,H,rfl⟩:=map_some htr;simp only [aA] at hs;split at hs
    ·grind
    rename_i ps L;obtain ⟨cs,Q,e⟩:=map_some hs;cases e;exact (Fe h B E hz pi H L Q).upon
   grind
  ·rename_i m e z E hz;obtain ⟨n,N,htr⟩:=qaz.1 htr;obtain ⟨qs,H,rfl⟩:=map_some htr;simp only [aA] at hs;split at hs
   ·grind
   rename_i ps L;obtain ⟨cs,Q,e⟩:=map_some hs;cases e;exact (NZ h B E hz N H L Q).upon
  grind
 ·rename_i t len ph B;split at htr
  ·rename_i e E;split at htr
   ·rename_i z qn hz H;split at htr
    ·rename_i hl;cases htr;simp only [aA] at hs;split at hs
     ·grind
     rename_i ps L;split at hs
     ·rename_i Z;have Z:len=ps.length:=by simpa using Z
      obtain ⟨es,Q,e⟩:=map_some hs;cases e;exact (zaf h B E hz hl H L Z Q).upon
     grind
    grind
   grind
  grind
 ·rename_i t z B;split at htr
  ·rename_i n q N H;cases htr;simp only [aA] at hs;split at hs
   ·grind
   rename_i p L;obtain ⟨v,J,e⟩:=map_some hs;cases e;exact (zi2 h B N H L J).upon
  grind
 ·rename_i t p z B;split at htr
  ·rename_i n p' z' N L hz;cases htr;simp only [aA] at hs;split at hs;next yp yz F O=>obtain ⟨qe,U,e⟩:=map_some hs;cases e;exact (zeg h B N L hz F O U).upon
   grind
  grind
 ·rename_i z B;obtain ⟨q,H,rfl⟩:=map_some htr;simp only [aA] at hs;split at hs<;>first
   |(rename_i J
     cases hs;exact (zeh h B H J rfl).upon)
   |grind
 ·rename_i op t p q u B;split at htr
  ·rename_i p' q' L H;split at htr
   ·rename_i E;cases htr;simp only [aA] at hs;split at hs;next m n F O=>cases hs;have:=zgT h B E (.inl rfl) L H F O;simpa using this.upon
    grind
   ·rename_i E;cases htr;simp only [aA] at hs;split at hs;next m n F O=>cases hs;have:=zgT h B E (.inr rfl) L H F O;simpa using this.upon
    grind
   ·rename_i e E;split at htr
    ·cases htr;simp only [aA] at hs;split at hs<;>first
      |(rename_i J
        cases hs;have:=zab h B E (.inl rfl) rfl L J rfl;simpa using this.upon)
      |grind
    grind
   ·rename_i e E;split at htr
    ·cases htr;simp only [aA] at hs;split at hs<;>first
      |(rename_i J
        cases hs;have:=zab h B E (.inr rfl) rfl L J rfl;simpa using this.upon)
      |grind
    grind
   ·rename_i ms E;split at htr
    ·cases htr;simp only [aA] at hs;split at hs;next F=>cases hs;exact (Kv (neg:=false) h B rfl E L F (.inl ⟨rfl,rfl⟩)).upon
     next F=>cases hs;exact (Kv (neg:=false) h B rfl E L F (.inr ⟨rfl,rfl⟩)).upon
     grind
    grind
   ·rename_i ms E;split at htr
    ·cases htr;simp only [aA] at hs;split at hs;next F=>cases hs;exact (Kv (neg:=true) h B rfl E L F (.inl ⟨rfl,rfl⟩)).upon
     next F=>cases hs;exact (Kv (neg:=true) h B rfl E L F (.inr ⟨rfl,rfl⟩)).upon
     grind
    grind
   ·cases htr;simp only [aA] at hs;split at hs;next m n F O=>obtain ⟨z,hz,e⟩:=map_some hs;cases e;exact (zgS h B L H F O hz).upon
    grind
   ·cases htr;simp only [aA] at hs;split at hs;next m n F O=>obtain ⟨z,hz,e⟩:=map_some hs;cases e;exact (zgS h B L H F O hz).upon
    grind
   ·obtain ⟨ks,Q,rfl⟩:=map_some htr;simp only [aA] at hs;split at hs;next m n F O=>obtain ⟨z,hz,e⟩:=map_some hs;cases e;have:=zgR h B Q (.inl rfl) L H F O hz;simpa using this.upon
    grind
   ·obtain ⟨ks,Q,rfl⟩:=map_some htr;simp only [aA] at hs;split at hs;next m n F O=>obtain ⟨z,hz,e⟩:=map_some hs;cases e;have:=zgR h B Q (.inr rfl) L H F O hz;simpa using this.upon
    grind
   grind
  grind
 ·rename_i op t z B;obtain ⟨q,H,rfl⟩:=map_some htr;simp only [aA] at hs;split at hs;next m F=>obtain ⟨u,E,e⟩:=map_some hs;cases e;exact (zrk h B H F E).upon
  grind
 ·rename_i s d z B;split at htr
  ·rename_i ks k q pa Y H;cases htr;simp only [aA] at hs;split at hs;next k' n F=>cases hs;exact (zi4 h B pa Y H F).upon
   grind
  ·rename_i q pa Y H;cases htr;simp only [aA] at hs;split at hs;next b F=>cases hs;exact (zn9 h B pa Y H F).upon
   grind
  ·rename_i e q pa Y H;split at htr
   ·rename_i px;cases htr;simp only [aA] at hs;split at hs;next b F=>cases hs;exact (zn8 h B pa Y px H F).upon
    grind
   grind
  grind
 ·rename_i t B;split at htr;next kt e E=>cases htr;simp only [aA,qag,qaI] at hs;obtain ⟨rfl,rfl,_⟩:=hs;exact (zei h B E).upon
  grind
 ·rename_i t m k v B;split at htr
  ·rename_i kt e m' E hm;split at htr
   ·rename_i k' v' kk hk J V;cases htr;simp only [aA] at hs;split at hs
    ·rename_i i kv y1 em ek ev;split at hs
     ·rename_i es U;split at hs;next M=>simp only [qab] at M;obtain ⟨pn,L,F⟩:=map_some hs;cases F;exact (zac h (.inl B) E V hm hk J em ek ev U M.1.1 M.1.2 M.2 L).upon
      grind
     grind
    grind
   grind
  grind
 ·rename_i t m k v B;split at htr
  ·rename_i kt e m' E hm;split at htr
   ·rename_i k' v' kk hk J V;cases htr;simp only [aA] at hs;split at hs
    ·rename_i i kv y1 em ek ev;split at hs
     ·rename_i es U;split at hs;next M=>simp only [qab] at M;obtain ⟨pn,L,F⟩:=map_some hs;cases F;exact (zac h (.inr B) E V hm hk J em ek ev U M.1.1 M.1.2 M.2 L).upon
      grind
     grind
    grind
   grind
  grind
 ·rename_i t m k ok B;split at htr
  ·rename_i kt e m' E hm;split at htr
   ·rename_i k' z kk hk hz V;cases htr;simp only [aA] at hs;split at hs
    ·rename_i i kv em ek;split at hs
     ·rename_i es U;split at hs;next M=>obtain ⟨y1,hg,F⟩:=map_some hs;cases F;exact (zae h B E V hz hm hk em ek (.inl ⟨i,rfl,U⟩) M hg).upon
      grind
     grind
    ·rename_i kv em ek;split at hs;next M=>obtain ⟨y1,hg,F⟩:=map_some hs;cases F;exact (zae h B E V hz hm hk em ek (.inr ⟨rfl,rfl⟩) M hg).upon
     grind
    grind
   grind
  grind
 ·rename_i t z B;split at htr
  ·grind
  next d q hd E H=>cases htr;simp only [aA] at hs;obtain ⟨v,J,F⟩:=map_some hs;cases F;exact (zej h B E (fun ms e=>hd ms (by grind)) H J).upon
  grind
 next f first qb B=>
  split at htr;next Q=>obtain ⟨qs,H,rfl⟩:=map_some htr;simp only [aA] at hs;obtain ⟨cs,M,e⟩:=map_some hs;cases e;exact (zi1 h B Q H M).upon
  grind
 ·rename_i t l c B;split at htr
  ·rename_i e E;split at htr
   ·rename_i z b l' c' hz U hl M;cases htr;simp only [aA] at hs;split at hs
    ·rename_i n m F O;obtain ⟨yl,el,nl⟩:=qaz.1 F;obtain ⟨yc,ec,nc⟩:=qaz.1 O;split at hs;next W=>simp only [qab,qaC] at W;cases hs;exact (zi0 h B E hz U hl M el ec nl nc W.1 W.2).upon
     grind
    grind
   grind
  grind
 ·rename_i t z lo hi mx B;split at htr
  ·rename_i z' pz pr E hz pf pe pg;cases htr;have pt:mx=none:=by
    cases mx with
    |none=>rfl
    |some m=>simp_all[lD]
   subst pt;simp only [aA] at hs;split at hs
   ·rename_i s es;split at hs
    ·rename_i l hh el eh;split at hs;next M=>simp only [qab,qaC] at M;cases hs;exact (zaa h B E hz pf pe es el eh M.1 M.2).upon
     grind
    grind
   grind
  ·rename_i e z' pz pr qi E hz pf pe pg;split at htr
   ·rename_i pk;obtain ⟨n,N,rfl⟩:=map_some htr;refine VI h B E N hz pf pe pg ?_ hs;rw [Bool.or_eq_true] at pk;rcases pk with h1|h1;·left;have:=Ir pg<;>simp_all
    grind[Ir]
   grind
  grind
 ·rename_i t z f B;split at htr
  ·rename_i fs E;split at htr
   ·rename_i fd q Q H;split at htr
    ·rename_i n N;cases htr;simp only [aA] at hs;split at hs;next i e k J=>cases hs;exact (TW h B E Q N H J rfl).upon
     next cs J=>cases hs;exact (TW h B E Q N H J rfl).upon
     grind
    grind
   grind
  grind
 ·rename_i t z f B;split at htr
  ·rename_i fs E;split at htr
   ·rename_i fd q Q H;obtain ⟨n,N,rfl⟩:=map_some htr;simp only [aA] at hs;split at hs
    ·rename_i cs J;cases n with
     |none=>simp only at hs;obtain ⟨v,pb,e⟩:=map_some hs;cases e;exact (TV h B E Q rfl N H J pb).upon
     |some n=>
      simp only at hs;split at hs;next hl=>cases hs;exact (TV h B E Q rfl N H J (by grind)).upon
      grind
    grind
   grind
  grind
 ·rename_i t z i B;split at htr;next e z' i' E hz hi=>obtain ⟨n,N,rfl⟩:=map_some htr;exact Iy h B (.inl ⟨rfl,E⟩) N hz hi hs
  next m e z' i' E hz hi=>obtain ⟨n,N,rfl⟩:=map_some htr;exact Iy h B (.inr ⟨m,rfl,E⟩) N hz hi hs
  grind
 ·rename_i t z i B;split at htr
  ·rename_i m e z' i' E hz hi;split at htr
   ·rename_i n r N hr;cases htr;simp only [aA] at hs;split at hs
    ·rename_i cs j J hj;obtain ⟨yi,ei,pc⟩:=qaz.1 hj;split at hs
     ·rename_i pj;cases r with
      |none=>simp only at hs;obtain ⟨v,pb,e⟩:=map_some hs;cases e;exact (zaj h B E N hr hz hi J ei pc pj pb).upon
      |some k=>
       simp only at hs;split at hs;next hl=>cases hs;exact (zaj h B E N hr hz hi J ei pc pj (by grind)).upon
       grind
     grind
    grind
   grind
  ·rename_i z' i' E hz hi;cases htr;simp only [aA] at hs;split at hs
   ·rename_i s n J hj;obtain ⟨yi,ei,pc⟩:=qaz.1 hj;split at hs;next b U=>cases hs;exact (ziY h B E hz hi J ei pc U).upon
    grind
   grind
  grind
 ·rename_i z i B;obtain ⟨q,H,rfl⟩:=map_some htr;simp only [aA] at hs;split at hs;next xs J=>obtain ⟨v,pb,e⟩:=map_some hs;cases e;exact (WQ h B H J pb).upon
  grind
 ·rename_i c B;split at htr
  ·grind
  rename_i qa S;obtain ⟨qf,aN,tys⟩:=c;dsimp only at htr S;split at htr
  ·rename_i f;obtain ⟨f',Q,rfl⟩:=map_some htr
   grind[aA,zi5]
  ·grind[zdz]
  ·split at htr
   ·rename_i e qd qs E;obtain ⟨n,N,rfl⟩:=map_some htr;obtain ⟨t0,pw,py⟩:=qaz.1 E;simp only [aA] at hs;split at hs
    ·rename_i i qm len y1 F O;split at hs
     ·rename_i qr es qq qk U pl;split at hs;next M=>cases hs;simp only [qab,qaQ,qaC] at M;obtain ⟨⟨po,pp⟩,pq⟩:=M;subst po;subst pp;obtain ⟨pd,ps,ta,tb,hl,pu,pv⟩:=Iu S;exact (zi3 h B hl pw py N pu pv F O pl U pq).upon
      grind
     grind
    grind
   grind
  ·grind[Y4]
  ·grind[Y4]
  ·exact zdA h B htr S hs
  grind
 grind
end
section
variable {ops:Array Oper}{md:Region.Mode}
variable {P:Program} {R:aP} {x:Ctx} {K:Kn} {C:List CB} {σ:St} {a:Act} {w:World}
variable {A:Ann} {Γ:Gam}
def zhn (md:Region.Mode)(ops:Array Oper)(acc M:List Nat):Prop:=
 (acc++M).Nodup/\(∀i,i∈M->i<ops.size)/\∀(M1 M2:List Nat) (j:Nat),M=M1++j::M2->∀(e:Edge),e∈(ops.getD j default).after.toList->Region.binds md e=true->e.on∈acc\/e.on∈M1
theorem NM {listed:Array Bool}{acc:List Nat}(hs:listed.size=ops.size)(hl:∀i,i<ops.size->(listed.getD i true=true↔i∈acc))(hf:∀i,ops.size<=i->listed.getD i false=false){i:Nat}:
  i∈Region.ready md ops listed↔i<ops.size/\i∉acc/\∀(e:Edge),e∈(ops.getD i default).after.toList->Region.binds md e=true->e.on∈acc/\e.on<ops.size:=by
 have q:∀j,listed.getD j false=true↔j∈acc/\j<ops.size:=by
  intro j;by_cases u:j<ops.size
  ·grind
  ·grind
 simp only [Region.ready,List.mem_filter,List.mem_range,qab,Bool.not_eq_true'];constructor
 ·rintro ⟨a,l,f⟩
  have h:ops[i]?=some (ops.getD i default):=by simp [Array.getD,a]
  rw [h] at f;simp only [qam,Option.getD_some] at f;refine ⟨a,(fun w=>by grind),fun e m n=>?_⟩;have:=(Array.all_eq_true_iff_forall_mem.1 f) e (by simpa using m)<;>simp_all
 rintro ⟨a,l,f⟩
 have h:ops[i]?=some (ops.getD i default):=by simp [Array.getD,a]
 grind
theorem Hw :∀(fuel t:Nat) (listed:Array Bool) (acc:List Nat),listed.size=ops.size->(∀i,i<ops.size->(listed.getD i true=true↔i∈acc))->acc.Nodup->(∀i,i∈acc->i<ops.size)->
  zhn md ops acc (Region.linearise.go md ops fuel t listed [])/\
   ((Region.linearise.go md ops fuel t listed []).length=fuel\/∃acc':List Nat,(∀i,i∈acc'↔i∈acc\/i∈Region.linearise.go md ops fuel t listed [])/\∀i,i<ops.size->i∉acc'->∃e:Edge,e∈(ops.getD i default).after.toList/\Region.binds md e=true/\¬(e.on∈acc'/\e.on<ops.size)):=by
 intro fuel;induction fuel with
 |zero=>intro t listed acc m E P H;simp only [Region.linearise.go,List.reverse_nil];exact ⟨⟨by grind,by simp,fun n A j e=>by simp_all⟩,.inl rfl⟩
 |succ fuel ih=>
  intro t listed acc m E P H;have O:∀i,ops.size<=i->listed.getD i false=false:=by intro i B;simp [Array.getD,m,Nat.not_lt.2 B]
  simp only [Region.linearise.go];change zhn md ops acc (match (Region.ready md ops listed)[t%(Region.ready md ops listed).length]? with
   |some i=>Region.linearise.go md ops fuel (t /(Region.ready md ops listed).length) (listed.setIfInBounds i true) [i]
   |none=>[].reverse)/\((match (Region.ready md ops listed)[t%(Region.ready md ops listed).length]? with
   |some i=>Region.linearise.go md ops fuel (t /(Region.ready md ops listed).length) (listed.setIfInBounds i true) [i]
   |none=>[].reverse).length=fuel+1\/∃acc':List Nat,(∀i,i∈acc'↔i∈acc\/i∈(match (Region.ready md ops listed)[t%(Region.ready md ops listed).length]? with
   |some i=>Region.linearise.go md ops fuel (t /(Region.ready md ops listed).length) (listed.setIfInBounds i true) [i]
   |none=>[].reverse))/\∀i,i<ops.size->i∉acc'->∃e:Edge,e∈(ops.getD i default).after.toList/\Region.binds md e=true/\¬(e.on∈acc'/\e.on<ops.size))
  cases B:(Region.ready md ops listed)[t%(Region.ready md ops listed).length]? with
  |none=>
   simp only [List.reverse_nil];have y:Region.ready md ops listed=[]:=by
    cases hr:Region.ready md ops listed with
    |nil=>rfl
    |cons u us=>grind[Nat.mod_lt]
   refine ⟨⟨by grind,by simp,fun n A j e=>by grind⟩,.inr ⟨acc,by simp,fun i f q=>?_⟩⟩;have J:i∉Region.ready md ops listed:=by rw [y];simp
   rw [NM m E O] at J
   grind
  |some i=>
   simp only [];rw [linearise_go_acc,List.reverse_singleton,List.singleton_append];obtain ⟨W,Y,Z⟩:=(NM m E O).1 (qan B);have F:∀j,j<ops.size->((listed.setIfInBounds i true).getD j true=true↔j∈i::acc):=by
    intro j l;by_cases w:j=i;·subst w;simp [Array.getD,m,l]
    have:(listed.setIfInBounds i true).getD j true=listed.getD j true:=by simp only [Array.size_setIfInBounds,m,l,dif_pos];have:=Array.getElem?_setIfInBounds_ne (xs:=listed) (a:=true) (i:=i) (j:=j) (fun e=>w e.symm);simpa [m,l] using this
    grind
   obtain ⟨⟨M,Q,S⟩,U⟩:=ih (t /(Region.ready md ops listed).length) (listed.setIfInBounds i true) (i::acc) (by grind) F (List.nodup_cons.2 ⟨Y,P⟩) (by grind);refine ⟨⟨?_,?_,?_⟩,?_⟩;·rw [List.cons_append,List.nodup_cons] at M;have V:(acc++i::Region.linearise.go md ops fuel (t /(Region.ready md ops listed).length) (listed.setIfInBounds i true) []).Perm (i::(acc++Region.linearise.go md ops fuel (t /(Region.ready md ops listed).length) (listed.setIfInBounds i true) [])):=List.perm_middle;exact V.nodup_iff.2 (List.nodup_cons.2 M)
   ·intro j l;rcases qal.1 l with rfl|l;exact W;exact Q j l
   ·intro n A j e L h N;cases n with
    |nil=>simp at e;rw [<-e.1] at h;exact .inl (Z L h N).1
    |cons u n=>
     simp at e;rcases S n A j e.2 L h N with f|f
     ·rcases qal.1 f with q|q;·right;rw [q,e.1];simp
      grind
     right;simp [f]
   rcases U with f|⟨acc',f,q⟩;·left;simp [f]
   right;refine ⟨acc',fun j=>?_,q⟩;rw [f j];simp;constructor
   ·grind
   grind
theorem I5 {n:Nat}{l:List Nat}(hn:l.Nodup)(hlt:∀i,i∈l->i<n)(hl:l.length=n):∀i,i<n->i∈l:=by
 intro i u;have f:∀j,j∈l->j∈List.range n:=fun j a=>List.mem_range.2 (hlt j a);rcases Classical.em (i∈l) with h|h;·exact h
 have m:=List.nodup_cons.2 ⟨h,hn⟩;have q:∀j,j∈i::l->j∈List.range n:=by intro j a;rcases qal.1 a with rfl|a;exact List.mem_range.2 u;exact f j a
 have:=List.Nodup.length_le_of_subset m q<;>grind
structure Order (ops:Array Oper) (L:List Nat):Prop where
 nodup:L.Nodup
 all:∀i,i∈L↔i<ops.size
 follows:∀(L1 L2:List Nat) (j:Nat),L=L1++j::L2->∀i,zfO (ops.getD j default) i=true->i∈L1
theorem Fq (h0:(Region.linearise md ops 0).length=ops.size)(t:Nat):Order ops (Region.linearise md ops t):=by
 have E:∀i,i<ops.size->((Array.replicate ops.size false).getD i true=true↔i∈([]:List Nat)):=by intro i m;simp [Array.getD,m]
 have F:=fun t=>Hw (md:=md) (ops:=ops) ops.size t (Array.replicate ops.size false) [] (by simp) E (by simp) (by simp);have e:∀t,Region.linearise md ops t=Region.linearise.go md ops ops.size t (Array.replicate ops.size false) []:=fun _=>rfl;rw [e] at h0;obtain ⟨⟨k1,N,W⟩,_⟩:=F 0;have f:=I5 (by grind) N h0;obtain ⟨⟨g1,P,Y⟩,Z⟩:=F t;rw [e];have B:(Region.linearise.go md ops ops.size t (Array.replicate ops.size false) []).length=ops.size:=by
  rcases Z with Q|⟨a,Q,M⟩
  ·grind
  ·
   rcases Classical.em (∀i,i<ops.size->i∈a) with hA|hA
   ·have q:∀i,i<ops.size->i∈Region.linearise.go md ops ops.size t (Array.replicate ops.size false) []:=fun i m=>by grind
    have h5:(Region.linearise.go md ops ops.size t (Array.replicate ops.size false) []).length<=ops.size:=by have:=List.Nodup.length_le_of_subset (by grind) (fun j A=>List.mem_range.2 (P j A));simpa using this
    have h6:ops.size<=(Region.linearise.go md ops ops.size t (Array.replicate ops.size false) []).length:=by have:=List.Nodup.length_le_of_subset (List.nodup_range (n:=ops.size)) (fun j A=>q j (List.mem_range.1 A));simpa using this
    omega
   exfalso;have U:∃L1 j L2,Region.linearise.go md ops ops.size 0 (Array.replicate ops.size false) []=L1++j::L2/\j∉a/\∀i,i∈L1->i∈a:=by
    have h:∃i,i∈Region.linearise.go md ops ops.size 0 (Array.replicate ops.size false) []/\i∉a:=by simp only [Classical.not_forall] at hA;obtain ⟨i,m,w⟩:=hA;exact ⟨i,f i m,w⟩
    generalize Region.linearise.go md ops ops.size 0 (Array.replicate ops.size false) []=L at h;clear k1 N W f h0;induction L with
    |nil=>grind
    |cons u us ih=>
     by_cases hu:u∈a
     ·obtain ⟨i,m,w⟩:=h;rcases qal.1 m with rfl|m
      ·grind
      obtain ⟨L1,j,L2,H,O,V⟩:=ih ⟨i,m,w⟩;exact ⟨u::L1,j,L2,by grind,O,fun k hk=>by grind⟩
     exact ⟨[],u,us,rfl,hu,by simp⟩
   obtain ⟨L1,j,L2,H,O,V⟩:=U;have A:=N j (by rw [H];simp);obtain ⟨J,l,S,hx⟩:=M j A O;rcases W L1 L2 j H J l S with h3|h3;·simp at h3
   exact hx ⟨V _ h3,N _ (by rw [H];simp [h3])⟩
 have y:=I5 (by grind) P B;refine ⟨by grind,fun i=>⟨P i,y i⟩,fun L1 L2 j e i l=>?_⟩;simp only [zfO,List.any_eq_true,qab,qaQ] at l;obtain ⟨J,Q,M,rfl⟩:=l;have S:Region.binds md J=true:=by unfold Region.binds at M ⊢;split at M<;>simp_all
 rcases Y L1 L2 j e J Q S with h3|h3
 ·grind
 grind
theorem Hl (h:Lm ops=true)(mixed:Bool)(t:Nat):Order ops (Region.schedule mixed ops t):=by
 simp [Lm] at h
 grind[Region.schedule,Fq]
end
section
variable {tm tm':List (Nat×X)}{b b':List Bx}{l:List Opd}{p:X}
variable {P:Program} {R:aP} {x:Ctx} {K:Kn} {C:List CB} {σ:St} {a:Act} {w:World}
variable {A:Ann} {Γ:Gam}
theorem Gp (tm:List (Nat×X))(b b':List Bx)(q:Opd):St.ev ⟨tm,b⟩ q=St.ev ⟨tm,b'⟩ q:=by cases q<;>rfl
theorem UR (tm:List (Nat×X))(b b':List Bx):∀l,evs ⟨tm,b⟩ l=evs ⟨tm,b'⟩ l
 |[]=>rfl
 |q::r=>by simp only [evs,Gp tm b b' q,UR tm b b' r]
theorem NS (tm:List (Nat×X))(b b':List Bx):∀l,kP ⟨tm,b⟩ l=kP ⟨tm,b'⟩ l
 |[]=>rfl
 |(i,j,q)::r=>by simp only [kP,Gp tm b b' q,NS tm b b' r]
theorem NU (tm:List (Nat×X))(b b':List Bx):∀l,lQ ⟨tm,b⟩ l=lQ ⟨tm,b'⟩ l
 |[]=>rfl
 |(i,q)::r=>by simp only [lQ,Gp tm b b' q,NU tm b b' r]
theorem yP (tm:List (Nat×X))(b b':List Bx)(d:Nat)(l:Option Opd):dL ⟨tm,b⟩ d l=dL ⟨tm,b'⟩ d l:=by
 cases l<;>simp only [dL]<;>grind[Gp]
def Hf (tm tm':List (Nat×X))(l:List Opd):Prop:=∀n,Opd.t n∈l->lk tm n=lk tm' n
theorem fZ (h:Hf tm tm' l){q:Opd}(hq:q∈l):St.ev ⟨tm,b⟩ q=St.ev ⟨tm',b⟩ q:=by
 cases q with
 |t n=>exact h n hq
 |k y=>rfl
theorem UQ {tm tm':List (Nat×X)}{b:List Bx}{l:List Opd}(h:Hf tm tm' l):∀{m:List Opd},(∀q,q∈m->q∈l)->evs ⟨tm,b⟩ m=evs ⟨tm',b⟩ m
 |[],_=>rfl
 |q::r,hm=>by simp only [evs,fZ (b:=b) h (hm q (by simp)),UQ h (m:=r) (fun q hq=>hm q (by grind))]
theorem NR {tm tm':List (Nat×X)}{b:List Bx}{l:List Opd}(h:Hf tm tm' l):∀{m:List (Nat×Nat×Opd)},(∀q,q∈m.map (·.2.2)->q∈l)->kP ⟨tm,b⟩ m=kP ⟨tm',b⟩ m
 |[],_=>rfl
 |(i,j,q)::r,hm=>by simp only [kP,fZ (b:=b) h (hm q (by simp)),NR h (m:=r) (fun q hq=>hm q (by grind))]
theorem NT {tm tm':List (Nat×X)}{b:List Bx}{l:List Opd}(h:Hf tm tm' l):∀{m:List (Nat×Opd)},(∀q,q∈m.map (·.2)->q∈l)->lQ ⟨tm,b⟩ m=lQ ⟨tm',b⟩ m
 |[],_=>rfl
 |(i,q)::r,hm=>by simp only [lQ,fZ (b:=b) h (hm q (by simp)),NT h (m:=r) (fun q hq=>hm q (by grind))]
theorem yO (h:Hf tm tm' l){d:Nat}{m:Option Opd}(hm:∀q,q∈m.toList->q∈l):dL ⟨tm,b⟩ d m=dL ⟨tm',b⟩ d m:=by
 cases m<;>grind[dL,fZ]
theorem zew (tm tm':List (Nat×X))(b:List Bx)(n:Option Nat)(p:X):o7 ⟨tm,b⟩ n p=o7 ⟨tm',b⟩ n p:=rfl
theorem zdB {i:I}(h:Hf tm tm' i.nM):aA Γ ⟨tm,b⟩ i=aA Γ ⟨tm',b⟩ i:=by
 cases i with
 |build z ps=>grind[aA,NR,I.nM]
 |G6 n z ps=>grind[aA,NT,I.nM]
 |zmI f l=>grind[aA,UQ,I.nM]
 |mm m l=>grind[aA,UQ,I.nM]
 |call o r w f l=>grind[aA,fZ,I.nM,UQ]
 |slice s y lo hi B=>
  have j:=fZ (b:=b) h (q:=y) (by simp [I.nM]);have u:=yO (b:=b) h (d:=0) (m:=lo) (fun q a=>by grind[I.nM]);have E:=fun d=>yO (b:=b) h (d:=d) (m:=hi) (fun q a=>by grind[I.nM]);have F:∀q,B=some q->St.ev ⟨tm,b⟩ q=St.ev ⟨tm',b⟩ q:=fun q a=>fZ (b:=b) h (q:=q) (by grind[I.nM]);cases B with
  |none=>grind[aA]
  |some q=>simp only [aA,j,u,E,F q rfl]
 |sslice y lo hi=>
  have A:∀q,q∈(I.sslice y lo hi).nM↔q=y\/q∈lo.toList\/q∈hi.toList:=by intro q;cases lo<;>cases hi<;>simp [I.nM]
  have j:=fZ (b:=b) h (q:=y) ((A y).2 (.inl rfl));have u:=yO (b:=b) h (d:=0) (m:=lo) (fun q a=>(A q).2 (.inr (.inl a)))<;>grind[yO,aA]
 |pick c p q=>grind[aA,fZ,I.nM]
 |alloc z=>rfl
 |load n p=>grind[aA,fZ,I.nM,zew]
 |store n p q=>grind[aA,fZ,I.nM]
 |bin o p q=>grind[aA,fZ,I.nM]
 |beq o p q=>grind[aA,fZ,I.nM]
 |ceq ks o p q=>grind[aA,fZ,I.nM]
 |mksl n z p q=>grind[aA,fZ,I.nM]
 |iaddr ar s p q=>grind[aA,fZ,I.nM]
 |aidx n s r p q=>grind[aA,fZ,I.nM]
 |sidx p q=>grind[aA,fZ,I.nM]
 |app o s n p q=>grind[aA,fZ,I.nM]
 |mov p=>grind[aA,fZ,I.nM]
 |box p=>grind[aA,fZ,I.nM]
 |zgK n p=>grind[aA,fZ,I.nM]
 |un n p=>grind[aA,fZ,I.nM]
 |conv n p=>grind[aA,fZ,I.nM]
 |idc p=>grind[aA,fZ,I.nM]
 |s2b p=>grind[aA,fZ,I.nM]
 |XB n p=>grind[aA,fZ,I.nM]
 |field n s p=>grind[aA,fZ,I.nM]
 |WS p=>grind[aA,fZ,I.nM]
 |extract p n=>grind[aA,fZ,I.nM]
 |len p=>grind[aA,fZ,I.nM]
 |slen p=>grind[aA,fZ,I.nM]
 |WX=>rfl
 |zgY kk m k v=>grind[aA,fZ,I.nM]
 |zgZ kk o z m k=>grind[aA,fZ,I.nM]
 |copy sz d s=>grind[aA,fZ,I.nM]
 |zja p=>grind[aA,fZ,I.nM]
 |WY p=>grind[aA,fZ,I.nM]
 |zjv n p=>grind[aA,fZ,I.nM]
theorem TQ {i off len:Nat}(h:b'[i]?=b[i]?):rowOf b' i off len=rowOf b i off len:=by grind[rowOf]
mutual
theorem zlv {b b':List Bx}{raw:Bool}:∀(z:X),(∀i,i∈z.rows->b'[i]?=b[i]?)->z.data b' raw=z.data b raw
 |.bs i off len,h=>by grind[X.data,TQ,X.rows]
 |.agg cs,h=>by simp only [X.data,D7 cs (fun i hi=>h i (by grind[X.rows]))]
 |.tup cs,h=>by simp only [X.data,D7 cs (fun i hi=>h i (by grind[X.rows]))]
 |.ptr ..,_=>rfl
 |.yl _,_=>rfl
 |.mp _,_=>rfl
 |.ifc,_=>rfl
 |.fn ..,_=>rfl
 |.v _,_=>rfl
 |.sl ..,_=>rfl
 |.dp _,_=>rfl
theorem D7 {b b':List Bx}{raw:Bool}:∀(cs:List X),(∀i,i∈iO cs->b'[i]?=b[i]?)->dH b' raw cs=dH b raw cs
 |[],_=>rfl
 |z::r,h=>by simp only [dH,zlv z (fun i hi=>h i (by grind[iO])),D7 r (fun i hi=>h i (by grind[iO]))]
end
theorem zex {n:Option Nat}(h:∀i,i∈ku p->b'[i]?=b[i]?):o7 ⟨tm,b'⟩ n p=o7 ⟨tm,b⟩ n p:=by
 have:jV ⟨tm,b'⟩ p=jV ⟨tm,b⟩ p:=by
  cases p with
  |ptr i e o=>grind[jV,ku]
  |_=>rfl
 grind[o7]
theorem zdE (h:∀i,i∈p.rows->b'[i]?=b[i]?):qh b' p=qh b p:=by
 cases p with
 |bs i off len=>grind[qh,TQ,X.rows]
 |_=>rfl
end
end Go.Em
