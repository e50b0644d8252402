/-.-/
import Derived.Orders
import Derived.Test.YtcbeoccmflnejaaGreatDoorEmU2
set_option linter.all false
namespace Go.Em
section
variable {raw:Bool}
variable {P:Program} {R:CodeRel} {x:Ctx} {K:Kn} {C:List CB} {σ:St} {a:Act} {w:World}
variable {o:Oper} {y:X} {bx:List Bx} {A:Ann} {Γ:Gam} {fp:FP}
def Upon (P:Program)(R:CodeRel)(x:Ctx)(σ:St)(a:Act)(w:World)(o:Oper)(y:X)(bx:List Bx):Prop:=
 ∀(r:Option Nat) (next:Act->World->Prop) (Q:Exit->Act->World->Prop),
  (∀(K':Kn) (C':List CB) (v:Value) (w':World),Em.Rel P R x K' C' ⟨σ.tm,bx⟩ a w'->Rep K' C' y v->next (a.put o.dst v) w')->o.uponIn (Fr r) 0 P a next Q ((execOp a.eval o).run P w)
theorem OpOk.upon (h:OpOk P R x σ a w o y bx):Upon P R x σ a w o y bx:=by
 obtain ⟨n,m,B,v,u,l,A,f,j⟩:=h;intro r next Q q
 rw [l];rcases A with rfl|⟨rfl,rfl⟩;·exact q n m v u f j
 exact q n m undef u f j
theorem callsIn_fr {r:Option Nat}{n:Nat}{f:FuncId}{args:Array Value}{Q:Ending->World->Prop}(h:Calls P f args w Q):CallsIn (Fr r) n P f args w Q:=
 (callsIn_wide (n:=n)).2 h
theorem dataL_rep {K2:Kn}(hI:Inv P R K C σ.bx w)(hK:KLe K K2){args ds:List X}{cargs:Array Value}(h:ArgsRep K C args cargs)(e:dataL σ.bx raw args=some ds)
  (hrow:(∀(b o:Nat) (u:Value),Owns C σ.bx b o->w.cell? ⟨b,o,none⟩=some u->K2 b o=some u)\/rowsL args=[]):ArgsRep K2 C ds cargs:=by
 obtain ⟨m,n⟩:=dataL_get e;refine ⟨by rw [h.1,m],fun j z v f ev=>?_⟩;have q:=(qak.1 f).1;obtain ⟨A,a,l⟩:=n j args[j] (qad (by omega));rw [f] at a;cases a;refine (h.2 j _ v (qad (by omega)) ev).data hI hK (hrow.imp_right fun y=>?_) l<;>simp_all[List.eq_nil_iff_forall_not_mem,mem_rowsL]
theorem argsRep_append {as cs:List X}{va vc:Array Value}(h:ArgsRep K C as va)(h':ArgsRep K C cs vc):ArgsRep K C (as++cs) (va++vc):=by
 refine ⟨by simp [h.1,h'.1],fun j z v e a=>?_⟩;by_cases f:j<as.length;·rw [qar f] at e;rw [Array.getElem?_append_left (by rw [h.1]<;>grind)] at a;exact h.2 j z v e a
 rw [qaz (by omega)] at e;rw [Array.getElem?_append_right (by rw [h.1];omega),h.1] at a;exact h'.2 _ z v e a
theorem op_call {f:Operand}{args:Array Operand}{tys:Array TypeId}{t1:TypeId}{f':Opd}{ts:List TypeId}{qs:List Opd}{own ref:Bool}{yf:X}{ys:List X}(hΓ:GamOk P R Γ)(h:Rel P R x K C σ a w)(ho:o.op=.call ⟨.value f,args,tys⟩)(hf:trOpd P R.gl t1 f=some f')
  (hq:trOpds P R.gl ts args.toList=some qs) (ef:σ.ev f'=some yf) (eq:evs σ qs=some ys) (e:callX Γ own ref raw yf ys σ.bx=some (y,bx,fp)):Upon P R x σ a w o y bx:=by
 have rf:=ev_rep h.inv.glob h.tm hf ef;obtain ⟨q1,q2⟩:=evs_rep h.inv.glob h.tm hq eq;have B:ArgsRep K C ys (args.map a.eval):=⟨by grind,fun j z v e e'=>q2 j z v e (by grind)⟩;have F:∀(g:FuncId) (all:Array Value) (Q':Ending->World->Prop),(execOp a.eval o).run P w=(callFunc g all).run P w->FnOk P g->Calls P g all w Q'->(∀e w',Q' e w'->∃(v:Value) (K':Kn) (C':List CB),e=.returned v/\Em.Rel P R x K' C' ⟨σ.tm,bx⟩ a w'/\Rep K' C' y v)->Upon P R x σ a w o y bx:=by
  intro g all Q' A H V hQ r next Q hn
  rw [A,H all w];rw [Oper.uponIn_enter];refine ⟨fun hd=>by grind[Fr,Fence.wide],callsIn_fr (V.mono fun e w' hq=>?_)⟩;obtain ⟨v,K',C',rfl,hr,hp⟩:=hQ e w' hq;exact hn K' C' v w' hr hp
 generalize Z:a.eval f=vf at rf;unfold callX at e;split at e
 ·grind
 rename_i as n;split at e
 ·
  rename_i g M;cases rf with
  |fn hs hr=>
   rename_i vs;have E:ArgsRep K C M vs:=⟨hs,hr⟩;have A:(execOp a.eval o).run P w=(callFunc g (args.map a.eval++vs)).run P w:=by simp [execOp,ho,resolve,Deferred.ofValue,Z,invoke]
   split at e
   ·rename_i V;simp only [qab,Bool.not_eq_true'] at V;obtain ⟨⟨pf,pc⟩,Y⟩:=V;rw [pc] at n;simp at n;split at e
    ·grind
    rename_i z hz;split at e
    ·rename_i m;simp only [qab] at m;simp at e;obtain ⟨rfl,rfl,_⟩:=e;by_cases U:rowsL ys=[];·have N:=argsRep_append (dataL_rep h.inv (KLe.refl K) B n (.inr U)) E;obtain ⟨H,q⟩:=pureD_sound hΓ h N Y hz m.1;exact F g _ _ A H q fun e w' hq=>hq.step
     have pd:z.plain=true:=by
      rcases Bool.or_eq_true _ _▸m.2 with h1|h1
      ·grind
      ·grind
     have hK:KLe K (seen w):=fun b o v e=>h.inv.known b o v e;have N:=argsRep_append (dataL_rep h.inv hK B n (.inl fun b o u _ hu=>hu)) (⟨E.1,fun j z v e e'=>(E.2 j z v e e').mono hK (CLe.refl _)⟩:ArgsRep (seen w) C M vs);obtain ⟨H,q⟩:=pureD_plain hΓ h N Y hz pd;exact F g _ _ A H q fun e w' hq=>hq.step
    grind
   split at e
   ·rename_i m;have N:ArgsRep K C as (args.map a.eval):=by
     cases S:ref with
     |true=>grind
     |false=>rw [S] at n m;simp at n;simp only [Bool.false_or] at m;exact dataL_rep h.inv (KLe.refl K) B n (.inr (List.isEmpty_iff.1 m))
    split at e
    ·grind
    rename_i z pb pe hz;simp at e;obtain ⟨rfl,rfl,_⟩:=e;obtain ⟨H,q⟩:=callRef_fn hΓ h (argsRep_append N E) hz;exact F g _ _ A H q fun e w' hq=>hq.step
   grind
 ·
  rename_i i;cases rf with
  |yl V=>
   rename_i l;split at e
   ·rename_i m;have N:ArgsRep K C as (args.map a.eval):=by
     cases S:ref with
     |true=>grind
     |false=>rw [S] at n m;simp at n;simp only [Bool.false_or] at m;exact dataL_rep h.inv (KLe.refl K) B n (.inr (List.isEmpty_iff.1 m))
    split at e
    ·grind
    rename_i z pb pe hz;simp at e;obtain ⟨rfl,rfl,_⟩:=e;intro r next Q hn
    obtain ⟨f0,pa,J,W,A,L⟩:=callRef_yl hΓ h V N hz r;have O:(execOp a.eval o).run P w=.ok (.round l f0 pa J W) w:=by simp [execOp,ho,resolve,Deferred.ofValue,Z,invoke,A]
    rw [O,Oper.uponIn_round];refine ⟨fun hd=>by grind[Fr,Fence.wide],L.mono fun e w' hq=>?_⟩;obtain ⟨v,K',C',rfl,hr,hp⟩:=hq.step
    grind
   grind
 grind
end
section
variable {args:Array Operand}{i:I}{qs:List Opd}{l:List Operand}{sz:Nat}{p z':Opd}{z:Operand}{lo':Option Opd}{lo:Option Operand}
variable {P:Program} {R:CodeRel} {x:Ctx} {K:Kn} {C:List CB} {σ:St} {a:Act} {w:World}
variable {o:Oper} {y:X} {bx:List Bx} {A:Ann} {Γ:Gam} {fp:FP}
theorem map_some {α β:Type}{f:α->β}{o:Option α}{b:β}(h:o.map f=some b):∃a,o=some a/\f a=b:=by intros;simp_all
theorem trOpds_two {ts:List TypeId}{q:Opd}(h:trOpds P R.gl ts l=some [p,q]):∃a b t t',l=[a,b]/\trOpd P R.gl t a=some p/\trOpd P R.gl t' b=some q:=by
 cases l with
 |nil=>grind[trOpds]
 |cons a r=>
  simp only [trOpds] at h;cases j:trOpd P R.gl (hd0 ts) a with
  |none=>grind
  |some p'=>
   simp only [j] at h;obtain ⟨y,f,e⟩:=map_some h;cases e;cases r with
   |nil=>grind[trOpds]
   |cons b s=>
    simp only [trOpds] at f;cases m:trOpd P R.gl (hd0 ts.tail) b with
    |none=>grind
    |some q'=>
     simp only [m] at f;obtain ⟨w,n,e⟩:=map_some f;cases e;cases s with
     |nil=>grind
     |cons c u=>grind[trOpds,map_some]
theorem trOpds_one {ts:List TypeId}(h:trOpds P R.gl ts l=some [p]):∃a t,l=[a]/\trOpd P R.gl t a=some p:=by
 cases l with
 |nil=>grind[trOpds]
 |cons a r=>
  simp only [trOpds] at h;cases f:trOpd P R.gl (hd0 ts) a with
  |none=>grind
  |some p'=>
   simp only [f] at h;obtain ⟨n,j,e⟩:=map_some h;cases e;cases r with
   |nil=>grind
   |cons b s=>simp only [trOpds] at j;cases m:trOpd P R.gl (hd0 ts.tail) b<;>simp_all
theorem step_len {tys:Array TypeId}(h:Rel P R x K C σ a w)(ho:o.op=.call ⟨.builtin .len,args,tys⟩)
  (htr:(match (tys[0]?).bind P.underlying,qs with|some (.slice _),[x]=>some (I.len x)|some .string,[x]=>some (.slen x)|some (.map _ _),[x]=>some (.mlen x)|_,_=>none)=some i) (hq:trOpds P R.gl tys.toList args.toList=some qs) (hs:stepI Γ σ i=some (y,bx,fp)):Upon P R x σ a w o y bx:=by
 split at htr
 ·rename_i e q A;cases htr;obtain ⟨t,m,j⟩:=qaG.1 A;obtain ⟨p,H,u,l⟩:=trOpds_one hq;simp only [stepI] at hs;split at hs;next es f=>cases hs;obtain ⟨L,B,F⟩:=rep_len (ev_rep h.inv.glob h.tm l f) rfl;exact (OpOk.still h (run_builtin_len ho u m j F (.inl ⟨_,_,_,rfl,rfl⟩)) (.v rfl)).upon
  next n f=>cases hs;obtain ⟨L,B,F⟩:=rep_len (ev_rep h.inv.glob h.tm l f) rfl;exact (OpOk.still h (run_builtin_len ho u m j F (.inl ⟨_,_,_,rfl,rfl⟩)) (.v rfl)).upon
  grind
 ·rename_i q A;cases htr;obtain ⟨t,m,j⟩:=qaG.1 A;obtain ⟨p,H,u,l⟩:=trOpds_one hq;simp only [stepI] at hs;split at hs;next s f=>cases hs;exact (OpOk.still h (run_builtin_len ho u m j (rep_v (ev_rep h.inv.glob h.tm l f)) (.inr ⟨s,rfl,rfl,rfl⟩)) (.v rfl)).upon
  grind
 ·rename_i M e q A;cases htr;obtain ⟨t,m,j⟩:=qaG.1 A;obtain ⟨p,H,u,l⟩:=trOpds_one hq;have E:args=#[p]:=by rw [<-Array.toArray_toList (xs:=args),u]
  subst E;simp only [stepI] at hs;split at hs
  ·rename_i i f;split at hs;next es J=>cases hs;exact (op_mlen h ho m j l f (.inl ⟨i,rfl,J⟩)).upon
   grind
  next f=>cases hs;exact (op_mlen (es:=[]) h ho m j l f (.inr ⟨rfl,rfl⟩)).upon
  grind
 grind
theorem step_mm {isMax:Bool}{tys:Array TypeId}(h:Rel P R x K C σ a w)(ho:o.op=.call ⟨.builtin (if isMax then .max else .min),args,tys⟩)(hq:trOpds P R.gl tys.toList args.toList=some qs)
  (hs:stepI Γ σ (.mm isMax qs)=some (y,bx,fp)):Upon P R x σ a w o y bx:=by
 simp only [stepI] at hs;split at hs;next m r f=>obtain ⟨z,hz,e⟩:=map_some hs;cases e;exact (op_mm h ho hq f hz).upon
 grind
theorem step_app {tys:Array TypeId}(h:Rel P R x K C σ a w)(ho:o.op=.call ⟨.builtin .append,args,tys⟩){own:Bool}
  (htr:(match (tys[0]?).bind P.underlying,(tys[1]?).bind P.underlying,qs with
    |some (.slice e),some (.slice _),[s,x]=>match sizeP P e,bytesP P e,zeroP P e with
     |some n,some (b+1),some _=>some (I.app own n (b+1) s x)
     |_,_,_=>none
    |_,_,_=>none)=some i) (hq:trOpds P R.gl tys.toList args.toList=some qs) (hs:stepI Γ σ i=some (y,bx,fp)):Upon P R x σ a w o y bx:=by
 split at htr
 ·rename_i e e1 s z N O;split at htr
  ·rename_i n b zr W U hz;cases htr;obtain ⟨t0,J,m⟩:=qaG.1 N;obtain ⟨t1,L,u⟩:=qaG.1 O;obtain ⟨p,q,tp,tq,V,Y,H⟩:=trOpds_two hq;simp only [stepI] at hs;split at hs
   ·rename_i ys yz evs B;split at hs
    ·grind
    rename_i Q pa l;split at hs
    ·grind
    rename_i A;have A:Q=n:=by simpa using A
    subst A;split at hs
    ·rename_i S Z;split at hs
     ·rename_i E;simp only [qab,qaQ] at E;obtain ⟨rfl,f⟩:=E;obtain ⟨k1,k2,k3⟩:=op_app_sl h ho V J L m u W U hz (by omega) Y H evs B l f;split at hs
      ·split at hs;next j=>cases hs;exact (k1 (List.isEmpty_iff.1 j)).upon
       rename_i j;cases hs;exact (k3 (fun e=>j (by grind))).upon
      cases hs;exact k2.upon
     grind
    ·rename_i ib pb len;split at hs
     ·rename_i S Z M;split at hs;next E=>simp only [qab,qaQ] at E;obtain ⟨⟨⟨rfl,F⟩,f⟩,_⟩:=E;cases hs;exact (op_app_bs h ho V J L m u W U hz (by omega) Y H evs B l M F f).upon
      grind
     grind
    grind
   grind
  grind
 grind
theorem step_iaddr {arr:Option Nat}{t t1 t2 e:TypeId}{iz:Operand}{i':Opd}(h:Rel P R x K C σ a w)(ho:o.op=.indexAddr t z iz)(hu:(arr=none/\P.underlying t=some (.slice e))\/(∃m,arr=some m/\P.underlying t=some (.array m e)))(hs:sizeP P e=some sz)
  (hz:trOpd P R.gl t1 z=some z') (hi:trOpd P R.gl t2 iz=some i') (hst:stepI Γ σ (.iaddr arr sz z' i')=some (y,bx,fp)):Upon P R x σ a w o y bx:=by
 simp only [stepI] at hst;split at hst
 ·rename_i Z n u F;obtain ⟨Y,q,A⟩:=qaG.1 F;split at hst
  ·rename_i W s H;split at hst
   ·rename_i l;have l:s=sz:=by simpa using l
    subst l;obtain ⟨O,L,B⟩:=map_some hst;simp only [qaM] at B;obtain ⟨rfl,rfl,_⟩:=B;rcases hu with ⟨_,hu⟩|⟨m,j,_⟩;·exact (op_iaddr_sl h ho hu hs hz hi u q A L).upon
    grind
   grind
  ·rename_i S M len;split at hst
   ·rename_i s H J;split at hst
    ·rename_i E;simp only [qab,qaQ,qaI] at E;obtain ⟨rfl,f⟩:=E;cases hst;rcases hu with ⟨_,hu⟩|⟨m,j,_⟩;·exact (op_iaddr_bs h ho hu hs hz hi u q A J f).upon
     grind
    grind
   grind
  ·rename_i len U Q V;split at hst
   ·rename_i f;cases hst;rcases hu with ⟨j,_⟩|⟨m,j,hu⟩
    ·grind
    cases j;exact (op_iaddr_arr h ho hu hs hz hi u q A f rfl).upon
   grind
  ·rename_i len N;split at hst
   ·rename_i f;cases hst;rcases hu with ⟨j,_⟩|⟨m,j,hu⟩
    ·grind
    cases j;exact (op_iaddr_arr h ho hu hs hz hi u q A f rfl).upon
   grind
  grind
 grind
theorem step_slice {t t1 e:TypeId}{hi mx:Option Operand}{hi' mx':Option Opd}(h:Rel P R x K C σ a w)(ho:o.op=.slice t z lo hi mx)(hu:P.underlying t=some (.slice e))(hs:sizeP P e=some sz)
  (hz:trOpd P R.gl t1 z=some z') (hlo:trOpt P R.gl lo=some lo') (hhi:trOpt P R.gl hi=some hi') (hmx:trOpt P R.gl mx=some mx') (hor:mx=none\/hi.isSome=true) (hst:stepI Γ σ (.slice sz z' lo' hi' mx')=some (y,bx,fp)):Upon P R x σ a w o y bx:=by
 simp only [stepI] at hst;split at hst
 ·rename_i Y s L B;split at hst
  ·rename_i l F el A;split at hst
   ·rename_i j;simp only [qab,qaQ,qaI] at j;obtain ⟨⟨rfl,M⟩,N⟩:=j;cases mx with
    |none=>simp only [trOpt,qah] at hmx;subst hmx;cases hst;exact (op_slice_sl h ho hu hs hz hlo hhi rfl B el A M N _ (.inl ⟨rfl,rfl⟩)).upon
    |some m=>
     have n:=hmx;simp only [trOpt] at hmx;obtain ⟨W,S,rfl⟩:=map_some hmx;simp only at hst;split at hst
     ·rename_i U Q;split at hst
      ·rename_i f;have f:F=U:=by simpa using f
       subst f;cases hst;have q:hi.isSome=true:=by rcases hor with E|E;cases E;exact E
       refine (op_slice_sl h ho hu hs hz hlo hhi n B el A M N true (.inr ⟨m,rfl,q,?_,rfl⟩)).upon;exact optNat_is h.inv.glob h.tm n Q
      grind
     grind
   grind
  grind
 ·rename_i i V len B;split at hst
  ·rename_i l F el A;have H:mx=none:=by
    cases mx with
    |none=>rfl
    |some m=>simp_all[trOpt]
   subst H;split at hst
   ·rename_i j;simp only [qab,qaI] at j;split at hst
    ·rename_i f;have f:l=F:=by simpa using f
     cases hst;exact (op_slice_bs h ho hu hs hz hlo hhi B el A j.1 j.2 (.inl ⟨f,rfl⟩)).upon
    rename_i J;split at hst
    ·rename_i s L O;split at hst
     ·rename_i u;have u:s=sz:=by simpa using u
      subst u;cases hst;exact (op_slice_bs h ho hu hs hz hlo hhi B el A j.1 j.2 (.inr ⟨fun e=>J (by grind),⟨L,O⟩,rfl⟩)).upon
     grind
    grind
   grind
  grind
 grind
theorem trOpt_some (h:trOpt P R.gl lo=some lo'):lo'.isSome=lo.isSome:=by
 cases lo with
 |none=>grind[trOpt]
 |some p=>simp only [trOpt] at h;obtain ⟨q,_,rfl⟩:=map_some h;rfl
set_option maxHeartbeats 1600000 in
theorem stepI_sound (hΓ:GamOk P R Γ)(h:Rel P R x K C σ a w)(htr:trOp P R.gl A o=some i)(hs:stepI Γ σ i=some (y,bx,fp)):Upon P R x σ a w o y bx:=by
 unfold trOp at htr;split at htr;next z B=>obtain ⟨q,H,rfl⟩:=map_some htr;simp only [stepI] at hs;obtain ⟨v,J,e⟩:=map_some hs;cases e;exact (op_mov h (.inl B) H J).upon
 next z B=>obtain ⟨q,H,rfl⟩:=map_some htr;simp only [stepI] at hs;obtain ⟨v,J,e⟩:=map_some hs;cases e;exact (op_mov h (.inr B) H J).upon
 ·rename_i c p q B;split at htr
  ·rename_i c' p' q' M L H;cases htr;simp only [stepI] at hs;split at hs;next t y1 y2 F O e3=>cases hs;exact (op_pick h B M L H F O e3).upon
   grind
  grind
 next e B=>obtain ⟨l,hl,rfl⟩:=map_some htr;simp only [stepI,qah,qaM] at hs;obtain ⟨rfl,rfl,_⟩:=hs;exact (op_alloc h B hl).upon
 ·rename_i t z B;obtain ⟨q,H,rfl⟩:=map_some htr;simp only [stepI] at hs;split at hs
  ·grind
  rename_i v J;split at hs;next h1=>cases hs;exact (op_box h B H J h1).upon
  grind
 ·rename_i t ph B;split at htr
  ·rename_i fs z E hz;split at htr
   ·rename_i pi;obtain ⟨qs,H,rfl⟩:=map_some htr;simp only [stepI] at hs;split at hs
    ·grind
    rename_i ps L;obtain ⟨cs,Q,e⟩:=map_some hs;cases e;exact (op_build_struct h B E hz pi H L Q).upon
   grind
  ·rename_i m e z E hz;obtain ⟨n,N,htr⟩:=qaG.1 htr;obtain ⟨qs,H,rfl⟩:=map_some htr;simp only [stepI] at hs;split at hs
   ·grind
   rename_i ps L;obtain ⟨cs,Q,e⟩:=map_some hs;cases e;exact (op_build_arr h B E hz N H L Q).upon
  grind
 ·rename_i t len ph B;split at htr
  ·rename_i e E;split at htr
   ·rename_i z qr hz H;split at htr
    ·rename_i hl;cases htr;simp only [stepI] at hs;split at hs
     ·grind
     rename_i ps L;split at hs
     ·rename_i Z;have Z:len=ps.length:=by simpa using Z
      obtain ⟨es,Q,e⟩:=map_some hs;cases e;exact (op_bslice h B E hz hl H L Z Q).upon
     grind
    grind
   grind
  grind
 ·rename_i t z B;split at htr
  ·rename_i n q N H;cases htr;simp only [stepI] at hs;split at hs
   ·grind
   rename_i p L;obtain ⟨v,J,e⟩:=map_some hs;cases e;exact (op_load h B N H L J).upon
  grind
 ·rename_i t p z B;split at htr
  ·rename_i n p' z' N L hz;cases htr;simp only [stepI] at hs;split at hs;next yp yz F O=>obtain ⟨qi,U,e⟩:=map_some hs;cases e;exact (op_store h B N L hz F O U).upon
   grind
  grind
 ·rename_i z B;obtain ⟨q,H,rfl⟩:=map_some htr;simp only [stepI] at hs;split at hs<;>first
   |(rename_i J
     cases hs;exact (op_nilck h B H J rfl).upon)
   |grind
 ·rename_i op t p q u B;split at htr
  ·rename_i p' q' L H;split at htr
   ·rename_i E;cases htr;simp only [stepI] at hs;split at hs;next m n F O=>cases hs;have:=op_beq h B E (.inl rfl) L H F O;simpa using this.upon
    grind
   ·rename_i E;cases htr;simp only [stepI] at hs;split at hs;next m n F O=>cases hs;have:=op_beq h B E (.inr rfl) L H F O;simpa using this.upon
    grind
   ·rename_i e E;split at htr
    ·cases htr;simp only [stepI] at hs;split at hs<;>first
      |(rename_i J
        cases hs;have:=op_snil h B E (.inl rfl) rfl L J rfl;simpa using this.upon)
      |grind
    grind
   ·rename_i e E;split at htr
    ·cases htr;simp only [stepI] at hs;split at hs<;>first
      |(rename_i J
        cases hs;have:=op_snil h B E (.inr rfl) rfl L J rfl;simpa using this.upon)
      |grind
    grind
   ·rename_i ms E;split at htr
    ·cases htr;simp only [stepI] at hs;split at hs;next F=>cases hs;exact (op_inil (neg:=false) h B rfl E L F (.inl ⟨rfl,rfl⟩)).upon
     next F=>cases hs;exact (op_inil (neg:=false) h B rfl E L F (.inr ⟨rfl,rfl⟩)).upon
     grind
    grind
   ·rename_i ms E;split at htr
    ·cases htr;simp only [stepI] at hs;split at hs;next F=>cases hs;exact (op_inil (neg:=true) h B rfl E L F (.inl ⟨rfl,rfl⟩)).upon
     next F=>cases hs;exact (op_inil (neg:=true) h B rfl E L F (.inr ⟨rfl,rfl⟩)).upon
     grind
    grind
   ·cases htr;simp only [stepI] at hs;split at hs;next m n F O=>obtain ⟨z,hz,e⟩:=map_some hs;cases e;exact (op_bin h B L H F O hz).upon
    grind
   ·cases htr;simp only [stepI] at hs;split at hs;next m n F O=>obtain ⟨z,hz,e⟩:=map_some hs;cases e;exact (op_bin h B L H F O hz).upon
    grind
   ·obtain ⟨ks,Q,rfl⟩:=map_some htr;simp only [stepI] at hs;split at hs;next m n F O=>obtain ⟨z,hz,e⟩:=map_some hs;cases e;have:=op_ceq h B Q (.inl rfl) L H F O hz;simpa using this.upon
    grind
   ·obtain ⟨ks,Q,rfl⟩:=map_some htr;simp only [stepI] at hs;split at hs;next m n F O=>obtain ⟨z,hz,e⟩:=map_some hs;cases e;have:=op_ceq h B Q (.inr rfl) L H F O hz;simpa using this.upon
    grind
   grind
  grind
 ·rename_i op t z B;obtain ⟨q,H,rfl⟩:=map_some htr;simp only [stepI] at hs;split at hs;next m F=>obtain ⟨u,E,e⟩:=map_some hs;cases e;exact (op_un h B H F E).upon
  grind
 ·rename_i s d z B;split at htr
  ·rename_i ks k q pa Y H;cases htr;simp only [stepI] at hs;split at hs;next k' n F=>cases hs;exact (op_conv h B pa Y H F).upon
   grind
  ·rename_i q pa Y H;cases htr;simp only [stepI] at hs;split at hs;next b F=>cases hs;exact (op_idc h B pa Y H F).upon
   grind
  ·rename_i e q pa Y H;split at htr
   ·rename_i pz;cases htr;simp only [stepI] at hs;split at hs;next b F=>cases hs;exact (op_s2b h B pa Y pz H F).upon
    grind
   grind
  grind
 ·rename_i t B;split at htr;next kt e E=>cases htr;simp only [stepI,qah,qaM] at hs;obtain ⟨rfl,rfl,_⟩:=hs;exact (op_mkmap h B E).upon
  grind
 ·rename_i t m k v B;split at htr
  ·rename_i kt e m' E hm;split at htr
   ·rename_i k' v' kk hk J V;cases htr;simp only [stepI] at hs;split at hs
    ·rename_i i kv y1 em ek ev;split at hs
     ·rename_i es U;split at hs;next M=>simp only [qab] at M;obtain ⟨po,L,F⟩:=map_some hs;cases F;exact (op_mput h (.inl B) E V hm hk J em ek ev U M.1.1 M.1.2 M.2 L).upon
      grind
     grind
    grind
   grind
  grind
 ·rename_i t m k v B;split at htr
  ·rename_i kt e m' E hm;split at htr
   ·rename_i k' v' kk hk J V;cases htr;simp only [stepI] at hs;split at hs
    ·rename_i i kv y1 em ek ev;split at hs
     ·rename_i es U;split at hs;next M=>simp only [qab] at M;obtain ⟨po,L,F⟩:=map_some hs;cases F;exact (op_mput h (.inr B) E V hm hk J em ek ev U M.1.1 M.1.2 M.2 L).upon
      grind
     grind
    grind
   grind
  grind
 ·rename_i t m k ok B;split at htr
  ·rename_i kt e m' E hm;split at htr
   ·rename_i k' z kk hk hz V;cases htr;simp only [stepI] at hs;split at hs
    ·rename_i i kv em ek;split at hs
     ·rename_i es U;split at hs;next M=>obtain ⟨y1,hg,F⟩:=map_some hs;cases F;exact (op_mget h B E V hz hm hk em ek (.inl ⟨i,rfl,U⟩) M hg).upon
      grind
     grind
    ·rename_i kv em ek;split at hs;next M=>obtain ⟨y1,hg,F⟩:=map_some hs;cases F;exact (op_mget h B E V hz hm hk em ek (.inr ⟨rfl,rfl⟩) M hg).upon
     grind
    grind
   grind
  grind
 ·rename_i t z B;split at htr
  ·grind
  next d q hd E H=>cases htr;simp only [stepI] at hs;obtain ⟨v,J,F⟩:=map_some hs;cases F;exact (op_mkifc h B E (fun ms e=>hd ms (by grind)) H J).upon
  grind
 next f first qf B=>
  split at htr;next Q=>obtain ⟨qs,H,rfl⟩:=map_some htr;simp only [stepI] at hs;obtain ⟨cs,M,e⟩:=map_some hs;cases e;exact (op_mkfn h B Q H M).upon
  grind
 ·rename_i t l c B;split at htr
  ·rename_i e E;split at htr
   ·rename_i z b l' c' hz U hl M;cases htr;simp only [stepI] at hs;split at hs
    ·rename_i n m F O;obtain ⟨yl,el,nl⟩:=qaG.1 F;obtain ⟨yc,ec,nc⟩:=qaG.1 O;split at hs;next W=>simp only [qab,qaI] at W;cases hs;exact (op_mksl h B E hz U hl M el ec nl nc W.1 W.2).upon
     grind
    grind
   grind
  grind
 ·rename_i t z lo hi mx B;split at htr
  ·rename_i z' qb pu E hz pf pe pg;cases htr;have pv:mx=none:=by
    cases mx with
    |none=>rfl
    |some m=>simp_all[trOpt]
   subst pv;simp only [stepI] at hs;split at hs
   ·rename_i s es;split at hs
    ·rename_i l hh el eh;split at hs;next M=>simp only [qab,qaI] at M;cases hs;exact (op_sslice h B E hz pf pe es el eh M.1 M.2).upon
     grind
    grind
   grind
  ·rename_i e z' qb pu qm E hz pf pe pg;split at htr
   ·rename_i pk;obtain ⟨n,N,rfl⟩:=map_some htr;refine step_slice h B E N hz pf pe pg ?_ hs;rw [Bool.or_eq_true] at pk;rcases pk with h1|h1;·left;have:=trOpt_some pg<;>simp_all
    grind[trOpt_some]
   grind
  grind
 ·rename_i t z f B;split at htr
  ·rename_i fs E;split at htr
   ·rename_i fd q Q H;split at htr
    ·rename_i n N;cases htr;simp only [stepI] at hs;split at hs;next i e k J=>cases hs;exact (op_faddr h B E Q N H J rfl).upon
     next cs J=>cases hs;exact (op_faddr h B E Q N H J rfl).upon
     grind
    grind
   grind
  grind
 ·rename_i t z f B;split at htr
  ·rename_i fs E;split at htr
   ·rename_i fd q Q H;obtain ⟨n,N,rfl⟩:=map_some htr;simp only [stepI] at hs;split at hs
    ·rename_i cs J;cases n with
     |none=>simp only at hs;obtain ⟨v,pb,e⟩:=map_some hs;cases e;exact (op_field h B E Q rfl N H J pb).upon
     |some n=>
      simp only at hs;split at hs;next hl=>cases hs;exact (op_field h B E Q rfl N H J (by grind)).upon
      grind
    grind
   grind
  grind
 ·rename_i t z i B;split at htr;next e z' i' E hz hi=>obtain ⟨n,N,rfl⟩:=map_some htr;exact step_iaddr h B (.inl ⟨rfl,E⟩) N hz hi hs
  next m e z' i' E hz hi=>obtain ⟨n,N,rfl⟩:=map_some htr;exact step_iaddr h B (.inr ⟨m,rfl,E⟩) N hz hi hs
  grind
 ·rename_i t z i B;split at htr
  ·rename_i m e z' i' E hz hi;split at htr
   ·rename_i n r N hr;cases htr;simp only [stepI] at hs;split at hs
    ·rename_i cs j J hj;obtain ⟨yi,ei,pc⟩:=qaG.1 hj;split at hs
     ·rename_i pj;cases r with
      |none=>simp only at hs;obtain ⟨v,pb,e⟩:=map_some hs;cases e;exact (op_aidx h B E N hr hz hi J ei pc pj pb).upon
      |some k=>
       simp only at hs;split at hs;next hl=>cases hs;exact (op_aidx h B E N hr hz hi J ei pc pj (by grind)).upon
       grind
     grind
    grind
   grind
  ·rename_i z' i' E hz hi;cases htr;simp only [stepI] at hs;split at hs
   ·rename_i s n J hj;obtain ⟨yi,ei,pc⟩:=qaG.1 hj;split at hs;next b U=>cases hs;exact (op_sidx h B E hz hi J ei pc U).upon
    grind
   grind
  grind
 ·rename_i z i B;obtain ⟨q,H,rfl⟩:=map_some htr;simp only [stepI] at hs;split at hs;next xs J=>obtain ⟨v,pb,e⟩:=map_some hs;cases e;exact (op_extract h B H J pb).upon
  grind
 ·rename_i c B;split at htr
  ·grind
  rename_i qe S;obtain ⟨qk,pn,tys⟩:=c;dsimp only at htr S;split at htr
  ·rename_i f;obtain ⟨f',Q,rfl⟩:=map_some htr
   grind[stepI,op_call]
  ·grind[step_len]
  ·split at htr
   ·rename_i e qd qs E;obtain ⟨n,N,rfl⟩:=map_some htr;obtain ⟨t0,py,qa⟩:=qaG.1 E;simp only [stepI] at hs;split at hs
    ·rename_i i qq len y1 F O;split at hs
     ·rename_i qu es qt qn U pl;split at hs;next M=>cases hs;simp only [qab,qaQ,qaI] at M;obtain ⟨⟨pp,pr⟩,pt⟩:=M;subst pp;subst pr;obtain ⟨pd,ps,ta,tb,hl,pw,px⟩:=trOpds_two S;exact (op_copy h B hl py qa N pw px F O pl U pt).upon
      grind
     grind
    grind
   grind
  ·grind[step_mm]
  ·grind[step_mm]
  ·exact step_app h B htr S hs
  grind
 grind
end
section
variable {ops:Array Oper}{md:Region.Mode}
variable {P:Program} {R:CodeRel} {x:Ctx} {K:Kn} {C:List CB} {σ:St} {a:Act} {w:World}
variable {A:Ann} {Γ:Gam}
def GoesOn (md:Region.Mode)(ops:Array Oper)(acc M:List Nat):Prop:=
 (acc++M).Nodup/\(∀i,i∈M->i<ops.size)/\∀(M1 M2:List Nat) (j:Nat),M=M1++j::M2->∀(e:Edge),e∈(ops.getD j default).after.toList->Region.binds md e=true->e.on∈acc\/e.on∈M1
theorem ready_mem {listed:Array Bool}{acc:List Nat}(hs:listed.size=ops.size)(hl:∀i,i<ops.size->(listed.getD i true=true↔i∈acc))(hf:∀i,ops.size<=i->listed.getD i false=false){i:Nat}:
  i∈Region.ready md ops listed↔i<ops.size/\i∉acc/\∀(e:Edge),e∈(ops.getD i default).after.toList->Region.binds md e=true->e.on∈acc/\e.on<ops.size:=by
 have q:∀j,listed.getD j false=true↔j∈acc/\j<ops.size:=by
  intro j;by_cases u:j<ops.size
  ·grind
  ·grind
 simp only [Region.ready,List.mem_filter,List.mem_range,qab,Bool.not_eq_true'];constructor
 ·rintro ⟨a,l,f⟩
  have h:ops[i]?=some (ops.getD i default):=by simp [Array.getD,a]
  rw [h] at f;simp only [qao,Option.getD_some] at f;refine ⟨a,(fun w=>by grind),fun e m n=>?_⟩;have:=(Array.all_eq_true_iff_forall_mem.1 f) e (by simpa using m)<;>simp_all
 rintro ⟨a,l,f⟩
 have h:ops[i]?=some (ops.getD i default):=by simp [Array.getD,a]
 grind
theorem linearise_goes :∀(fuel t:Nat) (listed:Array Bool) (acc:List Nat),listed.size=ops.size->(∀i,i<ops.size->(listed.getD i true=true↔i∈acc))->acc.Nodup->(∀i,i∈acc->i<ops.size)->
  GoesOn md ops acc (Region.linearise.go md ops fuel t listed [])/\
   ((Region.linearise.go md ops fuel t listed []).length=fuel\/∃acc':List Nat,(∀i,i∈acc'↔i∈acc\/i∈Region.linearise.go md ops fuel t listed [])/\∀i,i<ops.size->i∉acc'->∃e:Edge,e∈(ops.getD i default).after.toList/\Region.binds md e=true/\¬(e.on∈acc'/\e.on<ops.size)):=by
 intro fuel;induction fuel with
 |zero=>intro t listed acc m E P H;simp only [Region.linearise.go,List.reverse_nil];exact ⟨⟨by grind,by simp,fun n A j e=>by simp_all⟩,.inl rfl⟩
 |succ fuel ih=>
  intro t listed acc m E P H;have O:∀i,ops.size<=i->listed.getD i false=false:=by intro i B;simp [Array.getD,m,Nat.not_lt.2 B]
  simp only [Region.linearise.go];change GoesOn md ops acc (match (Region.ready md ops listed)[t%(Region.ready md ops listed).length]? with
   |some i=>Region.linearise.go md ops fuel (t /(Region.ready md ops listed).length) (listed.setIfInBounds i true) [i]
   |none=>[].reverse)/\((match (Region.ready md ops listed)[t%(Region.ready md ops listed).length]? with
   |some i=>Region.linearise.go md ops fuel (t /(Region.ready md ops listed).length) (listed.setIfInBounds i true) [i]
   |none=>[].reverse).length=fuel+1\/∃acc':List Nat,(∀i,i∈acc'↔i∈acc\/i∈(match (Region.ready md ops listed)[t%(Region.ready md ops listed).length]? with
   |some i=>Region.linearise.go md ops fuel (t /(Region.ready md ops listed).length) (listed.setIfInBounds i true) [i]
   |none=>[].reverse))/\∀i,i<ops.size->i∉acc'->∃e:Edge,e∈(ops.getD i default).after.toList/\Region.binds md e=true/\¬(e.on∈acc'/\e.on<ops.size))
  cases B:(Region.ready md ops listed)[t%(Region.ready md ops listed).length]? with
  |none=>
   simp only [List.reverse_nil];have y:Region.ready md ops listed=[]:=by
    cases hr:Region.ready md ops listed with
    |nil=>rfl
    |cons u us=>grind[Nat.mod_lt]
   refine ⟨⟨by grind,by simp,fun n A j e=>by grind⟩,.inr ⟨acc,by simp,fun i f q=>?_⟩⟩;have J:i∉Region.ready md ops listed:=by rw [y];simp
   rw [ready_mem m E O] at J
   grind
  |some i=>
   simp only [];rw [linearise_go_acc,List.reverse_singleton,List.singleton_append];obtain ⟨W,Y,Z⟩:=(ready_mem m E O).1 (qap B);have F:∀j,j<ops.size->((listed.setIfInBounds i true).getD j true=true↔j∈i::acc):=by
    intro j l;by_cases w:j=i;·subst w;simp [Array.getD,m,l]
    have:(listed.setIfInBounds i true).getD j true=listed.getD j true:=by simp only [Array.size_setIfInBounds,m,l,dif_pos];have:=Array.getElem?_setIfInBounds_ne (xs:=listed) (a:=true) (i:=i) (j:=j) (fun e=>w e.symm);simpa [m,l] using this
    grind
   obtain ⟨⟨M,Q,S⟩,U⟩:=ih (t /(Region.ready md ops listed).length) (listed.setIfInBounds i true) (i::acc) (by grind) F (List.nodup_cons.2 ⟨Y,P⟩) (by grind);refine ⟨⟨?_,?_,?_⟩,?_⟩;·rw [List.cons_append,List.nodup_cons] at M;have V:(acc++i::Region.linearise.go md ops fuel (t /(Region.ready md ops listed).length) (listed.setIfInBounds i true) []).Perm (i::(acc++Region.linearise.go md ops fuel (t /(Region.ready md ops listed).length) (listed.setIfInBounds i true) [])):=List.perm_middle;exact V.nodup_iff.2 (List.nodup_cons.2 M)
   ·intro j l;rcases qal.1 l with rfl|l;exact W;exact Q j l
   ·intro n A j e L h N;cases n with
    |nil=>simp at e;rw [<-e.1] at h;exact .inl (Z L h N).1
    |cons u n=>
     simp at e;rcases S n A j e.2 L h N with f|f
     ·rcases qal.1 f with q|q;·right;rw [q,e.1];simp
      grind
     right;simp [f]
   rcases U with f|⟨acc',f,q⟩;·left;simp [f]
   right;refine ⟨acc',fun j=>?_,q⟩;rw [f j];simp;constructor
   ·grind
   grind
theorem nodup_full {n:Nat}{l:List Nat}(hn:l.Nodup)(hlt:∀i,i∈l->i<n)(hl:l.length=n):∀i,i<n->i∈l:=by
 intro i u;have f:∀j,j∈l->j∈List.range n:=fun j a=>List.mem_range.2 (hlt j a);rcases Classical.em (i∈l) with h|h;·exact h
 have m:=List.nodup_cons.2 ⟨h,hn⟩;have q:∀j,j∈i::l->j∈List.range n:=by intro j a;rcases qal.1 a with rfl|a;exact List.mem_range.2 u;exact f j a
 have:=List.Nodup.length_le_of_subset m q<;>grind
structure Order (ops:Array Oper) (L:List Nat):Prop where
 nodup:L.Nodup
 all:∀i,i∈L↔i<ops.size
 follows:∀(L1 L2:List Nat) (j:Nat),L=L1++j::L2->∀i,edged (ops.getD j default) i=true->i∈L1
theorem linearise_order (h0:(Region.linearise md ops 0).length=ops.size)(t:Nat):Order ops (Region.linearise md ops t):=by
 have E:∀i,i<ops.size->((Array.replicate ops.size false).getD i true=true↔i∈([]:List Nat)):=by intro i m;simp [Array.getD,m]
 have F:=fun t=>linearise_goes (md:=md) (ops:=ops) ops.size t (Array.replicate ops.size false) [] (by simp) E (by simp) (by simp);have e:∀t,Region.linearise md ops t=Region.linearise.go md ops ops.size t (Array.replicate ops.size false) []:=fun _=>rfl;rw [e] at h0;obtain ⟨⟨k1,N,W⟩,_⟩:=F 0;have f:=nodup_full (by grind) N h0;obtain ⟨⟨g1,P,Y⟩,Z⟩:=F t;rw [e];have B:(Region.linearise.go md ops ops.size t (Array.replicate ops.size false) []).length=ops.size:=by
  rcases Z with Q|⟨a,Q,M⟩
  ·grind
  ·
   rcases Classical.em (∀i,i<ops.size->i∈a) with hA|hA
   ·have q:∀i,i<ops.size->i∈Region.linearise.go md ops ops.size t (Array.replicate ops.size false) []:=fun i m=>by grind
    have h5:(Region.linearise.go md ops ops.size t (Array.replicate ops.size false) []).length<=ops.size:=by have:=List.Nodup.length_le_of_subset (by grind) (fun j A=>List.mem_range.2 (P j A));simpa using this
    have h6:ops.size<=(Region.linearise.go md ops ops.size t (Array.replicate ops.size false) []).length:=by have:=List.Nodup.length_le_of_subset (List.nodup_range (n:=ops.size)) (fun j A=>q j (List.mem_range.1 A));simpa using this
    omega
   exfalso;have U:∃L1 j L2,Region.linearise.go md ops ops.size 0 (Array.replicate ops.size false) []=L1++j::L2/\j∉a/\∀i,i∈L1->i∈a:=by
    have h:∃i,i∈Region.linearise.go md ops ops.size 0 (Array.replicate ops.size false) []/\i∉a:=by simp only [Classical.not_forall] at hA;obtain ⟨i,m,w⟩:=hA;exact ⟨i,f i m,w⟩
    generalize Region.linearise.go md ops ops.size 0 (Array.replicate ops.size false) []=L at h;clear k1 N W f h0;induction L with
    |nil=>grind
    |cons u us ih=>
     by_cases hu:u∈a
     ·obtain ⟨i,m,w⟩:=h;rcases qal.1 m with rfl|m
      ·grind
      obtain ⟨L1,j,L2,H,O,V⟩:=ih ⟨i,m,w⟩;exact ⟨u::L1,j,L2,by grind,O,fun k hk=>by grind⟩
     exact ⟨[],u,us,rfl,hu,by simp⟩
   obtain ⟨L1,j,L2,H,O,V⟩:=U;have A:=N j (by rw [H];simp);obtain ⟨J,l,S,hx⟩:=M j A O;rcases W L1 L2 j H J l S with h3|h3;·simp at h3
   exact hx ⟨V _ h3,N _ (by rw [H];simp [h3])⟩
 have y:=nodup_full (by grind) P B;refine ⟨by grind,fun i=>⟨P i,y i⟩,fun L1 L2 j e i l=>?_⟩;simp only [edged,List.any_eq_true,qab,qaQ] at l;obtain ⟨J,Q,M,rfl⟩:=l;have S:Region.binds md J=true:=by unfold Region.binds at M ⊢;split at M<;>simp_all
 rcases Y L1 L2 j e J Q S with h3|h3
 ·grind
 grind
theorem schedule_order (h:edgesOk ops=true)(mixed:Bool)(t:Nat):Order ops (Region.schedule mixed ops t):=by
 simp [edgesOk] at h
 grind[Region.schedule,linearise_order]
end
section
variable {tm tm':List (Nat×X)}{b b':List Bx}{l:List Opd}{p:X}
variable {P:Program} {R:CodeRel} {x:Ctx} {K:Kn} {C:List CB} {σ:St} {a:Act} {w:World}
variable {A:Ann} {Γ:Gam}
theorem ev_bx (tm:List (Nat×X))(b b':List Bx)(q:Opd):St.ev ⟨tm,b⟩ q=St.ev ⟨tm,b'⟩ q:=by cases q<;>rfl
theorem evs_bx (tm:List (Nat×X))(b b':List Bx):∀l,evs ⟨tm,b⟩ l=evs ⟨tm,b'⟩ l
 |[]=>rfl
 |q::r=>by simp only [evs,ev_bx tm b b' q,evs_bx tm b b' r]
theorem parts3_bx (tm:List (Nat×X))(b b':List Bx):∀l,parts3 ⟨tm,b⟩ l=parts3 ⟨tm,b'⟩ l
 |[]=>rfl
 |(i,j,q)::r=>by simp only [parts3,ev_bx tm b b' q,parts3_bx tm b b' r]
theorem parts2_bx (tm:List (Nat×X))(b b':List Bx):∀l,parts2 ⟨tm,b⟩ l=parts2 ⟨tm,b'⟩ l
 |[]=>rfl
 |(i,q)::r=>by simp only [parts2,ev_bx tm b b' q,parts2_bx tm b b' r]
theorem optNat_bx (tm:List (Nat×X))(b b':List Bx)(d:Nat)(l:Option Opd):optNat ⟨tm,b⟩ d l=optNat ⟨tm,b'⟩ d l:=by
 cases l<;>simp only [optNat]<;>grind[ev_bx]
def SameOn (tm tm':List (Nat×X))(l:List Opd):Prop:=∀n,Opd.t n∈l->lk tm n=lk tm' n
theorem ev_on (h:SameOn tm tm' l){q:Opd}(hq:q∈l):St.ev ⟨tm,b⟩ q=St.ev ⟨tm',b⟩ q:=by
 cases q with
 |t n=>exact h n hq
 |k y=>rfl
theorem evs_on {tm tm':List (Nat×X)}{b:List Bx}{l:List Opd}(h:SameOn tm tm' l):∀{m:List Opd},(∀q,q∈m->q∈l)->evs ⟨tm,b⟩ m=evs ⟨tm',b⟩ m
 |[],_=>rfl
 |q::r,hm=>by simp only [evs,ev_on (b:=b) h (hm q (by simp)),evs_on h (m:=r) (fun q hq=>hm q (by grind))]
theorem parts3_on {tm tm':List (Nat×X)}{b:List Bx}{l:List Opd}(h:SameOn tm tm' l):∀{m:List (Nat×Nat×Opd)},(∀q,q∈m.map (·.2.2)->q∈l)->parts3 ⟨tm,b⟩ m=parts3 ⟨tm',b⟩ m
 |[],_=>rfl
 |(i,j,q)::r,hm=>by simp only [parts3,ev_on (b:=b) h (hm q (by simp)),parts3_on h (m:=r) (fun q hq=>hm q (by grind))]
theorem parts2_on {tm tm':List (Nat×X)}{b:List Bx}{l:List Opd}(h:SameOn tm tm' l):∀{m:List (Nat×Opd)},(∀q,q∈m.map (·.2)->q∈l)->parts2 ⟨tm,b⟩ m=parts2 ⟨tm',b⟩ m
 |[],_=>rfl
 |(i,q)::r,hm=>by simp only [parts2,ev_on (b:=b) h (hm q (by simp)),parts2_on h (m:=r) (fun q hq=>hm q (by grind))]
theorem optNat_on (h:SameOn tm tm' l){d:Nat}{m:Option Opd}(hm:∀q,q∈m.toList->q∈l):optNat ⟨tm,b⟩ d m=optNat ⟨tm',b⟩ d m:=by
 cases m<;>grind[optNat,ev_on]
theorem loadX_tm (tm tm':List (Nat×X))(b:List Bx)(n:Option Nat)(p:X):loadX ⟨tm,b⟩ n p=loadX ⟨tm',b⟩ n p:=rfl
theorem stepI_on {i:I}(h:SameOn tm tm' i.opds):stepI Γ ⟨tm,b⟩ i=stepI Γ ⟨tm',b⟩ i:=by
 cases i with
 |build z ps=>grind[stepI,parts3_on,I.opds]
 |bslice n z ps=>grind[stepI,parts2_on,I.opds]
 |mkfn f l=>grind[stepI,evs_on,I.opds]
 |mm m l=>grind[stepI,evs_on,I.opds]
 |call o r w f l=>grind[stepI,ev_on,I.opds,evs_on]
 |slice s y lo hi B=>
  have j:=ev_on (b:=b) h (q:=y) (by simp [I.opds]);have u:=optNat_on (b:=b) h (d:=0) (m:=lo) (fun q a=>by grind[I.opds]);have E:=fun d=>optNat_on (b:=b) h (d:=d) (m:=hi) (fun q a=>by grind[I.opds]);have F:∀q,B=some q->St.ev ⟨tm,b⟩ q=St.ev ⟨tm',b⟩ q:=fun q a=>ev_on (b:=b) h (q:=q) (by grind[I.opds]);cases B with
  |none=>grind[stepI]
  |some q=>simp only [stepI,j,u,E,F q rfl]
 |sslice y lo hi=>
  have A:∀q,q∈(I.sslice y lo hi).opds↔q=y\/q∈lo.toList\/q∈hi.toList:=by intro q;cases lo<;>cases hi<;>simp [I.opds]
  have j:=ev_on (b:=b) h (q:=y) ((A y).2 (.inl rfl));have u:=optNat_on (b:=b) h (d:=0) (m:=lo) (fun q a=>(A q).2 (.inr (.inl a)))<;>grind[optNat_on,stepI]
 |pick c p q=>grind[stepI,ev_on,I.opds]
 |alloc z=>rfl
 |load n p=>grind[stepI,ev_on,I.opds,loadX_tm]
 |store n p q=>grind[stepI,ev_on,I.opds]
 |bin o p q=>grind[stepI,ev_on,I.opds]
 |beq o p q=>grind[stepI,ev_on,I.opds]
 |ceq ks o p q=>grind[stepI,ev_on,I.opds]
 |mksl n z p q=>grind[stepI,ev_on,I.opds]
 |iaddr ar s p q=>grind[stepI,ev_on,I.opds]
 |aidx n s r p q=>grind[stepI,ev_on,I.opds]
 |sidx p q=>grind[stepI,ev_on,I.opds]
 |app o s n p q=>grind[stepI,ev_on,I.opds]
 |mov p=>grind[stepI,ev_on,I.opds]
 |box p=>grind[stepI,ev_on,I.opds]
 |snil n p=>grind[stepI,ev_on,I.opds]
 |un n p=>grind[stepI,ev_on,I.opds]
 |conv n p=>grind[stepI,ev_on,I.opds]
 |idc p=>grind[stepI,ev_on,I.opds]
 |s2b p=>grind[stepI,ev_on,I.opds]
 |faddr n p=>grind[stepI,ev_on,I.opds]
 |field n s p=>grind[stepI,ev_on,I.opds]
 |nilck p=>grind[stepI,ev_on,I.opds]
 |extract p n=>grind[stepI,ev_on,I.opds]
 |len p=>grind[stepI,ev_on,I.opds]
 |slen p=>grind[stepI,ev_on,I.opds]
 |mkmap=>rfl
 |mput kk m k v=>grind[stepI,ev_on,I.opds]
 |mget kk o z m k=>grind[stepI,ev_on,I.opds]
 |copy sz d s=>grind[stepI,ev_on,I.opds]
 |mlen p=>grind[stepI,ev_on,I.opds]
 |mkifc p=>grind[stepI,ev_on,I.opds]
 |inil n p=>grind[stepI,ev_on,I.opds]
theorem rowOf_on {i off len:Nat}(h:b'[i]?=b[i]?):rowOf b' i off len=rowOf b i off len:=by grind[rowOf]
mutual
theorem data_on {b b':List Bx}{raw:Bool}:∀(z:X),(∀i,i∈z.rows->b'[i]?=b[i]?)->z.data b' raw=z.data b raw
 |.bs i off len,h=>by grind[X.data,rowOf_on,X.rows]
 |.agg cs,h=>by simp only [X.data,dataL_on cs (fun i hi=>h i (by grind[X.rows]))]
 |.tup cs,h=>by simp only [X.data,dataL_on cs (fun i hi=>h i (by grind[X.rows]))]
 |.ptr ..,_=>rfl
 |.yl _,_=>rfl
 |.mp _,_=>rfl
 |.ifc,_=>rfl
 |.fn ..,_=>rfl
 |.v _,_=>rfl
 |.sl ..,_=>rfl
 |.dp _,_=>rfl
theorem dataL_on {b b':List Bx}{raw:Bool}:∀(cs:List X),(∀i,i∈rowsL cs->b'[i]?=b[i]?)->dataL b' raw cs=dataL b raw cs
 |[],_=>rfl
 |z::r,h=>by simp only [dataL,data_on z (fun i hi=>h i (by grind[rowsL])),dataL_on r (fun i hi=>h i (by grind[rowsL]))]
end
theorem loadX_on {n:Option Nat}(h:∀i,i∈boxesRead p->b'[i]?=b[i]?):loadX ⟨tm,b'⟩ n p=loadX ⟨tm,b⟩ n p:=by
 have:loadCs ⟨tm,b'⟩ p=loadCs ⟨tm,b⟩ p:=by
  cases p with
  |ptr i e o=>grind[loadCs,boxesRead]
  |_=>rfl
 grind[loadX]
theorem srcOf_on (h:∀i,i∈p.rows->b'[i]?=b[i]?):srcOf b' p=srcOf b p:=by
 cases p with
 |bs i off len=>grind[srcOf,rowOf_on,X.rows]
 |_=>rfl
end
end Go.Em
