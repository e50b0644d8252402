/-.-/
import Derived.Orders
import Derived.Test.YtonnphbfclaigaaGreatDoorEmP2
set_option linter.all false
namespace Go.Em
variable {raw:Bool}
variable {P:Program} {R:CodeRel} {x:Ctx} {K:Kn} {C:List CB} {σ:St} {a:Act} {w:World}
variable {o:Oper} {y:X} {bx:List Bx} {A:Ann} {Γ:Gam} {fp:FP}
def Upon (P:Program)(R:CodeRel)(x:Ctx)(σ:St)(a:Act)(w:World)(o:Oper)(y:X)(bx:List Bx):Prop:=
 ∀(r:Option Nat) (next:Act->World->Prop) (Q:Exit->Act->World->Prop),
  (∀(K':Kn) (C':List CB) (v:Value) (w':World),Em.Rel P R x K' C' ⟨σ.tm,bx⟩ a w'->Rep K' C' y v->next (a.put o.dst v) w')->o.uponIn (Fr r) 0 P a next Q ((execOp a.eval o).run P w)
theorem OpOk.upon (h:OpOk P R x σ a w o y bx):Upon P R x σ a w o y bx:=by
 obtain ⟨K',C',nx,v,w',hrun,hd,hrel,hrep⟩:=h;intro r next Q hn
 rw [hrun];rcases hd with rfl|⟨rfl,rfl⟩;·exact hn K' C' v w' hrel hrep
 exact hn K' C' undef w' hrel hrep
theorem callsIn_fr {r:Option Nat}{n:Nat}{f:FuncId}{args:Array Value}{Q:Ending->World->Prop}(h:Calls P f args w Q):CallsIn (Fr r) n P f args w Q:=
 (callsIn_wide (n:=n)).2 h
theorem dataL_rep {K2:Kn}(hI:Inv P R K C σ.bx w)(hK:KLe K K2){args ds:List X}{cargs:Array Value}(h:ArgsRep K C args cargs)(e:dataL σ.bx raw args=some ds)
  (hrow:(∀(b o:Nat) (u:Value),Owns C σ.bx b o->w.cell? ⟨b,o,none⟩=some u->K2 b o=some u)\/rowsL args=[]):ArgsRep K2 C ds cargs:=by
 obtain ⟨h1,h2⟩:=dataL_get e;refine ⟨by rw [h.1,h1],fun j z v ez ev=>?_⟩;have hj:=(qaY.1 ez).1;obtain ⟨z',e1,e2⟩:=h2 j args[j] (qa3 (by omega));rw [ez] at e1;cases e1;refine (h.2 j _ v (qa3 (by omega)) ev).data hI hK (hrow.imp_right fun hn=>?_) e2<;>simp_all[List.eq_nil_iff_forall_not_mem,mem_rowsL]
theorem argsRep_append {as cs:List X}{va vc:Array Value}(h:ArgsRep K C as va)(h':ArgsRep K C cs vc):ArgsRep K C (as++cs) (va++vc):=by
 refine ⟨by simp [h.1,h'.1],fun j z v e e'=>?_⟩;by_cases hj:j<as.length;·rw [qa6 hj] at e;rw [Array.getElem?_append_left (by rw [h.1]<;>grind)] at e';exact h.2 j z v e e'
 rw [qbf (by omega)] at e;rw [Array.getElem?_append_right (by rw [h.1];omega),h.1] at e';exact h'.2 _ z v e e'
theorem op_call {f:Operand}{args:Array Operand}{tys:Array TypeId}{t1:TypeId}{f':Opd}{ts:List TypeId}{qs:List Opd}{own ref:Bool}{yf:X}{ys:List X}(hΓ:GamOk P R Γ)(h:Rel P R x K C σ a w)(ho:o.op=.call ⟨.value f,args,tys⟩)(hf:trOpd P R.gl t1 f=some f')
  (hq:trOpds P R.gl ts args.toList=some qs) (ef:σ.ev f'=some yf) (eq:evs σ qs=some ys) (e:callX Γ own ref raw yf ys σ.bx=some (y,bx,fp)):Upon P R x σ a w o y bx:=by
 have rf:=ev_rep h.inv.glob h.tm hf ef;obtain ⟨q1,q2⟩:=evs_rep h.inv.glob h.tm hq eq;have hargs:ArgsRep K C ys (args.map a.eval):=⟨by grind,fun j z v e e'=>q2 j z v e (by grind)⟩;have enter:∀(g:FuncId) (all:Array Value) (Q':Ending->World->Prop),(execOp a.eval o).run P w=(callFunc g all).run P w->FnOk P g->Calls P g all w Q'->(∀e w',Q' e w'->∃(v:Value) (K':Kn) (C':List CB),e=.returned v/\Em.Rel P R x K' C' ⟨σ.tm,bx⟩ a w'/\Rep K' C' y v)->Upon P R x σ a w o y bx:=by
  intro g all Q' hrun hok hc hQ r next Q hn
  rw [hrun,hok all w];rw [Oper.uponIn_enter];refine ⟨fun hd=>by grind[Fr,Fence.wide],callsIn_fr (hc.mono fun e w' hq=>?_)⟩;obtain ⟨v,K',C',rfl,hr,hp⟩:=hQ e w' hq;exact hn K' C' v w' hr hp
 generalize hvf:a.eval f=vf at rf;unfold callX at e;split at e
 ·grind
 rename_i as hconv;split at e
 ·
  rename_i g caps;cases rf with
  |fn hs hr=>
   rename_i vs;have hcaps:ArgsRep K C caps vs:=⟨hs,hr⟩;have hrun:(execOp a.eval o).run P w=(callFunc g (args.map a.eval++vs)).run P w:=by simp [execOp,ho,resolve,Deferred.ofValue,hvf,invoke]
   split at e
   ·rename_i hc;simp only [qa4,Bool.not_eq_true'] at hc;obtain ⟨⟨hc1,hc2⟩,hc3⟩:=hc;rw [hc2] at hconv;simp at hconv;split at e
    ·grind
    rename_i z hz;split at e
    ·rename_i hcond;simp only [qa4] at hcond;simp at e;obtain ⟨rfl,rfl,_⟩:=e;by_cases hrows:rowsL ys=[];·have hA:=argsRep_append (dataL_rep h.inv (KLe.refl K) hargs hconv (.inr hrows)) hcaps;obtain ⟨hok,hcalls⟩:=pureD_sound hΓ h hA hc3 hz hcond.1;exact enter g _ _ hrun hok hcalls fun e w' hq=>hq.step
     have hpl:z.plain=true:=by
      rcases Bool.or_eq_true _ _▸hcond.2 with h1|h1
      ·grind
      ·grind
     have hK:KLe K (seen w):=fun b o v e=>h.inv.known b o v e;have hA:=argsRep_append (dataL_rep h.inv hK hargs hconv (.inl fun b o u _ hu=>hu)) (⟨hcaps.1,fun j z v e e'=>(hcaps.2 j z v e e').mono hK (CLe.refl _)⟩:ArgsRep (seen w) C caps vs);obtain ⟨hok,hcalls⟩:=pureD_plain hΓ h hA hc3 hz hpl;exact enter g _ _ hrun hok hcalls fun e w' hq=>hq.step
    grind
   split at e
   ·rename_i hcond;have hA:ArgsRep K C as (args.map a.eval):=by
     cases hr':ref with
     |true=>grind
     |false=>rw [hr'] at hconv hcond;simp at hconv;simp only [Bool.false_or] at hcond;exact dataL_rep h.inv (KLe.refl K) hargs hconv (.inr (List.isEmpty_iff.1 hcond))
    split at e
    ·grind
    rename_i z bx' sel hz;simp at e;obtain ⟨rfl,rfl,_⟩:=e;obtain ⟨hok,hcalls⟩:=callRef_fn hΓ h (argsRep_append hA hcaps) hz;exact enter g _ _ hrun hok hcalls fun e w' hq=>hq.step
   grind
 ·
  rename_i i;cases rf with
  |yl hc=>
   rename_i l;split at e
   ·rename_i hcond;have hA:ArgsRep K C as (args.map a.eval):=by
     cases hr':ref with
     |true=>grind
     |false=>rw [hr'] at hconv hcond;simp at hconv;simp only [Bool.false_or] at hcond;exact dataL_rep h.inv (KLe.refl K) hargs hconv (.inr (List.isEmpty_iff.1 hcond))
    split at e
    ·grind
    rename_i z bx' sel hz;simp at e;obtain ⟨rfl,rfl,_⟩:=e;intro r next Q hn
    obtain ⟨f0,tmps,assign,body,hrun,hround⟩:=callRef_yl hΓ h hc hA hz r;have hexec:(execOp a.eval o).run P w=.ok (.round l f0 tmps assign body) w:=by simp [execOp,ho,resolve,Deferred.ofValue,hvf,invoke,hrun]
    rw [hexec,Oper.uponIn_round];refine ⟨fun hd=>by grind[Fr,Fence.wide],hround.mono fun e w' hq=>?_⟩;obtain ⟨v,K',C',rfl,hr,hp⟩:=hq.step
    grind
   grind
 grind
end Go.Em
namespace Go.Em
variable {args:Array Operand}{i:I}{qs:List Opd}{l:List Operand}{sz:Nat}{p z':Opd}{z:Operand}{lo':Option Opd}{lo:Option Operand}
variable {P:Program} {R:CodeRel} {x:Ctx} {K:Kn} {C:List CB} {σ:St} {a:Act} {w:World}
variable {o:Oper} {y:X} {bx:List Bx} {A:Ann} {Γ:Gam} {fp:FP}
theorem map_some {α β:Type}{f:α->β}{o:Option α}{b:β}(h:o.map f=some b):∃a,o=some a/\f a=b:=by intros;simp_all
theorem trOpds_two {ts:List TypeId}{q:Opd}(h:trOpds P R.gl ts l=some [p,q]):∃a b t t',l=[a,b]/\trOpd P R.gl t a=some p/\trOpd P R.gl t' b=some q:=by
 cases l with
 |nil=>grind[trOpds]
 |cons a r=>
  simp only [trOpds] at h;cases ha:trOpd P R.gl (hd0 ts) a with
  |none=>grind
  |some p'=>
   simp only [ha] at h;obtain ⟨l',hl,e⟩:=map_some h;cases e;cases r with
   |nil=>grind[trOpds]
   |cons b s=>
    simp only [trOpds] at hl;cases hb:trOpd P R.gl (hd0 ts.tail) b with
    |none=>grind
    |some q'=>
     simp only [hb] at hl;obtain ⟨l'',hl',e⟩:=map_some hl;cases e;cases s with
     |nil=>grind
     |cons c u=>grind[trOpds,map_some]
theorem trOpds_one {ts:List TypeId}(h:trOpds P R.gl ts l=some [p]):∃a t,l=[a]/\trOpd P R.gl t a=some p:=by
 cases l with
 |nil=>grind[trOpds]
 |cons a r=>
  simp only [trOpds] at h;cases ha:trOpd P R.gl (hd0 ts) a with
  |none=>grind
  |some p'=>
   simp only [ha] at h;obtain ⟨l',hl,e⟩:=map_some h;cases e;cases r with
   |nil=>grind
   |cons b s=>simp only [trOpds] at hl;cases hb:trOpd P R.gl (hd0 ts.tail) b<;>simp_all
theorem step_len {tys:Array TypeId}(h:Rel P R x K C σ a w)(ho:o.op=.call ⟨.builtin .len,args,tys⟩)
  (htr:(match (tys[0]?).bind P.underlying,qs with|some (.slice _),[x]=>some (I.len x)|some .string,[x]=>some (.slen x)|some (.map _ _),[x]=>some (.mlen x)|_,_=>none)=some i) (hq:trOpds P R.gl tys.toList args.toList=some qs) (hs:stepI Γ σ i=some (y,bx,fp)):Upon P R x σ a w o y bx:=by
 split at htr
 ·rename_i e q hu;simp only [qaE] at htr;subst htr;obtain ⟨t,ht,hut⟩:=qbi.1 hu;obtain ⟨p,tp,hl,hp⟩:=trOpds_one hq;simp only [stepI] at hs;split at hs;next es hev=>simp only [qaE,qaH] at hs;obtain ⟨rfl,rfl,_⟩:=hs;obtain ⟨ob,cap,hv⟩:=rep_len (ev_rep h.inv.glob h.tm hp hev) rfl;exact (OpOk.still h (run_builtin_len ho hl ht hut hv (.inl ⟨_,_,_,rfl,rfl⟩)) (.v rfl)).upon
  next n hev=>simp only [qaE,qaH] at hs;obtain ⟨rfl,rfl,_⟩:=hs;obtain ⟨ob,cap,hv⟩:=rep_len (ev_rep h.inv.glob h.tm hp hev) rfl;exact (OpOk.still h (run_builtin_len ho hl ht hut hv (.inl ⟨_,_,_,rfl,rfl⟩)) (.v rfl)).upon
  grind
 ·rename_i q hu;simp only [qaE] at htr;subst htr;obtain ⟨t,ht,hut⟩:=qbi.1 hu;obtain ⟨p,tp,hl,hp⟩:=trOpds_one hq;simp only [stepI] at hs;split at hs;next s hev=>simp only [qaE,qaH] at hs;obtain ⟨rfl,rfl,_⟩:=hs;exact (OpOk.still h (run_builtin_len ho hl ht hut (rep_v (ev_rep h.inv.glob h.tm hp hev)) (.inr ⟨s,rfl,rfl,rfl⟩)) (.v rfl)).upon
  grind
 ·rename_i kt e q hu;simp only [qaE] at htr;subst htr;obtain ⟨t,ht,hut⟩:=qbi.1 hu;obtain ⟨p,tp,hl,hp⟩:=trOpds_one hq;have ha':args=#[p]:=by rw [<-Array.toArray_toList (xs:=args),hl]
  subst ha';simp only [stepI] at hs;split at hs
  ·rename_i i hev;split at hs;next es hb=>simp only [qaE,qaH] at hs;obtain ⟨rfl,rfl,_⟩:=hs;exact (op_mlen h ho ht hut hp hev (.inl ⟨i,rfl,hb⟩)).upon
   grind
  next hev=>simp only [qaE,qaH] at hs;obtain ⟨rfl,rfl,_⟩:=hs;exact (op_mlen (es:=[]) h ho ht hut hp hev (.inr ⟨rfl,rfl⟩)).upon
  grind
 grind
theorem step_mm {isMax:Bool}{tys:Array TypeId}(h:Rel P R x K C σ a w)(ho:o.op=.call ⟨.builtin (if isMax then .max else .min),args,tys⟩)(hq:trOpds P R.gl tys.toList args.toList=some qs)
  (hs:stepI Γ σ (.mm isMax qs)=some (y,bx,fp)):Upon P R x σ a w o y bx:=by
 simp only [stepI] at hs;split at hs;next m r hev=>obtain ⟨z,hz,e⟩:=map_some hs;simp only [qaH] at e;obtain ⟨rfl,rfl,_⟩:=e;exact (op_mm h ho hq hev hz).upon
 grind
theorem step_app {tys:Array TypeId}(h:Rel P R x K C σ a w)(ho:o.op=.call ⟨.builtin .append,args,tys⟩){own:Bool}
  (htr:(match (tys[0]?).bind P.underlying,(tys[1]?).bind P.underlying,qs with
    |some (.slice e),some (.slice _),[s,x]=>match sizeP P e,bytesP P e,zeroP P e with
     |some n,some (b+1),some _=>some (I.app own n (b+1) s x)
     |_,_,_=>none
    |_,_,_=>none)=some i) (hq:trOpds P R.gl tys.toList args.toList=some qs) (hs:stepI Γ σ i=some (y,bx,fp)):Upon P R x σ a w o y bx:=by
 split at htr
 ·rename_i e e1 s z hu0 hu1;split at htr
  ·rename_i n b zr hn hb hz;simp only [qaE] at htr;subst htr;obtain ⟨t0,ht0,hut0⟩:=qbi.1 hu0;obtain ⟨t1,ht1,hut1⟩:=qbi.1 hu1;obtain ⟨p,q,tp,tq,hl,hp,hqq⟩:=trOpds_two hq;simp only [stepI] at hs;split at hs
   ·rename_i ys yz evs evz;split at hs
    ·grind
    rename_i sz' new hsrc;split at hs
    ·grind
    rename_i hsz;have hsz:sz'=n:=by simpa using hsz
    subst hsz;split at hs
    ·rename_i sz0 es;split at hs
     ·rename_i hc;simp only [qa4,qbg] at hc;obtain ⟨rfl,hroom⟩:=hc;obtain ⟨k1,k2,k3⟩:=op_app_sl h ho hl ht0 ht1 hut0 hut1 hn hb hz (by omega) hp hqq evs evz hsrc hroom;split at hs
      ·split at hs;next hemp=>simp only [qaE,qaH] at hs;obtain ⟨rfl,rfl,_⟩:=hs;exact (k1 (List.isEmpty_iff.1 hemp)).upon
       rename_i hemp;simp only [qaE,qaH] at hs;obtain ⟨rfl,rfl,_⟩:=hs;exact (k3 (fun e=>hemp (by grind))).upon
      simp only [qaE,qaH] at hs;obtain ⟨rfl,rfl,_⟩:=hs;exact k2.upon
     grind
    ·rename_i ib off len;split at hs
     ·rename_i sz0 es hbx;split at hs;next hc=>simp only [qa4,qbg] at hc;obtain ⟨⟨⟨rfl,hend⟩,hroom⟩,_⟩:=hc;simp only [qaE,qaH] at hs;obtain ⟨rfl,rfl,_⟩:=hs;exact (op_app_bs h ho hl ht0 ht1 hut0 hut1 hn hb hz (by omega) hp hqq evs evz hsrc hbx hend hroom).upon
      grind
     grind
    grind
   grind
  grind
 grind
theorem step_iaddr {arr:Option Nat}{t t1 t2 e:TypeId}{iz:Operand}{i':Opd}(h:Rel P R x K C σ a w)(ho:o.op=.indexAddr t z iz)(hu:(arr=none/\P.underlying t=some (.slice e))\/(∃m,arr=some m/\P.underlying t=some (.array m e)))(hs:sizeP P e=some sz)
  (hz:trOpd P R.gl t1 z=some z') (hi:trOpd P R.gl t2 iz=some i') (hst:stepI Γ σ (.iaddr arr sz z' i')=some (y,bx,fp)):Upon P R x σ a w o y bx:=by
 simp only [stepI] at hst;split at hst
 ·rename_i yz n ez en;obtain ⟨yi,ei,hn⟩:=qbi.1 en;split at hst
  ·rename_i t' s es;split at hst
   ·rename_i hss;have hss:s=sz:=by simpa using hss
    subst hss;obtain ⟨e0,he,e'⟩:=map_some hst;simp only [qaH] at e';obtain ⟨rfl,rfl,_⟩:=e';rcases hu with ⟨_,hu⟩|⟨m,hm,_⟩;·exact (op_iaddr_sl h ho hu hs hz hi ez ei hn he).upon
    grind
   grind
  ·rename_i ib off len;split at hst
   ·rename_i s es hb;split at hst
    ·rename_i hc;simp only [qa4,qbg,qbu] at hc;obtain ⟨rfl,hlt⟩:=hc;simp only [qaE,qaH] at hst;obtain ⟨rfl,rfl,_⟩:=hst;rcases hu with ⟨_,hu⟩|⟨m,hm,_⟩;·exact (op_iaddr_bs h ho hu hs hz hi ez ei hn hb hlt).upon
     grind
    grind
   grind
  ·rename_i len ip ep op;split at hst
   ·rename_i hlt;simp only [qaE,qaH] at hst;obtain ⟨rfl,rfl,_⟩:=hst;rcases hu with ⟨hm,_⟩|⟨m,hm,hu⟩
    ·grind
    cases hm;exact (op_iaddr_arr h ho hu hs hz hi ez ei hn hlt rfl).upon
   grind
  ·rename_i len cs;split at hst
   ·rename_i hlt;simp only [qaE,qaH] at hst;obtain ⟨rfl,rfl,_⟩:=hst;rcases hu with ⟨hm,_⟩|⟨m,hm,hu⟩
    ·grind
    cases hm;exact (op_iaddr_arr h ho hu hs hz hi ez ei hn hlt rfl).upon
   grind
  grind
 grind
theorem step_slice {t t1 e:TypeId}{hi mx:Option Operand}{hi' mx':Option Opd}(h:Rel P R x K C σ a w)(ho:o.op=.slice t z lo hi mx)(hu:P.underlying t=some (.slice e))(hs:sizeP P e=some sz)
  (hz:trOpd P R.gl t1 z=some z') (hlo:trOpt P R.gl lo=some lo') (hhi:trOpt P R.gl hi=some hi') (hmx:trOpt P R.gl mx=some mx') (hor:mx=none\/hi.isSome=true) (hst:stepI Γ σ (.slice sz z' lo' hi' mx')=some (y,bx,fp)):Upon P R x σ a w o y bx:=by
 simp only [stepI] at hst;split at hst
 ·rename_i tt s es ez;split at hst
  ·rename_i l hh el eh;split at hst
   ·rename_i hc;simp only [qa4,qbg,qbu] at hc;obtain ⟨⟨rfl,h1⟩,h2⟩:=hc;cases mx with
    |none=>simp only [trOpt,qaE] at hmx;subst hmx;simp only [qaE,qaH] at hst;obtain ⟨rfl,rfl,_⟩:=hst;exact (op_slice_sl h ho hu hs hz hlo hhi rfl ez el eh h1 h2 _ (.inl ⟨rfl,rfl⟩)).upon
    |some m=>
     have hmx0:=hmx;simp only [trOpt] at hmx;obtain ⟨qm,hqm,rfl⟩:=map_some hmx;simp only at hst;split at hst
     ·rename_i mv hm;split at hst
      ·rename_i heq;have heq:hh=mv:=by simpa using heq
       subst heq;simp only [qaE,qaH] at hst;obtain ⟨rfl,rfl,_⟩:=hst;have hsome:hi.isSome=true:=by rcases hor with h3|h3;cases h3;exact h3
       refine (op_slice_sl h ho hu hs hz hlo hhi hmx0 ez el eh h1 h2 true (.inr ⟨m,rfl,hsome,?_,rfl⟩)).upon;exact optNat_is h.inv.glob h.tm hmx0 hm
      grind
     grind
   grind
  grind
 ·rename_i i off len ez;split at hst
  ·rename_i l hh el eh;have hmn:mx=none:=by
    cases mx with
    |none=>rfl
    |some m=>simp_all[trOpt]
   subst hmn;split at hst
   ·rename_i hc;simp only [qa4,qbu] at hc;split at hst
    ·rename_i heq;have heq:l=hh:=by simpa using heq
     simp only [qaE,qaH] at hst;obtain ⟨rfl,rfl,_⟩:=hst;exact (op_slice_bs h ho hu hs hz hlo hhi ez el eh hc.1 hc.2 (.inl ⟨heq,rfl⟩)).upon
    rename_i hne;split at hst
    ·rename_i s es hb;split at hst
     ·rename_i hss;have hss:s=sz:=by simpa using hss
      subst hss;simp only [qaE,qaH] at hst;obtain ⟨rfl,rfl,_⟩:=hst;exact (op_slice_bs h ho hu hs hz hlo hhi ez el eh hc.1 hc.2 (.inr ⟨fun e=>hne (by grind),⟨es,hb⟩,rfl⟩)).upon
     grind
    grind
   grind
  grind
 grind
theorem trOpt_some (h:trOpt P R.gl lo=some lo'):lo'.isSome=lo.isSome:=by
 cases lo with
 |none=>grind[trOpt]
 |some p=>simp only [trOpt] at h;obtain ⟨q,_,rfl⟩:=map_some h;rfl
set_option maxHeartbeats 1600000 in
theorem stepI_sound (hΓ:GamOk P R Γ)(h:Rel P R x K C σ a w)(htr:trOp P R.gl A o=some i)(hs:stepI Γ σ i=some (y,bx,fp)):Upon P R x σ a w o y bx:=by
 unfold trOp at htr;split at htr;next z ho=>obtain ⟨q,hq,rfl⟩:=map_some htr;simp only [stepI] at hs;obtain ⟨v,hv,e⟩:=map_some hs;simp only [qaH] at e;obtain ⟨rfl,rfl,_⟩:=e;exact (op_mov h (.inl ho) hq hv).upon
 next z ho=>obtain ⟨q,hq,rfl⟩:=map_some htr;simp only [stepI] at hs;obtain ⟨v,hv,e⟩:=map_some hs;simp only [qaH] at e;obtain ⟨rfl,rfl,_⟩:=e;exact (op_mov h (.inr ho) hq hv).upon
 ·rename_i c p q ho;split at htr
  ·rename_i c' p' q' hc hp hq;simp only [qaE] at htr;subst htr;simp only [stepI] at hs;split at hs;next t y1 y2 e1 e2 e3=>simp only [qaE,qaH] at hs;obtain ⟨rfl,rfl,_⟩:=hs;exact (op_pick h ho hc hp hq e1 e2 e3).upon
   grind
  grind
 next e ho=>obtain ⟨l,hl,rfl⟩:=map_some htr;simp only [stepI,qaE,qaH] at hs;obtain ⟨rfl,rfl,_⟩:=hs;exact (op_alloc h ho hl).upon
 ·rename_i t z ho;obtain ⟨q,hq,rfl⟩:=map_some htr;simp only [stepI] at hs;split at hs
  ·grind
  rename_i v hv;split at hs;next h1=>simp only [qaE,qaH] at hs;obtain ⟨rfl,rfl,_⟩:=hs;exact (op_box h ho hq hv h1).upon
  grind
 ·rename_i t parts ho;split at htr
  ·rename_i fs z hu hz;split at htr
   ·rename_i hall;obtain ⟨qs,hq,rfl⟩:=map_some htr;simp only [stepI] at hs;split at hs
    ·grind
    rename_i ps hp;obtain ⟨cs,hf,e⟩:=map_some hs;simp only [qaH] at e;obtain ⟨rfl,rfl,_⟩:=e;exact (op_build_struct h ho hu hz hall hq hp hf).upon
   grind
  ·rename_i m e z hu hz;obtain ⟨n,hn,htr⟩:=qbi.1 htr;obtain ⟨qs,hq,rfl⟩:=map_some htr;simp only [stepI] at hs;split at hs
   ·grind
   rename_i ps hp;obtain ⟨cs,hf,e⟩:=map_some hs;simp only [qaH] at e;obtain ⟨rfl,rfl,_⟩:=e;exact (op_build_arr h ho hu hz hn hq hp hf).upon
  grind
 ·rename_i t len parts ho;split at htr
  ·rename_i e hu;split at htr
   ·rename_i z ps0 hz hq;split at htr
    ·rename_i hl;simp only [qaE] at htr;subst htr;simp only [stepI] at hs;split at hs
     ·grind
     rename_i ps hp;split at hs
     ·rename_i hlen;have hlen:len=ps.length:=by simpa using hlen
      obtain ⟨es,hf,e⟩:=map_some hs;simp only [qaH] at e;obtain ⟨rfl,rfl,_⟩:=e;exact (op_bslice h ho hu hz hl hq hp hlen hf).upon
     grind
    grind
   grind
  grind
 ·rename_i t z ho;split at htr
  ·rename_i n q hn hq;simp only [qaE] at htr;subst htr;simp only [stepI] at hs;split at hs
   ·grind
   rename_i p hp;obtain ⟨v,hv,e⟩:=map_some hs;simp only [qaH] at e;obtain ⟨rfl,rfl,_⟩:=e;exact (op_load h ho hn hq hp hv).upon
  grind
 ·rename_i t p z ho;split at htr
  ·rename_i n p' z' hn hp hz;simp only [qaE] at htr;subst htr;simp only [stepI] at hs;split at hs;next yp yz e1 e2=>obtain ⟨bx',hb,e⟩:=map_some hs;simp only [qaH] at e;obtain ⟨rfl,rfl,_⟩:=e;exact (op_store h ho hn hp hz e1 e2 hb).upon
   grind
  grind
 ·rename_i z ho;obtain ⟨q,hq,rfl⟩:=map_some htr;simp only [stepI] at hs;split at hs<;>first
   |(rename_i hv
     simp only [qaE,qaH] at hs;obtain ⟨rfl,rfl,_⟩:=hs;exact (op_nilck h ho hq hv rfl).upon)
   |grind
 ·rename_i op t p q u ho;split at htr
  ·rename_i p' q' hp hq;split at htr
   ·rename_i hu;simp only [qaE] at htr;subst htr;simp only [stepI] at hs;split at hs;next m n e1 e2=>simp only [qaE,qaH] at hs;obtain ⟨rfl,rfl,_⟩:=hs;have:=op_beq h ho hu (.inl rfl) hp hq e1 e2;simpa using this.upon
    grind
   ·rename_i hu;simp only [qaE] at htr;subst htr;simp only [stepI] at hs;split at hs;next m n e1 e2=>simp only [qaE,qaH] at hs;obtain ⟨rfl,rfl,_⟩:=hs;have:=op_beq h ho hu (.inr rfl) hp hq e1 e2;simpa using this.upon
    grind
   ·rename_i e hu;split at htr
    ·simp only [qaE] at htr;subst htr;simp only [stepI] at hs;split at hs<;>first
      |(rename_i hv
        simp only [qaE,qaH] at hs;obtain ⟨rfl,rfl,_⟩:=hs;have:=op_snil h ho hu (.inl rfl) rfl hp hv rfl;simpa using this.upon)
      |grind
    grind
   ·rename_i e hu;split at htr
    ·simp only [qaE] at htr;subst htr;simp only [stepI] at hs;split at hs<;>first
      |(rename_i hv
        simp only [qaE,qaH] at hs;obtain ⟨rfl,rfl,_⟩:=hs;have:=op_snil h ho hu (.inr rfl) rfl hp hv rfl;simpa using this.upon)
      |grind
    grind
   ·rename_i ms hu;split at htr
    ·simp only [qaE] at htr;subst htr;simp only [stepI] at hs;split at hs;next e1=>simp only [qaE,qaH] at hs;obtain ⟨rfl,rfl,_⟩:=hs;exact (op_inil (neg:=false) h ho rfl hu hp e1 (.inl ⟨rfl,rfl⟩)).upon
     next e1=>simp only [qaE,qaH] at hs;obtain ⟨rfl,rfl,_⟩:=hs;exact (op_inil (neg:=false) h ho rfl hu hp e1 (.inr ⟨rfl,rfl⟩)).upon
     grind
    grind
   ·rename_i ms hu;split at htr
    ·simp only [qaE] at htr;subst htr;simp only [stepI] at hs;split at hs;next e1=>simp only [qaE,qaH] at hs;obtain ⟨rfl,rfl,_⟩:=hs;exact (op_inil (neg:=true) h ho rfl hu hp e1 (.inl ⟨rfl,rfl⟩)).upon
     next e1=>simp only [qaE,qaH] at hs;obtain ⟨rfl,rfl,_⟩:=hs;exact (op_inil (neg:=true) h ho rfl hu hp e1 (.inr ⟨rfl,rfl⟩)).upon
     grind
    grind
   ·simp only [qaE] at htr;subst htr;simp only [stepI] at hs;split at hs;next m n e1 e2=>obtain ⟨z,hz,e⟩:=map_some hs;simp only [qaH] at e;obtain ⟨rfl,rfl,_⟩:=e;exact (op_bin h ho hp hq e1 e2 hz).upon
    grind
   ·simp only [qaE] at htr;subst htr;simp only [stepI] at hs;split at hs;next m n e1 e2=>obtain ⟨z,hz,e⟩:=map_some hs;simp only [qaH] at e;obtain ⟨rfl,rfl,_⟩:=e;exact (op_bin h ho hp hq e1 e2 hz).upon
    grind
   ·obtain ⟨ks,hf,rfl⟩:=map_some htr;simp only [stepI] at hs;split at hs;next m n e1 e2=>obtain ⟨z,hz,e⟩:=map_some hs;simp only [qaH] at e;obtain ⟨rfl,rfl,_⟩:=e;have:=op_ceq h ho hf (.inl rfl) hp hq e1 e2 hz;simpa using this.upon
    grind
   ·obtain ⟨ks,hf,rfl⟩:=map_some htr;simp only [stepI] at hs;split at hs;next m n e1 e2=>obtain ⟨z,hz,e⟩:=map_some hs;simp only [qaH] at e;obtain ⟨rfl,rfl,_⟩:=e;have:=op_ceq h ho hf (.inr rfl) hp hq e1 e2 hz;simpa using this.upon
    grind
   grind
  grind
 ·rename_i op t z ho;obtain ⟨q,hq,rfl⟩:=map_some htr;simp only [stepI] at hs;split at hs;next m e1=>obtain ⟨u,hu,e⟩:=map_some hs;simp only [qaH] at e;obtain ⟨rfl,rfl,_⟩:=e;exact (op_un h ho hq e1 hu).upon
  grind
 ·rename_i s d z ho;split at htr
  ·rename_i ks k q hsu hdu hq;simp only [qaE] at htr;subst htr;simp only [stepI] at hs;split at hs;next k' n e1=>simp only [qaE,qaH] at hs;obtain ⟨rfl,rfl,_⟩:=hs;exact (op_conv h ho hsu hdu hq e1).upon
   grind
  ·rename_i q hsu hdu hq;simp only [qaE] at htr;subst htr;simp only [stepI] at hs;split at hs;next b e1=>simp only [qaE,qaH] at hs;obtain ⟨rfl,rfl,_⟩:=hs;exact (op_idc h ho hsu hdu hq e1).upon
   grind
  ·rename_i e q hsu hdu hq;split at htr
   ·rename_i hu8;simp only [qaE] at htr;subst htr;simp only [stepI] at hs;split at hs;next b e1=>simp only [qaE,qaH] at hs;obtain ⟨rfl,rfl,_⟩:=hs;exact (op_s2b h ho hsu hdu hu8 hq e1).upon
    grind
   grind
  grind
 ·rename_i t ho;split at htr;next kt e hu=>simp only [qaE] at htr;subst htr;simp only [stepI,qaE,qaH] at hs;obtain ⟨rfl,rfl,_⟩:=hs;exact (op_mkmap h ho hu).upon
  grind
 ·rename_i t m k v ho;split at htr
  ·rename_i kt e m' hu hm;split at htr
   ·rename_i k' v' kk hk hv hkk;simp only [qaE] at htr;subst htr;simp only [stepI] at hs;split at hs
    ·rename_i i kv y1 em ek ev;split at hs
     ·rename_i es hb;split at hs;next hc=>simp only [qa4] at hc;obtain ⟨es',hp,e1⟩:=map_some hs;simp only [qaH] at e1;obtain ⟨rfl,rfl,_⟩:=e1;exact (op_mput h (.inl ho) hu hkk hm hk hv em ek ev hb hc.1.1 hc.1.2 hc.2 hp).upon
      grind
     grind
    grind
   grind
  grind
 ·rename_i t m k v ho;split at htr
  ·rename_i kt e m' hu hm;split at htr
   ·rename_i k' v' kk hk hv hkk;simp only [qaE] at htr;subst htr;simp only [stepI] at hs;split at hs
    ·rename_i i kv y1 em ek ev;split at hs
     ·rename_i es hb;split at hs;next hc=>simp only [qa4] at hc;obtain ⟨es',hp,e1⟩:=map_some hs;simp only [qaH] at e1;obtain ⟨rfl,rfl,_⟩:=e1;exact (op_mput h (.inr ho) hu hkk hm hk hv em ek ev hb hc.1.1 hc.1.2 hc.2 hp).upon
      grind
     grind
    grind
   grind
  grind
 ·rename_i t m k ok ho;split at htr
  ·rename_i kt e m' hu hm;split at htr
   ·rename_i k' z kk hk hz hkk;simp only [qaE] at htr;subst htr;simp only [stepI] at hs;split at hs
    ·rename_i i kv em ek;split at hs
     ·rename_i es hb;split at hs;next hc=>obtain ⟨y1,hg,e1⟩:=map_some hs;simp only [qaH] at e1;obtain ⟨rfl,rfl,_⟩:=e1;exact (op_mget h ho hu hkk hz hm hk em ek (.inl ⟨i,rfl,hb⟩) hc hg).upon
      grind
     grind
    ·rename_i kv em ek;split at hs;next hc=>obtain ⟨y1,hg,e1⟩:=map_some hs;simp only [qaH] at e1;obtain ⟨rfl,rfl,_⟩:=e1;exact (op_mget h ho hu hkk hz hm hk em ek (.inr ⟨rfl,rfl⟩) hc hg).upon
     grind
    grind
   grind
  grind
 ·rename_i t m ho;split at htr
  ·rename_i kt e hu;obtain ⟨m',hm,rfl⟩:=map_some htr;simp only [stepI] at hs;split at hs
   ·rename_i i em;split at hs;next es hb=>simp only [qaE,qaH] at hs;obtain ⟨rfl,rfl,_⟩:=hs;exact (op_mrange h ho hu hm em hb).upon
    grind
   grind
  grind
 next m ho=>obtain ⟨m',hm,rfl⟩:=map_some htr;simp only [stepI,reduceCtorEq] at hs
 ·rename_i m ho;obtain ⟨m',hm,rfl⟩:=map_some htr;simp only [stepI] at hs;split at hs
  ·rename_i i em;split at hs
   ·rename_i mi s k hb;split at hs
    ·rename_i es hbm;split at hs;next hc=>obtain ⟨e,he,e1⟩:=map_some hs;simp only [qaH] at e1;obtain ⟨rfl,rfl,_⟩:=e1;obtain ⟨j,hj,he⟩:=qbi.1 he;exact (op_mentry h ho hm em hb hbm (by simpa using hc) hj he).upon
     grind
    grind
   grind
  grind
 ·rename_i t z ho;split at htr
  ·grind
  next d q hd hu hq=>simp only [qaE] at htr;subst htr;simp only [stepI] at hs;obtain ⟨v,hv,e1⟩:=map_some hs;simp only [qaH] at e1;obtain ⟨rfl,rfl,_⟩:=e1;exact (op_mkifc h ho hu (fun ms e=>hd ms (by grind)) hq hv).upon
  grind
 next f first caps ho=>
  split at htr;next hf=>obtain ⟨qs,hq,rfl⟩:=map_some htr;simp only [stepI] at hs;obtain ⟨cs,hc,e⟩:=map_some hs;simp only [qaH] at e;obtain ⟨rfl,rfl,_⟩:=e;exact (op_mkfn h ho hf hq hc).upon
  grind
 ·rename_i t l c ho;split at htr
  ·rename_i e hu;split at htr
   ·rename_i z b l' c' hz hb hl hc;simp only [qaE] at htr;subst htr;simp only [stepI] at hs;split at hs
    ·rename_i n m e1 e2;obtain ⟨yl,el,nl⟩:=qbi.1 e1;obtain ⟨yc,ec,nc⟩:=qbi.1 e2;split at hs;next hcnd=>simp only [qa4,qbu] at hcnd;simp only [qaE,qaH] at hs;obtain ⟨rfl,rfl,_⟩:=hs;exact (op_mksl h ho hu hz hb hl hc el ec nl nc hcnd.1 hcnd.2).upon
     grind
    grind
   grind
  grind
 ·rename_i t z lo hi mx ho;split at htr
  ·rename_i z' lo' hi' hu hz hlo hhi hmx;simp only [qaE] at htr;subst htr;have hmn:mx=none:=by
    cases mx with
    |none=>rfl
    |some m=>simp_all[trOpt]
   subst hmn;simp only [stepI] at hs;split at hs
   ·rename_i s es;split at hs
    ·rename_i l hh el eh;split at hs;next hc=>simp only [qa4,qbu] at hc;simp only [qaE,qaH] at hs;obtain ⟨rfl,rfl,_⟩:=hs;exact (op_sslice h ho hu hz hlo hhi es el eh hc.1 hc.2).upon
     grind
    grind
   grind
  ·rename_i e z' lo' hi' mx' hu hz hlo hhi hmx;split at htr
   ·rename_i hor;obtain ⟨n,hn,rfl⟩:=map_some htr;refine step_slice h ho hu hn hz hlo hhi hmx ?_ hs;rw [Bool.or_eq_true] at hor;rcases hor with h1|h1;·left;have:=trOpt_some hmx<;>simp_all
    grind[trOpt_some]
   grind
  grind
 ·rename_i t z f ho;split at htr
  ·rename_i fs hu;split at htr
   ·rename_i fd q hf hq;split at htr
    ·rename_i n hn;simp only [qaE] at htr;subst htr;simp only [stepI] at hs;split at hs;next i e k hv=>simp only [qaE,qaH] at hs;obtain ⟨rfl,rfl,_⟩:=hs;exact (op_faddr h ho hu hf hn hq hv rfl).upon
     next cs hv=>simp only [qaE,qaH] at hs;obtain ⟨rfl,rfl,_⟩:=hs;exact (op_faddr h ho hu hf hn hq hv rfl).upon
     grind
    grind
   grind
  grind
 ·rename_i t z f ho;split at htr
  ·rename_i fs hu;split at htr
   ·rename_i fd q hf hq;obtain ⟨n,hn,rfl⟩:=map_some htr;simp only [stepI] at hs;split at hs
    ·rename_i cs hv;cases n with
     |none=>simp only at hs;obtain ⟨v,hv',e⟩:=map_some hs;simp only [qaH] at e;obtain ⟨rfl,rfl,_⟩:=e;exact (op_field h ho hu hf rfl hn hq hv hv').upon
     |some n=>
      simp only at hs;split at hs;next hl=>simp only [qaE,qaH] at hs;obtain ⟨rfl,rfl,_⟩:=hs;exact (op_field h ho hu hf rfl hn hq hv (by grind)).upon
      grind
    grind
   grind
  grind
 ·rename_i t z i ho;split at htr;next e z' i' hu hz hi=>obtain ⟨n,hn,rfl⟩:=map_some htr;exact step_iaddr h ho (.inl ⟨rfl,hu⟩) hn hz hi hs
  next m e z' i' hu hz hi=>obtain ⟨n,hn,rfl⟩:=map_some htr;exact step_iaddr h ho (.inr ⟨m,rfl,hu⟩) hn hz hi hs
  grind
 ·rename_i t z i ho;split at htr
  ·rename_i m e z' i' hu hz hi;split at htr
   ·rename_i n r hn hr;simp only [qaE] at htr;subst htr;simp only [stepI] at hs;split at hs
    ·rename_i cs j hv hj;obtain ⟨yi,ei,hn'⟩:=qbi.1 hj;split at hs
     ·rename_i hlt;cases r with
      |none=>simp only at hs;obtain ⟨v,hv',e⟩:=map_some hs;simp only [qaH] at e;obtain ⟨rfl,rfl,_⟩:=e;exact (op_aidx h ho hu hn hr hz hi hv ei hn' hlt hv').upon
      |some k=>
       simp only at hs;split at hs;next hl=>simp only [qaE,qaH] at hs;obtain ⟨rfl,rfl,_⟩:=hs;exact (op_aidx h ho hu hn hr hz hi hv ei hn' hlt (by grind)).upon
       grind
     grind
    grind
   grind
  ·rename_i z' i' hu hz hi;simp only [qaE] at htr;subst htr;simp only [stepI] at hs;split at hs
   ·rename_i s n hv hj;obtain ⟨yi,ei,hn'⟩:=qbi.1 hj;split at hs;next b hb=>simp only [qaE,qaH] at hs;obtain ⟨rfl,rfl,_⟩:=hs;exact (op_sidx h ho hu hz hi hv ei hn' hb).upon
    grind
   grind
  grind
 ·rename_i z i ho;obtain ⟨q,hq,rfl⟩:=map_some htr;simp only [stepI] at hs;split at hs;next xs hv=>obtain ⟨v,hv',e⟩:=map_some hs;simp only [qaH] at e;obtain ⟨rfl,rfl,_⟩:=e;exact (op_extract h ho hq hv hv').upon
  grind
 ·rename_i c ho;split at htr
  ·grind
  rename_i args hargs;obtain ⟨cal,cargs,tys⟩:=c;dsimp only at htr hargs;split at htr
  ·rename_i f;obtain ⟨f',hf,rfl⟩:=map_some htr
   grind[stepI,op_call]
  ·grind[step_len]
  ·split at htr
   ·rename_i e qd qs hu;obtain ⟨n,hn,rfl⟩:=map_some htr;obtain ⟨t0,ht0,hut⟩:=qbi.1 hu;simp only [stepI] at hs;split at hs
    ·rename_i i off len y1 e1 e2;split at hs
     ·rename_i sz0 es sz' new hb hsrc;split at hs;next hc=>simp only [qaE,qaH] at hs;obtain ⟨rfl,rfl,_⟩:=hs;simp only [qa4,qbg,qbu] at hc;obtain ⟨⟨hc1,hc2⟩,hc3⟩:=hc;subst hc1;subst hc2;obtain ⟨pd,ps,ta,tb,hl,hpd,hps⟩:=trOpds_two hargs;exact (op_copy h ho hl ht0 hut hn hpd hps e1 e2 hsrc hb hc3).upon
      grind
     grind
    grind
   grind
  ·grind[step_mm]
  ·grind[step_mm]
  ·exact step_app h ho htr hargs hs
  grind
 grind
end Go.Em
namespace Go.Em
variable {ops:Array Oper}{md:Region.Mode}
variable {P:Program} {R:CodeRel} {x:Ctx} {K:Kn} {C:List CB} {σ:St} {a:Act} {w:World}
variable {A:Ann} {Γ:Gam}
def GoesOn (md:Region.Mode)(ops:Array Oper)(acc M:List Nat):Prop:=
 (acc++M).Nodup/\(∀i,i∈M->i<ops.size)/\∀(M1 M2:List Nat) (j:Nat),M=M1++j::M2->∀(e:Edge),e∈(ops.getD j default).after.toList->Region.binds md e=true->e.on∈acc\/e.on∈M1
theorem ready_mem {listed:Array Bool}{acc:List Nat}(hs:listed.size=ops.size)(hl:∀i,i<ops.size->(listed.getD i true=true↔i∈acc))(hf:∀i,ops.size<=i->listed.getD i false=false){i:Nat}:
  i∈Region.ready md ops listed↔i<ops.size/\i∉acc/\∀(e:Edge),e∈(ops.getD i default).after.toList->Region.binds md e=true->e.on∈acc/\e.on<ops.size:=by
 have hd:∀j,listed.getD j false=true↔j∈acc/\j<ops.size:=by
  intro j;by_cases hj:j<ops.size
  ·grind
  ·grind
 simp only [Region.ready,List.mem_filter,List.mem_range,qa4,Bool.not_eq_true'];constructor
 ·rintro ⟨h1,h2,h3⟩
  have ho:ops[i]?=some (ops.getD i default):=by simp [Array.getD,h1]
  rw [ho] at h3;simp only [qbw,Option.getD_some] at h3;refine ⟨h1,(fun hm=>by grind),fun e he hb=>?_⟩;have:=(Array.all_eq_true_iff_forall_mem.1 h3) e (by simpa using he)<;>simp_all
 rintro ⟨h1,h2,h3⟩
 have ho:ops[i]?=some (ops.getD i default):=by simp [Array.getD,h1]
 grind
theorem linearise_goes :∀(fuel t:Nat) (listed:Array Bool) (acc:List Nat),listed.size=ops.size->(∀i,i<ops.size->(listed.getD i true=true↔i∈acc))->acc.Nodup->(∀i,i∈acc->i<ops.size)->
  GoesOn md ops acc (Region.linearise.go md ops fuel t listed [])/\
   ((Region.linearise.go md ops fuel t listed []).length=fuel\/∃acc':List Nat,(∀i,i∈acc'↔i∈acc\/i∈Region.linearise.go md ops fuel t listed [])/\∀i,i<ops.size->i∉acc'->∃e:Edge,e∈(ops.getD i default).after.toList/\Region.binds md e=true/\¬(e.on∈acc'/\e.on<ops.size)):=by
 intro fuel;induction fuel with
 |zero=>intro t listed acc hs hl hn hlt;simp only [Region.linearise.go,List.reverse_nil];exact ⟨⟨by grind,by simp,fun M1 M2 j e=>by simp_all⟩,.inl rfl⟩
 |succ fuel ih=>
  intro t listed acc hs hl hn hlt;have hf:∀i,ops.size<=i->listed.getD i false=false:=by intro i hi;simp [Array.getD,hs,Nat.not_lt.2 hi]
  simp only [Region.linearise.go];change GoesOn md ops acc (match (Region.ready md ops listed)[t%(Region.ready md ops listed).length]? with
   |some i=>Region.linearise.go md ops fuel (t /(Region.ready md ops listed).length) (listed.setIfInBounds i true) [i]
   |none=>[].reverse)/\((match (Region.ready md ops listed)[t%(Region.ready md ops listed).length]? with
   |some i=>Region.linearise.go md ops fuel (t /(Region.ready md ops listed).length) (listed.setIfInBounds i true) [i]
   |none=>[].reverse).length=fuel+1\/∃acc':List Nat,(∀i,i∈acc'↔i∈acc\/i∈(match (Region.ready md ops listed)[t%(Region.ready md ops listed).length]? with
   |some i=>Region.linearise.go md ops fuel (t /(Region.ready md ops listed).length) (listed.setIfInBounds i true) [i]
   |none=>[].reverse))/\∀i,i<ops.size->i∉acc'->∃e:Edge,e∈(ops.getD i default).after.toList/\Region.binds md e=true/\¬(e.on∈acc'/\e.on<ops.size))
  cases hi:(Region.ready md ops listed)[t%(Region.ready md ops listed).length]? with
  |none=>
   simp only [List.reverse_nil];have hnil:Region.ready md ops listed=[]:=by
    cases hr:Region.ready md ops listed with
    |nil=>rfl
    |cons u us=>grind[Nat.mod_lt]
   refine ⟨⟨by grind,by simp,fun M1 M2 j e=>by grind⟩,.inr ⟨acc,by simp,fun i h1 h2=>?_⟩⟩;have hno:i∉Region.ready md ops listed:=by rw [hnil];simp
   rw [ready_mem hs hl hf] at hno
   grind
  |some i=>
   simp only [];rw [linearise_go_acc,List.reverse_singleton,List.singleton_append];obtain ⟨r1,r2,r3⟩:=(ready_mem hs hl hf).1 (qa5 hi);have hl':∀j,j<ops.size->((listed.setIfInBounds i true).getD j true=true↔j∈i::acc):=by
    intro j hj;by_cases hij:j=i;·subst hij;simp [Array.getD,hs,hj]
    have:(listed.setIfInBounds i true).getD j true=listed.getD j true:=by simp only [Array.size_setIfInBounds,hs,hj,dif_pos];have:=Array.getElem?_setIfInBounds_ne (xs:=listed) (a:=true) (i:=i) (j:=j) (fun e=>hij e.symm);simpa [hs,hj] using this
    grind
   obtain ⟨⟨g1,g2,g3⟩,g4⟩:=ih (t /(Region.ready md ops listed).length) (listed.setIfInBounds i true) (i::acc) (by grind) hl' (List.nodup_cons.2 ⟨r2,hn⟩) (by grind);refine ⟨⟨?_,?_,?_⟩,?_⟩;·rw [List.cons_append,List.nodup_cons] at g1;have hp:(acc++i::Region.linearise.go md ops fuel (t /(Region.ready md ops listed).length) (listed.setIfInBounds i true) []).Perm (i::(acc++Region.linearise.go md ops fuel (t /(Region.ready md ops listed).length) (listed.setIfInBounds i true) [])):=List.perm_middle;exact hp.nodup_iff.2 (List.nodup_cons.2 g1)
   ·intro j hj;rcases qbl.1 hj with rfl|hj;exact r1;exact g2 j hj
   ·intro M1 M2 j e ed hed hb;cases M1 with
    |nil=>simp at e;rw [<-e.1] at hed;exact .inl (r3 ed hed hb).1
    |cons u M1=>
     simp at e;rcases g3 M1 M2 j e.2 ed hed hb with h1|h1
     ·rcases qbl.1 h1 with h2|h2;·right;rw [h2,e.1];simp
      grind
     right;simp [h1]
   rcases g4 with h1|⟨acc',h1,h2⟩;·left;simp [h1]
   right;refine ⟨acc',fun j=>?_,h2⟩;rw [h1 j];simp;constructor
   ·grind
   grind
theorem nodup_full {n:Nat}{l:List Nat}(hn:l.Nodup)(hlt:∀i,i∈l->i<n)(hl:l.length=n):∀i,i<n->i∈l:=by
 intro i hi;have hsub:∀j,j∈l->j∈List.range n:=fun j hj=>List.mem_range.2 (hlt j hj);rcases Classical.em (i∈l) with h|h;·exact h
 have h1:=List.nodup_cons.2 ⟨h,hn⟩;have h2:∀j,j∈i::l->j∈List.range n:=by intro j hj;rcases qbl.1 hj with rfl|hj;exact List.mem_range.2 hi;exact hsub j hj
 have:=List.Nodup.length_le_of_subset h1 h2<;>grind
structure Order (ops:Array Oper) (L:List Nat):Prop where
 nodup:L.Nodup
 all:∀i,i∈L↔i<ops.size
 follows:∀(L1 L2:List Nat) (j:Nat),L=L1++j::L2->∀i,edged (ops.getD j default) i=true->i∈L1
theorem linearise_order (h0:(Region.linearise md ops 0).length=ops.size)(t:Nat):Order ops (Region.linearise md ops t):=by
 have hrep:∀i,i<ops.size->((Array.replicate ops.size false).getD i true=true↔i∈([]:List Nat)):=by intro i hi;simp [Array.getD,hi]
 have key:=fun t=>linearise_goes (md:=md) (ops:=ops) ops.size t (Array.replicate ops.size false) [] (by simp) hrep (by simp) (by simp);have e:∀t,Region.linearise md ops t=Region.linearise.go md ops ops.size t (Array.replicate ops.size false) []:=fun _=>rfl;rw [e] at h0;obtain ⟨⟨k1,k2,k3⟩,_⟩:=key 0;have hall0:=nodup_full (by grind) k2 h0;obtain ⟨⟨g1,g2,g3⟩,g4⟩:=key t;rw [e];have hlen:(Region.linearise.go md ops ops.size t (Array.replicate ops.size false) []).length=ops.size:=by
  rcases g4 with h1|⟨acc',h1,h2⟩
  ·grind
  ·
   rcases Classical.em (∀i,i<ops.size->i∈acc') with hA|hA
   ·have hfull:∀i,i<ops.size->i∈Region.linearise.go md ops ops.size t (Array.replicate ops.size false) []:=fun i hi=>by grind
    have h5:(Region.linearise.go md ops ops.size t (Array.replicate ops.size false) []).length<=ops.size:=by have:=List.Nodup.length_le_of_subset (by grind) (fun j hj=>List.mem_range.2 (g2 j hj));simpa using this
    have h6:ops.size<=(Region.linearise.go md ops ops.size t (Array.replicate ops.size false) []).length:=by have:=List.Nodup.length_le_of_subset (List.nodup_range (n:=ops.size)) (fun j hj=>hfull j (List.mem_range.1 hj));simpa using this
    omega
   exfalso;have hex:∃L1 j L2,Region.linearise.go md ops ops.size 0 (Array.replicate ops.size false) []=L1++j::L2/\j∉acc'/\∀i,i∈L1->i∈acc':=by
    have hsome:∃i,i∈Region.linearise.go md ops ops.size 0 (Array.replicate ops.size false) []/\i∉acc':=by simp only [Classical.not_forall] at hA;obtain ⟨i,hi,hni⟩:=hA;exact ⟨i,hall0 i hi,hni⟩
    generalize Region.linearise.go md ops ops.size 0 (Array.replicate ops.size false) []=L at hsome;clear k1 k2 k3 hall0 h0;induction L with
    |nil=>grind
    |cons u us ih=>
     by_cases hu:u∈acc'
     ·obtain ⟨i,hi,hni⟩:=hsome;rcases qbl.1 hi with rfl|hi
      ·grind
      obtain ⟨L1,j,L2,e1,e2,e3⟩:=ih ⟨i,hi,hni⟩;exact ⟨u::L1,j,L2,by grind,e2,fun k hk=>by grind⟩
     exact ⟨[],u,us,rfl,hu,by simp⟩
   obtain ⟨L1,j,L2,e1,e2,e3⟩:=hex;have hj:=k2 j (by rw [e1];simp);obtain ⟨ed,hed,hb,hx⟩:=h2 j hj e2;rcases k3 L1 L2 j e1 ed hed hb with h3|h3;·simp at h3
   exact hx ⟨e3 _ h3,k2 _ (by rw [e1];simp [h3])⟩
 have hall:=nodup_full (by grind) g2 hlen;refine ⟨by grind,fun i=>⟨g2 i,hall i⟩,fun L1 L2 j e i hed=>?_⟩;simp only [edged,List.any_eq_true,qa4,qbg] at hed;obtain ⟨ed,h1,h2,rfl⟩:=hed;have hb:Region.binds md ed=true:=by unfold Region.binds at h2 ⊢;split at h2<;>simp_all
 rcases g3 L1 L2 j e ed h1 hb with h3|h3
 ·grind
 grind
theorem schedule_order (h:edgesOk ops=true)(mixed:Bool)(t:Nat):Order ops (Region.schedule mixed ops t):=by
 simp [edgesOk] at h
 grind[Region.schedule,linearise_order]
end Go.Em
namespace Go.Em
variable {tm tm':List (Nat×X)}{b b':List Bx}{l:List Opd}{p:X}
variable {P:Program} {R:CodeRel} {x:Ctx} {K:Kn} {C:List CB} {σ:St} {a:Act} {w:World}
variable {A:Ann} {Γ:Gam}
theorem ev_bx (tm:List (Nat×X))(b b':List Bx)(q:Opd):St.ev ⟨tm,b⟩ q=St.ev ⟨tm,b'⟩ q:=by cases q<;>rfl
theorem evs_bx (tm:List (Nat×X))(b b':List Bx):∀l,evs ⟨tm,b⟩ l=evs ⟨tm,b'⟩ l
 |[]=>rfl
 |q::r=>by simp only [evs,ev_bx tm b b' q,evs_bx tm b b' r]
theorem parts3_bx (tm:List (Nat×X))(b b':List Bx):∀l,parts3 ⟨tm,b⟩ l=parts3 ⟨tm,b'⟩ l
 |[]=>rfl
 |(i,j,q)::r=>by simp only [parts3,ev_bx tm b b' q,parts3_bx tm b b' r]
theorem parts2_bx (tm:List (Nat×X))(b b':List Bx):∀l,parts2 ⟨tm,b⟩ l=parts2 ⟨tm,b'⟩ l
 |[]=>rfl
 |(i,q)::r=>by simp only [parts2,ev_bx tm b b' q,parts2_bx tm b b' r]
theorem optNat_bx (tm:List (Nat×X))(b b':List Bx)(d:Nat)(l:Option Opd):optNat ⟨tm,b⟩ d l=optNat ⟨tm,b'⟩ d l:=by
 cases l<;>simp only [optNat]<;>grind[ev_bx]
def SameOn (tm tm':List (Nat×X))(l:List Opd):Prop:=∀n,Opd.t n∈l->lk tm n=lk tm' n
theorem ev_on (h:SameOn tm tm' l){q:Opd}(hq:q∈l):St.ev ⟨tm,b⟩ q=St.ev ⟨tm',b⟩ q:=by
 cases q with
 |t n=>exact h n hq
 |k y=>rfl
theorem evs_on {tm tm':List (Nat×X)}{b:List Bx}{l:List Opd}(h:SameOn tm tm' l):∀{m:List Opd},(∀q,q∈m->q∈l)->evs ⟨tm,b⟩ m=evs ⟨tm',b⟩ m
 |[],_=>rfl
 |q::r,hm=>by simp only [evs,ev_on (b:=b) h (hm q (by simp)),evs_on h (m:=r) (fun q hq=>hm q (by grind))]
theorem parts3_on {tm tm':List (Nat×X)}{b:List Bx}{l:List Opd}(h:SameOn tm tm' l):∀{m:List (Nat×Nat×Opd)},(∀q,q∈m.map (·.2.2)->q∈l)->parts3 ⟨tm,b⟩ m=parts3 ⟨tm',b⟩ m
 |[],_=>rfl
 |(i,j,q)::r,hm=>by simp only [parts3,ev_on (b:=b) h (hm q (by simp)),parts3_on h (m:=r) (fun q hq=>hm q (by grind))]
theorem parts2_on {tm tm':List (Nat×X)}{b:List Bx}{l:List Opd}(h:SameOn tm tm' l):∀{m:List (Nat×Opd)},(∀q,q∈m.map (·.2)->q∈l)->parts2 ⟨tm,b⟩ m=parts2 ⟨tm',b⟩ m
 |[],_=>rfl
 |(i,q)::r,hm=>by simp only [parts2,ev_on (b:=b) h (hm q (by simp)),parts2_on h (m:=r) (fun q hq=>hm q (by grind))]
theorem optNat_on (h:SameOn tm tm' l){d:Nat}{m:Option Opd}(hm:∀q,q∈m.toList->q∈l):optNat ⟨tm,b⟩ d m=optNat ⟨tm',b⟩ d m:=by
 cases m<;>grind[optNat,ev_on]
theorem loadX_tm (tm tm':List (Nat×X))(b:List Bx)(n:Option Nat)(p:X):loadX ⟨tm,b⟩ n p=loadX ⟨tm',b⟩ n p:=rfl
theorem stepI_on {i:I}(h:SameOn tm tm' i.opds):stepI Γ ⟨tm,b⟩ i=stepI Γ ⟨tm',b⟩ i:=by
 cases i with
 |build z ps=>grind[stepI,parts3_on,I.opds]
 |bslice n z ps=>grind[stepI,parts2_on,I.opds]
 |mkfn f l=>grind[stepI,evs_on,I.opds]
 |mm m l=>grind[stepI,evs_on,I.opds]
 |call o r w f l=>grind[stepI,ev_on,I.opds,evs_on]
 |slice s y lo hi mx=>
  have e1:=ev_on (b:=b) h (q:=y) (by simp [I.opds]);have e2:=optNat_on (b:=b) h (d:=0) (m:=lo) (fun q hq=>by grind[I.opds]);have e3:=fun d=>optNat_on (b:=b) h (d:=d) (m:=hi) (fun q hq=>by grind[I.opds]);have e4:∀q,mx=some q->St.ev ⟨tm,b⟩ q=St.ev ⟨tm',b⟩ q:=fun q hq=>ev_on (b:=b) h (q:=q) (by grind[I.opds]);cases mx with
  |none=>grind[stepI]
  |some q=>simp only [stepI,e1,e2,e3,e4 q rfl]
 |sslice y lo hi=>
  have hm:∀q,q∈(I.sslice y lo hi).opds↔q=y\/q∈lo.toList\/q∈hi.toList:=by intro q;cases lo<;>cases hi<;>simp [I.opds]
  have e1:=ev_on (b:=b) h (q:=y) ((hm y).2 (.inl rfl));have e2:=optNat_on (b:=b) h (d:=0) (m:=lo) (fun q hq=>(hm q).2 (.inr (.inl hq)))<;>grind[optNat_on,stepI]
 |pick c p q=>grind[stepI,ev_on,I.opds]
 |alloc z=>rfl
 |load n p=>grind[stepI,ev_on,I.opds,loadX_tm]
 |store n p q=>grind[stepI,ev_on,I.opds]
 |bin o p q=>grind[stepI,ev_on,I.opds]
 |beq o p q=>grind[stepI,ev_on,I.opds]
 |ceq ks o p q=>grind[stepI,ev_on,I.opds]
 |mksl n z p q=>grind[stepI,ev_on,I.opds]
 |iaddr ar s p q=>grind[stepI,ev_on,I.opds]
 |aidx n s r p q=>grind[stepI,ev_on,I.opds]
 |sidx p q=>grind[stepI,ev_on,I.opds]
 |app o s n p q=>grind[stepI,ev_on,I.opds]
 |mov p=>grind[stepI,ev_on,I.opds]
 |box p=>grind[stepI,ev_on,I.opds]
 |snil n p=>grind[stepI,ev_on,I.opds]
 |un n p=>grind[stepI,ev_on,I.opds]
 |conv n p=>grind[stepI,ev_on,I.opds]
 |idc p=>grind[stepI,ev_on,I.opds]
 |s2b p=>grind[stepI,ev_on,I.opds]
 |faddr n p=>grind[stepI,ev_on,I.opds]
 |field n s p=>grind[stepI,ev_on,I.opds]
 |nilck p=>grind[stepI,ev_on,I.opds]
 |extract p n=>grind[stepI,ev_on,I.opds]
 |len p=>grind[stepI,ev_on,I.opds]
 |slen p=>grind[stepI,ev_on,I.opds]
 |mkmap=>rfl
 |mput kk m k v=>grind[stepI,ev_on,I.opds]
 |mget kk o z m k=>grind[stepI,ev_on,I.opds]
 |copy sz d s=>grind[stepI,ev_on,I.opds]
 |mlen p=>grind[stepI,ev_on,I.opds]
 |mrange p=>grind[stepI,ev_on,I.opds]
 |mnext p=>grind[stepI,ev_on,I.opds]
 |mentry p=>grind[stepI,ev_on,I.opds]
 |mkifc p=>grind[stepI,ev_on,I.opds]
 |inil n p=>grind[stepI,ev_on,I.opds]
theorem rowOf_on {i off len:Nat}(h:b'[i]?=b[i]?):rowOf b' i off len=rowOf b i off len:=by grind[rowOf]
mutual
theorem data_on {b b':List Bx}{raw:Bool}:∀(z:X),(∀i,i∈z.rows->b'[i]?=b[i]?)->z.data b' raw=z.data b raw
 |.bs i off len,h=>by grind[X.data,rowOf_on,X.rows]
 |.agg cs,h=>by simp only [X.data,dataL_on cs (fun i hi=>h i (by grind[X.rows]))]
 |.tup cs,h=>by simp only [X.data,dataL_on cs (fun i hi=>h i (by grind[X.rows]))]
 |.ptr ..,_=>rfl
 |.yl _,_=>rfl
 |.mp _,_=>rfl
 |.it _,_=>rfl
 |.ifc,_=>rfl
 |.fn ..,_=>rfl
 |.v _,_=>rfl
 |.sl ..,_=>rfl
 |.dp _,_=>rfl
theorem dataL_on {b b':List Bx}{raw:Bool}:∀(cs:List X),(∀i,i∈rowsL cs->b'[i]?=b[i]?)->dataL b' raw cs=dataL b raw cs
 |[],_=>rfl
 |z::r,h=>by simp only [dataL,data_on z (fun i hi=>h i (by grind[rowsL])),dataL_on r (fun i hi=>h i (by grind[rowsL]))]
end
theorem loadX_on {n:Option Nat}(h:∀i,i∈boxesRead p->b'[i]?=b[i]?):loadX ⟨tm,b'⟩ n p=loadX ⟨tm,b⟩ n p:=by
 have:loadCs ⟨tm,b'⟩ p=loadCs ⟨tm,b⟩ p:=by
  cases p with
  |ptr i e o=>grind[loadCs,boxesRead]
  |_=>rfl
 grind[loadX]
theorem srcOf_on (h:∀i,i∈p.rows->b'[i]?=b[i]?):srcOf b' p=srcOf b p:=by
 cases p with
 |bs i off len=>grind[srcOf,rowOf_on,X.rows]
 |_=>rfl
end Go.Em
