/-.-/
import Derived.Orders
import Derived.Test.YtpcjeobkehmhpaaGreatDoorEmU2
set_option linter.unusedSimpArgs false
set_option linter.unusedVariables false
namespace Go.Em
variable {raw:Bool}
variable {P:Program} {R:aT} {x:Ctx} {K:Kn} {C:List CB} {σ:St} {a:Act} {w:World}
variable {o:Oper} {y:X} {bx:List Bx} {A:Ann} {Γ:Gam} {fp:FP}
def Upon (P:Program)(R:aT)(x:Ctx)(σ:St)(a:Act)(w:World)(o:Oper)(y:X)(bx:List Bx):Prop:=
 ∀(r:Option Nat) (next:Act->World->Prop) (Q:Exit->Act->World->Prop),
  (∀(K':Kn) (C':List CB) (v:Value) (w':World),Em.Rel P R x K' C' ⟨σ.tm,bx⟩ a w'->Rep K' C' y v->next (a.put o.dst v) w')->o.uponIn (Fr r) 0 P a next Q ((execOp a.eval o).run P w)
theorem dR.upon (h:dR P R x σ a w o y bx):Upon P R x σ a w o y bx:=by
 obtain ⟨K',C',nx,v,w',hrun,hd,hrel,hrep⟩:=h;intro r next Q hn
 rw [hrun];rcases hd with rfl|⟨rfl,rfl⟩;·exact hn K' C' v w' hrel hrep
 exact hn K' C' undef w' hrel hrep
theorem G6 {r:Option Nat}{n:Nat}{f:FuncId}{args:Array Value}{Q:Ending->World->Prop}(h:Calls P f args w Q):CallsIn (Fr r) n P f args w Q:=
 (callsIn_wide (n:=n)).2 h
theorem zpc (args:Array Operand)(a:Act):(args.map a.eval).toList=args.toList.map a.eval:=by simp
theorem wP {K2:Kn}(hI:Inv P R K C σ.bx w)(hK:KLe K K2){args ds:List X}{aQ:Array Value}(h:dB K C args aQ)(e:dZ σ.bx raw args=some ds)
  (hrow:(∀(b o:Nat) (u:Value),kJ C σ.bx b o->w.cell? ⟨b,o,none⟩=some u->K2 b o=some u)\/iQ args=[]):dB K2 C ds aQ:=by
 obtain ⟨h1,h2⟩:=wQ e;refine ⟨by rw [h.1,h1],fun j z v ez ev=>?_⟩;have hj:=(qak.1 ez).1;obtain ⟨z',e1,e2⟩:=h2 j args[j] (qad (by omega));rw [ez] at e1;cases e1;refine (h.2 j _ v (qad (by omega)) ev).data hI hK (hrow.imp_right fun hn=>?_) e2<;>simp_all[List.eq_nil_iff_forall_not_mem,vW]
theorem jQ {as cs:List X}{va vc:Array Value}(h:dB K C as va)(h':dB K C cs vc):dB K C (as++cs) (va++vc):=by
 refine ⟨by simp [h.1,h'.1],fun j z v e e'=>?_⟩;by_cases hj:j<as.length;·rw [qar hj] at e;rw [Array.getElem?_append_left (by rw [h.1]<;>grind)] at e';exact h.2 j z v e e'
 rw [qaA (by omega)] at e;rw [Array.getElem?_append_right (by rw [h.1];omega),h.1] at e';exact h'.2 _ z v e e'
theorem zhZ {f:Operand}{args:Array Operand}{tys:Array TypeId}{t1:TypeId}{f':Opd}{ts:List TypeId}{qs:List Opd}{own ref:Bool}{yf:X}{ys:List X}(hΓ:rQ P R Γ)(h:Rel P R x K C σ a w)(ho:o.op=.call ⟨.value f,args,tys⟩)(hf:aW P R.gl t1 f=some f')
  (hq:iG P R.gl ts args.toList=some qs) (ef:σ.ev f'=some yf) (eq:evs σ qs=some ys) (e:uI Γ own ref raw yf ys σ.bx=some (y,bx,fp)):Upon P R x σ a w o y bx:=by
 have rf:=bC h.inv.glob h.tm hf ef;obtain ⟨q1,q2⟩:=JJ h.inv.glob h.tm hq eq;have hargs:dB K C ys (args.map a.eval):=⟨by grind,fun j z v e e'=>q2 j z v e (by grind)⟩;have enter:∀(g:FuncId) (all:Array Value) (Q':Ending->World->Prop),(execOp a.eval o).run P w=(callFunc g all).run P w->zfo P g->Calls P g all w Q'->(∀e w',Q' e w'->∃(v:Value) (K':Kn) (C':List CB),e=.returned v/\Em.Rel P R x K' C' ⟨σ.tm,bx⟩ a w'/\Rep K' C' y v)->Upon P R x σ a w o y bx:=by
  intro g all Q' hrun hok hc hQ r next Q hn
  rw [hrun,hok all w];rw [Oper.uponIn_enter];refine ⟨fun hd=>by grind[Fr,Fence.wide],G6 (hc.mono fun e w' hq=>?_)⟩;obtain ⟨v,K',C',rfl,hr,hp⟩:=hQ e w' hq;exact hn K' C' v w' hr hp
 generalize hvf:a.eval f=vf at rf;unfold uI at e;split at e
 ·grind
 rename_i as hconv;split at e
 ·
  rename_i g caps;cases rf with
  |fn hs hr=>
   rename_i vs;have zd9:dB K C caps vs:=⟨hs,hr⟩;have hrun:(execOp a.eval o).run P w=(callFunc g (args.map a.eval++vs)).run P w:=by simp [execOp,ho,resolve,Deferred.ofValue,hvf,invoke]
   split at e
   ·rename_i hc;simp only [qab,Bool.not_eq_true'] at hc;obtain ⟨⟨hc1,hc2⟩,hc3⟩:=hc;rw [hc2] at hconv;simp at hconv;split at e
    ·grind
    rename_i z hz;split at e
    ·rename_i hcond;simp only [qab] at hcond;simp at e;obtain ⟨rfl,rfl,_⟩:=e;by_cases hrows:iQ ys=[];·have hA:=jQ (wP h.inv (KLe.refl K) hargs hconv (.inr hrows)) zd9;obtain ⟨hok,zi⟩:=OJ hΓ h hA hc3 hz hcond.1;exact enter g _ _ hrun hok zi fun e w' hq=>hq.step
     have hpl:z.plain=true:=by
      rcases Bool.or_eq_true _ _▸hcond.2 with h1|h1
      ·grind
      ·grind
     have hK:KLe K (seen w):=fun b o v e=>h.inv.known b o v e;have hA:=jQ (wP h.inv hK hargs hconv (.inl fun b o u _ hu=>hu)) (⟨zd9.1,fun j z v e e'=>(zd9.2 j z v e e').mono hK (CLe.refl _)⟩:dB (seen w) C caps vs);obtain ⟨hok,zi⟩:=OL hΓ h hA hc3 hz hpl;exact enter g _ _ hrun hok zi fun e w' hq=>hq.step
    grind
   split at e
   ·rename_i hcond;have hA:dB K C as (args.map a.eval):=by
     cases hr':ref with
     |true=>grind
     |false=>rw [hr'] at hconv hcond;simp at hconv;simp only [Bool.false_or] at hcond;exact wP h.inv (KLe.refl K) hargs hconv (.inr (List.isEmpty_iff.1 hcond))
    split at e
    ·grind
    rename_i z bx' sel hz;simp at e;obtain ⟨rfl,rfl,_⟩:=e;obtain ⟨hok,zi⟩:=G7 hΓ h (jQ hA zd9) hz;exact enter g _ _ hrun hok zi fun e w' hq=>hq.step
   grind
 ·
  rename_i i;cases rf with
  |yl hc=>
   rename_i l;split at e
   ·rename_i hcond;have hA:dB K C as (args.map a.eval):=by
     cases hr':ref with
     |true=>grind
     |false=>rw [hr'] at hconv hcond;simp at hconv;simp only [Bool.false_or] at hcond;exact wP h.inv (KLe.refl K) hargs hconv (.inr (List.isEmpty_iff.1 hcond))
    split at e
    ·grind
    rename_i z bx' sel hz;simp at e;obtain ⟨rfl,rfl,_⟩:=e;intro r next Q hn
    obtain ⟨f0,tmps,assign,body,hrun,ZR⟩:=WC hΓ h hc hA hz r;have EI:(execOp a.eval o).run P w=.ok (.round l f0 tmps assign body) w:=by simp [execOp,ho,resolve,Deferred.ofValue,hvf,invoke,hrun]
    rw [EI,Oper.uponIn_round];refine ⟨fun hd=>by grind[Fr,Fence.wide],ZR.mono fun e w' hq=>?_⟩;obtain ⟨v,K',C',rfl,hr,hp⟩:=hq.step
    grind
   grind
 grind
end Go.Em
namespace Go.Em
variable {args:Array Operand}{i:I}{qs:List Opd}{l:List Operand}{sz:Nat}{p z':Opd}{z:Operand}{lo':Option Opd}{lo:Option Operand}
variable {P:Program} {R:aT} {x:Ctx} {K:Kn} {C:List CB} {σ:St} {a:Act} {w:World}
variable {o:Oper} {y:X} {bx:List Bx} {A:Ann} {Γ:Gam} {fp:FP}
theorem map_some {α β:Type}{f:α->β}{o:Option α}{b:β}(h:o.map f=some b):∃a,o=some a/\f a=b:=by intros;simp_all
theorem Fh {ts:List TypeId}{q:Opd}(h:iG P R.gl ts l=some [p,q]):∃a b t t',l=[a,b]/\aW P R.gl t a=some p/\aW P R.gl t' b=some q:=by
 cases l with
 |nil=>grind[iG]
 |cons a r=>
  simp only [iG] at h;cases ha:aW P R.gl (hd0 ts) a with
  |none=>grind
  |some p'=>
   simp only [ha] at h;obtain ⟨l',hl,e⟩:=map_some h;cases e;cases r with
   |nil=>grind[iG]
   |cons b s=>
    simp only [iG] at hl;cases hb:aW P R.gl (hd0 ts.tail) b with
    |none=>grind
    |some q'=>
     simp only [hb] at hl;obtain ⟨l'',hl',e⟩:=map_some hl;cases e;cases s with
     |nil=>grind
     |cons c u=>grind[iG,map_some]
theorem wX {ts:List TypeId}(h:iG P R.gl ts l=some [p]):∃a t,l=[a]/\aW P R.gl t a=some p:=by
 cases l with
 |nil=>grind[iG]
 |cons a r=>
  simp only [iG] at h;cases ha:aW P R.gl (hd0 ts) a with
  |none=>grind
  |some p'=>
   simp only [ha] at h;obtain ⟨l',hl,e⟩:=map_some h;cases e;cases r with
   |nil=>grind
   |cons b s=>simp only [iG] at hl;cases hb:aW P R.gl (hd0 ts.tail) b<;>simp_all
theorem zcK {tys:Array TypeId}(h:Rel P R x K C σ a w)(ho:o.op=.call ⟨.builtin .len,args,tys⟩)
  (htr:(match (tys[0]?).bind P.underlying,qs with|some (.slice _),[x]=>some (I.len x)|some .string,[x]=>some (.slen x)|some (.map _ _),[x]=>some (.zh6 x)|_,_=>none)=some i) (hq:iG P R.gl tys.toList args.toList=some qs) (hs:aG Γ σ i=some (y,bx,fp)):Upon P R x σ a w o y bx:=by
 split at htr
 ·rename_i e q hu;cases htr;obtain ⟨t,ht,hut⟩:=qaD.1 hu;obtain ⟨p,tp,hl,hp⟩:=wX hq;simp only [aG] at hs;split at hs;next es hev=>cases hs;obtain ⟨ob,cap,hv⟩:=YK (bC h.inv.glob h.tm hp hev) rfl;exact (dR.still h (kX ho hl ht hut hv (.inl ⟨_,_,_,rfl,rfl⟩)) (.v rfl)).upon
  next n hev=>cases hs;obtain ⟨ob,cap,hv⟩:=YK (bC h.inv.glob h.tm hp hev) rfl;exact (dR.still h (kX ho hl ht hut hv (.inl ⟨_,_,_,rfl,rfl⟩)) (.v rfl)).upon
  grind
 ·rename_i q hu;cases htr;obtain ⟨t,ht,hut⟩:=qaD.1 hu;obtain ⟨p,tp,hl,hp⟩:=wX hq;simp only [aG] at hs;split at hs;next s hev=>cases hs;exact (dR.still h (kX ho hl ht hut (fD (bC h.inv.glob h.tm hp hev)) (.inr ⟨s,rfl,rfl,rfl⟩)) (.v rfl)).upon
  grind
 ·rename_i kt e q hu;cases htr;obtain ⟨t,ht,hut⟩:=qaD.1 hu;obtain ⟨p,tp,hl,hp⟩:=wX hq;have ha':args=#[p]:=by rw [<-Array.toArray_toList (xs:=args),hl]
  subst ha';simp only [aG] at hs;split at hs
  ·rename_i i hev;split at hs;next es hb=>cases hs;exact (Y8 h ho ht hut hp hev (.inl ⟨i,rfl,hb⟩)).upon
   grind
  next hev=>cases hs;exact (Y8 (es:=[]) h ho ht hut hp hev (.inr ⟨rfl,rfl⟩)).upon
  grind
 grind
theorem X3 {isMax:Bool}{tys:Array TypeId}(h:Rel P R x K C σ a w)(ho:o.op=.call ⟨.builtin (if isMax then .max else .min),args,tys⟩)(hq:iG P R.gl tys.toList args.toList=some qs)
  (hs:aG Γ σ (.mm isMax qs)=some (y,bx,fp)):Upon P R x σ a w o y bx:=by
 simp only [aG] at hs;split at hs;next m r hev=>obtain ⟨z,hz,e⟩:=map_some hs;cases e;exact (zpY h ho hq hev hz).upon
 grind
theorem zcL {tys:Array TypeId}(h:Rel P R x K C σ a w)(ho:o.op=.call ⟨.builtin .append,args,tys⟩){own:Bool}
  (htr:(match (tys[0]?).bind P.underlying,(tys[1]?).bind P.underlying,qs with
    |some (.slice e),some (.slice _),[s,x]=>match dY P e,uf P e,oN P e with
     |some n,some (b+1),some _=>some (I.app own n (b+1) s x)
     |_,_,_=>none
    |_,_,_=>none)=some i) (hq:iG P R.gl tys.toList args.toList=some qs) (hs:aG Γ σ i=some (y,bx,fp)):Upon P R x σ a w o y bx:=by
 split at htr
 ·rename_i e e1 s z hu0 hu1;split at htr
  ·rename_i n b zr hn hb hz;cases htr;obtain ⟨t0,ht0,zsY⟩:=qaD.1 hu0;obtain ⟨t1,ht1,zsX⟩:=qaD.1 hu1;obtain ⟨p,q,tp,tq,hl,hp,hqq⟩:=Fh hq;simp only [aG] at hs;split at hs
   ·rename_i ys yz evs evz;split at hs
    ·grind
    rename_i sz' new hsrc;split at hs
    ·grind
    rename_i hsz;have hsz:sz'=n:=by simpa using hsz
    subst hsz;split at hs
    ·rename_i sz0 es;split at hs
     ·rename_i hc;simp only [qab,qaP] at hc;obtain ⟨rfl,hroom⟩:=hc;obtain ⟨k1,k2,k3⟩:=Zb h ho hl ht0 ht1 zsY zsX hn hb hz (by omega) hp hqq evs evz hsrc hroom;split at hs
      ·split at hs;next hemp=>cases hs;exact (k1 (List.isEmpty_iff.1 hemp)).upon
       rename_i hemp;cases hs;exact (k3 (fun e=>hemp (by grind))).upon
      cases hs;exact k2.upon
     grind
    ·rename_i ib off len;split at hs
     ·rename_i sz0 es hbx;split at hs;next hc=>simp only [qab,qaP] at hc;obtain ⟨⟨⟨rfl,hend⟩,hroom⟩,_⟩:=hc;cases hs;exact (Zc h ho hl ht0 ht1 zsY zsX hn hb hz (by omega) hp hqq evs evz hsrc hbx hend hroom).upon
      grind
     grind
    grind
   grind
  grind
 grind
theorem Fq {arr:Option Nat}{t t1 t2 e:TypeId}{iz:Operand}{i':Opd}(h:Rel P R x K C σ a w)(ho:o.op=.indexAddr t z iz)(hu:(arr=none/\P.underlying t=some (.slice e))\/(∃m,arr=some m/\P.underlying t=some (.array m e)))(hs:dY P e=some sz)
  (hz:aW P R.gl t1 z=some z') (hi:aW P R.gl t2 iz=some i') (hst:aG Γ σ (.yg arr sz z' i')=some (y,bx,fp)):Upon P R x σ a w o y bx:=by
 simp only [aG] at hst;split at hst
 ·rename_i yz n ez en;obtain ⟨yi,ei,hn⟩:=qaD.1 en;split at hst
  ·rename_i t' s es;split at hst
   ·rename_i hss;have hss:s=sz:=by simpa using hss
    subst hss;obtain ⟨e0,he,e'⟩:=map_some hst;simp only [qaJ] at e';obtain ⟨rfl,rfl,_⟩:=e';rcases hu with ⟨_,hu⟩|⟨m,hm,_⟩;·exact (OV h ho hu hs hz hi ez ei hn he).upon
    grind
   grind
  ·rename_i ib off len;split at hst
   ·rename_i s es hb;split at hst
    ·rename_i hc;simp only [qab,qaP,qaF] at hc;obtain ⟨rfl,hlt⟩:=hc;cases hst;rcases hu with ⟨_,hu⟩|⟨m,hm,_⟩;·exact (OW h ho hu hs hz hi ez ei hn hb hlt).upon
     grind
    grind
   grind
  ·rename_i len ip ep op;split at hst
   ·rename_i hlt;cases hst;rcases hu with ⟨hm,_⟩|⟨m,hm,hu⟩
    ·grind
    cases hm;exact (y5 h ho hu hs hz hi ez ei hn hlt rfl).upon
   grind
  ·rename_i len cs;split at hst
   ·rename_i hlt;cases hst;rcases hu with ⟨hm,_⟩|⟨m,hm,hu⟩
    ·grind
    cases hm;exact (y5 h ho hu hs hz hi ez ei hn hlt rfl).upon
   grind
  grind
 grind
theorem Uu {t t1 e:TypeId}{hi mx:Option Operand}{hi' mx':Option Opd}(h:Rel P R x K C σ a w)(ho:o.op=.slice t z lo hi mx)(hu:P.underlying t=some (.slice e))(hs:dY P e=some sz)
  (hz:aW P R.gl t1 z=some z') (hlo:kU P R.gl lo=some lo') (hhi:kU P R.gl hi=some hi') (hmx:kU P R.gl mx=some mx') (hor:mx=none\/hi.isSome=true) (hst:aG Γ σ (.slice sz z' lo' hi' mx')=some (y,bx,fp)):Upon P R x σ a w o y bx:=by
 simp only [aG] at hst;split at hst
 ·rename_i tt s es ez;split at hst
  ·rename_i l hh el eh;split at hst
   ·rename_i hc;simp only [qab,qaP,qaF] at hc;obtain ⟨⟨rfl,h1⟩,h2⟩:=hc;cases mx with
    |none=>simp only [kU,qag] at hmx;subst hmx;cases hst;exact (BR h ho hu hs hz hlo hhi rfl ez el eh h1 h2 _ (.inl ⟨rfl,rfl⟩)).upon
    |some m=>
     have zs6:=hmx;simp only [kU] at hmx;obtain ⟨qm,hqm,rfl⟩:=map_some hmx;simp only at hst;split at hst
     ·rename_i mv hm;split at hst
      ·rename_i heq;have heq:hh=mv:=by simpa using heq
       subst heq;cases hst;have hsome:hi.isSome=true:=by rcases hor with h3|h3;cases h3;exact h3
       refine (BR h ho hu hs hz hlo hhi zs6 ez el eh h1 h2 true (.inr ⟨m,rfl,hsome,?_,rfl⟩)).upon;exact lu h.inv.glob h.tm zs6 hm
      grind
     grind
   grind
  grind
 ·rename_i i off len ez;split at hst
  ·rename_i l hh el eh;have hmn:mx=none:=by
    cases mx with
    |none=>rfl
    |some m=>simp_all[kU]
   subst hmn;split at hst
   ·rename_i hc;simp only [qab,qaF] at hc;split at hst
    ·rename_i heq;have heq:l=hh:=by simpa using heq
     cases hst;exact (BU h ho hu hs hz hlo hhi ez el eh hc.1 hc.2 (.inl ⟨heq,rfl⟩)).upon
    rename_i hne;split at hst
    ·rename_i s es hb;split at hst
     ·rename_i hss;have hss:s=sz:=by simpa using hss
      subst hss;cases hst;exact (BU h ho hu hs hz hlo hhi ez el eh hc.1 hc.2 (.inr ⟨fun e=>hne (by grind),⟨es,hb⟩,rfl⟩)).upon
     grind
    grind
   grind
  grind
 grind
theorem Fg (h:kU P R.gl lo=some lo'):lo'.isSome=lo.isSome:=by
 cases lo with
 |none=>grind[kU]
 |some p=>simp only [kU] at h;obtain ⟨q,_,rfl⟩:=map_some h;rfl
set_option maxHeartbeats 1600000 in
theorem Ol (hΓ:rQ P R Γ)(h:Rel P R x K C σ a w)(htr:zly P R.gl A o=some i)(hs:aG Γ σ i=some (y,bx,fp)):Upon P R x σ a w o y bx:=by
 unfold zly at htr;split at htr;next z ho=>obtain ⟨q,hq,rfl⟩:=map_some htr;simp only [aG] at hs;obtain ⟨v,hv,e⟩:=map_some hs;cases e;exact (zfS h (.inl ho) hq hv).upon
 next z ho=>obtain ⟨q,hq,rfl⟩:=map_some htr;simp only [aG] at hs;obtain ⟨v,hv,e⟩:=map_some hs;cases e;exact (zfS h (.inr ho) hq hv).upon
 ·rename_i c p q ho;split at htr
  ·rename_i c' p' q' hc hp hq;cases htr;simp only [aG] at hs;split at hs;next t y1 y2 e1 e2 e3=>cases hs;exact (zhT h ho hc hp hq e1 e2 e3).upon
   grind
  grind
 next e ho=>obtain ⟨l,hl,rfl⟩:=map_some htr;simp only [aG,qag,qaJ] at hs;obtain ⟨rfl,rfl,_⟩:=hs;exact (zdn h ho hl).upon
 ·rename_i t z ho;obtain ⟨q,hq,rfl⟩:=map_some htr;simp only [aG] at hs;split at hs
  ·grind
  rename_i v hv;split at hs;next h1=>cases hs;exact (zm5 h ho hq hv h1).upon
  grind
 ·rename_i t parts ho;split at htr
  ·rename_i fs z hu hz;split at htr
   ·rename_i hall;obtain ⟨qs,hq,rfl⟩:=map_some htr;simp only [aG] at hs;split at hs
    ·grind
    rename_i ps hp;obtain ⟨cs,hf,e⟩:=map_some hs;cases e;exact (BX h ho hu hz hall hq hp hf).upon
   grind
  ·rename_i m e z hu hz;obtain ⟨n,hn,htr⟩:=qaD.1 htr;obtain ⟨qs,hq,rfl⟩:=map_some htr;simp only [aG] at hs;split at hs
   ·grind
   rename_i ps hp;obtain ⟨cs,hf,e⟩:=map_some hs;cases e;exact (Me h ho hu hz hn hq hp hf).upon
  grind
 ·rename_i t len parts ho;split at htr
  ·rename_i e hu;split at htr
   ·rename_i z ps0 hz hq;split at htr
    ·rename_i hl;cases htr;simp only [aG] at hs;split at hs
     ·grind
     rename_i ps hp;split at hs
     ·rename_i hlen;have hlen:len=ps.length:=by simpa using hlen
      obtain ⟨es,hf,e⟩:=map_some hs;cases e;exact (Za h ho hu hz hl hq hp hlen hf).upon
     grind
    grind
   grind
  grind
 ·rename_i t z ho;split at htr
  ·rename_i n q hn hq;cases htr;simp only [aG] at hs;split at hs
   ·grind
   rename_i p hp;obtain ⟨v,hv,e⟩:=map_some hs;cases e;exact (zhW h ho hn hq hp hv).upon
  grind
 ·rename_i t p z ho;split at htr
  ·rename_i n p' z' hn hp hz;cases htr;simp only [aG] at hs;split at hs;next yp yz e1 e2=>obtain ⟨bx',hb,e⟩:=map_some hs;cases e;exact (zdj h ho hn hp hz e1 e2 hb).upon
   grind
  grind
 ·rename_i z ho;obtain ⟨q,hq,rfl⟩:=map_some htr;simp only [aG] at hs;split at hs<;>first
   |(rename_i hv
     cases hs;exact (zdk h ho hq hv rfl).upon)
   |grind
 ·rename_i op t p q u ho;split at htr
  ·rename_i p' q' hp hq;split at htr
   ·rename_i hu;cases htr;simp only [aG] at hs;split at hs;next m n e1 e2=>cases hs;have:=zfV h ho hu (.inl rfl) hp hq e1 e2;simpa using this.upon
    grind
   ·rename_i hu;cases htr;simp only [aG] at hs;split at hs;next m n e1 e2=>cases hs;have:=zfV h ho hu (.inr rfl) hp hq e1 e2;simpa using this.upon
    grind
   ·rename_i e hu;split at htr
    ·cases htr;simp only [aG] at hs;split at hs<;>first
      |(rename_i hv
        cases hs;have:=Y6 h ho hu (.inl rfl) rfl hp hv rfl;simpa using this.upon)
      |grind
    grind
   ·rename_i e hu;split at htr
    ·cases htr;simp only [aG] at hs;split at hs<;>first
      |(rename_i hv
        cases hs;have:=Y6 h ho hu (.inr rfl) rfl hp hv rfl;simpa using this.upon)
      |grind
    grind
   ·rename_i ms hu;split at htr
    ·cases htr;simp only [aG] at hs;split at hs;next e1=>cases hs;exact (I4 (neg:=false) h ho rfl hu hp e1 (.inl ⟨rfl,rfl⟩)).upon
     next e1=>cases hs;exact (I4 (neg:=false) h ho rfl hu hp e1 (.inr ⟨rfl,rfl⟩)).upon
     grind
    grind
   ·rename_i ms hu;split at htr
    ·cases htr;simp only [aG] at hs;split at hs;next e1=>cases hs;exact (I4 (neg:=true) h ho rfl hu hp e1 (.inl ⟨rfl,rfl⟩)).upon
     next e1=>cases hs;exact (I4 (neg:=true) h ho rfl hu hp e1 (.inr ⟨rfl,rfl⟩)).upon
     grind
    grind
   ·cases htr;simp only [aG] at hs;split at hs;next m n e1 e2=>obtain ⟨z,hz,e⟩:=map_some hs;cases e;exact (zfU h ho hp hq e1 e2 hz).upon
    grind
   ·cases htr;simp only [aG] at hs;split at hs;next m n e1 e2=>obtain ⟨z,hz,e⟩:=map_some hs;cases e;exact (zfU h ho hp hq e1 e2 hz).upon
    grind
   ·obtain ⟨ks,hf,rfl⟩:=map_some htr;simp only [aG] at hs;split at hs;next m n e1 e2=>obtain ⟨z,hz,e⟩:=map_some hs;cases e;have:=zfT h ho hf (.inl rfl) hp hq e1 e2 hz;simpa using this.upon
    grind
   ·obtain ⟨ks,hf,rfl⟩:=map_some htr;simp only [aG] at hs;split at hs;next m n e1 e2=>obtain ⟨z,hz,e⟩:=map_some hs;cases e;have:=zfT h ho hf (.inr rfl) hp hq e1 e2 hz;simpa using this.upon
    grind
   grind
  grind
 ·rename_i op t z ho;obtain ⟨q,hq,rfl⟩:=map_some htr;simp only [aG] at hs;split at hs;next m e1=>obtain ⟨u,hu,e⟩:=map_some hs;cases e;exact (zpX h ho hq e1 hu).upon
  grind
 ·rename_i s d z ho;split at htr
  ·rename_i ks k q hsu hdu hq;cases htr;simp only [aG] at hs;split at hs;next k' n e1=>cases hs;exact (zhY h ho hsu hdu hq e1).upon
   grind
  ·rename_i q hsu hdu hq;cases htr;simp only [aG] at hs;split at hs;next b e1=>cases hs;exact (zm4 h ho hsu hdu hq e1).upon
   grind
  ·rename_i e q hsu hdu hq;split at htr
   ·rename_i hu8;cases htr;simp only [aG] at hs;split at hs;next b e1=>cases hs;exact (zm3 h ho hsu hdu hu8 hq e1).upon
    grind
   grind
  grind
 ·rename_i t ho;split at htr;next kt e hu=>cases htr;simp only [aG,qag,qaJ] at hs;obtain ⟨rfl,rfl,_⟩:=hs;exact (zdl h ho hu).upon
  grind
 ·rename_i t m k v ho;split at htr
  ·rename_i kt e m' hu hm;split at htr
   ·rename_i k' v' kk hk hv hkk;cases htr;simp only [aG] at hs;split at hs
    ·rename_i i kv y1 em ek ev;split at hs
     ·rename_i es hb;split at hs;next hc=>simp only [qab] at hc;obtain ⟨es',hp,e1⟩:=map_some hs;cases e1;exact (Y7 h (.inl ho) hu hkk hm hk hv em ek ev hb hc.1.1 hc.1.2 hc.2 hp).upon
      grind
     grind
    grind
   grind
  grind
 ·rename_i t m k v ho;split at htr
  ·rename_i kt e m' hu hm;split at htr
   ·rename_i k' v' kk hk hv hkk;cases htr;simp only [aG] at hs;split at hs
    ·rename_i i kv y1 em ek ev;split at hs
     ·rename_i es hb;split at hs;next hc=>simp only [qab] at hc;obtain ⟨es',hp,e1⟩:=map_some hs;cases e1;exact (Y7 h (.inr ho) hu hkk hm hk hv em ek ev hb hc.1.1 hc.1.2 hc.2 hp).upon
      grind
     grind
    grind
   grind
  grind
 ·rename_i t m k ok ho;split at htr
  ·rename_i kt e m' hu hm;split at htr
   ·rename_i k' z kk hk hz hkk;cases htr;simp only [aG] at hs;split at hs
    ·rename_i i kv em ek;split at hs
     ·rename_i es hb;split at hs;next hc=>obtain ⟨y1,hg,e1⟩:=map_some hs;cases e1;exact (Y9 h ho hu hkk hz hm hk em ek (.inl ⟨i,rfl,hb⟩) hc hg).upon
      grind
     grind
    ·rename_i kv em ek;split at hs;next hc=>obtain ⟨y1,hg,e1⟩:=map_some hs;cases e1;exact (Y9 h ho hu hkk hz hm hk em ek (.inr ⟨rfl,rfl⟩) hc hg).upon
     grind
    grind
   grind
  grind
 ·rename_i t z ho;split at htr
  ·grind
  next d q hd hu hq=>cases htr;simp only [aG] at hs;obtain ⟨v,hv,e1⟩:=map_some hs;cases e1;exact (zdm h ho hu (fun ms e=>hd ms (by grind)) hq hv).upon
  grind
 next f first caps ho=>
  split at htr;next hf=>obtain ⟨qs,hq,rfl⟩:=map_some htr;simp only [aG] at hs;obtain ⟨cs,hc,e⟩:=map_some hs;cases e;exact (zhV h ho hf hq hc).upon
  grind
 ·rename_i t l c ho;split at htr
  ·rename_i e hu;split at htr
   ·rename_i z b l' c' hz hb hl hc;cases htr;simp only [aG] at hs;split at hs
    ·rename_i n m e1 e2;obtain ⟨yl,el,nl⟩:=qaD.1 e1;obtain ⟨yc,ec,nc⟩:=qaD.1 e2;split at hs;next hcnd=>simp only [qab,qaF] at hcnd;cases hs;exact (zhU h ho hu hz hb hl hc el ec nl nc hcnd.1 hcnd.2).upon
     grind
    grind
   grind
  grind
 ·rename_i t z lo hi mx ho;split at htr
  ·rename_i z' lo' hi' hu hz hlo hhi hmx;cases htr;have hmn:mx=none:=by
    cases mx with
    |none=>rfl
    |some m=>simp_all[kU]
   subst hmn;simp only [aG] at hs;split at hs
   ·rename_i s es;split at hs
    ·rename_i l hh el eh;split at hs;next hc=>simp only [qab,qaF] at hc;cases hs;exact (Y5 h ho hu hz hlo hhi es el eh hc.1 hc.2).upon
     grind
    grind
   grind
  ·rename_i e z' lo' hi' mx' hu hz hlo hhi hmx;split at htr
   ·rename_i hor;obtain ⟨n,hn,rfl⟩:=map_some htr;refine Uu h ho hu hn hz hlo hhi hmx ?_ hs;rw [Bool.or_eq_true] at hor;rcases hor with h1|h1;·left;have:=Fg hmx<;>simp_all
    grind[Fg]
   grind
  grind
 ·rename_i t z f ho;split at htr
  ·rename_i fs hu;split at htr
   ·rename_i fd q hf hq;split at htr
    ·rename_i n hn;cases htr;simp only [aG] at hs;split at hs;next i e k hv=>cases hs;exact (RV h ho hu hf hn hq hv rfl).upon
     next cs hv=>cases hs;exact (RV h ho hu hf hn hq hv rfl).upon
     grind
    grind
   grind
  grind
 ·rename_i t z f ho;split at htr
  ·rename_i fs hu;split at htr
   ·rename_i fd q hf hq;obtain ⟨n,hn,rfl⟩:=map_some htr;simp only [aG] at hs;split at hs
    ·rename_i cs hv;cases n with
     |none=>simp only at hs;obtain ⟨v,hv',e⟩:=map_some hs;cases e;exact (RU h ho hu hf rfl hn hq hv hv').upon
     |some n=>
      simp only at hs;split at hs;next hl=>cases hs;exact (RU h ho hu hf rfl hn hq hv (by grind)).upon
      grind
    grind
   grind
  grind
 ·rename_i t z i ho;split at htr;next e z' i' hu hz hi=>obtain ⟨n,hn,rfl⟩:=map_some htr;exact Fq h ho (.inl ⟨rfl,hu⟩) hn hz hi hs
  next m e z' i' hu hz hi=>obtain ⟨n,hn,rfl⟩:=map_some htr;exact Fq h ho (.inr ⟨m,rfl,hu⟩) hn hz hi hs
  grind
 ·rename_i t z i ho;split at htr
  ·rename_i m e z' i' hu hz hi;split at htr
   ·rename_i n r hn hr;cases htr;simp only [aG] at hs;split at hs
    ·rename_i cs j hv hj;obtain ⟨yi,ei,hn'⟩:=qaD.1 hj;split at hs
     ·rename_i hlt;cases r with
      |none=>simp only at hs;obtain ⟨v,hv',e⟩:=map_some hs;cases e;exact (Zd h ho hu hn hr hz hi hv ei hn' hlt hv').upon
      |some k=>
       simp only at hs;split at hs;next hl=>cases hs;exact (Zd h ho hu hn hr hz hi hv ei hn' hlt (by grind)).upon
       grind
     grind
    grind
   grind
  ·rename_i z' i' hu hz hi;cases htr;simp only [aG] at hs;split at hs
   ·rename_i s n hv hj;obtain ⟨yi,ei,hn'⟩:=qaD.1 hj;split at hs;next b hb=>cases hs;exact (zhS h ho hu hz hi hv ei hn' hb).upon
    grind
   grind
  grind
 ·rename_i z i ho;obtain ⟨q,hq,rfl⟩:=map_some htr;simp only [aG] at hs;split at hs;next xs hv=>obtain ⟨v,hv',e⟩:=map_some hs;cases e;exact (Vm h ho hq hv hv').upon
  grind
 ·rename_i c ho;split at htr
  ·grind
  rename_i args hargs;obtain ⟨cal,aQ,tys⟩:=c;dsimp only at htr hargs;split at htr
  ·rename_i f;obtain ⟨f',hf,rfl⟩:=map_some htr
   grind[aG,zhZ]
  ·grind[zcK]
  ·split at htr
   ·rename_i e qd qs hu;obtain ⟨n,hn,rfl⟩:=map_some htr;obtain ⟨t0,ht0,hut⟩:=qaD.1 hu;simp only [aG] at hs;split at hs
    ·rename_i i off len y1 e1 e2;split at hs
     ·rename_i sz0 es sz' new hb hsrc;split at hs;next hc=>cases hs;simp only [qab,qaP,qaF] at hc;obtain ⟨⟨hc1,hc2⟩,hc3⟩:=hc;subst hc1;subst hc2;obtain ⟨pd,ps,ta,tb,hl,hpd,hps⟩:=Fh hargs;exact (zhX h ho hl ht0 hut hn hpd hps e1 e2 hsrc hb hc3).upon
      grind
     grind
    grind
   grind
  ·grind[X3]
  ·grind[X3]
  ·exact zcL h ho htr hargs hs
  grind
 grind
end Go.Em
namespace Go.Em
variable {ops:Array Oper}{md:Region.Mode}
variable {P:Program} {R:aT} {x:Ctx} {K:Kn} {C:List CB} {σ:St} {a:Act} {w:World}
variable {A:Ann} {Γ:Gam}
def zgq (md:Region.Mode)(ops:Array Oper)(acc M:List Nat):Prop:=
 (acc++M).Nodup/\(∀i,i∈M->i<ops.size)/\∀(M1 M2:List Nat) (j:Nat),M=M1++j::M2->∀(e:Edge),e∈(ops.getD j default).after.toList->Region.binds md e=true->e.on∈acc\/e.on∈M1
theorem LW {listed:Array Bool}{acc:List Nat}(hs:listed.size=ops.size)(hl:∀i,i<ops.size->(listed.getD i true=true↔i∈acc))(hf:∀i,ops.size<=i->listed.getD i false=false){i:Nat}:
  i∈Region.ready md ops listed↔i<ops.size/\i∉acc/\∀(e:Edge),e∈(ops.getD i default).after.toList->Region.binds md e=true->e.on∈acc/\e.on<ops.size:=by
 have hd:∀j,listed.getD j false=true↔j∈acc/\j<ops.size:=by
  intro j;by_cases hj:j<ops.size
  ·grind
  ·grind
 simp only [Region.ready,List.mem_filter,List.mem_range,qab,Bool.not_eq_true'];constructor
 ·rintro ⟨h1,h2,h3⟩
  have ho:ops[i]?=some (ops.getD i default):=by simp [Array.getD,h1]
  rw [ho] at h3;simp only [qao,Option.getD_some] at h3;refine ⟨h1,(fun hm=>by grind),fun e he hb=>?_⟩;have:=(Array.all_eq_true_iff_forall_mem.1 h3) e (by simpa using he)<;>simp_all
 rintro ⟨h1,h2,h3⟩
 have ho:ops[i]?=some (ops.getD i default):=by simp [Array.getD,h1]
 grind
theorem ED :∀(fuel t:Nat) (listed:Array Bool) (acc:List Nat),listed.size=ops.size->(∀i,i<ops.size->(listed.getD i true=true↔i∈acc))->acc.Nodup->(∀i,i∈acc->i<ops.size)->
  zgq md ops acc (Region.linearise.go md ops fuel t listed [])/\
   ((Region.linearise.go md ops fuel t listed []).length=fuel\/∃acc':List Nat,(∀i,i∈acc'↔i∈acc\/i∈Region.linearise.go md ops fuel t listed [])/\∀i,i<ops.size->i∉acc'->∃e:Edge,e∈(ops.getD i default).after.toList/\Region.binds md e=true/\¬(e.on∈acc'/\e.on<ops.size)):=by
 intro fuel;induction fuel with
 |zero=>intro t listed acc hs hl hn hlt;simp only [Region.linearise.go,List.reverse_nil];exact ⟨⟨by grind,by simp,fun M1 M2 j e=>by simp_all⟩,.inl rfl⟩
 |succ fuel ih=>
  intro t listed acc hs hl hn hlt;have hf:∀i,ops.size<=i->listed.getD i false=false:=by intro i hi;simp [Array.getD,hs,Nat.not_lt.2 hi]
  simp only [Region.linearise.go];change zgq md ops acc (match (Region.ready md ops listed)[t%(Region.ready md ops listed).length]? with
   |some i=>Region.linearise.go md ops fuel (t /(Region.ready md ops listed).length) (listed.setIfInBounds i true) [i]
   |none=>[].reverse)/\((match (Region.ready md ops listed)[t%(Region.ready md ops listed).length]? with
   |some i=>Region.linearise.go md ops fuel (t /(Region.ready md ops listed).length) (listed.setIfInBounds i true) [i]
   |none=>[].reverse).length=fuel+1\/∃acc':List Nat,(∀i,i∈acc'↔i∈acc\/i∈(match (Region.ready md ops listed)[t%(Region.ready md ops listed).length]? with
   |some i=>Region.linearise.go md ops fuel (t /(Region.ready md ops listed).length) (listed.setIfInBounds i true) [i]
   |none=>[].reverse))/\∀i,i<ops.size->i∉acc'->∃e:Edge,e∈(ops.getD i default).after.toList/\Region.binds md e=true/\¬(e.on∈acc'/\e.on<ops.size))
  cases hi:(Region.ready md ops listed)[t%(Region.ready md ops listed).length]? with
  |none=>
   simp only [List.reverse_nil];have hnil:Region.ready md ops listed=[]:=by
    cases hr:Region.ready md ops listed with
    |nil=>rfl
    |cons u us=>grind[Nat.mod_lt]
   refine ⟨⟨by grind,by simp,fun M1 M2 j e=>by grind⟩,.inr ⟨acc,by simp,fun i h1 h2=>?_⟩⟩;have hno:i∉Region.ready md ops listed:=by rw [hnil];simp
   rw [LW hs hl hf] at hno
   grind
  |some i=>
   simp only [];rw [linearise_go_acc,List.reverse_singleton,List.singleton_append];obtain ⟨r1,r2,r3⟩:=(LW hs hl hf).1 (qan hi);have hl':∀j,j<ops.size->((listed.setIfInBounds i true).getD j true=true↔j∈i::acc):=by
    intro j hj;by_cases hij:j=i;·subst hij;simp [Array.getD,hs,hj]
    have:(listed.setIfInBounds i true).getD j true=listed.getD j true:=by simp only [Array.size_setIfInBounds,hs,hj,dif_pos];have:=Array.getElem?_setIfInBounds_ne (xs:=listed) (a:=true) (i:=i) (j:=j) (fun e=>hij e.symm);simpa [hs,hj] using this
    grind
   obtain ⟨⟨g1,g2,g3⟩,g4⟩:=ih (t /(Region.ready md ops listed).length) (listed.setIfInBounds i true) (i::acc) (by grind) hl' (List.nodup_cons.2 ⟨r2,hn⟩) (by grind);refine ⟨⟨?_,?_,?_⟩,?_⟩;·rw [List.cons_append,List.nodup_cons] at g1;have hp:(acc++i::Region.linearise.go md ops fuel (t /(Region.ready md ops listed).length) (listed.setIfInBounds i true) []).Perm (i::(acc++Region.linearise.go md ops fuel (t /(Region.ready md ops listed).length) (listed.setIfInBounds i true) [])):=List.perm_middle;exact hp.nodup_iff.2 (List.nodup_cons.2 g1)
   ·intro j hj;rcases qaj.1 hj with rfl|hj;exact r1;exact g2 j hj
   ·intro M1 M2 j e ed hed hb;cases M1 with
    |nil=>simp at e;rw [<-e.1] at hed;exact .inl (r3 ed hed hb).1
    |cons u M1=>
     simp at e;rcases g3 M1 M2 j e.2 ed hed hb with h1|h1
     ·rcases qaj.1 h1 with h2|h2;·right;rw [h2,e.1];simp
      grind
     right;simp [h1]
   rcases g4 with h1|⟨acc',h1,h2⟩;·left;simp [h1]
   right;refine ⟨acc',fun j=>?_,h2⟩;rw [h1 j];simp;constructor
   ·grind
   grind
theorem Gf {n:Nat}{l:List Nat}(hn:l.Nodup)(hlt:∀i,i∈l->i<n)(hl:l.length=n):∀i,i<n->i∈l:=by
 intro i hi;have hsub:∀j,j∈l->j∈List.range n:=fun j hj=>List.mem_range.2 (hlt j hj);rcases Classical.em (i∈l) with h|h;·exact h
 have h1:=List.nodup_cons.2 ⟨h,hn⟩;have h2:∀j,j∈i::l->j∈List.range n:=by intro j hj;rcases qaj.1 hj with rfl|hj;exact List.mem_range.2 hi;exact hsub j hj
 have:=List.Nodup.length_le_of_subset h1 h2<;>grind
structure Order (ops:Array Oper) (L:List Nat):Prop where
 nodup:L.Nodup
 all:∀i,i∈L↔i<ops.size
 follows:∀(L1 L2:List Nat) (j:Nat),L=L1++j::L2->∀i,zeT (ops.getD j default) i=true->i∈L1
theorem Ce (h0:(Region.linearise md ops 0).length=ops.size)(t:Nat):Order ops (Region.linearise md ops t):=by
 have hrep:∀i,i<ops.size->((Array.replicate ops.size false).getD i true=true↔i∈([]:List Nat)):=by intro i hi;simp [Array.getD,hi]
 have key:=fun t=>ED (md:=md) (ops:=ops) ops.size t (Array.replicate ops.size false) [] (by simp) hrep (by simp) (by simp);have e:∀t,Region.linearise md ops t=Region.linearise.go md ops ops.size t (Array.replicate ops.size false) []:=fun _=>rfl;rw [e] at h0;obtain ⟨⟨k1,k2,k3⟩,_⟩:=key 0;have hall0:=Gf (by grind) k2 h0;obtain ⟨⟨g1,g2,g3⟩,g4⟩:=key t;rw [e];have hlen:(Region.linearise.go md ops ops.size t (Array.replicate ops.size false) []).length=ops.size:=by
  rcases g4 with h1|⟨acc',h1,h2⟩
  ·grind
  ·
   rcases Classical.em (∀i,i<ops.size->i∈acc') with hA|hA
   ·have hfull:∀i,i<ops.size->i∈Region.linearise.go md ops ops.size t (Array.replicate ops.size false) []:=fun i hi=>by grind
    have h5:(Region.linearise.go md ops ops.size t (Array.replicate ops.size false) []).length<=ops.size:=by have:=List.Nodup.length_le_of_subset (by grind) (fun j hj=>List.mem_range.2 (g2 j hj));simpa using this
    have h6:ops.size<=(Region.linearise.go md ops ops.size t (Array.replicate ops.size false) []).length:=by have:=List.Nodup.length_le_of_subset (List.nodup_range (n:=ops.size)) (fun j hj=>hfull j (List.mem_range.1 hj));simpa using this
    omega
   exfalso;have hex:∃L1 j L2,Region.linearise.go md ops ops.size 0 (Array.replicate ops.size false) []=L1++j::L2/\j∉acc'/\∀i,i∈L1->i∈acc':=by
    have hsome:∃i,i∈Region.linearise.go md ops ops.size 0 (Array.replicate ops.size false) []/\i∉acc':=by simp only [Classical.not_forall] at hA;obtain ⟨i,hi,hni⟩:=hA;exact ⟨i,hall0 i hi,hni⟩
    generalize Region.linearise.go md ops ops.size 0 (Array.replicate ops.size false) []=L at hsome;clear k1 k2 k3 hall0 h0;induction L with
    |nil=>grind
    |cons u us ih=>
     by_cases hu:u∈acc'
     ·obtain ⟨i,hi,hni⟩:=hsome;rcases qaj.1 hi with rfl|hi
      ·grind
      obtain ⟨L1,j,L2,e1,e2,e3⟩:=ih ⟨i,hi,hni⟩;exact ⟨u::L1,j,L2,by grind,e2,fun k hk=>by grind⟩
     exact ⟨[],u,us,rfl,hu,by simp⟩
   obtain ⟨L1,j,L2,e1,e2,e3⟩:=hex;have hj:=k2 j (by rw [e1];simp);obtain ⟨ed,hed,hb,hx⟩:=h2 j hj e2;rcases k3 L1 L2 j e1 ed hed hb with h3|h3;·simp at h3
   exact hx ⟨e3 _ h3,k2 _ (by rw [e1];simp [h3])⟩
 have hall:=Gf (by grind) g2 hlen;refine ⟨by grind,fun i=>⟨g2 i,hall i⟩,fun L1 L2 j e i hed=>?_⟩;simp only [zeT,List.any_eq_true,qab,qaP] at hed;obtain ⟨ed,h1,h2,rfl⟩:=hed;have hb:Region.binds md ed=true:=by unfold Region.binds at h2 ⊢;split at h2<;>simp_all
 rcases g3 L1 L2 j e ed h1 hb with h3|h3
 ·grind
 grind
theorem Ef (h:JO ops=true)(mixed:Bool)(t:Nat):Order ops (Region.schedule mixed ops t):=by
 simp [JO] at h
 grind[Region.schedule,Ce]
end Go.Em
namespace Go.Em
variable {tm tm':List (Nat×X)}{b b':List Bx}{l:List Opd}{p:X}
variable {P:Program} {R:aT} {x:Ctx} {K:Kn} {C:List CB} {σ:St} {a:Act} {w:World}
variable {A:Ann} {Γ:Gam}
theorem Dx (tm:List (Nat×X))(b b':List Bx)(q:Opd):St.ev ⟨tm,b⟩ q=St.ev ⟨tm,b'⟩ q:=by cases q<;>rfl
theorem TB (tm:List (Nat×X))(b b':List Bx):∀l,evs ⟨tm,b⟩ l=evs ⟨tm,b'⟩ l
 |[]=>rfl
 |q::r=>by simp only [evs,Dx tm b b' q,TB tm b b' r]
theorem L6 (tm:List (Nat×X))(b b':List Bx):∀l,kG ⟨tm,b⟩ l=kG ⟨tm,b'⟩ l
 |[]=>rfl
 |(i,j,q)::r=>by simp only [kG,Dx tm b b' q,L6 tm b b' r]
theorem L9 (tm:List (Nat×X))(b b':List Bx):∀l,lg ⟨tm,b⟩ l=lg ⟨tm,b'⟩ l
 |[]=>rfl
 |(i,q)::r=>by simp only [lg,Dx tm b b' q,L9 tm b b' r]
theorem vT (tm:List (Nat×X))(b b':List Bx)(d:Nat)(l:Option Opd):dQ ⟨tm,b⟩ d l=dQ ⟨tm,b'⟩ d l:=by
 cases l<;>simp only [dQ]<;>grind[Dx]
def Ed (tm tm':List (Nat×X))(l:List Opd):Prop:=∀n,Opd.t n∈l->lk tm n=lk tm' n
theorem fQ (h:Ed tm tm' l){q:Opd}(hq:q∈l):St.ev ⟨tm,b⟩ q=St.ev ⟨tm',b⟩ q:=by
 cases q with
 |t n=>exact h n hq
 |k y=>rfl
theorem TA {tm tm':List (Nat×X)}{b:List Bx}{l:List Opd}(h:Ed tm tm' l):∀{m:List Opd},(∀q,q∈m->q∈l)->evs ⟨tm,b⟩ m=evs ⟨tm',b⟩ m
 |[],_=>rfl
 |q::r,hm=>by simp only [evs,fQ (b:=b) h (hm q (by simp)),TA h (m:=r) (fun q hq=>hm q (by grind))]
theorem LZ {tm tm':List (Nat×X)}{b:List Bx}{l:List Opd}(h:Ed tm tm' l):∀{m:List (Nat×Nat×Opd)},(∀q,q∈m.map (·.2.2)->q∈l)->kG ⟨tm,b⟩ m=kG ⟨tm',b⟩ m
 |[],_=>rfl
 |(i,j,q)::r,hm=>by simp only [kG,fQ (b:=b) h (hm q (by simp)),LZ h (m:=r) (fun q hq=>hm q (by grind))]
theorem L8 {tm tm':List (Nat×X)}{b:List Bx}{l:List Opd}(h:Ed tm tm' l):∀{m:List (Nat×Opd)},(∀q,q∈m.map (·.2)->q∈l)->lg ⟨tm,b⟩ m=lg ⟨tm',b⟩ m
 |[],_=>rfl
 |(i,q)::r,hm=>by simp only [lg,fQ (b:=b) h (hm q (by simp)),L8 h (m:=r) (fun q hq=>hm q (by grind))]
theorem vS (h:Ed tm tm' l){d:Nat}{m:Option Opd}(hm:∀q,q∈m.toList->q∈l):dQ ⟨tm,b⟩ d m=dQ ⟨tm',b⟩ d m:=by
 cases m<;>grind[dQ,fQ]
theorem zdB (tm tm':List (Nat×X))(b:List Bx)(n:Option Nat)(p:X):oq ⟨tm,b⟩ n p=oq ⟨tm',b⟩ n p:=rfl
theorem zcM {i:I}(h:Ed tm tm' i.mF):aG Γ ⟨tm,b⟩ i=aG Γ ⟨tm',b⟩ i:=by
 cases i with
 |build z ps=>grind[aG,LZ,I.mF]
 |D8 n z ps=>grind[aG,L8,I.mF]
 |zlJ f l=>grind[aG,TA,I.mF]
 |mm m l=>grind[aG,TA,I.mF]
 |call o r w f l=>grind[aG,fQ,I.mF,TA]
 |slice s y lo hi mx=>
  have e1:=fQ (b:=b) h (q:=y) (by simp [I.mF]);have e2:=vS (b:=b) h (d:=0) (m:=lo) (fun q hq=>by grind[I.mF]);have e3:=fun d=>vS (b:=b) h (d:=d) (m:=hi) (fun q hq=>by grind[I.mF]);have e4:∀q,mx=some q->St.ev ⟨tm,b⟩ q=St.ev ⟨tm',b⟩ q:=fun q hq=>fQ (b:=b) h (q:=q) (by grind[I.mF]);cases mx with
  |none=>grind[aG]
  |some q=>simp only [aG,e1,e2,e3,e4 q rfl]
 |tC y lo hi=>
  have hm:∀q,q∈(I.tC y lo hi).mF↔q=y\/q∈lo.toList\/q∈hi.toList:=by intro q;cases lo<;>cases hi<;>simp [I.mF]
  have e1:=fQ (b:=b) h (q:=y) ((hm y).2 (.inl rfl));have e2:=vS (b:=b) h (d:=0) (m:=lo) (fun q hq=>(hm q).2 (.inr (.inl hq)))<;>grind[vS,aG]
 |pick c p q=>grind[aG,fQ,I.mF]
 |alloc z=>rfl
 |load n p=>grind[aG,fQ,I.mF,zdB]
 |store n p q=>grind[aG,fQ,I.mF]
 |bin o p q=>grind[aG,fQ,I.mF]
 |beq o p q=>grind[aG,fQ,I.mF]
 |ceq ks o p q=>grind[aG,fQ,I.mF]
 |zf0 n z p q=>grind[aG,fQ,I.mF]
 |yg ar s p q=>grind[aG,fQ,I.mF]
 |zlh n s r p q=>grind[aG,fQ,I.mF]
 |zfO p q=>grind[aG,fQ,I.mF]
 |app o s n p q=>grind[aG,fQ,I.mF]
 |mov p=>grind[aG,fQ,I.mF]
 |box p=>grind[aG,fQ,I.mF]
 |zfM n p=>grind[aG,fQ,I.mF]
 |un n p=>grind[aG,fQ,I.mF]
 |conv n p=>grind[aG,fQ,I.mF]
 |idc p=>grind[aG,fQ,I.mF]
 |s2b p=>grind[aG,fQ,I.mF]
 |V7 n p=>grind[aG,fQ,I.mF]
 |field n s p=>grind[aG,fQ,I.mF]
 |Vp p=>grind[aG,fQ,I.mF]
 |extract p n=>grind[aG,fQ,I.mF]
 |len p=>grind[aG,fQ,I.mF]
 |slen p=>grind[aG,fQ,I.mF]
 |Vt=>rfl
 |zfZ kk m k v=>grind[aG,fQ,I.mF]
 |zf1 kk o z m k=>grind[aG,fQ,I.mF]
 |copy sz d s=>grind[aG,fQ,I.mF]
 |zh6 p=>grind[aG,fQ,I.mF]
 |Vu p=>grind[aG,fQ,I.mF]
 |zit n p=>grind[aG,fQ,I.mF]
theorem RN {i off len:Nat}(h:b'[i]?=b[i]?):rowOf b' i off len=rowOf b i off len:=by grind[rowOf]
mutual
theorem zkt {b b':List Bx}{raw:Bool}:∀(z:X),(∀i,i∈z.rows->b'[i]?=b[i]?)->z.data b' raw=z.data b raw
 |.bs i off len,h=>by grind[X.data,RN,X.rows]
 |.agg cs,h=>by simp only [X.data,Ak cs (fun i hi=>h i (by grind[X.rows]))]
 |.tup cs,h=>by simp only [X.data,Ak cs (fun i hi=>h i (by grind[X.rows]))]
 |.ptr ..,_=>rfl
 |.yl _,_=>rfl
 |.mp _,_=>rfl
 |.ifc,_=>rfl
 |.fn ..,_=>rfl
 |.v _,_=>rfl
 |.sl ..,_=>rfl
 |.dp _,_=>rfl
theorem Ak {b b':List Bx}{raw:Bool}:∀(cs:List X),(∀i,i∈iQ cs->b'[i]?=b[i]?)->dZ b' raw cs=dZ b raw cs
 |[],_=>rfl
 |z::r,h=>by simp only [dZ,zkt z (fun i hi=>h i (by grind[iQ])),Ak r (fun i hi=>h i (by grind[iQ]))]
end
theorem zdC {n:Option Nat}(h:∀i,i∈jX p->b'[i]?=b[i]?):oq ⟨tm,b'⟩ n p=oq ⟨tm,b⟩ n p:=by
 have:jU ⟨tm,b'⟩ p=jU ⟨tm,b⟩ p:=by
  cases p with
  |ptr i e o=>grind[jU,jX]
  |_=>rfl
 grind[oq]
theorem zcP (h:∀i,i∈p.rows->b'[i]?=b[i]?):o8 b' p=o8 b p:=by
 cases p with
 |bs i off len=>grind[o8,RN,X.rows]
 |_=>rfl
end Go.Em
