/- The abstract machine: one operation, whatever it is, is sound. -/
import Derived.Orders
import Derived.Test.YtjbndifenhihhaaGreatDoorEmP2
namespace Go.Em
variable {P:Program} {R:aN} {x:Ctx} {K:Kn} {C:List CB} {σ:St} {a:Act} {w:World}
variable {o:Oper} {y:X} {bx:List Bx} {A:Ann} {Γ:Gam} {fp:FP}
def Upon (P:Program)(R:aN)(x:Ctx)(σ:St)(a:Act)(w:World)(o:Oper)(y:X)(bx:List Bx):Prop:=
 ∀(r:Option Nat) (next:Act→World→Prop) (Q:Exit→Act→World→Prop),
  (∀(K':Kn) (C':List CB) (v:Value) (w':World),Em.Rel P R x K' C' ⟨σ.tm,bx⟩ a w'→Rep K' C' y v→next (a.put o.dst v) w')→o.uponIn (Fr r) 0 P a next Q ((execOp a.eval o).run P w)
theorem dB.upon (h:dB P R x σ a w o y bx):Upon P R x σ a w o y bx:=by
 obtain ⟨K',C',nx,v,w',hrun,hd,hrel,hrep⟩:=h
 intro r next Q hn
 rw [hrun]
 rcases hd with rfl|⟨rfl,rfl⟩
 ·exact hn K' C' v w' hrel hrep
 ·exact hn K' C' undef w' hrel hrep
theorem Dx {r:Option Nat}{n:Nat}{f:FuncId}{args:Array Value}{Q:Ending→World→Prop}(h:Calls P f args w Q):CallsIn (Fr r) n P f args w Q:=
 (callsIn_wide (n:=n)).2 h
theorem zak (args:Array Operand)(a:Act):(args.map a.eval).toList=args.toList.map a.eval:=by simp
theorem um {K2:Kn}{raw:Bool}(hI:Inv P R K C σ.bx w)(hK:KLe K K2){args ds:List X}{aK:Array Value}(h:bU K C args aK)(e:fG σ.bx raw args=some ds)
  (hrow:(∀(b o:Nat) (u:Value),jJ C σ.bx b o→w.cell? ⟨b,o,none⟩=some u→K2 b o=some u)∨fO args=[]):bU K2 C ds aK:=by
 obtain ⟨h1,h2⟩:=uo e
 refine ⟨by rw [h.1,h1],fun j z v ez ev=>?_⟩
 have hj:=(List.getElem?_eq_some_iff.1 ez).1
 obtain ⟨z',e1,e2⟩:=h2 j args[j] (List.getElem?_eq_getElem (by omega))
 rw [ez] at e1;cases e1
 refine (h.2 j _ v (List.getElem?_eq_getElem (by omega)) ev).data hI hK (hrow.imp_right fun hn=>?_) e2
 refine List.eq_nil_iff_forall_not_mem.2 fun i hi=>?_
 have:i∈fO args:=sV.2 ⟨args[j],List.getElem_mem _,hi⟩
 rw [hn] at this;simp at this
theorem jd {as cs:List X}{va vc:Array Value}(h:bU K C as va)(h':bU K C cs vc):bU K C (as++cs) (va++vc):=by
 refine ⟨by simp [h.1,h'.1],fun j z v e e'=>?_⟩
 by_cases hj:j<as.length
 ·rw [List.getElem?_append_left hj] at e
  rw [Array.getElem?_append_left (by rw [h.1];exact hj)] at e'
  exact h.2 j z v e e'
 ·rw [List.getElem?_append_right (by omega)] at e
  rw [Array.getElem?_append_right (by rw [h.1];omega),h.1] at e'
  exact h'.2 _ z v e e'
theorem zcS {f:Operand}{args:Array Operand}{tys:Array TypeId}{t1:TypeId}{f':Opd}{ts:List TypeId}{qs:List Opd}{own ref raw:Bool}{yf:X}{ys:List X}(hΓ:qF P R Γ)(h:Rel P R x K C σ a w)(ho:o.op=.call ⟨.value f,args,tys⟩)(hf:aS P R.gl t1 f=some f')
  (hq:fV P R.gl ts args.toList=some qs) (ef:σ.ev f'=some yf) (eq:evs σ qs=some ys) (e:qY Γ own ref raw yf ys σ.bx=some (y,bx,fp)):Upon P R x σ a w o y bx:=by
 have rf:=aY h.inv.glob h.tm hf ef
 obtain ⟨q1,q2⟩:=Fj h.inv.glob h.tm hq eq
 have hargs:bU K C ys (args.map a.eval):=⟨by simp [q1],fun j z v e e'=>q2 j z v e (by rw [←zak,Array.getElem?_toList];exact e')⟩
 have enter:∀(g:FuncId) (all:Array Value) (Q':Ending→World→Prop),(execOp a.eval o).run P w=(callFunc g all).run P w→zaP P g→Calls P g all w Q'→(∀e w',Q' e w'→∃(v:Value) (K':Kn) (C':List CB),e=.returned v∧Em.Rel P R x K' C' ⟨σ.tm,bx⟩ a w'∧Rep K' C' y v)→Upon P R x σ a w o y bx:=by
  intro g all Q' hrun hok hc hQ r next Q hn
  rw [hrun,hok all w]
  rw [Oper.uponIn_enter]
  refine ⟨fun hd=>by simp [Fr,Fence.wide] at hd,Dx (hc.mono fun e w' hq=>?_)⟩
  obtain ⟨v,K',C',rfl,hr,hp⟩:=hQ e w' hq
  exact hn K' C' v w' hr hp
 generalize hvf:a.eval f=vf at rf
 unfold qY at e
 split at e
 ·simp at e
 ·rename_i as hconv
  split at e
  ·
   rename_i g caps
   cases rf with
   |fn hs hr=>
    rename_i vs
    have ZC:bU K C caps vs:=⟨hs,hr⟩
    have hrun:(execOp a.eval o).run P w=(callFunc g (args.map a.eval++vs)).run P w:=by
     simp [execOp,ho,resolve,Deferred.ofValue,hvf,invoke]
    split at e
    ·rename_i hc
     simp only [Bool.and_eq_true,Bool.not_eq_true'] at hc
     obtain ⟨⟨hc1,hc2⟩,hc3⟩:=hc
     rw [hc2] at hconv
     simp only [Bool.false_eq_true,if_false] at hconv
     split at e
     ·simp at e
     ·rename_i z hz
      split at e
      ·rename_i hcond
       simp only [Bool.and_eq_true] at hcond
       simp only [Option.some.injEq,Prod.mk.injEq] at e
       obtain ⟨rfl,rfl,_⟩:=e
       by_cases hrows:fO ys=[]
       ·have hA:=jd (um h.inv (KLe.refl K) hargs hconv (.inr hrows)) ZC
        obtain ⟨hok,wK⟩:=JZ hΓ h hA hc3 hz hcond.1
        exact enter g _ _ hrun hok wK fun e w' hq=>hq.step
       ·have hpl:z.plain=true:=by
         rcases Bool.or_eq_true _ _▸hcond.2 with h1|h1
         ·exact absurd (List.isEmpty_iff.1 h1) hrows
         ·exact h1
        have hK:KLe K (seen w):=fun b o v e=>h.inv.known b o v e
        have hA:=jd (um h.inv hK hargs hconv (.inl fun b o u _ hu=>hu)) (⟨ZC.1,fun j z v e e'=>(ZC.2 j z v e e').mono hK (CLe.refl _)⟩:bU (seen w) C caps vs)
        obtain ⟨hok,wK⟩:=J3 hΓ h hA hc3 hz hpl
        exact enter g _ _ hrun hok wK fun e w' hq=>hq.step
      ·simp at e
    ·split at e
     ·rename_i hcond
      have hA:bU K C as (args.map a.eval):=by
       cases hr':ref with
       |true=>rw [hr'] at hconv;simp at hconv;subst hconv;exact hargs
       |false=>
        rw [hr'] at hconv hcond
        simp only [Bool.false_eq_true,if_false] at hconv
        simp only [Bool.false_or] at hcond
        exact um h.inv (KLe.refl K) hargs hconv (.inr (List.isEmpty_iff.1 hcond))
      split at e
      ·simp at e
      ·rename_i z bx' sel hz
       simp only [Option.some.injEq,Prod.mk.injEq] at e
       obtain ⟨rfl,rfl,_⟩:=e
       obtain ⟨hok,wK⟩:=Dy hΓ h (jd hA ZC) hz
       exact enter g _ _ hrun hok wK fun e w' hq=>hq.step
     ·simp at e
  ·
   rename_i i
   cases rf with
   |yl hc=>
    rename_i l
    split at e
    ·rename_i hcond
     have hA:bU K C as (args.map a.eval):=by
      cases hr':ref with
      |true=>rw [hr'] at hconv;simp at hconv;subst hconv;exact hargs
      |false=>
       rw [hr'] at hconv hcond
       simp only [Bool.false_eq_true,if_false] at hconv
       simp only [Bool.false_or] at hcond
       exact um h.inv (KLe.refl K) hargs hconv (.inr (List.isEmpty_iff.1 hcond))
     split at e
     ·simp at e
     ·rename_i z bx' sel hz
      simp only [Option.some.injEq,Prod.mk.injEq] at e
      obtain ⟨rfl,rfl,_⟩:=e
      intro r next Q hn
      obtain ⟨f0,tmps,assign,body,hrun,VJ⟩:=RU hΓ h hc hA hz r
      have zL:(execOp a.eval o).run P w=.ok (.round l f0 tmps assign body) w:=by
       simp [execOp,ho,resolve,Deferred.ofValue,hvf,invoke,hrun]
      rw [zL,Oper.uponIn_round]
      refine ⟨fun hd=>by simp [Fr,Fence.wide] at hd,VJ.mono fun e w' hq=>?_⟩
      obtain ⟨v,K',C',rfl,hr,hp⟩:=hq.step
      exact hn K' C' v w' hr hp
    ·simp at e
  ·simp at e
end Go.Em
namespace Go.Em
variable {P:Program} {R:aN} {x:Ctx} {K:Kn} {C:List CB} {σ:St} {a:Act} {w:World}
variable {o:Oper} {y:X} {bx:List Bx} {A:Ann} {Γ:Gam} {fp:FP}
theorem map_some {α β:Type}{f:α→β}{o:Option α}{b:β}(h:o.map f=some b):∃a,o=some a∧f a=b:=Option.map_eq_some_iff.1 h
theorem BI {ts:List TypeId}{l:List Operand}{p q:Opd}(h:fV P R.gl ts l=some [p,q]):∃a b t t',l=[a,b]∧aS P R.gl t a=some p∧aS P R.gl t' b=some q:=by
 cases l with
 |nil=>simp [fV] at h
 |cons a r=>
  simp only [fV] at h
  cases ha:aS P R.gl (hd0 ts) a with
  |none=>simp [ha] at h
  |some p'=>
   simp only [ha] at h
   obtain ⟨l',hl,e⟩:=map_some h
   cases e
   cases r with
   |nil=>simp [fV] at hl
   |cons b s=>
    simp only [fV] at hl
    cases hb:aS P R.gl (hd0 ts.tail) b with
    |none=>simp [hb] at hl
    |some q'=>
     simp only [hb] at hl
     obtain ⟨l'',hl',e⟩:=map_some hl
     cases e
     cases s with
     |nil=>exact ⟨a,b,_,_,rfl,ha,hb⟩
     |cons c u=>
      simp only [fV] at hl'
      cases hc:aS P R.gl (hd0 ts.tail.tail) c with
      |none=>simp [hc] at hl'
      |some q''=>simp only [hc] at hl';obtain ⟨_,_,e⟩:=map_some hl';cases e
theorem uH {ts:List TypeId}{l:List Operand}{p:Opd}(h:fV P R.gl ts l=some [p]):∃a t,l=[a]∧aS P R.gl t a=some p:=by
 cases l with
 |nil=>simp [fV] at h
 |cons a r=>
  simp only [fV] at h
  cases ha:aS P R.gl (hd0 ts) a with
  |none=>simp [ha] at h
  |some p'=>
   simp only [ha] at h
   obtain ⟨l',hl,e⟩:=map_some h
   cases e
   cases r with
   |nil=>exact ⟨a,_,rfl,ha⟩
   |cons b s=>
    simp only [fV] at hl
    cases hb:aS P R.gl (hd0 ts.tail) b with
    |none=>simp [hb] at hl
    |some q'=>simp only [hb] at hl;obtain ⟨_,_,e⟩:=map_some hl;cases e
theorem Yu {tys:Array TypeId}{args:Array Operand}{qs:List Opd}{i:I}(h:Rel P R x K C σ a w)(ho:o.op=.call ⟨.builtin .len,args,tys⟩)
  (htr:(match (tys[0]?).bind P.underlying,qs with|some (.slice _),[x]=>some (I.len x)|some .string,[x]=>some (.slen x)|some (.map _ _),[x]=>some (.zcX x)|_,_=>none)=some i) (hq:fV P R.gl tys.toList args.toList=some qs) (hs:au Γ σ i=some (y,bx,fp)):Upon P R x σ a w o y bx:=by
 split at htr
 ·rename_i e q hu
  simp only [Option.some.injEq] at htr;subst htr
  obtain ⟨t,ht,hut⟩:=Option.bind_eq_some_iff.1 hu
  obtain ⟨p,tp,hl,hp⟩:=uH hq
  simp only [au] at hs
  split at hs
  ·rename_i es hev
   simp only [Option.some.injEq,Prod.mk.injEq] at hs
   obtain ⟨rfl,rfl,_⟩:=hs
   obtain ⟨ob,cap,hv⟩:=UL (aY h.inv.glob h.tm hp hev) rfl
   exact (dB.still h (jR ho hl ht hut hv (.inl ⟨_,_,_,rfl,rfl⟩)) (.v rfl)).upon
  ·rename_i n hev
   simp only [Option.some.injEq,Prod.mk.injEq] at hs
   obtain ⟨rfl,rfl,_⟩:=hs
   obtain ⟨ob,cap,hv⟩:=UL (aY h.inv.glob h.tm hp hev) rfl
   exact (dB.still h (jR ho hl ht hut hv (.inl ⟨_,_,_,rfl,rfl⟩)) (.v rfl)).upon
  ·simp at hs
 ·rename_i q hu
  simp only [Option.some.injEq] at htr;subst htr
  obtain ⟨t,ht,hut⟩:=Option.bind_eq_some_iff.1 hu
  obtain ⟨p,tp,hl,hp⟩:=uH hq
  simp only [au] at hs
  split at hs
  ·rename_i s hev
   simp only [Option.some.injEq,Prod.mk.injEq] at hs
   obtain ⟨rfl,rfl,_⟩:=hs
   exact (dB.still h (jR ho hl ht hut (eH (aY h.inv.glob h.tm hp hev)) (.inr ⟨s,rfl,rfl,rfl⟩)) (.v rfl)).upon
  ·simp at hs
 ·rename_i kt e q hu
  simp only [Option.some.injEq] at htr;subst htr
  obtain ⟨t,ht,hut⟩:=Option.bind_eq_some_iff.1 hu
  obtain ⟨p,tp,hl,hp⟩:=uH hq
  have ha':args=#[p]:=by rw [←Array.toArray_toList (xs:=args),hl]
  subst ha'
  simp only [au] at hs
  split at hs
  ·rename_i i hev
   split at hs
   ·rename_i es hb
    simp only [Option.some.injEq,Prod.mk.injEq] at hs
    obtain ⟨rfl,rfl,_⟩:=hs
    exact (U5 h ho ht hut hp hev (.inl ⟨i,rfl,hb⟩)).upon
   ·simp at hs
  ·rename_i hev
   simp only [Option.some.injEq,Prod.mk.injEq] at hs
   obtain ⟨rfl,rfl,_⟩:=hs
   exact (U5 (es:=[]) h ho ht hut hp hev (.inr ⟨rfl,rfl⟩)).upon
  ·simp at hs
 ·simp at htr
theorem TY {isMax:Bool}{tys:Array TypeId}{args:Array Operand}{qs:List Opd}(h:Rel P R x K C σ a w)(ho:o.op=.call ⟨.builtin (if isMax then .max else .min),args,tys⟩)(hq:fV P R.gl tys.toList args.toList=some qs)
  (hs:au Γ σ (.mm isMax qs)=some (y,bx,fp)):Upon P R x σ a w o y bx:=by
 simp only [au] at hs
 split at hs
 ·rename_i m r hev
  obtain ⟨z,hz,e⟩:=map_some hs
  simp only [Prod.mk.injEq] at e
  obtain ⟨rfl,rfl,_⟩:=e
  exact (zjQ h ho hq hev hz).upon
 ·simp at hs
theorem Yv {tys:Array TypeId}{args:Array Operand}{qs:List Opd}{i:I}(h:Rel P R x K C σ a w)(ho:o.op=.call ⟨.builtin .append,args,tys⟩){own:Bool}
  (htr:(match (tys[0]?).bind P.underlying,(tys[1]?).bind P.underlying,qs with
    |some (.slice e),some (.slice _),[s,x]=>match dI P e,uy P e,nY P e with
     |some n,some (b+1),some _=>some (I.app own n (b+1) s x)
     |_,_,_=>none
    |_,_,_=>none)=some i) (hq:fV P R.gl tys.toList args.toList=some qs) (hs:au Γ σ i=some (y,bx,fp)):Upon P R x σ a w o y bx:=by
 split at htr
 ·rename_i e e1 s z hu0 hu1
  split at htr
  ·rename_i n b zr hn hb hz
   simp only [Option.some.injEq] at htr;subst htr
   obtain ⟨t0,ht0,zmt⟩:=Option.bind_eq_some_iff.1 hu0
   obtain ⟨t1,ht1,zms⟩:=Option.bind_eq_some_iff.1 hu1
   obtain ⟨p,q,tp,tq,hl,hp,hqq⟩:=BI hq
   simp only [au] at hs
   split at hs
   ·rename_i ys yz evs evz
    split at hs
    ·simp at hs
    ·rename_i sz' new hsrc
     split at hs
     ·simp at hs
     ·rename_i hsz
      have hsz:sz'=n:=by simpa using hsz
      subst hsz
      split at hs
      ·rename_i sz0 es
       split at hs
       ·rename_i hc
        simp only [Bool.and_eq_true,beq_iff_eq] at hc
        obtain ⟨rfl,hroom⟩:=hc
        obtain ⟨k1,k2,k3⟩:=U8 h ho hl ht0 ht1 zmt zms hn hb hz (by omega) hp hqq evs evz hsrc hroom
        split at hs
        ·split at hs
         ·rename_i hemp
          simp only [Option.some.injEq,Prod.mk.injEq] at hs
          obtain ⟨rfl,rfl,_⟩:=hs
          exact (k1 (List.isEmpty_iff.1 hemp)).upon
         ·rename_i hemp
          simp only [Option.some.injEq,Prod.mk.injEq] at hs
          obtain ⟨rfl,rfl,_⟩:=hs
          exact (k3 (fun e=>hemp (by simp [e]))).upon
        ·simp only [Option.some.injEq,Prod.mk.injEq] at hs
         obtain ⟨rfl,rfl,_⟩:=hs
         exact k2.upon
       ·simp at hs
      ·rename_i ib off len
       split at hs
       ·rename_i sz0 es hbx
        split at hs
        ·rename_i hc
         simp only [Bool.and_eq_true,beq_iff_eq] at hc
         obtain ⟨⟨⟨rfl,hend⟩,hroom⟩,_⟩:=hc
         simp only [Option.some.injEq,Prod.mk.injEq] at hs
         obtain ⟨rfl,rfl,_⟩:=hs
         exact (U9 h ho hl ht0 ht1 zmt zms hn hb hz (by omega) hp hqq evs evz hsrc hbx hend hroom).upon
        ·simp at hs
       ·simp at hs
      ·simp at hs
   ·simp at hs
  ·simp at htr
 ·simp at htr
theorem BK {arr:Option Nat}{t t1 t2 e:TypeId}{z iz:Operand}{z' i':Opd}{sz:Nat}(h:Rel P R x K C σ a w)(ho:o.op=.indexAddr t z iz)(hu:(arr=none∧P.underlying t=some (.slice e))∨(∃m,arr=some m∧P.underlying t=some (.array m e)))(hs:dI P e=some sz)
  (hz:aS P R.gl t1 z=some z') (hi:aS P R.gl t2 iz=some i') (hst:au Γ σ (.iaddr arr sz z' i')=some (y,bx,fp)):Upon P R x σ a w o y bx:=by
 simp only [au] at hst
 split at hst
 ·rename_i yz n ez en
  obtain ⟨yi,ei,hn⟩:=Option.bind_eq_some_iff.1 en
  split at hst
  ·rename_i t' s es
   split at hst
   ·rename_i hss
    have hss:s=sz:=by simpa using hss
    subst hss
    obtain ⟨e0,he,e'⟩:=map_some hst
    simp only [Prod.mk.injEq] at e'
    obtain ⟨rfl,rfl,_⟩:=e'
    rcases hu with ⟨_,hu⟩|⟨m,hm,_⟩
    ·exact (Ko h ho hu hs hz hi ez ei hn he).upon
    ·cases hm
   ·simp at hst
  ·rename_i ib off len
   split at hst
   ·rename_i s es hb
    split at hst
    ·rename_i hc
     simp only [Bool.and_eq_true,beq_iff_eq,decide_eq_true_eq] at hc
     obtain ⟨rfl,hlt⟩:=hc
     simp only [Option.some.injEq,Prod.mk.injEq] at hst
     obtain ⟨rfl,rfl,_⟩:=hst
     rcases hu with ⟨_,hu⟩|⟨m,hm,_⟩
     ·exact (Kq h ho hu hs hz hi ez ei hn hb hlt).upon
     ·cases hm
    ·simp at hst
   ·simp at hst
  ·rename_i len ip ep op
   split at hst
   ·rename_i hlt
    simp only [Option.some.injEq,Prod.mk.injEq] at hst
    obtain ⟨rfl,rfl,_⟩:=hst
    rcases hu with ⟨hm,_⟩|⟨m,hm,hu⟩
    ·cases hm
    ·cases hm;exact (wE h ho hu hs hz hi ez ei hn hlt rfl).upon
   ·simp at hst
  ·rename_i len cs
   split at hst
   ·rename_i hlt
    simp only [Option.some.injEq,Prod.mk.injEq] at hst
    obtain ⟨rfl,rfl,_⟩:=hst
    rcases hu with ⟨hm,_⟩|⟨m,hm,hu⟩
    ·cases hm
    ·cases hm;exact (wE h ho hu hs hz hi ez ei hn hlt rfl).upon
   ·simp at hst
  ·simp at hst
 ·simp at hst
theorem PV {t t1 e:TypeId}{z:Operand}{lo hi mx:Option Operand}{z':Opd}{lo' hi' mx':Option Opd}{sz:Nat}(h:Rel P R x K C σ a w)(ho:o.op=.slice t z lo hi mx)(hu:P.underlying t=some (.slice e))(hs:dI P e=some sz)
  (hz:aS P R.gl t1 z=some z') (hlo:jO P R.gl lo=some lo') (hhi:jO P R.gl hi=some hi') (hmx:jO P R.gl mx=some mx') (hor:mx=none∨hi.isSome=true) (hst:au Γ σ (.slice sz z' lo' hi' mx')=some (y,bx,fp)):Upon P R x σ a w o y bx:=by
 simp only [au] at hst
 split at hst
 ·rename_i tt s es ez
  split at hst
  ·rename_i l hh el eh
   split at hst
   ·rename_i hc
    simp only [Bool.and_eq_true,beq_iff_eq,decide_eq_true_eq] at hc
    obtain ⟨⟨rfl,h1⟩,h2⟩:=hc
    cases mx with
    |none=>
     simp only [jO,Option.some.injEq] at hmx;subst hmx
     simp only [Option.some.injEq,Prod.mk.injEq] at hst
     obtain ⟨rfl,rfl,_⟩:=hst
     exact (zh h ho hu hs hz hlo hhi rfl ez el eh h1 h2 _ (.inl ⟨rfl,rfl⟩)).upon
    |some m=>
     have zmv:=hmx
     simp only [jO] at hmx
     obtain ⟨qm,hqm,rfl⟩:=map_some hmx
     simp only at hst
     split at hst
     ·rename_i mv hm
      split at hst
      ·rename_i heq
       have heq:hh=mv:=by simpa using heq
       subst heq
       simp only [Option.some.injEq,Prod.mk.injEq] at hst
       obtain ⟨rfl,rfl,_⟩:=hst
       have hsome:hi.isSome=true:=by rcases hor with h3|h3;cases h3;exact h3
       refine (zh h ho hu hs hz hlo hhi zmv ez el eh h1 h2 true (.inr ⟨m,rfl,hsome,?_,rfl⟩)).upon
       exact jY h.inv.glob h.tm zmv hm
      ·simp at hst
     ·simp at hst
   ·simp at hst
  ·simp at hst
 ·rename_i i off len ez
  split at hst
  ·rename_i l hh el eh
   have hmn:mx=none:=by
    cases mx with
    |none=>rfl
    |some m=>simp only [jO] at hmx;obtain ⟨_,_,e⟩:=map_some hmx;cases e
   subst hmn
   split at hst
   ·rename_i hc
    simp only [Bool.and_eq_true,decide_eq_true_eq] at hc
    split at hst
    ·rename_i heq
     have heq:l=hh:=by simpa using heq
     simp only [Option.some.injEq,Prod.mk.injEq] at hst
     obtain ⟨rfl,rfl,_⟩:=hst
     exact (zi h ho hu hs hz hlo hhi ez el eh hc.1 hc.2 (.inl ⟨heq,rfl⟩)).upon
    ·rename_i hne
     split at hst
     ·rename_i s es hb
      split at hst
      ·rename_i hss
       have hss:s=sz:=by simpa using hss
       subst hss
       simp only [Option.some.injEq,Prod.mk.injEq] at hst
       obtain ⟨rfl,rfl,_⟩:=hst
       exact (zi h ho hu hs hz hlo hhi ez el eh hc.1 hc.2 (.inr ⟨fun e=>hne (by simp [e]),⟨es,hb⟩,rfl⟩)).upon
      ·simp at hst
     ·simp at hst
   ·simp at hst
  ·simp at hst
 ·simp at hst
theorem BH {lo:Option Operand}{lo':Option Opd}(h:jO P R.gl lo=some lo'):lo'.isSome=lo.isSome:=by
 cases lo with
 |none=>simp only [jO,Option.some.injEq] at h;subst h;rfl
 |some p=>simp only [jO] at h;obtain ⟨q,_,rfl⟩:=map_some h;rfl
set_option maxHeartbeats 1600000 in
theorem JF {i:I}(hΓ:qF P R Γ)(h:Rel P R x K C σ a w)(htr:zfO P R.gl A o=some i)(hs:au Γ σ i=some (y,bx,fp)):Upon P R x σ a w o y bx:=by
 unfold zfO at htr
 split at htr
 ·rename_i z ho
  obtain ⟨q,hq,rfl⟩:=map_some htr
  simp only [au] at hs
  obtain ⟨v,hv,e⟩:=map_some hs
  simp only [Prod.mk.injEq] at e;obtain ⟨rfl,rfl,_⟩:=e
  exact (zbb h (.inl ho) hq hv).upon
 ·rename_i z ho
  obtain ⟨q,hq,rfl⟩:=map_some htr
  simp only [au] at hs
  obtain ⟨v,hv,e⟩:=map_some hs
  simp only [Prod.mk.injEq] at e;obtain ⟨rfl,rfl,_⟩:=e
  exact (zbb h (.inr ho) hq hv).upon
 ·rename_i c p q ho
  split at htr
  ·rename_i c' p' q' hc hp hq
   simp only [Option.some.injEq] at htr;subst htr
   simp only [au] at hs
   split at hs
   ·rename_i t y1 y2 e1 e2 e3
    simp only [Option.some.injEq,Prod.mk.injEq] at hs;obtain ⟨rfl,rfl,_⟩:=hs
    exact (zcM h ho hc hp hq e1 e2 e3).upon
   ·simp at hs
  ·simp at htr
 ·rename_i e ho
  obtain ⟨l,hl,rfl⟩:=map_some htr
  simp only [au,Option.some.injEq,Prod.mk.injEq] at hs
  obtain ⟨rfl,rfl,_⟩:=hs
  exact (YZ h ho hl).upon
 ·rename_i t z ho
  obtain ⟨q,hq,rfl⟩:=map_some htr
  simp only [au] at hs
  split at hs
  ·simp at hs
  ·rename_i v hv
   split at hs
   ·rename_i h1
    simp only [Option.some.injEq,Prod.mk.injEq] at hs;obtain ⟨rfl,rfl,_⟩:=hs
    exact (zg3 h ho hq hv h1).upon
   ·simp at hs
 ·rename_i t parts ho
  split at htr
  ·rename_i fs z hu hz
   split at htr
   ·rename_i hall
    obtain ⟨qs,hq,rfl⟩:=map_some htr
    simp only [au] at hs
    split at hs
    ·simp at hs
    ·rename_i ps hp
     obtain ⟨cs,hf,e⟩:=map_some hs
     simp only [Prod.mk.injEq] at e;obtain ⟨rfl,rfl,_⟩:=e
     exact (zk h ho hu hz hall hq hp hf).upon
   ·simp at htr
  ·rename_i m e z hu hz
   obtain ⟨n,hn,htr⟩:=Option.bind_eq_some_iff.1 htr
   obtain ⟨qs,hq,rfl⟩:=map_some htr
   simp only [au] at hs
   split at hs
   ·simp at hs
   ·rename_i ps hp
    obtain ⟨cs,hf,e⟩:=map_some hs
    simp only [Prod.mk.injEq] at e;obtain ⟨rfl,rfl,_⟩:=e
    exact (Ic h ho hu hz hn hq hp hf).upon
  ·simp at htr
 ·rename_i t len parts ho
  split at htr
  ·rename_i e hu
   split at htr
   ·rename_i z ps0 hz hq
    split at htr
    ·rename_i hl
     simp only [Option.some.injEq] at htr;subst htr
     simp only [au] at hs
     split at hs
     ·simp at hs
     ·rename_i ps hp
      split at hs
      ·rename_i hlen
       have hlen:len=ps.length:=by simpa using hlen
       obtain ⟨es,hf,e⟩:=map_some hs
       simp only [Prod.mk.injEq] at e;obtain ⟨rfl,rfl,_⟩:=e
       exact (U7 h ho hu hz hl hq hp hlen hf).upon
      ·simp at hs
    ·simp at htr
   ·simp at htr
  ·simp at htr
 ·rename_i t z ho
  split at htr
  ·rename_i n q hn hq
   simp only [Option.some.injEq] at htr;subst htr
   simp only [au] at hs
   split at hs
   ·simp at hs
   ·rename_i p hp
    obtain ⟨v,hv,e⟩:=map_some hs
    simp only [Prod.mk.injEq] at e;obtain ⟨rfl,rfl,_⟩:=e
    exact (zcP h ho hn hq hp hv).upon
  ·simp at htr
 ·rename_i t p z ho
  split at htr
  ·rename_i n p' z' hn hp hz
   simp only [Option.some.injEq] at htr;subst htr
   simp only [au] at hs
   split at hs
   ·rename_i yp yz e1 e2
    obtain ⟨bx',hb,e⟩:=map_some hs
    simp only [Prod.mk.injEq] at e;obtain ⟨rfl,rfl,_⟩:=e
    exact (YU h ho hn hp hz e1 e2 hb).upon
   ·simp at hs
  ·simp at htr
 ·rename_i z ho
  obtain ⟨q,hq,rfl⟩:=map_some htr
  simp only [au] at hs
  split at hs<;>first
   |(rename_i hv
     simp only [Option.some.injEq,Prod.mk.injEq] at hs;obtain ⟨rfl,rfl,_⟩:=hs
     exact (YV h ho hq hv rfl).upon)
   |simp at hs
 ·rename_i op t p q u ho
  split at htr
  ·rename_i p' q' hp hq
   split at htr
   ·rename_i hu
    simp only [Option.some.injEq] at htr;subst htr
    simp only [au] at hs
    split at hs
    ·rename_i m n e1 e2
     simp only [Option.some.injEq,Prod.mk.injEq] at hs;obtain ⟨rfl,rfl,_⟩:=hs
     have:=zbd h ho hu (.inl rfl) hp hq e1 e2
     simpa using this.upon
    ·simp at hs
   ·rename_i hu
    simp only [Option.some.injEq] at htr;subst htr
    simp only [au] at hs
    split at hs
    ·rename_i m n e1 e2
     simp only [Option.some.injEq,Prod.mk.injEq] at hs;obtain ⟨rfl,rfl,_⟩:=hs
     have:=zbd h ho hu (.inr rfl) hp hq e1 e2
     simpa using this.upon
    ·simp at hs
   ·rename_i e hu
    split at htr
    ·simp only [Option.some.injEq] at htr;subst htr
     simp only [au] at hs
     split at hs<;>first
      |(rename_i hv
        simp only [Option.some.injEq,Prod.mk.injEq] at hs;obtain ⟨rfl,rfl,_⟩:=hs
        have:=U3 h ho hu (.inl rfl) rfl hp hv rfl
        simpa using this.upon)
      |simp at hs
    ·simp at htr
   ·rename_i e hu
    split at htr
    ·simp only [Option.some.injEq] at htr;subst htr
     simp only [au] at hs
     split at hs<;>first
      |(rename_i hv
        simp only [Option.some.injEq,Prod.mk.injEq] at hs;obtain ⟨rfl,rfl,_⟩:=hs
        have:=U3 h ho hu (.inr rfl) rfl hp hv rfl
        simpa using this.upon)
      |simp at hs
    ·simp at htr
   ·rename_i ms hu
    split at htr
    ·simp only [Option.some.injEq] at htr;subst htr
     simp only [au] at hs
     split at hs
     ·rename_i e1
      simp only [Option.some.injEq,Prod.mk.injEq] at hs;obtain ⟨rfl,rfl,_⟩:=hs
      exact (Ez (neg:=false) h ho rfl hu hp e1 (.inl ⟨rfl,rfl⟩)).upon
     ·rename_i e1
      simp only [Option.some.injEq,Prod.mk.injEq] at hs;obtain ⟨rfl,rfl,_⟩:=hs
      exact (Ez (neg:=false) h ho rfl hu hp e1 (.inr ⟨rfl,rfl⟩)).upon
     ·simp at hs
    ·simp at htr
   ·rename_i ms hu
    split at htr
    ·simp only [Option.some.injEq] at htr;subst htr
     simp only [au] at hs
     split at hs
     ·rename_i e1
      simp only [Option.some.injEq,Prod.mk.injEq] at hs;obtain ⟨rfl,rfl,_⟩:=hs
      exact (Ez (neg:=true) h ho rfl hu hp e1 (.inl ⟨rfl,rfl⟩)).upon
     ·rename_i e1
      simp only [Option.some.injEq,Prod.mk.injEq] at hs;obtain ⟨rfl,rfl,_⟩:=hs
      exact (Ez (neg:=true) h ho rfl hu hp e1 (.inr ⟨rfl,rfl⟩)).upon
     ·simp at hs
    ·simp at htr
   ·simp only [Option.some.injEq] at htr;subst htr
    simp only [au] at hs
    split at hs
    ·rename_i m n e1 e2
     obtain ⟨z,hz,e⟩:=map_some hs
     simp only [Prod.mk.injEq] at e;obtain ⟨rfl,rfl,_⟩:=e
     exact (zbc h ho hp hq e1 e2 hz).upon
    ·simp at hs
   ·simp only [Option.some.injEq] at htr;subst htr
    simp only [au] at hs
    split at hs
    ·rename_i m n e1 e2
     obtain ⟨z,hz,e⟩:=map_some hs
     simp only [Prod.mk.injEq] at e;obtain ⟨rfl,rfl,_⟩:=e
     exact (zbc h ho hp hq e1 e2 hz).upon
    ·simp at hs
   ·simp at htr
  ·simp at htr
 ·rename_i op t z ho
  obtain ⟨q,hq,rfl⟩:=map_some htr
  simp only [au] at hs
  split at hs
  ·rename_i m e1
   obtain ⟨u,hu,e⟩:=map_some hs
   simp only [Prod.mk.injEq] at e;obtain ⟨rfl,rfl,_⟩:=e
   exact (zjP h ho hq e1 hu).upon
  ·simp at hs
 ·rename_i s d z ho
  split at htr
  ·rename_i ks k q hsu hdu hq
   simp only [Option.some.injEq] at htr;subst htr
   simp only [au] at hs
   split at hs
   ·rename_i k' n e1
    simp only [Option.some.injEq,Prod.mk.injEq] at hs;obtain ⟨rfl,rfl,_⟩:=hs
    exact (zcR h ho hsu hdu hq e1).upon
   ·simp at hs
  ·rename_i q hsu hdu hq
   simp only [Option.some.injEq] at htr;subst htr
   simp only [au] at hs
   split at hs
   ·rename_i b e1
    simp only [Option.some.injEq,Prod.mk.injEq] at hs;obtain ⟨rfl,rfl,_⟩:=hs
    exact (zg2 h ho hsu hdu hq e1).upon
   ·simp at hs
  ·rename_i e q hsu hdu hq
   split at htr
   ·rename_i hu8
    simp only [Option.some.injEq] at htr;subst htr
    simp only [au] at hs
    split at hs
    ·rename_i b e1
     simp only [Option.some.injEq,Prod.mk.injEq] at hs;obtain ⟨rfl,rfl,_⟩:=hs
     exact (zg1 h ho hsu hdu hu8 hq e1).upon
    ·simp at hs
   ·simp at htr
  ·simp at htr
 ·rename_i t ho
  split at htr
  ·rename_i kt e hu
   simp only [Option.some.injEq] at htr;subst htr
   simp only [au,Option.some.injEq,Prod.mk.injEq] at hs
   obtain ⟨rfl,rfl,_⟩:=hs
   exact (YW h ho hu).upon
  ·simp at htr
 ·rename_i t m k v ho
  split at htr
  ·rename_i kt e m' hu hm
   split at htr
   ·rename_i k' v' kk hk hv hkk
    simp only [Option.some.injEq] at htr;subst htr
    simp only [au] at hs
    split at hs
    ·rename_i i kv y1 em ek ev
     split at hs
     ·rename_i es hb
      split at hs
      ·rename_i hc
       simp only [Bool.and_eq_true] at hc
       obtain ⟨es',hp,e1⟩:=map_some hs
       simp only [Prod.mk.injEq] at e1;obtain ⟨rfl,rfl,_⟩:=e1
       exact (U4 h (.inl ho) hu hkk hm hk hv em ek ev hb hc.1.1 hc.1.2 hc.2 hp).upon
      ·simp at hs
     ·simp at hs
    ·simp at hs
   ·simp at htr
  ·simp at htr
 ·rename_i t m k v ho
  split at htr
  ·rename_i kt e m' hu hm
   split at htr
   ·rename_i k' v' kk hk hv hkk
    simp only [Option.some.injEq] at htr;subst htr
    simp only [au] at hs
    split at hs
    ·rename_i i kv y1 em ek ev
     split at hs
     ·rename_i es hb
      split at hs
      ·rename_i hc
       simp only [Bool.and_eq_true] at hc
       obtain ⟨es',hp,e1⟩:=map_some hs
       simp only [Prod.mk.injEq] at e1;obtain ⟨rfl,rfl,_⟩:=e1
       exact (U4 h (.inr ho) hu hkk hm hk hv em ek ev hb hc.1.1 hc.1.2 hc.2 hp).upon
      ·simp at hs
     ·simp at hs
    ·simp at hs
   ·simp at htr
  ·simp at htr
 ·rename_i t m k ok ho
  split at htr
  ·rename_i kt e m' hu hm
   split at htr
   ·rename_i k' z kk hk hz hkk
    simp only [Option.some.injEq] at htr;subst htr
    simp only [au] at hs
    split at hs
    ·rename_i i kv em ek
     split at hs
     ·rename_i es hb
      split at hs
      ·rename_i hc
       obtain ⟨y1,hg,e1⟩:=map_some hs
       simp only [Prod.mk.injEq] at e1;obtain ⟨rfl,rfl,_⟩:=e1
       exact (U6 h ho hu hkk hz hm hk em ek (.inl ⟨i,rfl,hb⟩) hc hg).upon
      ·simp at hs
     ·simp at hs
    ·rename_i kv em ek
     split at hs
     ·rename_i hc
      obtain ⟨y1,hg,e1⟩:=map_some hs
      simp only [Prod.mk.injEq] at e1;obtain ⟨rfl,rfl,_⟩:=e1
      exact (U6 h ho hu hkk hz hm hk em ek (.inr ⟨rfl,rfl⟩) hc hg).upon
     ·simp at hs
    ·simp at hs
   ·simp at htr
  ·simp at htr
 ·rename_i t z ho
  split at htr
  ·simp at htr
  ·rename_i d q hd hu hq
   simp only [Option.some.injEq] at htr;subst htr
   simp only [au] at hs
   obtain ⟨v,hv,e1⟩:=map_some hs
   simp only [Prod.mk.injEq] at e1;obtain ⟨rfl,rfl,_⟩:=e1
   exact (YX h ho hu (fun ms e=>hd ms (by rw [←e])) hq hv).upon
  ·simp at htr
 ·rename_i f first caps ho
  split at htr
  ·rename_i hf
   obtain ⟨qs,hq,rfl⟩:=map_some htr
   simp only [au] at hs
   obtain ⟨cs,hc,e⟩:=map_some hs
   simp only [Prod.mk.injEq] at e;obtain ⟨rfl,rfl,_⟩:=e
   exact (zcO h ho hf hq hc).upon
  ·simp at htr
 ·rename_i t l c ho
  split at htr
  ·rename_i e hu
   split at htr
   ·rename_i z b l' c' hz hb hl hc
    simp only [Option.some.injEq] at htr;subst htr
    simp only [au] at hs
    split at hs
    ·rename_i n m e1 e2
     obtain ⟨yl,el,nl⟩:=Option.bind_eq_some_iff.1 e1
     obtain ⟨yc,ec,nc⟩:=Option.bind_eq_some_iff.1 e2
     split at hs
     ·rename_i hcnd
      simp only [Bool.and_eq_true,decide_eq_true_eq] at hcnd
      simp only [Option.some.injEq,Prod.mk.injEq] at hs;obtain ⟨rfl,rfl,_⟩:=hs
      exact (zcN h ho hu hz hb hl hc el ec nl nc hcnd.1 hcnd.2).upon
     ·simp at hs
    ·simp at hs
   ·simp at htr
  ·simp at htr
 ·rename_i t z lo hi mx ho
  split at htr
  ·rename_i z' lo' hi' hu hz hlo hhi hmx
   simp only [Option.some.injEq] at htr;subst htr
   have hmn:mx=none:=by
    cases mx with
    |none=>rfl
    |some m=>simp only [jO] at hmx;obtain ⟨_,_,e⟩:=map_some hmx;cases e
   subst hmn
   simp only [au] at hs
   split at hs
   ·rename_i s es
    split at hs
    ·rename_i l hh el eh
     split at hs
     ·rename_i hc
      simp only [Bool.and_eq_true,decide_eq_true_eq] at hc
      simp only [Option.some.injEq,Prod.mk.injEq] at hs;obtain ⟨rfl,rfl,_⟩:=hs
      exact (U2 h ho hu hz hlo hhi es el eh hc.1 hc.2).upon
     ·simp at hs
    ·simp at hs
   ·simp at hs
  ·rename_i e z' lo' hi' mx' hu hz hlo hhi hmx
   split at htr
   ·rename_i hor
    obtain ⟨n,hn,rfl⟩:=map_some htr
    refine PV h ho hu hn hz hlo hhi hmx ?_ hs
    rw [Bool.or_eq_true] at hor
    rcases hor with h1|h1
    ·left
     have:=BH hmx
     cases mx with
     |none=>rfl
     |some m=>cases mx'<;>simp_all
    ·right;rw [←BH hhi];exact h1
   ·simp at htr
  ·simp at htr
 ·rename_i t z f ho
  split at htr
  ·rename_i fs hu
   split at htr
   ·rename_i fd q hf hq
    split at htr
    ·rename_i n hn
     simp only [Option.some.injEq] at htr;subst htr
     simp only [au] at hs
     split at hs
     ·rename_i i e k hv
      simp only [Option.some.injEq,Prod.mk.injEq] at hs;obtain ⟨rfl,rfl,_⟩:=hs
      exact (NU h ho hu hf hn hq hv rfl).upon
     ·rename_i cs hv
      simp only [Option.some.injEq,Prod.mk.injEq] at hs;obtain ⟨rfl,rfl,_⟩:=hs
      exact (NU h ho hu hf hn hq hv rfl).upon
     ·simp at hs
    ·simp at htr
   ·simp at htr
  ·simp at htr
 ·rename_i t z f ho
  split at htr
  ·rename_i fs hu
   split at htr
   ·rename_i fd q hf hq
    obtain ⟨n,hn,rfl⟩:=map_some htr
    simp only [au] at hs
    split at hs
    ·rename_i cs hv
     cases n with
     |none=>
      simp only at hs
      obtain ⟨v,hv',e⟩:=map_some hs
      simp only [Prod.mk.injEq] at e;obtain ⟨rfl,rfl,_⟩:=e
      exact (NT h ho hu hf rfl hn hq hv hv').upon
     |some n=>
      simp only at hs
      split at hs
      ·rename_i hl
       simp only [Option.some.injEq,Prod.mk.injEq] at hs;obtain ⟨rfl,rfl,_⟩:=hs
       exact (NT h ho hu hf rfl hn hq hv (by simp only [hl,if_true])).upon
      ·simp at hs
    ·simp at hs
   ·simp at htr
  ·simp at htr
 ·rename_i t z i ho
  split at htr
  ·rename_i e z' i' hu hz hi
   obtain ⟨n,hn,rfl⟩:=map_some htr
   exact BK h ho (.inl ⟨rfl,hu⟩) hn hz hi hs
  ·rename_i m e z' i' hu hz hi
   obtain ⟨n,hn,rfl⟩:=map_some htr
   exact BK h ho (.inr ⟨m,rfl,hu⟩) hn hz hi hs
  ·simp at htr
 ·rename_i t z i ho
  split at htr
  ·rename_i m e z' i' hu hz hi
   split at htr
   ·rename_i n r hn hr
    simp only [Option.some.injEq] at htr;subst htr
    simp only [au] at hs
    split at hs
    ·rename_i cs j hv hj
     obtain ⟨yi,ei,hn'⟩:=Option.bind_eq_some_iff.1 hj
     split at hs
     ·rename_i hlt
      cases r with
      |none=>
       simp only at hs
       obtain ⟨v,hv',e⟩:=map_some hs
       simp only [Prod.mk.injEq] at e;obtain ⟨rfl,rfl,_⟩:=e
       exact (Va h ho hu hn hr hz hi hv ei hn' hlt hv').upon
      |some k=>
       simp only at hs
       split at hs
       ·rename_i hl
        simp only [Option.some.injEq,Prod.mk.injEq] at hs;obtain ⟨rfl,rfl,_⟩:=hs
        exact (Va h ho hu hn hr hz hi hv ei hn' hlt (by simp only [hl,if_true])).upon
       ·simp at hs
     ·simp at hs
    ·simp at hs
   ·simp at htr
  ·rename_i z' i' hu hz hi
   simp only [Option.some.injEq] at htr;subst htr
   simp only [au] at hs
   split at hs
   ·rename_i s n hv hj
    obtain ⟨yi,ei,hn'⟩:=Option.bind_eq_some_iff.1 hj
    split at hs
    ·rename_i b hb
     simp only [Option.some.injEq,Prod.mk.injEq] at hs;obtain ⟨rfl,rfl,_⟩:=hs
     exact (zcL h ho hu hz hi hv ei hn' hb).upon
    ·simp at hs
   ·simp at hs
  ·simp at htr
 ·rename_i z i ho
  obtain ⟨q,hq,rfl⟩:=map_some htr
  simp only [au] at hs
  split at hs
  ·rename_i xs hv
   obtain ⟨v,hv',e⟩:=map_some hs
   simp only [Prod.mk.injEq] at e;obtain ⟨rfl,rfl,_⟩:=e
   exact (QE h ho hq hv hv').upon
  ·simp at hs
 ·rename_i c ho
  split at htr
  ·simp at htr
  ·rename_i args hargs
   obtain ⟨cal,aK,tys⟩:=c
   dsimp only at htr hargs
   split at htr
   ·rename_i f
    obtain ⟨f',hf,rfl⟩:=map_some htr
    simp only [au] at hs
    split at hs
    ·rename_i yf ys e1 e2
     exact zcS hΓ h ho hf hargs e1 e2 hs
    ·simp at hs
   ·exact Yu h ho htr hargs hs
   ·split at htr
    ·rename_i e qd qs hu
     obtain ⟨n,hn,rfl⟩:=map_some htr
     obtain ⟨t0,ht0,hut⟩:=Option.bind_eq_some_iff.1 hu
     simp only [au] at hs
     split at hs
     ·rename_i i off len y1 e1 e2
      split at hs
      ·rename_i sz0 es sz' new hb hsrc
       split at hs
       ·rename_i hc
        simp only [Option.some.injEq,Prod.mk.injEq] at hs;obtain ⟨rfl,rfl,_⟩:=hs
        simp only [Bool.and_eq_true,beq_iff_eq,decide_eq_true_eq] at hc
        obtain ⟨⟨hc1,hc2⟩,hc3⟩:=hc
        subst hc1;subst hc2
        obtain ⟨pd,ps,ta,tb,hl,hpd,hps⟩:=BI hargs
        exact (zcQ h ho hl ht0 hut hn hpd hps e1 e2 hsrc hb hc3).upon
       ·simp at hs
      ·simp at hs
     ·simp at hs
    ·simp at htr
   ·simp only [Option.some.injEq] at htr;subst htr
    exact TY (isMax:=true) h ho hargs hs
   ·simp only [Option.some.injEq] at htr;subst htr
    exact TY (isMax:=false) h ho hargs hs
   ·exact Yv h ho htr hargs hs
   ·simp at htr
 ·simp at htr
end Go.Em
namespace Go.Em
variable {P:Program} {R:aN} {x:Ctx} {K:Kn} {C:List CB} {σ:St} {a:Act} {w:World}
variable {A:Ann} {Γ:Gam}
def zbB (md:Region.Mode)(ops:Array Oper)(acc M:List Nat):Prop:=
 (acc++M).Nodup∧(∀i,i∈M→i<ops.size)∧∀(M1 M2:List Nat) (j:Nat),M=M1++j::M2→∀(e:Edge),e∈(ops.getD j default).after.toList→Region.binds md e=true→e.on∈acc∨e.on∈M1
theorem Hw {md:Region.Mode}{ops:Array Oper}{listed:Array Bool}{acc:List Nat}(hs:listed.size=ops.size)(hl:∀i,i<ops.size→(listed.getD i true=true↔i∈acc))(hf:∀i,ops.size≤i→listed.getD i false=false){i:Nat}:
  i∈Region.ready md ops listed↔i<ops.size∧i∉acc∧∀(e:Edge),e∈(ops.getD i default).after.toList→Region.binds md e=true→e.on∈acc∧e.on<ops.size:=by
 have hd:∀j,listed.getD j false=true↔j∈acc∧j<ops.size:=by
  intro j
  by_cases hj:j<ops.size
  ·have:listed.getD j false=listed.getD j true:=by simp [Array.getD,hs,hj]
   rw [this,hl j hj];simp [hj]
  ·rw [hf j (by omega)];simp [hj]
 simp only [Region.ready,List.mem_filter,List.mem_range,Bool.and_eq_true,Bool.not_eq_true']
 constructor
 ·rintro ⟨h1,h2,h3⟩
  have ho:ops[i]?=some (ops.getD i default):=by simp [Array.getD,h1]
  rw [ho] at h3
  simp only [Option.map_some,Option.getD_some] at h3
  refine ⟨h1,(fun hm=>by rw [(hl i h1).2 hm] at h2;simp at h2),fun e he hb=>?_⟩
  have:=(Array.all_eq_true_iff_forall_mem.1 h3) e (by simpa using he)
  simp only [hb,Bool.not_true,Bool.false_or] at this
  exact (hd e.on).1 this
 ·rintro ⟨h1,h2,h3⟩
  have ho:ops[i]?=some (ops.getD i default):=by simp [Array.getD,h1]
  refine ⟨h1,?_,?_⟩
  ·cases hx:listed.getD i true with
   |false=>rfl
   |true=>exact absurd ((hl i h1).1 hx) h2
  ·rw [ho]
   simp only [Option.map_some,Option.getD_some]
   refine Array.all_eq_true_iff_forall_mem.2 fun e he=>?_
   cases hb:Region.binds md e with
   |false=>simp
   |true=>simp [(hd e.on).2 (h3 e (by simpa using he) hb)]
theorem A8 {md:Region.Mode}{ops:Array Oper}:∀(fuel t:Nat) (listed:Array Bool) (acc:List Nat),listed.size=ops.size→(∀i,i<ops.size→(listed.getD i true=true↔i∈acc))→acc.Nodup→(∀i,i∈acc→i<ops.size)→
  zbB md ops acc (Region.linearise.go md ops fuel t listed [])∧
   ((Region.linearise.go md ops fuel t listed []).length=fuel∨∃acc':List Nat,(∀i,i∈acc'↔i∈acc∨i∈Region.linearise.go md ops fuel t listed [])∧∀i,i<ops.size→i∉acc'→∃e:Edge,e∈(ops.getD i default).after.toList∧Region.binds md e=true∧¬(e.on∈acc'∧e.on<ops.size)):=by
 intro fuel
 induction fuel with
 |zero=>
  intro t listed acc hs hl hn hlt
  simp only [Region.linearise.go,List.reverse_nil]
  exact ⟨⟨by simpa using hn,by simp,fun M1 M2 j e=>by simp at e⟩,.inl rfl⟩
 |succ fuel ih=>
  intro t listed acc hs hl hn hlt
  have hf:∀i,ops.size≤i→listed.getD i false=false:=by intro i hi;simp [Array.getD,hs,Nat.not_lt.2 hi]
  simp only [Region.linearise.go]
  change zbB md ops acc (match (Region.ready md ops listed)[t%(Region.ready md ops listed).length]? with
   |some i=>Region.linearise.go md ops fuel (t /(Region.ready md ops listed).length) (listed.setIfInBounds i true) [i]
   |none=>[].reverse)∧((match (Region.ready md ops listed)[t%(Region.ready md ops listed).length]? with
   |some i=>Region.linearise.go md ops fuel (t /(Region.ready md ops listed).length) (listed.setIfInBounds i true) [i]
   |none=>[].reverse).length=fuel+1∨∃acc':List Nat,(∀i,i∈acc'↔i∈acc∨i∈(match (Region.ready md ops listed)[t%(Region.ready md ops listed).length]? with
   |some i=>Region.linearise.go md ops fuel (t /(Region.ready md ops listed).length) (listed.setIfInBounds i true) [i]
   |none=>[].reverse))∧∀i,i<ops.size→i∉acc'→∃e:Edge,e∈(ops.getD i default).after.toList∧Region.binds md e=true∧¬(e.on∈acc'∧e.on<ops.size))
  cases hi:(Region.ready md ops listed)[t%(Region.ready md ops listed).length]? with
  |none=>
   simp only [List.reverse_nil]
   have hnil:Region.ready md ops listed=[]:=by
    cases hr:Region.ready md ops listed with
    |nil=>rfl
    |cons u us=>
     rw [hr] at hi
     have hlt':t%(u::us).length<(u::us).length:=Nat.mod_lt _ (by simp)
     rw [List.getElem?_eq_getElem hlt'] at hi;cases hi
   refine ⟨⟨by simpa using hn,by simp,fun M1 M2 j e=>by simp at e⟩,.inr ⟨acc,by simp,fun i h1 h2=>?_⟩⟩
   have hno:i∉Region.ready md ops listed:=by rw [hnil];simp
   rw [Hw hs hl hf] at hno
   simp only [h1,h2,not_false_eq_true,true_and] at hno
   simp only [Classical.not_forall] at hno
   obtain ⟨e,he,hb,hx⟩:=hno
   exact ⟨e,he,hb,hx⟩
  |some i=>
   simp only []
   rw [linearise_go_acc,List.reverse_singleton,List.singleton_append]
   obtain ⟨r1,r2,r3⟩:=(Hw hs hl hf).1 (List.mem_of_getElem? hi)
   have hl':∀j,j<ops.size→((listed.setIfInBounds i true).getD j true=true↔j∈i::acc):=by
    intro j hj
    by_cases hij:j=i
    ·subst hij;simp [Array.getD,hs,hj]
    ·have:(listed.setIfInBounds i true).getD j true=listed.getD j true:=by
      simp only [Array.getD,Array.size_setIfInBounds,hs,hj,dif_pos]
      have:=Array.getElem?_setIfInBounds_ne (xs:=listed) (a:=true) (i:=i) (j:=j) (fun e=>hij e.symm)
      simpa [hs,hj] using this
     rw [this,hl j hj];simp [hij]
   obtain ⟨⟨g1,g2,g3⟩,g4⟩:=ih (t /(Region.ready md ops listed).length) (listed.setIfInBounds i true) (i::acc) (by simp [hs]) hl' (List.nodup_cons.2 ⟨r2,hn⟩) (by
    intro j hj;rcases List.mem_cons.1 hj with rfl|hj;exact r1;exact hlt j hj)
   refine ⟨⟨?_,?_,?_⟩,?_⟩
   ·rw [List.cons_append,List.nodup_cons] at g1
    have hp:(acc++i::Region.linearise.go md ops fuel (t /(Region.ready md ops listed).length) (listed.setIfInBounds i true) []).Perm (i::(acc++Region.linearise.go md ops fuel (t /(Region.ready md ops listed).length) (listed.setIfInBounds i true) [])):=List.perm_middle
    exact hp.nodup_iff.2 (List.nodup_cons.2 g1)
   ·intro j hj;rcases List.mem_cons.1 hj with rfl|hj;exact r1;exact g2 j hj
   ·intro M1 M2 j e ed hed hb
    cases M1 with
    |nil=>
     simp only [List.nil_append,List.cons.injEq] at e
     rw [←e.1] at hed
     exact .inl (r3 ed hed hb).1
    |cons u M1=>
     simp only [List.cons_append,List.cons.injEq] at e
     rcases g3 M1 M2 j e.2 ed hed hb with h1|h1
     ·rcases List.mem_cons.1 h1 with h2|h2
      ·right;rw [h2,e.1];simp
      ·exact .inl h2
     ·right;simp [h1]
   ·rcases g4 with h1|⟨acc',h1,h2⟩
    ·left;simp [h1]
    ·right
     refine ⟨acc',fun j=>?_,h2⟩
     rw [h1 j];simp only [List.mem_cons];constructor
     ·rintro ((h3|h3)|h3)
      ·exact .inr (.inl h3)
      ·exact .inl h3
      ·exact .inr (.inr h3)
     ·rintro (h3|h3|h3)
      ·exact .inl (.inr h3)
      ·exact .inl (.inl h3)
      ·exact .inr h3
theorem CQ {n:Nat}{l:List Nat}(hn:l.Nodup)(hlt:∀i,i∈l→i<n)(hl:l.length=n):∀i,i<n→i∈l:=by
 intro i hi
 have hsub:∀j,j∈l→j∈List.range n:=fun j hj=>List.mem_range.2 (hlt j hj)
 rcases Classical.em (i∈l) with h|h
 ·exact h
 ·have h1:(i::l).Nodup:=List.nodup_cons.2 ⟨h,hn⟩
  have h2:∀j,j∈i::l→j∈List.range n:=by
   intro j hj;rcases List.mem_cons.1 hj with rfl|hj;exact List.mem_range.2 hi;exact hsub j hj
  have:=List.Nodup.length_le_of_subset h1 h2
  simp at this;omega
structure Order (ops:Array Oper) (L:List Nat):Prop where
 nodup:L.Nodup
 all:∀i,i∈L↔i<ops.size
 follows:∀(L1 L2:List Nat) (j:Nat),L=L1++j::L2→∀i,zan (ops.getD j default) i=true→i∈L1
theorem kE {md:Region.Mode}{ops:Array Oper}(h0:(Region.linearise md ops 0).length=ops.size)(t:Nat):Order ops (Region.linearise md ops t):=by
 have hrep:∀i,i<ops.size→((Array.replicate ops.size false).getD i true=true↔i∈([]:List Nat)):=by
  intro i hi;simp [Array.getD,hi]
 have key:=fun t=>A8 (md:=md) (ops:=ops) ops.size t (Array.replicate ops.size false) [] (by simp) hrep (by simp) (by simp)
 have e:∀t,Region.linearise md ops t=Region.linearise.go md ops ops.size t (Array.replicate ops.size false) []:=fun _=>rfl
 rw [e] at h0
 obtain ⟨⟨k1,k2,k3⟩,_⟩:=key 0
 have hall0:=CQ (by simpa using k1) k2 h0
 obtain ⟨⟨g1,g2,g3⟩,g4⟩:=key t
 rw [e]
 have hlen:(Region.linearise.go md ops ops.size t (Array.replicate ops.size false) []).length=ops.size:=by
  rcases g4 with h1|⟨acc',h1,h2⟩
  ·exact h1
  ·
   rcases Classical.em (∀i,i<ops.size→i∈acc') with hA|hA
   ·have hfull:∀i,i<ops.size→i∈Region.linearise.go md ops ops.size t (Array.replicate ops.size false) []:=fun i hi=>by
     rcases (h1 i).1 (hA i hi) with h3|h3
     ·simp at h3
     ·exact h3
    have h5:(Region.linearise.go md ops ops.size t (Array.replicate ops.size false) []).length≤ops.size:=by
     have:=List.Nodup.length_le_of_subset (by simpa using g1) (fun j hj=>List.mem_range.2 (g2 j hj))
     simpa using this
    have h6:ops.size≤(Region.linearise.go md ops ops.size t (Array.replicate ops.size false) []).length:=by
     have:=List.Nodup.length_le_of_subset (List.nodup_range (n:=ops.size)) (fun j hj=>hfull j (List.mem_range.1 hj))
     simpa using this
    omega
   ·exfalso
    have hex:∃L1 j L2,Region.linearise.go md ops ops.size 0 (Array.replicate ops.size false) []=L1++j::L2∧j∉acc'∧∀i,i∈L1→i∈acc':=by
     have hsome:∃i,i∈Region.linearise.go md ops ops.size 0 (Array.replicate ops.size false) []∧i∉acc':=by
      simp only [Classical.not_forall] at hA
      obtain ⟨i,hi,hni⟩:=hA
      exact ⟨i,hall0 i hi,hni⟩
     generalize Region.linearise.go md ops ops.size 0 (Array.replicate ops.size false) []=L at hsome
     clear k1 k2 k3 hall0 h0
     induction L with
     |nil=>obtain ⟨i,hi,_⟩:=hsome;simp at hi
     |cons u us ih=>
      by_cases hu:u∈acc'
      ·obtain ⟨i,hi,hni⟩:=hsome
       rcases List.mem_cons.1 hi with rfl|hi
       ·exact absurd hu hni
       ·obtain ⟨L1,j,L2,e1,e2,e3⟩:=ih ⟨i,hi,hni⟩
        exact ⟨u::L1,j,L2,by rw [e1];rfl,e2,fun k hk=>by rcases List.mem_cons.1 hk with rfl|hk;exact hu;exact e3 k hk⟩
      ·exact ⟨[],u,us,rfl,hu,by simp⟩
    obtain ⟨L1,j,L2,e1,e2,e3⟩:=hex
    have hj:j<ops.size:=k2 j (by rw [e1];simp)
    obtain ⟨ed,hed,hb,hx⟩:=h2 j hj e2
    rcases k3 L1 L2 j e1 ed hed hb with h3|h3
    ·simp at h3
    ·exact hx ⟨e3 _ h3,k2 _ (by rw [e1];simp [h3])⟩
 have hall:=CQ (by simpa using g1) g2 hlen
 refine ⟨by simpa using g1,fun i=>⟨g2 i,hall i⟩,fun L1 L2 j e i hed=>?_⟩
 simp only [zan,List.any_eq_true,Bool.and_eq_true,beq_iff_eq] at hed
 obtain ⟨ed,h1,h2,rfl⟩:=hed
 have hb:Region.binds md ed=true:=by
  unfold Region.binds at h2 ⊢
  split at h2<;>simp_all
 rcases g3 L1 L2 j e ed h1 hb with h3|h3
 ·simp at h3
 ·exact h3
theorem AV {ops:Array Oper}(h:FC ops=true)(mixed:Bool)(t:Nat):Order ops (Region.schedule mixed ops t):=by
 simp only [FC,List.all_cons,List.all_nil,Bool.and_true,Bool.and_eq_true,beq_iff_eq] at h
 unfold Region.schedule
 split
 ·exact kE h.1 t
 ·split
  ·exact kE h.2.1 _
  ·exact kE h.2.2 _
end Go.Em
namespace Go.Em
variable {P:Program} {R:aN} {x:Ctx} {K:Kn} {C:List CB} {σ:St} {a:Act} {w:World}
variable {A:Ann} {Γ:Gam}
theorem mP (tm:List (Nat×X))(b b':List Bx)(q:Opd):St.ev ⟨tm,b⟩ q=St.ev ⟨tm,b'⟩ q:=by cases q<;>rfl
theorem OU (tm:List (Nat×X))(b b':List Bx):∀l,evs ⟨tm,b⟩ l=evs ⟨tm,b'⟩ l
 |[]=>rfl
 |q::r=>by simp only [evs,mP tm b b' q,OU tm b b' r]
theorem H8 (tm:List (Nat×X))(b b':List Bx):∀l,jo ⟨tm,b⟩ l=jo ⟨tm,b'⟩ l
 |[]=>rfl
 |(i,j,q)::r=>by simp only [jo,mP tm b b' q,H8 tm b b' r]
theorem Ia (tm:List (Nat×X))(b b':List Bx):∀l,jX ⟨tm,b⟩ l=jX ⟨tm,b'⟩ l
 |[]=>rfl
 |(i,q)::r=>by simp only [jX,mP tm b b' q,Ia tm b b' r]
theorem sU (tm:List (Nat×X))(b b':List Bx)(d:Nat)(l:Option Opd):cO ⟨tm,b⟩ d l=cO ⟨tm,b'⟩ d l:=by
 cases l<;>simp only [cO];rw [mP tm b b']
def AQ (tm tm':List (Nat×X))(l:List Opd):Prop:=∀n,Opd.t n∈l→lk tm n=lk tm' n
theorem dh {tm tm':List (Nat×X)}{b:List Bx}{l:List Opd}(h:AQ tm tm' l){q:Opd}(hq:q∈l):St.ev ⟨tm,b⟩ q=St.ev ⟨tm',b⟩ q:=by
 cases q with
 |t n=>exact h n hq
 |k y=>rfl
theorem OT {tm tm':List (Nat×X)}{b:List Bx}{l:List Opd}(h:AQ tm tm' l):∀{m:List Opd},(∀q,q∈m→q∈l)→evs ⟨tm,b⟩ m=evs ⟨tm',b⟩ m
 |[],_=>rfl
 |q::r,hm=>by simp only [evs,dh (b:=b) h (hm q (by simp)),OT h (m:=r) (fun q hq=>hm q (by simp [hq]))]
theorem H7 {tm tm':List (Nat×X)}{b:List Bx}{l:List Opd}(h:AQ tm tm' l):∀{m:List (Nat×Nat×Opd)},(∀q,q∈m.map (·.2.2)→q∈l)→jo ⟨tm,b⟩ m=jo ⟨tm',b⟩ m
 |[],_=>rfl
 |(i,j,q)::r,hm=>by simp only [jo,dh (b:=b) h (hm q (by simp)),H7 h (m:=r) (fun q hq=>hm q (by simp at hq ⊢;exact .inr hq))]
theorem H9 {tm tm':List (Nat×X)}{b:List Bx}{l:List Opd}(h:AQ tm tm' l):∀{m:List (Nat×Opd)},(∀q,q∈m.map (·.2)→q∈l)→jX ⟨tm,b⟩ m=jX ⟨tm',b⟩ m
 |[],_=>rfl
 |(i,q)::r,hm=>by simp only [jX,dh (b:=b) h (hm q (by simp)),H9 h (m:=r) (fun q hq=>hm q (by simp at hq ⊢;exact .inr hq))]
theorem sQ {tm tm':List (Nat×X)}{b:List Bx}{l:List Opd}(h:AQ tm tm' l){d:Nat}{m:Option Opd}(hm:∀q,q∈m.toList→q∈l):cO ⟨tm,b⟩ d m=cO ⟨tm',b⟩ d m:=by
 cases m with
 |none=>rfl
 |some q=>simp only [cO];rw [dh h (hm q (by simp))]
theorem Zb (tm tm':List (Nat×X))(b:List Bx)(n:Option Nat)(p:X):lN ⟨tm,b⟩ n p=lN ⟨tm',b⟩ n p:=rfl
theorem Yw {tm tm':List (Nat×X)}{b:List Bx}{i:I}(h:AQ tm tm' i.iH):au Γ ⟨tm,b⟩ i=au Γ ⟨tm',b⟩ i:=by
 cases i with
 |build z ps=>simp only [au,H7 (b:=b) h (fun q hq=>by simpa [I.iH] using hq)]
 |Az n z ps=>simp only [au,H9 (b:=b) h (fun q hq=>by simpa [I.iH] using hq)]
 |zfU f l=>simp only [au,OT (b:=b) h (fun q hq=>by simpa [I.iH] using hq)]
 |mm m l=>simp only [au,OT (b:=b) h (fun q hq=>by simpa [I.iH] using hq)]
 |call o r w f l=>simp only [au,dh (b:=b) h (q:=f) (by simp [I.iH]),OT (b:=b) h (m:=l) (fun q hq=>by simp [I.iH,hq])]
 |slice s y lo hi mx=>
  have e1:=dh (b:=b) h (q:=y) (by simp [I.iH])
  have e2:=sQ (b:=b) h (d:=0) (m:=lo) (fun q hq=>by simp only [I.iH,List.mem_cons,List.mem_append];exact .inr (.inl (.inl hq)))
  have e3:=fun d=>sQ (b:=b) h (d:=d) (m:=hi) (fun q hq=>by simp only [I.iH,List.mem_cons,List.mem_append];exact .inr (.inl (.inr hq)))
  have e4:∀q,mx=some q→St.ev ⟨tm,b⟩ q=St.ev ⟨tm',b⟩ q:=fun q hq=>dh (b:=b) h (q:=q) (by subst hq;simp [I.iH])
  cases mx with
  |none=>simp only [au,e1,e2,e3]
  |some q=>simp only [au,e1,e2,e3,e4 q rfl]
 |sslice y lo hi=>
  have hm:∀q,q∈(I.sslice y lo hi).iH↔q=y∨q∈lo.toList∨q∈hi.toList:=by
   intro q;cases lo<;>cases hi<;>simp [I.iH]
  have e1:=dh (b:=b) h (q:=y) ((hm y).2 (.inl rfl))
  have e2:=sQ (b:=b) h (d:=0) (m:=lo) (fun q hq=>(hm q).2 (.inr (.inl hq)))
  have e3:=fun d=>sQ (b:=b) h (d:=d) (m:=hi) (fun q hq=>(hm q).2 (.inr (.inr hq)))
  simp only [au,e1,e2,e3]
 |pick c p q=>simp only [au,dh (b:=b) h (q:=c) (by simp [I.iH]),dh (b:=b) h (q:=p) (by simp [I.iH]),dh (b:=b) h (q:=q) (by simp [I.iH])]
 |alloc z=>rfl
 |load n p=>simp only [au,dh (b:=b) h (q:=p) (by simp [I.iH]),Zb tm tm' b]
 |store n p q=>simp only [au,dh (b:=b) h (q:=p) (by simp [I.iH]),dh (b:=b) h (q:=q) (by simp [I.iH])]
 |bin o p q=>simp only [au,dh (b:=b) h (q:=p) (by simp [I.iH]),dh (b:=b) h (q:=q) (by simp [I.iH])]
 |beq o p q=>simp only [au,dh (b:=b) h (q:=p) (by simp [I.iH]),dh (b:=b) h (q:=q) (by simp [I.iH])]
 |mksl n z p q=>simp only [au,dh (b:=b) h (q:=p) (by simp [I.iH]),dh (b:=b) h (q:=q) (by simp [I.iH])]
 |iaddr ar s p q=>simp only [au,dh (b:=b) h (q:=p) (by simp [I.iH]),dh (b:=b) h (q:=q) (by simp [I.iH])]
 |aidx n s r p q=>simp only [au,dh (b:=b) h (q:=p) (by simp [I.iH]),dh (b:=b) h (q:=q) (by simp [I.iH])]
 |sidx p q=>simp only [au,dh (b:=b) h (q:=p) (by simp [I.iH]),dh (b:=b) h (q:=q) (by simp [I.iH])]
 |app o s n p q=>simp only [au,dh (b:=b) h (q:=p) (by simp [I.iH]),dh (b:=b) h (q:=q) (by simp [I.iH])]
 |mov p=>simp only [au,dh (b:=b) h (q:=p) (by simp [I.iH])]
 |box p=>simp only [au,dh (b:=b) h (q:=p) (by simp [I.iH])]
 |za8 n p=>simp only [au,dh (b:=b) h (q:=p) (by simp [I.iH])]
 |un n p=>simp only [au,dh (b:=b) h (q:=p) (by simp [I.iH])]
 |conv n p=>simp only [au,dh (b:=b) h (q:=p) (by simp [I.iH])]
 |idc p=>simp only [au,dh (b:=b) h (q:=p) (by simp [I.iH])]
 |s2b p=>simp only [au,dh (b:=b) h (q:=p) (by simp [I.iH])]
 |Ro n p=>simp only [au,dh (b:=b) h (q:=p) (by simp [I.iH])]
 |field n s p=>simp only [au,dh (b:=b) h (q:=p) (by simp [I.iH])]
 |QF p=>simp only [au,dh (b:=b) h (q:=p) (by simp [I.iH])]
 |extract p n=>simp only [au,dh (b:=b) h (q:=p) (by simp [I.iH])]
 |len p=>simp only [au,dh (b:=b) h (q:=p) (by simp [I.iH])]
 |slen p=>simp only [au,dh (b:=b) h (q:=p) (by simp [I.iH])]
 |QJ=>rfl
 |zbg kk m k v=>simp only [au,dh (b:=b) h (q:=m) (by simp [I.iH]),dh (b:=b) h (q:=k) (by simp [I.iH]),dh (b:=b) h (q:=v) (by simp [I.iH])]
 |zbh kk o z m k=>simp only [au,dh (b:=b) h (q:=m) (by simp [I.iH]),dh (b:=b) h (q:=k) (by simp [I.iH])]
 |copy sz d s=>simp only [au,dh (b:=b) h (q:=d) (by simp [I.iH]),dh (b:=b) h (q:=s) (by simp [I.iH])]
 |zcX p=>simp only [au,dh (b:=b) h (q:=p) (by simp [I.iH])]
 |QK p=>simp only [au,dh (b:=b) h (q:=p) (by simp [I.iH])]
 |zdg n p=>simp only [au,dh (b:=b) h (q:=p) (by simp [I.iH])]
theorem NJ {b b':List Bx}{i off len:Nat}(h:b'[i]?=b[i]?):rowOf b' i off len=rowOf b i off len:=by simp only [rowOf,h]
mutual
theorem zeY {b b':List Bx}{raw:Bool}:∀(z:X),(∀i,i∈z.rows→b'[i]?=b[i]?)→z.data b' raw=z.data b raw
 |.bs i off len,h=>by simp only [X.data,NJ (h i (by simp [X.rows]))]
 |.agg cs,h=>by simp only [X.data,yt cs (fun i hi=>h i (by simpa [X.rows] using hi))]
 |.tup cs,h=>by simp only [X.data,yt cs (fun i hi=>h i (by simpa [X.rows] using hi))]
 |.ptr ..,_=>rfl
 |.yl _,_=>rfl
 |.mp _,_=>rfl
 |.ifc,_=>rfl
 |.fn ..,_=>rfl
 |.v _,_=>rfl
 |.sl ..,_=>rfl
 |.dp _,_=>rfl
theorem yt {b b':List Bx}{raw:Bool}:∀(cs:List X),(∀i,i∈fO cs→b'[i]?=b[i]?)→fG b' raw cs=fG b raw cs
 |[],_=>rfl
 |z::r,h=>by simp only [fG,zeY z (fun i hi=>h i (by simp [fO,hi])),yt r (fun i hi=>h i (by simp [fO,hi]))]
end
theorem Zc {tm:List (Nat×X)}{b b':List Bx}{n:Option Nat}{p:X}(h:∀i,i∈jh p→b'[i]?=b[i]?):lN ⟨tm,b'⟩ n p=lN ⟨tm,b⟩ n p:=by
 have:iL ⟨tm,b'⟩ p=iL ⟨tm,b⟩ p:=by
  cases p with
  |ptr i e o=>simp only [iL,h i (by simp [jh])]
  |_=>rfl
 simp only [lN,this]
theorem Yz {b b':List Bx}{p:X}(h:∀i,i∈p.rows→b'[i]?=b[i]?):nG b' p=nG b p:=by
 cases p with
 |bs i off len=>simp only [nG,NJ (h i (by simp [X.rows]))]
 |_=>rfl
end Go.Em
