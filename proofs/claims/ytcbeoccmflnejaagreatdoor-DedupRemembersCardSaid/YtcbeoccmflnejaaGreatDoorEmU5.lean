/-.-/
import Derived.RangeFuncRecord
import Derived.ControlIn
import Derived.Test.YtcbeoccmflnejaaGreatDoorEmU4
set_option linter.all false
namespace Go.Em
section
variable {B:Bx}{c:CB}{K':Kn}{bx:List Bx}{b i o sz:Nat}{σ':St}{v:Value}{z:X}{good:X->Prop}{f:X->X}
variable {P:Program} {R:CodeRel} {x:Ctx} {K:Kn} {C:List CB} {σ:St} {a:Act} {w:World}
def Bx.mapX (f:X->X):Bx->Bx
 |.var cs=>.var (cs.map f)
 |.loop st p tm ps a b=>.loop st p (tm.map fun q=>(q.1,f q.2)) ps a b
 |.row s l=>.row s l
 |.map es=>.map es
 |.dead=>.dead
def Bx.vals:Bx->List X
 |.var cs=>cs
 |.loop _ _ tm _ _ _=>tm.map (·.2)
 |_=>[]
theorem frzL_eq (i sz:Nat)(es:qaW):∀cs:List X,frzL i sz es cs=cs.map (X.frz i sz es)
 |[]=>rfl
 |z::r=>by simp [frzL,frzL_eq i sz es r]
theorem fixL_eq (i:Nat)(vs:List X):∀cs:List X,fixL i vs cs=cs.map (X.fix i vs)
 |[]=>rfl
 |z::r=>by simp [fixL,fixL_eq i vs r]
theorem frzB_eq (i sz:Nat)(es:qaW)(B:Bx):B.frz i sz es=B.mapX (X.frz i sz es):=by
 cases B<;>simp [Bx.frz,Bx.mapX,frzL_eq,frzT]
theorem fixB_eq (i:Nat)(vs:List X)(B:Bx):B.fix i vs=B.mapX (X.fix i vs):=by
 cases B<;>simp [Bx.fix,Bx.mapX,fixL_eq,fixT]
theorem live_mapX (f:X->X)(B:Bx):(B.mapX f).live=B.live:=by cases B<;>rfl
theorem isLoop_mapX (f:X->X)(B:Bx):(B.mapX f).isLoop=B.isLoop:=by cases B<;>rfl
theorem lk_map (f:X->X):∀(tm:List (Nat×X)) (n:Nat),lk (tm.map fun q=>(q.1,f q.2)) n=(lk tm n).map f
 |[],n=>rfl
 |(k,y)::r,n=>by have ih:=lk_map f r n<;>grind[lk]
noncomputable def Kn.shut (K:Kn)(c:CB)(w:World):Kn:=fun b o=>by classical exact if c.owns b o then w.cell? ⟨b,o,none⟩ else K b o
theorem shut_own (h:c.owns b o):K.shut c w b o=w.cell? ⟨b,o,none⟩:=by grind[Kn.shut]
theorem shut_other (h:¬c.owns b o):K.shut c w b o=K b o:=by grind[Kn.shut]
theorem shut_le (h:Inv P R K C bx w)(hB:bx[i]?=some B)(hl:B.live=true)(hc:C[i]?=some c):KLe K (K.shut c w):=by
 intro b o v e;have:¬c.owns b o:=fun a=>by rw [h.apart b o ⟨i,c,B,hc,hB,hl,a⟩] at e<;>grind
 grind[shut_other]
theorem TmOk.turn {tm:List (Nat×X)}{tmps:Array Value}(h:TmOk K C tm tmps)(hg:∀z,z∈tm.map (·.2)->good z)(hrep:∀z v,good z->Rep K C z v->Rep K' C (f z) v):TmOk K' C (tm.map fun q=>(q.1,f q.2)) tmps:=by
 intro n y e;rw [lk_map] at e;obtain ⟨z,hz,rfl⟩:=qac.1 e;obtain ⟨v,l,j⟩:=h n z hz;obtain ⟨p,a,rfl⟩:=lk_mem hz
 grind
theorem BoxOk.turn (h:BoxOk P R K C w B c)(hK:KLe K K')(hcell:∀z,(f z).isCell=z.isCell)(hg:∀z,z∈B.vals->good z)(hrep:∀z v,good z->Rep K C z v->Rep K' C (f z) v):
  BoxOk P R K' C w (B.mapX f) c:=by
 cases B with
 |dead=>trivial
 |var cs=>
  cases c with
  |«at»=>
   obtain ⟨E,J,q,el,F,y⟩:=h;refine ⟨E,by grind,q,el,F,by simpa using y.len,fun z hz=>?_,fun j z v e A=>?_⟩;·obtain ⟨u,n,rfl⟩:=qam.1 hz;rw [hcell];exact y.cell u n
   rw [qaA] at e;obtain ⟨u,n,rfl⟩:=qac.1 e;exact hrep u v (hg u (qap n)) (y.rep j u v n A)
  |ghost=>exact h.elim
  |obj=>exact h.elim
 |row sz es=>exact h.mono hK (CLe.refl _) (.refl nowhere w) (fun _ _ _=>id)
 |map es=>exact h.mono hK (CLe.refl _) (.refl nowhere w) (fun _ _ _=>id)
 |loop st p tm ps a b=>
  cases c with
  |obj=>obtain ⟨l,H,m⟩:=h;exact ⟨l,H,m.hst,m.hpend,m.htm.turn hg hrep,m.hps,m.hin,m.hcode⟩
  |«at»=>exact h.elim
  |ghost=>exact h.elim
theorem Rel.turn (h:Rel P R x K C σ a w)(hB:σ.bx[i]?=some B)(hl:B.live=true)(hL:B.isLoop=false)(hc:C[i]?=some c)(hcell:∀z,(f z).isCell=z.isCell)
  (hrep:∀z v,good z->Rep K C z v->Rep (K.shut c w) C (f z) v) (hgt:∀z,z∈σ.tm.map (·.2)->good z) (hgb:∀A,A∈σ.bx->∀z,z∈A.vals->good z):
  Rel P R x (K.shut c w) C ⟨σ.tm.map fun q=>(q.1,f q.2),(σ.bx.map (Bx.mapX f)).set i .dead⟩ a w:=by
 have S:=shut_le h.inv hB hl hc;have m:∀(j:Nat) (A:Bx),((σ.bx.map (Bx.mapX f)).set i .dead)[j]?=some A->A.live=true->j≠i/\∃A0,σ.bx[j]?=some A0/\A=A0.mapX f/\A0.live=true:=by
  intro j A e l;rw [List.getElem?_set] at e;split at e
  ·grind[Bx.live]
  rename_i U;rw [qaA] at e;obtain ⟨A0,u,rfl⟩:=qac.1 e;exact ⟨fun e=>U e.symm,A0,u,rfl,by grind[live_mapX]⟩
 have n:∀b o,Owns C ((σ.bx.map (Bx.mapX f)).set i .dead) b o->Owns C σ.bx b o/\¬c.owns b o:=by
  rintro b o ⟨j,d,A,L,J,l,y⟩
  obtain ⟨H,A0,u,rfl,E⟩:=m j A J l;exact ⟨⟨j,d,A0,L,u,E,y⟩,fun Y=>h.inv.disj j i d c A0 B b o H L hc u hB E hl y Y⟩
 have F:∀b o,c.owns b o->Owns C σ.bx b o:=fun b o y=>⟨i,c,B,hc,hB,hl,y⟩;refine {h with inv:=⟨h.inv.glob.mono S,?_,by simpa using h.inv.size,?_,?_,?_⟩,tm:=h.tm.turn hgt hrep,k0:=h.k0.trans S,knew:=?_,own:=fun b o M=>h.own b o (n b o M).1,defs:=?_,loops:=?_}
 ·intro b o v e;by_cases y:c.owns b o
  ·grind[shut_own]
  rw [shut_other y] at e;exact h.inv.known b o v e
 ·intro b o M;rw [shut_other (n b o M).2];exact h.inv.apart b o (n b o M).1
 ·intro j k d e A A' b o H L he J Q l O y;obtain ⟨_,A0,u,rfl,E⟩:=m j A J l;obtain ⟨_,A1,N,rfl,h4⟩:=m k A' Q O;exact h.inv.disj j k d e A0 A1 b o H L he u N E h4 y
 ·intro j A d J L;by_cases l:A.live=true;·obtain ⟨_,A0,u,rfl,E⟩:=m j A J l;exact (h.inv.box j A0 d u L).turn S hcell (hgb A0 (qap u)) hrep
  cases A<;>first|trivial|simp [Bx.live] at l
 ·intro b o v e;by_cases y:c.owns b o;·exact .inr (h.own b o (F b o y))
  rw [shut_other y] at e;exact h.knew b o v e
 ·obtain ⟨rs,u,E,N⟩:=h.defs.marks;exact ⟨⟨rs,u,E,fun r W=>⟨(N r W).1,(N r W).2.1,fun o M=>(N r W).2.2 o (n r o M).1⟩⟩,h.defs.round⟩
 intro j hj V;obtain ⟨A,J,Z⟩:=h.loops j hj V<;>grind[isLoop_mapX]
theorem cell_frz (i sz:Nat)(es:qaW)(z:X):(z.frz i sz es).isCell=z.isCell:=by
 cases z with
 |bs j off len=>simp only [X.frz];split<;>rfl
 |_=>rfl
theorem cell_fix (i:Nat)(vs:List X)(z:X):(z.fix i vs).isCell=z.isCell:=by
 cases z with
 |ptr j e o=>simp only [X.fix];split<;>rfl
 |_=>rfl
theorem withinL_iff {i n:Nat}:∀{cs:List X},withinL i n cs=true↔∀z,z∈cs->z.within i n=true
 |[]=>by simp [withinL]
 |z::r=>by simp [withinL,withinL_iff (cs:=r)]
theorem Rep.frz (hI:Inv P R K C bx w){es:qaW}(hb:bx[i]?=some (.row sz es))(hc:C[i]?=some c)(h:Rep K C z v):z.within i es.length=true->Rep (K.shut c w) C (z.frz i sz es) v:=by
 have y:=shut_le hI hb rfl hc;induction h with
 |v h=>exact fun _=>.v h
 |slNil=>exact fun _=>.slNil
 |sl vals hlen ht hcap hcell hk hr ih=>exact fun _=>.sl vals hlen ht hcap hcell (fun i j z e=>y _ _ _ (hk i j z e)) (fun i j z e=>(hr i j z e).mono y (CLe.refl _))
 |bs hc' hcap hlen=>
  rename_i C j l len b f E m cap;intro n;simp only [X.frz];split
  ·rename_i A;have:j=i:=by simpa using A
   subst this;simp [X.within] at n;rw [hc] at hc';simp at hc';subst hc';obtain ⟨H,el,J,Q,S,L,M⟩:=(hI.box j _ _ hb hc).flat;subst J;have B:((es.drop l).take len).length=len:=by simp;omega
   have:=(((M.drop l).take len).mono y).rep (K:=K.shut (.at b f E m) w) (C:=C) (t:=false) (b:=b) (o:=f+l*m) (cap:=cap) (fun k u a=>?_) (by simp) (by omega)
   ·grind
   rw [qax] at a;split at a
   ·rename_i N;rw [qaw,qax] at a;split at a
    ·rename_i O;rw [qaw,toArray_getElem?] at a;have F:(CB.at b f E m).owns b (f+l*m+k):=⟨rfl,by omega,by omega⟩
     grind[shut_own,World.cell?]
    grind
   grind
  exact .bs hc' hcap hlen
 |bsNil hc'=>
  intro n;simp only [X.frz];split;·simp;exact .slNil
  exact .bsNil hc'
 |ptr hc'=>exact fun _=>.ptr hc'
 |dp vals hcell hk hr ih=>exact fun _=>.dp vals hcell (fun j z e=>y _ _ _ (hk j z e)) (fun j z e=>(hr j z e).mono y (CLe.refl _))
 |fn hs hr ih=>intro n;simp only [X.frz,frzL_eq];refine .fn (by grind) (fun j z v e q=>?_);rw [qaA] at e;obtain ⟨u,a,rfl⟩:=qac.1 e;exact ih j u v a q hI hc (withinL_iff.1 n u (qap a))
 |agg hs hcell hr ih=>
  intro n;simp only [X.frz,frzL_eq];refine .agg (by grind) (fun z hz=>?_) (fun j z v e q=>?_);·obtain ⟨u,a,rfl⟩:=qam.1 hz<;>simp_all[cell_frz]
  rw [qaA] at e;obtain ⟨u,a,rfl⟩:=qac.1 e;exact ih j u v a q hI hc (withinL_iff.1 n u (qap a))
 |tup hs hr ih=>intro n;simp only [X.frz,frzL_eq];refine .tup (by grind) (fun j z v e q=>?_);rw [qaA] at e;obtain ⟨u,a,rfl⟩:=qac.1 e;exact ih j u v a q hI hc (withinL_iff.1 n u (qap a))
 |yl hc'=>exact fun _=>.yl hc'
 |mp hc'=>exact fun _=>.mp hc'
 |ifc=>exact fun _=>.ifc
theorem Rep.fix (hI:Inv P R K C bx w){vs:List X}(hb:bx[i]?=some (.var vs))(hc:C[i]?=some c)(hn:refsL vs=[])(h:Rep K C z v):Rep (K.shut c w) C (z.fix i vs) v:=by
 have n:=shut_le hI hb rfl hc;induction h with
 |v h=>exact .v h
 |slNil=>exact .slNil
 |sl vals hlen ht hcap hcell hk a ih=>exact .sl vals hlen ht hcap hcell (fun i j z e=>n _ _ _ (hk i j z e)) (fun i j z e=>(a i j z e).mono n (CLe.refl _))
 |bs hc' hcap hlen=>exact .bs hc' hcap hlen
 |bsNil hc'=>exact .bsNil hc'
 |ptr hc'=>
  rename_i C j e o b H Q M;simp only [X.fix];split
  ·rename_i A;simp at A;obtain ⟨rfl,rfl⟩:=A;rw [hc] at hc';simp at hc';subst hc';obtain ⟨rfl,V,f,el,N,a⟩:=hI.box j _ _ hb hc;have m:∀(k:Nat) (y:X),(vs.drop o)[k]?=some y->∃u,f[o+k]?=some u/\o+k<vs.length/\y∈vs/\Rep K C y u:=by intro k y e;rw [qaw] at e;obtain ⟨u,B,l⟩:=a.get e;exact ⟨u,by grind,(qak.1 e).1,qap e,l⟩
   rw [show 0+0*M+o=o by omega];refine .dp (fun k=>f.getD (o+k) undef) (fun k y e=>?_) (fun k y e=>?_) (fun k y e=>?_);·obtain ⟨u,_,_,F,_⟩:=m k y e;exact a.cell y F
   ·obtain ⟨u,B,E,_,_⟩:=m k y e;have L:(CB.at b 0 Q M).owns b (o+k):=⟨rfl,by omega,by omega⟩<;>simp_all[shut_own,World.cell?]
   obtain ⟨u,B,E,F,l⟩:=m k y e;have O:f.getD (o+k) undef=u:=by simp [B]
   rw [O];have U:y.refs=[]:=List.eq_nil_iff_forall_not_mem.2 fun q S=>by have:q∈refsL vs:=mem_refsL.2 ⟨y,F,S⟩<;>grind
   exact (l.noRef U).mono n (CLe.refl _)
  exact .ptr hc'
 |dp vals hcell hk a ih=>exact .dp vals hcell (fun j z e=>n _ _ _ (hk j z e)) (fun j z e=>(a j z e).mono n (CLe.refl _))
 |fn hs a ih=>
  simp only [X.fix,fixL_eq];refine .fn (by grind) (fun j z v e J=>?_)
  grind
 |agg hs hcell a ih=>
  simp only [X.fix,fixL_eq];refine .agg (by grind) (fun z hz=>?_) (fun j z v e J=>?_);·obtain ⟨u,B,rfl⟩:=qam.1 hz<;>simp_all[cell_fix]
  grind
 |tup hs a ih=>
  simp only [X.fix,fixL_eq];refine .tup (by grind) (fun j z v e J=>?_)
  grind
 |yl hc'=>exact .yl hc'
 |mp hc'=>exact .mp hc'
 |ifc=>exact .ifc
def RelE (P:Program)(R:CodeRel)(x:Ctx)(σ:St)(a:Act)(w:World):Prop:=∃K C,Rel P R x K C σ a w
theorem freeze_sound (h:Rel P R x K C σ a w)(e:freeze i σ=some σ'):RelE P R x σ' a w:=by
 unfold freeze at e;split at e
 ·rename_i m j n;split at e
  ·rename_i q;simp at e;subst e;obtain ⟨c,u,_⟩:=h.inv.get n;simp [rowOkB] at q;have:=h.turn (f:=X.frz i m j) (good:=fun z=>z.within i j.length=true) n rfl rfl u (cell_frz i m j) (fun z v E F=>F.frz h.inv n u E) (withinL_iff.1 q.1) (fun A B z hz=>by
    have l:=q.2 A B;cases A with
    |var cs=>exact withinL_iff.1 l z hz
    |loop st p tm ps a b=>exact withinL_iff.1 l z hz
    |row=>grind[Bx.vals]
    |map=>grind[Bx.vals]
    |dead=>grind[Bx.vals])
   have y:Bx.frz i m j=Bx.mapX (X.frz i m j):=funext (frzB_eq i m j);rw [y];exact ⟨_,_,this⟩
  grind
 grind
theorem freezeV_sound (h:Rel P R x K C σ a w)(e:freezeV i σ=some σ'):RelE P R x σ' a w:=by
 unfold freezeV at e;split at e
 ·rename_i j l;split at e;next u=>simp at e;subst e;obtain ⟨c,m,_⟩:=h.inv.get l;have:=h.turn (f:=X.fix i j) (good:=fun _=>True) l rfl rfl m (cell_fix i j) (fun z v _ q=>q.fix h.inv l m (List.isEmpty_iff.1 u)) (fun _ _=>trivial) (fun _ _ _ _=>trivial);have n:Bx.fix i j=Bx.mapX (X.fix i j):=funext (fixB_eq i j);rw [n];exact ⟨_,_,this⟩
  simp at e;subst e;exact ⟨_,_,h⟩
 grind
theorem freezes_sound:∀{l:List Nat} {σ σ':St} {K:Kn} {C:List CB},Rel P R x K C σ a w->freezes l σ=some σ'->RelE P R x σ' a w
 |[],σ,σ',K,C,h,e=>by simp [freezes] at e;subst e;exact ⟨_,_,h⟩
 |i::r,σ,σ',K,C,h,e=>by
  simp only [freezes] at e;split at e;·obtain ⟨σ1,h1,h2⟩:=qaG.1 e;obtain ⟨K',C',h3⟩:=freeze_sound h h1;exact freezes_sound h3 h2
  exact freezes_sound h e
theorem Rel.push0 (h:Rel P R x K C σ a w)(hB:BoxOk P R K (C++[c]) w B c)(hc:∀b o,¬c.owns b o):Rel P R x K (C++[c]) ⟨σ.tm,σ.bx++[B]⟩ a w:=by
 refine {h with inv:=h.inv.push hB (fun b o j=>absurd j (hc b o)) (fun b o j=>absurd j (hc b o)),tm:=h.tm.mono (KLe.refl _) (CLe.append _ _),own:=?_,cin:=?_,defs:=?_,loops:=?_}
 ·intro b o f;rcases owns_push h.inv.size f with f|f;·exact h.own b o f
  grind
 ·intro i d e;exact CLe.append _ _ _ _ (h.cin i d e)
 ·obtain ⟨F,n,q,l⟩:=h.defs.marks;refine ⟨⟨F,n,q,fun r m=>⟨(l r m).1,(l r m).2.1,fun k f=>?_⟩⟩,h.defs.round⟩;rcases owns_push h.inv.size f with f|f<;>grind
 intro i y A;obtain ⟨H,u,E⟩:=h.loops i y A<;>grind
theorem rep_empty {t:Bool}(h:Rep K C (.sl t sz []) v)(ht:t=true):∃ob,v=.slice ob 0 0:=by generalize hz:X.sl t sz []=z at h;cases h<;>simp_all
theorem ghost_sound {g:Gh}(h:Rel P R x K C σ a w)(e:ghost σ g=some σ'):RelE P R x σ' a w:=by
 have same:σ=σ'->RelE P R x σ' a w:=fun e=>⟨K,C,e▸h⟩;cases g with
 |thaw s o=>
  have O:=fun m=>h.push0 (B:=.row m []) (c:=.ghost) rfl (fun _ _ hw=>hw);have E:(C++[CB.ghost])[σ.bx.length]?=some .ghost:=by rw [<-h.inv.size];simp
  simp only [ghost] at e;split at e
  ·split at e
   ·rename_i m U;simp at e;subst e;obtain ⟨v,Z,u⟩:=h.tm s _ U;obtain ⟨ob,rfl⟩:=rep_empty u rfl;refine ⟨K,C++[.ghost],(O m).tms fun n y A=>?_⟩;simp only [lk] at A;split at A;next S=>simp at S;subst S;simp at A;subst A;exact ⟨_,Z,.bsNil E⟩
    exact (O m).tm n y A
   grind
  rename_i o;split at e
  ·rename_i i o' U;split at e
   ·rename_i Q H;split at e
    ·rename_i m N;simp at e;subst e;obtain ⟨c,W,f⟩:=h.inv.get H;have M:=CLe.append C [CB.ghost] i c W;have J:(σ.bx++[Bx.row m []])[i]?=some (.var Q):=by rw [qar (qak.1 H).1];exact H
     have l:BoxOk P R K (C++[.ghost]) w (.var (Q.set (o'+o) (.bs σ.bx.length 0 0))) c:=by
      cases c with
      |«at»=>
       obtain ⟨V,h2,F,el,L,u⟩:=f;refine ⟨V,by grind,F,el,L,by simpa using u.len,fun z hz=>?_,fun j z v q ev=>?_⟩
       ·rcases List.mem_or_eq_of_mem_set hz with hz|rfl;·exact u.cell z hz
        rfl
       rw [List.getElem?_set] at q;split at q
       ·rename_i Y;split at q;·simp at q;subst q;subst Y;obtain ⟨ob,rfl⟩:=rep_empty (u.rep _ _ _ N ev) rfl;exact .bsNil E
        grind
       exact (u.rep j z v q ev).mono (KLe.refl _) (CLe.append _ _)
      |ghost=>exact f.elim
      |obj=>exact f.elim
     have:=(O m).setBox J rfl M (.refl _ w) l (fun e=>by cases e);refine ⟨K,C++[.ghost],?_⟩<;>grind
    grind
   grind
  grind
 |frz s o=>simp only [ghost] at e;split at e<;>grind[freeze_sound]
 |frzA s=>grind[ghost,freezes_sound]
 |frzV s=>grind[ghost,freezeV_sound]
theorem ghosts_sound:∀{l:List Gh} {σ σ':St} {K:Kn} {C:List CB},Rel P R x K C σ a w->ghosts l σ=some σ'->RelE P R x σ' a w
 |[],σ,σ',K,C,h,e=>by simp [ghosts] at e;subst e;exact ⟨_,_,h⟩
 |g::r,σ,σ',K,C,h,e=>by
  simp only [ghosts] at e;split at e
  ·grind
  rename_i σ1 h1;obtain ⟨K',C',h3⟩:=ghost_sound h h1;exact ghosts_sound h3 e
end
section
variable {A:Ann}{vs:Array Value}{g:FuncId}{i l:Nat}{σ':St}
variable {P:Program} {R:CodeRel} {x:Ctx} {K:Kn} {C:List CB} {σ:St} {a:Act} {w:World}
variable {Γ:Gam} {gl:Nat->Option (List X)}
theorem Rel.pickAll (h:Rel P R x K C σ a w){sel:List Nat}{bx:List Bx}(e:pickB σ.bx sel=some bx)(ht:sel.take x.C0.length=List.range x.C0.length)(htm:∀i,i∈refsL (σ.tm.map (·.2))->i∈sel):
  ∃C1,Rel P R x K C1 ⟨renT (idxN · sel) σ.tm,bx⟩ a w/\C1.length=bx.length/\∀(y:X) (v:Value),(∀i,i∈y.refs->i∈sel)->Rep K C y v->Rep K C1 (y.ren (idxN · sel)) v:=by
 obtain ⟨C1,W,pa,J,L,N,pb,A,m⟩:=h.inv.pick e;have n:∀(b o:Nat),Owns C1 bx b o->Owns C σ.bx b o:=by
  rintro b o ⟨j,c,B',q,F,H,V⟩
  obtain ⟨i,O,Q⟩:=A j c q;obtain ⟨B,S,U⟩:=L j i O;rw [U] at F;cases F;exact ⟨i,c,B,Q,S,by grind[live_ren],V⟩
 have f:∀i,i<x.C0.length->sel[i]?=some i:=by
  intro i l;have q:(sel.take x.C0.length)[i]?=some i:=by rw [ht];simp [l]
  rw [qax,if_pos l] at q;exact q
 refine ⟨C1,{h with inv:=W,tm:=h.tm.ren fun i l c u=>m i (htm i l) c u,own:=fun b o M=>h.own b o (n b o M),cin:=?_,defs:=?_,loops:=?_},by omega,fun y v hy E=>E.ren fun i l c u=>m i (hy i l) c u⟩;·intro i c u;exact J i i c (f i (qak.1 u).1) (h.cin i c u)
 ·obtain ⟨rs,q,F,H⟩:=h.defs.marks;exact ⟨⟨rs,q,F,fun r E=>⟨(H r E).1,(H r E).2.1,fun o M=>(H r E).2.2 o (n r o M)⟩⟩,h.defs.round⟩
 intro i l Y;obtain ⟨B,hB,Z⟩:=h.loops i l Y<;>grind[isLoop_ren]
theorem canon_sound (h:Rel P R x K C σ a w)(e:canon x.C0.length σ=some σ'):RelE P R x σ' a w:=by
 unfold canon at e;dsimp only at e;split at e;next j=>simp at j;obtain ⟨n,f,rfl⟩:=map_some e;obtain ⟨l,m,_,_⟩:=h.pickAll f j.2 (subN_iff.1 j.1);exact ⟨K,l,m⟩
 grind
theorem Rel.defers (h:Rel P R x K C σ a w)(hr:x.rnd=none):Rel P R x K C σ {a with defers:=mark w.heap.size::a.defers} (w.alloc (.deferred (some []))):=by
 have j:=h.still (FrameOk.alloc nowhere w (.deferred (some [])));refine {j with tm:=j.tm,nt:=j.nt,defs:=⟨?_,fun e=>by grind⟩};obtain ⟨A,E,n,l⟩:=h.defs.marks;obtain ⟨B,m,q,u⟩:=j.defs.marks;refine ⟨w.heap.size::A,by grind,List.nodup_cons.2 ⟨fun f=>?_,n⟩,fun r f=>?_⟩
 ·grind
 rcases qal.1 f with rfl|f;·refine ⟨World.alloc_heap_new w _,h.frame.size,fun o y=>?_⟩;have:=h.inv.owns_lt y;omega
 refine ⟨(FrameOk.alloc nowhere w (.deferred (some []))).obj (l r f).1 trivial (o₀:=0) id,(l r f).2.1,(l r f).2.2⟩
def RCode (P:Program)(gl:Nat->Option (List X)):CodeRel:=⟨fun nt assign body a b=>∃A,trCode P gl A nt assign=some a/\trCode P gl A nt body=some b,gl⟩
def exitOf:Ex->Exit
 |.norm=>.normal
 |.exit i=>.exit i
 |.ret=>.ret
theorem getLoop_box (h:Rel P R x K C σ a w){lr:Nat}(hr:x.rnd=some lr):∃lp:Loop,w.heap[lr]?=some (.loop lp):=by
 obtain ⟨i,l,m,j⟩:=h.rnd lr hr;obtain ⟨B,f,n⟩:=h.loops i l m;have:=h.inv.box i B _ f (h.cin i _ j);cases B with
 |loop st p tm ps am bm=>obtain ⟨lp,q,_⟩:=this<;>grind
 |_=>grind[Bx.isLoop]
theorem enter_sound {ps:Array Tmp}{assign body:Code}{am bm:Em.C}{live:List Nat}{nt:Nat}(hx:x.nt=nt)(h:Rel P (RCode P gl) x K C σ a w)(hps:∀p,p∈ps.toList->p<nt)(ha:trCode P gl A nt assign=some am)(hb:trCode P gl A nt body=some bm)(fn:FuncId):
  ∃(l:Nat) (mk:List Deferred) (w1:World),(Instr.enterLoop fn a.tmps ps assign body x.rnd).run P w=.ok (l,mk) w1/\
   Rel P (RCode P gl) x K (C++[.obj l]) ⟨σ.tm,σ.bx++[.loop .ready none (keep live σ.tm) ps.toList am bm]⟩ {a with defers:=mk++a.defers} w1:=by
 have f:∀(mk:List Deferred) (w0:World) (L:Loop),Rel P (RCode P gl) x K C σ {a with defers:=mk++a.defers} w0->L.state=.ready->L.pending=none->L.tmps=a.tmps->L.params=ps->L.assign=assign->L.body=body->
   Rel P (RCode P gl) x K (C++[.obj w0.heap.size]) ⟨σ.tm,σ.bx++[.loop .ready none (keep live σ.tm) ps.toList am bm]⟩ {a with defers:=mk++a.defers} (w0.alloc (.loop L)):=by
  intro mk w0 L E n q j u y B;refine E.push _ ⟨L,World.alloc_heap_new w0 _,n,by rw [q];trivial,?_,by rw [u],fun p M=>?_,⟨A,?_,?_⟩⟩ (fun b k H=>H);·rw [j];exact (h.tm.keep live).mono (KLe.refl _) (CLe.append _ _)
  ·rw [j,h.nt,hx]<;>grind
  ·rw [j,h.nt,hx,y]<;>grind
  rw [j,h.nt,hx,B]<;>grind
 cases m:x.rnd with
 |none=>refine ⟨w.heap.size+1,[mark w.heap.size],_,run_enterLoop_outer _ _ _ _ _,?_⟩;have:=f [mark w.heap.size] _ {state:=.ready,pending:=none,fn,tmps:=a.tmps,params:=ps,assign,body,defers:=w.heap.size} (h.defers m) rfl rfl rfl rfl rfl rfl<;>simp_all
 |some lr=>obtain ⟨J,F⟩:=getLoop_box h m;refine ⟨w.heap.size,[],w.alloc (.loop {state:=.ready,pending:=none,fn,tmps:=a.tmps,params:=ps,assign,body,defers:=J.defers}),?_,f [] w _ h rfl rfl rfl rfl rfl rfl⟩<;>simp_all[Instr.enterLoop,run_getLoop]
theorem putObj_frame {S:Nat->Nat->Prop}{g:Nat}{o o':Obj}(hg:w.heap[g]?=some o)(ho:noCells (some o))(ho':noCells (some o'))(hs:∀i,S g i):FrameOk S w (w.putObj g o'):=FrameOk.setObj hg ho ho' hs
theorem c0_le (h:Rel P R x K C σ a w):x.C0.length<=C.length:=by
 rcases Nat.lt_or_ge C.length x.C0.length with h1|h1;·have:=h.cin C.length _ (qad h1)<;>simp_all
 grind
theorem Rel.setLoop (h:Rel P R x K C σ a w){st st':LoopState}{pend pend':Option Ex}{tm:List (Nat×X)}{ps:List Nat}{am bm:Em.C}(hB:σ.bx[i]?=some (.loop st pend tm ps am bm))(hc:C[i]?=some (.obj l)){jump:Option Code}(hj:PendOk pend' jump):
  ∃lp:Loop,w.heap[l]?=some (.loop lp)/\lp.state=st/\PendOk pend lp.pending/\Rel P R x K C ⟨σ.tm,σ.bx.set i (.loop st' pend' tm ps am bm)⟩ a (w.putObj l (.loop {lp with state:=st',pending:=jump})):=by
 obtain ⟨lp,j,f⟩:=h.inv.box i _ _ hB hc;refine ⟨lp,j,f.hst,f.hpend,?_⟩;have m:=(qaS.1 j).1;refine h.setBox hB rfl hc (putObj_frame j trivial trivial fun _=>rfl) ⟨_,World.putObj_heap_same m,rfl,hj,f.htm,f.hps,f.hin,f.hcode⟩ (fun e=>e)
theorem endRf_sound {e:Ex}(h:Rel P R x K C σ a w)(hc:C[i]?=some (.obj l))(hi:¬i<x.C0.length)(he:endRf i σ=some (e,σ')):
  ∃(jump:Option Code) (w':World),(Instr.endLoop l).run P w=.ok jump w'/\RelE P R x σ' a w'/\((jump=none/\e=.norm)\/(jump=some .ret/\e=.ret)\/∃k,jump=some (.exit k)/\e=.exit k):=by
 unfold endRf at he;split at he
 ·rename_i st n tm U J L A;split at he
  ·grind
  rename_i H;simp at he;obtain ⟨rfl,rfl⟩:=he;obtain ⟨m,q,F,f,_⟩:=h.setLoop (st':=.exhausted) (pend':=none) (jump:=none) A hc trivial;obtain ⟨S,u,Q,O,E⟩:=h.setLoop (st':=.exhausted) (pend':=n) (jump:=m.pending) A hc f;rw [q] at u;simp at u;subst u;have N:=E.kill i (fun B e M=>hi);refine ⟨m.pending,_,run_endLoop q (by grind),⟨K,C,?_⟩,?_⟩;·simp_all
  cases n with
  |none=>
   cases j:m.pending with
   |none=>grind
   |some c=>rw [j] at f;exact f.elim
  |some y=>
   cases j:m.pending with
   |none=>rw [j] at f;cases y<;>exact f.elim
   |some c=>
    rw [j] at f;cases y with
    |norm=>exact f.elim
    |ret=>cases c<;>first|exact f.elim|grind
    |exit k=>cases c with
     |exit k'=>simp_all[PendOk]
     |_=>exact f.elim
 grind
theorem invoke_fn {args:Array Value}(hok:FnOk P g)(w:World):(invoke (.fn (.func g) vs) args).run P w=.ok (.enter g (args++vs)) w:=by
 have h:invoke (.fn (.func g) vs) args=callFunc g (args++vs):=by simp only [invoke]
 rw [h];exact hok _ w
theorem resolve_fn {f:Operand}(hv:a.eval f=.func (.func g) #[] vs)(w:World):(resolve a.eval (rangeCall f l) 0).run P w=.ok {target:=.fn (.func g) vs,args:=#[.func (.yield l) #[] #[]]} w:=by have h:a.eval (.const (.func (.yield l) #[] #[]))=.func (.yield l) #[] #[]:=rfl<;>simp_all[resolve,Deferred.ofValue]
theorem run_sound (hΓ:GamOk P (RCode P gl) Γ){fu:Nat}:∀(c:Code) {m:Em.C},trCode P gl A x.nt c=some m->∀{σ σ':St} {e:Ex} {K:Kn} {C:List CB} {a:Act} {w:World} {Q:Exit->Act->World->Prop},
  Rel P (RCode P gl) x K C σ a w->run Γ x.C0.length fu m σ=some (e,σ')->(∀K' C' a' w',Em.Rel P (RCode P gl) x K' C' σ' a' w'->Q (exitOf e) a' w')->c.wpIn (Fr x.rnd) 0 P Q a w:=by
 intro c;induction c with
 |skip=>intro m E σ σ' e K C a w Q h B F;simp [trCode] at E;subst E;simp [run] at B;obtain ⟨rfl,rfl⟩:=B;exact wpIn_skip (F K C a w h)
 |exit id=>intro m E σ σ' e K C a w Q h B F;simp [trCode] at E;subst E;simp [run] at B;obtain ⟨rfl,rfl⟩:=B;exact wpIn_exit (F K C a w h)
 |ret=>intro m E σ σ' e K C a w Q h B F;simp [trCode] at E;subst E;simp [run] at B;obtain ⟨rfl,rfl⟩:=B;exact wpIn_ret (F K C a w h)
 |region id ops J=>
  intro m E σ σ' e K C a w Q h B F;simp only [trCode] at E;split at E
  ·grind[run]
  rename_i l hl;have pn:∀ps,m=.reg (A.gh id) ps l (A.live id)->((J=true/\drawPairs ops l=some ps)\/J=false)->(Code.region id ops J).wpIn (Fr x.rnd) 0 P Q a w:=by
   intro ps pk hd;subst pk;simp only [run] at B;split at B
   ·grind
   rename_i σ1 hg;obtain ⟨K1,C1,L⟩:=ghosts_sound h hg;split at B
   ·grind
   rename_i σ2 po N;split at B
   ·rename_i hp;simp at B;obtain ⟨rfl,rfl⟩:=B;have pa:∀K' C' a' w',Em.Rel P (RCode P gl) x K' C' σ2 a' w'->Q .normal a' w':=fun K' C' a' w' H=>F K' C' a' w' (H.tms (H.tm.keep _));rcases hd with ⟨rfl,hd⟩|rfl;·exact region_draw hΓ L hl hd N hp pa
    exact region_text hΓ L hl N pa
   grind
  cases J with
  |true=>simp only [if_true] at E;obtain ⟨ps,W,rfl⟩:=map_some E<;>simp_all
  |false=>grind
 |seq c1 c2 ih1 ih2=>
  intro m E σ σ' e K C a w Q h B F;simp only [trCode] at E;split at E
  ·rename_i m1 m2 L h2;simp at E;subst E;simp only [run] at B;split at B;next σ1 N=>exact wpIn_seq (ih1 L h N fun K' C' a' w' H=>ih2 h2 H B F)
   rename_i pd;refine wpIn_seq (ih1 L h B fun K' C' a' w' H=>?_);have:=F K' C' a' w' H;cases e with
   |norm=>grind
   |exit k=>exact this
   |ret=>exact this
  grind
 |cond q c1 c2 ih1 ih2=>
  intro m E σ σ' e K C a w Q h B F;simp only [trCode] at E;split at E
  ·rename_i q' m1 m2 hq L h2;simp at E;subst E;simp only [run] at B;split at B
   ·rename_i t ht;have hv:=rep_v (ev_rep h.inv.glob h.tm hq ht);refine wpIn_cond_split hv (fun e=>?_) (fun e=>?_)
    ·grind
    grind
   grind
  grind
 |block id c ih=>
  intro m E σ σ' e K C a w Q h B F;simp only [trCode] at E;obtain ⟨m1,L,rfl⟩:=map_some E;simp only [run] at B;refine wpIn_block ?_;split at B
  ·rename_i j σ1 N;refine ih L h N fun K' C' a' w' H=>?_;show (if j=id then Q .normal a' w' else Q (.exit j) a' w');by_cases Y:j=id
   ·have:(j==id)=true:=by simpa using Y
    rw [this] at B;simp at B;obtain ⟨rfl,rfl⟩:=B;rw [if_pos Y];exact F K' C' a' w' H
   have:(j==id)=false:=by simpa using Y
   rw [this] at B;simp at B;obtain ⟨rfl,rfl⟩:=B;rw [if_neg Y];exact F K' C' a' w' H
  rename_i pd;refine ih L h B fun K' C' a' w' H=>?_;have:=F K' C' a' w' H;cases e with
  |norm=>exact this
  |exit k=>grind
  |ret=>exact this
 |loop c ih=>
  intro m E σ σ' e K C a w Q h B F;simp only [trCode] at E;obtain ⟨m1,L,rfl⟩:=map_some E;simp only [run] at B;refine wpIn_loop_rounds fu ?_;have pn:∀(n:Nat) {σ:St} {K:Kn} {C:List CB} {a:Act} {w:World},Rel P (RCode P gl) x K C σ a w->iter x.C0.length (run Γ x.C0.length fu m1) n σ=some (e,σ')->Code.roundsIn (Fr x.rnd) 0 P c Q n a w:=by
   intro n;induction n with
   |zero=>grind[iter]
   |succ n ihn=>
    intro σ K C a w h B;simp only [iter] at B;split at B
    ·grind
    rename_i σ1 hc;obtain ⟨K1,C1,h2⟩:=canon_sound h hc;rw [roundsIn_succ];split at B;next σ2 N=>exact ih L h2 N fun K' C' a' w' H=>ihn H B
    rename_i pd;refine ih L h2 B fun K' C' a' w' H=>?_;have:=F K' C' a' w' H;cases e with
    |norm=>grind
    |exit k=>exact this
    |ret=>exact this
  grind
 |rangeFunc f ps c1 c2 ih1 ih2=>
  intro m E σ σ' e K C a w Q h B F;simp only [trCode] at E;split at E
  ·rename_i f' am bm hf ha hb;split at E
   ·grind
   rename_i W;simp at E;obtain ⟨live,V⟩:∃live,m=.rf f' ps.toList live am bm:=⟨_,E.symm⟩;subst V;have pe:∀p,p∈ps.toList->p<x.nt:=by intro p hp;simp only [Bool.not_eq_true',Bool.not_eq_false] at W;have:=Array.all_eq_true_iff_forall_mem.1 W p (by grind);simpa using this
   simp only [run] at B;split at B
   ·rename_i g Z hg;split at B
    ·grind
    rename_i pp bx pr U;have rf:=ev_rep h.inv.glob h.tm hf hg;generalize hv:a.eval f=v at rf;cases rf with
    |fn N hrep=>
     rename_i vs;refine wpIn_rangeFunc fun fn _=>?_;obtain ⟨l,mk,w1,pi,L⟩:=enter_sound (live:=live) rfl h pe ha hb fn;have pb:(C++[CB.obj l])[σ.bx.length]?=some (.obj l):=by rw [<-h.inv.size];simp
     have S:ArgsRep K (C++[.obj l]) (.yl σ.bx.length::Z) (#[.func (.yield l) #[] #[]]++vs):=by
      have h0:ArgsRep K (C++[.obj l]) [.yl σ.bx.length] #[.func (.yield l) #[] #[]]:=⟨rfl,fun j y u e e'=>by
       cases j with
       |zero=>simp at e e';subst e;subst e';exact .yl pb
       |succ j=>grind⟩
      exact argsRep_append h0 ⟨N,fun j y u e e'=>(hrep j y u e e').mono (KLe.refl _) (CLe.append _ _)⟩
     obtain ⟨pl,M⟩:=callRef_fn hΓ L S U;have O:=invoke_fn (vs:=vs) (args:=#[.func (.yield l) #[] #[]]) pl w1;have pg:=resolve_fn (P:=P) (a:={a with defers:=mk++a.defers}) (l:=l) hv w1;generalize (#[.func (.yield l) #[] #[]]++vs:Array Value)=cargs at M O;refine ⟨l,mk,w1,_,w1,g,cargs,w1,pi,pg,?_,O,?_,?_⟩;·exact fun _ _=>trivial
     ·grind[Fr,Fence.wide]
     refine callsIn_fr (M.mono ?_)
     rintro e1 w' ⟨v,K',C',rfl,pj,pf,_⟩
     obtain ⟨ph,w4,pc,⟨K4,C4,h4⟩,Y⟩:=endRf_sound pf (pj _ _ pb) (by have:=c0_le h;have:=h.inv.size;omega) B;refine ⟨ph,w4,pc,?_⟩;rcases Y with ⟨rfl,rfl⟩|⟨rfl,rfl⟩|⟨k,rfl,rfl⟩;·exact F _ _ _ _ h4
     ·exact wpIn_ret (F _ _ _ _ h4)
     exact wpIn_exit (F _ _ _ _ h4)
   grind
  grind
 |scope b ih=>grind[trCode]
 |label l=>grind[trCode]
 |goto l=>grind[trCode]
 |refuse y=>grind[trCode]
end
section
variable {fn:Func}{f:FuncId}{inb outb:List Bx}
variable {P:Program} {R:CodeRel} {x:Ctx} {K:Kn} {C:List CB} {σ:St} {a:Act} {w:World}
variable {Γ:Gam} {gl:Nat->Option (List X)}
theorem pack_sound {y y':X}{v:Value}(h:Rel P R x K C σ a w)(hF:x.Fp=Owns x.C0 inb)(hlen:x.C0.length=inb.length)(hloops:∀(i:Nat) (B:Bx),inb[i]?=some B->B.isLoop=true->x.loops i=true)
  (hy:Rep K C y v) (e:pack inb.length y σ.bx=some (y',outb)):∃E,PostK P R x.K0 x.C0 inb x.w0 y' outb v w K E:=by
 unfold pack at e;dsimp only at e;split at e
 ·rename_i M;simp at M;obtain ⟨bx,m,q⟩:=map_some e;simp at q;obtain ⟨rfl,rfl⟩:=q;have J:=h.tms (tm:=[]) (fun n z hz=>by grind[lk]);obtain ⟨l,f,O,S⟩:=J.pickAll (bx:=bx) m (by grind) (fun i j=>by grind[refsL]);have Q:=c0_le f;have A:l=x.C0++l.drop x.C0.length:=by
   refine List.ext_getElem? fun i=>?_;by_cases j:i<x.C0.length;·rw [qar j,qad j];exact f.cin i _ (qad j)
   ·grind
  refine ⟨l.drop x.C0.length,?_⟩;refine ⟨by rw [<-A];exact f.inv,by grind[subN_iff],f.k0,fun b o u H=>?_,fun b o F=>?_,?_,fun i B L N=>?_⟩;·have:=f.knew b o u H;rw [hF] at this<;>grind
  ·rw [<-A] at F;have:=f.own b o F;rw [hF] at this<;>grind
  ·have:=f.frame<;>grind
  exact f.loops i (by grind) (hloops i B L N)
 grind
theorem resX_run (h:Rel P R x K C σ a w)(f:ResultVar->Sem Value)(h1:∀t,f (.tmp t)=pure (a.tmps.getD t undef))(h2:∀t ty,f (.cell t ty)=(do loadVar ty (<-asAddr (a.tmps.getD t undef)))):
  ∀(l:List ResultVar) {rs:List Rv} {xs:List X},trRes P l=some rs->resX σ rs=some xs->∃vs:List Value,(l.mapM f).run P w=.ok vs w/\vs.length=xs.length/\∀(j:Nat) (y:X) (v:Value),xs[j]?=some y->vs[j]?=some v->Rep K C y v
 |[],rs,xs,e1,e2=>by simp_all[trRes,resX]
 |.tmp t::r,rs,xs,e1,e2=>by
  simp only [trRes] at e1;obtain ⟨rs',hrs,rfl⟩:=map_some e1;simp only [resX] at e2;split at e2
  ·grind
  rename_i y hy;obtain ⟨xs',hxs,rfl⟩:=map_some e2;obtain ⟨vs,g1,g2,g3⟩:=resX_run h f h1 h2 r hrs hxs;obtain ⟨v,hv,hr⟩:=h.tm t y hy;have hd:a.tmps.getD t undef=v:=by simp [hv]
  refine ⟨v::vs,?_,by grind,fun j z u ez eu=>?_⟩;·simp_all
  grind
 |.cell t ty::r,rs,xs,e1,e2=>by
  simp only [trRes] at e1;split at e1
  ·rename_i n rs' hn hrs;simp at e1;subst e1;simp only [resX] at e2;split at e2
   ·grind
   rename_i y hy;obtain ⟨xs',hxs,rfl⟩:=map_some e2;obtain ⟨vs,g1,g2,g3⟩:=resX_run h f h1 h2 r hrs hxs;obtain ⟨p,hp,hl⟩:=qaG.1 hy;obtain ⟨pv,hpv,hr⟩:=h.tm t p hp;obtain ⟨b,o,v,rfl,hload,hrv⟩:=loadX_rep h.inv hn hr hl;have hd:a.tmps.getD t undef=.pointer (some ⟨b,o,none⟩):=by simp [hpv]
   refine ⟨v::vs,?_,by grind,fun j z u ez eu=>?_⟩;·simp_all[asAddr]
   grind
  grind
def resF (tmps:Array Value):ResultVar->Sem Value
 |.tmp t=>pure (tmps.getD t undef)
 |.cell b t=>do loadVar t (<-asAddr (tmps.getD b undef))
theorem results_eq (fn:Func)(tmps:Array Value):results fn tmps=(do let vs <-fn.results.mapM (resF tmps);pure (if h:vs.size=1 then vs[0] else .tuple vs)):=by
 unfold results;have:(fun v:ResultVar=>resF tmps v)=resF tmps:=rfl;rw [<-this]
 congr 2
theorem results_rep (h:Rel P R x K C σ a w){rs:List Rv}{xs:List X}(htr:trRes P fn.results.toList=some rs)(hx:resX σ rs=some xs):∃v,(results fn a.tmps).run P w=.ok v w/\Rep K C (packRes xs) v:=by
 obtain ⟨l,u,n,q⟩:=resX_run h (resF a.tmps) (fun _=>rfl) (fun _ _=>rfl) _ htr hx;have f:(results fn a.tmps).run P w=.ok (if h:l.toArray.size=1 then l.toArray[0] else .tuple l.toArray) w:=by rw [results_eq,Array.mapM_eq_mapM_toList];simp only [map_eq_pure_bind,Sem.run_bind];rw [u];simp [Result.andThen]
 refine ⟨_,f,?_⟩;by_cases m:xs.length=1;·obtain ⟨y,rfl⟩:=List.length_eq_one_iff.1 m;obtain ⟨v,rfl⟩:=List.length_eq_one_iff.1 (n.trans m);simp only [List.size_toArray,List.length_singleton,dif_pos,packRes];exact q 0 y v rfl rfl
 have B:¬l.toArray.size=1:=by simpa [n] using m
 rw [dif_neg B];have A:packRes xs=.tup xs:=by
  unfold packRes;split
  ·grind
  rfl
 rw [A];exact .tup (by grind) fun j y v e E=>q j y v e (by grind)
theorem leaves_sound {fn:Func}{tmps:Array Value}{Rp:Ending->World->Prop}:∀(rs:List Nat) (w:World),(∀r,r∈rs->w.heap[r]?=some (.deferred (some [])))->rs.Nodup->
  (∀w',FrameOk (fun b _=>b∈rs) w w'->∃v,(results fn tmps).run P w'=.ok v w'/\Rp (.returned v) w')->LeavesInM (Fr none) 0 P fn tmps Rp (rs.map mark) .returning w
 |[],w,_,_,h=>by obtain ⟨v,h1,h2⟩:=h w (.refl _ w);exact ⟨v,h1,h2⟩
 |r::rs,w,hm,hn,h=>by
  rw [List.nodup_cons] at hn;have hr:=hm r (by simp);refine ⟨by simp,.inl ⟨r,w.putObj r (.deferred none),rfl,run_takeDeferred hr,?_⟩⟩;refine leaves_sound rs _ (fun k hk=>?_) hn.2 (fun w' hf=>h w' ?_)
  ·grind[World.putObj_heap_other]
  have h1:FrameOk (fun b _=>b∈r::rs) w (w.putObj r (.deferred none)):=putObj_frame hr trivial trivial (fun _=>by simp);exact h1.trans hf (fun b o _ hb=>by grind)
theorem Rel.unmark (h:Rel P R x K C σ a w){rs:List Nat}(hm:∀r,r∈rs->w.heap[r]?=some (.deferred (some []))/\x.w0.heap.size<=r/\∀o,¬Owns C σ.bx r o){w':World}(hf:FrameOk (fun b _=>b∈rs) w w'):
  Rel P R x K C σ {a with defers:=[]} w':=by
 refine {h with inv:=h.inv.frame hf (fun b o v e f=>?_) (fun b o l f=>(hm b f).2.2 o l),tm:=h.tm,nt:=h.nt,frame:=h.frame.trans hf (fun b o j f=>?_),defs:=⟨⟨[],rfl,List.nodup_nil,fun r m=>by grind⟩,fun _=>rfl⟩};·have:=h.inv.known b o v e<;>grind[World.cell?]
 grind
theorem lk_zipTm:∀(xs:List X) (n k:Nat),lk (zipTm n xs) k=if n<=k then xs[k-n]? else none
 |[],n,k=>by grind[zipTm,lk]
 |z::r,n,k=>by
  simp only [zipTm,lk,lk_zipTm r (n+1) k]
  grind
def isLoopAt (inb:List Bx)(i:Nat):Bool:=match inb[i]? with|some B=>B.isLoop|none=>false
theorem isLoopAt_iff {i:Nat}{B:Bx}(h:inb[i]?=some B):isLoopAt inb i=B.isLoop:=by grind[isLoopAt]
theorem fnOk (hf:P.funcs[f]?=some fn)(hn:¬fn.name= "runtime.NumGoroutine")(hb:¬fn.body=none):FnOk P f:=by
 intro a w;simp [callFunc,program,Sem.run,hf,hn,hb]
theorem runF_sound (hΓ:GamOk P (RCode P gl) Γ){fd:Fun}{A:Ann}{fu:Nat}{args:List X}{res:X}(htr:trFun P gl A f=some fd)(e:runF Γ fu fd args inb=some (res,outb)):
  FnOk P f/\FSem P (RCode P gl) f args inb res outb:=by
 unfold trFun at htr;split at htr
 ·grind
 rename_i fn L;split at htr
 ·grind
 rename_i Z;split at htr
 ·rename_i m rs hm pc;split at htr
  ·rename_i V;simp at htr;subst htr;obtain ⟨c,hb,U⟩:=qaG.1 hm;refine ⟨fnOk L (by grind) (by grind),?_⟩;intro K C w a hI j;unfold runF at e;split at e
   ·rename_i H;simp at H;have pd:a.size<=fn.ntmps:=by rw [j.1,H];exact V
    let x:Ctx:={nt:=fn.ntmps,K0:=K,C0:=C,loops:=isLoopAt inb,w0:=w,Fp:=Owns C inb,rnd:=none}
    have Q:Rel P (RCode P gl) x K C ⟨zipTm 0 args,inb⟩ {tmps:=a++Array.replicate (fn.ntmps-a.size) undef,defers:=[]} w:=by
     refine ⟨hI,fun n y S=>?_,?_,KLe.refl _,fun b o v ev=>.inl ev,fun b o ho=>.inl ho,fun i c U=>U,.refl _ _,⟨⟨[],rfl,List.nodup_nil,fun r u=>by grind⟩,fun _=>rfl⟩,fun i hi hl=>?_,fun l hl=>by grind⟩
     ·rw [lk_zipTm] at S;simp at S;have hn:=(qak.1 S).1;have Y:n<a.size:=by rw [j.1];exact hn
      refine ⟨a[n],?_,j.2 n y _ S (qaC Y)⟩<;>grind
     ·grind
     ·grind[isLoopAt]
    have q:x.C0.length=inb.length:=hI.size;have J:∀(σ':St) (K':Kn) (C':List CB) (a':Act) (w':World),Em.Rel P (RCode P gl) x K' C' σ' a' w'->((resX σ' rs).bind fun xs=>pack inb.length (packRes xs) σ'.bx)=some (res,outb)->
      LeavesInM (Fr none) 0 P fn a'.tmps (Post P (RCode P gl) K C inb w res outb) a'.defers .returning w':=by
     intro σ' K' C' a' w' u he;obtain ⟨xs,pe,pb⟩:=qaG.1 he;obtain ⟨ms,W,pa,M⟩:=u.defs.marks;rw [W];refine leaves_sound ms w' (fun r u=>(M r u).1) pa fun pf hf=>?_;have N:=u.unmark M hf;obtain ⟨v,hv,O⟩:=results_rep N pc pe;obtain ⟨E,hE⟩:=pack_sound N rfl q (fun i B hB hl=>by grind[isLoopAt_iff]) O pb;exact ⟨v,hv,v,K',E,rfl,hE⟩
    refine (callsIn_wide (n:=0)).1 (callsIn_of_wp_marks (F:=Fr none) L hb trivial ?_);split at e;next σ' h=>rw [<-q] at h;exact run_sound (x:=x) hΓ c U Q h fun K' C' a' w' u=>J σ' K' C' a' w' u e
    next σ' h=>rw [<-q] at h;exact run_sound (x:=x) hΓ c U Q h fun K' C' a' w' u=>J σ' K' C' a' w' u e
    grind
   grind
  grind
 grind
end
section
variable {P:Program} {R:CodeRel} {x:Ctx} {K:Kn} {C:List CB} {σ:St} {a:Act} {w:World}
variable {Γ:Gam} {gl:Nat->Option (List X)}
theorem zipPs_tm:∀{ps:List Nat} {as:List X} {vs:List Value} {tm tm':List (Nat×X)} {tmps:Array Value},zipPs ps as tm=some tm'->vs.length=as.length->(∀(j:Nat) (y:X) (v:Value),as[j]?=some y->vs[j]?=some v->Rep K C y v)->
  (∀p,p∈ps->p<tmps.size)->TmOk K C tm tmps->ps.length=as.length/\TmOk K C tm' ((ps.zip vs).foldl (fun tmps q=>tmps.setIfInBounds q.1 q.2) tmps)
 |[],[],vs,tm,tm',tmps,e,hl,_,_,h=>by simp_all[zipPs]
 |p::ps,y::as,[],tm,tm',tmps,e,hl,_,_,_=>by grind
 |p::ps,y::as,v::vs,tm,tm',tmps,e,hl,hr,hp,h=>by
  simp only [zipPs] at e;have h1:TmOk K C ((p,y)::tm) (tmps.setIfInBounds p v):=by
   intro n z ez;simp only [lk] at ez;split at ez;next hn=>simp at hn;subst hn;simp at ez;subst ez;exact ⟨v,by grind,hr 0 y v rfl rfl⟩
   rename_i hn;obtain ⟨u,hu,hru⟩:=h n z ez<;>grind
  obtain ⟨g1,g2⟩:=zipPs_tm (vs:=vs) e (by simpa using hl) (fun j z u ez eu=>hr (j+1) z u (by simpa using ez) (by simpa using eu)) (fun q hq=>by simpa using hp q (by simp [hq])) h1<;>simp_all
 |[],_::_,_,_,_,_,e,_,_,_,_=>by grind[zipPs]
 |_::_,[],_,_,_,_,e,_,_,_,_=>by grind[zipPs]
theorem foldl_size:∀(l:List (Nat×Value)) (tmps:Array Value),(l.foldl (fun tmps q=>tmps.setIfInBounds q.1 q.2) tmps).size=tmps.size
 |[],_=>rfl
 |q::l,tmps=>by simp [foldl_size l]
theorem endRound_sound {l i:Nat}{bx:List Bx}{pend:Option Ex}{st:LoopState}(h:Rel P R x K C σ a w)(hc:C[i]?=some (.obj l))(jump:Option Code)(hj:PendOk pend jump)(hst:st=if jump.isNone then .ready else .done)
  (e:setLoop σ.bx i .busy st pend=some bx):∃w',(Instr.endRound l jump).run P w=.ok (.bool jump.isNone) w'/\Rel P R x K C ⟨σ.tm,bx⟩ a w':=by
 unfold setLoop at e;split at e
 ·rename_i s p tm y j m f;split at e;·simp at e;subst e;obtain ⟨u,n,_,_,q⟩:=h.setLoop (st':=st) (pend':=pend) (jump:=jump) f hc hj<;>grind[run_endRound]
  grind
 grind
theorem runY_sound (hΓ:GamOk P (RCode P gl) Γ){fu:Nat}{args:List X}{inb outb:List Bx}{res:X}(e:runY Γ fu args inb=some (res,outb)):YSem P (RCode P gl) args inb res outb:=by
 unfold runY at e;split at e
 ·rename_i i as;refine ⟨i,as,rfl,fun K C w f l r hI W n=>?_⟩;split at e
  ·rename_i tm ps am bm hB;obtain ⟨H,hl,O⟩:=hI.box i _ _ hB W;obtain ⟨A,pf,pb⟩:=O.hcode;split at e
   ·grind
   rename_i po hz;obtain ⟨pi,htm⟩:=zipPs_tm (vs:=f.toList) hz (by simpa using n.1) (fun j y v e1 e2=>n.2 j y v e1 (by grind)) O.hin O.htm;have pj:f.size=H.params.size:=by rw [n.1,<-pi,<-O.hps];simp
   have N:(H.params.zip f).foldl (fun tmps (t,a)=>tmps.setIfInBounds t a) H.tmps=(ps.zip f.toList).foldl (fun tmps q=>tmps.setIfInBounds q.1 q.2) H.tmps:=by rw [<-O.hps,<-Array.toList_zip,Array.foldl_toList]
   refine ⟨_,_,_,_,run_yield hl pj,?_⟩;rw [N];generalize pl:(ps.zip f.toList).foldl (fun tmps q=>tmps.setIfInBounds q.1 q.2) H.tmps=tmps at htm;have pk:tmps.size=H.tmps.size:=by rw [<-pl];exact foldl_size _ _
   let x:Ctx:={nt:=H.tmps.size,K0:=K,C0:=C,loops:=isLoopAt inb,w0:=w,Fp:=Owns C inb,rnd:=some l}
   have F:∀(i:Nat) (B:Bx),inb[i]?=some B->B.isLoop=true->x.loops i=true:=fun i B hB hl=>by grind[isLoopAt_iff]
   have V:Rel P (RCode P gl) x K C ⟨po,inb⟩ {tmps:=tmps,defers:=[]} w:=by
    refine ⟨hI,htm,pk,KLe.refl _,fun b o v ev=>.inl ev,fun b o O=>.inl O,fun i c hc=>hc,.refl _ _,⟨⟨[],rfl,List.nodup_nil,fun r hr=>by grind⟩,fun _=>rfl⟩,fun i W hl=>?_,fun l' pc=>?_⟩
    ·grind[isLoopAt]
    simp [x] at pc;subst pc;exact ⟨i,(qak.1 W).1,F i _ hB rfl,W⟩
   have m:x.C0.length=inb.length:=hI.size;refine roundIn_of_wpIn trivial ?_;have hF:(Fr r).inRound l=Fr x.rnd:=rfl;rw [hF];split at e
   ·rename_i σ1 J;rw [<-m] at J;split at e
    ·grind
    rename_i bx u;refine run_sound (x:=x) hΓ H.assign pf V J fun K1 C1 a1 w1 h1=>?_;have pa:=h1.cin i _ W;have Z:∃w2,(Instr.beginRound l).run P w1=.ok () w2/\Em.Rel P (RCode P gl) x K1 C1 ⟨σ1.tm,bx⟩ a1 w2:=by
     unfold beginL at u;split at u;next qa pz pp pr Y=>simp at u;subst u;obtain ⟨pn,pt,pw,pg,_⟩:=h1.setLoop (st':=.busy) (pend':=none) (jump:=none) Y pa trivial;obtain ⟨py,pu,px,_,Q⟩:=h1.setLoop (st':=.busy) (pend':=none) (jump:=pn.pending) Y pa pg<;>grind[run_beginRound]
     ·grind
    obtain ⟨w2,pe,Q⟩:=Z;refine ⟨w2,pe,?_⟩;have L:∀(σ3:St) (pend:Option Ex) (st:LoopState) (jump:Option Code),PendOk pend jump->(st=if jump.isNone then .ready else .done)->(setLoop σ3.bx i .busy st pend).bind (fun bx=>pack inb.length (.v (.bool jump.isNone)) bx)=some (res,outb)->
      ∀K3 C3 a3 w3,Em.Rel P (RCode P gl) x K3 C3 σ3 a3 w3->∃v w',(Instr.endRound l jump).run P w3=.ok v w'/\Post P (RCode P gl) K C inb w res outb (.returned v) w':=by
     intro σ3 pend st jump hj V he K3 C3 a3 w3 M;obtain ⟨pd,U,ph⟩:=qaG.1 he;obtain ⟨w4,S,h4⟩:=endRound_sound M (M.cin i _ W) jump hj V U;obtain ⟨E,hE⟩:=pack_sound (σ:=⟨σ3.tm,pd⟩) h4 rfl m F (y:=.v (.bool jump.isNone)) (.v rfl) ph;exact ⟨_,w4,S,_,K3,E,rfl,hE⟩
    split at e
    ·grind
    next σ3 h=>rw [<-m] at h;exact run_sound (x:=x) hΓ H.body pb Q h fun K3 C3 a3 w3 M=>L σ3 none .ready none trivial rfl e K3 C3 a3 w3 M
    rename_i ex σ3 pv h;rw [<-m] at h;refine run_sound (x:=x) hΓ H.body pb Q h fun K3 C3 a3 w3 M=>?_;cases ex with
    |norm=>grind
    |ret=>exact L σ3 (some .ret) .done (some .ret) trivial rfl e K3 C3 a3 w3 M
    |exit k=>exact L σ3 (some (.exit k)) .done (some (.exit k)) rfl rfl e K3 C3 a3 w3 M
   grind
  grind
 grind
def TabOk (P:Program)(gl:Nat->Option (List X))(T:FuncId->Option Fun):Prop:=∀f fd,T f=some fd->∃A,trFun P gl A f=some fd
def ExtOk (P:Program)(gl:Nat->Option (List X))(ext:Ext):Prop:=∀f g,ext f=some g->∀args inb res outb,g args inb=some (res,outb)->FnOk P f/\FSem P (RCode P gl) f args inb res outb
theorem callF_ok {T:FuncId->Option Fun}{ext:Ext}(hT:TabOk P gl T)(hE:ExtOk P gl ext):∀n,GamOk P (RCode P gl) (callF T ext n)
 |0=>⟨fun f args inb res outb e=>by grind[callF],fun args inb res outb e=>by grind[callF]⟩
 |n+1=>by
  have ih:=callF_ok hT hE n;refine ⟨fun f args inb res outb e=>?_,fun args inb res outb e=>?_⟩
  ·simp only [callF] at e;split at e;next g hg=>exact hE f g hg args inb res outb e
   split at e;next fd hfd=>obtain ⟨A,hA⟩:=hT f fd hfd<;>grind[runF_sound]
   grind
  grind[callF,runY_sound]
end
end Go.Em
