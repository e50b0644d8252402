/-.-/
import Derived.RangeFuncRecord
import Derived.ControlIn
import Derived.Test.YtkeefpkcepodeaaGreatDoorEmU4
set_option linter.all false
namespace Go.Em
section
variable {B:Bx}{c:CB}{K':Kn}{bx:List Bx}{b i o sz:Nat}{σ':St}{v:Value}{z:X}{good:X->Prop}{f:X->X}
variable {P:Program} {R:aP} {x:Ctx} {K:Kn} {C:List CB} {σ:St} {a:Act} {w:World}
def Bx.WZ (f:X->X):Bx->Bx
 |.var cs=>.var (cs.map f)
 |.loop st p tm ps a b=>.loop st p (tm.map fun q=>(q.1,f q.2)) ps a b
 |.row s l=>.row s l
 |.map es=>.map es
 |.dead=>.dead
def Bx.vals:Bx->List X
 |.var cs=>cs
 |.loop _ _ tm _ _ _=>tm.map (·.2)
 |_=>[]
theorem F7 (i sz:Nat)(es:qaV):∀cs:List X,UK i sz es cs=cs.map (X.frz i sz es)
 |[]=>rfl
 |z::r=>by simp [UK,F7 i sz es r]
theorem Gj (i:Nat)(vs:List X):∀cs:List X,UM i vs cs=cs.map (X.fix i vs)
 |[]=>rfl
 |z::r=>by simp [UM,Gj i vs r]
theorem zle (i sz:Nat)(es:qaV)(B:Bx):B.frz i sz es=B.WZ (X.frz i sz es):=by
 cases B<;>simp [Bx.frz,Bx.WZ,F7,zmQ]
theorem zli (i:Nat)(vs:List X)(B:Bx):B.fix i vs=B.WZ (X.fix i vs):=by
 cases B<;>simp [Bx.fix,Bx.WZ,Gj,zoO]
theorem zav (f:X->X)(B:Bx):(B.WZ f).live=B.live:=by cases B<;>rfl
theorem QF (f:X->X)(B:Bx):(B.WZ f).gG=B.gG:=by cases B<;>rfl
theorem zg2 (f:X->X):∀(tm:List (Nat×X)) (n:Nat),lk (tm.map fun q=>(q.1,f q.2)) n=(lk tm n).map f
 |[],n=>rfl
 |(k,y)::r,n=>by have ih:=zg2 f r n<;>grind[lk]
noncomputable def Kn.shut (K:Kn)(c:CB)(w:World):Kn:=fun b o=>by classical exact if c.owns b o then w.cell? ⟨b,o,none⟩ else K b o
theorem J4 (h:c.owns b o):K.shut c w b o=w.cell? ⟨b,o,none⟩:=by grind[Kn.shut]
theorem uI (h:¬c.owns b o):K.shut c w b o=K b o:=by grind[Kn.shut]
theorem P5 (h:Inv P R K C bx w)(hB:bx[i]?=some B)(hl:B.live=true)(hc:C[i]?=some c):KLe K (K.shut c w):=by
 intro b o v e;have:¬c.owns b o:=fun a=>by rw [h.apart b o ⟨i,c,B,hc,hB,hl,a⟩] at e<;>grind
 grind[uI]
theorem CQ.turn {tm:List (Nat×X)}{tmps:Array Value}(h:CQ K C tm tmps)(hg:∀z,z∈tm.map (·.2)->good z)(hrep:∀z v,good z->Rep K C z v->Rep K' C (f z) v):CQ K' C (tm.map fun q=>(q.1,f q.2)) tmps:=by
 intro n y e;rw [zg2] at e;obtain ⟨z,hz,rfl⟩:=qac.1 e;obtain ⟨v,l,j⟩:=h n z hz;obtain ⟨p,a,rfl⟩:=zg1 hz
 grind
theorem BoxOk.turn (h:BoxOk P R K C w B c)(hK:KLe K K')(hcell:∀z,(f z).eX=z.eX)(hg:∀z,z∈B.vals->good z)(hrep:∀z v,good z->Rep K C z v->Rep K' C (f z) v):
  BoxOk P R K' C w (B.WZ f) c:=by
 cases B with
 |dead=>trivial
 |var cs=>
  cases c with
  |«at»=>
   obtain ⟨E,J,q,el,F,y⟩:=h;refine ⟨E,by grind,q,el,F,by simpa using y.len,fun z hz=>?_,fun j z v e A=>?_⟩;·obtain ⟨u,n,rfl⟩:=qah.1 hz;rw [hcell];exact y.cell u n
   rw [qav] at e;obtain ⟨u,n,rfl⟩:=qac.1 e;exact hrep u v (hg u (qan n)) (y.rep j u v n A)
  |ghost=>exact h.elim
  |obj=>exact h.elim
 |row sz es=>exact h.mono hK (CLe.refl _) (.refl nowhere w) (fun _ _ _=>id)
 |map es=>exact h.mono hK (CLe.refl _) (.refl nowhere w) (fun _ _ _=>id)
 |loop st p tm ps a b=>
  cases c with
  |obj=>obtain ⟨l,H,m⟩:=h;exact ⟨l,H,m.hst,m.ze0,m.htm.turn hg hrep,m.hps,m.hin,m.hcode⟩
  |«at»=>exact h.elim
  |ghost=>exact h.elim
theorem Rel.turn (h:Rel P R x K C σ a w)(hB:σ.bx[i]?=some B)(hl:B.live=true)(hL:B.gG=false)(hc:C[i]?=some c)(hcell:∀z,(f z).eX=z.eX)
  (hrep:∀z v,good z->Rep K C z v->Rep (K.shut c w) C (f z) v) (hgt:∀z,z∈σ.tm.map (·.2)->good z) (hgb:∀A,A∈σ.bx->∀z,z∈A.vals->good z):
  Rel P R x (K.shut c w) C ⟨σ.tm.map fun q=>(q.1,f q.2),(σ.bx.map (Bx.WZ f)).set i .dead⟩ a w:=by
 have Q:=P5 h.inv hB hl hc;have m:∀(j:Nat) (A:Bx),((σ.bx.map (Bx.WZ f)).set i .dead)[j]?=some A->A.live=true->j≠i/\∃A0,σ.bx[j]?=some A0/\A=A0.WZ f/\A0.live=true:=by
  intro j A e l;rw [List.getElem?_set] at e;split at e
  ·grind[Bx.live]
  rename_i S;rw [qav] at e;obtain ⟨A0,u,rfl⟩:=qac.1 e;exact ⟨fun e=>S e.symm,A0,u,rfl,by grind[zav]⟩
 have n:∀b o,kT C ((σ.bx.map (Bx.WZ f)).set i .dead) b o->kT C σ.bx b o/\¬c.owns b o:=by
  rintro b o ⟨j,d,A,J,H,l,y⟩
  obtain ⟨F,A0,u,rfl,E⟩:=m j A H l;exact ⟨⟨j,d,A0,J,u,E,y⟩,fun W=>h.inv.Ic j i d c A0 B b o F J hc u hB E hl y W⟩
 have Oo:∀b o,c.owns b o->kT C σ.bx b o:=fun b o y=>⟨i,c,B,hc,hB,hl,y⟩;refine {h with inv:=⟨h.inv.glob.mono Q,?_,by simpa using h.inv.size,?_,?_,?_⟩,tm:=h.tm.turn hgt hrep,k0:=h.k0.trans Q,knew:=?_,own:=fun b o L=>h.own b o (n b o L).1,defs:=?_,loops:=?_}
 ·intro b o v e;by_cases y:c.owns b o
  ·grind[J4]
  rw [uI y] at e;exact h.inv.known b o v e
 ·intro b o L;rw [uI (n b o L).2];exact h.inv.apart b o (n b o L).1
 ·intro j k d e A Z b o F J he H O l N y;obtain ⟨_,A0,u,rfl,E⟩:=m j A H l;obtain ⟨_,A1,M,rfl,h4⟩:=m k Z O N;exact h.inv.Ic j k d e A0 A1 b o F J he u M E h4 y
 ·intro j A d H J;by_cases l:A.live=true;·obtain ⟨_,A0,u,rfl,E⟩:=m j A H l;exact (h.inv.box j A0 d u J).turn Q hcell (hgb A0 (qan u)) hrep
  cases A<;>first|trivial|simp [Bx.live] at l
 ·intro b o v e;by_cases y:c.owns b o;·exact .inr (h.own b o (Oo b o y))
  rw [uI y] at e;exact h.knew b o v e
 ·obtain ⟨rs,u,E,M⟩:=h.defs.marks;exact ⟨⟨rs,u,E,fun r V=>⟨(M r V).1,(M r V).2.1,fun o L=>(M r V).2.2 o (n r o L).1⟩⟩,h.defs.round⟩
 intro j hj U;obtain ⟨A,H,Y⟩:=h.loops j hj U<;>grind[QF]
theorem Vd (i sz:Nat)(es:qaV)(z:X):(z.frz i sz es).eX=z.eX:=by
 cases z with
 |bs j off len=>simp only [X.frz];split<;>rfl
 |_=>rfl
theorem Ve (i:Nat)(vs:List X)(z:X):(z.fix i vs).eX=z.eX:=by
 cases z with
 |ptr j e o=>simp only [X.fix];split<;>rfl
 |_=>rfl
theorem iM {i n:Nat}:∀{cs:List X},iG i n cs=true↔∀z,z∈cs->z.within i n=true
 |[]=>by simp [iG]
 |z::r=>by simp [iG,iM (cs:=r)]
theorem Rep.frz (hI:Inv P R K C bx w){es:qaV}(hb:bx[i]?=some (.row sz es))(hc:C[i]?=some c)(h:Rep K C z v):z.within i es.length=true->Rep (K.shut c w) C (z.frz i sz es) v:=by
 have y:=P5 hI hb rfl hc;induction h with
 |v h=>exact fun _=>.v h
 |iJ=>exact fun _=>.iJ
 |sl vals hlen ht hcap hcell hk hr ih=>exact fun _=>.sl vals hlen ht hcap hcell (fun i j z e=>y _ _ _ (hk i j z e)) (fun i j z e=>(hr i j z e).mono y (CLe.refl _))
 |bs hc' hcap hlen=>
  rename_i C j l len b f E m cap;intro n;simp only [X.frz];split
  ·rename_i A;have:j=i:=by simpa using A
   subst this;simp [X.within] at n;rw [hc] at hc';simp at hc';subst hc';obtain ⟨H,el,J,Q,S,L,M⟩:=(hI.box j _ _ hb hc).flat;subst J;have B:((es.drop l).take len).length=len:=by simp;omega
   have:=(((M.drop l).take len).mono y).rep (K:=K.shut (.at b f E m) w) (C:=C) (t:=false) (b:=b) (o:=f+l*m) (cap:=cap) (fun k u a=>?_) (by simp) (by omega)
   ·grind
   rw [qau] at a;split at a
   ·rename_i N;rw [qat,qau] at a;split at a
    ·rename_i O;rw [qat,aY] at a;have F:(CB.at b f E m).owns b (f+l*m+k):=⟨rfl,by omega,by omega⟩
     grind[J4,World.cell?]
    grind
   grind
  exact .bs hc' hcap hlen
 |mM hc'=>
  intro n;simp only [X.frz];split;·simp;exact .iJ
  exact .mM hc'
 |ptr hc'=>exact fun _=>.ptr hc'
 |dp vals hcell hk hr ih=>exact fun _=>.dp vals hcell (fun j z e=>y _ _ _ (hk j z e)) (fun j z e=>(hr j z e).mono y (CLe.refl _))
 |fn hs hr ih=>intro n;simp only [X.frz,F7];refine .fn (by grind) (fun j z v e q=>?_);rw [qav] at e;obtain ⟨u,a,rfl⟩:=qac.1 e;exact ih j u v a q hI hc (iM.1 n u (qan a))
 |agg hs hcell hr ih=>
  intro n;simp only [X.frz,F7];refine .agg (by grind) (fun z hz=>?_) (fun j z v e q=>?_);·obtain ⟨u,a,rfl⟩:=qah.1 hz<;>simp_all[Vd]
  rw [qav] at e;obtain ⟨u,a,rfl⟩:=qac.1 e;exact ih j u v a q hI hc (iM.1 n u (qan a))
 |tup hs hr ih=>intro n;simp only [X.frz,F7];refine .tup (by grind) (fun j z v e q=>?_);rw [qav] at e;obtain ⟨u,a,rfl⟩:=qac.1 e;exact ih j u v a q hI hc (iM.1 n u (qan a))
 |yl hc'=>exact fun _=>.yl hc'
 |mp hc'=>exact fun _=>.mp hc'
 |ifc=>exact fun _=>.ifc
theorem Rep.fix (hI:Inv P R K C bx w){vs:List X}(hb:bx[i]?=some (.var vs))(hc:C[i]?=some c)(hn:bT vs=[])(h:Rep K C z v):Rep (K.shut c w) C (z.fix i vs) v:=by
 have n:=P5 hI hb rfl hc;induction h with
 |v h=>exact .v h
 |iJ=>exact .iJ
 |sl vals hlen ht hcap hcell hk a ih=>exact .sl vals hlen ht hcap hcell (fun i j z e=>n _ _ _ (hk i j z e)) (fun i j z e=>(a i j z e).mono n (CLe.refl _))
 |bs hc' hcap hlen=>exact .bs hc' hcap hlen
 |mM hc'=>exact .mM hc'
 |ptr hc'=>
  rename_i C j e o b H Q M;simp only [X.fix];split
  ·rename_i A;simp at A;obtain ⟨rfl,rfl⟩:=A;rw [hc] at hc';simp at hc';subst hc';obtain ⟨rfl,V,f,el,N,a⟩:=hI.box j _ _ hb hc;have m:∀(k:Nat) (y:X),(vs.drop o)[k]?=some y->∃u,f[o+k]?=some u/\o+k<vs.length/\y∈vs/\Rep K C y u:=by intro k y e;rw [qat] at e;obtain ⟨u,B,l⟩:=a.get e;exact ⟨u,by grind,(qak.1 e).1,qan e,l⟩
   rw [show 0+0*M+o=o by omega];refine .dp (fun k=>f.getD (o+k) undef) (fun k y e=>?_) (fun k y e=>?_) (fun k y e=>?_);·obtain ⟨u,_,_,F,_⟩:=m k y e;exact a.cell y F
   ·obtain ⟨u,B,E,_,_⟩:=m k y e;have L:(CB.at b 0 Q M).owns b (o+k):=⟨rfl,by omega,by omega⟩<;>simp_all[J4,World.cell?]
   obtain ⟨u,B,E,F,l⟩:=m k y e;have O:f.getD (o+k) undef=u:=by simp [B]
   rw [O];have U:y.refs=[]:=List.eq_nil_iff_forall_not_mem.2 fun q S=>by have:q∈bT vs:=eH.2 ⟨y,F,S⟩<;>grind
   exact (l.oZ U).mono n (CLe.refl _)
  exact .ptr hc'
 |dp vals hcell hk a ih=>exact .dp vals hcell (fun j z e=>n _ _ _ (hk j z e)) (fun j z e=>(a j z e).mono n (CLe.refl _))
 |fn hs a ih=>
  simp only [X.fix,Gj];refine .fn (by grind) (fun j z v e J=>?_)
  grind
 |agg hs hcell a ih=>
  simp only [X.fix,Gj];refine .agg (by grind) (fun z hz=>?_) (fun j z v e J=>?_);·obtain ⟨u,B,rfl⟩:=qah.1 hz<;>simp_all[Ve]
  grind
 |tup hs a ih=>
  simp only [X.fix,Gj];refine .tup (by grind) (fun j z v e J=>?_)
  grind
 |yl hc'=>exact .yl hc'
 |mp hc'=>exact .mp hc'
 |ifc=>exact .ifc
def zhm (P:Program)(R:aP)(x:Ctx)(σ:St)(a:Act)(w:World):Prop:=∃K C,Rel P R x K C σ a w
theorem Cm (h:Rel P R x K C σ a w)(e:freeze i σ=some σ'):zhm P R x σ' a w:=by
 unfold freeze at e;split at e
 ·rename_i m j n;split at e
  ·rename_i q;simp at e;subst e;obtain ⟨c,u,_⟩:=h.inv.get n;simp [TP] at q;have:=h.turn (f:=X.frz i m j) (good:=fun z=>z.within i j.length=true) n rfl rfl u (Vd i m j) (fun z v E F=>F.frz h.inv n u E) (iM.1 q.1) (fun A B z hz=>by
    have l:=q.2 A B;cases A with
    |var cs=>exact iM.1 l z hz
    |loop st p tm ps a b=>exact iM.1 l z hz
    |row=>grind[Bx.vals]
    |map=>grind[Bx.vals]
    |dead=>grind[Bx.vals])
   have y:Bx.frz i m j=Bx.WZ (X.frz i m j):=funext (zle i m j);rw [y];exact ⟨_,_,this⟩
  grind
 grind
theorem KY (h:Rel P R x K C σ a w)(e:Bd i σ=some σ'):zhm P R x σ' a w:=by
 unfold Bd at e;split at e
 ·rename_i j l;split at e;next u=>simp at e;subst e;obtain ⟨c,m,_⟩:=h.inv.get l;have:=h.turn (f:=X.fix i j) (good:=fun _=>True) l rfl rfl m (Ve i j) (fun z v _ q=>q.fix h.inv l m (List.isEmpty_iff.1 u)) (fun _ _=>trivial) (fun _ _ _ _=>trivial);have n:Bx.fix i j=Bx.WZ (X.fix i j):=funext (zli i j);rw [n];exact ⟨_,_,this⟩
  simp at e;subst e;exact ⟨_,_,h⟩
 grind
theorem qG:∀{l:List Nat} {σ σ':St} {K:Kn} {C:List CB},Rel P R x K C σ a w->freezes l σ=some σ'->zhm P R x σ' a w
 |[],σ,σ',K,C,h,e=>by simp [freezes] at e;subst e;exact ⟨_,_,h⟩
 |i::r,σ,σ',K,C,h,e=>by
  simp only [freezes] at e;split at e;·obtain ⟨σ1,h1,h2⟩:=qaz.1 e;obtain ⟨K',C',h3⟩:=Cm h h1;exact qG h3 h2
  exact qG h e
theorem Rel.zrf (h:Rel P R x K C σ a w)(hB:BoxOk P R K (C++[c]) w B c)(hc:∀b o,¬c.owns b o):Rel P R x K (C++[c]) ⟨σ.tm,σ.bx++[B]⟩ a w:=by
 refine {h with inv:=h.inv.push hB (fun b o j=>absurd j (hc b o)) (fun b o j=>absurd j (hc b o)),tm:=h.tm.mono (KLe.refl _) (CLe.append _ _),own:=?_,cin:=?_,defs:=?_,loops:=?_}
 ·intro b o f;rcases lS h.inv.size f with f|f;·exact h.own b o f
  grind
 ·intro i d e;exact CLe.append _ _ _ _ (h.cin i d e)
 ·obtain ⟨F,n,q,l⟩:=h.defs.marks;refine ⟨⟨F,n,q,fun r m=>⟨(l r m).1,(l r m).2.1,fun k f=>?_⟩⟩,h.defs.round⟩;rcases lS h.inv.size f with f|f<;>grind
 intro i y A;obtain ⟨H,u,E⟩:=h.loops i y A<;>grind
theorem NI {t:Bool}(h:Rep K C (.sl t sz []) v)(ht:t=true):∃ob,v=.slice ob 0 0:=by generalize hz:X.sl t sz []=z at h;cases h<;>simp_all
theorem Rz {g:Gh}(h:Rel P R x K C σ a w)(e:ghost σ g=some σ'):zhm P R x σ' a w:=by
 have same:σ=σ'->zhm P R x σ' a w:=fun e=>⟨K,C,e▸h⟩;cases g with
 |thaw s o=>
  have N:=fun l=>h.zrf (B:=.row l []) (c:=.ghost) rfl (fun _ _ hw=>hw);have A:(C++[CB.ghost])[σ.bx.length]?=some .ghost:=by rw [<-h.inv.size];simp
  simp only [ghost] at e;split at e
  ·split at e
   ·rename_i l U;simp at e;subst e;obtain ⟨v,Z,q⟩:=h.tm s _ U;obtain ⟨ob,rfl⟩:=NI q rfl;refine ⟨K,C++[.ghost],(N l).tms fun n y u=>?_⟩;simp only [lk] at u;split at u;next S=>simp at S;subst S;simp at u;subst u;exact ⟨_,Z,.mM A⟩
    exact (N l).tm n y u
   grind
  rename_i o;split at e
  ·rename_i i o' U;split at e
   ·rename_i Q F;split at e
    ·rename_i l M;simp at e;subst e;obtain ⟨c,W,f⟩:=h.inv.get F;have L:=CLe.append C [CB.ghost] i c W;have H:(σ.bx++[Bx.row l []])[i]?=some (.var Q):=by rw [qap (qak.1 F).1];exact F
     have O:BoxOk P R K (C++[.ghost]) w (.var (Q.set (o'+o) (.bs σ.bx.length 0 0))) c:=by
      cases c with
      |«at»=>
       obtain ⟨V,h2,E,el,J,q⟩:=f;refine ⟨V,by grind,E,el,J,by simpa using q.len,fun z hz=>?_,fun j z v m ev=>?_⟩
       ·rcases List.mem_or_eq_of_mem_set hz with hz|rfl;·exact q.cell z hz
        rfl
       rw [List.getElem?_set] at m;split at m
       ·rename_i Y;split at m;·simp at m;subst m;subst Y;obtain ⟨ob,rfl⟩:=NI (q.rep _ _ _ M ev) rfl;exact .mM A
        grind
       exact (q.rep j z v m ev).mono (KLe.refl _) (CLe.append _ _)
      |ghost=>exact f.elim
      |obj=>exact f.elim
     have:=(N l).BN H rfl L (.refl _ w) O (fun e=>by cases e);refine ⟨K,C++[.ghost],?_⟩<;>grind
    grind
   grind
  grind
 |frz s o=>simp only [ghost] at e;split at e<;>grind[Cm]
 |zcK s=>grind[ghost,qG]
 |F6 s=>grind[ghost,KY]
theorem Cj:∀{l:List Gh} {σ σ':St} {K:Kn} {C:List CB},Rel P R x K C σ a w->ghosts l σ=some σ'->zhm P R x σ' a w
 |[],σ,σ',K,C,h,e=>by simp [ghosts] at e;subst e;exact ⟨_,_,h⟩
 |g::r,σ,σ',K,C,h,e=>by
  simp only [ghosts] at e;split at e
  ·grind
  rename_i σ1 h1;obtain ⟨K',C',h3⟩:=Rz h h1;exact Cj h3 e
end
section
variable {A:Ann}{vs:Array Value}{g:FuncId}{i l:Nat}{σ':St}
variable {P:Program} {R:aP} {x:Ctx} {K:Kn} {C:List CB} {σ:St} {a:Act} {w:World}
variable {Γ:Gam} {gl:Nat->Option (List X)}
theorem Rel.ZY (h:Rel P R x K C σ a w){sel:List Nat}{bx:List Bx}(e:Hu σ.bx sel=some bx)(ht:sel.take x.C0.length=List.range x.C0.length)(htm:∀i,i∈bT (σ.tm.map (·.2))->i∈sel):
  ∃C1,Rel P R x K C1 ⟨zgO (xK · sel) σ.tm,bx⟩ a w/\C1.length=bx.length/\∀(y:X) (v:Value),(∀i,i∈y.refs->i∈sel)->Rep K C y v->Rep K C1 (y.ren (xK · sel)) v:=by
 obtain ⟨C1,W,pa,H,J,M,pb,N,m⟩:=h.inv.pick e;have n:∀(b o:Nat),kT C1 bx b o->kT C σ.bx b o:=by
  rintro b o ⟨j,c,B',q,E,F,V⟩
  obtain ⟨i,O,Q⟩:=N j c q;obtain ⟨B,S,U⟩:=J j i O;rw [U] at E;cases E;exact ⟨i,c,B,Q,S,by grind[nO],V⟩
 have f:∀i,i<x.C0.length->sel[i]?=some i:=by
  intro i l;have q:(sel.take x.C0.length)[i]?=some i:=by rw [ht];simp [l]
  rw [qau,if_pos l] at q;exact q
 refine ⟨C1,{h with inv:=W,tm:=h.tm.ren fun i l c u=>m i (htm i l) c u,own:=fun b o L=>h.own b o (n b o L),cin:=?_,defs:=?_,loops:=?_},by omega,fun y v hy A=>A.ren fun i l c u=>m i (hy i l) c u⟩;·intro i c u;exact H i i c (f i (qak.1 u).1) (h.cin i c u)
 ·obtain ⟨rs,q,E,F⟩:=h.defs.marks;exact ⟨⟨rs,q,E,fun r A=>⟨(F r A).1,(F r A).2.1,fun o L=>(F r A).2.2 o (n r o L)⟩⟩,h.defs.round⟩
 intro i l Y;obtain ⟨B,hB,Z⟩:=h.loops i l Y<;>grind[AV]
theorem SG (h:Rel P R x K C σ a w)(e:canon x.C0.length σ=some σ'):zhm P R x σ' a w:=by
 unfold canon at e;dsimp only at e;split at e;next j=>simp at j;obtain ⟨n,f,rfl⟩:=map_some e;obtain ⟨l,m,_,_⟩:=h.ZY f j.2 (xZ.1 j.1);exact ⟨K,l,m⟩
 grind
theorem Rel.defers (h:Rel P R x K C σ a w)(hr:x.rnd=none):Rel P R x K C σ {a with defers:=mark w.heap.size::a.defers} (w.alloc (.deferred (some []))):=by
 have j:=h.still (aK.alloc nowhere w (.deferred (some [])));refine {j with tm:=j.tm,nt:=j.nt,defs:=⟨?_,fun e=>by grind⟩};obtain ⟨A,E,n,l⟩:=h.defs.marks;obtain ⟨B,m,q,u⟩:=j.defs.marks;refine ⟨w.heap.size::A,by grind,List.nodup_cons.2 ⟨fun f=>?_,n⟩,fun r f=>?_⟩
 ·grind
 rcases qal.1 f with rfl|f;·refine ⟨World.alloc_heap_new w _,h.frame.size,fun o y=>?_⟩;have:=h.inv.sU y;omega
 refine ⟨(aK.alloc nowhere w (.deferred (some []))).obj (l r f).1 trivial (o₀:=0) id,(l r f).2.1,(l r f).2.2⟩
def ji (P:Program)(gl:Nat->Option (List X)):aP:=⟨fun nt assign body a b=>∃A,fC P gl A nt assign=some a/\fC P gl A nt body=some b,gl⟩
def zoU:Ex->Exit
 |.norm=>.normal
 |.exit i=>.exit i
 |.ret=>.ret
theorem RD (h:Rel P R x K C σ a w){lr:Nat}(hr:x.rnd=some lr):∃lp:Loop,w.heap[lr]?=some (.loop lp):=by
 obtain ⟨i,l,m,j⟩:=h.rnd lr hr;obtain ⟨B,f,n⟩:=h.loops i l m;have:=h.inv.box i B _ f (h.cin i _ j);cases B with
 |loop st p tm ps am bm=>obtain ⟨lp,q,_⟩:=this<;>grind
 |_=>grind[Bx.gG]
theorem RY {ps:Array Tmp}{assign body:Code}{am bm:Em.C}{live:List Nat}{nt:Nat}(hx:x.nt=nt)(h:Rel P (ji P gl) x K C σ a w)(hps:∀p,p∈ps.toList->p<nt)(ha:fC P gl A nt assign=some am)(hb:fC P gl A nt body=some bm)(fn:FuncId):
  ∃(l:Nat) (mk:List Deferred) (w1:World),(Instr.enterLoop fn a.tmps ps assign body x.rnd).run P w=.ok (l,mk) w1/\
   Rel P (ji P gl) x K (C++[.obj l]) ⟨σ.tm,σ.bx++[.loop .ready none (keep live σ.tm) ps.toList am bm]⟩ {a with defers:=mk++a.defers} w1:=by
 have f:∀(mk:List Deferred) (w0:World) (L:Loop),Rel P (ji P gl) x K C σ {a with defers:=mk++a.defers} w0->L.state=.ready->L.pending=none->L.tmps=a.tmps->L.params=ps->L.assign=assign->L.body=body->
   Rel P (ji P gl) x K (C++[.obj w0.heap.size]) ⟨σ.tm,σ.bx++[.loop .ready none (keep live σ.tm) ps.toList am bm]⟩ {a with defers:=mk++a.defers} (w0.alloc (.loop L)):=by
  intro mk w0 L E n q j u y B;refine E.push _ ⟨L,World.alloc_heap_new w0 _,n,by rw [q];trivial,?_,by rw [u],fun p M=>?_,⟨A,?_,?_⟩⟩ (fun b k H=>H);·rw [j];exact (h.tm.keep live).mono (KLe.refl _) (CLe.append _ _)
  ·rw [j,h.nt,hx]<;>grind
  ·rw [j,h.nt,hx,y]<;>grind
  rw [j,h.nt,hx,B]<;>grind
 cases m:x.rnd with
 |none=>refine ⟨w.heap.size+1,[mark w.heap.size],_,run_enterLoop_outer _ _ _ _ _,?_⟩;have:=f [mark w.heap.size] _ {state:=.ready,pending:=none,fn,tmps:=a.tmps,params:=ps,assign,body,defers:=w.heap.size} (h.defers m) rfl rfl rfl rfl rfl rfl<;>simp_all
 |some lr=>obtain ⟨J,F⟩:=RD h m;refine ⟨w.heap.size,[],w.alloc (.loop {state:=.ready,pending:=none,fn,tmps:=a.tmps,params:=ps,assign,body,defers:=J.defers}),?_,f [] w _ h rfl rfl rfl rfl rfl rfl⟩<;>simp_all[Instr.enterLoop,run_getLoop]
theorem BP {S:Nat->Nat->Prop}{g:Nat}{o o':Obj}(hg:w.heap[g]?=some o)(ho:xg (some o))(ho':xg (some o'))(hs:∀i,S g i):aK S w (w.putObj g o'):=aK.setObj hg ho ho' hs
theorem zpe (h:Rel P R x K C σ a w):x.C0.length<=C.length:=by
 rcases Nat.lt_or_ge C.length x.C0.length with h1|h1;·have:=h.cin C.length _ (qad h1)<;>simp_all
 grind
theorem Rel.jy (h:Rel P R x K C σ a w){st st':LoopState}{pend Qo:Option Ex}{tm:List (Nat×X)}{ps:List Nat}{am bm:Em.C}(hB:σ.bx[i]?=some (.loop st pend tm ps am bm))(hc:C[i]?=some (.obj l)){jump:Option Code}(hj:JE Qo jump):
  ∃lp:Loop,w.heap[l]?=some (.loop lp)/\lp.state=st/\JE pend lp.pending/\Rel P R x K C ⟨σ.tm,σ.bx.set i (.loop st' Qo tm ps am bm)⟩ a (w.putObj l (.loop {lp with state:=st',pending:=jump})):=by
 obtain ⟨lp,j,f⟩:=h.inv.box i _ _ hB hc;refine ⟨lp,j,f.hst,f.ze0,?_⟩;have m:=(qaS.1 j).1;refine h.BN hB rfl hc (BP j trivial trivial fun _=>rfl) ⟨_,World.putObj_heap_same m,rfl,hj,f.htm,f.hps,f.hin,f.hcode⟩ (fun e=>e)
theorem RZ {e:Ex}(h:Rel P R x K C σ a w)(hc:C[i]?=some (.obj l))(hi:¬i<x.C0.length)(he:zfK i σ=some (e,σ')):
  ∃(jump:Option Code) (w':World),(Instr.endLoop l).run P w=.ok jump w'/\zhm P R x σ' a w'/\((jump=none/\e=.norm)\/(jump=some .ret/\e=.ret)\/∃k,jump=some (.exit k)/\e=.exit k):=by
 unfold zfK at he;split at he
 ·rename_i st n tm U J L A;split at he
  ·grind
  rename_i H;simp at he;obtain ⟨rfl,rfl⟩:=he;obtain ⟨m,q,F,f,_⟩:=h.jy (st':=.exhausted) (Qo:=none) (jump:=none) A hc trivial;obtain ⟨S,u,Q,O,E⟩:=h.jy (st':=.exhausted) (Qo:=n) (jump:=m.pending) A hc f;rw [q] at u;simp at u;subst u;have N:=E.kill i (fun B e M=>hi);refine ⟨m.pending,_,run_endLoop q (by grind),⟨K,C,?_⟩,?_⟩;·simp_all
  cases n with
  |none=>
   cases j:m.pending with
   |none=>grind
   |some c=>rw [j] at f;exact f.elim
  |some y=>
   cases j:m.pending with
   |none=>rw [j] at f;cases y<;>exact f.elim
   |some c=>
    rw [j] at f;cases y with
    |norm=>exact f.elim
    |ret=>cases c<;>first|exact f.elim|grind
    |exit k=>cases c with
     |exit k'=>simp_all[JE]
     |_=>exact f.elim
 grind
theorem zaG {args:Array Value}(hok:zgm P g)(w:World):(invoke (.fn (.func g) vs) args).run P w=.ok (.enter g (args++vs)) w:=by
 have h:invoke (.fn (.func g) vs) args=callFunc g (args++vs):=by simp only [invoke]
 rw [h];exact hok _ w
theorem WB {f:Operand}(hv:a.eval f=.func (.func g) #[] vs)(w:World):(resolve a.eval (rangeCall f l) 0).run P w=.ok {target:=.fn (.func g) vs,args:=#[.func (.yield l) #[] #[]]} w:=by have h:a.eval (.const (.func (.yield l) #[] #[]))=.func (.yield l) #[] #[]:=rfl<;>simp_all[resolve,Deferred.ofValue]
theorem sG (hΓ:uz P (ji P gl) Γ){fu:Nat}:∀(c:Code) {m:Em.C},fC P gl A x.nt c=some m->∀{σ σ':St} {e:Ex} {K:Kn} {C:List CB} {a:Act} {w:World} {Q:Exit->Act->World->Prop},
  Rel P (ji P gl) x K C σ a w->run Γ x.C0.length fu m σ=some (e,σ')->(∀K' C' a' w',Em.Rel P (ji P gl) x K' C' σ' a' w'->Q (zoU e) a' w')->c.wpIn (Fr x.rnd) 0 P Q a w:=by
 intro c;induction c with
 |skip=>intro m E σ σ' e K C a w Q h B F;simp [fC] at E;subst E;simp [run] at B;obtain ⟨rfl,rfl⟩:=B;exact wpIn_skip (F K C a w h)
 |exit id=>intro m E σ σ' e K C a w Q h B F;simp [fC] at E;subst E;simp [run] at B;obtain ⟨rfl,rfl⟩:=B;exact wpIn_exit (F K C a w h)
 |ret=>intro m E σ σ' e K C a w Q h B F;simp [fC] at E;subst E;simp [run] at B;obtain ⟨rfl,rfl⟩:=B;exact wpIn_ret (F K C a w h)
 |region id ops J=>
  intro m E σ σ' e K C a w Q h B F;simp only [fC] at E;split at E
  ·grind[run]
  rename_i l hl;have pk:∀ps,m=.reg (A.gh id) ps l (A.live id)->((J=true/\pF ops l=some ps)\/J=false)->(Code.region id ops J).wpIn (Fr x.rnd) 0 P Q a w:=by
   intro ps pi hd;subst pi;simp only [run] at B;split at B
   ·grind
   rename_i σ1 hg;obtain ⟨K1,C1,L⟩:=Cj h hg;split at B
   ·grind
   rename_i σ2 pn M;split at B
   ·rename_i hp;simp at B;obtain ⟨rfl,rfl⟩:=B;have Z:∀K' C' a' w',Em.Rel P (ji P gl) x K' C' σ2 a' w'->Q .normal a' w':=fun K' C' a' w' H=>F K' C' a' w' (H.tms (H.tm.keep _));rcases hd with ⟨rfl,hd⟩|rfl;·exact Qk hΓ L hl hd M hp Z
    exact Qj hΓ L hl M Z
   grind
  cases J with
  |true=>simp only [if_true] at E;obtain ⟨ps,V,rfl⟩:=map_some E<;>simp_all
  |false=>grind
 |seq c1 c2 ih1 ih2=>
  intro m E σ σ' e K C a w Q h B F;simp only [fC] at E;split at E
  ·rename_i m1 m2 L h2;simp at E;subst E;simp only [run] at B;split at B;next σ1 M=>exact wpIn_seq (ih1 L h M fun K' C' a' w' H=>ih2 h2 H B F)
   rename_i pc;refine wpIn_seq (ih1 L h B fun K' C' a' w' H=>?_);have:=F K' C' a' w' H;cases e with
   |norm=>grind
   |exit k=>exact this
   |ret=>exact this
  grind
 |cond q c1 c2 ih1 ih2=>
  intro m E σ σ' e K C a w Q h B F;simp only [fC] at E;split at E
  ·rename_i q' m1 m2 hq L h2;simp at E;subst E;simp only [run] at B;split at B
   ·rename_i t ht;have hv:=fJ (aZ h.inv.glob h.tm hq ht);refine wpIn_cond_split hv (fun e=>?_) (fun e=>?_)
    ·grind
    grind
   grind
  grind
 |block id c ih=>
  intro m E σ σ' e K C a w Q h B F;simp only [fC] at E;obtain ⟨m1,L,rfl⟩:=map_some E;simp only [run] at B;refine wpIn_block ?_;split at B
  ·rename_i j σ1 M;refine ih L h M fun K' C' a' w' H=>?_;show (if j=id then Q .normal a' w' else Q (.exit j) a' w');by_cases W:j=id
   ·have:(j==id)=true:=by simpa using W
    rw [this] at B;simp at B;obtain ⟨rfl,rfl⟩:=B;rw [if_pos W];exact F K' C' a' w' H
   have:(j==id)=false:=by simpa using W
   rw [this] at B;simp at B;obtain ⟨rfl,rfl⟩:=B;rw [if_neg W];exact F K' C' a' w' H
  rename_i pc;refine ih L h B fun K' C' a' w' H=>?_;have:=F K' C' a' w' H;cases e with
  |norm=>exact this
  |exit k=>grind
  |ret=>exact this
 |loop c ih=>
  intro m E σ σ' e K C a w Q h B F;simp only [fC] at E;obtain ⟨m1,L,rfl⟩:=map_some E;simp only [run] at B;refine wpIn_loop_rounds fu ?_;have pk:∀(n:Nat) {σ:St} {K:Kn} {C:List CB} {a:Act} {w:World},Rel P (ji P gl) x K C σ a w->iter x.C0.length (run Γ x.C0.length fu m1) n σ=some (e,σ')->Code.roundsIn (Fr x.rnd) 0 P c Q n a w:=by
   intro n;induction n with
   |zero=>grind[iter]
   |succ n ihn=>
    intro σ K C a w h B;simp only [iter] at B;split at B
    ·grind
    rename_i σ1 hc;obtain ⟨K1,C1,h2⟩:=SG h hc;rw [roundsIn_succ];split at B;next σ2 M=>exact ih L h2 M fun K' C' a' w' H=>ihn H B
    rename_i pc;refine ih L h2 B fun K' C' a' w' H=>?_;have:=F K' C' a' w' H;cases e with
    |norm=>grind
    |exit k=>exact this
    |ret=>exact this
  grind
 |rangeFunc f ps c1 c2 ih1 ih2=>
  intro m E σ σ' e K C a w Q h B F;simp only [fC] at E;split at E
  ·rename_i f' am bm hf ha hb;split at E
   ·grind
   rename_i V;simp at E;obtain ⟨live,U⟩:∃live,m=.rf f' ps.toList live am bm:=⟨_,E.symm⟩;subst U;have pl:∀p,p∈ps.toList->p<x.nt:=by intro p hp;simp only [Bool.not_eq_true',Bool.not_eq_false] at V;have:=Array.all_eq_true_iff_forall_mem.1 V p (by grind);simpa using this
   simp only [run] at B;split at B
   ·rename_i g Y hg;split at B
    ·grind
    rename_i po bx pp S;have rf:=aZ h.inv.glob h.tm hf hg;generalize hv:a.eval f=v at rf;cases rf with
    |fn M hrep=>
     rename_i vs;refine wpIn_rangeFunc fun fn _=>?_;obtain ⟨l,mk,w1,pg,L⟩:=RY (live:=live) rfl h pl ha hb fn;have pa:(C++[CB.obj l])[σ.bx.length]?=some (.obj l):=by rw [<-h.inv.size];simp
     have O:cO K (C++[.obj l]) (.yl σ.bx.length::Y) (#[.func (.yield l) #[] #[]]++vs):=by
      have h0:cO K (C++[.obj l]) [.yl σ.bx.length] #[.func (.yield l) #[] #[]]:=⟨rfl,fun j y u e e'=>by
       cases j with
       |zero=>simp at e e';subst e;subst e';exact .yl pa
       |succ j=>grind⟩
      exact jP h0 ⟨M,fun j y u e e'=>(hrep j y u e e').mono (KLe.refl _) (CLe.append _ _)⟩
     obtain ⟨pj,Ci⟩:=Jw hΓ L O S;have N:=zaG (vs:=vs) (args:=#[.func (.yield l) #[] #[]]) pj w1;have pe:=WB (P:=P) (a:={a with defers:=mk++a.defers}) (l:=l) hv w1;generalize (#[.func (.yield l) #[] #[]]++vs:Array Value)=aN at Ci N;refine ⟨l,mk,w1,_,w1,g,aN,w1,pg,pe,?_,N,?_,?_⟩;·exact fun _ _=>trivial
     ·grind[Fr,Fence.wide]
     refine Jv (Ci.mono ?_)
     rintro e1 w' ⟨v,K',C',rfl,ph,pd,_⟩
     obtain ⟨pf,w4,pb,⟨K4,C4,h4⟩,W⟩:=RZ pd (ph _ _ pa) (by have:=zpe h;have:=h.inv.size;omega) B;refine ⟨pf,w4,pb,?_⟩;rcases W with ⟨rfl,rfl⟩|⟨rfl,rfl⟩|⟨k,rfl,rfl⟩;·exact F _ _ _ _ h4
     ·exact wpIn_ret (F _ _ _ _ h4)
     exact wpIn_exit (F _ _ _ _ h4)
   grind
  grind
 |scope b ih=>grind[fC]
 |label l=>grind[fC]
 |goto l=>grind[fC]
 |refuse y=>grind[fC]
end
section
variable {fn:Func}{f:FuncId}{inb outb:List Bx}
variable {P:Program} {R:aP} {x:Ctx} {K:Kn} {C:List CB} {σ:St} {a:Act} {w:World}
variable {Γ:Gam} {gl:Nat->Option (List X)}
theorem IZ {y y':X}{v:Value}(h:Rel P R x K C σ a w)(hF:x.Fp=kT x.C0 inb)(hlen:x.C0.length=inb.length)(zoC:∀(i:Nat) (B:Bx),inb[i]?=some B->B.gG=true->x.loops i=true)
  (hy:Rep K C y v) (e:pack inb.length y σ.bx=some (y',outb)):∃E,zms P R x.K0 x.C0 inb x.w0 y' outb v w K E:=by
 unfold pack at e;dsimp only at e;split at e
 ·rename_i M;simp at M;obtain ⟨bx,m,q⟩:=map_some e;simp at q;obtain ⟨rfl,rfl⟩:=q;have J:=h.tms (tm:=[]) (fun n z hz=>by grind[lk]);obtain ⟨l,f,O,S⟩:=J.ZY (bx:=bx) m (by grind) (fun i j=>by grind[bT]);have Q:=zpe f;have A:l=x.C0++l.drop x.C0.length:=by
   refine List.ext_getElem? fun i=>?_;by_cases j:i<x.C0.length;·rw [qap j,qad j];exact f.cin i _ (qad j)
   ·grind
  refine ⟨l.drop x.C0.length,?_⟩;refine ⟨by rw [<-A];exact f.inv,by grind[xZ],f.k0,fun b o u H=>?_,fun b o F=>?_,?_,fun i B L N=>?_⟩;·have:=f.knew b o u H;rw [hF] at this<;>grind
  ·rw [<-A] at F;have:=f.own b o F;rw [hF] at this<;>grind
  ·have:=f.frame<;>grind
  exact f.loops i (by grind) (zoC i B L N)
 grind
theorem J9 (h:Rel P R x K C σ a w)(f:ResultVar->Sem Value)(h1:∀t,f (.tmp t)=pure (a.tmps.getD t undef))(h2:∀t ty,f (.cell t ty)=(do loadVar ty (<-asAddr (a.tmps.getD t undef)))):
  ∀(l:List ResultVar) {rs:List Rv} {xs:List X},MS P l=some rs->resX σ rs=some xs->∃vs:List Value,(l.mapM f).run P w=.ok vs w/\vs.length=xs.length/\∀(j:Nat) (y:X) (v:Value),xs[j]?=some y->vs[j]?=some v->Rep K C y v
 |[],rs,xs,e1,e2=>by simp_all[MS,resX]
 |.tmp t::r,rs,xs,e1,e2=>by
  simp only [MS] at e1;obtain ⟨rs',hrs,rfl⟩:=map_some e1;simp only [resX] at e2;split at e2
  ·grind
  rename_i y hy;obtain ⟨xs',hxs,rfl⟩:=map_some e2;obtain ⟨vs,g1,g2,g3⟩:=J9 h f h1 h2 r hrs hxs;obtain ⟨v,hv,hr⟩:=h.tm t y hy;have hd:a.tmps.getD t undef=v:=by simp [hv]
  refine ⟨v::vs,?_,by grind,fun j z u ez eu=>?_⟩;·simp_all
  grind
 |.cell t ty::r,rs,xs,e1,e2=>by
  simp only [MS] at e1;split at e1
  ·rename_i n rs' hn hrs;simp at e1;subst e1;simp only [resX] at e2;split at e2
   ·grind
   rename_i y hy;obtain ⟨xs',hxs,rfl⟩:=map_some e2;obtain ⟨vs,g1,g2,g3⟩:=J9 h f h1 h2 r hrs hxs;obtain ⟨p,hp,hl⟩:=qaz.1 hy;obtain ⟨pv,hpv,hr⟩:=h.tm t p hp;obtain ⟨b,o,v,rfl,hload,hrv⟩:=Oc h.inv hn hr hl;have hd:a.tmps.getD t undef=.pointer (some ⟨b,o,none⟩):=by simp [hpv]
   refine ⟨v::vs,?_,by grind,fun j z u ez eu=>?_⟩;·simp_all[asAddr]
   grind
  grind
def zp2 (tmps:Array Value):ResultVar->Sem Value
 |.tmp t=>pure (tmps.getD t undef)
 |.cell b t=>do loadVar t (<-asAddr (tmps.getD b undef))
theorem WA (fn:Func)(tmps:Array Value):results fn tmps=(do let vs <-fn.results.mapM (zp2 tmps);pure (if h:vs.size=1 then vs[0] else .tuple vs)):=by
 unfold results;have:(fun v:ResultVar=>zp2 tmps v)=zp2 tmps:=rfl;rw [<-this]
 congr 2
theorem Qh (h:Rel P R x K C σ a w){rs:List Rv}{xs:List X}(htr:MS P fn.results.toList=some rs)(hx:resX σ rs=some xs):∃v,(results fn a.tmps).run P w=.ok v w/\Rep K C (packRes xs) v:=by
 obtain ⟨l,u,n,q⟩:=J9 h (zp2 a.tmps) (fun _=>rfl) (fun _ _=>rfl) _ htr hx;have f:(results fn a.tmps).run P w=.ok (if h:l.toArray.size=1 then l.toArray[0] else .tuple l.toArray) w:=by rw [WA,Array.mapM_eq_mapM_toList];simp only [map_eq_pure_bind,Sem.run_bind];rw [u];simp [Result.andThen]
 refine ⟨_,f,?_⟩;by_cases m:xs.length=1;·obtain ⟨y,rfl⟩:=List.length_eq_one_iff.1 m;obtain ⟨v,rfl⟩:=List.length_eq_one_iff.1 (n.trans m);simp only [List.size_toArray,List.length_singleton,dif_pos,packRes];exact q 0 y v rfl rfl
 have B:¬l.toArray.size=1:=by simpa [n] using m
 rw [dif_neg B];have A:packRes xs=.tup xs:=by
  unfold packRes;split
  ·grind
  rfl
 rw [A];exact .tup (by grind) fun j y v e E=>q j y v e (by grind)
theorem BX {fn:Func}{tmps:Array Value}{Rp:Ending->World->Prop}:∀(rs:List Nat) (w:World),(∀r,r∈rs->w.heap[r]?=some (.deferred (some [])))->rs.Nodup->
  (∀w',aK (fun b _=>b∈rs) w w'->∃v,(results fn tmps).run P w'=.ok v w'/\Rp (.returned v) w')->LeavesInM (Fr none) 0 P fn tmps Rp (rs.map mark) .returning w
 |[],w,_,_,h=>by obtain ⟨v,h1,h2⟩:=h w (.refl _ w);exact ⟨v,h1,h2⟩
 |r::rs,w,hm,hn,h=>by
  rw [List.nodup_cons] at hn;have hr:=hm r (by simp);refine ⟨by simp,.inl ⟨r,w.putObj r (.deferred none),rfl,run_takeDeferred hr,?_⟩⟩;refine BX rs _ (fun k hk=>?_) hn.2 (fun w' hf=>h w' ?_)
  ·grind[World.putObj_heap_other]
  have h1:aK (fun b _=>b∈r::rs) w (w.putObj r (.deferred none)):=BP hr trivial trivial (fun _=>by simp);exact h1.trans hf (fun b o _ hb=>by grind)
theorem Rel.zm5 (h:Rel P R x K C σ a w){rs:List Nat}(hm:∀r,r∈rs->w.heap[r]?=some (.deferred (some []))/\x.w0.heap.size<=r/\∀o,¬kT C σ.bx r o){w':World}(hf:aK (fun b _=>b∈rs) w w'):
  Rel P R x K C σ {a with defers:=[]} w':=by
 refine {h with inv:=h.inv.frame hf (fun b o v e f=>?_) (fun b o l f=>(hm b f).2.2 o l),tm:=h.tm,nt:=h.nt,frame:=h.frame.trans hf (fun b o j f=>?_),defs:=⟨⟨[],rfl,List.nodup_nil,fun r m=>by grind⟩,fun _=>rfl⟩};·have:=h.inv.known b o v e<;>grind[World.cell?]
 grind
theorem Uj:∀(xs:List X) (n k:Nat),lk (zipTm n xs) k=if n<=k then xs[k-n]? else none
 |[],n,k=>by grind[zipTm,lk]
 |z::r,n,k=>by
  simp only [zipTm,lk,Uj r (n+1) k]
  grind
def uU (inb:List Bx)(i:Nat):Bool:=match inb[i]? with|some B=>B.gG|none=>false
theorem BZ {i:Nat}{B:Bx}(h:inb[i]?=some B):uU inb i=B.gG:=by grind[uU]
theorem PD (hf:P.funcs[f]?=some fn)(hn:¬fn.name= "runtime.NumGoroutine")(hb:¬fn.body=none):zgm P f:=by
 intro a w;simp [callFunc,program,Sem.run,hf,hn,hb]
theorem Wv (hΓ:uz P (ji P gl) Γ){fd:Fun}{A:Ann}{fu:Nat}{args:List X}{res:X}(htr:zdp P gl A f=some fd)(e:zmD Γ fu fd args inb=some (res,outb)):
  zgm P f/\JF P (ji P gl) f args inb res outb:=by
 unfold zdp at htr;split at htr
 ·grind
 rename_i fn J;split at htr
 ·grind
 rename_i Z;split at htr
 ·rename_i m rs hm pc;split at htr
  ·rename_i V;simp at htr;subst htr;obtain ⟨c,hb,S⟩:=qaz.1 hm;refine ⟨PD J (by grind) (by grind),?_⟩;intro K C w u hI h;unfold zmD at e;split at e
   ·rename_i q;simp at q;have pd:u.size<=fn.ntmps:=by rw [h.1,q];exact V
    let x:Ctx:={nt:=fn.ntmps,K0:=K,C0:=C,loops:=uU inb,w0:=w,Fp:=kT C inb,rnd:=none}
    have O:Rel P (ji P gl) x K C ⟨zipTm 0 args,inb⟩ {tmps:=u++Array.replicate (fn.ntmps-u.size) undef,defers:=[]} w:=by
     refine ⟨hI,fun n y Q=>?_,?_,KLe.refl _,fun b o v ev=>.inl ev,fun b o ho=>.inl ho,fun i c S=>S,.refl _ _,⟨⟨[],rfl,List.nodup_nil,fun r j=>by grind⟩,fun _=>rfl⟩,fun i hi hl=>?_,fun l hl=>by grind⟩
     ·rw [Uj] at Q;simp at Q;have hn:=(qak.1 Q).1;have Y:n<u.size:=by rw [h.1];exact hn
      refine ⟨u[n],?_,h.2 n y _ Q (qaD Y)⟩<;>grind
     ·grind
     ·grind[uU]
    have U:x.C0.length=inb.length:=hI.size;have H:∀(σ':St) (K':Kn) (C':List CB) (a':Act) (w':World),Em.Rel P (ji P gl) x K' C' σ' a' w'->((resX σ' rs).bind fun xs=>pack inb.length (packRes xs) σ'.bx)=some (res,outb)->
      LeavesInM (Fr none) 0 P fn a'.tmps (Post P (ji P gl) K C inb w res outb) a'.defers .returning w':=by
     intro σ' K' C' a' w' j he;obtain ⟨xs,pe,pb⟩:=qaz.1 he;obtain ⟨ms,W,pa,L⟩:=j.defs.marks;rw [W];refine BX ms w' (fun r j=>(L r j).1) pa fun pf hf=>?_;have M:=j.zm5 L hf;obtain ⟨v,hv,N⟩:=Qh M pc pe;obtain ⟨E,hE⟩:=IZ M rfl U (fun i B hB hl=>by grind[BZ]) N pb;exact ⟨v,hv,v,K',E,rfl,hE⟩
    refine (callsIn_wide (n:=0)).1 (callsIn_of_wp_marks (F:=Fr none) J hb trivial ?_);split at e;next σ' a=>rw [<-U] at a;exact sG (x:=x) hΓ c S O a fun K' C' a' w' j=>H σ' K' C' a' w' j e
    next σ' a=>rw [<-U] at a;exact sG (x:=x) hΓ c S O a fun K' C' a' w' j=>H σ' K' C' a' w' j e
    grind
   grind
  grind
 grind
end
section
variable {P:Program} {R:aP} {x:Ctx} {K:Kn} {C:List CB} {σ:St} {a:Act} {w:World}
variable {Γ:Gam} {gl:Nat->Option (List X)}
theorem Tc:∀{ps:List Nat} {as:List X} {vs:List Value} {tm tm':List (Nat×X)} {tmps:Array Value},Me ps as tm=some tm'->vs.length=as.length->(∀(j:Nat) (y:X) (v:Value),as[j]?=some y->vs[j]?=some v->Rep K C y v)->
  (∀p,p∈ps->p<tmps.size)->CQ K C tm tmps->ps.length=as.length/\CQ K C tm' ((ps.zip vs).foldl (fun tmps q=>tmps.setIfInBounds q.1 q.2) tmps)
 |[],[],vs,tm,tm',tmps,e,hl,_,_,h=>by simp_all[Me]
 |p::ps,y::as,[],tm,tm',tmps,e,hl,_,_,_=>by grind
 |p::ps,y::as,v::vs,tm,tm',tmps,e,hl,hr,hp,h=>by
  simp only [Me] at e;have h1:CQ K C ((p,y)::tm) (tmps.setIfInBounds p v):=by
   intro n z ez;simp only [lk] at ez;split at ez;next hn=>simp at hn;subst hn;simp at ez;subst ez;exact ⟨v,by grind,hr 0 y v rfl rfl⟩
   rename_i hn;obtain ⟨u,hu,hru⟩:=h n z ez<;>grind
  obtain ⟨g1,g2⟩:=Tc (vs:=vs) e (by simpa using hl) (fun j z u ez eu=>hr (j+1) z u (by simpa using ez) (by simpa using eu)) (fun q hq=>by simpa using hp q (by simp [hq])) h1<;>simp_all
 |[],_::_,_,_,_,_,e,_,_,_,_=>by grind[Me]
 |_::_,[],_,_,_,_,e,_,_,_,_=>by grind[Me]
theorem Jj:∀(l:List (Nat×Value)) (tmps:Array Value),(l.foldl (fun tmps q=>tmps.setIfInBounds q.1 q.2) tmps).size=tmps.size
 |[],_=>rfl
 |q::l,tmps=>by simp [Jj l]
theorem Ib {l i:Nat}{bx:List Bx}{pend:Option Ex}{st:LoopState}(h:Rel P R x K C σ a w)(hc:C[i]?=some (.obj l))(jump:Option Code)(hj:JE pend jump)(hst:st=if jump.isNone then .ready else .done)
  (e:jy σ.bx i .busy st pend=some bx):∃w',(Instr.endRound l jump).run P w=.ok (.bool jump.isNone) w'/\Rel P R x K C ⟨σ.tm,bx⟩ a w':=by
 unfold jy at e;split at e
 ·rename_i s p tm y j m f;split at e;·simp at e;subst e;obtain ⟨u,n,_,_,q⟩:=h.jy (st':=st) (Qo:=pend) (jump:=jump) f hc hj<;>grind[run_endRound]
  grind
 grind
theorem Wu (hΓ:uz P (ji P gl) Γ){fu:Nat}{args:List X}{inb outb:List Bx}{res:X}(e:zmC Γ fu args inb=some (res,outb)):zvm P (ji P gl) args inb res outb:=by
 unfold zmC at e;split at e
 ·rename_i i as;refine ⟨i,as,rfl,fun K C w U l r hI S h=>?_⟩;split at e
  ·rename_i tm ps am bm hB;obtain ⟨u,hl,M⟩:=hI.box i _ _ hB S;obtain ⟨A,pc,Y⟩:=M.hcode;split at e
   ·grind
   rename_i pk hz;obtain ⟨pf,htm⟩:=Tc (vs:=U.toList) hz (by simpa using h.1) (fun j y v e1 e2=>h.2 j y v e1 (by grind)) M.hin M.htm;have pg:U.size=u.params.size:=by rw [h.1,<-pf,<-M.hps];simp
   have L:(u.params.zip U).foldl (fun tmps (t,a)=>tmps.setIfInBounds t a) u.tmps=(ps.zip U.toList).foldl (fun tmps q=>tmps.setIfInBounds q.1 q.2) u.tmps:=by rw [<-M.hps,<-Array.toList_zip,Array.foldl_toList]
   refine ⟨_,_,_,_,run_yield hl pg,?_⟩;rw [L];generalize pi:(ps.zip U.toList).foldl (fun tmps q=>tmps.setIfInBounds q.1 q.2) u.tmps=tmps at htm;have ph:tmps.size=u.tmps.size:=by rw [<-pi];exact Jj _ _
   let x:Ctx:={nt:=u.tmps.size,K0:=K,C0:=C,loops:=uU inb,w0:=w,Fp:=kT C inb,rnd:=some l}
   have n:∀(i:Nat) (B:Bx),inb[i]?=some B->B.gG=true->x.loops i=true:=fun i B hB hl=>by grind[BZ]
   have Q:Rel P (ji P gl) x K C ⟨pk,inb⟩ {tmps:=tmps,defers:=[]} w:=by
    refine ⟨hI,htm,ph,KLe.refl _,fun b o v ev=>.inl ev,fun b o M=>.inl M,fun i c hc=>hc,.refl _ _,⟨⟨[],rfl,List.nodup_nil,fun r hr=>by grind⟩,fun _=>rfl⟩,fun i S hl=>?_,fun l' Z=>?_⟩
    ·grind[uU]
    simp [x] at Z;subst Z;exact ⟨i,(qak.1 S).1,n i _ hB rfl,S⟩
   have Oq:x.C0.length=inb.length:=hI.size;refine roundIn_of_wpIn trivial ?_;have hF:(Fr r).inRound l=Fr x.rnd:=rfl;rw [hF];split at e
   ·rename_i σ1 F;rw [<-Oq] at F;split at e
    ·grind
    rename_i bx m;refine sG (x:=x) hΓ u.assign pc Q F fun K1 C1 a1 w1 h1=>?_;have W:=h1.cin i _ S;have pl:∃w2,(Instr.beginRound l).run P w1=.ok () w2/\Em.Rel P (ji P gl) x K1 C1 ⟨σ1.tm,bx⟩ a1 w2:=by
     unfold zcj at m;split at m;next py px po pp V=>simp at m;subst m;obtain ⟨pj,pq,pu,pd,_⟩:=h1.jy (st':=.busy) (Qo:=none) (jump:=none) V W trivial;obtain ⟨pw,pr,pv,_,N⟩:=h1.jy (st':=.busy) (Qo:=none) (jump:=pj.pending) V W pd<;>grind[run_beginRound]
     ·grind
    obtain ⟨w2,pb,N⟩:=pl;refine ⟨w2,pb,?_⟩;have H:∀(σ3:St) (pend:Option Ex) (st:LoopState) (jump:Option Code),JE pend jump->(st=if jump.isNone then .ready else .done)->(jy σ3.bx i .busy st pend).bind (fun bx=>pack inb.length (.v (.bool jump.isNone)) bx)=some (res,outb)->
      ∀K3 C3 a3 w3,Em.Rel P (ji P gl) x K3 C3 σ3 a3 w3->∃v w',(Instr.endRound l jump).run P w3=.ok v w'/\Post P (ji P gl) K C inb w res outb (.returned v) w':=by
     intro σ3 pend st jump hj Q he K3 C3 a3 w3 J;obtain ⟨pa,pn,pe⟩:=qaz.1 he;obtain ⟨w4,O,h4⟩:=Ib J (J.cin i _ S) jump hj Q pn;obtain ⟨E,hE⟩:=IZ (σ:=⟨σ3.tm,pa⟩) h4 rfl Oq n (y:=.v (.bool jump.isNone)) (.v rfl) pe;exact ⟨_,w4,O,_,K3,E,rfl,hE⟩
    split at e
    ·grind
    next σ3 f=>rw [<-Oq] at f;exact sG (x:=x) hΓ u.body Y N f fun K3 C3 a3 w3 J=>H σ3 none .ready none trivial rfl e K3 C3 a3 w3 J
    rename_i ex σ3 pt f;rw [<-Oq] at f;refine sG (x:=x) hΓ u.body Y N f fun K3 C3 a3 w3 J=>?_;cases ex with
    |norm=>grind
    |ret=>exact H σ3 (some .ret) .done (some .ret) trivial rfl e K3 C3 a3 w3 J
    |exit k=>exact H σ3 (some (.exit k)) .done (some (.exit k)) rfl rfl e K3 C3 a3 w3 J
   grind
  grind
 grind
def zmr (P:Program)(gl:Nat->Option (List X))(T:FuncId->Option Fun):Prop:=∀f fd,T f=some fd->∃A,zdp P gl A f=some fd
def zpN (P:Program)(gl:Nat->Option (List X))(ext:Ext):Prop:=∀f g,ext f=some g->∀args inb res outb,g args inb=some (res,outb)->zgm P f/\JF P (ji P gl) f args inb res outb
theorem LW {T:FuncId->Option Fun}{ext:Ext}(hT:zmr P gl T)(hE:zpN P gl ext):∀n,uz P (ji P gl) (callF T ext n)
 |0=>⟨fun f args inb res outb e=>by grind[callF],fun args inb res outb e=>by grind[callF]⟩
 |n+1=>by
  have ih:=LW hT hE n;refine ⟨fun f args inb res outb e=>?_,fun args inb res outb e=>?_⟩
  ·simp only [callF] at e;split at e;next g hg=>exact hE f g hg args inb res outb e
   split at e;next fd hfd=>obtain ⟨A,hA⟩:=hT f fd hfd<;>grind[Wv]
   grind
  grind[callF,Wu]
end
end Go.Em
