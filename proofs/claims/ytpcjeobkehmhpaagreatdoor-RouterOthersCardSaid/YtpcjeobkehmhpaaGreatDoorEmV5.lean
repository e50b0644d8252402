/-.-/
import Derived.RangeFuncRecord
import Derived.ControlIn
import Derived.Test.YtpcjeobkehmhpaaGreatDoorEmV4
set_option linter.all false
namespace Go.Em
section
variable {B:Bx}{c:CB}{K':Kn}{bx:List Bx}{b i o sz:Nat}{σ':St}{v:Value}{z:X}{good:X->Prop}{f:X->X}
variable {P:Program} {R:aT} {x:Ctx} {K:Kn} {C:List CB} {σ:St} {a:Act} {w:World}
def Bx.VJ (f:X->X):Bx->Bx
 |.var cs=>.var (cs.map f)
 |.loop st p tm ps a b=>.loop st p (tm.map fun q=>(q.1,f q.2)) ps a b
 |.row s l=>.row s l
 |.map es=>.map es
 |.dead=>.dead
def Bx.vals:Bx->List X
 |.var cs=>cs
 |.loop _ _ tm _ _ _=>tm.map (·.2)
 |_=>[]
theorem Dq (i sz:Nat)(es:qaX):∀cs:List X,TG i sz es cs=cs.map (X.frz i sz es)
 |[]=>rfl
 |z::r=>by simp [TG,Dq i sz es r]
theorem Dy (i:Nat)(vs:List X):∀cs:List X,TJ i vs cs=cs.map (X.fix i vs)
 |[]=>rfl
 |z::r=>by simp [TJ,Dy i vs r]
theorem zkL (i sz:Nat)(es:qaX)(B:Bx):B.frz i sz es=B.VJ (X.frz i sz es):=by
 cases B<;>simp [Bx.frz,Bx.VJ,Dq,zmp]
theorem zkP (i:Nat)(vs:List X)(B:Bx):B.fix i vs=B.VJ (X.fix i vs):=by
 cases B<;>simp [Bx.fix,Bx.VJ,Dy,zos]
theorem ZI (f:X->X)(B:Bx):(B.VJ f).live=B.live:=by cases B<;>rfl
theorem Pv (f:X->X)(B:Bx):(B.VJ f).gI=B.gI:=by cases B<;>rfl
theorem zgu (f:X->X):∀(tm:List (Nat×X)) (n:Nat),lk (tm.map fun q=>(q.1,f q.2)) n=(lk tm n).map f
 |[],n=>rfl
 |(k,y)::r,n=>by have ih:=zgu f r n<;>grind[lk]
noncomputable def Kn.shut (K:Kn)(c:CB)(w:World):Kn:=fun b o=>by classical exact if c.owns b o then w.cell? ⟨b,o,none⟩ else K b o
theorem Iz (h:c.owns b o):K.shut c w b o=w.cell? ⟨b,o,none⟩:=by grind[Kn.shut]
theorem sD (h:¬c.owns b o):K.shut c w b o=K b o:=by grind[Kn.shut]
theorem Ot (h:Inv P R K C bx w)(hB:bx[i]?=some B)(hl:B.live=true)(hc:C[i]?=some c):KLe K (K.shut c w):=by
 intro b o v e;have:¬c.owns b o:=fun a=>by rw [h.apart b o ⟨i,c,B,hc,hB,hl,a⟩] at e<;>grind
 grind[sD]
theorem zF.turn {tm:List (Nat×X)}{tmps:Array Value}(h:zF K C tm tmps)(hg:∀z,z∈tm.map (·.2)->good z)(hrep:∀z v,good z->Rep K C z v->Rep K' C (f z) v):zF K' C (tm.map fun q=>(q.1,f q.2)) tmps:=by
 intro n y e;rw [zgu] at e;obtain ⟨z,hz,rfl⟩:=qac.1 e;obtain ⟨v,a,j⟩:=h n z hz;obtain ⟨p,l,rfl⟩:=zgt hz
 grind
theorem BoxOk.turn (h:BoxOk P R K C w B c)(hK:KLe K K')(hcell:∀z,(f z).fA=z.fA)(hg:∀z,z∈B.vals->good z)(hrep:∀z v,good z->Rep K C z v->Rep K' C (f z) v):
  BoxOk P R K' C w (B.VJ f) c:=by
 cases B with
 |dead=>trivial
 |var cs=>
  cases c with
  |«at»=>
   obtain ⟨F,J,q,el,H,y⟩:=h;refine ⟨F,by grind,q,el,H,by simpa using y.len,fun z hz=>?_,fun j z v e A=>?_⟩;·obtain ⟨u,n,rfl⟩:=qal.1 hz;rw [hcell];exact y.cell u n
   rw [qav] at e;obtain ⟨u,n,rfl⟩:=qac.1 e;exact hrep u v (hg u (qam n)) (y.rep j u v n A)
  |ghost=>exact h.elim
  |obj=>exact h.elim
 |row sz es=>exact h.mono hK (CLe.refl _) (.refl nowhere w) (fun _ _ _=>id)
 |map es=>exact h.mono hK (CLe.refl _) (.refl nowhere w) (fun _ _ _=>id)
 |loop st p tm ps a b=>
  cases c with
  |obj=>obtain ⟨l,E,m⟩:=h;exact ⟨l,E,m.hst,m.zes,m.htm.turn hg hrep,m.hps,m.hin,m.hcode⟩
  |«at»=>exact h.elim
  |ghost=>exact h.elim
theorem Rel.turn (h:Rel P R x K C σ a w)(hB:σ.bx[i]?=some B)(hl:B.live=true)(hL:B.gI=false)(hc:C[i]?=some c)(hcell:∀z,(f z).fA=z.fA)
  (hrep:∀z v,good z->Rep K C z v->Rep (K.shut c w) C (f z) v) (hgt:∀z,z∈σ.tm.map (·.2)->good z) (hgb:∀A,A∈σ.bx->∀z,z∈A.vals->good z):
  Rel P R x (K.shut c w) C ⟨σ.tm.map fun q=>(q.1,f q.2),(σ.bx.map (Bx.VJ f)).set i .dead⟩ a w:=by
 have S:=Ot h.inv hB hl hc;have n:∀(j:Nat) (A:Bx),((σ.bx.map (Bx.VJ f)).set i .dead)[j]?=some A->A.live=true->j≠i/\∃A0,σ.bx[j]?=some A0/\A=A0.VJ f/\A0.live=true:=by
  intro j A e l;rw [List.getElem?_set] at e;split at e
  ·grind[Bx.live]
  rename_i V;rw [qav] at e;obtain ⟨A0,y,rfl⟩:=qac.1 e;exact ⟨fun e=>V e.symm,A0,y,rfl,by grind[ZI]⟩
 have m:∀b o,kQ C ((σ.bx.map (Bx.VJ f)).set i .dead) b o->kQ C σ.bx b o/\¬c.owns b o:=by
  rintro b o ⟨j,d,A,J,H,l,u⟩
  obtain ⟨E,A0,y,rfl,F⟩:=n j A H l;exact ⟨⟨j,d,A0,J,y,F,u⟩,fun O=>h.inv.ER j i d c A0 B b o E J hc y hB F hl u O⟩
 have MQ:∀b o,c.owns b o->kQ C σ.bx b o:=fun b o u=>⟨i,c,B,hc,hB,hl,u⟩;refine {h with inv:=⟨h.inv.glob.mono S,?_,by simpa using h.inv.size,?_,?_,?_⟩,tm:=h.tm.turn hgt hrep,k0:=h.k0.trans S,knew:=?_,own:=fun b o L=>h.own b o (m b o L).1,defs:=?_,loops:=?_}
 ·intro b o v e;by_cases u:c.owns b o
  ·grind[Iz]
  rw [sD u] at e;exact h.inv.known b o v e
 ·intro b o L;rw [sD (m b o L).2];exact h.inv.apart b o (m b o L).1
 ·intro j k d e A Z b o E J he H U l M u;obtain ⟨_,A0,y,rfl,F⟩:=n j A H l;obtain ⟨_,A1,N,rfl,h4⟩:=n k Z U M;exact h.inv.ER j k d e A0 A1 b o E J he y N F h4 u
 ·intro j A d H J;by_cases l:A.live=true;·obtain ⟨_,A0,y,rfl,F⟩:=n j A H l;exact (h.inv.box j A0 d y J).turn S hcell (hgb A0 (qam y)) hrep
  cases A<;>first|trivial|simp [Bx.live] at l
 ·intro b o v e;by_cases u:c.owns b o;·exact .inr (h.own b o (MQ b o u))
  rw [sD u] at e;exact h.knew b o v e
 ·obtain ⟨rs,y,F,N⟩:=h.defs.marks;exact ⟨⟨rs,y,F,fun r W=>⟨(N r W).1,(N r W).2.1,fun o L=>(N r W).2.2 o (m r o L).1⟩⟩,h.defs.round⟩
 intro j hj Q;obtain ⟨A,H,Y⟩:=h.loops j hj Q<;>grind[Pv]
theorem Ud (i sz:Nat)(es:qaX)(z:X):(z.frz i sz es).fA=z.fA:=by
 cases z with
 |bs j off len=>simp only [X.frz];split<;>rfl
 |_=>rfl
theorem Ue (i:Nat)(vs:List X)(z:X):(z.fix i vs).fA=z.fA:=by
 cases z with
 |ptr j e o=>simp only [X.fix];split<;>rfl
 |_=>rfl
theorem iU {i n:Nat}:∀{cs:List X},iJ i n cs=true↔∀z,z∈cs->z.within i n=true
 |[]=>by simp [iJ]
 |z::r=>by simp [iJ,iU (cs:=r)]
theorem Rep.frz (hI:Inv P R K C bx w){es:qaX}(hb:bx[i]?=some (.row sz es))(hc:C[i]?=some c)(h:Rep K C z v):z.within i es.length=true->Rep (K.shut c w) C (z.frz i sz es) v:=by
 have y:=Ot hI hb rfl hc;induction h with
 |v h=>exact fun _=>.v h
 |iK=>exact fun _=>.iK
 |sl vals hlen ht hcap hcell hk hr ih=>exact fun _=>.sl vals hlen ht hcap hcell (fun i j z e=>y _ _ _ (hk i j z e)) (fun i j z e=>(hr i j z e).mono y (CLe.refl _))
 |bs hc' hcap hlen=>
  rename_i C j m len b f F l cap;intro n;simp only [X.frz];split
  ·rename_i A;have:j=i:=by simpa using A
   subst this;simp [X.within] at n;rw [hc] at hc';simp at hc';subst hc';obtain ⟨H,el,O,S,Q,N,J⟩:=(hI.box j _ _ hb hc).flat;subst O;have B:((es.drop m).take len).length=len:=by simp;omega
   have:=(((J.drop m).take len).mono y).rep (K:=K.shut (.at b f F l) w) (C:=C) (t:=false) (b:=b) (o:=f+m*l) (cap:=cap) (fun k u a=>?_) (by simp) (by omega)
   ·grind
   rw [qau] at a;split at a
   ·rename_i L;rw [qas,qau] at a;split at a
    ·rename_i M;rw [qas,bn] at a;have E:(CB.at b f F l).owns b (f+m*l+k):=⟨rfl,by omega,by omega⟩
     grind[Iz,World.cell?]
    grind
   grind
  exact .bs hc' hcap hlen
 |lZ hc'=>
  intro n;simp only [X.frz];split;·simp;exact .iK
  exact .lZ hc'
 |ptr hc'=>exact fun _=>.ptr hc'
 |dp vals hcell hk hr ih=>exact fun _=>.dp vals hcell (fun j z e=>y _ _ _ (hk j z e)) (fun j z e=>(hr j z e).mono y (CLe.refl _))
 |fn hs hr ih=>intro n;simp only [X.frz,Dq];refine .fn (by grind) (fun j z v e q=>?_);rw [qav] at e;obtain ⟨u,a,rfl⟩:=qac.1 e;exact ih j u v a q hI hc (iU.1 n u (qam a))
 |agg hs hcell hr ih=>
  intro n;simp only [X.frz,Dq];refine .agg (by grind) (fun z hz=>?_) (fun j z v e q=>?_);·obtain ⟨u,a,rfl⟩:=qal.1 hz<;>simp_all[Ud]
  rw [qav] at e;obtain ⟨u,a,rfl⟩:=qac.1 e;exact ih j u v a q hI hc (iU.1 n u (qam a))
 |tup hs hr ih=>intro n;simp only [X.frz,Dq];refine .tup (by grind) (fun j z v e q=>?_);rw [qav] at e;obtain ⟨u,a,rfl⟩:=qac.1 e;exact ih j u v a q hI hc (iU.1 n u (qam a))
 |yl hc'=>exact fun _=>.yl hc'
 |mp hc'=>exact fun _=>.mp hc'
 |ifc=>exact fun _=>.ifc
theorem Rep.fix (hI:Inv P R K C bx w){vs:List X}(hb:bx[i]?=some (.var vs))(hc:C[i]?=some c)(hn:cO vs=[])(h:Rep K C z v):Rep (K.shut c w) C (z.fix i vs) v:=by
 have A:=Ot hI hb rfl hc;induction h with
 |v h=>exact .v h
 |iK=>exact .iK
 |sl vals hlen ht hcap hcell hk a ih=>exact .sl vals hlen ht hcap hcell (fun i j z e=>A _ _ _ (hk i j z e)) (fun i j z e=>(a i j z e).mono A (CLe.refl _))
 |bs hc' hcap hlen=>exact .bs hc' hcap hlen
 |lZ hc'=>exact .lZ hc'
 |ptr hc'=>
  rename_i C j e o b H Q L;simp only [X.fix];split
  ·rename_i n;simp at n;obtain ⟨rfl,rfl⟩:=n;rw [hc] at hc';simp at hc';subst hc';obtain ⟨rfl,V,f,el,S,a⟩:=hI.box j _ _ hb hc;have m:∀(k:Nat) (y:X),(vs.drop o)[k]?=some y->∃u,f[o+k]?=some u/\o+k<vs.length/\y∈vs/\Rep K C y u:=by intro k y e;rw [qas] at e;obtain ⟨u,B,l⟩:=a.get e;exact ⟨u,by grind,(qaj.1 e).1,qam e,l⟩
   rw [show 0+0*L+o=o by omega];refine .dp (fun k=>f.getD (o+k) undef) (fun k y e=>?_) (fun k y e=>?_) (fun k y e=>?_);·obtain ⟨u,_,_,E,_⟩:=m k y e;exact a.cell y E
   ·obtain ⟨u,B,F,_,_⟩:=m k y e;have M:(CB.at b 0 Q L).owns b (o+k):=⟨rfl,by omega,by omega⟩<;>simp_all[Iz,World.cell?]
   obtain ⟨u,B,F,E,l⟩:=m k y e;have N:f.getD (o+k) undef=u:=by simp [B]
   rw [N];have U:y.refs=[]:=List.eq_nil_iff_forall_not_mem.2 fun q O=>by have:q∈cO vs:=eX.2 ⟨y,E,O⟩<;>grind
   exact (l.ou U).mono A (CLe.refl _)
  exact .ptr hc'
 |dp vals hcell hk a ih=>exact .dp vals hcell (fun j z e=>A _ _ _ (hk j z e)) (fun j z e=>(a j z e).mono A (CLe.refl _))
 |fn hs a ih=>
  simp only [X.fix,Dy];refine .fn (by grind) (fun j z v e J=>?_)
  grind
 |agg hs hcell a ih=>
  simp only [X.fix,Dy];refine .agg (by grind) (fun z hz=>?_) (fun j z v e J=>?_);·obtain ⟨u,B,rfl⟩:=qal.1 hz<;>simp_all[Ue]
  grind
 |tup hs a ih=>
  simp only [X.fix,Dy];refine .tup (by grind) (fun j z v e J=>?_)
  grind
 |yl hc'=>exact .yl hc'
 |mp hc'=>exact .mp hc'
 |ifc=>exact .ifc
def zgR (P:Program)(R:aT)(x:Ctx)(σ:St)(a:Act)(w:World):Prop:=∃K C,Rel P R x K C σ a w
theorem zy (h:Rel P R x K C σ a w)(e:freeze i σ=some σ'):zgR P R x σ' a w:=by
 unfold freeze at e;split at e
 ·rename_i m j q;split at e
  ·rename_i n;simp at e;subst e;obtain ⟨c,u,_⟩:=h.inv.get q;simp [RP] at n;have:=h.turn (f:=X.frz i m j) (good:=fun z=>z.within i j.length=true) q rfl rfl u (Ud i m j) (fun z v E B=>B.frz h.inv q u E) (iU.1 n.1) (fun A y z hz=>by
    have l:=n.2 A y;cases A with
    |var cs=>exact iU.1 l z hz
    |loop st p tm ps a b=>exact iU.1 l z hz
    |row=>grind[Bx.vals]
    |map=>grind[Bx.vals]
    |dead=>grind[Bx.vals])
   have F:Bx.frz i m j=Bx.VJ (X.frz i m j):=funext (zkL i m j);rw [F];exact ⟨_,_,this⟩
  grind
 grind
theorem Jv (h:Rel P R x K C σ a w)(e:yD i σ=some σ'):zgR P R x σ' a w:=by
 unfold yD at e;split at e
 ·rename_i j l;split at e;next n=>simp at e;subst e;obtain ⟨c,m,_⟩:=h.inv.get l;have:=h.turn (f:=X.fix i j) (good:=fun _=>True) l rfl rfl m (Ue i j) (fun z v _ q=>q.fix h.inv l m (List.isEmpty_iff.1 n)) (fun _ _=>trivial) (fun _ _ _ _=>trivial);have u:Bx.fix i j=Bx.VJ (X.fix i j):=funext (zkP i j);rw [u];exact ⟨_,_,this⟩
  simp at e;subst e;exact ⟨_,_,h⟩
 grind
theorem pW:∀{l:List Nat} {σ σ':St} {K:Kn} {C:List CB},Rel P R x K C σ a w->freezes l σ=some σ'->zgR P R x σ' a w
 |[],σ,σ',K,C,h,e=>by simp [freezes] at e;subst e;exact ⟨_,_,h⟩
 |i::r,σ,σ',K,C,h,e=>by
  simp only [freezes] at e;split at e;·obtain ⟨σ1,h1,h2⟩:=qaz.1 e;obtain ⟨K',C',h3⟩:=zy h h1;exact pW h3 h2
  exact pW h e
theorem Rel.zqO (h:Rel P R x K C σ a w)(hB:BoxOk P R K (C++[c]) w B c)(hc:∀b o,¬c.owns b o):Rel P R x K (C++[c]) ⟨σ.tm,σ.bx++[B]⟩ a w:=by
 refine {h with inv:=h.inv.push hB (fun b o j=>absurd j (hc b o)) (fun b o j=>absurd j (hc b o)),tm:=h.tm.mono (KLe.refl _) (CLe.append _ _),own:=?_,cin:=?_,defs:=?_,loops:=?_}
 ·intro b o f;rcases lG h.inv.size f with f|f;·exact h.own b o f
  grind
 ·intro i d e;exact CLe.append _ _ _ _ (h.cin i d e)
 ·obtain ⟨y,E,n,l⟩:=h.defs.marks;refine ⟨⟨y,E,n,fun r m=>⟨(l r m).1,(l r m).2.1,fun k f=>?_⟩⟩,h.defs.round⟩;rcases lG h.inv.size f with f|f<;>grind
 intro i q u;obtain ⟨H,F,A⟩:=h.loops i q u<;>grind
theorem LC {t:Bool}(h:Rep K C (.sl t sz []) v)(ht:t=true):∃ob,v=.slice ob 0 0:=by generalize hz:X.sl t sz []=z at h;cases h<;>simp_all
theorem Qo {g:Gh}(h:Rel P R x K C σ a w)(e:ghost σ g=some σ'):zgR P R x σ' a w:=by
 have same:σ=σ'->zgR P R x σ' a w:=fun e=>⟨K,C,e▸h⟩;cases g with
 |thaw s o=>
  have L:=fun l=>h.zqO (B:=.row l []) (c:=.ghost) rfl (fun _ _ Z=>Z);have u:(C++[CB.ghost])[σ.bx.length]?=some .ghost:=by rw [<-h.inv.size];simp
  simp only [ghost] at e;split at e
  ·split at e
   ·rename_i l Q;simp at e;subst e;obtain ⟨v,W,q⟩:=h.tm s _ Q;obtain ⟨ob,rfl⟩:=LC q rfl;refine ⟨K,C++[.ghost],(L l).tms fun n y A=>?_⟩;simp only [lk] at A;split at A;next U=>simp at U;subst U;simp at A;subst A;exact ⟨_,W,.lZ u⟩
    exact (L l).tm n y A
   grind
  rename_i o;split at e
  ·rename_i i Y Q;split at e
   ·rename_i S J;split at e
    ·rename_i l N;simp at e;subst e;obtain ⟨c,V,f⟩:=h.inv.get J;have H:=CLe.append C [CB.ghost] i c V;have O:(σ.bx++[Bx.row l []])[i]?=some (.var S):=by rw [qao (qaj.1 J).1];exact J
     have F:BoxOk P R K (C++[.ghost]) w (.var (S.set (Y+o) (.bs σ.bx.length 0 0))) c:=by
      cases c with
      |«at»=>
       obtain ⟨h1,h2,E,el,M,q⟩:=f;refine ⟨h1,by grind,E,el,M,by simpa using q.len,fun z hz=>?_,fun j z v m ev=>?_⟩
       ·rcases List.mem_or_eq_of_mem_set hz with hz|rfl;·exact q.cell z hz
        rfl
       rw [List.getElem?_set] at m;split at m
       ·rename_i hj;split at m;·simp at m;subst m;subst hj;obtain ⟨ob,rfl⟩:=LC (q.rep _ _ _ N ev) rfl;exact .lZ u
        grind
       exact (q.rep j z v m ev).mono (KLe.refl _) (CLe.append _ _)
      |ghost=>exact f.elim
      |obj=>exact f.elim
     have:=(L l).yZ O rfl H (.refl _ w) F (fun e=>by cases e);refine ⟨K,C++[.ghost],?_⟩<;>grind
    grind
   grind
  grind
 |frz s o=>simp only [ghost] at e;split at e<;>grind[zy]
 |zaZ s=>grind[ghost,pW]
 |EK s=>grind[ghost,Jv]
theorem zu:∀{l:List Gh} {σ σ':St} {K:Kn} {C:List CB},Rel P R x K C σ a w->wQ l σ=some σ'->zgR P R x σ' a w
 |[],σ,σ',K,C,h,e=>by simp [wQ] at e;subst e;exact ⟨_,_,h⟩
 |g::r,σ,σ',K,C,h,e=>by
  simp only [wQ] at e;split at e
  ·grind
  rename_i σ1 h1;obtain ⟨K',C',h3⟩:=Qo h h1;exact zu h3 e
end
section
variable {A:Ann}{vs:Array Value}{g:FuncId}{i l:Nat}{σ':St}
variable {P:Program} {R:aT} {x:Ctx} {K:Kn} {C:List CB} {σ:St} {a:Act} {w:World}
variable {Γ:Gam} {gl:Nat->Option (List X)}
theorem Rel.Y7 (h:Rel P R x K C σ a w){sel:List Nat}{bx:List Bx}(e:Ew σ.bx sel=some bx)(ht:sel.take x.C0.length=List.range x.C0.length)(htm:∀i,i∈cO (σ.tm.map (·.2))->i∈sel):
  ∃C1,Rel P R x K C1 ⟨zgf (uV · sel) σ.tm,bx⟩ a w/\C1.length=bx.length/\∀(y:X) (v:Value),(∀i,i∈y.refs->i∈sel)->Rep K C y v->Rep K C1 (y.ren (uV · sel)) v:=by
 obtain ⟨C1,Y,U,L,J,M,pa,Wi,n⟩:=h.inv.pick e;have l:∀(b o:Nat),kQ C1 bx b o->kQ C σ.bx b o:=by
  rintro b o ⟨j,c,B',u,E,F,h4⟩
  obtain ⟨i,V,W⟩:=Wi j c u;obtain ⟨B,Z,O⟩:=J j i V;rw [O] at E;cases E;exact ⟨i,c,B,W,Z,by grind[mY],h4⟩
 have f:∀i,i<x.C0.length->sel[i]?=some i:=by
  intro i m;have u:(sel.take x.C0.length)[i]?=some i:=by rw [ht];simp [m]
  rw [qau,if_pos m] at u;exact u
 refine ⟨C1,{h with inv:=Y,tm:=h.tm.ren fun i m c q=>n i (htm i m) c q,own:=fun b o H=>h.own b o (l b o H),cin:=?_,defs:=?_,loops:=?_},by omega,fun y v hy A=>A.ren fun i m c q=>n i (hy i m) c q⟩;·intro i c q;exact L i i c (f i (qaj.1 q).1) (h.cin i c q)
 ·obtain ⟨Q,u,E,F⟩:=h.defs.marks;exact ⟨⟨Q,u,E,fun r A=>⟨(F r A).1,(F r A).2.1,fun o H=>(F r A).2.2 o (l r o H)⟩⟩,h.defs.round⟩
 intro i m N;obtain ⟨B,hB,S⟩:=h.loops i m N<;>grind[yj]
theorem QU (h:Rel P R x K C σ a w)(e:canon x.C0.length σ=some σ'):zgR P R x σ' a w:=by
 unfold canon at e;dsimp only at e;split at e;next f=>simp at f;obtain ⟨n,j,rfl⟩:=map_some e;obtain ⟨m,l,_,_⟩:=h.Y7 j f.2 (vG.1 f.1);exact ⟨K,m,l⟩
 grind
theorem Rel.defers (h:Rel P R x K C σ a w)(hr:x.rnd=none):Rel P R x K C σ {a with defers:=mark w.heap.size::a.defers} (w.alloc (.deferred (some []))):=by
 have j:=h.still (aO.alloc nowhere w (.deferred (some [])));refine {j with tm:=j.tm,nt:=j.nt,defs:=⟨?_,fun e=>by grind⟩};obtain ⟨A,E,B,l⟩:=h.defs.marks;obtain ⟨u,y,m,n⟩:=j.defs.marks;refine ⟨w.heap.size::A,by grind,List.nodup_cons.2 ⟨fun f=>?_,B⟩,fun r f=>?_⟩
 ·grind
 rcases qak.1 f with rfl|f;·refine ⟨World.alloc_heap_new w _,h.frame.size,fun o q=>?_⟩;have:=h.inv.qX q;omega
 refine ⟨(aO.alloc nowhere w (.deferred (some []))).obj (l r f).1 trivial (o₀:=0) id,(l r f).2.1,(l r f).2.2⟩
def jd (P:Program)(gl:Nat->Option (List X)):aT:=⟨fun nt assign body a b=>∃A,fD P gl A nt assign=some a/\fD P gl A nt body=some b,gl⟩
def zoy:Ex->Exit
 |.norm=>.normal
 |.exit i=>.exit i
 |.ret=>.ret
theorem Qp (h:Rel P R x K C σ a w){lr:Nat}(hr:x.rnd=some lr):∃lp:Loop,w.heap[lr]?=some (.loop lp):=by
 obtain ⟨i,j,n,f⟩:=h.rnd lr hr;obtain ⟨B,m,l⟩:=h.loops i j n;have:=h.inv.box i B _ m (h.cin i _ f);cases B with
 |loop st p tm ps am bm=>obtain ⟨lp,q,_⟩:=this<;>grind
 |_=>grind[Bx.gI]
theorem QD {ps:Array Tmp}{assign body:Code}{am bm:Em.C}{live:List Nat}{nt:Nat}(hx:x.nt=nt)(h:Rel P (jd P gl) x K C σ a w)(hps:∀p,p∈ps.toList->p<nt)(ha:fD P gl A nt assign=some am)(hb:fD P gl A nt body=some bm)(fn:FuncId):
  ∃(l:Nat) (mk:List Deferred) (w1:World),(Instr.enterLoop fn a.tmps ps assign body x.rnd).run P w=.ok (l,mk) w1/\
   Rel P (jd P gl) x K (C++[.obj l]) ⟨σ.tm,σ.bx++[.loop .ready none (keep live σ.tm) ps.toList am bm]⟩ {a with defers:=mk++a.defers} w1:=by
 have f:∀(mk:List Deferred) (w0:World) (L:Loop),Rel P (jd P gl) x K C σ {a with defers:=mk++a.defers} w0->L.state=.ready->L.pending=none->L.tmps=a.tmps->L.params=ps->L.assign=assign->L.body=body->
   Rel P (jd P gl) x K (C++[.obj w0.heap.size]) ⟨σ.tm,σ.bx++[.loop .ready none (keep live σ.tm) ps.toList am bm]⟩ {a with defers:=mk++a.defers} (w0.alloc (.loop L)):=by
  intro mk w0 L n J u j y E B;refine n.push _ ⟨L,World.alloc_heap_new w0 _,J,by rw [u];trivial,?_,by rw [y],fun p M=>?_,⟨A,?_,?_⟩⟩ (fun b k H=>H);·rw [j];exact (h.tm.keep live).mono (KLe.refl _) (CLe.append _ _)
  ·rw [j,h.nt,hx]<;>grind
  ·rw [j,h.nt,hx,E]<;>grind
  rw [j,h.nt,hx,B]<;>grind
 cases m:x.rnd with
 |none=>refine ⟨w.heap.size+1,[mark w.heap.size],_,run_enterLoop_outer _ _ _ _ _,?_⟩;have:=f [mark w.heap.size] _ {state:=.ready,pending:=none,fn,tmps:=a.tmps,params:=ps,assign,body,defers:=w.heap.size} (h.defers m) rfl rfl rfl rfl rfl rfl<;>simp_all
 |some lr=>obtain ⟨q,F⟩:=Qp h m;refine ⟨w.heap.size,[],w.alloc (.loop {state:=.ready,pending:=none,fn,tmps:=a.tmps,params:=ps,assign,body,defers:=q.defers}),?_,f [] w _ h rfl rfl rfl rfl rfl rfl⟩<;>simp_all[Instr.enterLoop,run_getLoop]
theorem y9 {S:Nat->Nat->Prop}{g:Nat}{o o':Obj}(hg:w.heap[g]?=some o)(ho:uI (some o))(ho':uI (some o'))(hs:∀i,S g i):aO S w (w.putObj g o'):=aO.setObj hg ho ho' hs
theorem zoU (h:Rel P R x K C σ a w):x.C0.length<=C.length:=by
 rcases Nat.lt_or_ge C.length x.C0.length with h1|h1;·have:=h.cin C.length _ (qad h1)<;>simp_all
 grind
theorem Rel.jD (h:Rel P R x K C σ a w){st st':LoopState}{pend OT:Option Ex}{tm:List (Nat×X)}{ps:List Nat}{am bm:Em.C}(hB:σ.bx[i]?=some (.loop st pend tm ps am bm))(hc:C[i]?=some (.obj l)){jump:Option Code}(hj:H6 OT jump):
  ∃lp:Loop,w.heap[l]?=some (.loop lp)/\lp.state=st/\H6 pend lp.pending/\Rel P R x K C ⟨σ.tm,σ.bx.set i (.loop st' OT tm ps am bm)⟩ a (w.putObj l (.loop {lp with state:=st',pending:=jump})):=by
 obtain ⟨lp,m,f⟩:=h.inv.box i _ _ hB hc;refine ⟨lp,m,f.hst,f.zes,?_⟩;have j:=(qaR.1 m).1;refine h.yZ hB rfl hc (y9 m trivial trivial fun _=>rfl) ⟨_,World.putObj_heap_same j,rfl,hj,f.htm,f.hps,f.hin,f.hcode⟩ (fun e=>e)
theorem QE {e:Ex}(h:Rel P R x K C σ a w)(hc:C[i]?=some (.obj l))(hi:¬i<x.C0.length)(he:zfe i σ=some (e,σ')):
  ∃(jump:Option Code) (w':World),(Instr.endLoop l).run P w=.ok jump w'/\zgR P R x σ' a w'/\((jump=none/\e=.norm)\/(jump=some .ret/\e=.ret)\/∃k,jump=some (.exit k)/\e=.exit k):=by
 unfold zfe at he;split at he
 ·rename_i st n tm S L Q A;split at he
  ·grind
  rename_i F;simp at he;obtain ⟨rfl,rfl⟩:=he;obtain ⟨m,q,E,f,_⟩:=h.jD (st':=.exhausted) (OT:=none) (jump:=none) A hc trivial;obtain ⟨J,u,M,U,H⟩:=h.jD (st':=.exhausted) (OT:=n) (jump:=m.pending) A hc f;rw [q] at u;simp at u;subst u;have O:=H.kill i (fun B e N=>hi);refine ⟨m.pending,_,run_endLoop q (by grind),⟨K,C,?_⟩,?_⟩;·simp_all
  cases n with
  |none=>
   cases j:m.pending with
   |none=>grind
   |some c=>rw [j] at f;exact f.elim
  |some y=>
   cases j:m.pending with
   |none=>rw [j] at f;cases y<;>exact f.elim
   |some c=>
    rw [j] at f;cases y with
    |norm=>exact f.elim
    |ret=>cases c<;>first|exact f.elim|grind
    |exit k=>cases c with
     |exit k'=>simp_all[H6]
     |_=>exact f.elim
 grind
theorem ZV {args:Array Value}(hok:zfN P g)(w:World):(invoke (.fn (.func g) vs) args).run P w=.ok (.enter g (args++vs)) w:=by
 have h:invoke (.fn (.func g) vs) args=callFunc g (args++vs):=by simp only [invoke]
 rw [h];exact hok _ w
theorem Vm {f:Operand}(hv:a.eval f=.func (.func g) #[] vs)(w:World):(resolve a.eval (rangeCall f l) 0).run P w=.ok {target:=.fn (.func g) vs,args:=#[.func (.yield l) #[] #[]]} w:=by have h:a.eval (.const (.func (.yield l) #[] #[]))=.func (.yield l) #[] #[]:=rfl<;>simp_all[resolve,Deferred.ofValue]
theorem qM (hΓ:qE P (jd P gl) Γ){fu:Nat}:∀(c:Code) {m:Em.C},fD P gl A x.nt c=some m->∀{σ σ':St} {e:Ex} {K:Kn} {C:List CB} {a:Act} {w:World} {Q:Exit->Act->World->Prop},
  Rel P (jd P gl) x K C σ a w->run Γ x.C0.length fu m σ=some (e,σ')->(∀K' C' a' w',Em.Rel P (jd P gl) x K' C' σ' a' w'->Q (zoy e) a' w')->c.wpIn (Fr x.rnd) 0 P Q a w:=by
 intro c;induction c with
 |skip=>intro m E σ σ' e K C a w Q h B F;simp [fD] at E;subst E;simp [run] at B;obtain ⟨rfl,rfl⟩:=B;exact wpIn_skip (F K C a w h)
 |exit id=>intro m E σ σ' e K C a w Q h B F;simp [fD] at E;subst E;simp [run] at B;obtain ⟨rfl,rfl⟩:=B;exact wpIn_exit (F K C a w h)
 |ret=>intro m E σ σ' e K C a w Q h B F;simp [fD] at E;subst E;simp [run] at B;obtain ⟨rfl,rfl⟩:=B;exact wpIn_ret (F K C a w h)
 |region id ops J=>
  intro m E σ σ' e K C a w Q h B F;simp only [fD] at E;split at E
  ·grind[run]
  rename_i l hl;have pl:∀ps,m=.reg (A.gh id) ps l (A.live id)->((J=true/\oH ops l=some ps)\/J=false)->(Code.region id ops J).wpIn (Fr x.rnd) 0 P Q a w:=by
   intro ps pi hd;subst pi;simp only [run] at B;split at B
   ·grind
   rename_i σ1 hg;obtain ⟨K1,C1,L⟩:=zu h hg;split at B
   ·grind
   rename_i σ2 pn M;split at B
   ·rename_i hp;simp at B;obtain ⟨rfl,rfl⟩:=B;have Z:∀K' C' a' w',Em.Rel P (jd P gl) x K' C' σ2 a' w'->Q .normal a' w':=fun K' C' a' w' H=>F K' C' a' w' (H.tms (H.tm.keep _));rcases hd with ⟨rfl,hd⟩|rfl;·exact OL hΓ L hl hd M hp Z
    exact OJ hΓ L hl M Z
   grind
  cases J with
  |true=>simp only [if_true] at E;obtain ⟨ps,O,rfl⟩:=map_some E<;>simp_all
  |false=>grind
 |seq c1 c2 ih1 ih2=>
  intro m E σ σ' e K C a w Q h B F;simp only [fD] at E;split at E
  ·rename_i m1 m2 L h2;simp at E;subst E;simp only [run] at B;split at B;next σ1 M=>exact wpIn_seq (ih1 L h M fun K' C' a' w' H=>ih2 h2 H B F)
   rename_i pd;refine wpIn_seq (ih1 L h B fun K' C' a' w' H=>?_);have:=F K' C' a' w' H;cases e with
   |norm=>grind
   |exit k=>exact this
   |ret=>exact this
  grind
 |cond q c1 c2 ih1 ih2=>
  intro m E σ σ' e K C a w Q h B F;simp only [fD] at E;split at E
  ·rename_i q' m1 m2 hq L h2;simp at E;subst E;simp only [run] at B;split at B
   ·rename_i t ht;have hv:=fH (bC h.inv.glob h.tm hq ht);refine wpIn_cond_split hv (fun e=>?_) (fun e=>?_)
    ·grind
    grind
   grind
  grind
 |block id c ih=>
  intro m E σ σ' e K C a w Q h B F;simp only [fD] at E;obtain ⟨m1,L,rfl⟩:=map_some E;simp only [run] at B;refine wpIn_block ?_;split at B
  ·rename_i j σ1 M;refine ih L h M fun K' C' a' w' H=>?_;show (if j=id then Q .normal a' w' else Q (.exit j) a' w');by_cases W:j=id
   ·have:(j==id)=true:=by simpa using W
    rw [this] at B;simp at B;obtain ⟨rfl,rfl⟩:=B;rw [if_pos W];exact F K' C' a' w' H
   have:(j==id)=false:=by simpa using W
   rw [this] at B;simp at B;obtain ⟨rfl,rfl⟩:=B;rw [if_neg W];exact F K' C' a' w' H
  rename_i pd;refine ih L h B fun K' C' a' w' H=>?_;have:=F K' C' a' w' H;cases e with
  |norm=>exact this
  |exit k=>grind
  |ret=>exact this
 |loop c ih=>
  intro m E σ σ' e K C a w Q h B F;simp only [fD] at E;obtain ⟨m1,L,rfl⟩:=map_some E;simp only [run] at B;refine wpIn_loop_rounds fu ?_;have pl:∀(n:Nat) {σ:St} {K:Kn} {C:List CB} {a:Act} {w:World},Rel P (jd P gl) x K C σ a w->iter x.C0.length (run Γ x.C0.length fu m1) n σ=some (e,σ')->Code.roundsIn (Fr x.rnd) 0 P c Q n a w:=by
   intro n;induction n with
   |zero=>grind[iter]
   |succ n ihn=>
    intro σ K C a w h B;simp only [iter] at B;split at B
    ·grind
    rename_i σ1 hc;obtain ⟨K1,C1,h2⟩:=QU h hc;rw [roundsIn_succ];split at B;next σ2 M=>exact ih L h2 M fun K' C' a' w' H=>ihn H B
    rename_i pd;refine ih L h2 B fun K' C' a' w' H=>?_;have:=F K' C' a' w' H;cases e with
    |norm=>grind
    |exit k=>exact this
    |ret=>exact this
  grind
 |rangeFunc f ps c1 c2 ih1 ih2=>
  intro m E σ σ' e K C a w Q h B F;simp only [fD] at E;split at E
  ·rename_i f' am bm hf ha hb;split at E
   ·grind
   rename_i O;simp at E;obtain ⟨live,U⟩:∃live,m=.rf f' ps.toList live am bm:=⟨_,E.symm⟩;subst U;have pj:∀p,p∈ps.toList->p<x.nt:=by intro p hp;simp only [Bool.not_eq_true',Bool.not_eq_false] at O;have:=Array.all_eq_true_iff_forall_mem.1 O p (by grind);simpa using this
   simp only [run] at B;split at B
   ·rename_i g pf hg;split at B
    ·grind
    rename_i pp bx po S;have rf:=bC h.inv.glob h.tm hf hg;generalize hv:a.eval f=v at rf;cases rf with
    |fn M hrep=>
     rename_i vs;refine wpIn_rangeFunc fun fn _=>?_;obtain ⟨l,mk,w1,pg,L⟩:=QD (live:=live) rfl h pj ha hb fn;have pb:(C++[CB.obj l])[σ.bx.length]?=some (.obj l):=by rw [<-h.inv.size];simp
     have V:dG K (C++[.obj l]) (.yl σ.bx.length::pf) (#[.func (.yield l) #[] #[]]++vs):=by
      have h0:dG K (C++[.obj l]) [.yl σ.bx.length] #[.func (.yield l) #[] #[]]:=⟨rfl,fun j y u e e'=>by
       cases j with
       |zero=>simp at e e';subst e;subst e';exact .yl pb
       |succ j=>grind⟩
      exact jV h0 ⟨M,fun j y u e e'=>(hrep j y u e e').mono (KLe.refl _) (CLe.append _ _)⟩
     obtain ⟨ph,zq⟩:=Hq hΓ L V S;have N:=ZV (vs:=vs) (args:=#[.func (.yield l) #[] #[]]) ph w1;have pa:=Vm (P:=P) (a:={a with defers:=mk++a.defers}) (l:=l) hv w1;generalize (#[.func (.yield l) #[] #[]]++vs:Array Value)=aQ at zq N;refine ⟨l,mk,w1,_,w1,g,aQ,w1,pg,pa,?_,N,?_,?_⟩;·exact fun _ _=>trivial
     ·grind[Fr,Fence.wide]
     refine Hl (zq.mono ?_)
     rintro e1 w' ⟨v,K',C',rfl,pk,pe,_⟩
     obtain ⟨pc,w4,Y,⟨K4,C4,h4⟩,W⟩:=QE pe (pk _ _ pb) (by have:=zoU h;have:=h.inv.size;omega) B;refine ⟨pc,w4,Y,?_⟩;rcases W with ⟨rfl,rfl⟩|⟨rfl,rfl⟩|⟨k,rfl,rfl⟩;·exact F _ _ _ _ h4
     ·exact wpIn_ret (F _ _ _ _ h4)
     exact wpIn_exit (F _ _ _ _ h4)
   grind
  grind
 |scope b ih=>grind[fD]
 |label l=>grind[fD]
 |goto l=>grind[fD]
 |refuse y=>grind[fD]
end
section
variable {fn:Func}{f:FuncId}{inb outb:List Bx}
variable {P:Program} {R:aT} {x:Ctx} {K:Kn} {C:List CB} {σ:St} {a:Act} {w:World}
variable {Γ:Gam} {gl:Nat->Option (List X)}
theorem Gi {y y':X}{v:Value}(h:Rel P R x K C σ a w)(hF:x.Fp=kQ x.C0 inb)(hlen:x.C0.length=inb.length)(zoh:∀(i:Nat) (B:Bx),inb[i]?=some B->B.gI=true->x.loops i=true)
  (hy:Rep K C y v) (e:pack inb.length y σ.bx=some (y',outb)):∃E,zlX P R x.K0 x.C0 inb x.w0 y' outb v w K E:=by
 unfold pack at e;dsimp only at e;split at e
 ·rename_i L;simp at L;obtain ⟨bx,l,F⟩:=map_some e;simp at F;obtain ⟨rfl,rfl⟩:=F;have H:=h.tms (tm:=[]) (fun n z hz=>by grind[lk]);obtain ⟨m,f,O,S⟩:=H.Y7 (bx:=bx) l (by grind) (fun i j=>by grind[cO]);have J:=zoU f;have A:m=x.C0++m.drop x.C0.length:=by
   refine List.ext_getElem? fun i=>?_;by_cases j:i<x.C0.length;·rw [qao j,qad j];exact f.cin i _ (qad j)
   ·grind
  refine ⟨m.drop x.C0.length,?_⟩;refine ⟨by rw [<-A];exact f.inv,by grind[vG],f.k0,fun b o u M=>?_,fun b o q=>?_,?_,fun i B Q N=>?_⟩;·have:=f.knew b o u M;rw [hF] at this<;>grind
  ·rw [<-A] at q;have:=f.own b o q;rw [hF] at this<;>grind
  ·have:=f.frame<;>grind
  exact f.loops i (by grind) (zoh i B Q N)
 grind
theorem IJ (h:Rel P R x K C σ a w)(f:ResultVar->Sem Value)(h1:∀t,f (.tmp t)=pure (a.tmps.getD t undef))(h2:∀t ty,f (.cell t ty)=(do loadVar ty (<-asAddr (a.tmps.getD t undef)))):
  ∀(l:List ResultVar) {rs:List Rv} {xs:List X},KI P l=some rs->Xo σ rs=some xs->∃vs:List Value,(l.mapM f).run P w=.ok vs w/\vs.length=xs.length/\∀(j:Nat) (y:X) (v:Value),xs[j]?=some y->vs[j]?=some v->Rep K C y v
 |[],rs,xs,e1,e2=>by simp_all[KI,Xo]
 |.tmp t::r,rs,xs,e1,e2=>by
  simp only [KI] at e1;obtain ⟨rs',hrs,rfl⟩:=map_some e1;simp only [Xo] at e2;split at e2
  ·grind
  rename_i y hy;obtain ⟨xs',hxs,rfl⟩:=map_some e2;obtain ⟨vs,g1,g2,g3⟩:=IJ h f h1 h2 r hrs hxs;obtain ⟨v,hv,hr⟩:=h.tm t y hy;have hd:a.tmps.getD t undef=v:=by simp [hv]
  refine ⟨v::vs,?_,by grind,fun j z u ez eu=>?_⟩;·simp_all
  grind
 |.cell t ty::r,rs,xs,e1,e2=>by
  simp only [KI] at e1;split at e1
  ·rename_i n rs' hn hrs;simp at e1;subst e1;simp only [Xo] at e2;split at e2
   ·grind
   rename_i y hy;obtain ⟨xs',hxs,rfl⟩:=map_some e2;obtain ⟨vs,g1,g2,g3⟩:=IJ h f h1 h2 r hrs hxs;obtain ⟨p,hp,hl⟩:=qaz.1 hy;obtain ⟨pv,hpv,hr⟩:=h.tm t p hp;obtain ⟨b,o,v,rfl,hload,hrv⟩:=MB h.inv hn hr hl;have hd:a.tmps.getD t undef=.pointer (some ⟨b,o,none⟩):=by simp [hpv]
   refine ⟨v::vs,?_,by grind,fun j z u ez eu=>?_⟩;·simp_all[asAddr]
   grind
  grind
def zpB (tmps:Array Value):ResultVar->Sem Value
 |.tmp t=>pure (tmps.getD t undef)
 |.cell b t=>do loadVar t (<-asAddr (tmps.getD b undef))
theorem Vl (fn:Func)(tmps:Array Value):results fn tmps=(do let vs <-fn.results.mapM (zpB tmps);pure (if h:vs.size=1 then vs[0] else .tuple vs)):=by
 unfold results;have:(fun v:ResultVar=>zpB tmps v)=zpB tmps:=rfl;rw [<-this]
 congr 2
theorem OG (h:Rel P R x K C σ a w){rs:List Rv}{xs:List X}(htr:KI P fn.results.toList=some rs)(hx:Xo σ rs=some xs):∃v,(results fn a.tmps).run P w=.ok v w/\Rep K C (qW xs) v:=by
 obtain ⟨l,u,q,n⟩:=IJ h (zpB a.tmps) (fun _=>rfl) (fun _ _=>rfl) _ htr hx;have f:(results fn a.tmps).run P w=.ok (if h:l.toArray.size=1 then l.toArray[0] else .tuple l.toArray) w:=by rw [Vl,Array.mapM_eq_mapM_toList];simp only [map_eq_pure_bind,Sem.run_bind];rw [u];simp [Result.andThen]
 refine ⟨_,f,?_⟩;by_cases m:xs.length=1;·obtain ⟨y,rfl⟩:=List.length_eq_one_iff.1 m;obtain ⟨v,rfl⟩:=List.length_eq_one_iff.1 (q.trans m);simp only [List.size_toArray,List.length_singleton,dif_pos,qW];exact n 0 y v rfl rfl
 have A:¬l.toArray.size=1:=by simpa [q] using m
 rw [dif_neg A];have B:qW xs=.tup xs:=by
  unfold qW;split
  ·grind
  rfl
 rw [B];exact .tup (by grind) fun j y v e E=>n j y v e (by grind)
theorem zk {fn:Func}{tmps:Array Value}{Rp:Ending->World->Prop}:∀(rs:List Nat) (w:World),(∀r,r∈rs->w.heap[r]?=some (.deferred (some [])))->rs.Nodup->
  (∀w',aO (fun b _=>b∈rs) w w'->∃v,(results fn tmps).run P w'=.ok v w'/\Rp (.returned v) w')->LeavesInM (Fr none) 0 P fn tmps Rp (rs.map mark) .returning w
 |[],w,_,_,h=>by obtain ⟨v,h1,h2⟩:=h w (.refl _ w);exact ⟨v,h1,h2⟩
 |r::rs,w,hm,hn,h=>by
  rw [List.nodup_cons] at hn;have hr:=hm r (by simp);refine ⟨by simp,.inl ⟨r,w.putObj r (.deferred none),rfl,run_takeDeferred hr,?_⟩⟩;refine zk rs _ (fun k hk=>?_) hn.2 (fun w' hf=>h w' ?_)
  ·grind[World.putObj_heap_other]
  have h1:aO (fun b _=>b∈r::rs) w (w.putObj r (.deferred none)):=y9 hr trivial trivial (fun _=>by simp);exact h1.trans hf (fun b o _ hb=>by grind)
theorem Rel.zmB (h:Rel P R x K C σ a w){rs:List Nat}(hm:∀r,r∈rs->w.heap[r]?=some (.deferred (some []))/\x.w0.heap.size<=r/\∀o,¬kQ C σ.bx r o){w':World}(hf:aO (fun b _=>b∈rs) w w'):
  Rel P R x K C σ {a with defers:=[]} w':=by
 refine {h with inv:=h.inv.frame hf (fun b o v e f=>?_) (fun b o j f=>(hm b f).2.2 o j),tm:=h.tm,nt:=h.nt,frame:=h.frame.trans hf (fun b o l f=>?_),defs:=⟨⟨[],rfl,List.nodup_nil,fun r m=>by grind⟩,fun _=>rfl⟩};·have:=h.inv.known b o v e<;>grind[World.cell?]
 grind
theorem SH:∀(xs:List X) (n k:Nat),lk (H8 n xs) k=if n<=k then xs[k-n]? else none
 |[],n,k=>by grind[H8,lk]
 |z::r,n,k=>by
  simp only [H8,lk,SH r (n+1) k]
  grind
def sU (inb:List Bx)(i:Nat):Bool:=match inb[i]? with|some B=>B.gI|none=>false
theorem zl {i:Nat}{B:Bx}(h:inb[i]?=some B):sU inb i=B.gI:=by grind[sU]
theorem N8 (hf:P.funcs[f]?=some fn)(hn:¬fn.name= "runtime.NumGoroutine")(hb:¬fn.body=none):zfN P f:=by
 intro a w;simp [callFunc,program,Sem.run,hf,hn,hb]
theorem Vg (hΓ:qE P (jd P gl) Γ){fd:Fun}{A:Ann}{fu:Nat}{args:List X}{res:X}(htr:XO P gl A f=some fd)(e:zl8 Γ fu fd args inb=some (res,outb)):
  zfN P f/\EZ P (jd P gl) f args inb res outb:=by
 unfold XO at htr;split at htr
 ·grind
 rename_i fn J;split at htr
 ·grind
 rename_i W;split at htr
 ·rename_i m rs hm Y;split at htr
  ·rename_i U;simp at htr;subst htr;obtain ⟨c,hb,Q⟩:=qaz.1 hm;refine ⟨N8 J (by grind) (by grind),?_⟩;intro K C w u hI h;unfold zl8 at e;split at e
   ·rename_i q;simp at q;have V:u.size<=fn.ntmps:=by rw [h.1,q];exact U
    let x:Ctx:={nt:=fn.ntmps,K0:=K,C0:=C,loops:=sU inb,w0:=w,Fp:=kQ C inb,rnd:=none}
    have N:Rel P (jd P gl) x K C ⟨H8 0 args,inb⟩ {tmps:=u++Array.replicate (fn.ntmps-u.size) undef,defers:=[]} w:=by
     refine ⟨hI,fun n y S=>?_,?_,KLe.refl _,fun b o v ev=>.inl ev,fun b o ho=>.inl ho,fun i c Q=>Q,.refl _ _,⟨⟨[],rfl,List.nodup_nil,fun r j=>by grind⟩,fun _=>rfl⟩,fun i hi hl=>?_,fun l hl=>by grind⟩
     ·rw [SH] at S;simp at S;have hn:=(qaj.1 S).1;have pa:n<u.size:=by rw [h.1];exact hn
      refine ⟨u[n],?_,h.2 n y _ S (qaC pa)⟩<;>grind
     ·grind
     ·grind[sU]
    have MR:x.C0.length=inb.length:=hI.size;have H:∀(σ':St) (K':Kn) (C':List CB) (a':Act) (w':World),Em.Rel P (jd P gl) x K' C' σ' a' w'->((Xo σ' rs).bind fun xs=>pack inb.length (qW xs) σ'.bx)=some (res,outb)->
      LeavesInM (Fr none) 0 P fn a'.tmps (Post P (jd P gl) K C inb w res outb) a'.defers .returning w':=by
     intro σ' K' C' a' w' j he;obtain ⟨xs,pb,Z⟩:=qaz.1 he;obtain ⟨ms,pd,pc,O⟩:=j.defs.marks;rw [pd];refine zk ms w' (fun r j=>(O r j).1) pc fun pe hf=>?_;have M:=j.zmB O hf;obtain ⟨v,hv,L⟩:=OG M Y pb;obtain ⟨E,hE⟩:=Gi M rfl MR (fun i B hB hl=>by grind[zl]) L Z;exact ⟨v,hv,v,K',E,rfl,hE⟩
    refine (callsIn_wide (n:=0)).1 (callsIn_of_wp_marks (F:=Fr none) J hb trivial ?_);split at e;next σ' a=>rw [<-MR] at a;exact qM (x:=x) hΓ c Q N a fun K' C' a' w' j=>H σ' K' C' a' w' j e
    next σ' a=>rw [<-MR] at a;exact qM (x:=x) hΓ c Q N a fun K' C' a' w' j=>H σ' K' C' a' w' j e
    grind
   grind
  grind
 grind
end
section
variable {P:Program} {R:aT} {x:Ctx} {K:Kn} {C:List CB} {σ:St} {a:Act} {w:World}
variable {Γ:Gam} {gl:Nat->Option (List X)}
theorem Rh:∀{ps:List Nat} {as:List X} {vs:List Value} {tm tm':List (Nat×X)} {tmps:Array Value},Ko ps as tm=some tm'->vs.length=as.length->(∀(j:Nat) (y:X) (v:Value),as[j]?=some y->vs[j]?=some v->Rep K C y v)->
  (∀p,p∈ps->p<tmps.size)->zF K C tm tmps->ps.length=as.length/\zF K C tm' ((ps.zip vs).foldl (fun tmps q=>tmps.setIfInBounds q.1 q.2) tmps)
 |[],[],vs,tm,tm',tmps,e,hl,_,_,h=>by simp_all[Ko]
 |p::ps,y::as,[],tm,tm',tmps,e,hl,_,_,_=>by grind
 |p::ps,y::as,v::vs,tm,tm',tmps,e,hl,hr,hp,h=>by
  simp only [Ko] at e;have h1:zF K C ((p,y)::tm) (tmps.setIfInBounds p v):=by
   intro n z ez;simp only [lk] at ez;split at ez;next hn=>simp at hn;subst hn;simp at ez;subst ez;exact ⟨v,by grind,hr 0 y v rfl rfl⟩
   rename_i hn;obtain ⟨u,hu,hru⟩:=h n z ez<;>grind
  obtain ⟨g1,g2⟩:=Rh (vs:=vs) e (by simpa using hl) (fun j z u ez eu=>hr (j+1) z u (by simpa using ez) (by simpa using eu)) (fun q hq=>by simpa using hp q (by simp [hq])) h1<;>simp_all
 |[],_::_,_,_,_,_,e,_,_,_,_=>by grind[Ko]
 |_::_,[],_,_,_,_,e,_,_,_,_=>by grind[Ko]
theorem GX:∀(l:List (Nat×Value)) (tmps:Array Value),(l.foldl (fun tmps q=>tmps.setIfInBounds q.1 q.2) tmps).size=tmps.size
 |[],_=>rfl
 |q::l,tmps=>by simp [GX l]
theorem EP {l i:Nat}{bx:List Bx}{pend:Option Ex}{st:LoopState}(h:Rel P R x K C σ a w)(hc:C[i]?=some (.obj l))(jump:Option Code)(hj:H6 pend jump)(hst:st=if jump.isNone then .ready else .done)
  (e:jD σ.bx i .busy st pend=some bx):∃w',(Instr.endRound l jump).run P w=.ok (.bool jump.isNone) w'/\Rel P R x K C ⟨σ.tm,bx⟩ a w':=by
 unfold jD at e;split at e
 ·rename_i s p tm u m q f;split at e;·simp at e;subst e;obtain ⟨j,y,_,_,n⟩:=h.jD (st':=st) (OT:=pend) (jump:=jump) f hc hj<;>grind[run_endRound]
  grind
 grind
theorem Vf (hΓ:qE P (jd P gl) Γ){fu:Nat}{args:List X}{inb outb:List Bx}{res:X}(e:zl7 Γ fu args inb=some (res,outb)):zuE P (jd P gl) args inb res outb:=by
 unfold zl7 at e;split at e
 ·rename_i i as;refine ⟨i,as,rfl,fun K C w U l r hI S h=>?_⟩;split at e
  ·rename_i tm ps am bm hB;obtain ⟨u,hl,L⟩:=hI.box i _ _ hB S;obtain ⟨A,ph,Z⟩:=L.hcode;split at e
   ·grind
   rename_i pk hz;obtain ⟨pi,htm⟩:=Rh (vs:=U.toList) hz (by simpa using h.1) (fun j y v e1 e2=>h.2 j y v e1 (by grind)) L.hin L.htm;have pc:U.size=u.params.size:=by rw [h.1,<-pi,<-L.hps];simp
   have N:(u.params.zip U).foldl (fun tmps (t,a)=>tmps.setIfInBounds t a) u.tmps=(ps.zip U.toList).foldl (fun tmps q=>tmps.setIfInBounds q.1 q.2) u.tmps:=by rw [<-L.hps,<-Array.toList_zip,Array.foldl_toList]
   refine ⟨_,_,_,_,run_yield hl pc,?_⟩;rw [N];generalize pl:(ps.zip U.toList).foldl (fun tmps q=>tmps.setIfInBounds q.1 q.2) u.tmps=tmps at htm;have pe:tmps.size=u.tmps.size:=by rw [<-pl];exact GX _ _
   let x:Ctx:={nt:=u.tmps.size,K0:=K,C0:=C,loops:=sU inb,w0:=w,Fp:=kQ C inb,rnd:=some l}
   have n:∀(i:Nat) (B:Bx),inb[i]?=some B->B.gI=true->x.loops i=true:=fun i B hB hl=>by grind[zl]
   have O:Rel P (jd P gl) x K C ⟨pk,inb⟩ {tmps:=tmps,defers:=[]} w:=by
    refine ⟨hI,htm,pe,KLe.refl _,fun b o v ev=>.inl ev,fun b o L=>.inl L,fun i c hc=>hc,.refl _ _,⟨⟨[],rfl,List.nodup_nil,fun r hr=>by grind⟩,fun _=>rfl⟩,fun i S hl=>?_,fun l' Y=>?_⟩
    ·grind[sU]
    simp [x] at Y;subst Y;exact ⟨i,(qaj.1 S).1,n i _ hB rfl,S⟩
   have MR:x.C0.length=inb.length:=hI.size;refine roundIn_of_wpIn trivial ?_;have hF:(Fr r).inRound l=Fr x.rnd:=rfl;rw [hF];split at e
   ·rename_i σ1 F;rw [<-MR] at F;split at e
    ·grind
    rename_i bx m;refine qM (x:=x) hΓ u.assign ph O F fun K1 C1 a1 w1 h1=>?_;have W:=h1.cin i _ S;have pg:∃w2,(Instr.beginRound l).run P w1=.ok () w2/\Em.Rel P (jd P gl) x K1 C1 ⟨σ1.tm,bx⟩ a1 w2:=by
     unfold zbP at m;split at m;next pt pw px py V=>simp at m;subst m;obtain ⟨pn,pr,pz,pb,_⟩:=h1.jD (st':=.busy) (OT:=none) (jump:=none) V W trivial;obtain ⟨pp,po,pu,_,M⟩:=h1.jD (st':=.busy) (OT:=none) (jump:=pn.pending) V W pb<;>grind[run_beginRound]
     ·grind
    obtain ⟨w2,pa,M⟩:=pg;refine ⟨w2,pa,?_⟩;have J:∀(σ3:St) (pend:Option Ex) (st:LoopState) (jump:Option Code),H6 pend jump->(st=if jump.isNone then .ready else .done)->(jD σ3.bx i .busy st pend).bind (fun bx=>pack inb.length (.v (.bool jump.isNone)) bx)=some (res,outb)->
      ∀K3 C3 a3 w3,Em.Rel P (jd P gl) x K3 C3 σ3 a3 w3->∃v w',(Instr.endRound l jump).run P w3=.ok v w'/\Post P (jd P gl) K C inb w res outb (.returned v) w':=by
     intro σ3 pend st jump hj O he K3 C3 a3 w3 Q;obtain ⟨pd,pj,pf⟩:=qaz.1 he;obtain ⟨w4,H,h4⟩:=EP Q (Q.cin i _ S) jump hj O pj;obtain ⟨E,hE⟩:=Gi (σ:=⟨σ3.tm,pd⟩) h4 rfl MR n (y:=.v (.bool jump.isNone)) (.v rfl) pf;exact ⟨_,w4,H,_,K3,E,rfl,hE⟩
    split at e
    ·grind
    next σ3 f=>rw [<-MR] at f;exact qM (x:=x) hΓ u.body Z M f fun K3 C3 a3 w3 Q=>J σ3 none .ready none trivial rfl e K3 C3 a3 w3 Q
    rename_i ex σ3 pv f;rw [<-MR] at f;refine qM (x:=x) hΓ u.body Z M f fun K3 C3 a3 w3 Q=>?_;cases ex with
    |norm=>grind
    |ret=>exact J σ3 (some .ret) .done (some .ret) trivial rfl e K3 C3 a3 w3 Q
    |exit k=>exact J σ3 (some (.exit k)) .done (some (.exit k)) rfl rfl e K3 C3 a3 w3 Q
   grind
  grind
 grind
def zfM (P:Program)(gl:Nat->Option (List X))(T:FuncId->Option Fun):Prop:=∀f fd,T f=some fd->∃A,XO P gl A f=some fd
def zpo (P:Program)(gl:Nat->Option (List X))(ext:Ext):Prop:=∀f g,ext f=some g->∀args inb res outb,g args inb=some (res,outb)->zfN P f/\EZ P (jd P gl) f args inb res outb
theorem Au {T:FuncId->Option Fun}{ext:Ext}(hT:zfM P gl T)(hE:zpo P gl ext):∀n,qE P (jd P gl) (ah T ext n)
 |0=>⟨fun f args inb res outb e=>by grind[ah],fun args inb res outb e=>by grind[ah]⟩
 |n+1=>by
  have ih:=Au hT hE n;refine ⟨fun f args inb res outb e=>?_,fun args inb res outb e=>?_⟩
  ·simp only [ah] at e;split at e;next g hg=>exact hE f g hg args inb res outb e
   split at e;next fd hfd=>obtain ⟨A,hA⟩:=hT f fd hfd<;>grind[Vg]
   grind
  grind[ah,Vf]
end
end Go.Em
