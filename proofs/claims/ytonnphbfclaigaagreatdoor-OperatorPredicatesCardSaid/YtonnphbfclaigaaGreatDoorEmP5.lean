/-.-/
import Derived.RangeFuncRecord
import Derived.ControlIn
import Derived.Test.YtonnphbfclaigaaGreatDoorEmP4
set_option linter.all false
namespace Go.Em
variable {B:Bx}{c:CB}{K':Kn}{bx:List Bx}{b i o sz:Nat}{σ':St}{v:Value}{z:X}{good:X->Prop}{f:X->X}
variable {P:Program} {R:CodeRel} {x:Ctx} {K:Kn} {C:List CB} {σ:St} {a:Act} {w:World}
def Bx.mapX (f:X->X):Bx->Bx
 |.var cs=>.var (cs.map f)
 |.loop st p tm ps a b=>.loop st p (tm.map fun q=>(q.1,f q.2)) ps a b
 |.row s l=>.row s l
 |.map es=>.map es
 |.iter m s k=>.iter m s k
 |.dead=>.dead
def Bx.vals:Bx->List X
 |.var cs=>cs
 |.loop _ _ tm _ _ _=>tm.map (·.2)
 |_=>[]
theorem frzL_eq (i sz:Nat)(es:qbI):∀cs:List X,frzL i sz es cs=cs.map (X.frz i sz es)
 |[]=>rfl
 |z::r=>by simp [frzL,frzL_eq i sz es r]
theorem fixL_eq (i:Nat)(vs:List X):∀cs:List X,fixL i vs cs=cs.map (X.fix i vs)
 |[]=>rfl
 |z::r=>by simp [fixL,fixL_eq i vs r]
theorem frzB_eq (i sz:Nat)(es:qbI)(B:Bx):B.frz i sz es=B.mapX (X.frz i sz es):=by
 cases B<;>simp [Bx.frz,Bx.mapX,frzL_eq,frzT]
theorem fixB_eq (i:Nat)(vs:List X)(B:Bx):B.fix i vs=B.mapX (X.fix i vs):=by
 cases B<;>simp [Bx.fix,Bx.mapX,fixL_eq,fixT]
theorem live_mapX (f:X->X)(B:Bx):(B.mapX f).live=B.live:=by cases B<;>rfl
theorem isLoop_mapX (f:X->X)(B:Bx):(B.mapX f).isLoop=B.isLoop:=by cases B<;>rfl
theorem lk_map (f:X->X):∀(tm:List (Nat×X)) (n:Nat),lk (tm.map fun q=>(q.1,f q.2)) n=(lk tm n).map f
 |[],n=>rfl
 |(k,y)::r,n=>by have ih:=lk_map f r n<;>grind[lk]
noncomputable def Kn.shut (K:Kn)(c:CB)(w:World):Kn:=fun b o=>by classical exact if c.owns b o then w.cell? ⟨b,o,none⟩ else K b o
theorem shut_own (h:c.owns b o):K.shut c w b o=w.cell? ⟨b,o,none⟩:=by grind[Kn.shut]
theorem shut_other (h:¬c.owns b o):K.shut c w b o=K b o:=by grind[Kn.shut]
theorem shut_le (h:Inv P R K C bx w)(hB:bx[i]?=some B)(hl:B.live=true)(hc:C[i]?=some c):KLe K (K.shut c w):=by
 intro b o v e;have:¬c.owns b o:=fun hw=>by rw [h.apart b o ⟨i,c,B,hc,hB,hl,hw⟩] at e<;>grind
 grind[shut_other]
theorem TmOk.turn {tm:List (Nat×X)}{tmps:Array Value}(h:TmOk K C tm tmps)(hg:∀z,z∈tm.map (·.2)->good z)(hrep:∀z v,good z->Rep K C z v->Rep K' C (f z) v):TmOk K' C (tm.map fun q=>(q.1,f q.2)) tmps:=by
 intro n y e;rw [lk_map] at e;obtain ⟨z,hz,rfl⟩:=qa1.1 e;obtain ⟨v,hv,hr⟩:=h n z hz;obtain ⟨p,hp,rfl⟩:=lk_mem hz
 grind
theorem BoxOk.turn (h:BoxOk P R K C w B c)(hK:KLe K K')(hcell:∀z,(f z).isCell=z.isCell)(hg:∀z,z∈B.vals->good z)(hrep:∀z v,good z->Rep K C z v->Rep K' C (f z) v):
  BoxOk P R K' C w (B.mapX f) c:=by
 cases B with
 |dead=>trivial
 |var cs=>
  cases c with
  |«at»=>
   obtain ⟨h1,h2,arr,el,hb,hr⟩:=h;refine ⟨h1,by grind,arr,el,hb,by simpa using hr.len,fun z hz=>?_,fun j z v e e'=>?_⟩;·obtain ⟨u,hu,rfl⟩:=qbh.1 hz;rw [hcell];exact hr.cell u hu
   rw [qbe] at e;obtain ⟨u,hu,rfl⟩:=qa1.1 e;exact hrep u v (hg u (qa5 hu)) (hr.rep j u v hu e')
  |ghost=>exact h.elim
  |obj=>exact h.elim
 |row sz es=>exact h.mono hK (CLe.refl _) (.refl nowhere w) (fun _ _ _=>id)
 |map es=>exact h.mono hK (CLe.refl _) (.refl nowhere w) (fun _ _ _=>id)
 |iter m s k=>exact h.mono hK (CLe.refl _) (.refl nowhere w) (fun _ _ _=>id)
 |loop st p tm ps a b=>
  cases c with
  |obj=>obtain ⟨l,hl,ho⟩:=h;exact ⟨l,hl,ho.hst,ho.hpend,ho.htm.turn hg hrep,ho.hps,ho.hin,ho.hcode⟩
  |«at»=>exact h.elim
  |ghost=>exact h.elim
theorem Rel.turn (h:Rel P R x K C σ a w)(hB:σ.bx[i]?=some B)(hl:B.live=true)(hL:B.isLoop=false)(hc:C[i]?=some c)(hcell:∀z,(f z).isCell=z.isCell)
  (hrep:∀z v,good z->Rep K C z v->Rep (K.shut c w) C (f z) v) (hgt:∀z,z∈σ.tm.map (·.2)->good z) (hgb:∀A,A∈σ.bx->∀z,z∈A.vals->good z):
  Rel P R x (K.shut c w) C ⟨σ.tm.map fun q=>(q.1,f q.2),(σ.bx.map (Bx.mapX f)).set i .dead⟩ a w:=by
 have hK:=shut_le h.inv hB hl hc;have hget:∀(j:Nat) (A:Bx),((σ.bx.map (Bx.mapX f)).set i .dead)[j]?=some A->A.live=true->j≠i/\∃A0,σ.bx[j]?=some A0/\A=A0.mapX f/\A0.live=true:=by
  intro j A e hlA;rw [List.getElem?_set] at e;split at e
  ·grind[Bx.live]
  rename_i hij;rw [qbe] at e;obtain ⟨A0,h1,rfl⟩:=qa1.1 e;exact ⟨fun e=>hij e.symm,A0,h1,rfl,by grind[live_mapX]⟩
 have hown:∀b o,Owns C ((σ.bx.map (Bx.mapX f)).set i .dead) b o->Owns C σ.bx b o/\¬c.owns b o:=by
  rintro b o ⟨j,d,A,hd,hA,hlA,hw⟩
  obtain ⟨hne,A0,h1,rfl,h2⟩:=hget j A hA hlA;exact ⟨⟨j,d,A0,hd,h1,h2,hw⟩,fun hw'=>h.inv.disj j i d c A0 B b o hne hd hc h1 hB h2 hl hw hw'⟩
 have hmine:∀b o,c.owns b o->Owns C σ.bx b o:=fun b o hw=>⟨i,c,B,hc,hB,hl,hw⟩;refine {h with inv:=⟨h.inv.glob.mono hK,?_,by simpa using h.inv.size,?_,?_,?_⟩,tm:=h.tm.turn hgt hrep,k0:=h.k0.trans hK,knew:=?_,own:=fun b o ho=>h.own b o (hown b o ho).1,defs:=?_,loops:=?_}
 ·intro b o v e;by_cases hw:c.owns b o
  ·grind[shut_own]
  rw [shut_other hw] at e;exact h.inv.known b o v e
 ·intro b o ho;rw [shut_other (hown b o ho).2];exact h.inv.apart b o (hown b o ho).1
 ·intro j k d e A A' b o hne hd he hA hA' hlA hlA' hw;obtain ⟨_,A0,h1,rfl,h2⟩:=hget j A hA hlA;obtain ⟨_,A1,h3,rfl,h4⟩:=hget k A' hA' hlA';exact h.inv.disj j k d e A0 A1 b o hne hd he h1 h3 h2 h4 hw
 ·intro j A d hA hd;by_cases hlA:A.live=true;·obtain ⟨_,A0,h1,rfl,h2⟩:=hget j A hA hlA;exact (h.inv.box j A0 d h1 hd).turn hK hcell (hgb A0 (qa5 h1)) hrep
  cases A<;>first|trivial|simp [Bx.live] at hlA
 ·intro b o v e;by_cases hw:c.owns b o;·exact .inr (h.own b o (hmine b o hw))
  rw [shut_other hw] at e;exact h.knew b o v e
 ·obtain ⟨rs,h1,h2,h3⟩:=h.defs.marks;exact ⟨⟨rs,h1,h2,fun r hr=>⟨(h3 r hr).1,(h3 r hr).2.1,fun o ho=>(h3 r hr).2.2 o (hown r o ho).1⟩⟩,h.defs.round⟩
 intro j hj hl';obtain ⟨A,hA,hl''⟩:=h.loops j hj hl'<;>grind[isLoop_mapX]
theorem cell_frz (i sz:Nat)(es:qbI)(z:X):(z.frz i sz es).isCell=z.isCell:=by
 cases z with
 |bs j off len=>simp only [X.frz];split<;>rfl
 |_=>rfl
theorem cell_fix (i:Nat)(vs:List X)(z:X):(z.fix i vs).isCell=z.isCell:=by
 cases z with
 |ptr j e o=>simp only [X.fix];split<;>rfl
 |_=>rfl
theorem withinL_iff {i n:Nat}:∀{cs:List X},withinL i n cs=true↔∀z,z∈cs->z.within i n=true
 |[]=>by simp [withinL]
 |z::r=>by simp [withinL,withinL_iff (cs:=r)]
theorem Rep.frz (hI:Inv P R K C bx w){es:qbI}(hb:bx[i]?=some (.row sz es))(hc:C[i]?=some c)(h:Rep K C z v):z.within i es.length=true->Rep (K.shut c w) C (z.frz i sz es) v:=by
 have hK:=shut_le hI hb rfl hc;induction h with
 |v h=>exact fun _=>.v h
 |slNil=>exact fun _=>.slNil
 |sl vals hlen ht hcap hcell hk hr ih=>exact fun _=>.sl vals hlen ht hcap hcell (fun i j z e=>hK _ _ _ (hk i j z e)) (fun i j z e=>(hr i j z e).mono hK (CLe.refl _))
 |bs hc' hcap hlen=>
  rename_i C j off len b base hi sz' cap;intro hw;simp only [X.frz];split
  ·rename_i hji;have:j=i:=by simpa using hji
   subst this;simp [X.within] at hw;rw [hc] at hc';simp at hc';subst hc';obtain ⟨arr,el,g1,g2,g3,hbl,hf⟩:=(hI.box j _ _ hb hc).flat;subst g1;have hlen':((es.drop off).take len).length=len:=by simp;omega
   have:=(((hf.drop off).take len).mono hK).rep (K:=K.shut (.at b base hi sz') w) (C:=C) (t:=false) (b:=b) (o:=base+off*sz') (cap:=cap) (fun k u hu=>?_) (by simp) (by omega)
   ·grind
   rw [qbb] at hu;split at hu
   ·rename_i hk1;rw [qa8,qbb] at hu;split at hu
    ·rename_i hk2;rw [qa8,toArray_getElem?] at hu;have hown:(CB.at b base hi sz').owns b (base+off*sz'+k):=⟨rfl,by omega,by omega⟩
     grind[shut_own,World.cell?]
    grind
   grind
  exact .bs hc' hcap hlen
 |bsNil hc'=>
  intro hw;simp only [X.frz];split;·simp;exact .slNil
  exact .bsNil hc'
 |ptr hc'=>exact fun _=>.ptr hc'
 |dp vals hcell hk hr ih=>exact fun _=>.dp vals hcell (fun j z e=>hK _ _ _ (hk j z e)) (fun j z e=>(hr j z e).mono hK (CLe.refl _))
 |fn hs hr ih=>intro hw;simp only [X.frz,frzL_eq];refine .fn (by grind) (fun j z v e e'=>?_);rw [qbe] at e;obtain ⟨u,hu,rfl⟩:=qa1.1 e;exact ih j u v hu e' hI hc (withinL_iff.1 hw u (qa5 hu))
 |agg hs hcell hr ih=>
  intro hw;simp only [X.frz,frzL_eq];refine .agg (by grind) (fun z hz=>?_) (fun j z v e e'=>?_);·obtain ⟨u,hu,rfl⟩:=qbh.1 hz<;>simp_all[cell_frz]
  rw [qbe] at e;obtain ⟨u,hu,rfl⟩:=qa1.1 e;exact ih j u v hu e' hI hc (withinL_iff.1 hw u (qa5 hu))
 |tup hs hr ih=>intro hw;simp only [X.frz,frzL_eq];refine .tup (by grind) (fun j z v e e'=>?_);rw [qbe] at e;obtain ⟨u,hu,rfl⟩:=qa1.1 e;exact ih j u v hu e' hI hc (withinL_iff.1 hw u (qa5 hu))
 |yl hc'=>exact fun _=>.yl hc'
 |mp hc'=>exact fun _=>.mp hc'
 |it hc'=>exact fun _=>.it hc'
 |ifc=>exact fun _=>.ifc
theorem Rep.fix (hI:Inv P R K C bx w){vs:List X}(hb:bx[i]?=some (.var vs))(hc:C[i]?=some c)(hn:refsL vs=[])(h:Rep K C z v):Rep (K.shut c w) C (z.fix i vs) v:=by
 have hK:=shut_le hI hb rfl hc;induction h with
 |v h=>exact .v h
 |slNil=>exact .slNil
 |sl vals hlen ht hcap hcell hk hr ih=>exact .sl vals hlen ht hcap hcell (fun i j z e=>hK _ _ _ (hk i j z e)) (fun i j z e=>(hr i j z e).mono hK (CLe.refl _))
 |bs hc' hcap hlen=>exact .bs hc' hcap hlen
 |bsNil hc'=>exact .bsNil hc'
 |ptr hc'=>
  rename_i C j e o b base hi sz;simp only [X.fix];split
  ·rename_i hji;simp at hji;obtain ⟨rfl,rfl⟩:=hji;rw [hc] at hc';simp at hc';subst hc';obtain ⟨rfl,g2,arr,el,hbl,hr⟩:=hI.box j _ _ hb hc;have key:∀(k:Nat) (y:X),(vs.drop o)[k]?=some y->∃u,arr[o+k]?=some u/\o+k<vs.length/\y∈vs/\Rep K C y u:=by intro k y e;rw [qa8] at e;obtain ⟨u,hu,hr'⟩:=hr.get e;exact ⟨u,by grind,(qaY.1 e).1,qa5 e,hr'⟩
   rw [show 0+0*sz+o=o by omega];refine .dp (fun k=>arr.getD (o+k) undef) (fun k y e=>?_) (fun k y e=>?_) (fun k y e=>?_);·obtain ⟨u,_,_,hm,_⟩:=key k y e;exact hr.cell y hm
   ·obtain ⟨u,hu,hlt,_,_⟩:=key k y e;have hown:(CB.at b 0 hi sz).owns b (o+k):=⟨rfl,by omega,by omega⟩<;>simp_all[shut_own,World.cell?]
   obtain ⟨u,hu,hlt,hm,hr'⟩:=key k y e;have hd:arr.getD (o+k) undef=u:=by simp [hu]
   rw [hd];have hy:y.refs=[]:=List.eq_nil_iff_forall_not_mem.2 fun q hq=>by have:q∈refsL vs:=mem_refsL.2 ⟨y,hm,hq⟩<;>grind
   exact (hr'.noRef hy).mono hK (CLe.refl _)
  exact .ptr hc'
 |dp vals hcell hk hr ih=>exact .dp vals hcell (fun j z e=>hK _ _ _ (hk j z e)) (fun j z e=>(hr j z e).mono hK (CLe.refl _))
 |fn hs hr ih=>
  simp only [X.fix,fixL_eq];refine .fn (by grind) (fun j z v e e'=>?_)
  grind
 |agg hs hcell hr ih=>
  simp only [X.fix,fixL_eq];refine .agg (by grind) (fun z hz=>?_) (fun j z v e e'=>?_);·obtain ⟨u,hu,rfl⟩:=qbh.1 hz<;>simp_all[cell_fix]
  grind
 |tup hs hr ih=>
  simp only [X.fix,fixL_eq];refine .tup (by grind) (fun j z v e e'=>?_)
  grind
 |yl hc'=>exact .yl hc'
 |mp hc'=>exact .mp hc'
 |it hc'=>exact .it hc'
 |ifc=>exact .ifc
def RelE (P:Program)(R:CodeRel)(x:Ctx)(σ:St)(a:Act)(w:World):Prop:=∃K C,Rel P R x K C σ a w
theorem freeze_sound (h:Rel P R x K C σ a w)(e:freeze i σ=some σ'):RelE P R x σ' a w:=by
 unfold freeze at e;split at e
 ·rename_i sz es hb;split at e
  ·rename_i hw;simp at e;subst e;obtain ⟨c,hc,_⟩:=h.inv.get hb;simp [rowOkB] at hw;have:=h.turn (f:=X.frz i sz es) (good:=fun z=>z.within i es.length=true) hb rfl rfl hc (cell_frz i sz es) (fun z v hg hr=>hr.frz h.inv hb hc hg) (withinL_iff.1 hw.1) (fun A hA z hz=>by
    have hA':=hw.2 A hA;cases A with
    |var cs=>exact withinL_iff.1 hA' z hz
    |loop st p tm ps a b=>exact withinL_iff.1 hA' z hz
    |row=>grind[Bx.vals]
    |map=>grind[Bx.vals]
    |iter=>grind[Bx.vals]
    |dead=>grind[Bx.vals])
   have e1:Bx.frz i sz es=Bx.mapX (X.frz i sz es):=funext (frzB_eq i sz es);rw [e1];exact ⟨_,_,this⟩
  grind
 grind
theorem freezeV_sound (h:Rel P R x K C σ a w)(e:freezeV i σ=some σ'):RelE P R x σ' a w:=by
 unfold freezeV at e;split at e
 ·rename_i vs hb;split at e;next hw=>simp at e;subst e;obtain ⟨c,hc,_⟩:=h.inv.get hb;have:=h.turn (f:=X.fix i vs) (good:=fun _=>True) hb rfl rfl hc (cell_fix i vs) (fun z v _ hr=>hr.fix h.inv hb hc (List.isEmpty_iff.1 hw)) (fun _ _=>trivial) (fun _ _ _ _=>trivial);have e1:Bx.fix i vs=Bx.mapX (X.fix i vs):=funext (fixB_eq i vs);rw [e1];exact ⟨_,_,this⟩
  simp at e;subst e;exact ⟨_,_,h⟩
 grind
theorem freezes_sound:∀{l:List Nat} {σ σ':St} {K:Kn} {C:List CB},Rel P R x K C σ a w->freezes l σ=some σ'->RelE P R x σ' a w
 |[],σ,σ',K,C,h,e=>by simp [freezes] at e;subst e;exact ⟨_,_,h⟩
 |i::r,σ,σ',K,C,h,e=>by
  simp only [freezes] at e;split at e;·obtain ⟨σ1,h1,h2⟩:=qbi.1 e;obtain ⟨K',C',h3⟩:=freeze_sound h h1;exact freezes_sound h3 h2
  exact freezes_sound h e
theorem Rel.push0 (h:Rel P R x K C σ a w)(hB:BoxOk P R K (C++[c]) w B c)(hc:∀b o,¬c.owns b o):Rel P R x K (C++[c]) ⟨σ.tm,σ.bx++[B]⟩ a w:=by
 refine {h with inv:=h.inv.push hB (fun b o hw=>absurd hw (hc b o)) (fun b o hw=>absurd hw (hc b o)),tm:=h.tm.mono (KLe.refl _) (CLe.append _ _),own:=?_,cin:=?_,defs:=?_,loops:=?_}
 ·intro b o ho;rcases owns_push h.inv.size ho with ho|ho;·exact h.own b o ho
  grind
 ·intro i d e;exact CLe.append _ _ _ _ (h.cin i d e)
 ·obtain ⟨rs,h1,h2,h3⟩:=h.defs.marks;refine ⟨⟨rs,h1,h2,fun r hr=>⟨(h3 r hr).1,(h3 r hr).2.1,fun k ho=>?_⟩⟩,h.defs.round⟩;rcases owns_push h.inv.size ho with ho|ho<;>grind
 intro i hi hl;obtain ⟨B',hB',hl'⟩:=h.loops i hi hl<;>grind
theorem rep_empty {t:Bool}(h:Rep K C (.sl t sz []) v)(ht:t=true):∃ob,v=.slice ob 0 0:=by generalize hz:X.sl t sz []=z at h;cases h<;>simp_all
theorem ghost_sound {g:Gh}(h:Rel P R x K C σ a w)(e:ghost σ g=some σ'):RelE P R x σ' a w:=by
 have same:σ=σ'->RelE P R x σ' a w:=fun e=>⟨K,C,e▸h⟩;cases g with
 |thaw s o=>
  have hg:=fun sz=>h.push0 (B:=.row sz []) (c:=.ghost) rfl (fun _ _ hw=>hw);have hgc:(C++[CB.ghost])[σ.bx.length]?=some .ghost:=by rw [<-h.inv.size];simp
  simp only [ghost] at e;split at e
  ·split at e
   ·rename_i sz hs;simp at e;subst e;obtain ⟨v,hv,hr⟩:=h.tm s _ hs;obtain ⟨ob,rfl⟩:=rep_empty hr rfl;refine ⟨K,C++[.ghost],(hg sz).tms fun n y ey=>?_⟩;simp only [lk] at ey;split at ey;next hk=>simp at hk;subst hk;simp at ey;subst ey;exact ⟨_,hv,.bsNil hgc⟩
    exact (hg sz).tm n y ey
   grind
  rename_i o;split at e
  ·rename_i i o' hs;split at e
   ·rename_i cs hb;split at e
    ·rename_i sz hcs;simp at e;subst e;obtain ⟨c,hc,hbox⟩:=h.inv.get hb;have hc':=CLe.append C [CB.ghost] i c hc;have hb':(σ.bx++[Bx.row sz []])[i]?=some (.var cs):=by rw [qa6 (qaY.1 hb).1];exact hb
     have hbox':BoxOk P R K (C++[.ghost]) w (.var (cs.set (o'+o) (.bs σ.bx.length 0 0))) c:=by
      cases c with
      |«at»=>
       obtain ⟨h1,h2,arr,el,hbl,hr⟩:=hbox;refine ⟨h1,by grind,arr,el,hbl,by simpa using hr.len,fun z hz=>?_,fun j z v ez ev=>?_⟩
       ·rcases List.mem_or_eq_of_mem_set hz with hz|rfl;·exact hr.cell z hz
        rfl
       rw [List.getElem?_set] at ez;split at ez
       ·rename_i hj;split at ez;·simp at ez;subst ez;subst hj;obtain ⟨ob,rfl⟩:=rep_empty (hr.rep _ _ _ hcs ev) rfl;exact .bsNil hgc
        grind
       exact (hr.rep j z v ez ev).mono (KLe.refl _) (CLe.append _ _)
      |ghost=>exact hbox.elim
      |obj=>exact hbox.elim
     have:=(hg sz).setBox hb' rfl hc' (.refl _ w) hbox' (fun e=>by cases e);refine ⟨K,C++[.ghost],?_⟩<;>grind
    grind
   grind
  grind
 |frz s o=>simp only [ghost] at e;split at e<;>grind[freeze_sound]
 |frzA s=>grind[ghost,freezes_sound]
 |frzV s=>grind[ghost,freezeV_sound]
theorem ghosts_sound:∀{l:List Gh} {σ σ':St} {K:Kn} {C:List CB},Rel P R x K C σ a w->ghosts l σ=some σ'->RelE P R x σ' a w
 |[],σ,σ',K,C,h,e=>by simp [ghosts] at e;subst e;exact ⟨_,_,h⟩
 |g::r,σ,σ',K,C,h,e=>by
  simp only [ghosts] at e;split at e
  ·grind
  rename_i σ1 h1;obtain ⟨K',C',h3⟩:=ghost_sound h h1;exact ghosts_sound h3 e
end Go.Em
namespace Go.Em
variable {A:Ann}{vs:Array Value}{g:FuncId}{live:List Nat}{d fu i l nIn o t:Nat}{σ':St}
variable {P:Program} {R:CodeRel} {x:Ctx} {K:Kn} {C:List CB} {σ:St} {a:Act} {w:World}
variable {Γ:Gam} {gl:Nat->Option (List X)}
theorem Rel.pickAll (h:Rel P R x K C σ a w){sel:List Nat}{bx:List Bx}(e:pickB σ.bx sel=some bx)(ht:sel.take x.C0.length=List.range x.C0.length)(htm:∀i,i∈refsL (σ.tm.map (·.2))->i∈sel):
  ∃C1,Rel P R x K C1 ⟨renT (idxN · sel) σ.tm,bx⟩ a w/\C1.length=bx.length/\∀(y:X) (v:Value),(∀i,i∈y.refs->i∈sel)->Rep K C y v->Rep K C1 (y.ren (idxN · sel)) v:=by
 obtain ⟨C1,hI,hl1,hC1,hin,hinl,hnd,hC1',hidx⟩:=h.inv.pick e;have hown:∀(b o:Nat),Owns C1 bx b o->Owns C σ.bx b o:=by
  rintro b o ⟨j,c,B',h1,h2,h3,h4⟩
  obtain ⟨i,e1,e2⟩:=hC1' j c h1;obtain ⟨B,e3,e4⟩:=hin j i e1;rw [e4] at h2;cases h2;exact ⟨i,c,B,e2,e3,by grind[live_ren],h4⟩
 have hfirst:∀i,i<x.C0.length->sel[i]?=some i:=by
  intro i hi;have h1:(sel.take x.C0.length)[i]?=some i:=by rw [ht];simp [hi]
  rw [qbb,if_pos hi] at h1;exact h1
 refine ⟨C1,{h with inv:=hI,tm:=h.tm.ren fun i hi c hc=>hidx i (htm i hi) c hc,own:=fun b o ho=>h.own b o (hown b o ho),cin:=?_,defs:=?_,loops:=?_},by omega,fun y v hy hr=>hr.ren fun i hi c hc=>hidx i (hy i hi) c hc⟩;·intro i c hc;exact hC1 i i c (hfirst i (qaY.1 hc).1) (h.cin i c hc)
 ·obtain ⟨rs,h1,h2,h3⟩:=h.defs.marks;exact ⟨⟨rs,h1,h2,fun r hr=>⟨(h3 r hr).1,(h3 r hr).2.1,fun o ho=>(h3 r hr).2.2 o (hown r o ho)⟩⟩,h.defs.round⟩
 intro i hi hl;obtain ⟨B,hB,hl'⟩:=h.loops i hi hl<;>grind[isLoop_ren]
theorem canon_sound (h:Rel P R x K C σ a w)(e:canon x.C0.length σ=some σ'):RelE P R x σ' a w:=by
 unfold canon at e;dsimp only at e;split at e;next hc=>simp at hc;obtain ⟨bx,hbx,rfl⟩:=map_some e;obtain ⟨C1,h1,_,_⟩:=h.pickAll hbx hc.2 (subN_iff.1 hc.1);exact ⟨K,C1,h1⟩
 grind
theorem twin_left {l:List Ins}{ps:List (Nat×Nat)}{σ σ' s t:St}{fps:List FP}(ht:twin Γ nIn l ps live σ σ' fps=some (s,t)):canon nIn ⟨keep live σ'.tm,σ'.bx⟩=some s:=by
 unfold twin at ht
 grind
theorem Rel.defers (h:Rel P R x K C σ a w)(hr:x.rnd=none):Rel P R x K C σ {a with defers:=mark w.heap.size::a.defers} (w.alloc (.deferred (some []))):=by
 have hs:=h.still (FrameOk.alloc nowhere w (.deferred (some [])));refine {hs with tm:=hs.tm,nt:=hs.nt,defs:=⟨?_,fun e=>by grind⟩};obtain ⟨rs,h1,h2,h3⟩:=h.defs.marks;obtain ⟨rs',h1',h2',h3'⟩:=hs.defs.marks;refine ⟨w.heap.size::rs,by grind,List.nodup_cons.2 ⟨fun hm=>?_,h2⟩,fun r hm=>?_⟩
 ·grind
 rcases qbl.1 hm with rfl|hm;·refine ⟨World.alloc_heap_new w _,h.frame.size,fun o ho=>?_⟩;have:=h.inv.owns_lt ho;omega
 refine ⟨(FrameOk.alloc nowhere w (.deferred (some []))).obj (h3 r hm).1 trivial (o₀:=0) id,(h3 r hm).2.1,(h3 r hm).2.2⟩
def RCode (P:Program)(gl:Nat->Option (List X)):CodeRel:=⟨fun nt assign body a b=>∃A,trCode P gl A nt assign=some a/\trCode P gl A nt body=some b,gl⟩
def exitOf:Ex->Exit
 |.norm=>.normal
 |.exit i=>.exit i
 |.ret=>.ret
theorem getLoop_box (h:Rel P R x K C σ a w){lr:Nat}(hr:x.rnd=some lr):∃lp:Loop,w.heap[lr]?=some (.loop lp):=by
 obtain ⟨i,hi,hl,hc⟩:=h.rnd lr hr;obtain ⟨B,hB,hlB⟩:=h.loops i hi hl;have:=h.inv.box i B _ hB (h.cin i _ hc);cases B with
 |loop st p tm ps am bm=>obtain ⟨lp,h1,_⟩:=this<;>grind
 |_=>grind[Bx.isLoop]
theorem enter_sound {ps:Array Tmp}{assign body:Code}{am bm:Em.C}{nt:Nat}(hx:x.nt=nt)(h:Rel P (RCode P gl) x K C σ a w)(hps:∀p,p∈ps.toList->p<nt)(ha:trCode P gl A nt assign=some am)(hb:trCode P gl A nt body=some bm)(fn:FuncId):
  ∃(l:Nat) (mk:List Deferred) (w1:World),(Instr.enterLoop fn a.tmps ps assign body x.rnd).run P w=.ok (l,mk) w1/\
   Rel P (RCode P gl) x K (C++[.obj l]) ⟨σ.tm,σ.bx++[.loop .ready none (keep live σ.tm) ps.toList am bm]⟩ {a with defers:=mk++a.defers} w1:=by
 have main:∀(mk:List Deferred) (w0:World) (L:Loop),Rel P (RCode P gl) x K C σ {a with defers:=mk++a.defers} w0->L.state=.ready->L.pending=none->L.tmps=a.tmps->L.params=ps->L.assign=assign->L.body=body->
   Rel P (RCode P gl) x K (C++[.obj w0.heap.size]) ⟨σ.tm,σ.bx++[.loop .ready none (keep live σ.tm) ps.toList am bm]⟩ {a with defers:=mk++a.defers} (w0.alloc (.loop L)):=by
  intro mk w0 L h0 e1 e2 e3 e4 e5 e6;refine h0.push _ ⟨L,World.alloc_heap_new w0 _,e1,by rw [e2];trivial,?_,by rw [e4],fun p hp=>?_,⟨A,?_,?_⟩⟩ (fun b k hw=>hw);·rw [e3];exact (h.tm.keep live).mono (KLe.refl _) (CLe.append _ _)
  ·rw [e3,h.nt,hx]<;>grind
  ·rw [e3,h.nt,hx,e5]<;>grind
  rw [e3,h.nt,hx,e6]<;>grind
 cases hr:x.rnd with
 |none=>refine ⟨w.heap.size+1,[mark w.heap.size],_,run_enterLoop_outer _ _ _ _ _,?_⟩;have:=main [mark w.heap.size] _ {state:=.ready,pending:=none,fn,tmps:=a.tmps,params:=ps,assign,body,defers:=w.heap.size} (h.defers hr) rfl rfl rfl rfl rfl rfl<;>simp_all
 |some lr=>obtain ⟨lp,hlp⟩:=getLoop_box h hr;refine ⟨w.heap.size,[],w.alloc (.loop {state:=.ready,pending:=none,fn,tmps:=a.tmps,params:=ps,assign,body,defers:=lp.defers}),?_,main [] w _ h rfl rfl rfl rfl rfl rfl⟩<;>simp_all[Instr.enterLoop,run_getLoop]
theorem putObj_frame {S:Nat->Nat->Prop}{g:Nat}{o o':Obj}(hg:w.heap[g]?=some o)(ho:noCells (some o))(ho':noCells (some o'))(hs:∀i,S g i):FrameOk S w (w.putObj g o'):=FrameOk.setObj hg ho ho' hs
theorem c0_le (h:Rel P R x K C σ a w):x.C0.length<=C.length:=by
 rcases Nat.lt_or_ge C.length x.C0.length with h1|h1;·have:=h.cin C.length _ (qa3 h1)<;>simp_all
 grind
theorem Rel.setLoop (h:Rel P R x K C σ a w){st st':LoopState}{pend pend':Option Ex}{tm:List (Nat×X)}{ps:List Nat}{am bm:Em.C}(hB:σ.bx[i]?=some (.loop st pend tm ps am bm))(hc:C[i]?=some (.obj l)){jump:Option Code}(hj:PendOk pend' jump):
  ∃lp:Loop,w.heap[l]?=some (.loop lp)/\lp.state=st/\PendOk pend lp.pending/\Rel P R x K C ⟨σ.tm,σ.bx.set i (.loop st' pend' tm ps am bm)⟩ a (w.putObj l (.loop {lp with state:=st',pending:=jump})):=by
 obtain ⟨lp,hl,ho⟩:=h.inv.box i _ _ hB hc;refine ⟨lp,hl,ho.hst,ho.hpend,?_⟩;have hlt:=(qbA.1 hl).1;refine h.setBox hB rfl hc (putObj_frame hl trivial trivial fun _=>rfl) ⟨_,World.putObj_heap_same hlt,rfl,hj,ho.htm,ho.hps,ho.hin,ho.hcode⟩ (fun e=>e)
theorem endRf_sound {e:Ex}(h:Rel P R x K C σ a w)(hc:C[i]?=some (.obj l))(hi:¬i<x.C0.length)(he:endRf i σ=some (e,σ')):
  ∃(jump:Option Code) (w':World),(Instr.endLoop l).run P w=.ok jump w'/\RelE P R x σ' a w'/\((jump=none/\e=.norm)\/(jump=some .ret/\e=.ret)\/∃k,jump=some (.exit k)/\e=.exit k):=by
 unfold endRf at he;split at he
 ·rename_i st pend tm ps am bm hB;split at he
  ·grind
  rename_i hst;simp at he;obtain ⟨rfl,rfl⟩:=he;obtain ⟨lp0,hl0,hs0,hp0,_⟩:=h.setLoop (st':=.exhausted) (pend':=none) (jump:=none) hB hc trivial;obtain ⟨lp,hl,hs,hp,hr⟩:=h.setLoop (st':=.exhausted) (pend':=pend) (jump:=lp0.pending) hB hc hp0;rw [hl0] at hl;simp at hl;subst hl;have hk:=hr.kill i (fun B e e'=>hi);refine ⟨lp0.pending,_,run_endLoop hl0 (by grind),⟨K,C,?_⟩,?_⟩;·simp_all
  cases pend with
  |none=>
   cases hpj:lp0.pending with
   |none=>grind
   |some c=>rw [hpj] at hp0;exact hp0.elim
  |some ex=>
   cases hpj:lp0.pending with
   |none=>rw [hpj] at hp0;cases ex<;>exact hp0.elim
   |some c=>
    rw [hpj] at hp0;cases ex with
    |norm=>exact hp0.elim
    |ret=>cases c<;>first|exact hp0.elim|grind
    |exit k=>cases c with
     |exit k'=>simp_all[PendOk]
     |_=>exact hp0.elim
 grind
theorem invoke_fn {args:Array Value}(hok:FnOk P g)(w:World):(invoke (.fn (.func g) vs) args).run P w=.ok (.enter g (args++vs)) w:=by
 have h:invoke (.fn (.func g) vs) args=callFunc g (args++vs):=by simp only [invoke]
 rw [h];exact hok _ w
theorem resolve_fn {f:Operand}(hv:a.eval f=.func (.func g) #[] vs)(w:World):(resolve a.eval (rangeCall f l) 0).run P w=.ok {target:=.fn (.func g) vs,args:=#[.func (.yield l) #[] #[]]} w:=by have h:a.eval (.const (.func (.yield l) #[] #[]))=.func (.yield l) #[] #[]:=rfl<;>simp_all[resolve,Deferred.ofValue]
theorem trOp_next {o:Oper}{q:Opd}(h:trOp P gl A o=some (.mnext q)):∃m,o.op=.next m false/\trOpd P gl 0 m=some q:=by
 unfold trOp at h;split at h
 all_goals first
  |(rename_i m ho;obtain ⟨q',hq,e⟩:=map_some h;cases e;exact ⟨m,ho,hq⟩)
  |(exfalso;(repeat' (split at h))<;>first|(cases h;done)|(obtain ⟨_,_,e⟩:=map_some h;cases e;done)|(obtain ⟨_,_,h⟩:=qbi.1 h;obtain ⟨_,_,e⟩:=map_some h;cases e;done)|(simp at h;done)|grind)
theorem next_region {r:Option Nat}{id:Nat}{ops:Array Oper}{Q:Exit->Act->World->Prop}{m s:Nat}{l:List Nat}{es:List (Value×X)}(hΓ:GamOk P R Γ)(h:Rel P R x K C σ a w)
  (hl:trOpers P R.gl A x.nt ops ops.toList=some [⟨some d,.mnext (.t t),none⟩,⟨some o,.extract (.t d) 0,none⟩])
  (ht:lk σ.tm t=some (.it i)) (hb:σ.bx[i]?=some (.iter m s l)) (hbm:σ.bx[m]?=some (.map es)) (hs:es.length=s)
  (h1:∀(j:Nat) (e:Value×X),es[j]?=some e->j∉l->∀K' C' a' w',Em.Rel P R x K' C' ⟨setD (some o) (.v (.bool true)) (setD (some d) (.tup [.v (.bool true),.v e.1,e.2]) σ.tm),σ.bx.set i (.iter m s (l++[j]))⟩ a' w'->Q .normal a' w')
  (h2:(∀j,j<s->j∈l)->∀K' C' a' w',Em.Rel P R x K' C' ⟨setD (some o) (.v (.bool false)) (setD (some d) (.tup [.v (.bool false)]) σ.tm),σ.bx⟩ a' w'->Q .normal a' w'):
  (Code.region id ops false).wpIn (Fr r) 0 P Q a w:=by
 refine wpIn_region ?_;have hlen:=(trOpers_get hl).1;have hsz:List.range ops.size=[0,1]:=by
  have:ops.size=2:=by simpa using hlen.symm
  rw [this];rfl
 rw [hsz];obtain ⟨o0,ho,ht0⟩:=(trOpers_get hl).2 0 _ rfl;obtain ⟨hd,hlt,hop,hg⟩:=trOper_spec ht0;have ho':ops[0]?=some o0:=by simpa using ho
 obtain ⟨mo,hmo,hq⟩:=trOp_next hop;have habout:∀f,o0.about P w a.eval=some f->(Fr r).fn f:=fun _ _=>trivial;have hw:Region.wanted o0 (yielded ops a.tmps)=true:=by
  rcases hg with ⟨hg1,_⟩|⟨_,_,_,_,_,hg3⟩;·simp [Region.wanted,hg1]
  cases hg3
 simp only [wpOpsIn,ho',hw,if_true];refine ⟨habout,?_⟩;rw [Oper.semAt_eq _ _ _ (trOp_defer hop)];have tail:∀(y:Bool) (vs:List X) (bx:List Bx) (K':Kn) (C':List CB) (v:Value) (w':World),Em.Rel P R x K' C' ⟨σ.tm,bx⟩ a w'->Rep K' C' (.tup (.v (.bool y)::vs)) v->
   (∀K' C' a' w',Em.Rel P R x K' C' ⟨setD (some o) (.v (.bool y)) (setD (some d) (.tup (.v (.bool y)::vs)) σ.tm),bx⟩ a' w'->Q .normal a' w')->wpOpsIn (Fr r) 0 P ops Q [1] (a.put o0.dst v) w':=by
  intro y vs bx K' C' v w' hr hp hn;have hd':o0.dst=some d:=hd.symm;have hset:=hr.set hp o0.dst hlt;have hset:Em.Rel P R x K' C' ⟨setD (some d) (.tup (.v (.bool y)::vs)) σ.tm,bx⟩ (a.put o0.dst v) w':=by rw [hd'] at hset ⊢;exact hset
  refine wpOps_one (σ1:=⟨setD (some o) (.v (.bool y)) (setD (some d) (.tup (.v (.bool y)::vs)) σ.tm),bx⟩) (fp:=⟨false,[],[]⟩) hΓ (σ:=⟨setD (some d) (.tup (.v (.bool y)::vs)) σ.tm,bx⟩) hset hl (i:=1) rfl ?_ fun K' C' a' w' h'=>hn K' C' a' w' h';simp [step,stepGo,stepI,St.ev,setD,lk]
 rcases op_mnext h hmo hq (by simpa [St.ev] using ht) hb hbm hs with ⟨hall,hok⟩|⟨j,e,he,hj,hok⟩;·exact hok.upon r _ Q fun K' C' v w' hr hp=>tail false [] _ K' C' v w' hr hp (h2 hall)
 exact hok.upon r _ Q fun K' C' v w' hr hp=>tail true _ _ K' C' v w' hr hp (h1 j e he hj)
theorem mkLoop_cases {c:Code}{m:Em.C}:mkLoop c m=.loop m\/∃id ops c2 ps d t o live b,c=.seq (.region id ops false) c2/\m=.seq (.reg [] ps [⟨some d,.mnext (.t t),none⟩,⟨some o,.extract (.t d) 0,none⟩] live) b/\mkLoop c m=.mloop t d o live b:=by
 unfold mkLoop;split
 ·rename_i id ops c2 ps d t o d' live b;split;next hd=>subst hd;exact .inr ⟨id,ops,c2,ps,d',t,o,live,b,rfl,rfl,rfl⟩
  exact .inl rfl
 exact .inl rfl
theorem endM_some {q:Option (Ex×St)}{r:Ex×St}(h:endM nIn q=some r):∃p:Ex×St,q=some p/\p.1≠.norm/\p.1=r.1/\canon nIn p.2=some r.2:=by
 unfold endM at h;split at h;·cases h
 next x σ hne=>obtain ⟨τ,hτ,rfl⟩:=map_some h;exact ⟨(x,σ),rfl,fun e=>hne e,rfl,hτ⟩
 cases h
theorem mone_some {nIn t d o:Nat}{live:List Nat}{f:St->Option (Ex×St)}:∀{n:Nat} {σ:St} {r:Ex×St},mone nIn t d o live f n σ=some r->MAll nIn t d o live f n σ r
 |0,_,_,h=>by simp [mone] at h
 |n+1,σ,r,h=>by
  simp only [mone] at h;split at h;·cases h
  rename_i σ0 hc;split at h
  ·rename_i i ht;split at h
   ·rename_i m s l hb;split at h
    ·rename_i es hm;split at h
     ·rename_i hs;have hs:es.length=s:=by simpa using hs
      refine ⟨σ0,i,m,s,l,es,hc,ht,hb,hm,hs,?_⟩;split at h;·refine ⟨fun j e he=>by simp at he,fun _=>endM_some h⟩
      ·rename_i e0;refine ⟨fun j e he hj=>?_,fun hall=>absurd (hall 0 (by rw [<-hs];simp)) (by simp)⟩
       match j,he with
       |0,he=>
        simp only [List.getElem?_cons_zero,qaE] at he;subst he;split at h;next σ' hf=>exact ⟨_,hf,fun _=>mone_some h,fun hn=>absurd rfl hn⟩
        obtain ⟨p,hp,h1,h2,h3⟩:=endM_some h;exact ⟨p,hp,fun hn=>absurd hn h1,fun _=>⟨h2,h3⟩⟩
       |j+1,he=>simp at he
      ·refine ⟨fun j e he hj=>?_,fun _=>endM_some h⟩
       match j,he with
       |0,_=>exact absurd (by simp) hj
       |j+1,he=>simp at he
      cases h
     cases h
    cases h
   cases h
  cases h
theorem mrun_some {f:St->Option (Ex×St)}{n:Nat}{σ:St}{q:Ex×St}(h:mrun nIn t d o live f n σ=some q):MAll nIn t d o live f n σ q:=by
 unfold mrun at h;split at h;next hex=>have:=hex.choose_spec;simp only [qaE] at h;rw [h] at this;exact this
 cases h
def Sound (P:Program)(gl:Nat->Option (List X))(x:Ctx)(Γ:Gam)(A:Ann)(fu:Nat)(c:Code):Prop:=
 ∀{m:Em.C},trCode P gl A x.nt c=some m->∀{σ σ':St} {e:Ex} {K:Kn} {C:List CB} {a:Act} {w:World} {Q:Exit->Act->World->Prop},
  Rel P (RCode P gl) x K C σ a w->run Γ x.C0.length fu m σ=some (e,σ')->(∀K' C' a' w',Em.Rel P (RCode P gl) x K' C' σ' a' w'->Q (exitOf e) a' w')->c.wpIn (Fr x.rnd) 0 P Q a w
theorem run_sound0 (hΓ:GamOk P (RCode P gl) Γ):∀(c:Code),Sound P gl x Γ A fu c/\∀c1 c2,c=.seq c1 c2->Sound P gl x Γ A fu c2:=by
 intro c;induction c with
 |skip=>refine ⟨?_,by rintro _ _ ⟨⟩⟩;intro m hm σ σ' e K C a w Q h hr hQ;simp [trCode] at hm;subst hm;simp [run] at hr;obtain ⟨rfl,rfl⟩:=hr;exact wpIn_skip (hQ K C a w h)
 |exit id=>refine ⟨?_,by rintro _ _ ⟨⟩⟩;intro m hm σ σ' e K C a w Q h hr hQ;simp [trCode] at hm;subst hm;simp [run] at hr;obtain ⟨rfl,rfl⟩:=hr;exact wpIn_exit (hQ K C a w h)
 |ret=>refine ⟨?_,by rintro _ _ ⟨⟩⟩;intro m hm σ σ' e K C a w Q h hr hQ;simp [trCode] at hm;subst hm;simp [run] at hr;obtain ⟨rfl,rfl⟩:=hr;exact wpIn_ret (hQ K C a w h)
 |region id ops draw=>
  refine ⟨?_,by rintro _ _ ⟨⟩⟩;intro m hm σ σ' e K C a w Q h hr hQ;simp only [trCode] at hm;split at hm
  ·grind[run]
  rename_i l hl;have key:∀ps,m=.reg (A.gh id) ps l (A.live id)->((draw=true/\drawPairs ops l=some ps)\/draw=false)->(Code.region id ops draw).wpIn (Fr x.rnd) 0 P Q a w:=by
   intro ps hmm hd;subst hmm;simp only [run] at hr;split at hr
   ·grind
   rename_i σ1 hg;obtain ⟨K1,C1,h1⟩:=ghosts_sound h hg;split at hr
   ·grind
   rename_i σ2 fps hs;split at hr
   ·rename_i hp;simp at hr;obtain ⟨rfl,rfl⟩:=hr;have fin:∀K' C' a' w',Em.Rel P (RCode P gl) x K' C' σ2 a' w'->Q .normal a' w':=fun K' C' a' w' h'=>hQ K' C' a' w' (h'.tms (h'.tm.keep _));rcases hd with ⟨rfl,hd⟩|rfl;·exact region_draw hΓ h1 hl hd hs hp fin
    exact region_text hΓ h1 hl hs fin
   split at hr
   ·rename_i s t ht;split at hr
    ·rename_i hst;have hst:=(St.same_iff s t).1 hst;subst hst;simp only [qaE,qaH] at hr;obtain ⟨rfl,rfl⟩:=hr;have fin:∀(τ:St) K' C' a' w',(canon x.C0.length ⟨keep (A.live id) τ.tm,τ.bx⟩=some s\/canon x.C0.length ⟨keep (A.live id) τ.tm,τ.bx⟩=some s)->Em.Rel P (RCode P gl) x K' C' τ a' w'->Q .normal a' w':=fun τ K' C' a' w' hc h'=>by obtain ⟨K2,C2,h2⟩:=canon_sound (h'.tms (h'.tm.keep _)) (hc.elim (fun h=>h) (fun h=>h));exact hQ K2 C2 a' w' h2
     rcases hd with ⟨rfl,hd⟩|rfl;·exact region_twin hΓ h1 hl hd hs ht fin
     exact region_text hΓ h1 hl hs fun K' C' a' w' h'=>fin σ2 K' C' a' w' (.inl (twin_left ht)) h'
    cases hr
   cases hr
  cases draw with
  |true=>simp only [if_true] at hm;obtain ⟨ps,hps,rfl⟩:=map_some hm<;>simp_all
  |false=>grind
 |seq c1 c2 ih1 ih2=>
  refine ⟨?_,by rintro _ _ ⟨⟩;exact ih2.1⟩;replace ih1:Sound P gl x Γ A fu c1:=ih1.1;unfold Sound at ih1;replace ih2:Sound P gl x Γ A fu c2:=ih2.1;unfold Sound at ih2;intro m hm σ σ' e K C a w Q h hr hQ;simp only [trCode] at hm;split at hm
  ·rename_i m1 m2 h1 h2;simp at hm;subst hm;simp only [run] at hr;split at hr;next σ1 hs=>exact wpIn_seq (ih1 h1 h hs fun K' C' a' w' h'=>ih2 h2 h' hr hQ)
   rename_i hne;refine wpIn_seq (ih1 h1 h hr fun K' C' a' w' h'=>?_);have:=hQ K' C' a' w' h';cases e with
   |norm=>grind
   |exit k=>exact this
   |ret=>exact this
  grind
 |cond q c1 c2 ih1 ih2=>
  refine ⟨?_,by rintro _ _ ⟨⟩⟩;replace ih1:Sound P gl x Γ A fu c1:=ih1.1;unfold Sound at ih1;replace ih2:Sound P gl x Γ A fu c2:=ih2.1;unfold Sound at ih2;intro m hm σ σ' e K C a w Q h hr hQ;simp only [trCode] at hm;split at hm
  ·rename_i q' m1 m2 hq h1 h2;simp at hm;subst hm;simp only [run] at hr;split at hr
   ·rename_i t ht;have hv:=rep_v (ev_rep h.inv.glob h.tm hq ht);refine wpIn_cond_split hv (fun e=>?_) (fun e=>?_)
    ·grind
    grind
   grind
  grind
 |block id c ih=>
  refine ⟨?_,by rintro _ _ ⟨⟩⟩;replace ih:Sound P gl x Γ A fu c:=ih.1;unfold Sound at ih;intro m hm σ σ' e K C a w Q h hr hQ;simp only [trCode] at hm;obtain ⟨m1,h1,rfl⟩:=map_some hm;simp only [run] at hr;refine wpIn_block ?_;split at hr
  ·rename_i j σ1 hs;refine ih h1 h hs fun K' C' a' w' h'=>?_;show (if j=id then Q .normal a' w' else Q (.exit j) a' w');by_cases hj:j=id
   ·have:(j==id)=true:=by simpa using hj
    rw [this] at hr;simp at hr;obtain ⟨rfl,rfl⟩:=hr;rw [if_pos hj];exact hQ K' C' a' w' h'
   have:(j==id)=false:=by simpa using hj
   rw [this] at hr;simp at hr;obtain ⟨rfl,rfl⟩:=hr;rw [if_neg hj];exact hQ K' C' a' w' h'
  rename_i hne;refine ih h1 h hr fun K' C' a' w' h'=>?_;have:=hQ K' C' a' w' h';cases e with
  |norm=>exact this
  |exit k=>grind
  |ret=>exact this
 |loop c ih=>
  refine ⟨?_,by rintro _ _ ⟨⟩⟩;have ihr:=ih.2;replace ih:Sound P gl x Γ A fu c:=ih.1;unfold Sound at ih;intro m hm σ σ' e K C a w Q h hr hQ;simp only [trCode] at hm;obtain ⟨m1,h1,rfl⟩:=map_some hm;rcases mkLoop_cases (c:=c) (m:=m1) with hmk|⟨id,ops,c2,ps,d,t,o,live,b,rfl,rfl,hmk⟩
  rotate_left
  ·rw [hmk] at hr;simp only [run] at hr;have hall:MAll x.C0.length t d o live (run Γ x.C0.length fu b) fu σ (e,σ'):=by
    split at hr;next r hone=>simp only [qaE] at hr;rw [hr] at hone;exact mone_some hone
    exact mrun_some hr
   have htr:trOpers P gl A x.nt ops ops.toList=some [⟨some d,.mnext (.t t),none⟩,⟨some o,.extract (.t d) 0,none⟩]/\A.live id=live/\trCode P gl A x.nt c2=some b:=by
    simp only [trCode] at h1;split at h1
    ·rename_i a1 b1 e1 e2;simp only [qaE,Em.C.seq.injEq] at h1;obtain ⟨h1,rfl⟩:=h1;rw [h1] at e1;split at e1;·cases e1
     rename_i l hl;simp only [qbc,if_false,qaE,Em.C.reg.injEq] at e1;obtain ⟨_,_,rfl,hlv⟩:=e1;exact ⟨hl,hlv,e2⟩
    cases h1
   obtain ⟨hl,hlv,hc2⟩:=htr;have ih2:Sound P gl x Γ A fu c2:=ihr _ _ rfl;refine wpIn_loop_rounds fu ?_;have key:∀(n:Nat) {σ:St} {K:Kn} {C:List CB} {a:Act} {w:World},Rel P (RCode P gl) x K C σ a w->MAll x.C0.length t d o live (run Γ x.C0.length fu b) n σ (e,σ')->Code.roundsIn (Fr x.rnd) 0 P (.seq (.region id ops false) c2) Q n a w:=by
    intro n;induction n with
    |zero=>intro σ K C a w _ hf;exact hf.elim
    |succ n ihn=>
     intro σ K C a w h hm;obtain ⟨σ0,i,mi,s,l,es,hc,ht,hb,hbm,hs,hone,hnone⟩:=hm;obtain ⟨K1,C1,h2⟩:=canon_sound h hc;rw [roundsIn_succ];refine wpIn_seq (next_region (R:=RCode P gl) (A:=A) hΓ h2 hl ht hb hbm hs (fun j ent he hj K' C' a' w' h'=>?_) (fun hle K' C' a' w' h'=>?_))
     ·obtain ⟨q,hf,hn,hx⟩:=hone j ent he hj;obtain ⟨qe,qσ⟩:=q;refine ih2 hc2 (h'.tms (h'.tm.keep live)) hf fun K3 C3 a3 w3 h3=>?_;cases qe with
      |norm=>exact ihn h3 (hn rfl)
      |exit k=>obtain ⟨he,hcan⟩:=hx (by simp);obtain ⟨K4,C4,h4⟩:=canon_sound h3 hcan;dsimp only at he;subst he;exact hQ K4 C4 a3 w3 h4
      |ret=>obtain ⟨he,hcan⟩:=hx (by simp);obtain ⟨K4,C4,h4⟩:=canon_sound h3 hcan;dsimp only at he;subst he;exact hQ K4 C4 a3 w3 h4
     obtain ⟨⟨qe,qσ⟩,hf,hne,he,hcan⟩:=hnone hle;refine ih2 hc2 (h'.tms (h'.tm.keep (live.filter fun k=>!(k==t)))) hf fun K3 C3 a3 w3 h3=>?_;obtain ⟨K4,C4,h4⟩:=canon_sound h3 hcan;have:=hQ K4 C4 a3 w3 h4;dsimp only at he hne;subst he;cases qe with
     |norm=>exact absurd rfl hne
     |exit k=>exact this
     |ret=>exact this
   exact key fu h hall
  rw [hmk] at hr;simp only [run] at hr;refine wpIn_loop_rounds fu ?_;have key:∀(n:Nat) {σ:St} {K:Kn} {C:List CB} {a:Act} {w:World},Rel P (RCode P gl) x K C σ a w->iter x.C0.length (run Γ x.C0.length fu m1) n σ=some (e,σ')->Code.roundsIn (Fr x.rnd) 0 P c Q n a w:=by
   intro n;induction n with
   |zero=>grind[iter]
   |succ n ihn=>
    intro σ K C a w h hr;simp only [iter] at hr;split at hr
    ·grind
    rename_i σ1 hc;obtain ⟨K1,C1,h2⟩:=canon_sound h hc;rw [roundsIn_succ];split at hr;next σ2 hs=>exact ih h1 h2 hs fun K' C' a' w' h'=>ihn h' hr
    rename_i hne;refine ih h1 h2 hr fun K' C' a' w' h'=>?_;have:=hQ K' C' a' w' h';cases e with
    |norm=>grind
    |exit k=>exact this
    |ret=>exact this
  grind
 |rangeFunc f ps c1 c2 ih1 ih2=>
  refine ⟨?_,by rintro _ _ ⟨⟩⟩;replace ih1:Sound P gl x Γ A fu c1:=ih1.1;unfold Sound at ih1;replace ih2:Sound P gl x Γ A fu c2:=ih2.1;unfold Sound at ih2;intro m hm σ σ' e K C a w Q h hr hQ;simp only [trCode] at hm;split at hm
  ·rename_i f' am bm hf ha hb;split at hm
   ·grind
   rename_i hps;simp at hm;obtain ⟨live,hlive⟩:∃live,m=.rf f' ps.toList live am bm:=⟨_,hm.symm⟩;subst hlive;have hps':∀p,p∈ps.toList->p<x.nt:=by intro p hp;simp only [Bool.not_eq_true',Bool.not_eq_false] at hps;have:=Array.all_eq_true_iff_forall_mem.1 hps p (by grind);simpa using this
   simp only [run] at hr;split at hr
   ·rename_i g caps hg;split at hr
    ·grind
    rename_i res bx sel hcall;have rf:=ev_rep h.inv.glob h.tm hf hg;generalize hv:a.eval f=v at rf;cases rf with
    |fn hs hrep=>
     rename_i vs;refine wpIn_rangeFunc fun fn _=>?_;obtain ⟨l,mk,w1,hen,h1⟩:=enter_sound (live:=live) rfl h hps' ha hb fn;have hcl:(C++[CB.obj l])[σ.bx.length]?=some (.obj l):=by rw [<-h.inv.size];simp
     have hargs:ArgsRep K (C++[.obj l]) (.yl σ.bx.length::caps) (#[.func (.yield l) #[] #[]]++vs):=by
      have h0:ArgsRep K (C++[.obj l]) [.yl σ.bx.length] #[.func (.yield l) #[] #[]]:=⟨rfl,fun j y u e e'=>by
       cases j with
       |zero=>simp at e e';subst e;subst e';exact .yl hcl
       |succ j=>grind⟩
      exact argsRep_append h0 ⟨hs,fun j y u e e'=>(hrep j y u e e').mono (KLe.refl _) (CLe.append _ _)⟩
     obtain ⟨hok,hcalls⟩:=callRef_fn hΓ h1 hargs hcall;have hinv:=invoke_fn (vs:=vs) (args:=#[.func (.yield l) #[] #[]]) hok w1;have hres:=resolve_fn (P:=P) (a:={a with defers:=mk++a.defers}) (l:=l) hv w1;generalize (#[.func (.yield l) #[] #[]]++vs:Array Value)=cargs at hcalls hinv;refine ⟨l,mk,w1,_,w1,g,cargs,w1,hen,hres,?_,hinv,?_,?_⟩;·exact fun _ _=>trivial
     ·grind[Fr,Fence.wide]
     refine callsIn_fr (hcalls.mono ?_)
     rintro e1 w' ⟨v,K',C',rfl,hle,hrel,_⟩
     obtain ⟨jump,w4,hend,⟨K4,C4,h4⟩,hj⟩:=endRf_sound hrel (hle _ _ hcl) (by have:=c0_le h;have:=h.inv.size;omega) hr;refine ⟨jump,w4,hend,?_⟩;rcases hj with ⟨rfl,rfl⟩|⟨rfl,rfl⟩|⟨k,rfl,rfl⟩;·exact hQ _ _ _ _ h4
     ·exact wpIn_ret (hQ _ _ _ _ h4)
     exact wpIn_exit (hQ _ _ _ _ h4)
   grind
  grind
 |scope b ih=>exact ⟨fun hm=>by simp [trCode] at hm,by rintro _ _ ⟨⟩⟩
 |label l=>exact ⟨fun hm=>by simp [trCode] at hm,by rintro _ _ ⟨⟩⟩
 |goto l=>exact ⟨fun hm=>by simp [trCode] at hm,by rintro _ _ ⟨⟩⟩
 |refuse y=>exact ⟨fun hm=>by simp [trCode] at hm,by rintro _ _ ⟨⟩⟩
theorem run_sound (hΓ:GamOk P (RCode P gl) Γ):∀(c:Code) {m:Em.C},trCode P gl A x.nt c=some m->∀{σ σ':St} {e:Ex} {K:Kn} {C:List CB} {a:Act} {w:World} {Q:Exit->Act->World->Prop},
  Rel P (RCode P gl) x K C σ a w->run Γ x.C0.length fu m σ=some (e,σ')->(∀K' C' a' w',Em.Rel P (RCode P gl) x K' C' σ' a' w'->Q (exitOf e) a' w')->c.wpIn (Fr x.rnd) 0 P Q a w:=
 fun c=>(run_sound0 hΓ c).1
end Go.Em
namespace Go.Em
variable {fn:Func}{f:FuncId}{inb outb:List Bx}
variable {P:Program} {R:CodeRel} {x:Ctx} {K:Kn} {C:List CB} {σ:St} {a:Act} {w:World}
variable {Γ:Gam} {gl:Nat->Option (List X)}
theorem pack_sound {y y':X}{v:Value}(h:Rel P R x K C σ a w)(hF:x.Fp=Owns x.C0 inb)(hlen:x.C0.length=inb.length)(hloops:∀(i:Nat) (B:Bx),inb[i]?=some B->B.isLoop=true->x.loops i=true)
  (hy:Rep K C y v) (e:pack inb.length y σ.bx=some (y',outb)):∃E,PostK P R x.K0 x.C0 inb x.w0 y' outb v w K E:=by
 unfold pack at e;dsimp only at e;split at e
 ·rename_i hc;simp at hc;obtain ⟨bx,hbx,e1⟩:=map_some e;simp at e1;obtain ⟨rfl,rfl⟩:=e1;have h0:=h.tms (tm:=[]) (fun n z hz=>by grind[lk]);obtain ⟨C1,h1,hl1,h2⟩:=h0.pickAll (bx:=bx) hbx (by grind) (fun i hi=>by grind[refsL]);have hle:=c0_le h1;have hC:C1=x.C0++C1.drop x.C0.length:=by
   refine List.ext_getElem? fun i=>?_;by_cases hi:i<x.C0.length;·rw [qa6 hi,qa3 hi];exact h1.cin i _ (qa3 hi)
   ·grind
  refine ⟨C1.drop x.C0.length,?_⟩;refine ⟨by rw [<-hC];exact h1.inv,by grind[subN_iff],h1.k0,fun b o u eu=>?_,fun b o ho=>?_,?_,fun i B hB hl=>?_⟩;·have:=h1.knew b o u eu;rw [hF] at this<;>grind
  ·rw [<-hC] at ho;have:=h1.own b o ho;rw [hF] at this<;>grind
  ·have:=h1.frame<;>grind
  exact h1.loops i (by grind) (hloops i B hB hl)
 grind
theorem resX_run (h:Rel P R x K C σ a w)(f:ResultVar->Sem Value)(h1:∀t,f (.tmp t)=pure (a.tmps.getD t undef))(h2:∀t ty,f (.cell t ty)=(do loadVar ty (<-asAddr (a.tmps.getD t undef)))):
  ∀(l:List ResultVar) {rs:List Rv} {xs:List X},trRes P l=some rs->resX σ rs=some xs->∃vs:List Value,(l.mapM f).run P w=.ok vs w/\vs.length=xs.length/\∀(j:Nat) (y:X) (v:Value),xs[j]?=some y->vs[j]?=some v->Rep K C y v
 |[],rs,xs,e1,e2=>by simp_all[trRes,resX]
 |.tmp t::r,rs,xs,e1,e2=>by
  simp only [trRes] at e1;obtain ⟨rs',hrs,rfl⟩:=map_some e1;simp only [resX] at e2;split at e2
  ·grind
  rename_i y hy;obtain ⟨xs',hxs,rfl⟩:=map_some e2;obtain ⟨vs,g1,g2,g3⟩:=resX_run h f h1 h2 r hrs hxs;obtain ⟨v,hv,hr⟩:=h.tm t y hy;have hd:a.tmps.getD t undef=v:=by simp [hv]
  refine ⟨v::vs,?_,by grind,fun j z u ez eu=>?_⟩;·simp_all
  grind
 |.cell t ty::r,rs,xs,e1,e2=>by
  simp only [trRes] at e1;split at e1
  ·rename_i n rs' hn hrs;simp at e1;subst e1;simp only [resX] at e2;split at e2
   ·grind
   rename_i y hy;obtain ⟨xs',hxs,rfl⟩:=map_some e2;obtain ⟨vs,g1,g2,g3⟩:=resX_run h f h1 h2 r hrs hxs;obtain ⟨p,hp,hl⟩:=qbi.1 hy;obtain ⟨pv,hpv,hr⟩:=h.tm t p hp;obtain ⟨b,o,v,rfl,hload,hrv⟩:=loadX_rep h.inv hn hr hl;have hd:a.tmps.getD t undef=.pointer (some ⟨b,o,none⟩):=by simp [hpv]
   refine ⟨v::vs,?_,by grind,fun j z u ez eu=>?_⟩;·simp_all[asAddr]
   grind
  grind
def resF (tmps:Array Value):ResultVar->Sem Value
 |.tmp t=>pure (tmps.getD t undef)
 |.cell b t=>do loadVar t (<-asAddr (tmps.getD b undef))
theorem results_eq (fn:Func)(tmps:Array Value):results fn tmps=(do let vs <-fn.results.mapM (resF tmps);pure (if h:vs.size=1 then vs[0] else .tuple vs)):=by
 unfold results;have:(fun v:ResultVar=>resF tmps v)=resF tmps:=rfl;rw [<-this]
 congr 2
theorem results_rep (h:Rel P R x K C σ a w){rs:List Rv}{xs:List X}(htr:trRes P fn.results.toList=some rs)(hx:resX σ rs=some xs):∃v,(results fn a.tmps).run P w=.ok v w/\Rep K C (packRes xs) v:=by
 obtain ⟨vs,h1,h2,h3⟩:=resX_run h (resF a.tmps) (fun _=>rfl) (fun _ _=>rfl) _ htr hx;have hrun:(results fn a.tmps).run P w=.ok (if h:vs.toArray.size=1 then vs.toArray[0] else .tuple vs.toArray) w:=by rw [results_eq,Array.mapM_eq_mapM_toList];simp only [map_eq_pure_bind,Sem.run_bind];rw [h1];simp [Result.andThen]
 refine ⟨_,hrun,?_⟩;by_cases hl:xs.length=1;·obtain ⟨y,rfl⟩:=List.length_eq_one_iff.1 hl;obtain ⟨v,rfl⟩:=List.length_eq_one_iff.1 (h2.trans hl);simp only [List.size_toArray,List.length_singleton,dif_pos,packRes];exact h3 0 y v rfl rfl
 have hs:¬vs.toArray.size=1:=by simpa [h2] using hl
 rw [dif_neg hs];have hp:packRes xs=.tup xs:=by
  unfold packRes;split
  ·grind
  rfl
 rw [hp];exact .tup (by grind) fun j y v e e'=>h3 j y v e (by grind)
theorem leaves_sound {fn:Func}{tmps:Array Value}{Rp:Ending->World->Prop}:∀(rs:List Nat) (w:World),(∀r,r∈rs->w.heap[r]?=some (.deferred (some [])))->rs.Nodup->
  (∀w',FrameOk (fun b _=>b∈rs) w w'->∃v,(results fn tmps).run P w'=.ok v w'/\Rp (.returned v) w')->LeavesInM (Fr none) 0 P fn tmps Rp (rs.map mark) .returning w
 |[],w,_,_,h=>by obtain ⟨v,h1,h2⟩:=h w (.refl _ w);exact ⟨v,h1,h2⟩
 |r::rs,w,hm,hn,h=>by
  rw [List.nodup_cons] at hn;have hr:=hm r (by simp);refine ⟨by simp,.inl ⟨r,w.putObj r (.deferred none),rfl,run_takeDeferred hr,?_⟩⟩;refine leaves_sound rs _ (fun k hk=>?_) hn.2 (fun w' hf=>h w' ?_)
  ·grind[World.putObj_heap_other]
  have h1:FrameOk (fun b _=>b∈r::rs) w (w.putObj r (.deferred none)):=putObj_frame hr trivial trivial (fun _=>by simp);exact h1.trans hf (fun b o _ hb=>by grind)
theorem Rel.unmark (h:Rel P R x K C σ a w){rs:List Nat}(hm:∀r,r∈rs->w.heap[r]?=some (.deferred (some []))/\x.w0.heap.size<=r/\∀o,¬Owns C σ.bx r o){w':World}(hf:FrameOk (fun b _=>b∈rs) w w'):
  Rel P R x K C σ {a with defers:=[]} w':=by
 refine {h with inv:=h.inv.frame hf (fun b o v e hb=>?_) (fun b o ho hb=>(hm b hb).2.2 o ho),tm:=h.tm,nt:=h.nt,frame:=h.frame.trans hf (fun b o hlt hb=>?_),defs:=⟨⟨[],rfl,List.nodup_nil,fun r hr=>by grind⟩,fun _=>rfl⟩};·have:=h.inv.known b o v e<;>grind[World.cell?]
 grind
theorem lk_zipTm:∀(xs:List X) (n k:Nat),lk (zipTm n xs) k=if n<=k then xs[k-n]? else none
 |[],n,k=>by grind[zipTm,lk]
 |z::r,n,k=>by
  simp only [zipTm,lk,lk_zipTm r (n+1) k]
  grind
def isLoopAt (inb:List Bx)(i:Nat):Bool:=match inb[i]? with|some B=>B.isLoop|none=>false
theorem isLoopAt_iff {i:Nat}{B:Bx}(h:inb[i]?=some B):isLoopAt inb i=B.isLoop:=by grind[isLoopAt]
theorem fnOk (hf:P.funcs[f]?=some fn)(hn:¬fn.name= "runtime.NumGoroutine")(hb:¬fn.body=none):FnOk P f:=by
 intro args w;simp [callFunc,program,Sem.run,hf,hn,hb]
theorem runF_sound (hΓ:GamOk P (RCode P gl) Γ){fd:Fun}{A:Ann}{fu:Nat}{args:List X}{res:X}(htr:trFun P gl A f=some fd)(e:runF Γ fu fd args inb=some (res,outb)):
  FnOk P f/\FSem P (RCode P gl) f args inb res outb:=by
 unfold trFun at htr;split at htr
 ·grind
 rename_i fn hfn;split at htr
 ·grind
 rename_i hname;split at htr
 ·rename_i m rs hm hrs;split at htr
  ·rename_i hle;simp at htr;subst htr;obtain ⟨c,hb,hc⟩:=qbi.1 hm;refine ⟨fnOk hfn (by grind) (by grind),?_⟩;intro K C w cargs hI hargs;unfold runF at e;split at e
   ·rename_i hlen;simp at hlen;have hsize:cargs.size<=fn.ntmps:=by rw [hargs.1,hlen];exact hle
    let x:Ctx:={nt:=fn.ntmps,K0:=K,C0:=C,loops:=isLoopAt inb,w0:=w,Fp:=Owns C inb,rnd:=none}
    have hst:Rel P (RCode P gl) x K C ⟨zipTm 0 args,inb⟩ {tmps:=cargs++Array.replicate (fn.ntmps-cargs.size) undef,defers:=[]} w:=by
     refine ⟨hI,fun n y ey=>?_,?_,KLe.refl _,fun b o v ev=>.inl ev,fun b o ho=>.inl ho,fun i c hc=>hc,.refl _ _,⟨⟨[],rfl,List.nodup_nil,fun r hr=>by grind⟩,fun _=>rfl⟩,fun i hi hl=>?_,fun l hl=>by grind⟩
     ·rw [lk_zipTm] at ey;simp at ey;have hn:=(qaY.1 ey).1;have hn':n<cargs.size:=by rw [hargs.1];exact hn
      refine ⟨cargs[n],?_,hargs.2 n y _ ey (qa7 hn')⟩<;>grind
     ·grind
     ·grind[isLoopAt]
    have hlenC:x.C0.length=inb.length:=hI.size;have fin:∀(σ':St) (K':Kn) (C':List CB) (a':Act) (w':World),Em.Rel P (RCode P gl) x K' C' σ' a' w'->((resX σ' rs).bind fun xs=>pack inb.length (packRes xs) σ'.bx)=some (res,outb)->
      LeavesInM (Fr none) 0 P fn a'.tmps (Post P (RCode P gl) K C inb w res outb) a'.defers .returning w':=by
     intro σ' K' C' a' w' hr he;obtain ⟨xs,hxs,hpk⟩:=qbi.1 he;obtain ⟨ms,hms,hnd,hmk⟩:=hr.defs.marks;rw [hms];refine leaves_sound ms w' (fun r hr=>(hmk r hr).1) hnd fun w'' hf=>?_;have hr2:=hr.unmark hmk hf;obtain ⟨v,hv,hrep⟩:=results_rep hr2 hrs hxs;obtain ⟨E,hE⟩:=pack_sound hr2 rfl hlenC (fun i B hB hl=>by grind[isLoopAt_iff]) hrep hpk;exact ⟨v,hv,v,K',E,rfl,hE⟩
    refine (callsIn_wide (n:=0)).1 (callsIn_of_wp_marks (F:=Fr none) hfn hb trivial ?_);split at e;next σ' hrun=>rw [<-hlenC] at hrun;exact run_sound (x:=x) hΓ c hc hst hrun fun K' C' a' w' hr=>fin σ' K' C' a' w' hr e
    next σ' hrun=>rw [<-hlenC] at hrun;exact run_sound (x:=x) hΓ c hc hst hrun fun K' C' a' w' hr=>fin σ' K' C' a' w' hr e
    grind
   grind
  grind
 grind
end Go.Em
namespace Go.Em
variable {P:Program} {R:CodeRel} {x:Ctx} {K:Kn} {C:List CB} {σ:St} {a:Act} {w:World}
variable {Γ:Gam} {gl:Nat->Option (List X)}
theorem zipPs_tm:∀{ps:List Nat} {as:List X} {vs:List Value} {tm tm':List (Nat×X)} {tmps:Array Value},zipPs ps as tm=some tm'->vs.length=as.length->(∀(j:Nat) (y:X) (v:Value),as[j]?=some y->vs[j]?=some v->Rep K C y v)->
  (∀p,p∈ps->p<tmps.size)->TmOk K C tm tmps->ps.length=as.length/\TmOk K C tm' ((ps.zip vs).foldl (fun tmps q=>tmps.setIfInBounds q.1 q.2) tmps)
 |[],[],vs,tm,tm',tmps,e,hl,_,_,h=>by simp_all[zipPs]
 |p::ps,y::as,[],tm,tm',tmps,e,hl,_,_,_=>by grind
 |p::ps,y::as,v::vs,tm,tm',tmps,e,hl,hr,hp,h=>by
  simp only [zipPs] at e;have h1:TmOk K C ((p,y)::tm) (tmps.setIfInBounds p v):=by
   intro n z ez;simp only [lk] at ez;split at ez;next hn=>simp at hn;subst hn;simp at ez;subst ez;exact ⟨v,by grind,hr 0 y v rfl rfl⟩
   rename_i hn;obtain ⟨u,hu,hru⟩:=h n z ez<;>grind
  obtain ⟨g1,g2⟩:=zipPs_tm (vs:=vs) e (by simpa using hl) (fun j z u ez eu=>hr (j+1) z u (by simpa using ez) (by simpa using eu)) (fun q hq=>by simpa using hp q (by simp [hq])) h1<;>simp_all
 |[],_::_,_,_,_,_,e,_,_,_,_=>by grind[zipPs]
 |_::_,[],_,_,_,_,e,_,_,_,_=>by grind[zipPs]
theorem foldl_size:∀(l:List (Nat×Value)) (tmps:Array Value),(l.foldl (fun tmps q=>tmps.setIfInBounds q.1 q.2) tmps).size=tmps.size
 |[],_=>rfl
 |q::l,tmps=>by simp [foldl_size l]
theorem endRound_sound {l i:Nat}{bx:List Bx}{pend:Option Ex}{st:LoopState}(h:Rel P R x K C σ a w)(hc:C[i]?=some (.obj l))(jump:Option Code)(hj:PendOk pend jump)(hst:st=if jump.isNone then .ready else .done)
  (e:setLoop σ.bx i .busy st pend=some bx):∃w',(Instr.endRound l jump).run P w=.ok (.bool jump.isNone) w'/\Rel P R x K C ⟨σ.tm,bx⟩ a w':=by
 unfold setLoop at e;split at e
 ·rename_i s p tm ps am bm hB;split at e;·simp at e;subst e;obtain ⟨lp,hl,_,_,hr⟩:=h.setLoop (st':=st) (pend':=pend) (jump:=jump) hB hc hj<;>grind[run_endRound]
  grind
 grind
theorem runY_sound (hΓ:GamOk P (RCode P gl) Γ){fu:Nat}{args:List X}{inb outb:List Bx}{res:X}(e:runY Γ fu args inb=some (res,outb)):YSem P (RCode P gl) args inb res outb:=by
 unfold runY at e;split at e
 ·rename_i i as;refine ⟨i,as,rfl,fun K C w cargs l r hI hi hargs=>?_⟩;split at e
  ·rename_i tm ps am bm hB;obtain ⟨lp,hl,ho⟩:=hI.box i _ _ hB hi;obtain ⟨A,hca,hcb⟩:=ho.hcode;split at e
   ·grind
   rename_i tm' hz;obtain ⟨hpl,htm⟩:=zipPs_tm (vs:=cargs.toList) hz (by simpa using hargs.1) (fun j y v e1 e2=>hargs.2 j y v e1 (by grind)) ho.hin ho.htm;have hsz:cargs.size=lp.params.size:=by rw [hargs.1,<-hpl,<-ho.hps];simp
   have hfold:(lp.params.zip cargs).foldl (fun tmps (t,a)=>tmps.setIfInBounds t a) lp.tmps=(ps.zip cargs.toList).foldl (fun tmps q=>tmps.setIfInBounds q.1 q.2) lp.tmps:=by rw [<-ho.hps,<-Array.toList_zip,Array.foldl_toList]
   refine ⟨_,_,_,_,run_yield hl hsz,?_⟩;rw [hfold];generalize htt:(ps.zip cargs.toList).foldl (fun tmps q=>tmps.setIfInBounds q.1 q.2) lp.tmps=tmps at htm;have hts:tmps.size=lp.tmps.size:=by rw [<-htt];exact foldl_size _ _
   let x:Ctx:={nt:=lp.tmps.size,K0:=K,C0:=C,loops:=isLoopAt inb,w0:=w,Fp:=Owns C inb,rnd:=some l}
   have hloop:∀(i:Nat) (B:Bx),inb[i]?=some B->B.isLoop=true->x.loops i=true:=fun i B hB hl=>by grind[isLoopAt_iff]
   have hst:Rel P (RCode P gl) x K C ⟨tm',inb⟩ {tmps:=tmps,defers:=[]} w:=by
    refine ⟨hI,htm,hts,KLe.refl _,fun b o v ev=>.inl ev,fun b o ho=>.inl ho,fun i c hc=>hc,.refl _ _,⟨⟨[],rfl,List.nodup_nil,fun r hr=>by grind⟩,fun _=>rfl⟩,fun i hi hl=>?_,fun l' hl'=>?_⟩
    ·grind[isLoopAt]
    simp [x] at hl';subst hl';exact ⟨i,(qaY.1 hi).1,hloop i _ hB rfl,hi⟩
   have hlenC:x.C0.length=inb.length:=hI.size;refine roundIn_of_wpIn trivial ?_;have hF:(Fr r).inRound l=Fr x.rnd:=rfl;rw [hF];split at e
   ·rename_i σ1 hrun;rw [<-hlenC] at hrun;split at e
    ·grind
    rename_i bx hset;refine run_sound (x:=x) hΓ lp.assign hca hst hrun fun K1 C1 a1 w1 h1=>?_;have hc1:=h1.cin i _ hi;have hbeg:∃w2,(Instr.beginRound l).run P w1=.ok () w2/\Em.Rel P (RCode P gl) x K1 C1 ⟨σ1.tm,bx⟩ a1 w2:=by
     unfold beginL at hset;split at hset;next tm2 ps2 am2 bm2 hB2=>simp at hset;subst hset;obtain ⟨lp2,hl2,hs2,hp2,_⟩:=h1.setLoop (st':=.busy) (pend':=none) (jump:=none) hB2 hc1 trivial;obtain ⟨lp3,hl3,hs3,_,hr2⟩:=h1.setLoop (st':=.busy) (pend':=none) (jump:=lp2.pending) hB2 hc1 hp2<;>grind[run_beginRound]
     ·grind
    obtain ⟨w2,hb2,hr2⟩:=hbeg;refine ⟨w2,hb2,?_⟩;have fin:∀(σ3:St) (pend:Option Ex) (st:LoopState) (jump:Option Code),PendOk pend jump->(st=if jump.isNone then .ready else .done)->(setLoop σ3.bx i .busy st pend).bind (fun bx=>pack inb.length (.v (.bool jump.isNone)) bx)=some (res,outb)->
      ∀K3 C3 a3 w3,Em.Rel P (RCode P gl) x K3 C3 σ3 a3 w3->∃v w',(Instr.endRound l jump).run P w3=.ok v w'/\Post P (RCode P gl) K C inb w res outb (.returned v) w':=by
     intro σ3 pend st jump hj hst he K3 C3 a3 w3 h3;obtain ⟨bx3,hset3,hpk⟩:=qbi.1 he;obtain ⟨w4,hrun4,h4⟩:=endRound_sound h3 (h3.cin i _ hi) jump hj hst hset3;obtain ⟨E,hE⟩:=pack_sound (σ:=⟨σ3.tm,bx3⟩) h4 rfl hlenC hloop (y:=.v (.bool jump.isNone)) (.v rfl) hpk;exact ⟨_,w4,hrun4,_,K3,E,rfl,hE⟩
    split at e
    ·grind
    next σ3 hrun3=>rw [<-hlenC] at hrun3;exact run_sound (x:=x) hΓ lp.body hcb hr2 hrun3 fun K3 C3 a3 w3 h3=>fin σ3 none .ready none trivial rfl e K3 C3 a3 w3 h3
    rename_i ex σ3 hne hrun3;rw [<-hlenC] at hrun3;refine run_sound (x:=x) hΓ lp.body hcb hr2 hrun3 fun K3 C3 a3 w3 h3=>?_;cases ex with
    |norm=>grind
    |ret=>exact fin σ3 (some .ret) .done (some .ret) trivial rfl e K3 C3 a3 w3 h3
    |exit k=>exact fin σ3 (some (.exit k)) .done (some (.exit k)) rfl rfl e K3 C3 a3 w3 h3
   grind
  grind
 grind
def TabOk (P:Program)(gl:Nat->Option (List X))(T:FuncId->Option Fun):Prop:=∀f fd,T f=some fd->∃A,trFun P gl A f=some fd
def ExtOk (P:Program)(gl:Nat->Option (List X))(ext:Ext):Prop:=∀f g,ext f=some g->∀args inb res outb,g args inb=some (res,outb)->FnOk P f/\FSem P (RCode P gl) f args inb res outb
theorem callF_ok {T:FuncId->Option Fun}{ext:Ext}(hT:TabOk P gl T)(hE:ExtOk P gl ext):∀n,GamOk P (RCode P gl) (callF T ext n)
 |0=>⟨fun f args inb res outb e=>by grind[callF],fun args inb res outb e=>by grind[callF]⟩
 |n+1=>by
  have ih:=callF_ok hT hE n;refine ⟨fun f args inb res outb e=>?_,fun args inb res outb e=>?_⟩
  ·simp only [callF] at e;split at e;next g hg=>exact hE f g hg args inb res outb e
   split at e;next fd hfd=>obtain ⟨A,hA⟩:=hT f fd hfd<;>grind[runF_sound]
   grind
  grind[callF,runY_sound]
end Go.Em
