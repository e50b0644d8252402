/-.-/
import Derived.Laws.Cells
import Derived.Laws.CopyRow
import Derived.Laws.Entries
import Derived.ChangeKeysEq
import Derived.Laws.Append
import Derived.Laws.MakeOwn
import Derived.Lib.ConvBytes
import Derived.Test.YtonnphbfclaigaaGreatDoorEmP0
set_option linter.all false
namespace Go.Em
variable {arr:Array Value}{us vs:List Value}{xs:List X}{b g j o:Nat}{S S':Nat->Nat->Prop}{v:Value}{a w w':World}{x:X}
abbrev Kn:=Nat->Nat->Option Value
variable {K K':Kn}
inductive CB where
 |at (b base hi sz:Nat)
 |ghost
 |obj (b:Nat)
variable {C C':List CB}
def CB.owns:CB->Nat->Nat->Prop
 |.at b base hi _,b',o=>b'=b/\base<=o/\o<hi
 |.obj b,b',_=>b'=b
 |.ghost,_,_=>False
def okV:Value->Bool
 |.bool _|.int _ _|.float _ _|.string _|.pointer none|.map none|.nilFunc|.nilIface=>true
 |.tuple vs=>vs.isEmpty
 |_=>false
def at2 (es:qbI)(i j:Nat):Option X:=(es[i]?).bind (·[j]?)
inductive Rep (K:Kn):List CB->X->Value->Prop
 |v {C:List CB} {x:Value} (h:okV x=true):Rep K C (.v x) x
 |slNil {C:List CB} {t:Bool} {sz:Nat} {ob:Option Addr}:Rep K C (.sl t sz []) (.slice ob 0 0)
 |sl {C:List CB} {t:Bool} {es:qbI} {b o sz cap:Nat} (vals:Nat->Nat->Value) (hlen:∀(e:List X),e∈es->e.length=sz)
   (htight:t=true->cap=es.length) (hcap:es.length<=cap)
   (hcell:∀(i j:Nat) (x:X),at2 es i j=some x->x.isCell=true)
   (hk:∀(i j:Nat) (x:X),at2 es i j=some x->K b (o+i*sz+j)=some (vals i j))
   (hr:∀(i j:Nat) (x:X),at2 es i j=some x->Rep K [] x (vals i j)):Rep K C (.sl t sz es) (.slice (some ⟨b,o,none⟩) es.length cap)
 |bs {C:List CB} {i off len b base hi sz cap:Nat} (hc:C[i]?=some (.at b base hi sz)) (hcap:base+(off+cap)*sz<=hi) (hlen:len<=cap):
   Rep K C (.bs i off len) (.slice (some ⟨b,base+off*sz,none⟩) len cap)
 |bsNil {C:List CB} {i:Nat} {ob:Option Addr} (hc:C[i]?=some .ghost):Rep K C (.bs i 0 0) (.slice ob 0 0)
 |ptr {C:List CB} {i e o b base hi sz:Nat} (hc:C[i]?=some (.at b base hi sz)):Rep K C (.ptr i e o) (.pointer (some ⟨b,base+e*sz+o,none⟩))
 |dp {C:List CB} {cs:List X} {b o:Nat} (vals:Nat->Value) (hcell:∀(j:Nat) (x:X),cs[j]?=some x->x.isCell=true)
   (hk:∀(j:Nat) (x:X),cs[j]?=some x->K b (o+j)=some (vals j)) (hr:∀(j:Nat) (x:X),cs[j]?=some x->Rep K [] x (vals j)):
   Rep K C (.dp cs) (.pointer (some ⟨b,o,none⟩))
 |fn {C:List CB} {f:FuncId} {caps:List X} {vs:Array Value} (hs:vs.size=caps.length)
   (hr:∀(j:Nat) (x:X) (v:Value),caps[j]?=some x->vs[j]?=some v->Rep K C x v):Rep K C (.fn f caps) (.func (.func f) #[] vs)
 |agg {C:List CB} {cs:List X} {vs:Array Value} (hs:vs.size=cs.length) (hcell:∀(x:X),x∈cs->x.isCell=true)
   (hr:∀(j:Nat) (x:X) (v:Value),cs[j]?=some x->vs[j]?=some v->Rep K C x v):Rep K C (.agg cs) (.agg vs)
 |tup {C:List CB} {xs:List X} {vs:Array Value} (hs:vs.size=xs.length)
   (hr:∀(j:Nat) (x:X) (v:Value),xs[j]?=some x->vs[j]?=some v->Rep K C x v):Rep K C (.tup xs) (.tuple vs)
 |yl {C:List CB} {i b:Nat} (hc:C[i]?=some (.obj b)):Rep K C (.yl i) (.func (.yield b) #[] #[])
 |mp {C:List CB} {i b:Nat} (hc:C[i]?=some (.obj b)):Rep K C (.mp i) (.map (some b))
 |it {C:List CB} {i b:Nat} (hc:C[i]?=some (.obj b)):Rep K C (.it i) (.pointer (some ⟨b,0,none⟩))
 |ifc {C:List CB} {t:TypeId} {v:Value}:Rep K C .ifc (.iface t v)
def KLe (K K':Kn):Prop:=∀(b o:Nat) (v:Value),K b o=some v->K' b o=some v
theorem KLe.refl (K:Kn):KLe K K:=fun _ _ _ h=>h
theorem KLe.trans {K'':Kn}(h:KLe K K')(h':KLe K' K''):KLe K K'':=fun b o v e=>h' b o v (h b o v e)
def CLe (C C':List CB):Prop:=∀(i:Nat) (c:CB),C[i]?=some c->C'[i]?=some c
theorem CLe.refl (C:List CB):CLe C C:=fun _ _ h=>h
theorem CLe.nil (C:List CB):CLe [] C:=fun _ _ h=>by grind
theorem CLe.append (C E:List CB):CLe C (C++E):=fun i c h=>by grind
theorem CLe.trans {C'':List CB}(h:CLe C C')(h':CLe C' C''):CLe C C'':=fun i c e=>h' i c (h i c e)
theorem Rep.mono (hK:KLe K K')(h:Rep K C x v):∀{C':List CB},CLe C C'->Rep K' C' x v:=by
 induction h with
 |v h=>exact fun _=>.v h
 |slNil=>exact fun _=>.slNil
 |sl vals hlen ht hcap hcell hk _ ih=>exact fun _=>.sl vals hlen ht hcap hcell (fun i j x e=>hK _ _ _ (hk i j x e)) (fun i j x e=>ih i j x e (CLe.refl _))
 |bs hc hcap hlen=>exact fun hC=>.bs (hC _ _ hc) hcap hlen
 |bsNil hc=>exact fun hC=>.bsNil (hC _ _ hc)
 |ptr hc=>exact fun hC=>.ptr (hC _ _ hc)
 |dp vals hcell hk _ ih=>exact fun _=>.dp vals hcell (fun j x e=>hK _ _ _ (hk j x e)) (fun j x e=>ih j x e (CLe.refl _))
 |fn hs _ ih=>exact fun hC=>.fn hs (fun j x v e e'=>ih j x v e e' hC)
 |agg hs hcell _ ih=>exact fun hC=>.agg hs hcell (fun j x v e e'=>ih j x v e e' hC)
 |tup hs _ ih=>exact fun hC=>.tup hs (fun j x v e e'=>ih j x v e e' hC)
 |yl hc=>exact fun hC=>.yl (hC _ _ hc)
 |mp hc=>exact fun hC=>.mp (hC _ _ hc)
 |it hc=>exact fun hC=>.it (hC _ _ hc)
 |ifc=>exact fun _=>.ifc
structure CRep (K:Kn) (C:List CB) (xs:List X) (vs:List Value):Prop where
 len:vs.length=xs.length
 cell:∀(x:X),x∈xs->x.isCell=true
 rep:∀(j:Nat) (x:X) (v:Value),xs[j]?=some x->vs[j]?=some v->Rep K C x v
theorem CRep.mono (h:CRep K C xs vs)(hK:KLe K K')(hC:CLe C C'):CRep K' C' xs vs:=
 ⟨h.len,h.cell,fun j x v e e'=>(h.rep j x v e e').mono hK hC⟩
theorem CRep.nil :CRep K C [] []:=⟨rfl,by simp,by simp⟩
theorem CRep.cons (hc:x.isCell=true)(h:Rep K C x v)(t:CRep K C xs vs):
  CRep K C (x::xs) (v::vs):=
 ⟨by simp [t.len],by (simp only [qbl];intro y hy;rcases hy with rfl|hy;exact hc;exact t.cell y hy),
  fun j y u e e'=>by cases j with
  |zero=>grind
  |succ j=>simp at e e';exact t.rep j y u e e'⟩
theorem CRep.append {ys:List X}(h:CRep K C xs vs)(t:CRep K C ys us):CRep K C (xs++ys) (vs++us):=by
 refine ⟨by simp [h.len,t.len],?_,?_⟩;·intro x hx;rcases qbm.1 hx with hx|hx;exact h.cell x hx;exact t.cell x hx
 intro j x v e e';by_cases hj:j<xs.length;·rw [qa6 hj] at e;rw [qa6 (by rw [h.len]<;>grind)] at e';exact h.rep j x v e e'
 rw [qbf (by omega)] at e;rw [qbf (by rw [h.len];omega),h.len] at e';exact t.rep _ x v e e'
theorem CRep.take (h:CRep K C xs vs)(n:Nat):CRep K C (xs.take n) (vs.take n):=by
 refine ⟨by simp [h.len],fun x hx=>h.cell x (List.mem_of_mem_take hx),fun j x v e e'=>?_⟩;rw [qbb] at e e';split at e;next hj=>rw [if_pos hj] at e';exact h.rep j x v e e'
 grind
theorem CRep.drop (h:CRep K C xs vs)(n:Nat):CRep K C (xs.drop n) (vs.drop n):=by refine ⟨by simp [h.len],fun x hx=>h.cell x (List.mem_of_mem_drop hx),fun j x v e e'=>?_⟩;rw [qa8] at e e';exact h.rep _ x v e e'
theorem CRep.get (h:CRep K C xs vs)(e:xs[j]?=some x):
  ∃v,vs[j]?=some v/\Rep K C x v:=by
 have hj:j<vs.length:=by rw [h.len];exact (qaY.1 e).1
 exact ⟨vs[j],qa3 hj,h.rep j x _ e (qa3 hj)⟩
theorem CRep.get' (h:CRep K C xs vs)(e:vs[j]?=some v):
  ∃x,xs[j]?=some x/\Rep K C x v:=by
 have hj:j<xs.length:=by rw [<-h.len];exact (qaY.1 e).1
 exact ⟨xs[j],qa3 hj,h.rep j _ v (qa3 hj) e⟩
theorem CRep.splice {new xs':List X}(h:CRep K C xs vs)(hn:CRep K C new us)(e:splice xs o new=some xs'):
  CRep K C xs' (vs.take o++us++vs.drop (o+us.length))/\o+us.length<=vs.length:=by
 unfold Em.splice at e;split at e;next hle=>simp only [qaE] at e;subst e;refine ⟨?_,by rw [hn.len,h.len]<;>grind⟩;rw [hn.len];exact ((h.take o).append hn).append (h.drop _)
 grind
theorem okV_cell (h:okV v=true)(h1:X.ok1 (.v v)=true):v.oneCell'=true:=by
 cases v<;>simp_all [okV,X.ok1,Value.oneCell']
theorem isCell_ok1 (h:x.isCell=true):x.ok1=true:=by unfold X.isCell at h<;>grind[X.ok1]
theorem Rep.oneCell (h:Rep K C x v)(hc:x.isCell=true):v.oneCell'=true:=by
 cases h with
 |v h=>grind[okV_cell,isCell_ok1]
 |agg=>grind[X.isCell]
 |tup=>grind[X.isCell]
 |_=>rfl
theorem CRep.oneCell (h:CRep K C xs vs):∀v,v∈vs->v.oneCell'=true:=by intro v hv;obtain ⟨j,hj,rfl⟩:=List.mem_iff_getElem.1 hv;obtain ⟨x,hx,hr⟩:=h.get' (qa3 hj);exact hr.oneCell (h.cell x (qa5 hx))
theorem Rep.cells (h:Rep K C x v)(h1:x.ok1=true):CRep K C x.cells v.cells.toList:=by
 cases h with
 |agg hs hcell hr=>exact ⟨by grind[Value.cells,X.cells],hcell,fun j x v e e'=>hr j x v e (by grind[Value.cells])⟩
 |v h=>
  have hc:=okV_cell h h1;have e:v.cells.toList=[v]:=by cases v<;>simp_all [Value.cells,Value.oneCell']
  have e':(X.v v).isCell=true:=by cases v<;>simp_all [X.isCell,Value.oneCell']
  rw [e];exact CRep.cons e' (.v h) CRep.nil
 |tup=>grind[X.ok1]
 |slNil=>exact CRep.cons rfl .slNil CRep.nil
 |sl vals hlen ht hcap hcell hk hr=>exact CRep.cons rfl (.sl vals hlen ht hcap hcell hk hr) CRep.nil
 |bs hc hcap hlen=>exact CRep.cons rfl (.bs hc hcap hlen) CRep.nil
 |bsNil hc=>exact CRep.cons rfl (.bsNil hc) CRep.nil
 |ptr hc=>exact CRep.cons rfl (.ptr hc) CRep.nil
 |dp vals hcell hk hr=>exact CRep.cons rfl (.dp vals hcell hk hr) CRep.nil
 |fn hs hr=>exact CRep.cons rfl (.fn hs hr) CRep.nil
 |yl hc=>exact CRep.cons rfl (.yl hc) CRep.nil
 |mp hc=>exact CRep.cons rfl (.mp hc) CRep.nil
 |it hc=>exact CRep.cons rfl (.it hc) CRep.nil
 |ifc=>exact CRep.cons rfl .ifc CRep.nil
theorem memN_iff {n:Nat}:∀{l:List Nat},memN n l=true↔n∈l
 |[]=>by simp [memN]
 |m::r=>by simp [memN,memN_iff (l:=r)]
theorem subN_iff {l s:List Nat}:subN l s=true↔∀i,i∈l->i∈s:=by grind[subN,memN_iff]
theorem idxN_get {n:Nat}:∀{l:List Nat},n∈l->l[idxN n l]?=some n
 |m::r,h=>by
  unfold idxN;by_cases e:n=m
  ·grind
  have:(n==m)=false:=by simpa using e
  simp only [this];have hr:n∈r:=by rcases qbl.1 h with h|h;exact absurd h e;exact h
  simpa using idxN_get hr
theorem mem_refsL {i:Nat}:∀{cs:List X},i∈refsL cs↔∃x,x∈cs/\i∈x.refs
 |[]=>by simp [refsL]
 |x::r=>by simp [refsL,mem_refsL (cs:=r)]
theorem renL_eq (f:Nat->Nat):∀cs:List X,renL f cs=cs.map (X.ren f)
 |[]=>rfl
 |x::r=>by simp [renL,renL_eq f r]
theorem isCell_ren (f:Nat->Nat)(x:X):(x.ren f).isCell=x.isCell:=by
 cases x<;>simp [X.ren,X.isCell]
theorem Rep.ren {f:Nat->Nat}(h:Rep K C x v)
  (hC:∀i,i∈x.refs->∀c,C[i]?=some c->C'[f i]?=some c):Rep K C' (x.ren f) v:=by
 induction h with
 |v h=>exact .v h
 |slNil=>exact .slNil
 |sl vals hlen ht hcap hcell hk hr=>exact .sl vals hlen ht hcap hcell hk hr
 |bs hc hcap hlen=>exact .bs (hC _ (by simp [X.refs]) _ hc) hcap hlen
 |bsNil hc=>exact .bsNil (hC _ (by simp [X.refs]) _ hc)
 |ptr hc=>exact .ptr (hC _ (by simp [X.refs]) _ hc)
 |dp vals hcell hk hr=>exact .dp vals hcell hk hr
 |fn hs _ ih=>
  refine .fn (by grind[renL_eq]) (fun j y v e e'=>?_);rw [renL_eq,qbe] at e;obtain ⟨y',hy,rfl⟩:=qa1.1 e
  grind[X.refs,mem_refsL]
 |agg hs hcell _ ih=>
  refine .agg (by grind[renL_eq]) (fun y hy=>?_) (fun j y v e e'=>?_);·rw [renL_eq] at hy;obtain ⟨z,hz,rfl⟩:=qbh.1 hy<;>simp_all[isCell_ren]
  rw [renL_eq,qbe] at e;obtain ⟨y',hy,rfl⟩:=qa1.1 e
  grind[X.refs,mem_refsL]
 |tup hs _ ih=>
  refine .tup (by grind[renL_eq]) (fun j y v e e'=>?_);rw [renL_eq,qbe] at e;obtain ⟨y',hy,rfl⟩:=qa1.1 e
  grind[X.refs,mem_refsL]
 |yl hc=>exact .yl (hC _ (by simp [X.refs]) _ hc)
 |mp hc=>exact .mp (hC _ (by simp [X.refs]) _ hc)
 |it hc=>exact .it (hC _ (by simp [X.refs]) _ hc)
 |ifc=>exact .ifc
theorem Rep.noRef (h:Rep K C x v)(hx:x.refs=[]):Rep K C' x v:=by
 induction h with
 |v h=>exact .v h
 |slNil=>exact .slNil
 |sl vals hlen ht hcap hcell hk hr=>exact .sl vals hlen ht hcap hcell hk hr
 |bs=>grind[X.refs]
 |bsNil=>grind[X.refs]
 |ptr=>grind[X.refs]
 |dp vals hcell hk hr=>exact .dp vals hcell hk hr
 |fn hs _ ih=>
  refine .fn hs (fun j y v e e'=>ih j y v e e' ?_);have:∀i,i∉y.refs:=fun i hi=>by have:i∈refsL _:=mem_refsL.2 ⟨y,qa5 e,hi⟩<;>grind[X.refs]
  simp_all[List.eq_nil_iff_forall_not_mem]
 |agg hs hcell _ ih=>
  refine .agg hs hcell (fun j y v e e'=>ih j y v e e' ?_);have:∀i,i∉y.refs:=fun i hi=>by have:i∈refsL _:=mem_refsL.2 ⟨y,qa5 e,hi⟩<;>grind[X.refs]
  simp_all[List.eq_nil_iff_forall_not_mem]
 |tup hs _ ih=>
  refine .tup hs (fun j y v e e'=>ih j y v e e' ?_);have:∀i,i∉y.refs:=fun i hi=>by have:i∈refsL _:=mem_refsL.2 ⟨y,qa5 e,hi⟩<;>grind[X.refs]
  simp_all[List.eq_nil_iff_forall_not_mem]
 |yl=>grind[X.refs]
 |mp=>grind[X.refs]
 |it=>grind[X.refs]
 |ifc=>exact .ifc
def PendOk:Option Ex->Option Code->Prop
 |none,none=>True
 |some .ret,some .ret=>True
 |some (.exit i),some (.exit j)=>i=j
 |_,_=>False
def TmOk (K:Kn)(C:List CB)(tm:List (Nat×X))(tmps:Array Value):Prop:=
 ∀(n:Nat) (x:X),lk tm n=some x->∃v,tmps[n]?=some v/\Rep K C x v
structure CodeRel where
 rel:Nat->Code->Code->Em.C->Em.C->Prop
 gl:Nat->Option (List X)
def GlobOk (R:CodeRel)(K:Kn):Prop:=∀(g:Nat) (cs:List X),R.gl g=some cs->Rep K [] (.dp cs) (.pointer (some ⟨g,0,none⟩))
theorem GlobOk.mono {R:CodeRel}(h:GlobOk R K)(hK:KLe K K'):GlobOk R K':=fun g cs e=>(h g cs e).mono hK (CLe.refl _)
structure LoopOk (_P:Program) (R:CodeRel) (K:Kn) (C:List CB) (st:LoopState) (pend:Option Ex) (tm:List (Nat×X)) (ps:List Nat) (a b:Em.C) (l:Loop):Prop where
 hst:l.state=st
 hpend:PendOk pend l.pending
 htm:TmOk K C tm l.tmps
 hps:l.params.toList=ps
 hin:∀(p:Nat),p∈ps->p<l.tmps.size
 hcode:R.rel l.tmps.size l.assign l.body a b
structure EntsOk (K:Kn) (es:List (Value×X)) (ents:List MapEntry):Prop where
 len:ents.length=es.length
 key:∀(j:Nat) (e:Value×X) (m:MapEntry),es[j]?=some e->ents[j]?=some m->m.key=e.1
 val:∀(j:Nat) (e:Value×X) (m:MapEntry),es[j]?=some e->ents[j]?=some m->e.2.ok1=true/\e.2.refs=[]/\Rep K [] e.2 m.val
theorem EntsOk.mono {es:List (Value×X)}{ents:List MapEntry}(h:EntsOk K es ents)(hK:KLe K K'):EntsOk K' es ents:=
 ⟨h.len,h.key,fun j e m h1 h2=>⟨(h.val j e m h1 h2).1,(h.val j e m h1 h2).2.1,(h.val j e m h1 h2).2.2.mono hK (CLe.refl _)⟩⟩
structure Born (ents:Array MapEntry) (clock:Nat):Prop where
 clock:clock=ents.size
 born:∀(j:Nat) (m:MapEntry),ents[j]?=some m->m.born=j
 key:∀(j:Nat) (m:MapEntry),ents[j]?=some m->okV m.key=true
def BoxOk (P:Program)(R:CodeRel)(K:Kn)(C:List CB)(w:World):Bx->CB->Prop
 |.dead,_=>True
 |.var cs,.at b base hi _=>base=0/\hi=cs.length/\∃(arr:Array Value) (el:TypeId),w.heap[b]?=some (.cells arr el (0,0))/\CRep K C cs arr.toList
 |.row sz es,.at b base hi sz'=>sz'=sz/\base+es.length*sz<=hi/\(∀(e:List X),e∈es->e.length=sz)/\
   ∃(arr:Array Value) (el:TypeId),w.heap[b]?=some (.cells arr el (0,0))/\hi<=arr.size/\
    ∀(i j:Nat) (x:X),at2 es i j=some x->x.isCell=true/\∃v,arr[base+i*sz+j]?=some v/\Rep K [] x v
 |.row _ es,.ghost=>es=[]
 |.map es,.obj b=>∃(ents:Array MapEntry) (clock:Nat),w.heap[b]?=some (.map ents clock)/\EntsOk K es ents.toList/\Born ents clock
 |.iter m s l,.obj b=>∃bm:Nat,C[m]?=some (.obj bm)/\w.heap[b]?=some (.mapIter (some bm) s l.toArray s)
 |.loop st p tm ps a c,.obj b=>∃l:Loop,w.heap[b]?=some (.loop l)/\LoopOk P R K C st p tm ps a c l
 |_,_=>False
def Bx.live:Bx->Bool
 |.dead=>false
 |_=>true
def Owns (C:List CB)(bx:List Bx)(b o:Nat):Prop:=∃(i:Nat) (c:CB) (B:Bx),C[i]?=some c/\bx[i]?=some B/\B.live=true/\c.owns b o
structure Inv (P:Program) (R:CodeRel) (K:Kn) (C:List CB) (bx:List Bx) (w:World):Prop where
 glob:GlobOk R K
 known:∀(b o:Nat) (v:Value),K b o=some v->w.cell? ⟨b,o,none⟩=some v
 size:C.length=bx.length
 apart:∀(b o:Nat),Owns C bx b o->K b o=none
 disj:∀(i j:Nat) (c d:CB) (A B:Bx) (b o:Nat),i≠j->C[i]?=some c->C[j]?=some d->bx[i]?=some A->bx[j]?=some B->A.live=true->B.live=true->c.owns b o->¬d.owns b o
 box:∀(i:Nat) (B:Bx) (c:CB),bx[i]?=some B->C[i]?=some c->BoxOk P R K C w B c
def noCells:Option Obj->Prop
 |some (.cells _ _ _)=>False
 |_=>True
def ObjFr (S:Nat->Prop)(o o':Option Obj):Prop:=
 ((∀i,S i)/\noCells o/\noCells o')\/o=o'\/∃(cs cs':Array Value) (el:TypeId) (fr:Nat×Nat),o=some (.cells cs el fr)/\o'=some (.cells cs' el fr)/\cs.size=cs'.size/\∀i,¬S i->cs[i]?=cs'[i]?
structure FrameOk (S:Nat->Nat->Prop) (w w':World):Prop where
 os:w'.os=w.os
 tape:w'.tape=w.tape
 output:w'.output=w.output
 size:w.heap.size<=w'.heap.size
 block:∀b,b<w.heap.size->ObjFr (S b) w.heap[b]? w'.heap[b]?
theorem ObjFr.refl (S:Nat->Prop)(o:Option Obj):ObjFr S o o:=.inr (.inl rfl)
theorem ObjFr.trans {S S':Nat->Prop}{a b c:Option Obj}(h:ObjFr S a b)(h':ObjFr S' b c)(hs:∀i,S' i->S i):ObjFr S a c:=by
 rcases h with ⟨h,ha,hb⟩|rfl|⟨cs,cs',el,fr,rfl,rfl,hz,he⟩
 ·refine .inl ⟨h,ha,?_⟩;rcases h' with ⟨_,_,hc⟩|rfl|⟨cs,cs',el,fr,rfl,rfl,hz,he⟩<;>try grind
  exact hb.elim
 ·rcases h' with ⟨h',ha,hc⟩|rfl|⟨cs,cs',el,fr,h1,h2,hz,he⟩;·exact .inl ⟨fun i=>hs i (h' i),ha,hc⟩
  ·exact .inr (.inl rfl)
  exact .inr (.inr ⟨cs,cs',el,fr,h1,h2,hz,fun i hi=>he i fun h=>hi (hs i h)⟩)
 rcases h' with ⟨_,ha,_⟩|rfl|⟨ds,ds',el',fr',h1,h2,hz',he'⟩;·exact ha.elim
 ·exact .inr (.inr ⟨cs,cs',el,fr,rfl,rfl,hz,he⟩)
 simp only [qaE,Obj.cells.injEq] at h1;obtain ⟨rfl,rfl,rfl⟩:=h1;exact .inr (.inr ⟨cs,ds',_,_,rfl,h2,hz.trans hz',fun i hi=>(he i hi).trans (he' i fun h=>hi (hs i h))⟩)
theorem FrameOk.refl (S:Nat->Nat->Prop)(w:World):FrameOk S w w:=⟨rfl,rfl,rfl,Nat.le_refl _,fun _ _=>.refl _ _⟩
theorem FrameOk.trans {b c:World}(h:FrameOk S a b)(h':FrameOk S' b c)(hs:∀k o,k<a.heap.size->S' k o->S k o):FrameOk S a c:=
 ⟨h'.os.trans h.os,h'.tape.trans h.tape,h'.output.trans h.output,Nat.le_trans h.size h'.size,
  fun k hk=>(h.block k hk).trans (h'.block k (Nat.lt_of_lt_of_le hk h.size)) fun i hi=>hs k i hk hi⟩
theorem FrameOk.mono {b:World}(h:FrameOk S a b)(hs:∀k o,k<a.heap.size->S k o->S' k o):FrameOk S' a b:=
 ⟨h.os,h.tape,h.output,h.size,fun k hk=>by
  rcases h.block k hk with ⟨h,ha,hb⟩|h|⟨cs,cs',el,fr,h1,h2,hz,he⟩;·exact .inl ⟨fun i=>hs k i hk (h i),ha,hb⟩
  ·exact .inr (.inl h)
  exact .inr (.inr ⟨cs,cs',el,fr,h1,h2,hz,fun i hi=>he i fun h=>hi (hs k i hk h)⟩)⟩
theorem FrameOk.drew (S:Nat->Nat->Prop)(w:World):FrameOk S w w.drew:=⟨rfl,rfl,rfl,Nat.le_refl _,fun _ _=>.refl _ _⟩
theorem FrameOk.alloc (S:Nat->Nat->Prop)(w:World)(o:Obj):FrameOk S w (w.alloc o):=
 ⟨rfl,rfl,rfl,by simp,fun k hk=>.inr (.inl (by show _=(w.heap.push o)[k]?<;>simp_all[Array.getElem?_push,Nat.ne_of_lt]))⟩
theorem FrameOk.cell (h:FrameOk S w w')(hc:w.cell? ⟨b,o,none⟩=some v)(hn:¬S b o):
  w'.cell? ⟨b,o,none⟩=some v:=by
 have hb:b<w.heap.size:=World.block_lt_of_cell? _ _ hc;rcases h.block b hb with ⟨h,_,_⟩|h|⟨cs,cs',el,fr,h1,h2,hz,he⟩
 ·grind
 ·grind[World.cell?]
 grind[World.cell?]
theorem FrameOk.row (h:FrameOk S w w'){el:TypeId}{fr:Nat×Nat}
  (hb:w.heap[b]?=some (.cells arr el fr)):
  ∃arr',w'.heap[b]?=some (.cells arr' el fr)/\arr'.size=arr.size/\∀o,¬S b o->arr'[o]?=arr[o]?:=by
 have hlt:b<w.heap.size:=(qbA.1 hb).1;rcases h.block b hlt with ⟨_,h,_⟩|h|⟨cs,cs',el',fr',h1,h2,hz,he⟩;·rw [hb] at h;exact h.elim
 ·grind
 grind
theorem FrameOk.obj (h:FrameOk S w w'){o:Obj}(hb:w.heap[b]?=some o)(ho:noCells (some o))
  {o₀:Nat} (hn:¬S b o₀):w'.heap[b]?=some o:=by
 have hlt:b<w.heap.size:=(qbA.1 hb).1;rcases h.block b hlt with ⟨h,_,_⟩|h|⟨cs,cs',el',fr',h1,h2,hz,he⟩<;>try grind
 rw [hb] at h1;rw [h1] at ho;exact ho.elim
theorem FrameOk.setRow {arr':Array Value}{el:TypeId}(hg:w.heap[g]?=some (.cells arr el (0,0)))
  (hz:arr'.size=arr.size) (he:∀o,¬S g o->arr[o]?=arr'[o]?):FrameOk S w (w.setRow g arr'):=
 ⟨rfl,rfl,rfl,by simp,fun k _=>by
  by_cases hk:k=g;·subst hk;exact .inr (.inr ⟨arr,arr',el,_,hg,setRow_heap w k arr arr' el _ hg,hz.symm,he⟩)
  rw [setRow_other w g k arr' hk];exact .refl _ _⟩
theorem FrameOk.setObj {o o':Obj}(hg:w.heap[g]?=some o)(ho:noCells (some o))(ho':noCells (some o'))
  (hs:∀i,S g i):FrameOk S w {w with heap:=w.heap.setIfInBounds g o'}:=
 ⟨rfl,rfl,rfl,by simp,fun k hk=>by
  by_cases h:k=g;·subst h;refine .inl ⟨hs,by rw [hg];exact ho,?_⟩<;>grind
  refine .inr (.inl ?_)<;>grind⟩
end Go.Em
namespace Go.Em
variable {tmps:Array Value}{A B:Bx}{c:CB}{tm:List (Nat×X)}{bx:List Bx}{b i o:Nat}{S:Nat->Nat->Prop}{v:Value}{w':World}{y:X}
variable {P:Program} {R:CodeRel}
theorem TmOk.mono {K K':Kn}{C C':List CB}(h:TmOk K C tm tmps)(hK:KLe K K')(hC:CLe C C'):TmOk K' C' tm tmps:=
 fun n x e=>let ⟨v,hv,hr⟩:=h n x e;⟨v,hv,hr.mono hK hC⟩
theorem LoopOk.mono {K K':Kn}{C C':List CB}{st:LoopState}{pend:Option Ex}{ps:List Nat}{a b:Em.C}{l:Loop}
  (h:LoopOk P R K C st pend tm ps a b l) (hK:KLe K K') (hC:CLe C C'):LoopOk P R K' C' st pend tm ps a b l:=
 ⟨h.hst,h.hpend,h.htm.mono hK hC,h.hps,h.hin,h.hcode⟩
theorem BoxOk.mono {K K':Kn}{C C':List CB}{w w':World}(h:BoxOk P R K C w B c)(hK:KLe K K')(hC:CLe C C')
  (hf:FrameOk S w w') (hs:∀b o,c.owns b o->¬S b o):BoxOk P R K' C' w' B c:=by
 cases B with
 |dead=>trivial
 |var cs=>
  cases c with
  |«at» b base hi sz=>
   obtain ⟨h0,h1,arr,el,hb,hc⟩:=h;obtain ⟨arr',hb',hz,he⟩:=hf.row hb;refine ⟨h0,h1,arr',el,hb',?_⟩;have:arr'=arr:=Array.ext_getElem? fun i=>by
    by_cases hi':i<hi;·exact he i (hs b i ⟨rfl,by omega,hi'⟩)
    have hl:arr.size=hi:=by rw [h1];simpa using hc.len
    grind
   rw [this];exact hc.mono hK hC
  |ghost=>exact h.elim
  |obj b=>exact h.elim
 |row sz es=>
  cases c with
  |«at» b base hi sz'=>
   obtain ⟨h0,h1,h2,arr,el,hb,hl,hc⟩:=h;obtain ⟨arr',hb',hz,he⟩:=hf.row hb;refine ⟨h0,h1,h2,arr',el,hb',by omega,fun i j x hx=>?_⟩;obtain ⟨hc1,v,hv,hr⟩:=hc i j x hx;refine ⟨hc1,v,?_,hr.mono hK (CLe.refl _)⟩;rw [he];exact hv;refine hs b _ ⟨rfl,by omega,?_⟩;unfold at2 at hx;obtain ⟨e,hei,hej⟩:=qbi.1 hx;have hi1:=(qaY.1 hei).1;have hj1:=(qaY.1 hej).1;rw [h2 e (qa5 hei)] at hj1;have:i*sz+sz<=es.length*sz:=by have:=qbn sz (show i+1<=es.length from hi1);rw [Nat.add_mul,Nat.one_mul] at this;exact this
   omega
  |ghost=>exact h
  |obj b=>exact h.elim
 |loop st p tm ps a b=>
  cases c with
  |obj blk=>obtain ⟨l,hl,ho⟩:=h;exact ⟨l,hf.obj hl trivial (o₀:=0) (hs blk 0 rfl),ho.mono hK hC⟩
  |«at»=>exact h.elim
  |ghost=>exact h.elim
 |map es=>
  cases c with
  |obj blk=>obtain ⟨ents,clock,hl,ho,hb⟩:=h;exact ⟨ents,clock,hf.obj hl trivial (o₀:=0) (hs blk 0 rfl),ho.mono hK,hb⟩
  |«at»=>exact h.elim
  |ghost=>exact h.elim
 |iter m s k=>
  cases c with
  |obj blk=>obtain ⟨bm,hm,hl⟩:=h;exact ⟨bm,hC _ _ hm,hf.obj hl trivial (o₀:=0) (hs blk 0 rfl)⟩
  |«at»=>exact h.elim
  |ghost=>exact h.elim
theorem BoxOk.block {K:Kn}{C:List CB}{w:World}(h:BoxOk P R K C w B c)(hl:B.live=true)(ho:c.owns b o):b<w.heap.size:=by
 cases B with
 |dead=>grind[Bx.live]
 |var cs=>cases c with
  |«at»=>obtain ⟨_,_,arr,el,hb,_⟩:=h;obtain ⟨rfl,_⟩:=ho;grind
  |ghost=>exact h.elim
  |obj=>exact h.elim
 |row sz es=>cases c with
  |«at»=>obtain ⟨_,_,_,arr,el,hb,_⟩:=h;obtain ⟨rfl,_⟩:=ho;grind
  |ghost=>exact ho.elim
  |obj=>exact h.elim
 |loop=>cases c with
  |«at»=>exact h.elim
  |ghost=>exact h.elim
  |obj=>obtain ⟨l,hb,_⟩:=h;cases ho<;>grind
 |map=>cases c with
  |«at»=>exact h.elim
  |ghost=>exact h.elim
  |obj=>obtain ⟨_,_,hb,_⟩:=h;cases ho<;>grind
 |iter=>cases c with
  |«at»=>exact h.elim
  |ghost=>exact h.elim
  |obj=>obtain ⟨_,_,hb⟩:=h;cases ho<;>grind
theorem Inv.get {K:Kn}{C:List CB}{w:World}(h:Inv P R K C bx w)(e:bx[i]?=some B):
  ∃c,C[i]?=some c/\BoxOk P R K C w B c:=by
 have hi:i<C.length:=by rw [h.size];exact (qaY.1 e).1
 exact ⟨C[i],qa3 hi,h.box i B _ e (qa3 hi)⟩
theorem Inv.owns_lt {K:Kn}{C:List CB}{w:World}(h:Inv P R K C bx w)(ho:Owns C bx b o):b<w.heap.size:=by obtain ⟨i,c,B,hc,hb,hl,hw⟩:=ho;exact (h.box i B c hb hc).block hl hw
theorem Inv.known_lt {K:Kn}{C:List CB}{w:World}(h:Inv P R K C bx w)(e:K b o=some v):b<w.heap.size:=
 World.block_lt_of_cell? _ _ (h.known b o v e)
theorem Inv.frame {K:Kn}{C:List CB}{w w':World}(h:Inv P R K C bx w)(hf:FrameOk S w w')
  (hk:∀b o v,K b o=some v->¬S b o) (ho:∀b o,Owns C bx b o->¬S b o):Inv P R K C bx w':=
 ⟨h.glob,fun b o v e=>hf.cell (h.known b o v e) (hk b o v e),h.size,h.apart,h.disj,fun i B c e e'=>by
  by_cases hl:B.live=true;·exact (h.box i B c e e').mono (KLe.refl _) (CLe.refl _) hf (fun b o hw=>ho b o ⟨i,c,B,e',e,hl,hw⟩)
  cases B<;>first|trivial|simp [Bx.live] at hl⟩
def nowhere:Nat->Nat->Prop:=fun _ _=>False
theorem Inv.still {K:Kn}{C:List CB}{w w':World}(h:Inv P R K C bx w)(hf:FrameOk nowhere w w'):Inv P R K C bx w':=
 h.frame hf (fun _ _ _ _=>id) (fun _ _ _=>id)
theorem Inv.kill {K:Kn}{C:List CB}{w:World}(h:Inv P R K C bx w)(i:Nat):Inv P R K C (bx.set i .dead) w:=by
 have hget:∀(j:Nat) (B:Bx),(bx.set i .dead)[j]?=some B->B.live=true->bx[j]?=some B:=by
  intro j B e hl;rw [List.getElem?_set] at e;split at e
  ·grind[Bx.live]
  exact e
 refine ⟨h.glob,h.known,by simpa using h.size,?_,?_,?_⟩
 ·rintro b o ⟨j,c,B,hc,hb,hl,hw⟩
  exact h.apart b o ⟨j,c,B,hc,hget j B hb hl,hl,hw⟩
 ·intro j k c d A B b o hne hc hd hA hB hlA hlB;exact h.disj j k c d A B b o hne hc hd (hget j A hA hlA) (hget k B hB hlB) hlA hlB
 intro j B c hB hc;by_cases hl:B.live=true;·exact h.box j B c (hget j B hB hl) hc
 cases B<;>first|trivial|simp [Bx.live] at hl
theorem owns_kill {C:List CB}(h:Owns C (bx.set i .dead) b o):Owns C bx b o:=by obtain ⟨j,c,B,hc,hb,hl,hw⟩:=h;refine ⟨j,c,B,hc,?_,hl,hw⟩<;>grind[Bx.live]
theorem Inv.push {K:Kn}{C:List CB}{w:World}(h:Inv P R K C bx w)(hB:BoxOk P R K (C++[c]) w B c)
  (hk:∀b o,c.owns b o->K b o=none) (ho:∀b o,c.owns b o->¬Owns C bx b o):Inv P R K (C++[c]) (bx++[B]) w:=by
 have hg:∀(j:Nat) (A:Bx),(bx++[B])[j]?=some A->(j<bx.length/\bx[j]?=some A)\/(j=bx.length/\A=B):=by
  intro j A e;by_cases hj:j<bx.length
  ·grind
  ·grind
 have hgc:∀(j:Nat) (d:CB),(C++[c])[j]?=some d->(j<bx.length/\C[j]?=some d)\/(j=bx.length/\d=c):=by
  intro j d e;rw [<-h.size];by_cases hj:j<C.length
  ·grind
  ·grind
 refine ⟨h.glob,h.known,by simp [h.size],?_,?_,?_⟩
 ·rintro b o ⟨j,d,A,hd,hA,hl,hw⟩
  rcases hg j A hA with ⟨hj,hA⟩|⟨hj,rfl⟩
  ·rcases hgc j d hd with ⟨_,hd⟩|⟨e,_⟩;·exact h.apart b o ⟨j,d,A,hd,hA,hl,hw⟩
   grind
  grind
 ·intro j k d e A A' b o hne hd he hA hA' hl hl' hw hw';rcases hg j A hA with ⟨hj,hA1⟩|⟨hj,hA1⟩
  ·rcases hgc j d hd with ⟨_,hd1⟩|⟨e1,_⟩
   ·rcases hg k A' hA' with ⟨hk',hA2⟩|⟨hk',hA2⟩
    ·rcases hgc k e he with ⟨_,he1⟩|⟨e1,_⟩;·exact h.disj j k d e A A' b o hne hd1 he1 hA1 hA2 hl hl' hw hw'
     grind
    rcases hgc k e he with ⟨e1,_⟩|⟨_,e2⟩;·omega
    exact ho b o (e2▸hw') ⟨j,d,A,hd1,hA1,hl,hw⟩
   grind
  rcases hgc j d hd with ⟨e1,_⟩|⟨_,e2⟩;·omega
  rcases hg k A' hA' with ⟨hk',hA2⟩|⟨hk',_⟩
  ·rcases hgc k e he with ⟨_,he1⟩|⟨e1,_⟩;·exact ho b o (e2▸hw) ⟨k,e,A',he1,hA2,hl',hw'⟩
   grind
  grind
 intro j A d hA hd;rcases hg j A hA with ⟨hj,hA⟩|⟨hj,rfl⟩
 ·rcases hgc j d hd with ⟨_,hd⟩|⟨e,_⟩;·exact (h.box j A d hA hd).mono (KLe.refl _) (CLe.append _ _) (.refl nowhere w) (fun _ _ _=>id)
  grind
 grind
theorem owns_push {C:List CB}(hs:C.length=bx.length)(h:Owns (C++[c]) (bx++[B]) b o):Owns C bx b o\/c.owns b o:=by
 obtain ⟨j,d,A,hd,hA,hl,hw⟩:=h;by_cases hj:j<bx.length;·rw [qa6 hj] at hA;rw [qa6 (by omega)] at hd;exact .inl ⟨j,d,A,hd,hA,hl,hw⟩
 grind
theorem Inv.set {K:Kn}{C:List CB}{w w':World}(h:Inv P R K C bx w)(hA:bx[i]?=some A)(hl:A.live=true)(hc:C[i]?=some c)
  (hf:FrameOk (fun b o=>c.owns b o) w w') (hB:BoxOk P R K C w' B c):Inv P R K C (bx.set i B) w':=by
 have hlt:=(qaY.1 hA).1;have hget:∀(j:Nat) (A':Bx),(bx.set i B)[j]?=some A'->(j=i/\A'=B)\/(j≠i/\bx[j]?=some A'):=by
  intro j A' e;rw [List.getElem?_set] at e;split at e
  ·grind
  ·grind
 have hmine:∀b o,c.owns b o->Owns C bx b o:=fun b o hw=>⟨i,c,A,hc,hA,hl,hw⟩;have hnew:∀b o,Owns C (bx.set i B) b o->Owns C bx b o:=by
  rintro b o ⟨j,d,A',hd,hA',hl',hw⟩
  rcases hget j A' hA' with ⟨rfl,rfl⟩|⟨_,hA'⟩
  ·grind
  exact ⟨j,d,A',hd,hA',hl',hw⟩
 refine ⟨h.glob,fun b o v e=>hf.cell (h.known b o v e) (fun hw=>?_),by simpa using h.size,fun b o hw=>h.apart b o (hnew b o hw),?_,?_⟩;·have:=h.apart b o (hmine b o hw)<;>grind
 ·intro j k d e D E b o hne hd he hD hE hlD hlE hw hw';rcases hget j D hD with ⟨e1,e2⟩|⟨hj,hD1⟩
  ·rcases hget k E hE with ⟨e3,e4⟩|⟨hk,hE1⟩
   ·grind
   exact h.disj j k d e A E b o hne hd he (e1▸hA) hE1 hl hlE hw hw'
  rcases hget k E hE with ⟨e3,e4⟩|⟨hk,hE1⟩;·exact h.disj j k d e D A b o hne hd he hD1 (e3▸hA) hlD hl hw hw'
  exact h.disj j k d e D E b o hne hd he hD1 hE1 hlD hlE hw hw'
 intro j D d hD hd;rcases hget j D hD with ⟨rfl,rfl⟩|⟨hj,hD⟩
 ·grind
 by_cases hlD:D.live=true;·exact (h.box j D d hD hd).mono (KLe.refl _) (CLe.refl _) hf (fun b o hw hw'=>h.disj j i d c D A b o hj hd hc hD hA hlD hl hw hw')
 cases D<;>first|trivial|simp [Bx.live] at hlD
theorem owns_set {C:List CB}(hA:bx[i]?=some A)(hl:A.live=true)(h:Owns C (bx.set i B) b o):Owns C bx b o:=by
 obtain ⟨j,c,D,hc,hb,hl',hw⟩:=h;rw [List.getElem?_set] at hb;split at hb;next hij=>subst hij;exact ⟨i,c,A,hc,hA,hl,hw⟩
 exact ⟨j,c,D,hc,hb,hl',hw⟩
theorem Inv.know {K K':Kn}{C:List CB}{w:World}(h:Inv P R K C bx w)(hK:KLe K K')(hn:∀b o v,K' b o=some v->w.cell? ⟨b,o,none⟩=some v)
  (ho:∀b o,Owns C bx b o->K' b o=none):Inv P R K' C bx w:=
 ⟨h.glob.mono hK,hn,h.size,ho,h.disj,fun i B c e e'=>(h.box i B c e e').mono hK (CLe.refl _) (.refl nowhere w) (fun _ _ _=>id)⟩
def Kn.add (K:Kn)(nb:Nat)(arr:Array Value):Kn:=fun b o=>if b=nb then arr[o]? else K b o
theorem Kn.add_le {K:Kn}{C:List CB}{w:World}(h:Inv P R K C bx w)(arr:Array Value):KLe K (K.add w.heap.size arr):=by intro b o v e;have:=h.known_lt e<;>grind[Kn.add]
theorem Inv.learn {K:Kn}{C:List CB}{w:World}(h:Inv P R K C bx w)(arr:Array Value)(el:TypeId):
  Inv P R (K.add w.heap.size arr) C bx (w.alloc (.cells arr el)):=by
 refine (h.still (FrameOk.alloc _ w _)).know (Kn.add_le h arr) ?_ ?_
 ·intro b o v e;unfold Kn.add at e;split at e;·simp_all
  have:=h.known b o v e;rw [World.cell?_alloc_lt _ _ _ (World.block_lt_of_cell? _ _ this)]<;>grind
 intro b o ho;have:=h.owns_lt ho;simp [Kn.add,Nat.ne_of_lt this,h.apart b o ho]
structure Ctx where
 nt:Nat
 K0:Kn
 C0:List CB
 loops:Nat->Bool
 w0:World
 Fp:Nat->Nat->Prop
 rnd:Option Nat
def Bx.isLoop:Bx->Bool
 |.loop .. =>true
 |_=>false
def mark (r:Nat):Deferred:={target:=.collected r,args:=#[]}
structure DefOk (x:Ctx) (C:List CB) (bx:List Bx) (a:Act) (w:World):Prop where
 marks:∃rs:List Nat,a.defers=rs.map mark/\rs.Nodup/\∀r,r∈rs->w.heap[r]?=some (.deferred (some []))/\x.w0.heap.size<=r/\∀o,¬Owns C bx r o
 round:x.rnd.isSome=true->a.defers=[]
structure Rel (P:Program) (R:CodeRel) (x:Ctx) (K:Kn) (C:List CB) (σ:St) (a:Act) (w:World):Prop where
 inv:Inv P R K C σ.bx w
 tm:TmOk K C σ.tm a.tmps
 nt:a.tmps.size=x.nt
 k0:KLe x.K0 K
 knew:∀(b o:Nat) (v:Value),K b o=some v->x.K0 b o=some v\/x.Fp b o\/x.w0.heap.size<=b
 own:∀(b o:Nat),Owns C σ.bx b o->x.Fp b o\/x.w0.heap.size<=b
 cin:∀(i:Nat) (c:CB),x.C0[i]?=some c->C[i]?=some c
 frame:FrameOk x.Fp x.w0 w
 defs:DefOk x C σ.bx a w
 loops:∀(i:Nat),i<x.C0.length->x.loops i=true->∃B,σ.bx[i]?=some B/\B.isLoop=true
 rnd:∀l,x.rnd=some l->∃i,i<x.C0.length/\x.loops i=true/\x.C0[i]?=some (.obj l)
variable {x:Ctx} {K:Kn} {C:List CB} {σ:St} {a:Act} {w:World}
theorem lk_setD (d:Option Nat)(y:X)(tm:List (Nat×X))(n:Nat):lk (setD d y tm) n=if d=some n then some y else lk tm n:=by
 cases d<;>grind[setD,lk]
theorem TmOk.set {K:Kn}{C:List CB}{a:Act}(h:TmOk K C tm a.tmps)(hr:Rep K C y v)(d:Option Nat)(hd:∀n,d=some n->n<a.tmps.size):
  TmOk K C (setD d y tm) (a.put d v).tmps:=by
 intro n z e;rw [lk_setD] at e;cases d with
 |none=>simp at e;simpa [Act.put] using h n z e
 |some d=>
  by_cases hn:d=n;·simp_all[Act.put]
  simp [hn] at e;obtain ⟨u,hu,hr'⟩:=h n z e<;>grind[Act.put]
theorem put_size (a:Act)(d:Option Nat)(v:Value):(a.put d v).tmps.size=a.tmps.size:=by cases d<;>simp [Act.put]
theorem put_defers (a:Act)(d:Option Nat)(v:Value):(a.put d v).defers=a.defers:=by cases d<;>rfl
theorem DefOk.put (h:DefOk x C bx a w)(d:Option Nat)(v:Value):DefOk x C bx (a.put d v) w:=
 ⟨by rw [put_defers];exact h.marks,by rw [put_defers];exact h.round⟩
theorem Rel.set (h:Rel P R x K C σ a w)(hr:Rep K C y v)(d:Option Nat)(hd:∀n,d=some n->n<x.nt):
  Rel P R x K C ⟨setD d y σ.tm,σ.bx⟩ (a.put d v) w:=
 {h with tm:=h.tm.set hr d (by rw [h.nt]<;>grind),nt:=by rw [put_size];exact h.nt,defs:=h.defs.put d v}
theorem Rel.still (h:Rel P R x K C σ a w)(hf:FrameOk nowhere w w'):Rel P R x K C σ a w':=
 {h with
  inv:=h.inv.still hf
  frame:=h.frame.trans hf (fun _ _ _=>False.elim)
  defs:=⟨by obtain ⟨rs,h1,h2,h3⟩:=h.defs.marks;exact ⟨rs,h1,h2,fun r hr=>⟨hf.obj (h3 r hr).1 trivial (o₀:=0) id,(h3 r hr).2⟩⟩,h.defs.round⟩}
theorem Rel.learn (h:Rel P R x K C σ a w)(arr:Array Value)(el:TypeId):
  Rel P R x (K.add w.heap.size arr) C σ a (w.alloc (.cells arr el)):=by
 have hs:=h.still (FrameOk.alloc nowhere w (.cells arr el));exact {hs with
  inv:=h.inv.learn arr el
  tm:=h.tm.mono (Kn.add_le h.inv arr) (CLe.refl _)
  k0:=h.k0.trans (Kn.add_le h.inv arr)
  knew:=fun b o v e=>by
   unfold Kn.add at e;split at e;next hb=>subst hb;exact .inr (.inr h.frame.size)
   exact h.knew b o v e}
theorem Rel.push (h:Rel P R x K C σ a w)(o:Obj)(hB:BoxOk P R K (C++[c]) (w.alloc o) B c)(hc:∀b k,c.owns b k->b=w.heap.size):
  Rel P R x K (C++[c]) ⟨σ.tm,σ.bx++[B]⟩ a (w.alloc o):=by
 have hs:=h.still (FrameOk.alloc nowhere w o);have hn:∀b k,c.owns b k->¬Owns C σ.bx b k:=fun b k hw ho=>by have:=h.inv.owns_lt ho<;>grind
 refine {hs with inv:=?_,tm:=?_,own:=?_,cin:=?_,defs:=?_,loops:=?_}
 ·refine hs.inv.push hB (fun b k hw=>?_) hn;cases e:K b k with
  |none=>rfl
  |some v=>have:=h.inv.known_lt e<;>grind
 ·exact hs.tm.mono (KLe.refl _) (CLe.append _ _)
 ·intro b k ho;rcases owns_push h.inv.size ho with ho|ho;·exact h.own b k ho
  have:=hc b k ho;subst this;exact .inr h.frame.size
 ·intro i d e;exact CLe.append _ _ _ _ (h.cin i d e)
 ·obtain ⟨rs,h1,h2,h3⟩:=hs.defs.marks;refine ⟨⟨rs,h1,h2,fun r hr=>⟨(h3 r hr).1,(h3 r hr).2.1,fun k ho=>?_⟩⟩,hs.defs.round⟩;rcases owns_push h.inv.size ho with ho|ho
  ·grind
  have:=hc r k ho;have h4:=(h.defs.marks);obtain ⟨rs',h1',_,h3'⟩:=h4;have:rs=rs':=by
   have:=h1.symm.trans h1';have inj:∀l l':List Nat,l.map mark=l'.map mark->l=l':=by
    intro l;induction l with
    |nil=>simp_all
    |cons y l ih=>intro l' e;cases l'<;>grind[mark]
   exact inj _ _ this
  grind
 intro i hi hl;obtain ⟨B',hB',hl'⟩:=h.loops i hi hl<;>grind
theorem Rel.setBox (h:Rel P R x K C σ a w)(hA:σ.bx[i]?=some A)(hl:A.live=true)(hc:C[i]?=some c)
  (hf:FrameOk (fun b o=>c.owns b o) w w') (hB:BoxOk P R K C w' B c) (hL:A.isLoop=true->B.isLoop=true):
  Rel P R x K C ⟨σ.tm,σ.bx.set i B⟩ a w':=by
 have hmine:∀b o,c.owns b o->Owns C σ.bx b o:=fun b o hw=>⟨i,c,A,hc,hA,hl,hw⟩;refine {h with inv:=?_,own:=?_,frame:=?_,defs:=?_,loops:=?_};·exact h.inv.set hA hl hc hf hB
 ·intro b o ho;exact h.own b o (owns_set hA hl ho)
 ·refine h.frame.trans hf (fun b o hlt hw=>?_);rcases h.own b o (hmine b o hw) with h'|h'<;>grind
 ·obtain ⟨rs,h1,h2,h3⟩:=h.defs.marks;refine ⟨⟨rs,h1,h2,fun r hr=>⟨hf.obj (h3 r hr).1 trivial (o₀:=0) (fun hw=>(h3 r hr).2.2 0 (hmine r 0 hw)),(h3 r hr).2.1,fun o ho=>(h3 r hr).2.2 o (owns_set hA hl ho)⟩⟩,h.defs.round⟩
 intro j hj hl';obtain ⟨B',hB',hl''⟩:=h.loops j hj hl'<;>grind
theorem Rel.kill (h:Rel P R x K C σ a w)(i:Nat)(hi:∀B,σ.bx[i]?=some B->B.isLoop=true->¬i<x.C0.length):Rel P R x K C ⟨σ.tm,σ.bx.set i .dead⟩ a w:=by
 refine {h with inv:=h.inv.kill i,own:=fun b o ho=>h.own b o (owns_kill ho),defs:=?_,loops:=?_};·obtain ⟨rs,h1,h2,h3⟩:=h.defs.marks;exact ⟨⟨rs,h1,h2,fun r hr=>⟨(h3 r hr).1,(h3 r hr).2.1,fun o ho=>(h3 r hr).2.2 o (owns_kill ho)⟩⟩,h.defs.round⟩
 intro j hj hl';obtain ⟨B',hB',hl''⟩:=h.loops j hj hl'<;>grind
theorem Rel.tms (h:Rel P R x K C σ a w)(ht:TmOk K C tm a.tmps):Rel P R x K C ⟨tm,σ.bx⟩ a w:=
 {h with tm:=ht}
theorem lk_keep (live:List Nat)(tm:List (Nat×X))(n:Nat)(y:X)(e:lk (keep live tm) n=some y):lk tm n=some y:=by
 induction live with
 |nil=>grind[keep,lk]
 |cons k r ih=>simp only [keep,List.filterMap_cons] at e ih;cases hk:lk tm k<;>grind[lk]
theorem TmOk.keep (h:TmOk K C tm tmps)(live:List Nat):TmOk K C (keep live tm) tmps:=
 fun n y e=>h n y (lk_keep live tm n y e)
end Go.Em
namespace Go.Em
variable {op:BinOp}{b:Bool}{cs l:List X}{i sz:Nat}{p' q':Opd}{p q:Operand}{n:Option Nat}{m pv u v z:Value}
variable {P:Program} {R:CodeRel} {x:Ctx} {K:Kn} {C:List CB} {σ:St} {a:Act} {w:World}
theorem cellX_rep {y:X}(h:cellX sz v=some y)(K:Kn)(C:List CB):Rep K C y v/\y.isCell=true:=by
 unfold cellX at h;split at h<;>first
  |(simp only [qaE] at h;subst h;exact ⟨.v rfl,rfl⟩)
  |(simp only [qaE] at h;subst h;exact ⟨.slNil,rfl⟩)
  |grind
theorem cellsX_rep (K:Kn)(C:List CB):∀{vs:List Value} {szs:List Nat} {l:List X},cellsX szs vs=some l->CRep K C l vs
 |[],_,l,h=>by simp [cellsX] at h;subst h;exact .nil
 |v::r,szs,l,h=>by
  simp only [cellsX] at h;cases hv:cellX (hd0 szs) v with
  |none=>grind
  |some y=>simp only [hv] at h;obtain ⟨t,ht,rfl⟩:=qa1.1 h;obtain ⟨hr,hc⟩:=cellX_rep hv K C;exact .cons hc hr (cellsX_rep K C ht)
theorem constX_rep {t:TypeId}{y:X}(h:constX P t v=some y)(K:Kn)(C:List CB):Rep K C y v:=by
 unfold constX at h;split at h;next cs=>obtain ⟨l,hl,rfl⟩:=qa1.1 h;have hr:=cellsX_rep K C hl;exact .agg (by simpa using hr.len) hr.cell (fun j x v e e'=>hr.rep j x v e (by grind))
 grind[cellX_rep]
theorem ev_rep {o:Operand}{q:Opd}{y:X}{t:TypeId}(hg:GlobOk R K)(h:TmOk K C σ.tm a.tmps)(htr:trOpd P R.gl t o=some q)(he:σ.ev q=some y):Rep K C y (a.eval o):=by
 cases o with
 |tmp n=>simp only [trOpd,qaE] at htr;subst htr;obtain ⟨v,hv,hr⟩:=h n y he<;>simp_all[Act.eval]
 |const v=>simp only [trOpd] at htr;obtain ⟨z,hz,rfl⟩:=qa1.1 htr;simp only [St.ev,qaE] at he;subst he;exact constX_rep hz K C
 |global g=>simp only [trOpd] at htr;obtain ⟨cs,hcs,rfl⟩:=qa1.1 htr;simp only [St.ev,qaE] at he;subst he;have:=(hg g cs hcs).mono (KLe.refl _) (CLe.nil C)<;>grind[Act.eval]
 |func f=>simp only [trOpd,qaE] at htr;subst htr;simp only [St.ev,qaE] at he;subst he;exact .fn (by simp) (by simp)
theorem evs_rep (hg:GlobOk R K)(h:TmOk K C σ.tm a.tmps):∀{os:List Operand} {ts:List TypeId} {qs:List Opd} {ys:List X},trOpds P R.gl ts os=some qs->evs σ qs=some ys->
  ys.length=os.length/\∀(j:Nat) (y:X) (v:Value),ys[j]?=some y->(os.map a.eval)[j]?=some v->Rep K C y v
 |[],ts,qs,ys,h1,h2=>by grind[trOpds,evs]
 |o::r,ts,qs,ys,h1,h2=>by
  simp only [trOpds] at h1;cases ho:trOpd P R.gl (hd0 ts) o with
  |none=>grind
  |some q=>
   simp only [ho] at h1;obtain ⟨qs',hq,rfl⟩:=qa1.1 h1;simp only [evs] at h2;cases he:σ.ev q with
   |none=>grind
   |some y=>simp only [he] at h2;obtain ⟨ys',hy,rfl⟩:=qa1.1 h2;obtain ⟨i1,i2⟩:=evs_rep hg h hq hy<;>grind[ev_rep]
theorem natX_rep {y:X}{n:Nat}(h:Rep K C y v)(e:natX y=some n):v=.int .i64 n:=by
 unfold natX at e;split at e
 ·split at e;next hn=>simp only [qaE] at e;cases h<;>grind
  grind
 grind
theorem idxX_rep {y:X}{n:Nat}(h:Rep K C y v)(e:idxX y=some n):∃k,v=.int k n:=by
 unfold idxX at e;split at e
 ·split at e;next hn=>simp only [qaE] at e;cases h<;>grind
  grind
 grind
theorem sizeP_run {t:TypeId}{n:Nat}(h:sizeP P t=some n)(w:World):(sizeOf t).run P w=.ok n w:=by unfold sizeP at h;obtain ⟨i,hi,rfl⟩:=qa1.1 h<;>simp_all[sizeOf,typeInfo]
theorem aggP_run {t:TypeId}{r:Option Nat}(h:aggP P t=some r)(w:World):
  (isAgg t).run P w=.ok r.isSome w/\∀n,r=some n->(sizeOf t).run P w=.ok n w:=by
 unfold aggP at h;split at h;next hu hs=>simp only [qaE] at h;subst h<;>simp_all[isAgg,run_underlying,sizeP_run]
 next hu hs=>simp only [qaE] at h;subst h<;>simp_all[isAgg,run_underlying,sizeP_run]
 next d n hn1 hn2 hu hs=>simp only [qaE] at h;subst h<;>simp_all[isAgg,run_underlying]
 grind
theorem addr_add (b o i:Nat):(⟨b,o,none⟩:Addr).add i=⟨b,o+i,none⟩:=by grind[Addr.add]
theorem run_loadVar_one {t:TypeId}{b o:Nat}(h:aggP P t=some none)(hc:w.cell? ⟨b,o,none⟩=some v):
  (loadVar t ⟨b,o,none⟩).run P w=.ok v w:=by
 simp_all[loadVar,aggP_run]
theorem run_loadVar_agg {t:TypeId}{b o n:Nat}{vs:List Value}(h:aggP P t=some (some n))(hl:vs.length=n)
  (hc:∀j v,vs[j]?=some v->w.cell? ⟨b,o+j,none⟩=some v):(loadVar t ⟨b,o,none⟩).run P w=.ok (.agg vs.toArray) w:=by
 have:=run_loadCells_list (P:=P) w ⟨b,o,none⟩ vs (fun j v hv=>by rw [addr_add];exact hc j v hv)<;>simp_all[loadVar,aggP_run]
theorem zeroP_run {t:TypeId}(h:zeroP P t=some l)(w:World):
  ∃z,(zeroValue t).run P w=.ok z w/\(∀(K:Kn) (C:List CB),CRep K C l z.cells.toList)/\sizeP P t=some l.length/\0<l.length:=by
 unfold zeroP at h;split at h
 ·rename_i z n hz hn;split at h
  ·rename_i l' hl;split at h;next hc=>simp only [qaE] at h;subst h;simp only [qa4,qbg,qbu] at hc;obtain ⟨i,hi,hiz⟩:=qbi.1 hz;exact ⟨z,by simp_all[zeroValue,typeInfo],fun K C=>cellsX_rep K C hl,by grind,by omega⟩
   grind
  grind
 grind
theorem at2_some {es:qbI}{j:Nat}{y:X}:at2 es i j=some y↔∃e,es[i]?=some e/\e[j]?=some y:=by grind[at2]
theorem toArray_getElem? (arr:Array Value)(j:Nat):arr.toList[j]?=arr[j]?:=by simp
theorem loadCs_rep (h:Inv P R K C σ.bx w){p:X}(hp:Rep K C p pv)(e:loadCs σ p=some cs):
  ∃b o vs,pv=.pointer (some ⟨b,o,none⟩)/\CRep K C cs vs/\∀j v,vs[j]?=some v->w.cell? ⟨b,o+j,none⟩=some v:=by
 unfold loadCs at e;split at e
 ·rename_i i el o;cases hp with
  |ptr hc=>
   rename_i b base hi sz;split at e
   ·rename_i cs0 hb;split at e
    ·rename_i h0;simp only [qaE] at e;subst e;have h0:el=0:=by simpa using h0
     subst h0;obtain ⟨h1,h2,arr,t,hbl,hr⟩:=h.box i _ _ hb hc;subst h1;refine ⟨_,_,arr.toList.drop o,rfl,hr.drop o,fun j v hv=>?_⟩<;>simp_all[World.cell?]
    grind
   ·rename_i sz' es hb;obtain ⟨e0,he0,rfl⟩:=qa1.1 e;obtain ⟨h1,h2,h3,arr,t,hbl,hl,hr⟩:=h.box i _ _ hb hc;subst h1;have hlen:=h3 e0 (qa5 he0);have hi1:=(qaY.1 he0).1;have hm:el*sz+sz<=es.length*sz:=by have:=qbn sz (show el+1<=es.length from hi1);rw [Nat.add_mul,Nat.one_mul] at this;exact this
    have hcr:CRep K C e0 ((arr.toList.drop (base+el*sz)).take sz):=by
     refine ⟨by grind,fun y hy=>?_,fun j y v ey ev=>?_⟩;·obtain ⟨j,hj,rfl⟩:=List.mem_iff_getElem.1 hy;exact (hr el j _ (at2_some.2 ⟨e0,he0,qa3 hj⟩)).1
     obtain ⟨_,u,hu,hru⟩:=hr el j y (at2_some.2 ⟨e0,he0,ey⟩);have hj:=(qaY.1 ey).1;rw [qbb,if_pos (by omega),qa8,toArray_getElem?,hu] at ev;cases ev;exact hru.mono (KLe.refl _) (CLe.nil _)
    refine ⟨_,_,((arr.toList.drop (base+el*sz)).take sz).drop o,rfl,hcr.drop o,fun j v hv=>?_⟩
    grind[World.cell?]
   grind
 ·cases hp with
  |dp vals hcell hk hr=>
   rename_i b o;simp only [qaE] at e;subst e;rename_i cs0;refine ⟨b,o,(List.range cs0.length).map vals,rfl,⟨by simp,fun y hy=>?_,fun j y v ey ev=>?_⟩,fun j v hv=>?_⟩;·obtain ⟨j,hj,rfl⟩:=List.mem_iff_getElem.1 hy;exact hcell j _ (qa3 hj)
   ·have hj:=(qaY.1 ey).1;simp [hj] at ev;subst ev;exact (hr j y ey).mono (KLe.refl _) (CLe.nil _)
   rw [qbe] at hv;obtain ⟨j',hj',rfl⟩:=qa1.1 hv;have hj:=(qaY.1 hj').1;simp at hj;have:j'=j:=by simpa [hj] using hj'.symm
   subst this;exact h.known _ _ _ (hk j' _ (qa3 hj))
 grind
theorem loadX_rep (h:Inv P R K C σ.bx w){p y:X}{t:TypeId}(ht:aggP P t=some n)(hp:Rep K C p pv)(e:loadX σ n p=some y):
  ∃b o v,pv=.pointer (some ⟨b,o,none⟩)/\(loadVar t ⟨b,o,none⟩).run P w=.ok v w/\Rep K C y v:=by
 unfold loadX at e;cases hcs:loadCs σ p with
 |none=>grind
 |some cs=>
  simp only [hcs] at e;obtain ⟨b,o,vs,rfl,hr,hc⟩:=loadCs_rep h hp hcs;cases n with
  |none=>
   have e0:cs[0]?=some y:=by simpa [List.head?_eq_getElem?] using e
   obtain ⟨v,hv,hrv⟩:=hr.get e0;exact ⟨b,o,v,rfl,run_loadVar_one ht (by grind),hrv⟩
  |some n=>
   simp only at e;split at e
   ·rename_i hlen;simp only [qaE] at e;subst e;have hlen:(cs.take n).length=n:=by simpa using hlen
    have ht':=hr.take n;refine ⟨b,o,.agg (vs.take n).toArray,rfl,run_loadVar_agg ht (by rw [ht'.len]<;>grind) (fun j v hv=>?_),?_⟩
    ·grind
    exact .agg (by simpa using ht'.len) ht'.cell (fun j z v ez ev=>ht'.rep j z v ez (by grind))
   grind
def Did (n:Next)(v:Value):Prop:=n=.value v\/(n=.skip/\v=undef)
def OpOk (P:Program)(R:CodeRel)(x:Ctx)(σ:St)(a:Act)(w:World)(o:Oper)(y:X)(bx:List Bx):Prop:=
 ∃(K':Kn) (C':List CB) (nx:Next) (v:Value) (w':World),(execOp a.eval o).run P w=.ok nx w'/\Did nx v/\Em.Rel P R x K' C' ⟨σ.tm,bx⟩ a w'/\Rep K' C' y v
theorem OpOk.still {o:Oper}{y:X}(h:Rel P R x K C σ a w)(hr:(execOp a.eval o).run P w=.ok (.value v) w)(hy:Rep K C y v):OpOk P R x σ a w o y σ.bx:=
 ⟨K,C,_,v,w,hr,.inl rfl,h,hy⟩
variable {o:Oper} {y:X} {bx:List Bx} {fp:FP} {A:Ann} {Γ:Gam}
theorem alloc_get (w:World)(o:Obj):(w.alloc o).heap[w.heap.size]?=some o:=by show (w.heap.push o)[w.heap.size]?=_;simp
theorem rep_ptr0 {b hi:Nat}(hc:C[i]?=some (.at b 0 hi sz)):Rep K C (.ptr i 0 0) (.pointer (some ⟨b,0,none⟩)):=by have:=Rep.ptr (K:=K) (e:=0) (o:=0) hc<;>grind
theorem rep_v (h:Rep K C (.v u) v):v=u:=by cases h;rfl
theorem op_mov {z:Operand}{q:Opd}{t:TypeId}(h:Rel P R x K C σ a w)(ho:o.op=.move z\/o.op=.assign z)(hq:trOpd P R.gl t z=some q)(hy:σ.ev q=some y):OpOk P R x σ a w o y σ.bx:=by refine .still h (v:=a.eval z) ?_ (ev_rep h.inv.glob h.tm hq hy);rcases ho with ho|ho<;>simp [execOp,ho]
theorem op_pick {c:Operand}{c':Opd}{t1 t2 t3:TypeId}{y1 y2:X}(h:Rel P R x K C σ a w)(ho:o.op=.pick c p q)(hc:trOpd P R.gl t1 c=some c')(hp:trOpd P R.gl t2 p=some p')(hq:trOpd P R.gl t3 q=some q')
  (ec:σ.ev c'=some (.v (.bool b))) (ep:σ.ev p'=some y1) (eq:σ.ev q'=some y2):OpOk P R x σ a w o (if b then y1 else y2) σ.bx:=by
 have r1:=ev_rep h.inv.glob h.tm hc ec;have r2:=ev_rep h.inv.glob h.tm hp ep;have r3:=ev_rep h.inv.glob h.tm hq eq;have e1:a.eval c=.bool b:=rep_v r1;refine .still h (v:=if b then a.eval p else a.eval q) ?_ ?_;·simp_all[execOp,asBool]
 grind
theorem op_load {t t1:TypeId}{z:Operand}{q:Opd}{p:X}(h:Rel P R x K C σ a w)(ho:o.op=.load t z)(ht:aggP P t=some n)(hq:trOpd P R.gl t1 z=some q)(hp:σ.ev q=some p)
  (e:loadX σ n p=some y):OpOk P R x σ a w o y σ.bx:=by
 obtain ⟨b,off,v,hv,hrun,hr⟩:=loadX_rep h.inv ht (ev_rep h.inv.glob h.tm hq hp) e;exact .still h (v:=v) (by simp_all[execOp,Instr.loadAt,Instr.sureAddr]) hr
theorem op_alloc {t:TypeId}(h:Rel P R x K C σ a w)(ho:o.op=.alloc t)(hz:zeroP P t=some l):OpOk P R x σ a w o (.ptr σ.bx.length 0 0) (σ.bx++[.var l]):=by
 obtain ⟨z,hrun,hr,_,hpos⟩:=zeroP_run hz w;have hc:(C++[CB.at w.heap.size 0 l.length l.length])[σ.bx.length]?=some (.at w.heap.size 0 l.length l.length):=by rw [<-h.inv.size];simp
 refine ⟨K,C++[.at w.heap.size 0 l.length l.length],_,.pointer (some ⟨w.heap.size,0,none⟩),w.alloc (.cells z.cells t),?_,.inl rfl,?_,?_⟩;·simp_all[execOp,Instr.alloc,newVar,newRow]
 ·refine h.push _ ⟨rfl,rfl,z.cells,t,alloc_get _ _,(hr K _)⟩ (fun b k hw=>hw.1)
 grind[rep_ptr0]
theorem op_box {t t1:TypeId}{z:Operand}{q:Opd}{p:X}(h:Rel P R x K C σ a w)(ho:o.op=.box t z)(hq:trOpd P R.gl t1 z=some q)(hp:σ.ev q=some p)(h1:p.ok1=true):
  OpOk P R x σ a w o (.ptr σ.bx.length 0 0) (σ.bx++[.var p.cells]):=by
 have hr:=(ev_rep h.inv.glob h.tm hq hp).cells h1;have hc:(C++[CB.at w.heap.size 0 p.cells.length p.cells.length])[σ.bx.length]?=some (.at w.heap.size 0 p.cells.length p.cells.length):=by rw [<-h.inv.size];simp
 refine ⟨K,C++[.at w.heap.size 0 p.cells.length p.cells.length],_,.pointer (some ⟨w.heap.size,0,none⟩),w.alloc (.cells (a.eval z).cells t),?_,.inl rfl,?_,?_⟩;·simp_all[execOp,Instr.box,newVar,newRow]
 ·refine h.push _ ⟨rfl,rfl,(a.eval z).cells,t,alloc_get _ _,hr.mono (KLe.refl _) (CLe.append _ _)⟩ (fun b k hw=>hw.1)
 grind[rep_ptr0]
theorem op_faddr {t t1:TypeId}{z:Operand}{q:Opd}{f:Nat}{fs:Array Field}{fd:Field}{n:Nat}{p:X}(h:Rel P R x K C σ a w)(ho:o.op=.fieldAddr t z f)(hu:P.underlying t=some (.struct fs))(hf:fs[f]?=some fd)
  (hn:sizeP P fd.type=some (n+1)) (hq:trOpd P R.gl t1 z=some q) (hp:σ.ev q=some p)
  (e:(match p with|.ptr i e o=>some (X.ptr i e (o+fd.offset))|.dp cs=>some (.dp (cs.drop fd.offset))|_=>none)=some y):OpOk P R x σ a w o y σ.bx:=by
 have hr:=ev_rep h.inv.glob h.tm hq hp;have key:∀b k,a.eval z=.pointer (some ⟨b,k,none⟩)->Rep K C y (.pointer (some ⟨b,k+fd.offset,none⟩))->OpOk P R x σ a w o y σ.bx:=by intro b k hv hy;refine .still h (v:=.pointer (some ⟨b,k+fd.offset,none⟩)) ?_ hy;simp [execOp,ho,Instr.fieldAt,run_underlying hu,hf,hv,Instr.sureAddr,fieldPlace,sizeP_run hn w,addr_add]
 split at e
 ·rename_i i el k;simp only [qaE] at e;subst e;generalize hv:a.eval z=v at hr;cases hr with
  |ptr hc=>exact key _ _ hv (by rw [Nat.add_assoc];exact .ptr hc)
 ·rename_i cs;simp only [qaE] at e;subst e;generalize hv:a.eval z=v at hr;cases hr with
  |dp vals hcell hk hr=>rename_i b k;refine key _ _ hv (.dp (fun j=>vals (fd.offset+j)) (fun j z e=>hcell (fd.offset+j) z (by simpa using e)) (fun j z e=>?_) (fun j z e=>hr _ z (by simpa using e)))<;>grind
 grind
theorem pureOf_run {α:Type}{s:Sem α}{v:α}(h:pureOf s=some v)(w:World):s.run P w=.ok v w:=by
 cases s<;>simp [pureOf] at h<;>simp_all
theorem binV_int_ok {k k':IntKind}{m n:Int}(e:pureOf (binOp op 0 (.int k m) (.int k' n))=some z):okV z=true:=by
 have sh:∀op,pureOf (Op.shift op k m k' n)=some z->okV z=true:=by
  intro op e;unfold Op.shift at e;split at e;·simp_all[runtimePanic,pureOf,program,bind,Sem.bind]
  dsimp only at e;split at e<;>simp [pureOf,pure,stuck] at e<;>(subst e;rfl)
 have ar:∀op,pureOf (Op.intArith op k m n)=some z->okV z=true:=by intro op e;unfold Op.intArith at e;split at e<;>simp [pureOf,pure,stuck] at e<;>(subst e;rfl)
 have dv:∀op,pureOf (Op.intDiv op k m n)=some z->okV z=true:=by
  intro op e;unfold Op.intDiv at e;split at e;·simp_all[runtimePanic,pureOf,program,bind,Sem.bind]
  split at e<;>simp [pureOf,pure,stuck] at e<;>(subst e;rfl)
 have bt:∀op,pureOf (Op.intBits op k m n)=some z->okV z=true:=by intro op e;unfold Op.intBits at e;dsimp only at e;split at e<;>simp [pureOf,pure,stuck] at e<;>(subst e;rfl)
 have cm:∀op,pureOf (Op.intCmp op m n)=some z->okV z=true:=by intro op e;unfold Op.intCmp at e;split at e<;>simp [pureOf,pure,stuck] at e<;>(subst e;rfl)
 cases op<;>simp only [binOp] at e<;>first
  |exact sh _ e
  |grind[pureOf,stuck]
theorem binV_ok (e:binV op u v=some z):okV z=true:=by
 unfold binV at e;split at e
 ·grind[binV_int_ok]
 ·rename_i m n;by_cases hc:((m.size+n.size:Nat):Int)>IntKind.i64.max
  ·cases op<;>simp only [binOp,Op.stringOp,hc,if_true] at e<;>first
    |(simp [pureOf,pure,stuck,unsupported] at e;done)
    |(simp only [pureOf,pure,qaE] at e;subst e;rfl)
  cases op<;>simp only [binOp,Op.stringOp,hc,if_false] at e<;>first
   |(simp [pureOf,pure,stuck] at e;done)
   |(simp only [pureOf,pure,qaE] at e;subst e;rfl)
 grind
theorem binOp_type {t:TypeId}(e:binV op u v=some z)(w:World):(binOp op t u v).run P w=.ok z w:=by
 unfold binV at e;split at e;·rw [show binOp op t (.int _ _) (.int _ _)=binOp op 0 (.int _ _) (.int _ _) from by cases op<;>rfl]<;>grind[pureOf_run]
 ·grind[binOp,pureOf_run]
 grind
theorem eqGuard_scalar {t:TypeId}(e:binV op u v=some z)(w:World):(eqGuard op t p q u v).run P w=.ok () w:=by
 unfold binV at e;split at e;·simp_all[eqGuard]
 ·simp_all[eqGuard]
 grind
theorem op_bin {t t1 t2 u:TypeId}{n:Value}(h:Rel P R x K C σ a w)(ho:o.op=.binOp op t p q u)(hp:trOpd P R.gl t1 p=some p')(hq:trOpd P R.gl t2 q=some q')
  (ep:σ.ev p'=some (.v m)) (eq:σ.ev q'=some (.v n)) (e:binV op m n=some z):OpOk P R x σ a w o (.v z) σ.bx:=by
 have r1:=rep_v (ev_rep h.inv.glob h.tm hp ep);have r2:=rep_v (ev_rep h.inv.glob h.tm hq eq);refine .still h (v:=z) ?_ (.v (binV_ok e))<;>simp_all[execOp,eqGuard_scalar,binOp_type]
theorem equalIn_bool {t:TypeId}(hu:P.underlying t=some .bool)(d:Nat)(m n:Bool)(w:World):(Op.equalIn (d+1) t (.bool m) (.bool n)).run P w=.ok (m==n) w:=by simp [Op.equalIn,run_underlying hu]
theorem op_beq {t t1 t2 u:TypeId}{m n:Bool}(h:Rel P R x K C σ a w)(ho:o.op=.binOp op t p q u)(hu:P.underlying t=some .bool)(hop:op=.eql\/op=.neq)(hp:trOpd P R.gl t1 p=some p')(hq:trOpd P R.gl t2 q=some q')
  (ep:σ.ev p'=some (.v (.bool m))) (eq:σ.ev q'=some (.v (.bool n))):OpOk P R x σ a w o (.v (.bool (if op=.neq then !(m==n) else m==n))) σ.bx:=by
 have r1:=rep_v (ev_rep h.inv.glob h.tm hp ep);have r2:=rep_v (ev_rep h.inv.glob h.tm hq eq);refine .still h (v:=.bool (if op=.neq then !(m==n) else m==n)) ?_ (.v rfl);have he:(Op.equal t (.bool m) (.bool n)).run P w=.ok (m==n) w:=equalIn_bool hu 9999 m n w;have hg:(eqGuard op t p q (.bool m) (.bool n)).run P w=.ok () w:=by unfold eqGuard;split<;>rfl
 have b1:binOp .eql t (.bool m) (.bool n)=(do pure (.bool (<-Op.equal t (.bool m) (.bool n))):Sem Value):=rfl;have b2:binOp .neq t (.bool m) (.bool n)=(do pure (.bool (!(<-Op.equal t (.bool m) (.bool n)))):Sem Value):=rfl;generalize Op.equal t (.bool m) (.bool n)=s at he b1 b2;have hb:(binOp op t (.bool m) (.bool n)).run P w=.ok (.bool (if op=.neq then !(m==n) else m==n)) w:=by
  rcases hop with rfl|rfl;·simp_all
  simp_all
 simp_all[execOp]
theorem eqFields_ok {d:Nat}{xs ys:Array Value}:∀{fs:List Field} {i:Nat} {ks:List Nat} {lx ly:List X} {b:Bool},flatKs P i fs=some ks->aggEq ks lx ly=some b->
  (∀(j:Nat) (x:X),lx[j]?=some x->∃v,xs[i+j]?=some v/\∀z,x=.v z->v=z)->(∀(j:Nat) (x:X),ly[j]?=some x->∃v,ys[i+j]?=some v/\∀z,x=.v z->v=z)->∀w:World,(Op.eqFields (d+1) xs ys fs).run P w=.ok b w
 |[],i,ks,lx,ly,b,hk,he,_,_,w=>by
  unfold flatKs at hk;cases hk;unfold aggEq at he;split at he;·simp_all[Op.eqFields]
  ·grind
  ·grind
  ·grind
  grind
 |f::r,i,ks,lx,ly,b,hk,he,hx,hy,w=>by
  unfold flatKs at hk;split at hk
  ·rename_i hc;rw [qa4] at hc;have hn:f.name≠ "_":=of_decide_eq_true hc.1;have ho:f.offset=i:=eq_of_beq hc.2;have tl:∀{l:List X} {x:X} {m:List X} {vs:Array Value},l=x::m->(∀(j:Nat) (x:X),l[j]?=some x->∃v,vs[i+j]?=some v/\∀z,x=.v z->v=z)->∀(j:Nat) (x:X),m[j]?=some x->∃v,vs[i+1+j]?=some v/\∀z,x=.v z->v=z:=by
    intro l x m vs e h j y hj;subst e;have:=h (j+1) y (by grind);rw [show i+1+j=i+(j+1) from by omega];exact this
   have key:∀{u v:Value} {c e:Bool} {ks':List Nat} {xs' ys':List X},P.plainKey f.type=true->xs[i]?=some u->ys[i]?=some v->((Op.equalIn (d+1) f.type u v).run P w=.ok c w)->(Op.eqFields (d+1) xs ys r).run P w=.ok e w->(Op.eqFields (d+1) xs ys (f::r)).run P w=.ok (c&&e) w:=by
    intro u v c e ks' xs' ys' hp hu hv hq hr;simp only [Op.eqFields,hn,ne_eq,not_false_eq_true,if_true,Sem.run_bind,ho,run_part_plain w hp hu,run_part_plain w hp hv,Result.andThen_ok,hq];cases c with
    |true=>grind
    |false=>simp
   split at hk
   ·rename_i q hq;obtain ⟨ks',h1,rfl⟩:=qa1.1 hk;unfold aggEq at he;split at he
    ·grind
    ·rename_i hks;cases hks;split at he;next hkk=>obtain ⟨e,h2,rfl⟩:=qa1.1 he;obtain ⟨v,hv,hv'⟩:=hx 0 _ rfl;obtain ⟨u,hu,hu'⟩:=hy 0 _ rfl;have:=hv' _ rfl;subst this;have:=hu' _ rfl;subst this;subst hkk;exact key (ks':=[]) (xs':=[]) (ys':=[]) (by grind[Program.plainKey]) hv hu (run_equalIn_int w d _ _ _ _ _ hq) (eqFields_ok h1 h2 (tl rfl hx) (tl rfl hy) w)
     grind
    ·grind
    ·grind
    grind
   ·rename_i hq;obtain ⟨ks',h1,rfl⟩:=qa1.1 hk;unfold aggEq at he;split at he
    ·grind
    ·grind
    next hks=>cases hks;obtain ⟨e,h2,rfl⟩:=qa1.1 he;obtain ⟨v,hv,hv'⟩:=hx 0 _ rfl;obtain ⟨u,hu,hu'⟩:=hy 0 _ rfl;have:=hv' _ rfl;subst this;have:=hu' _ rfl;subst this;exact key (ks':=[]) (xs':=[]) (ys':=[]) (by grind[Program.plainKey]) hv hu (run_equalIn_string w d _ _ _ hq) (eqFields_ok h1 h2 (tl rfl hx) (tl rfl hy) w)
    ·grind
    grind
   ·rename_i hq;obtain ⟨ks',h1,rfl⟩:=qa1.1 hk;unfold aggEq at he;split at he
    ·grind
    ·grind
    ·grind
    next hks=>cases hks;obtain ⟨e,h2,rfl⟩:=qa1.1 he;obtain ⟨v,hv,hv'⟩:=hx 0 _ rfl;obtain ⟨u,hu,hu'⟩:=hy 0 _ rfl;have:=hv' _ rfl;subst this;have:=hu' _ rfl;subst this;exact key (ks':=[]) (xs':=[]) (ys':=[]) (by grind[Program.plainKey]) hv hu (run_equalIn_bool' w d _ _ _ hq) (eqFields_ok h1 h2 (tl rfl hx) (tl rfl hy) w)
    grind
   grind
  grind
theorem rep_agg {K:Kn}{C:List CB}(h:Rep K C (.agg cs) v):∃vs:Array Value,v=.agg vs/\∀(j:Nat) (x:X),cs[j]?=some x->∃u,vs[j]?=some u/\∀z,x=.v z->u=z:=by
 cases h with
 |agg hs hcell hr=>rename_i vs;refine ⟨vs,rfl,fun j x hj=>?_⟩;have hlt:j<cs.length:=(qaY.1 hj).1;have hg:vs[j]?=some (vs[j]'(by omega)):=qa7 (by omega)<;>grind[rep_v]
theorem op_ceq {t t1 t2 u:TypeId}{ks:List Nat}{xs ys:List X}(h:Rel P R x K C σ a w)(ho:o.op=.binOp op t p q u)(hf:flatT P t=some ks)(hop:op=.eql\/op=.neq)(hp:trOpd P R.gl t1 p=some p')(hq:trOpd P R.gl t2 q=some q')
  (ep:σ.ev p'=some (.agg xs)) (eq:σ.ev q'=some (.agg ys)) (e:aggEq ks xs ys=some b):OpOk P R x σ a w o (.v (.bool (if op=.neq then !b else b))) σ.bx:=by
 obtain ⟨vs,r1,k1⟩:=rep_agg (ev_rep h.inv.glob h.tm hp ep);obtain ⟨us,r2,k2⟩:=rep_agg (ev_rep h.inv.glob h.tm hq eq);refine .still h (v:=.bool (if op=.neq then !b else b)) ?_ (.v rfl);unfold flatT at hf;split at hf
 ·rename_i fs hu;split at hf
  ·grind
  rename_i hc;rw [Bool.not_eq_true,Bool.or_eq_false_iff] at hc;have hfo:P.fieldsOf t=fs:=by simp [Program.fieldsOf,hu]
  have hs:P.underlying t=some (.struct (P.fieldsOf t)):=by rw [hfo];exact hu
  have he:(Op.equalIn 10000 t (.agg vs) (.agg us)).run P w=.ok b w:=by rw [show (10000:Nat)=9999+1 from rfl,run_equalIn_agg w 9999 t _ _ hs hc.1,hfo];exact eqFields_ok (d:=9998) hf e (fun j x hj=>by grind) (fun j x hj=>by grind) w
  have hg:(eqGuard op t p q (.agg vs) (.agg us)).run P w=.ok () w:=run_eqGuard_agg w op t p q vs us hc.2;have hb:(binOp op t (.agg vs) (.agg us)).run P w=.ok (.bool (if op=.neq then !b else b)) w:=by
   rcases hop with rfl|rfl;·simp_all[run_eql_struct]
   simp_all[run_neq_struct]
  simp_all[execOp]
 grind
theorem op_un {op:UnOp}{t t1:TypeId}(h:Rel P R x K C σ a w)(ho:o.op=.unOp op t p)(hp:trOpd P R.gl t1 p=some p')(ep:σ.ev p'=some (.v m))(e:unV op m=some z):
  OpOk P R x σ a w o (.v z) σ.bx:=by
 have r1:=rep_v (ev_rep h.inv.glob h.tm hp ep);unfold unV at e;split at e
 ·refine .still h (v:=z) (by simp_all[execOp,pureOf_run]) (.v ?_);rename_i k n;cases op;·exact binV_int_ok (op:=.sub) (k:=k) (k':=k) (m:=0) (n:=n) (by grind[binOp,Op.unary])
  ·exact binV_int_ok (op:=.xor) (k:=k) (k':=k) (m:=if k.signed then -1 else k.max) (n:=n) (by grind[binOp,Op.unary])
  ·grind[Op.unary,pureOf,stuck]
  grind[Op.unary,pureOf,stuck]
 ·refine .still h (v:=z) (by simp_all[execOp,pureOf_run]) (.v ?_);cases op<;>simp [Op.unary,pureOf,pure,stuck] at e;subst e;rfl
 grind
end Go.Em
namespace Go.Em
variable {t:Bool}{es:qbI}{l:List Value}{b base cap hi n o sz:Nat}
variable {P:Program} {R:CodeRel} {x:Ctx} {K:Kn} {C:List CB} {σ:St} {a:Act} {w:World}
structure Flat (K:Kn) (sz:Nat) (es:qbI) (flat:List Value):Prop where
 len:flat.length=es.length*sz
 elems:∀(e:List X),e∈es->e.length=sz
 get:∀(i j:Nat) (y:X),at2 es i j=some y->y.isCell=true/\∃v,flat[i*sz+j]?=some v/\Rep K [] y v
theorem at2_lt {i j:Nat}{y:X}(h:∀(e:List X),e∈es->e.length=sz)(e:at2 es i j=some y):i<es.length/\j<sz/\i*sz+j<es.length*sz:=by
 obtain ⟨e0,he,hj⟩:=at2_some.1 e;have h1:=(qaY.1 he).1;have h2:=(qaY.1 hj).1;rw [h e0 (qa5 he)] at h2;refine ⟨h1,h2,?_⟩;have:=qbn sz (show i+1<=es.length from h1)
 grind
theorem Flat.mono {K K':Kn}{flat:List Value}(h:Flat K sz es flat)(hK:KLe K K'):Flat K' sz es flat:=
 ⟨h.len,h.elems,fun i j y e=>let ⟨hc,v,hv,hr⟩:=h.get i j y e;⟨hc,v,hv,hr.mono hK (CLe.refl _)⟩⟩
theorem Flat.nil {K:Kn}:Flat K sz [] []:=⟨by simp,by simp,by simp [at2]⟩
theorem Flat.append {fs:qbI}{m:List Value}(h:Flat K sz es l)(h':Flat K sz fs m):Flat K sz (es++fs) (l++m):=by
 refine ⟨by simp [h.len,h'.len,Nat.add_mul],fun e he=>?_,fun i j y e=>?_⟩
 ·rcases qbm.1 he with he|he;·exact h.elems e he
  exact h'.elems e he
 obtain ⟨e0,he,hj⟩:=at2_some.1 e;by_cases hi:i<es.length;·rw [qa6 hi] at he;obtain ⟨hc,v,hv,hr⟩:=h.get i j y (at2_some.2 ⟨e0,he,hj⟩)<;>grind
 rw [qbf (by omega)] at he;obtain ⟨hc,v,hv,hr⟩:=h'.get (i-es.length) j y (at2_some.2 ⟨e0,he,hj⟩);refine ⟨hc,v,?_,hr⟩;have hm:es.length*sz<=i*sz:=qbn sz (by omega);rw [qbf (by rw [h.len];omega),h.len,<-hv]<;>grind[Nat.sub_mul]
theorem Flat.drop (h:Flat K sz es l)(n:Nat):Flat K sz (es.drop n) (l.drop (n*sz)):=by refine ⟨by simp [h.len,Nat.sub_mul],fun e he=>h.elems e (List.mem_of_mem_drop he),fun i j y e=>?_⟩;obtain ⟨e0,he,hj⟩:=at2_some.1 e;rw [qa8] at he;obtain ⟨hc,v,hv,hr⟩:=h.get (n+i) j y (at2_some.2 ⟨e0,he,hj⟩)<;>grind
theorem Flat.take (h:Flat K sz es l)(n:Nat):Flat K sz (es.take n) (l.take (n*sz)):=by
 refine ⟨?_,fun e he=>h.elems e (List.mem_of_mem_take he),fun i j y e=>?_⟩;·rw [qaN,qaN,h.len]<;>grind[qbn,Nat.min_eq_right]
 obtain ⟨e0,he,hj⟩:=at2_some.1 e;rw [qbb] at he;split at he
 ·rename_i hi;have hb:=at2_lt h.elems (at2_some.2 ⟨e0,he,hj⟩);obtain ⟨hc,v,hv,hr⟩:=h.get i j y (at2_some.2 ⟨e0,he,hj⟩);refine ⟨hc,v,?_,hr⟩;have:=qbn sz (show i+1<=n from hi)
  grind
 grind
theorem Flat.one {e:List X}(h:CRep K [] e l)(he:e.length=sz):Flat K sz [e] l:=by refine ⟨by simp [h.len,he],by grind,fun i j y ey=>?_⟩;obtain ⟨e0,h0,hj⟩:=at2_some.1 ey;have hi:=(qaY.1 h0).1;simp at hi;subst hi;simp at h0;subst h0;obtain ⟨v,hv,hr⟩:=h.get hj;exact ⟨h.cell y (qa5 hj),v,by grind,hr⟩
theorem Flat.oneCell (h:Flat K sz es l):∀v,v∈l->v.oneCell'=true:=by
 intro v hv;obtain ⟨k,hk,rfl⟩:=List.mem_iff_getElem.1 hv;have hsz:0<sz:=by
  rcases Nat.eq_zero_or_pos sz with h0|h0;·rw [h.len,h0] at hk<;>grind
  ·grind
 have hi:k /sz<es.length:=by rw [h.len] at hk;exact (Nat.div_lt_iff_lt_mul hsz).2 hk
 have he:=qa3 hi;have hj:k%sz<(es[k /sz]).length:=by rw [h.elems _ (qbk hi)];exact Nat.mod_lt _ hsz
 obtain ⟨hc,u,hu,hr⟩:=h.get (k /sz) (k%sz) _ (at2_some.2 ⟨_,he,qa3 hj⟩);have:k /sz*sz+k%sz=k:=by rw [Nat.mul_comm];exact Nat.div_add_mod k sz
 rw [this,qa3 hk] at hu;cases hu;exact hr.oneCell hc
theorem Rep.flat (h:Rep K C (.sl t sz es) (.slice (some ⟨b,o,none⟩) n cap)):
  ∃l,Flat K sz es l/\∀k v,l[k]?=some v->K b (o+k)=some v:=by
 cases h with
 |slNil=>exact ⟨[],Flat.nil,fun k v e=>by grind⟩
 |sl vals hlen ht hcap hcell hk hr=>
  refine ⟨(List.range (es.length*sz)).map fun k=>vals (k /sz) (k%sz),⟨by simp,hlen,fun i j y e=>?_⟩,fun k v hv=>?_⟩
  ·obtain ⟨h1,h2,h3⟩:=at2_lt hlen e;refine ⟨hcell i j y e,vals i j,?_,hr i j y e⟩;have hsz:0<sz:=by omega
   simp_all[Nat.mul_comm,Nat.mul_add_div,Nat.div_eq_of_lt,Nat.mod_eq_of_lt]
  rw [qbe] at hv;obtain ⟨k',hk',rfl⟩:=qa1.1 hv;have hlt:=(qaY.1 hk').1;simp at hlt;have:k'=k:=by simpa [hlt] using hk'.symm
  subst this;have hsz:0<sz:=by
   rcases Nat.eq_zero_or_pos sz with h0|h0
   ·grind
   ·grind
  have hi:=(Nat.div_lt_iff_lt_mul hsz).2 hlt;have hj:k'%sz<(es[k' /sz]).length:=by rw [hlen _ (qbk hi)];exact Nat.mod_lt _ hsz
  have:=hk (k' /sz) (k'%sz) _ (at2_some.2 ⟨_,qa3 hi,qa3 hj⟩)<;>grind[Nat.div_add_mod]
theorem Flat.rep (h:Flat K sz es l)(hk:∀k v,l[k]?=some v->K b (o+k)=some v)
  (ht:t=true->cap=es.length) (hcap:es.length<=cap):Rep K C (.sl t sz es) (.slice (some ⟨b,o,none⟩) es.length cap):=by
 refine .sl (fun i j=>l.getD (i*sz+j) undef) h.elems ht hcap (fun i j y e=>(h.get i j y e).1) (fun i j y e=>?_) (fun i j y e=>?_);·obtain ⟨_,v,hv,_⟩:=h.get i j y e<;>grind
 obtain ⟨_,v,hv,hr⟩:=h.get i j y e<;>grind
theorem BoxOk.flat {sz':Nat}(h:BoxOk P R K C w (.row sz es) (.at b base hi sz')):
  ∃(arr:Array Value) (el:TypeId),sz'=sz/\base+es.length*sz<=hi/\hi<=arr.size/\w.heap[b]?=some (.cells arr el (0,0))/\Flat K sz es ((arr.toList.drop base).take (es.length*sz)):=by
 obtain ⟨h1,h2,h3,arr,el,hb,hl,hr⟩:=h;refine ⟨arr,el,h1,h2,hl,hb,⟨by grind,h3,fun i j y e=>?_⟩⟩;obtain ⟨hc,v,hv,hrv⟩:=hr i j y e;obtain ⟨_,_,h4⟩:=at2_lt h3 e
 grind
theorem Flat.box {arr:Array Value}{el:TypeId}(h:Flat K sz es l)(hb:w.heap[b]?=some (.cells arr el (0,0)))
  (hl:∀k v,l[k]?=some v->arr[base+k]?=some v) (hfit:base+es.length*sz<=hi) (hhi:hi<=arr.size):BoxOk P R K C w (.row sz es) (.at b base hi sz):=
 ⟨rfl,hfit,h.elems,arr,el,hb,hhi,fun i j y e=>by obtain ⟨hc,v,hv,hr⟩:=h.get i j y e<;>grind⟩
theorem replicate_getElem? {α:Type}(n i:Nat)(z:α):(List.replicate n z)[i]?=if i<n then some z else none:=by grind
theorem Flat.made {m:Nat}{z:List X}{zs:Array Value}(h:CRep K [] z zs.toList)(hz:z.length=sz)(hnm:n<=m):
  Flat K sz (List.replicate n z) ((madeCells zs (m*sz)).toList.take (n*sz)):=by
 have hs:zs.size=sz:=by have:=h.len;simp at this;omega
 refine ⟨?_,fun e he=>?_,fun i j y e=>?_⟩
 ·grind[qbn,size_madeCells]
 ·grind
 obtain ⟨e0,he,hj⟩:=at2_some.1 e;rw [replicate_getElem?] at he;split at he
 ·rename_i hi;simp at he;subst he;obtain ⟨v,hv,hr⟩:=h.get hj;refine ⟨h.cell y (qa5 hj),v,?_,hr⟩;have hjs:=(qaY.1 hj).1;have h1:=qbn sz (show i+1<=n from hi);rw [Nat.add_mul,Nat.one_mul] at h1;have h2:=qbn sz hnm;rw [qbb,if_pos (by omega),toArray_getElem?];have hm:(i*sz+j)%zs.size=j:=by rw [hs,Nat.mul_comm,Nat.mul_add_mod,Nat.mod_eq_of_lt (by omega)]
  grind[madeCells]
 grind
end Go.Em
namespace Go.Em
variable {parts:Array (Nat×Operand)}{qs:List (Nat×Nat×Opd)}{ps:List (Nat×Nat×X)}{cs z:List X}
variable {P:Program} {R:CodeRel} {x:Ctx} {K:Kn} {C:List CB} {σ:St} {a:Act} {w:World}
variable {o:Oper} {y:X} {bx:List Bx} {fp:FP} {A:Ann} {Γ:Gam}
theorem fold_splice (off:Nat):∀(l:List Value) (k:Nat) (cells:Array Value),off+k+l.length<=cells.size->
  ((l.zipIdx k).foldl (fun (cs:Array Value) (p:Value×Nat)=>cs.setIfInBounds (off+p.2) p.1) cells).toList=cells.toList.take (off+k)++l++cells.toList.drop (off+k+l.length)
 |[],k,cells,_=>by simp
 |v::r,k,cells,h=>by simp only [List.zipIdx_cons,List.foldl_cons];rw [fold_splice off r (k+1) (cells.setIfInBounds (off+k) v) (by grind)];have e:=list_seg_step cells.toList (off+k) v r (by simp at h ⊢;omega)<;>simp_all[Nat.add_assoc]
theorem fill_step (place:Nat->Option (Nat×Nat))(cells:Array Value)(i off size:Nat)(v:Value)(rest:List (Nat×Value))(hp:place i=some (off,size))(hs:v.cells.size=size)
  (hf:off+v.cells.size<=cells.size):
  ∃cells',Instr.fill place cells ((i,v)::rest)=Instr.fill place cells' rest/\cells'.toList=cells.toList.take off++v.cells.toList++cells.toList.drop (off+v.cells.toList.length):=by
 refine ⟨v.cells.zipIdx.foldl (fun (cs:Array Value) (p:Value×Nat)=>cs.setIfInBounds (off+p.2) p.1) cells,?_,?_⟩
 ·have h1:(decide (v.cells.size≠size)||decide (off+v.cells.size>cells.size))=false:=by simp [hs];omega
  simp_all[Instr.fill,if_neg]
 have:=fold_splice off v.cells.toList 0 cells (by grind);simp only [Nat.add_zero] at this
 grind[Array.toList_zipIdx]
theorem fill_rep {place:Nat->Option (Nat×Nat×TypeId)}{place':Nat->Option (Nat×Nat)}(hpl:∀i b c t,place i=some (b,c,t)->place' i=some (b,c))(hg:GlobOk R K)(ht:TmOk K C σ.tm a.tmps):
  ∀{ops:List (Nat×Operand)} {qs:List (Nat×Nat×Opd)} {ps:List (Nat×Nat×X)} {zero cs:List X} {zarr:Array Value},trParts3 P R.gl place ops=some qs->parts3 σ qs=some ps->
   fillX zero ps=some cs->CRep K C zero zarr.toList->∃arr,Instr.fill place' zarr (ops.map fun p=>(p.1,a.eval p.2))=some arr/\CRep K C cs arr.toList
 |[],qs,ps,zero,cs,zarr,h1,h2,h3,h4=>by simp only [trParts3,qaE] at h1;subst h1;simp only [parts3,qaE] at h2;subst h2;simp [fillX] at h3;subst h3;exact ⟨zarr,rfl,h4⟩
 |(i,op)::r,qs,ps,zero,cs,zarr,h1,h2,h3,h4=>by
  simp only [trParts3] at h1;cases hp:place i with
  |none=>grind
  |some q=>
   obtain ⟨b,c,t⟩:=q;simp only [hp] at h1;cases ho:trOpd P R.gl t op with
   |none=>grind
   |some q=>
    cases hr:trParts3 P R.gl place r with
    |none=>grind
    |some l=>
     simp only [ho,hr,qaE] at h1;subst h1;simp only [parts3] at h2;cases he:σ.ev q with
     |none=>grind
     |some y=>
      simp only [he] at h2;obtain ⟨ps',hps,rfl⟩:=qa1.1 h2;simp only [fillX] at h3;split at h3
      ·rename_i hc;simp at hc;cases hsp:splice zero b y.cells with
       |none=>grind
       |some z=>simp only [hsp] at h3;have hy:=(ev_rep hg ht ho he).cells hc.1;obtain ⟨hz,hf⟩:=h4.splice hy hsp;obtain ⟨cells',e1,e2⟩:=fill_step place' zarr i b c (a.eval op) (r.map fun p=>(p.1,a.eval p.2)) (hpl i b c t hp) (by have:=hy.len<;>grind) (by grind);rw [<-e2] at hz;obtain ⟨arr,h5,h6⟩:=fill_rep hpl hg ht hr hps h3 hz<;>grind
      grind
theorem mapM_run {α β:Type}(f:α->Sem β)(g:α->β)(w:World):∀(l:List α),(∀x,x∈l->(f x).run P w=.ok (g x) w)->(l.mapM f).run P w=.ok (l.map g) w
 |[],_=>by simp
 |x::r,h=>by have ih:=mapM_run f g w r (fun y hy=>h y (by simp [hy]))<;>simp_all
theorem mapM_run_arr {α β:Type}(f:α->Sem β)(g:α->β)(w:World)(l:Array α)(h:∀x,x∈l.toList->(f x).run P w=.ok (g x) w):(l.mapM f).run P w=.ok (l.map g) w:=by
 have e:l=l.toList.toArray:=by simp
 rw [e,List.mapM_toArray]<;>grind[Sem.run_map,mapM_run,Result.andThen_ok]
theorem op_build_struct {t:TypeId}{fs:Array Field}(h:Rel P R x K C σ a w)(ho:o.op=.build t parts)
  (hu:P.underlying t=some (.struct fs)) (hz:zeroP P t=some z) (hall:(fs.toList.all fun f=>(sizeP P f.type).isSome)=true)
  (hq:trParts3 P R.gl (fun i=>(fs[i]?).bind fun f=>(sizeP P f.type).map fun n=>(f.offset,n,f.type)) parts.toList=some qs) (hp:parts3 σ qs=some ps) (hf:fillX z ps=some cs):
  OpOk P R x σ a w o (.agg cs) σ.bx:=by
 obtain ⟨zv,hrun,hr,_,_⟩:=zeroP_run hz w;have hm:(fs.mapM fun f=>(do pure (f.offset,<-sizeOf f.type):Sem (Nat×Nat))).run P w=.ok (fs.map fun f=>(f.offset,(sizeP P f.type).getD 0)) w:=by refine mapM_run_arr _ _ w fs (fun f hfm=>?_);have:=(qbo.1 hall) f hfm;obtain ⟨n,hn⟩:=Option.isSome_iff_exists.1 this;simp [sizeP_run hn w,hn]
 obtain ⟨arr,h1,h2⟩:=fill_rep (place':=fun i=>(fs.map fun f=>(f.offset,(sizeP P f.type).getD 0))[i]?) (fun i b c t e=>by grind[qa1]) h.inv.glob h.tm hq hp hf (hr K C);refine .still h (v:=.agg arr) ?_ (.agg (by simpa using h2.len) h2.cell (fun j y v ey ev=>h2.rep j y v ey (by grind)));have h1':Instr.fill (fun i=>(fs.map fun f=>(f.offset,(sizeP P f.type).getD 0))[i]?) zv.cells (parts.map fun p=>(p.1,a.eval p.2)).toList=some arr:=by simpa using h1
 simp only [execOp,ho,Instr.build,Sem.run_bind,hrun,run_underlying hu,hm,Result.andThen_ok,Sem.run_pure]<;>simp_all
theorem op_build_arr {t e:TypeId}{m n:Nat}(h:Rel P R x K C σ a w)(ho:o.op=.build t parts)
  (hu:P.underlying t=some (.array m e)) (hz:zeroP P t=some z) (hn:sizeP P e=some n)
  (hq:trParts3 P R.gl (fun i=>some (i*n,n,e)) parts.toList=some qs) (hp:parts3 σ qs=some ps) (hf:fillX z ps=some cs):
  OpOk P R x σ a w o (.agg cs) σ.bx:=by
 obtain ⟨zv,hrun,hr,_,_⟩:=zeroP_run hz w;obtain ⟨arr,h1,h2⟩:=fill_rep (place':=fun i=>some (i*n,n)) (fun i b c t e=>by grind) h.inv.glob h.tm hq hp hf (hr K C);refine .still h (v:=.agg arr) ?_ (.agg (by simpa using h2.len) h2.cell (fun j y v ey ev=>h2.rep j y v ey (by grind)));have h1':Instr.fill (fun i=>some (i*n,n)) zv.cells (parts.map fun p=>(p.1,a.eval p.2)).toList=some arr:=by simpa using h1
 simp only [execOp,ho,Instr.build,Sem.run_bind,hrun,run_underlying hu,sizeP_run hn w,Result.andThen_ok,Sem.run_pure]<;>simp_all
theorem bs_fill {t:TypeId}{sz:Nat}(hg:GlobOk R K)(ht:TmOk K C σ.tm a.tmps):
  ∀{ops:List (Nat×Operand)} {qs:List (Nat×Opd)} {ps:List (Nat×X)} {es:qbI} {k:Nat} {arr:Array Value},trParts2 P R.gl t ops=some qs->parts2 σ qs=some ps->
   bsElems sz k ps=some es->(k+ps.length)*sz<=arr.size->
   ∃arr',Instr.fill (fun i=>some (i*sz,sz)) arr (ops.map fun p=>(p.1,a.eval p.2))=some arr'/\arr'.size=arr.size/\arr'.toList.take (k*sz)=arr.toList.take (k*sz)/\es.length=ps.length/\
    Flat K sz es ((arr'.toList.drop (k*sz)).take (es.length*sz))
 |[],qs,ps,es,k,arr,h1,h2,h3,h4=>by simp only [trParts2,qaE] at h1;subst h1;simp only [parts2,qaE] at h2;subst h2;simp only [bsElems,qaE] at h3;subst h3;exact ⟨arr,rfl,rfl,rfl,rfl,by simp_all[Flat.nil]⟩
 |(i,op)::r,qs,ps,es,k,arr,h1,h2,h3,h4=>by
  simp only [trParts2] at h1;cases ho:trOpd P R.gl t op with
  |none=>grind
  |some q=>
   cases hr:trParts2 P R.gl t r with
   |none=>grind
   |some l=>
    simp only [ho,hr,qaE] at h1;subst h1;simp only [parts2] at h2;cases he:σ.ev q with
    |none=>grind
    |some y=>
     simp only [he] at h2;obtain ⟨ps',hps,rfl⟩:=qa1.1 h2;simp only [bsElems] at h3;split at h3
     ·rename_i hc;simp at hc;obtain ⟨⟨⟨rfl,hc1⟩,hc2⟩,hc3⟩:=hc;obtain ⟨es',hes,rfl⟩:=qa1.1 h3;have hy:=(ev_rep hg ht ho he).cells hc1;have hy0:CRep K [] y.cells (a.eval op).cells.toList:=⟨hy.len,hy.cell,fun j z v e e'=>(hy.rep j z v e e').noRef (by refine List.eq_nil_iff_forall_not_mem.2 fun n hn=>?_;have:n∈refsL y.cells:=mem_refsL.2 ⟨z,qa5 e,hn⟩<;>grind)⟩;have hvl:(a.eval op).cells.size=sz:=by have:=hy.len;simp at this;omega
      have hfit:i*sz+sz<=arr.size:=by have h5:(i+1)*sz<=(i+((i,y)::ps').length)*sz:=qbn sz (by simp);rw [Nat.add_mul,Nat.one_mul] at h5;omega
      obtain ⟨cells',e1,e2⟩:=fill_step (fun i=>some (i*sz,sz)) arr i (i*sz) sz (a.eval op) (r.map fun p=>(p.1,a.eval p.2)) rfl hvl (by omega);have hsz':cells'.size=arr.size:=by have:=congrArg List.length e2;simp [hvl] at this;omega
      obtain ⟨arr',f1,f2,f3,f4,f5⟩:=bs_fill hg ht hr hps hes (arr:=cells') (by rw [hsz'];simp only [qbr] at h4<;>grind);refine ⟨arr',by grind,by omega,?_,by grind,?_⟩
      ·have h6:arr'.toList.take (i*sz)=(arr'.toList.take ((i+1)*sz)).take (i*sz):=by rw [List.take_take,Nat.min_eq_left (qbn sz (by omega))]
       grind
      have h7:(arr'.toList.drop (i*sz)).take ((es'.length+1)*sz)=(a.eval op).cells.toList++(arr'.toList.drop ((i+1)*sz)).take (es'.length*sz):=by
       have h8:(arr'.toList.drop (i*sz)).take sz=(a.eval op).cells.toList:=by
        have h9:(arr'.toList.drop (i*sz)).take sz=(arr'.toList.take ((i+1)*sz)).drop (i*sz):=by rw [List.take_drop,Nat.add_mul,Nat.one_mul]
        rw [h9,f3,e2];have hlen:(arr.toList.take (i*sz)).length=i*sz:=by simp;omega
        rw [qbj,Nat.add_mul,Nat.one_mul];have h10:(arr.toList.take (i*sz)++((a.eval op).cells.toList++arr.toList.drop (i*sz+(a.eval op).cells.toList.length))).take (i*sz+sz)=arr.toList.take (i*sz)++(a.eval op).cells.toList:=by rw [<-qbj,List.take_append_of_le_length (by grind)];exact List.take_of_length_le (by grind)
        rw [h10,List.drop_append_of_le_length (by omega),List.drop_of_length_le (by omega)];simp
       rw [Nat.add_mul,Nat.one_mul,Nat.add_comm (es'.length*sz) sz,List.take_add,h8,List.drop_drop,Nat.add_mul,Nat.one_mul]
      rw [qbr,h7];exact (Flat.one hy0 hc2).append f5
     grind
theorem op_bslice {t e:TypeId}{len:Nat}{es:qbI}{qs:List (Nat×Opd)}{ps:List (Nat×X)}(h:Rel P R x K C σ a w)(ho:o.op=.buildSlice t len parts)
  (hu:P.underlying t=some (.slice e)) (hz:zeroP P e=some z) (hl:len*z.length<=2^24)
  (hq:trParts2 P R.gl e parts.toList=some qs) (hp:parts2 σ qs=some ps) (hlen:len=ps.length) (hf:bsElems z.length 0 ps=some es):OpOk P R x σ a w o (.sl true z.length es) σ.bx:=by
 obtain ⟨zv,hrun,hr,hsz,hpos⟩:=zeroP_run hz w;have hzs:zv.cells.size=z.length:=by have:=(hr K C).len;simpa using this
 have key:∀zero:Array Value,∃arr',Instr.fill (fun i=>some (i*z.length,z.length)) ((Array.range (len*z.length)).map (zero[·%zero.size]!)) (parts.toList.map fun p=>(p.1,a.eval p.2))=some arr'/\
   es.length=len/\Flat K z.length es arr'.toList:=by
  intro zero;obtain ⟨arr',f1,f2,_,f4,f5⟩:=bs_fill (k:=0) (arr:=(Array.range (len*z.length)).map (zero[·%zero.size]!)) h.inv.glob h.tm hq hp hf (by grind);refine ⟨arr',f1,by omega,?_⟩;have:arr'.toList.length=es.length*z.length:=by simp [f2,f4,hlen]
  rw [Nat.zero_mul,List.drop_zero,List.take_of_length_le (by omega)] at f5;exact f5
 have fin:∀arr':Array Value,es.length=len->Flat K z.length es arr'.toList->(execOp a.eval o).run P w=.ok (.value (.slice (some ⟨w.heap.size,0,none⟩) len len)) (w.alloc (.cells arr' e))->
   OpOk P R x σ a w o (.sl true z.length es) σ.bx:=by
  intro arr' h1 h2 h3;refine ⟨_,C,_,_,_,h3,.inl rfl,h.learn arr' e,?_⟩;rw [<-h1];refine (h2.mono (Kn.add_le h.inv arr')).rep (fun k v hv=>?_) (fun _=>rfl) (Nat.le_refl _);simp [Kn.add];rw [<-toArray_getElem?];exact hv
 have hu':=run_underlying hu w;have hno:¬(len*z.length>2^24):=by omega
 by_cases h0:len*z.length=0
 ·obtain ⟨arr',k1,k2,k3⟩:=key #[];refine fin arr' k2 k3 ?_;have k1':Instr.fill (fun i=>some (i*z.length,z.length)) ((Array.range (len*z.length)).map ((#[]:Array Value)[·%(#[]:Array Value).size]!)) (parts.map fun p=>(p.1,a.eval p.2)).toList=some arr':=by simpa using k1
  simp only [execOp,ho,Instr.buildSlice,Sem.run_bind,hu',sizeP_run hsz w,Result.andThen_ok];rw [if_neg hno,if_pos h0];simp only [Sem.run_bind,Sem.run_pure,Result.andThen_ok];rw [k1'];simp only [newRow,newObj];rfl
 obtain ⟨arr',k1,k2,k3⟩:=key zv.cells;refine fin arr' k2 k3 ?_;have k1':Instr.fill (fun i=>some (i*z.length,z.length)) ((Array.range (len*z.length)).map (zv.cells[·%zv.cells.size]!)) (parts.map fun p=>(p.1,a.eval p.2)).toList=some arr':=by simpa using k1
 simp only [execOp,ho,Instr.buildSlice,Sem.run_bind,hu',sizeP_run hsz w,Result.andThen_ok];rw [if_neg hno,if_neg h0];simp only [Sem.run_bind,hrun,Sem.run_pure,Result.andThen_ok];rw [k1'];simp only [newRow,newObj];rfl
end Go.Em
namespace Go.Em
variable {b:qbJ}{es:qbI}{cs xs:List X}{m n sz:Nat}{i' p' z':Opd}{i p z:Operand}{v:Value}{yi yp yz:X}
variable {P:Program} {R:CodeRel} {x:Ctx} {K:Kn} {C:List CB} {σ:St} {a:Act} {w:World}
variable {o:Oper} {y:X} {bx:List Bx} {fp:FP} {A:Ann} {Γ:Gam}
theorem crep_noRef {vs:List Value}(h:CRep K C xs vs)(e:(refsL xs).isEmpty=true):CRep K [] xs vs:=
 ⟨h.len,h.cell,fun j z v e1 e2=>(h.rep j z v e1 e2).noRef (by refine List.eq_nil_iff_forall_not_mem.2 fun n hn=>?_;have h1:n∈refsL xs:=mem_refsL.2 ⟨z,qa5 e1,hn⟩<;>grind)⟩
theorem store_rep {t:TypeId}{p z:X}{pv zv:Value}(h:Rel P R x K C σ a w)(hn:sizeP P t=some n)(hp:Rep K C p pv)(hz:Rep K C z zv)(e:storeX σ.bx n p z=some bx):
  ∃b k w',pv=.pointer (some ⟨b,k,none⟩)/\(storeVar t ⟨b,k,none⟩ zv).run P w=.ok () w'/\Rel P R x K C ⟨σ.tm,bx⟩ a w':=by
 unfold storeX at e;split at e
 ·rename_i hc;simp only [qa4,qbg] at hc;have hzc:=hz.cells hc.1;have hsz:zv.cells.size=n:=by have:=hzc.len;simp at this;omega
  have run:∀(b k:Nat) (arr:Array Value) (el:TypeId),w.heap[b]?=some (.cells arr el (0,0))->k+zv.cells.toList.length<=arr.size->
    (storeVar t ⟨b,k,none⟩ zv).run P w=.ok () (w.setRow b (arr.toList.take k++zv.cells.toList++arr.toList.drop (k+zv.cells.toList.length)).toArray):=by
   intro b k arr el hb hf;have:=run_storeCells_at P b k el zv.cells.toList 0 arr w hb (by grind) hzc.oneCell;simp only [Nat.add_zero] at this;simp only [storeVar,Sem.run_bind,sizeP_run hn w,Result.andThen_ok];rw [if_neg (by grind)];simpa using this
  split at e
  ·rename_i i el k;cases hp with
   |ptr hcb=>
    rename_i b base hi sz;split at e
    ·rename_i cs hb;split at e
     ·rename_i h0;have h0:el=0:=by simpa using h0
      subst h0;obtain ⟨cs',hs,rfl⟩:=qa1.1 e;obtain ⟨h1,h2,arr,t',hbl,hr⟩:=h.inv.box i _ _ hb hcb;subst h1;obtain ⟨hsp,hfit⟩:=hr.splice hzc hs;have hfit':k+zv.cells.toList.length<=arr.size:=by simpa using hfit
      have hsize:(arr.toList.take k++zv.cells.toList++arr.toList.drop (k+zv.cells.toList.length)).toArray.size=arr.size:=by simp;simp at hfit';omega
      have hlen:cs'.length=cs.length:=by have h3:=hsp.len;have h4:=hr.len;simp at h3 h4 hfit';omega
      refine ⟨b,k,_,by simp,run b k arr t' hbl hfit',?_⟩;refine h.setBox hb rfl hcb (FrameOk.setRow hbl hsize fun q hq=>?_) ⟨rfl,by omega,_,t',setRow_heap w b arr _ t' _ hbl,by grind⟩ (by simp [Bx.isLoop]);have hq':¬q<arr.size:=by intro hlt;have h4:=hr.len;simp at h4;exact hq ⟨rfl,by omega,by omega⟩
      grind
     grind
    ·rename_i sz' es hb;split at e
     ·grind
     rename_i cs he;split at e
     ·rename_i hre;obtain ⟨cs',hs,rfl⟩:=qa1.1 e;obtain ⟨h1,h2,h3,arr,t',hbl,hl,hr⟩:=h.inv.box i _ _ hb hcb;subst h1;have hz0:=crep_noRef hzc hre;have hi1:=(qaY.1 he).1;have hm:el*sz+sz<=es.length*sz:=by have:=qbn sz (show el+1<=es.length from hi1);rw [Nat.add_mul,Nat.one_mul] at this;exact this
      have hcl:=h3 cs (qa5 he);have hspl:k+z.cells.length<=cs.length/\cs'=cs.take k++z.cells++cs.drop (k+z.cells.length):=by
       unfold splice at hs;split at hs
       ·grind
       ·grind
      obtain ⟨hle,rfl⟩:=hspl;have hzl:zv.cells.toList.length=z.cells.length:=hzc.len;have hfit':base+el*sz+k+zv.cells.toList.length<=arr.size:=by omega
      have hsize:(arr.toList.take (base+el*sz+k)++zv.cells.toList++arr.toList.drop (base+el*sz+k+zv.cells.toList.length)).toArray.size=arr.size:=by simp;simp at hfit';omega
      refine ⟨b,_,_,rfl,run b (base+el*sz+k) arr t' hbl hfit',?_⟩;have hget:∀q,(arr.toList.take (base+el*sz+k)++zv.cells.toList++arr.toList.drop (base+el*sz+k+zv.cells.toList.length)).toArray[q]?=
        if q<base+el*sz+k then arr[q]? else if q<base+el*sz+k+z.cells.length then zv.cells[q-(base+el*sz+k)]? else arr[q]?:=by
       intro q;have hA:(arr.toList.take (base+el*sz+k)).length=base+el*sz+k:=by simp;omega
       simp only [List.getElem?_toArray];by_cases h5:q<base+el*sz+k;·simp_all[qa6]
       rw [if_neg h5,qbj,qbf (by omega),hA];by_cases h6:q<base+el*sz+k+z.cells.length;·rw [if_pos h6,qa6 (by omega),toArray_getElem?]
       rw [if_neg h6,qbf (by omega),qa8,toArray_getElem?]
       congr 1;omega
      refine h.setBox hb rfl hcb (FrameOk.setRow hbl hsize fun q hq=>?_) ⟨rfl,by grind,?_,_,t',setRow_heap w b arr _ t' _ hbl,by omega,?_⟩ (by simp [Bx.isLoop])
      ·rw [hget q];have hout:¬(base<=q/\q<hi):=fun hh=>hq ⟨rfl,hh.1,hh.2⟩;by_cases h5:q<base+el*sz+k
       ·grind
       rw [if_neg h5,if_neg (by omega)]
      ·intro e0 he0;obtain ⟨q,hq,rfl⟩:=List.mem_iff_getElem.1 he0;rw [List.getElem_set];split;·simp;omega
       grind
      intro i' j z' ez;obtain ⟨e0,he0,hj⟩:=at2_some.1 ez;rw [List.getElem?_set] at he0;split at he0
      ·rename_i hii;subst hii;simp only [qaE] at he0;subst he0;have hjs:=(qaY.1 hj).1;have hjl:j<sz:=by simp at hjs;omega
       rw [hget];by_cases h5:j<k
       ·rw [qbj,qa6 (by simp;omega),qbb,if_pos h5] at hj;obtain ⟨hc1,v,hv,hrv⟩:=hr el j z' (at2_some.2 ⟨cs,he,hj⟩)
        grind
       have hT:(cs.take k).length=k:=by simp;omega
       rw [qbj,qbf (by omega),hT] at hj;rw [if_neg (by omega)];by_cases h6:j-k<z.cells.length;·rw [qa6 h6] at hj;obtain ⟨v,hv,hrv⟩:=hz0.get hj;refine ⟨hz0.cell z' (qa5 hj),v,?_,hrv⟩;rw [if_pos (by omega),<-toArray_getElem?,<-hv];congr 1;omega
       rw [qbf (by omega),qa8] at hj;have:k+z.cells.length+(j-k-z.cells.length)=j:=by omega
       rw [this] at hj;obtain ⟨hc1,v,hv,hrv⟩:=hr el j z' (at2_some.2 ⟨cs,he,hj⟩);exact ⟨hc1,v,by rw [if_neg (by omega)];grind,hrv⟩
      rename_i hii;obtain ⟨hc1,v,hv,hrv⟩:=hr i' j z' (at2_some.2 ⟨e0,he0,hj⟩);refine ⟨hc1,v,?_,hrv⟩;obtain ⟨hb1,hb2,hb3⟩:=at2_lt h3 (at2_some.2 ⟨e0,he0,hj⟩);rw [hget];by_cases hlt:i'<el;·have:=qbn sz (show i'+1<=el from hlt);rw [Nat.add_mul,Nat.one_mul] at this;rw [if_pos (by omega)];grind
      have:=qbn sz (show el+1<=i' by omega);rw [Nat.add_mul,Nat.one_mul] at this;rw [if_neg (by omega),if_neg (by omega)];grind
     grind
    grind
  grind
 grind
theorem op_store {t t1 t2:TypeId}(h:Rel P R x K C σ a w)(ho:o.op=.store t p z)(hn:sizeP P t=some n)(hp:trOpd P R.gl t1 p=some p')(hz:trOpd P R.gl t2 z=some z')
  (ep:σ.ev p'=some yp) (ez:σ.ev z'=some yz) (e:storeX σ.bx n yp yz=some bx):OpOk P R x σ a w o undefX bx:=by
 obtain ⟨b,k,w',hv,hrun,hrel⟩:=store_rep h hn (ev_rep h.inv.glob h.tm hp ep) (ev_rep h.inv.glob h.tm hz ez) e;refine ⟨K,C,.skip,undef,w',?_,.inr ⟨rfl,rfl⟩,hrel,.v rfl⟩<;>simp_all[execOp,Instr.storeAt,Instr.sureAddr]
theorem rep_len (h:Rep K C y v)(e:(match y with|.sl _ _ es=>some es.length|.bs _ _ n=>some n|_=>none)=some n):
  ∃ob cap,v=.slice ob n cap:=by
 cases h<;>simp_all
theorem run_builtin_len {args:Array Operand}{tys:Array TypeId}{t:TypeId}{d:TypeDesc}(ho:o.op=.call ⟨.builtin .len,args,tys⟩)(ha:args.toList=[p])(ht:tys[0]?=some t)(hu:P.underlying t=some d)
  (hv:a.eval p=v) (hl:(∃e ob cap,d=.slice e/\v=.slice ob n cap)\/(∃s:qbJ,d=.string/\v=.string s/\s.size=n)):
  (execOp a.eval o).run P w=.ok (.value (.int .i64 (n:Int))) w:=by
 have ha':args=#[p]:=by rw [<-Array.toArray_toList (xs:=args),ha]
 subst ha';rcases hl with ⟨e,ob,cap,rfl,rfl⟩|⟨s,rfl,rfl,rfl⟩;·simp [execOp,ho,resolve,invoke,builtin,Builtin.len_,ht,run_underlying hu,hv,goInt]
 simp [execOp,ho,resolve,invoke,builtin,Builtin.len_,ht,run_underlying hu,hv,goInt]
theorem op_conv {k:IntKind}{s d t1:TypeId}{k' ks:IntKind}{n:Int}(h:Rel P R x K C σ a w)(ho:o.op=.convert s d z)(hs:P.underlying s=some (.int ks))(hd:P.underlying d=some (.int k))(hz:trOpd P R.gl t1 z=some z')
  (ez:σ.ev z'=some (.v (.int k' n))):OpOk P R x σ a w o (.v (.int k (k.wrap n))) σ.bx:=by
 have r1:=rep_v (ev_rep h.inv.glob h.tm hz ez);exact .still h (v:=.int k (k.wrap n)) (by simp [execOp,ho,convert,run_underlying hs,run_underlying hd,r1,Conv.intToInt]) (.v rfl)
theorem op_idc {s d t1:TypeId}(h:Rel P R x K C σ a w)(ho:o.op=.convert s d z)(hs:P.underlying s=some .string)(hd:P.underlying d=some .string)(hz:trOpd P R.gl t1 z=some z')
  (ez:σ.ev z'=some (.v (.string b))):OpOk P R x σ a w o (.v (.string b)) σ.bx:=by
 have r1:=rep_v (ev_rep h.inv.glob h.tm hz ez);exact .still h (v:=.string b) (by simp [execOp,ho,convert,run_underlying hs,run_underlying hd,r1]) (.v rfl)
theorem frame_bytes (w:World)(e:TypeId)(s:qbJ):FrameOk nowhere w (Lib.bytesWorld w e s):=
 ⟨by grind[Lib.bytesWorld,World.freeze,World.alloc,World.drew_eq],by grind[Lib.bytesWorld,World.freeze,World.alloc,World.drew_eq],by grind[Lib.bytesWorld,World.freeze,World.alloc,World.drew_eq],
  by grind[Lib.bytesWorld_size],fun b hb=>.inr (.inl (Lib.bytesWorld_at_old w e s b hb).symm)⟩
theorem Rel.learnB (h:Rel P R x K C σ a w)(e:TypeId)(s:qbJ):Rel P R x (K.add w.heap.size (Lib.bytesCells w e s)) C σ a (Lib.bytesWorld w e s):=by
 have hs:=h.still (frame_bytes w e s);have hi:=h.inv.still (frame_bytes w e s);exact {hs with
  inv:=hi.know (Kn.add_le h.inv _) (fun b o v ev=>by
   unfold Kn.add at ev;split at ev
   ·grind[World.cell?,Lib.bytesWorld_at_new]
   ·have:=h.inv.known b o v ev;rw [Lib.bytesWorld_old w e s _ (World.block_lt_of_cell? _ _ this)]<;>grind) (fun b o ho=>by
   have:=h.inv.owns_lt ho;simp [Kn.add,Nat.ne_of_lt this,h.inv.apart b o ho])
  tm:=h.tm.mono (Kn.add_le h.inv _) (CLe.refl _)
  k0:=h.k0.trans (Kn.add_le h.inv _)
  knew:=fun b o v ev=>by
   unfold Kn.add at ev;split at ev;next hb=>subst hb;exact .inr (.inr h.frame.size)
   exact h.knew b o v ev}
theorem op_s2b {s d e t1:TypeId}(h:Rel P R x K C σ a w)(ho:o.op=.convert s d z)(hs:P.underlying s=some .string)(hd:P.underlying d=some (.slice e))(hu8:isU8 P e=true)(hz:trOpd P R.gl t1 z=some z')
  (ez:σ.ev z'=some (.v (.string b))):OpOk P R x σ a w o (.sl false 1 (byteRow b)) σ.bx:=by
 have r1:=rep_v (ev_rep h.inv.glob h.tm hz ez);have he:P.underlying e=some (.int .u8):=by
  unfold isU8 at hu8;split at hu8
  ·grind
  ·grind
 have hl:(byteRow b).length=b.size:=by unfold byteRow;rw [qa9,Array.length_toList];rfl
 have hget:∀(i j:Nat) (y:X),at2 (byteRow b) i j=some y->j=0/\∃u,b.data[i]?=some u/\y=.v (.int .u8 u.toNat):=by
  intro i j y hy;simp only [at2,byteRow,qbe,Array.getElem?_toList] at hy;cases hu:b.data[i]? with
  |none=>grind
  |some u=>grind
 refine ⟨_,C,_,.slice (some ⟨w.heap.size,0,none⟩) b.size (grownCap w b.size 0 e),Lib.bytesWorld w e b,?_,.inl rfl,h.learnB e b,?_⟩;·simp_all[execOp,Lib.run_convert_string_bytes]
 rw [<-hl];refine .sl (fun i _=>.int .u8 (((b.data[i]?).getD 0).toNat)) (by simp [byteRow]) (by simp) (by grind[grownCap_ge]) (fun i j y hy=>by obtain ⟨_,u,_,rfl⟩:=hget i j y hy;rfl) (fun i j y hy=>?_) (fun i j y hy=>?_);·obtain ⟨rfl,u,hu,rfl⟩:=hget i j y hy;have hi:i<b.data.size:=(qbA.1 hu).1;simp_all[Kn.add,Lib.bytesCells,Array.getElem?_append_left]
 obtain ⟨rfl,u,hu,rfl⟩:=hget i j y hy;rw [hu];exact .v rfl
theorem op_mkfn {f:FuncId}{first caps:Array Operand}{ts:List TypeId}{qs:List Opd}{ys:List X}(h:Rel P R x K C σ a w)(ho:o.op=.makeFunc (.func f) first caps)(hf:first.isEmpty=true)(hq:trOpds P R.gl ts caps.toList=some qs)
  (he:evs σ qs=some ys):OpOk P R x σ a w o (.fn f ys) σ.bx:=by
 obtain ⟨h1,h2⟩:=evs_rep h.inv.glob h.tm hq he;have hf':first=#[]:=by simpa using hf
 refine .still h (v:=.func (.func f) #[] (caps.map a.eval)) (by simp [execOp,ho,Instr.makeFunc,hf']) (.fn (by simp [h1]) fun j z v ez ev=>h2 j z v ez ?_)<;>grind
theorem op_mksl {t e t1 t2:TypeId}{l c:Operand}{l' c':Opd}{z:List X}{bytes:Nat}{yl yc:X}(h:Rel P R x K C σ a w)(ho:o.op=.makeSlice t l c)(hu:P.underlying t=some (.slice e))(hz:zeroP P e=some z)(hb:bytesP P e=some bytes)
  (hl:trOpd P R.gl t1 l=some l') (hc:trOpd P R.gl t2 c=some c') (el:σ.ev l'=some yl) (ec:σ.ev c'=some yc) (nl:natX yl=some n) (nc:natX yc=some m) (hnm:n<=m) (hroom:roomOk m bytes=true):
  OpOk P R x σ a w o (.bs σ.bx.length 0 n) (σ.bx++[.row z.length (List.replicate n z)]):=by
 have r1:=natX_rep (ev_rep h.inv.glob h.tm hl el) nl;have r2:=natX_rep (ev_rep h.inv.glob h.tm hc ec) nc;obtain ⟨zv,hrun,hr,hsz,hpos⟩:=zeroP_run hz w;simp only [roomOk,qa4,qbu] at hroom;unfold bytesP at hb;obtain ⟨i,hi,rfl⟩:=qa1.1 hb;have hiz:i.zero=some zv:=by
  simp only [zeroValue,typeInfo,Sem.run_bind,run_program,Result.andThen_ok,hi] at hrun;simp only [Sem.run_pure,Result.andThen_ok] at hrun;split at hrun;·simp_all
  simp_all
 have his:i.size=z.length:=by simpa [sizeP,hi] using hsz
 have hzs:zv.cells.size=z.length:=by have:=(hr K C).len;simpa using this
 have hmb:(i.bytes:Int)*(m:Int)<=281474976710656:=by
  have:i.bytes*m<=281474976710656:=by rw [Nat.mul_comm];omega
  have e1:((i.bytes:Int)*(m:Int))=((i.bytes*m:Nat):Int):=(Int.natCast_mul _ _).symm;rw [e1];omega
 have hmake:=run_make (P:=P) w t e i zv hu hi hiz .i64 .i64 (n:Int) (m:Int) (by omega) (by omega) hmb (by omega);have hc2:(C++[CB.at w.heap.size 0 (m*z.length) z.length])[σ.bx.length]?=some (.at w.heap.size 0 (m*z.length) z.length):=by rw [<-h.inv.size];simp
 refine ⟨K,C++[.at w.heap.size 0 (m*z.length) z.length],_,.slice (some ⟨w.heap.size,0,none⟩) n m,w.alloc (.cells (madeCells zv.cells (m*z.length)) e),?_,.inl rfl,?_,?_⟩;·simp_all[execOp]
 ·refine h.push _ ((Flat.made (hr K []) rfl hnm).box (alloc_get w _) (fun k v hv=>?_) ?_ (by simp [size_madeCells])) (fun b k hw=>hw.1)<;>simp_all[qbb,qbn]
 have:=Rep.bs (K:=K) (off:=0) (len:=n) (cap:=m) hc2 (by simp) hnm<;>grind
theorem op_field {t t1 ft:TypeId}{fs:Array Field}{f:Nat}{fd:Field}{n:Option Nat}(h:Rel P R x K C σ a w)(ho:o.op=.field t z f)(hu:P.underlying t=some (.struct fs))(hf:fs[f]?=some fd)(hft:ft=fd.type)
  (hn:aggP P ft=some n) (hz:trOpd P R.gl t1 z=some z') (ez:σ.ev z'=some (.agg cs))
  (e:(match n with|none=>cs[fd.offset]?|some n=>if ((cs.drop fd.offset).take n).length==n then some (.agg ((cs.drop fd.offset).take n)) else none)=some y):OpOk P R x σ a w o y σ.bx:=by
 subst hft;have hr:=ev_rep h.inv.glob h.tm hz ez;generalize hv:a.eval z=v at hr;cases hr with
 |agg hs hcell hrr=>
  rename_i vs;have hcr:CRep K C cs vs.toList:=⟨by grind,hcell,fun j y v e e'=>hrr j y v e (by grind)⟩;cases n with
  |none=>obtain ⟨v,hv',hrv⟩:=hcr.get e;rw [toArray_getElem?] at hv';refine .still h (v:=v) ?_ hrv;simp [execOp,ho,Instr.field,run_underlying hu,hf,hv,asAgg,part,(aggP_run hn w).1,hv']
  |some n=>
   simp only at e;split at e
   ·rename_i hl;simp only [qaE] at e;subst e;have hl:((cs.drop fd.offset).take n).length=n:=by simpa using hl
    have h2:=(hcr.drop fd.offset).take n;refine .still h (v:=.agg (vs.extract fd.offset (fd.offset+n))) ?_ ?_;·simp [execOp,ho,Instr.field,run_underlying hu,hf,hv,asAgg,part,(aggP_run hn w).1,(aggP_run hn w).2 n rfl]
    have e2:(vs.extract fd.offset (fd.offset+n)).toList=(vs.toList.drop fd.offset).take n:=by simp [List.extract_eq_take_drop]
    refine .agg ?_ h2.cell (fun j y v ey ev=>h2.rep j y v ey (by rw [<-e2,toArray_getElem?];exact ev))<;>grind
   grind
theorem op_extract {t1:TypeId}{i:Nat}(h:Rel P R x K C σ a w)(ho:o.op=.extract z i)(hz:trOpd P R.gl t1 z=some z')(ez:σ.ev z'=some (.tup xs))(e:xs[i]?=some y):OpOk P R x σ a w o y σ.bx:=by
 have hr:=ev_rep h.inv.glob h.tm hz ez;generalize hv:a.eval z=v at hr;cases hr with
 |tup hs hrr=>
  rename_i vs;have hi:i<vs.size:=by rw [hs];exact (qaY.1 e).1
  refine .still h (v:=vs[i]) ?_ (hrr i y _ e (qa7 hi));simp [execOp,ho,Instr.extract,hv,hi]
theorem op_nilck {t1:TypeId}(h:Rel P R x K C σ a w)(ho:o.op=.nilCheck z)(hz:trOpd P R.gl t1 z=some z')(ez:σ.ev z'=some y)(hk:(match y with|.ptr _ _ _|.dp _|.fn _ _|.yl _=>true|_=>false)=true):OpOk P R x σ a w o y σ.bx:=by have hr:=ev_rep h.inv.glob h.tm hz ez;refine .still h (v:=a.eval z) ?_ hr;generalize hv:a.eval z=v at hr;cases hr<;>simp at hk<;>simp [execOp,ho,hv]
theorem op_sidx {t t1 t2:TypeId}{s:qbJ}{b:UInt8}(h:Rel P R x K C σ a w)(ho:o.op=.index t z i)(hu:P.underlying t=some .string)(hz:trOpd P R.gl t1 z=some z')(hi:trOpd P R.gl t2 i=some i')
  (ez:σ.ev z'=some (.v (.string s))) (ei:σ.ev i'=some yi) (hn:idxX yi=some n) (hb:s[n]?=some b):OpOk P R x σ a w o (.v (.int .u8 b.toNat)) σ.bx:=by
 have r1:=rep_v (ev_rep h.inv.glob h.tm hz ez);obtain ⟨ik,r2⟩:=idxX_rep (ev_rep h.inv.glob h.tm hi ei) hn;refine .still h (v:=.int .u8 b.toNat) ?_ (.v rfl);simp [execOp,ho,Instr.index,r1,r2,asIntOf,run_underlying hu,hb]
theorem op_iaddr_sl {t t1 t2 e:TypeId}{tt:Bool}{e0:List X}(h:Rel P R x K C σ a w)(ho:o.op=.indexAddr t z i)(hu:P.underlying t=some (.slice e))(hs:sizeP P e=some sz)
  (hz:trOpd P R.gl t1 z=some z') (hi:trOpd P R.gl t2 i=some i') (ez:σ.ev z'=some (.sl tt sz es)) (ei:σ.ev i'=some yi) (hn:idxX yi=some n) (he:es[n]?=some e0):OpOk P R x σ a w o (.dp e0) σ.bx:=by
 have hr:=ev_rep h.inv.glob h.tm hz ez;obtain ⟨ik,r2⟩:=idxX_rep (ev_rep h.inv.glob h.tm hi ei) hn;have hlt:=(qaY.1 he).1;generalize hv:a.eval z=v at hr;have hr':=hr;cases hr with
 |slNil=>grind
 |sl vals hlen ht hcap hcell hk hrr=>
  rename_i b k cap;obtain ⟨l,hfl,hkl⟩:=hr'.flat;refine .still h (v:=.pointer (some ⟨b,k+n*sz,none⟩)) ?_ ?_;·have hlt':n<es.length:=hlt;simp [execOp,ho,Instr.indexAt,r2,asIntOf,run_underlying hu,hv,hlt',sizeP_run hs w,addr_add]
  refine .dp (fun j=>l.getD (n*sz+j) undef) (fun j z ej=>(hfl.get n j z (at2_some.2 ⟨e0,he,ej⟩)).1) (fun j z ej=>?_) (fun j z ej=>?_);·obtain ⟨_,v,hv,_⟩:=hfl.get n j z (at2_some.2 ⟨e0,he,ej⟩)<;>grind
  obtain ⟨_,v,hv,hrv⟩:=hfl.get n j z (at2_some.2 ⟨e0,he,ej⟩)<;>grind
theorem op_iaddr_bs {t t1 t2 e:TypeId}{ib off len:Nat}(h:Rel P R x K C σ a w)(ho:o.op=.indexAddr t z i)(hu:P.underlying t=some (.slice e))(hs:sizeP P e=some sz)
  (hz:trOpd P R.gl t1 z=some z') (hi:trOpd P R.gl t2 i=some i') (ez:σ.ev z'=some (.bs ib off len)) (ei:σ.ev i'=some yi) (hn:idxX yi=some n) (hb:σ.bx[ib]?=some (.row sz es)) (hlt:n<len):OpOk P R x σ a w o (.ptr ib (off+n) 0) σ.bx:=by
 have hr:=ev_rep h.inv.glob h.tm hz ez;obtain ⟨ik,r2⟩:=idxX_rep (ev_rep h.inv.glob h.tm hi ei) hn;generalize hv:a.eval z=v at hr;cases hr with
 |bs hc hcap hlen=>
  rename_i b base hi' sz' cap;obtain ⟨h1,_⟩:=h.inv.box ib _ _ hb hc;subst h1;refine .still h (v:=.pointer (some ⟨b,base+off*sz'+n*sz',none⟩)) ?_ ?_;·simp [execOp,ho,Instr.indexAt,r2,asIntOf,run_underlying hu,hv,hlt,sizeP_run hs w,addr_add]
  have:=Rep.ptr (K:=K) (e:=off+n) (o:=0) hc<;>simp_all[Nat.add_mul,Nat.add_assoc]
 |bsNil hc=>omega
theorem op_iaddr_arr {t t1 t2 e:TypeId}(h:Rel P R x K C σ a w)(ho:o.op=.indexAddr t z i)(hu:P.underlying t=some (.array m e))(hs:sizeP P e=some sz)
  (hz:trOpd P R.gl t1 z=some z') (hi:trOpd P R.gl t2 i=some i') (ez:σ.ev z'=some yz) (ei:σ.ev i'=some yi) (hn:idxX yi=some n) (hlt:n<m)
  (e':(match yz with|.ptr i e o=>some (X.ptr i e (o+n*sz))|.dp cs=>some (.dp (cs.drop (n*sz)))|_=>none)=some y):OpOk P R x σ a w o y σ.bx:=by
 have hr:=ev_rep h.inv.glob h.tm hz ez;obtain ⟨ik,r2⟩:=idxX_rep (ev_rep h.inv.glob h.tm hi ei) hn;generalize hv:a.eval z=v at hr;have key:∀b k,v=.pointer (some ⟨b,k,none⟩)->(execOp a.eval o).run P w=.ok (.value (.pointer (some ⟨b,k+n*sz,none⟩))) w:=by intro b k hvk;subst hvk;simp [execOp,ho,Instr.indexAt,r2,asIntOf,run_underlying hu,hv,hlt,sizeP_run hs w,addr_add,Instr.sureAddr]
 split at e'
 ·simp only [qaE] at e';subst e';cases hr with
  |ptr hc=>exact .still h (key _ _ rfl) (by rw [Nat.add_assoc];exact .ptr hc)
 ·simp only [qaE] at e';subst e';cases hr with
  |dp vals hcell hk hrr=>rename_i cs b k;refine .still h (key _ _ rfl) (.dp (fun j=>vals (n*sz+j)) (fun j z e=>hcell _ z (by simpa using e)) (fun j z e=>?_) (fun j z e=>hrr _ z (by simpa using e)))<;>simp_all[Nat.add_assoc]
 grind
theorem op_aidx {t t1 t2 e:TypeId}{r:Option Nat}(h:Rel P R x K C σ a w)(ho:o.op=.index t z i)(hu:P.underlying t=some (.array m e))(hs:sizeP P e=some sz)(hg:aggP P e=some r)
  (hz:trOpd P R.gl t1 z=some z') (hi:trOpd P R.gl t2 i=some i') (ez:σ.ev z'=some (.agg cs)) (ei:σ.ev i'=some yi) (hn:idxX yi=some n) (hlt:n<m)
  (e':(match r with|none=>cs[n*sz]?|some k=>if ((cs.drop (n*sz)).take k).length==k then some (.agg ((cs.drop (n*sz)).take k)) else none)=some y):OpOk P R x σ a w o y σ.bx:=by
 have hr:=ev_rep h.inv.glob h.tm hz ez;obtain ⟨ik,r2⟩:=idxX_rep (ev_rep h.inv.glob h.tm hi ei) hn;generalize hv:a.eval z=v at hr;cases hr with
 |agg hsz hcell hrr=>
  rename_i vs;have hcr:CRep K C cs vs.toList:=⟨by grind,hcell,fun j y v e e'=>hrr j y v e (by grind)⟩;cases r with
  |none=>obtain ⟨v,hv',hrv⟩:=hcr.get e';rw [toArray_getElem?] at hv';refine .still h (v:=v) ?_ hrv;simp [execOp,ho,Instr.index,r2,asIntOf,run_underlying hu,hv,hlt,sizeP_run hs w,part,(aggP_run hg w).1,hv']
  |some k=>
   simp only at e';split at e'
   ·rename_i hl;simp only [qaE] at e';subst e';have h2:=(hcr.drop (n*sz)).take k;have hk:k=sz:=by have h3:=(aggP_run hg w).2 k rfl;rw [sizeP_run hs w] at h3;simp at h3;exact h3.symm
    subst hk;refine .still h (v:=.agg (vs.extract (n*k) (n*k+k))) ?_ ?_;·simp [execOp,ho,Instr.index,r2,asIntOf,run_underlying hu,hv,hlt,sizeP_run hs w,part,(aggP_run hg w).1]
    have e2:(vs.extract (n*k) (n*k+k)).toList=(vs.toList.drop (n*k)).take k:=by simp [List.extract_eq_take_drop]
    refine .agg ?_ h2.cell (fun j y v ey ev=>h2.rep j y v ey (by rw [<-e2,toArray_getElem?];exact ev))<;>grind
   grind
theorem op_snil {op:BinOp}{t t1 u:TypeId}{e:TypeId}{q:Operand}(h:Rel P R x K C σ a w)(ho:o.op=.binOp op t p q u)(hu:P.underlying t=some (.slice e))(hop:op=.eql\/op=.neq)(hq:q=.const (.slice none 0 0))(hp:trOpd P R.gl t1 p=some p')
  (ep:σ.ev p'=some yp) (hyp:(match yp with|.bs _ _ (_+1)=>true|.sl _ _ (_::_)=>true|_=>false)=true):OpOk P R x σ a w o (.v (.bool (decide (op=.neq)))) σ.bx:=by
 have hr:=ev_rep h.inv.glob h.tm hp ep;subst hq;have hs:∃b n c,a.eval p=.slice (some b) n c:=by generalize a.eval p=v at hr;cases hr<;>first|exact ⟨_,_,_,rfl⟩|grind
 obtain ⟨b,n,c,hv⟩:=hs;have he:∀d,(Op.equalIn (d+1) t (.slice (some b) n c) (.slice none 0 0)).run P w=.ok false w:=by intro d;simp [Op.equalIn,run_underlying hu]
 have he':(Op.equal t (.slice (some b) n c) (.slice none 0 0)).run P w=.ok false w:=he 9999;have hg:(eqGuard op t p (.const (.slice none 0 0)) (.slice (some b) n c) (.slice none 0 0)).run P w=.ok () w:=by unfold eqGuard;split<;>rfl
 have b1:binOp .eql t (.slice (some b) n c) (.slice none 0 0)=(do pure (.bool (<-Op.equal t (.slice (some b) n c) (.slice none 0 0))):Sem Value):=rfl;have b2:binOp .neq t (.slice (some b) n c) (.slice none 0 0)=(do pure (.bool (!(<-Op.equal t (.slice (some b) n c) (.slice none 0 0)))):Sem Value):=rfl;generalize Op.equal t (.slice (some b) n c) (.slice none 0 0)=s at he' b1 b2;refine .still h (v:=.bool (decide (op=.neq))) ?_ (.v rfl);have hb:(binOp op t (.slice (some b) n c) (.slice none 0 0)).run P w=.ok (.bool (decide (op=.neq))) w:=by
  rcases hop with rfl|rfl;·simp_all
  simp_all
 have hq':a.eval (.const (.slice none 0 0))=.slice none 0 0:=rfl<;>simp_all[execOp]
end Go.Em
