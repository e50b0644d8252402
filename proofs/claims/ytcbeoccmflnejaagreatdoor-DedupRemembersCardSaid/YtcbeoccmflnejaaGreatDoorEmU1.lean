/-.-/
import Derived.Laws.Cells
import Derived.Laws.CopyRow
import Derived.Laws.Entries
import Derived.ChangeKeysEq
import Derived.Laws.Append
import Derived.Laws.MakeOwn
import Derived.Lib.ConvBytes
import Derived.Test.YtcbeoccmflnejaaGreatDoorEmU0
set_option linter.all false
namespace Go.Em
section
variable {arr:Array Value}{us vs:List Value}{xs:List X}{b g j o:Nat}{S S':Nat->Nat->Prop}{v:Value}{a w w':World}{x:X}
abbrev Kn:=Nat->Nat->Option Value
variable {K K':Kn}
inductive CB where
 |at (b base hi sz:Nat)
 |ghost
 |obj (b:Nat)
variable {C C':List CB}
def CB.owns:CB->Nat->Nat->Prop
 |.at b base hi _,b',o=>b'=b/\base<=o/\o<hi
 |.obj b,b',_=>b'=b
 |.ghost,_,_=>False
def okV:Value->Bool
 |.bool _|.int _ _|.float _ _|.string _|.pointer none|.map none|.nilFunc|.nilIface=>true
 |.tuple vs=>vs.isEmpty
 |_=>false
def at2 (es:qaW)(i j:Nat):Option X:=(es[i]?).bind (·[j]?)
inductive Rep (K:Kn):List CB->X->Value->Prop
 |v {C:List CB} {x:Value} (h:okV x=true):Rep K C (.v x) x
 |slNil {C:List CB} {t:Bool} {sz:Nat} {ob:Option Addr}:Rep K C (.sl t sz []) (.slice ob 0 0)
 |sl {C:List CB} {t:Bool} {es:qaW} {b o sz cap:Nat} (vals:Nat->Nat->Value) (hlen:∀(e:List X),e∈es->e.length=sz)
   (htight:t=true->cap=es.length) (hcap:es.length<=cap)
   (hcell:∀(i j:Nat) (x:X),at2 es i j=some x->x.isCell=true)
   (hk:∀(i j:Nat) (x:X),at2 es i j=some x->K b (o+i*sz+j)=some (vals i j))
   (hr:∀(i j:Nat) (x:X),at2 es i j=some x->Rep K [] x (vals i j)):Rep K C (.sl t sz es) (.slice (some ⟨b,o,none⟩) es.length cap)
 |bs {C:List CB} {i off len b base hi sz cap:Nat} (hc:C[i]?=some (.at b base hi sz)) (hcap:base+(off+cap)*sz<=hi) (hlen:len<=cap):
   Rep K C (.bs i off len) (.slice (some ⟨b,base+off*sz,none⟩) len cap)
 |bsNil {C:List CB} {i:Nat} {ob:Option Addr} (hc:C[i]?=some .ghost):Rep K C (.bs i 0 0) (.slice ob 0 0)
 |ptr {C:List CB} {i e o b base hi sz:Nat} (hc:C[i]?=some (.at b base hi sz)):Rep K C (.ptr i e o) (.pointer (some ⟨b,base+e*sz+o,none⟩))
 |dp {C:List CB} {cs:List X} {b o:Nat} (vals:Nat->Value) (hcell:∀(j:Nat) (x:X),cs[j]?=some x->x.isCell=true)
   (hk:∀(j:Nat) (x:X),cs[j]?=some x->K b (o+j)=some (vals j)) (hr:∀(j:Nat) (x:X),cs[j]?=some x->Rep K [] x (vals j)):
   Rep K C (.dp cs) (.pointer (some ⟨b,o,none⟩))
 |fn {C:List CB} {f:FuncId} {caps:List X} {vs:Array Value} (hs:vs.size=caps.length)
   (hr:∀(j:Nat) (x:X) (v:Value),caps[j]?=some x->vs[j]?=some v->Rep K C x v):Rep K C (.fn f caps) (.func (.func f) #[] vs)
 |agg {C:List CB} {cs:List X} {vs:Array Value} (hs:vs.size=cs.length) (hcell:∀(x:X),x∈cs->x.isCell=true)
   (hr:∀(j:Nat) (x:X) (v:Value),cs[j]?=some x->vs[j]?=some v->Rep K C x v):Rep K C (.agg cs) (.agg vs)
 |tup {C:List CB} {xs:List X} {vs:Array Value} (hs:vs.size=xs.length)
   (hr:∀(j:Nat) (x:X) (v:Value),xs[j]?=some x->vs[j]?=some v->Rep K C x v):Rep K C (.tup xs) (.tuple vs)
 |yl {C:List CB} {i b:Nat} (hc:C[i]?=some (.obj b)):Rep K C (.yl i) (.func (.yield b) #[] #[])
 |mp {C:List CB} {i b:Nat} (hc:C[i]?=some (.obj b)):Rep K C (.mp i) (.map (some b))
 |ifc {C:List CB} {t:TypeId} {v:Value}:Rep K C .ifc (.iface t v)
def KLe (K K':Kn):Prop:=∀(b o:Nat) (v:Value),K b o=some v->K' b o=some v
theorem KLe.refl (K:Kn):KLe K K:=fun _ _ _ h=>h
theorem KLe.trans {K'':Kn}(h:KLe K K')(h':KLe K' K''):KLe K K'':=fun b o v e=>h' b o v (h b o v e)
def CLe (C C':List CB):Prop:=∀(i:Nat) (c:CB),C[i]?=some c->C'[i]?=some c
theorem CLe.refl (C:List CB):CLe C C:=fun _ _ h=>h
theorem CLe.nil (C:List CB):CLe [] C:=fun _ _ h=>by grind
theorem CLe.append (C E:List CB):CLe C (C++E):=fun i c h=>by grind
theorem Rep.mono (hK:KLe K K')(h:Rep K C x v):∀{C':List CB},CLe C C'->Rep K' C' x v:=by
 induction h with
 |v h=>exact fun _=>.v h
 |slNil=>exact fun _=>.slNil
 |sl vals hlen ht hcap hcell hk _ ih=>exact fun _=>.sl vals hlen ht hcap hcell (fun i j x e=>hK _ _ _ (hk i j x e)) (fun i j x e=>ih i j x e (CLe.refl _))
 |bs hc hcap hlen=>exact fun a=>.bs (a _ _ hc) hcap hlen
 |bsNil hc=>exact fun a=>.bsNil (a _ _ hc)
 |ptr hc=>exact fun a=>.ptr (a _ _ hc)
 |dp vals hcell hk _ ih=>exact fun _=>.dp vals hcell (fun j x e=>hK _ _ _ (hk j x e)) (fun j x e=>ih j x e (CLe.refl _))
 |fn hs _ ih=>exact fun a=>.fn hs (fun j x v e f=>ih j x v e f a)
 |agg hs hcell _ ih=>exact fun a=>.agg hs hcell (fun j x v e f=>ih j x v e f a)
 |tup hs _ ih=>exact fun a=>.tup hs (fun j x v e f=>ih j x v e f a)
 |yl hc=>exact fun a=>.yl (a _ _ hc)
 |mp hc=>exact fun a=>.mp (a _ _ hc)
 |ifc=>exact fun _=>.ifc
structure CRep (K:Kn) (C:List CB) (xs:List X) (vs:List Value):Prop where
 len:vs.length=xs.length
 cell:∀(x:X),x∈xs->x.isCell=true
 rep:∀(j:Nat) (x:X) (v:Value),xs[j]?=some x->vs[j]?=some v->Rep K C x v
theorem CRep.mono (h:CRep K C xs vs)(hK:KLe K K')(hC:CLe C C'):CRep K' C' xs vs:=
 ⟨h.len,h.cell,fun j x v e a=>(h.rep j x v e a).mono hK hC⟩
theorem CRep.nil :CRep K C [] []:=⟨rfl,by simp,by simp⟩
theorem CRep.cons (hc:x.isCell=true)(h:Rep K C x v)(t:CRep K C xs vs):
  CRep K C (x::xs) (v::vs):=
 ⟨by simp [t.len],by (simp only [qal];intro y a;rcases a with rfl|a;exact hc;exact t.cell y a),
  fun j y u e f=>by cases j with
  |zero=>grind
  |succ j=>simp at e f;exact t.rep j y u e f⟩
theorem CRep.append {ys:List X}(h:CRep K C xs vs)(t:CRep K C ys us):CRep K C (xs++ys) (vs++us):=by
 refine ⟨by simp [h.len,t.len],?_,?_⟩;·intro x a;rcases qaO.1 a with a|a;exact h.cell x a;exact t.cell x a
 intro j x v e f;by_cases l:j<xs.length;·rw [qar l] at e;rw [qar (by rw [h.len]<;>grind)] at f;exact h.rep j x v e f
 rw [qaz (by omega)] at e;rw [qaz (by rw [h.len];omega),h.len] at f;exact t.rep _ x v e f
theorem CRep.take (h:CRep K C xs vs)(n:Nat):CRep K C (xs.take n) (vs.take n):=by
 refine ⟨by simp [h.len],fun x l=>h.cell x (List.mem_of_mem_take l),fun j x v e a=>?_⟩;rw [qax] at e a;split at e;next f=>rw [if_pos f] at a;exact h.rep j x v e a
 grind
theorem CRep.drop (h:CRep K C xs vs)(n:Nat):CRep K C (xs.drop n) (vs.drop n):=by refine ⟨by simp [h.len],fun x f=>h.cell x (List.mem_of_mem_drop f),fun j x v e a=>?_⟩;rw [qaw] at e a;exact h.rep _ x v e a
theorem CRep.get (h:CRep K C xs vs)(e:xs[j]?=some x):
  ∃v,vs[j]?=some v/\Rep K C x v:=by
 have a:j<vs.length:=by rw [h.len];exact (qak.1 e).1
 exact ⟨vs[j],qad a,h.rep j x _ e (qad a)⟩
theorem CRep.get' (h:CRep K C xs vs)(e:vs[j]?=some v):
  ∃x,xs[j]?=some x/\Rep K C x v:=by
 have a:j<xs.length:=by rw [<-h.len];exact (qak.1 e).1
 exact ⟨xs[j],qad a,h.rep j _ v (qad a) e⟩
theorem CRep.splice {new xs':List X}(h:CRep K C xs vs)(hn:CRep K C new us)(e:splice xs o new=some xs'):
  CRep K C xs' (vs.take o++us++vs.drop (o+us.length))/\o+us.length<=vs.length:=by
 unfold Em.splice at e;split at e;next a=>cases e;refine ⟨?_,by rw [hn.len,h.len]<;>grind⟩;rw [hn.len];exact ((h.take o).append hn).append (h.drop _)
 grind
theorem okV_cell (h:okV v=true)(h1:X.ok1 (.v v)=true):v.oneCell'=true:=by
 cases v<;>simp_all [okV,X.ok1,Value.oneCell']
theorem isCell_ok1 (h:x.isCell=true):x.ok1=true:=by unfold X.isCell at h<;>grind[X.ok1]
theorem Rep.oneCell (h:Rep K C x v)(hc:x.isCell=true):v.oneCell'=true:=by
 cases h with
 |v h=>grind[okV_cell,isCell_ok1]
 |agg=>grind[X.isCell]
 |tup=>grind[X.isCell]
 |_=>rfl
theorem CRep.oneCell (h:CRep K C xs vs):∀v,v∈vs->v.oneCell'=true:=by intro v l;obtain ⟨j,a,rfl⟩:=List.mem_iff_getElem.1 l;obtain ⟨x,m,f⟩:=h.get' (qad a);exact f.oneCell (h.cell x (qap m))
theorem Rep.cells (h:Rep K C x v)(h1:x.ok1=true):CRep K C x.cells v.cells.toList:=by
 cases h with
 |agg hs hcell hr=>exact ⟨by grind[Value.cells,X.cells],hcell,fun j x v e f=>hr j x v e (by grind[Value.cells])⟩
 |v h=>
  have a:=okV_cell h h1;have e:v.cells.toList=[v]:=by cases v<;>simp_all [Value.cells,Value.oneCell']
  have f:(X.v v).isCell=true:=by cases v<;>simp_all [X.isCell,Value.oneCell']
  rw [e];exact CRep.cons f (.v h) CRep.nil
 |tup=>grind[X.ok1]
 |slNil=>exact CRep.cons rfl .slNil CRep.nil
 |sl vals hlen ht hcap hcell hk hr=>exact CRep.cons rfl (.sl vals hlen ht hcap hcell hk hr) CRep.nil
 |bs a hcap hlen=>exact CRep.cons rfl (.bs a hcap hlen) CRep.nil
 |bsNil a=>exact CRep.cons rfl (.bsNil a) CRep.nil
 |ptr a=>exact CRep.cons rfl (.ptr a) CRep.nil
 |dp vals hcell hk hr=>exact CRep.cons rfl (.dp vals hcell hk hr) CRep.nil
 |fn hs hr=>exact CRep.cons rfl (.fn hs hr) CRep.nil
 |yl a=>exact CRep.cons rfl (.yl a) CRep.nil
 |mp a=>exact CRep.cons rfl (.mp a) CRep.nil
 |ifc=>exact CRep.cons rfl .ifc CRep.nil
theorem memN_iff {n:Nat}:∀{l:List Nat},memN n l=true↔n∈l
 |[]=>by simp [memN]
 |m::r=>by simp [memN,memN_iff (l:=r)]
theorem subN_iff {l s:List Nat}:subN l s=true↔∀i,i∈l->i∈s:=by grind[subN,memN_iff]
theorem idxN_get {n:Nat}:∀{l:List Nat},n∈l->l[idxN n l]?=some n
 |m::r,h=>by
  unfold idxN;by_cases e:n=m
  ·grind
  have:(n==m)=false:=by simpa using e
  simp only [this];have hr:n∈r:=by rcases qal.1 h with h|h;exact absurd h e;exact h
  simpa using idxN_get hr
theorem mem_refsL {i:Nat}:∀{cs:List X},i∈refsL cs↔∃x,x∈cs/\i∈x.refs
 |[]=>by simp [refsL]
 |x::r=>by simp [refsL,mem_refsL (cs:=r)]
theorem renL_eq (f:Nat->Nat):∀cs:List X,renL f cs=cs.map (X.ren f)
 |[]=>rfl
 |x::r=>by simp [renL,renL_eq f r]
theorem isCell_ren (f:Nat->Nat)(x:X):(x.ren f).isCell=x.isCell:=by
 cases x<;>simp [X.ren,X.isCell]
theorem Rep.ren {f:Nat->Nat}(h:Rep K C x v)
  (hC:∀i,i∈x.refs->∀c,C[i]?=some c->C'[f i]?=some c):Rep K C' (x.ren f) v:=by
 induction h with
 |v h=>exact .v h
 |slNil=>exact .slNil
 |sl vals hlen ht hcap hcell hk hr=>exact .sl vals hlen ht hcap hcell hk hr
 |bs hc hcap hlen=>exact .bs (hC _ (by simp [X.refs]) _ hc) hcap hlen
 |bsNil hc=>exact .bsNil (hC _ (by simp [X.refs]) _ hc)
 |ptr hc=>exact .ptr (hC _ (by simp [X.refs]) _ hc)
 |dp vals hcell hk hr=>exact .dp vals hcell hk hr
 |fn hs _ ih=>
  refine .fn (by grind[renL_eq]) (fun j y v e l=>?_);rw [renL_eq,qaA] at e;obtain ⟨m,a,rfl⟩:=qac.1 e
  grind[X.refs,mem_refsL]
 |agg hs hcell _ ih=>
  refine .agg (by grind[renL_eq]) (fun y a=>?_) (fun j y v e l=>?_);·rw [renL_eq] at a;obtain ⟨z,hz,rfl⟩:=qam.1 a<;>simp_all[isCell_ren]
  rw [renL_eq,qaA] at e;obtain ⟨m,a,rfl⟩:=qac.1 e
  grind[X.refs,mem_refsL]
 |tup hs _ ih=>
  refine .tup (by grind[renL_eq]) (fun j y v e l=>?_);rw [renL_eq,qaA] at e;obtain ⟨m,a,rfl⟩:=qac.1 e
  grind[X.refs,mem_refsL]
 |yl hc=>exact .yl (hC _ (by simp [X.refs]) _ hc)
 |mp hc=>exact .mp (hC _ (by simp [X.refs]) _ hc)
 |ifc=>exact .ifc
theorem Rep.noRef (h:Rep K C x v)(hx:x.refs=[]):Rep K C' x v:=by
 induction h with
 |v h=>exact .v h
 |slNil=>exact .slNil
 |sl vals hlen ht hcap hcell hk hr=>exact .sl vals hlen ht hcap hcell hk hr
 |bs=>grind[X.refs]
 |bsNil=>grind[X.refs]
 |ptr=>grind[X.refs]
 |dp vals hcell hk hr=>exact .dp vals hcell hk hr
 |fn hs _ ih=>
  refine .fn hs (fun j y v e a=>ih j y v e a ?_);have:∀i,i∉y.refs:=fun i f=>by have:i∈refsL _:=mem_refsL.2 ⟨y,qap e,f⟩<;>grind[X.refs]
  simp_all[List.eq_nil_iff_forall_not_mem]
 |agg hs hcell _ ih=>
  refine .agg hs hcell (fun j y v e a=>ih j y v e a ?_);have:∀i,i∉y.refs:=fun i f=>by have:i∈refsL _:=mem_refsL.2 ⟨y,qap e,f⟩<;>grind[X.refs]
  simp_all[List.eq_nil_iff_forall_not_mem]
 |tup hs _ ih=>
  refine .tup hs (fun j y v e a=>ih j y v e a ?_);have:∀i,i∉y.refs:=fun i f=>by have:i∈refsL _:=mem_refsL.2 ⟨y,qap e,f⟩<;>grind[X.refs]
  simp_all[List.eq_nil_iff_forall_not_mem]
 |yl=>grind[X.refs]
 |mp=>grind[X.refs]
 |ifc=>exact .ifc
def PendOk:Option Ex->Option Code->Prop
 |none,none=>True
 |some .ret,some .ret=>True
 |some (.exit i),some (.exit j)=>i=j
 |_,_=>False
def TmOk (K:Kn)(C:List CB)(tm:List (Nat×X))(tmps:Array Value):Prop:=
 ∀(n:Nat) (x:X),lk tm n=some x->∃v,tmps[n]?=some v/\Rep K C x v
structure CodeRel where
 rel:Nat->Code->Code->Em.C->Em.C->Prop
 gl:Nat->Option (List X)
def GlobOk (R:CodeRel)(K:Kn):Prop:=∀(g:Nat) (cs:List X),R.gl g=some cs->Rep K [] (.dp cs) (.pointer (some ⟨g,0,none⟩))
theorem GlobOk.mono {R:CodeRel}(h:GlobOk R K)(hK:KLe K K'):GlobOk R K':=fun g a e=>(h g a e).mono hK (CLe.refl _)
structure LoopOk (_P:Program) (R:CodeRel) (K:Kn) (C:List CB) (st:LoopState) (pend:Option Ex) (tm:List (Nat×X)) (ps:List Nat) (a b:Em.C) (l:Loop):Prop where
 hst:l.state=st
 hpend:PendOk pend l.pending
 htm:TmOk K C tm l.tmps
 hps:l.params.toList=ps
 hin:∀(p:Nat),p∈ps->p<l.tmps.size
 hcode:R.rel l.tmps.size l.assign l.body a b
structure EntsOk (K:Kn) (es:List (Value×X)) (ents:List MapEntry):Prop where
 len:ents.length=es.length
 key:∀(j:Nat) (e:Value×X) (m:MapEntry),es[j]?=some e->ents[j]?=some m->m.key=e.1
 val:∀(j:Nat) (e:Value×X) (m:MapEntry),es[j]?=some e->ents[j]?=some m->e.2.ok1=true/\e.2.refs=[]/\Rep K [] e.2 m.val
theorem EntsOk.mono {es:List (Value×X)}{ents:List MapEntry}(h:EntsOk K es ents)(hK:KLe K K'):EntsOk K' es ents:=
 ⟨h.len,h.key,fun j e m a f=>⟨(h.val j e m a f).1,(h.val j e m a f).2.1,(h.val j e m a f).2.2.mono hK (CLe.refl _)⟩⟩
def BoxOk (P:Program)(R:CodeRel)(K:Kn)(C:List CB)(w:World):Bx->CB->Prop
 |.dead,_=>True
 |.var cs,.at b base hi _=>base=0/\hi=cs.length/\∃(arr:Array Value) (el:TypeId),w.heap[b]?=some (.cells arr el (0,0))/\CRep K C cs arr.toList
 |.row sz es,.at b base hi sz'=>sz'=sz/\base+es.length*sz<=hi/\(∀(e:List X),e∈es->e.length=sz)/\
   ∃(arr:Array Value) (el:TypeId),w.heap[b]?=some (.cells arr el (0,0))/\hi<=arr.size/\
    ∀(i j:Nat) (x:X),at2 es i j=some x->x.isCell=true/\∃v,arr[base+i*sz+j]?=some v/\Rep K [] x v
 |.row _ es,.ghost=>es=[]
 |.map es,.obj b=>∃(ents:Array MapEntry) (clock:Nat),w.heap[b]?=some (.map ents clock)/\EntsOk K es ents.toList
 |.loop st p tm ps a c,.obj b=>∃l:Loop,w.heap[b]?=some (.loop l)/\LoopOk P R K C st p tm ps a c l
 |_,_=>False
def Bx.live:Bx->Bool
 |.dead=>false
 |_=>true
def Owns (C:List CB)(bx:List Bx)(b o:Nat):Prop:=∃(i:Nat) (c:CB) (B:Bx),C[i]?=some c/\bx[i]?=some B/\B.live=true/\c.owns b o
structure Inv (P:Program) (R:CodeRel) (K:Kn) (C:List CB) (bx:List Bx) (w:World):Prop where
 glob:GlobOk R K
 known:∀(b o:Nat) (v:Value),K b o=some v->w.cell? ⟨b,o,none⟩=some v
 size:C.length=bx.length
 apart:∀(b o:Nat),Owns C bx b o->K b o=none
 disj:∀(i j:Nat) (c d:CB) (A B:Bx) (b o:Nat),i≠j->C[i]?=some c->C[j]?=some d->bx[i]?=some A->bx[j]?=some B->A.live=true->B.live=true->c.owns b o->¬d.owns b o
 box:∀(i:Nat) (B:Bx) (c:CB),bx[i]?=some B->C[i]?=some c->BoxOk P R K C w B c
def noCells:Option Obj->Prop
 |some (.cells _ _ _)=>False
 |_=>True
def ObjFr (S:Nat->Prop)(o o':Option Obj):Prop:=
 ((∀i,S i)/\noCells o/\noCells o')\/o=o'\/∃(cs cs':Array Value) (el:TypeId) (fr:Nat×Nat),o=some (.cells cs el fr)/\o'=some (.cells cs' el fr)/\cs.size=cs'.size/\∀i,¬S i->cs[i]?=cs'[i]?
structure FrameOk (S:Nat->Nat->Prop) (w w':World):Prop where
 os:w'.os=w.os
 tape:w'.tape=w.tape
 output:w'.output=w.output
 size:w.heap.size<=w'.heap.size
 block:∀b,b<w.heap.size->ObjFr (S b) w.heap[b]? w'.heap[b]?
theorem ObjFr.refl (S:Nat->Prop)(o:Option Obj):ObjFr S o o:=.inr (.inl rfl)
theorem ObjFr.trans {S S':Nat->Prop}{a b c:Option Obj}(h:ObjFr S a b)(h':ObjFr S' b c)(hs:∀i,S' i->S i):ObjFr S a c:=by
 rcases h with ⟨h,l,J⟩|rfl|⟨j,f,el,n,rfl,rfl,hz,m⟩
 ·refine .inl ⟨h,l,?_⟩;rcases h' with ⟨_,_,E⟩|rfl|⟨j,f,el,n,rfl,rfl,hz,m⟩<;>try grind
  exact J.elim
 ·rcases h' with ⟨h',l,E⟩|rfl|⟨j,f,el,n,q,y,hz,m⟩;·exact .inl ⟨fun i=>hs i (h' i),l,E⟩
  ·exact .inr (.inl rfl)
  exact .inr (.inr ⟨j,f,el,n,q,y,hz,fun i u=>m i fun h=>u (hs i h)⟩)
 rcases h' with ⟨_,l,_⟩|rfl|⟨L,w,F,H,q,y,B,A⟩;·exact l.elim
 ·exact .inr (.inr ⟨j,f,el,n,rfl,rfl,hz,m⟩)
 simp only [qah,Obj.cells.injEq] at q;obtain ⟨rfl,rfl,rfl⟩:=q;exact .inr (.inr ⟨j,w,_,_,rfl,y,hz.trans B,fun i u=>(m i u).trans (A i fun h=>u (hs i h))⟩)
theorem FrameOk.refl (S:Nat->Nat->Prop)(w:World):FrameOk S w w:=⟨rfl,rfl,rfl,Nat.le_refl _,fun _ _=>.refl _ _⟩
theorem FrameOk.trans {b c:World}(h:FrameOk S a b)(h':FrameOk S' b c)(hs:∀k o,k<a.heap.size->S' k o->S k o):FrameOk S a c:=
 ⟨h'.os.trans h.os,h'.tape.trans h.tape,h'.output.trans h.output,Nat.le_trans h.size h'.size,
  fun k f=>(h.block k f).trans (h'.block k (Nat.lt_of_lt_of_le f h.size)) fun i j=>hs k i f j⟩
theorem FrameOk.mono {b:World}(h:FrameOk S a b)(hs:∀k o,k<a.heap.size->S k o->S' k o):FrameOk S' a b:=
 ⟨h.os,h.tape,h.output,h.size,fun k j=>by
  rcases h.block k j with ⟨h,u,w⟩|h|⟨l,f,el,m,n,q,hz,y⟩;·exact .inl ⟨fun i=>hs k i j (h i),u,w⟩
  ·exact .inr (.inl h)
  exact .inr (.inr ⟨l,f,el,m,n,q,hz,fun i A=>y i fun h=>A (hs k i j h)⟩)⟩
theorem FrameOk.drew (S:Nat->Nat->Prop)(w:World):FrameOk S w w.drew:=⟨rfl,rfl,rfl,Nat.le_refl _,fun _ _=>.refl _ _⟩
theorem FrameOk.alloc (S:Nat->Nat->Prop)(w:World)(o:Obj):FrameOk S w (w.alloc o):=
 ⟨rfl,rfl,rfl,by simp,fun k a=>.inr (.inl (by show _=(w.heap.push o)[k]?<;>simp_all[Array.getElem?_push,Nat.ne_of_lt]))⟩
theorem FrameOk.cell (h:FrameOk S w w')(hc:w.cell? ⟨b,o,none⟩=some v)(hn:¬S b o):
  w'.cell? ⟨b,o,none⟩=some v:=by
 have f:b<w.heap.size:=World.block_lt_of_cell? _ _ hc;rcases h.block b f with ⟨h,_,_⟩|h|⟨j,a,el,l,m,n,hz,q⟩
 ·grind
 ·grind[World.cell?]
 grind[World.cell?]
theorem FrameOk.row (h:FrameOk S w w'){el:TypeId}{fr:Nat×Nat}
  (hb:w.heap[b]?=some (.cells arr el fr)):
  ∃arr',w'.heap[b]?=some (.cells arr' el fr)/\arr'.size=arr.size/\∀o,¬S b o->arr'[o]?=arr[o]?:=by
 have a:b<w.heap.size:=(qaS.1 hb).1;rcases h.block b a with ⟨_,h,_⟩|h|⟨m,f,j,l,n,q,hz,u⟩;·rw [hb] at h;exact h.elim
 ·grind
 grind
theorem FrameOk.obj (h:FrameOk S w w'){o:Obj}(hb:w.heap[b]?=some o)(ho:noCells (some o))
  {o₀:Nat} (hn:¬S b o₀):w'.heap[b]?=some o:=by
 have a:b<w.heap.size:=(qaS.1 hb).1;rcases h.block b a with ⟨h,_,_⟩|h|⟨n,j,l,m,f,q,hz,u⟩<;>try grind
 rw [hb] at f;rw [f] at ho;exact ho.elim
theorem FrameOk.setRow {arr':Array Value}{el:TypeId}(hg:w.heap[g]?=some (.cells arr el (0,0)))
  (hz:arr'.size=arr.size) (he:∀o,¬S g o->arr[o]?=arr'[o]?):FrameOk S w (w.setRow g arr'):=
 ⟨rfl,rfl,rfl,by simp,fun k _=>by
  by_cases a:k=g;·subst a;exact .inr (.inr ⟨arr,arr',el,_,hg,setRow_heap w k arr arr' el _ hg,hz.symm,he⟩)
  rw [setRow_other w g k arr' a];exact .refl _ _⟩
theorem FrameOk.setObj {o o':Obj}(hg:w.heap[g]?=some o)(ho:noCells (some o))(ho':noCells (some o'))
  (hs:∀i,S g i):FrameOk S w {w with heap:=w.heap.setIfInBounds g o'}:=
 ⟨rfl,rfl,rfl,by simp,fun k a=>by
  by_cases h:k=g;·subst h;refine .inl ⟨hs,by rw [hg];exact ho,?_⟩<;>grind
  refine .inr (.inl ?_)<;>grind⟩
end
section
variable {tmps:Array Value}{A B:Bx}{c:CB}{tm:List (Nat×X)}{bx:List Bx}{b i o:Nat}{S:Nat->Nat->Prop}{v:Value}{w':World}{y:X}
variable {P:Program} {R:CodeRel}
theorem TmOk.mono {K K':Kn}{C C':List CB}(h:TmOk K C tm tmps)(hK:KLe K K')(hC:CLe C C'):TmOk K' C' tm tmps:=
 fun n x e=>let ⟨v,hv,hr⟩:=h n x e;⟨v,hv,hr.mono hK hC⟩
theorem LoopOk.mono {K K':Kn}{C C':List CB}{st:LoopState}{pend:Option Ex}{ps:List Nat}{a b:Em.C}{l:Loop}
  (h:LoopOk P R K C st pend tm ps a b l) (hK:KLe K K') (hC:CLe C C'):LoopOk P R K' C' st pend tm ps a b l:=
 ⟨h.hst,h.hpend,h.htm.mono hK hC,h.hps,h.hin,h.hcode⟩
theorem BoxOk.mono {K K':Kn}{C C':List CB}{w w':World}(h:BoxOk P R K C w B c)(hK:KLe K K')(hC:CLe C C')
  (hf:FrameOk S w w') (hs:∀b o,c.owns b o->¬S b o):BoxOk P R K' C' w' B c:=by
 cases B with
 |dead=>trivial
 |var cs=>
  cases c with
  |«at» b base hi sz=>
   obtain ⟨F,A,m,el,H,E⟩:=h;obtain ⟨f,q,hz,L⟩:=hf.row H;refine ⟨F,A,f,el,q,?_⟩;have:f=m:=Array.ext_getElem? fun i=>by
    by_cases N:i<hi;·exact L i (hs b i ⟨rfl,by omega,N⟩)
    have y:m.size=hi:=by rw [A];simpa using E.len
    grind
   rw [this];exact E.mono hK hC
  |ghost=>exact h.elim
  |obj b=>exact h.elim
 |row sz es=>
  cases c with
  |«at» b base hi sz'=>
   obtain ⟨F,A,W,m,el,H,y,E⟩:=h;obtain ⟨f,q,hz,L⟩:=hf.row H;refine ⟨F,A,W,f,el,q,by omega,fun i j x V=>?_⟩;obtain ⟨J,v,Z,Y⟩:=E i j x V;refine ⟨J,v,?_,Y.mono hK (CLe.refl _)⟩;rw [L];exact Z;refine hs b _ ⟨rfl,by omega,?_⟩;unfold at2 at V;obtain ⟨e,u,M⟩:=qaG.1 V;have O:=(qak.1 u).1;have Q:=(qak.1 M).1;rw [W e (qap u)] at Q;have:i*sz+sz<=es.length*sz:=by have:=qaJ sz (show i+1<=es.length from O);rw [Nat.add_mul,Nat.one_mul] at this;exact this
   omega
  |ghost=>exact h
  |obj b=>exact h.elim
 |loop st p tm ps a b=>
  cases c with
  |obj blk=>obtain ⟨l,y,U⟩:=h;exact ⟨l,hf.obj y trivial (o₀:=0) (hs blk 0 rfl),U.mono hK hC⟩
  |«at»=>exact h.elim
  |ghost=>exact h.elim
 |map es=>
  cases c with
  |obj blk=>obtain ⟨ents,n,y,U⟩:=h;exact ⟨ents,n,hf.obj y trivial (o₀:=0) (hs blk 0 rfl),U.mono hK⟩
  |«at»=>exact h.elim
  |ghost=>exact h.elim
theorem BoxOk.block {K:Kn}{C:List CB}{w:World}(h:BoxOk P R K C w B c)(hl:B.live=true)(ho:c.owns b o):b<w.heap.size:=by
 cases B with
 |dead=>grind[Bx.live]
 |var cs=>cases c with
  |«at»=>obtain ⟨_,_,a,el,f,_⟩:=h;obtain ⟨rfl,_⟩:=ho;grind
  |ghost=>exact h.elim
  |obj=>exact h.elim
 |row sz es=>cases c with
  |«at»=>obtain ⟨_,_,_,a,el,f,_⟩:=h;obtain ⟨rfl,_⟩:=ho;grind
  |ghost=>exact ho.elim
  |obj=>exact h.elim
 |loop=>cases c with
  |«at»=>exact h.elim
  |ghost=>exact h.elim
  |obj=>obtain ⟨l,f,_⟩:=h;cases ho<;>grind
 |map=>cases c with
  |«at»=>exact h.elim
  |ghost=>exact h.elim
  |obj=>obtain ⟨_,_,f,_⟩:=h;cases ho<;>grind
theorem Inv.get {K:Kn}{C:List CB}{w:World}(h:Inv P R K C bx w)(e:bx[i]?=some B):
  ∃c,C[i]?=some c/\BoxOk P R K C w B c:=by
 have a:i<C.length:=by rw [h.size];exact (qak.1 e).1
 exact ⟨C[i],qad a,h.box i B _ e (qad a)⟩
theorem Inv.owns_lt {K:Kn}{C:List CB}{w:World}(h:Inv P R K C bx w)(ho:Owns C bx b o):b<w.heap.size:=by obtain ⟨i,c,B,f,a,j,l⟩:=ho;exact (h.box i B c a f).block j l
theorem Inv.known_lt {K:Kn}{C:List CB}{w:World}(h:Inv P R K C bx w)(e:K b o=some v):b<w.heap.size:=
 World.block_lt_of_cell? _ _ (h.known b o v e)
theorem Inv.frame {K:Kn}{C:List CB}{w w':World}(h:Inv P R K C bx w)(hf:FrameOk S w w')
  (hk:∀b o v,K b o=some v->¬S b o) (ho:∀b o,Owns C bx b o->¬S b o):Inv P R K C bx w':=
 ⟨h.glob,fun b o v e=>hf.cell (h.known b o v e) (hk b o v e),h.size,h.apart,h.disj,fun i B c e a=>by
  by_cases f:B.live=true;·exact (h.box i B c e a).mono (KLe.refl _) (CLe.refl _) hf (fun b o j=>ho b o ⟨i,c,B,a,e,f,j⟩)
  cases B<;>first|trivial|simp [Bx.live] at f⟩
def nowhere:Nat->Nat->Prop:=fun _ _=>False
theorem Inv.still {K:Kn}{C:List CB}{w w':World}(h:Inv P R K C bx w)(hf:FrameOk nowhere w w'):Inv P R K C bx w':=
 h.frame hf (fun _ _ _ _=>id) (fun _ _ _=>id)
theorem Inv.kill {K:Kn}{C:List CB}{w:World}(h:Inv P R K C bx w)(i:Nat):Inv P R K C (bx.set i .dead) w:=by
 have a:∀(j:Nat) (B:Bx),(bx.set i .dead)[j]?=some B->B.live=true->bx[j]?=some B:=by
  intro j B e f;rw [List.getElem?_set] at e;split at e
  ·grind[Bx.live]
  exact e
 refine ⟨h.glob,h.known,by simpa using h.size,?_,?_,?_⟩
 ·rintro b o ⟨j,c,B,l,E,f,H⟩
  exact h.apart b o ⟨j,c,B,l,a j B E f,f,H⟩
 ·intro j k c d A B b o u l F y q m n;exact h.disj j k c d A B b o u l F (a j A y m) (a k B q n) m n
 intro j B c q l;by_cases f:B.live=true;·exact h.box j B c (a j B q f) l
 cases B<;>first|trivial|simp [Bx.live] at f
theorem owns_kill {C:List CB}(h:Owns C (bx.set i .dead) b o):Owns C bx b o:=by obtain ⟨j,c,B,a,m,f,l⟩:=h;refine ⟨j,c,B,a,?_,f,l⟩<;>grind[Bx.live]
theorem Inv.push {K:Kn}{C:List CB}{w:World}(h:Inv P R K C bx w)(hB:BoxOk P R K (C++[c]) w B c)
  (hk:∀b o,c.owns b o->K b o=none) (ho:∀b o,c.owns b o->¬Owns C bx b o):Inv P R K (C++[c]) (bx++[B]) w:=by
 have J:∀(j:Nat) (A:Bx),(bx++[B])[j]?=some A->(j<bx.length/\bx[j]?=some A)\/(j=bx.length/\A=B):=by
  intro j A e;by_cases u:j<bx.length
  ·grind
  ·grind
 have a:∀(j:Nat) (d:CB),(C++[c])[j]?=some d->(j<bx.length/\C[j]?=some d)\/(j=bx.length/\d=c):=by
  intro j d e;rw [<-h.size];by_cases u:j<C.length
  ·grind
  ·grind
 refine ⟨h.glob,h.known,by simp [h.size],?_,?_,?_⟩
 ·rintro b o ⟨j,d,A,f,l,Q,M⟩
  rcases J j A l with ⟨u,l⟩|⟨u,rfl⟩
  ·rcases a j d f with ⟨_,f⟩|⟨e,_⟩;·exact h.apart b o ⟨j,d,A,f,l,Q,M⟩
   grind
  grind
 ·intro j k d e A N b o V f U l F Q L M E;rcases J j A l with ⟨u,n⟩|⟨u,n⟩
  ·rcases a j d f with ⟨_,H⟩|⟨O,_⟩
   ·rcases J k N F with ⟨y,m⟩|⟨y,m⟩
    ·rcases a k e U with ⟨_,q⟩|⟨O,_⟩;·exact h.disj j k d e A N b o V H q n m Q L M E
     grind
    rcases a k e U with ⟨O,_⟩|⟨_,S⟩;·omega
    exact ho b o (S▸E) ⟨j,d,A,H,n,Q,M⟩
   grind
  rcases a j d f with ⟨O,_⟩|⟨_,S⟩;·omega
  rcases J k N F with ⟨y,m⟩|⟨y,_⟩
  ·rcases a k e U with ⟨_,q⟩|⟨O,_⟩;·exact ho b o (S▸M) ⟨k,e,N,q,m,L,E⟩
   grind
  grind
 intro j A d l f;rcases J j A l with ⟨u,l⟩|⟨u,rfl⟩
 ·rcases a j d f with ⟨_,f⟩|⟨e,_⟩;·exact (h.box j A d l f).mono (KLe.refl _) (CLe.append _ _) (.refl nowhere w) (fun _ _ _=>id)
  grind
 grind
theorem owns_push {C:List CB}(hs:C.length=bx.length)(h:Owns (C++[c]) (bx++[B]) b o):Owns C bx b o\/c.owns b o:=by
 obtain ⟨j,d,A,f,a,m,n⟩:=h;by_cases l:j<bx.length;·rw [qar l] at a;rw [qar (by omega)] at f;exact .inl ⟨j,d,A,f,a,m,n⟩
 grind
theorem Inv.set {K:Kn}{C:List CB}{w w':World}(h:Inv P R K C bx w)(hA:bx[i]?=some A)(hl:A.live=true)(hc:C[i]?=some c)
  (hf:FrameOk (fun b o=>c.owns b o) w w') (hB:BoxOk P R K C w' B c):Inv P R K C (bx.set i B) w':=by
 have Z:=(qak.1 hA).1;have a:∀(j:Nat) (A':Bx),(bx.set i B)[j]?=some A'->(j=i/\A'=B)\/(j≠i/\bx[j]?=some A'):=by
  intro j A' e;rw [List.getElem?_set] at e;split at e
  ·grind
  ·grind
 have y:∀b o,c.owns b o->Owns C bx b o:=fun b o f=>⟨i,c,A,hc,hA,hl,f⟩;have M:∀b o,Owns C (bx.set i B) b o->Owns C bx b o:=by
  rintro b o ⟨j,d,A',n,q,O,f⟩
  rcases a j A' q with ⟨rfl,rfl⟩|⟨_,q⟩
  ·grind
  exact ⟨j,d,A',n,q,O,f⟩
 refine ⟨h.glob,fun b o v e=>hf.cell (h.known b o v e) (fun f=>?_),by simpa using h.size,fun b o f=>h.apart b o (M b o f),?_,?_⟩;·have:=h.apart b o (y b o f)<;>grind
 ·intro j k d e D E b o F n N H S l L f m;rcases a j D H with ⟨V,e2⟩|⟨U,J⟩
  ·rcases a k E S with ⟨Q,W⟩|⟨Y,u⟩
   ·grind
   exact h.disj j k d e A E b o F n N (V▸hA) u hl L f m
  rcases a k E S with ⟨Q,W⟩|⟨Y,u⟩;·exact h.disj j k d e D A b o F n N J (Q▸hA) l hl f m
  exact h.disj j k d e D E b o F n N J u l L f m
 intro j D d H n;rcases a j D H with ⟨rfl,rfl⟩|⟨U,H⟩
 ·grind
 by_cases l:D.live=true;·exact (h.box j D d H n).mono (KLe.refl _) (CLe.refl _) hf (fun b o f m=>h.disj j i d c D A b o U n hc H hA l hl f m)
 cases D<;>first|trivial|simp [Bx.live] at l
theorem owns_set {C:List CB}(hA:bx[i]?=some A)(hl:A.live=true)(h:Owns C (bx.set i B) b o):Owns C bx b o:=by
 obtain ⟨j,c,D,m,a,l,n⟩:=h;rw [List.getElem?_set] at a;split at a;next f=>subst f;exact ⟨i,c,A,m,hA,hl,n⟩
 exact ⟨j,c,D,m,a,l,n⟩
theorem Inv.know {K K':Kn}{C:List CB}{w:World}(h:Inv P R K C bx w)(hK:KLe K K')(hn:∀b o v,K' b o=some v->w.cell? ⟨b,o,none⟩=some v)
  (ho:∀b o,Owns C bx b o->K' b o=none):Inv P R K' C bx w:=
 ⟨h.glob.mono hK,hn,h.size,ho,h.disj,fun i B c e a=>(h.box i B c e a).mono hK (CLe.refl _) (.refl nowhere w) (fun _ _ _=>id)⟩
def Kn.add (K:Kn)(nb:Nat)(arr:Array Value):Kn:=fun b o=>if b=nb then arr[o]? else K b o
theorem Kn.add_le {K:Kn}{C:List CB}{w:World}(h:Inv P R K C bx w)(arr:Array Value):KLe K (K.add w.heap.size arr):=by intro b o v e;have:=h.known_lt e<;>grind[Kn.add]
theorem Inv.learn {K:Kn}{C:List CB}{w:World}(h:Inv P R K C bx w)(arr:Array Value)(el:TypeId):
  Inv P R (K.add w.heap.size arr) C bx (w.alloc (.cells arr el)):=by
 refine (h.still (FrameOk.alloc _ w _)).know (Kn.add_le h arr) ?_ ?_
 ·intro b o v e;unfold Kn.add at e;split at e;·simp_all
  have:=h.known b o v e;rw [World.cell?_alloc_lt _ _ _ (World.block_lt_of_cell? _ _ this)]<;>grind
 intro b o a;have:=h.owns_lt a;simp [Kn.add,Nat.ne_of_lt this,h.apart b o a]
structure Ctx where
 nt:Nat
 K0:Kn
 C0:List CB
 loops:Nat->Bool
 w0:World
 Fp:Nat->Nat->Prop
 rnd:Option Nat
def Bx.isLoop:Bx->Bool
 |.loop .. =>true
 |_=>false
def mark (r:Nat):Deferred:={target:=.collected r,args:=#[]}
structure DefOk (x:Ctx) (C:List CB) (bx:List Bx) (a:Act) (w:World):Prop where
 marks:∃rs:List Nat,a.defers=rs.map mark/\rs.Nodup/\∀r,r∈rs->w.heap[r]?=some (.deferred (some []))/\x.w0.heap.size<=r/\∀o,¬Owns C bx r o
 round:x.rnd.isSome=true->a.defers=[]
structure Rel (P:Program) (R:CodeRel) (x:Ctx) (K:Kn) (C:List CB) (σ:St) (a:Act) (w:World):Prop where
 inv:Inv P R K C σ.bx w
 tm:TmOk K C σ.tm a.tmps
 nt:a.tmps.size=x.nt
 k0:KLe x.K0 K
 knew:∀(b o:Nat) (v:Value),K b o=some v->x.K0 b o=some v\/x.Fp b o\/x.w0.heap.size<=b
 own:∀(b o:Nat),Owns C σ.bx b o->x.Fp b o\/x.w0.heap.size<=b
 cin:∀(i:Nat) (c:CB),x.C0[i]?=some c->C[i]?=some c
 frame:FrameOk x.Fp x.w0 w
 defs:DefOk x C σ.bx a w
 loops:∀(i:Nat),i<x.C0.length->x.loops i=true->∃B,σ.bx[i]?=some B/\B.isLoop=true
 rnd:∀l,x.rnd=some l->∃i,i<x.C0.length/\x.loops i=true/\x.C0[i]?=some (.obj l)
variable {x:Ctx} {K:Kn} {C:List CB} {σ:St} {a:Act} {w:World}
theorem lk_setD (d:Option Nat)(y:X)(tm:List (Nat×X))(n:Nat):lk (setD d y tm) n=if d=some n then some y else lk tm n:=by
 cases d<;>grind[setD,lk]
theorem TmOk.set {K:Kn}{C:List CB}{a:Act}(h:TmOk K C tm a.tmps)(hr:Rep K C y v)(d:Option Nat)(hd:∀n,d=some n->n<a.tmps.size):
  TmOk K C (setD d y tm) (a.put d v).tmps:=by
 intro n z e;rw [lk_setD] at e;cases d with
 |none=>simp at e;simpa [Act.put] using h n z e
 |some d=>
  by_cases f:d=n;·simp_all[Act.put]
  simp [f] at e;obtain ⟨u,l,j⟩:=h n z e<;>grind[Act.put]
theorem put_size (a:Act)(d:Option Nat)(v:Value):(a.put d v).tmps.size=a.tmps.size:=by cases d<;>simp [Act.put]
theorem put_defers (a:Act)(d:Option Nat)(v:Value):(a.put d v).defers=a.defers:=by cases d<;>rfl
theorem DefOk.put (h:DefOk x C bx a w)(d:Option Nat)(v:Value):DefOk x C bx (a.put d v) w:=
 ⟨by rw [put_defers];exact h.marks,by rw [put_defers];exact h.round⟩
theorem Rel.set (h:Rel P R x K C σ a w)(hr:Rep K C y v)(d:Option Nat)(hd:∀n,d=some n->n<x.nt):
  Rel P R x K C ⟨setD d y σ.tm,σ.bx⟩ (a.put d v) w:=
 {h with tm:=h.tm.set hr d (by rw [h.nt]<;>grind),nt:=by rw [put_size];exact h.nt,defs:=h.defs.put d v}
theorem Rel.still (h:Rel P R x K C σ a w)(hf:FrameOk nowhere w w'):Rel P R x K C σ a w':=
 {h with
  inv:=h.inv.still hf
  frame:=h.frame.trans hf (fun _ _ _=>False.elim)
  defs:=⟨by obtain ⟨n,l,m,f⟩:=h.defs.marks;exact ⟨n,l,m,fun r j=>⟨hf.obj (f r j).1 trivial (o₀:=0) id,(f r j).2⟩⟩,h.defs.round⟩}
theorem Rel.learn (h:Rel P R x K C σ a w)(arr:Array Value)(el:TypeId):
  Rel P R x (K.add w.heap.size arr) C σ a (w.alloc (.cells arr el)):=by
 have j:=h.still (FrameOk.alloc nowhere w (.cells arr el));exact {j with
  inv:=h.inv.learn arr el
  tm:=h.tm.mono (Kn.add_le h.inv arr) (CLe.refl _)
  k0:=h.k0.trans (Kn.add_le h.inv arr)
  knew:=fun b o v e=>by
   unfold Kn.add at e;split at e;next f=>subst f;exact .inr (.inr h.frame.size)
   exact h.knew b o v e}
theorem Rel.push (h:Rel P R x K C σ a w)(o:Obj)(hB:BoxOk P R K (C++[c]) (w.alloc o) B c)(hc:∀b k,c.owns b k->b=w.heap.size):
  Rel P R x K (C++[c]) ⟨σ.tm,σ.bx++[B]⟩ a (w.alloc o):=by
 have j:=h.still (FrameOk.alloc nowhere w o);have S:∀b k,c.owns b k->¬Owns C σ.bx b k:=fun b k U f=>by have:=h.inv.owns_lt f<;>grind
 refine {j with inv:=?_,tm:=?_,own:=?_,cin:=?_,defs:=?_,loops:=?_}
 ·refine j.inv.push hB (fun b k U=>?_) S;cases e:K b k with
  |none=>rfl
  |some v=>have:=h.inv.known_lt e<;>grind
 ·exact j.tm.mono (KLe.refl _) (CLe.append _ _)
 ·intro b k f;rcases owns_push h.inv.size f with f|f;·exact h.own b k f
  have:=hc b k f;subst this;exact .inr h.frame.size
 ·intro i d e;exact CLe.append _ _ _ _ (h.cin i d e)
 ·obtain ⟨F,u,H,A⟩:=j.defs.marks;refine ⟨⟨F,u,H,fun r E=>⟨(A r E).1,(A r E).2.1,fun k f=>?_⟩⟩,j.defs.round⟩;rcases owns_push h.inv.size f with f|f
  ·grind
  have:=hc r k f;have L:=(h.defs.marks);obtain ⟨q,m,_,J⟩:=L;have:F=q:=by
   have:=u.symm.trans m;have n:∀l l':List Nat,l.map mark=l'.map mark->l=l':=by
    intro l;induction l with
    |nil=>simp_all
    |cons y l ih=>intro l' e;cases l'<;>grind[mark]
   exact n _ _ this
  grind
 intro i N O;obtain ⟨V,M,Q⟩:=h.loops i N O<;>grind
theorem Rel.setBox (h:Rel P R x K C σ a w)(hA:σ.bx[i]?=some A)(hl:A.live=true)(hc:C[i]?=some c)
  (hf:FrameOk (fun b o=>c.owns b o) w w') (hB:BoxOk P R K C w' B c) (hL:A.isLoop=true->B.isLoop=true):
  Rel P R x K C ⟨σ.tm,σ.bx.set i B⟩ a w':=by
 have f:∀b o,c.owns b o->Owns C σ.bx b o:=fun b o l=>⟨i,c,A,hc,hA,hl,l⟩;refine {h with inv:=?_,own:=?_,frame:=?_,defs:=?_,loops:=?_};·exact h.inv.set hA hl hc hf hB
 ·intro b o u;exact h.own b o (owns_set hA hl u)
 ·refine h.frame.trans hf (fun b o L l=>?_);rcases h.own b o (f b o l) with h'|h'<;>grind
 ·obtain ⟨M,E,F,m⟩:=h.defs.marks;refine ⟨⟨M,E,F,fun r n=>⟨hf.obj (m r n).1 trivial (o₀:=0) (fun l=>(m r n).2.2 0 (f r 0 l)),(m r n).2.1,fun o u=>(m r n).2.2 o (owns_set hA hl u)⟩⟩,h.defs.round⟩
 intro j J q;obtain ⟨N,H,y⟩:=h.loops j J q<;>grind
theorem Rel.kill (h:Rel P R x K C σ a w)(i:Nat)(hi:∀B,σ.bx[i]?=some B->B.isLoop=true->¬i<x.C0.length):Rel P R x K C ⟨σ.tm,σ.bx.set i .dead⟩ a w:=by
 refine {h with inv:=h.inv.kill i,own:=fun b o m=>h.own b o (owns_kill m),defs:=?_,loops:=?_};·obtain ⟨F,u,y,f⟩:=h.defs.marks;exact ⟨⟨F,u,y,fun r n=>⟨(f r n).1,(f r n).2.1,fun o m=>(f r n).2.2 o (owns_kill m)⟩⟩,h.defs.round⟩
 intro j E l;obtain ⟨H,A,q⟩:=h.loops j E l<;>grind
theorem Rel.tms (h:Rel P R x K C σ a w)(ht:TmOk K C tm a.tmps):Rel P R x K C ⟨tm,σ.bx⟩ a w:=
 {h with tm:=ht}
theorem lk_keep (live:List Nat)(tm:List (Nat×X))(n:Nat)(y:X)(e:lk (keep live tm) n=some y):lk tm n=some y:=by
 induction live with
 |nil=>grind[keep,lk]
 |cons k r ih=>simp only [keep,List.filterMap_cons] at e ih;cases a:lk tm k<;>grind[lk]
theorem TmOk.keep (h:TmOk K C tm tmps)(live:List Nat):TmOk K C (keep live tm) tmps:=
 fun n y e=>h n y (lk_keep live tm n y e)
end
section
variable {op:BinOp}{b:Bool}{cs l:List X}{i sz:Nat}{p' q':Opd}{p q:Operand}{n:Option Nat}{m pv u v z:Value}
variable {P:Program} {R:CodeRel} {x:Ctx} {K:Kn} {C:List CB} {σ:St} {a:Act} {w:World}
theorem cellX_rep {y:X}(h:cellX sz v=some y)(K:Kn)(C:List CB):Rep K C y v/\y.isCell=true:=by
 unfold cellX at h;split at h<;>first
  |(cases h;exact ⟨.v rfl,rfl⟩)
  |(cases h;exact ⟨.slNil,rfl⟩)
  |grind
theorem cellsX_rep (K:Kn)(C:List CB):∀{vs:List Value} {szs:List Nat} {l:List X},cellsX szs vs=some l->CRep K C l vs
 |[],_,l,h=>by simp [cellsX] at h;subst h;exact .nil
 |v::r,szs,l,h=>by
  simp only [cellsX] at h;cases hv:cellX (hd0 szs) v with
  |none=>grind
  |some y=>simp only [hv] at h;obtain ⟨t,ht,rfl⟩:=qac.1 h;obtain ⟨hr,hc⟩:=cellX_rep hv K C;exact .cons hc hr (cellsX_rep K C ht)
theorem constX_rep {t:TypeId}{y:X}(h:constX P t v=some y)(K:Kn)(C:List CB):Rep K C y v:=by
 unfold constX at h;split at h;next m=>obtain ⟨l,f,rfl⟩:=qac.1 h;have a:=cellsX_rep K C f;exact .agg (by simpa using a.len) a.cell (fun j x v e n=>a.rep j x v e (by grind))
 grind[cellX_rep]
theorem ev_rep {o:Operand}{q:Opd}{y:X}{t:TypeId}(hg:GlobOk R K)(h:TmOk K C σ.tm a.tmps)(htr:trOpd P R.gl t o=some q)(he:σ.ev q=some y):Rep K C y (a.eval o):=by
 cases o with
 |tmp n=>simp only [trOpd,qah] at htr;subst htr;obtain ⟨v,u,m⟩:=h n y he<;>simp_all[Act.eval]
 |const v=>simp only [trOpd] at htr;obtain ⟨z,hz,rfl⟩:=qac.1 htr;simp only [St.ev,qah] at he;subst he;exact constX_rep hz K C
 |global g=>simp only [trOpd] at htr;obtain ⟨l,j,rfl⟩:=qac.1 htr;simp only [St.ev,qah] at he;subst he;have:=(hg g l j).mono (KLe.refl _) (CLe.nil C)<;>grind[Act.eval]
 |func f=>simp only [trOpd,qah] at htr;subst htr;simp only [St.ev,qah] at he;subst he;exact .fn (by simp) (by simp)
theorem evs_rep (hg:GlobOk R K)(h:TmOk K C σ.tm a.tmps):∀{os:List Operand} {ts:List TypeId} {qs:List Opd} {ys:List X},trOpds P R.gl ts os=some qs->evs σ qs=some ys->
  ys.length=os.length/\∀(j:Nat) (y:X) (v:Value),ys[j]?=some y->(os.map a.eval)[j]?=some v->Rep K C y v
 |[],ts,qs,ys,h1,h2=>by grind[trOpds,evs]
 |o::r,ts,qs,ys,h1,h2=>by
  simp only [trOpds] at h1;cases ho:trOpd P R.gl (hd0 ts) o with
  |none=>grind
  |some q=>
   simp only [ho] at h1;obtain ⟨qs',hq,rfl⟩:=qac.1 h1;simp only [evs] at h2;cases he:σ.ev q with
   |none=>grind
   |some y=>simp only [he] at h2;obtain ⟨ys',hy,rfl⟩:=qac.1 h2;obtain ⟨i1,i2⟩:=evs_rep hg h hq hy<;>grind[ev_rep]
theorem natX_rep {y:X}{n:Nat}(h:Rep K C y v)(e:natX y=some n):v=.int .i64 n:=by
 unfold natX at e;split at e
 ·split at e;next a=>simp only [qah] at e;cases h<;>grind
  grind
 grind
theorem idxX_rep {y:X}{n:Nat}(h:Rep K C y v)(e:idxX y=some n):∃k,v=.int k n:=by
 unfold idxX at e;split at e
 ·split at e;next a=>simp only [qah] at e;cases h<;>grind
  grind
 grind
theorem sizeP_run {t:TypeId}{n:Nat}(h:sizeP P t=some n)(w:World):(sizeOf t).run P w=.ok n w:=by unfold sizeP at h;obtain ⟨i,a,rfl⟩:=qac.1 h<;>simp_all[sizeOf,typeInfo]
theorem aggP_run {t:TypeId}{r:Option Nat}(h:aggP P t=some r)(w:World):
  (isAgg t).run P w=.ok r.isSome w/\∀n,r=some n->(sizeOf t).run P w=.ok n w:=by
 unfold aggP at h;split at h;next f a=>simp only [qah] at h;subst h<;>simp_all[isAgg,run_underlying,sizeP_run]
 next f a=>simp only [qah] at h;subst h<;>simp_all[isAgg,run_underlying,sizeP_run]
 next d n j l f a=>simp only [qah] at h;subst h<;>simp_all[isAgg,run_underlying]
 grind
theorem addr_add (b o i:Nat):(⟨b,o,none⟩:Addr).add i=⟨b,o+i,none⟩:=by grind[Addr.add]
theorem run_loadVar_one {t:TypeId}{b o:Nat}(h:aggP P t=some none)(hc:w.cell? ⟨b,o,none⟩=some v):
  (loadVar t ⟨b,o,none⟩).run P w=.ok v w:=by
 simp_all[loadVar,aggP_run]
theorem run_loadVar_agg {t:TypeId}{b o n:Nat}{vs:List Value}(h:aggP P t=some (some n))(hl:vs.length=n)
  (hc:∀j v,vs[j]?=some v->w.cell? ⟨b,o+j,none⟩=some v):(loadVar t ⟨b,o,none⟩).run P w=.ok (.agg vs.toArray) w:=by
 have:=run_loadCells_list (P:=P) w ⟨b,o,none⟩ vs (fun j v a=>by rw [addr_add];exact hc j v a)<;>simp_all[loadVar,aggP_run]
theorem zeroP_run {t:TypeId}(h:zeroP P t=some l)(w:World):
  ∃z,(zeroValue t).run P w=.ok z w/\(∀(K:Kn) (C:List CB),CRep K C l z.cells.toList)/\sizeP P t=some l.length/\0<l.length:=by
 unfold zeroP at h;split at h
 ·rename_i z n hz q;split at h
  ·rename_i u j;split at h;next a=>cases h;simp only [qab,qaQ,qaI] at a;obtain ⟨i,m,f⟩:=qaG.1 hz;exact ⟨z,by simp_all[zeroValue,typeInfo],fun K C=>cellsX_rep K C j,by grind,by omega⟩
   grind
  grind
 grind
theorem at2_some {es:qaW}{j:Nat}{y:X}:at2 es i j=some y↔∃e,es[i]?=some e/\e[j]?=some y:=by grind[at2]
theorem toArray_getElem? (arr:Array Value)(j:Nat):arr.toList[j]?=arr[j]?:=by simp
theorem loadCs_rep (h:Inv P R K C σ.bx w){p:X}(hp:Rep K C p pv)(e:loadCs σ p=some cs):
  ∃b o vs,pv=.pointer (some ⟨b,o,none⟩)/\CRep K C cs vs/\∀j v,vs[j]?=some v->w.cell? ⟨b,o+j,none⟩=some v:=by
 unfold loadCs at e;split at e
 ·rename_i i el o;cases hp with
  |ptr hc=>
   rename_i b m hi n;split at e
   ·rename_i A M;split at e
    ·rename_i J;simp only [qah] at e;subst e;have J:el=0:=by simpa using J
     subst J;obtain ⟨L,Z,f,t,N,q⟩:=h.box i _ _ M hc;subst L;refine ⟨_,_,f.toList.drop o,rfl,q.drop o,fun j v H=>?_⟩<;>simp_all[World.cell?]
    grind
   ·rename_i pa V M;obtain ⟨F,l,rfl⟩:=qac.1 e;obtain ⟨L,Z,h3,f,t,N,hl,q⟩:=h.box i _ _ M hc;subst L;have W:=h3 F (qap l);have Q:=(qak.1 l).1;have hm:el*n+n<=V.length*n:=by have:=qaJ n (show el+1<=V.length from Q);rw [Nat.add_mul,Nat.one_mul] at this;exact this
    have O:CRep K C F ((f.toList.drop (m+el*n)).take n):=by
     refine ⟨by grind,fun y U=>?_,fun j y v B ev=>?_⟩;·obtain ⟨j,a,rfl⟩:=List.mem_iff_getElem.1 U;exact (q el j _ (at2_some.2 ⟨F,l,qad a⟩)).1
     obtain ⟨_,u,hu,S⟩:=q el j y (at2_some.2 ⟨F,l,B⟩);have a:=(qak.1 B).1;rw [qax,if_pos (by omega),qaw,toArray_getElem?,hu] at ev;cases ev;exact S.mono (KLe.refl _) (CLe.nil _)
    refine ⟨_,_,((f.toList.drop (m+el*n)).take n).drop o,rfl,O.drop o,fun j v H=>?_⟩
    grind[World.cell?]
   grind
 ·cases hp with
  |dp vals hcell hk q=>
   rename_i b o;simp only [qah] at e;subst e;rename_i A;refine ⟨b,o,(List.range A.length).map vals,rfl,⟨by simp,fun y U=>?_,fun j y v B ev=>?_⟩,fun j v H=>?_⟩;·obtain ⟨j,a,rfl⟩:=List.mem_iff_getElem.1 U;exact hcell j _ (qad a)
   ·have a:=(qak.1 B).1;simp [a] at ev;subst ev;exact (q j y B).mono (KLe.refl _) (CLe.nil _)
   rw [qaA] at H;obtain ⟨Y,E,rfl⟩:=qac.1 H;have a:=(qak.1 E).1;simp at a;have:Y=j:=by simpa [a] using E.symm
   subst this;exact h.known _ _ _ (hk Y _ (qad a))
 grind
theorem loadX_rep (h:Inv P R K C σ.bx w){p y:X}{t:TypeId}(ht:aggP P t=some n)(hp:Rep K C p pv)(e:loadX σ n p=some y):
  ∃b o v,pv=.pointer (some ⟨b,o,none⟩)/\(loadVar t ⟨b,o,none⟩).run P w=.ok v w/\Rep K C y v:=by
 unfold loadX at e;cases l:loadCs σ p with
 |none=>grind
 |some cs=>
  simp only [l] at e;obtain ⟨b,o,E,rfl,q,F⟩:=loadCs_rep h hp l;cases n with
  |none=>
   have u:cs[0]?=some y:=by simpa [List.head?_eq_getElem?] using e
   obtain ⟨v,B,m⟩:=q.get u;exact ⟨b,o,v,rfl,run_loadVar_one ht (by grind),m⟩
  |some n=>
   simp only at e;split at e
   ·rename_i f;cases e;have f:(cs.take n).length=n:=by simpa using f
    have a:=q.take n;refine ⟨b,o,.agg (E.take n).toArray,rfl,run_loadVar_agg ht (by rw [a.len]<;>grind) (fun j v B=>?_),?_⟩
    ·grind
    exact .agg (by simpa using a.len) a.cell (fun j z v A ev=>a.rep j z v A (by grind))
   grind
def Did (n:Next)(v:Value):Prop:=n=.value v\/(n=.skip/\v=undef)
def OpOk (P:Program)(R:CodeRel)(x:Ctx)(σ:St)(a:Act)(w:World)(o:Oper)(y:X)(bx:List Bx):Prop:=
 ∃(K':Kn) (C':List CB) (nx:Next) (v:Value) (w':World),(execOp a.eval o).run P w=.ok nx w'/\Did nx v/\Em.Rel P R x K' C' ⟨σ.tm,bx⟩ a w'/\Rep K' C' y v
theorem OpOk.still {o:Oper}{y:X}(h:Rel P R x K C σ a w)(hr:(execOp a.eval o).run P w=.ok (.value v) w)(hy:Rep K C y v):OpOk P R x σ a w o y σ.bx:=
 ⟨K,C,_,v,w,hr,.inl rfl,h,hy⟩
variable {o:Oper} {y:X} {bx:List Bx} {fp:FP} {A:Ann} {Γ:Gam}
theorem alloc_get (w:World)(o:Obj):(w.alloc o).heap[w.heap.size]?=some o:=by show (w.heap.push o)[w.heap.size]?=_;simp
theorem rep_ptr0 {b hi:Nat}(hc:C[i]?=some (.at b 0 hi sz)):Rep K C (.ptr i 0 0) (.pointer (some ⟨b,0,none⟩)):=by have:=Rep.ptr (K:=K) (e:=0) (o:=0) hc<;>grind
theorem rep_v (h:Rep K C (.v u) v):v=u:=by cases h;rfl
theorem op_mov {z:Operand}{q:Opd}{t:TypeId}(h:Rel P R x K C σ a w)(ho:o.op=.move z\/o.op=.assign z)(hq:trOpd P R.gl t z=some q)(hy:σ.ev q=some y):OpOk P R x σ a w o y σ.bx:=by refine .still h (v:=a.eval z) ?_ (ev_rep h.inv.glob h.tm hq hy);rcases ho with ho|ho<;>simp [execOp,ho]
theorem op_pick {c:Operand}{c':Opd}{t1 t2 t3:TypeId}{y1 y2:X}(h:Rel P R x K C σ a w)(ho:o.op=.pick c p q)(hc:trOpd P R.gl t1 c=some c')(hp:trOpd P R.gl t2 p=some p')(hq:trOpd P R.gl t3 q=some q')
  (ec:σ.ev c'=some (.v (.bool b))) (ep:σ.ev p'=some y1) (eq:σ.ev q'=some y2):OpOk P R x σ a w o (if b then y1 else y2) σ.bx:=by
 have f:=ev_rep h.inv.glob h.tm hc ec;have l:=ev_rep h.inv.glob h.tm hp ep;have m:=ev_rep h.inv.glob h.tm hq eq;have j:a.eval c=.bool b:=rep_v f;refine .still h (v:=if b then a.eval p else a.eval q) ?_ ?_;·simp_all[execOp,asBool]
 grind
theorem op_load {t t1:TypeId}{z:Operand}{q:Opd}{p:X}(h:Rel P R x K C σ a w)(ho:o.op=.load t z)(ht:aggP P t=some n)(hq:trOpd P R.gl t1 z=some q)(hp:σ.ev q=some p)
  (e:loadX σ n p=some y):OpOk P R x σ a w o y σ.bx:=by
 obtain ⟨b,l,v,m,f,j⟩:=loadX_rep h.inv ht (ev_rep h.inv.glob h.tm hq hp) e;exact .still h (v:=v) (by simp_all[execOp,Instr.loadAt,Instr.sureAddr]) j
theorem op_alloc {t:TypeId}(h:Rel P R x K C σ a w)(ho:o.op=.alloc t)(hz:zeroP P t=some l):OpOk P R x σ a w o (.ptr σ.bx.length 0 0) (σ.bx++[.var l]):=by
 obtain ⟨z,j,m,_,f⟩:=zeroP_run hz w;have q:(C++[CB.at w.heap.size 0 l.length l.length])[σ.bx.length]?=some (.at w.heap.size 0 l.length l.length):=by rw [<-h.inv.size];simp
 refine ⟨K,C++[.at w.heap.size 0 l.length l.length],_,.pointer (some ⟨w.heap.size,0,none⟩),w.alloc (.cells z.cells t),?_,.inl rfl,?_,?_⟩;·simp_all[execOp,Instr.alloc,newVar,newRow]
 ·refine h.push _ ⟨rfl,rfl,z.cells,t,alloc_get _ _,(m K _)⟩ (fun b k n=>n.1)
 grind[rep_ptr0]
theorem op_box {t t1:TypeId}{z:Operand}{q:Opd}{p:X}(h:Rel P R x K C σ a w)(ho:o.op=.box t z)(hq:trOpd P R.gl t1 z=some q)(hp:σ.ev q=some p)(h1:p.ok1=true):
  OpOk P R x σ a w o (.ptr σ.bx.length 0 0) (σ.bx++[.var p.cells]):=by
 have f:=(ev_rep h.inv.glob h.tm hq hp).cells h1;have l:(C++[CB.at w.heap.size 0 p.cells.length p.cells.length])[σ.bx.length]?=some (.at w.heap.size 0 p.cells.length p.cells.length):=by rw [<-h.inv.size];simp
 refine ⟨K,C++[.at w.heap.size 0 p.cells.length p.cells.length],_,.pointer (some ⟨w.heap.size,0,none⟩),w.alloc (.cells (a.eval z).cells t),?_,.inl rfl,?_,?_⟩;·simp_all[execOp,Instr.box,newVar,newRow]
 ·refine h.push _ ⟨rfl,rfl,(a.eval z).cells,t,alloc_get _ _,f.mono (KLe.refl _) (CLe.append _ _)⟩ (fun b k j=>j.1)
 grind[rep_ptr0]
theorem op_faddr {t t1:TypeId}{z:Operand}{q:Opd}{f:Nat}{fs:Array Field}{fd:Field}{n:Nat}{p:X}(h:Rel P R x K C σ a w)(ho:o.op=.fieldAddr t z f)(hu:P.underlying t=some (.struct fs))(hf:fs[f]?=some fd)
  (hn:sizeP P fd.type=some (n+1)) (hq:trOpd P R.gl t1 z=some q) (hp:σ.ev q=some p)
  (e:(match p with|.ptr i e o=>some (X.ptr i e (o+fd.offset))|.dp cs=>some (.dp (cs.drop fd.offset))|_=>none)=some y):OpOk P R x σ a w o y σ.bx:=by
 have l:=ev_rep h.inv.glob h.tm hq hp;have u:∀b k,a.eval z=.pointer (some ⟨b,k,none⟩)->Rep K C y (.pointer (some ⟨b,k+fd.offset,none⟩))->OpOk P R x σ a w o y σ.bx:=by intro b k m A;refine .still h (v:=.pointer (some ⟨b,k+fd.offset,none⟩)) ?_ A;simp [execOp,ho,Instr.fieldAt,run_underlying hu,hf,m,Instr.sureAddr,fieldPlace,sizeP_run hn w,addr_add]
 split at e
 ·rename_i i el k;cases e;generalize m:a.eval z=v at l;cases l with
  |ptr hc=>exact u _ _ m (by rw [Nat.add_assoc];exact .ptr hc)
 ·rename_i cs;cases e;generalize m:a.eval z=v at l;cases l with
  |dp vals hcell hk l=>rename_i b k;refine u _ _ m (.dp (fun j=>vals (fd.offset+j)) (fun j z e=>hcell (fd.offset+j) z (by simpa using e)) (fun j z e=>?_) (fun j z e=>l _ z (by simpa using e)))<;>grind
 grind
theorem pureOf_run {α:Type}{s:Sem α}{v:α}(h:pureOf s=some v)(w:World):s.run P w=.ok v w:=by
 cases s<;>simp [pureOf] at h<;>simp_all
theorem binV_int_ok {k k':IntKind}{m n:Int}(e:pureOf (binOp op 0 (.int k m) (.int k' n))=some z):okV z=true:=by
 have a:∀op,pureOf (Op.shift op k m k' n)=some z->okV z=true:=by
  intro op e;unfold Op.shift at e;split at e;·simp_all[runtimePanic,pureOf,program,bind,Sem.bind]
  dsimp only at e;split at e<;>simp [pureOf,pure,stuck] at e<;>(subst e;rfl)
 have f:∀op,pureOf (Op.intArith op k m n)=some z->okV z=true:=by intro op e;unfold Op.intArith at e;split at e<;>simp [pureOf,pure,stuck] at e<;>(subst e;rfl)
 have l:∀op,pureOf (Op.intDiv op k m n)=some z->okV z=true:=by
  intro op e;unfold Op.intDiv at e;split at e;·simp_all[runtimePanic,pureOf,program,bind,Sem.bind]
  split at e<;>simp [pureOf,pure,stuck] at e<;>(subst e;rfl)
 have h:∀op,pureOf (Op.intBits op k m n)=some z->okV z=true:=by intro op e;unfold Op.intBits at e;dsimp only at e;split at e<;>simp [pureOf,pure,stuck] at e<;>(subst e;rfl)
 have j:∀op,pureOf (Op.intCmp op m n)=some z->okV z=true:=by intro op e;unfold Op.intCmp at e;split at e<;>simp [pureOf,pure,stuck] at e<;>(subst e;rfl)
 cases op<;>simp only [binOp] at e<;>first
  |exact a _ e
  |grind[pureOf,stuck]
theorem binV_ok (e:binV op u v=some z):okV z=true:=by
 unfold binV at e;split at e
 ·grind[binV_int_ok]
 ·rename_i m n;by_cases a:((m.size+n.size:Nat):Int)>IntKind.i64.max
  ·cases op<;>simp only [binOp,Op.stringOp,a,if_true] at e<;>first
    |(simp [pureOf,pure,stuck,unsupported] at e;done)
    |(simp only [pureOf,pure,qah] at e;subst e;rfl)
  cases op<;>simp only [binOp,Op.stringOp,a,if_false] at e<;>first
   |(simp [pureOf,pure,stuck] at e;done)
   |(simp only [pureOf,pure,qah] at e;subst e;rfl)
 grind
theorem binOp_type {t:TypeId}(e:binV op u v=some z)(w:World):(binOp op t u v).run P w=.ok z w:=by
 unfold binV at e;split at e;·rw [show binOp op t (.int _ _) (.int _ _)=binOp op 0 (.int _ _) (.int _ _) from by cases op<;>rfl]<;>grind[pureOf_run]
 ·grind[binOp,pureOf_run]
 grind
theorem eqGuard_scalar {t:TypeId}(e:binV op u v=some z)(w:World):(eqGuard op t p q u v).run P w=.ok () w:=by
 unfold binV at e;split at e;·simp_all[eqGuard]
 ·simp_all[eqGuard]
 grind
theorem op_bin {t t1 t2 u:TypeId}{n:Value}(h:Rel P R x K C σ a w)(ho:o.op=.binOp op t p q u)(hp:trOpd P R.gl t1 p=some p')(hq:trOpd P R.gl t2 q=some q')
  (ep:σ.ev p'=some (.v m)) (eq:σ.ev q'=some (.v n)) (e:binV op m n=some z):OpOk P R x σ a w o (.v z) σ.bx:=by
 have f:=rep_v (ev_rep h.inv.glob h.tm hp ep);have j:=rep_v (ev_rep h.inv.glob h.tm hq eq);refine .still h (v:=z) ?_ (.v (binV_ok e))<;>simp_all[execOp,eqGuard_scalar,binOp_type]
theorem equalIn_bool {t:TypeId}(hu:P.underlying t=some .bool)(d:Nat)(m n:Bool)(w:World):(Op.equalIn (d+1) t (.bool m) (.bool n)).run P w=.ok (m==n) w:=by simp [Op.equalIn,run_underlying hu]
theorem op_beq {t t1 t2 u:TypeId}{m n:Bool}(h:Rel P R x K C σ a w)(ho:o.op=.binOp op t p q u)(hu:P.underlying t=some .bool)(hop:op=.eql\/op=.neq)(hp:trOpd P R.gl t1 p=some p')(hq:trOpd P R.gl t2 q=some q')
  (ep:σ.ev p'=some (.v (.bool m))) (eq:σ.ev q'=some (.v (.bool n))):OpOk P R x σ a w o (.v (.bool (if op=.neq then !(m==n) else m==n))) σ.bx:=by
 have B:=rep_v (ev_rep h.inv.glob h.tm hp ep);have E:=rep_v (ev_rep h.inv.glob h.tm hq eq);refine .still h (v:=.bool (if op=.neq then !(m==n) else m==n)) ?_ (.v rfl);have l:(Op.equal t (.bool m) (.bool n)).run P w=.ok (m==n) w:=equalIn_bool hu 9999 m n w;have A:(eqGuard op t p q (.bool m) (.bool n)).run P w=.ok () w:=by unfold eqGuard;split<;>rfl
 have f:binOp .eql t (.bool m) (.bool n)=(do pure (.bool (<-Op.equal t (.bool m) (.bool n))):Sem Value):=rfl;have j:binOp .neq t (.bool m) (.bool n)=(do pure (.bool (!(<-Op.equal t (.bool m) (.bool n)))):Sem Value):=rfl;generalize Op.equal t (.bool m) (.bool n)=s at l f j;have y:(binOp op t (.bool m) (.bool n)).run P w=.ok (.bool (if op=.neq then !(m==n) else m==n)) w:=by
  rcases hop with rfl|rfl;·simp_all
  simp_all
 simp_all[execOp]
theorem eqFields_ok {d:Nat}{xs ys:Array Value}:∀{fs:List Field} {i:Nat} {ks:List Nat} {lx ly:List X} {b:Bool},flatKs P i fs=some ks->aggEq ks lx ly=some b->
  (∀(j:Nat) (x:X),lx[j]?=some x->∃v,xs[i+j]?=some v/\∀z,x=.v z->v=z)->(∀(j:Nat) (x:X),ly[j]?=some x->∃v,ys[i+j]?=some v/\∀z,x=.v z->v=z)->∀w:World,(Op.eqFields (d+1) xs ys fs).run P w=.ok b w
 |[],i,ks,lx,ly,b,hk,he,_,_,w=>by
  unfold flatKs at hk;cases hk;unfold aggEq at he;split at he;·simp_all[Op.eqFields]
  ·grind
  ·grind
  ·grind
  grind
 |f::r,i,ks,lx,ly,b,hk,he,hx,hy,w=>by
  unfold flatKs at hk;split at hk
  ·rename_i hc;rw [qab] at hc;have hn:f.name≠ "_":=of_decide_eq_true hc.1;have ho:f.offset=i:=eq_of_beq hc.2;have tl:∀{l:List X} {x:X} {m:List X} {vs:Array Value},l=x::m->(∀(j:Nat) (x:X),l[j]?=some x->∃v,vs[i+j]?=some v/\∀z,x=.v z->v=z)->∀(j:Nat) (x:X),m[j]?=some x->∃v,vs[i+1+j]?=some v/\∀z,x=.v z->v=z:=by
    intro l x m vs e h j y hj;subst e;have:=h (j+1) y (by grind);rw [show i+1+j=i+(j+1) from by omega];exact this
   have key:∀{u v:Value} {c e:Bool} {ks':List Nat} {xs' ys':List X},P.plainKey f.type=true->xs[i]?=some u->ys[i]?=some v->((Op.equalIn (d+1) f.type u v).run P w=.ok c w)->(Op.eqFields (d+1) xs ys r).run P w=.ok e w->(Op.eqFields (d+1) xs ys (f::r)).run P w=.ok (c&&e) w:=by
    intro u v c e ks' xs' ys' hp hu hv hq hr;simp only [Op.eqFields,hn,ne_eq,not_false_eq_true,if_true,Sem.run_bind,ho,run_part_plain w hp hu,run_part_plain w hp hv,Result.andThen_ok,hq];cases c with
    |true=>grind
    |false=>simp
   split at hk
   ·rename_i q hq;obtain ⟨ks',h1,rfl⟩:=qac.1 hk;unfold aggEq at he;split at he
    ·grind
    ·rename_i hks;cases hks;split at he;next hkk=>obtain ⟨e,h2,rfl⟩:=qac.1 he;obtain ⟨v,hv,hv'⟩:=hx 0 _ rfl;obtain ⟨u,hu,hu'⟩:=hy 0 _ rfl;have:=hv' _ rfl;subst this;have:=hu' _ rfl;subst this;subst hkk;exact key (ks':=[]) (xs':=[]) (ys':=[]) (by grind[Program.plainKey]) hv hu (run_equalIn_int w d _ _ _ _ _ hq) (eqFields_ok h1 h2 (tl rfl hx) (tl rfl hy) w)
     grind
    ·grind
    ·grind
    grind
   ·rename_i hq;obtain ⟨ks',h1,rfl⟩:=qac.1 hk;unfold aggEq at he;split at he
    ·grind
    ·grind
    next hks=>cases hks;obtain ⟨e,h2,rfl⟩:=qac.1 he;obtain ⟨v,hv,hv'⟩:=hx 0 _ rfl;obtain ⟨u,hu,hu'⟩:=hy 0 _ rfl;have:=hv' _ rfl;subst this;have:=hu' _ rfl;subst this;exact key (ks':=[]) (xs':=[]) (ys':=[]) (by grind[Program.plainKey]) hv hu (run_equalIn_string w d _ _ _ hq) (eqFields_ok h1 h2 (tl rfl hx) (tl rfl hy) w)
    ·grind
    grind
   ·rename_i hq;obtain ⟨ks',h1,rfl⟩:=qac.1 hk;unfold aggEq at he;split at he
    ·grind
    ·grind
    ·grind
    next hks=>cases hks;obtain ⟨e,h2,rfl⟩:=qac.1 he;obtain ⟨v,hv,hv'⟩:=hx 0 _ rfl;obtain ⟨u,hu,hu'⟩:=hy 0 _ rfl;have:=hv' _ rfl;subst this;have:=hu' _ rfl;subst this;exact key (ks':=[]) (xs':=[]) (ys':=[]) (by grind[Program.plainKey]) hv hu (run_equalIn_bool' w d _ _ _ hq) (eqFields_ok h1 h2 (tl rfl hx) (tl rfl hy) w)
    grind
   grind
  grind
theorem rep_agg {K:Kn}{C:List CB}(h:Rep K C (.agg cs) v):∃vs:Array Value,v=.agg vs/\∀(j:Nat) (x:X),cs[j]?=some x->∃u,vs[j]?=some u/\∀z,x=.v z->u=z:=by
 cases h with
 |agg hs hcell hr=>rename_i vs;refine ⟨vs,rfl,fun j x a=>?_⟩;have f:j<cs.length:=(qak.1 a).1;have l:vs[j]?=some (vs[j]'(by omega)):=qaC (by omega)<;>grind[rep_v]
theorem op_ceq {t t1 t2 u:TypeId}{ks:List Nat}{xs ys:List X}(h:Rel P R x K C σ a w)(ho:o.op=.binOp op t p q u)(hf:flatT P t=some ks)(hop:op=.eql\/op=.neq)(hp:trOpd P R.gl t1 p=some p')(hq:trOpd P R.gl t2 q=some q')
  (ep:σ.ev p'=some (.agg xs)) (eq:σ.ev q'=some (.agg ys)) (e:aggEq ks xs ys=some b):OpOk P R x σ a w o (.v (.bool (if op=.neq then !b else b))) σ.bx:=by
 obtain ⟨m,N,L⟩:=rep_agg (ev_rep h.inv.glob h.tm hp ep);obtain ⟨l,O,M⟩:=rep_agg (ev_rep h.inv.glob h.tm hq eq);refine .still h (v:=.bool (if op=.neq then !b else b)) ?_ (.v rfl);unfold flatT at hf;split at hf
 ·rename_i A y;split at hf
  ·grind
  rename_i n;rw [Bool.not_eq_true,Bool.or_eq_false_iff] at n;have f:P.fieldsOf t=A:=by simp [Program.fieldsOf,y]
  have E:P.underlying t=some (.struct (P.fieldsOf t)):=by rw [f];exact y
  have H:(Op.equalIn 10000 t (.agg m) (.agg l)).run P w=.ok b w:=by rw [show (10000:Nat)=9999+1 from rfl,run_equalIn_agg w 9999 t _ _ E n.1,f];exact eqFields_ok (d:=9998) hf e (fun j x B=>by grind) (fun j x B=>by grind) w
  have J:(eqGuard op t p q (.agg m) (.agg l)).run P w=.ok () w:=run_eqGuard_agg w op t p q m l n.2;have F:(binOp op t (.agg m) (.agg l)).run P w=.ok (.bool (if op=.neq then !b else b)) w:=by
   rcases hop with rfl|rfl;·simp_all[run_eql_struct]
   simp_all[run_neq_struct]
  simp_all[execOp]
 grind
theorem op_un {op:UnOp}{t t1:TypeId}(h:Rel P R x K C σ a w)(ho:o.op=.unOp op t p)(hp:trOpd P R.gl t1 p=some p')(ep:σ.ev p'=some (.v m))(e:unV op m=some z):
  OpOk P R x σ a w o (.v z) σ.bx:=by
 have f:=rep_v (ev_rep h.inv.glob h.tm hp ep);unfold unV at e;split at e
 ·refine .still h (v:=z) (by simp_all[execOp,pureOf_run]) (.v ?_);rename_i k n;cases op;·exact binV_int_ok (op:=.sub) (k:=k) (k':=k) (m:=0) (n:=n) (by grind[binOp,Op.unary])
  ·exact binV_int_ok (op:=.xor) (k:=k) (k':=k) (m:=if k.signed then -1 else k.max) (n:=n) (by grind[binOp,Op.unary])
  ·grind[Op.unary,pureOf,stuck]
  grind[Op.unary,pureOf,stuck]
 ·refine .still h (v:=z) (by simp_all[execOp,pureOf_run]) (.v ?_);cases op<;>simp [Op.unary,pureOf,pure,stuck] at e;subst e;rfl
 grind
end
section
variable {t:Bool}{es:qaW}{l:List Value}{b base cap hi n o sz:Nat}
variable {P:Program} {R:CodeRel} {x:Ctx} {K:Kn} {C:List CB} {σ:St} {a:Act} {w:World}
structure Flat (K:Kn) (sz:Nat) (es:qaW) (flat:List Value):Prop where
 len:flat.length=es.length*sz
 elems:∀(e:List X),e∈es->e.length=sz
 get:∀(i j:Nat) (y:X),at2 es i j=some y->y.isCell=true/\∃v,flat[i*sz+j]?=some v/\Rep K [] y v
theorem at2_lt {i j:Nat}{y:X}(h:∀(e:List X),e∈es->e.length=sz)(e:at2 es i j=some y):i<es.length/\j<sz/\i*sz+j<es.length*sz:=by
 obtain ⟨m,l,n⟩:=at2_some.1 e;have a:=(qak.1 l).1;have f:=(qak.1 n).1;rw [h m (qap l)] at f;refine ⟨a,f,?_⟩;have:=qaJ sz (show i+1<=es.length from a)
 grind
theorem Flat.mono {K K':Kn}{flat:List Value}(h:Flat K sz es flat)(hK:KLe K K'):Flat K' sz es flat:=
 ⟨h.len,h.elems,fun i j y e=>let ⟨hc,v,hv,hr⟩:=h.get i j y e;⟨hc,v,hv,hr.mono hK (CLe.refl _)⟩⟩
theorem Flat.nil {K:Kn}:Flat K sz [] []:=⟨by simp,by simp,by simp [at2]⟩
theorem Flat.append {fs:qaW}{m:List Value}(h:Flat K sz es l)(h':Flat K sz fs m):Flat K sz (es++fs) (l++m):=by
 refine ⟨by simp [h.len,h'.len,Nat.add_mul],fun e a=>?_,fun i j y e=>?_⟩
 ·rcases qaO.1 a with a|a;·exact h.elems e a
  exact h'.elems e a
 obtain ⟨f,a,q⟩:=at2_some.1 e;by_cases A:i<es.length;·rw [qar A] at a;obtain ⟨n,v,w,u⟩:=h.get i j y (at2_some.2 ⟨f,a,q⟩)<;>grind
 rw [qaz (by omega)] at a;obtain ⟨n,v,w,u⟩:=h'.get (i-es.length) j y (at2_some.2 ⟨f,a,q⟩);refine ⟨n,v,?_,u⟩;have B:es.length*sz<=i*sz:=qaJ sz (by omega);rw [qaz (by rw [h.len];omega),h.len,<-w]<;>grind[Nat.sub_mul]
theorem Flat.drop (h:Flat K sz es l)(n:Nat):Flat K sz (es.drop n) (l.drop (n*sz)):=by refine ⟨by simp [h.len,Nat.sub_mul],fun e a=>h.elems e (List.mem_of_mem_drop a),fun i j y e=>?_⟩;obtain ⟨f,a,m⟩:=at2_some.1 e;rw [qaw] at a;obtain ⟨q,v,w,u⟩:=h.get (n+i) j y (at2_some.2 ⟨f,a,m⟩)<;>grind
theorem Flat.take (h:Flat K sz es l)(n:Nat):Flat K sz (es.take n) (l.take (n*sz)):=by
 refine ⟨?_,fun e a=>h.elems e (List.mem_of_mem_take a),fun i j y e=>?_⟩;·rw [qag,qag,h.len]<;>grind[qaJ,Nat.min_eq_right]
 obtain ⟨f,a,m⟩:=at2_some.1 e;rw [qax] at a;split at a
 ·rename_i u;have A:=at2_lt h.elems (at2_some.2 ⟨f,a,m⟩);obtain ⟨q,v,B,w⟩:=h.get i j y (at2_some.2 ⟨f,a,m⟩);refine ⟨q,v,?_,w⟩;have:=qaJ sz (show i+1<=n from u)
  grind
 grind
theorem Flat.one {e:List X}(h:CRep K [] e l)(he:e.length=sz):Flat K sz [e] l:=by refine ⟨by simp [h.len,he],by grind,fun i j y n=>?_⟩;obtain ⟨u,a,m⟩:=at2_some.1 n;have f:=(qak.1 a).1;simp at f;subst f;simp at a;subst a;obtain ⟨v,w,q⟩:=h.get m;exact ⟨h.cell y (qap m),v,by grind,q⟩
theorem Flat.oneCell (h:Flat K sz es l):∀v,v∈l->v.oneCell'=true:=by
 intro v A;obtain ⟨k,f,rfl⟩:=List.mem_iff_getElem.1 A;have a:0<sz:=by
  rcases Nat.eq_zero_or_pos sz with h0|h0;·rw [h.len,h0] at f<;>grind
  ·grind
 have j:k /sz<es.length:=by rw [h.len] at f;exact (Nat.div_lt_iff_lt_mul a).2 f
 have q:=qad j;have w:k%sz<(es[k /sz]).length:=by rw [h.elems _ (qae j)];exact Nat.mod_lt _ a
 obtain ⟨n,u,m,y⟩:=h.get (k /sz) (k%sz) _ (at2_some.2 ⟨_,q,qad w⟩);have:k /sz*sz+k%sz=k:=by rw [Nat.mul_comm];exact Nat.div_add_mod k sz
 rw [this,qad f] at m;cases m;exact y.oneCell n
theorem Rep.flat (h:Rep K C (.sl t sz es) (.slice (some ⟨b,o,none⟩) n cap)):
  ∃l,Flat K sz es l/\∀k v,l[k]?=some v->K b (o+k)=some v:=by
 cases h with
 |slNil=>exact ⟨[],Flat.nil,fun k v e=>by grind⟩
 |sl vals hlen ht hcap hcell hk hr=>
  refine ⟨(List.range (es.length*sz)).map fun k=>vals (k /sz) (k%sz),⟨by simp,hlen,fun i j y e=>?_⟩,fun k v w=>?_⟩
  ·obtain ⟨B,E,F⟩:=at2_lt hlen e;refine ⟨hcell i j y e,vals i j,?_,hr i j y e⟩;have f:0<sz:=by omega
   simp_all[Nat.mul_comm,Nat.mul_add_div,Nat.div_eq_of_lt,Nat.mod_eq_of_lt]
  rw [qaA] at w;obtain ⟨q,m,rfl⟩:=qac.1 w;have a:=(qak.1 m).1;simp at a;have:q=k:=by simpa [a] using m.symm
  subst this;have f:0<sz:=by
   rcases Nat.eq_zero_or_pos sz with h0|h0
   ·grind
   ·grind
  have u:=(Nat.div_lt_iff_lt_mul f).2 a;have A:q%sz<(es[q /sz]).length:=by rw [hlen _ (qae u)];exact Nat.mod_lt _ f
  have:=hk (q /sz) (q%sz) _ (at2_some.2 ⟨_,qad u,qad A⟩)<;>grind[Nat.div_add_mod]
theorem Flat.rep (h:Flat K sz es l)(hk:∀k v,l[k]?=some v->K b (o+k)=some v)
  (ht:t=true->cap=es.length) (hcap:es.length<=cap):Rep K C (.sl t sz es) (.slice (some ⟨b,o,none⟩) es.length cap):=by
 refine .sl (fun i j=>l.getD (i*sz+j) undef) h.elems ht hcap (fun i j y e=>(h.get i j y e).1) (fun i j y e=>?_) (fun i j y e=>?_);·obtain ⟨_,v,a,_⟩:=h.get i j y e<;>grind
 obtain ⟨_,v,a,f⟩:=h.get i j y e<;>grind
theorem BoxOk.flat {sz':Nat}(h:BoxOk P R K C w (.row sz es) (.at b base hi sz')):
  ∃(arr:Array Value) (el:TypeId),sz'=sz/\base+es.length*sz<=hi/\hi<=arr.size/\w.heap[b]?=some (.cells arr el (0,0))/\Flat K sz es ((arr.toList.drop base).take (es.length*sz)):=by
 obtain ⟨f,l,a,arr,el,m,n,q⟩:=h;refine ⟨arr,el,f,l,n,m,⟨by grind,a,fun i j y e=>?_⟩⟩;obtain ⟨B,v,E,u⟩:=q i j y e;obtain ⟨_,_,A⟩:=at2_lt a e
 grind
theorem Flat.box {arr:Array Value}{el:TypeId}(h:Flat K sz es l)(hb:w.heap[b]?=some (.cells arr el (0,0)))
  (hl:∀k v,l[k]?=some v->arr[base+k]?=some v) (hfit:base+es.length*sz<=hi) (hhi:hi<=arr.size):BoxOk P R K C w (.row sz es) (.at b base hi sz):=
 ⟨rfl,hfit,h.elems,arr,el,hb,hhi,fun i j y e=>by obtain ⟨a,v,m,f⟩:=h.get i j y e<;>grind⟩
theorem replicate_getElem? {α:Type}(n i:Nat)(z:α):(List.replicate n z)[i]?=if i<n then some z else none:=by grind
theorem Flat.made {m:Nat}{z:List X}{zs:Array Value}(h:CRep K [] z zs.toList)(hz:z.length=sz)(hnm:n<=m):
  Flat K sz (List.replicate n z) ((madeCells zs (m*sz)).toList.take (n*sz)):=by
 have A:zs.size=sz:=by have:=h.len;simp at this;omega
 refine ⟨?_,fun e a=>?_,fun i j y e=>?_⟩
 ·grind[qaJ,size_madeCells]
 ·grind
 obtain ⟨B,a,f⟩:=at2_some.1 e;rw [replicate_getElem?] at a;split at a
 ·rename_i q;simp at a;subst a;obtain ⟨v,H,w⟩:=h.get f;refine ⟨h.cell y (qap f),v,?_,w⟩;have u:=(qak.1 f).1;have l:=qaJ sz (show i+1<=n from q);rw [Nat.add_mul,Nat.one_mul] at l;have E:=qaJ sz hnm;rw [qax,if_pos (by omega),toArray_getElem?];have F:(i*sz+j)%zs.size=j:=by rw [A,Nat.mul_comm,Nat.mul_add_mod,Nat.mod_eq_of_lt (by omega)]
  grind[madeCells]
 grind
end
section
variable {parts:Array (Nat×Operand)}{qs:List (Nat×Nat×Opd)}{ps:List (Nat×Nat×X)}{cs z:List X}
variable {P:Program} {R:CodeRel} {x:Ctx} {K:Kn} {C:List CB} {σ:St} {a:Act} {w:World}
variable {o:Oper} {y:X} {bx:List Bx} {fp:FP} {A:Ann} {Γ:Gam}
theorem fold_splice (off:Nat):∀(l:List Value) (k:Nat) (cells:Array Value),off+k+l.length<=cells.size->
  ((l.zipIdx k).foldl (fun (cs:Array Value) (p:Value×Nat)=>cs.setIfInBounds (off+p.2) p.1) cells).toList=cells.toList.take (off+k)++l++cells.toList.drop (off+k+l.length)
 |[],k,cells,_=>by simp
 |v::r,k,cells,h=>by simp only [List.zipIdx_cons,List.foldl_cons];rw [fold_splice off r (k+1) (cells.setIfInBounds (off+k) v) (by grind)];have e:=list_seg_step cells.toList (off+k) v r (by simp at h ⊢;omega)<;>simp_all[Nat.add_assoc]
theorem fill_step (place:Nat->Option (Nat×Nat))(cells:Array Value)(i off size:Nat)(v:Value)(rest:List (Nat×Value))(hp:place i=some (off,size))(hs:v.cells.size=size)
  (hf:off+v.cells.size<=cells.size):
  ∃cells',Instr.fill place cells ((i,v)::rest)=Instr.fill place cells' rest/\cells'.toList=cells.toList.take off++v.cells.toList++cells.toList.drop (off+v.cells.toList.length):=by
 refine ⟨v.cells.zipIdx.foldl (fun (cs:Array Value) (p:Value×Nat)=>cs.setIfInBounds (off+p.2) p.1) cells,?_,?_⟩
 ·have a:(decide (v.cells.size≠size)||decide (off+v.cells.size>cells.size))=false:=by simp [hs];omega
  simp_all[Instr.fill,if_neg]
 have:=fold_splice off v.cells.toList 0 cells (by grind);simp only [Nat.add_zero] at this
 grind[Array.toList_zipIdx]
theorem fill_rep {place:Nat->Option (Nat×Nat×TypeId)}{place':Nat->Option (Nat×Nat)}(hpl:∀i b c t,place i=some (b,c,t)->place' i=some (b,c))(hg:GlobOk R K)(ht:TmOk K C σ.tm a.tmps):
  ∀{ops:List (Nat×Operand)} {qs:List (Nat×Nat×Opd)} {ps:List (Nat×Nat×X)} {zero cs:List X} {zarr:Array Value},trParts3 P R.gl place ops=some qs->parts3 σ qs=some ps->
   fillX zero ps=some cs->CRep K C zero zarr.toList->∃arr,Instr.fill place' zarr (ops.map fun p=>(p.1,a.eval p.2))=some arr/\CRep K C cs arr.toList
 |[],qs,ps,zero,cs,zarr,h1,h2,h3,h4=>by simp only [trParts3,qah] at h1;subst h1;simp only [parts3,qah] at h2;subst h2;simp [fillX] at h3;subst h3;exact ⟨zarr,rfl,h4⟩
 |(i,op)::r,qs,ps,zero,cs,zarr,h1,h2,h3,h4=>by
  simp only [trParts3] at h1;cases hp:place i with
  |none=>grind
  |some q=>
   obtain ⟨b,c,t⟩:=q;simp only [hp] at h1;cases ho:trOpd P R.gl t op with
   |none=>grind
   |some q=>
    cases hr:trParts3 P R.gl place r with
    |none=>grind
    |some l=>
     simp only [ho,hr,qah] at h1;subst h1;simp only [parts3] at h2;cases he:σ.ev q with
     |none=>grind
     |some y=>
      simp only [he] at h2;obtain ⟨ps',hps,rfl⟩:=qac.1 h2;simp only [fillX] at h3;split at h3
      ·rename_i hc;simp at hc;cases hsp:splice zero b y.cells with
       |none=>grind
       |some z=>simp only [hsp] at h3;have hy:=(ev_rep hg ht ho he).cells hc.1;obtain ⟨hz,hf⟩:=h4.splice hy hsp;obtain ⟨cells',e1,e2⟩:=fill_step place' zarr i b c (a.eval op) (r.map fun p=>(p.1,a.eval p.2)) (hpl i b c t hp) (by have:=hy.len<;>grind) (by grind);rw [<-e2] at hz;obtain ⟨arr,h5,h6⟩:=fill_rep hpl hg ht hr hps h3 hz<;>grind
      grind
theorem mapM_run {α β:Type}(f:α->Sem β)(g:α->β)(w:World):∀(l:List α),(∀x,x∈l->(f x).run P w=.ok (g x) w)->(l.mapM f).run P w=.ok (l.map g) w
 |[],_=>by simp
 |x::r,h=>by have ih:=mapM_run f g w r (fun y hy=>h y (by simp [hy]))<;>simp_all
theorem mapM_run_arr {α β:Type}(f:α->Sem β)(g:α->β)(w:World)(l:Array α)(h:∀x,x∈l.toList->(f x).run P w=.ok (g x) w):(l.mapM f).run P w=.ok (l.map g) w:=by
 have e:l=l.toList.toArray:=by simp
 rw [e,List.mapM_toArray]<;>grind[Sem.run_map,mapM_run,Result.andThen_ok]
theorem op_build_struct {t:TypeId}{fs:Array Field}(h:Rel P R x K C σ a w)(ho:o.op=.build t parts)
  (hu:P.underlying t=some (.struct fs)) (hz:zeroP P t=some z) (hall:(fs.toList.all fun f=>(sizeP P f.type).isSome)=true)
  (hq:trParts3 P R.gl (fun i=>(fs[i]?).bind fun f=>(sizeP P f.type).map fun n=>(f.offset,n,f.type)) parts.toList=some qs) (hp:parts3 σ qs=some ps) (hf:fillX z ps=some cs):
  OpOk P R x σ a w o (.agg cs) σ.bx:=by
 obtain ⟨L,m,J,_,_⟩:=zeroP_run hz w;have H:(fs.mapM fun f=>(do pure (f.offset,<-sizeOf f.type):Sem (Nat×Nat))).run P w=.ok (fs.map fun f=>(f.offset,(sizeP P f.type).getD 0)) w:=by refine mapM_run_arr _ _ w fs (fun f u=>?_);have:=(qas.1 hall) f u;obtain ⟨n,A⟩:=Option.isSome_iff_exists.1 this;simp [sizeP_run A w,A]
 obtain ⟨l,E,q⟩:=fill_rep (place':=fun i=>(fs.map fun f=>(f.offset,(sizeP P f.type).getD 0))[i]?) (fun i b c t e=>by grind[qac]) h.inv.glob h.tm hq hp hf (J K C);refine .still h (v:=.agg l) ?_ (.agg (by simpa using q.len) q.cell (fun j y v B ev=>q.rep j y v B (by grind)));have F:Instr.fill (fun i=>(fs.map fun f=>(f.offset,(sizeP P f.type).getD 0))[i]?) L.cells (parts.map fun p=>(p.1,a.eval p.2)).toList=some l:=by simpa using E
 simp only [execOp,ho,Instr.build,Sem.run_bind,m,run_underlying hu,H,Result.andThen_ok,Sem.run_pure]<;>simp_all
theorem op_build_arr {t e:TypeId}{m n:Nat}(h:Rel P R x K C σ a w)(ho:o.op=.build t parts)
  (hu:P.underlying t=some (.array m e)) (hz:zeroP P t=some z) (hn:sizeP P e=some n)
  (hq:trParts3 P R.gl (fun i=>some (i*n,n,e)) parts.toList=some qs) (hp:parts3 σ qs=some ps) (hf:fillX z ps=some cs):
  OpOk P R x σ a w o (.agg cs) σ.bx:=by
 obtain ⟨F,l,E,_,_⟩:=zeroP_run hz w;obtain ⟨f,A,q⟩:=fill_rep (place':=fun i=>some (i*n,n)) (fun i b c t e=>by grind) h.inv.glob h.tm hq hp hf (E K C);refine .still h (v:=.agg f) ?_ (.agg (by simpa using q.len) q.cell (fun j y v u ev=>q.rep j y v u (by grind)));have B:Instr.fill (fun i=>some (i*n,n)) F.cells (parts.map fun p=>(p.1,a.eval p.2)).toList=some f:=by simpa using A
 simp only [execOp,ho,Instr.build,Sem.run_bind,l,run_underlying hu,sizeP_run hn w,Result.andThen_ok,Sem.run_pure]<;>simp_all
theorem bs_fill {t:TypeId}{sz:Nat}(hg:GlobOk R K)(ht:TmOk K C σ.tm a.tmps):
  ∀{ops:List (Nat×Operand)} {qs:List (Nat×Opd)} {ps:List (Nat×X)} {es:qaW} {k:Nat} {arr:Array Value},trParts2 P R.gl t ops=some qs->parts2 σ qs=some ps->
   bsElems sz k ps=some es->(k+ps.length)*sz<=arr.size->
   ∃arr',Instr.fill (fun i=>some (i*sz,sz)) arr (ops.map fun p=>(p.1,a.eval p.2))=some arr'/\arr'.size=arr.size/\arr'.toList.take (k*sz)=arr.toList.take (k*sz)/\es.length=ps.length/\
    Flat K sz es ((arr'.toList.drop (k*sz)).take (es.length*sz))
 |[],qs,ps,es,k,arr,h1,h2,h3,h4=>by simp only [trParts2,qah] at h1;subst h1;simp only [parts2,qah] at h2;subst h2;simp only [bsElems,qah] at h3;subst h3;exact ⟨arr,rfl,rfl,rfl,rfl,by simp_all[Flat.nil]⟩
 |(i,op)::r,qs,ps,es,k,arr,h1,h2,h3,h4=>by
  simp only [trParts2] at h1;cases ho:trOpd P R.gl t op with
  |none=>grind
  |some q=>
   cases hr:trParts2 P R.gl t r with
   |none=>grind
   |some l=>
    simp only [ho,hr,qah] at h1;subst h1;simp only [parts2] at h2;cases he:σ.ev q with
    |none=>grind
    |some y=>
     simp only [he] at h2;obtain ⟨ps',hps,rfl⟩:=qac.1 h2;simp only [bsElems] at h3;split at h3
     ·rename_i hc;simp at hc;obtain ⟨⟨⟨rfl,hc1⟩,hc2⟩,hc3⟩:=hc;obtain ⟨es',hes,rfl⟩:=qac.1 h3;have hy:=(ev_rep hg ht ho he).cells hc1;have hy0:CRep K [] y.cells (a.eval op).cells.toList:=⟨hy.len,hy.cell,fun j z v e e'=>(hy.rep j z v e e').noRef (by refine List.eq_nil_iff_forall_not_mem.2 fun n hn=>?_;have:n∈refsL y.cells:=mem_refsL.2 ⟨z,qap e,hn⟩<;>grind)⟩;have hvl:(a.eval op).cells.size=sz:=by have:=hy.len;simp at this;omega
      have hfit:i*sz+sz<=arr.size:=by have h5:(i+1)*sz<=(i+((i,y)::ps').length)*sz:=qaJ sz (by simp);rw [Nat.add_mul,Nat.one_mul] at h5;omega
      obtain ⟨cells',e1,e2⟩:=fill_step (fun i=>some (i*sz,sz)) arr i (i*sz) sz (a.eval op) (r.map fun p=>(p.1,a.eval p.2)) rfl hvl (by omega);have hsz':cells'.size=arr.size:=by have:=congrArg List.length e2;simp [hvl] at this;omega
      obtain ⟨arr',f1,f2,f3,f4,f5⟩:=bs_fill hg ht hr hps hes (arr:=cells') (by rw [hsz'];simp only [qat] at h4<;>grind);refine ⟨arr',by grind,by omega,?_,by grind,?_⟩
      ·have h6:arr'.toList.take (i*sz)=(arr'.toList.take ((i+1)*sz)).take (i*sz):=by rw [List.take_take,Nat.min_eq_left (qaJ sz (by omega))]
       grind
      have h7:(arr'.toList.drop (i*sz)).take ((es'.length+1)*sz)=(a.eval op).cells.toList++(arr'.toList.drop ((i+1)*sz)).take (es'.length*sz):=by
       have h8:(arr'.toList.drop (i*sz)).take sz=(a.eval op).cells.toList:=by
        have h9:(arr'.toList.drop (i*sz)).take sz=(arr'.toList.take ((i+1)*sz)).drop (i*sz):=by rw [List.take_drop,Nat.add_mul,Nat.one_mul]
        rw [h9,f3,e2];have hlen:(arr.toList.take (i*sz)).length=i*sz:=by simp;omega
        rw [qaL,Nat.add_mul,Nat.one_mul];have h10:(arr.toList.take (i*sz)++((a.eval op).cells.toList++arr.toList.drop (i*sz+(a.eval op).cells.toList.length))).take (i*sz+sz)=arr.toList.take (i*sz)++(a.eval op).cells.toList:=by rw [<-qaL,List.take_append_of_le_length (by grind)];exact List.take_of_length_le (by grind)
        rw [h10,List.drop_append_of_le_length (by omega),List.drop_of_length_le (by omega)];simp
       rw [Nat.add_mul,Nat.one_mul,Nat.add_comm (es'.length*sz) sz,List.take_add,h8,List.drop_drop,Nat.add_mul,Nat.one_mul]
      rw [qat,h7];exact (Flat.one hy0 hc2).append f5
     grind
theorem op_bslice {t e:TypeId}{len:Nat}{es:qaW}{qs:List (Nat×Opd)}{ps:List (Nat×X)}(h:Rel P R x K C σ a w)(ho:o.op=.buildSlice t len parts)
  (hu:P.underlying t=some (.slice e)) (hz:zeroP P e=some z) (hl:len*z.length<=2^24)
  (hq:trParts2 P R.gl e parts.toList=some qs) (hp:parts2 σ qs=some ps) (hlen:len=ps.length) (hf:bsElems z.length 0 ps=some es):OpOk P R x σ a w o (.sl true z.length es) σ.bx:=by
 obtain ⟨y,m,U,n,J⟩:=zeroP_run hz w;have W:y.cells.size=z.length:=by have:=(U K C).len;simpa using this
 have u:∀zero:Array Value,∃arr',Instr.fill (fun i=>some (i*z.length,z.length)) ((Array.range (len*z.length)).map (zero[·%zero.size]!)) (parts.toList.map fun p=>(p.1,a.eval p.2))=some arr'/\
   es.length=len/\Flat K z.length es arr'.toList:=by
  intro zero;obtain ⟨arr',L,M,_,N,F⟩:=bs_fill (k:=0) (arr:=(Array.range (len*z.length)).map (zero[·%zero.size]!)) h.inv.glob h.tm hq hp hf (by grind);refine ⟨arr',L,by omega,?_⟩;have:arr'.toList.length=es.length*z.length:=by simp [M,N,hlen]
  rw [Nat.zero_mul,List.drop_zero,List.take_of_length_le (by omega)] at F;exact F
 have j:∀arr':Array Value,es.length=len->Flat K z.length es arr'.toList->(execOp a.eval o).run P w=.ok (.value (.slice (some ⟨w.heap.size,0,none⟩) len len)) (w.alloc (.cells arr' e))->
   OpOk P R x σ a w o (.sl true z.length es) σ.bx:=by
  intro arr' O Q S;refine ⟨_,C,_,_,_,S,.inl rfl,h.learn arr' e,?_⟩;rw [<-O];refine (Q.mono (Kn.add_le h.inv arr')).rep (fun k v V=>?_) (fun _=>rfl) (Nat.le_refl _);simp [Kn.add];rw [<-toArray_getElem?];exact V
 have q:=run_underlying hu w;have l:¬(len*z.length>2^24):=by omega
 by_cases H:len*z.length=0
 ·obtain ⟨arr',A,B,E⟩:=u #[];refine j arr' B E ?_;have f:Instr.fill (fun i=>some (i*z.length,z.length)) ((Array.range (len*z.length)).map ((#[]:Array Value)[·%(#[]:Array Value).size]!)) (parts.map fun p=>(p.1,a.eval p.2)).toList=some arr':=by simpa using A
  simp only [execOp,ho,Instr.buildSlice,Sem.run_bind,q,sizeP_run n w,Result.andThen_ok];rw [if_neg l,if_pos H];simp only [Sem.run_bind,Sem.run_pure,Result.andThen_ok];rw [f];simp only [newRow,newObj];rfl
 obtain ⟨arr',A,B,E⟩:=u y.cells;refine j arr' B E ?_;have f:Instr.fill (fun i=>some (i*z.length,z.length)) ((Array.range (len*z.length)).map (y.cells[·%y.cells.size]!)) (parts.map fun p=>(p.1,a.eval p.2)).toList=some arr':=by simpa using A
 simp only [execOp,ho,Instr.buildSlice,Sem.run_bind,q,sizeP_run n w,Result.andThen_ok];rw [if_neg l,if_neg H];simp only [Sem.run_bind,m,Sem.run_pure,Result.andThen_ok];rw [f];simp only [newRow,newObj];rfl
end
section
variable {b:qaX}{es:qaW}{cs xs:List X}{m n sz:Nat}{i' p' z':Opd}{i p z:Operand}{v:Value}{yi yp yz:X}
variable {P:Program} {R:CodeRel} {x:Ctx} {K:Kn} {C:List CB} {σ:St} {a:Act} {w:World}
variable {o:Oper} {y:X} {bx:List Bx} {fp:FP} {A:Ann} {Γ:Gam}
theorem crep_noRef {vs:List Value}(h:CRep K C xs vs)(e:(refsL xs).isEmpty=true):CRep K [] xs vs:=
 ⟨h.len,h.cell,fun j z v a f=>(h.rep j z v a f).noRef (by refine List.eq_nil_iff_forall_not_mem.2 fun n l=>?_;have m:n∈refsL xs:=mem_refsL.2 ⟨z,qap a,l⟩<;>grind)⟩
theorem store_rep {t:TypeId}{p z:X}{pv zv:Value}(h:Rel P R x K C σ a w)(hn:sizeP P t=some n)(hp:Rep K C p pv)(hz:Rep K C z zv)(e:storeX σ.bx n p z=some bx):
  ∃b k w',pv=.pointer (some ⟨b,k,none⟩)/\(storeVar t ⟨b,k,none⟩ zv).run P w=.ok () w'/\Rel P R x K C ⟨σ.tm,bx⟩ a w':=by
 unfold storeX at e;split at e
 ·rename_i hc;simp only [qab,qaQ] at hc;have H:=hz.cells hc.1;have po:zv.cells.size=n:=by have:=H.len;simp at this;omega
  have run:∀(b k:Nat) (arr:Array Value) (el:TypeId),w.heap[b]?=some (.cells arr el (0,0))->k+zv.cells.toList.length<=arr.size->
    (storeVar t ⟨b,k,none⟩ zv).run P w=.ok () (w.setRow b (arr.toList.take k++zv.cells.toList++arr.toList.drop (k+zv.cells.toList.length)).toArray):=by
   intro b k arr el N hf;have:=run_storeCells_at P b k el zv.cells.toList 0 arr w N (by grind) H.oneCell;simp only [Nat.add_zero] at this;simp only [storeVar,Sem.run_bind,sizeP_run hn w,Result.andThen_ok];rw [if_neg (by grind)];simpa using this
  split at e
  ·rename_i i el k;cases hp with
   |ptr hcb=>
    rename_i b f hi m;split at e
    ·rename_i J N;split at e
     ·rename_i h0;have h0:el=0:=by simpa using h0
      subst h0;obtain ⟨M,hs,rfl⟩:=qac.1 e;obtain ⟨h1,h2,arr,Q,u,O⟩:=h.inv.box i _ _ N hcb;subst h1;obtain ⟨pd,U⟩:=O.splice H hs;have l:k+zv.cells.toList.length<=arr.size:=by simpa using U
      have A:(arr.toList.take k++zv.cells.toList++arr.toList.drop (k+zv.cells.toList.length)).toArray.size=arr.size:=by simp;simp at l;omega
      have pe:M.length=J.length:=by have h3:=pd.len;have h4:=O.len;simp at h3 h4 l;omega
      refine ⟨b,k,_,by simp,run b k arr Q u l,?_⟩;refine h.setBox N rfl hcb (FrameOk.setRow u A fun q hq=>?_) ⟨rfl,by omega,_,Q,setRow_heap w b arr _ Q _ u,by grind⟩ (by simp [Bx.isLoop]);have pn:¬q<arr.size:=by intro W;have h4:=O.len;simp at h4;exact hq ⟨rfl,by omega,by omega⟩
      grind
     grind
    ·rename_i pr es N;split at e
     ·grind
     rename_i J he;split at e
     ·rename_i pc;obtain ⟨M,hs,rfl⟩:=qac.1 e;obtain ⟨h1,h2,h3,arr,Q,u,hl,O⟩:=h.inv.box i _ _ N hcb;subst h1;have Z:=crep_noRef H pc;have pa:=(qak.1 he).1;have hm:el*m+m<=es.length*m:=by have:=qaJ m (show el+1<=es.length from pa);rw [Nat.add_mul,Nat.one_mul] at this;exact this
      have pj:=h3 J (qap he);have Y:k+z.cells.length<=J.length/\M=J.take k++z.cells++J.drop (k+z.cells.length):=by
       unfold splice at hs;split at hs
       ·grind
       ·grind
      obtain ⟨pl,rfl⟩:=Y;have pp:zv.cells.toList.length=z.cells.length:=H.len;have l:f+el*m+k+zv.cells.toList.length<=arr.size:=by omega
      have A:(arr.toList.take (f+el*m+k)++zv.cells.toList++arr.toList.drop (f+el*m+k+zv.cells.toList.length)).toArray.size=arr.size:=by simp;simp at l;omega
      refine ⟨b,_,_,rfl,run b (f+el*m+k) arr Q u l,?_⟩;have F:∀q,(arr.toList.take (f+el*m+k)++zv.cells.toList++arr.toList.drop (f+el*m+k+zv.cells.toList.length)).toArray[q]?=
        if q<f+el*m+k then arr[q]? else if q<f+el*m+k+z.cells.length then zv.cells[q-(f+el*m+k)]? else arr[q]?:=by
       intro q;have hA:(arr.toList.take (f+el*m+k)).length=f+el*m+k:=by simp;omega
       simp only [List.getElem?_toArray];by_cases S:q<f+el*m+k;·simp_all[qar]
       rw [if_neg S,qaL,qaz (by omega),hA];by_cases h6:q<f+el*m+k+z.cells.length;·rw [if_pos h6,qar (by omega),toArray_getElem?]
       rw [if_neg h6,qaz (by omega),qaw,toArray_getElem?]
       congr 1;omega
      refine h.setBox N rfl hcb (FrameOk.setRow u A fun q hq=>?_) ⟨rfl,by grind,?_,_,Q,setRow_heap w b arr _ Q _ u,by omega,?_⟩ (by simp [Bx.isLoop])
      ·rw [F q];have pf:¬(f<=q/\q<hi):=fun hh=>hq ⟨rfl,hh.1,hh.2⟩;by_cases S:q<f+el*m+k
       ·grind
       rw [if_neg S,if_neg (by omega)]
      ·intro e0 y;obtain ⟨q,hq,rfl⟩:=List.mem_iff_getElem.1 y;rw [List.getElem_set];split;·simp;omega
       grind
      intro i' j z' ez;obtain ⟨e0,y,E⟩:=at2_some.1 ez;rw [List.getElem?_set] at y;split at y
      ·rename_i V;subst V;cases y;have pb:=(qak.1 E).1;have pk:j<m:=by simp at pb;omega
       rw [F];by_cases S:j<k
       ·rw [qaL,qar (by simp;omega),qax,if_pos S] at E;obtain ⟨L,v,hv,B⟩:=O el j z' (at2_some.2 ⟨J,he,E⟩)
        grind
       have hT:(J.take k).length=k:=by simp;omega
       rw [qaL,qaz (by omega),hT] at E;rw [if_neg (by omega)];by_cases h6:j-k<z.cells.length;·rw [qar h6] at E;obtain ⟨v,hv,B⟩:=Z.get E;refine ⟨Z.cell z' (qap E),v,?_,B⟩;rw [if_pos (by omega),<-toArray_getElem?,<-hv];congr 1;omega
       rw [qaz (by omega),qaw] at E;have:k+z.cells.length+(j-k-z.cells.length)=j:=by omega
       rw [this] at E;obtain ⟨L,v,hv,B⟩:=O el j z' (at2_some.2 ⟨J,he,E⟩);exact ⟨L,v,by rw [if_neg (by omega)];grind,B⟩
      rename_i V;obtain ⟨L,v,hv,B⟩:=O i' j z' (at2_some.2 ⟨e0,y,E⟩);refine ⟨L,v,?_,B⟩;obtain ⟨pg,ph,pi⟩:=at2_lt h3 (at2_some.2 ⟨e0,y,E⟩);rw [F];by_cases W:i'<el;·have:=qaJ m (show i'+1<=el from W);rw [Nat.add_mul,Nat.one_mul] at this;rw [if_pos (by omega)];grind
      have:=qaJ m (show el+1<=i' by omega);rw [Nat.add_mul,Nat.one_mul] at this;rw [if_neg (by omega),if_neg (by omega)];grind
     grind
    grind
  grind
 grind
theorem op_store {t t1 t2:TypeId}(h:Rel P R x K C σ a w)(ho:o.op=.store t p z)(hn:sizeP P t=some n)(hp:trOpd P R.gl t1 p=some p')(hz:trOpd P R.gl t2 z=some z')
  (ep:σ.ev p'=some yp) (ez:σ.ev z'=some yz) (e:storeX σ.bx n yp yz=some bx):OpOk P R x σ a w o undefX bx:=by
 obtain ⟨b,k,l,m,j,f⟩:=store_rep h hn (ev_rep h.inv.glob h.tm hp ep) (ev_rep h.inv.glob h.tm hz ez) e;refine ⟨K,C,.skip,undef,l,?_,.inr ⟨rfl,rfl⟩,f,.v rfl⟩<;>simp_all[execOp,Instr.storeAt,Instr.sureAddr]
theorem rep_len (h:Rep K C y v)(e:(match y with|.sl _ _ es=>some es.length|.bs _ _ n=>some n|_=>none)=some n):
  ∃ob cap,v=.slice ob n cap:=by
 cases h<;>simp_all
theorem run_builtin_len {args:Array Operand}{tys:Array TypeId}{t:TypeId}{d:TypeDesc}(ho:o.op=.call ⟨.builtin .len,args,tys⟩)(ha:args.toList=[p])(ht:tys[0]?=some t)(hu:P.underlying t=some d)
  (hv:a.eval p=v) (hl:(∃e ob cap,d=.slice e/\v=.slice ob n cap)\/(∃s:qaX,d=.string/\v=.string s/\s.size=n)):
  (execOp a.eval o).run P w=.ok (.value (.int .i64 (n:Int))) w:=by
 have f:args=#[p]:=by rw [<-Array.toArray_toList (xs:=args),ha]
 subst f;rcases hl with ⟨e,ob,cap,rfl,rfl⟩|⟨s,rfl,rfl,rfl⟩;·simp [execOp,ho,resolve,invoke,builtin,Builtin.len_,ht,run_underlying hu,hv,goInt]
 simp [execOp,ho,resolve,invoke,builtin,Builtin.len_,ht,run_underlying hu,hv,goInt]
theorem op_conv {k:IntKind}{s d t1:TypeId}{k' ks:IntKind}{n:Int}(h:Rel P R x K C σ a w)(ho:o.op=.convert s d z)(hs:P.underlying s=some (.int ks))(hd:P.underlying d=some (.int k))(hz:trOpd P R.gl t1 z=some z')
  (ez:σ.ev z'=some (.v (.int k' n))):OpOk P R x σ a w o (.v (.int k (k.wrap n))) σ.bx:=by
 have f:=rep_v (ev_rep h.inv.glob h.tm hz ez);exact .still h (v:=.int k (k.wrap n)) (by simp [execOp,ho,convert,run_underlying hs,run_underlying hd,f,Conv.intToInt]) (.v rfl)
theorem op_idc {s d t1:TypeId}(h:Rel P R x K C σ a w)(ho:o.op=.convert s d z)(hs:P.underlying s=some .string)(hd:P.underlying d=some .string)(hz:trOpd P R.gl t1 z=some z')
  (ez:σ.ev z'=some (.v (.string b))):OpOk P R x σ a w o (.v (.string b)) σ.bx:=by
 have f:=rep_v (ev_rep h.inv.glob h.tm hz ez);exact .still h (v:=.string b) (by simp [execOp,ho,convert,run_underlying hs,run_underlying hd,f]) (.v rfl)
theorem frame_bytes (w:World)(e:TypeId)(s:qaX):FrameOk nowhere w (Lib.bytesWorld w e s):=
 ⟨by grind[Lib.bytesWorld,World.freeze,World.alloc,World.drew_eq],by grind[Lib.bytesWorld,World.freeze,World.alloc,World.drew_eq],by grind[Lib.bytesWorld,World.freeze,World.alloc,World.drew_eq],
  by grind[Lib.bytesWorld_size],fun b a=>.inr (.inl (Lib.bytesWorld_at_old w e s b a).symm)⟩
theorem Rel.learnB (h:Rel P R x K C σ a w)(e:TypeId)(s:qaX):Rel P R x (K.add w.heap.size (Lib.bytesCells w e s)) C σ a (Lib.bytesWorld w e s):=by
 have m:=h.still (frame_bytes w e s);have l:=h.inv.still (frame_bytes w e s);exact {m with
  inv:=l.know (Kn.add_le h.inv _) (fun b o v ev=>by
   unfold Kn.add at ev;split at ev
   ·grind[World.cell?,Lib.bytesWorld_at_new]
   ·have:=h.inv.known b o v ev;rw [Lib.bytesWorld_old w e s _ (World.block_lt_of_cell? _ _ this)]<;>grind) (fun b o f=>by
   have:=h.inv.owns_lt f;simp [Kn.add,Nat.ne_of_lt this,h.inv.apart b o f])
  tm:=h.tm.mono (Kn.add_le h.inv _) (CLe.refl _)
  k0:=h.k0.trans (Kn.add_le h.inv _)
  knew:=fun b o v ev=>by
   unfold Kn.add at ev;split at ev;next j=>subst j;exact .inr (.inr h.frame.size)
   exact h.knew b o v ev}
theorem op_s2b {s d e t1:TypeId}(h:Rel P R x K C σ a w)(ho:o.op=.convert s d z)(hs:P.underlying s=some .string)(hd:P.underlying d=some (.slice e))(hu8:isU8 P e=true)(hz:trOpd P R.gl t1 z=some z')
  (ez:σ.ev z'=some (.v (.string b))):OpOk P R x σ a w o (.sl false 1 (byteRow b)) σ.bx:=by
 have B:=rep_v (ev_rep h.inv.glob h.tm hz ez);have q:P.underlying e=some (.int .u8):=by
  unfold isU8 at hu8;split at hu8
  ·grind
  ·grind
 have n:(byteRow b).length=b.size:=by unfold byteRow;rw [qaB,Array.length_toList];rfl
 have f:∀(i j:Nat) (y:X),at2 (byteRow b) i j=some y->j=0/\∃u,b.data[i]?=some u/\y=.v (.int .u8 u.toNat):=by
  intro i j y l;simp only [at2,byteRow,qaA,Array.getElem?_toList] at l;cases m:b.data[i]? with
  |none=>grind
  |some u=>grind
 refine ⟨_,C,_,.slice (some ⟨w.heap.size,0,none⟩) b.size (grownCap w b.size 0 e),Lib.bytesWorld w e b,?_,.inl rfl,h.learnB e b,?_⟩;·simp_all[execOp,Lib.run_convert_string_bytes]
 rw [<-n];refine .sl (fun i _=>.int .u8 (((b.data[i]?).getD 0).toNat)) (by simp [byteRow]) (by simp) (by grind[grownCap_ge]) (fun i j y l=>by obtain ⟨_,u,_,rfl⟩:=f i j y l;rfl) (fun i j y l=>?_) (fun i j y l=>?_);·obtain ⟨rfl,u,m,rfl⟩:=f i j y l;have A:i<b.data.size:=(qaS.1 m).1;simp_all[Kn.add,Lib.bytesCells,Array.getElem?_append_left]
 obtain ⟨rfl,u,m,rfl⟩:=f i j y l;rw [m];exact .v rfl
theorem op_mkfn {f:FuncId}{first caps:Array Operand}{ts:List TypeId}{qs:List Opd}{ys:List X}(h:Rel P R x K C σ a w)(ho:o.op=.makeFunc (.func f) first caps)(hf:first.isEmpty=true)(hq:trOpds P R.gl ts caps.toList=some qs)
  (he:evs σ qs=some ys):OpOk P R x σ a w o (.fn f ys) σ.bx:=by
 obtain ⟨n,q⟩:=evs_rep h.inv.glob h.tm hq he;have l:first=#[]:=by simpa using hf
 refine .still h (v:=.func (.func f) #[] (caps.map a.eval)) (by simp [execOp,ho,Instr.makeFunc,l]) (.fn (by simp [n]) fun j z v m ev=>q j z v m ?_)<;>grind
theorem op_mksl {t e t1 t2:TypeId}{l c:Operand}{l' c':Opd}{z:List X}{bytes:Nat}{yl yc:X}(h:Rel P R x K C σ a w)(ho:o.op=.makeSlice t l c)(hu:P.underlying t=some (.slice e))(hz:zeroP P e=some z)(hb:bytesP P e=some bytes)
  (hl:trOpd P R.gl t1 l=some l') (hc:trOpd P R.gl t2 c=some c') (el:σ.ev l'=some yl) (ec:σ.ev c'=some yc) (nl:natX yl=some n) (nc:natX yc=some m) (hnm:n<=m) (hroom:roomOk m bytes=true):
  OpOk P R x σ a w o (.bs σ.bx.length 0 n) (σ.bx++[.row z.length (List.replicate n z)]):=by
 have Q:=natX_rep (ev_rep h.inv.glob h.tm hl el) nl;have S:=natX_rep (ev_rep h.inv.glob h.tm hc ec) nc;obtain ⟨j,f,H,E,F⟩:=zeroP_run hz w;simp only [roomOk,qab,qaI] at hroom;unfold bytesP at hb;obtain ⟨i,u,rfl⟩:=qac.1 hb;have y:i.zero=some j:=by
  simp only [zeroValue,typeInfo,Sem.run_bind,run_program,Result.andThen_ok,u] at f;simp only [Sem.run_pure,Result.andThen_ok] at f;split at f;·simp_all
  simp_all
 have L:i.size=z.length:=by simpa [sizeP,u] using E
 have N:j.cells.size=z.length:=by have:=(H K C).len;simpa using this
 have B:(i.bytes:Int)*(m:Int)<=281474976710656:=by
  have:i.bytes*m<=281474976710656:=by rw [Nat.mul_comm];omega
  have J:((i.bytes:Int)*(m:Int))=((i.bytes*m:Nat):Int):=(Int.natCast_mul _ _).symm;rw [J];omega
 have A:=run_make (P:=P) w t e i j hu u y .i64 .i64 (n:Int) (m:Int) (by omega) (by omega) B (by omega);have q:(C++[CB.at w.heap.size 0 (m*z.length) z.length])[σ.bx.length]?=some (.at w.heap.size 0 (m*z.length) z.length):=by rw [<-h.inv.size];simp
 refine ⟨K,C++[.at w.heap.size 0 (m*z.length) z.length],_,.slice (some ⟨w.heap.size,0,none⟩) n m,w.alloc (.cells (madeCells j.cells (m*z.length)) e),?_,.inl rfl,?_,?_⟩;·simp_all[execOp]
 ·refine h.push _ ((Flat.made (H K []) rfl hnm).box (alloc_get w _) (fun k v O=>?_) ?_ (by simp [size_madeCells])) (fun b k M=>M.1)<;>simp_all[qax,qaJ]
 have:=Rep.bs (K:=K) (off:=0) (len:=n) (cap:=m) q (by simp) hnm<;>grind
theorem op_field {t t1 ft:TypeId}{fs:Array Field}{f:Nat}{fd:Field}{n:Option Nat}(h:Rel P R x K C σ a w)(ho:o.op=.field t z f)(hu:P.underlying t=some (.struct fs))(hf:fs[f]?=some fd)(hft:ft=fd.type)
  (hn:aggP P ft=some n) (hz:trOpd P R.gl t1 z=some z') (ez:σ.ev z'=some (.agg cs))
  (e:(match n with|none=>cs[fd.offset]?|some n=>if ((cs.drop fd.offset).take n).length==n then some (.agg ((cs.drop fd.offset).take n)) else none)=some y):OpOk P R x σ a w o y σ.bx:=by
 subst hft;have E:=ev_rep h.inv.glob h.tm hz ez;generalize F:a.eval z=v at E;cases E with
 |agg hs hcell hrr=>
  rename_i q;have l:CRep K C cs q.toList:=⟨by grind,hcell,fun j y v e L=>hrr j y v e (by grind)⟩;cases n with
  |none=>obtain ⟨v,m,u⟩:=l.get e;rw [toArray_getElem?] at m;refine .still h (v:=v) ?_ u;simp [execOp,ho,Instr.field,run_underlying hu,hf,F,asAgg,part,(aggP_run hn w).1,m]
  |some n=>
   simp only at e;split at e
   ·rename_i B;cases e;have B:((cs.drop fd.offset).take n).length=n:=by simpa using B
    have A:=(l.drop fd.offset).take n;refine .still h (v:=.agg (q.extract fd.offset (fd.offset+n))) ?_ ?_;·simp [execOp,ho,Instr.field,run_underlying hu,hf,F,asAgg,part,(aggP_run hn w).1,(aggP_run hn w).2 n rfl]
    have H:(q.extract fd.offset (fd.offset+n)).toList=(q.toList.drop fd.offset).take n:=by simp [List.extract_eq_take_drop]
    refine .agg ?_ A.cell (fun j y v J ev=>A.rep j y v J (by rw [<-H,toArray_getElem?];exact ev))<;>grind
   grind
theorem op_extract {t1:TypeId}{i:Nat}(h:Rel P R x K C σ a w)(ho:o.op=.extract z i)(hz:trOpd P R.gl t1 z=some z')(ez:σ.ev z'=some (.tup xs))(e:xs[i]?=some y):OpOk P R x σ a w o y σ.bx:=by
 have j:=ev_rep h.inv.glob h.tm hz ez;generalize m:a.eval z=v at j;cases j with
 |tup hs hrr=>
  rename_i l;have f:i<l.size:=by rw [hs];exact (qak.1 e).1
  refine .still h (v:=l[i]) ?_ (hrr i y _ e (qaC f));simp [execOp,ho,Instr.extract,m,f]
theorem op_nilck {t1:TypeId}(h:Rel P R x K C σ a w)(ho:o.op=.nilCheck z)(hz:trOpd P R.gl t1 z=some z')(ez:σ.ev z'=some y)(hk:(match y with|.ptr _ _ _|.dp _|.fn _ _|.yl _=>true|_=>false)=true):OpOk P R x σ a w o y σ.bx:=by have f:=ev_rep h.inv.glob h.tm hz ez;refine .still h (v:=a.eval z) ?_ f;generalize j:a.eval z=v at f;cases f<;>simp at hk<;>simp [execOp,ho,j]
theorem op_sidx {t t1 t2:TypeId}{s:qaX}{b:UInt8}(h:Rel P R x K C σ a w)(ho:o.op=.index t z i)(hu:P.underlying t=some .string)(hz:trOpd P R.gl t1 z=some z')(hi:trOpd P R.gl t2 i=some i')
  (ez:σ.ev z'=some (.v (.string s))) (ei:σ.ev i'=some yi) (hn:idxX yi=some n) (hb:s[n]?=some b):OpOk P R x σ a w o (.v (.int .u8 b.toNat)) σ.bx:=by
 have f:=rep_v (ev_rep h.inv.glob h.tm hz ez);obtain ⟨l,j⟩:=idxX_rep (ev_rep h.inv.glob h.tm hi ei) hn;refine .still h (v:=.int .u8 b.toNat) ?_ (.v rfl);simp [execOp,ho,Instr.index,f,j,asIntOf,run_underlying hu,hb]
theorem op_iaddr_sl {t t1 t2 e:TypeId}{tt:Bool}{e0:List X}(h:Rel P R x K C σ a w)(ho:o.op=.indexAddr t z i)(hu:P.underlying t=some (.slice e))(hs:sizeP P e=some sz)
  (hz:trOpd P R.gl t1 z=some z') (hi:trOpd P R.gl t2 i=some i') (ez:σ.ev z'=some (.sl tt sz es)) (ei:σ.ev i'=some yi) (hn:idxX yi=some n) (he:es[n]?=some e0):OpOk P R x σ a w o (.dp e0) σ.bx:=by
 have y:=ev_rep h.inv.glob h.tm hz ez;obtain ⟨L,J⟩:=idxX_rep (ev_rep h.inv.glob h.tm hi ei) hn;have u:=(qak.1 he).1;generalize B:a.eval z=v at y;have A:=y;cases y with
 |slNil=>grind
 |sl vals hlen ht hcap hcell hk hrr=>
  rename_i b k E;obtain ⟨l,f,F⟩:=A.flat;refine .still h (v:=.pointer (some ⟨b,k+n*sz,none⟩)) ?_ ?_;·have q:n<es.length:=u;simp [execOp,ho,Instr.indexAt,J,asIntOf,run_underlying hu,B,q,sizeP_run hs w,addr_add]
  refine .dp (fun j=>l.getD (n*sz+j) undef) (fun j z m=>(f.get n j z (at2_some.2 ⟨e0,he,m⟩)).1) (fun j z m=>?_) (fun j z m=>?_);·obtain ⟨_,v,B,_⟩:=f.get n j z (at2_some.2 ⟨e0,he,m⟩)<;>grind
  obtain ⟨_,v,B,H⟩:=f.get n j z (at2_some.2 ⟨e0,he,m⟩)<;>grind
theorem op_iaddr_bs {t t1 t2 e:TypeId}{ib off len:Nat}(h:Rel P R x K C σ a w)(ho:o.op=.indexAddr t z i)(hu:P.underlying t=some (.slice e))(hs:sizeP P e=some sz)
  (hz:trOpd P R.gl t1 z=some z') (hi:trOpd P R.gl t2 i=some i') (ez:σ.ev z'=some (.bs ib off len)) (ei:σ.ev i'=some yi) (hn:idxX yi=some n) (hb:σ.bx[ib]?=some (.row sz es)) (hlt:n<len):OpOk P R x σ a w o (.ptr ib (off+n) 0) σ.bx:=by
 have l:=ev_rep h.inv.glob h.tm hz ez;obtain ⟨B,A⟩:=idxX_rep (ev_rep h.inv.glob h.tm hi ei) hn;generalize y:a.eval z=v at l;cases l with
 |bs hc hcap hlen=>
  rename_i b f u j m;obtain ⟨q,_⟩:=h.inv.box ib _ _ hb hc;subst q;refine .still h (v:=.pointer (some ⟨b,f+off*j+n*j,none⟩)) ?_ ?_;·simp [execOp,ho,Instr.indexAt,A,asIntOf,run_underlying hu,y,hlt,sizeP_run hs w,addr_add]
  have:=Rep.ptr (K:=K) (e:=off+n) (o:=0) hc<;>simp_all[Nat.add_mul,Nat.add_assoc]
 |bsNil hc=>omega
theorem op_iaddr_arr {t t1 t2 e:TypeId}(h:Rel P R x K C σ a w)(ho:o.op=.indexAddr t z i)(hu:P.underlying t=some (.array m e))(hs:sizeP P e=some sz)
  (hz:trOpd P R.gl t1 z=some z') (hi:trOpd P R.gl t2 i=some i') (ez:σ.ev z'=some yz) (ei:σ.ev i'=some yi) (hn:idxX yi=some n) (hlt:n<m)
  (e':(match yz with|.ptr i e o=>some (X.ptr i e (o+n*sz))|.dp cs=>some (.dp (cs.drop (n*sz)))|_=>none)=some y):OpOk P R x σ a w o y σ.bx:=by
 have l:=ev_rep h.inv.glob h.tm hz ez;obtain ⟨B,A⟩:=idxX_rep (ev_rep h.inv.glob h.tm hi ei) hn;generalize u:a.eval z=v at l;have f:∀b k,v=.pointer (some ⟨b,k,none⟩)->(execOp a.eval o).run P w=.ok (.value (.pointer (some ⟨b,k+n*sz,none⟩))) w:=by intro b k q;subst q;simp [execOp,ho,Instr.indexAt,A,asIntOf,run_underlying hu,u,hlt,sizeP_run hs w,addr_add,Instr.sureAddr]
 split at e'
 ·simp only [qah] at e';subst e';cases l with
  |ptr hc=>exact .still h (f _ _ rfl) (by rw [Nat.add_assoc];exact .ptr hc)
 ·simp only [qah] at e';subst e';cases l with
  |dp vals hcell hk hrr=>rename_i cs b k;refine .still h (f _ _ rfl) (.dp (fun j=>vals (n*sz+j)) (fun j z e=>hcell _ z (by simpa using e)) (fun j z e=>?_) (fun j z e=>hrr _ z (by simpa using e)))<;>simp_all[Nat.add_assoc]
 grind
theorem op_aidx {t t1 t2 e:TypeId}{r:Option Nat}(h:Rel P R x K C σ a w)(ho:o.op=.index t z i)(hu:P.underlying t=some (.array m e))(hs:sizeP P e=some sz)(hg:aggP P e=some r)
  (hz:trOpd P R.gl t1 z=some z') (hi:trOpd P R.gl t2 i=some i') (ez:σ.ev z'=some (.agg cs)) (ei:σ.ev i'=some yi) (hn:idxX yi=some n) (hlt:n<m)
  (e':(match r with|none=>cs[n*sz]?|some k=>if ((cs.drop (n*sz)).take k).length==k then some (.agg ((cs.drop (n*sz)).take k)) else none)=some y):OpOk P R x σ a w o y σ.bx:=by
 have E:=ev_rep h.inv.glob h.tm hz ez;obtain ⟨O,H⟩:=idxX_rep (ev_rep h.inv.glob h.tm hi ei) hn;generalize F:a.eval z=v at E;cases E with
 |agg hsz hcell hrr=>
  rename_i q;have f:CRep K C cs q.toList:=⟨by grind,hcell,fun j y v e e'=>hrr j y v e (by grind)⟩;cases r with
  |none=>obtain ⟨v,l,A⟩:=f.get e';rw [toArray_getElem?] at l;refine .still h (v:=v) ?_ A;simp [execOp,ho,Instr.index,H,asIntOf,run_underlying hu,F,hlt,sizeP_run hs w,part,(aggP_run hg w).1,l]
  |some k=>
   simp only at e';split at e'
   ·rename_i N;simp only [qah] at e';subst e';have B:=(f.drop (n*sz)).take k;have M:k=sz:=by have u:=(aggP_run hg w).2 k rfl;rw [sizeP_run hs w] at u;simp at u;exact u.symm
    subst M;refine .still h (v:=.agg (q.extract (n*k) (n*k+k))) ?_ ?_;·simp [execOp,ho,Instr.index,H,asIntOf,run_underlying hu,F,hlt,sizeP_run hs w,part,(aggP_run hg w).1]
    have J:(q.extract (n*k) (n*k+k)).toList=(q.toList.drop (n*k)).take k:=by simp [List.extract_eq_take_drop]
    refine .agg ?_ B.cell (fun j y v L ev=>B.rep j y v L (by rw [<-J,toArray_getElem?];exact ev))<;>grind
   grind
theorem op_snil {op:BinOp}{t t1 u:TypeId}{e:TypeId}{q:Operand}(h:Rel P R x K C σ a w)(ho:o.op=.binOp op t p q u)(hu:P.underlying t=some (.slice e))(hop:op=.eql\/op=.neq)(hq:q=.const (.slice none 0 0))(hp:trOpd P R.gl t1 p=some p')
  (ep:σ.ev p'=some yp) (hyp:(match yp with|.bs _ _ (_+1)=>true|.sl _ _ (_::_)=>true|_=>false)=true):OpOk P R x σ a w o (.v (.bool (decide (op=.neq)))) σ.bx:=by
 have j:=ev_rep h.inv.glob h.tm hp ep;subst hq;have B:∃b n c,a.eval p=.slice (some b) n c:=by generalize a.eval p=v at j;cases j<;>first|exact ⟨_,_,_,rfl⟩|grind
 obtain ⟨b,n,c,H⟩:=B;have y:∀d,(Op.equalIn (d+1) t (.slice (some b) n c) (.slice none 0 0)).run P w=.ok false w:=by intro d;simp [Op.equalIn,run_underlying hu]
 have f:(Op.equal t (.slice (some b) n c) (.slice none 0 0)).run P w=.ok false w:=y 9999;have F:(eqGuard op t p (.const (.slice none 0 0)) (.slice (some b) n c) (.slice none 0 0)).run P w=.ok () w:=by unfold eqGuard;split<;>rfl
 have l:binOp .eql t (.slice (some b) n c) (.slice none 0 0)=(do pure (.bool (<-Op.equal t (.slice (some b) n c) (.slice none 0 0))):Sem Value):=rfl;have m:binOp .neq t (.slice (some b) n c) (.slice none 0 0)=(do pure (.bool (!(<-Op.equal t (.slice (some b) n c) (.slice none 0 0)))):Sem Value):=rfl;generalize Op.equal t (.slice (some b) n c) (.slice none 0 0)=s at f l m;refine .still h (v:=.bool (decide (op=.neq))) ?_ (.v rfl);have E:(binOp op t (.slice (some b) n c) (.slice none 0 0)).run P w=.ok (.bool (decide (op=.neq))) w:=by
  rcases hop with rfl|rfl;·simp_all
  simp_all
 have A:a.eval (.const (.slice none 0 0))=.slice none 0 0:=rfl<;>simp_all[execOp]
end
end Go.Em
