/- The abstract machine: what its values mean in a world. -/
import Derived.Laws.Cells
import Derived.Laws.CopyRow
import Derived.Laws.Entries
import Derived.Laws.Append
import Derived.Laws.MakeOwn
import Derived.Lib.ConvBytes
import Derived.Test.YtjbndifenhihhaaGreatDoorEmP0
namespace Go.Em
abbrev Kn:=Nat→Nat→Option Value
inductive CB where
 |at (b base hi sz:Nat)
 |ghost
 |obj (b:Nat)
def CB.owns:CB→Nat→Nat→Prop
 |.at b base hi _,b',o=>b'=b∧base≤o∧o<hi
 |.obj b,b',_=>b'=b
 |.ghost,_,_=>False
def okV:Value→Bool
 |.bool _|.int _ _|.float _ _|.string _|.pointer none|.map none|.nilFunc|.nilIface=>true
 |.tuple vs=>vs.isEmpty
 |_=>false
def at2 (es:List (List X))(i j:Nat):Option X:=(es[i]?).bind (·[j]?)
inductive Rep (K:Kn):List CB→X→Value→Prop
 |v {C:List CB} {x:Value} (h:okV x=true):Rep K C (.v x) x
 |fE {C:List CB} {t:Bool} {sz:Nat} {ob:Option Addr}:Rep K C (.sl t sz []) (.slice ob 0 0)
 |sl {C:List CB} {t:Bool} {es:List (List X)} {b o sz cap:Nat} (vals:Nat→Nat→Value) (hlen:∀(e:List X),e∈es→e.length=sz)
   (zbp:t=true→cap=es.length) (hcap:es.length≤cap)
   (hcell:∀(i j:Nat) (x:X),at2 es i j=some x→x.dO=true)
   (hk:∀(i j:Nat) (x:X),at2 es i j=some x→K b (o+i*sz+j)=some (vals i j))
   (hr:∀(i j:Nat) (x:X),at2 es i j=some x→Rep K [] x (vals i j)):Rep K C (.sl t sz es) (.slice (some ⟨b,o,none⟩) es.length cap)
 |bs {C:List CB} {i off len b base hi sz cap:Nat} (hc:C[i]?=some (.at b base hi sz)) (hcap:base+(off+cap)*sz≤hi) (hlen:len≤cap):
   Rep K C (.bs i off len) (.slice (some ⟨b,base+off*sz,none⟩) len cap)
 |kT {C:List CB} {i:Nat} {ob:Option Addr} (hc:C[i]?=some .ghost):Rep K C (.bs i 0 0) (.slice ob 0 0)
 |ptr {C:List CB} {i e o b base hi sz:Nat} (hc:C[i]?=some (.at b base hi sz)):Rep K C (.ptr i e o) (.pointer (some ⟨b,base+e*sz+o,none⟩))
 |dp {C:List CB} {cs:List X} {b o:Nat} (vals:Nat→Value) (hcell:∀(j:Nat) (x:X),cs[j]?=some x→x.dO=true)
   (hk:∀(j:Nat) (x:X),cs[j]?=some x→K b (o+j)=some (vals j)) (hr:∀(j:Nat) (x:X),cs[j]?=some x→Rep K [] x (vals j)):
   Rep K C (.dp cs) (.pointer (some ⟨b,o,none⟩))
 |fn {C:List CB} {f:FuncId} {caps:List X} {vs:Array Value} (hs:vs.size=caps.length)
   (hr:∀(j:Nat) (x:X) (v:Value),caps[j]?=some x→vs[j]?=some v→Rep K C x v):Rep K C (.fn f caps) (.func (.func f) #[] vs)
 |agg {C:List CB} {cs:List X} {vs:Array Value} (hs:vs.size=cs.length) (hcell:∀(x:X),x∈cs→x.dO=true)
   (hr:∀(j:Nat) (x:X) (v:Value),cs[j]?=some x→vs[j]?=some v→Rep K C x v):Rep K C (.agg cs) (.agg vs)
 |tup {C:List CB} {xs:List X} {vs:Array Value} (hs:vs.size=xs.length)
   (hr:∀(j:Nat) (x:X) (v:Value),xs[j]?=some x→vs[j]?=some v→Rep K C x v):Rep K C (.tup xs) (.tuple vs)
 |yl {C:List CB} {i b:Nat} (hc:C[i]?=some (.obj b)):Rep K C (.yl i) (.func (.yield b) #[] #[])
 |mp {C:List CB} {i b:Nat} (hc:C[i]?=some (.obj b)):Rep K C (.mp i) (.map (some b))
 |ifc {C:List CB} {t:TypeId} {v:Value}:Rep K C .ifc (.iface t v)
def KLe (K K':Kn):Prop:=∀(b o:Nat) (v:Value),K b o=some v→K' b o=some v
theorem KLe.refl (K:Kn):KLe K K:=fun _ _ _ h=>h
theorem KLe.trans {K K' K'':Kn}(h:KLe K K')(h':KLe K' K''):KLe K K'':=fun b o v e=>h' b o v (h b o v e)
def CLe (C C':List CB):Prop:=∀(i:Nat) (c:CB),C[i]?=some c→C'[i]?=some c
theorem CLe.refl (C:List CB):CLe C C:=fun _ _ h=>h
theorem CLe.nil (C:List CB):CLe [] C:=fun _ _ h=>by simp at h
theorem CLe.append (C E:List CB):CLe C (C++E):=fun i c h=>by
 rw [List.getElem?_append_left (List.getElem?_eq_some_iff.1 h).1];exact h
theorem CLe.trans {C C' C'':List CB}(h:CLe C C')(h':CLe C' C''):CLe C C'':=fun i c e=>h' i c (h i c e)
theorem Rep.mono {K K':Kn}(hK:KLe K K'){C:List CB}{x:X}{v:Value}(h:Rep K C x v):∀{C':List CB},CLe C C'→Rep K' C' x v:=by
 induction h with
 |v h=>exact fun _=>.v h
 |fE=>exact fun _=>.fE
 |sl vals hlen ht hcap hcell hk _ ih=>exact fun _=>.sl vals hlen ht hcap hcell (fun i j x e=>hK _ _ _ (hk i j x e)) (fun i j x e=>ih i j x e (CLe.refl _))
 |bs hc hcap hlen=>exact fun hC=>.bs (hC _ _ hc) hcap hlen
 |kT hc=>exact fun hC=>.kT (hC _ _ hc)
 |ptr hc=>exact fun hC=>.ptr (hC _ _ hc)
 |dp vals hcell hk _ ih=>exact fun _=>.dp vals hcell (fun j x e=>hK _ _ _ (hk j x e)) (fun j x e=>ih j x e (CLe.refl _))
 |fn hs _ ih=>exact fun hC=>.fn hs (fun j x v e e'=>ih j x v e e' hC)
 |agg hs hcell _ ih=>exact fun hC=>.agg hs hcell (fun j x v e e'=>ih j x v e e' hC)
 |tup hs _ ih=>exact fun hC=>.tup hs (fun j x v e e'=>ih j x v e e' hC)
 |yl hc=>exact fun hC=>.yl (hC _ _ hc)
 |mp hc=>exact fun hC=>.mp (hC _ _ hc)
 |ifc=>exact fun _=>.ifc
structure dS (K:Kn) (C:List CB) (xs:List X) (vs:List Value):Prop where
 len:vs.length=xs.length
 cell:∀(x:X),x∈xs→x.dO=true
 rep:∀(j:Nat) (x:X) (v:Value),xs[j]?=some x→vs[j]?=some v→Rep K C x v
theorem dS.mono {K K':Kn}{C C':List CB}{xs:List X}{vs:List Value}(h:dS K C xs vs)(hK:KLe K K')(hC:CLe C C'):dS K' C' xs vs:=
 ⟨h.len,h.cell,fun j x v e e'=>(h.rep j x v e e').mono hK hC⟩
theorem dS.nil {K:Kn}{C:List CB}:dS K C [] []:=⟨rfl,by simp,by simp⟩
theorem dS.cons {K:Kn}{C:List CB}{x:X}{v:Value}{xs:List X}{vs:List Value}(hc:x.dO=true)(h:Rep K C x v)(t:dS K C xs vs):
  dS K C (x::xs) (v::vs):=
 ⟨by simp [t.len],by (simp only [List.mem_cons];intro y hy;rcases hy with rfl|hy;exact hc;exact t.cell y hy),
  fun j y u e e'=>by cases j with
  |zero=>simp at e e';subst e;subst e';exact h
  |succ j=>simp at e e';exact t.rep j y u e e'⟩
theorem dS.append {K:Kn}{C:List CB}{xs ys:List X}{vs us:List Value}(h:dS K C xs vs)(t:dS K C ys us):dS K C (xs++ys) (vs++us):=by
 refine ⟨by simp [h.len,t.len],?_,?_⟩
 ·intro x hx;rcases List.mem_append.1 hx with hx|hx;exact h.cell x hx;exact t.cell x hx
 ·intro j x v e e'
  by_cases hj:j<xs.length
  ·rw [List.getElem?_append_left hj] at e
   rw [List.getElem?_append_left (by rw [h.len];exact hj)] at e'
   exact h.rep j x v e e'
  ·rw [List.getElem?_append_right (by omega)] at e
   rw [List.getElem?_append_right (by rw [h.len];omega),h.len] at e'
   exact t.rep _ x v e e'
theorem dS.take {K:Kn}{C:List CB}{xs:List X}{vs:List Value}(h:dS K C xs vs)(n:Nat):dS K C (xs.take n) (vs.take n):=by
 refine ⟨by simp [h.len],fun x hx=>h.cell x (List.mem_of_mem_take hx),fun j x v e e'=>?_⟩
 rw [List.getElem?_take] at e e'
 split at e
 ·rename_i hj;rw [if_pos hj] at e';exact h.rep j x v e e'
 ·simp at e
theorem dS.drop {K:Kn}{C:List CB}{xs:List X}{vs:List Value}(h:dS K C xs vs)(n:Nat):dS K C (xs.drop n) (vs.drop n):=by
 refine ⟨by simp [h.len],fun x hx=>h.cell x (List.mem_of_mem_drop hx),fun j x v e e'=>?_⟩
 rw [List.getElem?_drop] at e e'
 exact h.rep _ x v e e'
theorem dS.get {K:Kn}{C:List CB}{xs:List X}{vs:List Value}(h:dS K C xs vs){j:Nat}{x:X}(e:xs[j]?=some x):
  ∃v,vs[j]?=some v∧Rep K C x v:=by
 have hj:j<vs.length:=by rw [h.len];exact (List.getElem?_eq_some_iff.1 e).1
 exact ⟨vs[j],List.getElem?_eq_getElem hj,h.rep j x _ e (List.getElem?_eq_getElem hj)⟩
theorem dS.get' {K:Kn}{C:List CB}{xs:List X}{vs:List Value}(h:dS K C xs vs){j:Nat}{v:Value}(e:vs[j]?=some v):
  ∃x,xs[j]?=some x∧Rep K C x v:=by
 have hj:j<xs.length:=by rw [←h.len];exact (List.getElem?_eq_some_iff.1 e).1
 exact ⟨xs[j],List.getElem?_eq_getElem hj,h.rep j _ v (List.getElem?_eq_getElem hj) e⟩
theorem dS.splice {K:Kn}{C:List CB}{xs new xs':List X}{vs us:List Value}{o:Nat}(h:dS K C xs vs)(hn:dS K C new us)(e:splice xs o new=some xs'):
  dS K C xs' (vs.take o++us++vs.drop (o+us.length))∧o+us.length≤vs.length:=by
 unfold Em.splice at e
 split at e
 ·rename_i hle
  simp only [Option.some.injEq] at e
  subst e
  refine ⟨?_,by rw [hn.len,h.len];exact hle⟩
  rw [hn.len]
  exact ((h.take o).append hn).append (h.drop _)
 ·simp at e
theorem NW {v:Value}(h:okV v=true)(h1:X.ok1 (.v v)=true):v.oneCell'=true:=by
 cases v<;>simp_all [okV,X.ok1,Value.oneCell']
theorem QU {x:X}(h:x.dO=true):x.ok1=true:=by
 unfold X.dO at h;unfold X.ok1
 split<;>simp_all
theorem Rep.oneCell {K:Kn}{C:List CB}{x:X}{v:Value}(h:Rep K C x v)(hc:x.dO=true):v.oneCell'=true:=by
 cases h with
 |v h=>exact NW h (QU hc)
 |agg=>simp [X.dO] at hc
 |tup=>simp [X.dO] at hc
 |_=>rfl
theorem dS.oneCell {K:Kn}{C:List CB}{xs:List X}{vs:List Value}(h:dS K C xs vs):∀v,v∈vs→v.oneCell'=true:=by
 intro v hv
 obtain ⟨j,hj,rfl⟩:=List.mem_iff_getElem.1 hv
 obtain ⟨x,hx,hr⟩:=h.get' (List.getElem?_eq_getElem hj)
 exact hr.oneCell (h.cell x (List.mem_of_getElem? hx))
theorem Rep.cells {K:Kn}{C:List CB}{x:X}{v:Value}(h:Rep K C x v)(h1:x.ok1=true):dS K C x.cells v.cells.toList:=by
 cases h with
 |agg hs hcell hr=>exact ⟨by simpa [Value.cells,X.cells] using hs,hcell,fun j x v e e'=>hr j x v e (by simpa [Value.cells] using e')⟩
 |v h=>
  have hc:=NW h h1
  have e:v.cells.toList=[v]:=by cases v<;>simp_all [Value.cells,Value.oneCell']
  have e':(X.v v).dO=true:=by cases v<;>simp_all [X.dO,Value.oneCell']
  rw [e]
  exact dS.cons e' (.v h) dS.nil
 |tup=>simp [X.ok1] at h1
 |fE=>exact dS.cons rfl .fE dS.nil
 |sl vals hlen ht hcap hcell hk hr=>exact dS.cons rfl (.sl vals hlen ht hcap hcell hk hr) dS.nil
 |bs hc hcap hlen=>exact dS.cons rfl (.bs hc hcap hlen) dS.nil
 |kT hc=>exact dS.cons rfl (.kT hc) dS.nil
 |ptr hc=>exact dS.cons rfl (.ptr hc) dS.nil
 |dp vals hcell hk hr=>exact dS.cons rfl (.dp vals hcell hk hr) dS.nil
 |fn hs hr=>exact dS.cons rfl (.fn hs hr) dS.nil
 |yl hc=>exact dS.cons rfl (.yl hc) dS.nil
 |mp hc=>exact dS.cons rfl (.mp hc) dS.nil
 |ifc=>exact dS.cons rfl .ifc dS.nil
theorem lC {n:Nat}:∀{l:List Nat},ou n l=true↔n∈l
 |[]=>by simp [ou]
 |m::r=>by simp [ou,lC (l:=r)]
theorem rP {l s:List Nat}:JE l s=true↔∀i,i∈l→i∈s:=by simp [JE,lC]
theorem tZ {n:Nat}:∀{l:List Nat},n∈l→l[qE n l]?=some n
 |m::r,h=>by
  unfold qE
  by_cases e:n=m
  ·simp [e]
  ·have:(n==m)=false:=by simpa using e
   simp only [this]
   have hr:n∈r:=by rcases List.mem_cons.1 h with h|h;exact absurd h e;exact h
   simpa using tZ hr
theorem dK {i:Nat}:∀{cs:List X},i∈bM cs↔∃x,x∈cs∧i∈x.refs
 |[]=>by simp [bM]
 |x::r=>by simp [bM,dK (cs:=r)]
theorem iq (f:Nat→Nat):∀cs:List X,Jw f cs=cs.map (X.ren f)
 |[]=>rfl
 |x::r=>by simp [Jw,iq f r]
theorem Dh (f:Nat→Nat)(x:X):(x.ren f).dO=x.dO:=by
 cases x<;>simp [X.ren,X.dO]
theorem Rep.ren {K:Kn}{C C':List CB}{f:Nat→Nat}{x:X}{v:Value}(h:Rep K C x v)
  (hC:∀i,i∈x.refs→∀c,C[i]?=some c→C'[f i]?=some c):Rep K C' (x.ren f) v:=by
 induction h with
 |v h=>exact .v h
 |fE=>exact .fE
 |sl vals hlen ht hcap hcell hk hr=>exact .sl vals hlen ht hcap hcell hk hr
 |bs hc hcap hlen=>exact .bs (hC _ (by simp [X.refs]) _ hc) hcap hlen
 |kT hc=>exact .kT (hC _ (by simp [X.refs]) _ hc)
 |ptr hc=>exact .ptr (hC _ (by simp [X.refs]) _ hc)
 |dp vals hcell hk hr=>exact .dp vals hcell hk hr
 |fn hs _ ih=>
  refine .fn (by simpa [iq] using hs) (fun j y v e e'=>?_)
  rw [iq,List.getElem?_map] at e
  obtain ⟨y',hy,rfl⟩:=Option.map_eq_some_iff.1 e
  exact ih j y' v hy e' (fun i hi=>hC i (by rw [X.refs,dK];exact ⟨y',List.mem_of_getElem? hy,hi⟩))
 |agg hs hcell _ ih=>
  refine .agg (by simpa [iq] using hs) (fun y hy=>?_) (fun j y v e e'=>?_)
  ·rw [iq] at hy
   obtain ⟨z,hz,rfl⟩:=List.mem_map.1 hy
   rw [Dh];exact hcell z hz
  rw [iq,List.getElem?_map] at e
  obtain ⟨y',hy,rfl⟩:=Option.map_eq_some_iff.1 e
  exact ih j y' v hy e' (fun i hi=>hC i (by rw [X.refs,dK];exact ⟨y',List.mem_of_getElem? hy,hi⟩))
 |tup hs _ ih=>
  refine .tup (by simpa [iq] using hs) (fun j y v e e'=>?_)
  rw [iq,List.getElem?_map] at e
  obtain ⟨y',hy,rfl⟩:=Option.map_eq_some_iff.1 e
  exact ih j y' v hy e' (fun i hi=>hC i (by rw [X.refs,dK];exact ⟨y',List.mem_of_getElem? hy,hi⟩))
 |yl hc=>exact .yl (hC _ (by simp [X.refs]) _ hc)
 |mp hc=>exact .mp (hC _ (by simp [X.refs]) _ hc)
 |ifc=>exact .ifc
theorem Rep.mM {K:Kn}{C C':List CB}{x:X}{v:Value}(h:Rep K C x v)(hx:x.refs=[]):Rep K C' x v:=by
 induction h with
 |v h=>exact .v h
 |fE=>exact .fE
 |sl vals hlen ht hcap hcell hk hr=>exact .sl vals hlen ht hcap hcell hk hr
 |bs=>simp [X.refs] at hx
 |kT=>simp [X.refs] at hx
 |ptr=>simp [X.refs] at hx
 |dp vals hcell hk hr=>exact .dp vals hcell hk hr
 |fn hs _ ih=>
  refine .fn hs (fun j y v e e'=>ih j y v e e' ?_)
  have:∀i,i∉y.refs:=fun i hi=>by
   have:i∈bM _:=dK.2 ⟨y,List.mem_of_getElem? e,hi⟩
   simp only [X.refs] at hx;rw [hx] at this;simp at this
  exact List.eq_nil_iff_forall_not_mem.2 this
 |agg hs hcell _ ih=>
  refine .agg hs hcell (fun j y v e e'=>ih j y v e e' ?_)
  have:∀i,i∉y.refs:=fun i hi=>by
   have:i∈bM _:=dK.2 ⟨y,List.mem_of_getElem? e,hi⟩
   simp only [X.refs] at hx;rw [hx] at this;simp at this
  exact List.eq_nil_iff_forall_not_mem.2 this
 |tup hs _ ih=>
  refine .tup hs (fun j y v e e'=>ih j y v e e' ?_)
  have:∀i,i∉y.refs:=fun i hi=>by
   have:i∈bM _:=dK.2 ⟨y,List.mem_of_getElem? e,hi⟩
   simp only [X.refs] at hx;rw [hx] at this;simp at this
  exact List.eq_nil_iff_forall_not_mem.2 this
 |yl=>simp [X.refs] at hx
 |mp=>simp [X.refs] at hx
 |ifc=>exact .ifc
def DK:Option Ex→Option Code→Prop
 |none,none=>True
 |some .ret,some .ret=>True
 |some (.exit i),some (.exit j)=>i=j
 |_,_=>False
def wR (K:Kn)(C:List CB)(tm:List (Nat×X))(tmps:Array Value):Prop:=
 ∀(n:Nat) (x:X),lk tm n=some x→∃v,tmps[n]?=some v∧Rep K C x v
structure aN where
 rel:Nat→Code→Code→Em.C→Em.C→Prop
 gl:Nat→Option (List X)
def nV (R:aN)(K:Kn):Prop:=∀(g:Nat) (cs:List X),R.gl g=some cs→Rep K [] (.dp cs) (.pointer (some ⟨g,0,none⟩))
theorem nV.mono {R:aN}{K K':Kn}(h:nV R K)(hK:KLe K K'):nV R K':=fun g cs e=>(h g cs e).mono hK (CLe.refl _)
structure Po (_P:Program) (R:aN) (K:Kn) (C:List CB) (st:LoopState) (pend:Option Ex) (tm:List (Nat×X)) (ps:List Nat) (a b:Em.C) (l:Loop):Prop where
 hst:l.state=st
 ZA:DK pend l.pending
 htm:wR K C tm l.tmps
 hps:l.params.toList=ps
 hin:∀(p:Nat),p∈ps→p<l.tmps.size
 hcode:R.rel l.tmps.size l.assign l.body a b
structure AU (K:Kn) (es:List (Value×X)) (ents:List MapEntry):Prop where
 len:ents.length=es.length
 key:∀(j:Nat) (e:Value×X) (m:MapEntry),es[j]?=some e→ents[j]?=some m→m.key=e.1
 val:∀(j:Nat) (e:Value×X) (m:MapEntry),es[j]?=some e→ents[j]?=some m→e.2.ok1=true∧e.2.refs=[]∧Rep K [] e.2 m.val
theorem AU.mono {K K':Kn}{es:List (Value×X)}{ents:List MapEntry}(h:AU K es ents)(hK:KLe K K'):AU K' es ents:=
 ⟨h.len,h.key,fun j e m h1 h2=>⟨(h.val j e m h1 h2).1,(h.val j e m h1 h2).2.1,(h.val j e m h1 h2).2.2.mono hK (CLe.refl _)⟩⟩
def BoxOk (P:Program)(R:aN)(K:Kn)(C:List CB)(w:World):Bx→CB→Prop
 |.dead,_=>True
 |.var cs,.at b base hi _=>base=0∧hi=cs.length∧∃(arr:Array Value) (el:TypeId),w.heap[b]?=some (.cells arr el (0,0))∧dS K C cs arr.toList
 |.row sz es,.at b base hi sz'=>sz'=sz∧base+es.length*sz≤hi∧(∀(e:List X),e∈es→e.length=sz)∧
   ∃(arr:Array Value) (el:TypeId),w.heap[b]?=some (.cells arr el (0,0))∧hi≤arr.size∧
    ∀(i j:Nat) (x:X),at2 es i j=some x→x.dO=true∧∃v,arr[base+i*sz+j]?=some v∧Rep K [] x v
 |.row _ es,.ghost=>es=[]
 |.map es,.obj b=>∃(ents:Array MapEntry) (clock:Nat),w.heap[b]?=some (.map ents clock)∧AU K es ents.toList
 |.loop st p tm ps a c,.obj b=>∃l:Loop,w.heap[b]?=some (.loop l)∧Po P R K C st p tm ps a c l
 |_,_=>False
def Bx.live:Bx→Bool
 |.dead=>false
 |_=>true
def jJ (C:List CB)(bx:List Bx)(b o:Nat):Prop:=∃(i:Nat) (c:CB) (B:Bx),C[i]?=some c∧bx[i]?=some B∧B.live=true∧c.owns b o
structure Inv (P:Program) (R:aN) (K:Kn) (C:List CB) (bx:List Bx) (w:World):Prop where
 glob:nV R K
 known:∀(b o:Nat) (v:Value),K b o=some v→w.cell? ⟨b,o,none⟩=some v
 size:C.length=bx.length
 apart:∀(b o:Nat),jJ C bx b o→K b o=none
 Bv:∀(i j:Nat) (c d:CB) (A B:Bx) (b o:Nat),i≠j→C[i]?=some c→C[j]?=some d→bx[i]?=some A→bx[j]?=some B→A.live=true→B.live=true→c.owns b o→¬d.owns b o
 box:∀(i:Nat) (B:Bx) (c:CB),bx[i]?=some B→C[i]?=some c→BoxOk P R K C w B c
def oQ:Option Obj→Prop
 |some (.cells _ _ _)=>False
 |_=>True
def Nb (S:Nat→Prop)(o o':Option Obj):Prop:=
 ((∀i,S i)∧oQ o∧oQ o')∨o=o'∨∃(cs cs':Array Value) (el:TypeId) (fr:Nat×Nat),o=some (.cells cs el fr)∧o'=some (.cells cs' el fr)∧cs.size=cs'.size∧∀i,¬S i→cs[i]?=cs'[i]?
structure aP (S:Nat→Nat→Prop) (w w':World):Prop where
 os:w'.os=w.os
 tape:w'.tape=w.tape
 output:w'.output=w.output
 size:w.heap.size≤w'.heap.size
 block:∀b,b<w.heap.size→Nb (S b) w.heap[b]? w'.heap[b]?
theorem Nb.refl (S:Nat→Prop)(o:Option Obj):Nb S o o:=.inr (.inl rfl)
theorem Nb.trans {S S':Nat→Prop}{a b c:Option Obj}(h:Nb S a b)(h':Nb S' b c)(hs:∀i,S' i→S i):Nb S a c:=by
 rcases h with ⟨h,ha,hb⟩|rfl|⟨cs,cs',el,fr,rfl,rfl,hz,he⟩
 ·refine .inl ⟨h,ha,?_⟩
  rcases h' with ⟨_,_,hc⟩|rfl|⟨cs,cs',el,fr,rfl,rfl,hz,he⟩
  ·exact hc
  ·exact hb
  ·exact hb.elim
 ·rcases h' with ⟨h',ha,hc⟩|rfl|⟨cs,cs',el,fr,h1,h2,hz,he⟩
  ·exact .inl ⟨fun i=>hs i (h' i),ha,hc⟩
  ·exact .inr (.inl rfl)
  ·exact .inr (.inr ⟨cs,cs',el,fr,h1,h2,hz,fun i hi=>he i fun h=>hi (hs i h)⟩)
 ·rcases h' with ⟨_,ha,_⟩|rfl|⟨ds,ds',el',fr',h1,h2,hz',he'⟩
  ·exact ha.elim
  ·exact .inr (.inr ⟨cs,cs',el,fr,rfl,rfl,hz,he⟩)
  ·simp only [Option.some.injEq,Obj.cells.injEq] at h1
   obtain ⟨rfl,rfl,rfl⟩:=h1
   exact .inr (.inr ⟨cs,ds',_,_,rfl,h2,hz.trans hz',fun i hi=>(he i hi).trans (he' i fun h=>hi (hs i h))⟩)
theorem aP.refl (S:Nat→Nat→Prop)(w:World):aP S w w:=⟨rfl,rfl,rfl,Nat.le_refl _,fun _ _=>.refl _ _⟩
theorem aP.trans {S S':Nat→Nat→Prop}{a b c:World}(h:aP S a b)(h':aP S' b c)(hs:∀k o,k<a.heap.size→S' k o→S k o):aP S a c:=
 ⟨h'.os.trans h.os,h'.tape.trans h.tape,h'.output.trans h.output,Nat.le_trans h.size h'.size,
  fun k hk=>(h.block k hk).trans (h'.block k (Nat.lt_of_lt_of_le hk h.size)) fun i hi=>hs k i hk hi⟩
theorem aP.mono {S S':Nat→Nat→Prop}{a b:World}(h:aP S a b)(hs:∀k o,k<a.heap.size→S k o→S' k o):aP S' a b:=
 ⟨h.os,h.tape,h.output,h.size,fun k hk=>by
  rcases h.block k hk with ⟨h,ha,hb⟩|h|⟨cs,cs',el,fr,h1,h2,hz,he⟩
  ·exact .inl ⟨fun i=>hs k i hk (h i),ha,hb⟩
  ·exact .inr (.inl h)
  ·exact .inr (.inr ⟨cs,cs',el,fr,h1,h2,hz,fun i hi=>he i fun h=>hi (hs k i hk h)⟩)⟩
theorem aP.drew (S:Nat→Nat→Prop)(w:World):aP S w w.drew:=⟨rfl,rfl,rfl,Nat.le_refl _,fun _ _=>.refl _ _⟩
theorem aP.alloc (S:Nat→Nat→Prop)(w:World)(o:Obj):aP S w (w.alloc o):=
 ⟨rfl,rfl,rfl,by simp,fun k hk=>.inr (.inl (by show _=(w.heap.push o)[k]?;rw [Array.getElem?_push,if_neg (Nat.ne_of_lt hk)]))⟩
theorem aP.cell {S:Nat→Nat→Prop}{w w':World}(h:aP S w w'){b o:Nat}{v:Value}(hc:w.cell? ⟨b,o,none⟩=some v)(hn:¬S b o):
  w'.cell? ⟨b,o,none⟩=some v:=by
 have hb:b<w.heap.size:=World.block_lt_of_cell? _ _ hc
 rcases h.block b hb with ⟨h,_,_⟩|h|⟨cs,cs',el,fr,h1,h2,hz,he⟩
 ·exact absurd (h o) hn
 ·simpa only [World.cell?,h] using hc
 ·simp only [World.cell?,h1,h2] at hc ⊢;simpa [he o hn] using hc
theorem aP.row {S:Nat→Nat→Prop}{w w':World}(h:aP S w w'){b:Nat}{arr:Array Value}{el:TypeId}{fr:Nat×Nat}
  (hb:w.heap[b]?=some (.cells arr el fr)):
  ∃arr',w'.heap[b]?=some (.cells arr' el fr)∧arr'.size=arr.size∧∀o,¬S b o→arr'[o]?=arr[o]?:=by
 have hlt:b<w.heap.size:=(Array.getElem?_eq_some_iff.1 hb).1
 rcases h.block b hlt with ⟨_,h,_⟩|h|⟨cs,cs',el',fr',h1,h2,hz,he⟩
 ·rw [hb] at h;exact h.elim
 ·exact ⟨arr,by rw [←h,hb],rfl,fun _ _=>rfl⟩
 ·rw [hb] at h1
  simp only [Option.some.injEq,Obj.cells.injEq] at h1
  obtain ⟨rfl,rfl,rfl⟩:=h1
  exact ⟨cs',h2,hz.symm,fun o ho=>(he o ho).symm⟩
theorem aP.obj {S:Nat→Nat→Prop}{w w':World}(h:aP S w w'){b:Nat}{o:Obj}(hb:w.heap[b]?=some o)(ho:oQ (some o))
  {o₀:Nat} (hn:¬S b o₀):w'.heap[b]?=some o:=by
 have hlt:b<w.heap.size:=(Array.getElem?_eq_some_iff.1 hb).1
 rcases h.block b hlt with ⟨h,_,_⟩|h|⟨cs,cs',el',fr',h1,h2,hz,he⟩
 ·exact absurd (h o₀) hn
 ·rw [←h,hb]
 ·rw [hb] at h1
  rw [h1] at ho;exact ho.elim
theorem aP.setRow {S:Nat→Nat→Prop}{w:World}{g:Nat}{arr arr':Array Value}{el:TypeId}(hg:w.heap[g]?=some (.cells arr el (0,0)))
  (hz:arr'.size=arr.size) (he:∀o,¬S g o→arr[o]?=arr'[o]?):aP S w (w.setRow g arr'):=
 ⟨rfl,rfl,rfl,by simp,fun k _=>by
  by_cases hk:k=g
  ·subst hk
   exact .inr (.inr ⟨arr,arr',el,_,hg,setRow_heap w k arr arr' el _ hg,hz.symm,he⟩)
  ·rw [setRow_other w g k arr' hk];exact .refl _ _⟩
theorem aP.setObj {S:Nat→Nat→Prop}{w:World}{g:Nat}{o o':Obj}(hg:w.heap[g]?=some o)(ho:oQ (some o))(ho':oQ (some o'))
  (hs:∀i,S g i):aP S w {w with heap:=w.heap.setIfInBounds g o'}:=
 ⟨rfl,rfl,rfl,by simp,fun k hk=>by
  by_cases h:k=g
  ·subst h
   refine .inl ⟨hs,by rw [hg];exact ho,?_⟩
   show oQ ((w.heap.setIfInBounds k o')[k]?)
   rw [Array.getElem?_setIfInBounds_self_of_lt hk];exact ho'
  ·refine .inr (.inl ?_)
   show _=(w.heap.setIfInBounds g o')[k]?
   rw [Array.getElem?_setIfInBounds_ne (fun e=>h e.symm)]⟩
end Go.Em
namespace Go.Em
variable {P:Program} {R:aN}
theorem wR.mono {K K':Kn}{C C':List CB}{tm:List (Nat×X)}{tmps:Array Value}(h:wR K C tm tmps)(hK:KLe K K')(hC:CLe C C'):wR K' C' tm tmps:=
 fun n x e=>let ⟨v,hv,hr⟩:=h n x e;⟨v,hv,hr.mono hK hC⟩
theorem Po.mono {K K':Kn}{C C':List CB}{st:LoopState}{pend:Option Ex}{tm:List (Nat×X)}{ps:List Nat}{a b:Em.C}{l:Loop}
  (h:Po P R K C st pend tm ps a b l) (hK:KLe K K') (hC:CLe C C'):Po P R K' C' st pend tm ps a b l:=
 ⟨h.hst,h.ZA,h.htm.mono hK hC,h.hps,h.hin,h.hcode⟩
theorem BoxOk.mono {K K':Kn}{C C':List CB}{S:Nat→Nat→Prop}{w w':World}{B:Bx}{c:CB}(h:BoxOk P R K C w B c)(hK:KLe K K')(hC:CLe C C')
  (hf:aP S w w') (hs:∀b o,c.owns b o→¬S b o):BoxOk P R K' C' w' B c:=by
 cases B with
 |dead=>trivial
 |var cs=>
  cases c with
  |«at» b base hi sz=>
   obtain ⟨h0,h1,arr,el,hb,hc⟩:=h
   obtain ⟨arr',hb',hz,he⟩:=hf.row hb
   refine ⟨h0,h1,arr',el,hb',?_⟩
   have:arr'=arr:=Array.ext_getElem? fun i=>by
    by_cases hi':i<hi
    ·exact he i (hs b i ⟨rfl,by omega,hi'⟩)
    ·have hl:arr.size=hi:=by rw [h1];simpa using hc.len
     rw [Array.getElem?_eq_none (by omega),Array.getElem?_eq_none (by omega)]
   rw [this];exact hc.mono hK hC
  |ghost=>exact h.elim
  |obj b=>exact h.elim
 |row sz es=>
  cases c with
  |«at» b base hi sz'=>
   obtain ⟨h0,h1,h2,arr,el,hb,hl,hc⟩:=h
   obtain ⟨arr',hb',hz,he⟩:=hf.row hb
   refine ⟨h0,h1,h2,arr',el,hb',by omega,fun i j x hx=>?_⟩
   obtain ⟨hc1,v,hv,hr⟩:=hc i j x hx
   refine ⟨hc1,v,?_,hr.mono hK (CLe.refl _)⟩
   rw [he];exact hv
   refine hs b _ ⟨rfl,by omega,?_⟩
   unfold at2 at hx
   obtain ⟨e,hei,hej⟩:=Option.bind_eq_some_iff.1 hx
   have hi1:=(List.getElem?_eq_some_iff.1 hei).1
   have hj1:=(List.getElem?_eq_some_iff.1 hej).1
   rw [h2 e (List.mem_of_getElem? hei)] at hj1
   have:i*sz+sz≤es.length*sz:=by
    have:=Nat.mul_le_mul_right sz (show i+1≤es.length from hi1)
    rw [Nat.add_mul,Nat.one_mul] at this;exact this
   omega
  |ghost=>exact h
  |obj b=>exact h.elim
 |loop st p tm ps a b=>
  cases c with
  |obj blk=>
   obtain ⟨l,hl,ho⟩:=h
   exact ⟨l,hf.obj hl trivial (o₀:=0) (hs blk 0 rfl),ho.mono hK hC⟩
  |«at»=>exact h.elim
  |ghost=>exact h.elim
 |map es=>
  cases c with
  |obj blk=>
   obtain ⟨ents,clock,hl,ho⟩:=h
   exact ⟨ents,clock,hf.obj hl trivial (o₀:=0) (hs blk 0 rfl),ho.mono hK⟩
  |«at»=>exact h.elim
  |ghost=>exact h.elim
theorem BoxOk.block {K:Kn}{C:List CB}{w:World}{B:Bx}{c:CB}(h:BoxOk P R K C w B c)(hl:B.live=true){b o:Nat}(ho:c.owns b o):b<w.heap.size:=by
 cases B with
 |dead=>simp [Bx.live] at hl
 |var cs=>cases c with
  |«at»=>obtain ⟨_,_,arr,el,hb,_⟩:=h;obtain ⟨rfl,_⟩:=ho;exact (Array.getElem?_eq_some_iff.1 hb).1
  |ghost=>exact h.elim
  |obj=>exact h.elim
 |row sz es=>cases c with
  |«at»=>obtain ⟨_,_,_,arr,el,hb,_⟩:=h;obtain ⟨rfl,_⟩:=ho;exact (Array.getElem?_eq_some_iff.1 hb).1
  |ghost=>exact ho.elim
  |obj=>exact h.elim
 |loop=>cases c with
  |«at»=>exact h.elim
  |ghost=>exact h.elim
  |obj=>obtain ⟨l,hb,_⟩:=h;cases ho;exact (Array.getElem?_eq_some_iff.1 hb).1
 |map=>cases c with
  |«at»=>exact h.elim
  |ghost=>exact h.elim
  |obj=>obtain ⟨_,_,hb,_⟩:=h;cases ho;exact (Array.getElem?_eq_some_iff.1 hb).1
theorem Inv.get {K:Kn}{C:List CB}{bx:List Bx}{w:World}(h:Inv P R K C bx w){i:Nat}{B:Bx}(e:bx[i]?=some B):
  ∃c,C[i]?=some c∧BoxOk P R K C w B c:=by
 have hi:i<C.length:=by rw [h.size];exact (List.getElem?_eq_some_iff.1 e).1
 exact ⟨C[i],List.getElem?_eq_getElem hi,h.box i B _ e (List.getElem?_eq_getElem hi)⟩
theorem Inv.qV {K:Kn}{C:List CB}{bx:List Bx}{w:World}(h:Inv P R K C bx w){b o:Nat}(ho:jJ C bx b o):b<w.heap.size:=by
 obtain ⟨i,c,B,hc,hb,hl,hw⟩:=ho
 exact (h.box i B c hb hc).block hl hw
theorem Inv.EK {K:Kn}{C:List CB}{bx:List Bx}{w:World}(h:Inv P R K C bx w){b o:Nat}{v:Value}(e:K b o=some v):b<w.heap.size:=
 World.block_lt_of_cell? _ _ (h.known b o v e)
theorem Inv.frame {K:Kn}{C:List CB}{bx:List Bx}{S:Nat→Nat→Prop}{w w':World}(h:Inv P R K C bx w)(hf:aP S w w')
  (hk:∀b o v,K b o=some v→¬S b o) (ho:∀b o,jJ C bx b o→¬S b o):Inv P R K C bx w':=
 ⟨h.glob,fun b o v e=>hf.cell (h.known b o v e) (hk b o v e),h.size,h.apart,h.Bv,fun i B c e e'=>by
  by_cases hl:B.live=true
  ·exact (h.box i B c e e').mono (KLe.refl _) (CLe.refl _) hf (fun b o hw=>ho b o ⟨i,c,B,e',e,hl,hw⟩)
  ·cases B<;>first|trivial|simp [Bx.live] at hl⟩
def nowhere:Nat→Nat→Prop:=fun _ _=>False
theorem Inv.still {K:Kn}{C:List CB}{bx:List Bx}{w w':World}(h:Inv P R K C bx w)(hf:aP nowhere w w'):Inv P R K C bx w':=
 h.frame hf (fun _ _ _ _=>id) (fun _ _ _=>id)
theorem Inv.kill {K:Kn}{C:List CB}{bx:List Bx}{w:World}(h:Inv P R K C bx w)(i:Nat):Inv P R K C (bx.set i .dead) w:=by
 have hget:∀(j:Nat) (B:Bx),(bx.set i .dead)[j]?=some B→B.live=true→bx[j]?=some B:=by
  intro j B e hl
  rw [List.getElem?_set] at e
  split at e
  ·split at e
   ·simp at e;subst e;simp [Bx.live] at hl
   ·simp at e
  ·exact e
 refine ⟨h.glob,h.known,by simpa using h.size,?_,?_,?_⟩
 ·rintro b o ⟨j,c,B,hc,hb,hl,hw⟩
  exact h.apart b o ⟨j,c,B,hc,hget j B hb hl,hl,hw⟩
 ·intro j k c d A B b o hne hc hd hA hB hlA hlB
  exact h.Bv j k c d A B b o hne hc hd (hget j A hA hlA) (hget k B hB hlB) hlA hlB
 ·intro j B c hB hc
  by_cases hl:B.live=true
  ·exact h.box j B c (hget j B hB hl) hc
  ·cases B<;>first|trivial|simp [Bx.live] at hl
theorem y9 {C:List CB}{bx:List Bx}{i b o:Nat}(h:jJ C (bx.set i .dead) b o):jJ C bx b o:=by
 obtain ⟨j,c,B,hc,hb,hl,hw⟩:=h
 refine ⟨j,c,B,hc,?_,hl,hw⟩
 rw [List.getElem?_set] at hb
 split at hb
 ·split at hb
  ·simp at hb;subst hb;simp [Bx.live] at hl
  ·simp at hb
 ·exact hb
theorem Inv.push {K:Kn}{C:List CB}{bx:List Bx}{w:World}(h:Inv P R K C bx w){B:Bx}{c:CB}(hB:BoxOk P R K (C++[c]) w B c)
  (hk:∀b o,c.owns b o→K b o=none) (ho:∀b o,c.owns b o→¬jJ C bx b o):Inv P R K (C++[c]) (bx++[B]) w:=by
 have hg:∀(j:Nat) (A:Bx),(bx++[B])[j]?=some A→(j<bx.length∧bx[j]?=some A)∨(j=bx.length∧A=B):=by
  intro j A e
  by_cases hj:j<bx.length
  ·rw [List.getElem?_append_left hj] at e;exact .inl ⟨hj,e⟩
  ·rw [List.getElem?_append_right (by omega)] at e
   have:j-bx.length=0:=by
    have:=(List.getElem?_eq_some_iff.1 e).1;simp at this;omega
   rw [this] at e;simp at e;exact .inr ⟨by omega,e.symm⟩
 have hgc:∀(j:Nat) (d:CB),(C++[c])[j]?=some d→(j<bx.length∧C[j]?=some d)∨(j=bx.length∧d=c):=by
  intro j d e
  rw [←h.size]
  by_cases hj:j<C.length
  ·rw [List.getElem?_append_left hj] at e;exact .inl ⟨hj,e⟩
  ·rw [List.getElem?_append_right (by omega)] at e
   have:j-C.length=0:=by
    have:=(List.getElem?_eq_some_iff.1 e).1;simp at this;omega
   rw [this] at e;simp at e;exact .inr ⟨by omega,e.symm⟩
 refine ⟨h.glob,h.known,by simp [h.size],?_,?_,?_⟩
 ·rintro b o ⟨j,d,A,hd,hA,hl,hw⟩
  rcases hg j A hA with ⟨hj,hA⟩|⟨hj,rfl⟩
  ·rcases hgc j d hd with ⟨_,hd⟩|⟨e,_⟩
   ·exact h.apart b o ⟨j,d,A,hd,hA,hl,hw⟩
   ·omega
  ·rcases hgc j d hd with ⟨e,_⟩|⟨_,rfl⟩
   ·omega
   ·exact hk b o hw
 ·intro j k d e A A' b o hne hd he hA hA' hl hl' hw hw'
  rcases hg j A hA with ⟨hj,hA1⟩|⟨hj,hA1⟩
  ·rcases hgc j d hd with ⟨_,hd1⟩|⟨e1,_⟩
   ·rcases hg k A' hA' with ⟨hk',hA2⟩|⟨hk',hA2⟩
    ·rcases hgc k e he with ⟨_,he1⟩|⟨e1,_⟩
     ·exact h.Bv j k d e A A' b o hne hd1 he1 hA1 hA2 hl hl' hw hw'
     ·omega
    ·rcases hgc k e he with ⟨e1,_⟩|⟨_,e2⟩
     ·omega
     ·exact ho b o (e2▸hw') ⟨j,d,A,hd1,hA1,hl,hw⟩
   ·omega
  ·rcases hgc j d hd with ⟨e1,_⟩|⟨_,e2⟩
   ·omega
   ·rcases hg k A' hA' with ⟨hk',hA2⟩|⟨hk',_⟩
    ·rcases hgc k e he with ⟨_,he1⟩|⟨e1,_⟩
     ·exact ho b o (e2▸hw) ⟨k,e,A',he1,hA2,hl',hw'⟩
     ·omega
    ·omega
 ·intro j A d hA hd
  rcases hg j A hA with ⟨hj,hA⟩|⟨hj,rfl⟩
  ·rcases hgc j d hd with ⟨_,hd⟩|⟨e,_⟩
   ·exact (h.box j A d hA hd).mono (KLe.refl _) (CLe.append _ _) (.refl nowhere w) (fun _ _ _=>id)
   ·omega
  ·rcases hgc j d hd with ⟨e,_⟩|⟨_,rfl⟩
   ·omega
   ·exact hB
theorem mJ {C:List CB}{bx:List Bx}{B:Bx}{c:CB}{b o:Nat}(hs:C.length=bx.length)(h:jJ (C++[c]) (bx++[B]) b o):jJ C bx b o∨c.owns b o:=by
 obtain ⟨j,d,A,hd,hA,hl,hw⟩:=h
 by_cases hj:j<bx.length
 ·rw [List.getElem?_append_left hj] at hA
  rw [List.getElem?_append_left (by omega)] at hd
  exact .inl ⟨j,d,A,hd,hA,hl,hw⟩
 ·rw [List.getElem?_append_right (by omega)] at hd
  have:j-C.length=0:=by
   have:=(List.getElem?_eq_some_iff.1 hd).1;simp at this;omega
  rw [this] at hd;simp at hd
  exact .inr (hd▸hw)
theorem Inv.set {K:Kn}{C:List CB}{bx:List Bx}{w w':World}(h:Inv P R K C bx w){i:Nat}{A B:Bx}{c:CB}(hA:bx[i]?=some A)(hl:A.live=true)(hc:C[i]?=some c)
  (hf:aP (fun b o=>c.owns b o) w w') (hB:BoxOk P R K C w' B c):Inv P R K C (bx.set i B) w':=by
 have hlt:=(List.getElem?_eq_some_iff.1 hA).1
 have hget:∀(j:Nat) (A':Bx),(bx.set i B)[j]?=some A'→(j=i∧A'=B)∨(j≠i∧bx[j]?=some A'):=by
  intro j A' e
  rw [List.getElem?_set] at e
  split at e
  ·rename_i hij
   simp only [Option.some.injEq] at e;exact .inl ⟨hij.symm,e.symm⟩
  ·rename_i hij;exact .inr ⟨fun e=>hij e.symm,e⟩
 have Bg:∀b o,c.owns b o→jJ C bx b o:=fun b o hw=>⟨i,c,A,hc,hA,hl,hw⟩
 have hnew:∀b o,jJ C (bx.set i B) b o→jJ C bx b o:=by
  rintro b o ⟨j,d,A',hd,hA',hl',hw⟩
  rcases hget j A' hA' with ⟨rfl,rfl⟩|⟨_,hA'⟩
  ·rw [hc] at hd;cases hd;exact Bg b o hw
  ·exact ⟨j,d,A',hd,hA',hl',hw⟩
 refine ⟨h.glob,fun b o v e=>hf.cell (h.known b o v e) (fun hw=>?_),by simpa using h.size,fun b o hw=>h.apart b o (hnew b o hw),?_,?_⟩
 ·have:=h.apart b o (Bg b o hw);rw [this] at e;cases e
 ·intro j k d e D E b o hne hd he hD hE hlD hlE hw hw'
  rcases hget j D hD with ⟨e1,e2⟩|⟨hj,hD1⟩
  ·rcases hget k E hE with ⟨e3,e4⟩|⟨hk,hE1⟩
   ·exact hne (e1.trans e3.symm)
   ·exact h.Bv j k d e A E b o hne hd he (e1▸hA) hE1 hl hlE hw hw'
  ·rcases hget k E hE with ⟨e3,e4⟩|⟨hk,hE1⟩
   ·exact h.Bv j k d e D A b o hne hd he hD1 (e3▸hA) hlD hl hw hw'
   ·exact h.Bv j k d e D E b o hne hd he hD1 hE1 hlD hlE hw hw'
 ·intro j D d hD hd
  rcases hget j D hD with ⟨rfl,rfl⟩|⟨hj,hD⟩
  ·rw [hc] at hd;cases hd;exact hB
  ·by_cases hlD:D.live=true
   ·exact (h.box j D d hD hd).mono (KLe.refl _) (CLe.refl _) hf (fun b o hw hw'=>h.Bv j i d c D A b o hj hd hc hD hA hlD hl hw hw')
   ·cases D<;>first|trivial|simp [Bx.live] at hlD
theorem NR {C:List CB}{bx:List Bx}{i b o:Nat}{A B:Bx}(hA:bx[i]?=some A)(hl:A.live=true)(h:jJ C (bx.set i B) b o):jJ C bx b o:=by
 obtain ⟨j,c,D,hc,hb,hl',hw⟩:=h
 rw [List.getElem?_set] at hb
 split at hb
 ·rename_i hij;subst hij
  exact ⟨i,c,A,hc,hA,hl,hw⟩
 ·exact ⟨j,c,D,hc,hb,hl',hw⟩
theorem Inv.know {K K':Kn}{C:List CB}{bx:List Bx}{w:World}(h:Inv P R K C bx w)(hK:KLe K K')(hn:∀b o v,K' b o=some v→w.cell? ⟨b,o,none⟩=some v)
  (ho:∀b o,jJ C bx b o→K' b o=none):Inv P R K' C bx w:=
 ⟨h.glob.mono hK,hn,h.size,ho,h.Bv,fun i B c e e'=>(h.box i B c e e').mono hK (CLe.refl _) (.refl nowhere w) (fun _ _ _=>id)⟩
def Kn.add (K:Kn)(nb:Nat)(arr:Array Value):Kn:=fun b o=>if b=nb then arr[o]? else K b o
theorem Kn.wQ {K:Kn}{C:List CB}{bx:List Bx}{w:World}(h:Inv P R K C bx w)(arr:Array Value):KLe K (K.add w.heap.size arr):=by
 intro b o v e
 have:=h.EK e
 simp [Kn.add,Nat.ne_of_lt this,e]
theorem Inv.learn {K:Kn}{C:List CB}{bx:List Bx}{w:World}(h:Inv P R K C bx w)(arr:Array Value)(el:TypeId):
  Inv P R (K.add w.heap.size arr) C bx (w.alloc (.cells arr el)):=by
 refine (h.still (aP.alloc _ w _)).know (Kn.wQ h arr) ?_ ?_
 ·intro b o v e
  unfold Kn.add at e
  split at e
  ·rename_i hb;subst hb;simpa using e
  ·have:=h.known b o v e
   rw [World.cell?_alloc_lt _ _ _ (World.block_lt_of_cell? _ _ this)];exact this
 ·intro b o ho
  have:=h.qV ho
  simp [Kn.add,Nat.ne_of_lt this,h.apart b o ho]
structure Ctx where
 nt:Nat
 K0:Kn
 C0:List CB
 loops:Nat→Bool
 w0:World
 Fp:Nat→Nat→Prop
 rnd:Option Nat
def Bx.eY:Bx→Bool
 |.loop .. =>true
 |_=>false
def mark (r:Nat):Deferred:={target:=.collected r,args:=#[]}
structure zaQ (x:Ctx) (C:List CB) (bx:List Bx) (a:Act) (w:World):Prop where
 marks:∃rs:List Nat,a.defers=rs.map mark∧rs.Nodup∧∀r,r∈rs→w.heap[r]?=some (.deferred (some []))∧x.w0.heap.size≤r∧∀o,¬jJ C bx r o
 round:x.rnd.isSome=true→a.defers=[]
structure Rel (P:Program) (R:aN) (x:Ctx) (K:Kn) (C:List CB) (σ:St) (a:Act) (w:World):Prop where
 inv:Inv P R K C σ.bx w
 tm:wR K C σ.tm a.tmps
 nt:a.tmps.size=x.nt
 k0:KLe x.K0 K
 knew:∀(b o:Nat) (v:Value),K b o=some v→x.K0 b o=some v∨x.Fp b o∨x.w0.heap.size≤b
 own:∀(b o:Nat),jJ C σ.bx b o→x.Fp b o∨x.w0.heap.size≤b
 cin:∀(i:Nat) (c:CB),x.C0[i]?=some c→C[i]?=some c
 frame:aP x.Fp x.w0 w
 defs:zaQ x C σ.bx a w
 loops:∀(i:Nat),i<x.C0.length→x.loops i=true→∃B,σ.bx[i]?=some B∧B.eY=true
 rnd:∀l,x.rnd=some l→∃i,i<x.C0.length∧x.loops i=true∧x.C0[i]?=some (.obj l)
variable {x:Ctx} {K:Kn} {C:List CB} {σ:St} {a:Act} {w:World}
theorem uX (d:Option Nat)(y:X)(tm:List (Nat×X))(n:Nat):lk (uN d y tm) n=if d=some n then some y else lk tm n:=by
 cases d with
 |none=>simp [uN]
 |some d=>
  simp only [uN,lk,Option.some.injEq]
  by_cases h:d=n<;>simp [h]
theorem wR.set {K:Kn}{C:List CB}{tm:List (Nat×X)}{a:Act}(h:wR K C tm a.tmps){y:X}{v:Value}(hr:Rep K C y v)(d:Option Nat)(hd:∀n,d=some n→n<a.tmps.size):
  wR K C (uN d y tm) (a.put d v).tmps:=by
 intro n z e
 rw [uX] at e
 cases d with
 |none=>simp at e;simpa [Act.put] using h n z e
 |some d=>
  by_cases hn:d=n
  ·subst hn
   simp at e;subst e
   exact ⟨v,by simp [Act.put,Array.getElem?_setIfInBounds_self_of_lt (hd d rfl)],hr⟩
  ·simp [hn] at e
   obtain ⟨u,hu,hr'⟩:=h n z e
   exact ⟨u,by simp [Act.put,Array.getElem?_setIfInBounds_ne hn,hu],hr'⟩
theorem YP (a:Act)(d:Option Nat)(v:Value):(a.put d v).tmps.size=a.tmps.size:=by cases d<;>simp [Act.put]
theorem put_defers (a:Act)(d:Option Nat)(v:Value):(a.put d v).defers=a.defers:=by cases d<;>rfl
theorem zaQ.put {bx:List Bx}(h:zaQ x C bx a w)(d:Option Nat)(v:Value):zaQ x C bx (a.put d v) w:=
 ⟨by rw [put_defers];exact h.marks,by rw [put_defers];exact h.round⟩
theorem Rel.set (h:Rel P R x K C σ a w){y:X}{v:Value}(hr:Rep K C y v)(d:Option Nat)(hd:∀n,d=some n→n<x.nt):
  Rel P R x K C ⟨uN d y σ.tm,σ.bx⟩ (a.put d v) w:=
 {h with tm:=h.tm.set hr d (by rw [h.nt];exact hd),nt:=by rw [YP];exact h.nt,defs:=h.defs.put d v}
theorem Rel.still {w':World}(h:Rel P R x K C σ a w)(hf:aP nowhere w w'):Rel P R x K C σ a w':=
 {h with
  inv:=h.inv.still hf
  frame:=h.frame.trans hf (fun _ _ _=>False.elim)
  defs:=⟨by
   obtain ⟨rs,h1,h2,h3⟩:=h.defs.marks
   exact ⟨rs,h1,h2,fun r hr=>⟨hf.obj (h3 r hr).1 trivial (o₀:=0) id,(h3 r hr).2⟩⟩,h.defs.round⟩}
theorem Rel.learn (h:Rel P R x K C σ a w)(arr:Array Value)(el:TypeId):
  Rel P R x (K.add w.heap.size arr) C σ a (w.alloc (.cells arr el)):=by
 have hs:=h.still (aP.alloc nowhere w (.cells arr el))
 exact {hs with
  inv:=h.inv.learn arr el
  tm:=h.tm.mono (Kn.wQ h.inv arr) (CLe.refl _)
  k0:=h.k0.trans (Kn.wQ h.inv arr)
  knew:=fun b o v e=>by
   unfold Kn.add at e
   split at e
   ·rename_i hb;subst hb;exact .inr (.inr h.frame.size)
   ·exact h.knew b o v e}
theorem Rel.push (h:Rel P R x K C σ a w){B:Bx}{c:CB}(o:Obj)(hB:BoxOk P R K (C++[c]) (w.alloc o) B c)(hc:∀b k,c.owns b k→b=w.heap.size):
  Rel P R x K (C++[c]) ⟨σ.tm,σ.bx++[B]⟩ a (w.alloc o):=by
 have hs:=h.still (aP.alloc nowhere w o)
 have hn:∀b k,c.owns b k→¬jJ C σ.bx b k:=fun b k hw ho=>by
  have:=h.inv.qV ho;have:=hc b k hw;omega
 refine {hs with inv:=?_,tm:=?_,own:=?_,cin:=?_,defs:=?_,loops:=?_}
 ·refine hs.inv.push hB (fun b k hw=>?_) hn
  cases e:K b k with
  |none=>rfl
  |some v=>have:=h.inv.EK e;have:=hc b k hw;omega
 ·exact hs.tm.mono (KLe.refl _) (CLe.append _ _)
 ·intro b k ho
  rcases mJ h.inv.size ho with ho|ho
  ·exact h.own b k ho
  ·have:=hc b k ho;subst this;exact .inr h.frame.size
 ·intro i d e;exact CLe.append _ _ _ _ (h.cin i d e)
 ·obtain ⟨rs,h1,h2,h3⟩:=hs.defs.marks
  refine ⟨⟨rs,h1,h2,fun r hr=>⟨(h3 r hr).1,(h3 r hr).2.1,fun k ho=>?_⟩⟩,hs.defs.round⟩
  rcases mJ h.inv.size ho with ho|ho
  ·exact (h3 r hr).2.2 k ho
  ·have:=hc r k ho
   have h4:=(h.defs.marks)
   obtain ⟨rs',h1',_,h3'⟩:=h4
   have:rs=rs':=by
    have:rs.map mark=rs'.map mark:=h1.symm.trans h1'
    have inj:∀l l':List Nat,l.map mark=l'.map mark→l=l':=by
     intro l
     induction l with
     |nil=>intro l' e;cases l' with|nil=>rfl|cons=>simp at e
     |cons y l ih=>intro l' e;cases l' with
      |nil=>simp at e
      |cons y' l'=>simp [mark] at e;rw [e.1,ih l' (by simpa [mark] using e.2)]
    exact inj _ _ this
   subst this
   have:=(Array.getElem?_eq_some_iff.1 (h3' r hr).1).1
   omega
 ·intro i hi hl
  obtain ⟨B',hB',hl'⟩:=h.loops i hi hl
  exact ⟨B',by rw [List.getElem?_append_left (List.getElem?_eq_some_iff.1 hB').1];exact hB',hl'⟩
theorem Rel.wo {w':World}(h:Rel P R x K C σ a w){i:Nat}{A B:Bx}{c:CB}(hA:σ.bx[i]?=some A)(hl:A.live=true)(hc:C[i]?=some c)
  (hf:aP (fun b o=>c.owns b o) w w') (hB:BoxOk P R K C w' B c) (hL:A.eY=true→B.eY=true):
  Rel P R x K C ⟨σ.tm,σ.bx.set i B⟩ a w':=by
 have Bg:∀b o,c.owns b o→jJ C σ.bx b o:=fun b o hw=>⟨i,c,A,hc,hA,hl,hw⟩
 refine {h with inv:=?_,own:=?_,frame:=?_,defs:=?_,loops:=?_}
 ·exact h.inv.set hA hl hc hf hB
 ·intro b o ho;exact h.own b o (NR hA hl ho)
 ·refine h.frame.trans hf (fun b o hlt hw=>?_)
  rcases h.own b o (Bg b o hw) with h'|h'
  ·exact h'
  ·omega
 ·obtain ⟨rs,h1,h2,h3⟩:=h.defs.marks
  refine ⟨⟨rs,h1,h2,fun r hr=>⟨hf.obj (h3 r hr).1 trivial (o₀:=0) (fun hw=>(h3 r hr).2.2 0 (Bg r 0 hw)),(h3 r hr).2.1,fun o ho=>(h3 r hr).2.2 o (NR hA hl ho)⟩⟩,h.defs.round⟩
 ·intro j hj hl'
  obtain ⟨B',hB',hl''⟩:=h.loops j hj hl'
  by_cases e:i=j
  ·subst e
   rw [hA] at hB';cases hB'
   exact ⟨B,by simp [(List.getElem?_eq_some_iff.1 hA).1],hL hl''⟩
  ·exact ⟨B',by rw [List.getElem?_set_ne e];exact hB',hl''⟩
theorem Rel.kill (h:Rel P R x K C σ a w)(i:Nat)(hi:∀B,σ.bx[i]?=some B→B.eY=true→¬i<x.C0.length):Rel P R x K C ⟨σ.tm,σ.bx.set i .dead⟩ a w:=by
 refine {h with inv:=h.inv.kill i,own:=fun b o ho=>h.own b o (y9 ho),defs:=?_,loops:=?_}
 ·obtain ⟨rs,h1,h2,h3⟩:=h.defs.marks
  exact ⟨⟨rs,h1,h2,fun r hr=>⟨(h3 r hr).1,(h3 r hr).2.1,fun o ho=>(h3 r hr).2.2 o (y9 ho)⟩⟩,h.defs.round⟩
 ·intro j hj hl'
  obtain ⟨B',hB',hl''⟩:=h.loops j hj hl'
  by_cases e:i=j
  ·subst e;exact absurd hj (hi B' hB' hl'')
  ·exact ⟨B',by rw [List.getElem?_set_ne e];exact hB',hl''⟩
theorem Rel.tms (h:Rel P R x K C σ a w){tm:List (Nat×X)}(ht:wR K C tm a.tmps):Rel P R x K C ⟨tm,σ.bx⟩ a w:=
 {h with tm:=ht}
theorem zc5 (live:List Nat)(tm:List (Nat×X))(n:Nat)(y:X)(e:lk (keep live tm) n=some y):lk tm n=some y:=by
 induction live with
 |nil=>simp [keep,lk] at e
 |cons k r ih=>
  simp only [keep,List.filterMap_cons] at e ih
  cases hk:lk tm k with
  |none=>simp only [hk,Option.map_none] at e;exact ih e
  |some z=>
   simp only [hk,Option.map_some,lk] at e
   by_cases h:k=n
   ·subst h;simp at e;rw [hk,e]
   ·have:(k==n)=false:=by simpa using h
    simp only [this] at e
    exact ih e
theorem wR.keep {tm:List (Nat×X)}{tmps:Array Value}(h:wR K C tm tmps)(live:List Nat):wR K C (keep live tm) tmps:=
 fun n y e=>h n y (zc5 live tm n y e)
end Go.Em
namespace Go.Em
variable {P:Program} {R:aN} {x:Ctx} {K:Kn} {C:List CB} {σ:St} {a:Act} {w:World}
theorem Jk {sz:Nat}{v:Value}{y:X}(h:Xj sz v=some y)(K:Kn)(C:List CB):Rep K C y v∧y.dO=true:=by
 unfold Xj at h
 split at h<;>first
  |(simp only [Option.some.injEq] at h;subst h;exact ⟨.v rfl,rfl⟩)
  |(simp only [Option.some.injEq] at h;subst h;exact ⟨.fE,rfl⟩)
  |simp at h
theorem vN (K:Kn)(C:List CB):∀{vs:List Value} {szs:List Nat} {l:List X},Dw szs vs=some l→dS K C l vs
 |[],_,l,h=>by simp [Dw] at h;subst h;exact .nil
 |v::r,szs,l,h=>by
  simp only [Dw] at h
  cases hv:Xj (hd0 szs) v with
  |none=>simp [hv] at h
  |some y=>
   simp only [hv] at h
   obtain ⟨t,ht,rfl⟩:=Option.map_eq_some_iff.1 h
   obtain ⟨hr,hc⟩:=Jk hv K C
   exact .cons hc hr (vN K C ht)
theorem RI {t:TypeId}{v:Value}{y:X}(h:WZ P t v=some y)(K:Kn)(C:List CB):Rep K C y v:=by
 unfold WZ at h
 split at h
 ·rename_i cs
  obtain ⟨l,hl,rfl⟩:=Option.map_eq_some_iff.1 h
  have hr:=vN K C hl
  exact .agg (by simpa using hr.len) hr.cell (fun j x v e e'=>hr.rep j x v e (by simpa using e'))
 ·exact (Jk h K C).1
theorem aY {o:Operand}{q:Opd}{y:X}{t:TypeId}(hg:nV R K)(h:wR K C σ.tm a.tmps)(htr:aS P R.gl t o=some q)(he:σ.ev q=some y):Rep K C y (a.eval o):=by
 cases o with
 |tmp n=>
  simp only [aS,Option.some.injEq] at htr;subst htr
  obtain ⟨v,hv,hr⟩:=h n y he
  have:a.eval (.tmp n)=v:=by simp [Act.eval,Array.getD_eq_getD_getElem?,hv]
  rw [this];exact hr
 |const v=>
  simp only [aS] at htr
  obtain ⟨z,hz,rfl⟩:=Option.map_eq_some_iff.1 htr
  simp only [St.ev,Option.some.injEq] at he;subst he
  exact RI hz K C
 |global g=>
  simp only [aS] at htr
  obtain ⟨cs,hcs,rfl⟩:=Option.map_eq_some_iff.1 htr
  simp only [St.ev,Option.some.injEq] at he;subst he
  have:=(hg g cs hcs).mono (KLe.refl _) (CLe.nil C)
  simpa [Act.eval] using this
 |func f=>
  simp only [aS,Option.some.injEq] at htr;subst htr
  simp only [St.ev,Option.some.injEq] at he;subst he
  exact .fn (by simp) (by simp)
theorem Fj (hg:nV R K)(h:wR K C σ.tm a.tmps):∀{os:List Operand} {ts:List TypeId} {qs:List Opd} {ys:List X},fV P R.gl ts os=some qs→evs σ qs=some ys→
  ys.length=os.length∧∀(j:Nat) (y:X) (v:Value),ys[j]?=some y→(os.map a.eval)[j]?=some v→Rep K C y v
 |[],ts,qs,ys,h1,h2=>by
  simp only [fV,Option.some.injEq] at h1;subst h1
  simp only [evs,Option.some.injEq] at h2;subst h2
  simp
 |o::r,ts,qs,ys,h1,h2=>by
  simp only [fV] at h1
  cases ho:aS P R.gl (hd0 ts) o with
  |none=>simp [ho] at h1
  |some q=>
   simp only [ho] at h1
   obtain ⟨qs',hq,rfl⟩:=Option.map_eq_some_iff.1 h1
   simp only [evs] at h2
   cases he:σ.ev q with
   |none=>simp [he] at h2
   |some y=>
    simp only [he] at h2
    obtain ⟨ys',hy,rfl⟩:=Option.map_eq_some_iff.1 h2
    obtain ⟨i1,i2⟩:=Fj hg h hq hy
    refine ⟨by simp [i1],fun j z v e e'=>?_⟩
    cases j with
    |zero=>simp at e e';subst e;subst e';exact aY hg h ho he
    |succ j=>simp at e e';exact i2 j z v e (by simpa using e')
theorem EG {y:X}{v:Value}{n:Nat}(h:Rep K C y v)(e:SX y=some n):v=.int .i64 n:=by
 unfold SX at e
 split at e
 ·split at e
  ·rename_i hn
   simp only [Option.some.injEq] at e
   cases h;subst e;simp [Int.toNat_of_nonneg hn]
  ·simp at e
 ·simp at e
theorem tY {y:X}{v:Value}{n:Nat}(h:Rep K C y v)(e:ER y=some n):∃k,v=.int k n:=by
 unfold ER at e
 split at e
 ·split at e
  ·rename_i hn
   simp only [Option.some.injEq] at e
   cases h;subst e;exact ⟨_,by rw [Int.toNat_of_nonneg hn]⟩
  ·simp at e
 ·simp at e
theorem cu {t:TypeId}{n:Nat}(h:dI P t=some n)(w:World):(sizeOf t).run P w=.ok n w:=by
 unfold dI at h
 obtain ⟨i,hi,rfl⟩:=Option.map_eq_some_iff.1 h
 simp [sizeOf,typeInfo,hi]
theorem jF {t:TypeId}{r:Option Nat}(h:Tc P t=some r)(w:World):
  (isAgg t).run P w=.ok r.isSome w∧∀n,r=some n→(sizeOf t).run P w=.ok n w:=by
 unfold Tc at h
 split at h
 ·rename_i hu hs
  simp only [Option.some.injEq] at h;subst h
  exact ⟨by simp [isAgg,run_underlying hu],fun n e=>by cases e;exact cu hs w⟩
 ·rename_i hu hs
  simp only [Option.some.injEq] at h;subst h
  exact ⟨by simp [isAgg,run_underlying hu],fun n e=>by cases e;exact cu hs w⟩
 ·rename_i d n hn1 hn2 hu hs
  simp only [Option.some.injEq] at h;subst h
  refine ⟨?_,fun n e=>by cases e⟩
  simp only [isAgg,Sem.run_bind,run_underlying hu,Result.andThen_ok]
  rfl
 ·simp at h
theorem addr_add (b o i:Nat):(⟨b,o,none⟩:Addr).add i=⟨b,o+i,none⟩:=by unfold Addr.add;split<;>simp_all
theorem yR {t:TypeId}{b o:Nat}{v:Value}(h:Tc P t=some none)(hc:w.cell? ⟨b,o,none⟩=some v):
  (loadVar t ⟨b,o,none⟩).run P w=.ok v w:=by
 simp [loadVar,(jF h w).1,hc]
theorem yS {t:TypeId}{b o n:Nat}{vs:List Value}(h:Tc P t=some (some n))(hl:vs.length=n)
  (hc:∀j v,vs[j]?=some v→w.cell? ⟨b,o+j,none⟩=some v):(loadVar t ⟨b,o,none⟩).run P w=.ok (.agg vs.toArray) w:=by
 have:=run_loadCells_list (P:=P) w ⟨b,o,none⟩ vs (fun j v hv=>by rw [addr_add];exact hc j v hv)
 simp [loadVar,(jF h w).1,(jF h w).2 n rfl,←hl,this]
theorem jK {t:TypeId}{l:List X}(h:nY P t=some l)(w:World):
  ∃z,(zeroValue t).run P w=.ok z w∧(∀(K:Kn) (C:List CB),dS K C l z.cells.toList)∧dI P t=some l.length∧0<l.length:=by
 unfold nY at h
 split at h
 ·rename_i z n hz hn
  split at h
  ·rename_i l' hl
   split at h
   ·rename_i hc
    simp only [Option.some.injEq] at h;subst h
    simp only [Bool.and_eq_true,beq_iff_eq,decide_eq_true_eq] at hc
    obtain ⟨i,hi,hiz⟩:=Option.bind_eq_some_iff.1 hz
    exact ⟨z,by simp [zeroValue,typeInfo,hi,hiz],fun K C=>vN K C hl,by rw [hn,hc.1],by omega⟩
   ·simp at h
  ·simp at h
 ·simp at h
theorem bQ {es:List (List X)}{i j:Nat}{y:X}:at2 es i j=some y↔∃e,es[i]?=some e∧e[j]?=some y:=by
 simp [at2,Option.bind_eq_some_iff]
theorem aH (arr:Array Value)(j:Nat):arr.toList[j]?=arr[j]?:=by simp
theorem QM (h:Inv P R K C σ.bx w){p:X}{pv:Value}{cs:List X}(hp:Rep K C p pv)(e:iL σ p=some cs):
  ∃b o vs,pv=.pointer (some ⟨b,o,none⟩)∧dS K C cs vs∧∀j v,vs[j]?=some v→w.cell? ⟨b,o+j,none⟩=some v:=by
 unfold iL at e
 split at e
 ·rename_i i el o
  cases hp with
  |ptr hc=>
   rename_i b base hi sz
   split at e
   ·rename_i cs0 hb
    split at e
    ·rename_i h0
     simp only [Option.some.injEq] at e;subst e
     have h0:el=0:=by simpa using h0
     subst h0
     obtain ⟨h1,h2,arr,t,hbl,hr⟩:=h.box i _ _ hb hc
     subst h1
     refine ⟨_,_,arr.toList.drop o,rfl,hr.drop o,fun j v hv=>?_⟩
     rw [List.getElem?_drop,aH] at hv
     simpa [World.cell?,hbl] using hv
    ·simp at e
   ·rename_i sz' es hb
    obtain ⟨e0,he0,rfl⟩:=Option.map_eq_some_iff.1 e
    obtain ⟨h1,h2,h3,arr,t,hbl,hl,hr⟩:=h.box i _ _ hb hc
    subst h1
    have hlen:=h3 e0 (List.mem_of_getElem? he0)
    have hi1:=(List.getElem?_eq_some_iff.1 he0).1
    have hm:el*sz+sz≤es.length*sz:=by
     have:=Nat.mul_le_mul_right sz (show el+1≤es.length from hi1)
     rw [Nat.add_mul,Nat.one_mul] at this;exact this
    have hcr:dS K C e0 ((arr.toList.drop (base+el*sz)).take sz):=by
     refine ⟨by simp [hlen];omega,fun y hy=>?_,fun j y v ey ev=>?_⟩
     ·obtain ⟨j,hj,rfl⟩:=List.mem_iff_getElem.1 hy
      exact (hr el j _ (bQ.2 ⟨e0,he0,List.getElem?_eq_getElem hj⟩)).1
     ·obtain ⟨_,u,hu,hru⟩:=hr el j y (bQ.2 ⟨e0,he0,ey⟩)
      have hj:=(List.getElem?_eq_some_iff.1 ey).1
      rw [List.getElem?_take,if_pos (by omega),List.getElem?_drop,aH,hu] at ev
      cases ev
      exact hru.mono (KLe.refl _) (CLe.nil _)
    refine ⟨_,_,((arr.toList.drop (base+el*sz)).take sz).drop o,rfl,hcr.drop o,fun j v hv=>?_⟩
    rw [List.getElem?_drop,List.getElem?_take] at hv
    split at hv
    ·rw [List.getElem?_drop,aH] at hv
     have:base+el*sz+(o+j)=base+el*sz+o+j:=by omega
     rw [this] at hv
     simpa [World.cell?,hbl] using hv
    ·simp at hv
   ·simp at e
 ·cases hp with
  |dp vals hcell hk hr=>
   rename_i b o
   simp only [Option.some.injEq] at e;subst e
   rename_i cs0
   refine ⟨b,o,(List.range cs0.length).map vals,rfl,⟨by simp,fun y hy=>?_,fun j y v ey ev=>?_⟩,fun j v hv=>?_⟩
   ·obtain ⟨j,hj,rfl⟩:=List.mem_iff_getElem.1 hy
    exact hcell j _ (List.getElem?_eq_getElem hj)
   ·have hj:=(List.getElem?_eq_some_iff.1 ey).1
    simp [hj] at ev;subst ev
    exact (hr j y ey).mono (KLe.refl _) (CLe.nil _)
   ·rw [List.getElem?_map] at hv
    obtain ⟨j',hj',rfl⟩:=Option.map_eq_some_iff.1 hv
    have hj:=(List.getElem?_eq_some_iff.1 hj').1
    simp at hj
    have:j'=j:=by simpa [hj] using hj'.symm
    subst this
    exact h.known _ _ _ (hk j' _ (List.getElem?_eq_getElem hj))
 ·simp at e
theorem Il (h:Inv P R K C σ.bx w){p y:X}{pv:Value}{n:Option Nat}{t:TypeId}(ht:Tc P t=some n)(hp:Rep K C p pv)(e:lN σ n p=some y):
  ∃b o v,pv=.pointer (some ⟨b,o,none⟩)∧(loadVar t ⟨b,o,none⟩).run P w=.ok v w∧Rep K C y v:=by
 unfold lN at e
 cases hcs:iL σ p with
 |none=>simp [hcs] at e
 |some cs=>
  simp only [hcs] at e
  obtain ⟨b,o,vs,rfl,hr,hc⟩:=QM h hp hcs
  cases n with
  |none=>
   have e0:cs[0]?=some y:=by simpa [List.head?_eq_getElem?] using e
   obtain ⟨v,hv,hrv⟩:=hr.get e0
   exact ⟨b,o,v,rfl,yR ht (by simpa using hc 0 v hv),hrv⟩
  |some n=>
   simp only at e
   split at e
   ·rename_i hlen
    simp only [Option.some.injEq] at e;subst e
    have hlen:(cs.take n).length=n:=by simpa using hlen
    have ht':=hr.take n
    refine ⟨b,o,.agg (vs.take n).toArray,rfl,yS ht (by rw [ht'.len];exact hlen) (fun j v hv=>?_),?_⟩
    ·rw [List.getElem?_take] at hv
     split at hv
     ·exact hc j v hv
     ·simp at hv
    ·exact .agg (by simpa using ht'.len) ht'.cell (fun j z v ez ev=>ht'.rep j z v ez (by simpa using ev))
   ·simp at e
def Did (n:Next)(v:Value):Prop:=n=.value v∨(n=.skip∧v=undef)
def dB (P:Program)(R:aN)(x:Ctx)(σ:St)(a:Act)(w:World)(o:Oper)(y:X)(bx:List Bx):Prop:=
 ∃(K':Kn) (C':List CB) (nx:Next) (v:Value) (w':World),(execOp a.eval o).run P w=.ok nx w'∧Did nx v∧Em.Rel P R x K' C' ⟨σ.tm,bx⟩ a w'∧Rep K' C' y v
theorem dB.still {o:Oper}{y:X}{v:Value}(h:Rel P R x K C σ a w)(hr:(execOp a.eval o).run P w=.ok (.value v) w)(hy:Rep K C y v):dB P R x σ a w o y σ.bx:=
 ⟨K,C,_,v,w,hr,.inl rfl,h,hy⟩
variable {o:Oper} {y:X} {bx:List Bx} {fp:FP} {A:Ann} {Γ:Gam}
theorem mX (w:World)(o:Obj):(w.alloc o).heap[w.heap.size]?=some o:=by
 show (w.heap.push o)[w.heap.size]?=_
 simp
theorem NP {i b hi sz:Nat}(hc:C[i]?=some (.at b 0 hi sz)):Rep K C (.ptr i 0 0) (.pointer (some ⟨b,0,none⟩)):=by
 have:=Rep.ptr (K:=K) (e:=0) (o:=0) hc
 simpa using this
theorem eH {u v:Value}(h:Rep K C (.v u) v):v=u:=by cases h;rfl
theorem zbb {z:Operand}{q:Opd}{t:TypeId}(h:Rel P R x K C σ a w)(ho:o.op=.move z∨o.op=.assign z)(hq:aS P R.gl t z=some q)(hy:σ.ev q=some y):dB P R x σ a w o y σ.bx:=by
 refine .still h (v:=a.eval z) ?_ (aY h.inv.glob h.tm hq hy)
 rcases ho with ho|ho<;>simp [execOp,ho]
theorem zcM {c p q:Operand}{c' p' q':Opd}{t1 t2 t3:TypeId}{b:Bool}{y1 y2:X}(h:Rel P R x K C σ a w)(ho:o.op=.pick c p q)(hc:aS P R.gl t1 c=some c')(hp:aS P R.gl t2 p=some p')(hq:aS P R.gl t3 q=some q')
  (ec:σ.ev c'=some (.v (.bool b))) (ep:σ.ev p'=some y1) (eq:σ.ev q'=some y2):dB P R x σ a w o (if b then y1 else y2) σ.bx:=by
 have r1:=aY h.inv.glob h.tm hc ec
 have r2:=aY h.inv.glob h.tm hp ep
 have r3:=aY h.inv.glob h.tm hq eq
 have e1:a.eval c=.bool b:=eH r1
 refine .still h (v:=if b then a.eval p else a.eval q) ?_ ?_
 ·simp [execOp,ho,e1,asBool]
 ·cases b
  ·exact r3
  ·exact r2
theorem zcP {t t1:TypeId}{z:Operand}{q:Opd}{n:Option Nat}{p:X}(h:Rel P R x K C σ a w)(ho:o.op=.load t z)(ht:Tc P t=some n)(hq:aS P R.gl t1 z=some q)(hp:σ.ev q=some p)
  (e:lN σ n p=some y):dB P R x σ a w o y σ.bx:=by
 obtain ⟨b,off,v,hv,hrun,hr⟩:=Il h.inv ht (aY h.inv.glob h.tm hq hp) e
 exact .still h (v:=v) (by simp [execOp,ho,Instr.loadAt,hv,Instr.sureAddr,hrun]) hr
theorem YZ {t:TypeId}{l:List X}(h:Rel P R x K C σ a w)(ho:o.op=.alloc t)(hz:nY P t=some l):dB P R x σ a w o (.ptr σ.bx.length 0 0) (σ.bx++[.var l]):=by
 obtain ⟨z,hrun,hr,_,hpos⟩:=jK hz w
 have hc:(C++[CB.at w.heap.size 0 l.length l.length])[σ.bx.length]?=some (.at w.heap.size 0 l.length l.length):=by
  rw [←h.inv.size];simp
 refine ⟨K,C++[.at w.heap.size 0 l.length l.length],_,.pointer (some ⟨w.heap.size,0,none⟩),w.alloc (.cells z.cells t),?_,.inl rfl,?_,?_⟩
 ·simp [execOp,ho,Instr.alloc,hrun,newVar,newRow]
 ·refine h.push _ ⟨rfl,rfl,z.cells,t,mX _ _,(hr K _)⟩ (fun b k hw=>hw.1)
 ·exact NP hc
theorem zg3 {t t1:TypeId}{z:Operand}{q:Opd}{p:X}(h:Rel P R x K C σ a w)(ho:o.op=.box t z)(hq:aS P R.gl t1 z=some q)(hp:σ.ev q=some p)(h1:p.ok1=true):
  dB P R x σ a w o (.ptr σ.bx.length 0 0) (σ.bx++[.var p.cells]):=by
 have hr:=(aY h.inv.glob h.tm hq hp).cells h1
 have hc:(C++[CB.at w.heap.size 0 p.cells.length p.cells.length])[σ.bx.length]?=some (.at w.heap.size 0 p.cells.length p.cells.length):=by
  rw [←h.inv.size];simp
 refine ⟨K,C++[.at w.heap.size 0 p.cells.length p.cells.length],_,.pointer (some ⟨w.heap.size,0,none⟩),w.alloc (.cells (a.eval z).cells t),?_,.inl rfl,?_,?_⟩
 ·simp [execOp,ho,Instr.box,newVar,newRow]
 ·refine h.push _ ⟨rfl,rfl,(a.eval z).cells,t,mX _ _,hr.mono (KLe.refl _) (CLe.append _ _)⟩ (fun b k hw=>hw.1)
 ·exact NP hc
theorem NU {t t1:TypeId}{z:Operand}{q:Opd}{f:Nat}{fs:Array Field}{fd:Field}{n:Nat}{p:X}(h:Rel P R x K C σ a w)(ho:o.op=.fieldAddr t z f)(hu:P.underlying t=some (.struct fs))(hf:fs[f]?=some fd)
  (hn:dI P fd.type=some (n+1)) (hq:aS P R.gl t1 z=some q) (hp:σ.ev q=some p)
  (e:(match p with|.ptr i e o=>some (X.ptr i e (o+fd.offset))|.dp cs=>some (.dp (cs.drop fd.offset))|_=>none)=some y):dB P R x σ a w o y σ.bx:=by
 have hr:=aY h.inv.glob h.tm hq hp
 have key:∀b k,a.eval z=.pointer (some ⟨b,k,none⟩)→Rep K C y (.pointer (some ⟨b,k+fd.offset,none⟩))→dB P R x σ a w o y σ.bx:=by
  intro b k hv hy
  refine .still h (v:=.pointer (some ⟨b,k+fd.offset,none⟩)) ?_ hy
  simp [execOp,ho,Instr.fieldAt,run_underlying hu,hf,hv,Instr.sureAddr,fieldPlace,cu hn w,addr_add]
 split at e
 ·rename_i i el k
  simp only [Option.some.injEq] at e;subst e
  generalize hv:a.eval z=v at hr
  cases hr with
  |ptr hc=>exact key _ _ hv (by rw [Nat.add_assoc];exact .ptr hc)
 ·rename_i cs
  simp only [Option.some.injEq] at e;subst e
  generalize hv:a.eval z=v at hr
  cases hr with
  |dp vals hcell hk hr=>
   rename_i b k
   refine key _ _ hv (.dp (fun j=>vals (fd.offset+j)) (fun j z e=>hcell (fd.offset+j) z (by simpa using e)) (fun j z e=>?_) (fun j z e=>hr _ z (by simpa using e)))
   rw [Nat.add_assoc];exact hk _ z (by simpa using e)
 ·simp at e
theorem pW {α:Type}{s:Sem α}{v:α}(h:bJ s=some v)(w:World):s.run P w=.ok v w:=by
 cases s<;>simp [bJ] at h;subst h;rfl
theorem rC {op:BinOp}{k k':IntKind}{m n:Int}{z:Value}(e:bJ (binOp op 0 (.int k m) (.int k' n))=some z):okV z=true:=by
 have sh:∀op,bJ (Op.shift op k m k' n)=some z→okV z=true:=by
  intro op e
  unfold Op.shift at e
  split at e
  ·simp [runtimePanic,bJ,program,bind,Sem.bind] at e
  ·dsimp only at e;split at e<;>simp [bJ,pure,stuck] at e<;>(subst e;rfl)
 have ar:∀op,bJ (Op.intArith op k m n)=some z→okV z=true:=by
  intro op e
  unfold Op.intArith at e
  split at e<;>simp [bJ,pure,stuck] at e<;>(subst e;rfl)
 have dv:∀op,bJ (Op.intDiv op k m n)=some z→okV z=true:=by
  intro op e
  unfold Op.intDiv at e
  split at e
  ·simp [runtimePanic,bJ,program,bind,Sem.bind] at e
  ·split at e<;>simp [bJ,pure,stuck] at e<;>(subst e;rfl)
 have bt:∀op,bJ (Op.intBits op k m n)=some z→okV z=true:=by
  intro op e
  unfold Op.intBits at e
  dsimp only at e
  split at e<;>simp [bJ,pure,stuck] at e<;>(subst e;rfl)
 have cm:∀op,bJ (Op.intCmp op m n)=some z→okV z=true:=by
  intro op e
  unfold Op.intCmp at e
  split at e<;>simp [bJ,pure,stuck] at e<;>(subst e;rfl)
 cases op<;>simp only [binOp] at e<;>first
  |exact sh _ e
  |(split at e
    ·simp [bJ,stuck] at e
    ·first|exact ar _ e|exact dv _ e|exact bt _ e|exact cm _ e)
theorem zfq {op:BinOp}{u v z:Value}(e:jq op u v=some z):okV z=true:=by
 unfold jq at e
 split at e
 ·exact rC e
 ·rename_i m n
  by_cases hc:((m.size+n.size:Nat):Int)>IntKind.i64.max
  ·cases op<;>simp only [binOp,Op.stringOp,hc,if_true] at e<;>first
    |(simp [bJ,pure,stuck,unsupported] at e;done)
    |(simp only [bJ,pure,Option.some.injEq] at e;subst e;rfl)
  ·cases op<;>simp only [binOp,Op.stringOp,hc,if_false] at e<;>first
    |(simp [bJ,pure,stuck] at e;done)
    |(simp only [bJ,pure,Option.some.injEq] at e;subst e;rfl)
 ·simp at e
theorem RZ {op:BinOp}{t:TypeId}{u v z:Value}(e:jq op u v=some z)(w:World):(binOp op t u v).run P w=.ok z w:=by
 unfold jq at e
 split at e
 ·rw [show binOp op t (.int _ _) (.int _ _)=binOp op 0 (.int _ _) (.int _ _) from by cases op<;>rfl]
  exact pW e w
 ·rw [show binOp op t (.string _) (.string _)=binOp op 0 (.string _) (.string _) from by cases op<;>rfl]
  exact pW e w
 ·simp at e
theorem Bl {op:BinOp}{t:TypeId}{p q:Operand}{u v z:Value}(e:jq op u v=some z)(w:World):(eqGuard op t p q u v).run P w=.ok () w:=by
 unfold jq at e
 split at e
 ·unfold eqGuard;split<;>simp
 ·unfold eqGuard;split<;>simp
 ·simp at e
theorem zbc {op:BinOp}{t t1 t2 u:TypeId}{p q:Operand}{p' q':Opd}{m n z:Value}(h:Rel P R x K C σ a w)(ho:o.op=.binOp op t p q u)(hp:aS P R.gl t1 p=some p')(hq:aS P R.gl t2 q=some q')
  (ep:σ.ev p'=some (.v m)) (eq:σ.ev q'=some (.v n)) (e:jq op m n=some z):dB P R x σ a w o (.v z) σ.bx:=by
 have r1:=eH (aY h.inv.glob h.tm hp ep)
 have r2:=eH (aY h.inv.glob h.tm hq eq)
 refine .still h (v:=z) ?_ (.v (zfq e))
 simp [execOp,ho,r1,r2,Bl e w,RZ e w]
theorem I7 {t:TypeId}(hu:P.underlying t=some .bool)(d:Nat)(m n:Bool)(w:World):(Op.equalIn (d+1) t (.bool m) (.bool n)).run P w=.ok (m==n) w:=by
 simp [Op.equalIn,run_underlying hu]
theorem zbd {op:BinOp}{t t1 t2 u:TypeId}{p q:Operand}{p' q':Opd}{m n:Bool}(h:Rel P R x K C σ a w)(ho:o.op=.binOp op t p q u)(hu:P.underlying t=some .bool)(hop:op=.eql∨op=.neq)(hp:aS P R.gl t1 p=some p')(hq:aS P R.gl t2 q=some q')
  (ep:σ.ev p'=some (.v (.bool m))) (eq:σ.ev q'=some (.v (.bool n))):dB P R x σ a w o (.v (.bool (if op=.neq then !(m==n) else m==n))) σ.bx:=by
 have r1:=eH (aY h.inv.glob h.tm hp ep)
 have r2:=eH (aY h.inv.glob h.tm hq eq)
 refine .still h (v:=.bool (if op=.neq then !(m==n) else m==n)) ?_ (.v rfl)
 have he:(Op.equal t (.bool m) (.bool n)).run P w=.ok (m==n) w:=I7 hu 9999 m n w
 have hg:(eqGuard op t p q (.bool m) (.bool n)).run P w=.ok () w:=by unfold eqGuard;split<;>rfl
 have b1:binOp .eql t (.bool m) (.bool n)=(do pure (.bool (←Op.equal t (.bool m) (.bool n))):Sem Value):=rfl
 have b2:binOp .neq t (.bool m) (.bool n)=(do pure (.bool (!(←Op.equal t (.bool m) (.bool n)))):Sem Value):=rfl
 generalize Op.equal t (.bool m) (.bool n)=s at he b1 b2
 have hb:(binOp op t (.bool m) (.bool n)).run P w=.ok (.bool (if op=.neq then !(m==n) else m==n)) w:=by
  rcases hop with rfl|rfl
  ·rw [b1];simp [he]
  ·rw [b2];simp [he]
 simp only [execOp,ho,r1,r2,Sem.run_bind,hg,hb,Result.andThen_ok]
 rfl
theorem zjP {op:UnOp}{t t1:TypeId}{p:Operand}{p':Opd}{m z:Value}(h:Rel P R x K C σ a w)(ho:o.op=.unOp op t p)(hp:aS P R.gl t1 p=some p')(ep:σ.ev p'=some (.v m))(e:unV op m=some z):
  dB P R x σ a w o (.v z) σ.bx:=by
 have r1:=eH (aY h.inv.glob h.tm hp ep)
 unfold unV at e
 split at e
 ·refine .still h (v:=z) (by simp [execOp,ho,r1,pW e w]) (.v ?_)
  rename_i k n
  cases op
  ·exact rC (op:=.sub) (k:=k) (k':=k) (m:=0) (n:=n) (by simpa [binOp,Op.unary] using e)
  ·exact rC (op:=.xor) (k:=k) (k':=k) (m:=if k.signed then -1 else k.max) (n:=n) (by simpa [binOp,Op.unary] using e)
  ·simp [Op.unary,bJ,stuck] at e
  ·simp [Op.unary,bJ,stuck] at e
 ·refine .still h (v:=z) (by simp [execOp,ho,r1,pW e w]) (.v ?_)
  cases op<;>simp [Op.unary,bJ,pure,stuck] at e
  subst e;rfl
 ·simp at e
end Go.Em
namespace Go.Em
variable {P:Program} {R:aN} {x:Ctx} {K:Kn} {C:List CB} {σ:St} {a:Act} {w:World}
structure Flat (K:Kn) (sz:Nat) (es:List (List X)) (flat:List Value):Prop where
 len:flat.length=es.length*sz
 elems:∀(e:List X),e∈es→e.length=sz
 get:∀(i j:Nat) (y:X),at2 es i j=some y→y.dO=true∧∃v,flat[i*sz+j]?=some v∧Rep K [] y v
theorem Pj {es:List (List X)}{sz i j:Nat}{y:X}(h:∀(e:List X),e∈es→e.length=sz)(e:at2 es i j=some y):i<es.length∧j<sz∧i*sz+j<es.length*sz:=by
 obtain ⟨e0,he,hj⟩:=bQ.1 e
 have h1:=(List.getElem?_eq_some_iff.1 he).1
 have h2:=(List.getElem?_eq_some_iff.1 hj).1
 rw [h e0 (List.mem_of_getElem? he)] at h2
 refine ⟨h1,h2,?_⟩
 have:=Nat.mul_le_mul_right sz (show i+1≤es.length from h1)
 rw [Nat.add_mul,Nat.one_mul] at this;omega
theorem Flat.mono {K K':Kn}{sz:Nat}{es:List (List X)}{flat:List Value}(h:Flat K sz es flat)(hK:KLe K K'):Flat K' sz es flat:=
 ⟨h.len,h.elems,fun i j y e=>let ⟨hc,v,hv,hr⟩:=h.get i j y e;⟨hc,v,hv,hr.mono hK (CLe.refl _)⟩⟩
theorem Flat.nil {K:Kn}{sz:Nat}:Flat K sz [] []:=⟨by simp,by simp,by simp [at2]⟩
theorem Flat.append {sz:Nat}{es fs:List (List X)}{l m:List Value}(h:Flat K sz es l)(h':Flat K sz fs m):Flat K sz (es++fs) (l++m):=by
 refine ⟨by simp [h.len,h'.len,Nat.add_mul],fun e he=>?_,fun i j y e=>?_⟩
 ·rcases List.mem_append.1 he with he|he
  ·exact h.elems e he
  ·exact h'.elems e he
 ·obtain ⟨e0,he,hj⟩:=bQ.1 e
  by_cases hi:i<es.length
  ·rw [List.getElem?_append_left hi] at he
   obtain ⟨hc,v,hv,hr⟩:=h.get i j y (bQ.2 ⟨e0,he,hj⟩)
   exact ⟨hc,v,by rw [List.getElem?_append_left (List.getElem?_eq_some_iff.1 hv).1];exact hv,hr⟩
  ·rw [List.getElem?_append_right (by omega)] at he
   obtain ⟨hc,v,hv,hr⟩:=h'.get (i-es.length) j y (bQ.2 ⟨e0,he,hj⟩)
   refine ⟨hc,v,?_,hr⟩
   have hm:es.length*sz≤i*sz:=Nat.mul_le_mul_right sz (by omega)
   rw [List.getElem?_append_right (by rw [h.len];omega),h.len,←hv]
   congr 1
   rw [Nat.sub_mul];omega
theorem Flat.drop {sz:Nat}{es:List (List X)}{l:List Value}(h:Flat K sz es l)(n:Nat):Flat K sz (es.drop n) (l.drop (n*sz)):=by
 refine ⟨by simp [h.len,Nat.sub_mul],fun e he=>h.elems e (List.mem_of_mem_drop he),fun i j y e=>?_⟩
 obtain ⟨e0,he,hj⟩:=bQ.1 e
 rw [List.getElem?_drop] at he
 obtain ⟨hc,v,hv,hr⟩:=h.get (n+i) j y (bQ.2 ⟨e0,he,hj⟩)
 refine ⟨hc,v,?_,hr⟩
 rw [List.getElem?_drop,←hv]
 congr 1
 rw [Nat.add_mul];omega
theorem Flat.take {sz:Nat}{es:List (List X)}{l:List Value}(h:Flat K sz es l)(n:Nat):Flat K sz (es.take n) (l.take (n*sz)):=by
 refine ⟨?_,fun e he=>h.elems e (List.mem_of_mem_take he),fun i j y e=>?_⟩
 ·rw [List.length_take,List.length_take,h.len]
  by_cases hn:n≤es.length
  ·rw [Nat.min_eq_left hn,Nat.min_eq_left (Nat.mul_le_mul_right sz hn)]
  ·have h2:es.length≤n:=by omega
   rw [Nat.min_eq_right h2,Nat.min_eq_right (Nat.mul_le_mul_right sz h2)]
 obtain ⟨e0,he,hj⟩:=bQ.1 e
 rw [List.getElem?_take] at he
 split at he
 ·rename_i hi
  have hb:=Pj h.elems (bQ.2 ⟨e0,he,hj⟩)
  obtain ⟨hc,v,hv,hr⟩:=h.get i j y (bQ.2 ⟨e0,he,hj⟩)
  refine ⟨hc,v,?_,hr⟩
  have:=Nat.mul_le_mul_right sz (show i+1≤n from hi)
  rw [Nat.add_mul,Nat.one_mul] at this
  rw [List.getElem?_take,if_pos (by omega)];exact hv
 ·simp at he
theorem Flat.one {sz:Nat}{e:List X}{l:List Value}(h:dS K [] e l)(he:e.length=sz):Flat K sz [e] l:=by
 refine ⟨by simp [h.len,he],by simp [he],fun i j y ey=>?_⟩
 obtain ⟨e0,h0,hj⟩:=bQ.1 ey
 have hi:=(List.getElem?_eq_some_iff.1 h0).1
 simp at hi;subst hi
 simp at h0;subst h0
 obtain ⟨v,hv,hr⟩:=h.get hj
 exact ⟨h.cell y (List.mem_of_getElem? hj),v,by simpa using hv,hr⟩
theorem Flat.oneCell {sz:Nat}{es:List (List X)}{l:List Value}(h:Flat K sz es l):∀v,v∈l→v.oneCell'=true:=by
 intro v hv
 obtain ⟨k,hk,rfl⟩:=List.mem_iff_getElem.1 hv
 have hsz:0<sz:=by
  rcases Nat.eq_zero_or_pos sz with h0|h0
  ·rw [h.len,h0] at hk;simp at hk
  ·exact h0
 have hi:k /sz<es.length:=by
  rw [h.len] at hk
  exact (Nat.div_lt_iff_lt_mul hsz).2 hk
 have he:=List.getElem?_eq_getElem hi
 have hj:k%sz<(es[k /sz]).length:=by rw [h.elems _ (List.getElem_mem hi)];exact Nat.mod_lt _ hsz
 obtain ⟨hc,u,hu,hr⟩:=h.get (k /sz) (k%sz) _ (bQ.2 ⟨_,he,List.getElem?_eq_getElem hj⟩)
 have:k /sz*sz+k%sz=k:=by rw [Nat.mul_comm];exact Nat.div_add_mod k sz
 rw [this,List.getElem?_eq_getElem hk] at hu
 cases hu
 exact hr.oneCell hc
theorem Rep.flat {t:Bool}{sz:Nat}{es:List (List X)}{b o cap n:Nat}(h:Rep K C (.sl t sz es) (.slice (some ⟨b,o,none⟩) n cap)):
  ∃l,Flat K sz es l∧∀k v,l[k]?=some v→K b (o+k)=some v:=by
 cases h with
 |fE=>exact ⟨[],Flat.nil,fun k v e=>by simp at e⟩
 |sl vals hlen ht hcap hcell hk hr=>
  refine ⟨(List.range (es.length*sz)).map fun k=>vals (k /sz) (k%sz),⟨by simp,hlen,fun i j y e=>?_⟩,fun k v hv=>?_⟩
  ·obtain ⟨h1,h2,h3⟩:=Pj hlen e
   refine ⟨hcell i j y e,vals i j,?_,hr i j y e⟩
   have hsz:0<sz:=by omega
   have e1:(i*sz+j) /sz=i:=by
    rw [Nat.mul_comm,Nat.mul_add_div hsz,Nat.div_eq_of_lt h2];rfl
   have e2:(i*sz+j)%sz=j:=by
    rw [Nat.mul_comm,Nat.mul_add_mod,Nat.mod_eq_of_lt h2]
   simp [h3,e1,e2]
  ·rw [List.getElem?_map] at hv
   obtain ⟨k',hk',rfl⟩:=Option.map_eq_some_iff.1 hv
   have hlt:=(List.getElem?_eq_some_iff.1 hk').1
   simp at hlt
   have:k'=k:=by simpa [hlt] using hk'.symm
   subst this
   have hsz:0<sz:=by
    rcases Nat.eq_zero_or_pos sz with h0|h0
    ·rw [h0] at hlt;simp at hlt
    ·exact h0
   have hi:k' /sz<es.length:=(Nat.div_lt_iff_lt_mul hsz).2 hlt
   have hj:k'%sz<(es[k' /sz]).length:=by rw [hlen _ (List.getElem_mem hi)];exact Nat.mod_lt _ hsz
   have:=hk (k' /sz) (k'%sz) _ (bQ.2 ⟨_,List.getElem?_eq_getElem hi,List.getElem?_eq_getElem hj⟩)
   have e:k' /sz*sz+k'%sz=k':=by rw [Nat.mul_comm];exact Nat.div_add_mod k' sz
   rw [Nat.add_assoc,e] at this;exact this
theorem Flat.rep {t:Bool}{sz:Nat}{es:List (List X)}{l:List Value}{b o cap:Nat}(h:Flat K sz es l)(hk:∀k v,l[k]?=some v→K b (o+k)=some v)
  (ht:t=true→cap=es.length) (hcap:es.length≤cap):Rep K C (.sl t sz es) (.slice (some ⟨b,o,none⟩) es.length cap):=by
 refine .sl (fun i j=>l.getD (i*sz+j) undef) h.elems ht hcap (fun i j y e=>(h.get i j y e).1) (fun i j y e=>?_) (fun i j y e=>?_)
 ·obtain ⟨_,v,hv,_⟩:=h.get i j y e
  rw [Nat.add_assoc,hk _ v hv];simp [List.getD,hv]
 ·obtain ⟨_,v,hv,hr⟩:=h.get i j y e
  simp only [List.getD,hv];exact hr
theorem BoxOk.flat {sz sz':Nat}{es:List (List X)}{b base hi:Nat}(h:BoxOk P R K C w (.row sz es) (.at b base hi sz')):
  ∃(arr:Array Value) (el:TypeId),sz'=sz∧base+es.length*sz≤hi∧hi≤arr.size∧w.heap[b]?=some (.cells arr el (0,0))∧Flat K sz es ((arr.toList.drop base).take (es.length*sz)):=by
 obtain ⟨h1,h2,h3,arr,el,hb,hl,hr⟩:=h
 refine ⟨arr,el,h1,h2,hl,hb,⟨by simp;omega,h3,fun i j y e=>?_⟩⟩
 obtain ⟨hc,v,hv,hrv⟩:=hr i j y e
 obtain ⟨_,_,h4⟩:=Pj h3 e
 refine ⟨hc,v,?_,hrv⟩
 rw [List.getElem?_take,if_pos h4,List.getElem?_drop,aH,←Nat.add_assoc];exact hv
theorem Flat.box {sz:Nat}{es:List (List X)}{l:List Value}{b base hi:Nat}{arr:Array Value}{el:TypeId}(h:Flat K sz es l)(hb:w.heap[b]?=some (.cells arr el (0,0)))
  (hl:∀k v,l[k]?=some v→arr[base+k]?=some v) (hfit:base+es.length*sz≤hi) (hhi:hi≤arr.size):BoxOk P R K C w (.row sz es) (.at b base hi sz):=
 ⟨rfl,hfit,h.elems,arr,el,hb,hhi,fun i j y e=>by
  obtain ⟨hc,v,hv,hr⟩:=h.get i j y e
  exact ⟨hc,v,by rw [Nat.add_assoc];exact hl _ v hv,hr⟩⟩
theorem sK {α:Type}(n i:Nat)(z:α):(List.replicate n z)[i]?=if i<n then some z else none:=by
 rw [List.getElem?_replicate]
theorem Flat.made {sz n m:Nat}{z:List X}{zs:Array Value}(h:dS K [] z zs.toList)(hz:z.length=sz)(hnm:n≤m):
  Flat K sz (List.replicate n z) ((madeCells zs (m*sz)).toList.take (n*sz)):=by
 have hs:zs.size=sz:=by have:=h.len;simp at this;omega
 refine ⟨?_,fun e he=>?_,fun i j y e=>?_⟩
 ·have:=Nat.mul_le_mul_right sz hnm
  simp only [List.length_take,Array.length_toList,size_madeCells,List.length_replicate];omega
 ·rw [List.eq_of_mem_replicate he];exact hz
 ·obtain ⟨e0,he,hj⟩:=bQ.1 e
  rw [sK] at he
  split at he
  ·rename_i hi
   simp only [Option.some.injEq] at he;subst he
   obtain ⟨v,hv,hr⟩:=h.get hj
   refine ⟨h.cell y (List.mem_of_getElem? hj),v,?_,hr⟩
   have hjs:=(List.getElem?_eq_some_iff.1 hj).1
   have h1:=Nat.mul_le_mul_right sz (show i+1≤n from hi)
   rw [Nat.add_mul,Nat.one_mul] at h1
   have h2:=Nat.mul_le_mul_right sz hnm
   rw [List.getElem?_take,if_pos (by omega),aH]
   have hm:(i*sz+j)%zs.size=j:=by rw [hs,Nat.mul_comm,Nat.mul_add_mod,Nat.mod_eq_of_lt (by omega)]
   unfold madeCells
   have hlt:i*sz+j<m*sz:=by omega
   have hv':zs[j]?=some v:=by rw [←aH];exact hv
   simp [hlt,hm,getElem!_def,hv']
  ·simp at he
end Go.Em
namespace Go.Em
variable {P:Program} {R:aN} {x:Ctx} {K:Kn} {C:List CB} {σ:St} {a:Act} {w:World}
variable {o:Oper} {y:X} {bx:List Bx} {fp:FP} {A:Ann} {Γ:Gam}
theorem zW (off:Nat):∀(l:List Value) (k:Nat) (cells:Array Value),off+k+l.length≤cells.size→
  ((l.zipIdx k).foldl (fun (cs:Array Value) (p:Value×Nat)=>cs.setIfInBounds (off+p.2) p.1) cells).toList=cells.toList.take (off+k)++l++cells.toList.drop (off+k+l.length)
 |[],k,cells,_=>by simp
 |v::r,k,cells,h=>by
  simp only [List.zipIdx_cons,List.foldl_cons]
  rw [zW off r (k+1) (cells.setIfInBounds (off+k) v) (by simp at h ⊢;omega)]
  have e:=list_seg_step cells.toList (off+k) v r (by simp at h ⊢;omega)
  simpa [Array.toList_setIfInBounds,Nat.add_assoc] using e
theorem I4 (place:Nat→Option (Nat×Nat))(cells:Array Value)(i off size:Nat)(v:Value)(rest:List (Nat×Value))(hp:place i=some (off,size))(hs:v.cells.size=size)
  (hf:off+v.cells.size≤cells.size):
  ∃cells',Instr.fill place cells ((i,v)::rest)=Instr.fill place cells' rest∧cells'.toList=cells.toList.take off++v.cells.toList++cells.toList.drop (off+v.cells.toList.length):=by
 refine ⟨v.cells.zipIdx.foldl (fun (cs:Array Value) (p:Value×Nat)=>cs.setIfInBounds (off+p.2) p.1) cells,?_,?_⟩
 ·have h1:(decide (v.cells.size≠size)||decide (off+v.cells.size>cells.size))=false:=by simp [hs];omega
  simp only [Instr.fill,hp]
  rw [if_neg (by simpa using h1)]
 ·have:=zW off v.cells.toList 0 cells (by simp;omega)
  simp only [Nat.add_zero] at this
  rw [←this,←Array.foldl_toList,Array.toList_zipIdx]
theorem Fh {place:Nat→Option (Nat×Nat×TypeId)}{place':Nat→Option (Nat×Nat)}(hpl:∀i b c t,place i=some (b,c,t)→place' i=some (b,c))(hg:nV R K)(ht:wR K C σ.tm a.tmps):
  ∀{ops:List (Nat×Operand)} {qs:List (Nat×Nat×Opd)} {ps:List (Nat×Nat×X)} {zero cs:List X} {zfN:Array Value},jy P R.gl place ops=some qs→jo σ qs=some ps→
   Bh zero ps=some cs→dS K C zero zfN.toList→∃arr,Instr.fill place' zfN (ops.map fun p=>(p.1,a.eval p.2))=some arr∧dS K C cs arr.toList
 |[],qs,ps,zero,cs,zfN,h1,h2,h3,h4=>by
  simp only [jy,Option.some.injEq] at h1;subst h1
  simp only [jo,Option.some.injEq] at h2;subst h2
  simp only [Bh,Option.some.injEq] at h3;subst h3
  exact ⟨zfN,rfl,h4⟩
 |(i,op)::r,qs,ps,zero,cs,zfN,h1,h2,h3,h4=>by
  simp only [jy] at h1
  cases hp:place i with
  |none=>simp [hp] at h1
  |some q=>
   obtain ⟨b,c,t⟩:=q
   simp only [hp] at h1
   cases ho:aS P R.gl t op with
   |none=>simp [ho] at h1
   |some q=>
    cases hr:jy P R.gl place r with
    |none=>simp [ho,hr] at h1
    |some l=>
     simp only [ho,hr,Option.some.injEq] at h1;subst h1
     simp only [jo] at h2
     cases he:σ.ev q with
     |none=>simp [he] at h2
     |some y=>
      simp only [he] at h2
      obtain ⟨ps',hps,rfl⟩:=Option.map_eq_some_iff.1 h2
      simp only [Bh] at h3
      split at h3
      ·rename_i hc
       simp only [Bool.and_eq_true,beq_iff_eq] at hc
       cases hsp:splice zero b y.cells with
       |none=>simp [hsp] at h3
       |some z=>
        simp only [hsp] at h3
        have hy:=(aY hg ht ho he).cells hc.1
        obtain ⟨hz,hf⟩:=h4.splice hy hsp
        obtain ⟨cells',e1,e2⟩:=I4 place' zfN i b c (a.eval op) (r.map fun p=>(p.1,a.eval p.2)) (hpl i b c t hp) (by have:=hy.len;simp at this;omega) (by simpa using hf)
        rw [←e2] at hz
        obtain ⟨arr,h5,h6⟩:=Fh hpl hg ht hr hps h3 hz
        exact ⟨arr,by rw [List.map_cons,e1];exact h5,h6⟩
      ·simp at h3
theorem Oc {α β:Type}(f:α→Sem β)(g:α→β)(w:World):∀(l:List α),(∀x,x∈l→(f x).run P w=.ok (g x) w)→(l.mapM f).run P w=.ok (l.map g) w
 |[],_=>by simp
 |x::r,h=>by
  have ih:=Oc f g w r (fun y hy=>h y (by simp [hy]))
  simp [List.mapM_cons,h x (by simp),ih]
theorem Ik {α β:Type}(f:α→Sem β)(g:α→β)(w:World)(l:Array α)(h:∀x,x∈l.toList→(f x).run P w=.ok (g x) w):(l.mapM f).run P w=.ok (l.map g) w:=by
 have e:l=l.toList.toArray:=by simp
 rw [e,List.mapM_toArray]
 simp only [Sem.run_map,Oc f g w l.toList h,Result.andThen_ok]
 congr 1
 apply Array.ext';simp
theorem zk {t:TypeId}{parts:Array (Nat×Operand)}{fs:Array Field}{z cs:List X}{qs:List (Nat×Nat×Opd)}{ps:List (Nat×Nat×X)}(h:Rel P R x K C σ a w)(ho:o.op=.build t parts)
  (hu:P.underlying t=some (.struct fs)) (hz:nY P t=some z) (hall:(fs.toList.all fun f=>(dI P f.type).isSome)=true)
  (hq:jy P R.gl (fun i=>(fs[i]?).bind fun f=>(dI P f.type).map fun n=>(f.offset,n,f.type)) parts.toList=some qs) (hp:jo σ qs=some ps) (hf:Bh z ps=some cs):
  dB P R x σ a w o (.agg cs) σ.bx:=by
 obtain ⟨zv,hrun,hr,_,_⟩:=jK hz w
 have hm:(fs.mapM fun f=>(do pure (f.offset,←sizeOf f.type):Sem (Nat×Nat))).run P w=.ok (fs.map fun f=>(f.offset,(dI P f.type).getD 0)) w:=by
  refine Ik _ _ w fs (fun f hfm=>?_)
  have:=(List.all_eq_true.1 hall) f hfm
  obtain ⟨n,hn⟩:=Option.isSome_iff_exists.1 this
  simp [cu hn w,hn]
 obtain ⟨arr,h1,h2⟩:=Fh (place':=fun i=>(fs.map fun f=>(f.offset,(dI P f.type).getD 0))[i]?) (fun i b c t e=>by
  obtain ⟨f,hf1,hf2⟩:=Option.bind_eq_some_iff.1 e
  obtain ⟨n,hn,e'⟩:=Option.map_eq_some_iff.1 hf2
  cases e'
  simp [hf1,hn]) h.inv.glob h.tm hq hp hf (hr K C)
 refine .still h (v:=.agg arr) ?_ (.agg (by simpa using h2.len) h2.cell (fun j y v ey ev=>h2.rep j y v ey (by simpa using ev)))
 have h1':Instr.fill (fun i=>(fs.map fun f=>(f.offset,(dI P f.type).getD 0))[i]?) zv.cells (parts.map fun p=>(p.1,a.eval p.2)).toList=some arr:=by simpa using h1
 simp only [execOp,ho,Instr.build,Sem.run_bind,hrun,run_underlying hu,hm,Result.andThen_ok,Sem.run_pure]
 rw [h1']
 rfl
theorem Ic {t e:TypeId}{parts:Array (Nat×Operand)}{m n:Nat}{z cs:List X}{qs:List (Nat×Nat×Opd)}{ps:List (Nat×Nat×X)}(h:Rel P R x K C σ a w)(ho:o.op=.build t parts)
  (hu:P.underlying t=some (.array m e)) (hz:nY P t=some z) (hn:dI P e=some n)
  (hq:jy P R.gl (fun i=>some (i*n,n,e)) parts.toList=some qs) (hp:jo σ qs=some ps) (hf:Bh z ps=some cs):
  dB P R x σ a w o (.agg cs) σ.bx:=by
 obtain ⟨zv,hrun,hr,_,_⟩:=jK hz w
 obtain ⟨arr,h1,h2⟩:=Fh (place':=fun i=>some (i*n,n)) (fun i b c t e=>by cases e;rfl) h.inv.glob h.tm hq hp hf (hr K C)
 refine .still h (v:=.agg arr) ?_ (.agg (by simpa using h2.len) h2.cell (fun j y v ey ev=>h2.rep j y v ey (by simpa using ev)))
 have h1':Instr.fill (fun i=>some (i*n,n)) zv.cells (parts.map fun p=>(p.1,a.eval p.2)).toList=some arr:=by simpa using h1
 simp only [execOp,ho,Instr.build,Sem.run_bind,hrun,run_underlying hu,cu hn w,Result.andThen_ok,Sem.run_pure]
 rw [h1']
 rfl
theorem Xn {t:TypeId}{sz:Nat}(hg:nV R K)(ht:wR K C σ.tm a.tmps):
  ∀{ops:List (Nat×Operand)} {qs:List (Nat×Opd)} {ps:List (Nat×X)} {es:List (List X)} {k:Nat} {arr:Array Value},ni P R.gl t ops=some qs→jX σ qs=some ps→
   nO sz k ps=some es→(k+ps.length)*sz≤arr.size→
   ∃arr',Instr.fill (fun i=>some (i*sz,sz)) arr (ops.map fun p=>(p.1,a.eval p.2))=some arr'∧arr'.size=arr.size∧arr'.toList.take (k*sz)=arr.toList.take (k*sz)∧es.length=ps.length∧
    Flat K sz es ((arr'.toList.drop (k*sz)).take (es.length*sz))
 |[],qs,ps,es,k,arr,h1,h2,h3,h4=>by
  simp only [ni,Option.some.injEq] at h1;subst h1
  simp only [jX,Option.some.injEq] at h2;subst h2
  simp only [nO,Option.some.injEq] at h3;subst h3
  exact ⟨arr,rfl,rfl,rfl,rfl,by simpa using Flat.nil⟩
 |(i,op)::r,qs,ps,es,k,arr,h1,h2,h3,h4=>by
  simp only [ni] at h1
  cases ho:aS P R.gl t op with
  |none=>simp [ho] at h1
  |some q=>
   cases hr:ni P R.gl t r with
   |none=>simp [ho,hr] at h1
   |some l=>
    simp only [ho,hr,Option.some.injEq] at h1;subst h1
    simp only [jX] at h2
    cases he:σ.ev q with
    |none=>simp [he] at h2
    |some y=>
     simp only [he] at h2
     obtain ⟨ps',hps,rfl⟩:=Option.map_eq_some_iff.1 h2
     simp only [nO] at h3
     split at h3
     ·rename_i hc
      simp only [Bool.and_eq_true,beq_iff_eq,List.isEmpty_iff] at hc
      obtain ⟨⟨⟨rfl,hc1⟩,hc2⟩,hc3⟩:=hc
      obtain ⟨es',hes,rfl⟩:=Option.map_eq_some_iff.1 h3
      have hy:=(aY hg ht ho he).cells hc1
      have hy0:dS K [] y.cells (a.eval op).cells.toList:=⟨hy.len,hy.cell,fun j z v e e'=>(hy.rep j z v e e').mM (by
       refine List.eq_nil_iff_forall_not_mem.2 fun n hn=>?_
       have:n∈bM y.cells:=dK.2 ⟨z,List.mem_of_getElem? e,hn⟩
       rw [hc3] at this;simp at this)⟩
      have hvl:(a.eval op).cells.size=sz:=by have:=hy.len;simp at this;omega
      have hfit:i*sz+sz≤arr.size:=by
       have h5:(i+1)*sz≤(i+((i,y)::ps').length)*sz:=Nat.mul_le_mul_right sz (by simp)
       rw [Nat.add_mul,Nat.one_mul] at h5;omega
      obtain ⟨cells',e1,e2⟩:=I4 (fun i=>some (i*sz,sz)) arr i (i*sz) sz (a.eval op) (r.map fun p=>(p.1,a.eval p.2)) rfl hvl (by omega)
      have hsz':cells'.size=arr.size:=by
       have:=congrArg List.length e2
       simp [hvl] at this;omega
      obtain ⟨arr',f1,f2,f3,f4,f5⟩:=Xn hg ht hr hps hes (arr:=cells') (by
       rw [hsz'];simp only [List.length_cons] at h4;rw [show i+1+ps'.length=i+(ps'.length+1) by omega];exact h4)
      refine ⟨arr',by rw [List.map_cons,e1];exact f1,by omega,?_,by simp [f4],?_⟩
      ·have h6:arr'.toList.take (i*sz)=(arr'.toList.take ((i+1)*sz)).take (i*sz):=by
        rw [List.take_take,Nat.min_eq_left (Nat.mul_le_mul_right sz (by omega))]
       rw [h6,f3,e2,List.take_take,Nat.min_eq_left (Nat.mul_le_mul_right sz (by omega))]
       rw [List.append_assoc,List.take_append_of_le_length (by simp;omega),List.take_take,Nat.min_self]
      ·have h7:(arr'.toList.drop (i*sz)).take ((es'.length+1)*sz)=(a.eval op).cells.toList++(arr'.toList.drop ((i+1)*sz)).take (es'.length*sz):=by
        have h8:(arr'.toList.drop (i*sz)).take sz=(a.eval op).cells.toList:=by
         have h9:(arr'.toList.drop (i*sz)).take sz=(arr'.toList.take ((i+1)*sz)).drop (i*sz):=by
          rw [List.take_drop,Nat.add_mul,Nat.one_mul]
         rw [h9,f3,e2]
         have hlen:(arr.toList.take (i*sz)).length=i*sz:=by simp;omega
         rw [List.append_assoc,Nat.add_mul,Nat.one_mul]
         have h10:(arr.toList.take (i*sz)++((a.eval op).cells.toList++arr.toList.drop (i*sz+(a.eval op).cells.toList.length))).take (i*sz+sz)=arr.toList.take (i*sz)++(a.eval op).cells.toList:=by
          rw [←List.append_assoc,List.take_append_of_le_length (by simp [hvl];omega)]
          exact List.take_of_length_le (by simp [hvl];omega)
         rw [h10,List.drop_append_of_le_length (by omega),List.drop_of_length_le (by omega)];simp
        rw [Nat.add_mul,Nat.one_mul,Nat.add_comm (es'.length*sz) sz,List.take_add,h8,List.drop_drop,Nat.add_mul,Nat.one_mul]
       rw [List.length_cons,h7]
       exact (Flat.one hy0 hc2).append f5
     ·simp at h3
theorem U7 {t e:TypeId}{len:Nat}{parts:Array (Nat×Operand)}{z:List X}{es:List (List X)}{qs:List (Nat×Opd)}{ps:List (Nat×X)}(h:Rel P R x K C σ a w)(ho:o.op=.buildSlice t len parts)
  (hu:P.underlying t=some (.slice e)) (hz:nY P e=some z) (hl:len*z.length≤2^24)
  (hq:ni P R.gl e parts.toList=some qs) (hp:jX σ qs=some ps) (hlen:len=ps.length) (hf:nO z.length 0 ps=some es):dB P R x σ a w o (.sl true z.length es) σ.bx:=by
 obtain ⟨zv,hrun,hr,hsz,hpos⟩:=jK hz w
 have hzs:zv.cells.size=z.length:=by have:=(hr K C).len;simpa using this
 have key:∀zero:Array Value,∃arr',Instr.fill (fun i=>some (i*z.length,z.length)) ((Array.range (len*z.length)).map (zero[·%zero.size]!)) (parts.toList.map fun p=>(p.1,a.eval p.2))=some arr'∧
   es.length=len∧Flat K z.length es arr'.toList:=by
  intro zero
  obtain ⟨arr',f1,f2,_,f4,f5⟩:=Xn (k:=0) (arr:=(Array.range (len*z.length)).map (zero[·%zero.size]!)) h.inv.glob h.tm hq hp hf (by simp [hlen])
  refine ⟨arr',f1,by omega,?_⟩
  have:arr'.toList.length=es.length*z.length:=by simp [f2,f4,hlen]
  rw [Nat.zero_mul,List.drop_zero,List.take_of_length_le (by omega)] at f5
  exact f5
 have fin:∀arr':Array Value,es.length=len→Flat K z.length es arr'.toList→(execOp a.eval o).run P w=.ok (.value (.slice (some ⟨w.heap.size,0,none⟩) len len)) (w.alloc (.cells arr' e))→
   dB P R x σ a w o (.sl true z.length es) σ.bx:=by
  intro arr' h1 h2 h3
  refine ⟨_,C,_,_,_,h3,.inl rfl,h.learn arr' e,?_⟩
  rw [←h1]
  refine (h2.mono (Kn.wQ h.inv arr')).rep (fun k v hv=>?_) (fun _=>rfl) (Nat.le_refl _)
  simp only [Kn.add,if_true,Nat.zero_add];rw [←aH];exact hv
 have hu':=run_underlying hu w
 have hno:¬(len*z.length>2^24):=by omega
 by_cases h0:len*z.length=0
 ·obtain ⟨arr',k1,k2,k3⟩:=key #[]
  refine fin arr' k2 k3 ?_
  have k1':Instr.fill (fun i=>some (i*z.length,z.length)) ((Array.range (len*z.length)).map ((#[]:Array Value)[·%(#[]:Array Value).size]!)) (parts.map fun p=>(p.1,a.eval p.2)).toList=some arr':=by simpa using k1
  simp only [execOp,ho,Instr.buildSlice,Sem.run_bind,hu',cu hsz w,Result.andThen_ok]
  rw [if_neg hno,if_pos h0]
  simp only [Sem.run_bind,Sem.run_pure,Result.andThen_ok]
  rw [k1']
  simp only [newRow,newObj]
  rfl
 ·obtain ⟨arr',k1,k2,k3⟩:=key zv.cells
  refine fin arr' k2 k3 ?_
  have k1':Instr.fill (fun i=>some (i*z.length,z.length)) ((Array.range (len*z.length)).map (zv.cells[·%zv.cells.size]!)) (parts.map fun p=>(p.1,a.eval p.2)).toList=some arr':=by simpa using k1
  simp only [execOp,ho,Instr.buildSlice,Sem.run_bind,hu',cu hsz w,Result.andThen_ok]
  rw [if_neg hno,if_neg h0]
  simp only [Sem.run_bind,hrun,Sem.run_pure,Result.andThen_ok]
  rw [k1']
  simp only [newRow,newObj]
  rfl
end Go.Em
namespace Go.Em
variable {P:Program} {R:aN} {x:Ctx} {K:Kn} {C:List CB} {σ:St} {a:Act} {w:World}
variable {o:Oper} {y:X} {bx:List Bx} {fp:FP} {A:Ann} {Γ:Gam}
theorem RH {xs:List X}{vs:List Value}(h:dS K C xs vs)(e:(bM xs).isEmpty=true):dS K [] xs vs:=
 ⟨h.len,h.cell,fun j z v e1 e2=>(h.rep j z v e1 e2).mM (by
  refine List.eq_nil_iff_forall_not_mem.2 fun n hn=>?_
  have h1:n∈bM xs:=dK.2 ⟨z,List.mem_of_getElem? e1,hn⟩
  rw [List.isEmpty_iff.1 e] at h1;simp at h1)⟩
theorem TS {t:TypeId}{n:Nat}{p z:X}{pv zv:Value}(h:Rel P R x K C σ a w)(hn:dI P t=some n)(hp:Rep K C p pv)(hz:Rep K C z zv)(e:jm σ.bx n p z=some bx):
  ∃b k w',pv=.pointer (some ⟨b,k,none⟩)∧(storeVar t ⟨b,k,none⟩ zv).run P w=.ok () w'∧Rel P R x K C ⟨σ.tm,bx⟩ a w':=by
 unfold jm at e
 split at e
 ·rename_i hc
  simp only [Bool.and_eq_true,beq_iff_eq] at hc
  have hzc:=hz.cells hc.1
  have hsz:zv.cells.size=n:=by have:=hzc.len;simp at this;omega
  have run:∀(b k:Nat) (arr:Array Value) (el:TypeId),w.heap[b]?=some (.cells arr el (0,0))→k+zv.cells.toList.length≤arr.size→
    (storeVar t ⟨b,k,none⟩ zv).run P w=.ok () (w.setRow b (arr.toList.take k++zv.cells.toList++arr.toList.drop (k+zv.cells.toList.length)).toArray):=by
   intro b k arr el hb hf
   have:=run_storeCells_at P b k el zv.cells.toList 0 arr w hb (by simpa using hf) hzc.oneCell
   simp only [Nat.add_zero] at this
   simp only [storeVar,Sem.run_bind,cu hn w,Result.andThen_ok]
   rw [if_neg (by simp [hsz])]
   simpa using this
  split at e
  ·rename_i i el k
   cases hp with
   |ptr hcb=>
    rename_i b base hi sz
    split at e
    ·rename_i cs hb
     split at e
     ·rename_i h0
      have h0:el=0:=by simpa using h0
      subst h0
      obtain ⟨cs',hs,rfl⟩:=Option.map_eq_some_iff.1 e
      obtain ⟨h1,h2,arr,t',hbl,hr⟩:=h.inv.box i _ _ hb hcb
      subst h1
      obtain ⟨hsp,hfit⟩:=hr.splice hzc hs
      have QY:k+zv.cells.toList.length≤arr.size:=by simpa using hfit
      have hsize:(arr.toList.take k++zv.cells.toList++arr.toList.drop (k+zv.cells.toList.length)).toArray.size=arr.size:=by simp;simp at QY;omega
      have hlen:cs'.length=cs.length:=by
       have h3:=hsp.len;have h4:=hr.len
       simp at h3 h4 QY;omega
      refine ⟨b,k,_,by simp,run b k arr t' hbl QY,?_⟩
      refine h.wo hb rfl hcb (aP.setRow hbl hsize fun q hq=>?_) ⟨rfl,by omega,_,t',setRow_heap w b arr _ t' _ hbl,by simpa using hsp⟩ (by simp [Bx.eY])
      have hq':¬q<arr.size:=by
       intro hlt
       have h4:=hr.len;simp at h4
       exact hq ⟨rfl,by omega,by omega⟩
      rw [Array.getElem?_eq_none (by omega),Array.getElem?_eq_none (by omega)]
     ·simp at e
    ·rename_i sz' es hb
     split at e
     ·simp at e
     ·rename_i cs he
      split at e
      ·rename_i hre
       obtain ⟨cs',hs,rfl⟩:=Option.map_eq_some_iff.1 e
       obtain ⟨h1,h2,h3,arr,t',hbl,hl,hr⟩:=h.inv.box i _ _ hb hcb
       subst h1
       have hz0:=RH hzc hre
       have hi1:=(List.getElem?_eq_some_iff.1 he).1
       have hm:el*sz+sz≤es.length*sz:=by
        have:=Nat.mul_le_mul_right sz (show el+1≤es.length from hi1)
        rw [Nat.add_mul,Nat.one_mul] at this;exact this
       have hcl:=h3 cs (List.mem_of_getElem? he)
       have zos:k+z.cells.length≤cs.length∧cs'=cs.take k++z.cells++cs.drop (k+z.cells.length):=by
        unfold splice at hs;split at hs
        ·rename_i hle;simp only [Option.some.injEq] at hs;exact ⟨hle,hs.symm⟩
        ·simp at hs
       obtain ⟨hle,rfl⟩:=zos
       have hzl:zv.cells.toList.length=z.cells.length:=hzc.len
       have QY:base+el*sz+k+zv.cells.toList.length≤arr.size:=by omega
       have hsize:(arr.toList.take (base+el*sz+k)++zv.cells.toList++arr.toList.drop (base+el*sz+k+zv.cells.toList.length)).toArray.size=arr.size:=by simp;simp at QY;omega
       refine ⟨b,_,_,rfl,run b (base+el*sz+k) arr t' hbl QY,?_⟩
       have hget:∀q,(arr.toList.take (base+el*sz+k)++zv.cells.toList++arr.toList.drop (base+el*sz+k+zv.cells.toList.length)).toArray[q]?=
         if q<base+el*sz+k then arr[q]? else if q<base+el*sz+k+z.cells.length then zv.cells[q-(base+el*sz+k)]? else arr[q]?:=by
        intro q
        have hA:(arr.toList.take (base+el*sz+k)).length=base+el*sz+k:=by simp;omega
        simp only [List.getElem?_toArray]
        by_cases h5:q<base+el*sz+k
        ·rw [if_pos h5,List.append_assoc,List.getElem?_append_left (by omega),List.getElem?_take,if_pos h5,aH]
        ·rw [if_neg h5,List.append_assoc,List.getElem?_append_right (by omega),hA]
         by_cases h6:q<base+el*sz+k+z.cells.length
         ·rw [if_pos h6,List.getElem?_append_left (by omega),aH]
         ·rw [if_neg h6,List.getElem?_append_right (by omega),List.getElem?_drop,aH]
          congr 1;omega
       refine h.wo hb rfl hcb (aP.setRow hbl hsize fun q hq=>?_) ⟨rfl,by simpa using h2,?_,_,t',setRow_heap w b arr _ t' _ hbl,by omega,?_⟩ (by simp [Bx.eY])
       ·rw [hget q]
        have hout:¬(base≤q∧q<hi):=fun hh=>hq ⟨rfl,hh.1,hh.2⟩
        by_cases h5:q<base+el*sz+k
        ·rw [if_pos h5]
        ·rw [if_neg h5,if_neg (by omega)]
       ·intro e0 he0
        obtain ⟨q,hq,rfl⟩:=List.mem_iff_getElem.1 he0
        rw [List.getElem_set]
        split
        ·simp;omega
        ·exact h3 _ (List.getElem_mem _)
       ·intro i' j z' ez
        obtain ⟨e0,he0,hj⟩:=bQ.1 ez
        rw [List.getElem?_set] at he0
        split at he0
        ·rename_i hii
         subst hii
         simp only [Option.some.injEq] at he0;subst he0
         have hjs:=(List.getElem?_eq_some_iff.1 hj).1
         have hjl:j<sz:=by simp at hjs;omega
         rw [hget]
         by_cases h5:j<k
         ·rw [List.append_assoc,List.getElem?_append_left (by simp;omega),List.getElem?_take,if_pos h5] at hj
          obtain ⟨hc1,v,hv,hrv⟩:=hr el j z' (bQ.2 ⟨cs,he,hj⟩)
          exact ⟨hc1,v,by rw [if_pos (by omega)];exact hv,hrv⟩
         ·have hT:(cs.take k).length=k:=by simp;omega
          rw [List.append_assoc,List.getElem?_append_right (by omega),hT] at hj
          rw [if_neg (by omega)]
          by_cases h6:j-k<z.cells.length
          ·rw [List.getElem?_append_left h6] at hj
           obtain ⟨v,hv,hrv⟩:=hz0.get hj
           refine ⟨hz0.cell z' (List.mem_of_getElem? hj),v,?_,hrv⟩
           rw [if_pos (by omega),←aH,←hv];congr 1;omega
          ·rw [List.getElem?_append_right (by omega),List.getElem?_drop] at hj
           have:k+z.cells.length+(j-k-z.cells.length)=j:=by omega
           rw [this] at hj
           obtain ⟨hc1,v,hv,hrv⟩:=hr el j z' (bQ.2 ⟨cs,he,hj⟩)
           exact ⟨hc1,v,by rw [if_neg (by omega)];exact hv,hrv⟩
        ·rename_i hii
         obtain ⟨hc1,v,hv,hrv⟩:=hr i' j z' (bQ.2 ⟨e0,he0,hj⟩)
         refine ⟨hc1,v,?_,hrv⟩
         obtain ⟨hb1,hb2,hb3⟩:=Pj h3 (bQ.2 ⟨e0,he0,hj⟩)
         rw [hget]
         by_cases hlt:i'<el
         ·have:=Nat.mul_le_mul_right sz (show i'+1≤el from hlt)
          rw [Nat.add_mul,Nat.one_mul] at this
          rw [if_pos (by omega)];exact hv
         ·have:=Nat.mul_le_mul_right sz (show el+1≤i' by omega)
          rw [Nat.add_mul,Nat.one_mul] at this
          rw [if_neg (by omega),if_neg (by omega)];exact hv
      ·simp at e
    ·simp at e
  ·simp at e
 ·simp at e
theorem YU {t t1 t2:TypeId}{n:Nat}{p z:Operand}{p' z':Opd}{yp yz:X}(h:Rel P R x K C σ a w)(ho:o.op=.store t p z)(hn:dI P t=some n)(hp:aS P R.gl t1 p=some p')(hz:aS P R.gl t2 z=some z')
  (ep:σ.ev p'=some yp) (ez:σ.ev z'=some yz) (e:jm σ.bx n yp yz=some bx):dB P R x σ a w o undefX bx:=by
 obtain ⟨b,k,w',hv,hrun,hrel⟩:=TS h hn (aY h.inv.glob h.tm hp ep) (aY h.inv.glob h.tm hz ez) e
 refine ⟨K,C,.skip,undef,w',?_,.inr ⟨rfl,rfl⟩,hrel,.v rfl⟩
 simp [execOp,ho,Instr.storeAt,hv,Instr.sureAddr,hrun]
theorem UL {v:Value}{n:Nat}(h:Rep K C y v)(e:(match y with|.sl _ _ es=>some es.length|.bs _ _ n=>some n|_=>none)=some n):
  ∃ob cap,v=.slice ob n cap:=by
 cases h with
 |fE=>simp at e;subst e;exact ⟨_,0,rfl⟩
 |sl=>simp at e;subst e;exact ⟨_,_,rfl⟩
 |bs=>simp at e;subst e;exact ⟨_,_,rfl⟩
 |kT=>simp at e;subst e;exact ⟨_,_,rfl⟩
 |_=>simp at e
theorem jR {args:Array Operand}{tys:Array TypeId}{t:TypeId}{p:Operand}{d:TypeDesc}{v:Value}{n:Nat}(ho:o.op=.call ⟨.builtin .len,args,tys⟩)(ha:args.toList=[p])(ht:tys[0]?=some t)(hu:P.underlying t=some d)
  (hv:a.eval p=v) (hl:(∃e ob cap,d=.slice e∧v=.slice ob n cap)∨(∃s:ByteArray,d=.string∧v=.string s∧s.size=n)):
  (execOp a.eval o).run P w=.ok (.value (.int .i64 (n:Int))) w:=by
 have ha':args=#[p]:=by rw [←Array.toArray_toList (xs:=args),ha]
 subst ha'
 rcases hl with ⟨e,ob,cap,rfl,rfl⟩|⟨s,rfl,rfl,rfl⟩
 ·simp [execOp,ho,resolve,invoke,builtin,Builtin.len_,ht,run_underlying hu,hv,goInt]
 ·simp [execOp,ho,resolve,invoke,builtin,Builtin.len_,ht,run_underlying hu,hv,goInt]
theorem zcR {k:IntKind}{s d t1:TypeId}{z:Operand}{z':Opd}{k' ks:IntKind}{n:Int}(h:Rel P R x K C σ a w)(ho:o.op=.convert s d z)(hs:P.underlying s=some (.int ks))(hd:P.underlying d=some (.int k))(hz:aS P R.gl t1 z=some z')
  (ez:σ.ev z'=some (.v (.int k' n))):dB P R x σ a w o (.v (.int k (k.wrap n))) σ.bx:=by
 have r1:=eH (aY h.inv.glob h.tm hz ez)
 exact .still h (v:=.int k (k.wrap n)) (by simp [execOp,ho,convert,run_underlying hs,run_underlying hd,r1,Conv.intToInt]) (.v rfl)
theorem zg2 {s d t1:TypeId}{z:Operand}{z':Opd}{b:ByteArray}(h:Rel P R x K C σ a w)(ho:o.op=.convert s d z)(hs:P.underlying s=some .string)(hd:P.underlying d=some .string)(hz:aS P R.gl t1 z=some z')
  (ez:σ.ev z'=some (.v (.string b))):dB P R x σ a w o (.v (.string b)) σ.bx:=by
 have r1:=eH (aY h.inv.glob h.tm hz ez)
 exact .still h (v:=.string b) (by simp [execOp,ho,convert,run_underlying hs,run_underlying hd,r1]) (.v rfl)
theorem zV (w:World)(e:TypeId)(s:ByteArray):aP nowhere w (Lib.bytesWorld w e s):=
 ⟨by simp [Lib.bytesWorld,World.freeze,World.alloc,World.drew,-World.alloc_eq,-World.drew_eq],by simp [Lib.bytesWorld,World.freeze,World.alloc,World.drew,-World.alloc_eq,-World.drew_eq],by simp [Lib.bytesWorld,World.freeze,World.alloc,World.drew,-World.alloc_eq,-World.drew_eq],
  by rw [Lib.bytesWorld_size];omega,fun b hb=>.inr (.inl (Lib.bytesWorld_at_old w e s b hb).symm)⟩
theorem Rel.zhl (h:Rel P R x K C σ a w)(e:TypeId)(s:ByteArray):Rel P R x (K.add w.heap.size (Lib.bytesCells w e s)) C σ a (Lib.bytesWorld w e s):=by
 have hs:=h.still (zV w e s)
 have hi:=h.inv.still (zV w e s)
 exact {hs with
  inv:=hi.know (Kn.wQ h.inv _) (fun b o v ev=>by
   unfold Kn.add at ev
   split at ev
   ·rename_i hb;subst hb
    simpa [World.cell?,Lib.bytesWorld_at_new] using ev
   ·have:=h.inv.known b o v ev
    rw [Lib.bytesWorld_old w e s _ (World.block_lt_of_cell? _ _ this)];exact this) (fun b o ho=>by
   have:=h.inv.qV ho
   simp [Kn.add,Nat.ne_of_lt this,h.inv.apart b o ho])
  tm:=h.tm.mono (Kn.wQ h.inv _) (CLe.refl _)
  k0:=h.k0.trans (Kn.wQ h.inv _)
  knew:=fun b o v ev=>by
   unfold Kn.add at ev
   split at ev
   ·rename_i hb;subst hb;exact .inr (.inr h.frame.size)
   ·exact h.knew b o v ev}
theorem zg1 {s d e t1:TypeId}{z:Operand}{z':Opd}{b:ByteArray}(h:Rel P R x K C σ a w)(ho:o.op=.convert s d z)(hs:P.underlying s=some .string)(hd:P.underlying d=some (.slice e))(hu8:zjV P e=true)(hz:aS P R.gl t1 z=some z')
  (ez:σ.ev z'=some (.v (.string b))):dB P R x σ a w o (.sl false 1 (byteRow b)) σ.bx:=by
 have r1:=eH (aY h.inv.glob h.tm hz ez)
 have he:P.underlying e=some (.int .u8):=by
  unfold zjV at hu8
  split at hu8
  ·assumption
  ·cases hu8
 have hl:(byteRow b).length=b.size:=by
  unfold byteRow
  rw [List.length_map,Array.length_toList]
  rfl
 have hget:∀(i j:Nat) (y:X),at2 (byteRow b) i j=some y→j=0∧∃u,b.data[i]?=some u∧y=.v (.int .u8 u.toNat):=by
  intro i j y hy
  simp only [at2,byteRow,List.getElem?_map,Array.getElem?_toList] at hy
  cases hu:b.data[i]? with
  |none=>rw [hu] at hy;simp at hy
  |some u=>
   rw [hu] at hy
   simp only [Option.map_some,Option.bind_some] at hy
   cases j with
   |zero=>simp at hy;exact ⟨rfl,u,rfl,hy.symm⟩
   |succ j=>simp at hy
 refine ⟨_,C,_,.slice (some ⟨w.heap.size,0,none⟩) b.size (grownCap w b.size 0 e),Lib.bytesWorld w e b,?_,.inl rfl,h.zhl e b,?_⟩
 ·simp only [execOp,ho,r1]
  have:=Lib.run_convert_string_bytes w s d e b hs hd he
  simp [this]
 ·rw [←hl]
  refine .sl (fun i _=>.int .u8 (((b.data[i]?).getD 0).toNat)) (by simp [byteRow]) (by simp) (by rw [hl];exact grownCap_ge ..) (fun i j y hy=>by obtain ⟨_,u,_,rfl⟩:=hget i j y hy;rfl) (fun i j y hy=>?_) (fun i j y hy=>?_)
  ·obtain ⟨rfl,u,hu,rfl⟩:=hget i j y hy
   have hi:i<b.data.size:=(Array.getElem?_eq_some_iff.1 hu).1
   have e1:b.data[i]?=some u:=hu
   simp only [Kn.add,if_true,Nat.zero_add,Nat.mul_one,Nat.add_zero,Lib.bytesCells]
   rw [Array.getElem?_append_left (by simpa using hi),Array.getElem?_map,e1]
   rfl
  ·obtain ⟨rfl,u,hu,rfl⟩:=hget i j y hy
   rw [hu]
   exact .v rfl
theorem zcO {f:FuncId}{first caps:Array Operand}{ts:List TypeId}{qs:List Opd}{ys:List X}(h:Rel P R x K C σ a w)(ho:o.op=.makeFunc (.func f) first caps)(hf:first.isEmpty=true)(hq:fV P R.gl ts caps.toList=some qs)
  (he:evs σ qs=some ys):dB P R x σ a w o (.fn f ys) σ.bx:=by
 obtain ⟨h1,h2⟩:=Fj h.inv.glob h.tm hq he
 have hf':first=#[]:=by simpa using hf
 refine .still h (v:=.func (.func f) #[] (caps.map a.eval)) (by simp [execOp,ho,Instr.makeFunc,hf']) (.fn (by simp [h1]) fun j z v ez ev=>h2 j z v ez ?_)
 simpa using ev
theorem zcN {t e t1 t2:TypeId}{l c:Operand}{l' c':Opd}{z:List X}{bytes n m:Nat}{yl yc:X}(h:Rel P R x K C σ a w)(ho:o.op=.makeSlice t l c)(hu:P.underlying t=some (.slice e))(hz:nY P e=some z)(hb:uy P e=some bytes)
  (hl:aS P R.gl t1 l=some l') (hc:aS P R.gl t2 c=some c') (el:σ.ev l'=some yl) (ec:σ.ev c'=some yc) (nl:SX yl=some n) (nc:SX yc=some m) (hnm:n≤m) (hroom:dD m bytes=true):
  dB P R x σ a w o (.bs σ.bx.length 0 n) (σ.bx++[.row z.length (List.replicate n z)]):=by
 have r1:=EG (aY h.inv.glob h.tm hl el) nl
 have r2:=EG (aY h.inv.glob h.tm hc ec) nc
 obtain ⟨zv,hrun,hr,hsz,hpos⟩:=jK hz w
 simp only [dD,Bool.and_eq_true,decide_eq_true_eq] at hroom
 unfold uy at hb
 obtain ⟨i,hi,rfl⟩:=Option.map_eq_some_iff.1 hb
 have hiz:i.zero=some zv:=by
  simp only [zeroValue,typeInfo,Sem.run_bind,run_program,Result.andThen_ok,hi] at hrun
  simp only [Sem.run_pure,Result.andThen_ok] at hrun
  split at hrun
  ·rename_i v hv;simp at hrun;rw [hv,hrun]
  ·simp at hrun
 have his:i.size=z.length:=by simpa [dI,hi] using hsz
 have hzs:zv.cells.size=z.length:=by have:=(hr K C).len;simpa using this
 have hmb:(i.bytes:Int)*(m:Int)≤281474976710656:=by
  have:i.bytes*m≤281474976710656:=by rw [Nat.mul_comm];omega
  have e1:((i.bytes:Int)*(m:Int))=((i.bytes*m:Nat):Int):=(Int.natCast_mul _ _).symm
  rw [e1];omega
 have zkg:=run_make (P:=P) w t e i zv hu hi hiz .i64 .i64 (n:Int) (m:Int) (by omega) (by omega) hmb (by omega)
 have hc2:(C++[CB.at w.heap.size 0 (m*z.length) z.length])[σ.bx.length]?=some (.at w.heap.size 0 (m*z.length) z.length):=by
  rw [←h.inv.size];simp
 refine ⟨K,C++[.at w.heap.size 0 (m*z.length) z.length],_,.slice (some ⟨w.heap.size,0,none⟩) n m,w.alloc (.cells (madeCells zv.cells (m*z.length)) e),?_,.inl rfl,?_,?_⟩
 ·simp only [execOp,ho,r1,r2,Sem.run_bind,zkg,Result.andThen_ok,his,Int.toNat_natCast]
  rfl
 ·refine h.push _ ((Flat.made (hr K []) rfl hnm).box (mX w _) (fun k v hv=>?_) ?_ (by simp [size_madeCells])) (fun b k hw=>hw.1)
  ·rw [List.getElem?_take] at hv
   split at hv
   ·rw [aH] at hv;rw [Nat.zero_add];exact hv
   ·simp at hv
  ·simp;exact Nat.mul_le_mul_right _ hnm
 ·have:=Rep.bs (K:=K) (off:=0) (len:=n) (cap:=m) hc2 (by simp) hnm
  simpa using this
theorem NT {t t1 ft:TypeId}{z:Operand}{z':Opd}{fs:Array Field}{f:Nat}{fd:Field}{n:Option Nat}{cs:List X}(h:Rel P R x K C σ a w)(ho:o.op=.field t z f)(hu:P.underlying t=some (.struct fs))(hf:fs[f]?=some fd)(hft:ft=fd.type)
  (hn:Tc P ft=some n) (hz:aS P R.gl t1 z=some z') (ez:σ.ev z'=some (.agg cs))
  (e:(match n with|none=>cs[fd.offset]?|some n=>if ((cs.drop fd.offset).take n).length==n then some (.agg ((cs.drop fd.offset).take n)) else none)=some y):dB P R x σ a w o y σ.bx:=by
 subst hft
 have hr:=aY h.inv.glob h.tm hz ez
 generalize hv:a.eval z=v at hr
 cases hr with
 |agg hs hcell hrr=>
  rename_i vs
  have hcr:dS K C cs vs.toList:=⟨by simpa using hs,hcell,fun j y v e e'=>hrr j y v e (by simpa using e')⟩
  cases n with
  |none=>
   obtain ⟨v,hv',hrv⟩:=hcr.get e
   rw [aH] at hv'
   refine .still h (v:=v) ?_ hrv
   simp [execOp,ho,Instr.field,run_underlying hu,hf,hv,asAgg,part,(jF hn w).1,hv']
  |some n=>
   simp only at e
   split at e
   ·rename_i hl
    simp only [Option.some.injEq] at e;subst e
    have hl:((cs.drop fd.offset).take n).length=n:=by simpa using hl
    have h2:=(hcr.drop fd.offset).take n
    refine .still h (v:=.agg (vs.extract fd.offset (fd.offset+n))) ?_ ?_
    ·simp [execOp,ho,Instr.field,run_underlying hu,hf,hv,asAgg,part,(jF hn w).1,(jF hn w).2 n rfl]
    ·have e2:(vs.extract fd.offset (fd.offset+n)).toList=(vs.toList.drop fd.offset).take n:=by simp [List.extract_eq_take_drop]
     refine .agg ?_ h2.cell (fun j y v ey ev=>h2.rep j y v ey (by rw [←e2,aH];exact ev))
     have:=h2.len;rw [←e2,Array.length_toList] at this;exact this
   ·simp at e
theorem QE {z:Operand}{z':Opd}{t1:TypeId}{i:Nat}{xs:List X}(h:Rel P R x K C σ a w)(ho:o.op=.extract z i)(hz:aS P R.gl t1 z=some z')(ez:σ.ev z'=some (.tup xs))(e:xs[i]?=some y):dB P R x σ a w o y σ.bx:=by
 have hr:=aY h.inv.glob h.tm hz ez
 generalize hv:a.eval z=v at hr
 cases hr with
 |tup hs hrr=>
  rename_i vs
  have hi:i<vs.size:=by rw [hs];exact (List.getElem?_eq_some_iff.1 e).1
  refine .still h (v:=vs[i]) ?_ (hrr i y _ e (Array.getElem?_eq_getElem hi))
  simp [execOp,ho,Instr.extract,hv,hi]
theorem YV {z:Operand}{z':Opd}{t1:TypeId}(h:Rel P R x K C σ a w)(ho:o.op=.nilCheck z)(hz:aS P R.gl t1 z=some z')(ez:σ.ev z'=some y)(hk:(match y with|.ptr _ _ _|.dp _|.fn _ _|.yl _=>true|_=>false)=true):dB P R x σ a w o y σ.bx:=by
 have hr:=aY h.inv.glob h.tm hz ez
 refine .still h (v:=a.eval z) ?_ hr
 generalize hv:a.eval z=v at hr
 cases hr<;>simp at hk<;>simp [execOp,ho,hv]
theorem zcL {t t1 t2:TypeId}{z i:Operand}{z' i':Opd}{s:ByteArray}{n:Nat}{yi:X}{b:UInt8}(h:Rel P R x K C σ a w)(ho:o.op=.index t z i)(hu:P.underlying t=some .string)(hz:aS P R.gl t1 z=some z')(hi:aS P R.gl t2 i=some i')
  (ez:σ.ev z'=some (.v (.string s))) (ei:σ.ev i'=some yi) (hn:ER yi=some n) (hb:s[n]?=some b):dB P R x σ a w o (.v (.int .u8 b.toNat)) σ.bx:=by
 have r1:=eH (aY h.inv.glob h.tm hz ez)
 obtain ⟨ik,r2⟩:=tY (aY h.inv.glob h.tm hi ei) hn
 refine .still h (v:=.int .u8 b.toNat) ?_ (.v rfl)
 simp [execOp,ho,Instr.index,r1,r2,asIntOf,run_underlying hu,hb]
theorem Ko {t t1 t2 e:TypeId}{z i:Operand}{z' i':Opd}{n sz:Nat}{yi:X}{tt:Bool}{es:List (List X)}{e0:List X}(h:Rel P R x K C σ a w)(ho:o.op=.indexAddr t z i)(hu:P.underlying t=some (.slice e))(hs:dI P e=some sz)
  (hz:aS P R.gl t1 z=some z') (hi:aS P R.gl t2 i=some i') (ez:σ.ev z'=some (.sl tt sz es)) (ei:σ.ev i'=some yi) (hn:ER yi=some n) (he:es[n]?=some e0):dB P R x σ a w o (.dp e0) σ.bx:=by
 have hr:=aY h.inv.glob h.tm hz ez
 obtain ⟨ik,r2⟩:=tY (aY h.inv.glob h.tm hi ei) hn
 have hlt:=(List.getElem?_eq_some_iff.1 he).1
 generalize hv:a.eval z=v at hr
 have hr':=hr
 cases hr with
 |fE=>simp at he
 |sl vals hlen ht hcap hcell hk hrr=>
  rename_i b k cap
  obtain ⟨l,hfl,hkl⟩:=hr'.flat
  refine .still h (v:=.pointer (some ⟨b,k+n*sz,none⟩)) ?_ ?_
  ·have hlt':n<es.length:=hlt
   simp [execOp,ho,Instr.indexAt,r2,asIntOf,run_underlying hu,hv,hlt',cu hs w,addr_add]
  ·refine .dp (fun j=>l.getD (n*sz+j) undef) (fun j z ej=>(hfl.get n j z (bQ.2 ⟨e0,he,ej⟩)).1) (fun j z ej=>?_) (fun j z ej=>?_)
   ·obtain ⟨_,v,hv,_⟩:=hfl.get n j z (bQ.2 ⟨e0,he,ej⟩)
    rw [Nat.add_assoc,hkl _ v hv];simp [List.getD,hv]
   ·obtain ⟨_,v,hv,hrv⟩:=hfl.get n j z (bQ.2 ⟨e0,he,ej⟩)
    simp only [List.getD,hv];exact hrv
theorem Kq {t t1 t2 e:TypeId}{z i:Operand}{z' i':Opd}{n sz:Nat}{yi:X}{ib off len:Nat}{es:List (List X)}(h:Rel P R x K C σ a w)(ho:o.op=.indexAddr t z i)(hu:P.underlying t=some (.slice e))(hs:dI P e=some sz)
  (hz:aS P R.gl t1 z=some z') (hi:aS P R.gl t2 i=some i') (ez:σ.ev z'=some (.bs ib off len)) (ei:σ.ev i'=some yi) (hn:ER yi=some n) (hb:σ.bx[ib]?=some (.row sz es)) (hlt:n<len):dB P R x σ a w o (.ptr ib (off+n) 0) σ.bx:=by
 have hr:=aY h.inv.glob h.tm hz ez
 obtain ⟨ik,r2⟩:=tY (aY h.inv.glob h.tm hi ei) hn
 generalize hv:a.eval z=v at hr
 cases hr with
 |bs hc hcap hlen=>
  rename_i b base hi' sz' cap
  obtain ⟨h1,_⟩:=h.inv.box ib _ _ hb hc
  subst h1
  refine .still h (v:=.pointer (some ⟨b,base+off*sz'+n*sz',none⟩)) ?_ ?_
  ·simp [execOp,ho,Instr.indexAt,r2,asIntOf,run_underlying hu,hv,hlt,cu hs w,addr_add]
  ·have:=Rep.ptr (K:=K) (e:=off+n) (o:=0) hc
   rw [Nat.add_mul,Nat.add_zero,←Nat.add_assoc] at this;exact this
 |kT hc=>omega
theorem wE {t t1 t2 e:TypeId}{z i:Operand}{z' i':Opd}{n sz m:Nat}{yi yz:X}(h:Rel P R x K C σ a w)(ho:o.op=.indexAddr t z i)(hu:P.underlying t=some (.array m e))(hs:dI P e=some sz)
  (hz:aS P R.gl t1 z=some z') (hi:aS P R.gl t2 i=some i') (ez:σ.ev z'=some yz) (ei:σ.ev i'=some yi) (hn:ER yi=some n) (hlt:n<m)
  (e':(match yz with|.ptr i e o=>some (X.ptr i e (o+n*sz))|.dp cs=>some (.dp (cs.drop (n*sz)))|_=>none)=some y):dB P R x σ a w o y σ.bx:=by
 have hr:=aY h.inv.glob h.tm hz ez
 obtain ⟨ik,r2⟩:=tY (aY h.inv.glob h.tm hi ei) hn
 generalize hv:a.eval z=v at hr
 have key:∀b k,v=.pointer (some ⟨b,k,none⟩)→(execOp a.eval o).run P w=.ok (.value (.pointer (some ⟨b,k+n*sz,none⟩))) w:=by
  intro b k hvk
  subst hvk
  simp [execOp,ho,Instr.indexAt,r2,asIntOf,run_underlying hu,hv,hlt,cu hs w,addr_add,Instr.sureAddr]
 split at e'
 ·simp only [Option.some.injEq] at e';subst e'
  cases hr with
  |ptr hc=>exact .still h (key _ _ rfl) (by rw [Nat.add_assoc];exact .ptr hc)
 ·simp only [Option.some.injEq] at e';subst e'
  cases hr with
  |dp vals hcell hk hrr=>
   rename_i cs b k
   refine .still h (key _ _ rfl) (.dp (fun j=>vals (n*sz+j)) (fun j z e=>hcell _ z (by simpa using e)) (fun j z e=>?_) (fun j z e=>hrr _ z (by simpa using e)))
   rw [Nat.add_assoc];exact hk _ z (by simpa using e)
 ·simp at e'
theorem Va {t t1 t2 e:TypeId}{z i:Operand}{z' i':Opd}{n sz m:Nat}{r:Option Nat}{yi:X}{cs:List X}(h:Rel P R x K C σ a w)(ho:o.op=.index t z i)(hu:P.underlying t=some (.array m e))(hs:dI P e=some sz)(hg:Tc P e=some r)
  (hz:aS P R.gl t1 z=some z') (hi:aS P R.gl t2 i=some i') (ez:σ.ev z'=some (.agg cs)) (ei:σ.ev i'=some yi) (hn:ER yi=some n) (hlt:n<m)
  (e':(match r with|none=>cs[n*sz]?|some k=>if ((cs.drop (n*sz)).take k).length==k then some (.agg ((cs.drop (n*sz)).take k)) else none)=some y):dB P R x σ a w o y σ.bx:=by
 have hr:=aY h.inv.glob h.tm hz ez
 obtain ⟨ik,r2⟩:=tY (aY h.inv.glob h.tm hi ei) hn
 generalize hv:a.eval z=v at hr
 cases hr with
 |agg hsz hcell hrr=>
  rename_i vs
  have hcr:dS K C cs vs.toList:=⟨by simpa using hsz,hcell,fun j y v e e'=>hrr j y v e (by simpa using e')⟩
  cases r with
  |none=>
   obtain ⟨v,hv',hrv⟩:=hcr.get e'
   rw [aH] at hv'
   refine .still h (v:=v) ?_ hrv
   simp [execOp,ho,Instr.index,r2,asIntOf,run_underlying hu,hv,hlt,cu hs w,part,(jF hg w).1,hv']
  |some k=>
   simp only at e'
   split at e'
   ·rename_i hl
    simp only [Option.some.injEq] at e';subst e'
    have h2:=(hcr.drop (n*sz)).take k
    have hk:k=sz:=by
     have h3:=(jF hg w).2 k rfl
     rw [cu hs w] at h3
     simp at h3;exact h3.symm
    subst hk
    refine .still h (v:=.agg (vs.extract (n*k) (n*k+k))) ?_ ?_
    ·simp [execOp,ho,Instr.index,r2,asIntOf,run_underlying hu,hv,hlt,cu hs w,part,(jF hg w).1]
    ·have e2:(vs.extract (n*k) (n*k+k)).toList=(vs.toList.drop (n*k)).take k:=by simp [List.extract_eq_take_drop]
     refine .agg ?_ h2.cell (fun j y v ey ev=>h2.rep j y v ey (by rw [←e2,aH];exact ev))
     have:=h2.len;rw [←e2,Array.length_toList] at this;exact this
   ·simp at e'
theorem U3 {op:BinOp}{t t1 u:TypeId}{e:TypeId}{p q:Operand}{p':Opd}{yp:X}(h:Rel P R x K C σ a w)(ho:o.op=.binOp op t p q u)(hu:P.underlying t=some (.slice e))(hop:op=.eql∨op=.neq)(hq:q=.const (.slice none 0 0))(hp:aS P R.gl t1 p=some p')
  (ep:σ.ev p'=some yp) (hyp:(match yp with|.bs _ _ (_+1)=>true|.sl _ _ (_::_)=>true|_=>false)=true):dB P R x σ a w o (.v (.bool (decide (op=.neq)))) σ.bx:=by
 have hr:=aY h.inv.glob h.tm hp ep
 subst hq
 have hs:∃b n c,a.eval p=.slice (some b) n c:=by
  generalize a.eval p=v at hr
  cases hr<;>first|exact ⟨_,_,_,rfl⟩|(simp at hyp;done)
 obtain ⟨b,n,c,hv⟩:=hs
 have he:∀d,(Op.equalIn (d+1) t (.slice (some b) n c) (.slice none 0 0)).run P w=.ok false w:=by intro d;simp [Op.equalIn,run_underlying hu]
 have he':(Op.equal t (.slice (some b) n c) (.slice none 0 0)).run P w=.ok false w:=he 9999
 have hg:(eqGuard op t p (.const (.slice none 0 0)) (.slice (some b) n c) (.slice none 0 0)).run P w=.ok () w:=by unfold eqGuard;split<;>rfl
 have b1:binOp .eql t (.slice (some b) n c) (.slice none 0 0)=(do pure (.bool (←Op.equal t (.slice (some b) n c) (.slice none 0 0))):Sem Value):=rfl
 have b2:binOp .neq t (.slice (some b) n c) (.slice none 0 0)=(do pure (.bool (!(←Op.equal t (.slice (some b) n c) (.slice none 0 0)))):Sem Value):=rfl
 generalize Op.equal t (.slice (some b) n c) (.slice none 0 0)=s at he' b1 b2
 refine .still h (v:=.bool (decide (op=.neq))) ?_ (.v rfl)
 have hb:(binOp op t (.slice (some b) n c) (.slice none 0 0)).run P w=.ok (.bool (decide (op=.neq))) w:=by
  rcases hop with rfl|rfl
  ·rw [b1];simp [he']
  ·rw [b2];simp [he']
 have hq':a.eval (.const (.slice none 0 0))=.slice none 0 0:=rfl
 simp only [execOp,ho,hv,hq',Sem.run_bind,hg,hb,Result.andThen_ok]
 rfl
end Go.Em
