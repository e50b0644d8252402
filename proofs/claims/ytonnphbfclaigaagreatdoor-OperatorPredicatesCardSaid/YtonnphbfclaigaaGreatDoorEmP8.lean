/-.-/
import Derived.ReadAgain
import Derived.Deep.Slices
import Derived.ChangeArms
import Derived.ProofKit
import Derived.Test.YtonnphbfclaigaaGreatDoorEmP7
set_option linter.all false
namespace Go.Em
open Go.RowKit
variable {xs:List X}{base n:Nat}{v:Value}
def Kw (w:World):Kn:=fun b o=>w.cell? ⟨b,o,none⟩
def Cat (p:TypeId->List X->Prop):List TypeId->List X->Prop
 |[],xs=>xs=[]
 |t::ts,xs=>∃a b,xs=a++b/\p t a/\Cat p ts b
def Shape (P:Program):Nat->TypeId->List X->Prop
 |0,_,_=>False
 |n+1,t,xs=>match P.underlying t with
  |some .bool=>∃b,xs=[.v (.bool b)]
  |some (.int k)=>∃v,xs=[.v (.int k v)]/\(Lit.int k v).wf=true
  |some .string=>∃s:qbJ,xs=[.v (.string s)]/\s.size<=maxLen
  |some (.slice e)=>∃es:qbI,xs=[.sl false (P.cellsOf e) es]/\es.length<=maxLen/\∀c,c∈es->Shape P n e c
  |some (.struct fs)=>Cat (Shape P n) (fs.toList.map (·.type)) xs
  |some (.array m e)=>Cat (Shape P n) (List.replicate m e) xs
  |_=>False
def kidsOf (P:Program)(t:TypeId):Option (List TypeId):=match P.underlying t with
 |some .bool|some (.int _)|some .string=>some []
 |some (.slice e)=>if 0<P.cellsOf e then some [e] else none
 |some (.struct fs)=>some (fs.toList.map (·.type))
 |some (.array _ e)=>some [e]
 |_=>none
def dataTys (P:Program)(ts:List TypeId):Bool:=ts.all fun t=>match kidsOf P t with
 |some l=>l.all fun u=>memN u ts
 |none=>false
theorem cat_of {K:Kn}(p:TypeId->List X->Prop)(sz:TypeId->Nat):∀(ts:List TypeId) (cs:List Value),cs.length=(ts.map sz).sum->
  (∀(j:Nat) t,ts[j]?=some t->∃xs,CRep K [] xs ((cs.drop ((ts.take j).map sz).sum).take (sz t))/\p t xs)->∃xs,CRep K [] xs cs/\Cat p ts xs
 |[],cs,hl,_=>by have:cs=[]:=qbx (by grind);subst this;exact ⟨[],.nil,rfl⟩
 |t::ts,cs,hl,h=>by
  simp at hl;obtain ⟨a,ha,hpa⟩:=h 0 t rfl;obtain ⟨b,hb,hpb⟩:=cat_of (K:=K) p sz ts (cs.drop (sz t)) (by simp_all) (fun j u hu=>by obtain ⟨xs,h1,h2⟩:=h (j+1) u (by simpa using hu)<;>grind[List.drop_drop]);refine ⟨a++b,?_,a,b,rfl,hpa,hpb⟩
  grind[CRep.append,List.take_append_drop]
section
variable {H:Type} {enc:TypeId×Value->H} {P:Program} {w:World} {held:Bool}
theorem trod_array {fuel m:Nat}{t e:TypeId}{cs:List Value}{x:DataW H×List MemPlace}{spare:Nat->Bool}(ht:P.underlying t=some (.array m e))(h:DataW.trod enc P w base spare held fuel t cs=some x):
  ∃n,fuel=n+1/\cs.length=P.cellsOf t/\∀i,i<m->∃y,DataW.trod enc P w base spare held n e ((cs.drop (i*P.cellsOf e)).take (P.cellsOf e))=some y:=by
 cases fuel with
 |zero=>simp_all[DataW.trod]
 |succ n=>
  unfold DataW.trod at h;rw [ht] at h;simp only at h;split at h
  ·rename_i hl;simp at h;obtain ⟨xs,hp,hd⟩:=h;refine ⟨n,rfl,hl,fun i hi=>?_⟩;have hg:=mapM_some_get hp i i (by grind);have hlen:xs.length=m:=by simpa using mapM_some_length hp
   grind
  grind
theorem spot_of {a:Addr}{i:Nat}(h:w.cell? (a.add i)=some v)(hi:i=0):a.spot=none:=by subst hi;simp only [Addr.add,if_true,World.cell?] at h;split at h<;>simp_all
theorem trod_shape {T:TypeId->Prop}(K:Kids P T)(hT:∀t,T t->(kidsOf P t).isSome=true):∀(fuel:Nat) (t:TypeId) (cs:List Value) (x:DataW H×List MemPlace),T t->DataW.trod enc P w 0 (fun _=>true) held fuel t cs=some x->
  ∃xs,CRep (Kw w) [] xs cs/\Shape P fuel t xs:=by
 intro fuel;induction fuel with
 |zero=>simp_all[DataW.trod]
 |succ n ih=>
  intro t cs x ht h;have hk:=hT t ht;unfold kidsOf at hk;unfold Shape;split at hk;next hu=>obtain ⟨b,rfl,_⟩:=DataW.trod_bool hu h;exact ⟨[.v (.bool b)],CRep.cons rfl (.v rfl) .nil,b,rfl⟩
  next k hu=>obtain ⟨v,rfl,_,hw⟩:=DataW.trod_int hu h;exact ⟨[.v (.int k v)],CRep.cons rfl (.v rfl) .nil,v,rfl,hw⟩
  next hu=>obtain ⟨s,rfl,_,hs⟩:=DataW.trod_string hu h;exact ⟨[.v (.string s)],CRep.cons rfl (.v rfl) .nil,s,rfl,hs⟩
  ·rename_i e hu;have hpos:0<P.cellsOf e:=by
    split at hk
    ·grind
    ·grind
   rcases DataW.trod_slice hu h with ⟨rfl,_⟩|⟨a,len,cap,elems,rest,m,hm,rfl,_,hb,hl,hcap,hlen,hel,hsp,_⟩;·exact ⟨[.sl false (P.cellsOf e) []],CRep.cons rfl .slNil .nil,[],rfl,Nat.zero_le _,fun c hc=>by grind⟩
   have hmn:m=n:=by omega
   subst hmn;have hr:=hsp rfl;have hone:∀i,i<cap->∃cs' y,w.cells? 0 (a.add (i*P.cellsOf e)) (P.cellsOf e)=some cs'/\DataW.trod enc P w 0 (fun _=>true) held m e cs'=some y:=by
    intro i hi;by_cases hil:i<len
    ·grind[qbi]
    have h1:=hr.2 (i-len) (by omega);rw [show len+(i-len)=i by omega,qa3 (by omega)] at h1<;>grind[qbi]
   by_cases hc0:cap=0
   ·have hl0:len=0:=by omega
    subst hl0;subst hc0;exact ⟨[.sl false (P.cellsOf e) []],CRep.cons rfl .slNil .nil,[],rfl,Nat.zero_le _,fun c hc=>by grind⟩
   have hspot:a.spot=none:=by obtain ⟨cs',y,h2,_⟩:=hone 0 (by omega);obtain ⟨_,h4,h5⟩:=World.cells?_some h2;have h6:=h5 0 hpos;rw [qa3 (by omega)] at h6;have h7:=spot_of h6 rfl;simpa [Addr.add] using h7
   obtain ⟨b,o,sp⟩:=a;dsimp only at hspot;subst hspot;have hall:∀i,i<len->∃q:List X×List Value,w.cells? 0 ⟨b,o+i*P.cellsOf e,none⟩ (P.cellsOf e)=some q.2/\CRep (Kw w) [] q.1 q.2/\Shape P m e q.1:=by intro i hi;obtain ⟨cs',y,h2,h3⟩:=hone i (by omega);obtain ⟨xs,h4,h5⟩:=ih e cs' y (K.slice ht hu) h3;exact ⟨(xs,cs'),by grind[addr_add],h4,h5⟩
   obtain ⟨q,hq⟩:=Deep.choose_lt (α:=List X×List Value) hall;have hget:∀i j y,at2 ((List.range len).map fun i=>(q i).1) i j=some y->i<len/\(q i).1[j]?=some y:=by
    intro i j y hy;unfold at2 at hy;obtain ⟨e1,h1,h2⟩:=qbi.1 hy;rw [qbe] at h1;obtain ⟨i',h3,rfl⟩:=qa1.1 h1;have h4:=(qaY.1 h3).1;simp at h4;have:i'=i:=by simpa [h4] using h3.symm
    subst this;exact ⟨h4,h2⟩
   refine ⟨[.sl false (P.cellsOf e) ((List.range len).map fun i=>(q i).1)],CRep.cons rfl ?_ .nil,_,rfl,by grind,fun c hc=>?_⟩
   ·have hrep:Rep (Kw w) [] (.sl false (P.cellsOf e) ((List.range len).map fun i=>(q i).1)) (.slice (some ⟨b,o,none⟩) ((List.range len).map fun i=>(q i).1).length cap):=by
     refine .sl (fun i j=>(q i).2.getD j undef) (fun c hc=>?_) (fun h=>by cases h) (by grind) (fun i j y hy=>?_) (fun i j y hy=>?_) (fun i j y hy=>?_);·obtain ⟨i,hi,rfl⟩:=qbh.1 hc;obtain ⟨h1,h2,_⟩:=hq i (by grind);rw [<-h2.len];exact (World.cells?_some h1).2.1
     ·obtain ⟨hi,hj⟩:=hget i j y hy;exact (hq i hi).2.1.cell y (qa5 hj)
     ·obtain ⟨hi,hj⟩:=hget i j y hy;obtain ⟨h1,h2,_⟩:=hq i hi;obtain ⟨v,hv,_⟩:=h2.get hj;have h4:=(World.cells?_some h1).2;have hjl:=(qaY.1 hv).1
      grind[addr_add,Kw]
     obtain ⟨hi,hj⟩:=hget i j y hy;obtain ⟨h1,h2,_⟩:=hq i hi;obtain ⟨v,hv,hrv⟩:=h2.get hj<;>grind
    grind
   grind
  ·rename_i fs hu;obtain ⟨xs,m,hm,_,hl,hlen,hf⟩:=DataW.trod_struct hu h;have hmn:m=n:=by omega
   subst hmn;obtain ⟨k1,k2,k3⟩:=K.struct ht hu;refine cat_of (Shape P m) P.cellsOf (fs.toList.map (·.type)) cs (by rw [hl,k2,List.map_map];rfl) (fun j u hj=>?_);rw [qbe] at hj;obtain ⟨f,hfj,rfl⟩:=qa1.1 hj;have h1:=hf j f (by grind);have hjl:=(qaY.1 hfj).1;rw [qa3 (by grind)] at h1;obtain ⟨ys,h2,h3⟩:=ih f.type _ _ (k1 f (qa5 hfj)) h1;refine ⟨ys,?_,h3⟩;have:=k3 j f hfj;rw [<-List.map_take,List.map_map];rw [this] at h2;exact h2
  ·rename_i m e hu;obtain ⟨k,hk1,hl,hf⟩:=trod_array hu h;have hkn:k=n:=by omega
   subst hkn;obtain ⟨k1,k2⟩:=K.array ht hu;refine cat_of (Shape P k) P.cellsOf (List.replicate m e) cs (by simp_all) (fun j u hj=>?_);rw [List.getElem?_replicate] at hj;split at hj;next hjm=>simp at hj;subst hj;obtain ⟨y,hy⟩:=hf j hjm;obtain ⟨ys,h2,h3⟩:=ih e _ _ k1 hy;refine ⟨ys,?_,h3⟩<;>simp_all[Nat.le_of_lt]
   grind
  grind
end
open Go.RowKit Go.ChangeShapes Go.WideShapes
def argX (P:Program)(t:TypeId)(xs:List X):X:=match P.underlying t with
 |some (.struct _)|some (.array _ _)=>.agg xs
 |_=>xs.headD undefX
def argsX (P:Program):List TypeId->qbI->List X
 |t::ts,xs::xss=>argX P t xs::argsX P ts xss
 |_,_=>[]
section
variable {P:Program} {w:World} {K:Kn}
theorem arg_rep {t:TypeId}{r:Reach}(hok:Value.okWide P w r base t v)(hs:Shape P n t xs)(hc:CRep K [] xs v.cells.toList):Rep K [] (argX P t xs) v:=by
 cases n with
 |zero=>exact hs.elim
 |succ n=>
  unfold Shape at hs;unfold argX;have one:∀x,xs=[x]->v.cells=#[v]->Rep K [] (xs.headD undefX) v:=by intro x hx hv;subst hx;rw [hv] at hc;exact hc.rep 0 x v rfl rfl
  have aggr:(∃cs,v=.agg cs)->Rep K [] (.agg xs) v:=by
   rintro ⟨cs,rfl⟩
   exact .agg (by simpa [Value.cells] using hc.len) hc.cell (fun j x u e e'=>hc.rep j x u e (by grind[Value.cells]))
  split at hs;next hu=>obtain ⟨b,rfl⟩:=okWide_bool hu hok;obtain ⟨_,hx⟩:=hs;simp only [hu];exact one _ hx rfl
  next hu=>obtain ⟨b,rfl⟩:=okWide_int hu hok;obtain ⟨_,hx,_⟩:=hs;simp only [hu];exact one _ hx rfl
  next hu=>obtain ⟨b,rfl⟩:=okWide_string hu hok;obtain ⟨_,hx,_⟩:=hs;simp only [hu];exact one _ hx rfl
  next hu=>obtain ⟨_,_,_,rfl⟩:=okWide_slice hu hok;obtain ⟨_,hx,_⟩:=hs;simp only [hu];exact one _ hx rfl
  ·grind[Value.okWide]
  ·grind[Value.okWide]
  grind
variable {H:Type} {enc:TypeId×Value->H}
theorem args_rep {T:TypeId->Prop}(Kd:Kids P T)(hT:∀t,T t->(kidsOf P t).isSome=true):∀(ts:List TypeId) (vs:List Value) (ds:List (DataW H)) (ps:List MemPlace),(∀t,t∈ts->T t)->DataW.TrodAll enc P w 0 (fun _=>true) true ts vs ds ps->
  (∀(j:Nat) t v,ts[j]?=some t->vs[j]?=some v->∃r base,Value.okWide P w r base t v)->
  ∃xss:qbI,xss.length=ts.length/\vs.length=ts.length/\ds.length=ts.length/\(∀(j:Nat) t xs,ts[j]?=some t->xss[j]?=some xs->∃n,Shape P n t xs)/\
   ∀(j:Nat) y v,(argsX P ts xss)[j]?=some y->vs[j]?=some v->Rep (Kw w) [] y v
 |[],[],[],_,_,_,_=>⟨[],rfl,rfl,rfl,fun j t xs h=>by grind,fun j y v h=>by grind⟩
 |t::ts,v::vs,d::ds,_,hts,⟨p,q,⟨fuel,h1⟩,h2,_⟩,hok=>by
  obtain ⟨xs,hc,hs⟩:=trod_shape Kd hT fuel t _ _ (hts t (by simp)) h1;obtain ⟨xss,e1,e2,e3,e4,e5⟩:=args_rep Kd hT ts vs ds q (fun u hu=>hts u (by grind)) h2 (fun j u x e e'=>hok (j+1) u x (by grind) (by grind));obtain ⟨r,base,ho⟩:=hok 0 t v rfl rfl;refine ⟨xs::xss,by grind,by grind,by grind,fun j u ys h h'=>?_,fun j y x h h'=>?_⟩
  ·grind
  grind[argsX,arg_rep]
 |[],_::_,_,_,_,h,_=>h.elim
 |_::_,[],_,_,_,h,_=>h.elim
 |_::_,_::_,[],_,_,h,_=>h.elim
 |[],[],_::_,_,_,h,_=>h.elim
theorem argsX_length:∀(ts:List TypeId) (xss:qbI),xss.length=ts.length->(argsX P ts xss).length=ts.length
 |[],[],_=>rfl
 |t::ts,xs::xss,h=>by simp [argsX,argsX_length ts xss (by grind)]
 |[],_::_,h=>by grind
 |_::_,[],h=>by grind
theorem trodAll_stay {w':World}(hb:Below w.heap.size w w'):∀{ts:List TypeId} {vs:List Value} {ds:List (DataW H)} {ps:List MemPlace},(∀p,p∈ps->p.block<w.heap.size)->DataW.TrodAll enc P w 0 (fun _=>true) true ts vs ds ps->DataW.TrodAll enc P w' 0 (fun _=>true) true ts vs ds ps
 |[],[],[],_,_,h=>h
 |_::_,_::_,_::_,_,hlt,⟨p,q,⟨n,h1⟩,h2,e⟩=>⟨p,q,⟨n,DataW.trod_carry n _ _ _ h1 fun x hx=>hb.same (hlt x (by grind))⟩,trodAll_stay hb (fun x hx=>hlt x (by grind)) h2,e⟩
 |[],_::_,_,_,_,h=>h.elim
 |_::_,[],_,_,_,h=>h.elim
 |_::_,_::_,[],_,_,h=>h.elim
 |[],[],_::_,_,_,h=>h.elim
theorem lifted_true {Γ:Nat->Gam}{gl:Nat->Option (List X)}(hΓ:∀n,GamOk P (RCode P gl) (Γ n)){f:FuncId}{fn:Func}{s:ChangeSpec}{fresh handsOn:Bool}{T:TypeId->Prop}(Kd:Kids P T)(hT:∀t,T t->(kidsOf P t).isSome=true)(hz:∀t e,T t->P.underlying t=some (.slice e)->0<P.cellsOf e)
  (hpar:∀t,t∈fn.params.toList->T t) {tb:TypeId} (hres:fn.resultTypes=#[tb]) (htb:P.underlying tb=some .bool) (hvars:s.vars=[]) (hfn:∀ds:List (DataW H),ds.length=fn.params.size->s.fn H ds={results:=[.lit (.bool true)],args:=ds})
  (hrun:∀xss:qbI,xss.length=fn.params.toList.length->(∀(j:Nat) t xs,fn.params.toList[j]?=some t->xss[j]?=some xs->∃n,Shape P n t xs)->∃n outb,Γ n (.fn f) (argsX P fn.params.toList xss) []=some (.v (.bool true),outb))
  (W:World) (hgl:GlobOk (RCode P gl) (Kw W)) (base:Nat) (args:Array Value) (ds gs:List (DataW H)) (before:List MemPlace)
  (hval:∀(j:Nat) t v,fn.params[j]?=some t->args[j]?=some v->Value.okWide P W .any base t v) (hW:DataW.Whole enc P fn.params.toList s.vars false W args.toList ds gs before):
  Calls P f args W fun e W'=>∃v,e=.returned v/\s.post enc P fn false fresh handsOn false W args v W':=by
 have hW':=hW;obtain ⟨p,q,hA,hV,rfl,hfz,hnd⟩:=hW;rw [hvars] at hV;obtain ⟨rfl,rfl⟩:=trodVars_none hV;obtain ⟨xss,e1,e2,e3,e4,e5⟩:=args_rep Kd hT fn.params.toList args.toList ds p hpar hA (fun j t v h h'=>⟨.any,base,hval j t v (by grind) (by grind)⟩);obtain ⟨n,outb,hcall⟩:=hrun xss e1 e4;obtain ⟨_,hsem⟩:=(hΓ n).fn f _ _ _ _ hcall;have hargs:ArgsRep (Kw W) [] (argsX P fn.params.toList xss) args:=⟨by grind[argsX_length],fun j y v h h'=>e5 j y v h (by grind)⟩;refine (calls_of_data (K:=Kw W) hsem hgl (fun b o v h=>h) hargs).mono fun e W' ⟨he,hn⟩=>?_;subst he;have hlt:=DataW.TrodAll.lt hA;have hstay:=DataW.TrodAll.respare (spare':=fun b=>decide (b<W.heap.size)) Kd hz hpar (trodAll_stay hn hlt hA) (fun x hx=>by grind);have hfn':=hfn (ds++[]) (by grind);rw [List.append_nil] at hfn';refine ⟨_,rfl,ds,[],p++[],[],p,[],hW',?_,?_,?_,hn.frame _,fun h=>by cases h⟩;·rw [List.append_nil,hfn',hres];exact trodAll_mk1 (shut_bool htb true)
 ·grind
 rw [hvars,List.append_nil,hfn'];exact rfl
end
theorem memN_mem {l:List Nat}:memN n l=true↔n∈l:=memN_iff
section
variable {P:Program} {ts:List TypeId}
theorem kids_mem (h:dataTys P ts=true){t:TypeId}(ht:t∈ts):∃l,kidsOf P t=some l/\∀u,u∈l->u∈ts:=by have:=qbo.1 h t ht<;>grind[memN_mem]
theorem kids_data (hk:Kids P (·<P.types.size))(h:dataTys P ts=true):Kids P (fun t=>t∈ts/\t<P.types.size):=by
 refine ⟨fun {t e} ht hu=>?_,fun {t e} ht hu=>?_,fun {t e n} ht hu=>?_,fun {t fs} ht hu=>?_,fun {t k e} ht hu=>?_⟩
 ·grind[kids_mem,kidsOf]
 ·obtain ⟨l,hl,hm⟩:=kids_mem h ht.1;simp only [kidsOf,hu] at hl;split at hl;·simp at hl;subst hl;exact ⟨hm e (by simp),hk.slice ht.2 hu⟩
  grind
 ·obtain ⟨l,hl,hm⟩:=kids_mem h ht.1;simp only [kidsOf,hu,qaE] at hl;subst hl;exact ⟨⟨hm e (by simp),(hk.array ht.2 hu).1⟩,(hk.array ht.2 hu).2⟩
 ·obtain ⟨l,hl,hm⟩:=kids_mem h ht.1;simp only [kidsOf,hu,qaE] at hl;subst hl;obtain ⟨k1,k2,k3⟩:=hk.struct ht.2 hu
  grind
 grind[kids_mem,kidsOf]
theorem kids_some (h:dataTys P ts=true):∀t,t∈ts/\t<P.types.size->(kidsOf P t).isSome=true:=by grind[kids_mem]
theorem kids_full (h:dataTys P ts=true):∀t e,t∈ts/\t<P.types.size->P.underlying t=some (.slice e)->0<P.cellsOf e:=by grind[kids_mem,kidsOf]
theorem shape_int {t:TypeId}{k:IntKind}(hu:P.underlying t=some (.int k))(h:Shape P n t xs):∃v,xs=[.v (.int k v)]/\(Lit.int k v).wf=true:=by
 cases n<;>grind[Shape]
theorem shape_bool {t:TypeId}(hu:P.underlying t=some .bool)(h:Shape P n t xs):∃b,xs=[.v (.bool b)]:=by
 cases n<;>grind[Shape]
theorem shape_string {t:TypeId}(hu:P.underlying t=some .string)(h:Shape P n t xs):∃s:qbJ,xs=[.v (.string s)]/\s.size<=maxLen:=by
 cases n<;>grind[Shape]
theorem shape_slice {t e:TypeId}(hu:P.underlying t=some (.slice e))(h:Shape P n t xs):∃es:qbI,xs=[.sl false (P.cellsOf e) es]/\es.length<=maxLen/\∃m,m<n/\∀c,c∈es->Shape P m e c:=by
 cases n with
 |zero=>exact h.elim
 |succ n=>simp only [Shape,hu] at h;obtain ⟨es,h1,h2,h3⟩:=h;exact ⟨es,h1,h2,n,qbF n,h3⟩
theorem shape_struct {t:TypeId}{fs:Array Field}(hu:P.underlying t=some (.struct fs))(h:Shape P n t xs):∃m,m<n/\Cat (Shape P m) (fs.toList.map (·.type)) xs:=by
 cases n with
 |zero=>exact h.elim
 |succ n=>simp only [Shape,hu] at h;grind
theorem list_of {α:Type}(g:α->List X){es:qbI}(h:∀c,c∈es->∃a,c=g a):∃l:List α,es=l.map g:=by
 induction es with
 |nil=>simp_all
 |cons c es ih=>obtain ⟨a,rfl⟩:=h c (by simp);obtain ⟨l,rfl⟩:=ih fun d hd=>h d (by grind);exact ⟨a::l,rfl⟩
end
end Go.Em
