/-.-/
import Derived.ReadAgain
import Derived.Deep.Slices
import Derived.ChangeArms
import Derived.ProofKit
import Derived.Test.YtcbeoccmflnejaaGreatDoorEmU7
set_option linter.all false
namespace Go.Em
open Go.RowKit
variable {xs:List X}{base n:Nat}{v:Value}
def Kw (w:World):Kn:=fun b o=>w.cell? ⟨b,o,none⟩
def Cat (p:TypeId->List X->Prop):List TypeId->List X->Prop
 |[],xs=>xs=[]
 |t::ts,xs=>∃a b,xs=a++b/\p t a/\Cat p ts b
def Shape (P:Program):Nat->TypeId->List X->Prop
 |0,_,_=>False
 |n+1,t,xs=>match P.underlying t with
  |some .bool=>∃b,xs=[.v (.bool b)]
  |some (.int k)=>∃v,xs=[.v (.int k v)]/\(Lit.int k v).wf=true
  |some .string=>∃s:qaX,xs=[.v (.string s)]/\s.size<=maxLen
  |some (.slice e)=>∃es:qaW,xs=[.sl false (P.cellsOf e) es]/\es.length<=maxLen/\∀c,c∈es->Shape P n e c
  |some (.struct fs)=>Cat (Shape P n) (fs.toList.map (·.type)) xs
  |some (.array m e)=>Cat (Shape P n) (List.replicate m e) xs
  |_=>False
def kidsOf (P:Program)(t:TypeId):Option (List TypeId):=match P.underlying t with
 |some .bool|some (.int _)|some .string=>some []
 |some (.slice e)=>if 0<P.cellsOf e then some [e] else none
 |some (.struct fs)=>some (fs.toList.map (·.type))
 |some (.array _ e)=>some [e]
 |_=>none
def dataTys (P:Program)(ts:List TypeId):Bool:=ts.all fun t=>match kidsOf P t with
 |some l=>l.all fun u=>memN u ts
 |none=>false
theorem cat_of {K:Kn}(p:TypeId->List X->Prop)(sz:TypeId->Nat):∀(ts:List TypeId) (cs:List Value),cs.length=(ts.map sz).sum->
  (∀(j:Nat) t,ts[j]?=some t->∃xs,CRep K [] xs ((cs.drop ((ts.take j).map sz).sum).take (sz t))/\p t xs)->∃xs,CRep K [] xs cs/\Cat p ts xs
 |[],cs,hl,_=>by have:cs=[]:=qaP (by grind);subst this;exact ⟨[],.nil,rfl⟩
 |t::ts,cs,hl,h=>by
  simp at hl;obtain ⟨a,ha,hpa⟩:=h 0 t rfl;obtain ⟨b,hb,hpb⟩:=cat_of (K:=K) p sz ts (cs.drop (sz t)) (by simp_all) (fun j u hu=>by obtain ⟨xs,h1,h2⟩:=h (j+1) u (by simpa using hu)<;>grind[List.drop_drop]);refine ⟨a++b,?_,a,b,rfl,hpa,hpb⟩
  grind[CRep.append,List.take_append_drop]
section
variable {H:Type} {enc:TypeId×Value->H} {P:Program} {w:World} {held:Bool}
theorem trod_array {fuel m:Nat}{t e:TypeId}{cs:List Value}{x:DataW H×List MemPlace}{spare:Nat->Bool}(ht:P.underlying t=some (.array m e))(h:DataW.trod enc P w base spare held fuel t cs=some x):
  ∃n,fuel=n+1/\cs.length=P.cellsOf t/\∀i,i<m->∃y,DataW.trod enc P w base spare held n e ((cs.drop (i*P.cellsOf e)).take (P.cellsOf e))=some y:=by
 cases fuel with
 |zero=>simp_all[DataW.trod]
 |succ n=>
  unfold DataW.trod at h;rw [ht] at h;simp only at h;split at h
  ·rename_i j;simp at h;obtain ⟨l,f,q⟩:=h;refine ⟨n,rfl,j,fun i A=>?_⟩;have u:=mapM_some_get f i i (by grind);have a:l.length=m:=by simpa using mapM_some_length f
   grind
  grind
theorem spot_of {a:Addr}{i:Nat}(h:w.cell? (a.add i)=some v)(hi:i=0):a.spot=none:=by subst hi;simp only [Addr.add,if_true,World.cell?] at h;split at h<;>simp_all
theorem trod_shape {T:TypeId->Prop}(K:Kids P T)(hT:∀t,T t->(kidsOf P t).isSome=true):∀(fuel:Nat) (t:TypeId) (cs:List Value) (x:DataW H×List MemPlace),T t->DataW.trod enc P w 0 (fun _=>true) held fuel t cs=some x->
  ∃xs,CRep (Kw w) [] xs cs/\Shape P fuel t xs:=by
 intro fuel;induction fuel with
 |zero=>simp_all[DataW.trod]
 |succ n ih=>
  intro t cs x ht h;have hk:=hT t ht;unfold kidsOf at hk;unfold Shape;split at hk;next A=>obtain ⟨b,rfl,_⟩:=DataW.trod_bool A h;exact ⟨[.v (.bool b)],CRep.cons rfl (.v rfl) .nil,b,rfl⟩
  next k A=>obtain ⟨v,rfl,_,hw⟩:=DataW.trod_int A h;exact ⟨[.v (.int k v)],CRep.cons rfl (.v rfl) .nil,v,rfl,hw⟩
  next A=>obtain ⟨s,rfl,_,hs⟩:=DataW.trod_string A h;exact ⟨[.v (.string s)],CRep.cons rfl (.v rfl) .nil,s,rfl,hs⟩
  ·rename_i e A;have Z:0<P.cellsOf e:=by
    split at hk
    ·grind
    ·grind
   rcases DataW.trod_slice A h with ⟨rfl,_⟩|⟨a,len,Q,pa,rest,m,hm,rfl,_,hb,hl,ph,Y,pj,pg,_⟩;·exact ⟨[.sl false (P.cellsOf e) []],CRep.cons rfl .slNil .nil,[],rfl,Nat.zero_le _,fun c hc=>by grind⟩
   have V:m=n:=by omega
   subst V;have hr:=pg rfl;have O:∀i,i<Q->∃cs' y,w.cells? 0 (a.add (i*P.cellsOf e)) (P.cellsOf e)=some cs'/\DataW.trod enc P w 0 (fun _=>true) held m e cs'=some y:=by
    intro i N;by_cases pk:i<len
    ·grind[qaG]
    have E:=hr.2 (i-len) (by omega);rw [show len+(i-len)=i by omega,qad (by omega)] at E<;>grind[qaG]
   by_cases pb:Q=0
   ·have pf:len=0:=by omega
    subst pf;subst pb;exact ⟨[.sl false (P.cellsOf e) []],CRep.cons rfl .slNil .nil,[],rfl,Nat.zero_le _,fun c hc=>by grind⟩
   have J:a.spot=none:=by obtain ⟨cs',y,l,_⟩:=O 0 (by omega);obtain ⟨_,S,h5⟩:=World.cells?_some l;have h6:=h5 0 Z;rw [qad (by omega)] at h6;have h7:=spot_of h6 rfl;simpa [Addr.add] using h7
   obtain ⟨b,o,sp⟩:=a;dsimp only at J;subst J;have W:∀i,i<len->∃q:List X×List Value,w.cells? 0 ⟨b,o+i*P.cellsOf e,none⟩ (P.cellsOf e)=some q.2/\CRep (Kw w) [] q.1 q.2/\Shape P m e q.1:=by intro i N;obtain ⟨cs',y,l,M⟩:=O i (by omega);obtain ⟨xs,S,h5⟩:=ih e cs' y (K.slice ht A) M;exact ⟨(xs,cs'),by grind[addr_add],S,h5⟩
   obtain ⟨q,hq⟩:=Deep.choose_lt (α:=List X×List Value) W;have F:∀i j y,at2 ((List.range len).map fun i=>(q i).1) i j=some y->i<len/\(q i).1[j]?=some y:=by
    intro i j y L;unfold at2 at L;obtain ⟨e1,E,l⟩:=qaG.1 L;rw [qaA] at E;obtain ⟨i',M,rfl⟩:=qac.1 E;have S:=(qak.1 M).1;simp at S;have:i'=i:=by simpa [S] using M.symm
    subst this;exact ⟨S,l⟩
   refine ⟨[.sl false (P.cellsOf e) ((List.range len).map fun i=>(q i).1)],CRep.cons rfl ?_ .nil,_,rfl,by grind,fun c hc=>?_⟩
   ·have pi:Rep (Kw w) [] (.sl false (P.cellsOf e) ((List.range len).map fun i=>(q i).1)) (.slice (some ⟨b,o,none⟩) ((List.range len).map fun i=>(q i).1).length Q):=by
     refine .sl (fun i j=>(q i).2.getD j undef) (fun c hc=>?_) (fun h=>by cases h) (by grind) (fun i j y L=>?_) (fun i j y L=>?_) (fun i j y L=>?_);·obtain ⟨i,N,rfl⟩:=qam.1 hc;obtain ⟨E,l,_⟩:=hq i (by grind);rw [<-l.len];exact (World.cells?_some E).2.1
     ·obtain ⟨N,B⟩:=F i j y L;exact (hq i N).2.1.cell y (qap B)
     ·obtain ⟨N,B⟩:=F i j y L;obtain ⟨E,l,_⟩:=hq i N;obtain ⟨v,hv,_⟩:=l.get B;have S:=(World.cells?_some E).2;have pc:=(qak.1 hv).1
      grind[addr_add,Kw]
     obtain ⟨N,B⟩:=F i j y L;obtain ⟨E,l,_⟩:=hq i N;obtain ⟨v,hv,pn⟩:=l.get B<;>grind
    grind
   grind
  ·rename_i fs A;obtain ⟨xs,m,hm,_,hl,Y,hf⟩:=DataW.trod_struct A h;have V:m=n:=by omega
   subst V;obtain ⟨k1,k2,k3⟩:=K.struct ht A;refine cat_of (Shape P m) P.cellsOf (fs.toList.map (·.type)) cs (by rw [hl,k2,List.map_map];rfl) (fun j u B=>?_);rw [qaA] at B;obtain ⟨f,U,rfl⟩:=qac.1 B;have E:=hf j f (by grind);have pc:=(qak.1 U).1;rw [qad (by grind)] at E;obtain ⟨ys,l,M⟩:=ih f.type _ _ (k1 f (qap U)) E;refine ⟨ys,?_,M⟩;have:=k3 j f U;rw [<-List.map_take,List.map_map];rw [this] at l;exact l
  ·rename_i m e A;obtain ⟨k,pl,hl,hf⟩:=trod_array A h;have pe:k=n:=by omega
   subst pe;obtain ⟨k1,k2⟩:=K.array ht A;refine cat_of (Shape P k) P.cellsOf (List.replicate m e) cs (by simp_all) (fun j u B=>?_);rw [List.getElem?_replicate] at B;split at B;next pd=>simp at B;subst B;obtain ⟨y,L⟩:=hf j pd;obtain ⟨ys,l,M⟩:=ih e _ _ k1 L;refine ⟨ys,?_,M⟩<;>simp_all[Nat.le_of_lt]
   grind
  grind
end
open Go.RowKit Go.ChangeShapes Go.WideShapes
def argX (P:Program)(t:TypeId)(xs:List X):X:=match P.underlying t with
 |some (.struct _)|some (.array _ _)=>.agg xs
 |_=>xs.headD undefX
def argsX (P:Program):List TypeId->qaW->List X
 |t::ts,xs::xss=>argX P t xs::argsX P ts xss
 |_,_=>[]
section
variable {P:Program} {w:World} {K:Kn}
theorem arg_rep {t:TypeId}{r:Reach}(hok:Value.okWide P w r base t v)(hs:Shape P n t xs)(hc:CRep K [] xs v.cells.toList):Rep K [] (argX P t xs) v:=by
 cases n with
 |zero=>exact hs.elim
 |succ n=>
  unfold Shape at hs;unfold argX;have one:∀x,xs=[x]->v.cells=#[v]->Rep K [] (xs.headD undefX) v:=by intro x f l;subst f;rw [l] at hc;exact hc.rep 0 x v rfl rfl
  have h:(∃cs,v=.agg cs)->Rep K [] (.agg xs) v:=by
   rintro ⟨cs,rfl⟩
   exact .agg (by simpa [Value.cells] using hc.len) hc.cell (fun j x u e m=>hc.rep j x u e (by grind[Value.cells]))
  split at hs;next a=>obtain ⟨b,rfl⟩:=okWide_bool a hok;obtain ⟨_,f⟩:=hs;simp only [a];exact one _ f rfl
  next a=>obtain ⟨b,rfl⟩:=okWide_int a hok;obtain ⟨_,f,_⟩:=hs;simp only [a];exact one _ f rfl
  next a=>obtain ⟨b,rfl⟩:=okWide_string a hok;obtain ⟨_,f,_⟩:=hs;simp only [a];exact one _ f rfl
  next a=>obtain ⟨_,_,_,rfl⟩:=okWide_slice a hok;obtain ⟨_,f,_⟩:=hs;simp only [a];exact one _ f rfl
  ·grind[Value.okWide]
  ·grind[Value.okWide]
  grind
variable {H:Type} {enc:TypeId×Value->H}
theorem args_rep {T:TypeId->Prop}(Kd:Kids P T)(hT:∀t,T t->(kidsOf P t).isSome=true):∀(ts:List TypeId) (vs:List Value) (ds:List (DataW H)) (ps:List MemPlace),(∀t,t∈ts->T t)->DataW.TrodAll enc P w 0 (fun _=>true) true ts vs ds ps->
  (∀(j:Nat) t v,ts[j]?=some t->vs[j]?=some v->∃r base,Value.okWide P w r base t v)->
  ∃xss:qaW,xss.length=ts.length/\vs.length=ts.length/\ds.length=ts.length/\(∀(j:Nat) t xs,ts[j]?=some t->xss[j]?=some xs->∃n,Shape P n t xs)/\
   ∀(j:Nat) y v,(argsX P ts xss)[j]?=some y->vs[j]?=some v->Rep (Kw w) [] y v
 |[],[],[],_,_,_,_=>⟨[],rfl,rfl,rfl,fun j t xs h=>by grind,fun j y v h=>by grind⟩
 |t::ts,v::vs,d::ds,_,hts,⟨p,q,⟨fuel,h1⟩,h2,_⟩,hok=>by
  obtain ⟨xs,hc,hs⟩:=trod_shape Kd hT fuel t _ _ (hts t (by simp)) h1;obtain ⟨xss,e1,e2,e3,e4,e5⟩:=args_rep Kd hT ts vs ds q (fun u hu=>hts u (by grind)) h2 (fun j u x e e'=>hok (j+1) u x (by grind) (by grind));obtain ⟨r,base,ho⟩:=hok 0 t v rfl rfl;refine ⟨xs::xss,by grind,by grind,by grind,fun j u ys h h'=>?_,fun j y x h h'=>?_⟩
  ·grind
  grind[argsX,arg_rep]
 |[],_::_,_,_,_,h,_=>h.elim
 |_::_,[],_,_,_,h,_=>h.elim
 |_::_,_::_,[],_,_,h,_=>h.elim
 |[],[],_::_,_,_,h,_=>h.elim
theorem argsX_length:∀(ts:List TypeId) (xss:qaW),xss.length=ts.length->(argsX P ts xss).length=ts.length
 |[],[],_=>rfl
 |t::ts,xs::xss,h=>by simp [argsX,argsX_length ts xss (by grind)]
 |[],_::_,h=>by grind
 |_::_,[],h=>by grind
theorem trodAll_stay {w':World}(hb:Below w.heap.size w w'):∀{ts:List TypeId} {vs:List Value} {ds:List (DataW H)} {ps:List MemPlace},(∀p,p∈ps->p.block<w.heap.size)->DataW.TrodAll enc P w 0 (fun _=>true) true ts vs ds ps->DataW.TrodAll enc P w' 0 (fun _=>true) true ts vs ds ps
 |[],[],[],_,_,h=>h
 |_::_,_::_,_::_,_,hlt,⟨p,q,⟨n,h1⟩,h2,e⟩=>⟨p,q,⟨n,DataW.trod_carry n _ _ _ h1 fun x hx=>hb.same (hlt x (by grind))⟩,trodAll_stay hb (fun x hx=>hlt x (by grind)) h2,e⟩
 |[],_::_,_,_,_,h=>h.elim
 |_::_,[],_,_,_,h=>h.elim
 |_::_,_::_,[],_,_,h=>h.elim
 |[],[],_::_,_,_,h=>h.elim
theorem lifted_true {Γ:Nat->Gam}{gl:Nat->Option (List X)}(hΓ:∀n,GamOk P (RCode P gl) (Γ n)){f:FuncId}{fn:Func}{s:ChangeSpec}{fresh handsOn:Bool}{T:TypeId->Prop}(Kd:Kids P T)(hT:∀t,T t->(kidsOf P t).isSome=true)(hz:∀t e,T t->P.underlying t=some (.slice e)->0<P.cellsOf e)
  (hpar:∀t,t∈fn.params.toList->T t) {tb:TypeId} (hres:fn.resultTypes=#[tb]) (htb:P.underlying tb=some .bool) (hvars:s.vars=[]) (hfn:∀ds:List (DataW H),ds.length=fn.params.size->s.fn H ds={results:=[.lit (.bool true)],args:=ds})
  (hrun:∀xss:qaW,xss.length=fn.params.toList.length->(∀(j:Nat) t xs,fn.params.toList[j]?=some t->xss[j]?=some xs->∃n,Shape P n t xs)->∃n outb,Γ n (.fn f) (argsX P fn.params.toList xss) []=some (.v (.bool true),outb))
  (W:World) (hgl:GlobOk (RCode P gl) (Kw W)) (base:Nat) (args:Array Value) (ds gs:List (DataW H)) (before:List MemPlace)
  (hval:∀(j:Nat) t v,fn.params[j]?=some t->args[j]?=some v->Value.okWide P W .any base t v) (hW:DataW.Whole enc P fn.params.toList s.vars false W args.toList ds gs before):
  Calls P f args W fun e W'=>∃v,e=.returned v/\s.post enc P fn false fresh handsOn false W args v W':=by
 have A:=hW;obtain ⟨p,q,w,F,rfl,O,Q⟩:=hW;rw [hvars] at F;obtain ⟨rfl,rfl⟩:=trodVars_none F;obtain ⟨xss,J,S,U,L,M⟩:=args_rep Kd hT fn.params.toList args.toList ds p hpar w (fun j t v h N=>⟨.any,base,hval j t v (by grind) (by grind)⟩);obtain ⟨n,outb,m⟩:=hrun xss J L;obtain ⟨_,u⟩:=(hΓ n).fn f _ _ _ _ m;have l:ArgsRep (Kw W) [] (argsX P fn.params.toList xss) args:=⟨by grind[argsX_length],fun j y v h N=>M j y v h (by grind)⟩;refine (calls_of_data (K:=Kw W) u hgl (fun b o v h=>h) l).mono fun e W' ⟨he,hn⟩=>?_;subst he;have B:=DataW.TrodAll.lt w;have E:=DataW.TrodAll.respare (spare':=fun b=>decide (b<W.heap.size)) Kd hz hpar (trodAll_stay hn B w) (fun x V=>by grind);have a:=hfn (ds++[]) (by grind);rw [List.append_nil] at a;refine ⟨_,rfl,ds,[],p++[],[],p,[],A,?_,?_,?_,hn.frame _,fun h=>by cases h⟩;·rw [List.append_nil,a,hres];exact trodAll_mk1 (shut_bool htb true)
 ·grind
 rw [hvars,List.append_nil,a];exact rfl
end
theorem memN_mem {l:List Nat}:memN n l=true↔n∈l:=memN_iff
section
variable {P:Program} {ts:List TypeId}
theorem kids_mem (h:dataTys P ts=true){t:TypeId}(ht:t∈ts):∃l,kidsOf P t=some l/\∀u,u∈l->u∈ts:=by have:=qas.1 h t ht<;>grind[memN_mem]
theorem kids_data (hk:Kids P (·<P.types.size))(h:dataTys P ts=true):Kids P (fun t=>t∈ts/\t<P.types.size):=by
 refine ⟨fun {t e} ht hu=>?_,fun {t e} ht hu=>?_,fun {t e n} ht hu=>?_,fun {t fs} ht hu=>?_,fun {t k e} ht hu=>?_⟩
 ·grind[kids_mem,kidsOf]
 ·obtain ⟨l,a,f⟩:=kids_mem h ht.1;simp only [kidsOf,hu] at a;split at a;·simp at a;subst a;exact ⟨f e (by simp),hk.slice ht.2 hu⟩
  grind
 ·obtain ⟨l,a,f⟩:=kids_mem h ht.1;simp only [kidsOf,hu,qah] at a;subst a;exact ⟨⟨f e (by simp),(hk.array ht.2 hu).1⟩,(hk.array ht.2 hu).2⟩
 ·obtain ⟨l,a,f⟩:=kids_mem h ht.1;simp only [kidsOf,hu,qah] at a;subst a;obtain ⟨j,m,q⟩:=hk.struct ht.2 hu
  grind
 grind[kids_mem,kidsOf]
theorem kids_some (h:dataTys P ts=true):∀t,t∈ts/\t<P.types.size->(kidsOf P t).isSome=true:=by grind[kids_mem]
theorem kids_full (h:dataTys P ts=true):∀t e,t∈ts/\t<P.types.size->P.underlying t=some (.slice e)->0<P.cellsOf e:=by grind[kids_mem,kidsOf]
theorem shape_int {t:TypeId}{k:IntKind}(hu:P.underlying t=some (.int k))(h:Shape P n t xs):∃v,xs=[.v (.int k v)]/\(Lit.int k v).wf=true:=by
 cases n<;>grind[Shape]
theorem shape_bool {t:TypeId}(hu:P.underlying t=some .bool)(h:Shape P n t xs):∃b,xs=[.v (.bool b)]:=by
 cases n<;>grind[Shape]
theorem shape_string {t:TypeId}(hu:P.underlying t=some .string)(h:Shape P n t xs):∃s:qaX,xs=[.v (.string s)]/\s.size<=maxLen:=by
 cases n<;>grind[Shape]
theorem shape_slice {t e:TypeId}(hu:P.underlying t=some (.slice e))(h:Shape P n t xs):∃es:qaW,xs=[.sl false (P.cellsOf e) es]/\es.length<=maxLen/\∃m,m<n/\∀c,c∈es->Shape P m e c:=by
 cases n with
 |zero=>exact h.elim
 |succ n=>simp only [Shape,hu] at h;obtain ⟨es,a,f,j⟩:=h;exact ⟨es,a,f,n,qaf n,j⟩
theorem shape_struct {t:TypeId}{fs:Array Field}(hu:P.underlying t=some (.struct fs))(h:Shape P n t xs):∃m,m<n/\Cat (Shape P m) (fs.toList.map (·.type)) xs:=by
 cases n with
 |zero=>exact h.elim
 |succ n=>simp only [Shape,hu] at h;grind
theorem list_of {α:Type}(g:α->List X){es:qaW}(h:∀c,c∈es->∃a,c=g a):∃l:List α,es=l.map g:=by
 induction es with
 |nil=>simp_all
 |cons c es ih=>obtain ⟨a,rfl⟩:=h c (by simp);obtain ⟨l,rfl⟩:=ih fun d f=>h d (by grind);exact ⟨a::l,rfl⟩
end
end Go.Em
