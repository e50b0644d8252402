/-.-/
import Derived.Test.YtcbeoccmflnejaaGreatDoorEmU10
set_option linter.all false
namespace Go.Ab
open Go.Em
section
variable {a:ASt}{raw:Bool}{θl:List (Nat×Lin)}{bxs:List Bx}{xs:List X}{σ:St}
variable {T:Tab} {n m:Nat} {ρ ρ':Rho}
mutual
def AX.data (F:List Fact)(bx:List ABx)(raw:Bool):AX->Option AX
 |.bs i o l=>match bx[i]?,OT o l with
  |some (.row sz k h rl),some e=>if leL F e rl then some (.sl (some false) sz k h l) else none
  |_,_=>none
 |.sl t sz k h l=>some (.sl (if raw then t else some false) sz k h l)
 |.agg cs=>(JD F bx raw cs).map .agg
 |.tup cs=>(JD F bx raw cs).map .tup
 |.x (.v v)=>some (.x (.v v))
 |.x .ifc=>some (.x .ifc)
 |.x (.sl t s es)=>some (.x (.sl (raw&&t) s es))
 |.x _=>none
 |.i k l=>some (.i k l)
 |.b t u=>some (.b t u)
 |.s l=>some (.s l)
 |.ptr i e o=>some (.ptr i e o)
 |.dp cs=>some (.dp cs)
 |.fn f cs=>some (.fn f cs)
 |.yl i=>some (.yl i)
 |.mp i=>some (.mp i)
 |.nX=>some .nX
 |.el k h=>some (.el k h)
 |.de k h=>some (.de k h)
def JD (F:List Fact)(bx:List ABx)(raw:Bool):List AX->Option (List AX)
 |[]=>some []
 |x::r=>match x.data F bx raw with
  |none=>none
  |some y=>(JD F bx raw r).map (y::·)
end
theorem UA {P:Nat->List X->Prop}{t:ET}{x:X}(h:yU P t x):∃y,x.data bxs raw=some y/\yU P t y:=by
 unfold yU at h;split at h;·exact ⟨_,rfl,h⟩
 ·exact ⟨_,rfl,trivial⟩
 ·exact ⟨_,rfl,h⟩
 ·exact ⟨_,rfl,h⟩
 ·exact ⟨_,rfl,trivial⟩
 ·rcases h with rfl|rfl;·exact ⟨_,rfl,.inl rfl⟩
  exact ⟨_,rfl,.inr rfl⟩
 grind
theorem MC {P:Nat->List X->Prop}{bxs:List Bx}{raw:Bool}:∀{ts:List ET} {xs:List X},ETs P ts xs->∃ys,dataL bxs raw xs=some ys/\ETs P ts ys
 |[],[],_=>⟨[],rfl,trivial⟩
 |t::ts,x::xs,h=>by obtain ⟨y,h1,h2⟩:=UA (bxs:=bxs) (raw:=raw) h.1;obtain ⟨ys,h3,h4⟩:=MC (bxs:=bxs) (raw:=raw) h.2;exact ⟨y::ys,by grind[dataL],h2,h4⟩
theorem zhj {T:Tab}{h:Int}{k:Nat}(hd:D T h k xs):∃ys,dataL bxs raw xs=some ys/\D T h k ys:=by
 obtain ⟨j,a,n,f⟩:=oN hd;obtain ⟨ys,l,m⟩:=MC (bxs:=bxs) (raw:=raw) f
 grind[eX]
mutual
theorem G.data {F:List Fact}{bx:List ABx}{bxs:List Bx}{raw:Bool}(hF:aV n ρ F)(hb:GBs T n ρ bx bxs)(h0:ρ 0=0):∀{a y:AX} {x:X},G T n ρ a x->a.data F bx raw=some y->∃z,x.data bxs raw=some z/\G T n ρ y z
 |.bs i o l,y,.bs _ o' l',.bs q1 q2 q3 q4,h=>by
  unfold AX.data at h;split at h
  ·rename_i sz k hh rl e hbx ha;split at h
   ·rename_i hc;cases h;have c:=aO hF hc;rw [kV h0 ha] at c;obtain ⟨b,hb',hgb⟩:=hb.get hbx;cases hgb with
    |row w1 w2 w3 w4=>
     rename_i es;have hle:o'+l'<=es.length:=by omega
     refine ⟨.sl false sz ((es.drop o').take l'),by simp_all[X.data,rowOf],.sl w1 q2 rfl ?_ fun w hw=>w4 w (List.mem_of_mem_drop (List.mem_of_mem_take hw))⟩
     grind
   grind
  grind
 |.sl t sz k hh l,y,.sl tt _ es,.sl q1 q2 q3 q4 q5,h=>by
  simp [AX.data] at h;subst h;refine ⟨_,rfl,.sl q1 q2 ?_ q4 q5⟩;cases raw with
  |true=>grind
  |false=>exact rfl
 |.agg cs,y,.agg xs,.agg q,h=>by simp only [AX.data] at h;obtain ⟨ys,h1,rfl⟩:=qac.1 h;obtain ⟨zs,h2,h3⟩:=GL.data hF hb h0 q h1;exact ⟨_,by grind[X.data],.agg h3⟩
 |.tup cs,y,.tup xs,.tup q,h=>by simp only [AX.data] at h;obtain ⟨ys,h1,rfl⟩:=qac.1 h;obtain ⟨zs,h2,h3⟩:=GL.data hF hb h0 q h1;exact ⟨_,by grind[X.data],.tup h3⟩
 |.x (.v v),y,_,.x q,h=>by simp [AX.data] at h;subst h;exact ⟨_,rfl,.x q⟩
 |.x .ifc,y,_,.x q,h=>by simp [AX.data] at h;subst h;exact ⟨_,rfl,.x q⟩
 |.x (.sl t s es),y,_,.x q,h=>by simp [AX.data] at h;subst h;exact ⟨_,rfl,.x rfl⟩
 |.i k l,y,_,.i q1 q2,h=>by simp [AX.data] at h;subst h;exact ⟨_,rfl,.i q1 q2⟩
 |.b t u,y,_,.b q1 q2,h=>by simp [AX.data] at h;subst h;exact ⟨_,rfl,.b q1 q2⟩
 |.s l,y,_,.s q1 q2,h=>by simp [AX.data] at h;subst h;exact ⟨_,rfl,.s q1 q2⟩
 |.ptr i e o,y,_,.ptr q1 q2,h=>by simp [AX.data] at h;subst h;exact ⟨_,rfl,.ptr q1 q2⟩
 |.dp cs,y,_,.dp q,h=>by simp [AX.data] at h;subst h;exact ⟨_,rfl,.dp q⟩
 |.fn f cs,y,_,.fn q,h=>by simp [AX.data] at h;subst h;exact ⟨_,rfl,.fn q⟩
 |.yl i,y,_,.yl,h=>by simp [AX.data] at h;subst h;exact ⟨_,rfl,.yl⟩
 |.mp i,y,_,.mp,h=>by simp [AX.data] at h;subst h;exact ⟨_,rfl,.mp⟩
 |.nX,y,_,.ifc,h=>by simp [AX.data] at h;subst h;exact ⟨_,rfl,.ifc⟩
 |.nX,y,_,.Ah,h=>by simp [AX.data] at h;subst h;exact ⟨_,rfl,.Ah⟩
 |.el k h',y,_,.el (xs:=xs) q1 q2,h=>by simp [AX.data] at h;subst h;obtain ⟨ys,h1,h2⟩:=zhj (bxs:=bxs) (raw:=raw) q2;exact ⟨.agg ys,by grind[X.data],.el q1 h2⟩
 |.de k h',y,_,.de q1 q2,h=>by simp [AX.data] at h;subst h;exact ⟨_,rfl,.de q1 q2⟩
theorem GL.data {F:List Fact}{bx:List ABx}{bxs:List Bx}{raw:Bool}(hF:aV n ρ F)(hb:GBs T n ρ bx bxs)(h0:ρ 0=0):∀{a y:List AX} {x:List X},GL T n ρ a x->JD F bx raw a=some y->∃z,dataL bxs raw x=some z/\GL T n ρ y z
 |[],y,_,.nil,h=>by simp only [JD,qah] at h;subst h;exact ⟨[],rfl,.nil⟩
 |a::l,y,_,.cons g1 g2,h=>by
  unfold JD at h;split at h;·cases h
  rename_i y' h1;obtain ⟨ys,h2,rfl⟩:=qac.1 h;obtain ⟨z,h3,h4⟩:=G.data hF hb h0 g1 h1;obtain ⟨zs,h5,h6⟩:=GL.data hF hb h0 g2 h2;exact ⟨z::zs,by grind[dataL],.cons h4 h6⟩
end
mutual
def AX.rows:AX->List Nat
 |.bs i _ _=>[i]
 |.agg cs=>BP cs
 |.tup cs=>BP cs
 |.i _ _|.b _ _|.s _|.x _|.sl _ _ _ _ _|.ptr _ _ _|.dp _|.fn _ _|.yl _|.mp _|.nX|.el _ _|.de _ _=>[]
def BP:List AX->List Nat
 |[]=>[]
 |x::r=>x.rows++BP r
end
mutual
theorem EU:∀(x:X),x.refs=[]->x.rows=[]
 |.bs _ _ _,h=>by grind[X.refs]
 |.agg cs,h=>jY cs h
 |.tup cs,h=>jY cs h
 |.v _,_=>rfl
 |.sl _ _ _,_=>rfl
 |.ptr _ _ _,_=>rfl
 |.dp _,_=>rfl
 |.fn _ _,_=>rfl
 |.yl _,_=>rfl
 |.mp _,_=>rfl
 |.ifc,_=>rfl
theorem jY:∀(xs:List X),refsL xs=[]->rowsL xs=[]
 |[],_=>rfl
 |x::r,h=>by have h:x.refs++refsL r=[]:=h;obtain ⟨h1,h2⟩:=List.append_eq_nil_iff.1 h;show x.rows++rowsL r=[];rw [EU x h1,jY r h2];rfl
end
mutual
theorem G.rows:∀{a:AX} {x:X},G T n ρ a x->x.rows=a.rows
 |_,_,.i _ _=>rfl
 |_,_,.b _ _=>rfl
 |_,_,.s _ _=>rfl
 |_,_,.x h=>EU _ h
 |_,_,.sl _ _ _ _ _=>rfl
 |_,_,.bs _ _ _ _=>rfl
 |_,_,.ptr _ _=>rfl
 |_,_,.dp _=>rfl
 |_,_,.fn _=>rfl
 |_,_,.agg h=>h.rows
 |_,_,.tup h=>h.rows
 |_,_,.yl=>rfl
 |_,_,.mp=>rfl
 |_,_,.ifc=>rfl
 |_,_,.Ah=>rfl
 |_,_,.el _ h=>jY _ (lq h)
 |_,_,.de _ _=>rfl
theorem GL.rows:∀{a:List AX} {x:List X},GL T n ρ a x->rowsL x=BP a
 |_,_,.nil=>rfl
 |_,_,.cons h1 h2=>by show X.rows _++rowsL _=AX.rows _++BP _;rw [h1.rows,h2.rows]
end
mutual
def AX.plain:AX->Bool
 |.i _ _|.b _ _|.s _=>true
 |.x (.v _)=>true
 |.agg cs=>zY cs
 |.tup cs=>zY cs
 |.fn _ cs=>zY cs
 |_=>false
def zY:List AX->Bool
 |[]=>true
 |x::r=>x.plain&&zY r
end
mutual
theorem G.plain:∀{a:AX} {x:X},G T n ρ a x->a.plain=true->x.plain=true
 |_,_,.i _ _,_=>rfl
 |_,_,.b _ _,_=>rfl
 |_,_,.s _ _,_=>rfl
 |.x (.v _),_,.x _,_=>rfl
 |_,_,.fn h,e=>h.plain e
 |_,_,.agg h,e=>h.plain e
 |_,_,.tup h,e=>h.plain e
theorem GL.plain:∀{a:List AX} {x:List X},GL T n ρ a x->zY a=true->plainL x=true
 |_,_,.nil,_=>rfl
 |a::l,x::m,.cons h1 h2,e=>by have e:(a.plain&&zY l)=true:=e;rw [qab] at e;show (x.plain&&plainL m)=true;rw [h1.plain e.1,h2.plain e.2];rfl
end
structure Y2 where
 m:Nat
 F:List Fact
 r:AX
 bx:List ABx
 deriving Inhabited
structure Ctr where
 f:FuncId
 m:Nat
 args:List AX
 inb:List ABx
 pre:List Fact
 mu:Option Lin
 outs:List Y2
 rank:Nat
 alts:List (List Fact)
 deriving Inhabited
variable {c:Ctr}
structure Ctr.Sat (T:Tab) (c:Ctr) (ρ:Rho) (args:List X) (inb:List Bx):Prop where
 zero:ρ 0=0
 pos:0<c.m
 pre:aV c.m ρ c.pre
 alts:∃p,p∈c.alts/\aV c.m ρ p
 args:GL T c.m ρ c.args args
 inb:GBs T c.m ρ c.inb inb
def Ctr.Res (T:Tab)(Γ:Nat->Gam)(c:Ctr)(ρ:Rho)(args:List X)(inb:List Bx):Prop:=
 ∃o,o∈c.outs/\∃ρ' r bx,More c.m ρ o.m ρ'/\aV o.m ρ' o.F/\G T o.m ρ' o.r r/\GBs T o.m ρ' o.bx bx/\∃B,∀N,B<=N->Γ N (.fn c.f) args inb=some (r,bx)
def Ctr.Holds (T:Tab)(Γ:Nat->Gam)(c:Ctr):Prop:=∀ρ args inb,c.Sat T ρ args inb->c.Res T Γ ρ args inb
def Ctr.Below (T:Tab)(Γ:Nat->Gam)(c:Ctr)(d:Int):Prop:=∀ρ args inb,c.Sat T ρ args inb->(∃l,c.mu=some l/\0<=l.v ρ/\16*l.v ρ+c.rank<d)->c.Res T Γ ρ args inb
def tK (l p:Lin)(acc:List (Nat×Lin)):List (Nat×Lin):=
 if Nat.beq p.s 0 then acc else if acc.any (fun q=>Nat.beq q.1 p.s) then acc else (p.s,l.up (-p.c))::acc
mutual
def YM:AX->AX->List (Nat×Lin)->List (Nat×Lin)
 |.i _ l,.i _ p,acc=>tK l p acc
 |.s l,.s p,acc=>tK l p acc
 |.x (.v (.string bs)),.s p,acc=>tK (.k bs.size) p acc
 |.sl _ _ _ h l,.sl _ _ _ h' l',acc=>tK h h' (tK l l' acc)
 |.x (.sl _ _ []),.sl _ _ _ _ l',acc=>tK (.k 0) l' acc
 |.bs _ o l,.bs _ o' l',acc=>tK o o' (tK l l' acc)
 |.ptr _ e _,.ptr _ e' _,acc=>tK e e' acc
 |.dp cs,.dp ps,acc=>yR cs ps acc
 |.fn _ cs,.fn _ ps,acc=>yR cs ps acc
 |.agg cs,.agg ps,acc=>yR cs ps acc
 |.tup cs,.tup ps,acc=>yR cs ps acc
 |.el _ h,.el _ h',acc=>tK h h' acc
 |_,_,acc=>acc
def yR:List AX->List AX->List (Nat×Lin)->List (Nat×Lin)
 |a::l,b::r,acc=>yR l r (YM a b acc)
 |_,_,acc=>acc
end
def zj7:ABx->ABx->List (Nat×Lin)->List (Nat×Lin)
 |.var cs,.var ps,acc=>yR cs ps acc
 |.row _ _ h l,.row _ _ h' l',acc=>tK h h' (tK l l' acc)
 |.el _ h,.el _ h',acc=>tK h h' acc
 |_,_,acc=>acc
def GK:List ABx->List ABx->List (Nat×Lin)->List (Nat×Lin)
 |a::l,b::r,acc=>GK l r (zj7 a b acc)
 |_,_,acc=>acc
def jJ (acc:List (Nat×Lin)):Sub
 |0=>.k 0
 |s+1=>match acc.find? (fun q=>Nat.beq q.1 (s+1)) with
  |some q=>q.2
  |none=>.k 0
theorem VB {acc:List (Nat×Lin)}(hn:0<n)(h:acc.all (fun q=>blt q.2 n)=true)(s:Nat):(jJ acc s).s<n:=by
 cases s with
 |zero=>exact hn
 |succ s=>
  show (match acc.find? (fun q:Nat×Lin=>Nat.beq q.1 (s+1)) with|some q=>q.2|none=>Lin.k 0).s<n;split;next q a=>exact Uh (qas.1 h q (List.mem_of_find?_eq_some a))
  exact hn
def leM (c:In):List (Value×AX)->List (Value×AX)->Bool
 |[],[]=>true
 |(.int k z,a)::l,(.int k' z',b)::r=>decide (k=k')&&decide (z=z')&&leX c a b&&leM c l r
 |_,_=>false
def leB (c:In):ABx->ABx->Bool
 |.var cs,.var ps=>WV c cs ps
 |.row sz k h l,.row sz' k' h' l'=>Nat.beq sz sz'&&Nat.blt h'.s c.m&&lEq c l l'&&(leL c.F l (.k 0)||(c.S k k'&&lLe c h h'))
 |.dead,.dead=>true
 |.map es,.map ps=>leM c es ps
 |.el k h,.el k' h'=>c.S k k'&&lLe c h h'
 |_,_=>false
def zf3 (c:In):List ABx->List ABx->Bool
 |[],[]=>true
 |a::l,b::r=>leB c a b&&zf3 c l r
 |_,_=>false
theorem ZA {c:In}(hS:SOk T c.S)(h0:ρ 0=0)(hF:aV n ρ c.F):∀{a p:List (Value×AX)} {x:List (Value×X)},leM c a p=true->GM T n ρ a x->GM T c.m (back c.θ ρ) p x
 |[],[],_,_,.nil=>.nil
 |(.int k z,a)::l,(.int k' z',b)::r,_,h,.cons h1 h2=>by unfold leM at h;simp at h;obtain ⟨⟨⟨rfl,rfl⟩,e2⟩,e3⟩:=h;exact .cons (KP hS h0 hF e2 h1) (ZA hS h0 hF e3 h2)
theorem ZB {c:In}(hS:SOk T c.S)(h0:ρ 0=0)(hF:aV n ρ c.F){a p:ABx}{x:Bx}(h:leB c a p=true)(hg:GB T n ρ a x):GB T c.m (back c.θ ρ) p x:=by
 unfold leB at h;split at h;·cases hg with|var q=>exact .var (oC hS h0 hF h q)
 ·simp only [qab,Bool.or_eq_true] at h;obtain ⟨⟨⟨f,l⟩,u⟩,j⟩:=h;have f:=qaj f;subst f;obtain ⟨y,B⟩:=qc hF u;cases hg with
  |row q1 q2 q4 q5=>
   refine .row (cZ l) y (by grind) fun e A=>?_;rcases j with j|⟨j,w⟩;·have:=aO hF j<;>grind[Lin.k_v]
   exact hS j (iF (KR hF w).2 (q5 e A))
 ·cases hg;exact .dead
 ·cases hg with|map q=>exact .map (ZA hS h0 hF h q)
 ·rw [qab] at h;have f:=KR hF h.2;cases hg with|el q1 q2=>exact .el f.1 (hS h.1 (iF f.2 q2))
 grind
theorem Ip {c:In}(hS:SOk T c.S)(h0:ρ 0=0)(hF:aV n ρ c.F):∀{a p:List ABx} {x:List Bx},zf3 c a p=true->GBs T n ρ a x->GBs T c.m (back c.θ ρ) p x
 |[],[],_,_,.nil=>.nil
 |a::l,b::r,_,h,.cons h1 h2=>by unfold zf3 at h;rw [qab] at h;exact .cons (ZB hS h0 hF h.1 h1) (Ip hS h0 hF h.2 h2)
def okF (a:ASt)(c:Ctr)(θl:List (Nat×Lin))(f:Fact):Bool:=Nat.blt f.x c.m&&Nat.blt f.y c.m&&leL a.F (jJ θl f.x) ((jJ θl f.y).up f.c)
def zeA (S:Nat->Nat->Bool)(a:ASt)(c:Ctr)(θl:List (Nat×Lin))(args:List AX)(inb:List ABx):Bool:=
 θl.all (fun q=>blt q.2 a.nx)&&Nat.blt 0 c.m&&WV ⟨S,a.F,jJ θl,c.m⟩ args c.args&&zf3 ⟨S,a.F,jJ θl,c.m⟩ inb c.inb&&
  c.pre.all (okF a c θl)&&c.alts.any (fun p=>p.all (okF a c θl))
theorem SV {S:Nat->Nat->Bool}(hS:SOk T S)(hr:R T ρ a σ){args:List AX}{inb:List ABx}(hg:GL T a.nx ρ args xs)(hb:GBs T a.nx ρ inb bxs)(h:zeA S a c θl args inb=true):c.Sat T (back (jJ θl) ρ) xs bxs:=by
 unfold zeA at h;simp only [qab] at h;obtain ⟨⟨⟨⟨⟨O,A⟩,B⟩,E⟩,H⟩,J⟩:=h;have j:∀l:List Fact,l.all (okF a c θl)=true->aV c.m (back (jJ θl) ρ) l:=fun l M f L=>by have:=qas.1 M f L;unfold okF at this;simp only [qab] at this;obtain ⟨⟨u,w⟩,y⟩:=this;have q:=aO hr.F y;rw [Lin.jI] at q;exact ⟨cZ u,cZ w,q⟩
 obtain ⟨p,N,n⟩:=List.any_eq_true.1 J;exact ⟨by unfold back jJ;exact Lin.k_v hr.zero 0,cZ A,j _ H,⟨p,N,j _ n⟩,oC (c:=⟨S,a.F,jJ θl,c.m⟩) hS hr.zero hr.F B hg,Ip (c:=⟨S,a.F,jJ θl,c.m⟩) hS hr.zero hr.F E hb⟩
def zev (nx m:Nat)(θ:Sub):Sub:=fun s=>if Nat.blt s m then θ s else ⟨nx+(s-m),0⟩
def fB (a:ASt)(c:Ctr)(θl:List (Nat×Lin))(o:Y2):AX×List ABx×ASt:=
 let θ:=zev a.nx c.m (jJ θl)
 (o.r.sub θ,o.bx.map (ABx.sub θ),{a with nx:=a.nx+(o.m-c.m),F:=o.F.map (Fact.sub θ)++a.F})
theorem Ui {s m:Nat}:Nat.blt s m=true↔s<m:=by simp_all
theorem GV (hr:R T ρ a σ){o:Y2}{ρo:Rho}{r:X}{bx:List Bx}(hθ:θl.all (fun q=>blt q.2 a.nx)=true)(hm:More c.m (back (jJ θl) ρ) o.m ρo)(hF:aV o.m ρo o.F)(hg:G T o.m ρo o.r r)(hb:GBs T o.m ρo o.bx bx):
  ∃ρ',More a.nx ρ (fB a c θl o).2.2.nx ρ'/\R T ρ' (fB a c θl o).2.2 σ/\G T (fB a c θl o).2.2.nx ρ' (fB a c θl o).1 r/\GBs T (fB a c θl o).2.2.nx ρ' (fB a c θl o).2.1 bx:=by
 let ρ':Rho:=fun s=>if s<a.nx then ρ s else ρo (c.m+(s-a.nx))
 have w:=hm.le;have f:More a.nx ρ (a.nx+(o.m-c.m)) ρ':=⟨by omega,fun s u=>if_pos u⟩;have j:zu o.m ρo (a.nx+(o.m-c.m)) ρ' (zev a.nx c.m (jJ θl)):=fun s u=>by
  unfold zev;by_cases n:s<c.m;·rw [if_pos (Ui.2 n)];have l:=VB hr.pos hθ s;exact ⟨by omega,by rw [f.lin l,hm.same s n];rfl⟩
  rw [if_neg (fun h=>n (Ui.1 h))];refine ⟨by grind,?_⟩;unfold Lin.v
  grind
 have l:=hr.more f;exact ⟨ρ',f,⟨l.zero,l.pos,(hF.sub j).append l.F,l.tm,l.bx⟩,hg.sub j,hb.sub j⟩
end
section
variable {a:ASt}{c:Ctr}{g:FuncId}{i:I}{θl:List (Nat×Lin)}{args:List AX}{outs:List Out}{MI:List X}{σ:St}
variable {T:Tab} {n m:Nat} {ρ ρ':Rho} {Γ:Nat->Gam}
structure Cx where
 T:Tab
 K:Names
 C:List Ctr
 own:List Ctr
 mu:Option Lin
 rank:Nat
variable {x:Cx}
structure GZ (Γ:Nat->Gam) (x:Cx) (n:Nat) (ρ:Rho):Prop where
 all:∀c,c∈x.C->c.Holds x.T Γ
 own:∀l,x.mu=some l->l.s<n/\∀c,c∈x.own->c.Below x.T Γ (16*l.v ρ+x.rank)
theorem GZ.more {n':Nat}(h:GZ Γ x n ρ)(hm:More n ρ n' ρ'):GZ Γ x n' ρ':=
 ⟨h.all,fun l f=>by obtain ⟨a,j⟩:=h.own l f;exact ⟨hm.lt a,by rw [hm.lin a]<;>grind⟩⟩
def zf2 (x:Cx)(a:ASt)(c:Ctr)(θl:List (Nat×Lin)):Bool:=match x.mu,c.mu with
 |some l,some p=>Nat.blt p.s c.m&&leL a.F (.k 0) (p.sub (jJ θl))&&(leL a.F ((p.sub (jJ θl)).up 1) l&&Nat.blt c.rank 16||leL a.F (p.sub (jJ θl)) l&&Nat.blt c.rank x.rank)
 |_,_=>false
def X7 (x:Cx)(a:ASt)(g:FuncId)(args:List AX)(inb:List ABx):Option (Ctr×List (Nat×Lin)):=
 let cand:=fun c:Ctr=>(c,GK inb c.inb (yR args c.args []))
 match (x.C.filter fun c=>Nat.beq c.f g).find? (fun c=>zeA (kle x.T) a c (cand c).2 args inb) with
 |some c=>some (cand c)
 |none=>match (x.own.filter fun c=>Nat.beq c.f g).find? (fun c=>zeA (kle x.T) a c (cand c).2 args inb&&zf2 x a c (cand c).2) with
  |some c=>some (cand c)
  |none=>none
theorem Lm (hx:GZ Γ x a.nx ρ)(hr:R x.T ρ a σ){inb:List ABx}{xs:List X}{bxs:List Bx}(hg:GL x.T a.nx ρ args xs)(hb:GBs x.T a.nx ρ inb bxs)(h:X7 x a g args inb=some (c,θl)):
  c.f=g/\θl.all (fun q=>blt q.2 a.nx)=true/\c.Res x.T Γ (back (jJ θl) ρ) xs bxs:=by
 have j:∀{θl:List (Nat×Lin)},zeA (kle x.T) a c θl args inb=true->θl.all (fun q=>blt q.2 a.nx)=true:=fun h=>by
  unfold zeA at h
  grind
 unfold X7 at h;dsimp only at h;split at h;next H w=>cases h;have m:=List.find?_some w;have u:=List.mem_filter.1 (List.mem_of_find?_eq_some w);exact ⟨qaj u.2,j m,hx.all c u.1 _ _ _ (SV (sok x.T) hr hg hb m)⟩
 split at h
 ·rename_i H w;cases h;have m:=List.find?_some w;have u:=List.mem_filter.1 (List.mem_of_find?_eq_some w);rw [qab] at m;refine ⟨qaj u.2,j m.1,?_⟩;have y:=m.2;unfold zf2 at y;split at y
  ·rename_i l p L M;simp only [qab,Bool.or_eq_true] at y;obtain ⟨⟨O,J⟩,n⟩:=y;obtain ⟨P,N⟩:=hx.own l L;have E:=aO hr.F J;rw [Lin.k_v hr.zero,kP] at E;refine N c u.1 _ _ _ (SV (sok x.T) hr hg hb m.1) ⟨p,M,E,?_⟩;rcases n with ⟨n,B⟩|⟨n,B⟩;·have A:=aO hr.F n;rw [Lin.jI,kP] at A;have:=cZ B;omega
   have A:=aO hr.F n;rw [kP] at A;have:=cZ B;omega
  grind
 grind
def zeq (T:Tab)(Γ:Nat->Gam)(ρ:Rho)(a:ASt)(σ:St)(i:I)(outs:List Out):Prop:=
 ∃o,o∈outs/\∃ρ' x bx,More a.nx ρ o.2.1.nx ρ'/\R T ρ' o.2.1 ⟨σ.tm,bx⟩/\G T o.2.1.nx ρ' o.1 x/\∃B,∀N,B<=N->stepI (Γ N) σ i=some (x,bx,o.2.2)
theorem OpOk.e (h:OpOk T ρ a σ i outs):zeq T Γ ρ a σ i outs:=by obtain ⟨o,j,ρ',x,f,l,m,n,q⟩:=h;exact ⟨o,j,ρ',x,f,l,m,n,0,fun N _=>q _⟩
def WT (a:ASt)(c:Ctr)(θl:List (Nat×Lin))(o:Y2):Bool:=!(o.F.any fun f=>contra a.F (f.sub (zev a.nx c.m (jJ θl))))
theorem KN {o:Y2}(hr:R T ρ (fB a c θl o).2.2 σ):WT a c θl o=true:=by
 unfold WT;rw [Bool.not_eq_true'];cases q:o.F.any fun f=>contra a.F (f.sub (zev a.nx c.m (jJ θl))) with
 |false=>rfl
 |true=>
  obtain ⟨f,j,l⟩:=List.any_eq_true.1 q;have h:aV (fB a c θl o).2.2.nx ρ (o.F.map (Fact.sub (zev a.nx c.m (jJ θl)))++a.F):=hr.F;have w:=aO (ρ:=ρ) (n:=(fB a c θl o).2.2.nx) (F:=a.F) (fun g u=>h g (List.mem_append_right _ u)) l;have y:=(h _ (List.mem_append_left _ (qam.2 ⟨f,j,rfl⟩))).2.2
  grind[Lin.v]
def zdL (x:Cx)(a:ASt)(g:FuncId)(caps args as:List AX):Option (List Out):=
 match X7 x a g (as++caps) [] with
 |some (c,θl)=>kU ((c.outs.filter (WT a c θl)).map fun o=>match (fB a c θl o).1.data (fB a c θl o).2.2.F (fB a c θl o).2.1 false with
  |some y=>if y.refs.isEmpty&&((BP args).isEmpty||y.plain) then some (y,(fB a c θl o).2.2,⟨false,BP args,[]⟩) else none
  |none=>none)
 |none=>none
theorem YI (hx:GZ Γ x a.nx ρ)(hr:R x.T ρ a σ){caps as:List AX}{UQ xas:List X}(hc:GL x.T a.nx ρ caps UQ)(ha:GL x.T a.nx ρ args MI)(has:GL x.T a.nx ρ as xas)(h:zdL x a g caps args as=some outs):
  ∃o,o∈outs/\∃ρ' y,More a.nx ρ o.2.1.nx ρ'/\R x.T ρ' o.2.1 σ/\G x.T o.2.1.nx ρ' o.1 y/\noRef y=true/\((rowsL MI).isEmpty||y.plain)=true/\o.2.2=⟨false,rowsL MI,[]⟩/\∃B,∀N,B<=N->(Γ N).pureD g (xas++UQ)=some y:=by
 unfold zdL at h;split at h
 ·rename_i c θl O;obtain ⟨M,S,o,P,ρo,r,V,E,H,J,L,B,W⟩:=Lm hx hr (has.append hc) .nil O;obtain ⟨ρ',u,l,w,A⟩:=GV hr S E H J L;obtain ⟨U,f,n⟩:=dY h (List.mem_filter.2 ⟨P,KN l⟩);generalize fB a c θl o=q at u l w A f;obtain ⟨qr,qb,Z⟩:=q;dsimp only at u l w A f;split at f
  ·rename_i y Q;split at f
   ·rename_i m;cases f;rw [qab] at m;obtain ⟨z,hz,j⟩:=w.data l.F A l.zero Q;refine ⟨_,n,ρ',z,u,l,j,by unfold noRef;rw [j.refs]<;>grind,?_,by rw [ha.rows],B,fun N Y=>?_⟩
    ·have e:=m.2;rw [Bool.or_eq_true] at e;rw [ha.rows,Bool.or_eq_true];rcases e with e|e
     ·grind
     exact .inr (j.plain e)
    grind[Gam.pureD]
   grind
  grind
 grind
def nP:List Nat->List ABx->List ABx->List ABx
 |i::r,b::s,bx=>nP r s (bx.set i b)
 |_,_,bx=>bx
theorem wI:∀{s:List Nat} {l:List ABx} {m:List Bx} {bx:List ABx} {bxs:List Bx},GBs T n ρ l m->GBs T n ρ bx bxs->GBs T n ρ (nP s l bx) (setBs s m bxs)
 |[],_,_,_,_,_,hb=>by grind[nP,setBs]
 |_::_,_,_,_,_,.nil,hb=>by grind[nP,setBs]
 |i::_,_,_,_,_,.cons h1 h2,hb=>by unfold nP setBs;exact wI h2 (hb.set i h1)
theorem zU:∀(s:List Nat) (l bx:List ABx),(nP s l bx).length=bx.length
 |[],_,_=>by grind[nP]
 |_::_,[],_=>by grind[nP]
 |i::r,b::s,bx=>by unfold nP;rw [zU,List.length_set]
def YH (x:Cx)(a:ASt)(g:FuncId)(args:List AX):Option (List Out):=
 let sel:=nT a.bx reachFuel (lC args) []
 if subN (lC args) sel then match E5 a.bx sel with
  |none=>none
  |some inb=>match X7 x a g (za9 (idxN · sel) args) inb with
   |none=>none
   |some (c,θl)=>kU ((c.outs.filter (WT a c θl)).map fun o=>if sel.length<=(fB a c θl o).2.1.length then
     some (((fB a c θl o).1.ren (fun j=>if j<sel.length then sel.getD j 0 else a.bx.length+(j-sel.length))),
      {(fB a c θl o).2.2 with bx:=nP sel ((fB a c θl o).2.1.map (ABx.ren (fun j=>if j<sel.length then sel.getD j 0 else a.bx.length+(j-sel.length)))) a.bx++((fB a c θl o).2.1.map (ABx.ren (fun j=>if j<sel.length then sel.getD j 0 else a.bx.length+(j-sel.length)))).drop sel.length},
      refFP [] sel a.bx.length (a.bx.length+((fB a c θl o).2.1.length-sel.length))) else none)
 else none
theorem LV (hx:GZ Γ x a.nx ρ)(hr:R x.T ρ a σ)(ha:GL x.T a.nx ρ args MI)(h:YH x a g args=some outs):
  ∃o,o∈outs/\∃ρ' y bx sel,More a.nx ρ o.2.1.nx ρ'/\R x.T ρ' o.2.1 ⟨σ.tm,bx⟩/\G x.T o.2.1.nx ρ' o.1 y/\o.2.2=refFP [] sel σ.bx.length bx.length/\∃B,∀N,B<=N->callRef (Γ N) (.fn g) MI σ.bx=some (y,bx,sel):=by
 unfold YH at h;dsimp only at h;split at h
 ·rename_i A;split at h;·cases h
  rename_i pa hp;obtain ⟨q,hq,J⟩:=wL hr.bx hp;split at h;·cases h
  rename_i c θl Y;obtain ⟨W,hθ,o,ho,ρo,r,bx,Q,S,U,V,B,h5⟩:=Lm hx hr (ha.ren _) J Y;obtain ⟨ρ',E,n,L,H⟩:=GV hr hθ Q S U V;obtain ⟨pb,f,m⟩:=dY h (List.mem_filter.2 ⟨ho,KN n⟩);generalize fB a c θl o=w at E n L H f;obtain ⟨qr,qb,qa⟩:=w;dsimp only at E n L H f;split at f
  ·rename_i O;cases f;have M:=hr.bx.len;have Z:=H.len;rw [M] at m
   let sel:=nT a.bx reachFuel (lC args) []
   let u:=fun j=>if j<sel.length then sel.getD j 0 else σ.bx.length+(j-sel.length)
   have l:=H.ren u;refine ⟨_,m,ρ',r.ren u,setBs sel (bx.map (Bx.ren u)) σ.bx++(bx.map (Bx.ren u)).drop sel.length,sel,E,⟨n.zero,n.pos,n.F,n.tm,(wI l (hr.bx.more E)).append (l.drop _)⟩,L.ren _,?_,B,fun N hN=>?_⟩
   ·have P:(setBs sel (bx.map (Bx.ren u)) σ.bx++(bx.map (Bx.ren u)).drop sel.length).length=σ.bx.length+(qb.length-sel.length):=by have:=((wI (s:=sel) l (hr.bx.more E)).append (l.drop sel.length)).len;rw [<-this,qau,zU,qaK,qaB,M]
    rw [P]
   unfold callRef;dsimp only;rw [ha.refs,ku hr.bx,if_pos A,hq]
   grind
  grind
 grind
def opC (x:Cx)(a:ASt)(i:I):Option (List Out):=match i with
 |.call own ref raw f args=>match a.ev f,zdj a args with
  |some (.fn g caps),some ys=>if ref then YH x a g (ys++caps) else match JD a.F a.bx raw ys with
   |none=>none
   |some as=>if !own&&(lC (as++caps)).isEmpty then zdL x a g caps ys as
    else if (BP ys).isEmpty then YH x a g (as++caps) else none
  |_,_=>none
 |i=>opA x.T x.K a i
theorem Zv (hx:GZ Γ x a.nx ρ)(hr:R x.T ρ a σ)(h:opC x a i=some outs):zeq x.T Γ ρ a σ i outs:=by
 unfold opC at h;split at h
 ·rename_i own E pb f M;split at h
  ·rename_i g O ys V W;obtain ⟨xf,hf,Y⟩:=bH hr V;obtain ⟨xs,pa,l⟩:=Di hr W;cases Y with
   |fn gc=>
    rename_i U;split at h;next j=>obtain ⟨o,q,ρ',y,bx,L,u,w,A,Q,B,S⟩:=LV hx hr (l.append gc) h;refine ⟨o,q,ρ',y,bx,u,w,A,B,fun N P=>?_⟩<;>simp_all[stepI,callX]
    rename_i j;have j:E=false:=by cases E with|true=>grind|false=>rfl
    subst j;split at h;·cases h
    rename_i as Z;obtain ⟨zs,hz,H⟩:=l.data hr.F hr.bx hr.zero Z;have m:=(H.append gc).refs;split at h;next J=>rw [qab] at J;obtain ⟨o,q,ρ',y,u,w,A,Q,S,k6,B,k7⟩:=YI hx hr gc l H h;refine ⟨o,q,ρ',y,σ.bx,u,w,A,B,fun N P=>?_⟩<;>simp_all[stepI,callX]
    rename_i J;split at h
    ·rename_i n;obtain ⟨o,q,ρ',y,bx,L,u,w,A,Q,B,S⟩:=LV hx hr (H.append gc) h;refine ⟨o,q,ρ',y,bx,u,w,A,B,fun N P=>?_⟩;have e3:¬(!own&&!false&&(refsL (zs++U)).isEmpty)=true:=by rw [m];simpa using J
     have e4:(false||(rowsL xs).isEmpty)=true:=by rw [l.rows,n];rfl
     simp_all[stepI,callX]
    grind
  grind
 exact (zfR hr h).e
end
section
variable {a:ASt}{i:I}{outs:List Out}{σ:St}
variable {T:Tab} {n m:Nat} {ρ ρ':Rho} {Γ:Nat->Gam}
def zhv (T:Tab)(k m:Nat):Bool:=(T k).all fun alt=>Nat.beq alt.length m
theorem Ux {P:Nat->List X->Prop}:∀{ts:List ET} {xs:List X},ETs P ts xs->ts.length=xs.length
 |[],[],_=>rfl
 |_::_,_::_,h=>by rw [qat,qat,Ux h.2]
theorem Il {k m:Nat}{h:Int}{xs:List X}(hl:zhv T k m=true)(hd:D T h k xs):xs.length=m:=by obtain ⟨_,a,f,j⟩:=oN hd;rw [<-Ux j];exact qaj (qas.1 hl a f)
theorem GBs.zij:∀{l:List ABx} {m:List Bx} {i:Nat} {a:ABx} {x:Bx},GBs T n ρ l m->m[i]?=some x->GB T n ρ a x->GBs T n ρ (l.set i a) m
 |_,_,i,_,_,.nil,e,_=>by grind
 |_,_,0,_,_,.cons _ h2,e,hx=>by simp at e;subst e;exact .cons hx h2
 |_,_,i+1,_,_,.cons h1 h2,e,hx=>.cons h1 (h2.zij (by grind) hx)
def PW (T:Tab)(a:ASt)(m:Option Nat)(i o k:Nat)(h:Lin):Option (List Out):=
 kU ((N9 T a k h).map fun q=>(takeA m (q.1.drop o)).map fun y=>(y,{q.2 with bx:=q.2.bx.set i (.var q.1)},⟨false,[i],[]⟩))
def opL (T:Tab)(a:ASt):I->Option (List Out)
 |.iaddr none sz x j=>match a.ev x,a.ev j with
  |some (.sl _ s k h len),some (.i _ l)=>if Nat.blt 1 (T k).length&&nonneg a.F l&&Nat.beq s sz&&leL a.F (l.up 1) len then some [(.de k h,a,fp0)] else none
  |_,_=>none
 |.load m p=>match a.ev p with
  |some (.de k h)=>match m with
   |some m=>if zhv T k m then some [(.el k h,a,⟨false,[],[]⟩)] else none
   |none=>none
  |some (.ptr i e o)=>match a.bx[i]? with
   |some (.el k h)=>if UJ e then (match m with
    |some w=>if Nat.beq o 0&&zhv T k w then some [(.el k h,a,⟨false,[i],[]⟩)] else PW T a m i o k h
    |none=>PW T a m i o k h) else none
   |_=>none
  |_=>none
 |.store m p x=>match a.ev p,a.ev x with
  |some (.ptr i e 0),some (.el k h)=>match a.bx[i]? with
   |some (.var cs)=>if UJ e&&zhv T k m&&Nat.beq cs.length m then some [(J4,{a with bx:=a.bx.set i (.el k h)},⟨true,[],[i]⟩)] else none
   |_=>none
  |_,_=>none
 |.box x=>match a.ev x with
  |some (.el k h)=>some [(.ptr a.bx.length (.k 0) 0,{a with bx:=a.bx++[.el k h]},⟨true,[],[a.bx.length]⟩)]
  |_=>none
 |_=>none
theorem EH {m:Option Nat}{i o k:Nat}{h:Lin}{p:Opd}(hr:R T ρ a σ)(hb:a.bx[i]?=some (.el k h))(hp:σ.ev p=some (.ptr i 0 o))(he:PW T a m i o k h=some outs):OpOk T ρ a σ (.load m p) outs:=by
 obtain ⟨b,f,B⟩:=hr.bx.get hb;cases B with
 |el q1 q2=>
  rename_i M;obtain ⟨q,E,ρ',L,j,w⟩:=vF hr q1 q2;obtain ⟨r,n,u⟩:=dY he E;obtain ⟨y,J,rfl⟩:=qac.1 n;obtain ⟨x,H,l⟩:=uS (w.drop o) J;refine ⟨_,u,ρ',x,σ.bx,L,⟨j.zero,j.pos,j.F,j.tm,j.bx.zij f (.var w)⟩,l,fun Γ=>?_⟩;have A:loadCs σ (.ptr i 0 o)=some (M.drop o):=by simp only [loadCs,f];rfl
  have:loadX σ m (.ptr i 0 o)=some x:=by unfold loadX;rw [A];exact H
  simp only [stepI,hp,this,qao];rfl
theorem zfQ (hr:R T ρ a σ)(h:opL T a i=some outs):OpOk T ρ a σ i outs:=by
 unfold opL at h;split at h
 ·rename_i sz x j;split at h
  ·rename_i t s k M len kd l q U;split at h
   ·rename_i n;cases h;simp only [qab] at n;obtain ⟨⟨⟨_,O⟩,P⟩,Q⟩:=n;obtain ⟨N,y,u⟩:=bH hr q;obtain ⟨jv,hj,gj⟩:=bH hr U;have L:=fQ hr O;have E:=xH gj L;have Z:=Int.toNat_of_nonneg L;generalize (l.v ρ).toNat=w at E Z;have c4:=aO hr.F Q;rw [Lin.jI] at c4;have c5:=qaj P;subst c5;cases u with
    |sl q1 q2 q3 q4 q5=>rename_i tt es;obtain ⟨v,hv,J⟩:=iR (l:=es) (i:=w) (by omega);exact .one hr (.de q1 (q5 v J)) (fun Γ=>by simp only [stepI,y,hj,Option.bind_some,E,beq_self_eq_true,if_true,hv,qao];rfl)
   grind
  grind
 ·rename_i m p;split at h
  ·rename_i k M q;split at h
   ·rename_i w;split at h
    ·rename_i n;cases h;obtain ⟨N,y,u⟩:=bH hr q;cases u with
     |de q1 q2=>
      rename_i f;have H:=Il n q2;refine .one hr (.el q1 q2) (fun Γ=>?_);have:loadX σ (some w) (.dp f)=some (.agg f):=by unfold loadX loadCs;dsimp only;rw [<-H,List.take_length,if_pos (beq_self_eq_true _)]
      simp only [stepI,y,this,qao];rfl
    grind
   grind
  ·rename_i i e o q;split at h
   ·rename_i k M V;split at h
    ·rename_i hz;obtain ⟨N,y,u⟩:=bH hr q;cases u with
     |ptr p1 p2=>
      rename_i S;have L:=l7 hz hr.zero;have:S=0:=by omega
      subst this;split at h
      ·rename_i w;split at h
       ·rename_i n;cases h;rw [qab] at n;have ho:=qaj n.1;subst ho;obtain ⟨b,A,B⟩:=hr.bx.get V;cases B with
        |el q1 q2=>
         rename_i f;have H:=Il n.2 q2;refine .one hr (.el q1 q2) (fun Γ=>?_);have W:loadCs σ (.ptr i 0 0)=some f:=by simp only [loadCs,A];rfl
         have:loadX σ (some w) (.ptr i 0 0)=some (.agg f):=by unfold loadX;rw [W];dsimp only;rw [<-H,List.take_length,if_pos (beq_self_eq_true _)]
         simp only [stepI,y,this,qao];rfl
       grind[EH]
      grind[EH]
    grind
   grind
  grind
 ·rename_i m p x;split at h
  ·rename_i i e k M q U;split at h
   ·rename_i cs V;split at h
    ·rename_i n;cases h;simp only [qab] at n;obtain ⟨⟨O,P⟩,Q⟩:=n;obtain ⟨pv,hp,gp⟩:=bH hr q;obtain ⟨N,y,u⟩:=bH hr U;cases gp with
     |ptr p1 p2=>
      rename_i S;have L:=l7 O hr.zero;have:S=0:=by omega
      subst this;cases u with
      |el q1 q2=>
       rename_i f;have H:=Il P q2;obtain ⟨b,A,B⟩:=hr.bx.get V;cases B with
       |var B=>
        rename_i Y;have pa:Y.length=f.length:=by rw [<-B.len,qaj Q,H]
        refine ⟨_,qaa.2 rfl,ρ,undefX,σ.bx.set i (.var f),.refl ..,⟨hr.zero,hr.pos,hr.F,hr.tm,hr.bx.set i (.el q1 q2)⟩,.x rfl,fun Γ=>?_⟩;have hs:splice Y 0 f=some f:=by unfold splice;rw [if_pos (by omega),List.take_zero,List.drop_of_length_le (by omega)];simp
        have:storeX σ.bx m (.ptr i 0 0) (.agg f)=some (σ.bx.set i (.var f)):=by unfold storeX;rw [if_pos (by simp_all[X.ok1,X.cells])];dsimp only;rw [A];dsimp only;rw [if_pos (show (0==0)=true from rfl)];show (splice Y 0 f).map _=_;rw [hs];rfl
        simp only [stepI,hp,y,this,qao];rfl
    grind
   grind
  grind
 ·rename_i x;split at h
  ·rename_i k M q;cases h;obtain ⟨N,y,u⟩:=bH hr q;cases u with
   |el q1 q2=>
    rename_i f;refine ⟨_,qaa.2 rfl,ρ,.ptr σ.bx.length 0 0,σ.bx++[.var f],.refl ..,⟨hr.zero,hr.pos,hr.F,hr.tm,hr.bx.snoc (.el q1 q2)⟩,?_,fun Γ=>?_⟩;·rw [hr.bx.len];exact .ptr hr.pos (Lin.k_v hr.zero 0).symm
    simp only [stepI,y,X.ok1,if_true,X.cells];rw [hr.bx.len]
  grind
 grind
mutual
def ziP:AX->List Lin
 |.sl _ _ _ h _=>[h]
 |.agg cs=>ziQ cs
 |.tup cs=>ziQ cs
 |_=>[]
def ziQ:List AX->List Lin
 |[]=>[]
 |a::r=>ziP a++ziQ r
end
def maxes:ASt->List Lin->Lin->Option (Lin×ASt)
 |a,[],h=>some (h,a)
 |a,g::r,h=>if Nat.blt g.s a.nx&&Nat.blt h.s a.nx then (match maxS a h g with|(H,a')=>maxes a' r H) else none
theorem Cm:∀{l:List Lin} {a a':ASt} {σ:St} {h H:Lin} {ρ:Rho},R T ρ a σ->maxes a l h=some (H,a')->∃ρ',More a.nx ρ a'.nx ρ'/\R T ρ' a' σ
 |[],a,a',σ,h,H,ρ,hr,e=>by cases e;exact ⟨ρ,.refl ..,hr⟩
 |g::r,a,a',σ,h,H,ρ,hr,e=>by
  unfold maxes at e;split at e;next hc=>rw [qab] at hc;obtain ⟨ρ1,m1,r1,_⟩:=Q9 hr (cZ hc.2) (cZ hc.1);generalize maxS a h g=q at m1 r1 e;obtain ⟨H1,a1⟩:=q;obtain ⟨ρ2,m2,r2⟩:=Cm r1 e;exact ⟨ρ2,m1.trans m2,r2⟩
  grind
def QG (a:ASt)(i:I):Option ASt:=match i with
 |.store _ p x=>match a.ev p,a.ev x with
  |some (.ptr b _ _),some y=>match a.bx[b]? with
   |some (.row sz k h l)=>match maxes a ((ziP y).map (·.up 1)) h with
    |some (H,a')=>match a'.bx[b]? with
     |some (.row sz' k' h' l')=>if Nat.blt H.s a'.nx&&leL a'.F h' H then some {a' with bx:=a'.bx.set b (.row sz' k' H l')} else none
     |_=>none
    |none=>none
   |_=>none
  |_,_=>none
 |_=>none
theorem QF {a':ASt}(hr:R T ρ a σ)(h:QG a i=some a'):∃ρ',More a.nx ρ a'.nx ρ'/\R T ρ' a' σ:=by
 unfold QG at h;split at h
 ·split at h
  ·split at h
   ·split at h
    ·rename_i H E y;obtain ⟨ρ1,A,f⟩:=Cm hr y;split at h
     ·rename_i B M L N q;split at h
      ·rename_i l;cases h;rw [qab] at l;have m:=cZ l.1;have n:=aO f.F l.2;obtain ⟨J,j,w⟩:=f.bx.get q;cases w with
       |row g1 g2 g3 g4=>exact ⟨ρ1,A,⟨f.zero,f.pos,f.F,f.tm,f.bx.zij j (.row m g2 g3 fun e u=>iF n (g4 e u))⟩⟩
      grind
     grind
    grind
   grind
  grind
 grind
def opX (x:Cx)(a:ASt)(i:I):Option (List Out):=match opL x.T a i with
 |some l=>some l
 |none=>match opC x a i with
  |some l=>some l
  |none=>match QG a i with
   |some a'=>opC x a' i
   |none=>none
theorem zfO {x:Cx}(hx:GZ Γ x a.nx ρ)(hr:R x.T ρ a σ)(h:opX x a i=some outs):zeq x.T Γ ρ a σ i outs:=by
 unfold opX at h;split at h;next l u=>cases h;exact (zfQ hr u).e
 split at h
 ·grind[Zv]
 split at h;next H q=>obtain ⟨ρ1,f,E⟩:=QF hr q;obtain ⟨o,w,ρ2,y,j,A,F,m,B,n⟩:=Zv (hx.more f) E h;exact ⟨o,w,ρ2,y,j,f.trans A,F,m,B,n⟩
 grind
end
section
variable {a:ASt}{x:Cx}{i:Ins}{σ:St}
variable {T:Tab} {n m:Nat} {ρ ρ':Rho} {Γ:Nat->Gam}
def setSlot:List (Nat×AX)->Nat->AX->List (Nat×AX)
 |[],_,_=>[]
 |(k,x)::r,s,y=>if k==s then (k,y)::r else (k,x)::setSlot r s y
theorem qU:∀{l:List (Nat×AX)} {m:List (Nat×X)} {s:Nat} {y:AX} {x:X},GT T n ρ l m->lk m s=some x->G T n ρ y x->GT T n ρ (setSlot l s y) m
 |_,_,_,_,_,.nil,_,_=>.nil
 |_,_,s,y,x,.cons (k:=k) g1 g2,h,hg=>by
  unfold lk at h;unfold setSlot;split at h;next hk=>cases h;rw [if_pos hk];exact .cons hg g2
  rename_i hk;rw [if_neg hk];exact .cons g1 (qU g2 h hg)
def zaP (d:Option Nat)(x:AX)(tm:List (Nat×AX)):List (Nat×AX):=match d with
 |none=>tm
 |some d=>(d,x)::tm
theorem Ku {d:Option Nat}{y:AX}{x:X}{l:List (Nat×AX)}{m:List (Nat×X)}(h:GT T n ρ l m)(hg:G T n ρ y x):GT T n ρ (zaP d y l) (setD d x m):=by
 cases d with
 |none=>exact h
 |some d=>exact .cons hg h
abbrev zeI:=ASt×FP
variable {outs:List zeI}
def goE (x:Cx)(a:ASt)(i:Ins):Option (List zeI):=(opX x a i.op).map fun outs=>outs.map fun o=>({o.2.1 with tm:=zaP i.dst o.1 o.2.1.tm},o.2.2)
def zaJ (a:ASt)(i:Ins):zeI:=({a with tm:=zaP i.dst J4 a.tm},fp0)
def zhd (T:Tab)(Γ:Nat->Gam)(ρ:Rho)(a:ASt)(σ:St)(i:Ins)(outs:List zeI):Prop:=
 ∃q,q∈outs/\∃ρ' σ',More a.nx ρ q.1.nx ρ'/\R T ρ' q.1 σ'/\∃B,∀N,B<=N->Em.step (Γ N) i σ=some (σ',q.2)
theorem ZG (hx:GZ Γ x a.nx ρ)(hr:R x.T ρ a σ)(h:goE x a i=some outs):∃q,q∈outs/\∃ρ' σ',More a.nx ρ q.1.nx ρ'/\R x.T ρ' q.1 σ'/\∃B,∀N,B<=N->stepGo (Γ N) i σ=some (σ',q.2):=by obtain ⟨A,l,rfl⟩:=qac.1 h;obtain ⟨o,j,ρ',y,bx,m,f,n,B,w⟩:=zfO hx hr l;exact ⟨_,qam.2 ⟨o,j,rfl⟩,ρ',⟨setD i.dst y σ.tm,bx⟩,m,⟨f.zero,f.pos,f.F,Ku f.tm n,f.bx⟩,B,fun N u=>by grind[stepGo]⟩
theorem Kr (hr:R T ρ a σ):R T ρ (zaJ a i).1 ⟨setD i.dst undefX σ.tm,σ.bx⟩:=⟨hr.zero,hr.pos,hr.F,Ku hr.tm (.x rfl),hr.bx⟩
def zaA (x:Cx)(a:ASt)(i:Ins):Option (List zeI):=match i.g with
 |none=>goE x a i
 |some (s,want)=>match lkA a.tm s with
  |some (.b tf ff)=>
   match (match assume a (if want then tf else ff) with
    |some a'=>goE x {a' with tm:=setSlot a'.tm s (cb want)} i
    |none=>some []) with
   |none=>none
   |some l=>some (l++match assume a (if want then ff else tf) with
    |some a'=>[zaJ {a' with tm:=setSlot a'.tm s (cb (!want))} i]
    |none=>[])
  |some (.x (.v (.tuple _)))=>some [zaJ a i]
  |_=>none
theorem VE (hx:GZ Γ x a.nx ρ)(hr:R x.T ρ a σ)(h:zaA x a i=some outs):zhd x.T Γ ρ a σ i outs:=by
 unfold zaA at h;split at h;next M=>obtain ⟨q,V,ρ',σ',E,Q,B,k3⟩:=ZG hx hr h;exact ⟨q,V,ρ',σ',E,Q,B,fun N Y=>by grind[Em.step]⟩
 rename_i s f M;split at h
 ·rename_i W U O;obtain ⟨y,A,J⟩:=gI hr.tm O;cases J with
  |b V h2=>
   rename_i t;split at h;·cases h
   rename_i l w;cases h;by_cases hw:t=f
   ·subst hw;have L:aV a.nx ρ (if t then W else U):=by
     cases t with
     |true=>grind
     |false=>grind
    obtain ⟨j,H,m,S⟩:=iE hr L;rw [H] at w;have n:R x.T ρ {j with tm:=setSlot j.tm s (cb t)} σ:=⟨m.zero,m.pos,m.F,qU m.tm A (uP t),m.bx⟩;have P:GZ Γ x j.nx ρ:=by rw [S];exact hx
    obtain ⟨q,p1,ρ',σ',E,Q,B,k3⟩:=ZG (a:={j with tm:=setSlot j.tm s (cb t)}) P n w;refine ⟨q,List.mem_append_left _ p1,ρ',σ',⟨by have h9:j.nx<=q.1.nx:=E.le;omega,fun u hu=>E.same u (by show u<j.nx;omega)⟩,Q,B,fun N Y=>?_⟩<;>simp_all[Em.step]
   have L:aV a.nx ρ (if f then U else W):=by
    cases f with
    |true=>grind
    |false=>grind
   obtain ⟨j,H,m,S⟩:=iE hr L;have Z:t=!f:=by cases t<;>cases f<;>first|rfl|grind
   have n:R x.T ρ {j with tm:=setSlot j.tm s (cb (!f))} σ:=⟨m.zero,m.pos,m.F,qU m.tm A (Z▸uP t),m.bx⟩;refine ⟨_,List.mem_append_right _ (by rw [H];exact qaa.2 rfl),ρ,_,⟨by show a.nx<=j.nx;omega,fun _ _=>rfl⟩,Kr n,0,fun N _=>?_⟩;unfold Em.step;rw [M];dsimp only;rw [A];dsimp only;rw [if_neg (by grind)];rfl
 next v O=>cases h;obtain ⟨y,A,J⟩:=gI hr.tm O;cases J;refine ⟨_,qaa.2 rfl,ρ,_,.refl ..,Kr hr,0,fun N _=>?_⟩;unfold Em.step;rw [M];dsimp only;rw [A];rfl
 grind
abbrev zkE:=ASt×List FP
def EF (x:Cx):List Ins->ASt->Option (List zkE)
 |[],a=>some [(a,[])]
 |i::r,a=>match zaA x a i with
  |none=>none
  |some outs=>(kU (outs.map fun q=>(EF x r q.1).map fun l=>l.map fun w=>((w.1,q.2::w.2):zkE))).map List.flatten
theorem ED {x:Cx}:∀{l:List Ins} {ρ:Rho} {a:ASt} {σ:St} {outs:List zkE},GZ Γ x a.nx ρ->R x.T ρ a σ->EF x l a=some outs->
  ∃q,q∈outs/\∃ρ' σ',More a.nx ρ q.1.nx ρ'/\R x.T ρ' q.1 σ'/\∃B,∀N,B<=N->steps (Γ N) l σ=some (σ',q.2)
 |[],ρ,a,σ,outs,hx,hr,h=>by simp [EF] at h;subst h;exact ⟨_,qaa.2 rfl,ρ,σ,.refl ..,hr,0,fun N _=>rfl⟩
 |i::r,ρ,a,σ,outs,hx,hr,h=>by
  unfold EF at h;split at h;·cases h
  rename_i os ho;obtain ⟨ls,hls,rfl⟩:=qac.1 h;obtain ⟨q,hq,ρ1,σ1,k1,k2,B1,k3⟩:=VE hx hr ho;obtain ⟨l,hl,hlm⟩:=dY hls hq;obtain ⟨l',hl',rfl⟩:=qac.1 hl;obtain ⟨w,hw,ρ2,σ2,p1,p2,B2,p3⟩:=ED (hx.more k1) k2 hl';refine ⟨_,List.mem_flatten.2 ⟨_,hlm,qam.2 ⟨w,hw,rfl⟩⟩,ρ2,σ2,k1.trans p1,p2,max B1 B2,fun N hN=>?_⟩
  grind[steps]
def keepA (live:List Nat)(tm:List (Nat×AX)):List (Nat×AX):=live.filterMap fun k=>(lkA tm k).map fun x=>(k,x)
theorem KW {l:List (Nat×AX)}{m:List (Nat×X)}(h:GT T n ρ l m):∀(live:List Nat),GT T n ρ (keepA live l) (keep live m)
 |[]=>.nil
 |k::r=>by
  have ih:=KW h r;unfold keepA keep at ih ⊢;cases hl:lkA l k with
  |none=>grind[nH]
  |some y=>obtain ⟨x,hx,hg⟩:=gI h hl;rw [List.filterMap_cons_some (b:=(k,y)) (by grind),List.filterMap_cons_some (b:=(k,x)) (by grind)];exact .cons hg ih
def O4 (l:Lin)(acc:Nat):Nat:=Nat.lor acc (Nat.shiftLeft 1 l.s)
def zj6:List Fact->Nat->Nat
 |[],acc=>acc
 |f::r,acc=>zj6 r (Nat.lor (Nat.lor acc (Nat.shiftLeft 1 f.x)) (Nat.shiftLeft 1 f.y))
mutual
def zhU:AX->Nat->Nat
 |.i _ l,acc=>O4 l acc
 |.b t u,acc=>zj6 t (zj6 u acc)
 |.s l,acc=>O4 l acc
 |.sl _ _ _ h l,acc=>O4 h (O4 l acc)
 |.bs _ o l,acc=>O4 o (O4 l acc)
 |.ptr _ e _,acc=>O4 e acc
 |.dp cs,acc=>OQ cs acc
 |.fn _ cs,acc=>OQ cs acc
 |.agg cs,acc=>OQ cs acc
 |.tup cs,acc=>OQ cs acc
 |.el _ h,acc=>O4 h acc
 |.de _ h,acc=>O4 h acc
 |_,acc=>acc
def OQ:List AX->Nat->Nat
 |[],acc=>acc
 |a::r,acc=>OQ r (zhU a acc)
end
def zdM:List ABx->Nat->Nat
 |[],acc=>acc
 |.var cs::r,acc=>zdM r (OQ cs acc)
 |.row _ _ h l::r,acc=>zdM r (O4 h (O4 l acc))
 |.loop _ _ tm _ _ _::r,acc=>zdM r (tm.foldl (fun c q=>zhU q.2 c) acc)
 |.map es::r,acc=>zdM r (es.foldl (fun c q=>zhU q.2 c) acc)
 |.dead::r,acc=>zdM r acc
 |.el _ h::r,acc=>zdM r (O4 h acc)
def through (u:Nat)(F:List Fact):List Fact:=F.flatMap fun f=>if u.testBit f.x&&!u.testBit f.y then
 F.filterMap fun g=>if Nat.beq f.y g.x&&u.testBit g.y&&!Nat.beq f.x g.y then some ⟨f.x,g.y,f.c+g.c⟩ else none else []
theorem MN {n u:Nat}{F:List Fact}(h:aV n ρ F):aV n ρ (through u F):=fun k a=>by
 obtain ⟨f,q,a⟩:=List.mem_flatMap.1 a;split at a
 ·obtain ⟨g,w,a⟩:=List.mem_filterMap.1 a;split at a;next j=>simp only [qab] at j;have e:=qaj j.1.1;cases a;obtain ⟨l,y,A⟩:=h f q;obtain ⟨B,m,E⟩:=h g w;refine ⟨l,m,?_⟩<;>grind
  grind
 grind
def prune (base:Nat)(a:ASt):ASt:=
 let u:=zdM a.bx (a.tm.foldl (fun c q=>zhU q.2 c) base)
 {a with F:=(a.F.filter fun f=>u.testBit f.x&&u.testBit f.y)++through u a.F}
theorem Wj {base:Nat}(hr:R T ρ a σ):R T ρ (prune base a) σ:=⟨hr.zero,hr.pos,fun f h=>(qaO.1 h).elim (fun h=>hr.F f (List.mem_filter.1 h).1) (fun h=>MN hr.F f h),hr.tm,hr.bx⟩
end
section
variable {a:ABx}{x:Bx}
variable {T:Tab} {n m:Nat} {ρ ρ':Rho} {Γ:Nat->Gam}
def tight (F:List Fact):AX->Option (Option Nat)
 |.x (.sl true sz [])=>some (some sz)
 |.sl (some false) _ _ _ _=>some none
 |.sl (some true) sz _ _ l=>if leL F l (.k 0) then some (some sz) else if leL F (.k 1) l then some none else none
 |.sl none _ _ _ l=>if leL F (.k 1) l then some none else none
 |_=>some none
theorem J6 {F:List Fact}(h0:ρ 0=0)(hF:aV n ρ F){y:AX}{x:X}(hg:G T n ρ y x):(∀sz,tight F y=some (some sz)->x=.sl true sz [])/\(tight F y=some none->∀sz,x≠.sl true sz []):=by
 have f:∀{l:Lin} {es:qaW},(es.length:Int)=l.v ρ->leL F (.k 1) l=true->es≠[]:=fun {l es} j a e=>by have:=aO hF a<;>grind[Lin.k_v]
 unfold tight;split;·cases hg<;>grind
 ·cases hg<;>grind[xM]
 ·rename_i sz k q l;cases hg with
  |sl q1 q2 q3 q4 q5=>
   have:=q3;unfold xM at this;subst this;split;next m=>have c:=aO hF m;rw [Lin.k_v h0] at c;rename_i es;have:es=[]:=qaP (by omega)<;>grind
   grind
 ·cases hg<;>grind
 rename_i j a u w;refine ⟨fun sz h=>(by cases h),fun _ sz e=>?_⟩;subst e;cases hg with
 |x _=>grind
 |sl q1 q2 q3 q4 q5=>
  rename_i t k q l;cases t with
  |none=>grind
  |some b=>cases b with
   |false=>grind
   |true=>grind
def Dj (sz:Nat):ABx:=.row sz 0 (.k 0) (.k 0)
theorem xP (h0:ρ 0=0)(hn:0<n)(sz:Nat):GB T n ρ (Dj sz) (.row sz []):=.row hn hn (by grind[Lin.k_v]) (fun e a=>by grind)
mutual
def AX.within (F:List Fact)(i:Nat)(rl:Lin):AX->Bool
 |.bs j o l=>if Nat.beq j i then (match OT o l with|some e=>leL F e rl|none=>false) else true
 |.agg cs=>gJ F i rl cs
 |.tup cs=>gJ F i rl cs
 |.fn _ cs=>gJ F i rl cs
 |_=>true
def gJ (F:List Fact)(i:Nat)(rl:Lin):List AX->Bool
 |[]=>true
 |x::r=>x.within F i rl&&gJ F i rl r
end
mutual
def AX.frz (i sz k:Nat)(h:Lin):AX->AX
 |.bs j o l=>if j==i then .sl (some false) sz k h l else .bs j o l
 |.agg cs=>.agg (Ou i sz k h cs)
 |.tup cs=>.tup (Ou i sz k h cs)
 |.fn g cs=>.fn g (Ou i sz k h cs)
 |.i k l=>.i k l
 |.b t u=>.b t u
 |.s l=>.s l
 |.x x=>.x x
 |.sl t sz k h l=>.sl t sz k h l
 |.ptr i e o=>.ptr i e o
 |.dp cs=>.dp cs
 |.yl i=>.yl i
 |.mp i=>.mp i
 |.nX=>.nX
 |.el k h=>.el k h
 |.de k h=>.de k h
def Ou (i sz k:Nat)(h:Lin):List AX->List AX
 |[]=>[]
 |x::r=>x.frz i sz k h::Ou i sz k h r
end
mutual
theorem vM (i c:Nat):∀(x:X),x.refs=[]->x.within i c=true
 |.bs _ _ _,h=>by grind[X.refs]
 |.agg cs,h=>fF i c cs h
 |.tup cs,h=>fF i c cs h
 |.fn _ cs,h=>fF i c cs h
 |.v _,_=>rfl
 |.sl _ _ _,_=>rfl
 |.ptr _ _ _,_=>rfl
 |.dp _,_=>rfl
 |.yl _,_=>rfl
 |.mp _,_=>rfl
 |.ifc,_=>rfl
theorem fF (i c:Nat):∀(xs:List X),refsL xs=[]->withinL i c xs=true
 |[],_=>rfl
 |x::r,h=>by have h:x.refs++refsL r=[]:=h;obtain ⟨h1,h2⟩:=List.append_eq_nil_iff.1 h;show (x.within i c&&withinL i c r)=true;rw [vM i c x h1,fF i c r h2];rfl
end
mutual
theorem C9 (i sz:Nat)(es:qaW):∀(x:X),x.refs=[]->x.frz i sz es=x
 |.bs _ _ _,h=>by grind[X.refs]
 |.agg cs,h=>by show X.agg (frzL i sz es cs)=_;rw [mD i sz es cs h]
 |.tup cs,h=>by show X.tup (frzL i sz es cs)=_;rw [mD i sz es cs h]
 |.fn g cs,h=>by show X.fn g (frzL i sz es cs)=_;rw [mD i sz es cs h]
 |.v _,_=>rfl
 |.sl _ _ _,_=>rfl
 |.ptr _ _ _,_=>rfl
 |.dp _,_=>rfl
 |.yl _,_=>rfl
 |.mp _,_=>rfl
 |.ifc,_=>rfl
theorem mD (i sz:Nat)(es:qaW):∀(xs:List X),refsL xs=[]->frzL i sz es xs=xs
 |[],_=>rfl
 |x::r,h=>by have h:x.refs++refsL r=[]:=h;obtain ⟨h1,h2⟩:=List.append_eq_nil_iff.1 h;show x.frz i sz es::frzL i sz es r=_;rw [C9 i sz es x h1,mD i sz es r h2]
end
section
variable {F:List Fact} {i sz k:Nat} {hh rl:Lin} {es:qaW}
mutual
theorem G.within (h0:ρ 0=0)(hF:aV n ρ F)(hl:(es.length:Int)=rl.v ρ):∀{a:AX} {x:X},G T n ρ a x->a.within F i rl=true->x.within i es.length=true
 |.bs j o l,.bs _ o' l',.bs q1 q2 q3 q4,h=>by
  unfold AX.within at h;unfold X.within;split at h
  ·rename_i hj;have hj:=qaj hj;subst hj;split at h
   ·rename_i e he;have c:=aO hF h;rw [kV h0 he] at c
    grind
   grind
  simp_all
 |_,_,.agg q,h=>GL.within h0 hF hl q h
 |_,_,.tup q,h=>GL.within h0 hF hl q h
 |_,_,.fn q,h=>GL.within h0 hF hl q h
 |_,_,.x q,_=>vM _ _ _ q
 |_,_,.i _ _,_=>rfl
 |_,_,.b _ _,_=>rfl
 |_,_,.s _ _,_=>rfl
 |_,_,.sl _ _ _ _ _,_=>rfl
 |_,_,.ptr _ _,_=>rfl
 |_,_,.dp _,_=>rfl
 |_,_,.yl,_=>rfl
 |_,_,.mp,_=>rfl
 |_,_,.ifc,_=>rfl
 |_,_,.Ah,_=>rfl
 |_,_,.el _ h,_=>fF _ _ _ (lq h)
 |_,_,.de _ _,_=>rfl
theorem GL.within (h0:ρ 0=0)(hF:aV n ρ F)(hl:(es.length:Int)=rl.v ρ):∀{a:List AX} {x:List X},GL T n ρ a x->gJ F i rl a=true->withinL i es.length x=true
 |_,_,.nil,_=>rfl
 |a::l,x::m,.cons g1 g2,h=>by have h:(a.within F i rl&&gJ F i rl l)=true:=h;rw [qab] at h;show (x.within i es.length&&withinL i es.length m)=true;rw [G.within h0 hF hl g1 h.1,GL.within h0 hF hl g2 h.2];rfl
end
mutual
theorem G.frz (h0:ρ 0=0)(hF:aV n ρ F)(hk:hh.s<n)(hl:(es.length:Int)=rl.v ρ)(hd:∀e,e∈es->D T (hh.v ρ) k e):∀{a:AX} {x:X},G T n ρ a x->a.within F i rl=true->G T n ρ (a.frz i sz k hh) (x.frz i sz es)
 |.bs j o l,.bs _ o' l',.bs q1 q2 q3 q4,h=>by
  have hw:=G.within (T:=T) (i:=i) h0 hF hl (G.bs q1 q2 q3 q4) h;unfold X.within at hw;unfold AX.frz X.frz;cases hj:(j==i) with
  |true=>
   rw [hj] at hw;simp at hw;simp;refine .sl hk q2 rfl ?_ fun e he=>hd e (List.mem_of_mem_drop (List.mem_of_mem_take he))
   grind
  |false=>simp;exact .bs q1 q2 q3 q4
 |_,_,.agg q,h=>.agg (GL.frz h0 hF hk hl hd q h)
 |_,_,.tup q,h=>.tup (GL.frz h0 hF hk hl hd q h)
 |_,_,.fn q,h=>.fn (GL.frz h0 hF hk hl hd q h)
 |.x y,_,.x q,_=>by show G T n ρ (.x y) (X.frz i sz es y);rw [C9 i sz es y q];exact .x q
 |_,_,.i q1 q2,_=>.i q1 q2
 |_,_,.b q1 q2,_=>.b q1 q2
 |_,_,.s q1 q2,_=>.s q1 q2
 |_,_,.sl q1 q2 q3 q4 q5,_=>.sl q1 q2 q3 q4 q5
 |_,_,.ptr q1 q2,_=>.ptr q1 q2
 |_,_,.dp q,_=>.dp q
 |_,_,.yl,_=>.yl
 |_,_,.mp,_=>.mp
 |_,_,.ifc,_=>.ifc
 |_,_,.Ah,_=>.Ah
 |_,_,.el (xs:=xs) q1 q2,_=>by show G T n ρ _ (X.frz i sz es (.agg xs));rw [C9 i sz es (.agg xs) (lq q2)];exact .el q1 q2
 |_,_,.de q1 q2,_=>.de q1 q2
theorem GL.frz (h0:ρ 0=0)(hF:aV n ρ F)(hk:hh.s<n)(hl:(es.length:Int)=rl.v ρ)(hd:∀e,e∈es->D T (hh.v ρ) k e):∀{a:List AX} {x:List X},GL T n ρ a x->gJ F i rl a=true->GL T n ρ (Ou i sz k hh a) (frzL i sz es x)
 |_,_,.nil,_=>.nil
 |a::l,x::m,.cons g1 g2,h=>by have h:(a.within F i rl&&gJ F i rl l)=true:=h;rw [qab] at h;exact .cons (G.frz h0 hF hk hl hd g1 h.1) (GL.frz h0 hF hk hl hd g2 h.2)
end
def zdf (i sz k:Nat)(h:Lin)(tm:List (Nat×AX)):List (Nat×AX):=tm.map fun p=>(p.1,p.2.frz i sz k h)
theorem GT.frz (h0:ρ 0=0)(hF:aV n ρ F)(hk:hh.s<n)(hl:(es.length:Int)=rl.v ρ)(hd:∀e,e∈es->D T (hh.v ρ) k e):∀{a:List (Nat×AX)} {x:List (Nat×X)},GT T n ρ a x->gJ F i rl (a.map (·.2))=true->GT T n ρ (zdf i sz k hh a) (frzT i sz es x)
 |_,_,.nil,_=>.nil
 |(q,a)::l,_,.cons g1 g2,h=>by have h:(a.within F i rl&&gJ F i rl (l.map (·.2)))=true:=h;rw [qab] at h;exact .cons (G.frz h0 hF hk hl hd g1 h.1) (GT.frz h0 hF hk hl hd g2 h.2)
def ABx.within (F:List Fact)(i:Nat)(rl:Lin):ABx->Bool
 |.var cs=>gJ F i rl cs
 |.loop _ _ tm _ _ _=>gJ F i rl (tm.map (·.2))
 |_=>true
def ABx.frz (i sz k:Nat)(h:Lin):ABx->ABx
 |.var cs=>.var (Ou i sz k h cs)
 |.loop st p tm ps a b=>.loop st p (zdf i sz k h tm) ps a b
 |.row s k h l=>.row s k h l
 |.map es=>.map es
 |.dead=>.dead
 |.el k h=>.el k h
theorem GB.within (h0:ρ 0=0)(hF:aV n ρ F)(hl:(es.length:Int)=rl.v ρ)(g:GB T n ρ a x)(h:a.within F i rl=true):x.within i es.length=true:=by
 cases g with
 |var q=>exact q.within h0 hF hl h
 |loop q=>exact q.vals.within h0 hF hl h
 |row _ _ _ _=>rfl
 |map _=>rfl
 |dead=>rfl
 |el _ q=>exact fF _ _ _ (lq q)
theorem GB.frz (h0:ρ 0=0)(hF:aV n ρ F)(hk:hh.s<n)(hl:(es.length:Int)=rl.v ρ)(hd:∀e,e∈es->D T (hh.v ρ) k e)(g:GB T n ρ a x)(h:a.within F i rl=true):GB T n ρ (a.frz i sz k hh) (x.frz i sz es):=by
 cases g with
 |var q=>exact .var (q.frz h0 hF hk hl hd h)
 |loop q=>exact .loop (q.frz h0 hF hk hl hd h)
 |row q1 q2 q3 q4=>exact .row q1 q2 q3 q4
 |map q=>exact .map q
 |dead=>exact .dead
 |el q1 q2=>rename_i f;show GB T n ρ _ (Bx.var (frzL i sz es f));rw [mD i sz es f (lq q2)];exact .el q1 q2
theorem GBs.within (h0:ρ 0=0)(hF:aV n ρ F)(hl:(es.length:Int)=rl.v ρ):∀{a:List ABx} {x:List Bx},GBs T n ρ a x->a.all (ABx.within F i rl)=true->x.all (Bx.within i es.length)=true
 |_,_,.nil,_=>rfl
 |_,_,.cons g1 g2,h=>by rw [List.all_cons,qab] at h;rw [List.all_cons,g1.within h0 hF hl h.1,g2.within h0 hF hl h.2];rfl
theorem GBs.frz (h0:ρ 0=0)(hF:aV n ρ F)(hk:hh.s<n)(hl:(es.length:Int)=rl.v ρ)(hd:∀e,e∈es->D T (hh.v ρ) k e):∀{a:List ABx} {x:List Bx},GBs T n ρ a x->a.all (ABx.within F i rl)=true->GBs T n ρ (a.map (ABx.frz i sz k hh)) (x.map (Bx.frz i sz es))
 |_,_,.nil,_=>.nil
 |_,_,.cons g1 g2,h=>by rw [List.all_cons,qab] at h;exact .cons (g1.frz h0 hF hk hl hd h.1) (g2.frz h0 hF hk hl hd h.2)
end
def rW (i:Nat)(a:ASt):Option ASt:=match a.bx[i]? with
 |some (.row sz k h rl)=>if gJ a.F i rl (a.tm.map (·.2))&&a.bx.all (ABx.within a.F i rl) then
   some {a with tm:=zdf i sz k h a.tm,bx:=(a.bx.map (ABx.frz i sz k h)).set i .dead} else none
 |_=>none
theorem rV {a a':ASt}{σ:St}{i:Nat}(hr:R T ρ a σ)(h:rW i a=some a'):∃σ',Em.freeze i σ=some σ'/\R T ρ a' σ'/\a'.nx=a.nx:=by
 unfold rW at h;split at h
 ·rename_i n k u w q;split at h
  ·rename_i f;cases h;rw [qab] at f;obtain ⟨b,j,l⟩:=hr.bx.get q;cases l with
   |row w1 w2 w3 w4=>rename_i m;refine ⟨⟨frzT i n m σ.tm,(σ.bx.map (Bx.frz i n m)).set i .dead⟩,?_,⟨hr.zero,hr.pos,hr.F,hr.tm.frz hr.zero hr.F w1 w3 w4 f.1,(hr.bx.frz hr.zero hr.F w1 w3 w4 f.2).set i .dead⟩,rfl⟩;unfold Em.freeze;rw [j];dsimp only;rw [if_pos];unfold rowOkB;rw [hr.tm.vals.within hr.zero hr.F w3 f.1,hr.bx.within hr.zero hr.F w3 f.2];rfl
  grind
 grind
def kT:List Nat->ASt->Option ASt
 |[],a=>some a
 |i::r,a=>match a.bx[i]? with
  |some (.row _ _ _ _)=>(rW i a).bind (kT r)
  |some _=>kT r a
  |none=>none
theorem dX:∀{l:List Nat} {a a':ASt} {σ:St},R T ρ a σ->kT l a=some a'->∃σ',Em.freezes l σ=some σ'/\R T ρ a' σ'/\a'.nx=a.nx
 |[],a,a',σ,hr,h=>by simp [kT] at h;subst h;exact ⟨σ,rfl,hr,rfl⟩
 |i::r,a,a',σ,hr,h=>by
  unfold kT at h;unfold Em.freezes;split at h
  ·rename_i hb;obtain ⟨b,hb',hgb⟩:=hr.bx.get hb;cases hgb with
   |row _ _ _ _=>
    rw [hb'];dsimp only;cases hf:rW i a with
    |none=>grind
    |some a1=>rw [hf] at h;obtain ⟨σ1,h1,h2,h3⟩:=rV hr hf;obtain ⟨σ2,h4,h5,h6⟩:=dX (l:=r) h2 h<;>grind
  ·rename_i y hne hb;obtain ⟨b,hb',hgb⟩:=hr.bx.get hb;rw [hb'];cases hgb with
   |row _ _ _ _=>grind
   |var _=>exact dX (l:=r) hr h
   |loop _=>exact dX (l:=r) hr h
   |map _=>exact dX (l:=r) hr h
   |dead=>exact dX (l:=r) hr h
   |el _ _=>exact dX (l:=r) hr h
  grind
end
section
variable {a a':ASt}{σ:St}{x:X}
variable {T:Tab} {n m:Nat} {ρ ρ':Rho} {Γ:Nat->Gam}
mutual
def AX.F7 (i:Nat):AX->Bool
 |.ptr j e _=>if j==i then UJ e else true
 |.agg cs=>mF i cs
 |.tup cs=>mF i cs
 |.fn _ cs=>mF i cs
 |_=>true
def mF (i:Nat):List AX->Bool
 |[]=>true
 |x::r=>x.F7 i&&mF i r
end
mutual
def AX.fix (i:Nat)(vs:List AX):AX->AX
 |.ptr j e o=>if j==i then .dp (vs.drop o) else .ptr j e o
 |.agg cs=>.agg (Ov i vs cs)
 |.tup cs=>.tup (Ov i vs cs)
 |.fn g cs=>.fn g (Ov i vs cs)
 |.i k l=>.i k l
 |.b t u=>.b t u
 |.s l=>.s l
 |.x x=>.x x
 |.sl t sz k h l=>.sl t sz k h l
 |.bs i o l=>.bs i o l
 |.dp cs=>.dp cs
 |.yl i=>.yl i
 |.mp i=>.mp i
 |.nX=>.nX
 |.el k h=>.el k h
 |.de k h=>.de k h
def Ov (i:Nat)(vs:List AX):List AX->List AX
 |[]=>[]
 |x::r=>x.fix i vs::Ov i vs r
end
mutual
theorem Df (i:Nat)(vs:List X):∀(x:X),x.refs=[]->x.fix i vs=x
 |.ptr _ _ _,h=>by grind[X.refs]
 |.agg cs,h=>by show X.agg (fixL i vs cs)=_;rw [mG i vs cs h]
 |.tup cs,h=>by show X.tup (fixL i vs cs)=_;rw [mG i vs cs h]
 |.fn g cs,h=>by show X.fn g (fixL i vs cs)=_;rw [mG i vs cs h]
 |.v _,_=>rfl
 |.sl _ _ _,_=>rfl
 |.bs _ _ _,_=>rfl
 |.dp _,_=>rfl
 |.yl _,_=>rfl
 |.mp _,_=>rfl
 |.ifc,_=>rfl
theorem mG (i:Nat)(vs:List X):∀(xs:List X),refsL xs=[]->fixL i vs xs=xs
 |[],_=>rfl
 |x::r,h=>by have h:x.refs++refsL r=[]:=h;obtain ⟨h1,h2⟩:=List.append_eq_nil_iff.1 h;show x.fix i vs::fixL i vs r=_;rw [Df i vs x h1,mG i vs r h2]
end
section
variable {i:Nat} {vs:List AX} {xv:List X}
mutual
theorem G.fix (h0:ρ 0=0)(hv:GL T n ρ vs xv):∀{a:AX} {x:X},G T n ρ a x->a.F7 i=true->G T n ρ (a.fix i vs) (x.fix i xv)
 |.ptr j e o,.ptr _ e' _,.ptr q1 q2,h=>by
  unfold AX.F7 at h;unfold AX.fix X.fix;cases hj:(j==i) with
  |true=>
   rw [hj] at h;simp only [if_true] at h ⊢;have:=l7 h h0;have:e'=0:=by omega
   subst this;simp;exact .dp (hv.drop o)
  |false=>simp;exact .ptr q1 q2
 |_,_,.agg q,h=>.agg (GL.fix h0 hv q h)
 |_,_,.tup q,h=>.tup (GL.fix h0 hv q h)
 |_,_,.fn q,h=>.fn (GL.fix h0 hv q h)
 |.x y,_,.x q,_=>by show G T n ρ (.x y) (X.fix i xv y);rw [Df i xv y q];exact .x q
 |_,_,.i q1 q2,_=>.i q1 q2
 |_,_,.b q1 q2,_=>.b q1 q2
 |_,_,.s q1 q2,_=>.s q1 q2
 |_,_,.sl q1 q2 q3 q4 q5,_=>.sl q1 q2 q3 q4 q5
 |_,_,.bs q1 q2 q3 q4,_=>.bs q1 q2 q3 q4
 |_,_,.dp q,_=>.dp q
 |_,_,.yl,_=>.yl
 |_,_,.mp,_=>.mp
 |_,_,.ifc,_=>.ifc
 |_,_,.Ah,_=>.Ah
 |_,_,.el (xs:=xs) q1 q2,_=>by show G T n ρ _ (X.fix i xv (.agg xs));rw [Df i xv (.agg xs) (lq q2)];exact .el q1 q2
 |_,_,.de q1 q2,_=>.de q1 q2
theorem GL.fix (h0:ρ 0=0)(hv:GL T n ρ vs xv):∀{a:List AX} {x:List X},GL T n ρ a x->mF i a=true->GL T n ρ (Ov i vs a) (fixL i xv x)
 |_,_,.nil,_=>.nil
 |a::l,x::m,.cons g1 g2,h=>by have h:(a.F7 i&&mF i l)=true:=h;rw [qab] at h;exact .cons (G.fix h0 hv g1 h.1) (GL.fix h0 hv g2 h.2)
end
def zdg (i:Nat)(vs:List AX)(tm:List (Nat×AX)):List (Nat×AX):=tm.map fun p=>(p.1,p.2.fix i vs)
theorem GT.fix (h0:ρ 0=0)(hv:GL T n ρ vs xv):∀{a:List (Nat×AX)} {x:List (Nat×X)},GT T n ρ a x->mF i (a.map (·.2))=true->GT T n ρ (zdg i vs a) (fixT i xv x)
 |_,_,.nil,_=>.nil
 |(q,a)::l,_,.cons g1 g2,h=>by have h:(a.F7 i&&mF i (l.map (·.2)))=true:=h;rw [qab] at h;exact .cons (G.fix h0 hv g1 h.1) (GT.fix h0 hv g2 h.2)
def ABx.F7 (i:Nat):ABx->Bool
 |.var cs=>mF i cs
 |.loop _ _ tm _ _ _=>mF i (tm.map (·.2))
 |_=>true
def ABx.fix (i:Nat)(vs:List AX):ABx->ABx
 |.var cs=>.var (Ov i vs cs)
 |.loop st p tm ps a b=>.loop st p (zdg i vs tm) ps a b
 |.row s k h l=>.row s k h l
 |.map es=>.map es
 |.dead=>.dead
 |.el k h=>.el k h
theorem GBs.fix (h0:ρ 0=0)(hv:GL T n ρ vs xv):∀{a:List ABx} {x:List Bx},GBs T n ρ a x->a.all (ABx.F7 i)=true->GBs T n ρ (a.map (ABx.fix i vs)) (x.map (Bx.fix i xv))
 |_,_,.nil,_=>.nil
 |_,_,.cons g1 g2,h=>by
  rw [List.all_cons,qab] at h;refine .cons ?_ (GBs.fix h0 hv g2 h.2);cases g1 with
  |var q=>exact .var (GL.fix h0 hv q h.1)
  |loop q=>exact .loop (GT.fix h0 hv q h.1)
  |row q1 q2 q3 q4=>exact .row q1 q2 q3 q4
  |map q=>exact .map q
  |dead=>exact .dead
  |el q1 q2=>rename_i xs;show GB T n ρ _ (Bx.var (fixL i xv xs));rw [mG i xv xs (lq q2)];exact .el q1 q2
end
def Dc (i:Nat)(a:ASt):Option ASt:=match a.bx[i]? with
 |some (.var vs)=>if (lC vs).isEmpty then
   (if mF i (a.tm.map (·.2))&&a.bx.all (ABx.F7 i) then some {a with tm:=zdg i vs a.tm,bx:=(a.bx.map (ABx.fix i vs)).set i .dead} else none)
   else some a
 |_=>none
theorem Jr {i:Nat}(hr:R T ρ a σ)(h:Dc i a=some a'):∃σ',freezeV i σ=some σ'/\R T ρ a' σ'/\a'.nx=a.nx:=by
 unfold Dc at h;split at h
 ·rename_i u q;obtain ⟨b,f,m⟩:=hr.bx.get q;cases m with
  |var hv=>
   rename_i n;split at h
   ·rename_i l;split at h
    ·rename_i j;cases h;rw [qab] at j;refine ⟨⟨fixT i n σ.tm,(σ.bx.map (Bx.fix i n)).set i .dead⟩,?_,⟨hr.zero,hr.pos,hr.F,GT.fix hr.zero hv hr.tm j.1,(GBs.fix hr.zero hv hr.bx j.2).set i .dead⟩,rfl⟩;unfold freezeV;rw [f]
     (try dsimp only)
     rw [hv.refs,if_pos l]
    grind
   rename_i l;cases h;refine ⟨σ,?_,hr,rfl⟩;unfold freezeV;rw [f]
   (try dsimp only)
   rw [hv.refs,if_neg l]
 grind
def isRef:AX->Bool
 |.ptr _ _ _=>true
 |_=>false
def ziM:AX->Bool
 |.bs _ _ _=>true
 |_=>false
theorem Ih {a:AX}(hg:G T n ρ a x)(h:isRef a=false):∀i e o,x≠.ptr i e o:=fun i e o f=>by
 subst f;cases hg with
 |x q=>grind[X.refs]
 |ptr _ _=>cases h
theorem Zx {a:AX}(hg:G T n ρ a x)(h:ziM a=false):∀i e o,x≠.bs i e o:=fun i e o f=>by
 subst f;cases hg with
 |x q=>grind[X.refs]
 |bs _ _ _ _=>cases h
def Sv (a:ASt):Gh->Option ASt
 |.thaw s none=>match lkA a.tm s with
  |none=>some a
  |some y=>match tight a.F y with
   |some (some sz)=>some {a with tm:=(s,.bs a.bx.length (.k 0) (.k 0))::a.tm,bx:=a.bx++[Dj sz]}
   |some none=>some a
   |none=>none
 |.thaw s (some o)=>match lkA a.tm s with
  |none=>some a
  |some (.ptr i e o')=>if UJ e then match a.bx[i]? with
   |some (.var cs)=>match cs[o'+o]? with
    |some y=>match tight a.F y with
     |some (some sz)=>some {a with bx:=(a.bx.set i (.var (cs.set (o'+o) (.bs a.bx.length (.k 0) (.k 0)))))++[Dj sz]}
     |some none=>some a
     |none=>none
    |none=>some a
   |some (.el _ _)=>none
   |some _=>some a
   |none=>none
   else none
  |some y=>if isRef y then none else some a
 |.frz s none=>match lkA a.tm s with
  |some (.bs i _ _)=>rW i a
  |some y=>if ziM y then none else some a
  |none=>none
 |.frz s (some o)=>match lkA a.tm s with
  |some (.ptr i e o')=>if UJ e then match a.bx[i]? with
   |some (.var cs)=>match cs[o'+o]? with
    |some (.bs j _ _)=>rW j a
    |some y=>if ziM y then none else some a
    |none=>none
   |_=>none
   else none
  |_=>none
 |.frzA s=>match lkA a.tm s with
  |some (.ptr i _ _)=>match a.bx[i]? with
   |some (.var cs)=>kT (BP cs) a
   |some _=>some a
   |none=>none
  |some y=>if isRef y then none else kT y.rows a
  |none=>some a
 |.frzV s=>match lkA a.tm s with
  |some (.ptr i _ _)=>Dc i a
  |some y=>if isRef y then none else some a
  |none=>some a
theorem GL.set:∀{l:List AX} {m:List X} {y:AX} {x:X} (i:Nat),GL T n ρ l m->G T n ρ y x->GL T n ρ (l.set i y) (m.set i x)
 |_,_,_,_,_,.nil,_=>.nil
 |_,_,_,_,0,.cons _ h,g=>.cons g h
 |_,_,_,_,i+1,.cons h1 h,g=>.cons h1 (h.set i g)
theorem GL.get_none {l:List AX}{m:List X}{i:Nat}(h:GL T n ρ l m)(e:l[i]?=none):m[i]?=none:=by rw [List.getElem?_eq_none_iff] at e ⊢;rw [<-h.len]<;>grind
theorem Sr {g:Gh}(hr:R T ρ a σ)(h:Sv a g=some a'):∃σ',ghost σ g=some σ'/\R T ρ a' σ'/\a'.nx=a.nx:=by
 have hl:=hr.bx.len;have M:G T a.nx ρ (.bs a.bx.length (.k 0) (.k 0)) (.bs σ.bx.length 0 0):=by rw [hl];exact .bs hr.pos hr.pos (by rw [Lin.k_v hr.zero];rfl) (by rw [Lin.k_v hr.zero];rfl)
 unfold Sv at h;split at h
 ·rename_i s;unfold ghost
  (try dsimp only)
  split at h;next e=>cases h;rw [nH hr.tm e]<;>simp_all
  rename_i y e;obtain ⟨x,u,f⟩:=gI hr.tm e;obtain ⟨U,t2⟩:=J6 hr.zero hr.F f;rw [u];split at h;next N Q=>cases h;have:=U N Q;subst this;exact ⟨_,rfl,⟨hr.zero,hr.pos,hr.F,.cons M hr.tm,hr.bx.snoc (xP hr.zero hr.pos N)⟩,rfl⟩
  ·grind
  grind
 ·rename_i s o;unfold ghost
  (try dsimp only)
  split at h;next e=>cases h;rw [nH hr.tm e]<;>simp_all
  ·rename_i i O S e;obtain ⟨x,u,f⟩:=gI hr.tm e;cases f with
   |ptr q1 q2=>
    rename_i P;split at h
    ·rename_i hz;have h0:=l7 hz hr.zero;have:P=0:=by omega
     subst this;simp only [u];split at h
     ·rename_i V B;obtain ⟨b,m,n⟩:=hr.bx.get B;cases n with
      |var hv=>
       rename_i xv;simp only [m];split at h
       ·rename_i y L;obtain ⟨z,J,A⟩:=hv.get L;obtain ⟨U,t2⟩:=J6 hr.zero hr.F A;rw [J];split at h;next N Q=>cases h;have:=U N Q;subst this;exact ⟨_,rfl,⟨hr.zero,hr.pos,hr.F,hr.tm,(hr.bx.set i (.var (hv.set _ M))).snoc (xP hr.zero hr.pos N)⟩,rfl⟩
        ·grind
        grind
       rename_i L;cases h;rw [hv.get_none L]<;>simp_all
     ·cases h
     next b w W B=>cases h;obtain ⟨Y,m,n⟩:=hr.bx.get B;rw [m];cases n<;>simp_all
     grind
    grind
  rename_i y w e;obtain ⟨x,u,f⟩:=gI hr.tm e;split at h;·cases h
  rename_i H;cases h;have E:=Ih f (by grind);rw [u];refine ⟨σ,?_,hr,rfl⟩;split
  ·grind
  rfl
 ·rename_i s;unfold ghost
  (try dsimp only)
  split at h;next i o l e=>obtain ⟨x,u,f⟩:=gI hr.tm e;cases f<;>grind[rV]
  ·rename_i y w e;obtain ⟨x,u,f⟩:=gI hr.tm e;split at h;·cases h
   rename_i H;cases h;have E:=Zx f (by grind);rw [u];refine ⟨σ,?_,hr,rfl⟩;split
   ·grind
   ·rfl
   grind
  grind
 ·rename_i s o;unfold ghost
  (try dsimp only)
  split at h
  ·rename_i i O S e;obtain ⟨x,u,f⟩:=gI hr.tm e;cases f with
   |ptr q1 q2=>
    rename_i P;split at h
    ·rename_i hz;have h0:=l7 hz hr.zero;have:P=0:=by omega
     subst this;simp only [u];split at h
     ·rename_i V B;obtain ⟨b,m,n⟩:=hr.bx.get B;cases n with
      |var hv=>
       rename_i xv;simp only [m];split at h;next j o2 l2 L=>obtain ⟨z,J,A⟩:=hv.get L;cases A<;>grind[rV]
       ·rename_i y w L;obtain ⟨z,J,A⟩:=hv.get L;split at h;·cases h
        rename_i H;cases h;have E:=Zx A (by grind);rw [J];refine ⟨σ,?_,hr,rfl⟩;split
        ·grind
        ·rfl
        grind
       grind
     grind
    grind
  grind
 ·rename_i s;unfold ghost
  (try dsimp only)
  split at h
  ·rename_i i O S e;obtain ⟨x,u,f⟩:=gI hr.tm e;cases f with
   |ptr q1 q2=>
    rw [u]
    (try dsimp only)
    split at h
    ·rename_i V B;obtain ⟨b,m,n⟩:=hr.bx.get B;cases n with
     |var hv=>
      rw [m]
      (try dsimp only)
      rw [hv.rows]<;>grind[dX]
    ·rename_i b w B;cases h;obtain ⟨Y,m,n⟩:=hr.bx.get B;rw [m];cases n with
     |var _=>grind
     |row _ _ _ _=>grind
     |loop _=>grind
     |map _=>grind
     |dead=>grind
     |el _ q=>dsimp only;rw [jY _ (lq q)];exact ⟨σ,rfl,hr,rfl⟩
    grind
  ·rename_i y w e;obtain ⟨x,u,f⟩:=gI hr.tm e;split at h;·cases h
   rename_i H;have E:=Ih f (by grind);obtain ⟨σ',h1,h2,h3⟩:=dX hr h;refine ⟨σ',?_,h2,h3⟩;rw [u];split
   ·grind
   next x' _ Z=>cases Z;rw [f.rows]<;>grind
   grind
  rename_i e;cases h;rw [nH hr.tm e]<;>simp_all
 rename_i s;unfold ghost
 (try dsimp only)
 split at h;next i O S e=>obtain ⟨x,u,f⟩:=gI hr.tm e;cases f<;>grind[Jr]
 ·rename_i y w e;obtain ⟨x,u,f⟩:=gI hr.tm e;split at h;·cases h
  rename_i H;cases h;have E:=Ih f (by grind);rw [u];refine ⟨σ,?_,hr,rfl⟩;split
  ·grind
  rfl
 rename_i e;cases h;rw [nH hr.tm e]<;>simp_all
def xK:List Gh->ASt->Option ASt
 |[],a=>some a
 |g::r,a=>match Sv a g with
  |none=>none
  |some a'=>xK r a'
theorem Au:∀{l:List Gh} {a a':ASt} {σ:St},R T ρ a σ->xK l a=some a'->∃σ',ghosts l σ=some σ'/\R T ρ a' σ'/\a'.nx=a.nx
 |[],a,a',σ,hr,h=>by simp [xK] at h;subst h;exact ⟨σ,rfl,hr,rfl⟩
 |g::r,a,a',σ,hr,h=>by
  unfold xK at h;split at h;·cases h
  rename_i a1 h1;obtain ⟨σ1,k1,k2,k3⟩:=Sr hr h1;obtain ⟨σ2,k4,k5,k6⟩:=Au k2 h<;>grind[ghosts]
end
section
variable {a:ASt}{x:Cx}{k nIn:Nat}{S:Nat->Nat->Bool}{σ:St}
variable {T:Tab} {n m:Nat} {ρ ρ':Rho} {Γ:Nat->Gam}
abbrev Ee:=Ex×ASt
variable {outs:List Ee}
def zy (T:Tab)(Γ:Nat->Gam)(nIn:Nat)(ρ:Rho)(a:ASt)(σ:St)(c:C)(outs:List Ee):Prop:=
 ∃q,q∈outs/\∃ρ' σ',More a.nx ρ q.2.nx ρ'/\R T ρ' q.2 σ'/\∃B,∀N,B<=N->run (Γ N) nIn N c σ=some (q.1,σ')
def zis (x:Cx)(base:Nat)(gh:List Gh)(draw:List (Nat×Nat))(l:List Ins)(live:List Nat)(a:ASt):Option (List Ee):=
 match xK gh a with
 |none=>none
 |some a1=>match EF x l a1 with
  |none=>none
  |some outs=>kU (outs.map fun q=>if pairsOk l q.2 draw then some (Ex.norm,prune base {q.1 with tm:=keepA live q.1.tm}) else none)
theorem zbb {base:Nat}{gh:List Gh}{draw:List (Nat×Nat)}{l:List Ins}{live:List Nat}(hx:GZ Γ x a.nx ρ)(hr:R x.T ρ a σ)(h:zis x base gh draw l live a=some outs):zy x.T Γ nIn ρ a σ (.reg gh draw l live) outs:=by
 unfold zis at h;split at h;·cases h
 rename_i J n;obtain ⟨σ1,Q,E,H⟩:=Au hr n;split at h;·cases h
 rename_i S y;obtain ⟨q,A,ρ',σ',m,f,B,U⟩:=ED (H▸hx) E y;obtain ⟨w,j,u⟩:=dY h A;split at j;next O=>cases j;refine ⟨_,u,ρ',⟨keep live σ'.tm,σ'.bx⟩,⟨by have L:=m.le;show a.nx<=q.1.nx;omega,fun s P=>m.same s (by omega)⟩,Wj ⟨f.zero,f.pos,f.F,KW f.tm live,f.bx⟩,B,fun N M=>?_⟩<;>simp_all[run]
 grind
def leT (c:In):List (Nat×AX)->List (Nat×AX)->Bool
 |[],[]=>true
 |(k,a)::l,(j,p)::r=>Nat.beq k j&&leX c a p&&leT c l r
 |_,_=>false
theorem Zz {c:In}(hS:SOk T c.S)(h0:ρ 0=0)(hF:aV n ρ c.F):∀{a p:List (Nat×AX)} {x:List (Nat×X)},leT c a p=true->GT T n ρ a x->GT T c.m (back c.θ ρ) p x
 |[],[],_,_,.nil=>.nil
 |(k,a)::l,(j,b)::r,_,h,.cons h1 h2=>by unfold leT at h;simp only [qab] at h;obtain ⟨⟨e1,e2⟩,e3⟩:=h;have e1:=qaj e1;subst e1;exact .cons (KP hS h0 hF e2 h1) (Zz hS h0 hF e3 h2)
def WW (c:In):List ABx->List ABx->Bool
 |[],[]=>true
 |a::l,b::r=>leB c a b&&WW c l r
 |_,_=>false
theorem KQ {c:In}(hS:SOk T c.S)(h0:ρ 0=0)(hF:aV n ρ c.F):∀{a p:List ABx} {x:List Bx},WW c a p=true->GBs T n ρ a x->GBs T c.m (back c.θ ρ) p x
 |[],[],_,_,.nil=>.nil
 |a::l,b::r,_,h,.cons h1 h2=>by unfold WW at h;rw [qab] at h;exact .cons (ZB hS h0 hF h.1 h1) (KQ hS h0 hF h.2 h2)
def dA (k:Nat)(acc:List (Nat×Lin)):Sub:=fun s=>if Nat.blt s k then ⟨s,0⟩ else jJ acc s
def zex (S:Nat->Nat->Bool)(k:Nat)(acc:List (Nat×Lin))(a p:ASt):Bool:=
 let c:In:=⟨S,a.F,dA k acc,p.nx⟩
 Nat.ble k a.nx&&Nat.ble k p.nx&&Nat.blt 0 k&&leT c a.tm p.tm&&WW c a.bx p.bx&&
  p.F.all (fun f=>Nat.blt f.x p.nx&&Nat.blt f.y p.nx&&leL a.F (dA k acc f.x) ((dA k acc f.y).up f.c))
theorem Io (hS:SOk T S){acc:List (Nat×Lin)}{p:ASt}(hr:R T ρ a σ)(h:zex S k acc a p=true):R T (back (dA k acc) ρ) p σ/\More k ρ p.nx (back (dA k acc) ρ):=by
 unfold zex at h;simp only [qab] at h;obtain ⟨⟨⟨⟨⟨L,w⟩,y⟩,A⟩,B⟩,E⟩:=h;have J:=cZ y;have j:∀s,s<k->back (dA k acc) ρ s=ρ s:=fun s M=>by simp_all[back,dA,Lin.v]
 have l:=Nat.le_of_ble_eq_true w;refine ⟨⟨by rw [j 0 J];exact hr.zero,by omega,fun f H=>?_,Zz (c:=⟨S,a.F,dA k acc,p.nx⟩) hS hr.zero hr.F A hr.tm,KQ (c:=⟨S,a.F,dA k acc,p.nx⟩) hS hr.zero hr.F B hr.bx⟩,⟨l,j⟩⟩;have:=qas.1 E f H;simp only [qab] at this;obtain ⟨⟨n,q⟩,u⟩:=this;have m:=aO hr.F u;rw [Lin.jI] at m;exact ⟨cZ n,cZ q,m⟩
def zgN:List (Nat×AX)->List (Nat×AX)->List (Nat×Lin)->List (Nat×Lin)
 |(_,a)::l,(_,b)::r,acc=>zgN l r (YM a b acc)
 |_,_,acc=>acc
def uD (a p:ASt):List (Nat×Lin):=GK a.bx p.bx (zgN a.tm p.tm [])
abbrev Mu:=Lin×Lin
variable {mu:Mu}
abbrev Orc:=C->ASt->Option (ASt×Mu)
def Zy (k:Nat):Nat:=Nat.shiftLeft 1 k-1
def lessM (F:List Fact)(θ:Sub)(mu:Mu):Bool:=leL F (mu.2.up 1) mu.1&&
 ((leL F (mu.1.sub θ) mu.1&&leL F (mu.2.up 1) (mu.2.sub θ))||(leL F ((mu.1.sub θ).up 1) mu.1&&leL F mu.2 (mu.2.sub θ)))
def zbw (S:Nat->Nat->Bool)(nIn:Nat)(f:ASt->Option (List Ee))(a I:ASt)(mu:Mu):Option (List Ee):=
 if zex S a.nx (uD a I) a I&&Nat.blt mu.1.s I.nx&&Nat.blt mu.2.s I.nx then match f I with
  |none=>none
  |some outs=>
   if outs.all (fun q=>match q.1 with
    |.norm=>match LU nIn q.2 with
     |some a'=>zex S a.nx (uD a' I) a' I&&lessM a'.F (dA a.nx (uD a' I)) mu
     |none=>false
    |_=>true) then some (outs.filter fun q=>match q.1 with|.norm=>false|_=>true) else none
 else none
theorem KO {F:List Fact}{θ:Sub}(hF:aV n ρ F)(h:lessM F θ mu=true):1<=mu.1.v ρ-mu.2.v ρ/\mu.1.v (back θ ρ)-mu.2.v (back θ ρ)+1<=mu.1.v ρ-mu.2.v ρ:=by
 unfold lessM at h;simp at h;obtain ⟨q,a⟩:=h;have j:=aO hF q;rw [Lin.jI] at j;rw [<-kP,<-kP];rcases a with ⟨a,f⟩|⟨a,f⟩;·have l:=aO hF a;have m:=aO hF f<;>grind[Lin.jI]
 have l:=aO hF a;have m:=aO hF f<;>grind[Lin.jI]
theorem WR {b:C}{f:ASt->Option (List Ee)}{I:ASt}{τ:St}
  (hf:∀{ρ':Rho} {σ':St} {os:List Ee},GZ Γ x I.nx ρ'->R x.T ρ' I σ'->f I=some os->zy x.T Γ nIn ρ' I σ' b os)
  (hx:GZ Γ x a.nx ρ) (hc:canon nIn τ=some σ) (hr:R x.T ρ a σ) (h:zbw (kle x.T) nIn f a I mu=some outs):zy x.T Γ nIn ρ a τ (.loop b) outs:=by
 unfold zbw at h;split at h
 ·rename_i L;simp only [qab] at L;obtain ⟨⟨h1,h2⟩,h3⟩:=L;split at h;·cases h
  rename_i os ho;split at h
  ·rename_i w;cases h;have W:∀(d:Nat) (ρI:Rho) (σ τ:St),More a.nx ρ I.nx ρI->R x.T ρI I σ->canon nIn τ=some σ->(mu.1.v ρI-mu.2.v ρI).toNat<=d->
     ∃q,q∈os.filter (fun q=>match q.1 with|.norm=>false|_=>true)/\∃ρ' σ',More a.nx ρ q.2.nx ρ'/\R x.T ρ' q.2 σ'/\∃B,∀N,B<=N->∀F,d+1<=F->iter nIn (run (Γ N) nIn N b) F τ=some (q.1,σ'):=by
    intro d;induction d with
    |zero=>
     intro ρI σ τ n Q y hd;obtain ⟨q,A,ρ',σ',m,u,B,V⟩:=hf (hx.more n) Q ho;have l:=qas.1 w q A;obtain ⟨P,a'⟩:=q;cases P with
     |norm=>
      exfalso;dsimp only at l m u;split at l;next H E=>rw [qab] at l;obtain ⟨σ'',c1,M,c3⟩:=yP u E;obtain ⟨e1,e2⟩:=KO M.F l.2;have e3:=m.lin (cZ h2);have e4:=m.lin (cZ h3);omega
      grind
     |exit j=>exact ⟨_,List.mem_filter.2 ⟨A,rfl⟩,ρ',σ',n.trans m,u,B,fun N J F O=>by
       obtain ⟨F',rfl⟩:∃F',F=F'+1:=⟨F-1,by omega⟩
       grind[iter_end]⟩
     |ret=>exact ⟨_,List.mem_filter.2 ⟨A,rfl⟩,ρ',σ',n.trans m,u,B,fun N J F O=>by
       obtain ⟨F',rfl⟩:∃F',F=F'+1:=⟨F-1,by omega⟩
       grind[iter_end]⟩
    |succ d ih=>
     intro ρI σ τ n Q y hd;obtain ⟨q,A,ρ',σ',m,u,B,V⟩:=hf (hx.more n) Q ho;have l:=qas.1 w q A;obtain ⟨P,a'⟩:=q;cases P with
     |norm=>
      dsimp only at l m u V;split at l;next H E=>rw [qab] at l;obtain ⟨σ'',c1,M,c3⟩:=yP u E;obtain ⟨e1,e2⟩:=KO M.F l.2;obtain ⟨r1,r2⟩:=Io (sok x.T) M l.1;have e3:=m.lin (cZ h2);have e4:=m.lin (cZ h3);have S:More a.nx ρ I.nx (back (dA a.nx (uD H I)) ρ'):=⟨n.le,fun s U=>by rw [r2.same s U,m.same s (n.lt U),n.same s U]⟩;obtain ⟨q',Y,ρ2,σ2,Z,p3,B2,p4⟩:=ih _ σ'' σ' S r1 c1 (by omega);refine ⟨q',Y,ρ2,σ2,Z,p3,max B B2,fun N J F O=>?_⟩;obtain ⟨F',rfl⟩:∃F',F=F'+1:=⟨F-1,by omega⟩;exact iter_step y (V N (by omega)) (p4 N (by omega) F' (by omega))
      grind
     |exit j=>exact ⟨_,List.mem_filter.2 ⟨A,rfl⟩,ρ',σ',n.trans m,u,B,fun N J F O=>by
       obtain ⟨F',rfl⟩:∃F',F=F'+1:=⟨F-1,by omega⟩
       grind[iter_end]⟩
     |ret=>exact ⟨_,List.mem_filter.2 ⟨A,rfl⟩,ρ',σ',n.trans m,u,B,fun N J F O=>by
       obtain ⟨F',rfl⟩:∃F',F=F'+1:=⟨F-1,by omega⟩
       grind[iter_end]⟩
   obtain ⟨r1,r2⟩:=Io (sok x.T) hr h1;obtain ⟨q,Y,ρ2,σ2,Z,p3,B,p4⟩:=W _ _ σ τ r2 r1 hc (Nat.le_refl _);exact ⟨q,Y,ρ2,σ2,Z,p3,max B ((mu.1.v (back (dA a.nx (uD a I)) ρ)-mu.2.v (back (dA a.nx (uD a I)) ρ)).toNat+1),fun N J=>by grind[run]⟩
  grind
 grind
def vN (S:Nat->Nat->Bool)(k:Nat)(q p:Ee):Bool:=decide (q.1=p.1)&&zex S k (uD q.2 p.2) q.2 p.2
def thin (S:Nat->Nat->Bool)(k:Nat):List Ee->List Ee
 |[]=>[]
 |q::r=>let t:=thin S k r
  if t.any (vN S k q) then t else q::t.filter (fun p=>!vN S k p q)
theorem zC (hS:SOk T S){q p:Ee}(h:vN S k q p=true)(hr:R T ρ q.2 σ):p.1=q.1/\∃ρ',More k ρ p.2.nx ρ'/\R T ρ' p.2 σ:=by
 unfold vN at h;rw [qab] at h;have a:=Io hS hr h.2
 grind
theorem Pv {S:Nat->Nat->Bool}(hS:SOk T S){k:Nat}:∀{l:List Ee} {q:Ee} {ρ:Rho} {σ:St},q∈l->k<=q.2.nx->R T ρ q.2 σ->∃p,p∈thin S k l/\p.1=q.1/\∃ρ',More k ρ p.2.nx ρ'/\R T ρ' p.2 σ
 |[],_,_,_,h,_,_=>by cases h
 |a::r,q,ρ,σ,h,hk,hr=>by
  have self:∀{q:Ee},k<=q.2.nx->R T ρ q.2 σ->∃ρ',More k ρ q.2.nx ρ'/\R T ρ' q.2 σ:=fun hk hr=>⟨ρ,⟨hk,fun _ _=>rfl⟩,hr⟩;rcases qal.1 h with rfl|h
  ·unfold thin;dsimp only;split;next hs=>obtain ⟨p,hp,hw⟩:=List.any_eq_true.1 hs<;>grind[zC]
   grind
  obtain ⟨p,hp,e,ρ1,m1,r1⟩:=Pv hS h hk hr;unfold thin;dsimp only;split
  ·grind
  cases hw:vN S k p a with
  |true=>obtain ⟨e2,ρ2,m2,r2⟩:=zC hS hw r1;exact ⟨a,qay,e2.trans e,ρ2,⟨m2.le,fun s hs=>(m2.same s hs).trans (m1.same s hs)⟩,r2⟩
  |false=>grind
theorem zy.thin (hS:SOk T S){Γ:Nat->Gam}{c:C}(h:zy T Γ nIn ρ a σ c outs):zy T Γ nIn ρ a σ c (thin S a.nx outs):=by obtain ⟨q,n,ρ',σ',j,u,B,A⟩:=h;obtain ⟨p,m,e,ρ2,l,w⟩:=Pv hS n j.le u;exact ⟨p,m,ρ2,σ',⟨l.le,fun s f=>(l.same s f).trans (j.same s f)⟩,w,B,fun N y=>by grind⟩
def Ec (x:Cx)(orc:Orc)(nIn:Nat):C->Nat->ASt->Option (List Ee)
 |.skip,_,a=>some [(.norm,a)]
 |.reg gh draw l live,base,a=>(zis x base gh draw l live a).map (thin (kle x.T) a.nx)
 |.seq p q,base,a=>match Ec x orc nIn p base a with
  |none=>none
  |some outs=>(kU (outs.map fun o=>match o.1 with
   |.norm=>Ec x orc nIn q base o.2
   |e=>some [(e,o.2)])).map (fun ls=>thin (kle x.T) a.nx (List.flatten ls))
 |.cond c p q,base,a=>match a.ev c with
  |some (.b tf ff)=>
   match (match assume a tf with|some a'=>Ec x orc nIn p base a'|none=>some []),(match assume a ff with|some a'=>Ec x orc nIn q base a'|none=>some []) with
   |some l,some r=>some (thin (kle x.T) a.nx (l++r))
   |_,_=>none
  |_=>none
 |.block id p,base,a=>(Ec x orc nIn p base a).map fun outs=>outs.map fun o=>(match o.1 with|.exit j=>if j==id then .norm else .exit j|e=>e,o.2)
 |.loop p,_,a=>match LU nIn a with
  |none=>none
  |some a'=>match orc p a' with
   |none=>none
   |some (I,mu)=>zbw (kle x.T) nIn (Ec x orc nIn p (Zy I.nx)) a' I mu
 |.exit id,_,a=>some [(.exit id,a)]
 |.ret,_,a=>some [(.ret,a)]
 |_,_,_=>none
theorem ou {x:Cx}{orc:Orc}{nIn:Nat}:∀{c:C} {base:Nat} {ρ:Rho} {a:ASt} {σ:St} {outs:List Ee},GZ Γ x a.nx ρ->R x.T ρ a σ->Ec x orc nIn c base a=some outs->zy x.T Γ nIn ρ a σ c outs
 |.skip,base,ρ,a,σ,outs,hx,hr,h=>by simp [Ec] at h;subst h;exact ⟨_,qaa.2 rfl,ρ,σ,.refl ..,hr,0,fun N _=>rfl⟩
 |.reg gh draw l live,base,ρ,a,σ,outs,hx,hr,h=>by
  simp only [Ec] at h;obtain ⟨os,ho,rfl⟩:=qac.1 h
  grind[zy.thin,sok,zbb]
 |.seq p q,base,ρ,a,σ,outs,hx,hr,h=>by
  simp only [Ec] at h;split at h;·cases h
  rename_i os ho;obtain ⟨ls,hls,rfl⟩:=qac.1 h;refine zy.thin (sok x.T) ?_;obtain ⟨o,hm,ρ1,σ1,k1,k2,B1,k3⟩:=ou hx hr ho;obtain ⟨l,hl,hlm⟩:=dY hls hm;obtain ⟨e,a1⟩:=o;cases e with
  |norm=>dsimp only at hl k1 k2 k3;obtain ⟨w,hw,ρ2,σ2,p1,p2,B2,p3⟩:=ou (hx.more k1) k2 hl;exact ⟨w,List.mem_flatten.2 ⟨l,hlm,hw⟩,ρ2,σ2,k1.trans p1,p2,max B1 B2,fun N hN=>by grind[run]⟩
  |exit j=>dsimp only at hl k1 k2 k3;cases hl;exact ⟨_,List.mem_flatten.2 ⟨_,hlm,qaa.2 rfl⟩,ρ1,σ1,k1,k2,B1,fun N hN=>by grind[run]⟩
  |ret=>dsimp only at hl k1 k2 k3;cases hl;exact ⟨_,List.mem_flatten.2 ⟨_,hlm,qaa.2 rfl⟩,ρ1,σ1,k1,k2,B1,fun N hN=>by grind[run]⟩
 |.cond c p q,base,ρ,a,σ,outs,hx,hr,h=>by
  simp only [Ec] at h;split at h
  ·rename_i tf ff e;obtain ⟨y,hy,gy⟩:=bH hr e;cases gy with
   |b h1 h2=>
    rename_i t;split at h
    ·rename_i l r hl hr';cases h;refine zy.thin (sok x.T) ?_;cases t with
     |true=>obtain ⟨a',e1,e2,e3⟩:=iE hr (h1 rfl);rw [e1] at hl;obtain ⟨w,hw,ρ2,σ2,p1,p2,B,p3⟩:=ou (e3▸hx) e2 hl;exact ⟨w,List.mem_append_left _ hw,ρ2,σ2,e3▸p1,p2,B,fun N hN=>by simp_all[run]⟩
     |false=>obtain ⟨a',e1,e2,e3⟩:=iE hr (h2 rfl);rw [e1] at hr';obtain ⟨w,hw,ρ2,σ2,p1,p2,B,p3⟩:=ou (e3▸hx) e2 hr';exact ⟨w,List.mem_append_right _ hw,ρ2,σ2,e3▸p1,p2,B,fun N hN=>by simp_all[run]⟩
    grind
  grind
 |.block id p,base,ρ,a,σ,outs,hx,hr,h=>by
  simp only [Ec] at h;obtain ⟨os,ho,rfl⟩:=qac.1 h;obtain ⟨o,hm,ρ1,σ1,k1,k2,B,k3⟩:=ou hx hr ho;refine ⟨_,qam.2 ⟨o,hm,rfl⟩,ρ1,σ1,k1,k2,B,fun N hN=>?_⟩
  grind[run]
 |.loop p,base,ρ,a,σ,outs,hx,hr,h=>by
  simp only [Ec] at h;split at h;·cases h
  rename_i a' hc;split at h;·cases h
  rename_i I mu ho;obtain ⟨σ',c1,c2,c3⟩:=yP hr hc;obtain ⟨w,hw,ρ2,σ2,p1,p2,B,p3⟩:=WR (Γ:=Γ) (x:=x) (b:=p) (τ:=σ) (σ:=σ') (fun hx' hr' ho'=>ou hx' hr' ho') (c3▸hx) c1 c2 h;exact ⟨w,hw,ρ2,σ2,c3▸p1,p2,B,p3⟩
 |.exit id,base,ρ,a,σ,outs,hx,hr,h=>by simp [Ec] at h;subst h;exact ⟨_,qaa.2 rfl,ρ,σ,.refl ..,hr,0,fun N _=>rfl⟩
 |.ret,base,ρ,a,σ,outs,hx,hr,h=>by simp [Ec] at h;subst h;exact ⟨_,qaa.2 rfl,ρ,σ,.refl ..,hr,0,fun N _=>rfl⟩
 |.rf _ _ _ _ _,base,ρ,a,σ,outs,hx,hr,h=>by grind[Ec]
 |.stuck,base,ρ,a,σ,outs,hx,hr,h=>by grind[Ec]
end
end Go.Ab
