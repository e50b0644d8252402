/-.-/
import Derived.Test.YtpcjeobkehmhpaaGreatDoorEmU10
set_option linter.unusedSimpArgs false
set_option linter.unusedVariables false
namespace Go.Ab
open Go.Em
variable {a:ASt}{raw:Bool}{θl:List (Nat×Lin)}{bxs:List Bx}{xs:List X}{σ:St}
variable {T:Tab} {n m:Nat} {ρ ρ':Rho}
mutual
def AX.data (F:List Fact)(bx:List ABx)(raw:Bool):AX->Option AX
 |.bs i o l=>match bx[i]?,Xc o l with
  |some (.row sz k h rl),some e=>if leL F e rl then some (.sl (some false) sz k h l) else none
  |_,_=>none
 |.sl t sz k h l=>some (.sl (if raw then t else some false) sz k h l)
 |.agg cs=>(QE F bx raw cs).map .agg
 |.tup cs=>(QE F bx raw cs).map .tup
 |.x (.v v)=>some (.x (.v v))
 |.x .ifc=>some (.x .ifc)
 |.x (.sl t s es)=>some (.x (.sl (raw&&t) s es))
 |.x _=>none
 |.i k l=>some (.i k l)
 |.b t u=>some (.b t u)
 |.s l=>some (.s l)
 |.ptr i e o=>some (.ptr i e o)
 |.dp cs=>some (.dp cs)
 |.fn f cs=>some (.fn f cs)
 |.yl i=>some (.yl i)
 |.mp i=>some (.mp i)
 |.tX=>some .tX
 |.el k h=>some (.el k h)
 |.de k h=>some (.de k h)
def QE (F:List Fact)(bx:List ABx)(raw:Bool):List AX->Option (List AX)
 |[]=>some []
 |x::r=>match x.data F bx raw with
  |none=>none
  |some y=>(QE F bx raw r).map (y::·)
end
theorem zbP {P:Nat->List X->Prop}{t:ET}{x:X}(h:Ap P t x):∃y,x.data bxs raw=some y/\Ap P t y:=by
 unfold Ap at h;split at h;·exact ⟨_,rfl,h⟩
 ·exact ⟨_,rfl,trivial⟩
 ·exact ⟨_,rfl,h⟩
 ·exact ⟨_,rfl,h⟩
 ·exact ⟨_,rfl,trivial⟩
 ·rcases h with rfl|rfl;·exact ⟨_,rfl,.inl rfl⟩
  exact ⟨_,rfl,.inr rfl⟩
 grind
theorem Uf {P:Nat->List X->Prop}{bxs:List Bx}{raw:Bool}:∀{ts:List ET} {xs:List X},ETs P ts xs->∃ys,dZ bxs raw xs=some ys/\ETs P ts ys
 |[],[],_=>⟨[],rfl,trivial⟩
 |t::ts,x::xs,h=>by obtain ⟨y,h1,h2⟩:=zbP (bxs:=bxs) (raw:=raw) h.1;obtain ⟨ys,h3,h4⟩:=Uf (bxs:=bxs) (raw:=raw) h.2;exact ⟨y::ys,by grind[dZ],h2,h4⟩
theorem zoB {T:Tab}{h:Int}{k:Nat}(hd:D T h k xs):∃ys,dZ bxs raw xs=some ys/\D T h k ys:=by
 obtain ⟨h1,alt,ha,hs⟩:=lT hd;obtain ⟨ys,h2,h3⟩:=Uf (bxs:=bxs) (raw:=raw) hs
 grind[dH]
mutual
theorem G.data {F:List Fact}{bx:List ABx}{bxs:List Bx}{raw:Bool}(hF:aX n ρ F)(hb:GBs T n ρ bx bxs)(h0:ρ 0=0):∀{a y:AX} {x:X},G T n ρ a x->a.data F bx raw=some y->∃z,x.data bxs raw=some z/\G T n ρ y z
 |.bs i o l,y,.bs _ o' l',.bs q1 q2 q3 q4,h=>by
  unfold AX.data at h;split at h
  ·rename_i sz k hh rl e hbx ha;split at h
   ·rename_i hc;cases h;have c:=aU hF hc;rw [qg h0 ha] at c;obtain ⟨b,hb',hgb⟩:=hb.get hbx;cases hgb with
    |row w1 w2 w3 w4=>
     rename_i es;have hle:o'+l'<=es.length:=by omega
     refine ⟨.sl false sz ((es.drop o').take l'),by simp_all[X.data,rowOf],.sl w1 q2 rfl ?_ fun w hw=>w4 w (List.mem_of_mem_drop (List.mem_of_mem_take hw))⟩
     grind
   grind
  grind
 |.sl t sz k hh l,y,.sl tt _ es,.sl q1 q2 q3 q4 q5,h=>by
  simp [AX.data] at h;subst h;refine ⟨_,rfl,.sl q1 q2 ?_ q4 q5⟩;cases raw with
  |true=>grind
  |false=>exact rfl
 |.agg cs,y,.agg xs,.agg q,h=>by simp only [AX.data] at h;obtain ⟨ys,h1,rfl⟩:=qac.1 h;obtain ⟨zs,h2,h3⟩:=GL.data hF hb h0 q h1;exact ⟨_,by grind[X.data],.agg h3⟩
 |.tup cs,y,.tup xs,.tup q,h=>by simp only [AX.data] at h;obtain ⟨ys,h1,rfl⟩:=qac.1 h;obtain ⟨zs,h2,h3⟩:=GL.data hF hb h0 q h1;exact ⟨_,by grind[X.data],.tup h3⟩
 |.x (.v v),y,_,.x q,h=>by simp [AX.data] at h;subst h;exact ⟨_,rfl,.x q⟩
 |.x .ifc,y,_,.x q,h=>by simp [AX.data] at h;subst h;exact ⟨_,rfl,.x q⟩
 |.x (.sl t s es),y,_,.x q,h=>by simp [AX.data] at h;subst h;exact ⟨_,rfl,.x rfl⟩
 |.i k l,y,_,.i q1 q2,h=>by simp [AX.data] at h;subst h;exact ⟨_,rfl,.i q1 q2⟩
 |.b t u,y,_,.b q1 q2,h=>by simp [AX.data] at h;subst h;exact ⟨_,rfl,.b q1 q2⟩
 |.s l,y,_,.s q1 q2,h=>by simp [AX.data] at h;subst h;exact ⟨_,rfl,.s q1 q2⟩
 |.ptr i e o,y,_,.ptr q1 q2,h=>by simp [AX.data] at h;subst h;exact ⟨_,rfl,.ptr q1 q2⟩
 |.dp cs,y,_,.dp q,h=>by simp [AX.data] at h;subst h;exact ⟨_,rfl,.dp q⟩
 |.fn f cs,y,_,.fn q,h=>by simp [AX.data] at h;subst h;exact ⟨_,rfl,.fn q⟩
 |.yl i,y,_,.yl,h=>by simp [AX.data] at h;subst h;exact ⟨_,rfl,.yl⟩
 |.mp i,y,_,.mp,h=>by simp [AX.data] at h;subst h;exact ⟨_,rfl,.mp⟩
 |.tX,y,_,.ifc,h=>by simp [AX.data] at h;subst h;exact ⟨_,rfl,.ifc⟩
 |.tX,y,_,.Gl,h=>by simp [AX.data] at h;subst h;exact ⟨_,rfl,.Gl⟩
 |.el k h',y,_,.el (xs:=xs) q1 q2,h=>by simp [AX.data] at h;subst h;obtain ⟨ys,h1,h2⟩:=zoB (bxs:=bxs) (raw:=raw) q2;exact ⟨.agg ys,by grind[X.data],.el q1 h2⟩
 |.de k h',y,_,.de q1 q2,h=>by simp [AX.data] at h;subst h;exact ⟨_,rfl,.de q1 q2⟩
theorem GL.data {F:List Fact}{bx:List ABx}{bxs:List Bx}{raw:Bool}(hF:aX n ρ F)(hb:GBs T n ρ bx bxs)(h0:ρ 0=0):∀{a y:List AX} {x:List X},GL T n ρ a x->QE F bx raw a=some y->∃z,dZ bxs raw x=some z/\GL T n ρ y z
 |[],y,_,.nil,h=>by simp only [QE,qag] at h;subst h;exact ⟨[],rfl,.nil⟩
 |a::l,y,_,.cons g1 g2,h=>by
  unfold QE at h;split at h;·cases h
  rename_i y' h1;obtain ⟨ys,h2,rfl⟩:=qac.1 h;obtain ⟨z,h3,h4⟩:=G.data hF hb h0 g1 h1;obtain ⟨zs,h5,h6⟩:=GL.data hF hb h0 g2 h2;exact ⟨z::zs,by grind[dZ],.cons h4 h6⟩
end
mutual
def AX.rows:AX->List Nat
 |.bs i _ _=>[i]
 |.agg cs=>Iu cs
 |.tup cs=>Iu cs
 |.i _ _|.b _ _|.s _|.x _|.sl _ _ _ _ _|.ptr _ _ _|.dp _|.fn _ _|.yl _|.mp _|.tX|.el _ _|.de _ _=>[]
def Iu:List AX->List Nat
 |[]=>[]
 |x::r=>x.rows++Iu r
end
mutual
theorem LH:∀(x:X),x.refs=[]->x.rows=[]
 |.bs _ _ _,h=>by grind[X.refs]
 |.agg cs,h=>nR cs h
 |.tup cs,h=>nR cs h
 |.v _,_=>rfl
 |.sl _ _ _,_=>rfl
 |.ptr _ _ _,_=>rfl
 |.dp _,_=>rfl
 |.fn _ _,_=>rfl
 |.yl _,_=>rfl
 |.mp _,_=>rfl
 |.ifc,_=>rfl
theorem nR:∀(xs:List X),bZ xs=[]->iQ xs=[]
 |[],_=>rfl
 |x::r,h=>by have h:x.refs++bZ r=[]:=h;obtain ⟨h1,h2⟩:=List.append_eq_nil_iff.1 h;show x.rows++iQ r=[];rw [LH x h1,nR r h2];rfl
end
mutual
theorem G.rows:∀{a:AX} {x:X},G T n ρ a x->x.rows=a.rows
 |_,_,.i _ _=>rfl
 |_,_,.b _ _=>rfl
 |_,_,.s _ _=>rfl
 |_,_,.x h=>LH _ h
 |_,_,.sl _ _ _ _ _=>rfl
 |_,_,.bs _ _ _ _=>rfl
 |_,_,.ptr _ _=>rfl
 |_,_,.dp _=>rfl
 |_,_,.fn _=>rfl
 |_,_,.agg h=>h.rows
 |_,_,.tup h=>h.rows
 |_,_,.yl=>rfl
 |_,_,.mp=>rfl
 |_,_,.ifc=>rfl
 |_,_,.Gl=>rfl
 |_,_,.el _ h=>nR _ (qw h)
 |_,_,.de _ _=>rfl
theorem GL.rows:∀{a:List AX} {x:List X},GL T n ρ a x->iQ x=Iu a
 |_,_,.nil=>rfl
 |_,_,.cons h1 h2=>by show X.rows _++iQ _=AX.rows _++Iu _;rw [h1.rows,h2.rows]
end
mutual
def AX.plain:AX->Bool
 |.i _ _|.b _ _|.s _=>true
 |.x (.v _)=>true
 |.agg cs=>FY cs
 |.tup cs=>FY cs
 |.fn _ cs=>FY cs
 |_=>false
def FY:List AX->Bool
 |[]=>true
 |x::r=>x.plain&&FY r
end
mutual
theorem G.plain:∀{a:AX} {x:X},G T n ρ a x->a.plain=true->x.plain=true
 |_,_,.i _ _,_=>rfl
 |_,_,.b _ _,_=>rfl
 |_,_,.s _ _,_=>rfl
 |.x (.v _),_,.x _,_=>rfl
 |_,_,.fn h,e=>h.plain e
 |_,_,.agg h,e=>h.plain e
 |_,_,.tup h,e=>h.plain e
theorem GL.plain:∀{a:List AX} {x:List X},GL T n ρ a x->FY a=true->yZ x=true
 |_,_,.nil,_=>rfl
 |a::l,x::m,.cons h1 h2,e=>by have e:(a.plain&&FY l)=true:=e;rw [qab] at e;show (x.plain&&yZ m)=true;rw [h1.plain e.1,h2.plain e.2];rfl
end
structure zfq where
 m:Nat
 F:List Fact
 r:AX
 bx:List ABx
 deriving Inhabited
structure Ctr where
 f:FuncId
 m:Nat
 args:List AX
 inb:List ABx
 pre:List Fact
 mu:Option Lin
 outs:List zfq
 rank:Nat
 alts:List (List Fact)
 deriving Inhabited
variable {c:Ctr}
structure Ctr.Sat (T:Tab) (c:Ctr) (ρ:Rho) (args:List X) (inb:List Bx):Prop where
 zero:ρ 0=0
 pos:0<c.m
 pre:aX c.m ρ c.pre
 alts:∃p,p∈c.alts/\aX c.m ρ p
 args:GL T c.m ρ c.args args
 inb:GBs T c.m ρ c.inb inb
def Ctr.Res (T:Tab)(Γ:Nat->Gam)(c:Ctr)(ρ:Rho)(args:List X)(inb:List Bx):Prop:=
 ∃o,o∈c.outs/\∃ρ' r bx,More c.m ρ o.m ρ'/\aX o.m ρ' o.F/\G T o.m ρ' o.r r/\GBs T o.m ρ' o.bx bx/\∃B,∀N,B<=N->Γ N (.fn c.f) args inb=some (r,bx)
def Ctr.Holds (T:Tab)(Γ:Nat->Gam)(c:Ctr):Prop:=∀ρ args inb,c.Sat T ρ args inb->c.Res T Γ ρ args inb
def Ctr.Below (T:Tab)(Γ:Nat->Gam)(c:Ctr)(d:Int):Prop:=∀ρ args inb,c.Sat T ρ args inb->(∃l,c.mu=some l/\0<=l.v ρ/\16*l.v ρ+c.rank<d)->c.Res T Γ ρ args inb
def yJ (l p:Lin)(acc:List (Nat×Lin)):List (Nat×Lin):=
 if Nat.beq p.s 0 then acc else if acc.any (fun q=>Nat.beq q.1 p.s) then acc else (p.s,l.up (-p.c))::acc
mutual
def zfa:AX->AX->List (Nat×Lin)->List (Nat×Lin)
 |.i _ l,.i _ p,acc=>yJ l p acc
 |.s l,.s p,acc=>yJ l p acc
 |.x (.v (.string bs)),.s p,acc=>yJ (.k bs.size) p acc
 |.sl _ _ _ h l,.sl _ _ _ h' l',acc=>yJ h h' (yJ l l' acc)
 |.x (.sl _ _ []),.sl _ _ _ _ l',acc=>yJ (.k 0) l' acc
 |.bs _ o l,.bs _ o' l',acc=>yJ o o' (yJ l l' acc)
 |.ptr _ e _,.ptr _ e' _,acc=>yJ e e' acc
 |.dp cs,.dp ps,acc=>D9 cs ps acc
 |.fn _ cs,.fn _ ps,acc=>D9 cs ps acc
 |.agg cs,.agg ps,acc=>D9 cs ps acc
 |.tup cs,.tup ps,acc=>D9 cs ps acc
 |.el _ h,.el _ h',acc=>yJ h h' acc
 |_,_,acc=>acc
def D9:List AX->List AX->List (Nat×Lin)->List (Nat×Lin)
 |a::l,b::r,acc=>D9 l r (zfa a b acc)
 |_,_,acc=>acc
end
def zrN:ABx->ABx->List (Nat×Lin)->List (Nat×Lin)
 |.var cs,.var ps,acc=>D9 cs ps acc
 |.row _ _ h l,.row _ _ h' l',acc=>yJ h h' (yJ l l' acc)
 |.el _ h,.el _ h',acc=>yJ h h' acc
 |_,_,acc=>acc
def NQ:List ABx->List ABx->List (Nat×Lin)->List (Nat×Lin)
 |a::l,b::r,acc=>NQ l r (zrN a b acc)
 |_,_,acc=>acc
def mV (acc:List (Nat×Lin)):Sub
 |0=>.k 0
 |s+1=>match acc.find? (fun q=>Nat.beq q.1 (s+1)) with
  |some q=>q.2
  |none=>.k 0
theorem zcI {acc:List (Nat×Lin)}(hn:0<n)(h:acc.all (fun q=>blt q.2 n)=true)(s:Nat):(mV acc s).s<n:=by
 cases s with
 |zero=>exact hn
 |succ s=>
  show (match acc.find? (fun q:Nat×Lin=>Nat.beq q.1 (s+1)) with|some q=>q.2|none=>Lin.k 0).s<n;split;next q hq=>exact zbv (qas.1 h q (List.mem_of_find?_eq_some hq))
  exact hn
def leM (c:In):List (Value×AX)->List (Value×AX)->Bool
 |[],[]=>true
 |(.int k z,a)::l,(.int k' z',b)::r=>decide (k=k')&&decide (z=z')&&leX c a b&&leM c l r
 |_,_=>false
def leB (c:In):ABx->ABx->Bool
 |.var cs,.var ps=>zdG c cs ps
 |.row sz k h l,.row sz' k' h' l'=>Nat.beq sz sz'&&Nat.blt h'.s c.m&&lEq c l l'&&(leL c.F l (.k 0)||(c.S k k'&&lLe c h h'))
 |.dead,.dead=>true
 |.map es,.map ps=>leM c es ps
 |.el k h,.el k' h'=>c.S k k'&&lLe c h h'
 |_,_=>false
def znh (c:In):List ABx->List ABx->Bool
 |[],[]=>true
 |a::l,b::r=>leB c a b&&znh c l r
 |_,_=>false
theorem zf6 {c:In}(hS:SOk T c.S)(h0:ρ 0=0)(hF:aX n ρ c.F):∀{a p:List (Value×AX)} {x:List (Value×X)},leM c a p=true->GM T n ρ a x->GM T c.m (back c.θ ρ) p x
 |[],[],_,_,.nil=>.nil
 |(.int k z,a)::l,(.int k' z',b)::r,_,h,.cons h1 h2=>by unfold leM at h;simp at h;obtain ⟨⟨⟨rfl,rfl⟩,e2⟩,e3⟩:=h;exact .cons (SH hS h0 hF e2 h1) (zf6 hS h0 hF e3 h2)
theorem zf7 {c:In}(hS:SOk T c.S)(h0:ρ 0=0)(hF:aX n ρ c.F){a p:ABx}{x:Bx}(h:leB c a p=true)(hg:GB T n ρ a x):GB T c.m (back c.θ ρ) p x:=by
 unfold leB at h;split at h;·cases hg with|var q=>exact .var (uD hS h0 hF h q)
 ·simp only [qab,Bool.or_eq_true] at h;obtain ⟨⟨⟨e2,e3⟩,e4⟩,e5⟩:=h;have e2:=qai e2;subst e2;obtain ⟨h3,h4⟩:=wz hF e4;cases hg with
  |row q1 q2 q4 q5=>
   refine .row (dX e3) h3 (by grind) fun e he=>?_;rcases e5 with e5|⟨e5,e6⟩;·have:=aU hF e5<;>grind[Lin.k_v]
   exact hS e5 (fU (SK hF e6).2 (q5 e he))
 ·cases hg;exact .dead
 ·cases hg with|map q=>exact .map (zf6 hS h0 hF h q)
 ·rw [qab] at h;have e2:=SK hF h.2;cases hg with|el q1 q2=>exact .el e2.1 (hS h.1 (fU e2.2 q2))
 grind
theorem O7 {c:In}(hS:SOk T c.S)(h0:ρ 0=0)(hF:aX n ρ c.F):∀{a p:List ABx} {x:List Bx},znh c a p=true->GBs T n ρ a x->GBs T c.m (back c.θ ρ) p x
 |[],[],_,_,.nil=>.nil
 |a::l,b::r,_,h,.cons h1 h2=>by unfold znh at h;rw [qab] at h;exact .cons (zf7 hS h0 hF h.1 h1) (O7 hS h0 hF h.2 h2)
def okF (a:ASt)(c:Ctr)(θl:List (Nat×Lin))(f:Fact):Bool:=Nat.blt f.x c.m&&Nat.blt f.y c.m&&leL a.F (mV θl f.x) ((mV θl f.y).up f.c)
def zlT (S:Nat->Nat->Bool)(a:ASt)(c:Ctr)(θl:List (Nat×Lin))(args:List AX)(inb:List ABx):Bool:=
 θl.all (fun q=>blt q.2 a.nx)&&Nat.blt 0 c.m&&zdG ⟨S,a.F,mV θl,c.m⟩ args c.args&&znh ⟨S,a.F,mV θl,c.m⟩ inb c.inb&&
  c.pre.all (okF a c θl)&&c.alts.any (fun p=>p.all (okF a c θl))
theorem zaR {S:Nat->Nat->Bool}(hS:SOk T S)(hr:R T ρ a σ){args:List AX}{inb:List ABx}(hg:GL T a.nx ρ args xs)(hb:GBs T a.nx ρ inb bxs)(h:zlT S a c θl args inb=true):c.Sat T (back (mV θl) ρ) xs bxs:=by
 unfold zlT at h;simp only [qab] at h;obtain ⟨⟨⟨⟨⟨h1,h2⟩,h3⟩,h4⟩,h5⟩,h6⟩:=h;have key:∀l:List Fact,l.all (okF a c θl)=true->aX c.m (back (mV θl) ρ) l:=fun l hl f hf=>by have:=qas.1 hl f hf;unfold okF at this;simp only [qab] at this;obtain ⟨⟨e1,e2⟩,e3⟩:=this;have e4:=aU hr.F e3;rw [Lin.mQ] at e4;exact ⟨dX e1,dX e2,e4⟩
 obtain ⟨p,hp,hp2⟩:=List.any_eq_true.1 h6;exact ⟨by unfold back mV;exact Lin.k_v hr.zero 0,dX h2,key _ h5,⟨p,hp,key _ hp2⟩,uD (c:=⟨S,a.F,mV θl,c.m⟩) hS hr.zero hr.F h3 hg,O7 (c:=⟨S,a.F,mV θl,c.m⟩) hS hr.zero hr.F h4 hb⟩
def zlH (nx m:Nat)(θ:Sub):Sub:=fun s=>if Nat.blt s m then θ s else ⟨nx+(s-m),0⟩
def iO (a:ASt)(c:Ctr)(θl:List (Nat×Lin))(o:zfq):AX×List ABx×ASt:=
 let θ:=zlH a.nx c.m (mV θl)
 (o.r.sub θ,o.bx.map (ABx.sub θ),{a with nx:=a.nx+(o.m-c.m),F:=o.F.map (Fact.sub θ)++a.F})
theorem zbw {s m:Nat}:Nat.blt s m=true↔s<m:=by simp_all
theorem NU (hr:R T ρ a σ){o:zfq}{ρo:Rho}{r:X}{bx:List Bx}(hθ:θl.all (fun q=>blt q.2 a.nx)=true)(hm:More c.m (back (mV θl) ρ) o.m ρo)(hF:aX o.m ρo o.F)(hg:G T o.m ρo o.r r)(hb:GBs T o.m ρo o.bx bx):
  ∃ρ',More a.nx ρ (iO a c θl o).2.2.nx ρ'/\R T ρ' (iO a c θl o).2.2 σ/\G T (iO a c θl o).2.2.nx ρ' (iO a c θl o).1 r/\GBs T (iO a c θl o).2.2.nx ρ' (iO a c θl o).2.1 bx:=by
 let ρ':Rho:=fun s=>if s<a.nx then ρ s else ρo (c.m+(s-a.nx))
 have hle:=hm.le;have hmore:More a.nx ρ (a.nx+(o.m-c.m)) ρ':=⟨by omega,fun s hs=>if_pos hs⟩;have hsub:EX o.m ρo (a.nx+(o.m-c.m)) ρ' (zlH a.nx c.m (mV θl)):=fun s hs=>by
  unfold zlH;by_cases hc:s<c.m;·rw [if_pos (zbw.2 hc)];have h1:=zcI hr.pos hθ s;exact ⟨by omega,by rw [hmore.lin h1,hm.same s hc];rfl⟩
  rw [if_neg (fun h=>hc (zbw.1 h))];refine ⟨by grind,?_⟩;unfold Lin.v
  grind
 have h1:=hr.more hmore;exact ⟨ρ',hmore,⟨h1.zero,h1.pos,(hF.sub hsub).append h1.F,h1.tm,h1.bx⟩,hg.sub hsub,hb.sub hsub⟩
end Go.Ab
namespace Go.Ab
open Go.Em
variable {a:ASt}{c:Ctr}{g:FuncId}{i:I}{θl:List (Nat×Lin)}{args:List AX}{outs:List Out}{Uj:List X}{σ:St}
variable {T:Tab} {n m:Nat} {ρ ρ':Rho} {Γ:Nat->Gam}
structure Cx where
 T:Tab
 K:Names
 C:List Ctr
 own:List Ctr
 mu:Option Lin
 rank:Nat
variable {x:Cx}
structure NY (Γ:Nat->Gam) (x:Cx) (n:Nat) (ρ:Rho):Prop where
 all:∀c,c∈x.C->c.Holds x.T Γ
 own:∀l,x.mu=some l->l.s<n/\∀c,c∈x.own->c.Below x.T Γ (16*l.v ρ+x.rank)
theorem NY.more {n':Nat}(h:NY Γ x n ρ)(hm:More n ρ n' ρ'):NY Γ x n' ρ':=
 ⟨h.all,fun l hl=>by obtain ⟨h1,h2⟩:=h.own l hl;exact ⟨hm.lt h1,by rw [hm.lin h1]<;>grind⟩⟩
def znf (x:Cx)(a:ASt)(c:Ctr)(θl:List (Nat×Lin)):Bool:=match x.mu,c.mu with
 |some l,some p=>Nat.blt p.s c.m&&leL a.F (.k 0) (p.sub (mV θl))&&(leL a.F ((p.sub (mV θl)).up 1) l&&Nat.blt c.rank 16||leL a.F (p.sub (mV θl)) l&&Nat.blt c.rank x.rank)
 |_,_=>false
def zeE (x:Cx)(a:ASt)(g:FuncId)(args:List AX)(inb:List ABx):Option (Ctr×List (Nat×Lin)):=
 let cand:=fun c:Ctr=>(c,NQ inb c.inb (D9 args c.args []))
 match (x.C.filter fun c=>Nat.beq c.f g).find? (fun c=>zlT (kle x.T) a c (cand c).2 args inb) with
 |some c=>some (cand c)
 |none=>match (x.own.filter fun c=>Nat.beq c.f g).find? (fun c=>zlT (kle x.T) a c (cand c).2 args inb&&znf x a c (cand c).2) with
  |some c=>some (cand c)
  |none=>none
theorem Tv (hx:NY Γ x a.nx ρ)(hr:R x.T ρ a σ){inb:List ABx}{xs:List X}{bxs:List Bx}(hg:GL x.T a.nx ρ args xs)(hb:GBs x.T a.nx ρ inb bxs)(h:zeE x a g args inb=some (c,θl)):
  c.f=g/\θl.all (fun q=>blt q.2 a.nx)=true/\c.Res x.T Γ (back (mV θl) ρ) xs bxs:=by
 have hall:∀{θl:List (Nat×Lin)},zlT (kle x.T) a c θl args inb=true->θl.all (fun q=>blt q.2 a.nx)=true:=fun h=>by
  unfold zlT at h
  grind
 unfold zeE at h;dsimp only at h;split at h;next c' hc=>cases h;have h1:=List.find?_some hc;have h2:=List.mem_filter.1 (List.mem_of_find?_eq_some hc);exact ⟨qai h2.2,hall h1,hx.all c h2.1 _ _ _ (zaR (sok x.T) hr hg hb h1)⟩
 split at h
 ·rename_i c' hc;cases h;have h1:=List.find?_some hc;have h2:=List.mem_filter.1 (List.mem_of_find?_eq_some hc);rw [qab] at h1;refine ⟨qai h2.2,hall h1.1,?_⟩;have h3:=h1.2;unfold znf at h3;split at h3
  ·rename_i l p hl hp;simp only [qab,Bool.or_eq_true] at h3;obtain ⟨⟨e1,e2⟩,e3⟩:=h3;obtain ⟨k1,k2⟩:=hx.own l hl;have d1:=aU hr.F e2;rw [Lin.k_v hr.zero,oZ] at d1;refine k2 c h2.1 _ _ _ (zaR (sok x.T) hr hg hb h1.1) ⟨p,hp,d1,?_⟩;rcases e3 with ⟨e3,e4⟩|⟨e3,e4⟩;·have d2:=aU hr.F e3;rw [Lin.mQ,oZ] at d2;have:=dX e4;omega
   have d2:=aU hr.F e3;rw [oZ] at d2;have:=dX e4;omega
  grind
 grind
def zlt (T:Tab)(Γ:Nat->Gam)(ρ:Rho)(a:ASt)(σ:St)(i:I)(outs:List Out):Prop:=
 ∃o,o∈outs/\∃ρ' x bx,More a.nx ρ o.2.1.nx ρ'/\R T ρ' o.2.1 ⟨σ.tm,bx⟩/\G T o.2.1.nx ρ' o.1 x/\∃B,∀N,B<=N->aG (Γ N) σ i=some (x,bx,o.2.2)
theorem dR.e (h:dR T ρ a σ i outs):zlt T Γ ρ a σ i outs:=by obtain ⟨o,h1,ρ',x,bx,h2,h3,h4,h5⟩:=h;exact ⟨o,h1,ρ',x,bx,h2,h3,h4,0,fun N _=>h5 _⟩
def zdE (a:ASt)(c:Ctr)(θl:List (Nat×Lin))(o:zfq):Bool:=!(o.F.any fun f=>contra a.F (f.sub (zlH a.nx c.m (mV θl))))
theorem SE {o:zfq}(hr:R T ρ (iO a c θl o).2.2 σ):zdE a c θl o=true:=by
 unfold zdE;rw [Bool.not_eq_true'];cases hc:o.F.any fun f=>contra a.F (f.sub (zlH a.nx c.m (mV θl))) with
 |false=>rfl
 |true=>
  obtain ⟨f,h1,h2⟩:=List.any_eq_true.1 hc;have hF:aX (iO a c θl o).2.2.nx ρ (o.F.map (Fact.sub (zlH a.nx c.m (mV θl)))++a.F):=hr.F;have h3:=aU (ρ:=ρ) (n:=(iO a c θl o).2.2.nx) (F:=a.F) (fun g hg=>hF g (List.mem_append_right _ hg)) h2;have h4:=(hF _ (List.mem_append_left _ (qal.2 ⟨f,h1,rfl⟩))).2.2
  grind[Lin.v]
def zkD (x:Cx)(a:ASt)(g:FuncId)(caps args as:List AX):Option (List Out):=
 match zeE x a g (as++caps) [] with
 |some (c,θl)=>qc ((c.outs.filter (zdE a c θl)).map fun o=>match (iO a c θl o).1.data (iO a c θl o).2.2.F (iO a c θl o).2.1 false with
  |some y=>if y.refs.isEmpty&&((Iu args).isEmpty||y.plain) then some (y,(iO a c θl o).2.2,⟨false,Iu args,[]⟩) else none
  |none=>none)
 |none=>none
theorem ze8 (hx:NY Γ x a.nx ρ)(hr:R x.T ρ a σ){caps as:List AX}{zb5 xas:List X}(hc:GL x.T a.nx ρ caps zb5)(ha:GL x.T a.nx ρ args Uj)(has:GL x.T a.nx ρ as xas)(h:zkD x a g caps args as=some outs):
  ∃o,o∈outs/\∃ρ' y,More a.nx ρ o.2.1.nx ρ'/\R x.T ρ' o.2.1 σ/\G x.T o.2.1.nx ρ' o.1 y/\oh y=true/\((iQ Uj).isEmpty||y.plain)=true/\o.2.2=⟨false,iQ Uj,[]⟩/\∃B,∀N,B<=N->(Γ N).aF g (xas++zb5)=some y:=by
 unfold zkD at h;split at h
 ·rename_i c θl hf;obtain ⟨hcf,hθ,o,ho,ρo,r,bx,h1,h2,h3,h4,B,h5⟩:=Tv hx hr (has.append hc) .nil hf;obtain ⟨ρ',k1,k2,k3,k4⟩:=NU hr hθ h1 h2 h3 h4;obtain ⟨out,hout,hmem⟩:=gZ h (List.mem_filter.2 ⟨ho,SE k2⟩);generalize iO a c θl o=q at k1 k2 k3 k4 hout;obtain ⟨qr,qb,qa⟩:=q;dsimp only at k1 k2 k3 k4 hout;split at hout
  ·rename_i y hy;split at hout
   ·rename_i hc2;cases hout;rw [qab] at hc2;obtain ⟨z,hz,hgz⟩:=k3.data k2.F k4 k2.zero hy;refine ⟨_,hmem,ρ',z,k1,k2,hgz,by unfold oh;rw [hgz.refs]<;>grind,?_,by rw [ha.rows],B,fun N hN=>?_⟩
    ·have e:=hc2.2;rw [Bool.or_eq_true] at e;rw [ha.rows,Bool.or_eq_true];rcases e with e|e
     ·grind
     exact .inr (hgz.plain e)
    grind[Gam.aF]
   grind
  grind
 grind
def tH:List Nat->List ABx->List ABx->List ABx
 |i::r,b::s,bx=>tH r s (bx.set i b)
 |_,_,bx=>bx
theorem Bh:∀{s:List Nat} {l:List ABx} {m:List Bx} {bx:List ABx} {bxs:List Bx},GBs T n ρ l m->GBs T n ρ bx bxs->GBs T n ρ (tH s l bx) (ku s m bxs)
 |[],_,_,_,_,_,hb=>by grind[tH,ku]
 |_::_,_,_,_,_,.nil,hb=>by grind[tH,ku]
 |i::_,_,_,_,_,.cons h1 h2,hb=>by unfold tH ku;exact Bh h2 (hb.set i h1)
theorem FQ:∀(s:List Nat) (l bx:List ABx),(tH s l bx).length=bx.length
 |[],_,_=>by grind[tH]
 |_::_,[],_=>by grind[tH]
 |i::r,b::s,bx=>by unfold tH;rw [FQ,List.length_set]
def ze7 (x:Cx)(a:ASt)(g:FuncId)(args:List AX):Option (List Out):=
 let sel:=tK a.bx iL (qx args) []
 if Oj (qx args) sel then match LY a.bx sel with
  |none=>none
  |some inb=>match zeE x a g (zhB (uO · sel) args) inb with
   |none=>none
   |some (c,θl)=>qc ((c.outs.filter (zdE a c θl)).map fun o=>if sel.length<=(iO a c θl o).2.1.length then
     some (((iO a c θl o).1.ren (fun j=>if j<sel.length then sel.getD j 0 else a.bx.length+(j-sel.length))),
      {(iO a c θl o).2.2 with bx:=tH sel ((iO a c θl o).2.1.map (ABx.ren (fun j=>if j<sel.length then sel.getD j 0 else a.bx.length+(j-sel.length)))) a.bx++((iO a c θl o).2.1.map (ABx.ren (fun j=>if j<sel.length then sel.getD j 0 else a.bx.length+(j-sel.length)))).drop sel.length},
      Ew [] sel a.bx.length (a.bx.length+((iO a c θl o).2.1.length-sel.length))) else none)
 else none
theorem TU (hx:NY Γ x a.nx ρ)(hr:R x.T ρ a σ)(ha:GL x.T a.nx ρ args Uj)(h:ze7 x a g args=some outs):
  ∃o,o∈outs/\∃ρ' y bx sel,More a.nx ρ o.2.1.nx ρ'/\R x.T ρ' o.2.1 ⟨σ.tm,bx⟩/\G x.T o.2.1.nx ρ' o.1 y/\o.2.2=Ew [] sel σ.bx.length bx.length/\∃B,∀N,B<=N->iT (Γ N) (.fn g) Uj σ.bx=some (y,bx,sel):=by
 unfold ze7 at h;dsimp only at h;split at h
 ·rename_i hsub;split at h;·cases h
  rename_i inb hp;obtain ⟨q,hq,hgq⟩:=BG hr.bx hp;split at h;·cases h
  rename_i c θl hf;obtain ⟨hcf,hθ,o,ho,ρo,r,bx,h1,h2,h3,h4,B,h5⟩:=Tv hx hr (ha.ren _) hgq hf;obtain ⟨ρ',k1,k2,k3,k4⟩:=NU hr hθ h1 h2 h3 h4;obtain ⟨out,hout,hmem⟩:=gZ h (List.mem_filter.2 ⟨ho,SE k2⟩);generalize iO a c θl o=w at k1 k2 k3 k4 hout;obtain ⟨qr,qb,qa⟩:=w;dsimp only at k1 k2 k3 k4 hout;split at hout
  ·rename_i hlen;cases hout;have hl:=hr.bx.len;have hlb:=k4.len;rw [hl] at hmem
   let sel:=tK a.bx iL (qx args) []
   let bk:=fun j=>if j<sel.length then sel.getD j 0 else σ.bx.length+(j-sel.length)
   have hb2:=k4.ren bk;refine ⟨_,hmem,ρ',r.ren bk,ku sel (bx.map (Bx.ren bk)) σ.bx++(bx.map (Bx.ren bk)).drop sel.length,sel,k1,⟨k2.zero,k2.pos,k2.F,k2.tm,(Bh hb2 (hr.bx.more k1)).append (hb2.drop _)⟩,k3.ren _,?_,B,fun N hN=>?_⟩
   ·have e1:(ku sel (bx.map (Bx.ren bk)) σ.bx++(bx.map (Bx.ren bk)).drop sel.length).length=σ.bx.length+(qb.length-sel.length):=by have:=((Bh (s:=sel) hb2 (hr.bx.more k1)).append (hb2.drop sel.length)).len;rw [<-this,qau,FQ,qaL,qat,hl]
    rw [e1]
   unfold iT;dsimp only;rw [ha.refs,nX hr.bx,if_pos hsub,hq]
   grind
  grind
 grind
def opC (x:Cx)(a:ASt)(i:I):Option (List Out):=match i with
 |.call own ref raw f args=>match a.ev f,zkm a args with
  |some (.fn g caps),some ys=>if ref then ze7 x a g (ys++caps) else match QE a.F a.bx raw ys with
   |none=>none
   |some as=>if !own&&(qx (as++caps)).isEmpty then zkD x a g caps ys as
    else if (Iu ys).isEmpty then ze7 x a g (as++caps) else none
  |_,_=>none
 |i=>opA x.T x.K a i
theorem zfW (hx:NY Γ x a.nx ρ)(hr:R x.T ρ a σ)(h:opC x a i=some outs):zlt x.T Γ ρ a σ i outs:=by
 unfold opC at h;split at h
 ·rename_i own ref raw f args;split at h
  ·rename_i g caps ys e1 e2;obtain ⟨xf,hf,gf⟩:=cO hr e1;obtain ⟨xs,hxs,gxs⟩:=JK hr e2;cases gf with
   |fn gc=>
    rename_i zb5;split at h;next href=>obtain ⟨o,ho,ρ',y,bx,sel,k1,k2,k3,k4,B,k5⟩:=TU hx hr (gxs.append gc) h;refine ⟨o,ho,ρ',y,bx,k1,k2,k3,B,fun N hN=>?_⟩<;>simp_all[aG,uI]
    rename_i href;have href:ref=false:=by cases ref with|true=>grind|false=>rfl
    subst href;split at h;·cases h
    rename_i as hd;obtain ⟨zs,hz,gz⟩:=gxs.data hr.F hr.bx hr.zero hd;have hrefs:=(gz.append gc).refs;split at h;next hc=>rw [qab] at hc;obtain ⟨o,ho,ρ',y,k1,k2,k3,k4,k5,k6,B,k7⟩:=ze8 hx hr gc gxs gz h;refine ⟨o,ho,ρ',y,σ.bx,k1,k2,k3,B,fun N hN=>?_⟩<;>simp_all[aG,uI]
    rename_i hc;split at h
    ·rename_i hrows;obtain ⟨o,ho,ρ',y,bx,sel,k1,k2,k3,k4,B,k5⟩:=TU hx hr (gz.append gc) h;refine ⟨o,ho,ρ',y,bx,k1,k2,k3,B,fun N hN=>?_⟩;have e3:¬(!own&&!false&&(bZ (zs++zb5)).isEmpty)=true:=by rw [hrefs];simpa using hc
     have e4:(false||(iQ xs).isEmpty)=true:=by rw [gxs.rows,hrows];rfl
     simp_all[aG,uI]
    grind
  grind
 exact (zm9 hr h).e
end Go.Ab
namespace Go.Ab
open Go.Em
variable {a:ASt}{i:I}{outs:List Out}{σ:St}
variable {T:Tab} {n m:Nat} {ρ ρ':Rho} {Γ:Nat->Gam}
def zoP (T:Tab)(k m:Nat):Bool:=(T k).all fun alt=>Nat.beq alt.length m
theorem zbM {P:Nat->List X->Prop}:∀{ts:List ET} {xs:List X},ETs P ts xs->ts.length=xs.length
 |[],[],_=>rfl
 |_::_,_::_,h=>by rw [qaz,qaz,zbM h.2]
theorem O5 {k m:Nat}{h:Int}{xs:List X}(hl:zoP T k m=true)(hd:D T h k xs):xs.length=m:=by obtain ⟨_,alt,ha,hs⟩:=lT hd;rw [<-zbM hs];exact qai (qas.1 hl alt ha)
theorem GBs.zpG:∀{l:List ABx} {m:List Bx} {i:Nat} {a:ABx} {x:Bx},GBs T n ρ l m->m[i]?=some x->GB T n ρ a x->GBs T n ρ (l.set i a) m
 |_,_,i,_,_,.nil,e,_=>by grind
 |_,_,0,_,_,.cons _ h2,e,hx=>by simp at e;subst e;exact .cons hx h2
 |_,_,i+1,_,_,.cons h1 h2,e,hx=>.cons h1 (h2.zpG (by grind) hx)
def X7 (T:Tab)(a:ASt)(m:Option Nat)(i o k:Nat)(h:Lin):Option (List Out):=
 qc ((VI T a k h).map fun q=>(takeA m (q.1.drop o)).map fun y=>(y,{q.2 with bx:=q.2.bx.set i (.var q.1)},⟨false,[i],[]⟩))
def opL (T:Tab)(a:ASt):I->Option (List Out)
 |.yg none sz x j=>match a.ev x,a.ev j with
  |some (.sl _ s k h len),some (.i _ l)=>if Nat.blt 1 (T k).length&&nonneg a.F l&&Nat.beq s sz&&leL a.F (l.up 1) len then some [(.de k h,a,fp0)] else none
  |_,_=>none
 |.load m p=>match a.ev p with
  |some (.de k h)=>match m with
   |some m=>if zoP T k m then some [(.el k h,a,⟨false,[],[]⟩)] else none
   |none=>none
  |some (.ptr i e o)=>match a.bx[i]? with
   |some (.el k h)=>if zbX e then (match m with
    |some w=>if Nat.beq o 0&&zoP T k w then some [(.el k h,a,⟨false,[i],[]⟩)] else X7 T a m i o k h
    |none=>X7 T a m i o k h) else none
   |_=>none
  |_=>none
 |.store m p x=>match a.ev p,a.ev x with
  |some (.ptr i e 0),some (.el k h)=>match a.bx[i]? with
   |some (.var cs)=>if zbX e&&zoP T k m&&Nat.beq cs.length m then some [(Rn,{a with bx:=a.bx.set i (.el k h)},⟨true,[],[i]⟩)] else none
   |_=>none
  |_,_=>none
 |.box x=>match a.ev x with
  |some (.el k h)=>some [(.ptr a.bx.length (.k 0) 0,{a with bx:=a.bx++[.el k h]},⟨true,[],[a.bx.length]⟩)]
  |_=>none
 |_=>none
theorem La {m:Option Nat}{i o k:Nat}{h:Lin}{p:Opd}(hr:R T ρ a σ)(hb:a.bx[i]?=some (.el k h))(hp:σ.ev p=some (.ptr i 0 o))(he:X7 T a m i o k h=some outs):dR T ρ a σ (.load m p) outs:=by
 obtain ⟨b,hb',hg⟩:=hr.bx.get hb;cases hg with
 |el q1 q2=>
  rename_i xs;obtain ⟨q,hq,ρ',m1,m2,m3⟩:=Ai hr q1 q2;obtain ⟨r,hr',hrm⟩:=gZ he hq;obtain ⟨y,hy,rfl⟩:=qac.1 hr';obtain ⟨x,hx,hgx⟩:=zW (m3.drop o) hy;refine ⟨_,hrm,ρ',x,σ.bx,m1,⟨m2.zero,m2.pos,m2.F,m2.tm,m2.bx.zpG hb' (.var m3)⟩,hgx,fun Γ=>?_⟩;have hc:jU σ (.ptr i 0 o)=some (xs.drop o):=by simp only [jU,hb'];rfl
  have:oq σ m (.ptr i 0 o)=some x:=by unfold oq;rw [hc];exact hx
  simp only [aG,hp,this,qao];rfl
theorem zm8 (hr:R T ρ a σ)(h:opL T a i=some outs):dR T ρ a σ i outs:=by
 unfold opL at h;split at h
 ·rename_i sz x j;split at h
  ·rename_i t s k hh len kd l e1 e2;split at h
   ·rename_i hc;cases h;simp only [qab] at hc;obtain ⟨⟨⟨_,c1⟩,c2⟩,c3⟩:=hc;obtain ⟨xv,hx,gx⟩:=cO hr e1;obtain ⟨jv,hj,gj⟩:=cO hr e2;have h0:=jg hr c1;have hj':=C9 gj h0;have zqr:=Int.toNat_of_nonneg h0;generalize (l.v ρ).toNat=w at hj' zqr;have c4:=aU hr.F c3;rw [Lin.mQ] at c4;have c5:=qai c2;subst c5;cases gx with
    |sl q1 q2 q3 q4 q5=>rename_i tt es;obtain ⟨v,hv,hmem⟩:=kP (l:=es) (i:=w) (by omega);exact .one hr (.de q1 (q5 v hmem)) (fun Γ=>by simp only [aG,hx,hj,Option.bind_some,hj',beq_self_eq_true,if_true,hv,qao];rfl)
   grind
  grind
 ·rename_i m p;split at h
  ·rename_i k hh e1;split at h
   ·rename_i w;split at h
    ·rename_i hc;cases h;obtain ⟨xv,hx,gx⟩:=cO hr e1;cases gx with
     |de q1 q2=>
      rename_i xs;have hl:=O5 hc q2;refine .one hr (.el q1 q2) (fun Γ=>?_);have:oq σ (some w) (.dp xs)=some (.agg xs):=by unfold oq jU;dsimp only;rw [<-hl,List.take_length,if_pos (beq_self_eq_true _)]
      simp only [aG,hx,this,qao];rfl
    grind
   grind
  ·rename_i i e o e1;split at h
   ·rename_i k hh hb;split at h
    ·rename_i hz;obtain ⟨xv,hx,gx⟩:=cO hr e1;cases gx with
     |ptr p1 p2=>
      rename_i e';have h0:=rD hz hr.zero;have:e'=0:=by omega
      subst this;split at h
      ·rename_i w;split at h
       ·rename_i hc;cases h;rw [qab] at hc;have ho:=qai hc.1;subst ho;obtain ⟨b,hb',hg⟩:=hr.bx.get hb;cases hg with
        |el q1 q2=>
         rename_i xs;have hl:=O5 hc.2 q2;refine .one hr (.el q1 q2) (fun Γ=>?_);have hcs:jU σ (.ptr i 0 0)=some xs:=by simp only [jU,hb'];rfl
         have:oq σ (some w) (.ptr i 0 0)=some (.agg xs):=by unfold oq;rw [hcs];dsimp only;rw [<-hl,List.take_length,if_pos (beq_self_eq_true _)]
         simp only [aG,hx,this,qao];rfl
       grind[La]
      grind[La]
    grind
   grind
  grind
 ·rename_i m p x;split at h
  ·rename_i i e k hh e1 e2;split at h
   ·rename_i cs hb;split at h
    ·rename_i hc;cases h;simp only [qab] at hc;obtain ⟨⟨c1,c2⟩,c3⟩:=hc;obtain ⟨pv,hp,gp⟩:=cO hr e1;obtain ⟨xv,hx,gx⟩:=cO hr e2;cases gp with
     |ptr p1 p2=>
      rename_i e';have h0:=rD c1 hr.zero;have:e'=0:=by omega
      subst this;cases gx with
      |el q1 q2=>
       rename_i xs;have hl:=O5 c2 q2;obtain ⟨b,hb',hg⟩:=hr.bx.get hb;cases hg with
       |var hg=>
        rename_i ys;have hly:ys.length=xs.length:=by rw [<-hg.len,qai c3,hl]
        refine ⟨_,qaa.2 rfl,ρ,iY,σ.bx.set i (.var xs),.refl ..,⟨hr.zero,hr.pos,hr.F,hr.tm,hr.bx.set i (.el q1 q2)⟩,.x rfl,fun Γ=>?_⟩;have hs:splice ys 0 xs=some xs:=by unfold splice;rw [if_pos (by omega),List.take_zero,List.drop_of_length_le (by omega)];simp
        have:kD σ.bx m (.ptr i 0 0) (.agg xs)=some (σ.bx.set i (.var xs)):=by unfold kD;rw [if_pos (by simp_all[X.ok1,X.cells])];dsimp only;rw [hb'];dsimp only;rw [if_pos (show (0==0)=true from rfl)];show (splice ys 0 xs).map _=_;rw [hs];rfl
        simp only [aG,hp,hx,this,qao];rfl
    grind
   grind
  grind
 ·rename_i x;split at h
  ·rename_i k hh e1;cases h;obtain ⟨xv,hx,gx⟩:=cO hr e1;cases gx with
   |el q1 q2=>
    rename_i xs;refine ⟨_,qaa.2 rfl,ρ,.ptr σ.bx.length 0 0,σ.bx++[.var xs],.refl ..,⟨hr.zero,hr.pos,hr.F,hr.tm,hr.bx.snoc (.el q1 q2)⟩,?_,fun Γ=>?_⟩;·rw [hr.bx.len];exact .ptr hr.pos (Lin.k_v hr.zero 0).symm
    simp only [aG,hx,X.ok1,if_true,X.cells];rw [hr.bx.len]
  grind
 grind
mutual
def zqi:AX->List Lin
 |.sl _ _ _ h _=>[h]
 |.agg cs=>zqj cs
 |.tup cs=>zqj cs
 |_=>[]
def zqj:List AX->List Lin
 |[]=>[]
 |a::r=>zqi a++zqj r
end
def maxes:ASt->List Lin->Lin->Option (Lin×ASt)
 |a,[],h=>some (h,a)
 |a,g::r,h=>if Nat.blt g.s a.nx&&Nat.blt h.s a.nx then (match maxS a h g with|(H,a')=>maxes a' r H) else none
theorem Jd:∀{l:List Lin} {a a':ASt} {σ:St} {h H:Lin} {ρ:Rho},R T ρ a σ->maxes a l h=some (H,a')->∃ρ',More a.nx ρ a'.nx ρ'/\R T ρ' a' σ
 |[],a,a',σ,h,H,ρ,hr,e=>by cases e;exact ⟨ρ,.refl ..,hr⟩
 |g::r,a,a',σ,h,H,ρ,hr,e=>by
  unfold maxes at e;split at e;next hc=>rw [qab] at hc;obtain ⟨ρ1,m1,r1,_⟩:=Zq hr (dX hc.2) (dX hc.1);generalize maxS a h g=q at m1 r1 e;obtain ⟨H1,a1⟩:=q;obtain ⟨ρ2,m2,r2⟩:=Jd r1 e;exact ⟨ρ2,m1.trans m2,r2⟩
  grind
def YT (a:ASt)(i:I):Option ASt:=match i with
 |.store _ p x=>match a.ev p,a.ev x with
  |some (.ptr b _ _),some y=>match a.bx[b]? with
   |some (.row sz k h l)=>match maxes a ((zqi y).map (·.up 1)) h with
    |some (H,a')=>match a'.bx[b]? with
     |some (.row sz' k' h' l')=>if Nat.blt H.s a'.nx&&leL a'.F h' H then some {a' with bx:=a'.bx.set b (.row sz' k' H l')} else none
     |_=>none
    |none=>none
   |_=>none
  |_,_=>none
 |_=>none
theorem YS {a':ASt}(hr:R T ρ a σ)(h:YT a i=some a'):∃ρ',More a.nx ρ a'.nx ρ'/\R T ρ' a' σ:=by
 unfold YT at h;split at h
 ·split at h
  ·split at h
   ·split at h
    ·rename_i H a1 hm;obtain ⟨ρ1,m1,r1⟩:=Jd hr hm;split at h
     ·rename_i sz' k' h' l' hb;split at h
      ·rename_i hc;cases h;rw [qab] at hc;have c1:=dX hc.1;have c2:=aU r1.F hc.2;obtain ⟨b',hb',hg⟩:=r1.bx.get hb;cases hg with
       |row g1 g2 g3 g4=>exact ⟨ρ1,m1,⟨r1.zero,r1.pos,r1.F,r1.tm,r1.bx.zpG hb' (.row c1 g2 g3 fun e he=>fU c2 (g4 e he))⟩⟩
      grind
     grind
    grind
   grind
  grind
 grind
def opX (x:Cx)(a:ASt)(i:I):Option (List Out):=match opL x.T a i with
 |some l=>some l
 |none=>match opC x a i with
  |some l=>some l
  |none=>match YT a i with
   |some a'=>opC x a' i
   |none=>none
theorem zm6 {x:Cx}(hx:NY Γ x a.nx ρ)(hr:R x.T ρ a σ)(h:opX x a i=some outs):zlt x.T Γ ρ a σ i outs:=by
 unfold opX at h;split at h;next l hl=>cases h;exact (zm8 hr hl).e
 split at h
 ·grind[zfW]
 split at h;next a' ha=>obtain ⟨ρ1,m1,r1⟩:=YS hr ha;obtain ⟨o,ho,ρ2,y,bx,m2,r2,g2,B,hB⟩:=zfW (hx.more m1) r1 h;exact ⟨o,ho,ρ2,y,bx,m1.trans m2,r2,g2,B,hB⟩
 grind
end Go.Ab
namespace Go.Ab
open Go.Em
variable {a:ASt}{x:Cx}{i:Ins}{σ:St}
variable {T:Tab} {n m:Nat} {ρ ρ':Rho} {Γ:Nat->Gam}
def setSlot:List (Nat×AX)->Nat->AX->List (Nat×AX)
 |[],_,_=>[]
 |(k,x)::r,s,y=>if k==s then (k,y)::r else (k,x)::setSlot r s y
theorem xu:∀{l:List (Nat×AX)} {m:List (Nat×X)} {s:Nat} {y:AX} {x:X},GT T n ρ l m->lk m s=some x->G T n ρ y x->GT T n ρ (setSlot l s y) m
 |_,_,_,_,_,.nil,_,_=>.nil
 |_,_,s,y,x,.cons (k:=k) g1 g2,h,hg=>by
  unfold lk at h;unfold setSlot;split at h;next hk=>cases h;rw [if_pos hk];exact .cons hg g2
  rename_i hk;rw [if_neg hk];exact .cons g1 (xu g2 h hg)
def zhh (d:Option Nat)(x:AX)(tm:List (Nat×AX)):List (Nat×AX):=match d with
 |none=>tm
 |some d=>(d,x)::tm
theorem RG {d:Option Nat}{y:AX}{x:X}{l:List (Nat×AX)}{m:List (Nat×X)}(h:GT T n ρ l m)(hg:G T n ρ y x):GT T n ρ (zhh d y l) (yT d x m):=by
 cases d with
 |none=>exact h
 |some d=>exact .cons hg h
abbrev zlX:=ASt×FP
variable {outs:List zlX}
def goE (x:Cx)(a:ASt)(i:Ins):Option (List zlX):=(opX x a i.op).map fun outs=>outs.map fun o=>({o.2.1 with tm:=zhh i.dst o.1 o.2.1.tm},o.2.2)
def zhb (a:ASt)(i:Ins):zlX:=({a with tm:=zhh i.dst Rn a.tm},fp0)
def zor (T:Tab)(Γ:Nat->Gam)(ρ:Rho)(a:ASt)(σ:St)(i:Ins)(outs:List zlX):Prop:=
 ∃q,q∈outs/\∃ρ' σ',More a.nx ρ q.1.nx ρ'/\R T ρ' q.1 σ'/\∃B,∀N,B<=N->Em.step (Γ N) i σ=some (σ',q.2)
theorem zgc (hx:NY Γ x a.nx ρ)(hr:R x.T ρ a σ)(h:goE x a i=some outs):∃q,q∈outs/\∃ρ' σ',More a.nx ρ q.1.nx ρ'/\R x.T ρ' q.1 σ'/\∃B,∀N,B<=N->qC (Γ N) i σ=some (σ',q.2):=by obtain ⟨os,ho,rfl⟩:=qac.1 h;obtain ⟨o,hm,ρ',y,bx,k1,k2,k3,B,k4⟩:=zm6 hx hr ho;exact ⟨_,qal.2 ⟨o,hm,rfl⟩,ρ',⟨yT i.dst y σ.tm,bx⟩,k1,⟨k2.zero,k2.pos,k2.F,RG k2.tm k3,k2.bx⟩,B,fun N hN=>by grind[qC]⟩
theorem RD (hr:R T ρ a σ):R T ρ (zhb a i).1 ⟨yT i.dst iY σ.tm,σ.bx⟩:=⟨hr.zero,hr.pos,hr.F,RG hr.tm (.x rfl),hr.bx⟩
def zg4 (x:Cx)(a:ASt)(i:Ins):Option (List zlX):=match i.g with
 |none=>goE x a i
 |some (s,want)=>match lkA a.tm s with
  |some (.b tf ff)=>
   match (match assume a (if want then tf else ff) with
    |some a'=>goE x {a' with tm:=setSlot a'.tm s (cb want)} i
    |none=>some []) with
   |none=>none
   |some l=>some (l++match assume a (if want then ff else tf) with
    |some a'=>[zhb {a' with tm:=setSlot a'.tm s (cb (!want))} i]
    |none=>[])
  |some (.x (.v (.tuple _)))=>some [zhb a i]
  |_=>none
theorem zcN (hx:NY Γ x a.nx ρ)(hr:R x.T ρ a σ)(h:zg4 x a i=some outs):zor x.T Γ ρ a σ i outs:=by
 unfold zg4 at h;split at h;next hg=>obtain ⟨q,h1,ρ',σ',k1,k2,B,k3⟩:=zgc hx hr h;exact ⟨q,h1,ρ',σ',k1,k2,B,fun N hN=>by grind[Em.step]⟩
 rename_i s want hg;split at h
 ·rename_i tf ff hl;obtain ⟨y,hy,gy⟩:=jr hr.tm hl;cases gy with
  |b h1 h2=>
   rename_i t;split at h;·cases h
   rename_i l hgo;cases h;by_cases hw:t=want
   ·subst hw;have hf:aX a.nx ρ (if t then tf else ff):=by
     cases t with
     |true=>grind
     |false=>grind
    obtain ⟨a',e1,e2,e3⟩:=jY hr hf;rw [e1] at hgo;have hr2:R x.T ρ {a' with tm:=setSlot a'.tm s (cb t)} σ:=⟨e2.zero,e2.pos,e2.F,xu e2.tm hy (zU t),e2.bx⟩;have hx2:NY Γ x a'.nx ρ:=by rw [e3];exact hx
    obtain ⟨q,p1,ρ',σ',k1,k2,B,k3⟩:=zgc (a:={a' with tm:=setSlot a'.tm s (cb t)}) hx2 hr2 hgo;refine ⟨q,List.mem_append_left _ p1,ρ',σ',⟨by have h9:a'.nx<=q.1.nx:=k1.le;omega,fun u hu=>k1.same u (by show u<a'.nx;omega)⟩,k2,B,fun N hN=>?_⟩<;>simp_all[Em.step]
   have hf:aX a.nx ρ (if want then ff else tf):=by
    cases want with
    |true=>grind
    |false=>grind
   obtain ⟨a',e1,e2,e3⟩:=jY hr hf;have ht:t=!want:=by cases t<;>cases want<;>first|rfl|grind
   have hr2:R x.T ρ {a' with tm:=setSlot a'.tm s (cb (!want))} σ:=⟨e2.zero,e2.pos,e2.F,xu e2.tm hy (ht▸zU t),e2.bx⟩;refine ⟨_,List.mem_append_right _ (by rw [e1];exact qaa.2 rfl),ρ,_,⟨by show a.nx<=a'.nx;omega,fun _ _=>rfl⟩,RD hr2,0,fun N _=>?_⟩;unfold Em.step;rw [hg];dsimp only;rw [hy];dsimp only;rw [if_neg (by grind)];rfl
 next v hl=>cases h;obtain ⟨y,hy,gy⟩:=jr hr.tm hl;cases gy;refine ⟨_,qaa.2 rfl,ρ,_,.refl ..,RD hr,0,fun N _=>?_⟩;unfold Em.step;rw [hg];dsimp only;rw [hy];rfl
 grind
abbrev zsy:=ASt×List FP
def KX (x:Cx):List Ins->ASt->Option (List zsy)
 |[],a=>some [(a,[])]
 |i::r,a=>match zg4 x a i with
  |none=>none
  |some outs=>(qc (outs.map fun q=>(KX x r q.1).map fun l=>l.map fun w=>((w.1,q.2::w.2):zsy))).map List.flatten
theorem KW {x:Cx}:∀{l:List Ins} {ρ:Rho} {a:ASt} {σ:St} {outs:List zsy},NY Γ x a.nx ρ->R x.T ρ a σ->KX x l a=some outs->
  ∃q,q∈outs/\∃ρ' σ',More a.nx ρ q.1.nx ρ'/\R x.T ρ' q.1 σ'/\∃B,∀N,B<=N->steps (Γ N) l σ=some (σ',q.2)
 |[],ρ,a,σ,outs,hx,hr,h=>by simp [KX] at h;subst h;exact ⟨_,qaa.2 rfl,ρ,σ,.refl ..,hr,0,fun N _=>rfl⟩
 |i::r,ρ,a,σ,outs,hx,hr,h=>by
  unfold KX at h;split at h;·cases h
  rename_i os ho;obtain ⟨ls,hls,rfl⟩:=qac.1 h;obtain ⟨q,hq,ρ1,σ1,k1,k2,B1,k3⟩:=zcN hx hr ho;obtain ⟨l,hl,hlm⟩:=gZ hls hq;obtain ⟨l',hl',rfl⟩:=qac.1 hl;obtain ⟨w,hw,ρ2,σ2,p1,p2,B2,p3⟩:=KW (hx.more k1) k2 hl';refine ⟨_,List.mem_flatten.2 ⟨_,hlm,qal.2 ⟨w,hw,rfl⟩⟩,ρ2,σ2,k1.trans p1,p2,max B1 B2,fun N hN=>?_⟩
  grind[steps]
def keepA (live:List Nat)(tm:List (Nat×AX)):List (Nat×AX):=live.filterMap fun k=>(lkA tm k).map fun x=>(k,x)
theorem SN {l:List (Nat×AX)}{m:List (Nat×X)}(h:GT T n ρ l m):∀(live:List Nat),GT T n ρ (keepA live l) (keep live m)
 |[]=>.nil
 |k::r=>by
  have ih:=SN h r;unfold keepA keep at ih ⊢;cases hl:lkA l k with
  |none=>grind[sG]
  |some y=>obtain ⟨x,hx,hg⟩:=jr h hl;rw [List.filterMap_cons_some (b:=(k,y)) (by grind),List.filterMap_cons_some (b:=(k,x)) (by grind)];exact .cons hg ih
def Xl (l:Lin)(acc:Nat):Nat:=Nat.lor acc (Nat.shiftLeft 1 l.s)
def zrM:List Fact->Nat->Nat
 |[],acc=>acc
 |f::r,acc=>zrM r (Nat.lor (Nat.lor acc (Nat.shiftLeft 1 f.x)) (Nat.shiftLeft 1 f.y))
mutual
def zph:AX->Nat->Nat
 |.i _ l,acc=>Xl l acc
 |.b t u,acc=>zrM t (zrM u acc)
 |.s l,acc=>Xl l acc
 |.sl _ _ _ h l,acc=>Xl h (Xl l acc)
 |.bs _ o l,acc=>Xl o (Xl l acc)
 |.ptr _ e _,acc=>Xl e acc
 |.dp cs,acc=>WH cs acc
 |.fn _ cs,acc=>WH cs acc
 |.agg cs,acc=>WH cs acc
 |.tup cs,acc=>WH cs acc
 |.el _ h,acc=>Xl h acc
 |.de _ h,acc=>Xl h acc
 |_,acc=>acc
def WH:List AX->Nat->Nat
 |[],acc=>acc
 |a::r,acc=>WH r (zph a acc)
end
def zkG:List ABx->Nat->Nat
 |[],acc=>acc
 |.var cs::r,acc=>zkG r (WH cs acc)
 |.row _ _ h l::r,acc=>zkG r (Xl h (Xl l acc))
 |.loop _ _ tm _ _ _::r,acc=>zkG r (tm.foldl (fun c q=>zph q.2 c) acc)
 |.map es::r,acc=>zkG r (es.foldl (fun c q=>zph q.2 c) acc)
 |.dead::r,acc=>zkG r acc
 |.el _ h::r,acc=>zkG r (Xl h acc)
def through (u:Nat)(F:List Fact):List Fact:=F.flatMap fun f=>if u.testBit f.x&&!u.testBit f.y then
 F.filterMap fun g=>if Nat.beq f.y g.x&&u.testBit g.y&&!Nat.beq f.x g.y then some ⟨f.x,g.y,f.c+g.c⟩ else none else []
theorem Us {n u:Nat}{F:List Fact}(h:aX n ρ F):aX n ρ (through u F):=fun k hk=>by
 obtain ⟨f,hf,hk⟩:=List.mem_flatMap.1 hk;split at hk
 ·obtain ⟨g,hg,hk⟩:=List.mem_filterMap.1 hk;split at hk;next hc=>simp only [qab] at hc;have e:=qai hc.1.1;cases hk;obtain ⟨f1,f2,f3⟩:=h f hf;obtain ⟨g1,g2,g3⟩:=h g hg;refine ⟨f1,g2,?_⟩<;>grind
  grind
 grind
def prune (base:Nat)(a:ASt):ASt:=
 let u:=zkG a.bx (a.tm.foldl (fun c q=>zph q.2 c) base)
 {a with F:=(a.F.filter fun f=>u.testBit f.x&&u.testBit f.y)++through u a.F}
theorem zdg {base:Nat}(hr:R T ρ a σ):R T ρ (prune base a) σ:=⟨hr.zero,hr.pos,fun f hf=>(qaK.1 hf).elim (fun hf=>hr.F f (List.mem_filter.1 hf).1) (fun hf=>Us hr.F f hf),hr.tm,hr.bx⟩
end Go.Ab
namespace Go.Ab
open Go.Em
variable {a:ABx}{x:Bx}
variable {T:Tab} {n m:Nat} {ρ ρ':Rho} {Γ:Nat->Gam}
def tight (F:List Fact):AX->Option (Option Nat)
 |.x (.sl true sz [])=>some (some sz)
 |.sl (some false) _ _ _ _=>some none
 |.sl (some true) sz _ _ l=>if leL F l (.k 0) then some (some sz) else if leL F (.k 1) l then some none else none
 |.sl none _ _ _ l=>if leL F (.k 1) l then some none else none
 |_=>some none
theorem Ru {F:List Fact}(h0:ρ 0=0)(hF:aX n ρ F){y:AX}{x:X}(hg:G T n ρ y x):(∀sz,tight F y=some (some sz)->x=.sl true sz [])/\(tight F y=some none->∀sz,x≠.sl true sz []):=by
 have len1:∀{l:Lin} {es:qaY},(es.length:Int)=l.v ρ->leL F (.k 1) l=true->es≠[]:=fun {l es} h1 h2 e=>by have:=aU hF h2<;>grind[Lin.k_v]
 unfold tight;split;·cases hg<;>grind
 ·cases hg<;>grind[Dt]
 ·rename_i sz k hh l;cases hg with
  |sl q1 q2 q3 q4 q5=>
   have:=q3;unfold Dt at this;subst this;split;next hc=>have c:=aU hF hc;rw [Lin.k_v h0] at c;rename_i es;have:es=[]:=qaM (by omega)<;>grind
   grind
 ·cases hg<;>grind
 rename_i h1 h2 h3 h4;refine ⟨fun sz h=>(by cases h),fun _ sz e=>?_⟩;subst e;cases hg with
 |x _=>grind
 |sl q1 q2 q3 q4 q5=>
  rename_i t k hh l;cases t with
  |none=>grind
  |some b=>cases b with
   |false=>grind
   |true=>grind
def JM (sz:Nat):ABx:=.row sz 0 (.k 0) (.k 0)
theorem Dy (h0:ρ 0=0)(hn:0<n)(sz:Nat):GB T n ρ (JM sz) (.row sz []):=.row hn hn (by grind[Lin.k_v]) (fun e he=>by grind)
mutual
def AX.within (F:List Fact)(i:Nat)(rl:Lin):AX->Bool
 |.bs j o l=>if Nat.beq j i then (match Xc o l with|some e=>leL F e rl|none=>false) else true
 |.agg cs=>jw F i rl cs
 |.tup cs=>jw F i rl cs
 |.fn _ cs=>jw F i rl cs
 |_=>true
def jw (F:List Fact)(i:Nat)(rl:Lin):List AX->Bool
 |[]=>true
 |x::r=>x.within F i rl&&jw F i rl r
end
mutual
def AX.frz (i sz k:Nat)(h:Lin):AX->AX
 |.bs j o l=>if j==i then .sl (some false) sz k h l else .bs j o l
 |.agg cs=>.agg (V5 i sz k h cs)
 |.tup cs=>.tup (V5 i sz k h cs)
 |.fn g cs=>.fn g (V5 i sz k h cs)
 |.i k l=>.i k l
 |.b t u=>.b t u
 |.s l=>.s l
 |.x x=>.x x
 |.sl t sz k h l=>.sl t sz k h l
 |.ptr i e o=>.ptr i e o
 |.dp cs=>.dp cs
 |.yl i=>.yl i
 |.mp i=>.mp i
 |.tX=>.tX
 |.el k h=>.el k h
 |.de k h=>.de k h
def V5 (i sz k:Nat)(h:Lin):List AX->List AX
 |[]=>[]
 |x::r=>x.frz i sz k h::V5 i sz k h r
end
mutual
theorem Ar (i c:Nat):∀(x:X),x.refs=[]->x.within i c=true
 |.bs _ _ _,h=>by grind[X.refs]
 |.agg cs,h=>iU i c cs h
 |.tup cs,h=>iU i c cs h
 |.fn _ cs,h=>iU i c cs h
 |.v _,_=>rfl
 |.sl _ _ _,_=>rfl
 |.ptr _ _ _,_=>rfl
 |.dp _,_=>rfl
 |.yl _,_=>rfl
 |.mp _,_=>rfl
 |.ifc,_=>rfl
theorem iU (i c:Nat):∀(xs:List X),bZ xs=[]->iI i c xs=true
 |[],_=>rfl
 |x::r,h=>by have h:x.refs++bZ r=[]:=h;obtain ⟨h1,h2⟩:=List.append_eq_nil_iff.1 h;show (x.within i c&&iI i c r)=true;rw [Ar i c x h1,iU i c r h2];rfl
end
mutual
theorem JC (i sz:Nat)(es:qaY):∀(x:X),x.refs=[]->x.frz i sz es=x
 |.bs _ _ _,h=>by grind[X.refs]
 |.agg cs,h=>by show X.agg (Tn i sz es cs)=_;rw [rF i sz es cs h]
 |.tup cs,h=>by show X.tup (Tn i sz es cs)=_;rw [rF i sz es cs h]
 |.fn g cs,h=>by show X.fn g (Tn i sz es cs)=_;rw [rF i sz es cs h]
 |.v _,_=>rfl
 |.sl _ _ _,_=>rfl
 |.ptr _ _ _,_=>rfl
 |.dp _,_=>rfl
 |.yl _,_=>rfl
 |.mp _,_=>rfl
 |.ifc,_=>rfl
theorem rF (i sz:Nat)(es:qaY):∀(xs:List X),bZ xs=[]->Tn i sz es xs=xs
 |[],_=>rfl
 |x::r,h=>by have h:x.refs++bZ r=[]:=h;obtain ⟨h1,h2⟩:=List.append_eq_nil_iff.1 h;show x.frz i sz es::Tn i sz es r=_;rw [JC i sz es x h1,rF i sz es r h2]
end
section
variable {F:List Fact} {i sz k:Nat} {hh rl:Lin} {es:qaY}
mutual
theorem G.within (h0:ρ 0=0)(hF:aX n ρ F)(hl:(es.length:Int)=rl.v ρ):∀{a:AX} {x:X},G T n ρ a x->a.within F i rl=true->x.within i es.length=true
 |.bs j o l,.bs _ o' l',.bs q1 q2 q3 q4,h=>by
  unfold AX.within at h;unfold X.within;split at h
  ·rename_i hj;have hj:=qai hj;subst hj;split at h
   ·rename_i e he;have c:=aU hF h;rw [qg h0 he] at c
    grind
   grind
  simp_all
 |_,_,.agg q,h=>GL.within h0 hF hl q h
 |_,_,.tup q,h=>GL.within h0 hF hl q h
 |_,_,.fn q,h=>GL.within h0 hF hl q h
 |_,_,.x q,_=>Ar _ _ _ q
 |_,_,.i _ _,_=>rfl
 |_,_,.b _ _,_=>rfl
 |_,_,.s _ _,_=>rfl
 |_,_,.sl _ _ _ _ _,_=>rfl
 |_,_,.ptr _ _,_=>rfl
 |_,_,.dp _,_=>rfl
 |_,_,.yl,_=>rfl
 |_,_,.mp,_=>rfl
 |_,_,.ifc,_=>rfl
 |_,_,.Gl,_=>rfl
 |_,_,.el _ h,_=>iU _ _ _ (qw h)
 |_,_,.de _ _,_=>rfl
theorem GL.within (h0:ρ 0=0)(hF:aX n ρ F)(hl:(es.length:Int)=rl.v ρ):∀{a:List AX} {x:List X},GL T n ρ a x->jw F i rl a=true->iI i es.length x=true
 |_,_,.nil,_=>rfl
 |a::l,x::m,.cons g1 g2,h=>by have h:(a.within F i rl&&jw F i rl l)=true:=h;rw [qab] at h;show (x.within i es.length&&iI i es.length m)=true;rw [G.within h0 hF hl g1 h.1,GL.within h0 hF hl g2 h.2];rfl
end
mutual
theorem G.frz (h0:ρ 0=0)(hF:aX n ρ F)(hk:hh.s<n)(hl:(es.length:Int)=rl.v ρ)(hd:∀e,e∈es->D T (hh.v ρ) k e):∀{a:AX} {x:X},G T n ρ a x->a.within F i rl=true->G T n ρ (a.frz i sz k hh) (x.frz i sz es)
 |.bs j o l,.bs _ o' l',.bs q1 q2 q3 q4,h=>by
  have hw:=G.within (T:=T) (i:=i) h0 hF hl (G.bs q1 q2 q3 q4) h;unfold X.within at hw;unfold AX.frz X.frz;cases hj:(j==i) with
  |true=>
   rw [hj] at hw;simp at hw;simp;refine .sl hk q2 rfl ?_ fun e he=>hd e (List.mem_of_mem_drop (List.mem_of_mem_take he))
   grind
  |false=>simp;exact .bs q1 q2 q3 q4
 |_,_,.agg q,h=>.agg (GL.frz h0 hF hk hl hd q h)
 |_,_,.tup q,h=>.tup (GL.frz h0 hF hk hl hd q h)
 |_,_,.fn q,h=>.fn (GL.frz h0 hF hk hl hd q h)
 |.x y,_,.x q,_=>by show G T n ρ (.x y) (X.frz i sz es y);rw [JC i sz es y q];exact .x q
 |_,_,.i q1 q2,_=>.i q1 q2
 |_,_,.b q1 q2,_=>.b q1 q2
 |_,_,.s q1 q2,_=>.s q1 q2
 |_,_,.sl q1 q2 q3 q4 q5,_=>.sl q1 q2 q3 q4 q5
 |_,_,.ptr q1 q2,_=>.ptr q1 q2
 |_,_,.dp q,_=>.dp q
 |_,_,.yl,_=>.yl
 |_,_,.mp,_=>.mp
 |_,_,.ifc,_=>.ifc
 |_,_,.Gl,_=>.Gl
 |_,_,.el (xs:=xs) q1 q2,_=>by show G T n ρ _ (X.frz i sz es (.agg xs));rw [JC i sz es (.agg xs) (qw q2)];exact .el q1 q2
 |_,_,.de q1 q2,_=>.de q1 q2
theorem GL.frz (h0:ρ 0=0)(hF:aX n ρ F)(hk:hh.s<n)(hl:(es.length:Int)=rl.v ρ)(hd:∀e,e∈es->D T (hh.v ρ) k e):∀{a:List AX} {x:List X},GL T n ρ a x->jw F i rl a=true->GL T n ρ (V5 i sz k hh a) (Tn i sz es x)
 |_,_,.nil,_=>.nil
 |a::l,x::m,.cons g1 g2,h=>by have h:(a.within F i rl&&jw F i rl l)=true:=h;rw [qab] at h;exact .cons (G.frz h0 hF hk hl hd g1 h.1) (GL.frz h0 hF hk hl hd g2 h.2)
end
def zkd (i sz k:Nat)(h:Lin)(tm:List (Nat×AX)):List (Nat×AX):=tm.map fun p=>(p.1,p.2.frz i sz k h)
theorem GT.frz (h0:ρ 0=0)(hF:aX n ρ F)(hk:hh.s<n)(hl:(es.length:Int)=rl.v ρ)(hd:∀e,e∈es->D T (hh.v ρ) k e):∀{a:List (Nat×AX)} {x:List (Nat×X)},GT T n ρ a x->jw F i rl (a.map (·.2))=true->GT T n ρ (zkd i sz k hh a) (zlS i sz es x)
 |_,_,.nil,_=>.nil
 |(q,a)::l,_,.cons g1 g2,h=>by have h:(a.within F i rl&&jw F i rl (l.map (·.2)))=true:=h;rw [qab] at h;exact .cons (G.frz h0 hF hk hl hd g1 h.1) (GT.frz h0 hF hk hl hd g2 h.2)
def ABx.within (F:List Fact)(i:Nat)(rl:Lin):ABx->Bool
 |.var cs=>jw F i rl cs
 |.loop _ _ tm _ _ _=>jw F i rl (tm.map (·.2))
 |_=>true
def ABx.frz (i sz k:Nat)(h:Lin):ABx->ABx
 |.var cs=>.var (V5 i sz k h cs)
 |.loop st p tm ps a b=>.loop st p (zkd i sz k h tm) ps a b
 |.row s k h l=>.row s k h l
 |.map es=>.map es
 |.dead=>.dead
 |.el k h=>.el k h
theorem GB.within (h0:ρ 0=0)(hF:aX n ρ F)(hl:(es.length:Int)=rl.v ρ)(g:GB T n ρ a x)(h:a.within F i rl=true):x.within i es.length=true:=by
 cases g with
 |var q=>exact q.within h0 hF hl h
 |loop q=>exact q.vals.within h0 hF hl h
 |row _ _ _ _=>rfl
 |map _=>rfl
 |dead=>rfl
 |el _ q=>exact iU _ _ _ (qw q)
theorem GB.frz (h0:ρ 0=0)(hF:aX n ρ F)(hk:hh.s<n)(hl:(es.length:Int)=rl.v ρ)(hd:∀e,e∈es->D T (hh.v ρ) k e)(g:GB T n ρ a x)(h:a.within F i rl=true):GB T n ρ (a.frz i sz k hh) (x.frz i sz es):=by
 cases g with
 |var q=>exact .var (q.frz h0 hF hk hl hd h)
 |loop q=>exact .loop (q.frz h0 hF hk hl hd h)
 |row q1 q2 q3 q4=>exact .row q1 q2 q3 q4
 |map q=>exact .map q
 |dead=>exact .dead
 |el q1 q2=>rename_i xs;show GB T n ρ _ (Bx.var (Tn i sz es xs));rw [rF i sz es xs (qw q2)];exact .el q1 q2
theorem GBs.within (h0:ρ 0=0)(hF:aX n ρ F)(hl:(es.length:Int)=rl.v ρ):∀{a:List ABx} {x:List Bx},GBs T n ρ a x->a.all (ABx.within F i rl)=true->x.all (Bx.within i es.length)=true
 |_,_,.nil,_=>rfl
 |_,_,.cons g1 g2,h=>by rw [List.all_cons,qab] at h;rw [List.all_cons,g1.within h0 hF hl h.1,g2.within h0 hF hl h.2];rfl
theorem GBs.frz (h0:ρ 0=0)(hF:aX n ρ F)(hk:hh.s<n)(hl:(es.length:Int)=rl.v ρ)(hd:∀e,e∈es->D T (hh.v ρ) k e):∀{a:List ABx} {x:List Bx},GBs T n ρ a x->a.all (ABx.within F i rl)=true->GBs T n ρ (a.map (ABx.frz i sz k hh)) (x.map (Bx.frz i sz es))
 |_,_,.nil,_=>.nil
 |_,_,.cons g1 g2,h=>by rw [List.all_cons,qab] at h;exact .cons (g1.frz h0 hF hk hl hd h.1) (g2.frz h0 hF hk hl hd h.2)
end
def yC (i:Nat)(a:ASt):Option ASt:=match a.bx[i]? with
 |some (.row sz k h rl)=>if jw a.F i rl (a.tm.map (·.2))&&a.bx.all (ABx.within a.F i rl) then
   some {a with tm:=zkd i sz k h a.tm,bx:=(a.bx.map (ABx.frz i sz k h)).set i .dead} else none
 |_=>none
theorem yB {a a':ASt}{σ:St}{i:Nat}(hr:R T ρ a σ)(h:yC i a=some a'):∃σ',Em.freeze i σ=some σ'/\R T ρ a' σ'/\a'.nx=a.nx:=by
 unfold yC at h;split at h
 ·rename_i sz k hh rl hb;split at h
  ·rename_i hc;cases h;rw [qab] at hc;obtain ⟨b,hb',hgb⟩:=hr.bx.get hb;cases hgb with
   |row w1 w2 w3 w4=>rename_i es;refine ⟨⟨zlS i sz es σ.tm,(σ.bx.map (Bx.frz i sz es)).set i .dead⟩,?_,⟨hr.zero,hr.pos,hr.F,hr.tm.frz hr.zero hr.F w1 w3 w4 hc.1,(hr.bx.frz hr.zero hr.F w1 w3 w4 hc.2).set i .dead⟩,rfl⟩;unfold Em.freeze;rw [hb'];dsimp only;rw [if_pos];unfold RJ;rw [hr.tm.vals.within hr.zero hr.F w3 hc.1,hr.bx.within hr.zero hr.F w3 hc.2];rfl
  grind
 grind
def pU:List Nat->ASt->Option ASt
 |[],a=>some a
 |i::r,a=>match a.bx[i]? with
  |some (.row _ _ _ _)=>(yC i a).bind (pU r)
  |some _=>pU r a
  |none=>none
theorem gX:∀{l:List Nat} {a a':ASt} {σ:St},R T ρ a σ->pU l a=some a'->∃σ',Em.freezes l σ=some σ'/\R T ρ a' σ'/\a'.nx=a.nx
 |[],a,a',σ,hr,h=>by simp [pU] at h;subst h;exact ⟨σ,rfl,hr,rfl⟩
 |i::r,a,a',σ,hr,h=>by
  unfold pU at h;unfold Em.freezes;split at h
  ·rename_i hb;obtain ⟨b,hb',hgb⟩:=hr.bx.get hb;cases hgb with
   |row _ _ _ _=>
    rw [hb'];dsimp only;cases hf:yC i a with
    |none=>grind
    |some a1=>rw [hf] at h;obtain ⟨σ1,h1,h2,h3⟩:=yB hr hf;obtain ⟨σ2,h4,h5,h6⟩:=gX (l:=r) h2 h<;>grind
  ·rename_i y hne hb;obtain ⟨b,hb',hgb⟩:=hr.bx.get hb;rw [hb'];cases hgb with
   |row _ _ _ _=>grind
   |var _=>exact gX (l:=r) hr h
   |loop _=>exact gX (l:=r) hr h
   |map _=>exact gX (l:=r) hr h
   |dead=>exact gX (l:=r) hr h
   |el _ _=>exact gX (l:=r) hr h
  grind
end Go.Ab
namespace Go.Ab
open Go.Em
variable {a a':ASt}{σ:St}{x:X}
variable {T:Tab} {n m:Nat} {ρ ρ':Rho} {Γ:Nat->Gam}
mutual
def AX.Nh (i:Nat):AX->Bool
 |.ptr j e _=>if j==i then zbX e else true
 |.agg cs=>rG i cs
 |.tup cs=>rG i cs
 |.fn _ cs=>rG i cs
 |_=>true
def rG (i:Nat):List AX->Bool
 |[]=>true
 |x::r=>x.Nh i&&rG i r
end
mutual
def AX.fix (i:Nat)(vs:List AX):AX->AX
 |.ptr j e o=>if j==i then .dp (vs.drop o) else .ptr j e o
 |.agg cs=>.agg (V6 i vs cs)
 |.tup cs=>.tup (V6 i vs cs)
 |.fn g cs=>.fn g (V6 i vs cs)
 |.i k l=>.i k l
 |.b t u=>.b t u
 |.s l=>.s l
 |.x x=>.x x
 |.sl t sz k h l=>.sl t sz k h l
 |.bs i o l=>.bs i o l
 |.dp cs=>.dp cs
 |.yl i=>.yl i
 |.mp i=>.mp i
 |.tX=>.tX
 |.el k h=>.el k h
 |.de k h=>.de k h
def V6 (i:Nat)(vs:List AX):List AX->List AX
 |[]=>[]
 |x::r=>x.fix i vs::V6 i vs r
end
mutual
theorem JH (i:Nat)(vs:List X):∀(x:X),x.refs=[]->x.fix i vs=x
 |.ptr _ _ _,h=>by grind[X.refs]
 |.agg cs,h=>by show X.agg (Tt i vs cs)=_;rw [rH i vs cs h]
 |.tup cs,h=>by show X.tup (Tt i vs cs)=_;rw [rH i vs cs h]
 |.fn g cs,h=>by show X.fn g (Tt i vs cs)=_;rw [rH i vs cs h]
 |.v _,_=>rfl
 |.sl _ _ _,_=>rfl
 |.bs _ _ _,_=>rfl
 |.dp _,_=>rfl
 |.yl _,_=>rfl
 |.mp _,_=>rfl
 |.ifc,_=>rfl
theorem rH (i:Nat)(vs:List X):∀(xs:List X),bZ xs=[]->Tt i vs xs=xs
 |[],_=>rfl
 |x::r,h=>by have h:x.refs++bZ r=[]:=h;obtain ⟨h1,h2⟩:=List.append_eq_nil_iff.1 h;show x.fix i vs::Tt i vs r=_;rw [JH i vs x h1,rH i vs r h2]
end
section
variable {i:Nat} {vs:List AX} {xv:List X}
mutual
theorem G.fix (h0:ρ 0=0)(hv:GL T n ρ vs xv):∀{a:AX} {x:X},G T n ρ a x->a.Nh i=true->G T n ρ (a.fix i vs) (x.fix i xv)
 |.ptr j e o,.ptr _ e' _,.ptr q1 q2,h=>by
  unfold AX.Nh at h;unfold AX.fix X.fix;cases hj:(j==i) with
  |true=>
   rw [hj] at h;simp only [if_true] at h ⊢;have:=rD h h0;have:e'=0:=by omega
   subst this;simp;exact .dp (hv.drop o)
  |false=>simp;exact .ptr q1 q2
 |_,_,.agg q,h=>.agg (GL.fix h0 hv q h)
 |_,_,.tup q,h=>.tup (GL.fix h0 hv q h)
 |_,_,.fn q,h=>.fn (GL.fix h0 hv q h)
 |.x y,_,.x q,_=>by show G T n ρ (.x y) (X.fix i xv y);rw [JH i xv y q];exact .x q
 |_,_,.i q1 q2,_=>.i q1 q2
 |_,_,.b q1 q2,_=>.b q1 q2
 |_,_,.s q1 q2,_=>.s q1 q2
 |_,_,.sl q1 q2 q3 q4 q5,_=>.sl q1 q2 q3 q4 q5
 |_,_,.bs q1 q2 q3 q4,_=>.bs q1 q2 q3 q4
 |_,_,.dp q,_=>.dp q
 |_,_,.yl,_=>.yl
 |_,_,.mp,_=>.mp
 |_,_,.ifc,_=>.ifc
 |_,_,.Gl,_=>.Gl
 |_,_,.el (xs:=xs) q1 q2,_=>by show G T n ρ _ (X.fix i xv (.agg xs));rw [JH i xv (.agg xs) (qw q2)];exact .el q1 q2
 |_,_,.de q1 q2,_=>.de q1 q2
theorem GL.fix (h0:ρ 0=0)(hv:GL T n ρ vs xv):∀{a:List AX} {x:List X},GL T n ρ a x->rG i a=true->GL T n ρ (V6 i vs a) (Tt i xv x)
 |_,_,.nil,_=>.nil
 |a::l,x::m,.cons g1 g2,h=>by have h:(a.Nh i&&rG i l)=true:=h;rw [qab] at h;exact .cons (G.fix h0 hv g1 h.1) (GL.fix h0 hv g2 h.2)
end
def zkh (i:Nat)(vs:List AX)(tm:List (Nat×AX)):List (Nat×AX):=tm.map fun p=>(p.1,p.2.fix i vs)
theorem GT.fix (h0:ρ 0=0)(hv:GL T n ρ vs xv):∀{a:List (Nat×AX)} {x:List (Nat×X)},GT T n ρ a x->rG i (a.map (·.2))=true->GT T n ρ (zkh i vs a) (znF i xv x)
 |_,_,.nil,_=>.nil
 |(q,a)::l,_,.cons g1 g2,h=>by have h:(a.Nh i&&rG i (l.map (·.2)))=true:=h;rw [qab] at h;exact .cons (G.fix h0 hv g1 h.1) (GT.fix h0 hv g2 h.2)
def ABx.Nh (i:Nat):ABx->Bool
 |.var cs=>rG i cs
 |.loop _ _ tm _ _ _=>rG i (tm.map (·.2))
 |_=>true
def ABx.fix (i:Nat)(vs:List AX):ABx->ABx
 |.var cs=>.var (V6 i vs cs)
 |.loop st p tm ps a b=>.loop st p (zkh i vs tm) ps a b
 |.row s k h l=>.row s k h l
 |.map es=>.map es
 |.dead=>.dead
 |.el k h=>.el k h
theorem GBs.fix (h0:ρ 0=0)(hv:GL T n ρ vs xv):∀{a:List ABx} {x:List Bx},GBs T n ρ a x->a.all (ABx.Nh i)=true->GBs T n ρ (a.map (ABx.fix i vs)) (x.map (Bx.fix i xv))
 |_,_,.nil,_=>.nil
 |_,_,.cons g1 g2,h=>by
  rw [List.all_cons,qab] at h;refine .cons ?_ (GBs.fix h0 hv g2 h.2);cases g1 with
  |var q=>exact .var (GL.fix h0 hv q h.1)
  |loop q=>exact .loop (GT.fix h0 hv q h.1)
  |row q1 q2 q3 q4=>exact .row q1 q2 q3 q4
  |map q=>exact .map q
  |dead=>exact .dead
  |el q1 q2=>rename_i xs;show GB T n ρ _ (Bx.var (Tt i xv xs));rw [rH i xv xs (qw q2)];exact .el q1 q2
end
def JE (i:Nat)(a:ASt):Option ASt:=match a.bx[i]? with
 |some (.var vs)=>if (qx vs).isEmpty then
   (if rG i (a.tm.map (·.2))&&a.bx.all (ABx.Nh i) then some {a with tm:=zkh i vs a.tm,bx:=(a.bx.map (ABx.fix i vs)).set i .dead} else none)
   else some a
 |_=>none
theorem Qu {i:Nat}(hr:R T ρ a σ)(h:JE i a=some a'):∃σ',yA i σ=some σ'/\R T ρ a' σ'/\a'.nx=a.nx:=by
 unfold JE at h;split at h
 ·rename_i vs hb;obtain ⟨b,hb',hgb⟩:=hr.bx.get hb;cases hgb with
  |var hv=>
   rename_i xv;split at h
   ·rename_i he;split at h
    ·rename_i hc;cases h;rw [qab] at hc;refine ⟨⟨znF i xv σ.tm,(σ.bx.map (Bx.fix i xv)).set i .dead⟩,?_,⟨hr.zero,hr.pos,hr.F,GT.fix hr.zero hv hr.tm hc.1,(GBs.fix hr.zero hv hr.bx hc.2).set i .dead⟩,rfl⟩;unfold yA;rw [hb']
     (try dsimp only)
     rw [hv.refs,if_pos he]
    grind
   rename_i he;cases h;refine ⟨σ,?_,hr,rfl⟩;unfold yA;rw [hb']
   (try dsimp only)
   rw [hv.refs,if_neg he]
 grind
def isRef:AX->Bool
 |.ptr _ _ _=>true
 |_=>false
def zqc:AX->Bool
 |.bs _ _ _=>true
 |_=>false
theorem OY {a:AX}(hg:G T n ρ a x)(h:isRef a=false):∀i e o,x≠.ptr i e o:=fun i e o hx=>by
 subst hx;cases hg with
 |x q=>grind[X.refs]
 |ptr _ _=>cases h
theorem zfY {a:AX}(hg:G T n ρ a x)(h:zqc a=false):∀i e o,x≠.bs i e o:=fun i e o hx=>by
 subst hx;cases hg with
 |x q=>grind[X.refs]
 |bs _ _ _ _=>cases h
def zax (a:ASt):Gh->Option ASt
 |.thaw s none=>match lkA a.tm s with
  |none=>some a
  |some y=>match tight a.F y with
   |some (some sz)=>some {a with tm:=(s,.bs a.bx.length (.k 0) (.k 0))::a.tm,bx:=a.bx++[JM sz]}
   |some none=>some a
   |none=>none
 |.thaw s (some o)=>match lkA a.tm s with
  |none=>some a
  |some (.ptr i e o')=>if zbX e then match a.bx[i]? with
   |some (.var cs)=>match cs[o'+o]? with
    |some y=>match tight a.F y with
     |some (some sz)=>some {a with bx:=(a.bx.set i (.var (cs.set (o'+o) (.bs a.bx.length (.k 0) (.k 0)))))++[JM sz]}
     |some none=>some a
     |none=>none
    |none=>some a
   |some (.el _ _)=>none
   |some _=>some a
   |none=>none
   else none
  |some y=>if isRef y then none else some a
 |.frz s none=>match lkA a.tm s with
  |some (.bs i _ _)=>yC i a
  |some y=>if zqc y then none else some a
  |none=>none
 |.frz s (some o)=>match lkA a.tm s with
  |some (.ptr i e o')=>if zbX e then match a.bx[i]? with
   |some (.var cs)=>match cs[o'+o]? with
    |some (.bs j _ _)=>yC j a
    |some y=>if zqc y then none else some a
    |none=>none
   |_=>none
   else none
  |_=>none
 |.zaK s=>match lkA a.tm s with
  |some (.ptr i _ _)=>match a.bx[i]? with
   |some (.var cs)=>pU (Iu cs) a
   |some _=>some a
   |none=>none
  |some y=>if isRef y then none else pU y.rows a
  |none=>some a
 |.EJ s=>match lkA a.tm s with
  |some (.ptr i _ _)=>JE i a
  |some y=>if isRef y then none else some a
  |none=>some a
theorem GL.set:∀{l:List AX} {m:List X} {y:AX} {x:X} (i:Nat),GL T n ρ l m->G T n ρ y x->GL T n ρ (l.set i y) (m.set i x)
 |_,_,_,_,_,.nil,_=>.nil
 |_,_,_,_,0,.cons _ h,g=>.cons g h
 |_,_,_,_,i+1,.cons h1 h,g=>.cons h1 (h.set i g)
theorem GL.get_none {l:List AX}{m:List X}{i:Nat}(h:GL T n ρ l m)(e:l[i]?=none):m[i]?=none:=by rw [List.getElem?_eq_none_iff] at e ⊢;rw [<-h.len]<;>grind
theorem zaw {g:Gh}(hr:R T ρ a σ)(h:zax a g=some a'):∃σ',ghost σ g=some σ'/\R T ρ a' σ'/\a'.nx=a.nx:=by
 have hl:=hr.bx.len;have hbs:G T a.nx ρ (.bs a.bx.length (.k 0) (.k 0)) (.bs σ.bx.length 0 0):=by rw [hl];exact .bs hr.pos hr.pos (by rw [Lin.k_v hr.zero];rfl) (by rw [Lin.k_v hr.zero];rfl)
 unfold zax at h;split at h
 ·rename_i s;unfold ghost
  (try dsimp only)
  split at h;next e=>cases h;rw [sG hr.tm e]<;>simp_all
  rename_i y e;obtain ⟨x,hx,hg⟩:=jr hr.tm e;obtain ⟨t1,t2⟩:=Ru hr.zero hr.F hg;rw [hx];split at h;next sz ht=>cases h;have:=t1 sz ht;subst this;exact ⟨_,rfl,⟨hr.zero,hr.pos,hr.F,.cons hbs hr.tm,hr.bx.snoc (Dy hr.zero hr.pos sz)⟩,rfl⟩
  ·grind
  grind
 ·rename_i s o;unfold ghost
  (try dsimp only)
  split at h;next e=>cases h;rw [sG hr.tm e]<;>simp_all
  ·rename_i i e0 o' e;obtain ⟨x,hx,hg⟩:=jr hr.tm e;cases hg with
   |ptr q1 q2=>
    rename_i en;split at h
    ·rename_i hz;have h0:=rD hz hr.zero;have:en=0:=by omega
     subst this;simp only [hx];split at h
     ·rename_i cs hb;obtain ⟨b,hb',hgb⟩:=hr.bx.get hb;cases hgb with
      |var hv=>
       rename_i xv;simp only [hb'];split at h
       ·rename_i y hy;obtain ⟨z,hz',hgz⟩:=hv.get hy;obtain ⟨t1,t2⟩:=Ru hr.zero hr.F hgz;rw [hz'];split at h;next sz ht=>cases h;have:=t1 sz ht;subst this;exact ⟨_,rfl,⟨hr.zero,hr.pos,hr.F,hr.tm,(hr.bx.set i (.var (hv.set _ hbs))).snoc (Dy hr.zero hr.pos sz)⟩,rfl⟩
        ·grind
        grind
       rename_i hy;cases h;rw [hv.get_none hy]<;>simp_all
     ·cases h
     next b hne hne2 hb=>cases h;obtain ⟨b',hb',hgb⟩:=hr.bx.get hb;rw [hb'];cases hgb<;>simp_all
     grind
    grind
  rename_i y hne e;obtain ⟨x,hx,hg⟩:=jr hr.tm e;split at h;·cases h
  rename_i hr1;cases h;have hnp:=OY hg (by grind);rw [hx];refine ⟨σ,?_,hr,rfl⟩;split
  ·grind
  rfl
 ·rename_i s;unfold ghost
  (try dsimp only)
  split at h;next i o l e=>obtain ⟨x,hx,hg⟩:=jr hr.tm e;cases hg<;>grind[yB]
  ·rename_i y hne e;obtain ⟨x,hx,hg⟩:=jr hr.tm e;split at h;·cases h
   rename_i hr1;cases h;have hnp:=zfY hg (by grind);rw [hx];refine ⟨σ,?_,hr,rfl⟩;split
   ·grind
   ·rfl
   grind
  grind
 ·rename_i s o;unfold ghost
  (try dsimp only)
  split at h
  ·rename_i i e0 o' e;obtain ⟨x,hx,hg⟩:=jr hr.tm e;cases hg with
   |ptr q1 q2=>
    rename_i en;split at h
    ·rename_i hz;have h0:=rD hz hr.zero;have:en=0:=by omega
     subst this;simp only [hx];split at h
     ·rename_i cs hb;obtain ⟨b,hb',hgb⟩:=hr.bx.get hb;cases hgb with
      |var hv=>
       rename_i xv;simp only [hb'];split at h;next j o2 l2 hy=>obtain ⟨z,hz',hgz⟩:=hv.get hy;cases hgz<;>grind[yB]
       ·rename_i y hne hy;obtain ⟨z,hz',hgz⟩:=hv.get hy;split at h;·cases h
        rename_i hr1;cases h;have hnp:=zfY hgz (by grind);rw [hz'];refine ⟨σ,?_,hr,rfl⟩;split
        ·grind
        ·rfl
        grind
       grind
     grind
    grind
  grind
 ·rename_i s;unfold ghost
  (try dsimp only)
  split at h
  ·rename_i i e0 o' e;obtain ⟨x,hx,hg⟩:=jr hr.tm e;cases hg with
   |ptr q1 q2=>
    rw [hx]
    (try dsimp only)
    split at h
    ·rename_i cs hb;obtain ⟨b,hb',hgb⟩:=hr.bx.get hb;cases hgb with
     |var hv=>
      rw [hb']
      (try dsimp only)
      rw [hv.rows]<;>grind[gX]
    ·rename_i b hne hb;cases h;obtain ⟨b',hb',hgb⟩:=hr.bx.get hb;rw [hb'];cases hgb with
     |var _=>grind
     |row _ _ _ _=>grind
     |loop _=>grind
     |map _=>grind
     |dead=>grind
     |el _ q=>dsimp only;rw [nR _ (qw q)];exact ⟨σ,rfl,hr,rfl⟩
    grind
  ·rename_i y hne e;obtain ⟨x,hx,hg⟩:=jr hr.tm e;split at h;·cases h
   rename_i hr1;have hnp:=OY hg (by grind);obtain ⟨σ',h1,h2,h3⟩:=gX hr h;refine ⟨σ',?_,h2,h3⟩;rw [hx];split
   ·grind
   next x' _ e2=>cases e2;rw [hg.rows]<;>grind
   grind
  rename_i e;cases h;rw [sG hr.tm e]<;>simp_all
 rename_i s;unfold ghost
 (try dsimp only)
 split at h;next i e0 o' e=>obtain ⟨x,hx,hg⟩:=jr hr.tm e;cases hg<;>grind[Qu]
 ·rename_i y hne e;obtain ⟨x,hx,hg⟩:=jr hr.tm e;split at h;·cases h
  rename_i hr1;cases h;have hnp:=OY hg (by grind);rw [hx];refine ⟨σ,?_,hr,rfl⟩;split
  ·grind
  rfl
 rename_i e;cases h;rw [sG hr.tm e]<;>simp_all
def Di:List Gh->ASt->Option ASt
 |[],a=>some a
 |g::r,a=>match zax a g with
  |none=>none
  |some a'=>Di r a'
theorem Gx:∀{l:List Gh} {a a':ASt} {σ:St},R T ρ a σ->Di l a=some a'->∃σ',wL l σ=some σ'/\R T ρ a' σ'/\a'.nx=a.nx
 |[],a,a',σ,hr,h=>by simp [Di] at h;subst h;exact ⟨σ,rfl,hr,rfl⟩
 |g::r,a,a',σ,hr,h=>by
  unfold Di at h;split at h;·cases h
  rename_i a1 h1;obtain ⟨σ1,k1,k2,k3⟩:=zaw hr h1;obtain ⟨σ2,k4,k5,k6⟩:=Gx k2 h<;>grind[wL]
end Go.Ab
namespace Go.Ab
open Go.Em
variable {a:ASt}{x:Cx}{k nIn:Nat}{S:Nat->Nat->Bool}{σ:St}
variable {T:Tab} {n m:Nat} {ρ ρ':Rho} {Γ:Nat->Gam}
abbrev Kz:=Ex×ASt
variable {outs:List Kz}
def EY (T:Tab)(Γ:Nat->Gam)(nIn:Nat)(ρ:Rho)(a:ASt)(σ:St)(c:C)(outs:List Kz):Prop:=
 ∃q,q∈outs/\∃ρ' σ',More a.nx ρ q.2.nx ρ'/\R T ρ' q.2 σ'/\∃B,∀N,B<=N->run (Γ N) nIn N c σ=some (q.1,σ')
def zpO (x:Cx)(base:Nat)(gh:List Gh)(draw:List (Nat×Nat))(l:List Ins)(live:List Nat)(a:ASt):Option (List Kz):=
 match Di gh a with
 |none=>none
 |some a1=>match KX x l a1 with
  |none=>none
  |some outs=>qc (outs.map fun q=>if BL l q.2 draw then some (Ex.norm,prune base {q.1 with tm:=keepA live q.1.tm}) else none)
theorem zhD {base:Nat}{gh:List Gh}{draw:List (Nat×Nat)}{l:List Ins}{live:List Nat}(hx:NY Γ x a.nx ρ)(hr:R x.T ρ a σ)(h:zpO x base gh draw l live a=some outs):EY x.T Γ nIn ρ a σ (.reg gh draw l live) outs:=by
 unfold zpO at h;split at h;·cases h
 rename_i a1 hg;obtain ⟨σ1,k1,k2,k3⟩:=Gx hr hg;split at h;·cases h
 rename_i os ho;obtain ⟨q,hq,ρ',σ',p1,p2,B,p3⟩:=KW (k3▸hx) k2 ho;obtain ⟨w,hw,hm⟩:=gZ h hq;split at hw;next hp=>cases hw;refine ⟨_,hm,ρ',⟨keep live σ'.tm,σ'.bx⟩,⟨by have h9:=p1.le;show a.nx<=q.1.nx;omega,fun s hs=>p1.same s (by omega)⟩,zdg ⟨p2.zero,p2.pos,p2.F,SN p2.tm live,p2.bx⟩,B,fun N hN=>?_⟩<;>simp_all[run]
 grind
def leT (c:In):List (Nat×AX)->List (Nat×AX)->Bool
 |[],[]=>true
 |(k,a)::l,(j,p)::r=>Nat.beq k j&&leX c a p&&leT c l r
 |_,_=>false
theorem zf5 {c:In}(hS:SOk T c.S)(h0:ρ 0=0)(hF:aX n ρ c.F):∀{a p:List (Nat×AX)} {x:List (Nat×X)},leT c a p=true->GT T n ρ a x->GT T c.m (back c.θ ρ) p x
 |[],[],_,_,.nil=>.nil
 |(k,a)::l,(j,b)::r,_,h,.cons h1 h2=>by unfold leT at h;simp only [qab] at h;obtain ⟨⟨e1,e2⟩,e3⟩:=h;have e1:=qai e1;subst e1;exact .cons (SH hS h0 hF e2 h1) (zf5 hS h0 hF e3 h2)
def zdH (c:In):List ABx->List ABx->Bool
 |[],[]=>true
 |a::l,b::r=>leB c a b&&zdH c l r
 |_,_=>false
theorem SI {c:In}(hS:SOk T c.S)(h0:ρ 0=0)(hF:aX n ρ c.F):∀{a p:List ABx} {x:List Bx},zdH c a p=true->GBs T n ρ a x->GBs T c.m (back c.θ ρ) p x
 |[],[],_,_,.nil=>.nil
 |a::l,b::r,_,h,.cons h1 h2=>by unfold zdH at h;rw [qab] at h;exact .cons (zf7 hS h0 hF h.1 h1) (SI hS h0 hF h.2 h2)
def eG (k:Nat)(acc:List (Nat×Lin)):Sub:=fun s=>if Nat.blt s k then ⟨s,0⟩ else mV acc s
def zlK (S:Nat->Nat->Bool)(k:Nat)(acc:List (Nat×Lin))(a p:ASt):Bool:=
 let c:In:=⟨S,a.F,eG k acc,p.nx⟩
 Nat.ble k a.nx&&Nat.ble k p.nx&&Nat.blt 0 k&&leT c a.tm p.tm&&zdH c a.bx p.bx&&
  p.F.all (fun f=>Nat.blt f.x p.nx&&Nat.blt f.y p.nx&&leL a.F (eG k acc f.x) ((eG k acc f.y).up f.c))
theorem O6 (hS:SOk T S){acc:List (Nat×Lin)}{p:ASt}(hr:R T ρ a σ)(h:zlK S k acc a p=true):R T (back (eG k acc) ρ) p σ/\More k ρ p.nx (back (eG k acc) ρ):=by
 unfold zlK at h;simp only [qab] at h;obtain ⟨⟨⟨⟨⟨h1,h2⟩,h3⟩,h4⟩,h5⟩,h6⟩:=h;have hk:=dX h3;have hsame:∀s,s<k->back (eG k acc) ρ s=ρ s:=fun s hs=>by simp_all[back,eG,Lin.v]
 have hle:=Nat.le_of_ble_eq_true h2;refine ⟨⟨by rw [hsame 0 hk];exact hr.zero,by omega,fun f hf=>?_,zf5 (c:=⟨S,a.F,eG k acc,p.nx⟩) hS hr.zero hr.F h4 hr.tm,SI (c:=⟨S,a.F,eG k acc,p.nx⟩) hS hr.zero hr.F h5 hr.bx⟩,⟨hle,hsame⟩⟩;have:=qas.1 h6 f hf;simp only [qab] at this;obtain ⟨⟨e1,e2⟩,e3⟩:=this;have e4:=aU hr.F e3;rw [Lin.mQ] at e4;exact ⟨dX e1,dX e2,e4⟩
def zn5:List (Nat×AX)->List (Nat×AX)->List (Nat×Lin)->List (Nat×Lin)
 |(_,a)::l,(_,b)::r,acc=>zn5 l r (zfa a b acc)
 |_,_,acc=>acc
def zo (a p:ASt):List (Nat×Lin):=NQ a.bx p.bx (zn5 a.tm p.tm [])
abbrev Mu:=Lin×Lin
variable {mu:Mu}
abbrev Orc:=C->ASt->Option (ASt×Mu)
def zf2 (k:Nat):Nat:=Nat.shiftLeft 1 k-1
def lessM (F:List Fact)(θ:Sub)(mu:Mu):Bool:=leL F (mu.2.up 1) mu.1&&
 ((leL F (mu.1.sub θ) mu.1&&leL F (mu.2.up 1) (mu.2.sub θ))||(leL F ((mu.1.sub θ).up 1) mu.1&&leL F mu.2 (mu.2.sub θ)))
def zic (S:Nat->Nat->Bool)(nIn:Nat)(f:ASt->Option (List Kz))(a I:ASt)(mu:Mu):Option (List Kz):=
 if zlK S a.nx (zo a I) a I&&Nat.blt mu.1.s I.nx&&Nat.blt mu.2.s I.nx then match f I with
  |none=>none
  |some outs=>
   if outs.all (fun q=>match q.1 with
    |.norm=>match TT nIn q.2 with
     |some a'=>zlK S a.nx (zo a' I) a' I&&lessM a'.F (eG a.nx (zo a' I)) mu
     |none=>false
    |_=>true) then some (outs.filter fun q=>match q.1 with|.norm=>false|_=>true) else none
 else none
theorem SG {F:List Fact}{θ:Sub}(hF:aX n ρ F)(h:lessM F θ mu=true):1<=mu.1.v ρ-mu.2.v ρ/\mu.1.v (back θ ρ)-mu.2.v (back θ ρ)+1<=mu.1.v ρ-mu.2.v ρ:=by
 unfold lessM at h;simp at h;obtain ⟨h1,h2⟩:=h;have e1:=aU hF h1;rw [Lin.mQ] at e1;rw [<-oZ,<-oZ];rcases h2 with ⟨h2,h3⟩|⟨h2,h3⟩;·have e2:=aU hF h2;have e3:=aU hF h3<;>grind[Lin.mQ]
 have e2:=aU hF h2;have e3:=aU hF h3<;>grind[Lin.mQ]
theorem zdA {b:C}{f:ASt->Option (List Kz)}{I:ASt}{τ:St}
  (hf:∀{ρ':Rho} {σ':St} {os:List Kz},NY Γ x I.nx ρ'->R x.T ρ' I σ'->f I=some os->EY x.T Γ nIn ρ' I σ' b os)
  (hx:NY Γ x a.nx ρ) (hc:canon nIn τ=some σ) (hr:R x.T ρ a σ) (h:zic (kle x.T) nIn f a I mu=some outs):EY x.T Γ nIn ρ a τ (.loop b) outs:=by
 unfold zic at h;split at h
 ·rename_i hc1;simp only [qab] at hc1;obtain ⟨⟨h1,h2⟩,h3⟩:=hc1;split at h;·cases h
  rename_i os ho;split at h
  ·rename_i hall;cases h;have key:∀(d:Nat) (ρI:Rho) (σ τ:St),More a.nx ρ I.nx ρI->R x.T ρI I σ->canon nIn τ=some σ->(mu.1.v ρI-mu.2.v ρI).toNat<=d->
     ∃q,q∈os.filter (fun q=>match q.1 with|.norm=>false|_=>true)/\∃ρ' σ',More a.nx ρ q.2.nx ρ'/\R x.T ρ' q.2 σ'/\∃B,∀N,B<=N->∀F,d+1<=F->iter nIn (run (Γ N) nIn N b) F τ=some (q.1,σ'):=by
    intro d;induction d with
    |zero=>
     intro ρI σ τ hm hI hcan hd;obtain ⟨q,hq,ρ',σ',k1,k2,B,k3⟩:=hf (hx.more hm) hI ho;have hq2:=qas.1 hall q hq;obtain ⟨ex,a'⟩:=q;cases ex with
     |norm=>
      exfalso;dsimp only at hq2 k1 k2;split at hq2;next a'' ziv=>rw [qab] at hq2;obtain ⟨Xe,c1,c2,c3⟩:=D7 k2 ziv;obtain ⟨e1,e2⟩:=SG c2.F hq2.2;have e3:=k1.lin (dX h2);have e4:=k1.lin (dX h3);omega
      grind
     |exit j=>exact ⟨_,List.mem_filter.2 ⟨hq,rfl⟩,ρ',σ',hm.trans k1,k2,B,fun N hN F hF=>by
       obtain ⟨F',rfl⟩:∃F',F=F'+1:=⟨F-1,by omega⟩
       grind[bK]⟩
     |ret=>exact ⟨_,List.mem_filter.2 ⟨hq,rfl⟩,ρ',σ',hm.trans k1,k2,B,fun N hN F hF=>by
       obtain ⟨F',rfl⟩:∃F',F=F'+1:=⟨F-1,by omega⟩
       grind[bK]⟩
    |succ d ih=>
     intro ρI σ τ hm hI hcan hd;obtain ⟨q,hq,ρ',σ',k1,k2,B,k3⟩:=hf (hx.more hm) hI ho;have hq2:=qas.1 hall q hq;obtain ⟨ex,a'⟩:=q;cases ex with
     |norm=>
      dsimp only at hq2 k1 k2 k3;split at hq2;next a'' ziv=>rw [qab] at hq2;obtain ⟨Xe,c1,c2,c3⟩:=D7 k2 ziv;obtain ⟨e1,e2⟩:=SG c2.F hq2.2;obtain ⟨r1,r2⟩:=O6 (sok x.T) c2 hq2.1;have e3:=k1.lin (dX h2);have e4:=k1.lin (dX h3);have hm2:More a.nx ρ I.nx (back (eG a.nx (zo a'' I)) ρ'):=⟨hm.le,fun s hs=>by rw [r2.same s hs,k1.same s (hm.lt hs),hm.same s hs]⟩;obtain ⟨q',p1,ρ2,σ2,p2,p3,B2,p4⟩:=ih _ Xe σ' hm2 r1 c1 (by omega);refine ⟨q',p1,ρ2,σ2,p2,p3,max B B2,fun N hN F hF=>?_⟩;obtain ⟨F',rfl⟩:∃F',F=F'+1:=⟨F-1,by omega⟩;exact dV hcan (k3 N (by omega)) (p4 N (by omega) F' (by omega))
      grind
     |exit j=>exact ⟨_,List.mem_filter.2 ⟨hq,rfl⟩,ρ',σ',hm.trans k1,k2,B,fun N hN F hF=>by
       obtain ⟨F',rfl⟩:∃F',F=F'+1:=⟨F-1,by omega⟩
       grind[bK]⟩
     |ret=>exact ⟨_,List.mem_filter.2 ⟨hq,rfl⟩,ρ',σ',hm.trans k1,k2,B,fun N hN F hF=>by
       obtain ⟨F',rfl⟩:∃F',F=F'+1:=⟨F-1,by omega⟩
       grind[bK]⟩
   obtain ⟨r1,r2⟩:=O6 (sok x.T) hr h1;obtain ⟨q,p1,ρ2,σ2,p2,p3,B,p4⟩:=key _ _ σ τ r2 r1 hc (Nat.le_refl _);exact ⟨q,p1,ρ2,σ2,p2,p3,max B ((mu.1.v (back (eG a.nx (zo a I)) ρ)-mu.2.v (back (eG a.nx (zo a I)) ρ)).toNat+1),fun N hN=>by grind[run]⟩
  grind
 grind
def Au (S:Nat->Nat->Bool)(k:Nat)(q p:Kz):Bool:=decide (q.1=p.1)&&zlK S k (zo q.2 p.2) q.2 p.2
def thin (S:Nat->Nat->Bool)(k:Nat):List Kz->List Kz
 |[]=>[]
 |q::r=>let t:=thin S k r
  if t.any (Au S k q) then t else q::t.filter (fun p=>!Au S k p q)
theorem EZ (hS:SOk T S){q p:Kz}(h:Au S k q p=true)(hr:R T ρ q.2 σ):p.1=q.1/\∃ρ',More k ρ p.2.nx ρ'/\R T ρ' p.2 σ:=by
 unfold Au at h;rw [qab] at h;have h1:=O6 hS hr h.2
 grind
theorem XF {S:Nat->Nat->Bool}(hS:SOk T S){k:Nat}:∀{l:List Kz} {q:Kz} {ρ:Rho} {σ:St},q∈l->k<=q.2.nx->R T ρ q.2 σ->∃p,p∈thin S k l/\p.1=q.1/\∃ρ',More k ρ p.2.nx ρ'/\R T ρ' p.2 σ
 |[],_,_,_,h,_,_=>by cases h
 |a::r,q,ρ,σ,h,hk,hr=>by
  have self:∀{q:Kz},k<=q.2.nx->R T ρ q.2 σ->∃ρ',More k ρ q.2.nx ρ'/\R T ρ' q.2 σ:=fun hk hr=>⟨ρ,⟨hk,fun _ _=>rfl⟩,hr⟩;rcases qaj.1 h with rfl|h
  ·unfold thin;dsimp only;split;next hs=>obtain ⟨p,hp,hw⟩:=List.any_eq_true.1 hs<;>grind[EZ]
   grind
  obtain ⟨p,hp,e,ρ1,m1,r1⟩:=XF hS h hk hr;unfold thin;dsimp only;split
  ·grind
  cases hw:Au S k p a with
  |true=>obtain ⟨e2,ρ2,m2,r2⟩:=EZ hS hw r1;exact ⟨a,qap,e2.trans e,ρ2,⟨m2.le,fun s hs=>(m2.same s hs).trans (m1.same s hs)⟩,r2⟩
  |false=>grind
theorem EY.thin (hS:SOk T S){Γ:Nat->Gam}{c:C}(h:EY T Γ nIn ρ a σ c outs):EY T Γ nIn ρ a σ c (thin S a.nx outs):=by obtain ⟨q,hq,ρ',σ',k1,k2,B,k3⟩:=h;obtain ⟨p,hp,e,ρ2,m2,r2⟩:=XF hS hq k1.le k2;exact ⟨p,hp,ρ2,σ',⟨m2.le,fun s hs=>(m2.same s hs).trans (k1.same s hs)⟩,r2,B,fun N hN=>by grind⟩
def Ku (x:Cx)(orc:Orc)(nIn:Nat):C->Nat->ASt->Option (List Kz)
 |.skip,_,a=>some [(.norm,a)]
 |.reg gh draw l live,base,a=>(zpO x base gh draw l live a).map (thin (kle x.T) a.nx)
 |.seq p q,base,a=>match Ku x orc nIn p base a with
  |none=>none
  |some outs=>(qc (outs.map fun o=>match o.1 with
   |.norm=>Ku x orc nIn q base o.2
   |e=>some [(e,o.2)])).map (fun ls=>thin (kle x.T) a.nx (List.flatten ls))
 |.cond c p q,base,a=>match a.ev c with
  |some (.b tf ff)=>
   match (match assume a tf with|some a'=>Ku x orc nIn p base a'|none=>some []),(match assume a ff with|some a'=>Ku x orc nIn q base a'|none=>some []) with
   |some l,some r=>some (thin (kle x.T) a.nx (l++r))
   |_,_=>none
  |_=>none
 |.block id p,base,a=>(Ku x orc nIn p base a).map fun outs=>outs.map fun o=>(match o.1 with|.exit j=>if j==id then .norm else .exit j|e=>e,o.2)
 |.loop p,_,a=>match TT nIn a with
  |none=>none
  |some a'=>match orc p a' with
   |none=>none
   |some (I,mu)=>zic (kle x.T) nIn (Ku x orc nIn p (zf2 I.nx)) a' I mu
 |.exit id,_,a=>some [(.exit id,a)]
 |.ret,_,a=>some [(.ret,a)]
 |_,_,_=>none
theorem uj {x:Cx}{orc:Orc}{nIn:Nat}:∀{c:C} {base:Nat} {ρ:Rho} {a:ASt} {σ:St} {outs:List Kz},NY Γ x a.nx ρ->R x.T ρ a σ->Ku x orc nIn c base a=some outs->EY x.T Γ nIn ρ a σ c outs
 |.skip,base,ρ,a,σ,outs,hx,hr,h=>by simp [Ku] at h;subst h;exact ⟨_,qaa.2 rfl,ρ,σ,.refl ..,hr,0,fun N _=>rfl⟩
 |.reg gh draw l live,base,ρ,a,σ,outs,hx,hr,h=>by
  simp only [Ku] at h;obtain ⟨os,ho,rfl⟩:=qac.1 h
  grind[EY.thin,sok,zhD]
 |.seq p q,base,ρ,a,σ,outs,hx,hr,h=>by
  simp only [Ku] at h;split at h;·cases h
  rename_i os ho;obtain ⟨ls,hls,rfl⟩:=qac.1 h;refine EY.thin (sok x.T) ?_;obtain ⟨o,hm,ρ1,σ1,k1,k2,B1,k3⟩:=uj hx hr ho;obtain ⟨l,hl,hlm⟩:=gZ hls hm;obtain ⟨e,a1⟩:=o;cases e with
  |norm=>dsimp only at hl k1 k2 k3;obtain ⟨w,hw,ρ2,σ2,p1,p2,B2,p3⟩:=uj (hx.more k1) k2 hl;exact ⟨w,List.mem_flatten.2 ⟨l,hlm,hw⟩,ρ2,σ2,k1.trans p1,p2,max B1 B2,fun N hN=>by grind[run]⟩
  |exit j=>dsimp only at hl k1 k2 k3;cases hl;exact ⟨_,List.mem_flatten.2 ⟨_,hlm,qaa.2 rfl⟩,ρ1,σ1,k1,k2,B1,fun N hN=>by grind[run]⟩
  |ret=>dsimp only at hl k1 k2 k3;cases hl;exact ⟨_,List.mem_flatten.2 ⟨_,hlm,qaa.2 rfl⟩,ρ1,σ1,k1,k2,B1,fun N hN=>by grind[run]⟩
 |.cond c p q,base,ρ,a,σ,outs,hx,hr,h=>by
  simp only [Ku] at h;split at h
  ·rename_i tf ff e;obtain ⟨y,hy,gy⟩:=cO hr e;cases gy with
   |b h1 h2=>
    rename_i t;split at h
    ·rename_i l r hl hr';cases h;refine EY.thin (sok x.T) ?_;cases t with
     |true=>obtain ⟨a',e1,e2,e3⟩:=jY hr (h1 rfl);rw [e1] at hl;obtain ⟨w,hw,ρ2,σ2,p1,p2,B,p3⟩:=uj (e3▸hx) e2 hl;exact ⟨w,List.mem_append_left _ hw,ρ2,σ2,e3▸p1,p2,B,fun N hN=>by simp_all[run]⟩
     |false=>obtain ⟨a',e1,e2,e3⟩:=jY hr (h2 rfl);rw [e1] at hr';obtain ⟨w,hw,ρ2,σ2,p1,p2,B,p3⟩:=uj (e3▸hx) e2 hr';exact ⟨w,List.mem_append_right _ hw,ρ2,σ2,e3▸p1,p2,B,fun N hN=>by simp_all[run]⟩
    grind
  grind
 |.block id p,base,ρ,a,σ,outs,hx,hr,h=>by
  simp only [Ku] at h;obtain ⟨os,ho,rfl⟩:=qac.1 h;obtain ⟨o,hm,ρ1,σ1,k1,k2,B,k3⟩:=uj hx hr ho;refine ⟨_,qal.2 ⟨o,hm,rfl⟩,ρ1,σ1,k1,k2,B,fun N hN=>?_⟩
  grind[run]
 |.loop p,base,ρ,a,σ,outs,hx,hr,h=>by
  simp only [Ku] at h;split at h;·cases h
  rename_i a' hc;split at h;·cases h
  rename_i I mu ho;obtain ⟨σ',c1,c2,c3⟩:=D7 hr hc;obtain ⟨w,hw,ρ2,σ2,p1,p2,B,p3⟩:=zdA (Γ:=Γ) (x:=x) (b:=p) (τ:=σ) (σ:=σ') (fun hx' hr' ho'=>uj hx' hr' ho') (c3▸hx) c1 c2 h;exact ⟨w,hw,ρ2,σ2,c3▸p1,p2,B,p3⟩
 |.exit id,base,ρ,a,σ,outs,hx,hr,h=>by simp [Ku] at h;subst h;exact ⟨_,qaa.2 rfl,ρ,σ,.refl ..,hr,0,fun N _=>rfl⟩
 |.ret,base,ρ,a,σ,outs,hx,hr,h=>by simp [Ku] at h;subst h;exact ⟨_,qaa.2 rfl,ρ,σ,.refl ..,hr,0,fun N _=>rfl⟩
 |.rf _ _ _ _ _,base,ρ,a,σ,outs,hx,hr,h=>by grind[Ku]
 |.stuck,base,ρ,a,σ,outs,hx,hr,h=>by grind[Ku]
end Go.Ab
