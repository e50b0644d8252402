/-.-/
import Derived.Test.YtpcjeobkehmhpaaGreatDoorEmV9
set_option linter.all false
namespace Go.Ab
open Go.Em
section
variable {a y:AX}{x:X}
variable {T:Tab} {n:Nat} {ρ:Rho}
def AX.zlA:AX->List Nat
 |.ptr j _ _=>[j]
 |_=>[]
theorem Ui (h:G T n ρ a x):kE x=a.zlA:=by
 cases h with
 |x hr=>
  cases x<;>first
   |rfl
   |grind[X.refs]
 |_=>rfl
def known:AX->Option Bool
 |.b tf ff=>if ff.any (fun f=>f==bot) then some true else if tf.any (fun f=>f==bot) then some false else none
 |_=>none
theorem Uh (h:aY n ρ [bot]):False:=by
 have:=(h bot (qaa.2 rfl)).2.2
 grind[bot]
theorem SS {b t:Bool}(hg:G T n ρ a (.v (.bool t)))(h:known a=some b):t=b:=by
 have m:∀{fs:List Fact},fs.any (fun f=>f==bot)=true->¬aY n ρ fs:=fun {fs} hb hf=>by obtain ⟨f,j,l⟩:=List.any_eq_true.1 hb;have:=eq_of_beq l;subst this;exact Uh (fun g hg=>by rw [qaa.1 hg];exact hf _ j)
 unfold known at h;split at h
 ·cases hg with
  |b j l=>grind
 grind
def zme:AX->Option AX
 |.b tf ff=>some (.b ff tf)
 |_=>none
theorem Zw (hg:G T n ρ a x)(h:zme a=some y):∃b,x=.v (.bool b)/\G T n ρ y (.v (.bool !b)):=by
 unfold zme at h;split at h
 ·cases h;cases hg with
  |b h1 h2=>exact ⟨_,rfl,.b (fun e=>h2 (by grind)) (fun e=>h1 (by grind))⟩
 grind
def isBool:AX->Bool
 |.b _ _=>true
 |_=>false
theorem wK (hg:G T n ρ a x)(h:isBool a=true):∃b,x=.v (.bool b):=by
 unfold isBool at h;split at h;·cases hg<;>simp_all
 grind
def zsJ (neg:Bool)(x y:AX):Option AX:=
 if isBool x&&isBool y then
  match known y with
  |some c=>if c==!neg then some x else zme x
  |none=>match known x with
   |some c=>if c==!neg then some y else zme y
   |none=>some (.b [] [])
 else none
theorem zlx {neg:Bool}{x z:AX}{p q:X}(h1:G T n ρ x p)(h2:G T n ρ y q)(h:zsJ neg x y=some z):∃b c,p=.v (.bool b)/\q=.v (.bool c)/\G T n ρ z (.v (.bool (if neg then !(b==c) else b==c))):=by
 unfold zsJ at h;split at h
 ·rename_i f;rw [qab] at f;obtain ⟨b,rfl⟩:=wK h1 f.1;obtain ⟨c,rfl⟩:=wK h2 f.2;refine ⟨b,c,rfl,rfl,?_⟩;have a:∀{w u:AX} {d e:Bool},G T n ρ w (.v (.bool d))->(if e==!neg then some w else zme w)=some u->G T n ρ u (.v (.bool (if neg then !(d==e) else d==e))):=fun {w u d e} hw hu=>by
   split at hu;·simp_all
   rename_i B;obtain ⟨m,l,A⟩:=Zw hw hu<;>simp_all
  split at h;next e j=>have:=SS h2 j;subst this;exact a h1 h
  split at h;next e j=>have:=SS h1 j;subst this;have:=a h2 h<;>grind
  cases h;exact .b (fun _=>.nil) (fun _=>.nil)
 grind
def BP (a:ASt):List (Nat×Nat×Opd)->Option (List (Nat×Nat×AX))
 |[]=>some []
 |(p,q,o)::r=>match a.ev o with
  |none=>none
  |some x=>(BP a r).map ((p,q,x)::·)
inductive G3 (T:Tab) (n:Nat) (ρ:Rho):List (Nat×Nat×AX)->List (Nat×Nat×X)->Prop where
 |nil:G3 T n ρ [] []
 |cons {p q:Nat} {a:AX} {x:X} {l:List (Nat×Nat×AX)} {m:List (Nat×Nat×X)}:G T n ρ a x->G3 T n ρ l m->G3 T n ρ ((p,q,a)::l) ((p,q,x)::m)
theorem F9 {a:ASt}{σ:St}(h:R T ρ a σ):∀{l:List (Nat×Nat×Opd)} {ys:List (Nat×Nat×AX)},BP a l=some ys->∃xs,kN σ l=some xs/\G3 T a.nx ρ ys xs
 |[],ys,e=>by simp only [BP,qaf] at e;subst e;exact ⟨[],rfl,.nil⟩
 |(p,q,o)::r,ys,e=>by
  unfold BP at e;split at e;·cases e
  rename_i y hy;obtain ⟨ys',h1,rfl⟩:=qac.1 e;obtain ⟨x,hx,hg⟩:=dA h hy;obtain ⟨xs,hxs,hgs⟩:=F9 h h1;exact ⟨(p,q,x)::xs,by grind[kN],.cons hg hgs⟩
def za8 (zero:List AX):List (Nat×Nat×AX)->Option (List AX)
 |[]=>some zero
 |(off,size,x)::r=>match x.cells with
  |none=>none
  |some cs=>if cs.length==size then match AZ zero off cs with
   |none=>none
   |some z=>za8 z r else none
theorem TL:∀{ps:List (Nat×Nat×AX)} {qs:List (Nat×Nat×X)} {z r:List AX} {zx:List X},GL T n ρ z zx->G3 T n ρ ps qs->za8 z ps=some r->∃rx,EL zx qs=some rx/\GL T n ρ r rx
 |[],_,z,r,zx,hz,.nil,e=>by simp only [za8,qaf] at e;subst e;exact ⟨zx,rfl,hz⟩
 |(off,size,x)::ps,_,z,r,zx,hz,.cons h1 h2,e=>by
  unfold za8 at e;split at e;·cases e
  rename_i cs hc;obtain ⟨k1,k2⟩:=cells_ok h1 hc;split at e
  ·rename_i hl;split at e;·cases e
   rename_i z' hs;obtain ⟨xr,hx,hg⟩:=xw hz k2 hs;obtain ⟨rx,h3,h4⟩:=TL hg h2 e;refine ⟨rx,?_,h4⟩;unfold EL;rw [k1,<-k2.len,Bool.true_and,if_pos hl,hx]<;>simp_all
  grind
def zqX:AX->Option Lin
 |.sl _ _ _ _ l=>some l
 |.x (.sl _ _ es)=>some (.k es.length)
 |.bs _ _ l=>some l
 |_=>none
def zsB (a:ASt)(k:IntKind)(l:Lin):Out:=(inI a k l).getD (anyI a k)
def qj {α:Type}:List (Option α)->Option (List α)
 |[]=>some []
 |none::_=>none
 |some x::r=>(qj r).map (x::·)
theorem iq {α β:Type}{f:α->Option β}:∀{l:List α} {m:List β} {x:α},qj (l.map f)=some m->x∈l->∃y,f x=some y/\y∈m
 |z::l,m,x,e,hx=>by
  rw [qaS] at e;cases hz:f z with
  |none=>rw [hz] at e;cases e
  |some y=>
   rw [hz] at e;obtain ⟨m',hm,rfl⟩:=qac.1 e;rcases qak.1 hx with rfl|hx
   ·grind
   obtain ⟨w,h1,h2⟩:=iq hm hx<;>grind
def Ro:AX:=.x jg
def zmr:List Nat->List AX->List AX->Bool
 |[],[],[]=>true
 |0::ks,.i k _::xs,.i k' _::ys=>decide (k=k')&&zmr ks xs ys
 |1::ks,x::xs,y::ys=>(X6 x).isSome&&(X6 y).isSome&&zmr ks xs ys
 |2::ks,x::xs,y::ys=>isBool x&&isBool y&&zmr ks xs ys
 |_,_,_=>false
theorem zkX (h0:ρ 0=0)(hn:0<n):∀{ks:List Nat} {xs ys:List AX} {lx ly:List X},zmr ks xs ys=true->GL T n ρ xs lx->GL T n ρ ys ly->(uU ks lx ly).isSome=true:=by
 intro ks;induction ks with
 |nil=>
  intro xs ys lx ly h j l
  match xs,ys,h with
  |[],[],_=>cases j;cases l;rfl
 |cons k ks ih=>
  intro xs ys lx ly h j l;unfold zmr at h;split at h
  ·grind
  ·rename_i e;cases e;rw [qab] at h;cases j with
   |cons a t1=>cases l with
    |cons f t2=>
     cases a with
     |i _ _=>cases f with
      |i _ _=>
       have B:=of_decide_eq_true h.1;subst B;simp only [uU,if_true,Option.isSome_map]
       grind
  ·rename_i e;cases e;simp only [qab] at h;obtain ⟨⟨m,q⟩,h⟩:=h;cases j with
   |cons a t1=>cases l with
    |cons f t2=>
     obtain ⟨F,E⟩:=Option.isSome_iff_exists.1 m;obtain ⟨H,u⟩:=Option.isSome_iff_exists.1 q;obtain ⟨A,rfl,_⟩:=pq h0 hn a E;obtain ⟨y,rfl,_⟩:=pq h0 hn f u
     grind[uU]
  ·rename_i e;cases e;simp only [qab] at h;obtain ⟨⟨m,q⟩,h⟩:=h;cases j with
   |cons a t1=>cases l with
    |cons f t2=>
     obtain ⟨A,rfl⟩:=wK a m;obtain ⟨y,rfl⟩:=wK f q
     grind[uU]
  grind
def opV (T:Tab)(a:ASt):I->Option (List Out)
 |.mov x=>(a.ev x).map fun y=>[(y,a,fp0)]
 |.pick c x y=>match a.ev c,a.ev x,a.ev y with
  |some c,some x,some y=>znB a c x y
  |_,_,_=>none
 |.alloc zero=>if EW zero then some [(.ptr a.bx.length (.k 0) 0,{a with bx:=a.bx++[.var (zdK zero)]},⟨true,[],[a.bx.length]⟩)] else none
 |.box x=>match a.ev x with
  |some y=>y.cells.map fun cs=>[(.ptr a.bx.length (.k 0) 0,{a with bx:=a.bx++[.var cs]},⟨true,[],[a.bx.length]⟩)]
  |none=>none
 |.build zero parts=>if EW zero then match BP a parts with
  |none=>none
  |some ps=>(za8 (zdK zero) ps).map fun cs=>[(.agg cs,a,fp0)] else none
 |.load m p=>match a.ev p with
  |none=>none
  |some p=>match ziM T a p with
   |none=>none
   |some outs=>qj (outs.map fun q=>(takeA m q.1).map fun y=>(y,q.2,⟨false,p.zlA,[]⟩))
 |.store m p x=>match a.ev p,a.ev x with
  |some p,some y=>match y.cells with
   |none=>none
   |some cs=>(Ya T a m p cs).map fun a'=>[(Ro,a',⟨true,[],p.zlA⟩)]
  |_,_=>none
 |.bin op x y=>match a.ev x,a.ev y with
  |some x,some y=>zsH a op x y
  |_,_=>none
 |.beq neg x y=>match a.ev x,a.ev y with
  |some x,some y=>(zsJ neg x y).map fun z=>[(z,a,fp0)]
  |_,_=>none
 |.ceq ks _ x y=>match a.ev x,a.ev y with
  |some (.agg xs),some (.agg ys)=>if zmr ks xs ys then some [(.b [] [],a,fp0)] else none
  |_,_=>none
 |.un op x=>match op,a.ev x with
  |.not,some x=>(zme x).map fun z=>[(z,a,fp0)]
  |.neg,some (.i k l)=>some [zpz a k (.k 0) l]
  |.xor,some (.i k _)=>some [anyI a k]
  |_,_=>none
 |.conv k x=>match a.ev x with
  |some (.i _ l)=>some [zsB a k l]
  |_=>none
 |.idc x=>match a.ev x with
  |some y=>(X6 y).map fun _=>[(y,a,fp0)]
  |none=>none
 |.zmf f caps=>(zkT a caps).map fun cs=>[(.fn f cs,a,fp0)]
 |.Ws off p=>match a.ev p with
  |some (.ptr i e o)=>some [(.ptr i e (o+off),a,fp0)]
  |some (.dp cs)=>some [(.dp (cs.drop off),a,fp0)]
  |_=>none
 |.field m off x=>match a.ev x with
  |some (.agg cs)=>match m with
   |none=>(cs[off]?).map fun y=>[(y,a,fp0)]
   |some m=>if ((cs.drop off).take m).length==m then some [(.agg ((cs.drop off).take m),a,fp0)] else none
  |_=>none
 |.VD x=>match a.ev x with
  |some (.ptr i e o)=>some [(.ptr i e o,a,fp0)]
  |some (.dp cs)=>some [(.dp cs,a,fp0)]
  |some (.fn f cs)=>some [(.fn f cs,a,fp0)]
  |some (.yl i)=>some [(.yl i,a,fp0)]
  |_=>none
 |.extract x i=>match a.ev x with
  |some (.tup xs)=>(xs[i]?).map fun y=>[(y,a,fp0)]
  |_=>none
 |.len x=>match a.ev x with
  |some y=>(zqX y).map fun l=>[(.i .i64 l,a,fp0)]
  |none=>none
 |.slen x=>match a.ev x with
  |some y=>(X6 y).map fun l=>[(.i .i64 l,a,fp0)]
  |none=>none
 |.mm isMax l=>match zkT a l with
  |some [.i .i64 x,.i .i64 y]=>if isMax then some (outOf (assume a [ak y x]) (.i .i64 x)++outOf (assume a [ak x y]) (.i .i64 y))
    else some (outOf (assume a [ak x y]) (.i .i64 x)++outOf (assume a [ak y x]) (.i .i64 y))
  |_=>none
 |.VI x=>(a.ev x).map fun _=>[(.x .ifc,a,fp0)]
 |.zi0 neg x=>match a.ev x with
  |some (.x .ifc)=>some [(cb neg,a,fp0)]
  |some (.x (.v .nilIface))=>some [(cb (!neg),a,fp0)]
  |some .uf=>some [(.b [] [],a,fp0)]
  |_=>none
 |_=>none
theorem ziR (h0:ρ 0=0)(hn:0<n){l:Lin}(hg:G T n ρ y x)(h:zqX y=some l):l.s<n/\((∃t s es,x=.sl t s es/\(es.length:Int)=l.v ρ)\/∃i o m,x=.bs i o m/\(m:Int)=l.v ρ):=by
 unfold zqX at h;split at h
 ·cases h;cases hg with
  |sl h1 h2 h3 h4 h5=>grind
 ·cases h;cases hg;exact ⟨hn,.inl ⟨_,_,_,rfl,(Lin.k_v h0 _).symm⟩⟩
 ·cases h;cases hg with
  |bs h1 h2 h3 h4=>grind
 grind
theorem znK {a:ASt}{σ:St}{i:I}{outs:List Out}(hr:R T ρ a σ)(h:opV T a i=some outs):dU T ρ a σ i outs:=by
 unfold opV at h;split at h;next x=>obtain ⟨y,M,rfl⟩:=qac.1 h;obtain ⟨p,J,L⟩:=dA hr M;exact .one hr L (fun Γ=>by simp only [aG,J,qan];rfl)
 ·rename_i c x y;split at h
  ·rename_i c' x' y' n V e3;obtain ⟨pc,H,gc⟩:=dA hr n;obtain ⟨px,P,gx⟩:=dA hr V;obtain ⟨py,M,gy⟩:=dA hr e3;unfold znB at h;split at h
   ·cases h;cases gc with
    |b B E=>
     rename_i t;cases t with
     |true=>exact .left (sK hr (B rfl) gx (fun Γ=>by simp only [aG,H,P,M];rfl))
     |false=>exact .right (sK hr (E rfl) gy (fun Γ=>by simp only [aG,H,P,M];rfl))
   grind
  grind
 ·rename_i zero;split at h
  ·rename_i hb;cases h;refine ⟨_,qaa.2 rfl,ρ,.ptr σ.bx.length 0 0,σ.bx++[.var zero],.refl ..,⟨hr.zero,hr.pos,hr.F,hr.tm,hr.bx.snoc (.var (rC hr.zero hr.pos _ hb))⟩,?_,fun Γ=>?_⟩;·rw [hr.bx.len];exact .ptr hr.pos (Lin.k_v hr.zero 0).symm
   dsimp only [aG];rw [hr.bx.len]
  grind
 ·rename_i x;split at h
  ·rename_i y M;obtain ⟨U,H,rfl⟩:=qac.1 h;obtain ⟨p,J,L⟩:=dA hr M;obtain ⟨k1,k2⟩:=cells_ok L H;refine ⟨_,qaa.2 rfl,ρ,.ptr σ.bx.length 0 0,σ.bx++[.var p.cells],.refl ..,⟨hr.zero,hr.pos,hr.F,hr.tm,hr.bx.snoc (.var k2)⟩,?_,fun Γ=>?_⟩;·rw [hr.bx.len];exact .ptr hr.pos (Lin.k_v hr.zero 0).symm
   simp only [aG,J,k1,if_true];rw [hr.bx.len]
  grind
 ·rename_i zero pb;split at h
  ·rename_i hb;split at h;·cases h
   rename_i ps J;obtain ⟨U,H,rfl⟩:=qac.1 h;obtain ⟨xs,B,E⟩:=F9 hr J;obtain ⟨rx,Z,h4⟩:=TL (rC hr.zero hr.pos _ hb) E H;exact .one hr (.agg h4) (fun Γ=>by simp only [aG,B,Z,qan];rfl)
  grind
 ·rename_i m p;split at h;·cases h
  rename_i p' pd;obtain ⟨q,A,L⟩:=dA hr pd;split at h;·cases h
  rename_i ls Y;obtain ⟨r,pf,ρ',xs,m1,m2,m3,m4⟩:=zd0 hr L Y;obtain ⟨o,ho,pe⟩:=iq h pf;obtain ⟨y,M,rfl⟩:=qac.1 ho;obtain ⟨x,P,pa⟩:=zZ m3 M;refine ⟨_,pe,ρ',x,σ.bx,m1,m2,pa,fun Γ=>?_⟩<;>grind[oC,aG,Ui]
 ·rename_i m p x;split at h
  ·rename_i p' y' n V;obtain ⟨q,A,L⟩:=dA hr n;obtain ⟨z,hz,S⟩:=dA hr V;split at h;·cases h
   rename_i U H;obtain ⟨a',ha,rfl⟩:=qac.1 h;obtain ⟨k1,k2⟩:=cells_ok S H;obtain ⟨bx,B,E,Z⟩:=X9 hr L k1 k2 ha;exact ⟨_,qaa.2 rfl,ρ,jg,bx,⟨by grind,fun _ _=>rfl⟩,E,.x rfl,fun Γ=>by grind[aG,Ui]⟩
  grind
 ·grind[dA,zlu]
 ·rename_i N x y;split at h;next x' y' n V=>obtain ⟨p,J,u⟩:=dA hr n;obtain ⟨q,A,Q⟩:=dA hr V;obtain ⟨z,hz,rfl⟩:=qac.1 h;obtain ⟨b,c,rfl,rfl,S⟩:=zlx u Q hz;exact .one hr S (fun Γ=>by simp only [aG,J,A];rfl)
  grind
 ·rename_i ks N x y;split at h
  ·rename_i xs ys n V;obtain ⟨p,J,u⟩:=dA hr n;obtain ⟨q,A,Q⟩:=dA hr V;split at h
   ·rename_i H;cases h;cases u with
    |agg u=>cases Q with
     |agg Q=>obtain ⟨b,hb⟩:=Option.isSome_iff_exists.1 (zkX hr.zero hr.pos H u Q);exact .one hr (.b (fun _=>.nil) (fun _=>.nil)) (x:=.v (.bool (if N then !b else b))) (fun Γ=>by simp only [aG,J,A,hb,qan];rfl)
   grind
  grind
 ·rename_i op x;split at h;next x' n=>obtain ⟨p,J,u⟩:=dA hr n;obtain ⟨z,hz,rfl⟩:=qac.1 h;obtain ⟨b,rfl,L⟩:=Zw u hz;exact .one hr L (fun Γ=>by simp only [aG,J,zmF,qan];rfl)
  ·rename_i k l n;cases h;obtain ⟨p,J,u⟩:=dA hr n;cases u with
   |i B E=>subst E;exact X4 hr hr.pos B (fun Γ=>by simp only [aG,J,zmG,qan,Lin.k_v hr.zero];rfl)
  ·rename_i k l n;cases h;obtain ⟨p,J,u⟩:=dA hr n;cases u with
   |i B E=>subst E;obtain ⟨z,hz⟩:=zmE k (l.v ρ);exact l7 hr (kZ k z) (lg k z) (fun Γ=>by simp only [aG,J,hz,qan];rfl)
  grind
 ·rename_i k x;split at h
  ·rename_i k' l n;cases h;obtain ⟨p,J,u⟩:=dA hr n;cases u with
   |i B E=>subst E;exact Qq hr B rfl (fun Γ=>by simp only [aG,J];rfl)
  grind
 ·rename_i x;split at h;next y n=>obtain ⟨p,J,u⟩:=dA hr n;obtain ⟨l,Y,rfl⟩:=qac.1 h;obtain ⟨bs,rfl,B,E⟩:=pq hr.zero hr.pos u Y;exact .one hr u (fun Γ=>by simp only [aG,J];rfl)
  grind
 next f pg=>obtain ⟨U,H,rfl⟩:=qac.1 h;obtain ⟨xs,P,L⟩:=JD hr H;exact .one hr (.fn L) (fun Γ=>by simp only [aG,P,qan];rfl)
 ·rename_i W p;split at h
  ·rename_i j e o n;cases h;obtain ⟨q,A,u⟩:=dA hr n;cases u with
   |ptr B E=>exact .one hr (.ptr B E) (fun Γ=>by simp only [aG,A];rfl)
  ·rename_i U n;cases h;obtain ⟨q,A,u⟩:=dA hr n;cases u with
   |dp B=>exact .one hr (.dp (B.drop W)) (fun Γ=>by simp only [aG,A];rfl)
  grind
 ·rename_i m W x;split at h
  ·rename_i U n;obtain ⟨q,A,u⟩:=dA hr n;cases u with
   |agg B=>
    split at h;·obtain ⟨y,M,rfl⟩:=qac.1 h;obtain ⟨z,hz,L⟩:=B.get M;exact .one hr L (fun Γ=>by simp only [aG,A,hz,qan];rfl)
    rename_i m;split at h;next H=>cases h;have E:=(B.drop W).take m;rw [E.len] at H;exact .one hr (.agg E) (fun Γ=>by simp only [aG,A,if_pos H];rfl)
    grind
  grind
 ·rename_i x;split at h
  ·rename_i j e o n;cases h;obtain ⟨q,A,u⟩:=dA hr n;cases u with
   |ptr B E=>exact .one hr (.ptr B E) (fun Γ=>by simp only [aG,A];rfl)
  ·rename_i U n;cases h;obtain ⟨q,A,u⟩:=dA hr n;cases u with
   |dp B=>exact .one hr (.dp B) (fun Γ=>by simp only [aG,A];rfl)
  ·rename_i f U n;cases h;obtain ⟨q,A,u⟩:=dA hr n;cases u with
   |fn B=>exact .one hr (.fn B) (fun Γ=>by simp only [aG,A];rfl)
  next j n=>cases h;obtain ⟨q,A,u⟩:=dA hr n;cases u;exact .one hr .yl (fun Γ=>by simp only [aG,A];rfl)
  grind
 ·rename_i x j;split at h
  ·rename_i xs n;obtain ⟨q,A,u⟩:=dA hr n;cases u with
   |tup B=>obtain ⟨y,M,rfl⟩:=qac.1 h;obtain ⟨z,hz,L⟩:=B.get M;exact .one hr L (fun Γ=>by simp only [aG,A,hz,qan];rfl)
  grind
 ·rename_i x;split at h
  ·rename_i y n;obtain ⟨q,A,u⟩:=dA hr n;obtain ⟨l,Y,rfl⟩:=qac.1 h;obtain ⟨E,⟨t,s,es,rfl,Z⟩|⟨j,o,m,rfl,Z⟩⟩:=ziR hr.zero hr.pos u Y;·exact .one hr (.i E Z) (fun Γ=>by simp only [aG,A];rfl)
   exact .one hr (.i E Z) (fun Γ=>by simp only [aG,A];rfl)
  grind
 ·rename_i x;split at h;next y n=>obtain ⟨q,A,u⟩:=dA hr n;obtain ⟨l,Y,rfl⟩:=qac.1 h;obtain ⟨bs,rfl,B,E⟩:=pq hr.zero hr.pos u Y;exact .one hr (.i E B) (fun Γ=>by simp only [aG,A];rfl)
  grind
 ·rename_i O l;split at h
  ·rename_i x y n;obtain ⟨xs,P,L⟩:=JD hr n;cases L with
   |cons u Q=>
    cases Q with
    |cons Q g3=>
     cases g3;cases u with
     |i p1 p2=>
      cases Q with
      |i q1 q2=>
       subst p2;subst q2;split at h
       ·rename_i hm;subst hm;cases h;by_cases H:y.v ρ>x.v ρ;·exact .right (sK hr (fC p1 q1 (by omega)) (.i q1 rfl) (fun Γ=>by simp only [aG,P,mmV,if_true,if_pos H,qan];rfl))
        exact .left (sK hr (fC q1 p1 (by omega)) (.i p1 rfl) (fun Γ=>by simp only [aG,P,mmV,if_true,if_neg H,qan];rfl))
       rename_i hm;have hm:O=false:=by cases O with|true=>grind|false=>rfl
       subst hm;cases h;by_cases H:y.v ρ<x.v ρ;·exact .right (sK hr (fC q1 p1 (by omega)) (.i q1 rfl) (fun Γ=>by simp only [aG,P,mmV,qaP,if_false,if_pos H,qan];rfl))
       exact .left (sK hr (fC p1 q1 (by omega)) (.i p1 rfl) (fun Γ=>by simp only [aG,P,mmV,qaP,if_false,if_neg H,qan];rfl))
  grind
 next x=>obtain ⟨y,M,rfl⟩:=qac.1 h;obtain ⟨p,J,L⟩:=dA hr M;exact .one hr (.x rfl) (fun Γ=>by simp only [aG,J,qan];rfl)
 ·rename_i N x;split at h;next n=>cases h;obtain ⟨q,A,u⟩:=dA hr n;cases u;exact .one hr (zX N) (fun Γ=>by simp only [aG,A];rfl)
  next n=>cases h;obtain ⟨q,A,u⟩:=dA hr n;cases u;exact .one hr (zX (!N)) (fun Γ=>by simp only [aG,A];rfl)
  ·rename_i n;cases h;obtain ⟨q,A,u⟩:=dA hr n;cases u;·exact .one hr (.b (fun _=>.nil) (fun _=>.nil)) (fun Γ=>by simp only [aG,A];rfl)
   exact .one hr (.b (fun _=>.nil) (fun _=>.nil)) (fun Γ=>by simp only [aG,A];rfl)
  grind
 grind
end
section
variable {a:ASt}{l x y:Lin}{σ:St}
variable {T:Tab} {n:Nat} {ρ:Rho}
def grow (a:ASt)(Fs:List Fact):ASt:={a with nx:=a.nx+1,F:=Fs++a.F}
theorem Qn {z:Int}{Fs:List Fact}(hr:R T ρ a σ)(hF:aY (a.nx+1) (upd ρ a.nx z) Fs):R T (upd ρ a.nx z) (grow a Fs) σ:=by have f:=hr.more (gG ρ a.nx z);exact ⟨f.zero,f.pos,hF.append f.F,f.tm,f.bx⟩
def zmP (a:ASt)(x y:Lin):Option (Lin×ASt):=
 match Xk x y with
 |some l=>some (l,a)
 |none=>match low a.F x,low a.F y,high a.F x,high a.F y with
  |some lx,some ly,some hx,some hy=>some (⟨a.nx,0⟩,grow a [ak (x.up ly) ⟨a.nx,0⟩,ak (y.up lx) ⟨a.nx,0⟩,ak ⟨a.nx,0⟩ (x.up hy),ak ⟨a.nx,0⟩ (y.up hx)])
  |_,_,_,_=>none
theorem zhu {a':ASt}(hr:R T ρ a σ)(hx:x.s<a.nx)(hy:y.s<a.nx)(h:zmP a x y=some (l,a')):∃ρ',More a.nx ρ a'.nx ρ'/\R T ρ' a' σ/\l.s<a'.nx/\l.v ρ'=x.v ρ+y.v ρ:=by
 unfold zmP at h;split at h;next L e=>cases h;exact ⟨ρ,.refl ..,hr,En e hx hy,ql hr.zero e⟩
 split at h
 ·rename_i J B q n u j m A;cases h;have N:=wC hr.zero hr.F u;have H:=wC hr.zero hr.F j;have E:=jM hr.zero hr.F m;have M:=jM hr.zero hr.F A;have f:=gG ρ a.nx (x.v ρ+y.v ρ);refine ⟨upd ρ a.nx (x.v ρ+y.v ρ),f,Qn hr (aY.cons ?_ (aY.cons ?_ (aY.cons ?_ (aY.cons ?_ .nil)))),qae _,dP⟩;·exact aJ.2 ⟨qay hx,qae _,by rw [Lin.ny,dP,f.lin hx];omega⟩
  ·exact aJ.2 ⟨qay hy,qae _,by rw [Lin.ny,dP,f.lin hy];omega⟩
  ·exact aJ.2 ⟨qae _,qay hx,by rw [Lin.ny,dP,f.lin hx];omega⟩
  exact aJ.2 ⟨qae _,qay hy,by rw [Lin.ny,dP,f.lin hy];omega⟩
 grind
def yH (a:ASt)(x y:Lin):Lin×ASt:=
 match zl5 x y with
 |some l=>(l,a)
 |none=>(⟨a.nx,0⟩,grow a (ak (.k 0) ⟨a.nx,0⟩::((match low a.F y with|some ly=>[ak ⟨a.nx,0⟩ (x.up (-ly))]|none=>[])++(match high a.F y with|some hy=>[ak (x.up (-hy)) ⟨a.nx,0⟩]|none=>[]))))
theorem JH (hr:R T ρ a σ)(hx:x.s<a.nx)(hle:y.v ρ<=x.v ρ):∃ρ',More a.nx ρ (yH a x y).2.nx ρ'/\R T ρ' (yH a x y).2 σ/\(yH a x y).1.s<(yH a x y).2.nx/\(yH a x y).1.v ρ'=x.v ρ-y.v ρ/\(yH a x y).2.bx=a.bx:=by
 unfold yH;split;next l e=>exact ⟨ρ,.refl ..,hr,X3 hr.pos e hx,X0 hr.zero e,rfl⟩
 have f:=gG ρ a.nx (x.v ρ-y.v ρ);refine ⟨upd ρ a.nx (x.v ρ-y.v ρ),f,Qn hr (aY.cons ?_ (aY.append ?_ ?_)),qae _,dP,rfl⟩;·exact aJ.2 ⟨Nat.succ_pos _,qae _,by grind[dP,Lin.k_v,mg]⟩
 ·split;next h e=>have:=wC hr.zero hr.F e;exact aY.cons (aJ.2 ⟨qae _,qay hx,by rw [Lin.ny,dP,f.lin hx];omega⟩) .nil
  exact .nil
 split;next j e=>have:=jM hr.zero hr.F e;exact aY.cons (aJ.2 ⟨qay hx,qae _,by rw [Lin.ny,dP,f.lin hx];omega⟩) .nil
 exact .nil
def maxS (a:ASt)(x y:Lin):Lin×ASt:=if leL a.F x y then (y,a) else if leL a.F y x then (x,a) else (⟨a.nx,0⟩,grow a [ak x ⟨a.nx,0⟩,ak y ⟨a.nx,0⟩])
theorem ZF (hr:R T ρ a σ)(hx:x.s<a.nx)(hy:y.s<a.nx):∃ρ',More a.nx ρ (maxS a x y).2.nx ρ'/\R T ρ' (maxS a x y).2 σ/\(maxS a x y).1.s<(maxS a x y).2.nx/\x.v ρ<=(maxS a x y).1.v ρ'/\y.v ρ<=(maxS a x y).1.v ρ'/\(maxS a x y).2.bx=a.bx:=by
 unfold maxS;split;next h=>exact ⟨ρ,.refl ..,hr,hy,aU hr.F h,Int.le_refl _,rfl⟩
 split;next h=>exact ⟨ρ,.refl ..,hr,hx,Int.le_refl _,aU hr.F h,rfl⟩
 have f:=gG ρ a.nx (max (x.v ρ) (y.v ρ));refine ⟨upd ρ a.nx (max (x.v ρ) (y.v ρ)),f,Qn hr (aY.cons ?_ (aY.cons ?_ .nil)),qae _,by grind[dP],by grind[dP],rfl⟩;·exact aJ.2 ⟨qay hx,qae _,by rw [dP,f.lin hx];omega⟩
 exact aJ.2 ⟨qay hy,qae _,by rw [dP,f.lin hy];omega⟩
abbrev Names:=Nat->List Nat
variable {K:Names}
def zri:List AX->List Lin
 |[]=>[]
 |.sl _ _ _ h _::r=>h.up 1::zri r
 |_::r=>zri r
def kindOf (T:Tab)(K:Names)(F:List Fact)(sz:Nat)(rows:List (List AX)):Option (Nat×Lin):=
 (((rows.flatMap zri++[Lin.k 1,Lin.k 2,Lin.k 3]).flatMap fun H=>(K sz).map fun k=>(k,H)).find? fun q=>rows.all fun cs=>fits T F q.2 q.1 cs)
theorem MI {F:List Fact}{sz k:Nat}{H:Lin}{rows:List (List AX)}(h:kindOf T K F sz rows=some (k,H)):∀cs,cs∈rows->fits T F H k cs=true:=by grind[kindOf]
def BQ (a:ASt):List (Nat×Opd)->Option (List (Nat×AX))
 |[]=>some []
 |(p,o)::r=>match a.ev o with
  |none=>none
  |some x=>(BQ a r).map ((p,x)::·)
theorem Gf {a:ASt}{σ:St}(h:R T ρ a σ):∀{l:List (Nat×Opd)} {ys:List (Nat×AX)},BQ a l=some ys->∃xs,lF σ l=some xs/\GT T a.nx ρ ys xs
 |[],ys,e=>by simp only [BQ,qaf] at e;subst e;exact ⟨[],rfl,.nil⟩
 |(p,o)::r,ys,e=>by
  unfold BQ at e;split at e;·cases e
  rename_i y hy;obtain ⟨ys',h1,rfl⟩:=qac.1 e;obtain ⟨x,hx,hg⟩:=dA h hy;obtain ⟨xs,hxs,hgs⟩:=Gf h h1;exact ⟨(p,x)::xs,by grind[lF],.cons hg hgs⟩
def wZ (sz:Nat):Nat->List (Nat×AX)->Option (List (List AX))
 |_,[]=>some []
 |k,(i,x)::r=>match x.cells with
  |some cs=>if i==k&&cs.length==sz&&(qB cs).isEmpty then (wZ sz (k+1) r).map (cs::·) else none
  |none=>none
inductive GR (T:Tab) (n:Nat) (ρ:Rho):List (List AX)->qaX->Prop where
 |nil:GR T n ρ [] []
 |cons {a:List AX} {x:List X} {l:List (List AX)} {m:qaX}:GL T n ρ a x->GR T n ρ l m->GR T n ρ (a::l) (x::m)
theorem GR.len:∀{l:List (List AX)} {m:qaX},GR T n ρ l m->l.length=m.length
 |_,_,.nil=>rfl
 |_,_,.cons _ h=>by rw [qaG,qaG,h.len]
theorem GT.len:∀{l:List (Nat×AX)} {m:List (Nat×X)},GT T n ρ l m->l.length=m.length
 |_,_,.nil=>rfl
 |_,_,.cons _ h=>by rw [qaG,qaG,h.len]
theorem GR.mem:∀{l:List (List AX)} {m:qaX} {e:List X},GR T n ρ l m->e∈m->∃c,c∈l/\GL T n ρ c e
 |_,_,e,.cons h1 h2,hm=>by
  rcases qak.1 hm with rfl|hm
  ·grind
  obtain ⟨c,h3,h4⟩:=h2.mem hm<;>grind
theorem uQ {sz:Nat}:∀{l:List (Nat×AX)} {m:List (Nat×X)} {k:Nat} {rows:List (List AX)},GT T n ρ l m->wZ sz k l=some rows->∃es,qh sz k m=some es/\GR T n ρ rows es
 |_,_,k,rows,.nil,e=>by simp only [wZ,qaf] at e;subst e;exact ⟨[],rfl,.nil⟩
 |_,_,k,rows,.cons h1 h2,e=>by
  unfold wZ at e;split at e
  ·rename_i cs hc;obtain ⟨k1,k2⟩:=cells_ok h1 hc;split at e;next hb=>obtain ⟨r',h3,rfl⟩:=qac.1 e;obtain ⟨es,h4,h5⟩:=uQ h2 h3;simp only [qab] at hb;obtain ⟨⟨b1,b2⟩,b3⟩:=hb;refine ⟨_::es,?_,.cons k2 h5⟩;unfold qh;rw [k1,<-k2.len,k2.refs,b1,b2,b3]<;>simp_all
   grind
  grind
def blt (l:Lin)(n:Nat):Bool:=Nat.blt l.s n
theorem zbN {m:Nat}(h:blt l m=true):l.s<m:=by have:=Nat.le_of_ble_eq_true h;omega
def QY (T:Tab)(K:Names)(a:ASt)(len:Nat)(zero:List X)(parts:List (Nat×Opd)):Option (List Out):=
 match BQ a parts with
 |none=>none
 |some ps=>if len==ps.length then match wZ zero.length 0 ps with
  |none=>none
  |some []=>some [(.x (.sl true zero.length []),a,fp0)]
  |some rows=>match kindOf T K a.F zero.length rows with
   |some (k,H)=>if blt H a.nx then some [(.sl (some true) zero.length k H (.k rows.length),a,fp0)] else none
   |none=>none else none
theorem WR {len:Nat}{zero:List X}{parts:List (Nat×Opd)}{outs:List Out}(hr:R T ρ a σ)(h:QY T K a len zero parts=some outs):dU T ρ a σ (.Ef len zero parts) outs:=by
 unfold QY at h;split at h;·cases h
 rename_i O M;obtain ⟨N,u,j⟩:=Gf hr M;split at h
 ·rename_i l;rw [j.len] at l;split at h;·cases h
  next n=>cases h;obtain ⟨A,m,f⟩:=uQ j n;cases f;exact .one hr (.x rfl) (fun Γ=>by simp only [aG,u,l,if_true,m,qan];rfl)
  rename_i rows _ n;split at h
  ·rename_i k H B;split at h;next q=>cases h;obtain ⟨A,m,f⟩:=uQ j n;have y:=MI B;refine .one hr (.sl (zbN q) hr.pos rfl (by rw [Lin.k_v hr.zero,f.len]) fun e L=>?_) (fun Γ=>by simp only [aG,u,l,if_true,m,qan];rfl);obtain ⟨c,J,E⟩:=f.mem L;exact Qy hr.zero hr.F (y c J) E
   grind
  grind
 grind
end
section
variable {a:ASt}{y:AX}{k:IntKind}{l:Lin}{outs:List Out}{K:Names}{ox:Opd}{hi lo:Option Opd}{σ:St}{x:X}
variable {T:Tab} {n:Nat} {ρ:Rho}
theorem I7 (hg:G T n ρ (.i k l) x)(hk:k=.i64)(h:0<=l.v ρ):Xr x=some (l.v ρ).toNat:=by subst hk;cases hg<;>simp_all[Xr]
theorem Di (hg:G T n ρ (.i k l) x)(h:0<=l.v ρ):Jk x=some (l.v ρ).toNat:=by
 cases hg<;>simp_all[Jk]
def zcd (a:ASt)(d:Lin):Option Opd->Option Lin
 |none=>some d
 |some o=>match a.ev o with
  |some (.i .i64 l)=>if nonneg a.F l then some l else none
  |_=>none
theorem qZ (hr:R T ρ a σ){d:Lin}{dn:Nat}{o:Option Opd}(hd:(dn:Int)=d.v ρ)(hds:d.s<a.nx)(h:zcd a d o=some l):∃m,dR σ dn o=some m/\(m:Int)=l.v ρ/\l.s<a.nx:=by
 unfold zcd at h;split at h;·cases h;exact ⟨dn,rfl,hd,hds⟩
 rename_i o;split at h
 ·rename_i u e;split at h;next n=>cases h;obtain ⟨x,q,f⟩:=dA hr e;have j:=jm hr n;have y:=I7 f rfl j;cases f<;>grind[dR]
  grind
 grind
def zhC (a:ASt)(neg:Bool)(x:AX):Option (List Out):=match x with
 |.bs _ _ l=>if leL a.F (.k 1) l then some [(cb neg,a,fp0)] else none
 |.sl _ _ _ _ l=>if leL a.F (.k 1) l then some [(cb neg,a,fp0)] else none
 |_=>none
theorem zda (hr:R T ρ a σ){neg:Bool}(e:σ.ev ox=some x)(hg:G T a.nx ρ y x)(h:zhC a neg y=some outs):dU T ρ a σ (.zgc neg ox) outs:=by
 unfold zhC at h;split at h
 ·split at h
  ·rename_i f;cases h;have c:=aU hr.F f;rw [Lin.k_v hr.zero] at c;cases hg with
   |bs h1 h2 h3 h4=>rename_i n j;obtain ⟨m,rfl⟩:∃m,j=m+1:=⟨j-1,by omega⟩;exact .one hr (zX neg) (fun Γ=>by simp only [aG,e];rfl)
  grind
 ·split at h
  ·rename_i f;cases h;have c:=aU hr.F f;rw [Lin.k_v hr.zero] at c;cases hg with
   |sl h1 h2 h3 h4 h5=>
    rename_i q l;cases l with
    |nil=>grind
    |cons w r=>exact .one hr (zX neg) (fun Γ=>by simp only [aG,e];rfl)
  grind
 grind
def C9:List ET->Bool
 |[.i .u8 lo hi]=>(match lo with|none=>true|some a=>leI a 0)&&(match hi with|none=>true|some b=>leI 255 b)
 |_=>false
def JY (T:Tab)(K:Names):Option Nat:=(K 1).find? fun k=>(T k).any C9
theorem QX {k:Nat}(h:JY T K=some k)(b:UInt8):D T 1 k [.v (.int .u8 (b.toNat:Int))]:=by
 unfold JY at h;have l:=List.find?_some (p:=fun k=>(T k).any C9) h;obtain ⟨j,m,f⟩:=List.any_eq_true.1 l;refine dJ (Int.le_refl _) m ?_;unfold C9 at f;split at f
 ·rename_i n q;rw [qab] at f;have:=b.toNat_lt;refine ⟨⟨rfl,fun a e=>?_,fun c e=>?_⟩,trivial⟩
  ·grind[jK]
  grind[jK]
 grind
def zqD (T:Tab)(K:Names)(a:ASt)(x:AX):Option (List Out):=match X6 x,JY T K with
 |some l,some k=>some [(.sl (some false) 1 k (.k 1) l,a,fp0)]
 |_,_=>none
theorem zhM (hr:R T ρ a σ)(e:σ.ev ox=some x)(hg:G T a.nx ρ y x)(h:zqD T K a y=some outs):dU T ρ a σ (.s2b ox) outs:=by
 unfold zqD at h;split at h
 ·rename_i l k m q;cases h;obtain ⟨bs,rfl,n,j⟩:=pq hr.zero hr.pos hg m;refine .one hr (.sl hr.pos j rfl ?_ fun w f=>?_) (fun Γ=>by simp only [aG,e];rfl);·simp_all[byteRow]
  unfold byteRow at f;obtain ⟨b,_,rfl⟩:=qal.1 f;rw [Lin.k_v hr.zero]<;>grind[QX]
 grind
def QI (t:Option Bool)(whole:Bool):Option Bool:=if whole then t else match t with|some false=>some false|_=>none
theorem WE {t:Option Bool}{w:Bool}{tt:Bool}{h len:Nat}(hf:Dx t tt)(hw:w=true->h=len):Dx (QI t w) (tt&&h==len):=by
 unfold QI;split
 ·grind
 split;·cases hf;rfl
 trivial
def Ym (a:ASt)(sz:Nat)(x:AX)(lo hi mx:Option Opd):Option (List Out):=match x with
 |.sl t s k h len=>match zcd a (.k 0) lo,zcd a len hi with
  |some l,some r=>if Nat.beq s sz&&leL a.F l r&&leL a.F r len then
    match yH a r l with
    |(d,a')=>match mx with
     |none=>some [(.sl (QI t (eqL a.F r len)) s k h d,a',fp0)]
     |some m=>match a.ev m with
      |some (.i .i64 lm)=>if eqL a.F r lm&&nonneg a.F lm then some [(.sl (some true) s k h d,a',fp0)] else none
      |_=>none
    else none
  |_,_=>none
 |.x (.sl t s [])=>match zcd a (.k 0) lo,zcd a (.k 0) hi,mx with
  |some l,some r,none=>if Nat.beq s sz&&leL a.F l (.k 0)&&leL a.F r (.k 0) then some [(.x (.sl t s []),a,fp0)] else none
  |_,_,_=>none
 |.bs i o len=>match zcd a (.k 0) lo,zcd a len hi,mx with
  |some l,some r,none=>if leL a.F l r&&leL a.F r len then
    (if eqL a.F l r then some [(.x (.sl false sz []),a,fp0)]
     else if leL a.F (l.up 1) r then match a.bx[i]?,Xk o l with
     |some (.row s _ _ _),some o'=>if Nat.beq s sz then match yH a r l with
      |(d,a')=>some [(.bs i o' d,a',⟨false,[i],[]⟩)] else none
     |_,_=>none
     else none) else none
  |_,_,_=>none
 |_=>none
theorem Yl (hr:R T ρ a σ){sz:Nat}{mx:Option Opd}(e:σ.ev ox=some x)(hg:G T a.nx ρ y x)(h:Ym a sz y lo hi mx=some outs):dU T ρ a σ (.slice sz ox lo hi mx) outs:=by
 unfold Ym at h;split at h
 ·rename_i t s k hh len;cases hg with
  |sl g1 g2 g3 g4 g5=>
   rename_i tt N;split at h
   ·rename_i l r Y P;obtain ⟨n,M,n2,n3⟩:=qZ hr (dn:=0) (by rw [Lin.k_v hr.zero];rfl) hr.pos Y;obtain ⟨f,L,m2,Z⟩:=qZ hr (dn:=N.length) g4 g2 P;split at h
    ·rename_i u;simp only [qab] at u;obtain ⟨⟨H,V⟩,U⟩:=u;have Q:=aU hr.F V;have d3:=aU hr.F U;have H:=qai H;subst H;obtain ⟨ρ',j,B,A,J,W⟩:=JH hr Z Q;have q1:n<=f:=by omega
     have O:f<=N.length:=by omega
     generalize yH a r l=q at j B A J W h;obtain ⟨d,a'⟩:=q;dsimp only at j B A J W h;have E:((((N.take f).drop n).length:Nat):Int)=d.v ρ':=by rw [J,qaK,qah,Nat.min_eq_left O];omega
     have S:∀w,w∈(N.take f).drop n->D T (hh.v ρ') k w:=fun w hw=>by rw [j.lin g1]<;>grind
     split at h
     ·cases h;refine ⟨_,qaa.2 rfl,ρ',_,σ.bx,j,B,.sl (j.lt g1) A (WE (h:=f) (len:=N.length) g3 fun hw=>?_) E S,fun Γ=>?_⟩;·have:=Nu hr.F hw;omega
      simp only [aG,e,M,L,beq_self_eq_true,q1,O,decide_true,Bool.and_self,if_true];rfl
     rename_i m;split at h
     ·rename_i lm em;split at h
      ·rename_i hm;cases h;rw [qab] at hm;obtain ⟨xm,hx,pb⟩:=dA hr em;have k0:=jm hr hm.2;have k1:=I7 pb rfl k0;have k2:=Nu hr.F hm.1;have k3:(lm.v ρ).toNat=f:=by omega
       rw [k3] at k1;refine ⟨_,qaa.2 rfl,ρ',_,σ.bx,j,B,.sl (j.lt g1) A rfl E S,fun Γ=>?_⟩;simp only [aG,e,M,L,beq_self_eq_true,q1,O,decide_true,Bool.and_self,if_true,hx,Option.bind_some,k1];rfl
      grind
     grind
    grind
   grind
 ·rename_i t s;cases hg;split at h
  ·rename_i l r Y P;obtain ⟨n,M,n2,n3⟩:=qZ hr (dn:=0) (by rw [Lin.k_v hr.zero];rfl) hr.pos Y;obtain ⟨f,L,m2,Z⟩:=qZ hr (dn:=0) (by rw [Lin.k_v hr.zero];rfl) hr.pos P;split at h
   ·rename_i u;cases h;simp only [qab] at u;obtain ⟨⟨H,V⟩,U⟩:=u;have Q:=aU hr.F V;have d3:=aU hr.F U;rw [Lin.k_v hr.zero] at Q d3;have H:=qai H;subst H;have:n=0:=by omega
    subst this;have:f=0:=by omega
    subst this;exact .one hr (.x rfl) (fun Γ=>by simp only [aG,e,M,List.length_nil,L,beq_self_eq_true,Nat.le_refl,decide_true,if_true,List.take_nil,List.drop_nil,Bool.and_true];rfl)
   grind
  grind
 ·rename_i i o len;cases hg with
  |bs g1 g2 g3 g4=>
   rename_i o' l';split at h
   ·rename_i l r Y P;obtain ⟨n,M,n2,n3⟩:=qZ hr (dn:=0) (by rw [Lin.k_v hr.zero];rfl) hr.pos Y;obtain ⟨f,L,m2,Z⟩:=qZ hr (dn:=l') g4 g2 P;split at h
    ·rename_i u;simp at u;obtain ⟨V,U⟩:=u;have Q:=aU hr.F V;have d3:=aU hr.F U;have q1:n<=f:=by omega
     have O:f<=l':=by omega
     split at h
     ·rename_i he;cases h;have:=Nu hr.F he;have:n=f:=by omega
      subst this;exact .one hr (.x rfl) (fun Γ=>by simp only [aG,e,M,L,O,Nat.le_refl,decide_true,Bool.and_self,if_true,beq_self_eq_true];rfl)
     split at h
     ·rename_i pc;have d4:=aU hr.F pc;rw [Lin.ny] at d4;have pd:(n==f)=false:=by rw [beq_eq_false_iff_ne];omega
      split at h
      ·rename_i s kk hh ll o2 hb ha;split at h
       ·rename_i hs;have hs:=qai hs;subst hs;obtain ⟨ρ',j,B,A,J,W⟩:=JH hr Z Q;generalize yH a r l=q at j B A J W h;obtain ⟨d,a'⟩:=q;dsimp only at j B A J W h;cases h;obtain ⟨b,pe,pa⟩:=hr.bx.get hb;cases pa with
        |row _ _ _ _=>have ho:=En ha g1 n3;refine ⟨_,qaa.2 rfl,ρ',.bs i (o'+n) (f-n),σ.bx,j,B,.bs (j.lt ho) A (by rw [j.lin ho,ql hr.zero ha];omega) (by rw [J];omega),fun Γ=>?_⟩<;>simp_all[aG]
       grind
      grind
     grind
    grind
   grind
 grind
def Yk (a:ASt)(x:AX)(lo hi:Option Opd):Option (List Out):=match X6 x with
 |some len=>match zcd a (.k 0) lo,zcd a len hi with
  |some l,some r=>if leL a.F l r&&leL a.F r len then match yH a r l with
   |(d,a')=>some [(.s d,a',fp0)] else none
  |_,_=>none
 |none=>none
theorem extract_size {bs:qaY}{l r:Nat}(h1:l<=r)(h2:r<=bs.size):(bs.extract l r).size=r-l:=by simp_all
theorem Yj (hr:R T ρ a σ)(e:σ.ev ox=some x)(hg:G T a.nx ρ y x)(h:Yk a y lo hi=some outs):dU T ρ a σ (.tN ox lo hi) outs:=by
 unfold Yk at h;split at h
 ·rename_i len S;obtain ⟨bs,rfl,O,N⟩:=pq hr.zero hr.pos hg S;split at h
  ·rename_i l r Y L;obtain ⟨B,M,n2,n3⟩:=qZ hr (dn:=0) (by rw [Lin.k_v hr.zero];rfl) hr.pos Y;obtain ⟨f,J,m2,Q⟩:=qZ hr (dn:=bs.size) O N L;split at h
   ·rename_i u;simp at u;obtain ⟨W,U⟩:=u;have P:=aU hr.F W;have d3:=aU hr.F U;obtain ⟨ρ',j,n,m,E,A⟩:=JH hr Q P;have V:B<=f:=by omega
    have H:f<=bs.size:=by omega
    generalize yH a r l=q at j n m E A h;obtain ⟨d,Z⟩:=q;dsimp only at j n m E A h;cases h;refine ⟨_,qaa.2 rfl,ρ',.v (.string (bs.extract B f)),σ.bx,j,n,.s m (by grind[extract_size]),fun Γ=>?_⟩;simp only [aG,e,M,J,V,H,decide_true,Bool.and_self,if_true];rfl
   grind
  grind
 grind
end
section
variable {a:ASt}{y z:AX}{m sz:Nat}{oj ox:Opd}{σ:St}{j x:X}
variable {T:Tab} {n:Nat} {ρ:Rho}
def NC (l:Lin):Option Nat:=if Nat.beq l.s 0 then (match l.c with|.ofNat m=>some m|_=>none) else none
theorem DT (h0:ρ 0=0){l:Lin}(h:NC l=some m):l.v ρ=m:=by
 unfold NC at h;split at h;next e=>split at h<;>grind[Lin.v,qai]
 grind
theorem dU.outs {i:I}{fp:FP}{f:List AX×ASt->Out}{l:List (List AX×ASt)}{q:List AX×ASt}{ρ':Rho}(hq:q∈l)(hm:More a.nx ρ (f q).2.1.nx ρ')(hr:R T ρ' (f q).2.1 σ)(hg:G T (f q).2.1.nx ρ' (f q).1 x)(hfp:(f q).2.2=fp)(hs:∀Γ,aG Γ σ i=some (x,σ.bx,fp)):dU T ρ a σ i (l.map f):=
 ⟨f q,qal.2 ⟨q,hq,rfl⟩,ρ',x,σ.bx,hm,hr,hg,by grind⟩
def zaa (T:Tab)(a:ASt)(arr:Option Nat)(sz:Nat)(x j:AX):Option (List Out):=match j with
 |.i _ l=>if nonneg a.F l then match arr,x with
  |none,.sl _ s k h len=>if Nat.beq s sz&&leL a.F (l.up 1) len then some ((VU T a k h).map fun q=>(.dp q.1,q.2,fp0)) else none
  |none,.bs i o len=>match a.bx[i]?,Xk o l with
   |some (.row s _ _ _),some o'=>if Nat.beq s sz&&leL a.F (l.up 1) len then some [(.ptr i o' 0,a,⟨false,[i],[]⟩)] else none
   |_,_=>none
  |some len,.ptr i e o=>match NC l with
   |some m=>if Nat.blt m len then some [(.ptr i e (o+m*sz),a,fp0)] else none
   |none=>none
  |some len,.dp cs=>match NC l with
   |some m=>if Nat.blt m len then some [(.dp (cs.drop (m*sz)),a,fp0)] else none
   |none=>none
  |_,_=>none else none
 |_=>none
theorem eH {k:Nat}(h:Nat.blt m k=true):m<k:=by simp_all
theorem Z9 (hr:R T ρ a σ){arr:Option Nat}{outs:List Out}(e1:σ.ev ox=some x)(e2:σ.ev oj=some j)(g1:G T a.nx ρ y x)(g2:G T a.nx ρ z j)(h:zaa T a arr sz y z=some outs):dU T ρ a σ (.yu arr sz ox oj) outs:=by
 unfold zaa at h;split at h
 ·rename_i kd l;split at h
  ·rename_i hn;have O:=jm hr hn;have u:=Di g2 O;have J:l.s<a.nx:=by cases g2 with|i h1 _=>grind
   have L:=Int.toNat_of_nonneg O;generalize (l.v ρ).toNat=m at u L;split at h
   ·rename_i t s k Y len;split at h
    ·rename_i f;cases h;rw [qab] at f;have N:=aU hr.F f.2;rw [Lin.ny] at N;have A:=qai f.1;subst A;cases g1 with
     |sl q1 q2 q3 q4 q5=>rename_i tt S;obtain ⟨w,V,n⟩:=kV (l:=S) (i:=m) (by omega);obtain ⟨q,hq,ρ',Q,Z,U⟩:=Am hr q1 (q5 w n);exact .outs hq Q Z (.dp U) rfl (fun Γ=>by simp only [aG,e1,e2,Option.bind_some,u,beq_self_eq_true,if_true,V,qan];rfl)
    grind
   ·rename_i i o len;split at h
    ·rename_i s kk Y ll o' W P;split at h
     ·rename_i f;cases h;rw [qab] at f;have N:=aU hr.F f.2;rw [Lin.ny] at N;have A:=qai f.1;subst A;cases g1 with
      |bs q1 q2 q3 q4=>
       rename_i M ln;obtain ⟨b,pa,E⟩:=hr.bx.get W;cases E with
       |row _ _ _ _=>have pb:decide (m<ln)=true:=decide_eq_true (by omega);exact dU.one (x:=.ptr i (M+m) 0) hr (.ptr (En P q1 J) (by rw [ql hr.zero P];omega)) (fun Γ=>by simp_all[aG])
     grind
    grind
   ·rename_i len i e o;split at h
    ·rename_i B H;split at h
     ·rename_i f;cases h;have:=DT hr.zero H;have:m=B:=by omega
      subst this;cases g1 with
      |ptr q1 q2=>exact .one hr (.ptr q1 q2) (fun Γ=>by simp only [aG,e1,e2,Option.bind_some,u,if_pos (eH f)];rfl)
     grind
    grind
   ·rename_i len cs;split at h
    ·rename_i B H;split at h
     ·rename_i f;cases h;have:=DT hr.zero H;have:m=B:=by omega
      subst this;cases g1 with
      |dp q1=>exact .one hr (.dp (q1.drop _)) (fun Γ=>by simp only [aG,e1,e2,Option.bind_some,u,if_pos (eH f)];rfl)
     grind
    grind
   grind
  grind
 grind
def Yh (k:IntKind):List AX->Option (Int×Int)
 |[]=>none
 |[.i k' l]=>if k'=k&&Nat.beq l.s 0 then some (l.c,l.c) else none
 |.i k' l::r=>if k'=k&&Nat.beq l.s 0 then (Yh k r).map fun q=>(if leI l.c q.1 then l.c else q.1,if leI q.2 l.c then l.c else q.2) else none
 |_=>none
theorem RD (h0:ρ 0=0){k:IntKind}:∀{l:List AX} {m:List X} {lo hi:Int} {j:Nat} {x:X},GL T n ρ l m->Yh k l=some (lo,hi)->m[j]?=some x->∃z,x=.v (.int k z)/\lo<=z/\z<=hi
 |[a],_,lo,hi,j,x,.cons g1 .nil,h,hx=>by
  unfold Yh at h;split at h
  ·grind
  ·rename_i k' l heq;cases heq;split at h
   ·rename_i hc;cases h;simp only [qab,qaF] at hc;obtain ⟨rfl,c2⟩:=hc;cases j with
    |zero=>simp at hx;subst hx;cases g1<;>simp_all[Lin.v]
    |succ j=>grind
   grind
  ·grind
  grind
 |a::b::r,_,lo,hi,j,x,.cons g1 g2,h,hx=>by
  unfold Yh at h;split at h
  ·grind
  ·grind
  ·rename_i k' l r' _ heq;cases heq;split at h
   ·rename_i hc;obtain ⟨⟨lo',hi'⟩,hq,he⟩:=qac.1 h;dsimp only at he;cases he;simp only [qab,qaF] at hc;obtain ⟨rfl,c2⟩:=hc;have b1:∀u v:Int,(if leI u v then u else v)<=u/\(if leI u v then u else v)<=v:=fun u v=>by grind[jK]
    have b2:∀u v:Int,u<=(if leI u v then v else u)/\v<=(if leI u v then v else u):=fun u v=>by grind
    have d1:=b1 l.c lo';have d2:=b2 hi' l.c;cases j with
    |zero=>simp at hx;subst hx;cases g1<;>simp_all[Lin.v]
    |succ j=>
     obtain ⟨z,rfl,z1,z2⟩:=RD h0 g2 hq (by simpa using hx)
     grind
   grind
  grind
def zlN (a:ASt)(len sz:Nat)(m:Option Nat)(x j:AX):Option (List Out):=match x,j with
 |.agg cs,.i _ l=>match NC l with
  |some c=>if Nat.blt c len then (match m with
    |none=>(cs[c*sz]?).map fun y=>[(y,a,fp0)]
    |some m=>if ((cs.drop (c*sz)).take m).length==m then some [(.agg ((cs.drop (c*sz)).take m),a,fp0)] else none) else none
  |none=>match m,cs with
   |none,.i k _::_=>if Nat.beq sz 1&&Nat.beq cs.length len&&nonneg a.F l&&leL a.F (l.up 1) (.k len) then (Yh k cs).map fun q=>[Xq a k (bnd ⟨a.nx,0⟩ (some q.1) (some q.2))] else none
   |_,_=>none
 |_,_=>none
theorem zfH (hr:R T ρ a σ){len:Nat}{m:Option Nat}{outs:List Out}(e1:σ.ev ox=some x)(e2:σ.ev oj=some j)(g1:G T a.nx ρ y x)(g2:G T a.nx ρ z j)(h:zlN a len sz m y z=some outs):dU T ρ a σ (.zlO len sz m ox oj) outs:=by
 unfold zlN at h;split at h
 ·rename_i cs kd l;cases g1 with
  |agg q1=>
   rename_i J;split at h
   ·rename_i c q;have O:=DT hr.zero q;have n:=Di g2 (by omega);rw [O,Int.toNat_natCast] at n;split at h
    ·rename_i Q;have f:=eH Q;split at h;·obtain ⟨w,B,rfl⟩:=qac.1 h;obtain ⟨u,U,W⟩:=q1.get B;exact .one hr W (fun Γ=>by simp only [aG,e1,e2,Option.bind_some,n,if_pos f,U,qan];rfl)
     rename_i m;split at h;next H=>cases h;have N:=(q1.drop (c*sz)).take m;rw [N.len] at H;exact .one hr (.agg N) (fun Γ=>by simp only [aG,e1,e2,Option.bind_some,n,if_pos f,if_pos H];rfl)
     grind
    grind
   split at h
   ·rename_i k l' r;split at h
    ·rename_i q;obtain ⟨⟨lo,hi⟩,Y,rfl⟩:=qac.1 h;simp only [qab] at q;obtain ⟨⟨⟨A,M⟩,Z⟩,P⟩:=q;have A:=qai A;subst A;have M:=qai M;have S:=jm hr Z;have V:=aU hr.F P;rw [Lin.ny,Lin.k_v hr.zero] at V;have n:=Di g2 S;have L:=q1.len;have f:(l.v ρ).toNat<len:=by omega
     have E:J[(l.v ρ).toNat]?=some J[(l.v ρ).toNat]:=qad (by omega);obtain ⟨w,B,w1,w2⟩:=RD hr.zero q1 Y E;rw [B] at E;refine lJ hr (z:=w) (xg (mg hr _) (Nat.succ_pos _) (qae _) (by grind[dP]) (by grind[dP])) (fun Γ=>?_);simp only [aG,e1,e2,Option.bind_some,n,if_pos f,Nat.mul_one,E,qan];rfl
    grind
   grind
 grind
def zhG (a:ASt)(x j:AX):Option (List Out):=match X6 x,j with
 |some len,.i _ l=>if nonneg a.F l&&leL a.F (l.up 1) len then some [Xq a .u8 (bnd ⟨a.nx,0⟩ (some 0) (some 255))] else none
 |_,_=>none
theorem zde (hr:R T ρ a σ){outs:List Out}(e1:σ.ev ox=some x)(e2:σ.ev oj=some j)(g1:G T a.nx ρ y x)(g2:G T a.nx ρ z j)(h:zhG a y z=some outs):dU T ρ a σ (.zge ox oj) outs:=by
 unfold zhG at h;split at h
 ·rename_i len H l n;obtain ⟨bs,rfl,E,J⟩:=pq hr.zero hr.pos g1 n;split at h
  ·rename_i f;cases h;rw [qab] at f;have q:=jm hr f.1;have u:=aU hr.F f.2;rw [Lin.ny] at u;have B:=Di g2 q;have m:(l.v ρ).toNat<bs.size:=by omega
   have A:bs[(l.v ρ).toNat]?=some bs[(l.v ρ).toNat]:=getElem?_pos bs _ m;have:=(bs[(l.v ρ).toNat]).toNat_lt;refine lJ hr (z:=((bs[(l.v ρ).toNat]).toNat:Int)) (xg (mg hr _) (Nat.succ_pos _) (qae _) (by grind[dP]) (by grind[dP])) (fun Γ=>?_);simp only [aG,e1,e2,Option.bind_some,B,A];rfl
  grind
 grind
end
section
variable {a a':ASt}{xa y:AX}{own:Bool}{H h1 l l1:Lin}{e1 e2:qaX}{outs:List Out}{bytes k k1 m sz:Nat}{ox oy:Opd}{σ:St}{x:X}
variable {T:Tab} {n:Nat} {ρ:Rho}
def Vh (F:List Fact)(l:Lin)(bytes:Nat):Bool:=match high F l with
 |some (.ofNat c)=>dh c bytes
 |_=>false
theorem YN {c:Nat}(h:dh c bytes=true)(hm:m<=c):dh m bytes=true:=by simp only [dh,qab,qaF] at h ⊢;exact ⟨Nat.le_trans (qaB _ hm) h.1,by omega⟩
theorem Ag {F:List Fact}(h0:ρ 0=0)(hF:aY n ρ F)(h:Vh F l bytes=true)(hm:(m:Int)=l.v ρ):dh m bytes=true:=by
 unfold Vh at h;split at h;next c e=>have b:=jM h0 hF e<;>grind[YN]
 grind
def ziD (T:Tab)(K:Names)(a:ASt)(bytes:Nat)(zero:List X)(x c:AX):Option (List Out):=match x,c with
 |.i .i64 l,.i .i64 lc=>if nonneg a.F l&&leL a.F l lc&&Vh a.F lc bytes&&EW zero then match kindOf T K a.F zero.length [zdK zero] with
  |some (k,H)=>if blt H a.nx then some [(.bs a.bx.length (.k 0) l,{a with bx:=a.bx++[.row zero.length k H l]},⟨true,[],[a.bx.length]⟩)] else none
  |none=>none else none
 |_,_=>none
theorem zdN {K:Names}(hr:R T ρ a σ){zero:List X}{oc:Opd}{z:AX}{c:X}(e1:σ.ev ox=some x)(e2:σ.ev oc=some c)(g1:G T a.nx ρ y x)(g2:G T a.nx ρ z c)(h:ziD T K a bytes zero y z=some outs):dU T ρ a σ (.zgq bytes zero ox oc) outs:=by
 unfold ziD at h;split at h
 ·rename_i l u;split at h
  ·rename_i q;simp at q;obtain ⟨⟨⟨A,O⟩,N⟩,J⟩:=q;split at h
   ·rename_i k H E;split at h
    ·rename_i L;cases h;have P:=jm hr A;have Q:=aU hr.F O;have B:=I7 g1 rfl P;have M:=I7 g2 rfl (by omega);have j:l.s<a.nx:=by cases g1 with|i h1 _=>grind
     have hz:=Qy hr.zero hr.F (MI E _ (qaa.2 rfl)) (rC hr.zero hr.pos _ J);have f:=Ag hr.zero hr.F N (m:=(u.v ρ).toNat) (by omega);have n:(l.v ρ).toNat<=(u.v ρ).toNat:=by omega
     refine ⟨_,qaa.2 rfl,ρ,.bs σ.bx.length 0 (l.v ρ).toNat,σ.bx++[.row zero.length (List.replicate (l.v ρ).toNat zero)],.refl ..,⟨hr.zero,hr.pos,hr.F,hr.tm,hr.bx.snoc (.row (zbN L) j (by grind) fun w S=>?_)⟩,?_,fun Γ=>?_⟩
     ·grind
     ·rw [hr.bx.len];exact .bs hr.pos j (by rw [Lin.k_v hr.zero];rfl) (by omega)
     simp only [aG,e1,e2,Option.bind_some,B,M,n,f,decide_true,Bool.and_self,if_true];rw [hr.bx.len]
    grind
   grind
  grind
 grind
structure Src where
 sz:Nat
 k:Nat
 h:Lin
 l:Lin
variable {s:Src}
def zqy (a:ASt):AX->Option Src
 |.sl _ sz k h l=>some ⟨sz,k,h,l⟩
 |.x (.sl _ sz [])=>some ⟨sz,0,.k 1,.k 0⟩
 |.bs i o l=>match a.bx[i]?,Xk o l with
  |some (.row sz k h rl),some e=>if leL a.F e rl then some ⟨sz,k,h,l⟩ else none
  |_,_=>none
 |_=>none
def y5:AX->List Nat
 |.bs j _ _=>[j]
 |_=>[]
theorem zhA (hr:R T ρ a σ)(hg:G T a.nx ρ y x)(h:zqy a y=some s):∃es,pF σ.bx x=some (s.sz,es)/\s.h.s<a.nx/\s.l.s<a.nx/\(es.length:Int)=s.l.v ρ/\(∀e,e∈es->D T (s.h.v ρ) s.k e)/\x.rows=y5 y:=by
 unfold zqy at h;split at h
 ·cases h;cases hg with
  |sl h1 h2 h3 h4 h5=>exact ⟨_,rfl,h1,h2,h4,h5,rfl⟩
 ·cases h;cases hg;exact ⟨[],rfl,hr.pos,hr.pos,by rw [Lin.k_v hr.zero];rfl,(fun e M=>by grind),rfl⟩
 ·split at h
  ·rename_i L k J H e B E;split at h
   ·rename_i q;cases h;have c:=aU hr.F q;rw [ql hr.zero E] at c;cases hg with
    |bs q1 q2 q3 q4=>
     rename_i i o l j m;obtain ⟨b,A,f⟩:=hr.bx.get B;cases f with
     |row w1 w2 w3 w4=>
      rename_i es;have n:j+m<=es.length:=by omega
      refine ⟨(es.drop j).take m,by simp_all[pF,rowOf],w1,q2,?_,fun w u=>w4 w (List.mem_of_mem_drop (List.mem_of_mem_take u)),rfl⟩
      grind
   grind
  grind
 grind
def ziV (a:ASt)(k1:Nat)(h1 l1:Lin)(k2:Nat)(h2 l2:Lin):Option (Nat×Lin×ASt):=
 if leL a.F l1 (.k 0) then some (k2,h2,a)
 else if leL a.F l2 (.k 0) then some (k1,h1,a)
 else if Nat.beq k1 k2 then (match maxS a h1 h2 with|(H,a')=>some (k1,H,a')) else none
theorem zd6 (hr:R T ρ a σ){k2:Nat}{h2 l2:Lin}(s1:h1.s<a.nx)(s2:h2.s<a.nx)(n1:(e1.length:Int)=l1.v ρ)(n2:(e2.length:Int)=l2.v ρ)(d1:∀e,e∈e1->D T (h1.v ρ) k1 e)(d2:∀e,e∈e2->D T (h2.v ρ) k2 e)(h:ziV a k1 h1 l1 k2 h2 l2=some (k,H,a')):
  ∃ρ',More a.nx ρ a'.nx ρ'/\R T ρ' a' σ/\H.s<a'.nx/\(∀e,e∈e1++e2->D T (H.v ρ') k e)/\a'.bx=a.bx:=by
 unfold ziV at h;split at h;next f=>cases h;have c:=aU hr.F f;rw [Lin.k_v hr.zero] at c;have:e1=[]:=qaL (by omega);subst this;exact ⟨ρ,.refl ..,hr,s2,d2,rfl⟩
 split at h;next f=>cases h;have c:=aU hr.F f;rw [Lin.k_v hr.zero] at c;have:e2=[]:=qaL (by omega);subst this;exact ⟨ρ,.refl ..,hr,s1,by grind,rfl⟩
 grind[qai,ZF,gu]
def zqd (a:ASt)(bytes:Nat)(k1:Nat)(h1 l1:Lin)(s:Src):Option (Nat×Lin×Lin×ASt):=match zmP a l1 s.l with
 |some (N,a1)=>if Vh a1.F N bytes then match ziV a1 k1 h1 l1 s.k s.h s.l with
  |some (k,H,a2)=>some (k,H,N,a2)
  |none=>none else none
 |none=>none
theorem zhv {x y:Lin}(h:zmP a x y=some (l,a')):a'.bx=a.bx:=by
 unfold zmP at h;split at h
 ·grind
 split at h;·cases h;rfl
 grind
theorem zbT (hr:R T ρ a σ){N:Lin}(s1:h1.s<a.nx)(t1:l1.s<a.nx)(s2:s.h.s<a.nx)(t2:s.l.s<a.nx)(n1:(e1.length:Int)=l1.v ρ)(n2:(e2.length:Int)=s.l.v ρ)(d1:∀e,e∈e1->D T (h1.v ρ) k1 e)(d2:∀e,e∈e2->D T (s.h.v ρ) s.k e)(h:zqd a bytes k1 h1 l1 s=some (k,H,N,a')):
  ∃ρ',More a.nx ρ a'.nx ρ'/\R T ρ' a' σ/\H.s<a'.nx/\N.s<a'.nx/\((e1.length+e2.length:Nat):Int)=N.v ρ'/\(∀e,e∈e1++e2->D T (H.v ρ') k e)/\dh (e1.length+e2.length) bytes=true/\a'.bx=a.bx:=by
 unfold zqd at h;split at h
 ·rename_i O M y;obtain ⟨ρ1,f,m,q,u⟩:=zhu hr t1 t2 y;split at h
  ·rename_i j;split at h
   ·rename_i Q P U E;cases h;have B:((e1.length+e2.length:Nat):Int)=N.v ρ1:=by rw [u];omega
    obtain ⟨ρ2,n,L,J,A,S⟩:=zd6 m (f.lt s1) (f.lt s2) (by rw [f.lin t1];omega) (by rw [f.lin t2];omega) (by rw [f.lin s1]<;>grind) (by rw [f.lin s2]<;>grind) E;exact ⟨ρ2,f.trans n,L,J,n.lt q,by rw [n.lin q]<;>grind,A,Ag m.zero m.F j B,by grind[zhv]⟩
   grind
  grind
 grind
def zqc (own:Bool)(a:ASt)(sz bytes k1:Nat)(h1 l1:Lin)(x:AX)(s:Src):Option (List Out):=
 match zqd a bytes k1 h1 l1 s with
 |some (k,H,N,a')=>
  if own then
   if leL a.F (.k 1) s.l then some [(.bs a.bx.length (.k 0) N,{a' with bx:=a'.bx++[.row sz k H N]},⟨true,y5 x,[a.bx.length]⟩)] else none
  else some [(.sl (some false) sz k H N,a',⟨false,y5 x,[]⟩)]
 |none=>none
def zs3 (own:Bool)(a:ASt)(sz bytes:Nat)(y x:AX):Option (List Out):=match zqy a x with
 |none=>none
 |some s=>if Nat.beq s.sz sz then match y with
  |.sl (some true) sz0 k1 h1 l1=>if Nat.beq sz0 sz then
    (if own&&leL a.F s.l (.k 0)&&Vh a.F l1 bytes then some [(.sl (some true) sz k1 h1 l1,a,⟨true,y5 x,[]⟩)] else zqc own a sz bytes k1 h1 l1 x s) else none
  |.x (.sl true sz0 [])=>if Nat.beq sz0 sz then
    (if own&&leL a.F s.l (.k 0)&&Vh a.F (.k 0) bytes then some [(.x (.sl true sz []),a,⟨true,y5 x,[]⟩)] else zqc own a sz bytes 0 (.k 1) (.k 0) x s) else none
  |.bs i o l=>match a.bx[i]?,Xk o l with
   |some (.row sz0 k1 h1 rl),some e=>if Nat.beq sz0 sz&&eqL a.F e rl&&!rF i (y5 x) then match zqd a bytes k1 h1 l s with
    |some (k,H,N,a')=>some [(.bs a.bx.length (.k 0) N,{a' with bx:=a'.bx.set i .dead++[.row sz k H N]},⟨true,y5 x,[i,a.bx.length]⟩)]
    |none=>none else none
   |_,_=>none
  |_=>none else none
theorem zbS (hr:R T ρ a σ){es new:qaX}
  (s1:h1.s<a.nx) (t1:l1.s<a.nx) (s2:s.h.s<a.nx) (t2:s.l.s<a.nx) (n1:(es.length:Int)=l1.v ρ) (n2:(new.length:Int)=s.l.v ρ) (d1:∀e,e∈es->D T (h1.v ρ) k1 e) (d2:∀e,e∈new->D T (s.h.v ρ) s.k e)
  (e1:σ.ev oy=some (.sl true sz es)) (e2:σ.ev ox=some x) (hx:pF σ.bx x=some (sz,new)) (hrows:x.rows=y5 xa) (h:zqc own a sz bytes k1 h1 l1 xa s=some outs):dU T ρ a σ (.app own sz bytes oy ox) outs:=by
 unfold zqc at h;split at h
 ·rename_i k H N L E;obtain ⟨ρ',u,f,A,q,y,B,J,M⟩:=zbT hr s1 t1 s2 t2 n1 n2 d1 d2 E;split at h
  ·rename_i m;subst m;split at h
   ·rename_i n;cases h;have c:=aU hr.F n;rw [Lin.k_v hr.zero] at c;have j:new.isEmpty=false:=by
     cases new with
     |nil=>grind
     |cons w r=>rfl
    refine ⟨_,qaa.2 rfl,ρ',.bs σ.bx.length 0 (es.length+new.length),σ.bx++[.row sz (es++new)],u,⟨f.zero,f.pos,f.F,f.tm,f.bx.snoc (.row A q (by grind) B)⟩,?_,fun Γ=>?_⟩;·rw [hr.bx.len];exact .bs f.pos q (by rw [Lin.k_v f.zero];rfl) y
    simp only [aG,e1,e2,hx,beq_self_eq_true,Bool.not_true,qaP,if_false,J,Bool.and_self,if_true,j];rw [hr.bx.len,hrows]
   grind
  rename_i m;have m:own=false:=by cases own with|true=>grind|false=>rfl
  subst m;cases h;refine ⟨_,qaa.2 rfl,ρ',.sl false sz (es++new),σ.bx,u,f,.sl A q rfl (by rw [qaw];exact y) B,fun Γ=>?_⟩<;>simp_all[aG]
 grind
theorem zlE (hr:R T ρ a σ){u:X}(e1:σ.ev oy=some u)(e2:σ.ev ox=some x)(g1:G T a.nx ρ y u)(g2:G T a.nx ρ xa x)(h:zs3 own a sz bytes y xa=some outs):dU T ρ a σ (.app own sz bytes oy ox) outs:=by
 unfold zs3 at h;split at h;·cases h
 rename_i s hs;obtain ⟨f,Q,w2,W,Z,w5,S⟩:=zhA hr g2 hs;split at h
 ·rename_i A;have A:=qai A;rw [A] at Q;split at h
  ·rename_i q k1 h1 l1;split at h
   ·rename_i hz;have hz:=qai hz;subst hz;cases g1 with
    |sl q1 q2 q3 q4 q5=>
     rename_i tt M;cases q3;split at h;next n=>cases h;simp at n;obtain ⟨⟨ho,B⟩,L⟩:=n;subst ho;have c:=aU hr.F B;rw [Lin.k_v hr.zero] at c;have:f=[]:=qaL (by omega);subst this;have J:=Ag hr.zero hr.F L (m:=M.length) q4;refine .one hr (.sl q1 q2 rfl q4 q5) (fun Γ=>?_)<;>simp_all[aG]
     exact zbS hr q1 q2 w2 W q4 Z q5 w5 e1 e2 Q S h
   grind
  ·rename_i q;split at h
   ·rename_i hz;have hz:=qai hz;subst hz;cases g1;split at h;next n=>cases h;simp at n;obtain ⟨⟨ho,B⟩,L⟩:=n;subst ho;have c:=aU hr.F B;rw [Lin.k_v hr.zero] at c;have:f=[]:=qaL (by omega);subst this;have J:=Ag hr.zero hr.F L (m:=0) (by rw [Lin.k_v hr.zero];rfl);refine .one hr (.x rfl) (fun Γ=>?_)<;>simp_all[aG]
    exact zbS hr hr.pos hr.pos w2 W (by rw [Lin.k_v hr.zero];rfl) Z (fun e he=>by grind) w5 e1 e2 Q S h
   grind
  ·rename_i i o l;split at h
   ·rename_i q k1 h1 rl e hb ha;split at h
    ·rename_i n;simp only [qab] at n;obtain ⟨⟨B,L⟩,c3⟩:=n;have B:=qai B;subst B;have L:=Nu hr.F L;rw [ql hr.zero ha] at L;split at h
     ·rename_i k H N a' hk;cases h;cases g1 with
      |bs q1 q2 q3 q4=>
       rename_i j Y;obtain ⟨b,pa,V⟩:=hr.bx.get hb;cases V with
       |row r1 r2 r3 r4=>
        rename_i M;have U:(M.drop j).length=Y:=by rw [qaK];omega
        obtain ⟨ρ',p1,E,p3,p4,p5,p6,p7,p8⟩:=zbT hr (e1:=M.drop j) (e2:=f) r1 q2 w2 W (by grind) Z (fun e he=>r4 e (List.mem_of_mem_drop he)) w5 hk;rw [U] at p5 p7;have O:(j+Y==M.length)=true:=by rw [qaQ];omega
        have P:(!rF i x.rows)=true:=by rw [S];exact c3
        refine ⟨_,qaa.2 rfl,ρ',.bs σ.bx.length 0 (Y+f.length),σ.bx.set i .dead++[.row q (M.drop j++f)],p1,⟨E.zero,E.pos,E.F,E.tm,(E.bx.set i .dead).snoc (.row p3 p4 (by grind) p6)⟩,?_,fun Γ=>?_⟩;·rw [hr.bx.len];exact .bs E.pos p4 (by rw [Lin.k_v E.zero];rfl) p5
        simp only [aG,e1,e2,Q,beq_self_eq_true,Bool.not_true,qaP,if_false,pa,O,p7,P,Bool.and_self,if_true];rw [hr.bx.len,S]
     grind
    grind
   grind
  grind
 grind
end
section
variable {a:ASt}{y:AX}{ok:Bool}{outs:List Out}{σ:St}{x:X}
variable {T:Tab} {n:Nat} {ρ:Rho}
def TU:AX->Option Value
 |.i k l=>if Nat.beq l.s 0 then some (.int k l.c) else none
 |.x (.v (.string s))=>some (.string s)
 |_=>none
theorem Nz (h0:ρ 0=0){v:Value}(hg:G T n ρ y x)(h:TU y=some v):x=.v v:=by
 unfold TU at h;split at h
 ·split at h;next k l a=>cases h;cases hg<;>grind[Lin.v,qai]
  grind
 ·cases h;cases hg;rfl
 grind
def za7 (k:Value):List (Value×AX)->Nat->Option (Option (Nat×AX))
 |[],_=>some none
 |e::r,i=>match lQ k e.1 with
  |some true=>some (some (i,e.2))
  |some false=>za7 k r (i+1)
  |none=>none
theorem wR {k:Value}:∀{l:List (Value×AX)} {m:List (Value×X)} {i:Nat} {r:Option (Nat×AX)},GM T n ρ l m->za7 k l i=some r->(r=none/\iY k m i=some none)\/∃j y x,r=some (j,y)/\iY k m i=some (some (j,x))/\G T n ρ y x
 |_,_,i,r,.nil,h=>by cases h;exact .inl ⟨rfl,rfl⟩
 |_,_,i,r,.cons (k:=kk) g1 g2,h=>by
  unfold za7 at h;unfold iY;dsimp only at h ⊢;split at h
  ·grind
  next e=>rw [e];exact wR g2 h
  grind
theorem GM.set:∀{l:List (Value×AX)} {m:List (Value×X)} {k:Value} {y:AX} {x:X} (i:Nat),GM T n ρ l m->G T n ρ y x->GM T n ρ (l.set i (k,y)) (m.set i (k,x))
 |_,_,_,_,_,_,.nil,_=>.nil
 |_,_,_,_,_,0,.cons _ h,g=>.cons g h
 |_,_,_,_,_,i+1,.cons h1 h,g=>.cons h1 (h.set i g)
theorem GM.snoc:∀{l:List (Value×AX)} {m:List (Value×X)} {k:Value} {y:AX} {x:X},GM T n ρ l m->G T n ρ y x->GM T n ρ (l++[(k,y)]) (m++[(k,x)])
 |_,_,_,_,_,.nil,g=>.cons g .nil
 |_,_,_,_,_,.cons h1 h,g=>.cons h1 (h.snoc g)
theorem GM.len:∀{l:List (Value×AX)} {m:List (Value×X)},GM T n ρ l m->l.length=m.length
 |_,_,.nil=>rfl
 |_,_,.cons _ h=>by rw [qaG,qaG,h.len]
def zqN (k:Value)(y:AX)(es:List (Value×AX)):Option (List (Value×AX)):=match za7 k es 0 with
 |some none=>some (es++[(k,y)])
 |some (some (i,_))=>some (es.set i (k,y))
 |none=>none
theorem zid {k:Value}{l r:List (Value×AX)}{m:List (Value×X)}(hm:GM T n ρ l m)(hg:G T n ρ y x)(h:zqN k y l=some r):∃w,CG k x m=some w/\GM T n ρ r w:=by
 unfold zqN at h;split at h
 ·rename_i e;cases h;rcases wR hm e with ⟨_,a⟩|⟨_,_,_,a,_,_⟩;·exact ⟨_,by grind[CG],hm.snoc hg⟩
  grind
 ·rename_i i f e;cases h;rcases wR hm e with ⟨a,_⟩|⟨j,_,_,a,q,_⟩
  ·grind
  cases a;exact ⟨_,by grind[CG],hm.set _ hg⟩
 grind
def zj2 (ok:Bool)(y:AX)(b:Bool):AX:=if ok then .tup [y,cb b] else y
def zd5 (k:IntKind):List (Value×AX)->Bool
 |[]=>true
 |(.int k' _,_)::r=>decide (k'=k)&&zd5 k r
 |_=>false
def VK (a:ASt)(ok:Bool)(l:Lin):List (Value×AX)->List Out
 |[]=>[]
 |(.int _ c,y)::r=>outOf (assume a [ak l (.k c),ak (.k c) l]) (zj2 ok y true)++VK a ok l r
 |_::r=>VK a ok l r
def ziF (a:ASt)(kk:KK)(ok:Bool)(zero:X)(m k:AX):Option (List Out):=match m with
 |.mp i=>match a.bx[i]? with
  |some (.map es)=>if X.bare zero then match TU k with
   |some v=>if tK kk v then match za7 v es 0 with
    |some none=>some [(zj2 ok (ofX zero) false,a,⟨false,[i],[]⟩)]
    |some (some (_,y))=>some [(zj2 ok y true,a,⟨false,[i],[]⟩)]
    |none=>none else none
   |none=>match kk,k with
    |.int kd,.i kd' l=>if kd'=kd&&zd5 kd es then some ((VK a ok l es++[(zj2 ok (ofX zero) false,a,fp0)]).map fun o=>(o.1,o.2.1,⟨false,[i],[]⟩)) else none
    |_,_=>none else none
  |_=>none
 |_=>none
theorem Jq {b:Bool}(hg:G T n ρ y x):G T n ρ (zj2 ok y b) (if ok then .tup [x,.v (.bool b)] else x):=by
 unfold zj2;split;·exact .tup (.cons hg (.cons (zX b) .nil))
 grind
theorem SG {a:ASt}{σ:St}(hr:R T ρ a σ){ok:Bool}{l:Lin}{kd:IntKind}(hl:l.s<a.nx):∀{es:List (Value×AX)} {m:List (Value×X)} {i:Nat},GM T a.nx ρ es m->zd5 kd es=true->
  (iY (.int kd (l.v ρ)) m i=some none)\/∃j x,iY (.int kd (l.v ρ)) m i=some (some (j,x))/\∃o,o∈VK a ok l es/\More a.nx ρ o.2.1.nx ρ/\R T ρ o.2.1 σ/\G T o.2.1.nx ρ o.1 (if ok then .tup [x,.v (.bool true)] else x)
 |_,_,i,.nil,_=>.inl rfl
 |(.int k' c,y)::r,(_,x)::m,i,.cons g1 g2,h=>by
  unfold zd5 at h;rw [qab,qaF] at h;obtain ⟨rfl,h2⟩:=h;unfold iY;have hks:lQ (.int k' (l.v ρ)) (.int k' c)=some (l.v ρ==c):=by simp [lQ]
  rw [hks];cases hb:(l.v ρ==c) with
  |true=>right;have he:=eq_of_beq hb;have hf:aY a.nx ρ [ak l (.k c),ak (.k c) l]:=aY.cons (aJ.2 ⟨hl,hr.pos,by rw [Lin.k_v hr.zero];omega⟩) (fC hr.pos hl (by rw [Lin.k_v hr.zero];omega));obtain ⟨a',h3,h4,h5⟩:=kF hr hf;have hm:More a.nx ρ a'.nx ρ:=⟨by omega,fun _ _=>rfl⟩;refine ⟨i,x,rfl,(zj2 ok y true,a',fp0),?_,hm,h4,Jq (g1.more hm)⟩;unfold VK;rw [h3];exact List.mem_append_left _ (qaa.2 rfl)
  |false=>dsimp only;rcases SG (ok:=ok) hr hl (i:=i+1) g2 h2 with h3|⟨j,w,h3,o,ho,h4⟩<;>grind[VK]
theorem zdO (hr:R T ρ a σ){kk:KK}{zero:X}{om okk:Opd}{z:AX}{m k:X}(e1:σ.ev om=some m)(e2:σ.ev okk=some k)(g1:G T a.nx ρ y m)(g2:G T a.nx ρ z k)(h:ziF a kk ok zero y z=some outs):dU T ρ a σ (.zgr kk ok zero om okk) outs:=by
 unfold ziF at h;split at h
 ·rename_i i;cases g1;split at h
  ·rename_i S J;obtain ⟨b,P,A⟩:=hr.bx.get J;cases A with
   |map hm=>
    rename_i O;split at h
    ·rename_i hz;have f:=Zr (T:=T) hr.zero hr.pos zero hz;split at h
     ·rename_i v E;have:=Nz hr.zero g2 E;subst this;split at h
      ·rename_i W;split at h
       ·rename_i e;cases h;rcases wR hm e with ⟨_,q⟩|⟨_,_,_,q,_,_⟩;·exact .one hr (Jq f) (fun Γ=>by simp_all[aG,oz])
        grind
       ·rename_i j Y e;cases h;rcases wR hm e with ⟨q,_⟩|⟨_,_,_,q,V,Q⟩
        ·grind
        cases q;exact .one hr (Jq Q) (fun Γ=>by simp_all[aG,oz])
       grind
      grind
     split at h
     ·rename_i U u l _;split at h
      ·rename_i B;cases h;rw [qab,qaF] at B;obtain ⟨rfl,n⟩:=B;cases g2 with
       |i q1 q2=>
        subst q2;have M:tK (.int u) (.int u (l.v ρ))=true:=by simp [tK]
        rcases SG (ok:=ok) hr q1 (i:=0) hm n with q|⟨j,w,q,o,N,L,H,F⟩;·refine ⟨_,qal.2 ⟨_,List.mem_append_right _ (qaa.2 rfl),rfl⟩,ρ,_,σ.bx,.refl ..,hr,Jq f,fun Γ=>?_⟩<;>simp_all[aG,oz]
        refine ⟨_,qal.2 ⟨o,List.mem_append_left _ N,rfl⟩,ρ,_,σ.bx,L,H,F,fun Γ=>?_⟩<;>simp_all[aG,oz]
      grind
     grind
    grind
  grind
 grind
def opA (T:Tab)(K:Names)(a:ASt)(i:I):Option (List Out):=match i with
 |.Ef len zero parts=>QY T K a len zero parts
 |.zgc neg x=>match a.ev x with
  |some y=>zhC a neg y
  |none=>none
 |.s2b x=>match a.ev x with
  |some y=>zqD T K a y
  |none=>none
 |.slice sz x lo hi mx=>match a.ev x with
  |some y=>Ym a sz y lo hi mx
  |none=>none
 |.tN x lo hi=>match a.ev x with
  |some y=>Yk a y lo hi
  |none=>none
 |.yu arr sz x j=>match a.ev x,a.ev j with
  |some y,some z=>zaa T a arr sz y z
  |_,_=>none
 |.zlO len sz m x j=>match a.ev x,a.ev j with
  |some y,some z=>zlN a len sz m y z
  |_,_=>none
 |.zge x j=>match a.ev x,a.ev j with
  |some y,some z=>zhG a y z
  |_,_=>none
 |.zgq bytes zero x c=>match a.ev x,a.ev c with
  |some y,some z=>ziD T K a bytes zero y z
  |_,_=>none
 |.app own sz bytes s x=>match a.ev s,a.ev x with
  |some y,some z=>zs3 own a sz bytes y z
  |_,_=>none
 |.VH=>some [(.mp a.bx.length,{a with bx:=a.bx++[.map []]},⟨true,[],[a.bx.length]⟩)]
 |.zgp kk m k v=>match a.ev m,a.ev k,a.ev v with
  |some (.mp i),some k,some y=>match a.bx[i]?,TU k,y.cells with
   |some (.map es),some kv,some _=>if tK kk kv&&y.refs.isEmpty then (zqN kv y es).map fun es'=>[(Ro,{a with bx:=a.bx.set i (.map es')},⟨true,[],[i]⟩)] else none
   |_,_,_=>none
  |_,_,_=>none
 |.zgr kk ok zero m k=>match a.ev m,a.ev k with
  |some y,some z=>ziF a kk ok zero y z
  |_,_=>none
 |.ziC m=>match a.ev m with
  |some (.mp i)=>match a.bx[i]? with
   |some (.map es)=>some [(.i .i64 (.k es.length),a,⟨false,[i],[]⟩)]
   |_=>none
  |_=>none
 |i=>opV T a i
theorem znM {K:Names}{i:I}(hr:R T ρ a σ)(h:opA T K a i=some outs):dU T ρ a σ i outs:=by
 unfold opA at h;split at h
 ·grind[WR]
 ·grind[dA,zda]
 ·grind[dA,zhM]
 ·grind[dA,Yl]
 ·grind[dA,Yj]
 ·grind[dA,Z9]
 ·grind[dA,zfH]
 ·grind[dA,zde]
 ·grind[dA,zdN]
 ·grind[dA,zlE]
 ·cases h;refine ⟨_,qaa.2 rfl,ρ,.mp σ.bx.length,σ.bx++[.map []],.refl ..,⟨hr.zero,hr.pos,hr.F,hr.tm,hr.bx.snoc (.map .nil)⟩,?_,fun Γ=>?_⟩;·rw [hr.bx.len];exact .mp
  simp only [aG];rw [hr.bx.len]
 ·rename_i kk m k v;split at h
  ·rename_i i k' y E Q S;obtain ⟨N,H,u⟩:=dA hr E;obtain ⟨xk,V,M⟩:=dA hr Q;obtain ⟨U,O,B⟩:=dA hr S;cases u;split at h
   ·rename_i L kv cs q J A;obtain ⟨b,l,f⟩:=hr.bx.get q;cases f with
    |map hmm=>
     have:=Nz hr.zero M J;subst this;split at h
     ·rename_i j;obtain ⟨W,Z,rfl⟩:=qac.1 h;obtain ⟨w,P,n⟩:=zid hmm B Z;rw [qab] at j;have Y:ou U=true:=by unfold ou;rw [B.refs];exact j.2
      refine ⟨_,qaa.2 rfl,ρ,jg,σ.bx.set i (.map w),.refl ..,⟨hr.zero,hr.pos,hr.F,hr.tm,hr.bx.set i (.map n)⟩,.x rfl,fun Γ=>?_⟩;simp only [aG,H,V,O,l,j.1,(cells_ok B A).1,Y,Bool.and_self,if_true,P,qan]
     grind
   grind
  grind
 ·grind[dA,zdO]
 ·split at h
  ·rename_i i E;obtain ⟨N,H,u⟩:=dA hr E;cases u;split at h
   ·rename_i L q;cases h;obtain ⟨b,l,f⟩:=hr.bx.get q;cases f with
    |map hmm=>exact .one hr (.i hr.pos (by rw [Lin.k_v hr.zero,hmm.len])) (fun Γ=>by grind[aG])
   grind
  grind
 grind[znK]
end
section
variable {l p:Lin}
variable {T:Tab} {n m:Nat} {ρ ρ':Rho}
abbrev Sub:=Nat->Lin
variable {θ:Sub}
def Lin.sub (θ:Sub)(l:Lin):Lin:=(θ l.s).up l.c
def Fact.sub (θ:Sub)(f:Fact):Fact:=ak (θ f.x) ((θ f.y).up f.c)
def EX (m:Nat)(ρ:Rho)(n:Nat)(ρ':Rho)(θ:Sub):Prop:=∀s,s<m->(θ s).s<n/\(θ s).v ρ'=ρ s
theorem Lin.kU (h:EX m ρ n ρ' θ)(hl:l.s<m):(l.sub θ).s<n/\(l.sub θ).v ρ'=l.v ρ:=by obtain ⟨a,f⟩:=h l.s hl;exact ⟨a,by unfold Lin.sub;rw [Lin.ny,f];rfl⟩
theorem Fact.zmR {f:Fact}(h:EX m ρ n ρ' θ)(hf:f.ok m ρ):(f.sub θ).ok n ρ':=by obtain ⟨a,q,u⟩:=hf;obtain ⟨j,A⟩:=h _ a;obtain ⟨l,y⟩:=h _ q;exact aJ.2 ⟨j,l,by grind[Lin.ny]⟩
theorem aY.sub {F:List Fact}(h:EX m ρ n ρ' θ)(hf:aY m ρ F):aY n ρ' (F.map (Fact.sub θ)):=fun f j=>by obtain ⟨g,a,rfl⟩:=qal.1 j;exact Fact.zmR h (hf g a)
mutual
def AX.sub (θ:Sub):AX->AX
 |.i k l=>.i k (l.sub θ)
 |.b t u=>.b (t.map (Fact.sub θ)) (u.map (Fact.sub θ))
 |.s l=>.s (l.sub θ)
 |.x x=>.x x
 |.sl t sz k h l=>.sl t sz k (h.sub θ) (l.sub θ)
 |.bs i a b=>.bs i (a.sub θ) (b.sub θ)
 |.ptr i a o=>.ptr i (a.sub θ) o
 |.dp cs=>.dp (Oi θ cs)
 |.fn f cs=>.fn f (Oi θ cs)
 |.agg cs=>.agg (Oi θ cs)
 |.tup cs=>.tup (Oi θ cs)
 |.yl i=>.yl i
 |.mp i=>.mp i
 |.uf=>.uf
 |.el k h=>.el k (h.sub θ)
 |.de k h=>.de k (h.sub θ)
def Oi (θ:Sub):List AX->List AX
 |[]=>[]
 |x::r=>x.sub θ::Oi θ r
end
mutual
theorem G.sub {θ:Sub}(h:EX m ρ n ρ' θ):∀{a:AX} {x:X},G T m ρ a x->G T n ρ' (a.sub θ) x
 |_,_,.i h1 h2=>.i (Lin.kU h h1).1 (by rw [(Lin.kU h h1).2]<;>grind)
 |_,_,.b h1 h2=>.b (fun e=>(h1 e).sub h) (fun e=>(h2 e).sub h)
 |_,_,.s h1 h2=>.s (Lin.kU h h1).1 (by rw [(Lin.kU h h1).2]<;>grind)
 |_,_,.x h1=>.x h1
 |_,_,.sl h1 h2 h3 h4 h5=>.sl (Lin.kU h h1).1 (Lin.kU h h2).1 h3 (by rw [(Lin.kU h h2).2]<;>grind) (by rw [(Lin.kU h h1).2]<;>grind)
 |_,_,.bs h1 h2 h3 h4=>.bs (Lin.kU h h1).1 (Lin.kU h h2).1 (by rw [(Lin.kU h h1).2]<;>grind) (by rw [(Lin.kU h h2).2]<;>grind)
 |_,_,.ptr h1 h2=>.ptr (Lin.kU h h1).1 (by rw [(Lin.kU h h1).2]<;>grind)
 |_,_,.dp h1=>.dp (GL.sub h h1)
 |_,_,.fn h1=>.fn (GL.sub h h1)
 |_,_,.agg h1=>.agg (GL.sub h h1)
 |_,_,.tup h1=>.tup (GL.sub h h1)
 |_,_,.yl=>.yl
 |_,_,.mp=>.mp
 |_,_,.ifc=>.ifc
 |_,_,.Gt=>.Gt
 |_,_,.el h1 h2=>.el (Lin.kU h h1).1 (by rw [(Lin.kU h h1).2]<;>grind)
 |_,_,.de h1 h2=>.de (Lin.kU h h1).1 (by rw [(Lin.kU h h1).2]<;>grind)
theorem GL.sub {θ:Sub}(h:EX m ρ n ρ' θ):∀{a:List AX} {x:List X},GL T m ρ a x->GL T n ρ' (Oi θ a) x
 |_,_,.nil=>.nil
 |_,_,.cons h1 h2=>.cons (G.sub h h1) (GL.sub h h2)
end
def ABx.sub (θ:Sub):ABx->ABx
 |.var cs=>.var (Oi θ cs)
 |.row s k h l=>.row s k (h.sub θ) (l.sub θ)
 |.loop st p tm ps a b=>.loop st p (tm.map fun q=>(q.1,q.2.sub θ)) ps a b
 |.map es=>.map (es.map fun q=>(q.1,q.2.sub θ))
 |.dead=>.dead
 |.el k h=>.el k (h.sub θ)
theorem GT.sub (h:EX m ρ n ρ' θ):∀{a:List (Nat×AX)} {x:List (Nat×X)},GT T m ρ a x->GT T n ρ' (a.map fun q=>(q.1,q.2.sub θ)) x
 |_,_,.nil=>.nil
 |_,_,.cons h1 h2=>.cons (h1.sub h) (h2.sub h)
theorem GM.sub (h:EX m ρ n ρ' θ):∀{a:List (Value×AX)} {x:List (Value×X)},GM T m ρ a x->GM T n ρ' (a.map fun q=>(q.1,q.2.sub θ)) x
 |_,_,.nil=>.nil
 |_,_,.cons h1 h2=>.cons (h1.sub h) (h2.sub h)
theorem GB.sub (h:EX m ρ n ρ' θ):∀{a:ABx} {x:Bx},GB T m ρ a x->GB T n ρ' (a.sub θ) x
 |_,_,.var h1=>.var (h1.sub h)
 |_,_,.row h1 h2 h3 h4=>.row (Lin.kU h h1).1 (Lin.kU h h2).1 (by rw [(Lin.kU h h2).2]<;>grind) (by rw [(Lin.kU h h1).2]<;>grind)
 |_,_,.loop h1=>.loop (h1.sub h)
 |_,_,.map h1=>.map (h1.sub h)
 |_,_,.dead=>.dead
 |_,_,.el h1 h2=>.el (Lin.kU h h1).1 (by rw [(Lin.kU h h1).2]<;>grind)
theorem GBs.sub (h:EX m ρ n ρ' θ):∀{a:List ABx} {x:List Bx},GBs T m ρ a x->GBs T n ρ' (a.map (ABx.sub θ)) x
 |_,_,.nil=>.nil
 |_,_,.cons h1 h2=>.cons (h1.sub h) (h2.sub h)
structure In where
 S:Nat->Nat->Bool
 F:List Fact
 θ:Sub
 m:Nat
variable {c:In}
def lEq (c:In)(l p:Lin):Bool:=Nat.blt p.s c.m&&eqL c.F l (p.sub c.θ)
def lLe (c:In)(l p:Lin):Bool:=Nat.blt p.s c.m&&leL c.F l (p.sub c.θ)
def TI (t p:Option Bool):Bool:=match p with
 |none=>true
 |some b=>match t with
  |some c=>c==b
  |none=>false
def xEq:X->X->Bool
 |.v .nilFunc,.v .nilFunc=>true
 |.v .nilIface,.v .nilIface=>true
 |.v (.pointer none),.v (.pointer none)=>true
 |.v (.map none),.v (.map none)=>true
 |.v (.tuple ⟨[]⟩),.v (.tuple ⟨[]⟩)=>true
 |.ifc,.ifc=>true
 |.sl t s [],.sl t' s' []=>(t==t')&&Nat.beq s s'
 |.v (.string a),.v (.string b)=>decide (a=b)
 |_,_=>false
theorem XA {x y:X}(h:xEq x y=true):x=y:=by
 unfold xEq at h;split at h<;>first
  |rfl
  |(rw [qab] at h;rw [eq_of_beq h.1,qai h.2])
  |(rw [of_decide_eq_true h])
  |cases h
mutual
def leX (c:In):AX->AX->Bool
 |.i k l,.i k' p=>decide (k=k')&&lEq c l p
 |.b _ _,.b [] []=>true
 |.b _ u,.b [] [g]=>(g==bot)&&u.any (fun f=>f==bot)
 |.b t u,.b [g] []=>(g==bot)&&!u.any (fun f=>f==bot)&&t.any (fun f=>f==bot)
 |.s l,.s p=>lEq c l p
 |.x (.v (.string bs)),.s p=>lEq c (.k bs.size) p
 |.sl t sz k h l,.sl t' sz' k' h' l'=>TI t t'&&Nat.beq sz sz'&&Nat.blt h'.s c.m&&lEq c l l'&&(leL c.F l (.k 0)||(c.S k k'&&lLe c h h'))
 |.x (.sl t sz []),.sl t' sz' _ h' l'=>TI (some t) t'&&Nat.beq sz sz'&&Nat.blt h'.s c.m&&lEq c (.k 0) l'
 |.x x,.x y=>xEq x y
 |.x x,.uf=>xEq x .ifc||xEq x (.v .nilIface)
 |.bs i o l,.bs i' o' l'=>Nat.beq i i'&&lEq c o o'&&lEq c l l'
 |.ptr i e o,.ptr i' e' o'=>Nat.beq i i'&&lEq c e e'&&Nat.beq o o'
 |.dp cs,.dp ps=>zd3 c cs ps
 |.fn f cs,.fn g ps=>Nat.beq f g&&zd3 c cs ps
 |.agg cs,.agg ps=>zd3 c cs ps
 |.tup cs,.tup ps=>zd3 c cs ps
 |.yl i,.yl j=>Nat.beq i j
 |.mp i,.mp j=>Nat.beq i j
 |.uf,.uf=>true
 |.el k h,.el k' h'=>c.S k k'&&lLe c h h'
 |_,_=>false
def zd3 (c:In):List AX->List AX->Bool
 |[],[]=>true
 |a::l,b::r=>leX c a b&&zd3 c l r
 |_,_=>false
end
def back (θ:Sub)(ρ:Rho):Rho:=fun s=>(θ s).v ρ
theorem o9 (θ:Sub)(ρ:Rho)(l:Lin):(l.sub θ).v ρ=l.v (back θ ρ):=by unfold Lin.sub back;rw [Lin.ny];rfl
theorem wF (hF:aY n ρ c.F)(h:lEq c l p=true):p.s<c.m/\l.v ρ=p.v (back c.θ ρ):=by unfold lEq at h;rw [qab] at h;exact ⟨eH h.1,by rw [<-o9]<;>grind[Nu]⟩
theorem SQ (hF:aY n ρ c.F)(h:lLe c l p=true):p.s<c.m/\l.v ρ<=p.v (back c.θ ρ):=by unfold lLe at h;rw [qab] at h;exact ⟨eH h.1,by rw [<-o9];exact aU hF h.2⟩
theorem Nk {t p:Option Bool}{b:Bool}(h:TI t p=true)(hf:Dx t b):Dx p b:=by
 unfold TI at h;split at h;·trivial
 grind
theorem zbW {n:Nat}{ρ:Rho}{fs:List Fact}(hb:fs.any (fun f=>f==bot)=true):¬aY n ρ fs:=fun j=>by obtain ⟨f,a,l⟩:=List.any_eq_true.1 hb;have:=eq_of_beq l;subst this;exact Uh (fun g h=>by rw [qaa.1 h];exact j _ a)
mutual
theorem SL {c:In}(hS:SOk T c.S)(h0:ρ 0=0)(hF:aY n ρ c.F):∀{a p:AX} {x:X},leX c a p=true->G T n ρ a x->G T c.m (back c.θ ρ) p x:=by
 intro a p x h f;unfold leX at h;split at h
 ·rw [qab,qaF] at h;obtain ⟨rfl,O⟩:=h;obtain ⟨y,B⟩:=wF hF O;cases f with
  |i q1 q2=>exact .i y (by grind)
 ·cases f;exact .b (fun _=>.nil) (fun _=>.nil)
 ·rw [qab] at h;cases f with
  |b q1 q2=>
   rename_i t;cases t with
   |true=>exact .b (fun _=>.nil) (fun e=>by cases e)
   |false=>simp_all[zbW]
 ·simp only [qab] at h;cases f with
  |b q1 q2=>
   rename_i t;cases t with
   |false=>exact .b (fun e=>by cases e) (fun _=>.nil)
   |true=>simp_all[zbW]
 ·obtain ⟨y,B⟩:=wF hF h;cases f with
  |s q1 q2=>exact .s y (by grind)
 ·obtain ⟨y,B⟩:=wF hF h;cases f;exact .s y (by grind[Lin.k_v])
 ·simp only [qab,Bool.or_eq_true] at h;obtain ⟨⟨⟨⟨j,l⟩,u⟩,H⟩,A⟩:=h;have l:=qai l;subst l;obtain ⟨y,B⟩:=wF hF H;cases f with
  |sl q1 q2 q3 q4 q5=>
   refine .sl (eH u) y (Nk j q3) (by grind) fun e J=>?_;rcases A with A|⟨A,M⟩;·have:=aU hF A<;>grind[Lin.k_v]
   exact hS A (gu (SQ hF M).2 (q5 e J))
 ·simp only [qab] at h;obtain ⟨⟨⟨j,l⟩,u⟩,H⟩:=h;have l:=qai l;subst l;obtain ⟨y,B⟩:=wF hF H;cases f;exact .sl (eH u) y (Nk j rfl) (by grind[Lin.k_v]) (fun e J=>by grind)
 ·rw [<-XA h];cases f with
  |x q=>exact .x q
 ·rw [Bool.or_eq_true] at h;cases f;rcases h with h|h;·rw [XA h];exact .ifc
  rw [XA h];exact .Gt
 ·simp only [qab] at h;obtain ⟨⟨j,l⟩,u⟩:=h;have j:=qai j;subst j;obtain ⟨E,N⟩:=wF hF l;obtain ⟨L,P⟩:=wF hF u;cases f with
  |bs q1 q2 q3 q4=>exact .bs E L (by grind) (by grind)
 ·simp only [qab] at h;obtain ⟨⟨j,l⟩,u⟩:=h;have j:=qai j;have u:=qai u;subst j;subst u;obtain ⟨E,N⟩:=wF hF l;cases f with
  |ptr q1 q2=>exact .ptr E (by grind)
 ·cases f with|dp q=>exact .dp (uJ hS h0 hF h q)
 ·rw [qab] at h;have j:=qai h.1;subst j;cases f with|fn q=>exact .fn (uJ hS h0 hF h.2 q)
 ·cases f with|agg q=>exact .agg (uJ hS h0 hF h q)
 ·cases f with|tup q=>exact .tup (uJ hS h0 hF h q)
 ·have j:=qai h;subst j;cases f;exact .yl
 ·have j:=qai h;subst j;cases f;exact .mp
 ·cases f;·exact .ifc
  exact .Gt
 ·rw [qab] at h;have l:=SQ hF h.2;cases f with|el q1 q2=>exact .el l.1 (hS h.1 (gu l.2 q2))
 grind
theorem uJ {c:In}(hS:SOk T c.S)(h0:ρ 0=0)(hF:aY n ρ c.F):∀{a p:List AX} {x:List X},zd3 c a p=true->GL T n ρ a x->GL T c.m (back c.θ ρ) p x
 |[],[],_,_,.nil=>.nil
 |a::l,b::r,_,h,.cons h1 h2=>by unfold zd3 at h;rw [qab] at h;exact .cons (SL hS h0 hF h.1 h1) (uJ hS h0 hF h.2 h2)
end
end
end Go.Ab
