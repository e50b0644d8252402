/-.-/
import Derived.Test.YtcbeoccmflnejaaGreatDoorEmU9
set_option linter.all false
namespace Go.Ab
open Go.Em
section
variable {a y:AX}{x:X}
variable {T:Tab} {n:Nat} {ρ:Rho}
def AX.zd6:AX->List Nat
 |.ptr j _ _=>[j]
 |_=>[]
theorem LX (h:G T n ρ a x):boxesRead x=a.zd6:=by
 cases h with
 |x hr=>
  cases x<;>first
   |rfl
   |grind[X.refs]
 |_=>rfl
def known:AX->Option Bool
 |.b tf ff=>if ff.any (fun f=>f==bot) then some true else if tf.any (fun f=>f==bot) then some false else none
 |_=>none
theorem LW (h:aV n ρ [bot]):False:=by
 have:=(h bot (qaa.2 rfl)).2.2
 grind[bot]
theorem KT {b t:Bool}(hg:G T n ρ a (.v (.bool t)))(h:known a=some b):t=b:=by
 have m:∀{fs:List Fact},fs.any (fun f=>f==bot)=true->¬aV n ρ fs:=fun {fs} hb hf=>by obtain ⟨f,j,l⟩:=List.any_eq_true.1 hb;have:=eq_of_beq l;subst this;exact LW (fun g hg=>by rw [qaa.1 hg];exact hf _ j)
 unfold known at h;split at h
 ·cases hg with
  |b j l=>grind
 grind
def zew:AX->Option AX
 |.b tf ff=>some (.b ff tf)
 |_=>none
theorem Q7 (hg:G T n ρ a x)(h:zew a=some y):∃b,x=.v (.bool b)/\G T n ρ y (.v (.bool !b)):=by
 unfold zew at h;split at h
 ·cases h;cases hg with
  |b h1 h2=>exact ⟨_,rfl,.b (fun e=>h2 (by grind)) (fun e=>h1 (by grind))⟩
 grind
def isBool:AX->Bool
 |.b _ _=>true
 |_=>false
theorem qj (hg:G T n ρ a x)(h:isBool a=true):∃b,x=.v (.bool b):=by
 unfold isBool at h;split at h;·cases hg<;>simp_all
 grind
def zka (neg:Bool)(x y:AX):Option AX:=
 if isBool x&&isBool y then
  match known y with
  |some c=>if c==!neg then some x else zew x
  |none=>match known x with
   |some c=>if c==!neg then some y else zew y
   |none=>some (.b [] [])
 else none
theorem zd5 {neg:Bool}{x z:AX}{p q:X}(h1:G T n ρ x p)(h2:G T n ρ y q)(h:zka neg x y=some z):∃b c,p=.v (.bool b)/\q=.v (.bool c)/\G T n ρ z (.v (.bool (if neg then !(b==c) else b==c))):=by
 unfold zka at h;split at h
 ·rename_i f;rw [qab] at f;obtain ⟨b,rfl⟩:=qj h1 f.1;obtain ⟨c,rfl⟩:=qj h2 f.2;refine ⟨b,c,rfl,rfl,?_⟩;have a:∀{w u:AX} {d e:Bool},G T n ρ w (.v (.bool d))->(if e==!neg then some w else zew w)=some u->G T n ρ u (.v (.bool (if neg then !(d==e) else d==e))):=fun {w u d e} hw hu=>by
   split at hu;·simp_all
   rename_i A;obtain ⟨m,l,B⟩:=Q7 hw hu<;>simp_all
  split at h;next e j=>have:=KT h2 j;subst this;exact a h1 h
  split at h;next e j=>have:=KT h1 j;subst this;have:=a h2 h<;>grind
  cases h;exact .b (fun _=>.nil) (fun _=>.nil)
 grind
def wM (a:ASt):List (Nat×Nat×Opd)->Option (List (Nat×Nat×AX))
 |[]=>some []
 |(p,q,o)::r=>match a.ev o with
  |none=>none
  |some x=>(wM a r).map ((p,q,x)::·)
inductive G3 (T:Tab) (n:Nat) (ρ:Rho):List (Nat×Nat×AX)->List (Nat×Nat×X)->Prop where
 |nil:G3 T n ρ [] []
 |cons {p q:Nat} {a:AX} {x:X} {l:List (Nat×Nat×AX)} {m:List (Nat×Nat×X)}:G T n ρ a x->G3 T n ρ l m->G3 T n ρ ((p,q,a)::l) ((p,q,x)::m)
theorem Aa {a:ASt}{σ:St}(h:R T ρ a σ):∀{l:List (Nat×Nat×Opd)} {ys:List (Nat×Nat×AX)},wM a l=some ys->∃xs,parts3 σ l=some xs/\G3 T a.nx ρ ys xs
 |[],ys,e=>by simp only [wM,qah] at e;subst e;exact ⟨[],rfl,.nil⟩
 |(p,q,o)::r,ys,e=>by
  unfold wM at e;split at e;·cases e
  rename_i y hy;obtain ⟨ys',h1,rfl⟩:=qac.1 e;obtain ⟨x,hx,hg⟩:=bH h hy;obtain ⟨xs,hxs,hgs⟩:=Aa h h1;exact ⟨(p,q,x)::xs,by grind[parts3],.cons hg hgs⟩
def Tc (zero:List AX):List (Nat×Nat×AX)->Option (List AX)
 |[]=>some zero
 |(off,size,x)::r=>match x.cells with
  |none=>none
  |some cs=>if cs.length==size then match vZ zero off cs with
   |none=>none
   |some z=>Tc z r else none
theorem Lp:∀{ps:List (Nat×Nat×AX)} {qs:List (Nat×Nat×X)} {z r:List AX} {zx:List X},GL T n ρ z zx->G3 T n ρ ps qs->Tc z ps=some r->∃rx,fillX zx qs=some rx/\GL T n ρ r rx
 |[],_,z,r,zx,hz,.nil,e=>by simp only [Tc,qah] at e;subst e;exact ⟨zx,rfl,hz⟩
 |(off,size,x)::ps,_,z,r,zx,hz,.cons h1 h2,e=>by
  unfold Tc at e;split at e;·cases e
  rename_i cs hc;obtain ⟨k1,k2⟩:=cells_ok h1 hc;split at e
  ·rename_i hl;split at e;·cases e
   rename_i z' hs;obtain ⟨xr,hx,hg⟩:=qN hz k2 hs;obtain ⟨rx,h3,h4⟩:=Lp hg h2 e;refine ⟨rx,?_,h4⟩;unfold fillX;rw [k1,<-k2.len,Bool.true_and,if_pos hl,hx]<;>simp_all
  grind
def ziE:AX->Option Lin
 |.sl _ _ _ _ l=>some l
 |.x (.sl _ _ es)=>some (.k es.length)
 |.bs _ _ l=>some l
 |_=>none
def zjZ (a:ASt)(k:IntKind)(l:Lin):Out:=(inI a k l).getD (anyI a k)
def kU {α:Type}:List (Option α)->Option (List α)
 |[]=>some []
 |none::_=>none
 |some x::r=>(kU r).map (x::·)
theorem dY {α β:Type}{f:α->Option β}:∀{l:List α} {m:List β} {x:α},kU (l.map f)=some m->x∈l->∃y,f x=some y/\y∈m
 |z::l,m,x,e,hx=>by
  rw [qaR] at e;cases hz:f z with
  |none=>rw [hz] at e;cases e
  |some y=>
   rw [hz] at e;obtain ⟨m',hm,rfl⟩:=qac.1 e;rcases qal.1 hx with rfl|hx
   ·grind
   obtain ⟨w,h1,h2⟩:=dY hm hx<;>grind
def J4:AX:=.x undefX
def zeC:List Nat->List AX->List AX->Bool
 |[],[],[]=>true
 |0::ks,.i k _::xs,.i k' _::ys=>decide (k=k')&&zeC ks xs ys
 |1::ks,x::xs,y::ys=>(PN x).isSome&&(PN y).isSome&&zeC ks xs ys
 |2::ks,x::xs,y::ys=>isBool x&&isBool y&&zeC ks xs ys
 |_,_,_=>false
theorem zdn (h0:ρ 0=0)(hn:0<n):∀{ks:List Nat} {xs ys:List AX} {lx ly:List X},zeC ks xs ys=true->GL T n ρ xs lx->GL T n ρ ys ly->(aggEq ks lx ly).isSome=true:=by
 intro ks;induction ks with
 |nil=>
  intro xs ys lx ly h j l
  match xs,ys,h with
  |[],[],_=>cases j;cases l;rfl
 |cons k ks ih=>
  intro xs ys lx ly h j l;unfold zeC at h;split at h
  ·grind
  ·rename_i e;cases e;rw [qab] at h;cases j with
   |cons a t1=>cases l with
    |cons f t2=>
     cases a with
     |i _ _=>cases f with
      |i _ _=>
       have B:=of_decide_eq_true h.1;subst B;simp only [aggEq,if_true,Option.isSome_map]
       grind
  ·rename_i e;cases e;simp only [qab] at h;obtain ⟨⟨m,q⟩,h⟩:=h;cases j with
   |cons a t1=>cases l with
    |cons f t2=>
     obtain ⟨E,y⟩:=Option.isSome_iff_exists.1 m;obtain ⟨F,A⟩:=Option.isSome_iff_exists.1 q;obtain ⟨u,rfl,_⟩:=kQ h0 hn a y;obtain ⟨w,rfl,_⟩:=kQ h0 hn f A
     grind[aggEq]
  ·rename_i e;cases e;simp only [qab] at h;obtain ⟨⟨m,q⟩,h⟩:=h;cases j with
   |cons a t1=>cases l with
    |cons f t2=>
     obtain ⟨u,rfl⟩:=qj a m;obtain ⟨w,rfl⟩:=qj f q
     grind[aggEq]
  grind
def opV (T:Tab)(a:ASt):I->Option (List Out)
 |.mov x=>(a.ev x).map fun y=>[(y,a,fp0)]
 |.pick c x y=>match a.ev c,a.ev x,a.ev y with
  |some c,some x,some y=>zfL a c x y
  |_,_,_=>none
 |.alloc zero=>if zq zero then some [(.ptr a.bx.length (.k 0) 0,{a with bx:=a.bx++[.var (WB zero)]},⟨true,[],[a.bx.length]⟩)] else none
 |.box x=>match a.ev x with
  |some y=>y.cells.map fun cs=>[(.ptr a.bx.length (.k 0) 0,{a with bx:=a.bx++[.var cs]},⟨true,[],[a.bx.length]⟩)]
  |none=>none
 |.build zero parts=>if zq zero then match wM a parts with
  |none=>none
  |some ps=>(Tc (WB zero) ps).map fun cs=>[(.agg cs,a,fp0)] else none
 |.load m p=>match a.ev p with
  |none=>none
  |some p=>match zbx T a p with
   |none=>none
   |some outs=>kU (outs.map fun q=>(takeA m q.1).map fun y=>(y,q.2,⟨false,p.zd6,[]⟩))
 |.store m p x=>match a.ev p,a.ev x with
  |some p,some y=>match y.cells with
   |none=>none
   |some cs=>(PU T a m p cs).map fun a'=>[(J4,a',⟨true,[],p.zd6⟩)]
  |_,_=>none
 |.bin op x y=>match a.ev x,a.ev y with
  |some x,some y=>zj8 a op x y
  |_,_=>none
 |.beq neg x y=>match a.ev x,a.ev y with
  |some x,some y=>(zka neg x y).map fun z=>[(z,a,fp0)]
  |_,_=>none
 |.ceq ks _ x y=>match a.ev x,a.ev y with
  |some (.agg xs),some (.agg ys)=>if zeC ks xs ys then some [(.b [] [],a,fp0)] else none
  |_,_=>none
 |.un op x=>match op,a.ev x with
  |.not,some x=>(zew x).map fun z=>[(z,a,fp0)]
  |.neg,some (.i k l)=>some [zho a k (.k 0) l]
  |.xor,some (.i k _)=>some [anyI a k]
  |_,_=>none
 |.conv k x=>match a.ev x with
  |some (.i _ l)=>some [zjZ a k l]
  |_=>none
 |.idc x=>match a.ev x with
  |some y=>(PN y).map fun _=>[(y,a,fp0)]
  |none=>none
 |.mkfn f caps=>(zdj a caps).map fun cs=>[(.fn f cs,a,fp0)]
 |.faddr off p=>match a.ev p with
  |some (.ptr i e o)=>some [(.ptr i e (o+off),a,fp0)]
  |some (.dp cs)=>some [(.dp (cs.drop off),a,fp0)]
  |_=>none
 |.field m off x=>match a.ev x with
  |some (.agg cs)=>match m with
   |none=>(cs[off]?).map fun y=>[(y,a,fp0)]
   |some m=>if ((cs.drop off).take m).length==m then some [(.agg ((cs.drop off).take m),a,fp0)] else none
  |_=>none
 |.nilck x=>match a.ev x with
  |some (.ptr i e o)=>some [(.ptr i e o,a,fp0)]
  |some (.dp cs)=>some [(.dp cs,a,fp0)]
  |some (.fn f cs)=>some [(.fn f cs,a,fp0)]
  |some (.yl i)=>some [(.yl i,a,fp0)]
  |_=>none
 |.extract x i=>match a.ev x with
  |some (.tup xs)=>(xs[i]?).map fun y=>[(y,a,fp0)]
  |_=>none
 |.len x=>match a.ev x with
  |some y=>(ziE y).map fun l=>[(.i .i64 l,a,fp0)]
  |none=>none
 |.slen x=>match a.ev x with
  |some y=>(PN y).map fun l=>[(.i .i64 l,a,fp0)]
  |none=>none
 |.mm isMax l=>match zdj a l with
  |some [.i .i64 x,.i .i64 y]=>if isMax then some (outOf (assume a [au y x]) (.i .i64 x)++outOf (assume a [au x y]) (.i .i64 y))
    else some (outOf (assume a [au x y]) (.i .i64 x)++outOf (assume a [au y x]) (.i .i64 y))
  |_=>none
 |.mkifc x=>(a.ev x).map fun _=>[(.x .ifc,a,fp0)]
 |.inil neg x=>match a.ev x with
  |some (.x .ifc)=>some [(cb neg,a,fp0)]
  |some (.x (.v .nilIface))=>some [(cb (!neg),a,fp0)]
  |some .nX=>some [(.b [] [],a,fp0)]
  |_=>none
 |_=>none
theorem zbB (h0:ρ 0=0)(hn:0<n){l:Lin}(hg:G T n ρ y x)(h:ziE y=some l):l.s<n/\((∃t s es,x=.sl t s es/\(es.length:Int)=l.v ρ)\/∃i o m,x=.bs i o m/\(m:Int)=l.v ρ):=by
 unfold ziE at h;split at h
 ·cases h;cases hg with
  |sl h1 h2 h3 h4 h5=>grind
 ·cases h;cases hg;exact ⟨hn,.inl ⟨_,_,_,rfl,(Lin.k_v h0 _).symm⟩⟩
 ·cases h;cases hg with
  |bs h1 h2 h3 h4=>grind
 grind
theorem zfP {a:ASt}{σ:St}{i:I}{outs:List Out}(hr:R T ρ a σ)(h:opV T a i=some outs):OpOk T ρ a σ i outs:=by
 unfold opV at h;split at h;next x=>obtain ⟨y,L,rfl⟩:=qac.1 h;obtain ⟨p,H,J⟩:=bH hr L;exact .one hr J (fun Γ=>by simp only [stepI,H,qao];rfl)
 ·rename_i c x y;split at h
  ·rename_i c' x' y' n S e3;obtain ⟨pc,E,gc⟩:=bH hr n;obtain ⟨px,O,gx⟩:=bH hr S;obtain ⟨py,L,gy⟩:=bH hr e3;unfold zfL at h;split at h
   ·cases h;cases gc with
    |b A B=>
     rename_i t;cases t with
     |true=>exact .left (nC hr (A rfl) gx (fun Γ=>by simp only [stepI,E,O,L];rfl))
     |false=>exact .right (nC hr (B rfl) gy (fun Γ=>by simp only [stepI,E,O,L];rfl))
   grind
  grind
 ·rename_i zero;split at h
  ·rename_i Z;cases h;refine ⟨_,qaa.2 rfl,ρ,.ptr σ.bx.length 0 0,σ.bx++[.var zero],.refl ..,⟨hr.zero,hr.pos,hr.F,hr.tm,hr.bx.snoc (.var (lT hr.zero hr.pos _ Z))⟩,?_,fun Γ=>?_⟩;·rw [hr.bx.len];exact .ptr hr.pos (Lin.k_v hr.zero 0).symm
   dsimp only [stepI];rw [hr.bx.len]
  grind
 ·rename_i x;split at h
  ·rename_i y L;obtain ⟨Q,E,rfl⟩:=qac.1 h;obtain ⟨p,H,J⟩:=bH hr L;obtain ⟨k1,k2⟩:=cells_ok J E;refine ⟨_,qaa.2 rfl,ρ,.ptr σ.bx.length 0 0,σ.bx++[.var p.cells],.refl ..,⟨hr.zero,hr.pos,hr.F,hr.tm,hr.bx.snoc (.var k2)⟩,?_,fun Γ=>?_⟩;·rw [hr.bx.len];exact .ptr hr.pos (Lin.k_v hr.zero 0).symm
   simp only [stepI,H,k1,if_true];rw [hr.bx.len]
  grind
 ·rename_i zero pf;split at h
  ·rename_i Z;split at h;·cases h
   rename_i ps H;obtain ⟨Q,E,rfl⟩:=qac.1 h;obtain ⟨xs,A,B⟩:=Aa hr H;obtain ⟨rx,Y,h4⟩:=Lp (lT hr.zero hr.pos _ Z) B E;exact .one hr (.agg h4) (fun Γ=>by simp only [stepI,A,Y,qao];rfl)
  grind
 ·rename_i m p;split at h;·cases h
  rename_i p' pd;obtain ⟨q,w,J⟩:=bH hr pd;split at h;·cases h
  rename_i ls V;obtain ⟨r,pe,ρ',xs,m1,m2,m3,m4⟩:=WS hr J V;obtain ⟨o,ho,pb⟩:=dY h pe;obtain ⟨y,L,rfl⟩:=qac.1 ho;obtain ⟨x,O,pa⟩:=uS m3 L;refine ⟨_,pb,ρ',x,σ.bx,m1,m2,pa,fun Γ=>?_⟩<;>grind[loadX,stepI,LX]
 ·rename_i m p x;split at h
  ·rename_i p' y' n S;obtain ⟨q,w,J⟩:=bH hr n;obtain ⟨z,hz,U⟩:=bH hr S;split at h;·cases h
   rename_i Q E;obtain ⟨a',ha,rfl⟩:=qac.1 h;obtain ⟨k1,k2⟩:=cells_ok U E;obtain ⟨bx,A,B,Y⟩:=PS hr J k1 k2 ha;exact ⟨_,qaa.2 rfl,ρ,undefX,bx,⟨by grind,fun _ _=>rfl⟩,B,.x rfl,fun Γ=>by grind[stepI,LX]⟩
  grind
 ·grind[bH,zd3]
 ·rename_i N x y;split at h;next x' y' n S=>obtain ⟨p,H,u⟩:=bH hr n;obtain ⟨q,w,P⟩:=bH hr S;obtain ⟨z,hz,rfl⟩:=qac.1 h;obtain ⟨b,c,rfl,rfl,U⟩:=zd5 u P hz;exact .one hr U (fun Γ=>by simp only [stepI,H,w];rfl)
  grind
 ·rename_i ks N x y;split at h
  ·rename_i xs ys n S;obtain ⟨p,H,u⟩:=bH hr n;obtain ⟨q,w,P⟩:=bH hr S;split at h
   ·rename_i E;cases h;cases u with
    |agg u=>cases P with
     |agg P=>obtain ⟨b,Z⟩:=Option.isSome_iff_exists.1 (zdn hr.zero hr.pos E u P);exact .one hr (.b (fun _=>.nil) (fun _=>.nil)) (x:=.v (.bool (if N then !b else b))) (fun Γ=>by simp only [stepI,H,w,Z,qao];rfl)
   grind
  grind
 ·rename_i op x;split at h;next x' n=>obtain ⟨p,H,u⟩:=bH hr n;obtain ⟨z,hz,rfl⟩:=qac.1 h;obtain ⟨b,rfl,J⟩:=Q7 u hz;exact .one hr J (fun Γ=>by simp only [stepI,H,zeR,qao];rfl)
  ·rename_i k l n;cases h;obtain ⟨p,H,u⟩:=bH hr n;cases u with
   |i A B=>subst B;exact PL hr hr.pos A (fun Γ=>by simp only [stepI,H,zeS,qao,Lin.k_v hr.zero];rfl)
  ·rename_i k l n;cases h;obtain ⟨p,H,u⟩:=bH hr n;cases u with
   |i A B=>subst B;obtain ⟨z,hz⟩:=zeQ k (l.v ρ);exact jq hr (iU k z) (iW k z) (fun Γ=>by simp only [stepI,H,hz,qao];rfl)
  grind
 ·rename_i k x;split at h
  ·rename_i k' l n;cases h;obtain ⟨p,H,u⟩:=bH hr n;cases u with
   |i A B=>subst B;exact Jm hr A rfl (fun Γ=>by simp only [stepI,H];rfl)
  grind
 ·rename_i x;split at h;next y n=>obtain ⟨p,H,u⟩:=bH hr n;obtain ⟨l,V,rfl⟩:=qac.1 h;obtain ⟨bs,rfl,A,B⟩:=kQ hr.zero hr.pos u V;exact .one hr u (fun Γ=>by simp only [stepI,H];rfl)
  grind
 next f pg=>obtain ⟨Q,E,rfl⟩:=qac.1 h;obtain ⟨xs,O,J⟩:=Di hr E;exact .one hr (.fn J) (fun Γ=>by simp only [stepI,O,qao];rfl)
 ·rename_i W p;split at h
  ·rename_i j e o n;cases h;obtain ⟨q,w,u⟩:=bH hr n;cases u with
   |ptr A B=>exact .one hr (.ptr A B) (fun Γ=>by simp only [stepI,w];rfl)
  ·rename_i Q n;cases h;obtain ⟨q,w,u⟩:=bH hr n;cases u with
   |dp A=>exact .one hr (.dp (A.drop W)) (fun Γ=>by simp only [stepI,w];rfl)
  grind
 ·rename_i m W x;split at h
  ·rename_i Q n;obtain ⟨q,w,u⟩:=bH hr n;cases u with
   |agg A=>
    split at h;·obtain ⟨y,L,rfl⟩:=qac.1 h;obtain ⟨z,hz,J⟩:=A.get L;exact .one hr J (fun Γ=>by simp only [stepI,w,hz,qao];rfl)
    rename_i m;split at h;next E=>cases h;have B:=(A.drop W).take m;rw [B.len] at E;exact .one hr (.agg B) (fun Γ=>by simp only [stepI,w,if_pos E];rfl)
    grind
  grind
 ·rename_i x;split at h
  ·rename_i j e o n;cases h;obtain ⟨q,w,u⟩:=bH hr n;cases u with
   |ptr A B=>exact .one hr (.ptr A B) (fun Γ=>by simp only [stepI,w];rfl)
  ·rename_i Q n;cases h;obtain ⟨q,w,u⟩:=bH hr n;cases u with
   |dp A=>exact .one hr (.dp A) (fun Γ=>by simp only [stepI,w];rfl)
  ·rename_i f Q n;cases h;obtain ⟨q,w,u⟩:=bH hr n;cases u with
   |fn A=>exact .one hr (.fn A) (fun Γ=>by simp only [stepI,w];rfl)
  next j n=>cases h;obtain ⟨q,w,u⟩:=bH hr n;cases u;exact .one hr .yl (fun Γ=>by simp only [stepI,w];rfl)
  grind
 ·rename_i x j;split at h
  ·rename_i xs n;obtain ⟨q,w,u⟩:=bH hr n;cases u with
   |tup A=>obtain ⟨y,L,rfl⟩:=qac.1 h;obtain ⟨z,hz,J⟩:=A.get L;exact .one hr J (fun Γ=>by simp only [stepI,w,hz,qao];rfl)
  grind
 ·rename_i x;split at h
  ·rename_i y n;obtain ⟨q,w,u⟩:=bH hr n;obtain ⟨l,V,rfl⟩:=qac.1 h;obtain ⟨B,⟨t,s,es,rfl,Y⟩|⟨j,o,m,rfl,Y⟩⟩:=zbB hr.zero hr.pos u V;·exact .one hr (.i B Y) (fun Γ=>by simp only [stepI,w];rfl)
   exact .one hr (.i B Y) (fun Γ=>by simp only [stepI,w];rfl)
  grind
 ·rename_i x;split at h;next y n=>obtain ⟨q,w,u⟩:=bH hr n;obtain ⟨l,V,rfl⟩:=qac.1 h;obtain ⟨bs,rfl,A,B⟩:=kQ hr.zero hr.pos u V;exact .one hr (.i B A) (fun Γ=>by simp only [stepI,w];rfl)
  grind
 ·rename_i M l;split at h
  ·rename_i x y n;obtain ⟨xs,O,J⟩:=Di hr n;cases J with
   |cons u P=>
    cases P with
    |cons P g3=>
     cases g3;cases u with
     |i p1 p2=>
      cases P with
      |i q1 q2=>
       subst p2;subst q2;split at h
       ·rename_i hm;subst hm;cases h;by_cases E:y.v ρ>x.v ρ;·exact .right (nC hr (dG p1 q1 (by omega)) (.i q1 rfl) (fun Γ=>by simp only [stepI,O,mmV,if_true,if_pos E,qao];rfl))
        exact .left (nC hr (dG q1 p1 (by omega)) (.i p1 rfl) (fun Γ=>by simp only [stepI,O,mmV,if_true,if_neg E,qao];rfl))
       rename_i hm;have hm:M=false:=by cases M with|true=>grind|false=>rfl
       subst hm;cases h;by_cases E:y.v ρ<x.v ρ;·exact .right (nC hr (dG q1 p1 (by omega)) (.i q1 rfl) (fun Γ=>by simp only [stepI,O,mmV,qai,if_false,if_pos E,qao];rfl))
       exact .left (nC hr (dG p1 q1 (by omega)) (.i p1 rfl) (fun Γ=>by simp only [stepI,O,mmV,qai,if_false,if_neg E,qao];rfl))
  grind
 next x=>obtain ⟨y,L,rfl⟩:=qac.1 h;obtain ⟨p,H,J⟩:=bH hr L;exact .one hr (.x rfl) (fun Γ=>by simp only [stepI,H,qao];rfl)
 ·rename_i N x;split at h;next n=>cases h;obtain ⟨q,w,u⟩:=bH hr n;cases u;exact .one hr (uP N) (fun Γ=>by simp only [stepI,w];rfl)
  next n=>cases h;obtain ⟨q,w,u⟩:=bH hr n;cases u;exact .one hr (uP (!N)) (fun Γ=>by simp only [stepI,w];rfl)
  ·rename_i n;cases h;obtain ⟨q,w,u⟩:=bH hr n;cases u;·exact .one hr (.b (fun _=>.nil) (fun _=>.nil)) (fun Γ=>by simp only [stepI,w];rfl)
   exact .one hr (.b (fun _=>.nil) (fun _=>.nil)) (fun Γ=>by simp only [stepI,w];rfl)
  grind
 grind
end
section
variable {a:ASt}{l x y:Lin}{σ:St}
variable {T:Tab} {n:Nat} {ρ:Rho}
def grow (a:ASt)(Fs:List Fact):ASt:={a with nx:=a.nx+1,F:=Fs++a.F}
theorem Jl {z:Int}{Fs:List Fact}(hr:R T ρ a σ)(hF:aV (a.nx+1) (upd ρ a.nx z) Fs):R T (upd ρ a.nx z) (grow a Fs) σ:=by have f:=hr.more (dO ρ a.nx z);exact ⟨f.zero,f.pos,hF.append f.F,f.tm,f.bx⟩
def ze1 (a:ASt)(x y:Lin):Option (Lin×ASt):=
 match OT x y with
 |some l=>some (l,a)
 |none=>match low a.F x,low a.F y,high a.F x,high a.F y with
  |some lx,some ly,some hx,some hy=>some (⟨a.nx,0⟩,grow a [au (x.up ly) ⟨a.nx,0⟩,au (y.up lx) ⟨a.nx,0⟩,au ⟨a.nx,0⟩ (x.up hy),au ⟨a.nx,0⟩ (y.up hx)])
  |_,_,_,_=>none
theorem zay {a':ASt}(hr:R T ρ a σ)(hx:x.s<a.nx)(hy:y.s<a.nx)(h:ze1 a x y=some (l,a')):∃ρ',More a.nx ρ a'.nx ρ'/\R T ρ' a' σ/\l.s<a'.nx/\l.v ρ'=x.v ρ+y.v ρ:=by
 unfold ze1 at h;split at h;next J e=>cases h;exact ⟨ρ,.refl ..,hr,yT e hx hy,kV hr.zero e⟩
 split at h
 ·rename_i L M u w j m n q;cases h;have A:=pW hr.zero hr.F j;have B:=pW hr.zero hr.F m;have E:=gZ hr.zero hr.F n;have H:=gZ hr.zero hr.F q;have f:=dO ρ a.nx (x.v ρ+y.v ρ);refine ⟨upd ρ a.nx (x.v ρ+y.v ρ),f,Jl hr (aV.cons ?_ (aV.cons ?_ (aV.cons ?_ (aV.cons ?_ .nil)))),qaf _,bU⟩;·exact aF.2 ⟨qaF hx,qaf _,by rw [Lin.jI,bU,f.lin hx];omega⟩
  ·exact aF.2 ⟨qaF hy,qaf _,by rw [Lin.jI,bU,f.lin hy];omega⟩
  ·exact aF.2 ⟨qaf _,qaF hx,by rw [Lin.jI,bU,f.lin hx];omega⟩
  exact aF.2 ⟨qaf _,qaF hy,by rw [Lin.jI,bU,f.lin hy];omega⟩
 grind
def rZ (a:ASt)(x y:Lin):Lin×ASt:=
 match zet x y with
 |some l=>(l,a)
 |none=>(⟨a.nx,0⟩,grow a (au (.k 0) ⟨a.nx,0⟩::((match low a.F y with|some ly=>[au ⟨a.nx,0⟩ (x.up (-ly))]|none=>[])++(match high a.F y with|some hy=>[au (x.up (-hy)) ⟨a.nx,0⟩]|none=>[]))))
theorem Dk (hr:R T ρ a σ)(hx:x.s<a.nx)(hle:y.v ρ<=x.v ρ):∃ρ',More a.nx ρ (rZ a x y).2.nx ρ'/\R T ρ' (rZ a x y).2 σ/\(rZ a x y).1.s<(rZ a x y).2.nx/\(rZ a x y).1.v ρ'=x.v ρ-y.v ρ/\(rZ a x y).2.bx=a.bx:=by
 unfold rZ;split;next l e=>exact ⟨ρ,.refl ..,hr,PK hr.pos e hx,PI hr.zero e,rfl⟩
 have f:=dO ρ a.nx (x.v ρ-y.v ρ);refine ⟨upd ρ a.nx (x.v ρ-y.v ρ),f,Jl hr (aV.cons ?_ (aV.append ?_ ?_)),qaf _,bU,rfl⟩;·exact aF.2 ⟨Nat.succ_pos _,qaf _,by grind[bU,Lin.k_v,jw]⟩
 ·split;next j e=>have:=pW hr.zero hr.F e;exact aV.cons (aF.2 ⟨qaf _,qaF hx,by rw [Lin.jI,bU,f.lin hx];omega⟩) .nil
  exact .nil
 split;next h e=>have:=gZ hr.zero hr.F e;exact aV.cons (aF.2 ⟨qaF hx,qaf _,by rw [Lin.jI,bU,f.lin hx];omega⟩) .nil
 exact .nil
def maxS (a:ASt)(x y:Lin):Lin×ASt:=if leL a.F x y then (y,a) else if leL a.F y x then (x,a) else (⟨a.nx,0⟩,grow a [au x ⟨a.nx,0⟩,au y ⟨a.nx,0⟩])
theorem Q9 (hr:R T ρ a σ)(hx:x.s<a.nx)(hy:y.s<a.nx):∃ρ',More a.nx ρ (maxS a x y).2.nx ρ'/\R T ρ' (maxS a x y).2 σ/\(maxS a x y).1.s<(maxS a x y).2.nx/\x.v ρ<=(maxS a x y).1.v ρ'/\y.v ρ<=(maxS a x y).1.v ρ'/\(maxS a x y).2.bx=a.bx:=by
 unfold maxS;split;next h=>exact ⟨ρ,.refl ..,hr,hy,aO hr.F h,Int.le_refl _,rfl⟩
 split;next h=>exact ⟨ρ,.refl ..,hr,hx,Int.le_refl _,aO hr.F h,rfl⟩
 have f:=dO ρ a.nx (max (x.v ρ) (y.v ρ));refine ⟨upd ρ a.nx (max (x.v ρ) (y.v ρ)),f,Jl hr (aV.cons ?_ (aV.cons ?_ .nil)),qaf _,by grind[bU],by grind[bU],rfl⟩;·exact aF.2 ⟨qaF hx,qaf _,by rw [bU,f.lin hx];omega⟩
 exact aF.2 ⟨qaF hy,qaf _,by rw [bU,f.lin hy];omega⟩
abbrev Names:=Nat->List Nat
variable {K:Names}
def ziS:List AX->List Lin
 |[]=>[]
 |.sl _ _ _ h _::r=>h.up 1::ziS r
 |_::r=>ziS r
def kindOf (T:Tab)(K:Names)(F:List Fact)(sz:Nat)(rows:List (List AX)):Option (Nat×Lin):=
 (((rows.flatMap ziS++[Lin.k 1,Lin.k 2,Lin.k 3]).flatMap fun H=>(K sz).map fun k=>(k,H)).find? fun q=>rows.all fun cs=>fits T F q.2 q.1 cs)
theorem FN {F:List Fact}{sz k:Nat}{H:Lin}{rows:List (List AX)}(h:kindOf T K F sz rows=some (k,H)):∀cs,cs∈rows->fits T F H k cs=true:=by grind[kindOf]
def wO (a:ASt):List (Nat×Opd)->Option (List (Nat×AX))
 |[]=>some []
 |(p,o)::r=>match a.ev o with
  |none=>none
  |some x=>(wO a r).map ((p,x)::·)
theorem Ac {a:ASt}{σ:St}(h:R T ρ a σ):∀{l:List (Nat×Opd)} {ys:List (Nat×AX)},wO a l=some ys->∃xs,parts2 σ l=some xs/\GT T a.nx ρ ys xs
 |[],ys,e=>by simp only [wO,qah] at e;subst e;exact ⟨[],rfl,.nil⟩
 |(p,o)::r,ys,e=>by
  unfold wO at e;split at e;·cases e
  rename_i y hy;obtain ⟨ys',h1,rfl⟩:=qac.1 e;obtain ⟨x,hx,hg⟩:=bH h hy;obtain ⟨xs,hxs,hgs⟩:=Ac h h1;exact ⟨(p,x)::xs,by grind[parts2],.cons hg hgs⟩
def qG (sz:Nat):Nat->List (Nat×AX)->Option (List (List AX))
 |_,[]=>some []
 |k,(i,x)::r=>match x.cells with
  |some cs=>if i==k&&cs.length==sz&&(lC cs).isEmpty then (qG sz (k+1) r).map (cs::·) else none
  |none=>none
inductive GR (T:Tab) (n:Nat) (ρ:Rho):List (List AX)->qaW->Prop where
 |nil:GR T n ρ [] []
 |cons {a:List AX} {x:List X} {l:List (List AX)} {m:qaW}:GL T n ρ a x->GR T n ρ l m->GR T n ρ (a::l) (x::m)
theorem GR.len:∀{l:List (List AX)} {m:qaW},GR T n ρ l m->l.length=m.length
 |_,_,.nil=>rfl
 |_,_,.cons _ h=>by rw [qat,qat,h.len]
theorem GT.len:∀{l:List (Nat×AX)} {m:List (Nat×X)},GT T n ρ l m->l.length=m.length
 |_,_,.nil=>rfl
 |_,_,.cons _ h=>by rw [qat,qat,h.len]
theorem GR.mem:∀{l:List (List AX)} {m:qaW} {e:List X},GR T n ρ l m->e∈m->∃c,c∈l/\GL T n ρ c e
 |_,_,e,.cons h1 h2,hm=>by
  rcases qal.1 hm with rfl|hm
  ·grind
  obtain ⟨c,h3,h4⟩:=h2.mem hm<;>grind
theorem oL {sz:Nat}:∀{l:List (Nat×AX)} {m:List (Nat×X)} {k:Nat} {rows:List (List AX)},GT T n ρ l m->qG sz k l=some rows->∃es,bsElems sz k m=some es/\GR T n ρ rows es
 |_,_,k,rows,.nil,e=>by simp only [qG,qah] at e;subst e;exact ⟨[],rfl,.nil⟩
 |_,_,k,rows,.cons h1 h2,e=>by
  unfold qG at e;split at e
  ·rename_i cs hc;obtain ⟨k1,k2⟩:=cells_ok h1 hc;split at e;next hb=>obtain ⟨r',h3,rfl⟩:=qac.1 e;obtain ⟨es,h4,h5⟩:=oL h2 h3;simp only [qab] at hb;obtain ⟨⟨b1,b2⟩,b3⟩:=hb;refine ⟨_::es,?_,.cons k2 h5⟩;unfold bsElems;rw [k1,<-k2.len,k2.refs,b1,b2,b3]<;>simp_all
   grind
  grind
def blt (l:Lin)(n:Nat):Bool:=Nat.blt l.s n
theorem Uh {m:Nat}(h:blt l m=true):l.s<m:=by have:=Nat.le_of_ble_eq_true h;omega
def JL (T:Tab)(K:Names)(a:ASt)(len:Nat)(zero:List X)(parts:List (Nat×Opd)):Option (List Out):=
 match wO a parts with
 |none=>none
 |some ps=>if len==ps.length then match qG zero.length 0 ps with
  |none=>none
  |some []=>some [(.x (.sl true zero.length []),a,fp0)]
  |some rows=>match kindOf T K a.F zero.length rows with
   |some (k,H)=>if blt H a.nx then some [(.sl (some true) zero.length k H (.k rows.length),a,fp0)] else none
   |none=>none else none
theorem OM {len:Nat}{zero:List X}{parts:List (Nat×Opd)}{outs:List Out}(hr:R T ρ a σ)(h:JL T K a len zero parts=some outs):OpOk T ρ a σ (.bslice len zero parts) outs:=by
 unfold JL at h;split at h;·cases h
 rename_i M L;obtain ⟨N,u,m⟩:=Ac hr L;split at h
 ·rename_i n;rw [m.len] at n;split at h;·cases h
  next l=>cases h;obtain ⟨w,j,f⟩:=oL m l;cases f;exact .one hr (.x rfl) (fun Γ=>by simp only [stepI,u,n,if_true,j,qao];rfl)
  rename_i rows _ l;split at h
  ·rename_i k H J;split at h;next q=>cases h;obtain ⟨w,j,f⟩:=oL m l;have E:=FN J;refine .one hr (.sl (Uh q) hr.pos rfl (by rw [Lin.k_v hr.zero,f.len]) fun e B=>?_) (fun Γ=>by simp only [stepI,u,n,if_true,j,qao];rfl);obtain ⟨c,y,A⟩:=f.mem B;exact Js hr.zero hr.F (E c y) A
   grind
  grind
 grind
end
section
variable {a:ASt}{y:AX}{k:IntKind}{l:Lin}{outs:List Out}{K:Names}{ox:Opd}{hi lo:Option Opd}{σ:St}{x:X}
variable {T:Tab} {n:Nat} {ρ:Rho}
theorem Ci (hg:G T n ρ (.i k l) x)(hk:k=.i64)(h:0<=l.v ρ):natX x=some (l.v ρ).toNat:=by subst hk;cases hg<;>simp_all[natX]
theorem xH (hg:G T n ρ (.i k l) x)(h:0<=l.v ρ):idxX x=some (l.v ρ).toNat:=by
 cases hg<;>simp_all[idxX]
def UF (a:ASt)(d:Lin):Option Opd->Option Lin
 |none=>some d
 |some o=>match a.ev o with
  |some (.i .i64 l)=>if nonneg a.F l then some l else none
  |_=>none
theorem lS (hr:R T ρ a σ){d:Lin}{dn:Nat}{o:Option Opd}(hd:(dn:Int)=d.v ρ)(hds:d.s<a.nx)(h:UF a d o=some l):∃m,optNat σ dn o=some m/\(m:Int)=l.v ρ/\l.s<a.nx:=by
 unfold UF at h;split at h;·cases h;exact ⟨dn,rfl,hd,hds⟩
 rename_i o;split at h
 ·rename_i w e;split at h;next n=>cases h;obtain ⟨x,u,f⟩:=bH hr e;have j:=fQ hr n;have q:=Ci f rfl j;cases f<;>grind[optNat]
  grind
 grind
def zaH (a:ASt)(neg:Bool)(x:AX):Option (List Out):=match x with
 |.bs _ _ l=>if leL a.F (.k 1) l then some [(cb neg,a,fp0)] else none
 |.sl _ _ _ _ l=>if leL a.F (.k 1) l then some [(cb neg,a,fp0)] else none
 |_=>none
theorem VG (hr:R T ρ a σ){neg:Bool}(e:σ.ev ox=some x)(hg:G T a.nx ρ y x)(h:zaH a neg y=some outs):OpOk T ρ a σ (.snil neg ox) outs:=by
 unfold zaH at h;split at h
 ·split at h
  ·rename_i f;cases h;have c:=aO hr.F f;rw [Lin.k_v hr.zero] at c;cases hg with
   |bs h1 h2 h3 h4=>rename_i n j;obtain ⟨m,rfl⟩:∃m,j=m+1:=⟨j-1,by omega⟩;exact .one hr (uP neg) (fun Γ=>by simp only [stepI,e];rfl)
  grind
 ·split at h
  ·rename_i f;cases h;have c:=aO hr.F f;rw [Lin.k_v hr.zero] at c;cases hg with
   |sl h1 h2 h3 h4 h5=>
    rename_i q l;cases l with
    |nil=>grind
    |cons w r=>exact .one hr (uP neg) (fun Γ=>by simp only [stepI,e];rfl)
  grind
 grind
def xB:List ET->Bool
 |[.i .u8 lo hi]=>(match lo with|none=>true|some a=>leI a 0)&&(match hi with|none=>true|some b=>leI 255 b)
 |_=>false
def D8 (T:Tab)(K:Names):Option Nat:=(K 1).find? fun k=>(T k).any xB
theorem JK {k:Nat}(h:D8 T K=some k)(b:UInt8):D T 1 k [.v (.int .u8 (b.toNat:Int))]:=by
 unfold D8 at h;have m:=List.find?_some (p:=fun k=>(T k).any xB) h;obtain ⟨j,l,f⟩:=List.any_eq_true.1 m;refine eX (Int.le_refl _) l ?_;unfold xB at f;split at f
 ·rename_i q n;rw [qab] at f;have:=b.toNat_lt;refine ⟨⟨rfl,fun a e=>?_,fun c e=>?_⟩,trivial⟩
  ·grind[gX]
  grind[gX]
 grind
def zil (T:Tab)(K:Names)(a:ASt)(x:AX):Option (List Out):=match PN x,D8 T K with
 |some l,some k=>some [(.sl (some false) 1 k (.k 1) l,a,fp0)]
 |_,_=>none
theorem zaQ (hr:R T ρ a σ)(e:σ.ev ox=some x)(hg:G T a.nx ρ y x)(h:zil T K a y=some outs):OpOk T ρ a σ (.s2b ox) outs:=by
 unfold zil at h;split at h
 ·rename_i l k j n;cases h;obtain ⟨bs,rfl,q,m⟩:=kQ hr.zero hr.pos hg j;refine .one hr (.sl hr.pos m rfl ?_ fun w f=>?_) (fun Γ=>by simp only [stepI,e];rfl);·simp_all[byteRow]
  unfold byteRow at f;obtain ⟨b,_,rfl⟩:=qam.1 f;rw [Lin.k_v hr.zero]<;>grind[JK]
 grind
def JE (t:Option Bool)(whole:Bool):Option Bool:=if whole then t else match t with|some false=>some false|_=>none
theorem OG {t:Option Bool}{w:Bool}{tt:Bool}{h len:Nat}(hf:xM t tt)(hw:w=true->h=len):xM (JE t w) (tt&&h==len):=by
 unfold JE;split
 ·grind
 split;·cases hf;rfl
 trivial
def P7 (a:ASt)(sz:Nat)(x:AX)(lo hi mx:Option Opd):Option (List Out):=match x with
 |.sl t s k h len=>match UF a (.k 0) lo,UF a len hi with
  |some l,some r=>if Nat.beq s sz&&leL a.F l r&&leL a.F r len then
    match rZ a r l with
    |(d,a')=>match mx with
     |none=>some [(.sl (JE t (eqL a.F r len)) s k h d,a',fp0)]
     |some m=>match a.ev m with
      |some (.i .i64 lm)=>if eqL a.F r lm&&nonneg a.F lm then some [(.sl (some true) s k h d,a',fp0)] else none
      |_=>none
    else none
  |_,_=>none
 |.x (.sl t s [])=>match UF a (.k 0) lo,UF a (.k 0) hi,mx with
  |some l,some r,none=>if Nat.beq s sz&&leL a.F l (.k 0)&&leL a.F r (.k 0) then some [(.x (.sl t s []),a,fp0)] else none
  |_,_,_=>none
 |.bs i o len=>match UF a (.k 0) lo,UF a len hi,mx with
  |some l,some r,none=>if leL a.F l r&&leL a.F r len then
    (if eqL a.F l r then some [(.x (.sl false sz []),a,fp0)]
     else if leL a.F (l.up 1) r then match a.bx[i]?,OT o l with
     |some (.row s _ _ _),some o'=>if Nat.beq s sz then match rZ a r l with
      |(d,a')=>some [(.bs i o' d,a',⟨false,[i],[]⟩)] else none
     |_,_=>none
     else none) else none
  |_,_,_=>none
 |_=>none
theorem P6 (hr:R T ρ a σ){sz:Nat}{mx:Option Opd}(e:σ.ev ox=some x)(hg:G T a.nx ρ y x)(h:P7 a sz y lo hi mx=some outs):OpOk T ρ a σ (.slice sz ox lo hi mx) outs:=by
 unfold P7 at h;split at h
 ·rename_i t s k hh len;cases hg with
  |sl g1 g2 g3 g4 g5=>
   rename_i tt U;split at h
   ·rename_i l r Q S;obtain ⟨n,M,n2,n3⟩:=lS hr (dn:=0) (by rw [Lin.k_v hr.zero];rfl) hr.pos Q;obtain ⟨f,L,m2,Z⟩:=lS hr (dn:=U.length) g4 g2 S;split at h
    ·rename_i u;simp only [qab] at u;obtain ⟨⟨H,N⟩,O⟩:=u;have P:=aO hr.F N;have d3:=aO hr.F O;have H:=qaj H;subst H;obtain ⟨ρ',j,B,E,J,W⟩:=Dk hr Z P;have q1:n<=f:=by omega
     have Y:f<=U.length:=by omega
     generalize rZ a r l=q at j B E J W h;obtain ⟨d,a'⟩:=q;dsimp only at j B E J W h;have A:((((U.take f).drop n).length:Nat):Int)=d.v ρ':=by rw [J,qaK,qag,Nat.min_eq_left Y];omega
     have V:∀w,w∈(U.take f).drop n->D T (hh.v ρ') k w:=fun w hw=>by rw [j.lin g1]<;>grind
     split at h
     ·cases h;refine ⟨_,qaa.2 rfl,ρ',_,σ.bx,j,B,.sl (j.lt g1) E (OG (h:=f) (len:=U.length) g3 fun hw=>?_) A V,fun Γ=>?_⟩;·have:=Gi hr.F hw;omega
      simp only [stepI,e,M,L,beq_self_eq_true,q1,Y,decide_true,Bool.and_self,if_true];rfl
     rename_i m;split at h
     ·rename_i lm em;split at h
      ·rename_i hm;cases h;rw [qab] at hm;obtain ⟨xm,hx,pb⟩:=bH hr em;have k0:=fQ hr hm.2;have k1:=Ci pb rfl k0;have k2:=Gi hr.F hm.1;have k3:(lm.v ρ).toNat=f:=by omega
       rw [k3] at k1;refine ⟨_,qaa.2 rfl,ρ',_,σ.bx,j,B,.sl (j.lt g1) E rfl A V,fun Γ=>?_⟩;simp only [stepI,e,M,L,beq_self_eq_true,q1,Y,decide_true,Bool.and_self,if_true,hx,Option.bind_some,k1];rfl
      grind
     grind
    grind
   grind
 ·rename_i t s;cases hg;split at h
  ·rename_i l r Q S;obtain ⟨n,M,n2,n3⟩:=lS hr (dn:=0) (by rw [Lin.k_v hr.zero];rfl) hr.pos Q;obtain ⟨f,L,m2,Z⟩:=lS hr (dn:=0) (by rw [Lin.k_v hr.zero];rfl) hr.pos S;split at h
   ·rename_i u;cases h;simp only [qab] at u;obtain ⟨⟨H,N⟩,O⟩:=u;have P:=aO hr.F N;have d3:=aO hr.F O;rw [Lin.k_v hr.zero] at P d3;have H:=qaj H;subst H;have:n=0:=by omega
    subst this;have:f=0:=by omega
    subst this;exact .one hr (.x rfl) (fun Γ=>by simp only [stepI,e,M,List.length_nil,L,beq_self_eq_true,Nat.le_refl,decide_true,if_true,List.take_nil,List.drop_nil,Bool.and_true];rfl)
   grind
  grind
 ·rename_i i o len;cases hg with
  |bs g1 g2 g3 g4=>
   rename_i o' l';split at h
   ·rename_i l r Q S;obtain ⟨n,M,n2,n3⟩:=lS hr (dn:=0) (by rw [Lin.k_v hr.zero];rfl) hr.pos Q;obtain ⟨f,L,m2,Z⟩:=lS hr (dn:=l') g4 g2 S;split at h
    ·rename_i u;simp at u;obtain ⟨N,O⟩:=u;have P:=aO hr.F N;have d3:=aO hr.F O;have q1:n<=f:=by omega
     have Y:f<=l':=by omega
     split at h
     ·rename_i he;cases h;have:=Gi hr.F he;have:n=f:=by omega
      subst this;exact .one hr (.x rfl) (fun Γ=>by simp only [stepI,e,M,L,Y,Nat.le_refl,decide_true,Bool.and_self,if_true,beq_self_eq_true];rfl)
     split at h
     ·rename_i pc;have d4:=aO hr.F pc;rw [Lin.jI] at d4;have pe:(n==f)=false:=by rw [beq_eq_false_iff_ne];omega
      split at h
      ·rename_i s kk hh ll o2 hb ha;split at h
       ·rename_i hs;have hs:=qaj hs;subst hs;obtain ⟨ρ',j,B,E,J,W⟩:=Dk hr Z P;generalize rZ a r l=q at j B E J W h;obtain ⟨d,a'⟩:=q;dsimp only at j B E J W h;cases h;obtain ⟨b,pd,pa⟩:=hr.bx.get hb;cases pa with
        |row _ _ _ _=>have ho:=yT ha g1 n3;refine ⟨_,qaa.2 rfl,ρ',.bs i (o'+n) (f-n),σ.bx,j,B,.bs (j.lt ho) E (by rw [j.lin ho,kV hr.zero ha];omega) (by rw [J];omega),fun Γ=>?_⟩<;>simp_all[stepI]
       grind
      grind
     grind
    grind
   grind
 grind
def P5 (a:ASt)(x:AX)(lo hi:Option Opd):Option (List Out):=match PN x with
 |some len=>match UF a (.k 0) lo,UF a len hi with
  |some l,some r=>if leL a.F l r&&leL a.F r len then match rZ a r l with
   |(d,a')=>some [(.s d,a',fp0)] else none
  |_,_=>none
 |none=>none
theorem extract_size {bs:qaX}{l r:Nat}(h1:l<=r)(h2:r<=bs.size):(bs.extract l r).size=r-l:=by simp_all
theorem PZ (hr:R T ρ a σ)(e:σ.ev ox=some x)(hg:G T a.nx ρ y x)(h:P5 a y lo hi=some outs):OpOk T ρ a σ (.sslice ox lo hi) outs:=by
 unfold P5 at h;split at h
 ·rename_i len P;obtain ⟨bs,rfl,O,N⟩:=kQ hr.zero hr.pos hg P;split at h
  ·rename_i l r L M;obtain ⟨w,U,n2,n3⟩:=lS hr (dn:=0) (by rw [Lin.k_v hr.zero];rfl) hr.pos L;obtain ⟨f,Q,m2,S⟩:=lS hr (dn:=bs.size) O N M;split at h
   ·rename_i u;simp at u;obtain ⟨E,H⟩:=u;have J:=aO hr.F E;have Z:=aO hr.F H;obtain ⟨ρ',j,m,n,A,B⟩:=Dk hr S J;have V:w<=f:=by omega
    have W:f<=bs.size:=by omega
    generalize rZ a r l=q at j m n A B h;obtain ⟨d,Y⟩:=q;dsimp only at j m n A B h;cases h;refine ⟨_,qaa.2 rfl,ρ',.v (.string (bs.extract w f)),σ.bx,j,m,.s n (by grind[extract_size]),fun Γ=>?_⟩;simp only [stepI,e,U,Q,V,W,decide_true,Bool.and_self,if_true];rfl
   grind
  grind
 grind
end
section
variable {a:ASt}{y z:AX}{m sz:Nat}{oj ox:Opd}{σ:St}{j x:X}
variable {T:Tab} {n:Nat} {ρ:Rho}
def Gs (l:Lin):Option Nat:=if Nat.beq l.s 0 then (match l.c with|.ofNat m=>some m|_=>none) else none
theorem yu (h0:ρ 0=0){l:Lin}(h:Gs l=some m):l.v ρ=m:=by
 unfold Gs at h;split at h;next e=>split at h<;>grind[Lin.v,qaj]
 grind
theorem OpOk.outs {i:I}{fp:FP}{f:List AX×ASt->Out}{l:List (List AX×ASt)}{q:List AX×ASt}{ρ':Rho}(hq:q∈l)(hm:More a.nx ρ (f q).2.1.nx ρ')(hr:R T ρ' (f q).2.1 σ)(hg:G T (f q).2.1.nx ρ' (f q).1 x)(hfp:(f q).2.2=fp)(hs:∀Γ,stepI Γ σ i=some (x,σ.bx,fp)):OpOk T ρ a σ i (l.map f):=
 ⟨f q,qam.2 ⟨q,hq,rfl⟩,ρ',x,σ.bx,hm,hr,hg,by grind⟩
def Rz (T:Tab)(a:ASt)(arr:Option Nat)(sz:Nat)(x j:AX):Option (List Out):=match j with
 |.i _ l=>if nonneg a.F l then match arr,x with
  |none,.sl _ s k h len=>if Nat.beq s sz&&leL a.F (l.up 1) len then some ((N9 T a k h).map fun q=>(.dp q.1,q.2,fp0)) else none
  |none,.bs i o len=>match a.bx[i]?,OT o l with
   |some (.row s _ _ _),some o'=>if Nat.beq s sz&&leL a.F (l.up 1) len then some [(.ptr i o' 0,a,⟨false,[i],[]⟩)] else none
   |_,_=>none
  |some len,.ptr i e o=>match Gs l with
   |some m=>if Nat.blt m len then some [(.ptr i e (o+m*sz),a,fp0)] else none
   |none=>none
  |some len,.dp cs=>match Gs l with
   |some m=>if Nat.blt m len then some [(.dp (cs.drop (m*sz)),a,fp0)] else none
   |none=>none
  |_,_=>none else none
 |_=>none
theorem cZ {k:Nat}(h:Nat.blt m k=true):m<k:=by simp_all
theorem Ry (hr:R T ρ a σ){arr:Option Nat}{outs:List Out}(e1:σ.ev ox=some x)(e2:σ.ev oj=some j)(g1:G T a.nx ρ y x)(g2:G T a.nx ρ z j)(h:Rz T a arr sz y z=some outs):OpOk T ρ a σ (.iaddr arr sz ox oj) outs:=by
 unfold Rz at h;split at h
 ·rename_i kd l;split at h
  ·rename_i Y;have O:=fQ hr Y;have u:=xH g2 O;have H:l.s<a.nx:=by cases g2 with|i h1 _=>grind
   have N:=Int.toNat_of_nonneg O;generalize (l.v ρ).toNat=m at u N;split at h
   ·rename_i t s k V len;split at h
    ·rename_i f;cases h;rw [qab] at f;have B:=aO hr.F f.2;rw [Lin.jI] at B;have A:=qaj f.1;subst A;cases g1 with
     |sl q1 q2 q3 q4 q5=>rename_i tt Q;obtain ⟨w,hw,n⟩:=iR (l:=Q) (i:=m) (by omega);obtain ⟨q,Z,ρ',m1,m2,m3⟩:=vF hr q1 (q5 w n);exact .outs Z m1 m2 (.dp m3) rfl (fun Γ=>by simp only [stepI,e1,e2,Option.bind_some,u,beq_self_eq_true,if_true,hw,qao];rfl)
    grind
   ·rename_i i o len;split at h
    ·rename_i s kk V ll o' S P;split at h
     ·rename_i f;cases h;rw [qab] at f;have B:=aO hr.F f.2;rw [Lin.jI] at B;have A:=qaj f.1;subst A;cases g1 with
      |bs q1 q2 q3 q4=>
       rename_i M ln;obtain ⟨b,U,E⟩:=hr.bx.get S;cases E with
       |row _ _ _ _=>have W:decide (m<ln)=true:=decide_eq_true (by omega);exact OpOk.one (x:=.ptr i (M+m) 0) hr (.ptr (yT P q1 H) (by rw [kV hr.zero P];omega)) (fun Γ=>by simp_all[stepI])
     grind
    grind
   ·rename_i len i e o;split at h
    ·rename_i L J;split at h
     ·rename_i f;cases h;have:=yu hr.zero J;have:m=L:=by omega
      subst this;cases g1 with
      |ptr q1 q2=>exact .one hr (.ptr q1 q2) (fun Γ=>by simp only [stepI,e1,e2,Option.bind_some,u,if_pos (cZ f)];rfl)
     grind
    grind
   ·rename_i len cs;split at h
    ·rename_i L J;split at h
     ·rename_i f;cases h;have:=yu hr.zero J;have:m=L:=by omega
      subst this;cases g1 with
      |dp q1=>exact .one hr (.dp (q1.drop _)) (fun Γ=>by simp only [stepI,e1,e2,Option.bind_some,u,if_pos (cZ f)];rfl)
     grind
    grind
   grind
  grind
 grind
def PX (k:IntKind):List AX->Option (Int×Int)
 |[]=>none
 |[.i k' l]=>if k'=k&&Nat.beq l.s 0 then some (l.c,l.c) else none
 |.i k' l::r=>if k'=k&&Nat.beq l.s 0 then (PX k r).map fun q=>(if leI l.c q.1 then l.c else q.1,if leI q.2 l.c then l.c else q.2) else none
 |_=>none
theorem Ko (h0:ρ 0=0){k:IntKind}:∀{l:List AX} {m:List X} {lo hi:Int} {j:Nat} {x:X},GL T n ρ l m->PX k l=some (lo,hi)->m[j]?=some x->∃z,x=.v (.int k z)/\lo<=z/\z<=hi
 |[a],_,lo,hi,j,x,.cons g1 .nil,h,hx=>by
  unfold PX at h;split at h
  ·grind
  ·rename_i k' l heq;cases heq;split at h
   ·rename_i hc;cases h;simp only [qab,qaI] at hc;obtain ⟨rfl,c2⟩:=hc;cases j with
    |zero=>simp at hx;subst hx;cases g1<;>simp_all[Lin.v]
    |succ j=>grind
   grind
  ·grind
  grind
 |a::b::r,_,lo,hi,j,x,.cons g1 g2,h,hx=>by
  unfold PX at h;split at h
  ·grind
  ·grind
  ·rename_i k' l r' _ heq;cases heq;split at h
   ·rename_i hc;obtain ⟨⟨lo',hi'⟩,hq,he⟩:=qac.1 h;dsimp only at he;cases he;simp only [qab,qaI] at hc;obtain ⟨rfl,c2⟩:=hc;have b1:∀u v:Int,(if leI u v then u else v)<=u/\(if leI u v then u else v)<=v:=fun u v=>by grind[gX]
    have b2:∀u v:Int,u<=(if leI u v then v else u)/\v<=(if leI u v then v else u):=fun u v=>by grind
    have d1:=b1 l.c lo';have d2:=b2 hi' l.c;cases j with
    |zero=>simp at hx;subst hx;cases g1<;>simp_all[Lin.v]
    |succ j=>
     obtain ⟨z,rfl,z1,z2⟩:=Ko h0 g2 hq (by simpa using hx)
     grind
   grind
  grind
def zec (a:ASt)(len sz:Nat)(m:Option Nat)(x j:AX):Option (List Out):=match x,j with
 |.agg cs,.i _ l=>match Gs l with
  |some c=>if Nat.blt c len then (match m with
    |none=>(cs[c*sz]?).map fun y=>[(y,a,fp0)]
    |some m=>if ((cs.drop (c*sz)).take m).length==m then some [(.agg ((cs.drop (c*sz)).take m),a,fp0)] else none) else none
  |none=>match m,cs with
   |none,.i k _::_=>if Nat.beq sz 1&&Nat.beq cs.length len&&nonneg a.F l&&leL a.F (l.up 1) (.k len) then (PX k cs).map fun q=>[OZ a k (bnd ⟨a.nx,0⟩ (some q.1) (some q.2))] else none
   |_,_=>none
 |_,_=>none
theorem YS (hr:R T ρ a σ){len:Nat}{m:Option Nat}{outs:List Out}(e1:σ.ev ox=some x)(e2:σ.ev oj=some j)(g1:G T a.nx ρ y x)(g2:G T a.nx ρ z j)(h:zec a len sz m y z=some outs):OpOk T ρ a σ (.aidx len sz m ox oj) outs:=by
 unfold zec at h;split at h
 ·rename_i cs kd l;cases g1 with
  |agg q1=>
   rename_i N;split at h
   ·rename_i c q;have Z:=yu hr.zero q;have n:=xH g2 (by omega);rw [Z,Int.toNat_natCast] at n;split at h
    ·rename_i U;have f:=cZ U;split at h;·obtain ⟨w,B,rfl⟩:=qac.1 h;obtain ⟨u,Y,V⟩:=q1.get B;exact .one hr V (fun Γ=>by simp only [stepI,e1,e2,Option.bind_some,n,if_pos f,Y,qao];rfl)
     rename_i m;split at h;next J=>cases h;have M:=(q1.drop (c*sz)).take m;rw [M.len] at J;exact .one hr (.agg M) (fun Γ=>by simp only [stepI,e1,e2,Option.bind_some,n,if_pos f,if_pos J];rfl)
     grind
    grind
   split at h
   ·rename_i k l' r;split at h
    ·rename_i q;obtain ⟨⟨lo,hi⟩,W,rfl⟩:=qac.1 h;simp only [qab] at q;obtain ⟨⟨⟨A,H⟩,O⟩,P⟩:=q;have A:=qaj A;subst A;have H:=qaj H;have Q:=fQ hr O;have S:=aO hr.F P;rw [Lin.jI,Lin.k_v hr.zero] at S;have n:=xH g2 Q;have L:=q1.len;have f:(l.v ρ).toNat<len:=by omega
     have E:N[(l.v ρ).toNat]?=some N[(l.v ρ).toNat]:=qad (by omega);obtain ⟨w,B,w1,w2⟩:=Ko hr.zero q1 W E;rw [B] at E;refine jd hr (z:=w) (qH (jw hr _) (Nat.succ_pos _) (qaf _) (by grind[bU]) (by grind[bU])) (fun Γ=>?_);simp only [stepI,e1,e2,Option.bind_some,n,if_pos f,Nat.mul_one,E,qao];rfl
    grind
   grind
 grind
def zaL (a:ASt)(x j:AX):Option (List Out):=match PN x,j with
 |some len,.i _ l=>if nonneg a.F l&&leL a.F (l.up 1) len then some [OZ a .u8 (bnd ⟨a.nx,0⟩ (some 0) (some 255))] else none
 |_,_=>none
theorem VJ (hr:R T ρ a σ){outs:List Out}(e1:σ.ev ox=some x)(e2:σ.ev oj=some j)(g1:G T a.nx ρ y x)(g2:G T a.nx ρ z j)(h:zaL a y z=some outs):OpOk T ρ a σ (.sidx ox oj) outs:=by
 unfold zaL at h;split at h
 ·rename_i len B l A;obtain ⟨bs,rfl,E,H⟩:=kQ hr.zero hr.pos g1 A;split at h
  ·rename_i f;cases h;rw [qab] at f;have n:=fQ hr f.1;have q:=aO hr.F f.2;rw [Lin.jI] at q;have w:=xH g2 n;have m:(l.v ρ).toNat<bs.size:=by omega
   have u:bs[(l.v ρ).toNat]?=some bs[(l.v ρ).toNat]:=getElem?_pos bs _ m;have:=(bs[(l.v ρ).toNat]).toNat_lt;refine jd hr (z:=((bs[(l.v ρ).toNat]).toNat:Int)) (qH (jw hr _) (Nat.succ_pos _) (qaf _) (by grind[bU]) (by grind[bU])) (fun Γ=>?_);simp only [stepI,e1,e2,Option.bind_some,w,u];rfl
  grind
 grind
end
section
variable {a a':ASt}{xa y:AX}{own:Bool}{H h1 l l1:Lin}{e1 e2:qaW}{outs:List Out}{bytes k k1 m sz:Nat}{ox oy:Opd}{σ:St}{x:X}
variable {T:Tab} {n:Nat} {ρ:Rho}
def NC (F:List Fact)(l:Lin)(bytes:Nat):Bool:=match high F l with
 |some (.ofNat c)=>roomOk c bytes
 |_=>false
theorem Qv {c:Nat}(h:roomOk c bytes=true)(hm:m<=c):roomOk m bytes=true:=by simp only [roomOk,qab,qaI] at h ⊢;exact ⟨Nat.le_trans (qaJ _ hm) h.1,by omega⟩
theorem uZ {F:List Fact}(h0:ρ 0=0)(hF:aV n ρ F)(h:NC F l bytes=true)(hm:(m:Int)=l.v ρ):roomOk m bytes=true:=by
 unfold NC at h;split at h;next c e=>have b:=gZ h0 hF e<;>grind[Qv]
 grind
def zbt (T:Tab)(K:Names)(a:ASt)(bytes:Nat)(zero:List X)(x c:AX):Option (List Out):=match x,c with
 |.i .i64 l,.i .i64 lc=>if nonneg a.F l&&leL a.F l lc&&NC a.F lc bytes&&zq zero then match kindOf T K a.F zero.length [WB zero] with
  |some (k,H)=>if blt H a.nx then some [(.bs a.bx.length (.k 0) l,{a with bx:=a.bx++[.row zero.length k H l]},⟨true,[],[a.bx.length]⟩)] else none
  |none=>none else none
 |_,_=>none
theorem WI {K:Names}(hr:R T ρ a σ){zero:List X}{oc:Opd}{z:AX}{c:X}(e1:σ.ev ox=some x)(e2:σ.ev oc=some c)(g1:G T a.nx ρ y x)(g2:G T a.nx ρ z c)(h:zbt T K a bytes zero y z=some outs):OpOk T ρ a σ (.mksl bytes zero ox oc) outs:=by
 unfold zbt at h;split at h
 ·rename_i l u;split at h
  ·rename_i q;simp at q;obtain ⟨⟨⟨A,B⟩,E⟩,J⟩:=q;split at h
   ·rename_i k H N;split at h
    ·rename_i M;cases h;have L:=fQ hr A;have Q:=aO hr.F B;have O:=Ci g1 rfl L;have P:=Ci g2 rfl (by omega);have j:l.s<a.nx:=by cases g1 with|i h1 _=>grind
     have hz:=Js hr.zero hr.F (FN N _ (qaa.2 rfl)) (lT hr.zero hr.pos _ J);have f:=uZ hr.zero hr.F E (m:=(u.v ρ).toNat) (by omega);have n:(l.v ρ).toNat<=(u.v ρ).toNat:=by omega
     refine ⟨_,qaa.2 rfl,ρ,.bs σ.bx.length 0 (l.v ρ).toNat,σ.bx++[.row zero.length (List.replicate (l.v ρ).toNat zero)],.refl ..,⟨hr.zero,hr.pos,hr.F,hr.tm,hr.bx.snoc (.row (Uh M) j (by grind) fun w S=>?_)⟩,?_,fun Γ=>?_⟩
     ·grind
     ·rw [hr.bx.len];exact .bs hr.pos j (by rw [Lin.k_v hr.zero];rfl) (by omega)
     simp only [stepI,e1,e2,Option.bind_some,O,P,n,f,decide_true,Bool.and_self,if_true];rw [hr.bx.len]
    grind
   grind
  grind
 grind
structure Src where
 sz:Nat
 k:Nat
 h:Lin
 l:Lin
variable {s:Src}
def zih (a:ASt):AX->Option Src
 |.sl _ sz k h l=>some ⟨sz,k,h,l⟩
 |.x (.sl _ sz [])=>some ⟨sz,0,.k 1,.k 0⟩
 |.bs i o l=>match a.bx[i]?,OT o l with
  |some (.row sz k h rl),some e=>if leL a.F e rl then some ⟨sz,k,h,l⟩ else none
  |_,_=>none
 |_=>none
def ug:AX->List Nat
 |.bs j _ _=>[j]
 |_=>[]
theorem zaD (hr:R T ρ a σ)(hg:G T a.nx ρ y x)(h:zih a y=some s):∃es,srcOf σ.bx x=some (s.sz,es)/\s.h.s<a.nx/\s.l.s<a.nx/\(es.length:Int)=s.l.v ρ/\(∀e,e∈es->D T (s.h.v ρ) s.k e)/\x.rows=ug y:=by
 unfold zih at h;split at h
 ·cases h;cases hg with
  |sl h1 h2 h3 h4 h5=>exact ⟨_,rfl,h1,h2,h4,h5,rfl⟩
 ·cases h;cases hg;exact ⟨[],rfl,hr.pos,hr.pos,by rw [Lin.k_v hr.zero];rfl,(fun e H=>by grind),rfl⟩
 ·split at h
  ·rename_i M k J L e q n;split at h
   ·rename_i A;cases h;have c:=aO hr.F A;rw [kV hr.zero n] at c;cases hg with
    |bs q1 q2 q3 q4=>
     rename_i i o l m j;obtain ⟨b,u,f⟩:=hr.bx.get q;cases f with
     |row w1 w2 w3 w4=>
      rename_i es;have B:m+j<=es.length:=by omega
      refine ⟨(es.drop m).take j,by simp_all[srcOf,rowOf],w1,q2,?_,fun w E=>w4 w (List.mem_of_mem_drop (List.mem_of_mem_take E)),rfl⟩
      grind
   grind
  grind
 grind
def zbF (a:ASt)(k1:Nat)(h1 l1:Lin)(k2:Nat)(h2 l2:Lin):Option (Nat×Lin×ASt):=
 if leL a.F l1 (.k 0) then some (k2,h2,a)
 else if leL a.F l2 (.k 0) then some (k1,h1,a)
 else if Nat.beq k1 k2 then (match maxS a h1 h2 with|(H,a')=>some (k1,H,a')) else none
theorem WZ (hr:R T ρ a σ){k2:Nat}{h2 l2:Lin}(s1:h1.s<a.nx)(s2:h2.s<a.nx)(n1:(e1.length:Int)=l1.v ρ)(n2:(e2.length:Int)=l2.v ρ)(d1:∀e,e∈e1->D T (h1.v ρ) k1 e)(d2:∀e,e∈e2->D T (h2.v ρ) k2 e)(h:zbF a k1 h1 l1 k2 h2 l2=some (k,H,a')):
  ∃ρ',More a.nx ρ a'.nx ρ'/\R T ρ' a' σ/\H.s<a'.nx/\(∀e,e∈e1++e2->D T (H.v ρ') k e)/\a'.bx=a.bx:=by
 unfold zbF at h;split at h;next f=>cases h;have c:=aO hr.F f;rw [Lin.k_v hr.zero] at c;have:e1=[]:=qaP (by omega);subst this;exact ⟨ρ,.refl ..,hr,s2,d2,rfl⟩
 split at h;next f=>cases h;have c:=aO hr.F f;rw [Lin.k_v hr.zero] at c;have:e2=[]:=qaP (by omega);subst this;exact ⟨ρ,.refl ..,hr,s1,by grind,rfl⟩
 grind[qaj,Q9,iF]
def zhW (a:ASt)(bytes:Nat)(k1:Nat)(h1 l1:Lin)(s:Src):Option (Nat×Lin×Lin×ASt):=match ze1 a l1 s.l with
 |some (N,a1)=>if NC a1.F N bytes then match zbF a1 k1 h1 l1 s.k s.h s.l with
  |some (k,H,a2)=>some (k,H,N,a2)
  |none=>none else none
 |none=>none
theorem zaz {x y:Lin}(h:ze1 a x y=some (l,a')):a'.bx=a.bx:=by
 unfold ze1 at h;split at h
 ·grind
 split at h;·cases h;rfl
 grind
theorem Ul (hr:R T ρ a σ){N:Lin}(s1:h1.s<a.nx)(t1:l1.s<a.nx)(s2:s.h.s<a.nx)(t2:s.l.s<a.nx)(n1:(e1.length:Int)=l1.v ρ)(n2:(e2.length:Int)=s.l.v ρ)(d1:∀e,e∈e1->D T (h1.v ρ) k1 e)(d2:∀e,e∈e2->D T (s.h.v ρ) s.k e)(h:zhW a bytes k1 h1 l1 s=some (k,H,N,a')):
  ∃ρ',More a.nx ρ a'.nx ρ'/\R T ρ' a' σ/\H.s<a'.nx/\N.s<a'.nx/\((e1.length+e2.length:Nat):Int)=N.v ρ'/\(∀e,e∈e1++e2->D T (H.v ρ') k e)/\roomOk (e1.length+e2.length) bytes=true/\a'.bx=a.bx:=by
 unfold zhW at h;split at h
 ·rename_i M O y;obtain ⟨ρ1,j,m,q,A⟩:=zay hr t1 t2 y;split at h
  ·rename_i f;split at h
   ·rename_i Q L P w;cases h;have u:((e1.length+e2.length:Nat):Int)=N.v ρ1:=by rw [A];omega
    obtain ⟨ρ2,n,B,E,J,S⟩:=WZ m (j.lt s1) (j.lt s2) (by rw [j.lin t1];omega) (by rw [j.lin t2];omega) (by rw [j.lin s1]<;>grind) (by rw [j.lin s2]<;>grind) w;exact ⟨ρ2,j.trans n,B,E,n.lt q,by rw [n.lin q]<;>grind,J,uZ m.zero m.F f u,by grind[zaz]⟩
   grind
  grind
 grind
def zhV (own:Bool)(a:ASt)(sz bytes k1:Nat)(h1 l1:Lin)(x:AX)(s:Src):Option (List Out):=
 match zhW a bytes k1 h1 l1 s with
 |some (k,H,N,a')=>
  if own then
   if leL a.F (.k 1) s.l then some [(.bs a.bx.length (.k 0) N,{a' with bx:=a'.bx++[.row sz k H N]},⟨true,ug x,[a.bx.length]⟩)] else none
  else some [(.sl (some false) sz k H N,a',⟨false,ug x,[]⟩)]
 |none=>none
def zkc (own:Bool)(a:ASt)(sz bytes:Nat)(y x:AX):Option (List Out):=match zih a x with
 |none=>none
 |some s=>if Nat.beq s.sz sz then match y with
  |.sl (some true) sz0 k1 h1 l1=>if Nat.beq sz0 sz then
    (if own&&leL a.F s.l (.k 0)&&NC a.F l1 bytes then some [(.sl (some true) sz k1 h1 l1,a,⟨true,ug x,[]⟩)] else zhV own a sz bytes k1 h1 l1 x s) else none
  |.x (.sl true sz0 [])=>if Nat.beq sz0 sz then
    (if own&&leL a.F s.l (.k 0)&&NC a.F (.k 0) bytes then some [(.x (.sl true sz []),a,⟨true,ug x,[]⟩)] else zhV own a sz bytes 0 (.k 1) (.k 0) x s) else none
  |.bs i o l=>match a.bx[i]?,OT o l with
   |some (.row sz0 k1 h1 rl),some e=>if Nat.beq sz0 sz&&eqL a.F e rl&&!memN i (ug x) then match zhW a bytes k1 h1 l s with
    |some (k,H,N,a')=>some [(.bs a.bx.length (.k 0) N,{a' with bx:=a'.bx.set i .dead++[.row sz k H N]},⟨true,ug x,[i,a.bx.length]⟩)]
    |none=>none else none
   |_,_=>none
  |_=>none else none
theorem Uk (hr:R T ρ a σ){es new:qaW}
  (s1:h1.s<a.nx) (t1:l1.s<a.nx) (s2:s.h.s<a.nx) (t2:s.l.s<a.nx) (n1:(es.length:Int)=l1.v ρ) (n2:(new.length:Int)=s.l.v ρ) (d1:∀e,e∈es->D T (h1.v ρ) k1 e) (d2:∀e,e∈new->D T (s.h.v ρ) s.k e)
  (e1:σ.ev oy=some (.sl true sz es)) (e2:σ.ev ox=some x) (hx:srcOf σ.bx x=some (sz,new)) (hrows:x.rows=ug xa) (h:zhV own a sz bytes k1 h1 l1 xa s=some outs):OpOk T ρ a σ (.app own sz bytes oy ox) outs:=by
 unfold zhV at h;split at h
 ·rename_i k H N L E;obtain ⟨ρ',u,f,y,q,A,B,J,M⟩:=Ul hr s1 t1 s2 t2 n1 n2 d1 d2 E;split at h
  ·rename_i m;subst m;split at h
   ·rename_i n;cases h;have c:=aO hr.F n;rw [Lin.k_v hr.zero] at c;have j:new.isEmpty=false:=by
     cases new with
     |nil=>grind
     |cons w r=>rfl
    refine ⟨_,qaa.2 rfl,ρ',.bs σ.bx.length 0 (es.length+new.length),σ.bx++[.row sz (es++new)],u,⟨f.zero,f.pos,f.F,f.tm,f.bx.snoc (.row y q (by grind) B)⟩,?_,fun Γ=>?_⟩;·rw [hr.bx.len];exact .bs f.pos q (by rw [Lin.k_v f.zero];rfl) A
    simp only [stepI,e1,e2,hx,beq_self_eq_true,Bool.not_true,qai,if_false,J,Bool.and_self,if_true,j];rw [hr.bx.len,hrows]
   grind
  rename_i m;have m:own=false:=by cases own with|true=>grind|false=>rfl
  subst m;cases h;refine ⟨_,qaa.2 rfl,ρ',.sl false sz (es++new),σ.bx,u,f,.sl y q rfl (by rw [qau];exact A) B,fun Γ=>?_⟩<;>simp_all[stepI]
 grind
theorem zd7 (hr:R T ρ a σ){u:X}(e1:σ.ev oy=some u)(e2:σ.ev ox=some x)(g1:G T a.nx ρ y u)(g2:G T a.nx ρ xa x)(h:zkc own a sz bytes y xa=some outs):OpOk T ρ a σ (.app own sz bytes oy ox) outs:=by
 unfold zkc at h;split at h;·cases h
 rename_i s hs;obtain ⟨f,P,Z,w3,w4,w5,Q⟩:=zaD hr g2 hs;split at h
 ·rename_i B;have B:=qaj B;rw [B] at P;split at h
  ·rename_i J k1 h1 l1;split at h
   ·rename_i hz;have hz:=qaj hz;subst hz;cases g1 with
    |sl q1 q2 q3 q4 q5=>
     rename_i tt L;cases q3;split at h;next n=>cases h;simp at n;obtain ⟨⟨W,q⟩,w⟩:=n;subst W;have c:=aO hr.F q;rw [Lin.k_v hr.zero] at c;have:f=[]:=qaP (by omega);subst this;have A:=uZ hr.zero hr.F w (m:=L.length) q4;refine .one hr (.sl q1 q2 rfl q4 q5) (fun Γ=>?_)<;>simp_all[stepI]
     exact Uk hr q1 q2 Z w3 q4 w4 q5 w5 e1 e2 P Q h
   grind
  ·rename_i J;split at h
   ·rename_i hz;have hz:=qaj hz;subst hz;cases g1;split at h;next n=>cases h;simp at n;obtain ⟨⟨W,q⟩,w⟩:=n;subst W;have c:=aO hr.F q;rw [Lin.k_v hr.zero] at c;have:f=[]:=qaP (by omega);subst this;have A:=uZ hr.zero hr.F w (m:=0) (by rw [Lin.k_v hr.zero];rfl);refine .one hr (.x rfl) (fun Γ=>?_)<;>simp_all[stepI]
    exact Uk hr hr.pos hr.pos Z w3 (by rw [Lin.k_v hr.zero];rfl) w4 (fun e he=>by grind) w5 e1 e2 P Q h
   grind
  ·rename_i i o l;split at h
   ·rename_i J k1 h1 rl e hb ha;split at h
    ·rename_i n;simp only [qab] at n;obtain ⟨⟨q,w⟩,c3⟩:=n;have q:=qaj q;subst q;have w:=Gi hr.F w;rw [kV hr.zero ha] at w;split at h
     ·rename_i k H N a' hk;cases h;cases g1 with
      |bs q1 q2 q3 q4=>
       rename_i j Y;obtain ⟨b,S,U⟩:=hr.bx.get hb;cases U with
       |row r1 r2 r3 r4=>
        rename_i L;have V:(L.drop j).length=Y:=by rw [qaK];omega
        obtain ⟨ρ',p1,E,p3,p4,p5,p6,p7,p8⟩:=Ul hr (e1:=L.drop j) (e2:=f) r1 q2 Z w3 (by grind) w4 (fun e he=>r4 e (List.mem_of_mem_drop he)) w5 hk;rw [V] at p5 p7;have O:(j+Y==L.length)=true:=by rw [qaQ];omega
        have M:(!memN i x.rows)=true:=by rw [Q];exact c3
        refine ⟨_,qaa.2 rfl,ρ',.bs σ.bx.length 0 (Y+f.length),σ.bx.set i .dead++[.row J (L.drop j++f)],p1,⟨E.zero,E.pos,E.F,E.tm,(E.bx.set i .dead).snoc (.row p3 p4 (by grind) p6)⟩,?_,fun Γ=>?_⟩;·rw [hr.bx.len];exact .bs E.pos p4 (by rw [Lin.k_v E.zero];rfl) p5
        simp only [stepI,e1,e2,P,beq_self_eq_true,Bool.not_true,qai,if_false,S,O,p7,M,Bool.and_self,if_true];rw [hr.bx.len,Q]
     grind
    grind
   grind
  grind
 grind
end
section
variable {a:ASt}{y:AX}{ok:Bool}{outs:List Out}{σ:St}{x:X}
variable {T:Tab} {n:Nat} {ρ:Rho}
def LJ:AX->Option Value
 |.i k l=>if Nat.beq l.s 0 then some (.int k l.c) else none
 |.x (.v (.string s))=>some (.string s)
 |_=>none
theorem Gq (h0:ρ 0=0){v:Value}(hg:G T n ρ y x)(h:LJ y=some v):x=.v v:=by
 unfold LJ at h;split at h
 ·split at h;next k l a=>cases h;cases hg<;>grind[Lin.v,qaj]
  grind
 ·cases h;cases hg;rfl
 grind
def S9 (k:Value):List (Value×AX)->Nat->Option (Option (Nat×AX))
 |[],_=>some none
 |e::r,i=>match keySame k e.1 with
  |some true=>some (some (i,e.2))
  |some false=>S9 k r (i+1)
  |none=>none
theorem qw {k:Value}:∀{l:List (Value×AX)} {m:List (Value×X)} {i:Nat} {r:Option (Nat×AX)},GM T n ρ l m->S9 k l i=some r->(r=none/\mapFind k m i=some none)\/∃j y x,r=some (j,y)/\mapFind k m i=some (some (j,x))/\G T n ρ y x
 |_,_,i,r,.nil,h=>by cases h;exact .inl ⟨rfl,rfl⟩
 |_,_,i,r,.cons (k:=kk) g1 g2,h=>by
  unfold S9 at h;unfold mapFind;dsimp only at h ⊢;split at h
  ·grind
  next e=>rw [e];exact qw g2 h
  grind
theorem GM.set:∀{l:List (Value×AX)} {m:List (Value×X)} {k:Value} {y:AX} {x:X} (i:Nat),GM T n ρ l m->G T n ρ y x->GM T n ρ (l.set i (k,y)) (m.set i (k,x))
 |_,_,_,_,_,_,.nil,_=>.nil
 |_,_,_,_,_,0,.cons _ h,g=>.cons g h
 |_,_,_,_,_,i+1,.cons h1 h,g=>.cons h1 (h.set i g)
theorem GM.snoc:∀{l:List (Value×AX)} {m:List (Value×X)} {k:Value} {y:AX} {x:X},GM T n ρ l m->G T n ρ y x->GM T n ρ (l++[(k,y)]) (m++[(k,x)])
 |_,_,_,_,_,.nil,g=>.cons g .nil
 |_,_,_,_,_,.cons h1 h,g=>.cons h1 (h.snoc g)
theorem GM.len:∀{l:List (Value×AX)} {m:List (Value×X)},GM T n ρ l m->l.length=m.length
 |_,_,.nil=>rfl
 |_,_,.cons _ h=>by rw [qat,qat,h.len]
def ziw (k:Value)(y:AX)(es:List (Value×AX)):Option (List (Value×AX)):=match S9 k es 0 with
 |some none=>some (es++[(k,y)])
 |some (some (i,_))=>some (es.set i (k,y))
 |none=>none
theorem zbh {k:Value}{l r:List (Value×AX)}{m:List (Value×X)}(hm:GM T n ρ l m)(hg:G T n ρ y x)(h:ziw k y l=some r):∃w,mapPut k x m=some w/\GM T n ρ r w:=by
 unfold ziw at h;split at h
 ·rename_i e;cases h;rcases qw hm e with ⟨_,a⟩|⟨_,_,_,a,_,_⟩;·exact ⟨_,by grind[mapPut],hm.snoc hg⟩
  grind
 ·rename_i i q e;cases h;rcases qw hm e with ⟨a,_⟩|⟨j,_,_,a,f,_⟩
  ·grind
  cases a;exact ⟨_,by grind[mapPut],hm.set _ hg⟩
 grind
def zcy (ok:Bool)(y:AX)(b:Bool):AX:=if ok then .tup [y,cb b] else y
def WX (k:IntKind):List (Value×AX)->Bool
 |[]=>true
 |(.int k' _,_)::r=>decide (k'=k)&&WX k r
 |_=>false
def NY (a:ASt)(ok:Bool)(l:Lin):List (Value×AX)->List Out
 |[]=>[]
 |(.int _ c,y)::r=>outOf (assume a [au l (.k c),au (.k c) l]) (zcy ok y true)++NY a ok l r
 |_::r=>NY a ok l r
def zbu (a:ASt)(kk:KK)(ok:Bool)(zero:X)(m k:AX):Option (List Out):=match m with
 |.mp i=>match a.bx[i]? with
  |some (.map es)=>if X.bare zero then match LJ k with
   |some v=>if okKey kk v then match S9 v es 0 with
    |some none=>some [(zcy ok (ofX zero) false,a,⟨false,[i],[]⟩)]
    |some (some (_,y))=>some [(zcy ok y true,a,⟨false,[i],[]⟩)]
    |none=>none else none
   |none=>match kk,k with
    |.int kd,.i kd' l=>if kd'=kd&&WX kd es then some ((NY a ok l es++[(zcy ok (ofX zero) false,a,fp0)]).map fun o=>(o.1,o.2.1,⟨false,[i],[]⟩)) else none
    |_,_=>none else none
  |_=>none
 |_=>none
theorem CZ {b:Bool}(hg:G T n ρ y x):G T n ρ (zcy ok y b) (if ok then .tup [x,.v (.bool b)] else x):=by
 unfold zcy;split;·exact .tup (.cons hg (.cons (uP b) .nil))
 grind
theorem KL {a:ASt}{σ:St}(hr:R T ρ a σ){ok:Bool}{l:Lin}{kd:IntKind}(hl:l.s<a.nx):∀{es:List (Value×AX)} {m:List (Value×X)} {i:Nat},GM T a.nx ρ es m->WX kd es=true->
  (mapFind (.int kd (l.v ρ)) m i=some none)\/∃j x,mapFind (.int kd (l.v ρ)) m i=some (some (j,x))/\∃o,o∈NY a ok l es/\More a.nx ρ o.2.1.nx ρ/\R T ρ o.2.1 σ/\G T o.2.1.nx ρ o.1 (if ok then .tup [x,.v (.bool true)] else x)
 |_,_,i,.nil,_=>.inl rfl
 |(.int k' c,y)::r,(_,x)::m,i,.cons g1 g2,h=>by
  unfold WX at h;rw [qab,qaI] at h;obtain ⟨rfl,h2⟩:=h;unfold mapFind;have hks:keySame (.int k' (l.v ρ)) (.int k' c)=some (l.v ρ==c):=by simp [keySame]
  rw [hks];cases hb:(l.v ρ==c) with
  |true=>right;have he:=eq_of_beq hb;have hf:aV a.nx ρ [au l (.k c),au (.k c) l]:=aV.cons (aF.2 ⟨hl,hr.pos,by rw [Lin.k_v hr.zero];omega⟩) (dG hr.pos hl (by rw [Lin.k_v hr.zero];omega));obtain ⟨a',h3,h4,h5⟩:=iE hr hf;have hm:More a.nx ρ a'.nx ρ:=⟨by omega,fun _ _=>rfl⟩;refine ⟨i,x,rfl,(zcy ok y true,a',fp0),?_,hm,h4,CZ (g1.more hm)⟩;unfold NY;rw [h3];exact List.mem_append_left _ (qaa.2 rfl)
  |false=>dsimp only;rcases KL (ok:=ok) hr hl (i:=i+1) g2 h2 with h3|⟨j,w,h3,o,ho,h4⟩<;>grind[NY]
theorem WL (hr:R T ρ a σ){kk:KK}{zero:X}{om okk:Opd}{z:AX}{m k:X}(e1:σ.ev om=some m)(e2:σ.ev okk=some k)(g1:G T a.nx ρ y m)(g2:G T a.nx ρ z k)(h:zbu a kk ok zero y z=some outs):OpOk T ρ a σ (.mget kk ok zero om okk) outs:=by
 unfold zbu at h;split at h
 ·rename_i i;cases g1;split at h
  ·rename_i S H;obtain ⟨b,J,A⟩:=hr.bx.get H;cases A with
   |map hm=>
    rename_i E;split at h
    ·rename_i hz;have f:=QX (T:=T) hr.zero hr.pos zero hz;split at h
     ·rename_i v N;have:=Gq hr.zero g2 N;subst this;split at h
      ·rename_i V;split at h
       ·rename_i e;cases h;rcases qw hm e with ⟨_,q⟩|⟨_,_,_,q,_,_⟩;·exact .one hr (CZ f) (fun Γ=>by simp_all[stepI,mapGet])
        grind
       ·rename_i j Y e;cases h;rcases qw hm e with ⟨q,_⟩|⟨_,_,_,q,U,F⟩
        ·grind
        cases q;exact .one hr (CZ F) (fun Γ=>by simp_all[stepI,mapGet])
       grind
      grind
     split at h
     ·rename_i W u l _;split at h
      ·rename_i B;cases h;rw [qab,qaI] at B;obtain ⟨rfl,n⟩:=B;cases g2 with
       |i q1 q2=>
        subst q2;have M:okKey (.int u) (.int u (l.v ρ))=true:=by simp [okKey]
        rcases KL (ok:=ok) hr q1 (i:=0) hm n with q|⟨j,w,q,o,L,O,P,Q⟩;·refine ⟨_,qam.2 ⟨_,List.mem_append_right _ (qaa.2 rfl),rfl⟩,ρ,_,σ.bx,.refl ..,hr,CZ f,fun Γ=>?_⟩<;>simp_all[stepI,mapGet]
        refine ⟨_,qam.2 ⟨o,List.mem_append_left _ L,rfl⟩,ρ,_,σ.bx,O,P,Q,fun Γ=>?_⟩<;>simp_all[stepI,mapGet]
      grind
     grind
    grind
  grind
 grind
def opA (T:Tab)(K:Names)(a:ASt)(i:I):Option (List Out):=match i with
 |.bslice len zero parts=>JL T K a len zero parts
 |.snil neg x=>match a.ev x with
  |some y=>zaH a neg y
  |none=>none
 |.s2b x=>match a.ev x with
  |some y=>zil T K a y
  |none=>none
 |.slice sz x lo hi mx=>match a.ev x with
  |some y=>P7 a sz y lo hi mx
  |none=>none
 |.sslice x lo hi=>match a.ev x with
  |some y=>P5 a y lo hi
  |none=>none
 |.iaddr arr sz x j=>match a.ev x,a.ev j with
  |some y,some z=>Rz T a arr sz y z
  |_,_=>none
 |.aidx len sz m x j=>match a.ev x,a.ev j with
  |some y,some z=>zec a len sz m y z
  |_,_=>none
 |.sidx x j=>match a.ev x,a.ev j with
  |some y,some z=>zaL a y z
  |_,_=>none
 |.mksl bytes zero x c=>match a.ev x,a.ev c with
  |some y,some z=>zbt T K a bytes zero y z
  |_,_=>none
 |.app own sz bytes s x=>match a.ev s,a.ev x with
  |some y,some z=>zkc own a sz bytes y z
  |_,_=>none
 |.mkmap=>some [(.mp a.bx.length,{a with bx:=a.bx++[.map []]},⟨true,[],[a.bx.length]⟩)]
 |.mput kk m k v=>match a.ev m,a.ev k,a.ev v with
  |some (.mp i),some k,some y=>match a.bx[i]?,LJ k,y.cells with
   |some (.map es),some kv,some _=>if okKey kk kv&&y.refs.isEmpty then (ziw kv y es).map fun es'=>[(J4,{a with bx:=a.bx.set i (.map es')},⟨true,[],[i]⟩)] else none
   |_,_,_=>none
  |_,_,_=>none
 |.mget kk ok zero m k=>match a.ev m,a.ev k with
  |some y,some z=>zbu a kk ok zero y z
  |_,_=>none
 |.mlen m=>match a.ev m with
  |some (.mp i)=>match a.bx[i]? with
   |some (.map es)=>some [(.i .i64 (.k es.length),a,⟨false,[i],[]⟩)]
   |_=>none
  |_=>none
 |i=>opV T a i
theorem zfR {K:Names}{i:I}(hr:R T ρ a σ)(h:opA T K a i=some outs):OpOk T ρ a σ i outs:=by
 unfold opA at h;split at h
 ·grind[OM]
 ·grind[bH,VG]
 ·grind[bH,zaQ]
 ·grind[bH,P6]
 ·grind[bH,PZ]
 ·grind[bH,Ry]
 ·grind[bH,YS]
 ·grind[bH,VJ]
 ·grind[bH,WI]
 ·grind[bH,zd7]
 ·cases h;refine ⟨_,qaa.2 rfl,ρ,.mp σ.bx.length,σ.bx++[.map []],.refl ..,⟨hr.zero,hr.pos,hr.F,hr.tm,hr.bx.snoc (.map .nil)⟩,?_,fun Γ=>?_⟩;·rw [hr.bx.len];exact .mp
  simp only [stepI];rw [hr.bx.len]
 ·rename_i kk m k v;split at h
  ·rename_i i k' y n J L;obtain ⟨Y,H,q⟩:=bH hr n;obtain ⟨xk,S,O⟩:=bH hr J;obtain ⟨Z,V,u⟩:=bH hr L;cases q;split at h
   ·rename_i M kv cs A Q B;obtain ⟨b,l,f⟩:=hr.bx.get A;cases f with
    |map hmm=>
     have:=Gq hr.zero O Q;subst this;split at h
     ·rename_i j;obtain ⟨N,U,rfl⟩:=qac.1 h;obtain ⟨w,W,E⟩:=zbh hmm u U;rw [qab] at j;have P:noRef Z=true:=by unfold noRef;rw [u.refs];exact j.2
      refine ⟨_,qaa.2 rfl,ρ,undefX,σ.bx.set i (.map w),.refl ..,⟨hr.zero,hr.pos,hr.F,hr.tm,hr.bx.set i (.map E)⟩,.x rfl,fun Γ=>?_⟩;simp only [stepI,H,S,V,l,j.1,(cells_ok u B).1,P,Bool.and_self,if_true,W,qao]
     grind
   grind
  grind
 ·grind[bH,WL]
 ·split at h
  ·rename_i i n;obtain ⟨Y,H,q⟩:=bH hr n;cases q;split at h
   ·rename_i M A;cases h;obtain ⟨b,l,f⟩:=hr.bx.get A;cases f with
    |map hmm=>exact .one hr (.i hr.pos (by rw [Lin.k_v hr.zero,hmm.len])) (fun Γ=>by grind[stepI])
   grind
  grind
 grind[zfP]
end
section
variable {l p:Lin}
variable {T:Tab} {n m:Nat} {ρ ρ':Rho}
abbrev Sub:=Nat->Lin
variable {θ:Sub}
def Lin.sub (θ:Sub)(l:Lin):Lin:=(θ l.s).up l.c
def Fact.sub (θ:Sub)(f:Fact):Fact:=au (θ f.x) ((θ f.y).up f.c)
def zu (m:Nat)(ρ:Rho)(n:Nat)(ρ':Rho)(θ:Sub):Prop:=∀s,s<m->(θ s).s<n/\(θ s).v ρ'=ρ s
theorem Lin.iQ (h:zu m ρ n ρ' θ)(hl:l.s<m):(l.sub θ).s<n/\(l.sub θ).v ρ'=l.v ρ:=by obtain ⟨a,f⟩:=h l.s hl;exact ⟨a,by unfold Lin.sub;rw [Lin.jI,f];rfl⟩
theorem Fact.ze3 {f:Fact}(h:zu m ρ n ρ' θ)(hf:f.ok m ρ):(f.sub θ).ok n ρ':=by obtain ⟨l,q,y⟩:=hf;obtain ⟨a,u⟩:=h _ l;obtain ⟨j,w⟩:=h _ q;exact aF.2 ⟨a,j,by grind[Lin.jI]⟩
theorem aV.sub {F:List Fact}(h:zu m ρ n ρ' θ)(hf:aV m ρ F):aV n ρ' (F.map (Fact.sub θ)):=fun f j=>by obtain ⟨g,a,rfl⟩:=qam.1 j;exact Fact.ze3 h (hf g a)
mutual
def AX.sub (θ:Sub):AX->AX
 |.i k l=>.i k (l.sub θ)
 |.b t u=>.b (t.map (Fact.sub θ)) (u.map (Fact.sub θ))
 |.s l=>.s (l.sub θ)
 |.x x=>.x x
 |.sl t sz k h l=>.sl t sz k (h.sub θ) (l.sub θ)
 |.bs i a b=>.bs i (a.sub θ) (b.sub θ)
 |.ptr i a o=>.ptr i (a.sub θ) o
 |.dp cs=>.dp (Hg θ cs)
 |.fn f cs=>.fn f (Hg θ cs)
 |.agg cs=>.agg (Hg θ cs)
 |.tup cs=>.tup (Hg θ cs)
 |.yl i=>.yl i
 |.mp i=>.mp i
 |.nX=>.nX
 |.el k h=>.el k (h.sub θ)
 |.de k h=>.de k (h.sub θ)
def Hg (θ:Sub):List AX->List AX
 |[]=>[]
 |x::r=>x.sub θ::Hg θ r
end
mutual
theorem G.sub {θ:Sub}(h:zu m ρ n ρ' θ):∀{a:AX} {x:X},G T m ρ a x->G T n ρ' (a.sub θ) x
 |_,_,.i h1 h2=>.i (Lin.iQ h h1).1 (by rw [(Lin.iQ h h1).2]<;>grind)
 |_,_,.b h1 h2=>.b (fun e=>(h1 e).sub h) (fun e=>(h2 e).sub h)
 |_,_,.s h1 h2=>.s (Lin.iQ h h1).1 (by rw [(Lin.iQ h h1).2]<;>grind)
 |_,_,.x h1=>.x h1
 |_,_,.sl h1 h2 h3 h4 h5=>.sl (Lin.iQ h h1).1 (Lin.iQ h h2).1 h3 (by rw [(Lin.iQ h h2).2]<;>grind) (by rw [(Lin.iQ h h1).2]<;>grind)
 |_,_,.bs h1 h2 h3 h4=>.bs (Lin.iQ h h1).1 (Lin.iQ h h2).1 (by rw [(Lin.iQ h h1).2]<;>grind) (by rw [(Lin.iQ h h2).2]<;>grind)
 |_,_,.ptr h1 h2=>.ptr (Lin.iQ h h1).1 (by rw [(Lin.iQ h h1).2]<;>grind)
 |_,_,.dp h1=>.dp (GL.sub h h1)
 |_,_,.fn h1=>.fn (GL.sub h h1)
 |_,_,.agg h1=>.agg (GL.sub h h1)
 |_,_,.tup h1=>.tup (GL.sub h h1)
 |_,_,.yl=>.yl
 |_,_,.mp=>.mp
 |_,_,.ifc=>.ifc
 |_,_,.Ah=>.Ah
 |_,_,.el h1 h2=>.el (Lin.iQ h h1).1 (by rw [(Lin.iQ h h1).2]<;>grind)
 |_,_,.de h1 h2=>.de (Lin.iQ h h1).1 (by rw [(Lin.iQ h h1).2]<;>grind)
theorem GL.sub {θ:Sub}(h:zu m ρ n ρ' θ):∀{a:List AX} {x:List X},GL T m ρ a x->GL T n ρ' (Hg θ a) x
 |_,_,.nil=>.nil
 |_,_,.cons h1 h2=>.cons (G.sub h h1) (GL.sub h h2)
end
def ABx.sub (θ:Sub):ABx->ABx
 |.var cs=>.var (Hg θ cs)
 |.row s k h l=>.row s k (h.sub θ) (l.sub θ)
 |.loop st p tm ps a b=>.loop st p (tm.map fun q=>(q.1,q.2.sub θ)) ps a b
 |.map es=>.map (es.map fun q=>(q.1,q.2.sub θ))
 |.dead=>.dead
 |.el k h=>.el k (h.sub θ)
theorem GT.sub (h:zu m ρ n ρ' θ):∀{a:List (Nat×AX)} {x:List (Nat×X)},GT T m ρ a x->GT T n ρ' (a.map fun q=>(q.1,q.2.sub θ)) x
 |_,_,.nil=>.nil
 |_,_,.cons h1 h2=>.cons (h1.sub h) (h2.sub h)
theorem GM.sub (h:zu m ρ n ρ' θ):∀{a:List (Value×AX)} {x:List (Value×X)},GM T m ρ a x->GM T n ρ' (a.map fun q=>(q.1,q.2.sub θ)) x
 |_,_,.nil=>.nil
 |_,_,.cons h1 h2=>.cons (h1.sub h) (h2.sub h)
theorem GB.sub (h:zu m ρ n ρ' θ):∀{a:ABx} {x:Bx},GB T m ρ a x->GB T n ρ' (a.sub θ) x
 |_,_,.var h1=>.var (h1.sub h)
 |_,_,.row h1 h2 h3 h4=>.row (Lin.iQ h h1).1 (Lin.iQ h h2).1 (by rw [(Lin.iQ h h2).2]<;>grind) (by rw [(Lin.iQ h h1).2]<;>grind)
 |_,_,.loop h1=>.loop (h1.sub h)
 |_,_,.map h1=>.map (h1.sub h)
 |_,_,.dead=>.dead
 |_,_,.el h1 h2=>.el (Lin.iQ h h1).1 (by rw [(Lin.iQ h h1).2]<;>grind)
theorem GBs.sub (h:zu m ρ n ρ' θ):∀{a:List ABx} {x:List Bx},GBs T m ρ a x->GBs T n ρ' (a.map (ABx.sub θ)) x
 |_,_,.nil=>.nil
 |_,_,.cons h1 h2=>.cons (h1.sub h) (h2.sub h)
structure In where
 S:Nat->Nat->Bool
 F:List Fact
 θ:Sub
 m:Nat
variable {c:In}
def lEq (c:In)(l p:Lin):Bool:=Nat.blt p.s c.m&&eqL c.F l (p.sub c.θ)
def lLe (c:In)(l p:Lin):Bool:=Nat.blt p.s c.m&&leL c.F l (p.sub c.θ)
def Ll (t p:Option Bool):Bool:=match p with
 |none=>true
 |some b=>match t with
  |some c=>c==b
  |none=>false
def xEq:X->X->Bool
 |.v .nilFunc,.v .nilFunc=>true
 |.v .nilIface,.v .nilIface=>true
 |.v (.pointer none),.v (.pointer none)=>true
 |.v (.map none),.v (.map none)=>true
 |.v (.tuple ⟨[]⟩),.v (.tuple ⟨[]⟩)=>true
 |.ifc,.ifc=>true
 |.sl t s [],.sl t' s' []=>(t==t')&&Nat.beq s s'
 |.v (.string a),.v (.string b)=>decide (a=b)
 |_,_=>false
theorem O8 {x y:X}(h:xEq x y=true):x=y:=by
 unfold xEq at h;split at h<;>first
  |rfl
  |(rw [qab] at h;rw [eq_of_beq h.1,qaj h.2])
  |(rw [of_decide_eq_true h])
  |cases h
mutual
def leX (c:In):AX->AX->Bool
 |.i k l,.i k' p=>decide (k=k')&&lEq c l p
 |.b _ _,.b [] []=>true
 |.b _ u,.b [] [g]=>(g==bot)&&u.any (fun f=>f==bot)
 |.b t u,.b [g] []=>(g==bot)&&!u.any (fun f=>f==bot)&&t.any (fun f=>f==bot)
 |.s l,.s p=>lEq c l p
 |.x (.v (.string bs)),.s p=>lEq c (.k bs.size) p
 |.sl t sz k h l,.sl t' sz' k' h' l'=>Ll t t'&&Nat.beq sz sz'&&Nat.blt h'.s c.m&&lEq c l l'&&(leL c.F l (.k 0)||(c.S k k'&&lLe c h h'))
 |.x (.sl t sz []),.sl t' sz' _ h' l'=>Ll (some t) t'&&Nat.beq sz sz'&&Nat.blt h'.s c.m&&lEq c (.k 0) l'
 |.x x,.x y=>xEq x y
 |.x x,.nX=>xEq x .ifc||xEq x (.v .nilIface)
 |.bs i o l,.bs i' o' l'=>Nat.beq i i'&&lEq c o o'&&lEq c l l'
 |.ptr i e o,.ptr i' e' o'=>Nat.beq i i'&&lEq c e e'&&Nat.beq o o'
 |.dp cs,.dp ps=>WV c cs ps
 |.fn f cs,.fn g ps=>Nat.beq f g&&WV c cs ps
 |.agg cs,.agg ps=>WV c cs ps
 |.tup cs,.tup ps=>WV c cs ps
 |.yl i,.yl j=>Nat.beq i j
 |.mp i,.mp j=>Nat.beq i j
 |.nX,.nX=>true
 |.el k h,.el k' h'=>c.S k k'&&lLe c h h'
 |_,_=>false
def WV (c:In):List AX->List AX->Bool
 |[],[]=>true
 |a::l,b::r=>leX c a b&&WV c l r
 |_,_=>false
end
def back (θ:Sub)(ρ:Rho):Rho:=fun s=>(θ s).v ρ
theorem kP (θ:Sub)(ρ:Rho)(l:Lin):(l.sub θ).v ρ=l.v (back θ ρ):=by unfold Lin.sub back;rw [Lin.jI];rfl
theorem qc (hF:aV n ρ c.F)(h:lEq c l p=true):p.s<c.m/\l.v ρ=p.v (back c.θ ρ):=by unfold lEq at h;rw [qab] at h;exact ⟨cZ h.1,by rw [<-kP]<;>grind[Gi]⟩
theorem KR (hF:aV n ρ c.F)(h:lLe c l p=true):p.s<c.m/\l.v ρ<=p.v (back c.θ ρ):=by unfold lLe at h;rw [qab] at h;exact ⟨cZ h.1,by rw [<-kP];exact aO hF h.2⟩
theorem F6 {t p:Option Bool}{b:Bool}(h:Ll t p=true)(hf:xM t b):xM p b:=by
 unfold Ll at h;split at h;·trivial
 grind
theorem Um {n:Nat}{ρ:Rho}{fs:List Fact}(hb:fs.any (fun f=>f==bot)=true):¬aV n ρ fs:=fun j=>by obtain ⟨f,a,h⟩:=List.any_eq_true.1 hb;have:=eq_of_beq h;subst this;exact LW (fun g l=>by rw [qaa.1 l];exact j _ a)
mutual
theorem KP {c:In}(hS:SOk T c.S)(h0:ρ 0=0)(hF:aV n ρ c.F):∀{a p:AX} {x:X},leX c a p=true->G T n ρ a x->G T c.m (back c.θ ρ) p x:=by
 intro a p x h f;unfold leX at h;split at h
 ·rw [qab,qaI] at h;obtain ⟨rfl,N⟩:=h;obtain ⟨w,A⟩:=qc hF N;cases f with
  |i q1 q2=>exact .i w (by grind)
 ·cases f;exact .b (fun _=>.nil) (fun _=>.nil)
 ·rw [qab] at h;cases f with
  |b q1 q2=>
   rename_i t;cases t with
   |true=>exact .b (fun _=>.nil) (fun e=>by cases e)
   |false=>simp_all[Um]
 ·simp only [qab] at h;cases f with
  |b q1 q2=>
   rename_i t;cases t with
   |false=>exact .b (fun e=>by cases e) (fun _=>.nil)
   |true=>simp_all[Um]
 ·obtain ⟨w,A⟩:=qc hF h;cases f with
  |s q1 q2=>exact .s w (by grind)
 ·obtain ⟨w,A⟩:=qc hF h;cases f;exact .s w (by grind[Lin.k_v])
 ·simp only [qab,Bool.or_eq_true] at h;obtain ⟨⟨⟨⟨j,l⟩,u⟩,E⟩,y⟩:=h;have l:=qaj l;subst l;obtain ⟨w,A⟩:=qc hF E;cases f with
  |sl q1 q2 q3 q4 q5=>
   refine .sl (cZ u) w (F6 j q3) (by grind) fun e H=>?_;rcases y with y|⟨y,M⟩;·have:=aO hF y<;>grind[Lin.k_v]
   exact hS y (iF (KR hF M).2 (q5 e H))
 ·simp only [qab] at h;obtain ⟨⟨⟨j,l⟩,u⟩,E⟩:=h;have l:=qaj l;subst l;obtain ⟨w,A⟩:=qc hF E;cases f;exact .sl (cZ u) w (F6 j rfl) (by grind[Lin.k_v]) (fun e H=>by grind)
 ·rw [<-O8 h];cases f with
  |x q=>exact .x q
 ·rw [Bool.or_eq_true] at h;cases f;rcases h with h|h;·rw [O8 h];exact .ifc
  rw [O8 h];exact .Ah
 ·simp only [qab] at h;obtain ⟨⟨j,l⟩,u⟩:=h;have j:=qaj j;subst j;obtain ⟨B,J⟩:=qc hF l;obtain ⟨L,O⟩:=qc hF u;cases f with
  |bs q1 q2 q3 q4=>exact .bs B L (by grind) (by grind)
 ·simp only [qab] at h;obtain ⟨⟨j,l⟩,u⟩:=h;have j:=qaj j;have u:=qaj u;subst j;subst u;obtain ⟨B,J⟩:=qc hF l;cases f with
  |ptr q1 q2=>exact .ptr B (by grind)
 ·cases f with|dp q=>exact .dp (oC hS h0 hF h q)
 ·rw [qab] at h;have j:=qaj h.1;subst j;cases f with|fn q=>exact .fn (oC hS h0 hF h.2 q)
 ·cases f with|agg q=>exact .agg (oC hS h0 hF h q)
 ·cases f with|tup q=>exact .tup (oC hS h0 hF h q)
 ·have j:=qaj h;subst j;cases f;exact .yl
 ·have j:=qaj h;subst j;cases f;exact .mp
 ·cases f;·exact .ifc
  exact .Ah
 ·rw [qab] at h;have l:=KR hF h.2;cases f with|el q1 q2=>exact .el l.1 (hS h.1 (iF l.2 q2))
 grind
theorem oC {c:In}(hS:SOk T c.S)(h0:ρ 0=0)(hF:aV n ρ c.F):∀{a p:List AX} {x:List X},WV c a p=true->GL T n ρ a x->GL T c.m (back c.θ ρ) p x
 |[],[],_,_,.nil=>.nil
 |a::l,b::r,_,h,.cons h1 h2=>by unfold WV at h;rw [qab] at h;exact .cons (KP hS h0 hF h.1 h1) (oC hS h0 hF h.2 h2)
end
end
end Go.Ab
