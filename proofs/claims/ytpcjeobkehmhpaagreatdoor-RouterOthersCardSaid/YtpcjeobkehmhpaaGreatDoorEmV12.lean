/-.-/
import Derived.Test.YtpcjeobkehmhpaaGreatDoorEmV7
import Derived.Test.YtpcjeobkehmhpaaGreatDoorEmV11
set_option linter.all false
namespace Go.Ab
open Go.Em
section
variable {a:ASt}{r y:AX}{c:Ctr}{ext:Ext}{tab:FuncId->Option Fun}{bx:List ABx}{bxs:List Bx}{L:List Ctr}{K:Names}{S:Nat->Nat->Bool}{orc:Orc}{σ:St}{x:X}
variable {T:Tab} {n m:Nat} {ρ ρ':Rho} {Γ:Nat->Gam}
def zpw:Nat->List AX->List (Nat×AX)
 |_,[]=>[]
 |k,x::r=>(k,x)::zpw (k+1) r
theorem Xw:∀{l:List AX} {m:List X} {k:Nat},GL T n ρ l m->GT T n ρ (zpw k l) (H8 k m)
 |_,_,_,.nil=>.nil
 |_,_,_,.cons h1 h2=>.cons h1 (Xw h2)
def zk8 (a:ASt)(t:Nat)(k:Option Nat):Option AX:=match lkA a.tm t with
 |some (.ptr i e o)=>match a.bx[i]? with
  |some (.var cs)=>if zcf e then takeA k (cs.drop o) else none
  |_=>none
 |some (.dp cs)=>takeA k cs
 |_=>none
theorem zfp (hr:R T ρ a σ){t:Nat}{k:Option Nat}(h:zk8 a t k=some y):∃x,(lk σ.tm t).bind (oC σ k)=some x/\G T a.nx ρ y x:=by
 unfold zk8 at h;split at h
 ·rename_i i e o m;obtain ⟨x,q,l⟩:=jB hr.tm m;cases l with
  |ptr q1 q2=>
   rename_i u;split at h
   ·rename_i E B;split at h
    ·rename_i hz;obtain ⟨b,A,n⟩:=hr.bx.get B;cases n with
     |var hv=>
      rename_i H;have F:=rM hz hr.zero;have:u=0:=by omega
      subst this;obtain ⟨z,j,f⟩:=zZ (hv.drop o) h<;>grind[oC,ku]
    grind
   grind
 ·rename_i E m;obtain ⟨x,q,l⟩:=jB hr.tm m;cases l with
  |dp hv=>obtain ⟨z,j,f⟩:=zZ hv h;refine ⟨z,?_,f⟩;rw [q,Option.bind_some];exact j
 grind
def znp (a:ASt):List Rv->Option (List AX)
 |[]=>some []
 |r::rs=>match (match r with|.tmp t=>lkA a.tm t|.cell t k=>zk8 a t k) with
  |none=>none
  |some x=>(znp a rs).map (x::·)
theorem YP {a:ASt}{σ:St}(hr:R T ρ a σ):∀{rs:List Rv} {ys:List AX},znp a rs=some ys->∃xs,Xo σ rs=some xs/\GL T a.nx ρ ys xs
 |[],ys,h=>by simp only [znp,qaf] at h;subst h;exact ⟨[],rfl,.nil⟩
 |r::rs,ys,h=>by
  unfold znp at h;split at h;·cases h
  rename_i y hy;obtain ⟨ys',h1,rfl⟩:=qac.1 h;obtain ⟨xs,h2,h3⟩:=YP hr h1;cases r with
  |tmp t=>obtain ⟨x,hx,hg⟩:=jB hr.tm hy;exact ⟨x::xs,by grind[Xo],.cons hg h3⟩
  |cell t k=>obtain ⟨x,hx,hg⟩:=zfp hr hy;exact ⟨x::xs,by grind[Xo],.cons hg h3⟩
def RU:List AX->AX
 |[x]=>x
 |xs=>.tup xs
theorem OX {l:List AX}{m:List X}(h:GL T n ρ l m):G T n ρ (RU l) (qW m):=by
 cases h with
 |nil=>exact .tup .nil
 |cons h1 a=>
  cases a with
  |nil=>exact h1
  |cons h3 h4=>exact .tup (.cons h1 (.cons h3 h4))
def zih (nIn:Nat)(y:AX)(bx:List ABx):Option (AX×List ABx):=
 let sel:=tY bx iO (List.range nIn++y.refs) []
 if Oj y.refs sel&&sel.take nIn==List.range nIn then (LJ bx sel).map fun b=>(y.ren (uV · sel),b) else none
theorem zdA {nIn:Nat}{q:AX×List ABx}(hg:G T n ρ y x)(hb:GBs T n ρ bx bxs)(h:zih nIn y bx=some q):∃z w,pack nIn x bxs=some (z,w)/\G T n ρ q.1 z/\GBs T n ρ q.2 w:=by
 unfold zih at h;dsimp only at h;split at h;next f=>obtain ⟨p,l,rfl⟩:=qac.1 h;obtain ⟨w,j,a⟩:=BM hb l;refine ⟨_,w,?_,hg.ren _,a⟩;unfold pack;dsimp only;rw [hg.refs,nZ hb,if_pos f,j];rfl
 grind
def zp2 (S:Nat->Nat->Bool)(k:Nat)(a:ASt)(r:AX)(bx:List ABx)(o:zfP):Bool:=
 let acc:=NR bx o.bx (zfy r o.r [])
 let c:In:=⟨S,a.F,eY k acc,o.m⟩
 Nat.ble k o.m&&Nat.ble k a.nx&&Nat.blt 0 k&&leX c r o.r&&zn5 c bx o.bx&&
  o.F.all (fun f=>Nat.blt f.x o.m&&Nat.blt f.y o.m&&leL a.F (eY k acc f.x) ((eY k acc f.y).up f.c))
theorem za4 (hS:SOk T S){k:Nat}{o:zfP}(hr:R T ρ a σ)(hg:G T a.nx ρ r x)(hb:GBs T a.nx ρ bx bxs)(h:zp2 S k a r bx o=true):
  ∃ρo,More k ρ o.m ρo/\aY o.m ρo o.F/\G T o.m ρo o.r x/\GBs T o.m ρo o.bx bxs:=by
 unfold zp2 at h;simp only [qab] at h;obtain ⟨⟨⟨⟨⟨H,N⟩,E⟩,n⟩,l⟩,q⟩:=h;generalize NR bx o.bx (zfy r o.r [])=acc at n l q;have M:=eH E;have j:∀s,s<k->back (eY k acc) ρ s=ρ s:=fun s L=>by simp_all[back,eY,Lin.v]
 refine ⟨back (eY k acc) ρ,⟨Nat.le_of_ble_eq_true H,j⟩,fun f y=>?_,SL (c:=⟨S,a.F,eY k acc,o.m⟩) hS hr.zero hr.F n hg,Pm (c:=⟨S,a.F,eY k acc,o.m⟩) hS hr.zero hr.F l hb⟩;have:=qaq.1 q f y;simp only [qab] at this;obtain ⟨⟨J,A⟩,B⟩:=this;have u:=aU hr.F B;rw [Lin.ny] at u;exact ⟨eH J,eH A,u⟩
def zkZ:ASt->List AX->List (ASt×List AX)
 |a,[]=>[(a,[])]
 |a,.b tf ff::r=>(match assume a tf with|some a'=>(zkZ a' r).map (fun q=>(q.1,cb true::q.2))|none=>[])++
   (match assume a ff with|some a'=>(zkZ a' r).map (fun q=>(q.1,cb false::q.2))|none=>[])
 |a,y::r=>(zkZ a r).map (fun q=>(q.1,y::q.2))
theorem JJ:∀{ys:List AX} {a:ASt} {σ:St} {xs:List X},R T ρ a σ->GL T a.nx ρ ys xs->∃q,q∈zkZ a ys/\q.1.nx=a.nx/\R T ρ q.1 σ/\GL T a.nx ρ q.2 xs
 |[],a,σ,_,hr,.nil=>⟨(a,[]),qaa.2 rfl,rfl,hr,.nil⟩
 |y::r,a,σ,_,hr,.cons (x:=x) (m:=m) h1 h2=>by
  have plain:(∃q,q∈(zkZ a r).map (fun q:ASt×List AX=>(q.1,y::q.2))/\q.1.nx=a.nx/\R T ρ q.1 σ/\GL T a.nx ρ q.2 (x::m)):=by obtain ⟨q,hq,e,k1,k2⟩:=JJ hr h2;exact ⟨_,qal.2 ⟨q,hq,rfl⟩,e,k1,.cons h1 k2⟩
  unfold zkZ;split
  ·grind
  ·rename_i tf ff r' heq;cases heq;cases h1 with
   |b g1 g2=>
    rename_i t;cases t with
    |true=>obtain ⟨a',e1,e2,e3⟩:=kF hr (g1 rfl);rw [e1];obtain ⟨q,hq,e,k1,k2⟩:=JJ e2 (e3▸h2);exact ⟨_,List.mem_append_left _ (qal.2 ⟨q,hq,rfl⟩),e.trans e3,k1,.cons (zX true) (e3▸k2)⟩
    |false=>obtain ⟨a',e1,e2,e3⟩:=kF hr (g2 rfl);rw [e1];obtain ⟨q,hq,e,k1,k2⟩:=JJ e2 (e3▸h2);exact ⟨_,List.mem_append_right _ (qal.2 ⟨q,hq,rfl⟩),e.trans e3,k1,.cons (zX false) (e3▸k2)⟩
  grind
def zrg:List ABx->List Lin
 |[]=>[]
 |.row _ _ h _::r=>h::zrg r
 |_::r=>zrg r
mutual
def upX (F:List Fact)(H:Lin):AX->AX
 |.sl t sz k h l=>.sl t sz k (if leL F h H then H else h) l
 |.agg cs=>.agg (upL F H cs)
 |.tup cs=>.tup (upL F H cs)
 |a=>a
def upL (F:List Fact)(H:Lin):List AX->List AX
 |[]=>[]
 |a::r=>upX F H a::upL F H r
end
def upB (F:List Fact)(H:Lin):ABx->ABx
 |.row sz k h l=>.row sz k (if leL F h H then H else h) l
 |b=>b
mutual
theorem zf4 {F:List Fact}{H:Lin}(hF:aY n ρ F)(hH:H.s<n):∀{a:AX} {x:X},G T n ρ a x->G T n ρ (upX F H a) x:=by
 intro a x f;unfold upX;split
 ·cases f with
  |sl h1 h2 h3 h4 h5=>
   split;next j=>exact .sl hH h2 h3 h4 fun e h=>gu (aU hF j) (h5 e h)
   exact .sl h1 h2 h3 h4 h5
 ·cases f with|agg h1=>exact .agg (XJ hF hH h1)
 ·cases f with|tup h1=>exact .tup (XJ hF hH h1)
 grind
theorem XJ {F:List Fact}{H:Lin}(hF:aY n ρ F)(hH:H.s<n):∀{a:List AX} {x:List X},GL T n ρ a x->GL T n ρ (upL F H a) x
 |[],_,.nil=>.nil
 |a::r,_,.cons h1 h2=>.cons (zf4 hF hH h1) (XJ hF hH h2)
end
theorem zf5 {F:List Fact}{H:Lin}(hF:aY n ρ F)(hH:H.s<n):∀{a:List ABx} {x:List Bx},GBs T n ρ a x->GBs T n ρ (a.map (upB F H)) x
 |[],_,.nil=>.nil
 |a::r,_,.cons h1 h2=>by
  refine .cons ?_ (zf5 hF hH h2);unfold upB;split
  ·cases h1 with
   |row q1 q2 q3 q4=>
    split;next hc=>exact .row hH q2 q3 fun e he=>gu (aU hF hc) (q4 e he)
    exact .row q1 q2 q3 q4
  grind
def ziQ (a:ASt)(r:AX)(bx:List ABx):Option (ASt×AX×List ABx):=match zre r++zrg bx with
 |h::t=>match maxes a t h with
  |some (H,a')=>if Nat.blt H.s a'.nx then some (a',upX a'.F H r,bx.map (upB a'.F H)) else none
  |none=>none
 |[]=>none
theorem zd2 {q:ASt×AX×List ABx}(hr:R T ρ a σ)(hg:G T a.nx ρ r x)(hb:GBs T a.nx ρ bx bxs)(h:ziQ a r bx=some q):
  ∃ρ',More a.nx ρ q.1.nx ρ'/\R T ρ' q.1 σ/\G T q.1.nx ρ' q.2.1 x/\GBs T q.1.nx ρ' q.2.2 bxs:=by
 unfold ziQ at h;split at h
 ·split at h
  ·rename_i H n m;split at h;next l=>cases h;obtain ⟨ρ',j,f⟩:=Ja hr m;exact ⟨ρ',j,f,zf4 f.F (eH l) (hg.more j),zf5 f.F (eH l) (hb.more j)⟩
   grind
  grind
 grind
def zkQ (S:Nat->Nat->Bool)(c:Ctr)(a:ASt)(r:AX)(bx:List ABx):Bool:=(c.outs.any fun o=>zp2 S c.m a r bx o)||match ziQ a r bx with
 |some q=>c.outs.any fun o=>zp2 S c.m q.1 q.2.1 q.2.2 o
 |none=>false
theorem zeZ (hS:SOk T S)(hr:R T ρ a σ)(hg:G T a.nx ρ r x)(hb:GBs T a.nx ρ bx bxs)(hk:c.m<=a.nx)(h:zkQ S c a r bx=true):
  ∃o,o∈c.outs/\∃ρo,More c.m ρ o.m ρo/\aY o.m ρo o.F/\G T o.m ρo o.r x/\GBs T o.m ρo o.bx bxs:=by
 unfold zkQ at h;rw [Bool.or_eq_true] at h;rcases h with h|h
 ·grind[za4]
 split at h;next q L=>obtain ⟨ρ1,n,H,A,J⟩:=zd2 hr hg hb L;obtain ⟨o,E,l⟩:=List.any_eq_true.1 h;obtain ⟨ρo,f,u,B,y⟩:=za4 hS H A J l;exact ⟨o,E,ρo,⟨f.le,fun s j=>by rw [f.same s j,n.same s (Nat.lt_of_lt_of_le j hk)]⟩,u,B,y⟩
 grind
def ES (tab:FuncId->Option Fun)(x:Cx)(orc:Orc)(c:Ctr):Bool:=match tab c.f with
 |none=>false
 |some fd=>(c.args.length==fd.np)&&Nat.blt 0 c.m&&c.alts.all fun p=>match J6 x orc c.inb.length fd.body (zgs c.m) ⟨c.m,p++c.pre,zpw 0 c.args,c.inb⟩ with
  |none=>false
  |some outs=>outs.all fun q=>(match q.1 with|.norm|.ret=>true|_=>false)&&match znp q.2 fd.res with
   |none=>false
   |some ys=>(zkZ q.2 ys).all fun w=>match zih c.inb.length (RU w.2) w.1.bx with
    |none=>false
    |some (r,bx)=>zkQ (kle x.T) c w.1 r bx
theorem QS {x:Cx}(he:ext c.f=none)(h:ES tab x orc c=true){ρ:Rho}{args:List X}{inb:List Bx}(hs:c.Sat x.T ρ args inb)(hx:NY (ah tab ext) x c.m ρ):c.Res x.T (ah tab ext) ρ args inb:=by
 unfold ES at h;split at h;·cases h
 rename_i fd y;simp only [qab] at h;obtain ⟨⟨h1,h2⟩,l⟩:=h;obtain ⟨p,J,F⟩:=hs.alts;have l:=qaq.1 l p J;split at l
 ·grind
 rename_i outs ho;have hr:R x.T ρ ⟨c.m,p++c.pre,zpw 0 c.args,c.inb⟩ ⟨H8 0 args,inb⟩:=⟨hs.zero,hs.pos,F.append hs.pre,Xw hs.args,hs.inb⟩;obtain ⟨q,hq,ρ1,σ1,Q,W,B,k3⟩:=uw (Γ:=ah tab ext) hx hr ho;have L:=qaq.1 l q hq;rw [qab] at L;obtain ⟨L,j⟩:=L;split at j
 ·grind
 rename_i ys E;obtain ⟨xs,pb,n⟩:=YP W E;obtain ⟨w,Z,S,P,V⟩:=JJ W n;have j:=qaq.1 j w Z;split at j
 ·grind
 rename_i r bx J;rw [<-S] at V;obtain ⟨z,v,hz,A,u⟩:=zdA (OX V) P.bx J;obtain ⟨o,H,ρo,O,m2,Y,m4⟩:=zeZ (sok x.T) P A u (by rw [S];exact Q.le) j;have U:=hs.inb.len;have pa:=hs.args.len;refine ⟨o,H,ρo,z,v,⟨O.le,fun s a=>by rw [O.same s a,Q.same s a]⟩,m2,Y,m4,B+1,fun N hN=>?_⟩;obtain ⟨M,rfl⟩:=pR_ N;have h6:=k3 M (by omega);unfold ah;rw [he];dsimp only;rw [y];dsimp only;unfold zl8
 grind
def ay (T:Tab)(Γ:Nat->Gam)(L:List Ctr):Prop:=∀c,c∈L->c.Holds T Γ
theorem zeu {T:Tab}(hL:ay T (ah tab ext) L)(he:ext c.f=none)(h:ES tab ⟨T,K,L,[],none,0⟩ orc c=true):c.Holds T (ah tab ext):=fun _ _ _ a=>QS (x:=⟨T,K,L,[],none,0⟩) he h a ⟨hL,fun l j=>by grind⟩
def NI (c:Ctr):Bool:=match c.mu with
 |some l=>Nat.blt l.s c.m&&leL c.pre (.k 0) l
 |none=>false
theorem VX {T:Tab}{G:List Ctr}(hL:ay T (ah tab ext) L)(he:∀c,c∈G->ext c.f=none)(hm:G.all NI=true)(h:G.all (fun c=>ES tab ⟨T,K,L,G,c.mu,c.rank⟩ orc c)=true):ay T (ah tab ext) G:=by
 have B:∀(d:Nat),∀c,c∈G->c.Below T (ah tab ext) d:=by
  intro d;induction d with
  |zero=>intro c n ρ j q y ⟨l,u,A,h3⟩<;>grind
  |succ d ih=>intro c n ρ j q y ⟨l,u,A,h3⟩;have a:=qaq.1 hm c n;unfold NI at a;rw [u] at a;rw [qab] at a;refine QS (x:=⟨T,K,L,G,c.mu,c.rank⟩) (he c n) (qaq.1 h c n) y ⟨hL,fun E m=>?_⟩;dsimp only at m;rw [u] at m;cases m;refine ⟨eH a.1,fun c' hc' ρ' args' inb' hs' ⟨l2,k1,k2,k3⟩=>ih c' hc' ρ' args' inb' hs' ⟨l2,k1,k2,by grind⟩⟩
 intro c n ρ j q y;have a:=qaq.1 hm c n;unfold NI at a;cases u:c.mu with
 |none=>grind
 |some l=>rw [u] at a;rw [qab] at a;have A:=aU y.pre a.2;rw [Lin.k_v y.zero] at A;exact B ((16*l.v ρ+c.rank).toNat+1) c n ρ j q y ⟨l,u,A,by omega⟩
theorem ay.append {M:List Ctr}(h:ay T Γ L)(h':ay T Γ M):ay T Γ (L++M):=fun c a=>(qaO.1 a).elim (h c) (h' c)
end
mutual
def AX.ziP:AX->List Lin
 |.i _ l=>[l]
 |.s l=>[l]
 |.sl _ _ _ h l=>[h,l]
 |.bs _ a b=>[a,b]
 |.ptr _ e _=>[e]
 |.dp cs=>VN cs
 |.fn _ cs=>VN cs
 |.agg cs=>VN cs
 |.tup cs=>VN cs
 |.el _ h=>[h]
 |.de _ h=>[h]
 |.b _ _|.x _|.yl _|.mp _|.uf=>[]
def VN:List AX->List Lin
 |[]=>[]
 |x::r=>x.ziP++VN r
end
def ziO:List (Nat×AX)->List Lin
 |[]=>[]
 |p::r=>p.2.ziP++ziO r
def zn1:List (Value×AX)->List Lin
 |[]=>[]
 |p::r=>p.2.ziP++zn1 r
def ABx.ziP:ABx->List Lin
 |.var cs=>VN cs
 |.row _ _ h l=>[h,l]
 |.loop _ _ tm _ _ _=>ziO tm
 |.map es=>zn1 es
 |.el _ h=>[h]
 |.dead=>[]
def zn2:List ABx->List Lin
 |[]=>[]
 |x::r=>x.ziP++zn2 r
def ASt.ziP (a:ASt):List Lin:=ziO a.tm++zn2 a.bx
def keysT:List (Nat×AX)->List Nat
 |[]=>[]
 |p::r=>p.1::keysT r
def eqN:List Nat->List Nat->Bool
 |[],[]=>true
 |a::l,b::r=>Nat.beq a b&&eqN l r
 |_,_=>false
structure Found where
 keys:List Nat
 make:(Nat->Lin)->Nat->Nat×List Fact×List (Nat×AX)×List ABx×Mu
def Found.at (q:Found)(a:ASt):ASt×Mu:=
 let l:=a.ziP
 match q.make (fun k=>l.getD k default) a.nx with
 |(nx,F,tm,bx,mu)=>(⟨nx,F++a.F,tm,bx⟩,mu)
def iQ (l:List Found):Orc:=fun _ a=>l.findSome? fun q=>if eqN q.keys (keysT a.tm) then
 (let r:=q.at a;if zmg (fun k j=>Nat.beq k j||zgb k j) a.nx (zA a r.1) a r.1 then some r else none) else none
inductive Sh where
 |i (k:IntKind)
 |ir (k:IntKind) (lo hi:Int)
 |k (k:IntKind) (c:Int)
 |b
 |s
 |sr (lo hi:Int)
 |sl (sz k:Nat)
 |slr (sz k:Nat) (lo hi:Int)
 |slh (sz k:Nat)
 |xq (sz k:Nat) (lo hi:Int)
 |rc (l:List Sh)
 |rcb (lo hi:Int) (l:List Sh)
 |rcs (h:Nat) (l:List Sh)
 |kb (b:Bool)
 |ag (l:List Sh)
 |tu (l:List Sh)
 |x (x:X)
 |oi
 |p (i:Nat)
 |mp (i:Nat)
 |bs (i:Nat)
 |bsr (i:Nat) (lo hi:Int)
 |dp (l:List Sh)
 |fn (f:FuncId) (l:List Sh)
 |el (k:Nat)
 deriving Inhabited
def bT:Int:=1000000
abbrev Bld:=AX×Nat×List Fact
mutual
def Sh.bld (h:Lin)(n:Nat):Sh->Bld
 |.i k=>(.i k ⟨n,0⟩,n+1,[])
 |.ir k lo hi=>(.i k ⟨n,0⟩,n+1,bnd ⟨n,0⟩ (some lo) (some hi))
 |.k k c=>(.i k (.k c),n,[])
 |.b=>(.b [] [],n,[])
 |.s=>(.s ⟨n,0⟩,n+1,bnd ⟨n,0⟩ (some 0) (some bT))
 |.sr lo hi=>(.s ⟨n,0⟩,n+1,bnd ⟨n,0⟩ (some lo) (some hi))
 |.sl sz k=>(.sl none sz k ⟨n,0⟩ ⟨n+1,0⟩,n+2,ak (.k 0) ⟨n,0⟩::bnd ⟨n+1,0⟩ (some 0) (some bT))
 |.slr sz k lo hi=>(.sl none sz k ⟨n,0⟩ ⟨n+1,0⟩,n+2,ak (.k 0) ⟨n,0⟩::bnd ⟨n+1,0⟩ (some lo) (some hi))
 |.slh sz k=>(.sl none sz k h ⟨n,0⟩,n+1,bnd ⟨n,0⟩ (some 0) (some bT))
 |.xq sz k lo hi=>(.sl none sz k h ⟨n,0⟩,n+1,bnd ⟨n,0⟩ (some lo) (some hi))
 |.rc l=>match oO ⟨n,0⟩ (n+1) l with|(cs,m,F)=>(.agg cs,m,ak (.k 0) ⟨n,0⟩::F)
 |.rcb lo hi l=>match oO ⟨n,0⟩ (n+1) l with|(cs,m,F)=>(.agg cs,m,bnd ⟨n,0⟩ (some lo) (some hi)++F)
 |.ag l=>match oO h n l with|(cs,m,F)=>(.agg cs,m,F)
 |.rcs s l=>match oO ⟨s,0⟩ n l with|(cs,m,F)=>(.agg cs,m,F)
 |.kb b=>(cb b,n,[])
 |.tu l=>match oO h n l with|(cs,m,F)=>(.tup cs,m,F)
 |.x x=>(.x x,n,[])
 |.oi=>(.uf,n,[])
 |.p i=>(.ptr i (.k 0) 0,n,[])
 |.mp i=>(.mp i,n,[])
 |.bs i=>(.bs i (.k 0) ⟨n,0⟩,n+1,bnd ⟨n,0⟩ (some 0) (some bT))
 |.bsr i lo hi=>(.bs i (.k 0) ⟨n,0⟩,n+1,bnd ⟨n,0⟩ (some lo) (some hi))
 |.dp l=>match oO h n l with|(cs,m,F)=>(.dp cs,m,F)
 |.fn f l=>match oO h n l with|(cs,m,F)=>(.fn f cs,m,F)
 |.el k=>(.el k ⟨n,0⟩,n+1,[ak (.k 0) ⟨n,0⟩])
def oO (h:Lin)(n:Nat):List Sh->List AX×Nat×List Fact
 |[]=>([],n,[])
 |t::r=>match t.bld h n with
  |(a,n',F)=>match oO h n' r with
   |(l,n'',F')=>(a::l,n'',F++F')
end
inductive BSh where
 |var (l:List Sh)
 |rcv (l:List Sh)
 |mP (lo hi:Int) (l:List Sh)
 |row (sz k:Nat)
 |zcb (sz k:Nat) (hi:Int)
 |y7 (sz k h l:Nat)
 |map (es:List (Value×X))
 |dead
 deriving Inhabited
def um (n:Nat):List BSh->List ABx×Nat×List Fact
 |[]=>([],n,[])
 |.var l::r=>match oO (.k 0) n l with
  |(cs,n',F)=>match um n' r with
   |(bs,n'',F')=>(.var cs::bs,n'',F++F')
 |.rcv l::r=>match oO ⟨n,0⟩ (n+1) l with
  |(cs,n',F)=>match um n' r with
   |(bs,n'',F')=>(.var cs::bs,n'',ak (.k 0) ⟨n,0⟩::(F++F'))
 |.mP lo hi l::r=>match oO ⟨n,0⟩ (n+1) l with
  |(cs,n',F)=>match um n' r with
   |(bs,n'',F')=>(.var cs::bs,n'',bnd ⟨n,0⟩ (some lo) (some hi)++(F++F'))
 |.map es::r=>match um n r with
  |(bs,n'',F')=>(.map (es.map fun q=>(q.1,ofX q.2))::bs,n'',F')
 |.y7 sz k h l::r=>match um n r with
  |(bs,n'',F')=>(.row sz k ⟨h,0⟩ ⟨l,0⟩::bs,n'',F')
 |.dead::r=>match um n r with
  |(bs,n'',F')=>(.dead::bs,n'',F')
 |.zcb sz k hi::r=>match um (n+2) r with
  |(bs,n'',F')=>(.row sz k ⟨n,0⟩ ⟨n+1,0⟩::bs,n'',ak (.k 0) ⟨n,0⟩::(bnd ⟨n+1,0⟩ (some 0) (some hi)++F'))
 |.row sz k::r=>match um (n+2) r with
  |(bs,n'',F')=>(.row sz k ⟨n,0⟩ ⟨n+1,0⟩::bs,n'',ak (.k 0) ⟨n,0⟩::(bnd ⟨n+1,0⟩ (some 0) (some bT)++F'))
def LW (m:Nat)(o:Sh×List BSh):zfP:=match o.1.bld (.k 0) m with
 |(r,n,F)=>match um n o.2 with
  |(bs,n',F')=>⟨n',F++F',r,bs⟩
def mkC (f:FuncId)(args:List Sh)(inb:List BSh)(mu:Option (Nat×Nat))(outs:List (Sh×List BSh)):Ctr:=match oO (.k 0) 1 args with
 |(as,n,F)=>match um n inb with
  |(bs,n',F')=>⟨f,n',as,bs,F++F',mu.map fun s=>⟨s.1,0⟩,outs.map (LW n'),(mu.map (·.2)).getD 0,[[]]⟩
def dS (f:FuncId)(args:List Sh)(inb:List BSh)(mu:Option (Nat×Nat))(outs:List (Sh×List BSh×List Fact)):Ctr:=
 let c:=mkC f args inb mu (outs.map fun o=>(o.1,o.2.1))
 {c with outs:=(c.outs.zip outs).map fun q=>{q.1 with F:=q.2.2.2++q.1.F}}
def Ctr.with (c:Ctr)(l:List (List Fact)):Ctr:={c with alts:=l}
def bd (s:Nat)(lo hi:Int):List Fact:=[ak (.k lo) ⟨s,0⟩,ak ⟨s,0⟩ (.k hi)]
def lt (s:Nat)(c:Int)(t:Nat):Fact:=ak ⟨s,c⟩ ⟨t,0⟩
section
variable {f:FuncId}{hi lo z:Int}{l:Lin}{outs:List (Sh×List BSh)}{inb:List BSh}{bx:List Bx}{F F':List Fact}{args:List Sh}{xs:List X}{Γ:Nat->Gam}{mu:Option (Nat×Nat)}
variable {T:Tab} {n m:Nat} {ρ ρ':Rho}
mutual
def Sh.Is (T:Tab)(h:Int):Sh->X->Prop
 |.i k,x=>∃z,x=.v (.int k z)
 |.ir k lo hi,x=>∃z,x=.v (.int k z)/\lo<=z/\z<=hi
 |.k k c,x=>x=.v (.int k c)
 |.b,x=>∃b,x=.v (.bool b)
 |.s,x=>∃bs,x=.v (.string bs)/\(bs.size:Int)<=bT
 |.sr lo hi,x=>∃bs,x=.v (.string bs)/\lo<=(bs.size:Int)/\(bs.size:Int)<=hi
 |.sl sz k,x=>∃t es h',x=.sl t sz es/\0<=h'/\(es.length:Int)<=bT/\∀e,e∈es->D T h' k e
 |.slr sz k lo hi,x=>∃t es h',x=.sl t sz es/\0<=h'/\lo<=(es.length:Int)/\(es.length:Int)<=hi/\∀e,e∈es->D T h' k e
 |.slh sz k,x=>∃t es,x=.sl t sz es/\(es.length:Int)<=bT/\∀e,e∈es->D T h k e
 |.xq sz k lo hi,x=>∃t es,x=.sl t sz es/\lo<=(es.length:Int)/\(es.length:Int)<=hi/\∀e,e∈es->D T h k e
 |.rc l,x=>∃h' xs,x=.agg xs/\0<=h'/\IsL T h' l xs
 |.rcb lo hi l,x=>∃h' xs,x=.agg xs/\lo<=h'/\h'<=hi/\IsL T h' l xs
 |.rcs _ l,x=>∃h' xs,x=.agg xs/\IsL T h' l xs
 |.kb b,x=>x=.v (.bool b)
 |.ag l,x=>∃xs,x=.agg xs/\IsL T h l xs
 |.tu l,x=>∃xs,x=.tup xs/\IsL T h l xs
 |.x y,x=>x=y/\y.refs=[]
 |.oi,x=>x=.ifc\/x=.v .nilIface
 |.p i,x=>x=.ptr i 0 0
 |.mp i,x=>x=.mp i
 |.bs i,x=>∃l,x=.bs i 0 l/\(l:Int)<=bT
 |.bsr i lo hi,x=>∃l,x=.bs i 0 l/\lo<=(l:Int)/\(l:Int)<=hi
 |.dp l,x=>∃xs,x=.dp xs/\IsL T h l xs
 |.fn f l,x=>∃xs,x=.fn f xs/\IsL T h l xs
 |.el k,x=>∃xs h',x=.agg xs/\0<=h'/\D T h' k xs
def IsL (T:Tab)(h:Int):List Sh->List X->Prop
 |[],[]=>True
 |t::ts,x::xs=>t.Is T h x/\IsL T h ts xs
 |_,_=>False
end
mutual
def Sh.own:Sh->Bool
 |.rcs _ _=>false
 |.rc l=>Gj l
 |.rcb _ _ l=>Gj l
 |.ag l=>Gj l
 |.tu l=>Gj l
 |.dp l=>Gj l
 |.fn _ l=>Gj l
 |_=>true
def Gj:List Sh->Bool
 |[]=>true
 |t::r=>t.own&&Gj r
end
def oU (ρ:Rho)(n:Nat)(z:Int):Rho:=fun s=>if s=n then z else ρ s
theorem bG (ρ:Rho)(n:Nat)(z:Int):More n ρ (n+1) (oU ρ n z):=⟨Nat.le_succ _,fun s a=>by unfold oU;grind⟩
theorem cZ (ρ:Rho)(n:Nat)(z:Int):(Lin.v ⟨n,0⟩ (oU ρ n z))=z:=by simp_all[Lin.v,oU]
theorem More.zero {ρ ρ':Rho}{n n':Nat}(h:More n ρ n' ρ')(hn:0<n)(h0:ρ 0=0):ρ' 0=0:=by rw [h.same 0 hn,h0]
def Fwd (T:Tab)(ρ:Rho)(n:Nat)(q:Bld)(x:X):Prop:=∃ρ',More n ρ q.2.1 ρ'/\aY q.2.1 ρ' q.2.2/\G T q.2.1 ρ' q.1 x
def zyA (T:Tab)(ρ:Rho)(n:Nat)(q:List AX×Nat×List Fact)(xs:List X):Prop:=∃ρ',More n ρ q.2.1 ρ'/\aY q.2.1 ρ' q.2.2/\GL T q.2.1 ρ' q.1 xs
theorem jQ {n:Nat}{ρ:Rho}(h0:ρ 0=0)(hn:0<n)(h1:lo<=z)(h2:z<=hi):aY (n+1) (oU ρ n z) (bnd ⟨n,0⟩ (some lo) (some hi)):=
 xg ((bG ρ n z).zero hn h0) (Nat.succ_pos _) (qae _) (fun a e=>by grind[cZ]) (fun b e=>by grind[cZ])
theorem jH {n:Nat}{ρ:Rho}(h0:ρ 0=0)(hn:0<n)(h1:0<=z):(ak (.k 0) ⟨n,0⟩).ok (n+1) (oU ρ n z):=
 aJ.2 ⟨Nat.succ_pos _,qae _,by rw [cZ,Lin.k_v ((bG ρ n z).zero hn h0)]<;>grind⟩
mutual
theorem Sh.fwd:∀(t:Sh) {h:Lin} {n:Nat} {ρ:Rho} {x:X},t.own=true->0<n->ρ 0=0->h.s<n->t.Is T (h.v ρ) x->Fwd T ρ n (t.bld h n) x
 |.i k,h,n,ρ,_,_,hn,h0,_,⟨z,rfl⟩=>⟨oU ρ n z,bG ρ n z,.nil,.i (qae _) (cZ ρ n z).symm⟩
 |.ir k lo hi,h,n,ρ,_,_,hn,h0,_,⟨z,rfl,h1,h2⟩=>⟨oU ρ n z,bG ρ n z,jQ h0 hn h1 h2,.i (qae _) (cZ ρ n z).symm⟩
 |.k k c,h,n,ρ,x,_,hn,h0,_,hx=>by have hx:x=.v (.int k c):=hx;subst hx;exact ⟨ρ,.refl _ _,.nil,.i hn (Lin.k_v h0 c).symm⟩
 |.b,h,n,ρ,_,_,hn,h0,_,⟨b,rfl⟩=>⟨ρ,.refl _ _,.nil,.b (fun _=>.nil) (fun _=>.nil)⟩
 |.s,h,n,ρ,_,_,hn,h0,_,⟨bs,rfl,h1⟩=>⟨oU ρ n bs.size,bG _ _ _,jQ h0 hn (by omega) h1,.s (qae _) (cZ ρ n _).symm⟩
 |.sr lo hi,h,n,ρ,_,_,hn,h0,_,⟨bs,rfl,h1,h2⟩=>⟨oU ρ n bs.size,bG _ _ _,jQ h0 hn h1 h2,.s (qae _) (cZ ρ n _).symm⟩
 |.sl sz k,h,n,ρ,_,_,hn,h0,_,⟨t,es,h',rfl,h1,h2,h3⟩=>by have m1:=bG ρ n h';have z1:=m1.zero hn h0;have m2:=bG (oU ρ n h') (n+1) es.length;refine ⟨oU (oU ρ n h') (n+1) es.length,m1.trans m2,aY.cons (m2.fact (jH h0 hn h1)) (jQ z1 (Nat.succ_pos _) (by omega) h2),.sl (by show n<n+1+1;omega) (qae _) trivial (cZ _ _ _).symm ?_⟩;rw [m2.lin (qae n),cZ];grind
 |.slr sz k lo hi,h,n,ρ,_,_,hn,h0,_,⟨t,es,h',rfl,h1,h2,h3,h4⟩=>by have m1:=bG ρ n h';have z1:=m1.zero hn h0;have m2:=bG (oU ρ n h') (n+1) es.length;refine ⟨oU (oU ρ n h') (n+1) es.length,m1.trans m2,aY.cons (m2.fact (jH h0 hn h1)) (jQ z1 (Nat.succ_pos _) h2 h3),.sl (by show n<n+1+1;omega) (qae _) trivial (cZ _ _ _).symm ?_⟩;rw [m2.lin (qae n),cZ];grind
 |.slh sz k,h,n,ρ,_,_,hn,h0,hh,⟨t,es,rfl,h1,h2⟩=>by have m1:=bG ρ n es.length;refine ⟨oU ρ n es.length,m1,jQ h0 hn (by omega) h1,.sl (qay hh) (qae _) trivial (cZ _ _ _).symm ?_⟩;rw [m1.lin hh]<;>grind
 |.xq sz k lo hi,h,n,ρ,_,_,hn,h0,hh,⟨t,es,rfl,h1,h2,h3⟩=>by have m1:=bG ρ n es.length;refine ⟨oU ρ n es.length,m1,jQ h0 hn h1 h2,.sl (qay hh) (qae _) trivial (cZ _ _ _).symm ?_⟩;rw [m1.lin hh]<;>grind
 |.rc l,h,n,ρ,_,ho,hn,h0,hh,⟨h',xs,rfl,h1,h2⟩=>by have m1:=bG ρ n h';have hv:Lin.v ⟨n,0⟩ (oU ρ n h')=h':=cZ _ _ _;obtain ⟨ρ2,m2,f2,g2⟩:=gK l (h:=⟨n,0⟩) (n:=n+1) (ρ:=oU ρ n h') ho (Nat.succ_pos _) (m1.zero hn h0) (qae _) (by rw [hv];omega);refine ⟨ρ2,m1.trans m2,aY.cons (m2.fact (jH h0 hn h1)) f2,.agg g2⟩
 |.rcb lo hi l,h,n,ρ,_,ho,hn,h0,hh,⟨h',xs,rfl,h1,h1',h2⟩=>by have m1:=bG ρ n h';have hv:Lin.v ⟨n,0⟩ (oU ρ n h')=h':=cZ _ _ _;obtain ⟨ρ2,m2,f2,g2⟩:=gK l (h:=⟨n,0⟩) (n:=n+1) (ρ:=oU ρ n h') ho (Nat.succ_pos _) (m1.zero hn h0) (qae _) (by rw [hv];omega);refine ⟨ρ2,m1.trans m2,aY.append (m2.facts (jQ h0 hn h1 h1')) f2,.agg g2⟩
 |.rcs _ _,_,_,_,_,ho,_,_,_,_=>by cases ho
 |.kb b,h,n,ρ,x,_,hn,h0,_,hx=>by have hx:x=.v (.bool b):=hx;subst hx;exact ⟨ρ,.refl _ _,.nil,zX b⟩
 |.ag l,h,n,ρ,_,ho,hn,h0,hh,⟨xs,rfl,h2⟩=>by obtain ⟨ρ2,m2,f2,g2⟩:=gK l (h:=h) (n:=n) (ρ:=ρ) ho hn h0 hh h2;exact ⟨ρ2,m2,f2,.agg g2⟩
 |.tu l,h,n,ρ,_,ho,hn,h0,hh,⟨xs,rfl,h2⟩=>by obtain ⟨ρ2,m2,f2,g2⟩:=gK l (h:=h) (n:=n) (ρ:=ρ) ho hn h0 hh h2;exact ⟨ρ2,m2,f2,.tup g2⟩
 |.x y,h,n,ρ,x,_,hn,h0,_,⟨h1,h2⟩=>by subst h1;exact ⟨ρ,.refl _ _,.nil,.x h2⟩
 |.oi,h,n,ρ,x,_,hn,h0,_,hx=>by
  rcases (hx:x=.ifc\/x=.v .nilIface) with rfl|rfl;·exact ⟨ρ,.refl _ _,.nil,.ifc⟩
  exact ⟨ρ,.refl _ _,.nil,.Gt⟩
 |.p i,h,n,ρ,x,_,hn,h0,_,hx=>by have hx:x=.ptr i 0 0:=hx;subst hx;exact ⟨ρ,.refl _ _,.nil,.ptr hn (Lin.k_v h0 0).symm⟩
 |.mp i,h,n,ρ,x,_,hn,h0,_,hx=>by have hx:x=.mp i:=hx;subst hx;exact ⟨ρ,.refl _ _,.nil,.mp⟩
 |.bs i,h,n,ρ,_,_,hn,h0,_,⟨l,rfl,h1⟩=>by have m1:=bG ρ n l;exact ⟨oU ρ n l,m1,jQ h0 hn (by omega) h1,.bs (Nat.succ_pos _) (qae _) (by rw [Lin.k_v (m1.zero hn h0)];rfl) (cZ _ _ _).symm⟩
 |.bsr i lo hi,h,n,ρ,_,_,hn,h0,_,⟨l,rfl,h2,h1⟩=>by have m1:=bG ρ n l;exact ⟨oU ρ n l,m1,jQ h0 hn h2 h1,.bs (Nat.succ_pos _) (qae _) (by rw [Lin.k_v (m1.zero hn h0)];rfl) (cZ _ _ _).symm⟩
 |.dp l,h,n,ρ,_,ho,hn,h0,hh,⟨xs,rfl,h2⟩=>by obtain ⟨ρ2,m2,f2,g2⟩:=gK l (h:=h) (n:=n) (ρ:=ρ) ho hn h0 hh h2;exact ⟨ρ2,m2,f2,.dp g2⟩
 |.fn f l,h,n,ρ,_,ho,hn,h0,hh,⟨xs,rfl,h2⟩=>by obtain ⟨ρ2,m2,f2,g2⟩:=gK l (h:=h) (n:=n) (ρ:=ρ) ho hn h0 hh h2;exact ⟨ρ2,m2,f2,.fn g2⟩
 |.el k,h,n,ρ,_,_,hn,h0,_,⟨xs,h',rfl,h1,h2⟩=>⟨oU ρ n h',bG _ _ _,aY.cons (jH h0 hn h1) .nil,.el (qae _) (by grind[cZ])⟩
theorem gK:∀(l:List Sh) {h:Lin} {n:Nat} {ρ:Rho} {xs:List X},Gj l=true->0<n->ρ 0=0->h.s<n->IsL T (h.v ρ) l xs->zyA T ρ n (oO h n l) xs
 |[],h,n,ρ,[],_,_,_,_,_=>⟨ρ,.refl _ _,.nil,.nil⟩
 |t::r,h,n,ρ,x::xs,ho,hn,h0,hh,⟨h1,h2⟩=>by have ho:(t.own&&Gj r)=true:=ho;rw [qab] at ho;obtain ⟨ρ1,m1,f1,g1⟩:=Sh.fwd t ho.1 hn h0 hh h1;have hn':=Nat.lt_of_lt_of_le hn m1.le;obtain ⟨ρ2,m2,f2,g2⟩:=gK r (h:=h) (n:=(t.bld h n).2.1) (ρ:=ρ1) (xs:=xs) ho.2 hn' (m1.zero hn h0) (m1.lt hh) (by rw [m1.lin hh]<;>grind);exact ⟨ρ2,m1.trans m2,aY.append (m2.facts f1) f2,.cons (g1.more m2) g2⟩
end
theorem fV (h0:ρ 0=0)(h:aY n ρ (bnd l (some lo) (some hi))):lo<=l.v ρ/\l.v ρ<=hi:=by have a:=aJ.1 (h (ak (.k lo) l) (by simp [bnd]));have f:=aJ.1 (h (ak l (.k hi)) (by simp [bnd]))<;>grind[Lin.k_v]
theorem aY.left (h:aY n ρ (F++F')):aY n ρ F:=fun f a=>h f (List.mem_append_left _ a)
theorem aY.right (h:aY n ρ (F++F')):aY n ρ F':=fun f a=>h f (List.mem_append_right _ a)
theorem aY.tl {f:Fact}(h:aY n ρ (f::F)):aY n ρ F:=fun g a=>h g (qap _ a)
theorem jG (h0:ρ 0=0)(h:aY n ρ (ak (.k 0) l::F)):0<=l.v ρ:=by have a:=aJ.1 (h _ (qar ..))<;>grind[Lin.k_v]
mutual
theorem Sh.bwd (h0:ρ 0=0):∀(t:Sh) {h:Lin} {k:Nat} {x:X},aY n ρ (t.bld h k).2.2->G T n ρ (t.bld h k).1 x->t.Is T (h.v ρ) x
 |.i k,_,_,_,_,.i (z:=z) _ _=>⟨z,rfl⟩
 |.ir k lo hi,_,_,_,hF,.i (z:=z) h1 h2=>by have:=fV h0 hF;exact ⟨z,rfl,by omega,by omega⟩
 |.k k c,_,_,_,_,.i (z:=z) h1 h2=>by rw [Lin.k_v h0] at h2;subst h2;rfl
 |.b,_,_,_,_,.b (t:=t) _ _=>⟨t,rfl⟩
 |.s,_,_,_,hF,.s (bs:=bs) h1 h2=>by have:=fV h0 hF;exact ⟨bs,rfl,by omega⟩
 |.sr lo hi,_,_,_,hF,.s (bs:=bs) h1 h2=>by have:=fV h0 hF;exact ⟨bs,rfl,by omega,by omega⟩
 |.sl sz k,_,_,_,hF,.sl (tt:=tt) (es:=es) h1 h2 h3 h4 h5=>by have a:=jG h0 hF;have b:=fV h0 hF.tl;exact ⟨tt,es,_,rfl,a,by omega,h5⟩
 |.slr sz k lo hi,_,_,_,hF,.sl (tt:=tt) (es:=es) h1 h2 h3 h4 h5=>by have a:=jG h0 hF;have b:=fV h0 hF.tl;exact ⟨tt,es,_,rfl,a,by omega,by omega,h5⟩
 |.slh sz k,_,_,_,hF,.sl (tt:=tt) (es:=es) h1 h2 h3 h4 h5=>by have b:=fV h0 hF;exact ⟨tt,es,rfl,by omega,h5⟩
 |.xq sz k lo hi,_,_,_,hF,.sl (tt:=tt) (es:=es) h1 h2 h3 h4 h5=>by have b:=fV h0 hF;exact ⟨tt,es,rfl,by omega,by omega,h5⟩
 |.rc l,_,_,_,hF,.agg (xs:=xs) g=>⟨_,xs,rfl,jG h0 hF,iG h0 l hF.tl g⟩
 |.rcb lo hi l,_,_,_,hF,.agg (xs:=xs) g=>⟨_,xs,rfl,(fV h0 hF.left).1,(fV h0 hF.left).2,iG h0 l hF.right g⟩
 |.rcs s l,_,_,_,hF,.agg (xs:=xs) g=>⟨_,xs,rfl,iG h0 l hF g⟩
 |.kb b,_,_,x,hF,g=>by
  have g:G T n ρ (cb b) x:=g;show x=.v (.bool b);cases b with
  |true=>
   cases g with
   |b g1 g2=>rename_i t;cases t with
    |true=>rfl
    |false=>exact (Uh (g2 rfl)).elim
  |false=>
   cases g with
   |b g1 g2=>rename_i t;cases t with
    |false=>rfl
    |true=>exact (Uh (g1 rfl)).elim
 |.ag l,_,_,_,hF,.agg (xs:=xs) g=>⟨xs,rfl,iG h0 l hF g⟩
 |.tu l,_,_,_,hF,.tup (xs:=xs) g=>⟨xs,rfl,iG h0 l hF g⟩
 |.x _,_,_,_,hF,.x g=>⟨rfl,g⟩
 |.oi,_,_,_,hF,.ifc=>.inl rfl
 |.oi,_,_,_,hF,.Gt=>.inr rfl
 |.p i,_,_,_,hF,.ptr (e':=e') h1 h2=>by
  rw [Lin.k_v h0] at h2;obtain rfl:e'=0:=by omega
  rfl
 |.mp i,_,_,_,hF,.mp=>rfl
 |.bs i,_,_,_,hF,.bs (o':=o') (l':=l') h1 h2 h3 h4=>by
  rw [Lin.k_v h0] at h3;obtain rfl:o'=0:=by omega
  have b:=fV h0 hF;exact ⟨l',rfl,by omega⟩
 |.bsr i lo hi,_,_,_,hF,.bs (o':=o') (l':=l') h1 h2 h3 h4=>by
  rw [Lin.k_v h0] at h3;obtain rfl:o'=0:=by omega
  have b:=fV h0 hF;exact ⟨l',rfl,by omega,by omega⟩
 |.dp l,_,_,_,hF,.dp (xs:=xs) g=>⟨xs,rfl,iG h0 l hF g⟩
 |.fn f l,_,_,_,hF,.fn (xs:=xs) g=>⟨xs,rfl,iG h0 l hF g⟩
 |.el k,_,_,_,hF,.el (xs:=xs) h1 h2=>⟨xs,_,rfl,jG h0 hF,h2⟩
theorem iG (h0:ρ 0=0):∀(l:List Sh) {h:Lin} {k:Nat} {xs:List X},aY n ρ (oO h k l).2.2->GL T n ρ (oO h k l).1 xs->IsL T (h.v ρ) l xs
 |[],_,_,_,_,.nil=>trivial
 |t::r,h,k,_,hF,.cons g1 g2=>⟨Sh.bwd h0 t hF.left g1,iG h0 r hF.right g2⟩
end
def BSh.Is (T:Tab):BSh->Bx->Prop
 |.var l,x=>∃xs,x=.var xs/\IsL T 0 l xs
 |.rcv l,x=>∃h xs,x=.var xs/\0<=h/\IsL T h l xs
 |.mP lo hi l,x=>∃h xs,x=.var xs/\lo<=h/\h<=hi/\IsL T h l xs
 |.row sz k,x=>∃es h,x=.row sz es/\0<=h/\(es.length:Int)<=bT/\∀e,e∈es->D T h k e
 |.zcb sz k hi,x=>∃es h,x=.row sz es/\0<=h/\(es.length:Int)<=hi/\∀e,e∈es->D T h k e
 |.y7 sz k _ _,x=>∃es h,x=.row sz es/\∀e,e∈es->D T h k e
 |.map _,x=>∃es,x=.map es
 |.dead,x=>x=.dead
def BIs (T:Tab):List BSh->List Bx->Prop
 |[],[]=>True
 |t::ts,x::xs=>t.Is T x/\BIs T ts xs
 |_,_=>False
def BSh.own:BSh->Bool
 |.var l=>Gj l
 |.rcv l=>Gj l
 |.mP _ _ l=>Gj l
 |.row _ _=>true
 |.zcb _ _ hi=>leI 0 hi
 |.dead=>true
 |_=>false
theorem sZ:∀(l:List BSh) {n:Nat} {ρ:Rho} {xs:List Bx},l.all BSh.own=true->0<n->ρ 0=0->BIs T l xs->
  ∃ρ',More n ρ (um n l).2.1 ρ'/\aY (um n l).2.1 ρ' (um n l).2.2/\GBs T (um n l).2.1 ρ' (um n l).1 xs
 |[],n,ρ,[],_,_,_,_=>⟨ρ,.refl _ _,.nil,.nil⟩
 |t::r,n,ρ,x::xs,ho,hn,h0,⟨h1,h2⟩=>by
  rw [List.all_cons,qab] at ho;have rest:∀{n':Nat} {ρ1:Rho},More n ρ n' ρ1->∃ρ',More n' ρ1 (um n' r).2.1 ρ'/\aY (um n' r).2.1 ρ' (um n' r).2.2/\GBs T (um n' r).2.1 ρ' (um n' r).1 xs:=fun {n'} {ρ1} m1=>sZ r ho.2 (Nat.lt_of_lt_of_le hn m1.le) (m1.zero hn h0) h2
  match t,ho,h1 with
  |.var l,ho,⟨xs',e,k1⟩=>subst e;obtain ⟨ρ1,m1,f1,g1⟩:=gK l (h:=.k 0) (n:=n) (ρ:=ρ) ho.1 hn h0 hn (by rw [Lin.k_v h0];omega);obtain ⟨ρ2,m2,f2,g2⟩:=rest m1;exact ⟨ρ2,m1.trans m2,aY.append (m2.facts f1) f2,.cons (.var (g1.more m2)) g2⟩
  |.rcv l,ho,⟨h',xs',e,hp,k1⟩=>subst e;have m0:=bG ρ n h';obtain ⟨ρ1,m1,f1,g1⟩:=gK l (h:=⟨n,0⟩) (n:=n+1) (ρ:=oU ρ n h') ho.1 (Nat.succ_pos _) (m0.zero hn h0) (qae _) (by rw [cZ];omega);obtain ⟨ρ2,m2,f2,g2⟩:=rest (m0.trans m1);exact ⟨ρ2,(m0.trans m1).trans m2,aY.cons ((m1.trans m2).fact (jH h0 hn hp)) (aY.append (m2.facts f1) f2),.cons (.var (g1.more m2)) g2⟩
  |.mP lo hi l,ho,⟨h',xs',e,hp,hp',k1⟩=>subst e;have m0:=bG ρ n h';obtain ⟨ρ1,m1,f1,g1⟩:=gK l (h:=⟨n,0⟩) (n:=n+1) (ρ:=oU ρ n h') ho.1 (Nat.succ_pos _) (m0.zero hn h0) (qae _) (by rw [cZ];omega);obtain ⟨ρ2,m2,f2,g2⟩:=rest (m0.trans m1);exact ⟨ρ2,(m0.trans m1).trans m2,aY.append ((m1.trans m2).facts (jQ h0 hn hp hp')) (aY.append (m2.facts f1) f2),.cons (.var (g1.more m2)) g2⟩
  |.row sz k,ho,⟨es,h',e,hp,hl,k1⟩=>
   subst e;have m1:=bG ρ n h';have m2:=bG (oU ρ n h') (n+1) es.length;obtain ⟨ρ3,m3,f3,g3⟩:=rest (m1.trans m2);refine ⟨ρ3,(m1.trans m2).trans m3,aY.cons ((m2.trans m3).fact (jH h0 hn hp)) (aY.append (m3.facts (jQ (m1.zero hn h0) (Nat.succ_pos _) (by omega) hl)) f3),.cons ?_ g3⟩;have g:GB T (n+2) (oU (oU ρ n h') (n+1) es.length) (.row sz k ⟨n,0⟩ ⟨n+1,0⟩) (.row sz es):=by refine .row (by grind) (qae _) (cZ _ _ _).symm ?_;rw [m2.lin (qae n),cZ];exact k1
   exact GB.more m3 g
  |.zcb sz k hi,ho,⟨es,h',e,hp,hl,k1⟩=>
   subst e;have m1:=bG ρ n h';have m2:=bG (oU ρ n h') (n+1) es.length;obtain ⟨ρ3,m3,f3,g3⟩:=rest (m1.trans m2);refine ⟨ρ3,(m1.trans m2).trans m3,aY.cons ((m2.trans m3).fact (jH h0 hn hp)) (aY.append (m3.facts (jQ (m1.zero hn h0) (Nat.succ_pos _) (by omega) hl)) f3),.cons ?_ g3⟩;have g:GB T (n+2) (oU (oU ρ n h') (n+1) es.length) (.row sz k ⟨n,0⟩ ⟨n+1,0⟩) (.row sz es):=by refine .row (by grind) (qae _) (cZ _ _ _).symm ?_;rw [m2.lin (qae n),cZ];exact k1
   exact GB.more m3 g
  |.dead,ho,e=>have e:x=.dead:=e;subst e;obtain ⟨ρ2,m2,f2,g2⟩:=rest (.refl n ρ);exact ⟨ρ2,m2,f2,.cons .dead g2⟩
  |.y7 _ _ _ _,ho,_=>cases ho.1
  |.map _,ho,_=>cases ho.1
theorem gQ (h0:ρ 0=0):∀(l:List BSh) {k:Nat} {xs:List Bx},aY n ρ (um k l).2.2->GBs T n ρ (um k l).1 xs->BIs T l xs
 |[],_,_,_,.nil=>trivial
 |.var l::r,k,_,hF,.cons (.var g1) g2=>⟨⟨_,rfl,by have:=iG h0 l (h:=.k 0) hF.left g1<;>grind[Lin.k_v]⟩,gQ h0 r hF.right g2⟩
 |.rcv l::r,k,_,hF,.cons (.var g1) g2=>⟨⟨_,_,rfl,jG h0 hF,iG h0 l hF.tl.left g1⟩,gQ h0 r hF.tl.right g2⟩
 |.mP lo hi l::r,k,_,hF,.cons (.var g1) g2=>⟨⟨_,_,rfl,(fV h0 hF.left).1,(fV h0 hF.left).2,iG h0 l hF.right.left g1⟩,gQ h0 r hF.right.right g2⟩
 |.row sz kk::r,k,_,hF,.cons (.row (es:=es) h1 h2 h3 h4) g2=>by have a:=jG h0 hF;have b:=fV h0 hF.tl.left;exact ⟨⟨es,_,rfl,a,by omega,h4⟩,gQ h0 r hF.tl.right g2⟩
 |.zcb sz kk hi::r,k,_,hF,.cons (.row (es:=es) h1 h2 h3 h4) g2=>by have a:=jG h0 hF;have b:=fV h0 hF.tl.left;exact ⟨⟨es,_,rfl,a,by omega,h4⟩,gQ h0 r hF.tl.right g2⟩
 |.y7 sz kk _ _::r,k,_,hF,.cons (.row (es:=es) h1 h2 h3 h4) g2=>⟨⟨es,_,rfl,h4⟩,gQ h0 r hF g2⟩
 |.map _::r,k,_,hF,.cons (.map _) g2=>⟨⟨_,rfl⟩,gQ h0 r hF g2⟩
 |.dead::r,k,_,hF,.cons .dead g2=>⟨rfl,gQ h0 r hF g2⟩
theorem SB :(mkC f args inb mu outs).outs=outs.map (LW (mkC f args inb mu outs).m):=rfl
theorem ZA (ho:Gj args=true)(hob:inb.all BSh.own=true)(ha:IsL T 0 args xs)(hb:BIs T inb bx):
  ∃ρ,(mkC f args inb mu outs).Sat T ρ xs bx:=by
 obtain ⟨ρ1,l,u,y⟩:=gK args (h:=.k 0) (n:=1) (ρ:=fun _=>(0:Int)) ho (by omega) rfl (by decide) (by rw [show Lin.v (.k 0) (fun _=>(0:Int))=0 from rfl];omega);have a:0<(oO (.k 0) 1 args).2.1:=Nat.lt_of_lt_of_le (by omega) l.le;have m:=l.zero (by omega) rfl;obtain ⟨ρ2,j,q,A⟩:=sZ inb hob a m hb;exact ⟨ρ2,j.zero a m,Nat.lt_of_lt_of_le a j.le,aY.append (j.facts u) q,⟨[],qaa.2 rfl,.nil⟩,y.more j,A⟩
def Says (T:Tab)(Γ:Nat->Gam)(f:FuncId)(xs:List X)(bx:List Bx)(outs:List (Sh×List BSh)):Prop:=
 ∃o,o∈outs/\∃r bx',o.1.Is T 0 r/\BIs T o.2 bx'/\∃B,∀N,B<=N->Γ N (.fn f) xs bx=some (r,bx')
theorem dX (hc:(mkC f args inb mu outs).Holds T Γ)(ho:Gj args=true)(hob:inb.all BSh.own=true)
  (ha:IsL T 0 args xs) (hb:BIs T inb bx):Says T Γ f xs bx outs:=by
 obtain ⟨ρ,l⟩:=ZA (f:=f) (mu:=mu) (outs:=outs) ho hob ha hb;obtain ⟨o,a,ρ',r,j,n,m,u,y,B,E⟩:=hc ρ xs bx l;rw [SB] at a;obtain ⟨q,A,rfl⟩:=qal.1 a;have z:=n.zero l.pos l.zero;refine ⟨q,A,r,j,?_,?_,B,E⟩;·have:=Sh.bwd z q.1 (h:=.k 0) (aY.left m) u<;>grind[Lin.k_v]
 exact gQ z q.2 (aY.right m) y
theorem dH (ho:∀o,o∈outs->o.1.own=true/\o.2.all BSh.own=true)
  (h:∀xs bx,IsL T 0 args xs->BIs T inb bx->Says T Γ f xs bx outs):(mkC f args inb mu outs).Holds T Γ:=by
 intro ρ xs bx a;have E:IsL T 0 args xs:=by have:=iG a.zero args (h:=.k 0) (aY.left a.pre) a.args;rw [Lin.k_v a.zero] at this;exact this
 have O:=gQ a.zero inb (aY.right a.pre) a.inb;obtain ⟨q,A,r,u,S,Q,B,P⟩:=h xs bx E O;obtain ⟨F,J⟩:=ho q A;obtain ⟨ρ1,l,M,N⟩:=Sh.fwd q.1 (h:=.k 0) (n:=(mkC f args inb mu outs).m) (ρ:=ρ) F a.pos a.zero a.pos (by rw [Lin.k_v a.zero];omega);have j:=Nat.lt_of_lt_of_le a.pos l.le;obtain ⟨ρ2,y,L,H⟩:=sZ q.2 J j (l.zero a.pos a.zero) Q;exact ⟨_,qal.2 ⟨q,A,rfl⟩,ρ2,r,u,l.trans y,aY.append (y.facts M) L,N.more y,H,B,P⟩
end
section
variable {c:Ctr}{ext:Ext}{tab:FuncId->Option Fun}{G L:List Ctr}{K:Names}{Γ:Nat->Gam}{orc:Orc}{T:Tab}
theorem ay.nil :ay T Γ []:=fun c a=>by cases a
theorem ay.one (h:c.Holds T Γ):ay T Γ [c]:=fun d a=>by rw [qaa.1 a];exact h
theorem ay.cons (h:c.Holds T Γ)(hL:ay T Γ L):ay T Γ (c::L):=fun d a=>(qak.1 a).elim (fun e=>e▸h) (hL d)
def L6 (ext:Ext)(G:List Ctr):Bool:=G.all fun c=>(ext c.f).isNone
theorem IZ (h:L6 ext G=true):∀c,c∈G->ext c.f=none:=fun c a=>by have:=qaq.1 h c a;exact Option.isNone_iff_eq_none.1 this
theorem TB (hL:ay T (ah tab ext) L)(he:L6 ext G=true)(h:G.all (fun c=>ES tab ⟨T,K,L,[],none,0⟩ orc c)=true):ay T (ah tab ext) G:=fun c a=>zeu (K:=K) (orc:=orc) hL (IZ he c a) (qaq.1 h c a)
theorem zet (hL:ay T (ah tab ext) L)(he:L6 ext G=true)(hm:G.all NI=true)(h:G.all (fun c=>ES tab ⟨T,K,L,G,c.mu,c.rank⟩ orc c)=true):ay T (ah tab ext) G:=
 VX hL (IZ he) hm h
theorem hoA (K:Names)(hL:ay T (ah tab ext) L)(he:L6 ext G=true:=by kernel_rfl)(h:G.all (fun c=>ES tab ⟨T,K,L,[],none,0⟩ (iQ []) c)=true:=by kernel_rfl):ay T (ah tab ext) G:=TB hL he h
theorem hoB (K:Names)(orc:Orc)(hL:ay T (ah tab ext) L)(he:L6 ext G=true:=by kernel_rfl)(h:G.all (fun c=>ES tab ⟨T,K,L,[],none,0⟩ orc c)=true:=by kernel_rfl):ay T (ah tab ext) G:=TB hL he h
theorem hrA (K:Names)(orc:Orc)(hL:ay T (ah tab ext) L)(he:L6 ext G=true:=by kernel_rfl)(hm:G.all NI=true:=by kernel_rfl)(h:G.all (fun c=>ES tab ⟨T,K,L,G,c.mu,c.rank⟩ orc c)=true:=by kernel_rfl):ay T (ah tab ext) G:=zet hL he hm h
theorem hpA:type_of%@ay.append:=@ay.append
end
section
variable {c:Ctr}{ext:Ext}{f:FuncId}{tab:FuncId->Option Fun}{outs:List (Sh×List BSh)}{inb:List BSh}{bx:List Bx}{G L:List Ctr}{args:List Sh}{xs:List X}{K:Names}{Γ:Nat->Gam}{mu:Option (Nat×Nat)}
variable {T:Tab} {n m:Nat} {ρ ρ':Rho}
theorem zdo (h0:ρ 0=0)(hp:0<(mkC f args inb mu outs).m)(h:(mkC f args inb mu outs).Res T Γ ρ xs bx):Says T Γ f xs bx outs:=by obtain ⟨o,a,ρ',r,j,n,l,u,y,B,E⟩:=h;rw [SB] at a;obtain ⟨q,A,rfl⟩:=qal.1 a;have z:=n.zero hp h0;refine ⟨q,A,r,j,?_,gQ z q.2 (aY.right l) y,B,E⟩;have:=Sh.bwd z q.1 (h:=.k 0) (aY.left l) u<;>grind[Lin.k_v]
theorem zdj (ho:∀o,o∈outs->o.1.own=true/\o.2.all BSh.own=true)(h0:ρ 0=0)(hp:0<(mkC f args inb mu outs).m)(h:Says T Γ f xs bx outs):(mkC f args inb mu outs).Res T Γ ρ xs bx:=by obtain ⟨q,y,r,j,O,N,B,M⟩:=h;obtain ⟨H,A⟩:=ho q y;obtain ⟨ρ1,l,F,J⟩:=Sh.fwd q.1 (h:=.k 0) (n:=(mkC f args inb mu outs).m) (ρ:=ρ) H hp h0 hp (by rw [Lin.k_v h0];omega);have a:=Nat.lt_of_lt_of_le hp l.le;obtain ⟨ρ2,u,E,L⟩:=sZ q.2 A a (l.zero hp h0) N;exact ⟨_,qal.2 ⟨q,y,rfl⟩,ρ2,r,j,l.trans u,aY.append (u.facts F) E,J.more u,L,B,M⟩
abbrev Part:=Ctr×Lin
theorem GH (hL:ay T (ah tab ext) L)(he:L6 ext G=true)(hm:G.all NI=true)
  (h:∀c,c∈G->∀ρ args inb,c.Sat T ρ args inb->∃q:Part,q.1.f=c.f/\(∃orc,ES tab ⟨T,K,L,G,some q.2,c.rank⟩ orc q.1=true)/\Nat.blt q.2.s q.1.m=true/\∃ρ',q.1.Sat T ρ' args inb/\(∀l,c.mu=some l->q.2.v ρ'<=l.v ρ)/\(q.1.Res T (ah tab ext) ρ' args inb->c.Res T (ah tab ext) ρ args inb)):ay T (ah tab ext) G:=by
 have H:∀(d:Nat),∀c,c∈G->c.Below T (ah tab ext) d:=by
  intro d;induction d with
  |zero=>intro c y ρ args inb n ⟨l,B,E,h3⟩<;>grind
  |succ d ih=>intro c y ρ args inb n ⟨l,B,E,h3⟩;obtain ⟨q,N,⟨orc,J⟩,M,ρ',j,F,u⟩:=h c y ρ args inb n;have O:=F l B;refine u (QS (x:=⟨T,K,L,G,some q.2,c.rank⟩) (by grind[IZ]) J j ⟨hL,fun P A=>?_⟩);dsimp only at A;cases A;refine ⟨eH M,fun c' hc' ρ' args' inb' j ⟨l2,k1,k2,k3⟩=>ih c' hc' ρ' args' inb' j ⟨l2,k1,k2,by grind⟩⟩
 intro c y ρ args inb n;have a:=qaq.1 hm c y;unfold NI at a;cases B:c.mu with
 |none=>grind
 |some l=>rw [B] at a;rw [qab] at a;have E:=aU n.pre a.2;rw [Lin.k_v n.zero] at E;exact H ((16*l.v ρ+c.rank).toNat+1) c y ρ args inb n ⟨l,B,E,by omega⟩
theorem LU {orc:Orc}{l:Lin}(hl:c.mu=some l)(hb:Nat.blt l.s c.m=true)(h:ES tab ⟨T,K,L,G,some l,c.rank⟩ orc c=true){args:List X}{inb:List Bx}(hs:c.Sat T ρ args inb):
  ∃q:Part,q.1.f=c.f/\(∃orc,ES tab ⟨T,K,L,G,some q.2,c.rank⟩ orc q.1=true)/\Nat.blt q.2.s q.1.m=true/\∃ρ',q.1.Sat T ρ' args inb/\(∀l,c.mu=some l->q.2.v ρ'<=l.v ρ)/\(q.1.Res T (ah tab ext) ρ' args inb->c.Res T (ah tab ext) ρ args inb):=
 ⟨(c,l),rfl,⟨orc,h⟩,hb,ρ,hs,fun a e=>by grind,id⟩
theorem znb {l:List Sh}{h':Int}{i:Nat}(ho:Gj l=true)(hob:inb.all BSh.own=true)(hh:0<=h')(ha:IsL T h' l xs)(hb:BIs T inb bx):
  ∃ρ,ρ 1=h'/\(mkC f [.p i,.rc l] inb mu outs).Sat T ρ [.ptr i 0 0,.agg xs] bx:=by
 have A:=bG (fun _=>(0:Int)) 1 h';obtain ⟨ρ1,u,F,H⟩:=gK l (h:=⟨1,0⟩) (n:=2) (ρ:=oU (fun _=>(0:Int)) 1 h') ho (by omega) (A.zero (by omega) rfl) (by decide) (by rw [cZ];omega);have B:=u.zero (by omega) (A.zero (by omega) rfl);have a:0<(oO ⟨1,0⟩ 2 l).2.1:=Nat.lt_of_lt_of_le (by omega) u.le;obtain ⟨ρ2,q,E,J⟩:=sZ inb hob a B hb;have y:=q.zero a B;have m:1<(oO ⟨1,0⟩ 2 l).2.1:=Nat.lt_of_lt_of_le (by omega) u.le;have j:=Nat.lt_of_lt_of_le a q.le;refine ⟨ρ2,?_,y,j,?_,⟨[],qaa.2 rfl,.nil⟩,?_,J⟩;·rw [q.same 1 m,u.same 1 (by omega)]<;>simp_all[oU]
 ·refine aY.append ?_ E;show aY (um (oO ⟨1,0⟩ 2 l).2.1 inb).2.1 ρ2 ([]++((ak (.k 0) ⟨1,0⟩::(oO ⟨1,0⟩ 2 l).2.2)++[]));rw [qaU,List.append_nil];refine aY.cons ?_ (q.facts F);refine aJ.2 ⟨j,Nat.lt_of_lt_of_le m q.le,?_⟩;rw [Lin.k_v y,q.lin (show (⟨1,0⟩:Lin).s<_ from m),u.lin (show (⟨1,0⟩:Lin).s<2 by decide),cZ]<;>grind
 exact .cons (.ptr j (Lin.k_v y 0).symm) (.cons (.agg (H.more q)) .nil)
theorem Ctr.Sat.with {args:List X}{inb:List Bx}(h:c.Sat T ρ args inb){p:List Fact}(hp:aY c.m ρ p):(c.with [p]).Sat T ρ args inb:=
 ⟨h.zero,h.pos,h.pre,⟨p,qaa.2 rfl,hp⟩,h.args,h.inb⟩
end
section
variable {f:FuncId}{inb:List BSh}{bx:List Bx}{args:List Sh}{xs:List X}{Γ:Nat->Gam}{mu:Option (Nat×Nat)}
variable {T:Tab} {n m:Nat} {ρ ρ':Rho}
abbrev Xl:=Sh×List BSh×List Fact
variable {outs:List Xl}
def zqR (m:Nat)(o:Xl):zfP:={LW m (o.1,o.2.1) with F:=o.2.2++(LW m (o.1,o.2.1)).F}
theorem yN {α β:Type}(f:α->β):∀l:List α,(l.map f).zip l=l.map fun x=>(f x,x)
 |[]=>rfl
 |x::r=>by rw [qaS,List.zip_cons_cons,yN f r];rfl
theorem wz :(dS f args inb mu outs).outs=outs.map (zqR (dS f args inb mu outs).m):=by show (((outs.map fun o=>(o.1,o.2.1)).map (LW _)).zip outs).map _=_;rw [List.map_map,yN,List.map_map];rfl
theorem jY {q:Xl}{r:X}(hq:q∈outs)(h0:ρ 0=0)(hp:0<(dS f args inb mu outs).m)(w1:q.1.own=true)(hb:q.2.1=[])(h1:q.1.Is T 0 r)
  (hF:∀n' ρ',More (dS f args inb mu outs).m ρ n' ρ'->ρ' 0=0->G T n' ρ' (q.1.bld (.k 0) (dS f args inb mu outs).m).1 r->n'=(q.1.bld (.k 0) (dS f args inb mu outs).m).2.1->aY n' ρ' q.2.2)
  (h:∃B,∀N,B<=N->Γ N (.fn f) xs bx=some (r,[])):(dS f args inb mu outs).Res T Γ ρ xs bx:=by
 obtain ⟨l,bs,F⟩:=q;dsimp only at hb w1 h1 hF;subst hb;obtain ⟨B,A⟩:=h;obtain ⟨ρ1,a,y,j⟩:=Sh.fwd l (h:=.k 0) (n:=(dS f args inb mu outs).m) (ρ:=ρ) w1 hp h0 hp (by rw [Lin.k_v h0];exact h1);have u:=hF _ ρ1 a (a.zero hp h0) j rfl;refine ⟨zqR (dS f args inb mu outs).m (l,[],F),by rw [wz];exact qal.2 ⟨_,hq,rfl⟩,ρ1,r,[],a,aY.append u (aY.append y .nil),j,.nil,B,A⟩
theorem BK (h0:ρ 0=0)(hp:0<(dS f args inb mu outs).m)(h:(dS f args inb mu outs).Res T Γ ρ xs bx):
  ∃q,q∈outs/\∃n' ρ' r bx',More (dS f args inb mu outs).m ρ n' ρ'/\ρ' 0=0/\aY n' ρ' q.2.2/\G T n' ρ' (q.1.bld (.k 0) (dS f args inb mu outs).m).1 r/\q.1.Is T 0 r/\BIs T q.2.1 bx'/\∃B,∀N,B<=N->Γ N (.fn f) xs bx=some (r,bx'):=by
 obtain ⟨o,a,ρ',r,bx',j,n,u,y,B,E⟩:=h;rw [wz] at a;obtain ⟨q,A,rfl⟩:=qal.1 a;have z:=j.zero hp h0;have l:aY _ ρ' (LW (dS f args inb mu outs).m (q.1,q.2.1)).F:=aY.right n;refine ⟨q,A,_,ρ',r,bx',j,z,aY.left n,u,?_,gQ z q.2.1 (aY.right l) y,B,E⟩;have:=Sh.bwd z q.1 (h:=.k 0) (aY.left l) u;rw [Lin.k_v z] at this;exact this
theorem I9 (ho:Gj args=true)(hob:inb.all BSh.own=true)(ha:IsL T 0 args xs)(hb:BIs T inb bx):
  ∃ρ,(dS f args inb mu outs).Sat T ρ xs bx:=by
 obtain ⟨ρ,a⟩:=ZA (f:=f) (mu:=mu) (outs:=outs.map fun o=>(o.1,o.2.1)) ho hob ha hb;exact ⟨ρ,a.zero,a.pos,a.pre,a.alts,a.args,a.inb⟩
end
end Go.Ab
