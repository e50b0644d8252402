/- The machine over sets of values: functions keep their contracts. -/
import Derived.Test.YtjbndifenhihhaaGreatDoorEmP7
import Derived.Test.YtjbndifenhihhaaGreatDoorEmP11
namespace Go.Ab
open Go.Em
variable {T:Tab} {n m:Nat} {ρ ρ':Rho} {Γ:Nat→Gam}
def ziD:Nat→List AX→List (Nat×AX)
 |_,[]=>[]
 |k,x::r=>(k,x)::ziD (k+1) r
theorem Td:∀{l:List AX} {m:List X} {k:Nat},GL T n ρ l m→GT T n ρ (ziD k l) (zipTm k m)
 |_,_,_,.nil=>.nil
 |_,_,_,.cons h1 h2=>.cons h1 (Td h2)
def ze5 (a:ASt)(t:Nat)(k:Option Nat):Option AX:=match lkA a.tm t with
 |some (.ptr i e o)=>match a.bx[i]? with
  |some (.var cs)=>if XG e then takeA k (cs.drop o) else none
  |_=>none
 |some (.dp cs)=>takeA k cs
 |_=>none
theorem zaA {a:ASt}{σ:St}(hr:R T ρ a σ){t:Nat}{k:Option Nat}{y:AX}(h:ze5 a t k=some y):∃x,(lk σ.tm t).bind (lN σ k)=some x∧G T a.nx ρ y x:=by
 unfold ze5 at h
 split at h
 ·rename_i i e o hl
  obtain ⟨x,hx,hg⟩:=iM hr.tm hl
  cases hg with
  |ptr q1 q2=>
   rename_i en
   split at h
   ·rename_i cs hb
    split at h
    ·rename_i hz
     obtain ⟨b,hb',hgb⟩:=hr.bx.get hb
     cases hgb with
     |var hv=>
      rename_i xv
      have h0:=o7 hz hr.zero
      have:en=0:=by omega
      subst this
      obtain ⟨z,hz',hgz⟩:=xO (hv.drop o) h
      refine ⟨z,?_,hgz⟩
      rw [hx,Option.bind_some]
      unfold lN
      have:iL σ (.ptr i 0 o)=some (xv.drop o):=by simp only [iL,hb'];rfl
      rw [this]
      exact hz'
    ·cases h
   ·cases h
 ·rename_i cs hl
  obtain ⟨x,hx,hg⟩:=iM hr.tm hl
  cases hg with
  |dp hv=>
   obtain ⟨z,hz',hgz⟩:=xO hv h
   refine ⟨z,?_,hgz⟩
   rw [hx,Option.bind_some]
   exact hz'
 ·cases h
def zgL (a:ASt):List Rv→Option (List AX)
 |[]=>some []
 |r::rs=>match (match r with|.tmp t=>lkA a.tm t|.cell t k=>ze5 a t k) with
  |none=>none
  |some x=>(zgL a rs).map (x::·)
theorem UK {a:ASt}{σ:St}(hr:R T ρ a σ):∀{rs:List Rv} {ys:List AX},zgL a rs=some ys→∃xs,resX σ rs=some xs∧GL T a.nx ρ ys xs
 |[],ys,h=>by simp only [zgL,Option.some.injEq] at h;subst h;exact ⟨[],rfl,.nil⟩
 |r::rs,ys,h=>by
  unfold zgL at h
  split at h
  ·cases h
  ·rename_i y hy
   obtain ⟨ys',h1,rfl⟩:=Option.map_eq_some_iff.1 h
   obtain ⟨xs,h2,h3⟩:=UK hr h1
   cases r with
   |tmp t=>
    obtain ⟨x,hx,hg⟩:=iM hr.tm hy
    exact ⟨x::xs,by simp only [resX,hx,h2,Option.map_some],.cons hg h3⟩
   |cell t k=>
    obtain ⟨x,hx,hg⟩:=zaA hr hy
    exact ⟨x::xs,by simp only [resX,hx,h2,Option.map_some],.cons hg h3⟩
def NQ:List AX→AX
 |[x]=>x
 |xs=>.tup xs
theorem J8 {l:List AX}{m:List X}(h:GL T n ρ l m):G T n ρ (NQ l) (packRes m):=by
 cases h with
 |nil=>exact .tup .nil
 |cons h1 h2=>
  cases h2 with
  |nil=>exact h1
  |cons h3 h4=>exact .tup (.cons h1 (.cons h3 h4))
def zcK (nIn:Nat)(y:AX)(bx:List ABx):Option (AX×List ABx):=
 let sel:=qJ bx gG (List.range nIn++y.refs) []
 if JE y.refs sel&&sel.take nIn==List.range nIn then (HY bx sel).map fun b=>(y.ren (qE · sel),b) else none
theorem YT {nIn:Nat}{y:AX}{x:X}{bx:List ABx}{bxs:List Bx}{q:AX×List ABx}(hg:G T n ρ y x)(hb:GBs T n ρ bx bxs)(h:zcK nIn y bx=some q):∃z w,pack nIn x bxs=some (z,w)∧G T n ρ q.1 z∧GBs T n ρ q.2 w:=by
 unfold zcK at h
 dsimp only at h
 split at h
 ·rename_i hc
  obtain ⟨p,hp,rfl⟩:=Option.map_eq_some_iff.1 h
  obtain ⟨w,hw,hgw⟩:=yZ hb hp
  refine ⟨_,w,?_,hg.ren _,hgw⟩
  unfold pack
  dsimp only
  rw [hg.refs,mD hb,if_pos hc,hw]
  rfl
 ·cases h
def zln (k:Nat)(a:ASt)(r:AX)(bx:List ABx)(o:zfM):Bool:=
 let acc:=Jo bx o.bx (zaI r o.r [])
 let c:In:=⟨a.F,dL k acc,o.m⟩
 Nat.ble k o.m&&Nat.ble k a.nx&&Nat.blt 0 k&&leX c r o.r&&zhm c bx o.bx&&
  o.F.all (fun f=>Nat.blt f.x o.m&&Nat.blt f.y o.m&&leL a.F (dL k acc f.x) ((dL k acc f.y).up f.c))
theorem zeS {k:Nat}{a:ASt}{σ:St}{r:AX}{bx:List ABx}{o:zfM}{x:X}{bxs:List Bx}(hr:R T ρ a σ)(hg:G T a.nx ρ r x)(hb:GBs T a.nx ρ bx bxs)(h:zln k a r bx o=true):
  ∃ρo,More k ρ o.m ρo∧aW o.m ρo o.F∧G T o.m ρo o.r x∧GBs T o.m ρo o.bx bxs:=by
 unfold zln at h
 simp only [Bool.and_eq_true] at h
 obtain ⟨⟨⟨⟨⟨h1,h2⟩,h3⟩,h4⟩,h5⟩,h6⟩:=h
 generalize Jo bx o.bx (zaI r o.r [])=acc at h4 h5 h6
 have hk:=eF h3
 have hsame:∀s,s<k→back (dL k acc) ρ s=ρ s:=fun s hs=>by
  unfold back dL
  rw [if_pos (FU.2 hs)]
  unfold Lin.v;dsimp only;omega
 refine ⟨back (dL k acc) ρ,⟨Nat.le_of_ble_eq_true h1,hsame⟩,fun f hf=>?_,Oi (c:=⟨a.F,dL k acc,o.m⟩) hr.zero hr.F h4 hg,KA (c:=⟨a.F,dL k acc,o.m⟩) hr.zero hr.F h5 hb⟩
 have:=List.all_eq_true.1 h6 f hf
 simp only [Bool.and_eq_true] at this
 obtain ⟨⟨e1,e2⟩,e3⟩:=this
 have e4:=aQ hr.F e3
 rw [Lin.kZ] at e4
 exact ⟨eF e1,eF e2,e4⟩
def zeX:ASt→List AX→List (ASt×List AX)
 |a,[]=>[(a,[])]
 |a,.b tf ff::r=>(match assume a tf with|some a'=>(zeX a' r).map (fun q=>(q.1,cb true::q.2))|none=>[])++
   (match assume a ff with|some a'=>(zeX a' r).map (fun q=>(q.1,cb false::q.2))|none=>[])
 |a,y::r=>(zeX a r).map (fun q=>(q.1,y::q.2))
theorem FI:∀{ys:List AX} {a:ASt} {σ:St} {xs:List X},R T ρ a σ→GL T a.nx ρ ys xs→∃q,q∈zeX a ys∧q.1.nx=a.nx∧R T ρ q.1 σ∧GL T a.nx ρ q.2 xs
 |[],a,σ,_,hr,.nil=>⟨(a,[]),List.mem_singleton.2 rfl,rfl,hr,.nil⟩
 |y::r,a,σ,_,hr,.cons (x:=x) (m:=m) h1 h2=>by
  have plain:(∃q,q∈(zeX a r).map (fun q:ASt×List AX=>(q.1,y::q.2))∧q.1.nx=a.nx∧R T ρ q.1 σ∧GL T a.nx ρ q.2 (x::m)):=by
   obtain ⟨q,hq,e,k1,k2⟩:=FI hr h2
   exact ⟨_,List.mem_map.2 ⟨q,hq,rfl⟩,e,k1,.cons h1 k2⟩
  unfold zeX
  split
  ·rename_i heq
   cases heq
  ·rename_i tf ff r' heq
   cases heq
   cases h1 with
   |b g1 g2=>
    rename_i t
    cases t with
    |true=>
     obtain ⟨a',e1,e2,e3⟩:=ji hr (g1 rfl)
     rw [e1]
     obtain ⟨q,hq,e,k1,k2⟩:=FI e2 (e3▸h2)
     exact ⟨_,List.mem_append_left _ (List.mem_map.2 ⟨q,hq,rfl⟩),e.trans e3,k1,.cons (xM true) (e3▸k2)⟩
    |false=>
     obtain ⟨a',e1,e2,e3⟩:=ji hr (g2 rfl)
     rw [e1]
     obtain ⟨q,hq,e,k1,k2⟩:=FI e2 (e3▸h2)
     exact ⟨_,List.mem_append_right _ (List.mem_map.2 ⟨q,hq,rfl⟩),e.trans e3,k1,.cons (xM false) (e3▸k2)⟩
  ·rename_i heq
   cases heq
   exact plain
def Ji (tab:FuncId→Option Fun)(x:Cx)(orc:Orc)(c:Ctr):Bool:=match tab c.f with
 |none=>false
 |some fd=>(c.args.length==fd.np)&&Nat.blt 0 c.m&&c.alts.all fun p=>match FZ x orc c.inb.length fd.body (zbi c.m) ⟨c.m,p++c.pre,ziD 0 c.args,c.inb⟩ with
  |none=>false
  |some outs=>outs.all fun q=>(match q.1 with|.norm|.ret=>true|_=>false)&&match zgL q.2 fd.res with
   |none=>false
   |some ys=>(zeX q.2 ys).all fun w=>match zcK c.inb.length (NQ w.2) w.1.bx with
    |none=>false
    |some (r,bx)=>c.outs.any fun o=>zln c.m w.1 r bx o
theorem MP {tab:FuncId→Option Fun}{ext:Ext}{x:Cx}{orc:Orc}{c:Ctr}(he:ext c.f=none)(h:Ji tab x orc c=true){ρ:Rho}{args:List X}{inb:List Bx}(hs:c.Sat x.T ρ args inb)(hx:Jv (callF tab ext) x c.m ρ):c.Res x.T (callF tab ext) ρ args inb:=by
 unfold Ji at h
 split at h
 ·cases h
 ·rename_i fd hfd
  simp only [Bool.and_eq_true] at h
  obtain ⟨⟨h1,h2⟩,h3⟩:=h
  obtain ⟨p,hp,hpF⟩:=hs.alts
  have h3:=List.all_eq_true.1 h3 p hp
  split at h3
  ·cases h3
  ·rename_i outs ho
   have hr:R x.T ρ ⟨c.m,p++c.pre,ziD 0 c.args,c.inb⟩ ⟨zipTm 0 args,inb⟩:=⟨hs.zero,hs.pos,hpF.append hs.pre,Td hs.args,hs.inb⟩
   obtain ⟨q,hq,ρ1,σ1,k1,k2,B,k3⟩:=qQ (Γ:=callF tab ext) hx hr ho
   have h4:=List.all_eq_true.1 h3 q hq
   rw [Bool.and_eq_true] at h4
   obtain ⟨h4,h5⟩:=h4
   split at h5
   ·cases h5
   ·rename_i ys hys
    obtain ⟨xs,hxs,hgx⟩:=UK k2 hys
    obtain ⟨w,hw,ew,kw,gw⟩:=FI k2 hgx
    have h5:=List.all_eq_true.1 h5 w hw
    split at h5
    ·cases h5
    ·rename_i r bx hp
     rw [←ew] at gw
     obtain ⟨z,v,hz,hgz,hgw⟩:=YT (J8 gw) kw.bx hp
     obtain ⟨o,hom,hfo⟩:=List.any_eq_true.1 h5
     obtain ⟨ρo,m1,m2,m3,m4⟩:=zeS kw hgz hgw hfo
     have hlen:=hs.inb.len
     have hal:=hs.args.len
     refine ⟨o,hom,ρo,z,v,⟨m1.le,fun s hs'=>by rw [m1.same s hs',k1.same s hs']⟩,m2,m3,m4,B+1,fun N hN=>?_⟩
     obtain ⟨M,rfl⟩:∃M,N=M+1:=⟨N-1,by omega⟩
     have h6:=k3 M (by omega)
     unfold callF
     rw [he]
     dsimp only
     rw [hfd]
     dsimp only
     unfold zfR
     rw [←hal,if_pos h1,←hlen,h6]
     obtain ⟨e,a'⟩:=q
     cases e with
     |norm=>dsimp only;rw [hxs,Option.bind_some];exact hz
     |ret=>dsimp only;rw [hxs,Option.bind_some];exact hz
     |exit j=>cases h4
def ah (T:Tab)(Γ:Nat→Gam)(L:List Ctr):Prop:=∀c,c∈L→c.Holds T Γ
theorem ZB {tab:FuncId→Option Fun}{ext:Ext}{T:Tab}{K:Names}{L:List Ctr}{orc:Orc}{c:Ctr}(hL:ah T (callF tab ext) L)(he:ext c.f=none)(h:Ji tab ⟨T,K,L,[],none,0⟩ orc c=true):c.Holds T (callF tab ext):=fun _ _ _ hs=>
 MP (x:=⟨T,K,L,[],none,0⟩) he h hs ⟨hL,fun l hl=>by cases hl⟩
def MO (c:Ctr):Bool:=match c.mu with
 |some l=>Nat.blt l.s c.m&&leL c.pre (.k 0) l
 |none=>false
theorem QX {tab:FuncId→Option Fun}{ext:Ext}{T:Tab}{K:Names}{L G:List Ctr}{orc:Orc}(hL:ah T (callF tab ext) L)(he:∀c,c∈G→ext c.f=none)(hm:G.all MO=true)(h:G.all (fun c=>Ji tab ⟨T,K,L,G,c.mu,c.rank⟩ orc c)=true):ah T (callF tab ext) G:=by
 have key:∀(d:Nat),∀c,c∈G→c.Below T (callF tab ext) d:=by
  intro d
  induction d with
  |zero=>intro c hc ρ args inb hs ⟨l,h1,h2,h3⟩;omega
  |succ d ih=>
   intro c hc ρ args inb hs ⟨l,h1,h2,h3⟩
   have hmu:=List.all_eq_true.1 hm c hc
   unfold MO at hmu
   rw [h1] at hmu
   rw [Bool.and_eq_true] at hmu
   refine MP (x:=⟨T,K,L,G,c.mu,c.rank⟩) (he c hc) (List.all_eq_true.1 h c hc) hs ⟨hL,fun l' hl'=>?_⟩
   dsimp only at hl'
   rw [h1] at hl'
   cases hl'
   refine ⟨eF hmu.1,fun c' hc' ρ' args' inb' hs' ⟨l2,k1,k2,k3⟩=>ih c' hc' ρ' args' inb' hs' ⟨l2,k1,k2,by dsimp only at k3;omega⟩⟩
 intro c hc ρ args inb hs
 have hmu:=List.all_eq_true.1 hm c hc
 unfold MO at hmu
 cases h1:c.mu with
 |none=>rw [h1] at hmu;cases hmu
 |some l=>
  rw [h1] at hmu
  rw [Bool.and_eq_true] at hmu
  have h2:=aQ hs.pre hmu.2
  rw [Lin.k_v hs.zero] at h2
  exact key ((16*l.v ρ+c.rank).toNat+1) c hc ρ args inb hs ⟨l,h1,h2,by omega⟩
theorem ah.append {L M:List Ctr}(h:ah T Γ L)(h':ah T Γ M):ah T Γ (L++M):=fun c hc=>(List.mem_append.1 hc).elim (h c) (h' c)
end Go.Ab
namespace Go.Ab
open Go.Em
mutual
def AX.zc7:AX→List Lin
 |.i _ l=>[l]
 |.s l=>[l]
 |.sl _ _ _ h l=>[h,l]
 |.bs _ a b=>[a,b]
 |.ptr _ e _=>[e]
 |.dp cs=>QN cs
 |.fn _ cs=>QN cs
 |.agg cs=>QN cs
 |.tup cs=>QN cs
 |.el _ h=>[h]
 |.de _ h=>[h]
 |.b _ _|.x _|.yl _|.mp _|.rE=>[]
def QN:List AX→List Lin
 |[]=>[]
 |x::r=>x.zc7++QN r
end
def zc6:List (Nat×AX)→List Lin
 |[]=>[]
 |p::r=>p.2.zc7++zc6 r
def zhi:List (Value×AX)→List Lin
 |[]=>[]
 |p::r=>p.2.zc7++zhi r
def ABx.zc7:ABx→List Lin
 |.var cs=>QN cs
 |.row _ _ h l=>[h,l]
 |.loop _ _ tm _ _ _=>zc6 tm
 |.map es=>zhi es
 |.el _ h=>[h]
 |.dead=>[]
def zhj:List ABx→List Lin
 |[]=>[]
 |x::r=>x.zc7++zhj r
def ASt.zc7 (a:ASt):List Lin:=zc6 a.tm++zhj a.bx
def keysT:List (Nat×AX)→List Nat
 |[]=>[]
 |p::r=>p.1::keysT r
def eqN:List Nat→List Nat→Bool
 |[],[]=>true
 |a::l,b::r=>Nat.beq a b&&eqN l r
 |_,_=>false
structure Found where
 keys:List Nat
 make:(Nat→Lin)→Nat→Nat×List Fact×List (Nat×AX)×List ABx×Mu
def Found.at (q:Found)(a:ASt):ASt×Mu:=
 let l:=a.zc7
 match q.make (fun k=>l.getD k default) a.nx with
 |(nx,F,tm,bx,mu)=>(⟨nx,F++a.F,tm,bx⟩,mu)
def aT (l:List Found):Orc:=fun _ a=>l.findSome? fun q=>if eqN q.keys (keysT a.tm) then
 (let r:=q.at a;if zfV a.nx (wM a r.1) a r.1 then some r else none) else none
end Go.Ab
namespace Go.Ab
open Go.Em
inductive Sh where
 |i (k:IntKind)
 |ir (k:IntKind) (lo hi:Int)
 |k (k:IntKind) (c:Int)
 |b
 |s
 |sr (lo hi:Int)
 |sl (sz k:Nat)
 |slr (sz k:Nat) (lo hi:Int)
 |slh (sz k:Nat)
 |FY (sz k:Nat) (lo hi:Int)
 |rc (l:List Sh)
 |rcb (lo hi:Int) (l:List Sh)
 |rcs (h:Nat) (l:List Sh)
 |kb (b:Bool)
 |ag (l:List Sh)
 |tu (l:List Sh)
 |x (x:X)
 |oi
 |p (i:Nat)
 |mp (i:Nat)
 |bs (i:Nat)
 |dp (l:List Sh)
 |fn (f:FuncId) (l:List Sh)
 |el (k:Nat)
 deriving Inhabited
def dX:Int:=1000000
abbrev Bld:=AX×Nat×List Fact
mutual
def Sh.bld (h:Lin)(n:Nat):Sh→Bld
 |.i k=>(.i k ⟨n,0⟩,n+1,[])
 |.ir k lo hi=>(.i k ⟨n,0⟩,n+1,bnd ⟨n,0⟩ (some lo) (some hi))
 |.k k c=>(.i k (.k c),n,[])
 |.b=>(.b [] [],n,[])
 |.s=>(.s ⟨n,0⟩,n+1,bnd ⟨n,0⟩ (some 0) (some dX))
 |.sr lo hi=>(.s ⟨n,0⟩,n+1,bnd ⟨n,0⟩ (some lo) (some hi))
 |.sl sz k=>(.sl none sz k ⟨n,0⟩ ⟨n+1,0⟩,n+2,ak (.k 0) ⟨n,0⟩::bnd ⟨n+1,0⟩ (some 0) (some dX))
 |.slr sz k lo hi=>(.sl none sz k ⟨n,0⟩ ⟨n+1,0⟩,n+2,ak (.k 0) ⟨n,0⟩::bnd ⟨n+1,0⟩ (some lo) (some hi))
 |.slh sz k=>(.sl none sz k h ⟨n,0⟩,n+1,bnd ⟨n,0⟩ (some 0) (some dX))
 |.FY sz k lo hi=>(.sl none sz k h ⟨n,0⟩,n+1,bnd ⟨n,0⟩ (some lo) (some hi))
 |.rc l=>match lI ⟨n,0⟩ (n+1) l with|(cs,m,F)=>(.agg cs,m,ak (.k 0) ⟨n,0⟩::F)
 |.rcb lo hi l=>match lI ⟨n,0⟩ (n+1) l with|(cs,m,F)=>(.agg cs,m,bnd ⟨n,0⟩ (some lo) (some hi)++F)
 |.ag l=>match lI h n l with|(cs,m,F)=>(.agg cs,m,F)
 |.rcs s l=>match lI ⟨s,0⟩ n l with|(cs,m,F)=>(.agg cs,m,F)
 |.kb b=>(cb b,n,[])
 |.tu l=>match lI h n l with|(cs,m,F)=>(.tup cs,m,F)
 |.x x=>(.x x,n,[])
 |.oi=>(.rE,n,[])
 |.p i=>(.ptr i (.k 0) 0,n,[])
 |.mp i=>(.mp i,n,[])
 |.bs i=>(.bs i (.k 0) ⟨n,0⟩,n+1,bnd ⟨n,0⟩ (some 0) (some dX))
 |.dp l=>match lI h n l with|(cs,m,F)=>(.dp cs,m,F)
 |.fn f l=>match lI h n l with|(cs,m,F)=>(.fn f cs,m,F)
 |.el k=>(.el k ⟨n,0⟩,n+1,[ak (.k 0) ⟨n,0⟩])
def lI (h:Lin)(n:Nat):List Sh→List AX×Nat×List Fact
 |[]=>([],n,[])
 |t::r=>match t.bld h n with
  |(a,n',F)=>match lI h n' r with
   |(l,n'',F')=>(a::l,n'',F++F')
end
inductive BSh where
 |var (l:List Sh)
 |rcv (l:List Sh)
 |lq (lo hi:Int) (l:List Sh)
 |row (sz k:Nat)
 |SQ (sz k h l:Nat)
 |map (es:List (Value×X))
 |dead
 deriving Inhabited
def pO (n:Nat):List BSh→List ABx×Nat×List Fact
 |[]=>([],n,[])
 |.var l::r=>match lI (.k 0) n l with
  |(cs,n',F)=>match pO n' r with
   |(bs,n'',F')=>(.var cs::bs,n'',F++F')
 |.rcv l::r=>match lI ⟨n,0⟩ (n+1) l with
  |(cs,n',F)=>match pO n' r with
   |(bs,n'',F')=>(.var cs::bs,n'',ak (.k 0) ⟨n,0⟩::(F++F'))
 |.lq lo hi l::r=>match lI ⟨n,0⟩ (n+1) l with
  |(cs,n',F)=>match pO n' r with
   |(bs,n'',F')=>(.var cs::bs,n'',bnd ⟨n,0⟩ (some lo) (some hi)++(F++F'))
 |.map es::r=>match pO n r with
  |(bs,n'',F')=>(.map (es.map fun q=>(q.1,ofX q.2))::bs,n'',F')
 |.SQ sz k h l::r=>match pO n r with
  |(bs,n'',F')=>(.row sz k ⟨h,0⟩ ⟨l,0⟩::bs,n'',F')
 |.dead::r=>match pO n r with
  |(bs,n'',F')=>(.dead::bs,n'',F')
 |.row sz k::r=>match pO (n+2) r with
  |(bs,n'',F')=>(.row sz k ⟨n,0⟩ ⟨n+1,0⟩::bs,n'',ak (.k 0) ⟨n,0⟩::(bnd ⟨n+1,0⟩ (some 0) (some dX)++F'))
def CP (m:Nat)(o:Sh×List BSh):zfM:=match o.1.bld (.k 0) m with
 |(r,n,F)=>match pO n o.2 with
  |(bs,n',F')=>⟨n',F++F',r,bs⟩
def mkC (f:FuncId)(args:List Sh)(inb:List BSh)(mu:Option (Nat×Nat))(outs:List (Sh×List BSh)):Ctr:=match lI (.k 0) 1 args with
 |(as,n,F)=>match pO n inb with
  |(bs,n',F')=>⟨f,n',as,bs,F++F',mu.map fun s=>⟨s.1,0⟩,outs.map (CP n'),(mu.map (·.2)).getD 0,[[]]⟩
def dN (f:FuncId)(args:List Sh)(inb:List BSh)(mu:Option (Nat×Nat))(outs:List (Sh×List BSh×List Fact)):Ctr:=
 let c:=mkC f args inb mu (outs.map fun o=>(o.1,o.2.1))
 {c with outs:=(c.outs.zip outs).map fun q=>{q.1 with F:=q.2.2.2++q.1.F}}
def Ctr.with (c:Ctr)(l:List (List Fact)):Ctr:={c with alts:=l}
def bd (s:Nat)(lo hi:Int):List Fact:=[ak (.k lo) ⟨s,0⟩,ak ⟨s,0⟩ (.k hi)]
def lt (s:Nat)(c:Int)(t:Nat):Fact:=ak ⟨s,c⟩ ⟨t,0⟩
end Go.Ab
namespace Go.Ab
open Go.Em
variable {T:Tab} {n m:Nat} {ρ ρ':Rho}
mutual
def Sh.Is (T:Tab)(h:Int):Sh→X→Prop
 |.i k,x=>∃z,x=.v (.int k z)
 |.ir k lo hi,x=>∃z,x=.v (.int k z)∧lo≤z∧z≤hi
 |.k k c,x=>x=.v (.int k c)
 |.b,x=>∃b,x=.v (.bool b)
 |.s,x=>∃bs,x=.v (.string bs)∧(bs.size:Int)≤dX
 |.sr lo hi,x=>∃bs,x=.v (.string bs)∧lo≤(bs.size:Int)∧(bs.size:Int)≤hi
 |.sl sz k,x=>∃t es h',x=.sl t sz es∧0≤h'∧(es.length:Int)≤dX∧∀e,e∈es→D T h' k e
 |.slr sz k lo hi,x=>∃t es h',x=.sl t sz es∧0≤h'∧lo≤(es.length:Int)∧(es.length:Int)≤hi∧∀e,e∈es→D T h' k e
 |.slh sz k,x=>∃t es,x=.sl t sz es∧(es.length:Int)≤dX∧∀e,e∈es→D T h k e
 |.FY sz k lo hi,x=>∃t es,x=.sl t sz es∧lo≤(es.length:Int)∧(es.length:Int)≤hi∧∀e,e∈es→D T h k e
 |.rc l,x=>∃h' xs,x=.agg xs∧0≤h'∧IsL T h' l xs
 |.rcb lo hi l,x=>∃h' xs,x=.agg xs∧lo≤h'∧h'≤hi∧IsL T h' l xs
 |.rcs _ l,x=>∃h' xs,x=.agg xs∧IsL T h' l xs
 |.kb b,x=>x=.v (.bool b)
 |.ag l,x=>∃xs,x=.agg xs∧IsL T h l xs
 |.tu l,x=>∃xs,x=.tup xs∧IsL T h l xs
 |.x y,x=>x=y∧y.refs=[]
 |.oi,x=>x=.ifc∨x=.v .nilIface
 |.p i,x=>x=.ptr i 0 0
 |.mp i,x=>x=.mp i
 |.bs i,x=>∃l,x=.bs i 0 l∧(l:Int)≤dX
 |.dp l,x=>∃xs,x=.dp xs∧IsL T h l xs
 |.fn f l,x=>∃xs,x=.fn f xs∧IsL T h l xs
 |.el k,x=>∃xs h',x=.agg xs∧0≤h'∧D T h' k xs
def IsL (T:Tab)(h:Int):List Sh→List X→Prop
 |[],[]=>True
 |t::ts,x::xs=>t.Is T h x∧IsL T h ts xs
 |_,_=>False
end
mutual
def Sh.own:Sh→Bool
 |.rcs _ _=>false
 |.rc l=>CO l
 |.rcb _ _ l=>CO l
 |.ag l=>CO l
 |.tu l=>CO l
 |.dp l=>CO l
 |.fn _ l=>CO l
 |_=>true
def CO:List Sh→Bool
 |[]=>true
 |t::r=>t.own&&CO r
end
def nZ (ρ:Rho)(n:Nat)(z:Int):Rho:=fun s=>if s=n then z else ρ s
theorem bn (ρ:Rho)(n:Nat)(z:Int):More n ρ (n+1) (nZ ρ n z):=⟨Nat.le_succ _,fun s hs=>by unfold nZ;rw [if_neg (by omega)]⟩
theorem bV (ρ:Rho)(n:Nat)(z:Int):(Lin.v ⟨n,0⟩ (nZ ρ n z))=z:=by unfold Lin.v nZ;dsimp only;rw [if_pos rfl];omega
theorem More.zero {ρ ρ':Rho}{n n':Nat}(h:More n ρ n' ρ')(hn:0<n)(h0:ρ 0=0):ρ' 0=0:=by rw [h.same 0 hn,h0]
def Fwd (T:Tab)(ρ:Rho)(n:Nat)(q:Bld)(x:X):Prop:=∃ρ',More n ρ q.2.1 ρ'∧aW q.2.1 ρ' q.2.2∧G T q.2.1 ρ' q.1 x
def zpH (T:Tab)(ρ:Rho)(n:Nat)(q:List AX×Nat×List Fact)(xs:List X):Prop:=∃ρ',More n ρ q.2.1 ρ'∧aW q.2.1 ρ' q.2.2∧GL T q.2.1 ρ' q.1 xs
theorem kN {n:Nat}{ρ:Rho}(h0:ρ 0=0)(hn:0<n){z lo hi:Int}(h1:lo≤z)(h2:z≤hi):aW (n+1) (nZ ρ n z) (bnd ⟨n,0⟩ (some lo) (some hi)):=
 uD ((bn ρ n z).zero hn h0) (Nat.succ_pos _) (Nat.lt_succ_self _) (fun a e=>by cases e;rw [bV];exact h1) (fun b e=>by cases e;rw [bV];exact h2)
theorem jI {n:Nat}{ρ:Rho}(h0:ρ 0=0)(hn:0<n){z:Int}(h1:0≤z):(ak (.k 0) ⟨n,0⟩).ok (n+1) (nZ ρ n z):=
 aC.2 ⟨Nat.succ_pos _,Nat.lt_succ_self _,by rw [bV,Lin.k_v ((bn ρ n z).zero hn h0)];exact h1⟩
mutual
theorem Sh.fwd:∀(t:Sh) {h:Lin} {n:Nat} {ρ:Rho} {x:X},t.own=true→0<n→ρ 0=0→h.s<n→t.Is T (h.v ρ) x→Fwd T ρ n (t.bld h n) x
 |.i k,h,n,ρ,_,_,hn,h0,_,⟨z,rfl⟩=>⟨nZ ρ n z,bn ρ n z,.nil,.i (Nat.lt_succ_self _) (bV ρ n z).symm⟩
 |.ir k lo hi,h,n,ρ,_,_,hn,h0,_,⟨z,rfl,h1,h2⟩=>⟨nZ ρ n z,bn ρ n z,kN h0 hn h1 h2,.i (Nat.lt_succ_self _) (bV ρ n z).symm⟩
 |.k k c,h,n,ρ,x,_,hn,h0,_,hx=>by
  have hx:x=.v (.int k c):=hx
  subst hx
  exact ⟨ρ,.refl _ _,.nil,.i hn (Lin.k_v h0 c).symm⟩
 |.b,h,n,ρ,_,_,hn,h0,_,⟨b,rfl⟩=>⟨ρ,.refl _ _,.nil,.b (fun _=>.nil) (fun _=>.nil)⟩
 |.s,h,n,ρ,_,_,hn,h0,_,⟨bs,rfl,h1⟩=>⟨nZ ρ n bs.size,bn _ _ _,kN h0 hn (by omega) h1,.s (Nat.lt_succ_self _) (bV ρ n _).symm⟩
 |.sr lo hi,h,n,ρ,_,_,hn,h0,_,⟨bs,rfl,h1,h2⟩=>⟨nZ ρ n bs.size,bn _ _ _,kN h0 hn h1 h2,.s (Nat.lt_succ_self _) (bV ρ n _).symm⟩
 |.sl sz k,h,n,ρ,_,_,hn,h0,_,⟨t,es,h',rfl,h1,h2,h3⟩=>by
  have m1:=bn ρ n h'
  have z1:=m1.zero hn h0
  have m2:=bn (nZ ρ n h') (n+1) es.length
  refine ⟨nZ (nZ ρ n h') (n+1) es.length,m1.trans m2,aW.cons (m2.fact (jI h0 hn h1)) (kN z1 (Nat.succ_pos _) (by omega) h2),.sl (by show n<n+1+1;omega) (Nat.lt_succ_self _) trivial (bV _ _ _).symm ?_⟩
  rw [m2.lin (Nat.lt_succ_self n),bV];exact h3
 |.slr sz k lo hi,h,n,ρ,_,_,hn,h0,_,⟨t,es,h',rfl,h1,h2,h3,h4⟩=>by
  have m1:=bn ρ n h'
  have z1:=m1.zero hn h0
  have m2:=bn (nZ ρ n h') (n+1) es.length
  refine ⟨nZ (nZ ρ n h') (n+1) es.length,m1.trans m2,aW.cons (m2.fact (jI h0 hn h1)) (kN z1 (Nat.succ_pos _) h2 h3),.sl (by show n<n+1+1;omega) (Nat.lt_succ_self _) trivial (bV _ _ _).symm ?_⟩
  rw [m2.lin (Nat.lt_succ_self n),bV];exact h4
 |.slh sz k,h,n,ρ,_,_,hn,h0,hh,⟨t,es,rfl,h1,h2⟩=>by
  have m1:=bn ρ n es.length
  refine ⟨nZ ρ n es.length,m1,kN h0 hn (by omega) h1,.sl (Nat.lt_succ_of_lt hh) (Nat.lt_succ_self _) trivial (bV _ _ _).symm ?_⟩
  rw [m1.lin hh];exact h2
 |.FY sz k lo hi,h,n,ρ,_,_,hn,h0,hh,⟨t,es,rfl,h1,h2,h3⟩=>by
  have m1:=bn ρ n es.length
  refine ⟨nZ ρ n es.length,m1,kN h0 hn h1 h2,.sl (Nat.lt_succ_of_lt hh) (Nat.lt_succ_self _) trivial (bV _ _ _).symm ?_⟩
  rw [m1.lin hh];exact h3
 |.rc l,h,n,ρ,_,ho,hn,h0,hh,⟨h',xs,rfl,h1,h2⟩=>by
  have m1:=bn ρ n h'
  have hv:Lin.v ⟨n,0⟩ (nZ ρ n h')=h':=bV _ _ _
  obtain ⟨ρ2,m2,f2,g2⟩:=fA l (h:=⟨n,0⟩) (n:=n+1) (ρ:=nZ ρ n h') ho (Nat.succ_pos _) (m1.zero hn h0) (Nat.lt_succ_self _) (by rw [hv];exact h2)
  refine ⟨ρ2,m1.trans m2,aW.cons (m2.fact (jI h0 hn h1)) f2,.agg g2⟩
 |.rcb lo hi l,h,n,ρ,_,ho,hn,h0,hh,⟨h',xs,rfl,h1,h1',h2⟩=>by
  have m1:=bn ρ n h'
  have hv:Lin.v ⟨n,0⟩ (nZ ρ n h')=h':=bV _ _ _
  obtain ⟨ρ2,m2,f2,g2⟩:=fA l (h:=⟨n,0⟩) (n:=n+1) (ρ:=nZ ρ n h') ho (Nat.succ_pos _) (m1.zero hn h0) (Nat.lt_succ_self _) (by rw [hv];exact h2)
  refine ⟨ρ2,m1.trans m2,aW.append (m2.facts (kN h0 hn h1 h1')) f2,.agg g2⟩
 |.rcs _ _,_,_,_,_,ho,_,_,_,_=>by cases ho
 |.kb b,h,n,ρ,x,_,hn,h0,_,hx=>by
  have hx:x=.v (.bool b):=hx
  subst hx
  exact ⟨ρ,.refl _ _,.nil,xM b⟩
 |.ag l,h,n,ρ,_,ho,hn,h0,hh,⟨xs,rfl,h2⟩=>by
  obtain ⟨ρ2,m2,f2,g2⟩:=fA l (h:=h) (n:=n) (ρ:=ρ) ho hn h0 hh h2
  exact ⟨ρ2,m2,f2,.agg g2⟩
 |.tu l,h,n,ρ,_,ho,hn,h0,hh,⟨xs,rfl,h2⟩=>by
  obtain ⟨ρ2,m2,f2,g2⟩:=fA l (h:=h) (n:=n) (ρ:=ρ) ho hn h0 hh h2
  exact ⟨ρ2,m2,f2,.tup g2⟩
 |.x y,h,n,ρ,x,_,hn,h0,_,⟨h1,h2⟩=>by
  subst h1
  exact ⟨ρ,.refl _ _,.nil,.x h2⟩
 |.oi,h,n,ρ,x,_,hn,h0,_,hx=>by
  rcases (hx:x=.ifc∨x=.v .nilIface) with rfl|rfl
  ·exact ⟨ρ,.refl _ _,.nil,.ifc⟩
  ·exact ⟨ρ,.refl _ _,.nil,.CX⟩
 |.p i,h,n,ρ,x,_,hn,h0,_,hx=>by
  have hx:x=.ptr i 0 0:=hx
  subst hx
  exact ⟨ρ,.refl _ _,.nil,.ptr hn (Lin.k_v h0 0).symm⟩
 |.mp i,h,n,ρ,x,_,hn,h0,_,hx=>by
  have hx:x=.mp i:=hx
  subst hx
  exact ⟨ρ,.refl _ _,.nil,.mp⟩
 |.bs i,h,n,ρ,_,_,hn,h0,_,⟨l,rfl,h1⟩=>by
  have m1:=bn ρ n l
  exact ⟨nZ ρ n l,m1,kN h0 hn (by omega) h1,.bs (Nat.succ_pos _) (Nat.lt_succ_self _) (by rw [Lin.k_v (m1.zero hn h0)];rfl) (bV _ _ _).symm⟩
 |.dp l,h,n,ρ,_,ho,hn,h0,hh,⟨xs,rfl,h2⟩=>by
  obtain ⟨ρ2,m2,f2,g2⟩:=fA l (h:=h) (n:=n) (ρ:=ρ) ho hn h0 hh h2
  exact ⟨ρ2,m2,f2,.dp g2⟩
 |.fn f l,h,n,ρ,_,ho,hn,h0,hh,⟨xs,rfl,h2⟩=>by
  obtain ⟨ρ2,m2,f2,g2⟩:=fA l (h:=h) (n:=n) (ρ:=ρ) ho hn h0 hh h2
  exact ⟨ρ2,m2,f2,.fn g2⟩
 |.el k,h,n,ρ,_,_,hn,h0,_,⟨xs,h',rfl,h1,h2⟩=>⟨nZ ρ n h',bn _ _ _,aW.cons (jI h0 hn h1) .nil,.el (Nat.lt_succ_self _) (by rw [bV];exact h2)⟩
theorem fA:∀(l:List Sh) {h:Lin} {n:Nat} {ρ:Rho} {xs:List X},CO l=true→0<n→ρ 0=0→h.s<n→IsL T (h.v ρ) l xs→zpH T ρ n (lI h n l) xs
 |[],h,n,ρ,[],_,_,_,_,_=>⟨ρ,.refl _ _,.nil,.nil⟩
 |t::r,h,n,ρ,x::xs,ho,hn,h0,hh,⟨h1,h2⟩=>by
  have ho:(t.own&&CO r)=true:=ho
  rw [Bool.and_eq_true] at ho
  obtain ⟨ρ1,m1,f1,g1⟩:=Sh.fwd t ho.1 hn h0 hh h1
  have hn':0<(t.bld h n).2.1:=Nat.lt_of_lt_of_le hn m1.le
  obtain ⟨ρ2,m2,f2,g2⟩:=fA r (h:=h) (n:=(t.bld h n).2.1) (ρ:=ρ1) (xs:=xs) ho.2 hn' (m1.zero hn h0) (m1.lt hh) (by rw [m1.lin hh];exact h2)
  exact ⟨ρ2,m1.trans m2,aW.append (m2.facts f1) f2,.cons (g1.more m2) g2⟩
end
theorem fH {l:Lin}{lo hi:Int}(h0:ρ 0=0)(h:aW n ρ (bnd l (some lo) (some hi))):lo≤l.v ρ∧l.v ρ≤hi:=by
 have h1:=aC.1 (h (ak (.k lo) l) (by simp [bnd]))
 have h2:=aC.1 (h (ak l (.k hi)) (by simp [bnd]))
 rw [Lin.k_v h0] at h1 h2
 exact ⟨h1.2.2,h2.2.2⟩
theorem aW.left {F F':List Fact}(h:aW n ρ (F++F')):aW n ρ F:=fun f hf=>h f (List.mem_append_left _ hf)
theorem aW.right {F F':List Fact}(h:aW n ρ (F++F')):aW n ρ F':=fun f hf=>h f (List.mem_append_right _ hf)
theorem aW.tl {f:Fact}{F:List Fact}(h:aW n ρ (f::F)):aW n ρ F:=fun g hg=>h g (List.mem_cons_of_mem _ hg)
theorem jH {l:Lin}{F:List Fact}(h0:ρ 0=0)(h:aW n ρ (ak (.k 0) l::F)):0≤l.v ρ:=by
 have h1:=aC.1 (h _ (List.mem_cons_self ..))
 rw [Lin.k_v h0] at h1
 exact h1.2.2
mutual
theorem Sh.bwd (h0:ρ 0=0):∀(t:Sh) {h:Lin} {k:Nat} {x:X},aW n ρ (t.bld h k).2.2→G T n ρ (t.bld h k).1 x→t.Is T (h.v ρ) x
 |.i k,_,_,_,_,.i (z:=z) _ _=>⟨z,rfl⟩
 |.ir k lo hi,_,_,_,hF,.i (z:=z) h1 h2=>by
  have:=fH h0 hF
  exact ⟨z,rfl,by omega,by omega⟩
 |.k k c,_,_,_,_,.i (z:=z) h1 h2=>by rw [Lin.k_v h0] at h2;subst h2;rfl
 |.b,_,_,_,_,.b (t:=t) _ _=>⟨t,rfl⟩
 |.s,_,_,_,hF,.s (bs:=bs) h1 h2=>by
  have:=fH h0 hF
  exact ⟨bs,rfl,by omega⟩
 |.sr lo hi,_,_,_,hF,.s (bs:=bs) h1 h2=>by
  have:=fH h0 hF
  exact ⟨bs,rfl,by omega,by omega⟩
 |.sl sz k,_,_,_,hF,.sl (tt:=tt) (es:=es) h1 h2 h3 h4 h5=>by
  have a:=jH h0 hF
  have b:=fH h0 hF.tl
  exact ⟨tt,es,_,rfl,a,by omega,h5⟩
 |.slr sz k lo hi,_,_,_,hF,.sl (tt:=tt) (es:=es) h1 h2 h3 h4 h5=>by
  have a:=jH h0 hF
  have b:=fH h0 hF.tl
  exact ⟨tt,es,_,rfl,a,by omega,by omega,h5⟩
 |.slh sz k,_,_,_,hF,.sl (tt:=tt) (es:=es) h1 h2 h3 h4 h5=>by
  have b:=fH h0 hF
  exact ⟨tt,es,rfl,by omega,h5⟩
 |.FY sz k lo hi,_,_,_,hF,.sl (tt:=tt) (es:=es) h1 h2 h3 h4 h5=>by
  have b:=fH h0 hF
  exact ⟨tt,es,rfl,by omega,by omega,h5⟩
 |.rc l,_,_,_,hF,.agg (xs:=xs) g=>⟨_,xs,rfl,jH h0 hF,fP h0 l hF.tl g⟩
 |.rcb lo hi l,_,_,_,hF,.agg (xs:=xs) g=>⟨_,xs,rfl,(fH h0 hF.left).1,(fH h0 hF.left).2,fP h0 l hF.right g⟩
 |.rcs s l,_,_,_,hF,.agg (xs:=xs) g=>⟨_,xs,rfl,fP h0 l hF g⟩
 |.kb b,_,_,x,hF,g=>by
  have g:G T n ρ (cb b) x:=g
  show x=.v (.bool b)
  cases b with
  |true=>
   cases g with
   |b g1 g2=>rename_i t;cases t with
    |true=>rfl
    |false=>exact (Pg (g2 rfl)).elim
  |false=>
   cases g with
   |b g1 g2=>rename_i t;cases t with
    |false=>rfl
    |true=>exact (Pg (g1 rfl)).elim
 |.ag l,_,_,_,hF,.agg (xs:=xs) g=>⟨xs,rfl,fP h0 l hF g⟩
 |.tu l,_,_,_,hF,.tup (xs:=xs) g=>⟨xs,rfl,fP h0 l hF g⟩
 |.x _,_,_,_,hF,.x g=>⟨rfl,g⟩
 |.oi,_,_,_,hF,.ifc=>.inl rfl
 |.oi,_,_,_,hF,.CX=>.inr rfl
 |.p i,_,_,_,hF,.ptr (e':=e') h1 h2=>by
  rw [Lin.k_v h0] at h2
  obtain rfl:e'=0:=by omega
  rfl
 |.mp i,_,_,_,hF,.mp=>rfl
 |.bs i,_,_,_,hF,.bs (o':=o') (l':=l') h1 h2 h3 h4=>by
  rw [Lin.k_v h0] at h3
  obtain rfl:o'=0:=by omega
  have b:=fH h0 hF
  exact ⟨l',rfl,by omega⟩
 |.dp l,_,_,_,hF,.dp (xs:=xs) g=>⟨xs,rfl,fP h0 l hF g⟩
 |.fn f l,_,_,_,hF,.fn (xs:=xs) g=>⟨xs,rfl,fP h0 l hF g⟩
 |.el k,_,_,_,hF,.el (xs:=xs) h1 h2=>⟨xs,_,rfl,jH h0 hF,h2⟩
theorem fP (h0:ρ 0=0):∀(l:List Sh) {h:Lin} {k:Nat} {xs:List X},aW n ρ (lI h k l).2.2→GL T n ρ (lI h k l).1 xs→IsL T (h.v ρ) l xs
 |[],_,_,_,_,.nil=>trivial
 |t::r,h,k,_,hF,.cons g1 g2=>⟨Sh.bwd h0 t hF.left g1,fP h0 r hF.right g2⟩
end
def BSh.Is (T:Tab):BSh→Bx→Prop
 |.var l,x=>∃xs,x=.var xs∧IsL T 0 l xs
 |.rcv l,x=>∃h xs,x=.var xs∧0≤h∧IsL T h l xs
 |.lq lo hi l,x=>∃h xs,x=.var xs∧lo≤h∧h≤hi∧IsL T h l xs
 |.row sz k,x=>∃es h,x=.row sz es∧0≤h∧(es.length:Int)≤dX∧∀e,e∈es→D T h k e
 |.SQ sz k _ _,x=>∃es h,x=.row sz es∧∀e,e∈es→D T h k e
 |.map _,x=>∃es,x=.map es
 |.dead,x=>x=.dead
def BIs (T:Tab):List BSh→List Bx→Prop
 |[],[]=>True
 |t::ts,x::xs=>t.Is T x∧BIs T ts xs
 |_,_=>False
def BSh.own:BSh→Bool
 |.var l=>CO l
 |.rcv l=>CO l
 |.lq _ _ l=>CO l
 |.row _ _=>true
 |.dead=>true
 |_=>false
theorem qo:∀(l:List BSh) {n:Nat} {ρ:Rho} {xs:List Bx},l.all BSh.own=true→0<n→ρ 0=0→BIs T l xs→
  ∃ρ',More n ρ (pO n l).2.1 ρ'∧aW (pO n l).2.1 ρ' (pO n l).2.2∧GBs T (pO n l).2.1 ρ' (pO n l).1 xs
 |[],n,ρ,[],_,_,_,_=>⟨ρ,.refl _ _,.nil,.nil⟩
 |t::r,n,ρ,x::xs,ho,hn,h0,⟨h1,h2⟩=>by
  rw [List.all_cons,Bool.and_eq_true] at ho
  have rest:∀{n':Nat} {ρ1:Rho},More n ρ n' ρ1→∃ρ',More n' ρ1 (pO n' r).2.1 ρ'∧aW (pO n' r).2.1 ρ' (pO n' r).2.2∧GBs T (pO n' r).2.1 ρ' (pO n' r).1 xs:=fun {n'} {ρ1} m1=>
   qo r ho.2 (Nat.lt_of_lt_of_le hn m1.le) (m1.zero hn h0) h2
  match t,ho,h1 with
  |.var l,ho,⟨xs',e,k1⟩=>
   subst e
   obtain ⟨ρ1,m1,f1,g1⟩:=fA l (h:=.k 0) (n:=n) (ρ:=ρ) ho.1 hn h0 hn (by rw [Lin.k_v h0];exact k1)
   obtain ⟨ρ2,m2,f2,g2⟩:=rest m1
   exact ⟨ρ2,m1.trans m2,aW.append (m2.facts f1) f2,.cons (.var (g1.more m2)) g2⟩
  |.rcv l,ho,⟨h',xs',e,hp,k1⟩=>
   subst e
   have m0:=bn ρ n h'
   obtain ⟨ρ1,m1,f1,g1⟩:=fA l (h:=⟨n,0⟩) (n:=n+1) (ρ:=nZ ρ n h') ho.1 (Nat.succ_pos _) (m0.zero hn h0) (Nat.lt_succ_self _) (by rw [bV];exact k1)
   obtain ⟨ρ2,m2,f2,g2⟩:=rest (m0.trans m1)
   exact ⟨ρ2,(m0.trans m1).trans m2,aW.cons ((m1.trans m2).fact (jI h0 hn hp)) (aW.append (m2.facts f1) f2),.cons (.var (g1.more m2)) g2⟩
  |.lq lo hi l,ho,⟨h',xs',e,hp,hp',k1⟩=>
   subst e
   have m0:=bn ρ n h'
   obtain ⟨ρ1,m1,f1,g1⟩:=fA l (h:=⟨n,0⟩) (n:=n+1) (ρ:=nZ ρ n h') ho.1 (Nat.succ_pos _) (m0.zero hn h0) (Nat.lt_succ_self _) (by rw [bV];exact k1)
   obtain ⟨ρ2,m2,f2,g2⟩:=rest (m0.trans m1)
   exact ⟨ρ2,(m0.trans m1).trans m2,aW.append ((m1.trans m2).facts (kN h0 hn hp hp')) (aW.append (m2.facts f1) f2),.cons (.var (g1.more m2)) g2⟩
  |.row sz k,ho,⟨es,h',e,hp,hl,k1⟩=>
   subst e
   have m1:=bn ρ n h'
   have m2:=bn (nZ ρ n h') (n+1) es.length
   obtain ⟨ρ3,m3,f3,g3⟩:=rest (m1.trans m2)
   refine ⟨ρ3,(m1.trans m2).trans m3,aW.cons ((m2.trans m3).fact (jI h0 hn hp)) (aW.append (m3.facts (kN (m1.zero hn h0) (Nat.succ_pos _) (by omega) hl)) f3),.cons ?_ g3⟩
   have g:GB T (n+2) (nZ (nZ ρ n h') (n+1) es.length) (.row sz k ⟨n,0⟩ ⟨n+1,0⟩) (.row sz es):=by
    refine .row (by show n<n+2;omega) (Nat.lt_succ_self _) (bV _ _ _).symm ?_
    rw [m2.lin (Nat.lt_succ_self n),bV];exact k1
   exact GB.more m3 g
  |.dead,ho,e=>
   have e:x=.dead:=e
   subst e
   obtain ⟨ρ2,m2,f2,g2⟩:=rest (.refl n ρ)
   exact ⟨ρ2,m2,f2,.cons .dead g2⟩
  |.SQ _ _ _ _,ho,_=>cases ho.1
  |.map _,ho,_=>cases ho.1
theorem fQ (h0:ρ 0=0):∀(l:List BSh) {k:Nat} {xs:List Bx},aW n ρ (pO k l).2.2→GBs T n ρ (pO k l).1 xs→BIs T l xs
 |[],_,_,_,.nil=>trivial
 |.var l::r,k,_,hF,.cons (.var g1) g2=>⟨⟨_,rfl,by have:=fP h0 l (h:=.k 0) hF.left g1;rw [Lin.k_v h0] at this;exact this⟩,fQ h0 r hF.right g2⟩
 |.rcv l::r,k,_,hF,.cons (.var g1) g2=>⟨⟨_,_,rfl,jH h0 hF,fP h0 l hF.tl.left g1⟩,fQ h0 r hF.tl.right g2⟩
 |.lq lo hi l::r,k,_,hF,.cons (.var g1) g2=>⟨⟨_,_,rfl,(fH h0 hF.left).1,(fH h0 hF.left).2,fP h0 l hF.right.left g1⟩,fQ h0 r hF.right.right g2⟩
 |.row sz kk::r,k,_,hF,.cons (.row (es:=es) h1 h2 h3 h4) g2=>by
  have a:=jH h0 hF
  have b:=fH h0 hF.tl.left
  exact ⟨⟨es,_,rfl,a,by omega,h4⟩,fQ h0 r hF.tl.right g2⟩
 |.SQ sz kk _ _::r,k,_,hF,.cons (.row (es:=es) h1 h2 h3 h4) g2=>⟨⟨es,_,rfl,h4⟩,fQ h0 r hF g2⟩
 |.map _::r,k,_,hF,.cons (.map _) g2=>⟨⟨_,rfl⟩,fQ h0 r hF g2⟩
 |.dead::r,k,_,hF,.cons .dead g2=>⟨rfl,fQ h0 r hF g2⟩
theorem N8 {f:FuncId}{args:List Sh}{inb:List BSh}{mu:Option (Nat×Nat)}{outs:List (Sh×List BSh)}:(mkC f args inb mu outs).outs=outs.map (CP (mkC f args inb mu outs).m):=rfl
theorem Vl {f:FuncId}{args:List Sh}{inb:List BSh}{mu:Option (Nat×Nat)}{outs:List (Sh×List BSh)}{xs:List X}{bx:List Bx}(ho:CO args=true)(hob:inb.all BSh.own=true)(ha:IsL T 0 args xs)(hb:BIs T inb bx):
  ∃ρ,(mkC f args inb mu outs).Sat T ρ xs bx:=by
 obtain ⟨ρ1,m1,f1,g1⟩:=fA args (h:=.k 0) (n:=1) (ρ:=fun _=>(0:Int)) ho (by omega) rfl (by decide) (by rw [show Lin.v (.k 0) (fun _=>(0:Int))=0 from rfl];exact ha)
 have hn1:0<(lI (.k 0) 1 args).2.1:=Nat.lt_of_lt_of_le (by omega) m1.le
 have z1:=m1.zero (by omega) rfl
 obtain ⟨ρ2,m2,f2,g2⟩:=qo inb hob hn1 z1 hb
 exact ⟨ρ2,m2.zero hn1 z1,Nat.lt_of_lt_of_le hn1 m2.le,aW.append (m2.facts f1) f2,⟨[],List.mem_singleton.2 rfl,.nil⟩,g1.more m2,g2⟩
def Says (T:Tab)(Γ:Nat→Gam)(f:FuncId)(xs:List X)(bx:List Bx)(outs:List (Sh×List BSh)):Prop:=
 ∃o,o∈outs∧∃r bx',o.1.Is T 0 r∧BIs T o.2 bx'∧∃B,∀N,B≤N→Γ N (.fn f) xs bx=some (r,bx')
theorem gu {Γ:Nat→Gam}{f:FuncId}{args:List Sh}{inb:List BSh}{mu:Option (Nat×Nat)}{outs:List (Sh×List BSh)}{xs:List X}{bx:List Bx}(hc:(mkC f args inb mu outs).Holds T Γ)(ho:CO args=true)(hob:inb.all BSh.own=true)
  (ha:IsL T 0 args xs) (hb:BIs T inb bx):Says T Γ f xs bx outs:=by
 obtain ⟨ρ,hs⟩:=Vl (f:=f) (mu:=mu) (outs:=outs) ho hob ha hb
 obtain ⟨o,hom,ρ',r,bx',m1,f1,g1,g2,B,hB⟩:=hc ρ xs bx hs
 rw [N8] at hom
 obtain ⟨q,hq,rfl⟩:=List.mem_map.1 hom
 have z:=m1.zero hs.pos hs.zero
 refine ⟨q,hq,r,bx',?_,?_,B,hB⟩
 ·have:=Sh.bwd z q.1 (h:=.k 0) (aW.left f1) g1
  rw [Lin.k_v z] at this;exact this
 ·exact fQ z q.2 (aW.right f1) g2
theorem dA {Γ:Nat→Gam}{f:FuncId}{args:List Sh}{inb:List BSh}{mu:Option (Nat×Nat)}{outs:List (Sh×List BSh)}(ho:∀o,o∈outs→o.1.own=true∧o.2.all BSh.own=true)
  (h:∀xs bx,IsL T 0 args xs→BIs T inb bx→Says T Γ f xs bx outs):(mkC f args inb mu outs).Holds T Γ:=by
 intro ρ xs bx hs
 have ha:IsL T 0 args xs:=by
  have:=fP hs.zero args (h:=.k 0) (aW.left hs.pre) hs.args
  rw [Lin.k_v hs.zero] at this;exact this
 have hb:BIs T inb bx:=fQ hs.zero inb (aW.right hs.pre) hs.inb
 obtain ⟨q,hq,r,bx',h1,h2,B,hB⟩:=h xs bx ha hb
 obtain ⟨w1,w2⟩:=ho q hq
 obtain ⟨ρ1,m1,f1,g1⟩:=Sh.fwd q.1 (h:=.k 0) (n:=(mkC f args inb mu outs).m) (ρ:=ρ) w1 hs.pos hs.zero hs.pos (by rw [Lin.k_v hs.zero];exact h1)
 have hn1:=Nat.lt_of_lt_of_le hs.pos m1.le
 obtain ⟨ρ2,m2,f2,g2⟩:=qo q.2 w2 hn1 (m1.zero hs.pos hs.zero) h2
 exact ⟨_,List.mem_map.2 ⟨q,hq,rfl⟩,ρ2,r,bx',m1.trans m2,aW.append (m2.facts f1) f2,g1.more m2,g2,B,hB⟩
end Go.Ab
namespace Go.Ab
open Go.Em
theorem ah.nil {T:Tab}{Γ:Nat→Gam}:ah T Γ []:=fun c hc=>by cases hc
theorem ah.one {T:Tab}{Γ:Nat→Gam}{c:Ctr}(h:c.Holds T Γ):ah T Γ [c]:=fun d hd=>by
 rw [List.mem_singleton.1 hd];exact h
theorem ah.cons {T:Tab}{Γ:Nat→Gam}{c:Ctr}{L:List Ctr}(h:c.Holds T Γ)(hL:ah T Γ L):ah T Γ (c::L):=fun d hd=>(List.mem_cons.1 hd).elim (fun e=>e▸h) (hL d)
def Vk (ext:Ext)(G:List Ctr):Bool:=G.all fun c=>(ext c.f).isNone
theorem EC {ext:Ext}{G:List Ctr}(h:Vk ext G=true):∀c,c∈G→ext c.f=none:=fun c hc=>by
 have:=List.all_eq_true.1 h c hc
 exact Option.isNone_iff_eq_none.1 this
theorem aA {tab:FuncId→Option Fun}{ext:Ext}{T:Tab}{K:Names}{L G:List Ctr}{orc:Orc}(hL:ah T (callF tab ext) L)(he:Vk ext G=true)(h:G.all (fun c=>Ji tab ⟨T,K,L,[],none,0⟩ orc c)=true):ah T (callF tab ext) G:=fun c hc=>
 ZB (K:=K) (orc:=orc) hL (EC he c hc) (List.all_eq_true.1 h c hc)
theorem OG {tab:FuncId→Option Fun}{ext:Ext}{T:Tab}{K:Names}{L G:List Ctr}{orc:Orc}(hL:ah T (callF tab ext) L)(he:Vk ext G=true)(hm:G.all MO=true)(h:G.all (fun c=>Ji tab ⟨T,K,L,G,c.mu,c.rank⟩ orc c)=true):ah T (callF tab ext) G:=
 QX hL (EC he) hm h
end Go.Ab
namespace Go.Ab
open Go.Em
variable {T:Tab} {n m:Nat} {ρ ρ':Rho}
theorem YJ {Γ:Nat→Gam}{f:FuncId}{args:List Sh}{inb:List BSh}{mu:Option (Nat×Nat)}{outs:List (Sh×List BSh)}{xs:List X}{bx:List Bx}(h0:ρ 0=0)(hp:0<(mkC f args inb mu outs).m)(h:(mkC f args inb mu outs).Res T Γ ρ xs bx):Says T Γ f xs bx outs:=by
 obtain ⟨o,hom,ρ',r,bx',m1,f1,g1,g2,B,hB⟩:=h
 rw [N8] at hom
 obtain ⟨q,hq,rfl⟩:=List.mem_map.1 hom
 have z:=m1.zero hp h0
 refine ⟨q,hq,r,bx',?_,fQ z q.2 (aW.right f1) g2,B,hB⟩
 have:=Sh.bwd z q.1 (h:=.k 0) (aW.left f1) g1
 rw [Lin.k_v z] at this;exact this
theorem YF {Γ:Nat→Gam}{f:FuncId}{args:List Sh}{inb:List BSh}{mu:Option (Nat×Nat)}{outs:List (Sh×List BSh)}{xs:List X}{bx:List Bx}(ho:∀o,o∈outs→o.1.own=true∧o.2.all BSh.own=true)(h0:ρ 0=0)(hp:0<(mkC f args inb mu outs).m)(h:Says T Γ f xs bx outs):(mkC f args inb mu outs).Res T Γ ρ xs bx:=by
 obtain ⟨q,hq,r,bx',h1,h2,B,hB⟩:=h
 obtain ⟨w1,w2⟩:=ho q hq
 obtain ⟨ρ1,m1,f1,g1⟩:=Sh.fwd q.1 (h:=.k 0) (n:=(mkC f args inb mu outs).m) (ρ:=ρ) w1 hp h0 hp (by rw [Lin.k_v h0];exact h1)
 have hn1:=Nat.lt_of_lt_of_le hp m1.le
 obtain ⟨ρ2,m2,f2,g2⟩:=qo q.2 w2 hn1 (m1.zero hp h0) h2
 exact ⟨_,List.mem_map.2 ⟨q,hq,rfl⟩,ρ2,r,bx',m1.trans m2,aW.append (m2.facts f1) f2,g1.more m2,g2,B,hB⟩
abbrev Part:=Ctr×Lin
theorem QW {tab:FuncId→Option Fun}{ext:Ext}{K:Names}{L G:List Ctr}(hL:ah T (callF tab ext) L)(he:Vk ext G=true)(hm:G.all MO=true)
  (h:∀c,c∈G→∀ρ args inb,c.Sat T ρ args inb→∃q:Part,q.1.f=c.f∧(∃orc,Ji tab ⟨T,K,L,G,some q.2,c.rank⟩ orc q.1=true)∧Nat.blt q.2.s q.1.m=true∧∃ρ',q.1.Sat T ρ' args inb∧(∀l,c.mu=some l→q.2.v ρ'≤l.v ρ)∧(q.1.Res T (callF tab ext) ρ' args inb→c.Res T (callF tab ext) ρ args inb)):ah T (callF tab ext) G:=by
 have key:∀(d:Nat),∀c,c∈G→c.Below T (callF tab ext) d:=by
  intro d
  induction d with
  |zero=>intro c hc ρ args inb hs ⟨l,h1,h2,h3⟩;omega
  |succ d ih=>
   intro c hc ρ args inb hs ⟨l,h1,h2,h3⟩
   obtain ⟨q,hqf,⟨orc,ho⟩,hb,ρ',hs',hle,hres⟩:=h c hc ρ args inb hs
   have hv:=hle l h1
   refine hres (MP (x:=⟨T,K,L,G,some q.2,c.rank⟩) (by rw [hqf];exact EC he c hc) ho hs' ⟨hL,fun l' hl'=>?_⟩)
   dsimp only at hl'
   cases hl'
   refine ⟨eF hb,fun c' hc' ρ' args' inb' hs' ⟨l2,k1,k2,k3⟩=>ih c' hc' ρ' args' inb' hs' ⟨l2,k1,k2,by dsimp only at k3;omega⟩⟩
 intro c hc ρ args inb hs
 have hmu:=List.all_eq_true.1 hm c hc
 unfold MO at hmu
 cases h1:c.mu with
 |none=>rw [h1] at hmu;cases hmu
 |some l=>
  rw [h1] at hmu
  rw [Bool.and_eq_true] at hmu
  have h2:=aQ hs.pre hmu.2
  rw [Lin.k_v hs.zero] at h2
  exact key ((16*l.v ρ+c.rank).toNat+1) c hc ρ args inb hs ⟨l,h1,h2,by omega⟩
theorem Ib {tab:FuncId→Option Fun}{ext:Ext}{K:Names}{L G:List Ctr}{c:Ctr}{orc:Orc}{l:Lin}(hl:c.mu=some l)(hb:Nat.blt l.s c.m=true)(h:Ji tab ⟨T,K,L,G,some l,c.rank⟩ orc c=true){args:List X}{inb:List Bx}(hs:c.Sat T ρ args inb):
  ∃q:Part,q.1.f=c.f∧(∃orc,Ji tab ⟨T,K,L,G,some q.2,c.rank⟩ orc q.1=true)∧Nat.blt q.2.s q.1.m=true∧∃ρ',q.1.Sat T ρ' args inb∧(∀l,c.mu=some l→q.2.v ρ'≤l.v ρ)∧(q.1.Res T (callF tab ext) ρ' args inb→c.Res T (callF tab ext) ρ args inb):=
 ⟨(c,l),rfl,⟨orc,h⟩,hb,ρ,hs,fun l' e=>by rw [hl] at e;cases e;exact Int.le_refl _,id⟩
theorem zgB {f:FuncId}{l:List Sh}{inb:List BSh}{mu:Option (Nat×Nat)}{outs:List (Sh×List BSh)}{xs:List X}{bx:List Bx}{h':Int}{i:Nat}(ho:CO l=true)(hob:inb.all BSh.own=true)(hh:0≤h')(ha:IsL T h' l xs)(hb:BIs T inb bx):
  ∃ρ,ρ 1=h'∧(mkC f [.p i,.rc l] inb mu outs).Sat T ρ [.ptr i 0 0,.agg xs] bx:=by
 have m0:=bn (fun _=>(0:Int)) 1 h'
 obtain ⟨ρ1,m1,f1,g1⟩:=fA l (h:=⟨1,0⟩) (n:=2) (ρ:=nZ (fun _=>(0:Int)) 1 h') ho (by omega) (m0.zero (by omega) rfl) (by decide) (by rw [bV];exact ha)
 have z1:=m1.zero (by omega) (m0.zero (by omega) rfl)
 have hn1:0<(lI ⟨1,0⟩ 2 l).2.1:=Nat.lt_of_lt_of_le (by omega) m1.le
 obtain ⟨ρ2,m2,f2,g2⟩:=qo inb hob hn1 z1 hb
 have z2:=m2.zero hn1 z1
 have hlt:1<(lI ⟨1,0⟩ 2 l).2.1:=Nat.lt_of_lt_of_le (by omega) m1.le
 have hm2:=Nat.lt_of_lt_of_le hn1 m2.le
 refine ⟨ρ2,?_,z2,hm2,?_,⟨[],List.mem_singleton.2 rfl,.nil⟩,?_,g2⟩
 ·rw [m2.same 1 hlt,m1.same 1 (by omega)];show nZ (fun _=>(0:Int)) 1 h' 1=h';unfold nZ;rw [if_pos rfl]
 ·refine aW.append ?_ f2
  show aW (pO (lI ⟨1,0⟩ 2 l).2.1 inb).2.1 ρ2 ([]++((ak (.k 0) ⟨1,0⟩::(lI ⟨1,0⟩ 2 l).2.2)++[]))
  rw [List.nil_append,List.append_nil]
  refine aW.cons ?_ (m2.facts f1)
  refine aC.2 ⟨hm2,Nat.lt_of_lt_of_le hlt m2.le,?_⟩
  rw [Lin.k_v z2,m2.lin (show (⟨1,0⟩:Lin).s<_ from hlt),m1.lin (show (⟨1,0⟩:Lin).s<2 by decide),bV];exact hh
 ·exact .cons (.ptr hm2 (Lin.k_v z2 0).symm) (.cons (.agg (g1.more m2)) .nil)
theorem Ctr.Sat.with {c:Ctr}{args:List X}{inb:List Bx}(h:c.Sat T ρ args inb){p:List Fact}(hp:aW c.m ρ p):(c.with [p]).Sat T ρ args inb:=
 ⟨h.zero,h.pos,h.pre,⟨p,List.mem_singleton.2 rfl,hp⟩,h.args,h.inb⟩
end Go.Ab
namespace Go.Ab
open Go.Em
variable {T:Tab} {n m:Nat} {ρ ρ':Rho}
abbrev SL:=Sh×List BSh×List Fact
def zjO (m:Nat)(o:SL):zfM:={CP m (o.1,o.2.1) with F:=o.2.2++(CP m (o.1,o.2.1)).F}
theorem vS {α β:Type}(f:α→β):∀l:List α,(l.map f).zip l=l.map fun x=>(f x,x)
 |[]=>rfl
 |x::r=>by rw [List.map_cons,List.zip_cons_cons,vS f r];rfl
theorem zo {f:FuncId}{args:List Sh}{inb:List BSh}{mu:Option (Nat×Nat)}{outs:List SL}:(dN f args inb mu outs).outs=outs.map (zjO (dN f args inb mu outs).m):=by
 show (((outs.map fun o=>(o.1,o.2.1)).map (CP _)).zip outs).map _=_
 rw [List.map_map,vS,List.map_map]
 rfl
theorem lZ {Γ:Nat→Gam}{f:FuncId}{args:List Sh}{inb:List BSh}{mu:Option (Nat×Nat)}{outs:List SL}{xs:List X}{bx:List Bx}{q:SL}{r:X}(hq:q∈outs)(h0:ρ 0=0)(hp:0<(dN f args inb mu outs).m)(w1:q.1.own=true)(hb:q.2.1=[])(h1:q.1.Is T 0 r)
  (hF:∀n' ρ',More (dN f args inb mu outs).m ρ n' ρ'→ρ' 0=0→G T n' ρ' (q.1.bld (.k 0) (dN f args inb mu outs).m).1 r→n'=(q.1.bld (.k 0) (dN f args inb mu outs).m).2.1→aW n' ρ' q.2.2)
  (h:∃B,∀N,B≤N→Γ N (.fn f) xs bx=some (r,[])):(dN f args inb mu outs).Res T Γ ρ xs bx:=by
 obtain ⟨sh,bs,F⟩:=q
 dsimp only at hb w1 h1 hF
 subst hb
 obtain ⟨B,hB⟩:=h
 obtain ⟨ρ1,m1,f1,g1⟩:=Sh.fwd sh (h:=.k 0) (n:=(dN f args inb mu outs).m) (ρ:=ρ) w1 hp h0 hp (by rw [Lin.k_v h0];exact h1)
 have hf:=hF _ ρ1 m1 (m1.zero hp h0) g1 rfl
 refine ⟨zjO (dN f args inb mu outs).m (sh,[],F),by rw [zo];exact List.mem_map.2 ⟨_,hq,rfl⟩,ρ1,r,[],m1,aW.append hf (aW.append f1 .nil),g1,.nil,B,hB⟩
theorem yV {Γ:Nat→Gam}{f:FuncId}{args:List Sh}{inb:List BSh}{mu:Option (Nat×Nat)}{outs:List SL}{xs:List X}{bx:List Bx}(h0:ρ 0=0)(hp:0<(dN f args inb mu outs).m)(h:(dN f args inb mu outs).Res T Γ ρ xs bx):
  ∃q,q∈outs∧∃n' ρ' r bx',More (dN f args inb mu outs).m ρ n' ρ'∧ρ' 0=0∧aW n' ρ' q.2.2∧G T n' ρ' (q.1.bld (.k 0) (dN f args inb mu outs).m).1 r∧q.1.Is T 0 r∧BIs T q.2.1 bx'∧∃B,∀N,B≤N→Γ N (.fn f) xs bx=some (r,bx'):=by
 obtain ⟨o,hom,ρ',r,bx',m1,f1,g1,g2,B,hB⟩:=h
 rw [zo] at hom
 obtain ⟨q,hq,rfl⟩:=List.mem_map.1 hom
 have z:=m1.zero hp h0
 have f2:aW _ ρ' (CP (dN f args inb mu outs).m (q.1,q.2.1)).F:=aW.right f1
 refine ⟨q,hq,_,ρ',r,bx',m1,z,aW.left f1,g1,?_,fQ z q.2.1 (aW.right f2) g2,B,hB⟩
 have:=Sh.bwd z q.1 (h:=.k 0) (aW.left f2) g1
 rw [Lin.k_v z] at this;exact this
theorem N9 {f:FuncId}{args:List Sh}{inb:List BSh}{mu:Option (Nat×Nat)}{outs:List SL}{xs:List X}{bx:List Bx}(ho:CO args=true)(hob:inb.all BSh.own=true)(ha:IsL T 0 args xs)(hb:BIs T inb bx):
  ∃ρ,(dN f args inb mu outs).Sat T ρ xs bx:=by
 obtain ⟨ρ,hs⟩:=Vl (f:=f) (mu:=mu) (outs:=outs.map fun o=>(o.1,o.2.1)) ho hob ha hb
 exact ⟨ρ,hs.zero,hs.pos,hs.pre,hs.alts,hs.args,hs.inb⟩
end Go.Ab
