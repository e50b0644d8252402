/-.-/
import Derived.RangeFuncLeaves
import Derived.LoopNIn
import Derived.KernelRfl
set_option linter.all false
namespace Go.Em
inductive X where
 |v (x:Value)
 |sl (t:Bool) (sz:Nat) (es:List (List X))
 |bs (i off len:Nat)
 |ptr (i e o:Nat)
 |dp (cs:List X)
 |fn (f:FuncId) (caps:List X)
 |agg (cs:List X)
 |tup (xs:List X)
 |yl (i:Nat)
 |mp (i:Nat)
 |it (i:Nat)
 |ifc
 deriving Inhabited
inductive Opd where
 |t (n:Nat)
 |k (x:X)
 deriving Inhabited
inductive KK where
 |int (k:IntKind)
 |str
 |bool
 deriving Inhabited
inductive I where
 |mov (x:Opd)
 |pick (c a b:Opd)
 |alloc (zero:List X)
 |box (x:Opd)
 |build (zero:List X) (parts:List (Nat×Nat×Opd))
 |bslice (len:Nat) (zero:List X) (parts:List (Nat×Opd))
 |load (n:Option Nat) (a:Opd)
 |store (n:Nat) (a x:Opd)
 |bin (op:BinOp) (x y:Opd)
 |beq (neg:Bool) (x y:Opd)
 |snil (neg:Bool) (x:Opd)
 |un (op:UnOp) (x:Opd)
 |conv (k:IntKind) (x:Opd)
 |idc (x:Opd)
 |s2b (x:Opd)
 |mkfn (f:FuncId) (caps:List Opd)
 |mksl (bytes:Nat) (zero:List X) (len cap:Opd)
 |slice (sz:Nat) (x:Opd) (lo hi mx:Option Opd)
 |sslice (x:Opd) (lo hi:Option Opd)
 |faddr (off:Nat) (a:Opd)
 |field (n:Option Nat) (off:Nat) (x:Opd)
 |iaddr (arr:Option Nat) (sz:Nat) (x i:Opd)
 |aidx (len sz:Nat) (n:Option Nat) (x i:Opd)
 |sidx (x i:Opd)
 |nilck (x:Opd)
 |extract (x:Opd) (i:Nat)
 |len (x:Opd)
 |slen (x:Opd)
 |mm (isMax:Bool) (l:List Opd)
 |app (own:Bool) (sz bytes:Nat) (s x:Opd)
 |call (own ref raw:Bool) (f:Opd) (args:List Opd)
 |mkmap
 |mput (kk:KK) (m k v:Opd)
 |mget (kk:KK) (ok:Bool) (zero:X) (m k:Opd)
 |mlen (m:Opd)
 |mrange (m:Opd)
 |mnext (x:Opd)
 |mentry (x:Opd)
 |copy (sz:Nat) (d s:Opd)
 |mkifc (x:Opd)
 |inil (neg:Bool) (x:Opd)
 |ceq (ks:List Nat) (neg:Bool) (x y:Opd)
 deriving Inhabited
structure Ins where
 dst:Option Nat
 op:I
 g:Option (Nat×Bool)
 deriving Inhabited
inductive Gh where
 |thaw (s:Nat) (o:Option Nat)
 |frz (s:Nat) (o:Option Nat)
 |frzA (s:Nat)
 |frzV (s:Nat)
 deriving Inhabited
inductive C where
 |skip
 |reg (gh:List Gh) (draw:List (Nat×Nat)) (l:List Ins) (live:List Nat)
 |seq (a b:C)
 |cond (c:Opd) (a b:C)
 |block (id:Nat) (b:C)
 |loop (b:C)
 |mloop (t d o:Nat) (live:List Nat) (b:C)
 |rf (f:Opd) (ps:List Nat) (live:List Nat) (assign body:C)
 |exit (id:Nat)
 |ret
 |stuck
 deriving Inhabited
inductive Ex where
 |norm
 |exit (id:Nat)
 |ret
 deriving Inhabited,DecidableEq
inductive Bx where
 |var (cs:List X)
 |row (sz:Nat) (es:List (List X))
 |loop (st:LoopState) (pend:Option Ex) (tm:List (Nat×X)) (ps:List Nat) (assign body:C)
 |map (es:List (Value×X))
 |iter (m s:Nat) (l:List Nat)
 |dead
 deriving Inhabited
structure St where
 tm:List (Nat×X)
 bx:List Bx
 deriving Inhabited
inductive Fv where
 |fn (f:FuncId)
 |yl
 deriving Inhabited
inductive Rv where
 |tmp (t:Nat)
 |cell (t:Nat) (n:Option Nat)
 deriving Inhabited
structure Fun where
 np:Nat
 body:C
 res:List Rv
 deriving Inhabited
abbrev Gam:=Fv->List X->List Bx->Option (X×List Bx)
def undefX:X:=.v (.tuple #[])
def lk:List (Nat×X)->Nat->Option X
 |[],_=>none
 |(k,x)::r,n=>if k==n then some x else lk r n
def keep (live:List Nat)(tm:List (Nat×X)):List (Nat×X):=
 live.filterMap fun k=>(lk tm k).map fun x=>(k,x)
def St.ev (σ:St):Opd->Option X
 |.t n=>lk σ.tm n
 |.k x=>some x
def evs (σ:St):List Opd->Option (List X)
 |[]=>some []
 |o::r=>match σ.ev o with
  |none=>none
  |some x=>(evs σ r).map (x::·)
def X.cells:X->List X
 |.agg cs=>cs
 |x=>[x]
def X.ok1:X->Bool
 |.tup _=>false
 |.v (.tuple _)=>false
 |_=>true
def X.isCell:X->Bool
 |.agg _|.tup _=>false
 |.v (.agg _)|.v (.tuple _)=>false
 |_=>true
mutual
def X.refs:X->List Nat
 |.bs i _ _|.ptr i _ _|.yl i|.mp i|.it i=>[i]
 |.fn _ cs=>refsL cs
 |.agg cs=>refsL cs
 |.tup cs=>refsL cs
 |.v _|.sl _ _ _|.dp _|.ifc=>[]
def refsL:List X->List Nat
 |[]=>[]
 |x::r=>x.refs++refsL r
end
mutual
def X.ren (f:Nat->Nat):X->X
 |.bs i a b=>.bs (f i) a b
 |.ptr i a b=>.ptr (f i) a b
 |.yl i=>.yl (f i)
 |.mp i=>.mp (f i)
 |.it i=>.it (f i)
 |.ifc=>.ifc
 |.fn g cs=>.fn g (renL f cs)
 |.agg cs=>.agg (renL f cs)
 |.tup cs=>.tup (renL f cs)
 |.v x=>.v x
 |.sl t s es=>.sl t s es
 |.dp cs=>.dp cs
def renL (f:Nat->Nat):List X->List X
 |[]=>[]
 |x::r=>x.ren f::renL f r
end
def renT (f:Nat->Nat)(tm:List (Nat×X)):List (Nat×X):=tm.map fun p=>(p.1,p.2.ren f)
def Bx.refs:Bx->List Nat
 |.var cs=>refsL cs
 |.loop _ _ tm _ _ _=>refsL (tm.map (·.2))
 |.row _ _|.map _|.dead=>[]
 |.iter m _ _=>[m]
def Bx.ren (f:Nat->Nat):Bx->Bx
 |.var cs=>.var (renL f cs)
 |.loop st p tm ps a b=>.loop st p (renT f tm) ps a b
 |.row s es=>.row s es
 |.map es=>.map es
 |.iter m s k=>.iter (f m) s k
 |.dead=>.dead
def memN:Nat->List Nat->Bool
 |_,[]=>false
 |n,m::r=>n==m||memN n r
def idxN:Nat->List Nat->Nat
 |_,[]=>0
 |n,m::r=>if n==m then 0 else idxN n r+1
def reach (bx:List Bx):Nat->List Nat->List Nat->List Nat
 |0,_,seen=>seen
 |_+1,[],seen=>seen
 |n+1,i::todo,seen=>
  if memN i seen then reach bx n todo seen
  else match bx[i]? with
   |none=>reach bx n todo seen
   |some b=>reach bx n (todo++b.refs) (seen++[i])
def subN (l s:List Nat):Bool:=l.all fun i=>memN i s
def nodupN:List Nat->Bool
 |[]=>true
 |n::r=>!memN n r&&nodupN r
def getBs (bx:List Bx):List Nat->Option (List Bx)
 |[]=>some []
 |i::r=>match bx[i]? with
  |none=>none
  |some b=>(getBs bx r).map (b::·)
def pickB (bx:List Bx)(sel:List Nat):Option (List Bx):=
 match getBs bx sel with
 |none=>none
 |some l=>if nodupN sel&&l.all (fun b=>subN b.refs sel) then some (l.map (Bx.ren (idxN · sel))) else none
def setBs:List Nat->List Bx->List Bx->List Bx
 |i::r,b::s,bx=>setBs r s (bx.set i b)
 |_,_,bx=>bx
def reachFuel:Nat:=400
def canon (nIn:Nat)(σ:St):Option St:=
 let sel:=reach σ.bx reachFuel (List.range nIn++refsL (σ.tm.map (·.2))) []
 if subN (refsL (σ.tm.map (·.2))) sel&&sel.take nIn==List.range nIn then
  (pickB σ.bx sel).map fun bx=>⟨renT (idxN · sel) σ.tm,bx⟩
 else none
def rowOf (bx:List Bx)(i off len:Nat):Option (Nat×List (List X)):=
 match bx[i]? with
 |some (.row sz es)=>if off+len<=es.length then some (sz,(es.drop off).take len) else none
 |_=>none
mutual
def X.data (bx:List Bx)(raw:Bool):X->Option X
 |.bs i off len=>(rowOf bx i off len).map fun p=>.sl false p.1 p.2
 |.agg cs=>(dataL bx raw cs).map .agg
 |.tup cs=>(dataL bx raw cs).map .tup
 |.ptr i a b=>some (.ptr i a b)
 |.yl i=>some (.yl i)
 |.mp i=>some (.mp i)
 |.it i=>some (.it i)
 |.ifc=>some .ifc
 |.fn g cs=>some (.fn g cs)
 |.v x=>some (.v x)
 |.sl t s es=>some (.sl (raw&&t) s es)
 |.dp cs=>some (.dp cs)
def dataL (bx:List Bx)(raw:Bool):List X->Option (List X)
 |[]=>some []
 |x::r=>match x.data bx raw with
  |none=>none
  |some y=>(dataL bx raw r).map (y::·)
end
mutual
def X.rows:X->List Nat
 |.bs i _ _=>[i]
 |.agg cs=>rowsL cs
 |.tup cs=>rowsL cs
 |_=>[]
def rowsL:List X->List Nat
 |[]=>[]
 |x::r=>x.rows++rowsL r
end
mutual
def X.plain:X->Bool
 |.v _=>true
 |.agg cs=>plainL cs
 |.tup cs=>plainL cs
 |.fn _ cs=>plainL cs
 |_=>false
def plainL:List X->Bool
 |[]=>true
 |x::r=>x.plain&&plainL r
end
mutual
def X.fix (i:Nat)(vs:List X):X->X
 |.ptr j e o=>if j==i&&e==0 then .dp (vs.drop o) else .ptr j e o
 |.agg cs=>.agg (fixL i vs cs)
 |.tup cs=>.tup (fixL i vs cs)
 |.fn g cs=>.fn g (fixL i vs cs)
 |.bs j a b=>.bs j a b
 |.yl j=>.yl j
 |.mp j=>.mp j
 |.it j=>.it j
 |.ifc=>.ifc
 |.v x=>.v x
 |.sl t s l=>.sl t s l
 |.dp cs=>.dp cs
def fixL (i:Nat)(vs:List X):List X->List X
 |[]=>[]
 |x::r=>x.fix i vs::fixL i vs r
end
def fixT (i:Nat)(vs:List X)(tm:List (Nat×X)):List (Nat×X):=tm.map fun p=>(p.1,p.2.fix i vs)
def Bx.fix (i:Nat)(vs:List X):Bx->Bx
 |.var cs=>.var (fixL i vs cs)
 |.loop st p tm ps a b=>.loop st p (fixT i vs tm) ps a b
 |.row s l=>.row s l
 |.map es=>.map es
 |.iter m s k=>.iter m s k
 |.dead=>.dead
mutual
def X.frz (i sz:Nat)(es:List (List X)):X->X
 |.bs j off len=>if j==i then .sl false sz ((es.drop off).take len) else .bs j off len
 |.agg cs=>.agg (frzL i sz es cs)
 |.tup cs=>.tup (frzL i sz es cs)
 |.fn g cs=>.fn g (frzL i sz es cs)
 |.ptr j a b=>.ptr j a b
 |.yl j=>.yl j
 |.mp j=>.mp j
 |.it j=>.it j
 |.ifc=>.ifc
 |.v x=>.v x
 |.sl t s l=>.sl t s l
 |.dp cs=>.dp cs
def frzL (i sz:Nat)(es:List (List X)):List X->List X
 |[]=>[]
 |x::r=>x.frz i sz es::frzL i sz es r
end
def frzT (i sz:Nat)(es:List (List X))(tm:List (Nat×X)):List (Nat×X):=tm.map fun p=>(p.1,p.2.frz i sz es)
def Bx.frz (i sz:Nat)(es:List (List X)):Bx->Bx
 |.var cs=>.var (frzL i sz es cs)
 |.loop st p tm ps a b=>.loop st p (frzT i sz es tm) ps a b
 |.row s l=>.row s l
 |.map es=>.map es
 |.iter m s k=>.iter m s k
 |.dead=>.dead
mutual
def X.within (i n:Nat):X->Bool
 |.bs j off len=>!(j==i)||off+len<=n
 |.agg cs=>withinL i n cs
 |.tup cs=>withinL i n cs
 |.fn _ cs=>withinL i n cs
 |_=>true
def withinL (i n:Nat):List X->Bool
 |[]=>true
 |x::r=>x.within i n&&withinL i n r
end
def Bx.within (i n:Nat):Bx->Bool
 |.var cs=>withinL i n cs
 |.loop _ _ tm _ _ _=>withinL i n (tm.map (·.2))
 |_=>true
def rowOkB (σ:St)(i n:Nat):Bool:=withinL i n (σ.tm.map (·.2))&&σ.bx.all (Bx.within i n)
def freeze (i:Nat)(σ:St):Option St:=
 match σ.bx[i]? with
 |some (.row sz es)=>if rowOkB σ i es.length then some ⟨frzT i sz es σ.tm,(σ.bx.map (Bx.frz i sz es)).set i .dead⟩ else none
 |_=>none
def freezeV (i:Nat)(σ:St):Option St:=
 match σ.bx[i]? with
 |some (.var vs)=>if (refsL vs).isEmpty then some ⟨fixT i vs σ.tm,(σ.bx.map (Bx.fix i vs)).set i .dead⟩ else some σ
 |_=>none
def freezes:List Nat->St->Option St
 |[],σ=>some σ
 |i::r,σ=>match σ.bx[i]? with
  |some (.row _ _)=>(freeze i σ).bind (freezes r)
  |_=>freezes r σ
def loadCs (σ:St):X->Option (List X)
 |.ptr i e o=>match σ.bx[i]? with
  |some (.var cs)=>if e==0 then some (cs.drop o) else none
  |some (.row _ es)=>(es[e]?).map (·.drop o)
  |_=>none
 |.dp cs=>some cs
 |_=>none
def loadX (σ:St)(n:Option Nat)(a:X):Option X:=
 match loadCs σ a with
 |none=>none
 |some cs=>match n with
  |none=>cs.head?
  |some n=>if (cs.take n).length==n then some (.agg (cs.take n)) else none
def splice (cs:List X)(o:Nat)(new:List X):Option (List X):=
 if o+new.length<=cs.length then some (cs.take o++new++cs.drop (o+new.length)) else none
def noRef (x:X):Bool:=x.refs.isEmpty
def storeX (bx:List Bx)(n:Nat)(a x:X):Option (List Bx):=
 if x.ok1&&x.cells.length==n then
  match a with
  |.ptr i e o=>match bx[i]? with
   |some (.var cs)=>if e==0 then (splice cs o x.cells).map fun cs'=>bx.set i (.var cs') else none
   |some (.row sz es)=>match es[e]? with
    |none=>none
    |some cs=>if (refsL x.cells).isEmpty then (splice cs o x.cells).map fun cs'=>bx.set i (.row sz (es.set e cs')) else none
   |_=>none
  |_=>none
 else none
def fillX (zero:List X):List (Nat×Nat×X)->Option (List X)
 |[]=>some zero
 |(off,size,x)::r=>if x.ok1&&x.cells.length==size then match splice zero off x.cells with
  |none=>none
  |some z=>fillX z r else none
def pureOf {α:Type}:Sem α->Option α
 |.pure a=>some a
 |_=>none
def binV (op:BinOp)(x y:Value):Option Value:=
 match x,y with
 |.int _ _,.int _ _=>pureOf (binOp op 0 x y)
 |.string _,.string _=>pureOf (binOp op 0 x y)
 |_,_=>none
def unV (op:UnOp)(x:Value):Option Value:=
 match x with
 |.int _ _=>pureOf (Op.unary op x)
 |.bool _=>pureOf (Op.unary op x)
 |_=>none
def mmV (isMax:Bool):Int->List X->Option Int
 |m,[]=>some m
 |m,.v (.int .i64 y)::r=>mmV isMax (if isMax then (if y>m then y else m) else (if y<m then y else m)) r
 |_,_=>none
def natX:X->Option Nat
 |.v (.int .i64 n)=>if 0<=n then some n.toNat else none
 |_=>none
def idxX:X->Option Nat
 |.v (.int _ n)=>if 0<=n then some n.toNat else none
 |_=>none
def optNat (σ:St)(d:Nat):Option Opd->Option Nat
 |none=>some d
 |some o=>(σ.ev o).bind natX
def roomOk (n bytes:Nat):Bool:=n*bytes<=2^46&&n<2^62
def parts3 (σ:St):List (Nat×Nat×Opd)->Option (List (Nat×Nat×X))
 |[]=>some []
 |(a,b,o)::r=>match σ.ev o with
  |none=>none
  |some x=>(parts3 σ r).map ((a,b,x)::·)
def bsElems (sz:Nat):Nat->List (Nat×X)->Option (List (List X))
 |_,[]=>some []
 |k,(i,x)::r=>if i==k&&x.ok1&&x.cells.length==sz&&(refsL x.cells).isEmpty then (bsElems sz (k+1) r).map (x.cells::·) else none
def parts2 (σ:St):List (Nat×Opd)->Option (List (Nat×X))
 |[]=>some []
 |(a,o)::r=>match σ.ev o with
  |none=>none
  |some x=>(parts2 σ r).map ((a,x)::·)
def srcOf (bx:List Bx):X->Option (Nat×List (List X))
 |.sl _ sz es=>some (sz,es)
 |.bs i off len=>rowOf bx i off len
 |_=>none
structure FP where
 eff:Bool
 rd:List Nat
 wr:List Nat
 deriving Inhabited
def boxesRead:X->List Nat
 |.ptr i _ _=>[i]
 |_=>[]
def callRef (Γ:Gam)(fv:Fv)(args:List X)(bx:List Bx):Option (X×List Bx×List Nat):=
 let sel:=reach bx reachFuel (refsL args) []
 if subN (refsL args) sel then
  match pickB bx sel with
  |none=>none
  |some inb=>match Γ fv (renL (idxN · sel) args) inb with
   |none=>none
   |some (r,outb)=>
    if sel.length<=outb.length then
     let back:=fun j=>if j<sel.length then sel.getD j 0 else bx.length+(j-sel.length)
     let outs:=outb.map (Bx.ren back)
     some (r.ren back,setBs sel outs bx++outs.drop sel.length,sel)
    else none
 else none
def Gam.pureD (Γ:Gam)(g:FuncId)(args:List X):Option X:=
 match Γ (.fn g) args [] with
 |some (x,bx)=>x.data bx false
 |none=>none
def refFP (rows sel:List Nat)(n m:Nat):FP:=⟨true,rows,sel++List.range' n (m-n)⟩
def callX (Γ:Gam)(own ref raw:Bool)(f:X)(args:List X)(bx:List Bx):Option (X×List Bx×FP):=
 match (if ref then some args else dataL bx raw args) with
 |none=>none
 |some as=>match f with
  |.fn g caps=>
   if !own&&!ref&&(refsL (as++caps)).isEmpty then
    match Γ.pureD g (as++caps) with
    |none=>none
    |some y=>if noRef y&&((rowsL args).isEmpty||y.plain) then some (y,bx,⟨false,rowsL args,[]⟩) else none
   else if ref||(rowsL args).isEmpty then
    match callRef Γ (.fn g) (as++caps) bx with
    |none=>none
    |some (x,bx',sel)=>some (x,bx',refFP [] sel bx.length bx'.length)
   else none
  |.yl i=>
   if ref||(rowsL args).isEmpty then
    match callRef Γ .yl (.yl i::as) bx with
    |none=>none
    |some (x,bx',sel)=>some (x,bx',refFP [] sel bx.length bx'.length)
   else none
  |_=>none
def okKey:KK->Value->Bool
 |.int k,.int k' _=>decide (k'=k)
 |.str,.string _=>true
 |.bool,.bool _=>true
 |_,_=>false
def keySame:Value->Value->Option Bool
 |.int k a,.int k' b=>if k=k' then some (a==b) else none
 |.string a,.string b=>some (a==b)
 |.bool a,.bool b=>some (a==b)
 |_,_=>none
def mapFind (k:Value):List (Value×X)->Nat->Option (Option (Nat×X))
 |[],_=>some none
 |e::r,i=>match keySame k e.1 with
  |some true=>some (some (i,e.2))
  |some false=>mapFind k r (i+1)
  |none=>none
def mapPut (k:Value)(x:X)(es:List (Value×X)):Option (List (Value×X)):=
 match mapFind k es 0 with
 |some none=>some (es++[(k,x)])
 |some (some (i,_))=>some (es.set i (k,x))
 |none=>none
def mapGet (ok:Bool)(zero:X)(k:Value)(es:List (Value×X)):Option X:=
 match mapFind k es 0 with
 |some none=>some (if ok then .tup [zero,.v (.bool false)] else zero)
 |some (some (_,x))=>some (if ok then .tup [x,.v (.bool true)] else x)
 |none=>none
def aggEq:List Nat->List X->List X->Option Bool
 |[],[],[]=>some true
 |0::ks,.v (.int k a)::xs,.v (.int k' b)::ys=>if k=k' then (aggEq ks xs ys).map fun r=>(a==b)&&r else none
 |1::ks,.v (.string a)::xs,.v (.string b)::ys=>(aggEq ks xs ys).map fun r=>(a.toList==b.toList)&&r
 |2::ks,.v (.bool a)::xs,.v (.bool b)::ys=>(aggEq ks xs ys).map fun r=>(a==b)&&r
 |_,_,_=>none
def byteRow (s:ByteArray):List (List X):=s.data.toList.map fun b=>[.v (.int .u8 b.toNat)]
def stepI (Γ:Gam)(σ:St):I->Option (X×List Bx×FP)
 |.mov x=>(σ.ev x).map fun v=>(v,σ.bx,⟨false,[],[]⟩)
 |.pick c a b=>match σ.ev c,σ.ev a,σ.ev b with
  |some (.v (.bool t)),some x,some y=>some (if t then x else y,σ.bx,⟨false,[],[]⟩)
  |_,_,_=>none
 |.alloc zero=>some (.ptr σ.bx.length 0 0,σ.bx++[.var zero],⟨true,[],[σ.bx.length]⟩)
 |.box x=>match σ.ev x with
  |none=>none
  |some v=>if v.ok1 then some (.ptr σ.bx.length 0 0,σ.bx++[.var v.cells],⟨true,[],[σ.bx.length]⟩) else none
 |.build zero parts=>match parts3 σ parts with
  |none=>none
  |some ps=>(fillX zero ps).map fun cs=>(.agg cs,σ.bx,⟨false,[],[]⟩)
 |.bslice len zero parts=>match parts2 σ parts with
  |none=>none
  |some ps=>if len==ps.length then (bsElems zero.length 0 ps).map fun es=>(.sl true zero.length es,σ.bx,⟨false,[],[]⟩) else none
 |.load n a=>match σ.ev a with
  |none=>none
  |some p=>(loadX σ n p).map fun x=>(x,σ.bx,⟨false,boxesRead p,[]⟩)
 |.store n a x=>match σ.ev a,σ.ev x with
  |some p,some y=>(storeX σ.bx n p y).map fun bx=>(undefX,bx,⟨true,[],boxesRead p⟩)
  |_,_=>none
 |.bin op x y=>match σ.ev x,σ.ev y with
  |some (.v a),some (.v b)=>(binV op a b).map fun z=>(.v z,σ.bx,⟨false,[],[]⟩)
  |_,_=>none
 |.beq neg x y=>match σ.ev x,σ.ev y with
  |some (.v (.bool a)),some (.v (.bool b))=>some (.v (.bool (if neg then !(a==b) else a==b)),σ.bx,⟨false,[],[]⟩)
  |_,_=>none
 |.ceq ks neg x y=>match σ.ev x,σ.ev y with
  |some (.agg a),some (.agg b)=>(aggEq ks a b).map fun e=>(.v (.bool (if neg then !e else e)),σ.bx,⟨false,[],[]⟩)
  |_,_=>none
 |.snil neg x=>match σ.ev x with
  |some (.bs _ _ (_+1))=>some (.v (.bool neg),σ.bx,⟨false,[],[]⟩)
  |some (.sl _ _ (_::_))=>some (.v (.bool neg),σ.bx,⟨false,[],[]⟩)
  |_=>none
 |.un op x=>match σ.ev x with
  |some (.v a)=>(unV op a).map fun z=>(.v z,σ.bx,⟨false,[],[]⟩)
  |_=>none
 |.conv k x=>match σ.ev x with
  |some (.v (.int _ n))=>some (.v (.int k (k.wrap n)),σ.bx,⟨false,[],[]⟩)
  |_=>none
 |.idc x=>match σ.ev x with
  |some (.v (.string s))=>some (.v (.string s),σ.bx,⟨false,[],[]⟩)
  |_=>none
 |.s2b x=>match σ.ev x with
  |some (.v (.string s))=>some (.sl false 1 (byteRow s),σ.bx,⟨false,[],[]⟩)
  |_=>none
 |.mkfn f caps=>(evs σ caps).map fun cs=>(.fn f cs,σ.bx,⟨false,[],[]⟩)
 |.mksl bytes zero len cap=>match (σ.ev len).bind natX,(σ.ev cap).bind natX with
  |some n,some c=>if n<=c&&roomOk c bytes then
    some (.bs σ.bx.length 0 n,σ.bx++[.row zero.length (List.replicate n zero)],⟨true,[],[σ.bx.length]⟩) else none
  |_,_=>none
 |.slice sz x lo hi mx=>match σ.ev x with
  |some (.sl t s es)=>match optNat σ 0 lo,optNat σ es.length hi with
   |some l,some h=>
    if s==sz&&l<=h&&h<=es.length then
     match mx with
     |none=>some (.sl (t&&h==es.length) s ((es.take h).drop l),σ.bx,⟨false,[],[]⟩)
     |some m=>match (σ.ev m).bind natX with
      |some m=>if h==m then some (.sl true s ((es.take h).drop l),σ.bx,⟨false,[],[]⟩) else none
      |none=>none
    else none
   |_,_=>none
  |some (.bs i off len)=>match optNat σ 0 lo,optNat σ len hi,mx with
   |some l,some h,none=>if l<=h&&h<=len then
     (if l==h then some (.sl false sz [],σ.bx,⟨false,[],[]⟩)
      else match σ.bx[i]? with
      |some (.row s _)=>if s==sz then some (.bs i (off+l) (h-l),σ.bx,⟨false,[i],[]⟩) else none
      |_=>none) else none
   |_,_,_=>none
  |_=>none
 |.sslice x lo hi=>match σ.ev x with
  |some (.v (.string s))=>match optNat σ 0 lo,optNat σ s.size hi with
   |some l,some h=>if l<=h&&h<=s.size then some (.v (.string (s.extract l h)),σ.bx,⟨false,[],[]⟩) else none
   |_,_=>none
  |_=>none
 |.faddr off a=>match σ.ev a with
  |some (.ptr i e o)=>some (.ptr i e (o+off),σ.bx,⟨false,[],[]⟩)
  |some (.dp cs)=>some (.dp (cs.drop off),σ.bx,⟨false,[],[]⟩)
  |_=>none
 |.field n off x=>match σ.ev x with
  |some (.agg cs)=>match n with
   |none=>(cs[off]?).map fun y=>(y,σ.bx,⟨false,[],[]⟩)
   |some n=>if ((cs.drop off).take n).length==n then some (.agg ((cs.drop off).take n),σ.bx,⟨false,[],[]⟩) else none
  |_=>none
 |.iaddr arr sz x i=>match σ.ev x,(σ.ev i).bind idxX with
  |some x,some n=>match arr,x with
   |none,.sl _ s es=>if s==sz then (es[n]?).map fun e=>(.dp e,σ.bx,⟨false,[],[]⟩) else none
   |none,.bs i off len=>match σ.bx[i]? with
    |some (.row s _)=>if s==sz&&n<len then some (.ptr i (off+n) 0,σ.bx,⟨false,[i],[]⟩) else none
    |_=>none
   |some len,.ptr i e o=>if n<len then some (.ptr i e (o+n*sz),σ.bx,⟨false,[],[]⟩) else none
   |some len,.dp cs=>if n<len then some (.dp (cs.drop (n*sz)),σ.bx,⟨false,[],[]⟩) else none
   |_,_=>none
  |_,_=>none
 |.aidx len sz n x i=>match σ.ev x,(σ.ev i).bind idxX with
  |some (.agg cs),some j=>if j<len then (match n with
   |none=>(cs[j*sz]?).map fun y=>(y,σ.bx,⟨false,[],[]⟩)
   |some m=>if ((cs.drop (j*sz)).take m).length==m then some (.agg ((cs.drop (j*sz)).take m),σ.bx,⟨false,[],[]⟩) else none) else none
  |_,_=>none
 |.sidx x i=>match σ.ev x,(σ.ev i).bind idxX with
  |some (.v (.string s)),some n=>match s[n]? with
   |some b=>some (.v (.int .u8 b.toNat),σ.bx,⟨false,[],[]⟩)
   |none=>none
  |_,_=>none
 |.nilck x=>match σ.ev x with
  |some (.ptr i e o)=>some (.ptr i e o,σ.bx,⟨false,[],[]⟩)
  |some (.dp cs)=>some (.dp cs,σ.bx,⟨false,[],[]⟩)
  |some (.fn f cs)=>some (.fn f cs,σ.bx,⟨false,[],[]⟩)
  |some (.yl i)=>some (.yl i,σ.bx,⟨false,[],[]⟩)
  |_=>none
 |.extract x i=>match σ.ev x with
  |some (.tup xs)=>(xs[i]?).map fun y=>(y,σ.bx,⟨false,[],[]⟩)
  |_=>none
 |.len x=>match σ.ev x with
  |some (.sl _ _ es)=>some (.v (.int .i64 (es.length:Int)),σ.bx,⟨false,[],[]⟩)
  |some (.bs _ _ n)=>some (.v (.int .i64 (n:Int)),σ.bx,⟨false,[],[]⟩)
  |_=>none
 |.slen x=>match σ.ev x with
  |some (.v (.string s))=>some (.v (.int .i64 (s.size:Int)),σ.bx,⟨false,[],[]⟩)
  |_=>none
 |.mm isMax l=>match evs σ l with
  |some (.v (.int .i64 m)::r)=>(mmV isMax m r).map fun z=>(.v (.int .i64 z),σ.bx,⟨false,[],[]⟩)
  |_=>none
 |.app own sz bytes s x=>match σ.ev s,σ.ev x with
  |some s,some x=>match srcOf σ.bx x with
   |none=>none
   |some (sz',new)=>if !(sz'==sz) then none else match s with
    |.sl true sz0 es=>
     if sz0==sz&&roomOk (es.length+new.length) bytes then
      (if own then (if new.isEmpty then some (.sl true sz es,σ.bx,⟨true,x.rows,[]⟩) else some (.bs σ.bx.length 0 (es.length+new.length),σ.bx++[.row sz (es++new)],⟨true,x.rows,[σ.bx.length]⟩))
       else some (.sl false sz (es++new),σ.bx,⟨false,x.rows,[]⟩))
     else none
    |.bs i off len=>match σ.bx[i]? with
     |some (.row sz0 es)=>
      if sz0==sz&&off+len==es.length&&roomOk (len+new.length) bytes&&!memN i x.rows then
       some (.bs σ.bx.length 0 (len+new.length),σ.bx.set i .dead++[.row sz (es.drop off++new)],⟨true,x.rows,[i,σ.bx.length]⟩)
      else none
     |_=>none
    |_=>none
  |_,_=>none
 |.call own ref raw f args=>match σ.ev f,evs σ args with
  |some f,some as=>callX Γ own ref raw f as σ.bx
  |_,_=>none
 |.mkmap=>some (.mp σ.bx.length,σ.bx++[.map []],⟨true,[],[σ.bx.length]⟩)
 |.mput kk m k v=>match σ.ev m,σ.ev k,σ.ev v with
  |some (.mp i),some (.v kv),some x=>match σ.bx[i]? with
   |some (.map es)=>if okKey kk kv&&x.ok1&&noRef x then (mapPut kv x es).map fun es'=>(undefX,σ.bx.set i (.map es'),⟨true,[],[i]⟩) else none
   |_=>none
  |_,_,_=>none
 |.mget kk ok zero m k=>match σ.ev m,σ.ev k with
  |some (.mp i),some (.v kv)=>match σ.bx[i]? with
   |some (.map es)=>if okKey kk kv then (mapGet ok zero kv es).map fun x=>(x,σ.bx,⟨false,[i],[]⟩) else none
   |_=>none
  |some (.v (.map none)),some (.v kv)=>if okKey kk kv then (mapGet ok zero kv []).map fun x=>(x,σ.bx,⟨false,[],[]⟩) else none
  |_,_=>none
 |.mlen m=>match σ.ev m with
  |some (.mp i)=>match σ.bx[i]? with
   |some (.map es)=>some (.v (.int .i64 (es.length:Int)),σ.bx,⟨false,[i],[]⟩)
   |_=>none
  |some (.v (.map none))=>some (.v (.int .i64 0),σ.bx,⟨false,[],[]⟩)
  |_=>none
 |.mrange m=>match σ.ev m with
  |some (.mp i)=>match σ.bx[i]? with
   |some (.map es)=>some (.it σ.bx.length,σ.bx++[.iter i es.length []],⟨true,[i],[σ.bx.length]⟩)
   |_=>none
  |_=>none
 |.mnext _=>none
 |.mentry x=>match σ.ev x with
  |some (.it i)=>match σ.bx[i]? with
   |some (.iter m s l)=>match σ.bx[m]? with
    |some (.map es)=>if es.length==s then ((l.getLast?).bind (es[·]?)).map fun e=>(.tup [.v e.1,e.2],σ.bx,⟨false,[i,m],[]⟩) else none
    |_=>none
   |_=>none
  |_=>none
 |.copy sz d s=>match σ.ev d,σ.ev s with
  |some (.bs i off (len+1)),some y=>match σ.bx[i]?,srcOf σ.bx y with
   |some (.row sz0 es),some (sz',new)=>if sz0==sz&&sz'==sz&&off+(len+1)<=es.length then
     some (.v (.int .i64 ((min new.length (len+1):Nat):Int)),σ.bx.set i (.row sz (es.take off++new.take (min new.length (len+1))++es.drop (off+min new.length (len+1)))),⟨true,y.rows,[i]⟩) else none
   |_,_=>none
  |_,_=>none
 |.mkifc x=>(σ.ev x).map fun _=>(.ifc,σ.bx,⟨false,[],[]⟩)
 |.inil neg x=>match σ.ev x with
  |some .ifc=>some (.v (.bool neg),σ.bx,⟨false,[],[]⟩)
  |some (.v .nilIface)=>some (.v (.bool (!neg)),σ.bx,⟨false,[],[]⟩)
  |_=>none
def setD (d:Option Nat)(x:X)(tm:List (Nat×X)):List (Nat×X):=
 match d with
 |none=>tm
 |some d=>(d,x)::tm
def stepGo (Γ:Gam)(i:Ins)(σ:St):Option (St×FP):=
 match stepI Γ σ i.op with
 |none=>none
 |some (x,bx,fp)=>some (⟨setD i.dst x σ.tm,bx⟩,fp)
def stepSkip (i:Ins)(σ:St):Option (St×FP):=some (⟨setD i.dst undefX σ.tm,σ.bx⟩,⟨false,[],[]⟩)
def step (Γ:Gam)(i:Ins)(σ:St):Option (St×FP):=
 match i.g with
 |none=>stepGo Γ i σ
 |some (s,want)=>match lk σ.tm s with
  |some (.v (.bool b))=>if b==want then stepGo Γ i σ else stepSkip i σ
  |some (.v (.tuple _))=>stepSkip i σ
  |_=>none
def steps (Γ:Gam):List Ins->St->Option (St×List FP)
 |[],σ=>some (σ,[])
 |i::r,σ=>match step Γ i σ with
  |none=>none
  |some (σ',fp)=>(steps Γ r σ').map fun q=>(q.1,fp::q.2)
def disj (a b:List Nat):Bool:=a.all fun i=>!memN i b
def fpOk (a b:FP):Bool:=!(a.eff&&b.eff)&&disj a.wr b.rd&&disj b.wr a.rd
def isStore (i:Ins):Bool:=match i.op with
 |.store .. =>true
 |_=>false
def storesOk (i j:Option Ins)(a b:FP):Bool:=match i,j with
 |some i,some j=>isStore i&&isStore j&&disj a.wr b.wr
 |_,_=>false
def pairsOk (l:List Ins)(fps:List FP)(ps:List (Nat×Nat)):Bool:=
 ps.all fun p=>match fps[p.1]?,fps[p.2]? with
  |some a,some b=>fpOk a b||storesOk l[p.1]? l[p.2]? a b
  |_,_=>false
def mvI (i j k:Nat):Nat:=if k<i then k else if k<j then k+1 else if k==j then i else k
def mvB (i j k:Nat):Nat:=if k<i then k else if k==i then j else if k<=j then k-1 else k
def permL {α:Type}(s:Nat->Nat)(l:List α):List α:=match l with
 |[]=>[]
 |a::_=>(List.range l.length).map fun k=>l.getD (s k) a
def badPair (l:List Ins)(fps:List FP)(ps:List (Nat×Nat)):Option (Nat×Nat):=
 ps.find? fun p=>!(match fps[p.1]?,fps[p.2]? with
  |some a,some b=>fpOk a b||storesOk l[p.1]? l[p.2]? a b
  |_,_=>false)
def pairsBut (i j:Nat)(l:List Ins)(fps:List FP)(s:Nat->Nat)(ps:List (Nat×Nat)):Bool:=
 ps.all fun p=>(p.1==i&&p.2==j)||match fps[s p.1]?,fps[s p.2]? with
  |some a,some b=>fpOk a b||storesOk l[p.1]? l[p.2]? a b
  |_,_=>false
def mayMove (i j:Nat)(ps:List (Nat×Nat)):Bool:=(List.range' (i+1) (j-(i+1))).all fun b=>ps.any fun p=>p.1==b&&p.2==j
def twin (Γ:Gam)(nIn:Nat)(l:List Ins)(ps:List (Nat×Nat))(live:List Nat)(σ σ':St)(fps:List FP):Option (St×St):=
 match badPair l fps ps with
 |none=>none
 |some (i,j)=>if decide (i<j/\j<l.length)&&(mayMove i j ps&&pairsBut i j l fps id ps) then match steps Γ (permL (mvB i j) l) σ with
   |none=>none
   |some (τ,fqs)=>if pairsBut i j l fqs (mvI i j) ps then match canon nIn ⟨keep live σ'.tm,σ'.bx⟩,canon nIn ⟨keep live τ.tm,τ.bx⟩ with
    |some a,some b=>some (a,b)
    |_,_=>none
    else none
  else none
noncomputable def vsame:Value->Value->Bool
 |.int k n,.int k' n'=>decide (k=k')&&decide (n=n')
 |.bool a,.bool b=>a==b
 |.string a,.string b=>decide (a=b)
 |a,b=>@decide (a=b) (Classical.propDecidable _)
mutual
noncomputable def X.same:X->X->Bool
 |.v a,.v b=>vsame a b
 |.sl t n es,.sl t' n' es'=>t==t'&&n==n'&&sameL2 es es'
 |.bs a b c,.bs a' b' c'=>a==a'&&b==b'&&c==c'
 |.ptr a b c,.ptr a' b' c'=>a==a'&&b==b'&&c==c'
 |.dp a,.dp b=>sameL a b
 |.agg a,.agg b=>sameL a b
 |.tup a,.tup b=>sameL a b
 |a,b=>@decide (a=b) (Classical.propDecidable _)
noncomputable def sameL:List X->List X->Bool
 |[],[]=>true
 |a::r,b::s=>a.same b&&sameL r s
 |a,b=>@decide (a=b) (Classical.propDecidable _)
noncomputable def sameL2:List (List X)->List (List X)->Bool
 |[],[]=>true
 |a::r,b::s=>sameL a b&&sameL2 r s
 |a,b=>@decide (a=b) (Classical.propDecidable _)
end
noncomputable def Bx.same:Bx->Bx->Bool
 |.var a,.var b=>sameL a b
 |.row n es,.row n' es'=>n==n'&&sameL2 es es'
 |.dead,.dead=>true
 |a,b=>@decide (a=b) (Classical.propDecidable _)
noncomputable def sameB:List Bx->List Bx->Bool
 |[],[]=>true
 |a::r,b::s=>a.same b&&sameB r s
 |_,_=>false
noncomputable def sameT:List (Nat×X)->List (Nat×X)->Bool
 |[],[]=>true
 |a::r,b::s=>a.1==b.1&&a.2.same b.2&&sameT r s
 |_,_=>false
noncomputable def St.same (σ τ:St):Bool:=sameT σ.tm τ.tm&&sameB σ.bx τ.bx
def ghost (σ:St):Gh->Option St
 |.thaw s o=>match o with
  |none=>match lk σ.tm s with
   |some (.sl true sz [])=>some ⟨(s,.bs σ.bx.length 0 0)::σ.tm,σ.bx++[.row sz []]⟩
   |_=>some σ
  |some o=>match lk σ.tm s with
   |some (.ptr i 0 o')=>match σ.bx[i]? with
    |some (.var cs)=>match cs[o'+o]? with
     |some (.sl true sz [])=>some ⟨σ.tm,(σ.bx.set i (.var (cs.set (o'+o) (.bs σ.bx.length 0 0))))++[.row sz []]⟩
     |_=>some σ
    |_=>some σ
   |_=>some σ
 |.frz s o=>match o with
  |none=>match lk σ.tm s with
   |some (.bs i _ _)=>freeze i σ
   |some _=>some σ
   |_=>none
  |some o=>match lk σ.tm s with
   |some (.ptr i 0 o')=>match σ.bx[i]? with
    |some (.var cs)=>match cs[o'+o]? with
     |some (.bs j _ _)=>freeze j σ
     |some _=>some σ
     |_=>none
    |_=>none
   |_=>none
 |.frzA s=>match lk σ.tm s with
  |some (.ptr i _ _)=>match σ.bx[i]? with
   |some (.var cs)=>freezes (rowsL cs) σ
   |_=>some σ
  |some x=>freezes x.rows σ
  |none=>some σ
 |.frzV s=>match lk σ.tm s with
  |some (.ptr i _ _)=>freezeV i σ
  |_=>some σ
def ghosts:List Gh->St->Option St
 |[],σ=>some σ
 |g::r,σ=>match ghost σ g with
  |none=>none
  |some σ'=>ghosts r σ'
def iter (nIn:Nat)(f:St->Option (Ex×St)):Nat->St->Option (Ex×St)
 |0,_=>none
 |n+1,σ=>match canon nIn σ with
  |none=>none
  |some σ=>match f σ with
   |some (.norm,σ')=>iter nIn f n σ'
   |r=>r
def advM (live:List Nat)(d o:Nat)(σ:St)(i m s:Nat)(l:List Nat)(j:Nat)(e:Value×X):St:=
 ⟨keep live (setD (some o) (.v (.bool true)) (setD (some d) (.tup [.v (.bool true),.v e.1,e.2]) σ.tm)),σ.bx.set i (.iter m s (l++[j]))⟩
def finM (t:Nat)(live:List Nat)(d o:Nat)(σ:St):St:=⟨keep (live.filter fun k=>!(k==t)) (setD (some o) (.v (.bool false)) (setD (some d) (.tup [.v (.bool false)]) σ.tm)),σ.bx⟩
def MAll (nIn t d o:Nat)(live:List Nat)(f:St->Option (Ex×St)):Nat->St->Ex×St->Prop
 |0,_,_=>False
 |n+1,σ,r=>∃(σ0:St) (i m s:Nat) (l:List Nat) (es:List (Value×X)),canon nIn σ=some σ0/\lk σ0.tm t=some (.it i)/\σ0.bx[i]?=some (.iter m s l)/\σ0.bx[m]?=some (.map es)/\es.length=s/\
   (∀(j:Nat) (e:Value×X),es[j]?=some e->j∉l->∃q:Ex×St,f (advM live d o σ0 i m s l j e)=some q/\(q.1=.norm->MAll nIn t d o live f n q.2 r)/\(q.1≠.norm->q.1=r.1/\canon nIn q.2=some r.2))/\
   ((∀j,j<s->j∈l)->∃q:Ex×St,f (finM t live d o σ0)=some q/\q.1≠.norm/\q.1=r.1/\canon nIn q.2=some r.2)
def endM (nIn:Nat):Option (Ex×St)->Option (Ex×St)
 |some (.norm,_)=>none
 |some (x,σ)=>(canon nIn σ).map fun τ=>(x,τ)
 |none=>none
def mone (nIn t d o:Nat)(live:List Nat)(f:St->Option (Ex×St)):Nat->St->Option (Ex×St)
 |0,_=>none
 |n+1,σ=>match canon nIn σ with
  |none=>none
  |some σ0=>match lk σ0.tm t with
   |some (.it i)=>match σ0.bx[i]? with
    |some (.iter m s l)=>match σ0.bx[m]? with
     |some (.map es)=>if es.length==s then (match es,l with
      |[],_=>endM nIn (f (finM t live d o σ0))
      |[e],[]=>(match f (advM live d o σ0 i m s [] 0 e) with
       |some (.norm,σ')=>mone nIn t d o live f n σ'
       |q=>endM nIn q)
      |[_],[0]=>endM nIn (f (finM t live d o σ0))
      |_,_=>none) else none
     |_=>none
    |_=>none
   |_=>none
open Classical in
noncomputable def mrun (nIn t d o:Nat)(live:List Nat)(f:St->Option (Ex×St))(n:Nat)(σ:St):Option (Ex×St):=
 if h:∃r,MAll nIn t d o live f n σ r then some h.choose else none
def endRf (i:Nat)(σ:St):Option (Ex×St):=
 match σ.bx[i]? with
 |some (.loop st pend _ _ _ _)=>if st=.busy then none else
  some (match pend with|none=>.norm|some e=>e,⟨σ.tm,σ.bx.set i .dead⟩)
 |_=>none
noncomputable def run (Γ:Gam)(nIn fu:Nat):C->St->Option (Ex×St)
 |.skip,σ=>some (.norm,σ)
 |.reg gh draw l live,σ=>match ghosts gh σ with
  |none=>none
  |some σ=>match steps Γ l σ with
   |none=>none
   |some (σ',fps)=>if pairsOk l fps draw then some (.norm,⟨keep live σ'.tm,σ'.bx⟩) else match twin Γ nIn l draw live σ σ' fps with
    |some (a,b)=>if a.same b then some (.norm,a) else none
    |none=>none
 |.seq a b,σ=>match run Γ nIn fu a σ with
  |some (.norm,σ')=>run Γ nIn fu b σ'
  |r=>r
 |.cond c a b,σ=>match σ.ev c with
  |some (.v (.bool t))=>if t then run Γ nIn fu a σ else run Γ nIn fu b σ
  |_=>none
 |.block id b,σ=>match run Γ nIn fu b σ with
  |some (.exit j,σ')=>if j==id then some (.norm,σ') else some (.exit j,σ')
  |r=>r
 |.loop b,σ=>iter nIn (run Γ nIn fu b) fu σ
 |.mloop t d o live b,σ=>match mone nIn t d o live (run Γ nIn fu b) fu σ with
  |some r=>some r
  |none=>mrun nIn t d o live (run Γ nIn fu b) fu σ
 |.rf f ps live assign body,σ=>match σ.ev f with
  |some (.fn g caps)=>
   let i:=σ.bx.length
   match callRef Γ (.fn g) (.yl i::caps) (σ.bx++[.loop .ready none (keep live σ.tm) ps assign body]) with
   |none=>none
   |some (_,bx,_)=>endRf i ⟨σ.tm,bx⟩
  |_=>none
 |.exit id,σ=>some (.exit id,σ)
 |.ret,σ=>some (.ret,σ)
 |.stuck,_=>none
def resX (σ:St):List Rv->Option (List X)
 |[]=>some []
 |r::rs=>
  match (match r with
   |.tmp t=>lk σ.tm t
   |.cell t n=>(lk σ.tm t).bind (loadX σ n)) with
  |none=>none
  |some x=>(resX σ rs).map (x::·)
def packRes:List X->X
 |[x]=>x
 |xs=>.tup xs
def pack (nIn:Nat)(x:X)(bx:List Bx):Option (X×List Bx):=
 let sel:=reach bx reachFuel (List.range nIn++x.refs) []
 if subN x.refs sel&&sel.take nIn==List.range nIn then
  (pickB bx sel).map fun b=>(x.ren (idxN · sel),b)
 else none
def zipTm:Nat->List X->List (Nat×X)
 |_,[]=>[]
 |n,x::r=>(n,x)::zipTm (n+1) r
abbrev Ext:=FuncId->Option (List X->List Bx->Option (X×List Bx))
noncomputable def runF (Γ:Gam)(fu:Nat)(fd:Fun)(args:List X)(inb:List Bx):Option (X×List Bx):=
 if args.length==fd.np then
  match run Γ inb.length fu fd.body ⟨zipTm 0 args,inb⟩ with
  |some (.norm,σ)|some (.ret,σ)=>(resX σ fd.res).bind fun xs=>pack inb.length (packRes xs) σ.bx
  |_=>none
 else none
def setLoop (bx:List Bx)(i:Nat)(frm st:LoopState)(pend:Option Ex):Option (List Bx):=
 match bx[i]? with
 |some (.loop s _ tm ps a b)=>if s=frm then some (bx.set i (.loop st pend tm ps a b)) else none
 |_=>none
def beginL (bx:List Bx)(i:Nat):Option (List Bx):=
 match bx[i]? with
 |some (.loop .ready none tm ps a b)=>some (bx.set i (.loop .busy none tm ps a b))
 |_=>none
def zipPs:List Nat->List X->List (Nat×X)->Option (List (Nat×X))
 |[],[],tm=>some tm
 |p::ps,x::xs,tm=>zipPs ps xs ((p,x)::tm)
 |_,_,_=>none
noncomputable def runY (Γ:Gam)(fu:Nat)(args:List X)(inb:List Bx):Option (X×List Bx):=
 match args with
 |.yl i::as=>match inb[i]? with
  |some (.loop .ready none tm ps assign body)=>
   match zipPs ps as tm with
   |none=>none
   |some tm=>match run Γ inb.length fu assign ⟨tm,inb⟩ with
    |some (.norm,σ)=>match beginL σ.bx i with
     |none=>none
     |some bx=>match run Γ inb.length fu body ⟨σ.tm,bx⟩ with
      |none=>none
      |some (.norm,σ)=>(setLoop σ.bx i .busy .ready none).bind fun bx=>pack inb.length (.v (.bool true)) bx
      |some (e,σ)=>(setLoop σ.bx i .busy .done (some e)).bind fun bx=>pack inb.length (.v (.bool false)) bx
    |_=>none
  |_=>none
 |_=>none
noncomputable def callF (T:FuncId->Option Fun)(ext:Ext):Nat->Gam
 |0,_,_,_=>none
 |n+1,.fn f,args,inb=>match ext f with
  |some g=>g args inb
  |none=>match T f with
   |some fd=>runF (callF T ext n) n fd args inb
   |none=>none
 |n+1,.yl,args,inb=>runY (callF T ext n) n args inb
def cellX (sz:Nat):Value->Option X
 |.slice none 0 0=>some (.sl true sz [])
 |.bool b=>some (.v (.bool b))
 |.int k n=>some (.v (.int k n))
 |.string s=>some (.v (.string s))
 |.pointer none=>some (.v (.pointer none))
 |.map none=>some (.v (.map none))
 |.nilFunc=>some (.v .nilFunc)
 |.nilIface=>some (.v .nilIface)
 |_=>none
def hd0:List Nat->Nat
 |[]=>0
 |n::_=>n
def cellsX:List Nat->List Value->Option (List X)
 |_,[]=>some []
 |szs,v::r=>match cellX (hd0 szs) v with
  |none=>none
  |some x=>(cellsX szs.tail r).map (x::·)
section
variable (P:Program) (gl:Nat->Option (List X))
def sizeP (t:TypeId):Option Nat:=(P.info? t).map (·.size)
def bytesP (t:TypeId):Option Nat:=(P.info? t).map (·.bytes)
def aggP (t:TypeId):Option (Option Nat):=
 match P.underlying t,sizeP P t with
 |some (.struct _),some n|some (.array ..),some n=>some (some n)
 |some _,some _=>some none
 |_,_=>none
def szsP:Nat->TypeId->List Nat
 |0,_=>[]
 |d+1,t=>match P.underlying t with
  |some (.struct fs)=>fs.toList.flatMap fun f=>szsP d f.type
  |some (.array n e)=>(List.range n).flatMap fun _=>szsP d e
  |some (.slice e)=>[(sizeP P e).getD 0]
  |_=>[0]
def zeroP (t:TypeId):Option (List X):=
 match (P.info? t).bind (·.zero),sizeP P t with
 |some z,some n=>match cellsX (szsP P 20 t) z.cells.toList with
  |some l=>if l.length==n&&0<n then some l else none
  |none=>none
 |_,_=>none
def constX (t:TypeId):Value->Option X
 |.agg cs=>(cellsX (szsP P 20 t) cs.toList).map .agg
 |v=>cellX (hd0 (szsP P 20 t)) v
def trOpd (t:TypeId):Operand->Option Opd
 |.tmp t=>some (.t t)
 |.const v=>(constX P t v).map .k
 |.func f=>some (.k (.fn f []))
 |.global g=>(gl g).map fun cs=>.k (.dp cs)
def trOpds:List TypeId->List Operand->Option (List Opd)
 |_,[]=>some []
 |ts,o::r=>match trOpd P gl (hd0 ts) o with
  |none=>none
  |some x=>(trOpds ts.tail r).map (x::·)
def trOpt:Option Operand->Option (Option Opd)
 |none=>some none
 |some o=>(trOpd P gl 0 o).map some
def trParts3 (place:Nat->Option (Nat×Nat×TypeId)):List (Nat×Operand)->Option (List (Nat×Nat×Opd))
 |[]=>some []
 |(i,o)::r=>match place i with
  |none=>none
  |some (a,b,t)=>match trOpd P gl t o,trParts3 place r with
   |some x,some l=>some ((a,b,x)::l)
   |_,_=>none
def trParts2 (t:TypeId):List (Nat×Operand)->Option (List (Nat×Opd))
 |[]=>some []
 |(i,o)::r=>match trOpd P gl t o,trParts2 t r with
  |some x,some l=>some ((i,x)::l)
  |_,_=>none
def keyP (t:TypeId):Option KK:=match P.underlying t with
 |some (.int k)=>some (.int k)
 |some .string=>some .str
 |some .bool=>some .bool
 |_=>none
def zeroX (e:TypeId):Option X:=match (P.info? e).bind (·.zero),zeroP P e with
 |some (.agg _),some l=>some (.agg l)
 |some _,some [x]=>some x
 |_,_=>none
structure Ann where
 live:Nat->List Nat
 gh:Nat->List Gh
 own:List Nat
 ref:List Nat
 raw:List Nat
 rf:List (Nat×List Nat)
def dstIn (d:Option Nat)(l:List Nat):Bool:=match d with|some d=>memN d l|none=>false
def flatKs (P:Program):Nat->List Field->Option (List Nat)
 |_,[]=>some []
 |i,f::r=>if decide (f.name≠ "_")&&f.offset==i then (match P.underlying f.type with
  |some (.int _)=>(flatKs P (i+1) r).map (0::·)
  |some .string=>(flatKs P (i+1) r).map (1::·)
  |some .bool=>(flatKs P (i+1) r).map (2::·)
  |_=>none) else none
def flatT (P:Program)(t:TypeId):Option (List Nat):=match P.underlying t with
 |some (.struct fs)=>if P.stoodInHeld t||P.eqGuardType P.depth t then none else flatKs P 0 fs.toList
 |_=>none
def isU8 (P:Program)(e:TypeId):Bool:=match P.underlying e with
 |some (.int .u8)=>true
 |_=>false
def trOp (A:Ann)(o:Oper):Option I:=
 match o.op with
 |.move x|.assign x=>(trOpd P gl o.type x).map .mov
 |.pick c a b=>match trOpd P gl 0 c,trOpd P gl o.type a,trOpd P gl o.type b with
  |some c,some a,some b=>some (.pick c a b)
  |_,_,_=>none
 |.alloc e=>(zeroP P e).map .alloc
 |.box t x=>(trOpd P gl t x).map .box
 |.build t parts=>match P.underlying t,zeroP P t with
  |some (.struct fs),some z=>
   if fs.toList.all fun f=>(sizeP P f.type).isSome then
    (trParts3 P gl (fun i=>(fs[i]?).bind fun f=>(sizeP P f.type).map fun n=>(f.offset,n,f.type)) parts.toList).map (.build z)
   else none
  |some (.array _ e),some z=>(sizeP P e).bind fun n=>(trParts3 P gl (fun i=>some (i*n,n,e)) parts.toList).map (.build z)
  |_,_=>none
 |.buildSlice t len parts=>match P.underlying t with
  |some (.slice e)=>match zeroP P e,trParts2 P gl e parts.toList with
   |some z,some ps=>if len*z.length<=2^24 then some (.bslice len z ps) else none
   |_,_=>none
  |_=>none
 |.load t a=>match aggP P t,trOpd P gl 0 a with
  |some n,some a=>some (.load n a)
  |_,_=>none
 |.store t a x=>match sizeP P t,trOpd P gl 0 a,trOpd P gl t x with
  |some n,some a,some x=>some (.store n a x)
  |_,_,_=>none
 |.nilCheck x=>(trOpd P gl 0 x).map .nilck
 |.binOp op t x y _=>match trOpd P gl t x,trOpd P gl t y with
  |some a,some b=>match P.underlying t,op with
   |some .bool,.eql=>some (.beq false a b)
   |some .bool,.neq=>some (.beq true a b)
   |some (.slice _),.eql=>match y with|.const (.slice none 0 0)=>some (.snil false a)|_=>none
   |some (.slice _),.neq=>match y with|.const (.slice none 0 0)=>some (.snil true a)|_=>none
   |some (.interface _),.eql=>match y with|.const .nilIface=>some (.inil false a)|_=>none
   |some (.interface _),.neq=>match y with|.const .nilIface=>some (.inil true a)|_=>none
   |some (.int _),_=>some (.bin op a b)
   |some .string,_=>some (.bin op a b)
   |some (.struct _),.eql=>(flatT P t).map fun ks=>.ceq ks false a b
   |some (.struct _),.neq=>(flatT P t).map fun ks=>.ceq ks true a b
   |_,_=>none
  |_,_=>none
 |.unOp op t x=>(trOpd P gl t x).map (.un op)
 |.convert s d x=>match P.underlying s,P.underlying d,trOpd P gl s x with
  |some (.int _),some (.int k),some a=>some (.conv k a)
  |some .string,some .string,some a=>some (.idc a)
  |some .string,some (.slice e),some a=>if isU8 P e then some (.s2b a) else none
  |_,_,_=>none
 |.makeMap t none=>match P.underlying t with
  |some (.map _ _)=>some .mkmap
  |_=>none
 |.insert t m k v|.mapUpdate t m k v=>match P.underlying t,trOpd P gl 0 m with
  |some (.map kt e),some m=>match trOpd P gl kt k,trOpd P gl e v,keyP P kt with
   |some k,some v,some kk=>some (.mput kk m k v)
   |_,_,_=>none
  |_,_=>none
 |.lookup t m k ok=>match P.underlying t,trOpd P gl t m with
  |some (.map kt e),some m=>match trOpd P gl kt k,zeroX P e,keyP P kt with
   |some k,some z,some kk=>some (.mget kk ok z m k)
   |_,_,_=>none
  |_,_=>none
 |.range t x=>match P.underlying t with
  |some (.map _ _)=>(trOpd P gl t x).map .mrange
  |_=>none
 |.next x false=>(trOpd P gl 0 x).map .mnext
 |.entry x=>(trOpd P gl 0 x).map .mentry
 |.makeInterface t x=>match P.underlying t,trOpd P gl t x with
  |some (.interface _),_=>none
  |some _,some x=>some (.mkifc x)
  |_,_=>none
 |.makeFunc (.func f) first caps=>if first.isEmpty then (trOpds P gl [] caps.toList).map (.mkfn f) else none
 |.makeSlice t l c=>match P.underlying t with
  |some (.slice e)=>match zeroP P e,bytesP P e,trOpd P gl 0 l,trOpd P gl 0 c with
   |some z,some b,some l,some c=>some (.mksl b z l c)
   |_,_,_,_=>none
  |_=>none
 |.slice t x lo hi mx=>match P.underlying t,trOpd P gl t x,trOpt P gl lo,trOpt P gl hi,trOpt P gl mx with
  |some .string,some x,some lo,some hi,some none=>some (.sslice x lo hi)
  |some (.slice e),some x,some lo,some hi,some mx=>if mx.isNone||hi.isSome then (sizeP P e).map fun n=>.slice n x lo hi mx else none
  |_,_,_,_,_=>none
 |.fieldAddr t x f=>match P.underlying t with
  |some (.struct fs)=>match fs[f]?,trOpd P gl 0 x with
   |some f,some x=>match sizeP P f.type with
    |some (_+1)=>some (.faddr f.offset x)
    |_=>none
   |_,_=>none
  |_=>none
 |.field t x f=>match P.underlying t with
  |some (.struct fs)=>match fs[f]?,trOpd P gl t x with
   |some f,some x=>(aggP P f.type).map fun n=>.field n f.offset x
   |_,_=>none
  |_=>none
 |.indexAddr t x i=>match P.underlying t,trOpd P gl t x,trOpd P gl 0 i with
  |some (.slice e),some x,some i=>(sizeP P e).map fun n=>.iaddr none n x i
  |some (.array m e),some x,some i=>(sizeP P e).map fun n=>.iaddr (some m) n x i
  |_,_,_=>none
 |.index t x i=>match P.underlying t,trOpd P gl t x,trOpd P gl 0 i with
  |some (.array m e),some x,some i=>match sizeP P e,aggP P e with
   |some n,some a=>some (.aidx m n a x i)
   |_,_=>none
  |some .string,some x,some i=>some (.sidx x i)
  |_,_,_=>none
 |.extract x i=>(trOpd P gl 0 x).map fun x=>.extract x i
 |.call c=>match trOpds P gl c.argTypes.toList c.args.toList with
  |none=>none
  |some args=>match c.callee with
   |.value f=>(trOpd P gl 0 f).map fun f=>.call (dstIn o.dst A.own) (dstIn o.dst A.ref) (dstIn o.dst A.raw) f args
   |.builtin .len=>match (c.argTypes[0]?).bind P.underlying,args with
    |some (.slice _),[x]=>some (.len x)
    |some .string,[x]=>some (.slen x)
    |some (.map _ _),[x]=>some (.mlen x)
    |_,_=>none
   |.builtin .copy=>match (c.argTypes[0]?).bind P.underlying,args with
    |some (.slice e),[d,s]=>(sizeP P e).map fun n=>.copy n d s
    |_,_=>none
   |.builtin .max=>some (.mm true args)
   |.builtin .min=>some (.mm false args)
   |.builtin .append=>match (c.argTypes[0]?).bind P.underlying,(c.argTypes[1]?).bind P.underlying,args with
    |some (.slice e),some (.slice _),[s,x]=>match sizeP P e,bytesP P e,zeroP P e with
     |some n,some (b+1),some _=>some (.app (dstIn o.dst A.own) n (b+1) s x)
     |_,_,_=>none
    |_,_,_=>none
   |_=>none
 |_=>none
def dstOk (nt:Nat):Option Nat->Bool
 |none=>true
 |some d=>d<nt
def trOper (A:Ann)(nt:Nat)(ops:Array Oper)(o:Oper):Option Ins:=
 if !dstOk nt o.dst then none else
 match trOp P gl A o with
 |none=>none
 |some op=>match o.guard with
  |none=>some ⟨o.dst,op,none⟩
  |some (j,want)=>match (ops[j]?).bind (·.dst) with
   |some s=>some ⟨o.dst,op,some (s,want)⟩
   |none=>none
def trOpers (A:Ann)(nt:Nat)(ops:Array Oper):List Oper->Option (List Ins)
 |[]=>some []
 |o::r=>match trOper P gl A nt ops o with
  |none=>none
  |some i=>(trOpers A nt ops r).map (i::·)
end
def I.opds:I->List Opd
 |.mov x|.box x|.mlen x|.mrange x|.mnext x|.mentry x|.mkifc x|.inil _ x|.un _ x|.conv _ x|.idc x|.s2b x|.sslice x none none|.faddr _ x|.field _ _ x|.nilck x|.extract x _|.len x|.slen x|.load _ x|.snil _ x=>[x]
 |.sslice x lo hi=>x::(lo.toList++hi.toList)
 |.pick c a b|.mput _ c a b=>[c,a,b]
 |.alloc _|.mkmap=>[]
 |.build _ ps=>ps.map (·.2.2)
 |.bslice _ _ ps=>ps.map (·.2)
 |.store _ a x|.bin _ a x|.beq _ a x|.ceq _ _ a x|.mksl _ _ a x|.iaddr _ _ a x|.aidx _ _ _ a x|.sidx a x|.app _ _ _ a x|.mget _ _ _ a x|.copy _ a x=>[a,x]
 |.mkfn _ l|.mm _ l=>l
 |.slice _ x lo hi mx=>x::(lo.toList++hi.toList++mx.toList)
 |.call _ _ _ f l=>f::l
def Ins.slots (i:Ins):List Nat:=
 (i.op.opds.filterMap fun|.t n=>some n|.k _=>none)++(match i.g with|some (s,_)=>[s]|none=>[])
def apart (a b:Ins):Bool:=
 (match a.dst with
  |none=>true
  |some d=>!memN d b.slots&&(match b.dst with|some e=>!(d==e)|none=>true))&&
 (match b.dst with
  |none=>true
  |some d=>!memN d a.slots)
def edged (o:Oper)(i:Nat):Bool:=o.after.toList.any fun e=>Region.binds .any e&&e.on==i
def rowE (rows:List Nat):List Edge->Nat
 |[]=>0
 |e::r=>if Region.binds .any e&&e.on<rows.length then Nat.lor (Nat.lor (Nat.shiftLeft 1 e.on) (rows.getD e.on 0)) (rowE rows r) else rowE rows r
def rowsE:List Nat->List Oper->List Nat
 |rows,[]=>rows
 |rows,o::r=>rowsE (rows++[rowE rows o.after.toList]) r
def freePairs (ops:Array Oper):List (Nat×Nat):=
 (rowsE [] ops.toList).zipIdx.flatMap fun p=>(List.range p.2).filterMap fun i=>if Nat.testBit p.1 i then none else some (i,p.2)
def edgesOk (ops:Array Oper):Bool:=
 [Region.Mode.any,.text,.gc].all fun m=>(Region.linearise m ops 0).length==ops.size
def drawPairs (ops:Array Oper)(l:List Ins):Option (List (Nat×Nat)):=
 let ps:=freePairs ops
 if edgesOk ops&&ps.all (fun p=>match l[p.1]?,l[p.2]? with|some a,some b=>apart a b|_,_=>false) then some ps else none
def mkLoop:Code->C->C
 |.seq (.region _ _ false) _,.seq (.reg [] ps [⟨some d,.mnext (.t t),none⟩,⟨some o,.extract (.t d') 0,none⟩] live) b=>if d'=d then .mloop t d o live b else .loop (.seq (.reg [] ps [⟨some d,.mnext (.t t),none⟩,⟨some o,.extract (.t d') 0,none⟩] live) b)
 |_,m=>.loop m
def trCode (P:Program)(gl:Nat->Option (List X))(A:Ann)(nt:Nat):Code->Option C
 |.skip=>some .skip
 |.region id ops draw=>match trOpers P gl A nt ops ops.toList with
  |none=>some .stuck
  |some l=>if draw then (drawPairs ops l).map fun ps=>.reg (A.gh id) ps l (A.live id) else some (.reg (A.gh id) [] l (A.live id))
 |.seq a b=>match trCode P gl A nt a,trCode P gl A nt b with
  |some a,some b=>some (.seq a b)
  |_,_=>none
 |.cond c a b=>match trOpd P gl 0 c,trCode P gl A nt a,trCode P gl A nt b with
  |some c,some a,some b=>some (.cond c a b)
  |_,_,_=>none
 |.block id b=>(trCode P gl A nt b).map (.block id)
 |.loop b=>(trCode P gl A nt b).map (mkLoop b)
 |.rangeFunc f ps a b=>match trOpd P gl 0 f,trCode P gl A nt a,trCode P gl A nt b with
  |some f,some a,some b=>if !(ps.all fun p=>p<nt) then none else
   let key:=match f with|.t n=>n|.k _=>0
   some (.rf f ps.toList (((A.rf.find? fun p=>p.1==key).map (·.2)).getD []) a b)
  |_,_,_=>none
 |.exit id=>some (.exit id)
 |.ret=>some .ret
 |_=>none
def trRes (P:Program):List ResultVar->Option (List Rv)
 |[]=>some []
 |.tmp t::r=>(trRes P r).map (.tmp t::·)
 |.cell a t::r=>match aggP P t,trRes P r with
  |some n,some l=>some (.cell a n::l)
  |_,_=>none
def trFun (P:Program)(gl:Nat->Option (List X))(A:Ann)(f:FuncId):Option Fun:=
 match P.funcs[f]? with
 |none=>none
 |some fn=>if fn.name== "runtime.NumGoroutine" then none else
  match fn.body.bind (trCode P gl A fn.ntmps),trRes P fn.results.toList with
  |some c,some rs=>if fn.params.size+fn.nfree<=fn.ntmps then some ⟨fn.params.size+fn.nfree,c,rs⟩ else none
  |_,_=>none
end Go.Em
namespace Go.Em
theorem qaE:type_of% @Option.some.injEq:=@Option.some.injEq
theorem qaH:type_of% @Prod.mk.injEq:=@Prod.mk.injEq
theorem qaN:type_of% @List.length_take:=@List.length_take
theorem qaY:type_of% @List.getElem?_eq_some_iff:=@List.getElem?_eq_some_iff
theorem qaZ:type_of% @List.length_append:=@List.length_append
theorem qa1:type_of% @Option.map_eq_some_iff:=@Option.map_eq_some_iff
theorem qa3:type_of% @List.getElem?_eq_getElem:=@List.getElem?_eq_getElem
theorem qa4:type_of% @Bool.and_eq_true:=@Bool.and_eq_true
theorem qa5:type_of% @List.mem_of_getElem?:=@List.mem_of_getElem?
theorem qa6:type_of% @List.getElem?_append_left:=@List.getElem?_append_left
theorem qa7:type_of% @Array.getElem?_eq_getElem:=@Array.getElem?_eq_getElem
theorem qa8:type_of% @List.getElem?_drop:=@List.getElem?_drop
theorem qa9:type_of% @List.length_map:=@List.length_map
theorem qba:type_of% @List.length_drop:=@List.length_drop
theorem qbb:type_of% @List.getElem?_take:=@List.getElem?_take
theorem qbc:type_of% @Bool.false_eq_true:=@Bool.false_eq_true
theorem qbe:type_of% @List.getElem?_map:=@List.getElem?_map
theorem qbf:type_of% @List.getElem?_append_right:=@List.getElem?_append_right
theorem qbg:type_of% @beq_iff_eq:=@beq_iff_eq
theorem qbh:type_of% @List.mem_map:=@List.mem_map
theorem qbi:type_of% @Option.bind_eq_some_iff:=@Option.bind_eq_some_iff
theorem qbj:type_of% @List.append_assoc:=@List.append_assoc
theorem qbk:type_of% @List.getElem_mem:=@List.getElem_mem
theorem qbl:type_of% @List.mem_cons:=@List.mem_cons
theorem qbm:type_of% @List.mem_append:=@List.mem_append
theorem qbn:type_of% @Nat.mul_le_mul_right:=@Nat.mul_le_mul_right
theorem qbo:type_of% @List.all_eq_true:=@List.all_eq_true
theorem qbp:type_of% @List.nil_append:=@List.nil_append
theorem qbq:type_of% @List.length_nil:=@List.length_nil
theorem qbr:type_of% @List.length_cons:=@List.length_cons
theorem qbs:type_of% @Int.ofNat_eq_natCast:=@Int.ofNat_eq_natCast
theorem qbt:type_of% @List.map_cons:=@List.map_cons
theorem qbu:type_of% @decide_eq_true_eq:=@decide_eq_true_eq
theorem qbw:type_of% @Option.map_some:=@Option.map_some
theorem qbx:type_of% @List.eq_nil_of_length_eq_zero:=@List.eq_nil_of_length_eq_zero
theorem qby:type_of% @List.getD_eq_getElem?_getD:=@List.getD_eq_getElem?_getD
theorem qbz:type_of% @Nat.lt_irrefl:=@Nat.lt_irrefl
theorem qbA:type_of% @Array.getElem?_eq_some_iff:=@Array.getElem?_eq_some_iff
theorem qbB:type_of% @List.mem_singleton:=@List.mem_singleton
theorem qbC:type_of% @List.take_succ_eq_append_getElem:=@List.take_succ_eq_append_getElem
theorem qbD:type_of% @Option.map_none:=@Option.map_none
theorem qbE:type_of% @List.mem_cons_self:=@List.mem_cons_self
theorem qbF:type_of% @Nat.lt_succ_self:=@Nat.lt_succ_self
theorem qbG:type_of% @List.mem_cons_of_mem:=@List.mem_cons_of_mem
theorem qbH:type_of% @List.getElem?_eq_none:=@List.getElem?_eq_none
abbrev qbI:=List (List X)
abbrev qbJ:=ByteArray
end Go.Em
