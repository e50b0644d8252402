/-.-/
import Derived.Test.YtonnphbfclaigaaGreatDoorEmP5
set_option linter.all false
namespace Go.Em
variable {fp:FP}{g:FuncId}{Γ:Gam}{i:I}{lo:List (Ex×St)}{bx inb out outb:List Bx}{ps:List Prop}{args as cs:List X}{fu n nIn:Nat}{r:Option (X×List Bx)}{p:Prop}{σ σ' τ τ':St}{f:St->Option (Ex×St)}{y:X}{q:X×List Bx×FP}
inductive Ans where
 |b (t:Bool)
 |i (n:Int)
 |x (y:X)
 |c (y:X) (bx:List Bx) (fp:FP)
 |e (l:List X)
 |p (y:X)
 |app
 |fresh
 |mk
 |o (y:X) (out:List Bx)
 |r (y:X) (out:List Bx)
 |d (as:List X) (y:X)
 |cut
 |cutz
 |at
 |ld (cs:List X)
 |st (cs:List X)
 |g (y:X)
 |pm (es:List (Value×X))
variable {ans:List (Nat×Ans)}
def askP (Γ:Gam)(σ:St)(y:X):I->Option ((X×List Bx×FP)×Prop)
 |.call own ref raw f args=>match σ.ev f,evs σ args with
  |some (.fn g caps),some zs=>match dataL σ.bx raw zs with
   |some as=>if !ref&&(!own&&!ref&&(refsL (as++caps)).isEmpty)&&(noRef y&&((rowsL zs).isEmpty||y.plain)) then some ((y,σ.bx,⟨false,rowsL zs,[]⟩),Γ.pureD g (as++caps)=some y) else none
   |none=>none
  |_,_=>none
 |_=>none
theorem askP_sound (h:askP Γ σ y i=some (q,p))(hp:p):stepI Γ σ i=some q:=by
 unfold askP at h;split at h
 ·rename_i own ref raw f args;split at h;next g caps zs hf ha=>split at h<;>simp_all[stepI,callX]
  grind
 grind
def askD (Γ:Gam)(σ:St)(as:List X)(y:X):I->Option ((X×List Bx×FP)×Prop)
 |.call own ref raw f args=>match σ.ev f,evs σ args with
  |some (.fn g caps),some zs=>if !ref&&(!own&&!ref&&(refsL (as++caps)).isEmpty)&&(noRef y&&((rowsL zs).isEmpty||y.plain)) then some ((y,σ.bx,⟨false,rowsL zs,[]⟩),dataL σ.bx raw zs=some as/\Γ.pureD g (as++caps)=some y) else none
  |_,_=>none
 |_=>none
theorem askD_sound (h:askD Γ σ as y i=some (q,p))(hp:p):stepI Γ σ i=some q:=by
 unfold askD at h;split at h;next own ref raw f args=>split at h<;>simp_all[stepI,callX]
 grind
def askA (σ:St):I->Option ((X×List Bx×FP)×Prop)
 |.app _ sz bytes s z=>match σ.ev s,σ.ev z with
  |some (.bs i off len),some y=>match σ.bx[i]?,srcOf σ.bx y with
   |some (.row sz0 es),some (sz',new)=>if sz'==sz&&sz0==sz then
     some ((.bs σ.bx.length 0 (len+new.length),σ.bx.set i .dead++[.row sz (es.drop off++new)],⟨true,y.rows,[i,σ.bx.length]⟩),off+len=es.length/\roomOk (len+new.length) bytes=true/\memN i y.rows=false) else none
   |_,_=>none
  |_,_=>none
 |_=>none
theorem askA_sound (h:askA σ i=some (q,p))(hp:p):stepI Γ σ i=some q:=by
 unfold askA at h;split at h
 ·rename_i own sz bytes s z;split at h;next i off len y hs hz=>split at h<;>simp_all[stepI]
  grind
 grind
def askF (σ:St):I->Option ((X×List Bx×FP)×Prop)
 |.app own sz bytes s z=>match σ.ev s,σ.ev z with
  |some (.sl true sz0 es),some y=>match srcOf σ.bx y with
   |some (sz',new)=>if sz'==sz&&sz0==sz then
     (if own then some ((.bs σ.bx.length 0 (es.length+new.length),σ.bx++[.row sz (es++new)],⟨true,y.rows,[σ.bx.length]⟩),new.isEmpty=false/\roomOk (es.length+new.length) bytes=true)
      else some ((.sl false sz (es++new),σ.bx,⟨false,y.rows,[]⟩),roomOk (es.length+new.length) bytes=true)) else none
   |_=>none
  |_,_=>none
 |_=>none
theorem askF_sound (h:askF σ i=some (q,p))(hp:p):stepI Γ σ i=some q:=by
 unfold askF at h;split at h
 ·rename_i own sz bytes s z;split at h
  ·rename_i sz0 es y hs hz;split at h
   ·rename_i sz' new hsrc;split at h;next hc=>simp only [qa4] at hc;split at h<;>simp_all[stepI]
    grind
   grind
  grind
 grind
def askM (σ:St):I->Option ((X×List Bx×FP)×Prop)
 |.mksl bytes zero len cap=>match (σ.ev len).bind natX,(σ.ev cap).bind natX with
  |some n,some c=>some ((.bs σ.bx.length 0 n,σ.bx++[.row zero.length (List.replicate n zero)],⟨true,[],[σ.bx.length]⟩),n<=c/\roomOk c bytes=true)
  |_,_=>none
 |_=>none
theorem askM_sound (h:askM σ i=some (q,p))(hp:p):stepI Γ σ i=some q:=by
 unfold askM at h;split at h;·split at h<;>simp_all[stepI]
 grind
mutual
theorem ren_none (f:Nat->Nat):∀(x:X),x.refs=[]->x.ren f=x
 |.bs ..,h=>by grind[X.refs]
 |.ptr ..,h=>by grind[X.refs]
 |.yl ..,h=>by grind[X.refs]
 |.mp ..,h=>by grind[X.refs]
 |.it ..,h=>by grind[X.refs]
 |.ifc,_=>rfl
 |.fn g cs,h=>by simp only [X.ren,renL_none f cs (by grind[X.refs])]
 |.agg cs,h=>by simp only [X.ren,renL_none f cs (by grind[X.refs])]
 |.tup cs,h=>by simp only [X.ren,renL_none f cs (by grind[X.refs])]
 |.v _,_=>rfl
 |.sl ..,_=>rfl
 |.dp _,_=>rfl
theorem renL_none (f:Nat->Nat):∀(cs:List X),refsL cs=[]->renL f cs=cs
 |[],_=>rfl
 |x::r,h=>by simp only [refsL,List.append_eq_nil_iff] at h;simp only [renL,ren_none f x h.1,renL_none f r h.2]
end
theorem callRef_new {r:X}(h0:refsL args=[])(h:Γ (.fn g) args []=some (r,outb)):
  callRef Γ (.fn g) args bx=some (r.ren (fun j=>bx.length+j),bx++outb.map (Bx.ren fun j=>bx.length+j),[]):=by
 have hs:reach bx reachFuel (refsL args) []=[]:=by rw [h0];rfl
 have hp:pickB bx []=some []:=rfl<;>simp_all[callRef,renL_none,subN,setBs]
def askO (Γ:Gam)(σ:St)(y:X)(out:List Bx):I->Option ((X×List Bx×FP)×Prop)
 |.call own ref raw f args=>match σ.ev f,evs σ args with
  |some (.fn g caps),some zs=>match dataL σ.bx raw zs with
   |some as=>if own&&!ref&&(refsL (as++caps)).isEmpty&&(rowsL zs).isEmpty then
     some ((y.ren (fun j=>σ.bx.length+j),σ.bx++out.map (Bx.ren fun j=>σ.bx.length+j),refFP [] [] σ.bx.length (σ.bx++out.map (Bx.ren fun j=>σ.bx.length+j)).length),Γ (.fn g) (as++caps) []=some (y,out)) else none
   |none=>none
  |_,_=>none
 |_=>none
theorem askO_sound (h:askO Γ σ y out i=some (q,p))(hp:p):stepI Γ σ i=some q:=by
 unfold askO at h;split at h
 ·rename_i own ref raw f args;split at h
  ·rename_i g caps zs hf ha;split at h
   ·rename_i as hd;split at h;next hc=>simp only [qaE,qaH] at h;obtain ⟨rfl,rfl⟩:=h;simp only [qa4,Bool.not_eq_true'] at hc;obtain ⟨⟨⟨h1,hr⟩,h2⟩,h3⟩:=hc;subst hr;subst h1;have:=callRef_new (bx:=σ.bx) (List.isEmpty_iff.1 h2) hp<;>simp_all[stepI,callX]
    grind
   grind
  grind
 grind
def callRefA (Γ:Gam)(fv:Fv)(args:List X)(bx:List Bx)(y:X)(outb:List Bx):Option ((X×List Bx×List Nat)×Prop):=
 let sel:=reach bx reachFuel (refsL args) []
 if subN (refsL args) sel then
  match pickB bx sel with
  |none=>none
  |some inb=>
   if sel.length<=outb.length then
    let back:=fun j=>if j<sel.length then sel.getD j 0 else bx.length+(j-sel.length)
    let outs:=outb.map (Bx.ren back)
    some ((y.ren back,setBs sel outs bx++outs.drop sel.length,sel),Γ fv (renL (idxN · sel) args) inb=some (y,outb))
   else none
 else none
theorem callRefA_sound {fv:Fv}{q:X×List Bx×List Nat}(h:callRefA Γ fv args bx y outb=some (q,p))(hp:p):callRef Γ fv args bx=some q:=by
 unfold callRefA at h;unfold callRef
 grind
def askR (Γ:Gam)(σ:St)(y:X)(out:List Bx):I->Option ((X×List Bx×FP)×Prop)
 |.call own ref raw f args=>match σ.ev f,evs σ args with
  |some (.yl i),some zs=>match dataL σ.bx raw zs with
   |some as=>if !ref&&(rowsL zs).isEmpty then
     match callRefA Γ .yl (.yl i::as) σ.bx y out with
     |some ((x,bx',sel),p)=>some ((x,bx',refFP [] sel σ.bx.length bx'.length),p)
     |none=>none
    else none
   |none=>none
  |some (.fn g caps),some zs=>
   if ref then
    match callRefA Γ (.fn g) (zs++caps) σ.bx y out with
    |some ((x,bx',sel),p)=>some ((x,bx',refFP [] sel σ.bx.length bx'.length),p)
    |none=>none
   else match dataL σ.bx raw zs with
   |some as=>if !(!own&&(refsL (as++caps)).isEmpty)&&(rowsL zs).isEmpty then
     match callRefA Γ (.fn g) (as++caps) σ.bx y out with
     |some ((x,bx',sel),p)=>some ((x,bx',refFP [] sel σ.bx.length bx'.length),p)
     |none=>none
    else none
   |none=>none
  |_,_=>none
 |_=>none
theorem askR_sound (h:askR Γ σ y out i=some (q,p))(hp:p):stepI Γ σ i=some q:=by
 unfold askR at h;split at h
 ·rename_i own ref raw f args;split at h
  ·rename_i j zs hf ha;split at h
   ·rename_i as hd;split at h
    ·rename_i hc;simp only [qa4,Bool.not_eq_true'] at hc;obtain ⟨hr,hz⟩:=hc;subst hr;split at h;next x bx' sel p' hcr=>simp only [qaE,qaH] at h;obtain ⟨rfl,rfl⟩:=h;simp only [stepI,hf,ha,callX,qbc,if_false,hd,hz,Bool.or_true,if_true,callRefA_sound hcr hp]
     grind
    grind
   grind
  ·rename_i g caps zs hf ha;split at h
   ·rename_i hr;subst hr;split at h;next x bx' sel p' hcr=>simp only [qaE,qaH] at h;obtain ⟨rfl,rfl⟩:=h;simp only [stepI,hf,ha,callX,if_true,Bool.not_true,Bool.and_false,Bool.false_and,qbc,if_false,Bool.true_or,callRefA_sound hcr hp]
    grind
   rename_i hr;have hr':ref=false:=by simpa using hr
   subst hr';split at h
   ·rename_i as hd;split at h
    ·rename_i hc;simp only [qa4,Bool.not_eq_true'] at hc;obtain ⟨hn,hz⟩:=hc;split at h
     ·rename_i x bx' sel p' hcr;simp only [qaE,qaH] at h;obtain ⟨rfl,rfl⟩:=h;have hn':(!own&&!false&&(refsL (as++caps)).isEmpty)=false:=by simpa using hn
      simp only [stepI,hf,ha,callX,qbc,if_false,hd,hn',hz,Bool.or_true,if_true,callRefA_sound hcr hp]
     grind
    grind
   grind
  grind
 grind
def askC (σ:St):I->Option ((X×List Bx×FP)×Prop)
 |.slice sz x lo hi none=>match σ.ev x with
  |some (.sl t s es)=>match optNat σ 0 lo,optNat σ es.length hi with
   |some l,some h=>if s==sz then some ((.sl (t&&h==es.length) s ((es.take h).drop l),σ.bx,⟨false,[],[]⟩),l<=h/\h<=es.length) else none
   |_,_=>none
  |some (.bs i off len)=>match optNat σ 0 lo,optNat σ len hi with
   |some l,some h=>match σ.bx[i]? with
    |some (.row s _)=>if s==sz then some ((.bs i (off+l) (h-l),σ.bx,⟨false,[i],[]⟩),l<h/\h<=len) else none
    |_=>none
   |_,_=>none
  |_=>none
 |.sslice x lo hi=>match σ.ev x with
  |some (.v (.string s))=>match optNat σ 0 lo,optNat σ s.size hi with
   |some l,some h=>some ((.v (.string (s.extract l h)),σ.bx,⟨false,[],[]⟩),l<=h/\h<=s.size)
   |_,_=>none
  |_=>none
 |_=>none
theorem askC_sound (h:askC σ i=some (q,p))(hp:p):stepI Γ σ i=some q:=by
 unfold askC at h;split at h
 ·rename_i sz x lo hi;split at h;next t s es hx=>split at h<;>simp_all[stepI]
  ·rename_i i off len hx;split at h
   ·rename_i l hh hl hhi;split at h
    ·rename_i s es hb;split at h
     ·rename_i hs;simp only [qaE,qaH] at h;obtain ⟨rfl,rfl⟩:=h
      grind[stepI]
     grind
    grind
   grind
  grind
 ·rename_i x lo hi;split at h;next s hx=>split at h<;>simp_all[stepI]
  grind
 grind
def askZ (σ:St):I->Option ((X×List Bx×FP)×Prop)
 |.slice sz x lo hi none=>match σ.ev x with
  |some (.bs _ _ len)=>match optNat σ 0 lo,optNat σ len hi with
   |some l,some h=>some ((.sl false sz [],σ.bx,⟨false,[],[]⟩),l=h/\h<=len)
   |_,_=>none
  |_=>none
 |_=>none
theorem askZ_sound (h:askZ σ i=some (q,p))(hp:p):stepI Γ σ i=some q:=by
 unfold askZ at h;split at h
 ·split at h;next hx=>split at h<;>simp_all[stepI]
  grind
 grind
def askT (σ:St):I->Option ((X×List Bx×FP)×Prop)
 |.iaddr none sz z j=>match σ.ev z,(σ.ev j).bind idxX with
  |some (.bs i off len),some n=>match σ.bx[i]? with
   |some (.row s _)=>if s==sz then some ((.ptr i (off+n) 0,σ.bx,⟨false,[i],[]⟩),n<len) else none
   |_=>none
  |_,_=>none
 |.iaddr (some len) sz z j=>match σ.ev z,(σ.ev j).bind idxX with
  |some (.ptr i e o),some n=>some ((.ptr i e (o+n*sz),σ.bx,⟨false,[],[]⟩),n<len)
  |some (.dp cs),some n=>some ((.dp (cs.drop (n*sz)),σ.bx,⟨false,[],[]⟩),n<len)
  |_,_=>none
 |.sidx z j=>match σ.ev z,(σ.ev j).bind idxX with
  |some (.v (.string s)),some n=>some ((.v (.int .u8 ((s[n]?).getD 0).toNat),σ.bx,⟨false,[],[]⟩),n<s.size)
  |_,_=>none
 |.bin .add a b=>match σ.ev a,σ.ev b with
  |some (.v (.string s)),some (.v (.string t))=>some ((.v (.string (s++t)),σ.bx,⟨false,[],[]⟩),s.size+t.size<=9223372036854775807)
  |_,_=>none
 |_=>none
theorem askT_sound (h:askT σ i=some (q,p))(hp:p):stepI Γ σ i=some q:=by
 unfold askT at h;split at h
 ·split at h;next hz hj=>split at h<;>simp_all[stepI]
  grind
 ·split at h<;>simp_all[stepI]
 ·split at h;next s n hz hj=>simp only [qaE,qaH] at h;obtain ⟨rfl,rfl⟩:=h<;>simp_all[stepI]
  grind
 ·split at h
  ·rename_i s t ha hb;simp only [qaE,qaH] at h;obtain ⟨rfl,rfl⟩:=h;have hn:¬(((s.size+t.size:Nat):Int)>IntKind.i64.max):=by have:IntKind.i64.max=9223372036854775807:=rfl;omega
   have hv:binV .add (.string s) (.string t)=some (.string (s++t)):=by show pureOf (Op.stringOp .add s t)=_;unfold Op.stringOp;dsimp only;rw [if_neg hn];rfl
   grind[stepI]
  grind
 grind
def askL (σ:St)(cs:List X):I->Option ((X×List Bx×FP)×Prop)
 |.load m a=>match σ.ev a with
  |some (.ptr i e o)=>match σ.bx[i]? with
   |some (.row _ es)=>match (match m with
     |none=>(cs.drop o).head?
     |some m=>if ((cs.drop o).take m).length==m then some (.agg ((cs.drop o).take m)) else none) with
    |some x=>some ((x,σ.bx,⟨false,[i],[]⟩),es[e]?=some cs)
    |none=>none
   |_=>none
  |_=>none
 |_=>none
theorem askL_sound (h:askL σ cs i=some (q,p))(hp:p):stepI Γ σ i=some q:=by
 unfold askL at h;split at h
 ·split at h
  ·rename_i ha;split at h
   ·rename_i hb;split at h
    ·rename_i x hx;simp only [qaE,qaH] at h;obtain ⟨rfl,rfl⟩:=h;rename_i m _ _ _ _ _ _ _ _ _;simp only [stepI,ha,loadX,loadCs,hb,hp,qbw];cases m with
     |none=>dsimp only at hx ⊢;rw [hx];rfl
     |some m=>dsimp only at hx ⊢;rw [hx];rfl
    grind
   grind
  grind
 grind
def askW (σ:St)(cs:List X):I->Option ((X×List Bx×FP)×Prop)
 |.store n a x=>match σ.ev a,σ.ev x with
  |some (.ptr i e o),some y=>match σ.bx[i]? with
   |some (.row sz es)=>if y.ok1&&y.cells.length==n&&(refsL y.cells).isEmpty then
     match splice cs o y.cells with
     |some cs'=>some ((undefX,σ.bx.set i (.row sz (es.set e cs')),⟨true,[],[i]⟩),es[e]?=some cs)
     |none=>none
    else none
   |_=>none
  |_,_=>none
 |_=>none
theorem askW_sound (h:askW σ cs i=some (q,p))(hp:p):stepI Γ σ i=some q:=by
 unfold askW at h;split at h
 ·split at h
  ·rename_i ha hx;split at h
   ·rename_i hb;split at h;next hc=>split at h<;>simp_all[stepI,storeX,boxesRead]
    grind
   grind
  grind
 grind
def askG (σ:St)(y:X):I->Option ((X×List Bx×FP)×Prop)
 |.mget kk ok zero m k=>match σ.ev m,σ.ev k with
  |some (.mp i),some (.v kv)=>match σ.bx[i]? with
   |some (.map es)=>if okKey kk kv then some ((y,σ.bx,⟨false,[i],[]⟩),mapGet ok zero kv es=some y) else none
   |_=>none
  |_,_=>none
 |.mentry z=>match σ.ev z with
  |some (.it i)=>match σ.bx[i]? with
   |some (.iter m s l)=>match σ.bx[m]? with
    |some (.map es)=>some ((y,σ.bx,⟨false,[i,m],[]⟩),es.length=s/\((l.getLast?).bind (es[·]?)).map (fun e=>X.tup [.v e.1,e.2])=some y)
    |_=>none
   |_=>none
  |_=>none
 |_=>none
theorem askG_sound (h:askG σ y i=some (q,p))(hp:p):stepI Γ σ i=some q:=by
 unfold askG at h;split at h
 ·split at h;next hm hk=>split at h<;>simp_all[stepI]
  grind
 ·rename_i z;split at h
  ·rename_i i hz;split at h
   ·rename_i m s l hb;split at h;next es hm=>simp only [qaE,qaH] at h;obtain ⟨rfl,rfl⟩:=h;obtain ⟨h1,h2⟩:=hp;obtain ⟨e,he,rfl⟩:=qa1.1 h2;simp only [stepI,hz,hb,hm,h1,beq_self_eq_true,if_true,he,qbw]
    cases h
   cases h
  cases h
 cases h
def askPM (σ:St)(es':List (Value×X)):I->Option ((X×List Bx×FP)×Prop)
 |.mput kk m k v=>match σ.ev m,σ.ev k,σ.ev v with
  |some (.mp i),some (.v kv),some x=>match σ.bx[i]? with
   |some (.map es)=>if okKey kk kv&&x.ok1&&noRef x then some ((undefX,σ.bx.set i (.map es'),⟨true,[],[i]⟩),mapPut kv x es=some es') else none
   |_=>none
  |_,_,_=>none
 |_=>none
theorem askPM_sound {es':List (Value×X)}(h:askPM σ es' i=some (q,p))(hp:p):stepI Γ σ i=some q:=by
 unfold askPM at h;split at h
 ·split at h;next hm hk hv=>split at h<;>simp_all[stepI]
  grind
 grind
def askI (Γ:Gam)(σ:St)(i:I):Ans->Option ((X×List Bx×FP)×Prop)
 |.b t'=>match stepI Γ σ i with
  |some (.v (.bool t),bx,fp)=>some ((.v (.bool t'),bx,fp),t=t')
  |_=>none
 |.i n'=>match stepI Γ σ i with
  |some (.v (.int k n),bx,fp)=>some ((.v (.int k n'),bx,fp),n=n')
  |_=>none
 |.x y'=>match stepI Γ σ i with
  |some (y,bx,fp)=>some ((y',bx,fp),y=y')
  |none=>none
 |.c y bx fp=>match i with
  |.call own ref raw f args=>match σ.ev f,evs σ args with
   |some f,some as=>some ((y,bx,fp),callX Γ own ref raw f as σ.bx=some (y,bx,fp))
   |_,_=>none
  |_=>none
 |.e l=>match i with
  |.iaddr none sz z j=>match σ.ev z,(σ.ev j).bind idxX with
   |some (.sl _ s es),some n=>if s==sz then some ((.dp l,σ.bx,⟨false,[],[]⟩),es[n]?=some l) else none
   |_,_=>none
  |_=>none
 |.p y=>askP Γ σ y i
 |.d as y=>askD Γ σ as y i
 |.app=>askA σ i
 |.fresh=>askF σ i
 |.mk=>askM σ i
 |.o y out=>askO Γ σ y out i
 |.r y out=>askR Γ σ y out i
 |.cut=>askC σ i
 |.cutz=>askZ σ i
 |.at=>askT σ i
 |.ld cs=>askL σ cs i
 |.st cs=>askW σ cs i
 |.g y=>askG σ y i
 |.pm es=>askPM σ es i
theorem pureD_of {x:X}(h:Γ (.fn g) as []=some (x,bx))(hd:x.data bx false=some y):Γ.pureD g as=some y:=by grind[Gam.pureD]
theorem askI_sound {a:Ans}(h:askI Γ σ i a=some (q,p))(hp:p):stepI Γ σ i=some q:=by
 cases a with
 |p y=>exact askP_sound h hp
 |d as y=>exact askD_sound h hp
 |app=>exact askA_sound h hp
 |fresh=>exact askF_sound h hp
 |mk=>exact askM_sound h hp
 |o y out=>exact askO_sound h hp
 |r y out=>exact askR_sound h hp
 |cut=>exact askC_sound h hp
 |cutz=>exact askZ_sound h hp
 |«at»=>exact askT_sound h hp
 |ld cs=>exact askL_sound h hp
 |st cs=>exact askW_sound h hp
 |g y=>exact askG_sound h hp
 |pm es=>exact askPM_sound h hp
 |b t'=>
  simp only [askI] at h
  grind
 |i n'=>
  simp only [askI] at h
  grind
 |x y'=>
  simp only [askI] at h
  grind
 |c y bx fp=>
  simp only [askI] at h;split at h;·split at h<;>simp_all[stepI]
  grind
 |e l=>
  simp only [askI] at h;split at h;·split at h<;>simp_all[stepI]
  grind
def ansOf:List (Nat×Ans)->Option Nat->Option Ans
 |_,none=>none
 |[],some _=>none
 |(k,a)::r,some d=>if k==d then some a else ansOf r (some d)
def ansKey (i:Ins):Option Nat:=match i.dst with
 |some d=>some d
 |none=>match i.op with
  |.store _ (.t a) _=>some (a+1000000)
  |.mput _ (.t a) _ _=>some (a+1000000)
  |_=>none
def goA (Γ:Gam)(ans:List (Nat×Ans))(i:Ins)(σ:St):Option (St×FP×List Prop):=
 match ansOf ans (ansKey i) with
 |none=>match stepGo Γ i σ with
  |none=>none
  |some (σ',fp)=>some (σ',fp,[])
 |some a=>match askI Γ σ i.op a with
  |none=>none
  |some ((y,bx,fp),p)=>some (⟨setD i.dst y σ.tm,bx⟩,fp,[p])
def allP:List Prop->Prop
 |[]=>True
 |p::r=>p/\allP r
theorem allP_append:∀{l m:List Prop},allP (l++m)↔allP l/\allP m
 |[],m=>by simp [allP]
 |p::r,m=>by simp [allP,allP_append (l:=r),and_assoc]
theorem goA_sound {i:Ins}(h:goA Γ ans i σ=some (σ',fp,ps))(hp:allP ps):stepGo Γ i σ=some (σ',fp):=by
 unfold goA at h;split at h
 ·grind
 split at h
 ·grind
 rename_i hs;simp only [qaE,qaH] at h;obtain ⟨rfl,rfl,rfl⟩:=h;simp only [stepGo,askI_sound hs hp.1]
def stepA (Γ:Gam)(ans:List (Nat×Ans))(i:Ins)(σ:St):Option (St×FP×List Prop):=
 match i.g with
 |none=>goA Γ ans i σ
 |some (s,want)=>match lk σ.tm s with
  |some (.v (.bool b))=>if b==want then goA Γ ans i σ else some (⟨setD i.dst undefX σ.tm,σ.bx⟩,⟨false,[],[]⟩,[])
  |some (.v (.tuple _))=>some (⟨setD i.dst undefX σ.tm,σ.bx⟩,⟨false,[],[]⟩,[])
  |_=>none
theorem stepA_sound {i:Ins}(h:stepA Γ ans i σ=some (σ',fp,ps))(hp:allP ps):step Γ i σ=some (σ',fp):=by
 unfold stepA at h;unfold step;split at h
 ·grind[goA_sound]
 rename_i s want hg;rw [hg];dsimp only;split at h
 ·rename_i b hb;rw [hb];dsimp only;by_cases hw:(b==want)=true;·rw [if_pos hw] at h ⊢;grind[goA_sound]
  rw [if_neg hw] at h ⊢;simp only [qaE,qaH] at h;obtain ⟨rfl,rfl,_⟩:=h;rfl
 next t hb=>rw [hb];simp only [qaE,qaH] at h;obtain ⟨rfl,rfl,_⟩:=h;rfl
 grind
def stepsA (Γ:Gam)(ans:List (Nat×Ans)):List Ins->St->Option (St×List FP×List Prop)
 |[],σ=>some (σ,[],[])
 |i::r,σ=>match stepA Γ ans i σ with
  |none=>none
  |some (σ',fp,ps)=>match stepsA Γ ans r σ' with
   |none=>none
   |some (σ'',fps,qs)=>some (σ'',fp::fps,ps++qs)
theorem stepsA_sound {Γ:Gam}{ans:List (Nat×Ans)}:∀{l:List Ins} {σ σ':St} {fps:List FP} {ps:List Prop},stepsA Γ ans l σ=some (σ',fps,ps)->allP ps->steps Γ l σ=some (σ',fps)
 |[],σ,σ',fps,ps,h,_=>by simp only [stepsA,qaE,qaH] at h;obtain ⟨rfl,rfl,_⟩:=h;rfl
 |i::r,σ,σ',fps,ps,h,hp=>by
  simp only [stepsA] at h;split at h
  ·grind
  rename_i σ1 fp ps1 h1;split at h
  ·grind
  rename_i σ2 fps2 qs h2;simp only [qaE,qaH] at h;obtain ⟨rfl,rfl,rfl⟩:=h;obtain ⟨hp1,hp2⟩:=allP_append.1 hp;simp only [steps,stepA_sound h1 hp1,stepsA_sound h2 hp2,qbw]
mutual
def X.ends (i:Nat):X->List Nat
 |.bs j off len=>if j==i then [off+len] else []
 |.agg cs=>endsL i cs
 |.tup cs=>endsL i cs
 |.fn _ cs=>endsL i cs
 |_=>[]
def endsL (i:Nat):List X->List Nat
 |[]=>[]
 |x::r=>x.ends i++endsL i r
end
def Bx.ends (i:Nat):Bx->List Nat
 |.var cs=>endsL i cs
 |.loop _ _ tm _ _ _=>endsL i (tm.map (·.2))
 |_=>[]
def bxEnds (i:Nat):List Bx->List Nat
 |[]=>[]
 |b::r=>b.ends i++bxEnds i r
mutual
theorem within_ends {i n:Nat}:∀(x:X),(∀e,e∈x.ends i->e<=n)->x.within i n=true
 |.bs j off len,h=>by simp only [X.within,Bool.or_eq_true,Bool.not_eq_true',qbu];cases hj:(j==i)<;>simp_all[X.ends]
 |.agg cs,h=>by simp only [X.within];exact withinL_ends cs (by grind[X.ends])
 |.tup cs,h=>by simp only [X.within];exact withinL_ends cs (by grind[X.ends])
 |.fn _ cs,h=>by simp only [X.within];exact withinL_ends cs (by grind[X.ends])
 |.ptr ..,_=>rfl
 |.yl _,_=>rfl
 |.mp _,_=>rfl
 |.it _,_=>rfl
 |.ifc,_=>rfl
 |.v _,_=>rfl
 |.sl ..,_=>rfl
 |.dp _,_=>rfl
theorem withinL_ends {i n:Nat}:∀(cs:List X),(∀e,e∈endsL i cs->e<=n)->withinL i n cs=true
 |[],_=>rfl
 |x::r,h=>by simp only [withinL,qa4];exact ⟨within_ends x fun e he=>h e (by grind[endsL]),withinL_ends r fun e he=>h e (by grind[endsL])⟩
end
theorem bx_ends {i n:Nat}:∀(bx:List Bx),(∀e,e∈bxEnds i bx->e<=n)->bx.all (Bx.within i n)=true
 |[],_=>rfl
 |b::r,h=>by
  simp only [List.all_cons,qa4];refine ⟨?_,bx_ends r fun e he=>h e (by grind[bxEnds])⟩;have hb:∀e,e∈b.ends i->e<=n:=fun e he=>h e (by grind[bxEnds]);cases b with
  |var cs=>exact withinL_ends cs hb
  |loop st p tm ps a c=>exact withinL_ends _ hb
  |row=>rfl
  |map=>rfl
  |iter=>rfl
  |dead=>rfl
def leAll (n:Nat):List Nat->List Prop
 |[]=>[]
 |e::r=>(e<=n)::leAll n r
theorem leAll_iff {n:Nat}:∀{l:List Nat},allP (leAll n l)->∀e,e∈l->e<=n
 |[],_,e,he=>by grind
 |a::r,h,e,he=>by
  rcases qbl.1 he with rfl|he;·exact h.1
  exact leAll_iff h.2 e he
def freezeA (i:Nat)(σ:St):Option (St×List Prop):=
 match σ.bx[i]? with
 |some (.row sz es)=>some (⟨frzT i sz es σ.tm,(σ.bx.map (Bx.frz i sz es)).set i .dead⟩,leAll es.length (endsL i (σ.tm.map (·.2))++bxEnds i σ.bx))
 |_=>none
theorem freezeA_sound {i:Nat}(h:freezeA i σ=some (σ',ps))(hp:allP ps):freeze i σ=some σ':=by
 unfold freezeA at h;unfold freeze;split at h;next sz es hb=>simp only [qaE,qaH] at h;obtain ⟨rfl,rfl⟩:=h;have h1:=leAll_iff hp<;>simp_all[rowOkB,withinL_ends,bx_ends]
 grind
def freezesA:List Nat->St->Option (St×List Prop)
 |[],σ=>some (σ,[])
 |i::r,σ=>match σ.bx[i]? with
  |some (.row _ _)=>match freezeA i σ with
   |some (σ',ps)=>match freezesA r σ' with
    |some (σ'',qs)=>some (σ'',ps++qs)
    |none=>none
   |none=>none
  |_=>freezesA r σ
theorem freezesA_sound:∀{l:List Nat} {σ σ':St} {ps:List Prop},freezesA l σ=some (σ',ps)->allP ps->freezes l σ=some σ'
 |[],σ,σ',ps,h,_=>by simp only [freezesA,qaE,qaH] at h;obtain ⟨rfl,_⟩:=h;rfl
 |i::r,σ,σ',ps,h,hp=>by
  simp only [freezesA] at h;simp only [freezes];split at h
  ·rename_i hb;split at h
   ·rename_i σ1 ps1 h1;split at h;next σ2 qs h2=>simp only [qaE,qaH] at h;obtain ⟨rfl,rfl⟩:=h;obtain ⟨p1,p2⟩:=allP_append.1 hp;simp only [hb,freezeA_sound h1 p1,Option.bind_some];exact freezesA_sound h2 p2
    grind
   grind
  rename_i hb;split
  ·grind
  exact freezesA_sound h hp
def ghostA (σ:St):Gh->Option (St×List Prop)
 |.frzA s=>match lk σ.tm s with
  |some (.ptr i _ _)=>match σ.bx[i]? with
   |some (.var cs)=>freezesA (rowsL cs) σ
   |_=>some (σ,[])
  |some x=>freezesA x.rows σ
  |none=>some (σ,[])
 |g=>match ghost σ g with
  |some σ'=>some (σ',[])
  |none=>none
theorem ghostA_sound {g:Gh}(h:ghostA σ g=some (σ',ps))(hp:allP ps):ghost σ g=some σ':=by
 cases g with
 |frzA s=>
  simp only [ghostA] at h;simp only [ghost];split at h
  ·rename_i i e o hs;rw [hs];dsimp only;split at h
   ·grind[freezesA_sound]
   grind
  ·rename_i x hx hs;rw [hs];cases x with
   |ptr i e o=>grind
   |_=>grind[freezesA_sound]
  grind
 |thaw s o=>
  simp only [ghostA] at h
  grind
 |frz s o=>
  simp only [ghostA] at h
  grind
 |frzV s=>
  simp only [ghostA] at h
  grind
def ghostsA:List Gh->St->Option (St×List Prop)
 |[],σ=>some (σ,[])
 |g::r,σ=>match ghostA σ g with
  |none=>none
  |some (σ',ps)=>match ghostsA r σ' with
   |none=>none
   |some (σ'',qs)=>some (σ'',ps++qs)
theorem ghostsA_sound:∀{l:List Gh} {σ σ':St} {ps:List Prop},ghostsA l σ=some (σ',ps)->allP ps->ghosts l σ=some σ'
 |[],σ,σ',ps,h,_=>by simp only [ghostsA,qaE,qaH] at h;obtain ⟨rfl,_⟩:=h;rfl
 |g::r,σ,σ',ps,h,hp=>by
  simp only [ghostsA] at h;split at h
  ·grind
  rename_i σ1 ps1 h1;split at h
  ·grind
  rename_i σ2 qs h2;simp only [qaE,qaH] at h;obtain ⟨rfl,rfl⟩:=h;obtain ⟨p1,p2⟩:=allP_append.1 hp;simp only [ghosts,ghostA_sound h1 p1,ghostsA_sound h2 p2]
def iterA (nIn:Nat)(f:St->List (Ex×St)->Option (Ex×St×List (Ex×St)×List Prop)):Nat->St->List (Ex×St)->Option (Ex×St×List (Ex×St)×List Prop)
 |0,_,_=>none
 |n+1,σ,lo=>match canon nIn σ with
  |none=>none
  |some σ=>match f σ lo with
   |some (.norm,σ',lo',ps)=>match iterA nIn f n σ' lo' with
    |some (e,σ'',lo'',qs)=>some (e,σ'',lo'',ps++qs)
    |none=>none
   |r=>r
theorem iterA_sound {nIn:Nat}{f:St->List (Ex×St)->Option (Ex×St×List (Ex×St)×List Prop)}{g:St->Option (Ex×St)}(hf:∀(σ σ':St) (lo lo':List (Ex×St)) (e:Ex) (ps:List Prop),f σ lo=some (e,σ',lo',ps)->allP ps->g σ=some (e,σ')):
  ∀{n:Nat} {σ σ':St} {lo lo':List (Ex×St)} {e:Ex} {ps:List Prop},iterA nIn f n σ lo=some (e,σ',lo',ps)->allP ps->iter nIn g n σ=some (e,σ')
 |0,σ,σ',lo,lo',e,ps,h,_=>by grind[iterA]
 |n+1,σ,σ',lo,lo',e,ps,h,hp=>by
  simp only [iterA] at h;simp only [iter];split at h
  ·grind
  rename_i σ1 hc;rw [hc];dsimp only;split at h
  ·rename_i σ2 lo2 ps1 h1;split at h;next e3 σ3 lo3 qs h2=>simp only [qaE,qaH] at h;obtain ⟨rfl,rfl,_,rfl⟩:=h;obtain ⟨hp1,hp2⟩:=allP_append.1 hp;rw [hf _ _ _ _ _ _ h1 hp1];exact iterA_sound hf h2 hp2
   grind
  rename_i hne;rw [hf _ _ _ _ _ _ h hp];cases e<;>grind
def twinA (Γ:Gam)(ans:List (Nat×Ans))(nIn:Nat)(l:List Ins)(ps:List (Nat×Nat))(live:List Nat)(σ σ':St)(fps:List FP):Option ((St×St)×List Prop):=
 match badPair l fps ps with
 |none=>none
 |some (i,j)=>if decide (i<j/\j<l.length)&&(mayMove i j ps&&pairsBut i j l fps id ps) then match stepsA Γ ans (permL (mvB i j) l) σ with
   |none=>none
   |some (τ,fqs,rs)=>if pairsBut i j l fqs (mvI i j) ps then match canon nIn ⟨keep live σ'.tm,σ'.bx⟩,canon nIn ⟨keep live τ.tm,τ.bx⟩ with
    |some a,some b=>some ((a,b),rs)
    |_,_=>none
    else none
  else none
theorem twinA_sound {l:List Ins}{ps:List (Nat×Nat)}{live:List Nat}{fps:List FP}{q:St×St}{rs:List Prop}(h:twinA Γ ans nIn l ps live σ σ' fps=some (q,rs))(hp:allP rs):twin Γ nIn l ps live σ σ' fps=some q:=by
 unfold twinA at h;unfold twin;split at h;·cases h
 rename_i i j hb;rw [hb];dsimp only;split at h
 ·rename_i hc;rw [if_pos hc];split at h;·cases h
  rename_i τ fqs rs' hs;split at h
  ·rename_i hq;split at h;next a b h1 h2=>simp only [qaE,qaH] at h;obtain ⟨rfl,rfl⟩:=h;simp only [stepsA_sound hs hp,hq,if_true,h1,h2]
   cases h
  cases h
 cases h
def askTwin (ans:List (Nat×Ans)):Bool:=ans.any fun p=>p.1==2000000
noncomputable def runA (Γ:Gam)(ans:List (Nat×Ans))(nIn fu:Nat):C->St->List (Ex×St)->Option (Ex×St×List (Ex×St)×List Prop)
 |.skip,σ,lo=>some (.norm,σ,lo,[])
 |.reg gh draw l live,σ,lo=>match ghostsA gh σ with
  |none=>none
  |some (σ,qs)=>match stepsA Γ ans l σ with
   |none=>none
   |some (σ',fps,ps)=>if pairsOk l fps draw then some (.norm,⟨keep live σ'.tm,σ'.bx⟩,lo,qs++ps) else if askTwin ans then (match twinA Γ ans nIn l draw live σ σ' fps with
    |some ((a,b),rs)=>some (.norm,a,lo,qs++(ps++(rs++[a=b])))
    |none=>none)
   else match twin Γ nIn l draw live σ σ' fps with
    |some (a,b)=>some (.norm,a,lo,qs++(ps++[a=b]))
    |none=>none
 |.seq a b,σ,lo=>match runA Γ ans nIn fu a σ lo with
  |some (.norm,σ',lo,ps)=>match runA Γ ans nIn fu b σ' lo with
   |some (e,σ'',lo,qs)=>some (e,σ'',lo,ps++qs)
   |none=>none
  |r=>r
 |.cond c a b,σ,lo=>match σ.ev c with
  |some (.v (.bool t))=>if t then runA Γ ans nIn fu a σ lo else runA Γ ans nIn fu b σ lo
  |_=>none
 |.block id b,σ,lo=>match runA Γ ans nIn fu b σ lo with
  |some (.exit j,σ',lo,ps)=>if j==id then some (.norm,σ',lo,ps) else some (.exit j,σ',lo,ps)
  |r=>r
 |.loop b,σ,o::lo=>some (o.1,o.2,lo,[run Γ nIn fu (.loop b) σ=some o])
 |.mloop t d o live b,σ,q::lo=>some (q.1,q.2,lo,[run Γ nIn fu (.mloop t d o live b) σ=some q])
 |.mloop ..,_,[]=>none
 |.loop b,σ,[]=>iterA nIn (fun σ lo=>runA Γ ans nIn fu b σ lo) fu σ []
 |.rf f ps live as b,σ,o::lo=>some (o.1,o.2,lo,[run Γ nIn fu (.rf f ps live as b) σ=some o])
 |.rf f ps live as b,σ,[]=>match run Γ nIn fu (.rf f ps live as b) σ with
  |some (e,σ')=>some (e,σ',[],[])
  |none=>none
 |.exit id,σ,lo=>some (.exit id,σ,lo,[])
 |.ret,σ,lo=>some (.ret,σ,lo,[])
 |.stuck,_,_=>none
theorem runA_sound :∀{m:C} {σ σ':St} {lo lo':List (Ex×St)} {e:Ex} {ps:List Prop},runA Γ ans nIn fu m σ lo=some (e,σ',lo',ps)->allP ps->run Γ nIn fu m σ=some (e,σ'):=by
 intro m;induction m with
 |skip=>intro σ σ' lo lo' e ps h _;simp only [runA,qaE,qaH] at h;obtain ⟨rfl,rfl,_⟩:=h;rfl
 |exit id=>intro σ σ' lo lo' e ps h _;simp only [runA,qaE,qaH] at h;obtain ⟨rfl,rfl,_⟩:=h;rfl
 |ret=>intro σ σ' lo lo' e ps h _;simp only [runA,qaE,qaH] at h;obtain ⟨rfl,rfl,_⟩:=h;rfl
 |stuck=>grind[runA]
 |reg gh draw l live=>
  intro σ σ' lo lo' e ps h hp;simp only [runA] at h;split at h
  ·grind
  rename_i σ1 gps hg;split at h
  ·grind
  rename_i σ2 fps qs hs;split at h;next hpo=>simp only [qaE,qaH] at h;obtain ⟨rfl,rfl,_,rfl⟩:=h;obtain ⟨p1,p2⟩:=allP_append.1 hp;simp only [run,ghostsA_sound hg p1,stepsA_sound hs p2,hpo,if_true]
  rename_i hpo;split at h
  ·split at h;next s t rs ht=>simp only [qaE,qaH] at h;obtain ⟨rfl,rfl,_,rfl⟩:=h;obtain ⟨p1,p2⟩:=allP_append.1 hp;obtain ⟨p2,p3⟩:=allP_append.1 p2;obtain ⟨p4,p5,_⟩:=allP_append.1 p3;have hst:=(St.same_iff s t).2 p5;simp only [run,ghostsA_sound hg p1,stepsA_sound hs p2,hpo,twinA_sound ht p4,hst,if_true];rfl
   cases h
  split at h;next s t ht=>simp only [qaE,qaH] at h;obtain ⟨rfl,rfl,_,rfl⟩:=h;obtain ⟨p1,p2⟩:=allP_append.1 hp;obtain ⟨p2,p3,_⟩:=allP_append.1 p2;have hst:=(St.same_iff s t).2 p3;simp only [run,ghostsA_sound hg p1,stepsA_sound hs p2,hpo,ht,hst,if_true];rfl
  cases h
 |seq a b iha ihb=>
  intro σ σ' lo lo' e ps h hp;simp only [runA] at h;split at h
  ·rename_i σ1 lo1 ps1 h1;split at h
   ·rename_i e2 σ2 lo2 qs h2;simp only [qaE,qaH] at h;obtain ⟨rfl,rfl,_,rfl⟩:=h
    grind[allP_append,run]
   grind
  rename_i hne;have h1:=iha h hp;simp only [run,h1];cases e<;>grind
 |cond c a b iha ihb=>
  intro σ σ' lo lo' e ps h hp;simp only [runA] at h;split at h
  ·rename_i t ht;cases t with
   |true=>simp only [if_true] at h;simp only [run,ht,if_true];grind
   |false=>simp only [qbc,if_false] at h;simp only [run,ht,qbc,if_false];grind
  grind
 |block id b ih=>
  intro σ σ' lo lo' e ps h hp;simp only [runA] at h;split at h
  ·rename_i j σ1 lo1 ps1 h1;by_cases hj:(j==id)=true;·rw [if_pos hj] at h;simp only [qaE,qaH] at h;obtain ⟨rfl,rfl,_,rfl⟩:=h;simp only [run,ih h1 hp,if_pos hj]
   rw [if_neg hj] at h;simp only [qaE,qaH] at h;obtain ⟨rfl,rfl,_,rfl⟩:=h;simp only [run,ih h1 hp,if_neg hj]
  rename_i hne;have h1:=ih h hp;simp only [run,h1];cases e<;>grind
 |loop b ih=>
  intro σ σ' lo lo' e ps h hp;cases lo with
  |nil=>grind[runA,run,iterA_sound]
  |cons o lo=>simp only [runA,qaE,qaH] at h;obtain ⟨rfl,rfl,_,rfl⟩:=h;exact hp.1
 |mloop t d o live b ih=>
  intro σ σ' lo lo' e ps h hp;cases lo with
  |nil=>simp only [runA,reduceCtorEq] at h
  |cons q lo=>simp only [runA,qaE,qaH] at h;obtain ⟨rfl,rfl,_,rfl⟩:=h;exact hp.1
 |rf f qs live as b _ _=>
  intro σ σ' lo lo' e ps h hp;cases lo with
  |nil=>
   simp only [runA] at h
   grind
  |cons o lo=>simp only [runA,qaE,qaH] at h;obtain ⟨rfl,rfl,_,rfl⟩:=h;exact hp.1
noncomputable def funA (Γ:Gam)(fu:Nat)(ans:List (Nat×Ans))(lo:List (Ex×St))(fd:Fun)(args:List X)(inb:List Bx):Option (Option (X×List Bx)×List Prop):=
 if args.length==fd.np then
  match runA Γ ans inb.length fu fd.body ⟨zipTm 0 args,inb⟩ lo with
  |some (.norm,σ,_,ps)|some (.ret,σ,_,ps)=>some ((resX σ fd.res).bind fun xs=>pack inb.length (packRes xs) σ.bx,ps)
  |_=>none
 else none
theorem funA_sound {fd:Fun}(h:funA Γ fu ans lo fd args inb=some (r,ps))(hp:allP ps):runF Γ fu fd args inb=r:=by
 unfold funA at h;unfold runF;split at h
 ·rename_i hl;rw [if_pos hl];split at h;next hr=>simp only [qaE,qaH] at h;obtain ⟨rfl,rfl⟩:=h;rw [runA_sound hr hp]
  next hr=>simp only [qaE,qaH] at h;obtain ⟨rfl,rfl⟩:=h;rw [runA_sound hr hp]
  grind
 grind
noncomputable def callA (T:FuncId->Option Fun)(ext:Ext)(n:Nat)(ans:List (Nat×Ans))(lo:List (Ex×St))(f:FuncId)(args:List X)(inb:List Bx):Option (Option (X×List Bx)×List Prop):=
 match ext f with
 |some _=>none
 |none=>match T f with
  |some fd=>funA (callF T ext n) n ans lo fd args inb
  |none=>none
theorem callA_sound {T:FuncId->Option Fun}{ext:Ext}{f:FuncId}(h:callA T ext n ans lo f args inb=some (r,ps))(hp:allP ps):
  callF T ext (n+1) (.fn f) args inb=r:=by
 grind[callA,callF,funA_sound]
theorem iter_step {r:Option (Ex×St)}(hc:canon nIn τ=some σ)(hf:f σ=some (.norm,τ'))(hr:iter nIn f n τ'=r):iter nIn f (n+1) τ=r:=by grind[iter]
theorem iter_end {e:Ex}(hc:canon nIn τ=some σ)(hf:f σ=some (e,τ'))(he:e≠.norm):iter nIn f (n+1) τ=some (e,τ'):=by simp_all[iter]
def C.at:List Nat->C->C
 |[],c=>c
 |0::p,.seq a _=>C.at p a
 |_::p,.seq _ b=>C.at p b
 |0::p,.cond _ a _=>C.at p a
 |_::p,.cond _ _ b=>C.at p b
 |_::p,.block _ b=>C.at p b
 |_::p,.loop b=>C.at p b
 |_::p,.mloop _ _ _ _ b=>C.at p b
 |0::p,.rf _ _ _ a _=>C.at p a
 |_::p,.rf _ _ _ _ b=>C.at p b
 |_,c=>c
def bodyOf (T:FuncId->Option Fun)(f:FuncId):C:=match T f with
 |some fd=>fd.body
 |none=>.skip
def C.loops:C->List C
 |.seq a b|.cond _ a b|.rf _ _ _ a b=>a.loops++b.loops
 |.block _ b=>b.loops
 |.loop b=>b::b.loops
 |.mloop _ _ _ _ b=>b::b.loops
 |_=>[]
def loopOf (T:FuncId->Option Fun)(f:FuncId)(k:Nat):C:=(bodyOf T f).loops.getD k .skip
end Go.Em
