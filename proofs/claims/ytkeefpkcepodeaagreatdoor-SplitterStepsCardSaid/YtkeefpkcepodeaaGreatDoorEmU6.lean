/-.-/
import Derived.Test.YtkeefpkcepodeaaGreatDoorEmU5
set_option linter.all false
namespace Go.Em
variable {ext:Ext}{fp:FP}{g:FuncId}{T:FuncId->Option Fun}{Γ:Gam}{i:I}{lo:List (Ex×St)}{bx inb out outb:List Bx}{ps:List Prop}{args as cs:List X}{fu n nIn:Nat}{r:Option (X×List Bx)}{p:Prop}{σ σ' τ τ':St}{f:St->Option (Ex×St)}{y:X}{q:X×List Bx×FP}
inductive Ans where
 |b (t:Bool)
 |i (n:Int)
 |x (y:X)
 |c (y:X) (bx:List Bx) (fp:FP)
 |e (l:List X)
 |p (y:X)
 |app
 |fresh
 |mk
 |o (y:X) (out:List Bx)
 |r (y:X) (out:List Bx)
 |d (as:List X) (y:X)
 |cut
 |cutz
 |at
 |ld (cs:List X)
 |st (cs:List X)
 |g (y:X)
 |pm (es:List (Value×X))
variable {ans:List (Nat×Ans)}
def ztz (Γ:Gam)(σ:St)(y:X):I->Option ((X×List Bx×FP)×Prop)
 |.call own ref raw f args=>match σ.ev f,evs σ args with
  |some (.fn g caps),some zs=>match dH σ.bx raw zs with
   |some as=>if !ref&&(!own&&!ref&&(bT (as++caps)).isEmpty)&&(oZ y&&((iO zs).isEmpty||y.plain)) then some ((y,σ.bx,⟨false,iO zs,[]⟩),Γ.pureD g (as++caps)=some y) else none
   |none=>none
  |_,_=>none
 |_=>none
theorem X4 (h:ztz Γ σ y i=some (q,p))(hp:p):aA Γ σ i=some q:=by
 unfold ztz at h;split at h
 ·rename_i own m l f a;split at h;next g j w u n=>split at h<;>simp_all[aA,xE]
  grind
 grind
def ztF (Γ:Gam)(σ:St)(as:List X)(y:X):I->Option ((X×List Bx×FP)×Prop)
 |.call own ref raw f args=>match σ.ev f,evs σ args with
  |some (.fn g caps),some zs=>if !ref&&(!own&&!ref&&(bT (as++caps)).isEmpty)&&(oZ y&&((iO zs).isEmpty||y.plain)) then some ((y,σ.bx,⟨false,iO zs,[]⟩),dH σ.bx raw zs=some as/\Γ.pureD g (as++caps)=some y) else none
  |_,_=>none
 |_=>none
theorem Yb (h:ztF Γ σ as y i=some (q,p))(hp:p):aA Γ σ i=some q:=by
 unfold ztF at h;split at h;next own l j f a=>split at h<;>simp_all[aA,xE]
 grind
def ztH (σ:St):I->Option ((X×List Bx×FP)×Prop)
 |.app _ sz bytes s z=>match σ.ev s,σ.ev z with
  |some (.bs i off len),some y=>match σ.bx[i]?,qh σ.bx y with
   |some (.row sz0 es),some (sz',new)=>if sz'==sz&&sz0==sz then
     some ((.bs σ.bx.length 0 (len+new.length),σ.bx.set i .dead++[.row sz (es.drop off++new)],⟨true,y.rows,[i,σ.bx.length]⟩),off+len=es.length/\cZ (len+new.length) bytes=true/\tC i y.rows=false) else none
   |_,_=>none
  |_,_=>none
 |_=>none
theorem Yd (h:ztH σ i=some (q,p))(hp:p):aA Γ σ i=some q:=by
 unfold ztH at h;split at h
 ·rename_i own l a s z;split at h;next i f len y j hz=>split at h<;>simp_all[aA]
  grind
 grind
def ztE (σ:St):I->Option ((X×List Bx×FP)×Prop)
 |.app own sz bytes s z=>match σ.ev s,σ.ev z with
  |some (.sl true sz0 es),some y=>match qh σ.bx y with
   |some (sz',new)=>if sz'==sz&&sz0==sz then
     (if own then some ((.bs σ.bx.length 0 (es.length+new.length),σ.bx++[.row sz (es++new)],⟨true,y.rows,[σ.bx.length]⟩),new.isEmpty=false/\cZ (es.length+new.length) bytes=true)
      else some ((.sl false sz (es++new),σ.bx,⟨false,y.rows,[]⟩),cZ (es.length+new.length) bytes=true)) else none
   |_=>none
  |_,_=>none
 |_=>none
theorem Ya (h:ztE σ i=some (q,p))(hp:p):aA Γ σ i=some q:=by
 unfold ztE at h;split at h
 ·rename_i own A a s z;split at h
  ·rename_i n u y w hz;split at h
   ·rename_i m l f;split at h;next j=>simp only [qab] at j;split at h<;>simp_all[aA]
    grind
   grind
  grind
 grind
def ztB (σ:St):I->Option ((X×List Bx×FP)×Prop)
 |.mksl bytes zero len cap=>match (σ.ev len).bind Ym,(σ.ev cap).bind Ym with
  |some n,some c=>some ((.bs σ.bx.length 0 n,σ.bx++[.row zero.length (List.replicate n zero)],⟨true,[],[σ.bx.length]⟩),n<=c/\cZ c bytes=true)
  |_,_=>none
 |_=>none
theorem X6 (h:ztB σ i=some (q,p))(hp:p):aA Γ σ i=some q:=by
 unfold ztB at h;split at h;·split at h<;>simp_all[aA]
 grind
mutual
theorem Kq (f:Nat->Nat):∀(x:X),x.refs=[]->x.ren f=x
 |.bs ..,h=>by grind[X.refs]
 |.ptr ..,h=>by grind[X.refs]
 |.yl ..,h=>by grind[X.refs]
 |.mp ..,h=>by grind[X.refs]
 |.ifc,_=>rfl
 |.fn g cs,h=>by simp only [X.ren,oN f cs (by grind[X.refs])]
 |.agg cs,h=>by simp only [X.ren,oN f cs (by grind[X.refs])]
 |.tup cs,h=>by simp only [X.ren,oN f cs (by grind[X.refs])]
 |.v _,_=>rfl
 |.sl ..,_=>rfl
 |.dp _,_=>rfl
theorem oN (f:Nat->Nat):∀(cs:List X),bT cs=[]->Px f cs=cs
 |[],_=>rfl
 |x::r,h=>by simp only [bT,List.append_eq_nil_iff] at h;simp only [Px,Kq f x h.1,oN f r h.2]
end
theorem SH {r:X}(h0:bT args=[])(h:Γ (.fn g) args []=some (r,outb)):
  iU Γ (.fn g) args bx=some (r.ren (fun j=>bx.length+j),bx++outb.map (Bx.ren fun j=>bx.length+j),[]):=by
 have f:reach bx iK (bT args) []=[]:=by rw [h0];rfl
 have a:Hu bx []=some []:=rfl<;>simp_all[iU,oN,PU,kF]
def ztA (Γ:Gam)(σ:St)(y:X)(out:List Bx):I->Option ((X×List Bx×FP)×Prop)
 |.call own ref raw f args=>match σ.ev f,evs σ args with
  |some (.fn g caps),some zs=>match dH σ.bx raw zs with
   |some as=>if own&&!ref&&(bT (as++caps)).isEmpty&&(iO zs).isEmpty then
     some ((y.ren (fun j=>σ.bx.length+j),σ.bx++out.map (Bx.ren fun j=>σ.bx.length+j),Hr [] [] σ.bx.length (σ.bx++out.map (Bx.ren fun j=>σ.bx.length+j)).length),Γ (.fn g) (as++caps) []=some (y,out)) else none
   |none=>none
  |_,_=>none
 |_=>none
theorem X5 (h:ztA Γ σ y out i=some (q,p))(hp:p):aA Γ σ i=some q:=by
 unfold ztA at h;split at h
 ·rename_i own A w f a;split at h
  ·rename_i g j J H E;split at h
   ·rename_i as F;split at h;next l=>cases h;simp only [qab,Bool.not_eq_true'] at l;obtain ⟨⟨⟨m,u⟩,n⟩,B⟩:=l;subst u;subst m;have:=SH (bx:=σ.bx) (List.isEmpty_iff.1 n) hp<;>simp_all[aA,xE]
    grind
   grind
  grind
 grind
def uZ (Γ:Gam)(fv:Fv)(args:List X)(bx:List Bx)(y:X)(outb:List Bx):Option ((X×List Bx×List Nat)×Prop):=
 let sel:=reach bx iK (bT args) []
 if PU (bT args) sel then
  match Hu bx sel with
  |none=>none
  |some inb=>
   if sel.length<=outb.length then
    let back:=fun j=>if j<sel.length then sel.getD j 0 else bx.length+(j-sel.length)
    let outs:=outb.map (Bx.ren back)
    some ((y.ren back,kF sel outs bx++outs.drop sel.length,sel),Γ fv (Px (xK · sel) args) inb=some (y,outb))
   else none
 else none
theorem jO {fv:Fv}{q:X×List Bx×List Nat}(h:uZ Γ fv args bx y outb=some (q,p))(hp:p):iU Γ fv args bx=some q:=by
 unfold uZ at h;unfold iU
 grind
def zty (Γ:Gam)(σ:St)(y:X)(out:List Bx):I->Option ((X×List Bx×FP)×Prop)
 |.call own ref raw f args=>match σ.ev f,evs σ args with
  |some (.yl i),some zs=>match dH σ.bx raw zs with
   |some as=>if !ref&&(iO zs).isEmpty then
     match uZ Γ .yl (.yl i::as) σ.bx y out with
     |some ((x,bx',sel),p)=>some ((x,bx',Hr [] sel σ.bx.length bx'.length),p)
     |none=>none
    else none
   |none=>none
  |some (.fn g caps),some zs=>
   if ref then
    match uZ Γ (.fn g) (zs++caps) σ.bx y out with
    |some ((x,bx',sel),p)=>some ((x,bx',Hr [] sel σ.bx.length bx'.length),p)
    |none=>none
   else match dH σ.bx raw zs with
   |some as=>if !(!own&&(bT (as++caps)).isEmpty)&&(iO zs).isEmpty then
     match uZ Γ (.fn g) (as++caps) σ.bx y out with
     |some ((x,bx',sel),p)=>some ((x,bx',Hr [] sel σ.bx.length bx'.length),p)
     |none=>none
    else none
   |none=>none
  |_,_=>none
 |_=>none
theorem X3 (h:zty Γ σ y out i=some (q,p))(hp:p):aA Γ σ i=some q:=by
 unfold zty at h;split at h
 ·rename_i own J O f L;split at h
  ·rename_i j P B A;split at h
   ·rename_i as E;split at h
    ·rename_i n;simp only [qab,Bool.not_eq_true'] at n;obtain ⟨u,hz⟩:=n;subst u;split at h;next x l w M a=>cases h;simp only [aA,B,A,xE,qaP,if_false,E,hz,Bool.or_true,if_true,jO a hp]
     grind
    grind
   grind
  ·rename_i g m P B A;split at h
   ·rename_i u;subst u;split at h;next x l w M a=>cases h;simp only [aA,B,A,xE,if_true,Bool.not_true,Bool.and_false,Bool.false_and,qaP,if_false,Bool.true_or,jO a hp]
    grind
   rename_i u;have H:J=false:=by simpa using u
   subst H;split at h
   ·rename_i as E;split at h
    ·rename_i n;simp only [qab,Bool.not_eq_true'] at n;obtain ⟨N,hz⟩:=n;split at h
     ·rename_i x l w M a;cases h;have F:(!own&&!false&&(bT (as++m)).isEmpty)=false:=by simpa using N
      simp only [aA,B,A,xE,qaP,if_false,E,F,hz,Bool.or_true,if_true,jO a hp]
     grind
    grind
   grind
  grind
 grind
def ztG (σ:St):I->Option ((X×List Bx×FP)×Prop)
 |.slice sz x lo hi none=>match σ.ev x with
  |some (.sl t s es)=>match dL σ 0 lo,dL σ es.length hi with
   |some l,some h=>if s==sz then some ((.sl (t&&h==es.length) s ((es.take h).drop l),σ.bx,⟨false,[],[]⟩),l<=h/\h<=es.length) else none
   |_,_=>none
  |some (.bs i off len)=>match dL σ 0 lo,dL σ len hi with
   |some l,some h=>match σ.bx[i]? with
    |some (.row s _)=>if s==sz then some ((.bs i (off+l) (h-l),σ.bx,⟨false,[i],[]⟩),l<h/\h<=len) else none
    |_=>none
   |_,_=>none
  |_=>none
 |.sslice x lo hi=>match σ.ev x with
  |some (.v (.string s))=>match dL σ 0 lo,dL σ s.size hi with
   |some l,some h=>some ((.v (.string (s.extract l h)),σ.bx,⟨false,[],[]⟩),l<=h/\h<=s.size)
   |_,_=>none
  |_=>none
 |_=>none
theorem Yc (h:ztG σ i=some (q,p))(hp:p):aA Γ σ i=some q:=by
 unfold ztG at h;split at h
 ·rename_i E x n m;split at h;next t s f a=>split at h<;>simp_all[aA]
  ·rename_i i u len a;split at h
   ·rename_i l y A j;split at h
    ·rename_i s f w;split at h
     ·rename_i B;cases h
      grind[aA]
     grind
    grind
   grind
  grind
 ·rename_i x n m;split at h;next s a=>split at h<;>simp_all[aA]
  grind
 grind
def ztv (σ:St):I->Option ((X×List Bx×FP)×Prop)
 |.slice sz x lo hi none=>match σ.ev x with
  |some (.bs _ _ len)=>match dL σ 0 lo,dL σ len hi with
   |some l,some h=>some ((.sl false sz [],σ.bx,⟨false,[],[]⟩),l=h/\h<=len)
   |_,_=>none
  |_=>none
 |_=>none
theorem XY (h:ztv σ i=some (q,p))(hp:p):aA Γ σ i=some q:=by
 unfold ztv at h;split at h
 ·split at h;next a=>split at h<;>simp_all[aA]
  grind
 grind
def ztx (σ:St):I->Option ((X×List Bx×FP)×Prop)
 |.iaddr none sz z j=>match σ.ev z,(σ.ev j).bind KP with
  |some (.bs i off len),some n=>match σ.bx[i]? with
   |some (.row s _)=>if s==sz then some ((.ptr i (off+n) 0,σ.bx,⟨false,[i],[]⟩),n<len) else none
   |_=>none
  |_,_=>none
 |.iaddr (some len) sz z j=>match σ.ev z,(σ.ev j).bind KP with
  |some (.ptr i e o),some n=>some ((.ptr i e (o+n*sz),σ.bx,⟨false,[],[]⟩),n<len)
  |some (.dp cs),some n=>some ((.dp (cs.drop (n*sz)),σ.bx,⟨false,[],[]⟩),n<len)
  |_,_=>none
 |.sidx z j=>match σ.ev z,(σ.ev j).bind KP with
  |some (.v (.string s)),some n=>some ((.v (.int .u8 ((s[n]?).getD 0).toNat),σ.bx,⟨false,[],[]⟩),n<s.size)
  |_,_=>none
 |.bin .add a b=>match σ.ev a,σ.ev b with
  |some (.v (.string s)),some (.v (.string t))=>some ((.v (.string (s++t)),σ.bx,⟨false,[],[]⟩),s.size+t.size<=9223372036854775807)
  |_,_=>none
 |_=>none
theorem X0 (h:ztx σ i=some (q,p))(hp:p):aA Γ σ i=some q:=by
 unfold ztx at h;split at h
 ·split at h;next hz a=>split at h<;>simp_all[aA]
  grind
 ·split at h<;>simp_all[aA]
 ·split at h;next s n hz a=>simp only [qag,qaI] at h;obtain ⟨rfl,rfl⟩:=h<;>simp_all[aA]
  grind
 ·split at h
  ·rename_i s t j l;cases h;have f:¬(((s.size+t.size:Nat):Int)>IntKind.i64.max):=by have:IntKind.i64.max=9223372036854775807:=rfl;omega
   have m:kS .add (.string s) (.string t)=some (.string (s++t)):=by show bK (Op.stringOp .add s t)=_;unfold Op.stringOp;dsimp only;rw [if_neg f];rfl
   grind[aA]
  grind
 grind
def ztC (σ:St)(cs:List X):I->Option ((X×List Bx×FP)×Prop)
 |.load m a=>match σ.ev a with
  |some (.ptr i e o)=>match σ.bx[i]? with
   |some (.row _ es)=>match (match m with
     |none=>(cs.drop o).head?
     |some m=>if ((cs.drop o).take m).length==m then some (.agg ((cs.drop o).take m)) else none) with
    |some x=>some ((x,σ.bx,⟨false,[i],[]⟩),es[e]?=some cs)
    |none=>none
   |_=>none
  |_=>none
 |_=>none
theorem X7 (h:ztC σ cs i=some (q,p))(hp:p):aA Γ σ i=some q:=by
 unfold ztC at h;split at h
 ·split at h
  ·rename_i f;split at h
   ·rename_i j;split at h
    ·rename_i x a;cases h;rename_i m _ _ _ _ _ _ _ _ _;simp only [aA,f,o7,jV,j,hp,qam];cases m with
     |none=>dsimp only at a ⊢;rw [a];rfl
     |some m=>dsimp only at a ⊢;rw [a];rfl
    grind
   grind
  grind
 grind
def ztw (σ:St)(cs:List X):I->Option ((X×List Bx×FP)×Prop)
 |.store n a x=>match σ.ev a,σ.ev x with
  |some (.ptr i e o),some y=>match σ.bx[i]? with
   |some (.row sz es)=>if y.ok1&&y.cells.length==n&&(bT y.cells).isEmpty then
     match splice cs o y.cells with
     |some cs'=>some ((undefX,σ.bx.set i (.row sz (es.set e cs')),⟨true,[],[i]⟩),es[e]?=some cs)
     |none=>none
    else none
   |_=>none
  |_,_=>none
 |_=>none
theorem XZ (h:ztw σ cs i=some (q,p))(hp:p):aA Γ σ i=some q:=by
 unfold ztw at h;split at h
 ·split at h
  ·rename_i a l;split at h
   ·rename_i f;split at h;next j=>split at h<;>simp_all[aA,kL,ku]
    grind
   grind
  grind
 grind
def ztD (σ:St)(y:X):I->Option ((X×List Bx×FP)×Prop)
 |.zgZ kk ok zero m k=>match σ.ev m,σ.ev k with
  |some (.mp i),some (.v kv)=>match σ.bx[i]? with
   |some (.map es)=>if vN kk kv then some ((y,σ.bx,⟨false,[i],[]⟩),yT ok zero kv es=some y) else none
   |_=>none
  |_,_=>none
 |_=>none
theorem X9 (h:ztD σ y i=some (q,p))(hp:p):aA Γ σ i=some q:=by
 unfold ztD at h;split at h
 ·split at h;next f a=>split at h<;>simp_all[aA]
  grind
 grind
def zl3 (σ:St)(es':List (Value×X)):I->Option ((X×List Bx×FP)×Prop)
 |.zgY kk m k v=>match σ.ev m,σ.ev k,σ.ev v with
  |some (.mp i),some (.v kv),some x=>match σ.bx[i]? with
   |some (.map es)=>if vN kk kv&&x.ok1&&oZ x then some ((undefX,σ.bx.set i (.map es'),⟨true,[],[i]⟩),Fh kv x es=some es') else none
   |_=>none
  |_,_,_=>none
 |_=>none
theorem SQ {es':List (Value×X)}(h:zl3 σ es' i=some (q,p))(hp:p):aA Γ σ i=some q:=by
 unfold zl3 at h;split at h
 ·split at h;next f a j=>split at h<;>simp_all[aA]
  grind
 grind
def zl4 (Γ:Gam)(σ:St)(i:I):Ans->Option ((X×List Bx×FP)×Prop)
 |.b t'=>match aA Γ σ i with
  |some (.v (.bool t),bx,fp)=>some ((.v (.bool t'),bx,fp),t=t')
  |_=>none
 |.i n'=>match aA Γ σ i with
  |some (.v (.int k n),bx,fp)=>some ((.v (.int k n'),bx,fp),n=n')
  |_=>none
 |.x y'=>match aA Γ σ i with
  |some (y,bx,fp)=>some ((y',bx,fp),y=y')
  |none=>none
 |.c y bx fp=>match i with
  |.call own ref raw f args=>match σ.ev f,evs σ args with
   |some f,some as=>some ((y,bx,fp),xE Γ own ref raw f as σ.bx=some (y,bx,fp))
   |_,_=>none
  |_=>none
 |.e l=>match i with
  |.iaddr none sz z j=>match σ.ev z,(σ.ev j).bind KP with
   |some (.sl _ s es),some n=>if s==sz then some ((.dp l,σ.bx,⟨false,[],[]⟩),es[n]?=some l) else none
   |_,_=>none
  |_=>none
 |.p y=>ztz Γ σ y i
 |.d as y=>ztF Γ σ as y i
 |.app=>ztH σ i
 |.fresh=>ztE σ i
 |.mk=>ztB σ i
 |.o y out=>ztA Γ σ y out i
 |.r y out=>zty Γ σ y out i
 |.cut=>ztG σ i
 |.cutz=>ztv σ i
 |.at=>ztx σ i
 |.ld cs=>ztC σ cs i
 |.st cs=>ztw σ cs i
 |.g y=>ztD σ y i
 |.pm es=>zl3 σ es i
theorem bf {x:X}(h:Γ (.fn g) as []=some (x,bx))(hd:x.data bx false=some y):Γ.pureD g as=some y:=by grind[Gam.pureD]
theorem X8 {a:Ans}(h:zl4 Γ σ i a=some (q,p))(hp:p):aA Γ σ i=some q:=by
 cases a with
 |p y=>exact X4 h hp
 |d as y=>exact Yb h hp
 |app=>exact Yd h hp
 |fresh=>exact Ya h hp
 |mk=>exact X6 h hp
 |o y out=>exact X5 h hp
 |r y out=>exact X3 h hp
 |cut=>exact Yc h hp
 |cutz=>exact XY h hp
 |«at»=>exact X0 h hp
 |ld cs=>exact X7 h hp
 |st cs=>exact XZ h hp
 |g y=>exact X9 h hp
 |pm es=>exact SQ h hp
 |b t'=>
  simp only [zl4] at h
  grind
 |i n'=>
  simp only [zl4] at h
  grind
 |x y'=>
  simp only [zl4] at h
  grind
 |c y bx fp=>
  simp only [zl4] at h;split at h;·split at h<;>simp_all[aA]
  grind
 |e l=>
  simp only [zl4] at h;split at h;·split at h<;>simp_all[aA]
  grind
def zpj:List (Nat×Ans)->Option Nat->Option Ans
 |_,none=>none
 |[],some _=>none
 |(k,a)::r,some d=>if k==d then some a else zpj r (some d)
def zpk (i:Ins):Option Nat:=match i.dst with
 |some d=>some d
 |none=>match i.op with
  |.store _ (.t a) _=>some (a+1000000)
  |.zgY _ (.t a) _ _=>some (a+1000000)
  |_=>none
def goA (Γ:Gam)(ans:List (Nat×Ans))(i:Ins)(σ:St):Option (St×FP×List Prop):=
 match zpj ans (zpk i) with
 |none=>match rE Γ i σ with
  |none=>none
  |some (σ',fp)=>some (σ',fp,[])
 |some a=>match zl4 Γ σ i.op a with
  |none=>none
  |some ((y,bx,fp),p)=>some (⟨BM i.dst y σ.tm,bx⟩,fp,[p])
def kK:List Prop->Prop
 |[]=>True
 |p::r=>p/\kK r
theorem fV:∀{l m:List Prop},kK (l++m)↔kK l/\kK m
 |[],m=>by simp [kK]
 |p::r,m=>by simp [kK,fV (l:=r),and_assoc]
theorem Ov {i:Ins}(h:goA Γ ans i σ=some (σ',fp,ps))(hp:kK ps):rE Γ i σ=some (σ',fp):=by
 unfold goA at h;split at h
 ·grind
 split at h
 ·grind
 rename_i a;cases h;simp only [rE,X8 a hp.1]
def stepA (Γ:Gam)(ans:List (Nat×Ans))(i:Ins)(σ:St):Option (St×FP×List Prop):=
 match i.g with
 |none=>goA Γ ans i σ
 |some (s,want)=>match lk σ.tm s with
  |some (.v (.bool b))=>if b==want then goA Γ ans i σ else some (⟨BM i.dst undefX σ.tm,σ.bx⟩,⟨false,[],[]⟩,[])
  |some (.v (.tuple _))=>some (⟨BM i.dst undefX σ.tm,σ.bx⟩,⟨false,[],[]⟩,[])
  |_=>none
theorem PW {i:Ins}(h:stepA Γ ans i σ=some (σ',fp,ps))(hp:kK ps):step Γ i σ=some (σ',fp):=by
 unfold stepA at h;unfold step;split at h
 ·grind[Ov]
 rename_i s a l;rw [l];dsimp only;split at h
 ·rename_i b f;rw [f];dsimp only;by_cases j:(b==a)=true;·rw [if_pos j] at h ⊢;grind[Ov]
  rw [if_neg j] at h ⊢;cases h;rfl
 next t f=>rw [f];cases h;rfl
 grind
def stepsA (Γ:Gam)(ans:List (Nat×Ans)):List Ins->St->Option (St×List FP×List Prop)
 |[],σ=>some (σ,[],[])
 |i::r,σ=>match stepA Γ ans i σ with
  |none=>none
  |some (σ',fp,ps)=>match stepsA Γ ans r σ' with
   |none=>none
   |some (Yi,fps,qs)=>some (Yi,fp::fps,ps++qs)
theorem BK {Γ:Gam}{ans:List (Nat×Ans)}:∀{l:List Ins} {σ σ':St} {fps:List FP} {ps:List Prop},stepsA Γ ans l σ=some (σ',fps,ps)->kK ps->steps Γ l σ=some (σ',fps)
 |[],σ,σ',fps,ps,h,_=>by simp only [stepsA,qag,qaI] at h;obtain ⟨rfl,rfl,_⟩:=h;rfl
 |i::r,σ,σ',fps,ps,h,hp=>by
  simp only [stepsA] at h;split at h
  ·grind
  rename_i σ1 fp ps1 h1;split at h
  ·grind
  rename_i σ2 zzS qs h2;cases h;obtain ⟨hp1,hp2⟩:=fV.1 hp;simp only [steps,PW h1 hp1,BK h2 hp2,qam]
mutual
def X.ends (i:Nat):X->List Nat
 |.bs j off len=>if j==i then [off+len] else []
 |.agg cs=>Ia i cs
 |.tup cs=>Ia i cs
 |.fn _ cs=>Ia i cs
 |_=>[]
def Ia (i:Nat):List X->List Nat
 |[]=>[]
 |x::r=>x.ends i++Ia i r
end
def Bx.ends (i:Nat):Bx->List Nat
 |.var cs=>Ia i cs
 |.loop _ _ tm _ _ _=>Ia i (tm.map (·.2))
 |_=>[]
def Pg (i:Nat):List Bx->List Nat
 |[]=>[]
 |b::r=>b.ends i++Pg i r
mutual
theorem PI {i n:Nat}:∀(x:X),(∀e,e∈x.ends i->e<=n)->x.within i n=true
 |.bs j off len,h=>by simp only [X.within,Bool.or_eq_true,Bool.not_eq_true',qaC];cases hj:(j==i)<;>simp_all[X.ends]
 |.agg cs,h=>by simp only [X.within];exact gW cs (by grind[X.ends])
 |.tup cs,h=>by simp only [X.within];exact gW cs (by grind[X.ends])
 |.fn _ cs,h=>by simp only [X.within];exact gW cs (by grind[X.ends])
 |.ptr ..,_=>rfl
 |.yl _,_=>rfl
 |.mp _,_=>rfl
 |.ifc,_=>rfl
 |.v _,_=>rfl
 |.sl ..,_=>rfl
 |.dp _,_=>rfl
theorem gW {i n:Nat}:∀(cs:List X),(∀e,e∈Ia i cs->e<=n)->iG i n cs=true
 |[],_=>rfl
 |x::r,h=>by simp only [iG,qab];exact ⟨PI x fun e he=>h e (by grind[Ia]),gW r fun e he=>h e (by grind[Ia])⟩
end
theorem zcd {i n:Nat}:∀(bx:List Bx),(∀e,e∈Pg i bx->e<=n)->bx.all (Bx.within i n)=true
 |[],_=>rfl
 |b::r,h=>by
  simp only [List.all_cons,qab];refine ⟨?_,zcd r fun e he=>h e (by grind[Pg])⟩;have hb:∀e,e∈b.ends i->e<=n:=fun e he=>h e (by grind[Pg]);cases b with
  |var cs=>exact gW cs hb
  |loop st p tm ps a c=>exact gW _ hb
  |row=>rfl
  |map=>rfl
  |dead=>rfl
def zjm (n:Nat):List Nat->List Prop
 |[]=>[]
 |e::r=>(e<=n)::zjm n r
theorem Oh {n:Nat}:∀{l:List Nat},kK (zjm n l)->∀e,e∈l->e<=n
 |[],_,e,he=>by grind
 |a::r,h,e,he=>by
  rcases qal.1 he with rfl|he;·exact h.1
  exact Oh h.2 e he
def RQ (i:Nat)(σ:St):Option (St×List Prop):=
 match σ.bx[i]? with
 |some (.row sz es)=>some (⟨zmQ i sz es σ.tm,(σ.bx.map (Bx.frz i sz es)).set i .dead⟩,zjm es.length (Ia i (σ.tm.map (·.2))++Pg i σ.bx))
 |_=>none
theorem La {i:Nat}(h:RQ i σ=some (σ',ps))(hp:kK ps):freeze i σ=some σ':=by
 unfold RQ at h;unfold freeze;split at h;next l a j=>cases h;have f:=Oh hp<;>simp_all[TP,gW,zcd]
 grind
def qI:List Nat->St->Option (St×List Prop)
 |[],σ=>some (σ,[])
 |i::r,σ=>match σ.bx[i]? with
  |some (.row _ _)=>match RQ i σ with
   |some (σ',ps)=>match qI r σ' with
    |some (Yi,qs)=>some (Yi,ps++qs)
    |none=>none
   |none=>none
  |_=>qI r σ
theorem jL:∀{l:List Nat} {σ σ':St} {ps:List Prop},qI l σ=some (σ',ps)->kK ps->freezes l σ=some σ'
 |[],σ,σ',ps,h,_=>by simp only [qI,qag,qaI] at h;obtain ⟨rfl,_⟩:=h;rfl
 |i::r,σ,σ',ps,h,hp=>by
  simp only [qI] at h;simp only [freezes];split at h
  ·rename_i hb;split at h
   ·rename_i σ1 ps1 h1;split at h;next σ2 qs h2=>cases h;obtain ⟨p1,p2⟩:=fV.1 hp;simp only [hb,La h1 p1,Option.bind_some];exact jL h2 p2
    grind
   grind
  rename_i hb;split
  ·grind
  exact jL h hp
def Ji (σ:St):Gh->Option (St×List Prop)
 |.zcK s=>match lk σ.tm s with
  |some (.ptr i _ _)=>match σ.bx[i]? with
   |some (.var cs)=>qI (iO cs) σ
   |_=>some (σ,[])
  |some x=>qI x.rows σ
  |none=>some (σ,[])
 |g=>match ghost σ g with
  |some σ'=>some (σ',[])
  |none=>none
theorem Oy {g:Gh}(h:Ji σ g=some (σ',ps))(hp:kK ps):ghost σ g=some σ':=by
 cases g with
 |zcK s=>
  simp only [Ji] at h;simp only [ghost];split at h
  ·rename_i i e o a;rw [a];dsimp only;split at h
   ·grind[jL]
   grind
  ·rename_i x f a;rw [a];cases x with
   |ptr i e o=>grind
   |_=>grind[jL]
  grind
 |thaw s o=>
  simp only [Ji] at h
  grind
 |frz s o=>
  simp only [Ji] at h
  grind
 |F6 s=>
  simp only [Ji] at h
  grind
def ghostsA:List Gh->St->Option (St×List Prop)
 |[],σ=>some (σ,[])
 |g::r,σ=>match Ji σ g with
  |none=>none
  |some (σ',ps)=>match ghostsA r σ' with
   |none=>none
   |some (Yi,qs)=>some (Yi,ps++qs)
theorem zu:∀{l:List Gh} {σ σ':St} {ps:List Prop},ghostsA l σ=some (σ',ps)->kK ps->ghosts l σ=some σ'
 |[],σ,σ',ps,h,_=>by simp only [ghostsA,qag,qaI] at h;obtain ⟨rfl,_⟩:=h;rfl
 |g::r,σ,σ',ps,h,hp=>by
  simp only [ghostsA] at h;split at h
  ·grind
  rename_i σ1 ps1 h1;split at h
  ·grind
  rename_i σ2 qs h2;cases h;obtain ⟨p1,p2⟩:=fV.1 hp;simp only [ghosts,Oy h1 p1,zu h2 p2]
def zaE (nIn:Nat)(f:St->List (Ex×St)->Option (Ex×St×List (Ex×St)×List Prop)):Nat->St->List (Ex×St)->Option (Ex×St×List (Ex×St)×List Prop)
 |0,_,_=>none
 |n+1,σ,lo=>match canon nIn σ with
  |none=>none
  |some σ=>match f σ lo with
   |some (.norm,σ',lo',ps)=>match zaE nIn f n σ' lo' with
    |some (e,Yi,zwE,qs)=>some (e,Yi,zwE,ps++qs)
    |none=>none
   |r=>r
theorem FK {nIn:Nat}{f:St->List (Ex×St)->Option (Ex×St×List (Ex×St)×List Prop)}{g:St->Option (Ex×St)}(hf:∀(σ σ':St) (lo lo':List (Ex×St)) (e:Ex) (ps:List Prop),f σ lo=some (e,σ',lo',ps)->kK ps->g σ=some (e,σ')):
  ∀{n:Nat} {σ σ':St} {lo lo':List (Ex×St)} {e:Ex} {ps:List Prop},zaE nIn f n σ lo=some (e,σ',lo',ps)->kK ps->iter nIn g n σ=some (e,σ')
 |0,σ,σ',lo,lo',e,ps,h,_=>by grind[zaE]
 |n+1,σ,σ',lo,lo',e,ps,h,hp=>by
  simp only [zaE] at h;simp only [iter];split at h
  ·grind
  rename_i σ1 hc;rw [hc];dsimp only;split at h
  ·rename_i σ2 lo2 ps1 h1;split at h;next e3 σ3 lo3 qs h2=>cases h;obtain ⟨hp1,hp2⟩:=fV.1 hp;rw [hf _ _ _ _ _ _ h1 hp1];exact FK hf h2 hp2
   grind
  rename_i hne;rw [hf _ _ _ _ _ _ h hp];cases e<;>grind
def Aw (Γ:Gam)(ans:List (Nat×Ans))(nIn fu:Nat):C->St->List (Ex×St)->Option (Ex×St×List (Ex×St)×List Prop)
 |.skip,σ,lo=>some (.norm,σ,lo,[])
 |.reg gh draw l live,σ,lo=>match ghostsA gh σ with
  |none=>none
  |some (σ,qs)=>match stepsA Γ ans l σ with
   |none=>none
   |some (σ',fps,ps)=>if pairsOk l fps draw then some (.norm,⟨keep live σ'.tm,σ'.bx⟩,lo,qs++ps) else none
 |.seq a b,σ,lo=>match Aw Γ ans nIn fu a σ lo with
  |some (.norm,σ',lo,ps)=>match Aw Γ ans nIn fu b σ' lo with
   |some (e,Yi,lo,qs)=>some (e,Yi,lo,ps++qs)
   |none=>none
  |r=>r
 |.cond c a b,σ,lo=>match σ.ev c with
  |some (.v (.bool t))=>if t then Aw Γ ans nIn fu a σ lo else Aw Γ ans nIn fu b σ lo
  |_=>none
 |.block id b,σ,lo=>match Aw Γ ans nIn fu b σ lo with
  |some (.exit j,σ',lo,ps)=>if j==id then some (.norm,σ',lo,ps) else some (.exit j,σ',lo,ps)
  |r=>r
 |.loop b,σ,o::lo=>some (o.1,o.2,lo,[run Γ nIn fu (.loop b) σ=some o])
 |.loop b,σ,[]=>zaE nIn (fun σ lo=>Aw Γ ans nIn fu b σ lo) fu σ []
 |.rf f ps live as b,σ,o::lo=>some (o.1,o.2,lo,[run Γ nIn fu (.rf f ps live as b) σ=some o])
 |.rf f ps live as b,σ,[]=>match run Γ nIn fu (.rf f ps live as b) σ with
  |some (e,σ')=>some (e,σ',[],[])
  |none=>none
 |.exit id,σ,lo=>some (.exit id,σ,lo,[])
 |.ret,σ,lo=>some (.ret,σ,lo,[])
 |.stuck,_,_=>none
theorem gu :∀{m:C} {σ σ':St} {lo lo':List (Ex×St)} {e:Ex} {ps:List Prop},Aw Γ ans nIn fu m σ lo=some (e,σ',lo',ps)->kK ps->run Γ nIn fu m σ=some (e,σ'):=by
 intro m;induction m with
 |skip=>intro σ σ' lo lo' e ps h _;simp only [Aw,qag,qaI] at h;obtain ⟨rfl,rfl,_⟩:=h;rfl
 |exit id=>intro σ σ' lo lo' e ps h _;simp only [Aw,qag,qaI] at h;obtain ⟨rfl,rfl,_⟩:=h;rfl
 |ret=>intro σ σ' lo lo' e ps h _;simp only [Aw,qag,qaI] at h;obtain ⟨rfl,rfl,_⟩:=h;rfl
 |stuck=>grind[Aw]
 |reg gh draw l live=>
  intro σ σ' lo lo' e ps h n;simp only [Aw] at h;split at h
  ·grind
  rename_i σ1 J L;split at h
  ·grind
  rename_i σ2 H F M;split at h;next y=>cases h;obtain ⟨O,P⟩:=fV.1 n;simp only [run,zu L O,BK M P,y,if_true]
  grind
 |seq a b iha ihb=>
  intro σ σ' lo lo' e ps h n;simp only [Aw] at h;split at h
  ·rename_i σ1 A B q;split at h
   ·rename_i Q σ2 N F S;cases h
    grind[fV,run]
   grind
  rename_i w;have q:=iha h n;simp only [run,q];cases e<;>grind
 |cond c a b iha ihb=>
  intro σ σ' lo lo' e ps h n;simp only [Aw] at h;split at h
  ·rename_i t E;cases t with
   |true=>simp only [if_true] at h;simp only [run,E,if_true];grind
   |false=>simp only [qaP,if_false] at h;simp only [run,E,qaP,if_false];grind
  grind
 |block id b ih=>
  intro σ σ' lo lo' e ps h n;simp only [Aw] at h;split at h
  ·rename_i j σ1 A B q;by_cases u:(j==id)=true;·rw [if_pos u] at h;cases h;simp only [run,ih q n,if_pos u]
   rw [if_neg u] at h;cases h;simp only [run,ih q n,if_neg u]
  rename_i w;have q:=ih h n;simp only [run,q];cases e<;>grind
 |loop b ih=>
  intro σ σ' lo lo' e ps h n;cases lo with
  |nil=>grind[Aw,run,FK]
  |cons o lo=>simp only [Aw,qag,qaI] at h;obtain ⟨rfl,rfl,_,rfl⟩:=h;exact n.1
 |rf f F live as b _ _=>
  intro σ σ' lo lo' e ps h n;cases lo with
  |nil=>
   simp only [Aw] at h
   grind
  |cons o lo=>simp only [Aw,qag,qaI] at h;obtain ⟨rfl,rfl,_,rfl⟩:=h;exact n.1
def ND (Γ:Gam)(fu:Nat)(ans:List (Nat×Ans))(args:List X)(inb:List Bx):Option (Option (X×List Bx)×List Prop):=
 match args with
 |.yl i::as=>match inb[i]? with
  |some (.loop .ready none tm ps assign body)=>
   match Me ps as tm with
   |none=>none
   |some tm=>match Aw Γ ans inb.length fu assign ⟨tm,inb⟩ [] with
    |some (.norm,σ,_,ps1)=>match zcj σ.bx i with
     |none=>none
     |some bx=>match Aw Γ ans inb.length fu body ⟨σ.tm,bx⟩ [] with
      |none=>none
      |some (.norm,σ,_,ps2)=>some ((jy σ.bx i .busy .ready none).bind fun bx=>pack inb.length (.v (.bool true)) bx,ps1++ps2)
      |some (e,σ,_,ps2)=>some ((jy σ.bx i .busy .done (some e)).bind fun bx=>pack inb.length (.v (.bool false)) bx,ps1++ps2)
    |_=>none
  |_=>none
 |_=>none
theorem NC (h:ND Γ fu ans args inb=some (r,ps))(hp:kK ps):zmC Γ fu args inb=r:=by
 unfold ND at h;split at h
 ·rename_i i as;split at h
  ·rename_i tm H f n u;split at h
   ·grind
   rename_i E hz;split at h
   ·rename_i σ1 w A q;split at h
    ·grind
    rename_i F a;split at h
    ·grind
    next σ2 y B j=>cases h;obtain ⟨l,m⟩:=fV.1 hp;simp only [zmC,u,hz,gu q l,a,gu j m]
    rename_i j;cases h;obtain ⟨l,m⟩:=fV.1 hp;simp only [zmC,u,hz,gu q l,a,gu j m]
   grind
  grind
 grind
theorem BI (h:ND (callF T ext n) n ans args inb=some (r,ps))(hp:kK ps):
  callF T ext (n+1) .yl args inb=r:=by
 grind[callF,NC]
def zs7 (Γ:Gam)(fu:Nat)(ans:List (Nat×Ans))(lo:List (Ex×St))(fd:Fun)(args:List X)(inb:List Bx):Option (Option (X×List Bx)×List Prop):=
 if args.length==fd.np then
  match Aw Γ ans inb.length fu fd.body ⟨zipTm 0 args,inb⟩ lo with
  |some (.norm,σ,_,ps)|some (.ret,σ,_,ps)=>some ((resX σ fd.res).bind fun xs=>pack inb.length (packRes xs) σ.bx,ps)
  |_=>none
 else none
theorem Xy {fd:Fun}(h:zs7 Γ fu ans lo fd args inb=some (r,ps))(hp:kK ps):zmD Γ fu fd args inb=r:=by
 unfold zs7 at h;unfold zmD;split at h
 ·rename_i f;rw [if_pos f];split at h;next a=>cases h;rw [gu a hp]
  next a=>cases h;rw [gu a hp]
  grind
 grind
def O9 (T:FuncId->Option Fun)(ext:Ext)(n:Nat)(ans:List (Nat×Ans))(lo:List (Ex×St))(f:FuncId)(args:List X)(inb:List Bx):Option (Option (X×List Bx)×List Prop):=
 match ext f with
 |some _=>none
 |none=>match T f with
  |some fd=>zs7 (callF T ext n) n ans lo fd args inb
  |none=>none
theorem qK {f:FuncId}(h:O9 T ext n ans lo f args inb=some (r,ps))(hp:kK ps):
  callF T ext (n+1) (.fn f) args inb=r:=by
 grind[O9,callF,Xy]
theorem dV {r:Option (Ex×St)}(hc:canon nIn τ=some σ)(hf:f σ=some (.norm,τ'))(hr:iter nIn f n τ'=r):iter nIn f (n+1) τ=r:=by grind[iter]
theorem bF {e:Ex}(hc:canon nIn τ=some σ)(hf:f σ=some (e,τ'))(he:e≠.norm):iter nIn f (n+1) τ=some (e,τ'):=by simp_all[iter]
def bodyOf (T:FuncId->Option Fun)(f:FuncId):C:=match T f with
 |some fd=>fd.body
 |none=>.skip
end Go.Em
