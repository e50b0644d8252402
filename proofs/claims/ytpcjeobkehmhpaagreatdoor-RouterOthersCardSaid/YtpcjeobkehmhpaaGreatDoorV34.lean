/-.-/
import Derived.Test.YtpcjeobkehmhpaaGreatDoorV33
set_option linter.all false
namespace Go.Proofs.YtpcjeobkehmhpaaGreatDoor
open Go Go.Em Go.Ab
set_option maxRecDepth 100000
namespace Ct
theorem FC (s:qaY)(hs:s.size<=1000000)(c d:Int)(hc0:0<=c)(hc1:c<=97)(hd0:-32<=d)(hd1:d<=32)(hcd:0<=c+d):∃t:qaY,t.size<=1000000/\∃B,∀N,B<=N->Gam.aC (ah tab ext N) 282 [aF s,.v (.int .u8 c),num d]=some (aF t):=by
 have j:Af [aF s,.v (.int .u8 c),num d] []=some (.v (.string ⟨(s.data.toList.map (shB c d)).toArray⟩),[]):=by show (if 0<=c/\c<=97/\-32<=d/\d<=32/\0<=c+d/\s.size<=1000000 then _ else _)=_;rw [if_pos ⟨hc0,hc1,hd0,hd1,hcd,hs⟩]
 obtain ⟨B,a⟩:=gJ (f:=282) (g:=Af) rfl j;exact ⟨_,by grind[bsz,bln],B,fun N h=>aZ (a N h) rfl⟩
theorem RZ {f:FuncId}{s t:qaY}{B:Nat}(h:∀M,B<=M->ah tab ext (M+1) (.fn f) [aF s] []=some (aF t,[])):∃B,∀N,B<=N->ah tab ext N (.fn f) [aF s] []=some (aF t,[]):=⟨B+1,fun N a=>by obtain ⟨M,rfl⟩:=pR_ N<;>simp_all⟩
def zxf:List Ctr:=[mkC 240 [.s] [] none [(.s,[])]]
theorem zj9:ay T Gm zxf:=.one (dH (fun o m=>by rw [qaa.1 m];exact ⟨rfl,rfl⟩) fun y q j l=>by obtain ⟨x,rfl,n⟩:=zd9 j;obtain rfl:=nK l;obtain ⟨s,rfl,h⟩:=isS n;obtain ⟨t,u,B,a⟩:=FC s (by omega) 65 32 (by decide) (by decide) (by decide) (by decide) (by decide);exact ⟨_,qaa.2 rfl,aF t,[],⟨t,rfl,by grind[bT]⟩,trivial,RZ (B:=B) fun M f=>caA [(4,.p (aF t))] (pf1 (a M f)) (r:=some (aF t,[]))⟩)
def zxe:List Ctr:=[mkC 241 [.s] [] none [(.s,[])]]
theorem zj8:ay T Gm zxe:=.one (dH (fun o m=>by rw [qaa.1 m];exact ⟨rfl,rfl⟩) fun y q j l=>by obtain ⟨x,rfl,n⟩:=zd9 j;obtain rfl:=nK l;obtain ⟨s,rfl,h⟩:=isS n;obtain ⟨t,u,B,a⟩:=FC s (by omega) 97 (-32) (by decide) (by decide) (by decide) (by decide) (by decide);exact ⟨_,qaa.2 rfl,aF t,[],⟨t,rfl,by grind[bT]⟩,trivial,RZ (B:=B) fun M f=>caA [(4,.p (aF t))] (pf1 (a M f)) (r:=some (aF t,[]))⟩)
theorem zxx (n a b c d:Nat)(ha:a<256)(h:¬((Lib.decodeN n a b c d).1=65533/\(Lib.decodeN n a b c d).2<=1)):(Lib.encodeRune ((Lib.decodeN n a b c d).1:Int)).length=(Lib.decodeN n a b c d).2:=by
 have f:∀r:Int,(Lib.encodeRune r).length=(Lib.encodeRuneZ r).length:=fun r=>qaD ..;rw [f]
 revert h
 unfold Lib.decodeN
 repeat' split
 all_goals intro h
 all_goals first
  |exact absurd ⟨rfl,by decide⟩ h
  |(dsimp only at h ⊢
    first
     |rw [Lib.encodeRuneZ_one (by omega) (by omega)];rfl
     |rw [Lib.encodeRuneZ_two (by omega) (by omega)];rfl
     |rw [Lib.encodeRuneZ_three (by omega)];rfl
     |grind[Lib.encodeRuneZ_four])
theorem zfh (s:qaY)(h:1<=s.size):∃c w:Nat,(c<=1114111/\1<=w/\w<=s.size/\(¬(c=65533/\w<=1)->(Lib.encodeRune (c:Int)).length=w))/\∃B,∀N,B<=N->Gam.aC (ah tab ext N) 301 [aF s]=some (.tup [.v (.int .i32 (Int.ofNat c)),nat w]):=by
 have a:¬s.size=0:=by omega
 obtain ⟨B,l⟩:=gJ (f:=301) (g:=DK) (args:=[aF s]) rfl rfl;have j:(wU s).1<=1114111/\1<=(wU s).2/\(wU s).2<=s.size/\(¬((wU s).1=65533/\(wU s).2<=1)->(Lib.encodeRune ((wU s).1:Int)).length=(wU s).2):=by unfold wU;rw [if_neg a,Lib.decode_at];have:=Nw (s.size-0) (s.get! 0).toNat (s.get! (0+1)).toNat (s.get! (0+2)).toNat (s.get! (0+3)).toNat (by omega);exact ⟨Lib.decodeN_rune_le _ _ _ _ _ (UInt8.toNat_lt _),this.1,by omega,zxx _ _ _ _ _ (UInt8.toNat_lt _)⟩
 exact ⟨(wU s).1,(wU s).2,j,B,fun N m=>aZ (l N m) rfl⟩
def zh2:C->List (C×C)
 |.seq a b|.cond _ a b=>zh2 a++zh2 b
 |.block _ b|.loop b=>zh2 b
 |.rf _ _ _ a b=>(a,b)::(zh2 a++zh2 b)
 |_=>[]
noncomputable def ptA:C:=((zh2 (Ht tab 234)).getD 0 (.skip,.skip)).1
noncomputable def ptB:C:=((zh2 (Ht tab 234)).getD 0 (.skip,.skip)).2
noncomputable def Eu:Bx:=.loop .ready none [(4,.ptr 1 0 0)] [12,13] ptA ptB
noncomputable abbrev nG (w:Bool) (n:Nat) (outs:qaX):List Bx:=match w with
 |false=>[Eu,.var [.bs 2 0 n],.row 1 outs]
 |true=>[Eu,.var [.bs 3 0 n],.dead,.row 1 outs]
noncomputable abbrev ptH (s:qaY) (p:Bool×Nat×List Int):St:=⟨[(0,.yl 0),(1,.dp [aF s]),(3,nat p.2.1)],nG p.1 p.2.2.length (p.2.2.map fun z=>[num z])⟩
theorem zvN {r:Int}(h1:0<=r)(h2:r<=1114111):IntKind.i64.wrap r=r:=by grind[IntKind.wrap_i64]
theorem Y6 (N k n:Nat)(r:Int)(outs:qaX)(h0:0<=r)(h1:r<=1114111)(hn:n=outs.length)(hn2:n<=1000000):ah tab ext (N+1) .yl [.yl 0,nat k,.v (.int .i32 r)] [Eu,.var [.bs 2 0 n],.row 1 outs]=some (aj true,[Eu,.var [.bs 3 0 (n+1)],.dead,.row 1 (outs++[[num r]])]):=by have a:0+n=outs.length/\dh (n+[[num r]].length) (7+1)=true/\rF 1 (X.sl true 1 [[num r]]).rows=false:=⟨by omega,iL (by grind) (by grind),rfl⟩;exact yiA [(16,.i r),(18,.app)] (pf2 (zvN h0 h1) a)
noncomputable abbrev ptN (w:Bool) (n:Nat) (outs:qaX):List Bx:=match w with
 |false=>[Eu,.var [.bs 3 0 n],.dead,.row 1 outs]
 |true=>[Eu,.var [.bs 4 0 n],.dead,.dead,.row 1 outs]
section
variable (s:qaY) (k n c sz k2:Nat) (outs Vy:qaX) (M:Nat)
theorem zny (w:Bool)(h1:decide (Int.ofNat k<Int.ofNat s.size)=false):run (ah tab ext M) 3 M (aH 300 0) ⟨[(0,.yl 0),(1,.dp [aF s]),(3,nat k)],nG w n outs⟩=some (.exit 0,⟨[(0,.yl 0),(1,.dp [aF s]),(3,nat k),(9,aj false)],nG w n outs⟩):=by
 cases w with
 |false=>exact ruA [(9,.b false)] (pf1 h1)
 |true=>exact ruA [(9,.b false)] (pf1 h1)
theorem znz (w:Bool)(h1:decide (Int.ofNat k<Int.ofNat s.size)=true)(h13:(Int.ofNat k).toNat<=s.size/\s.size<=s.size)(hd:Gam.aC (ah tab ext M) 301 [aF (s.extract (Int.ofNat k).toNat s.size)]=some (.tup [.v (.int .i32 (Int.ofNat c)),nat sz]))(h18:(Int.ofNat c==65533)=true)(h21:decide (Int.ofNat sz<=1)=true):
  run (ah tab ext M) 3 M (aH 300 0) ⟨[(0,.yl 0),(1,.dp [aF s]),(3,nat k)],nG w n outs⟩=some (.ret,⟨[(0,.yl 0),(1,.dp [aF s]),(3,nat k),(5,nat sz),(29,aj true)],nG w n outs⟩):=by
 cases w with
 |false=>exact ruA [(9,.b true),(13,.cut),(14,.p (.tup [.v (.int .i32 (Int.ofNat c)),nat sz])),(18,.b true),(21,.b true)] (pf5 h1 h13 hd h18 h21)
 |true=>exact ruA [(9,.b true),(13,.cut),(14,.p (.tup [.v (.int .i32 (Int.ofNat c)),nat sz])),(18,.b true),(21,.b true)] (pf5 h1 h13 hd h18 h21)
theorem zif (w:Bool)(h1:decide (Int.ofNat k<Int.ofNat s.size)=true)(h13:(Int.ofNat k).toNat<=s.size/\s.size<=s.size)(hd:Gam.aC (ah tab ext M) 301 [aF (s.extract (Int.ofNat k).toNat s.size)]=some (.tup [.v (.int .i32 (Int.ofNat c)),nat sz]))(h18:(Int.ofNat c==65533)=true/\decide (Int.ofNat sz<=1)=false\/(Int.ofNat c==65533)=false)
  (hy:ah tab ext M .yl [.yl 0,nat k,.v (.int .i32 (Int.ofNat c))] (nG false n outs)=some (aj true,ptN false (n+1) Vy)) (hk:IntKind.i64.wrap (Int.ofNat k+Int.ofNat sz)=Int.ofNat k2):
  run (ah tab ext M) 3 M (aH 300 0) ⟨[(0,.yl 0),(1,.dp [aF s]),(3,nat k)],nG w n outs⟩=some (.norm,⟨[(0,.yl 0),(1,.dp [aF s]),(3,nat k2)],ptN w (n+1) Vy⟩):=by
 rcases h18 with ⟨h18,a⟩|h18
 ·cases w with
  |false=>exact ruA [(9,.b true),(13,.cut),(14,.p (.tup [.v (.int .i32 (Int.ofNat c)),nat sz])),(18,.b true),(21,.b false),(27,.r (aj true) [Eu,.var [.bs 3 0 (n+1)],.dead,.row 1 Vy]),(32,.i (Int.ofNat k2))] (pf7 h1 h13 hd h18 a hy hk)
  |true=>exact ruA [(9,.b true),(13,.cut),(14,.p (.tup [.v (.int .i32 (Int.ofNat c)),nat sz])),(18,.b true),(21,.b false),(27,.r (aj true) [Eu,.var [.bs 3 0 (n+1)],.dead,.row 1 Vy]),(32,.i (Int.ofNat k2))] (pf7 h1 h13 hd h18 a hy hk)
 cases w with
 |false=>exact ruA [(9,.b true),(13,.cut),(14,.p (.tup [.v (.int .i32 (Int.ofNat c)),nat sz])),(18,.b false),(27,.r (aj true) [Eu,.var [.bs 3 0 (n+1)],.dead,.row 1 Vy]),(32,.i (Int.ofNat k2))] (pf6 h1 h13 hd h18 hy hk)
 |true=>exact ruA [(9,.b true),(13,.cut),(14,.p (.tup [.v (.int .i32 (Int.ofNat c)),nat sz])),(18,.b false),(27,.r (aj true) [Eu,.var [.bs 3 0 (n+1)],.dead,.row 1 Vy]),(32,.i (Int.ofNat k2))] (pf6 h1 h13 hd h18 hy hk)
theorem zdy (w:Bool):canon 3 ⟨[(0,.yl 0),(1,.dp [aF s]),(3,nat k)],ptN w n outs⟩=some ⟨[(0,.yl 0),(1,.dp [aF s]),(3,nat k)],nG true n outs⟩:=by cases w<;>kernel_rfl
end
noncomputable abbrev PtI (s:qaY) (p:Bool×Nat×List Int):Prop:=p.2.1<=s.size/\p.2.2.length<=p.2.1/\(p.2.2.flatMap Lib.encodeRune).length<=p.2.1/\∀z,z∈p.2.2->0<=z/\z<=1114111
theorem zie (s:qaY)(hs:s.size<=1000000){τ:St}(hτ:canon 3 τ=some (ptH s (false,0,[]))):∃e σ' B,(∃(w:Bool) (zs:List Int) (q:List (Nat×X)),(e=.ret\/e=.exit 0)/\(σ'=⟨q,nG w zs.length (zs.map fun z=>[num z])⟩)/\(∃k:Nat,q=[(0,.yl 0),(1,.dp [aF s]),(3,nat k),(9,aj false)]/\e=.exit 0\/∃(w2:Nat),q=[(0,.yl 0),(1,.dp [aF s]),(3,nat k),(5,nat w2),(29,aj true)]/\e=.ret)/\zs.length<=s.size/\(zs.flatMap Lib.encodeRune).length<=s.size)/\∀M,B<=M->run (ah tab ext M) 3 M (.loop (aH 300 0)) τ=some (e,σ'):=by
 refine jI (nIn:=3) (b:=aH 300 0) (H:=ptH s) (I:=PtI s) (μ:=fun p=>s.size-p.2.1) (Q:=fun e σ'=>∃(w:Bool) (zs:List Int) (q:List (Nat×X)),(e=.ret\/e=.exit 0)/\(σ'=⟨q,nG w zs.length (zs.map fun z=>[num z])⟩)/\(∃k:Nat,q=[(0,.yl 0),(1,.dp [aF s]),(3,nat k),(9,aj false)]/\e=.exit 0\/∃(w2:Nat),q=[(0,.yl 0),(1,.dp [aF s]),(3,nat k),(5,nat w2),(29,aj true)]/\e=.ret)/\zs.length<=s.size/\(zs.flatMap Lib.encodeRune).length<=s.size)
  (fun p Z=>?_) (a:=(false,0,[])) ⟨Nat.zero_le _,Nat.le_refl _,Nat.le_refl _,fun z hz=>by grind⟩ hτ
 obtain ⟨w,k,zs⟩:=p;obtain ⟨V,i2,i3,i4⟩:=Z;dsimp only at V i2 i3 i4 ⊢;by_cases U:k<s.size
 ·have P:=aK U;have j:(Int.ofNat k).toNat<=s.size/\s.size<=s.size:=⟨V,Nat.le_refl _⟩;have pa:(s.extract k s.size).size=s.size-k:=by rw [ByteArray.size_extract];omega
  obtain ⟨c,f,⟨c1,c2,c3,c4⟩,B,u⟩:=zfh (s.extract k s.size) (by omega);have u:∀N,B<=N->Gam.aC (ah tab ext N) 301 [aF (s.extract (Int.ofNat k).toNat s.size)]=some (.tup [.v (.int .i32 (Int.ofNat c)),nat f]):=u;by_cases l:c=65533/\f<=1
  ·have A:(Int.ofNat c==65533)=true:=by rw [l.1];rfl
   have E:decide (Int.ofNat f<=1)=true:=by rw [qaF,qaJ];omega
   exact .inr ⟨.ret,⟨[(0,.yl 0),(1,.dp [aF s]),(3,nat k),(5,nat f),(29,aj true)],nG w zs.length (zs.map fun z=>[num z])⟩,B,(by grind),⟨w,zs,_,.inl rfl,rfl,⟨k,.inr ⟨f,rfl,rfl⟩⟩,by omega,by omega⟩,fun M S=>znz s k _ c f _ M w P j (u M S) A E⟩
  have m:(zs.map fun z:Int=>[num z]).length=zs.length:=qaD ..;have L:(0:Int)<=Int.ofNat c:=by simp only [qaJ];omega
  have O:Int.ofNat c<=1114111:=by simp;omega
  have W:=fun N=>Y6 N k zs.length (Int.ofNat c) (zs.map fun z=>[num z]) L O m.symm (by omega);have n:(zs.map fun z:Int=>[num z])++[[num (Int.ofNat c)]]=(zs++[Int.ofNat c]).map fun z=>[num z]:=by simp
  have J:zs.length+1=(zs++[Int.ofNat c]).length:=by simp
  rw [n] at W;have Y:PtI s (true,k+f,zs++[Int.ofNat c]):=by
   refine ⟨by grind,by grind,?_,fun z hz=>?_⟩
   ·grind
   ·grind
  have F:IntKind.i64.wrap (Int.ofNat k+Int.ofNat f)=Int.ofNat (k+f):=by rw [IntKind.wrap_i64];simp only [qaJ];omega
  have y:(Int.ofNat c==65533)=true/\decide (Int.ofNat f<=1)=false\/(Int.ofNat c==65533)=false:=by
   by_cases h:c=65533
   ·grind
   ·grind
  refine .inl ⟨⟨[(0,.yl 0),(1,.dp [aF s]),(3,nat (k+f))],ptN w (zs.length+1) ((zs++[Int.ofNat c]).map fun z=>[num z])⟩,(true,k+f,zs++[Int.ofNat c]),B+1,fun M S=>?_,?_,Y,by grind⟩;·obtain ⟨M,rfl⟩:∃M',M=M'+1:=⟨M-1,by omega⟩;exact zif s k _ c f (k+f) _ _ (M+1) w P j (u (M+1) (by omega)) y (W M) F
  rw [J]<;>grind[zdy]
 exact .inr ⟨.exit 0,⟨[(0,.yl 0),(1,.dp [aF s]),(3,nat k),(9,aj false)],nG w zs.length (zs.map fun z=>[num z])⟩,0,(by grind),⟨w,zs,_,.inr rfl,rfl,⟨k,.inl ⟨rfl,rfl⟩⟩,by omega,by omega⟩,fun M _=>zny s k _ _ M w (aN U)⟩
theorem Ve (N:Nat)(s:qaY):Gam.aC (ah tab ext (N+2)) 272 [aF s]=some (.fn 300 [.dp [aF s]]):=by kernel_rfl
section
variable (s:qaY) (n k w2:Nat) (outs:qaX) (M:Nat)
theorem znw (h:run (ah tab ext M) 3 M (.loop (aH 300 0)) ⟨[(0,.yl 0),(1,.dp [aF s]),(3,nat 0)],nG false 0 []⟩=some (.exit 0,⟨[(0,.yl 0),(1,.dp [aF s]),(3,nat k),(9,aj false)],nG false n outs⟩)):ah tab ext (M+1) (.fn 300) [.yl 0,.dp [aF s]] (nG false 0 [])=some (.tup [],nG false n outs):=
 caB [] [(.exit 0,⟨[(0,.yl 0),(1,.dp [aF s]),(3,nat k),(9,aj false)],nG false n outs⟩)] (pf1 h)
theorem znv (h:run (ah tab ext M) 3 M (.loop (aH 300 0)) ⟨[(0,.yl 0),(1,.dp [aF s]),(3,nat 0)],nG false 0 []⟩=some (.exit 0,⟨[(0,.yl 0),(1,.dp [aF s]),(3,nat k),(9,aj false)],nG true n outs⟩)):ah tab ext (M+1) (.fn 300) [.yl 0,.dp [aF s]] (nG false 0 [])=some (.tup [],nG true n outs):=
 caB [] [(.exit 0,⟨[(0,.yl 0),(1,.dp [aF s]),(3,nat k),(9,aj false)],nG true n outs⟩)] (pf1 h)
theorem znu (h:run (ah tab ext M) 3 M (.loop (aH 300 0)) ⟨[(0,.yl 0),(1,.dp [aF s]),(3,nat 0)],nG false 0 []⟩=some (.ret,⟨[(0,.yl 0),(1,.dp [aF s]),(3,nat k),(5,nat w2),(29,aj true)],nG false n outs⟩)):ah tab ext (M+1) (.fn 300) [.yl 0,.dp [aF s]] (nG false 0 [])=some (.tup [],nG false n outs):=
 caB [] [(.ret,⟨[(0,.yl 0),(1,.dp [aF s]),(3,nat k),(5,nat w2),(29,aj true)],nG false n outs⟩)] (pf1 h)
theorem znt (h:run (ah tab ext M) 3 M (.loop (aH 300 0)) ⟨[(0,.yl 0),(1,.dp [aF s]),(3,nat 0)],nG false 0 []⟩=some (.ret,⟨[(0,.yl 0),(1,.dp [aF s]),(3,nat k),(5,nat w2),(29,aj true)],nG true n outs⟩)):ah tab ext (M+1) (.fn 300) [.yl 0,.dp [aF s]] (nG false 0 [])=some (.tup [],nG true n outs):=
 caB [] [(.ret,⟨[(0,.yl 0),(1,.dp [aF s]),(3,nat k),(5,nat w2),(29,aj true)],nG true n outs⟩)] (pf1 h)
noncomputable def ztE:St:=⟨[(4,.ptr 0 0 0),(11,.fn 300 [.dp [aF s]])],[.var [.bs 1 0 0],.row 1 []]⟩
theorem zns (N:Nat)(hy:ah tab ext N (.fn 300) [.yl 0,.dp [aF s]] (nG false 0 [])=some (.tup [],nG false n outs)):run (ah tab ext N) 0 N (.rf (.t 11) [12,13] [4] ptA ptB) (ztE s)=some (.norm,⟨[(4,.ptr 0 0 0),(11,.fn 300 [.dp [aF s]])],[.var [.bs 1 0 n],.row 1 outs,.dead]⟩):=
 Vk (g:=300) (caps:=[.dp [aF s]]) (y:=.tup []) (outb:=nG false n outs) (q:=(.tup [],[.var [.bs 1 0 n],.row 1 outs,.loop .ready none [(4,.ptr 0 0 0)] [12,13] ptA ptB],[2,0,1])) hy (by kernel_rfl) (by kernel_rfl) (by kernel_rfl)
theorem znr (N:Nat)(hy:ah tab ext N (.fn 300) [.yl 0,.dp [aF s]] (nG false 0 [])=some (.tup [],nG true n outs)):run (ah tab ext N) 0 N (.rf (.t 11) [12,13] [4] ptA ptB) (ztE s)=some (.norm,⟨[(4,.ptr 0 0 0),(11,.fn 300 [.dp [aF s]])],[.var [.bs 3 0 n],.dead,.dead,.row 1 outs]⟩):=
 Vk (g:=300) (caps:=[.dp [aF s]]) (y:=.tup []) (outb:=nG true n outs) (q:=(.tup [],[.var [.bs 3 0 n],.dead,.loop .ready none [(4,.ptr 0 0 0)] [12,13] ptA ptB,.row 1 outs],[2,0,1])) hy (by kernel_rfl) (by kernel_rfl) (by kernel_rfl)
theorem znx (w:Bool)(hv:Gam.aC (ah tab ext M) 198 [aF s]=some (aj true))(hr:Gam.aC (ah tab ext M) 272 [aF s]=some (.fn 300 [.dp [aF s]]))(hy:ah tab ext M (.fn 300) [.yl 0,.dp [aF s]] (nG false 0 [])=some (.tup [],nG w n outs))(hn:n=outs.length):
  Gam.aC (ah tab ext (M+1)) 234 [aF s]=some (.tup [.sl false 1 outs,num 0]):=by
 have a:X.data [.row 1 outs] false (.tup [.bs 0 0 n,num 0])=some (.tup [.sl false 1 outs,num 0]):=by simp only [X.data,eG,jZ (bx:=[.row 1 outs]) (i:=0) (sz:=1) (es:=outs) (n:=n) rfl hn,qan,num]
 cases w with
 |false=>exact eU [(8,.p (aj true)),(11,.p (.fn 300 [.dp [aF s]]))] [(.norm,⟨[(4,.ptr 0 0 0),(11,.fn 300 [.dp [aF s]])],[.var [.bs 1 0 n],.row 1 outs,.dead]⟩)] (pf3 hv hr (zns s n outs M hy)) (x:=.tup [.bs 0 0 n,num 0]) (bx:=[.row 1 outs]) (by kernel_rfl) a
 |true=>exact eU [(8,.p (aj true)),(11,.p (.fn 300 [.dp [aF s]]))] [(.norm,⟨[(4,.ptr 0 0 0),(11,.fn 300 [.dp [aF s]])],[.var [.bs 3 0 n],.dead,.dead,.row 1 outs]⟩)] (pf3 hv hr (znr s n outs M hy)) (x:=.tup [.bs 0 0 n,num 0]) (bx:=[.row 1 outs]) (by kernel_rfl) a
end
theorem OQ (s:qaY)(hs:s.size<=1000000):∃(e:Int) (t:Bool) (zs:List Int),(0<=e/\e<=100)/\zs.length<=1000000/\(zs.flatMap Lib.encodeRune).length<=1000000/\∃B,∀N,B<=N->Gam.aC (ah tab ext N) 234 [aF s]=some (.tup [.sl t 1 (zs.map fun z=>[num z]),num e]):=by
 obtain ⟨g,a,l⟩:∃g,∃B,∀N,B<=N->Gam.aC (ah tab ext N) 198 [aF s]=some (aj g):=by
  have A:s.size<281474976710656:=by omega
  obtain ⟨g,u⟩:∃g,oQ [aF s] []=some (aj g,[]):=by refine ⟨Lib.validD s.data.toList,?_⟩;show (if s.size<=9223372036854775807 then some (X.v (Value.bool (Lib.validD s.data.toList)),[]) else none:Option (X×List Bx))=_;rw [if_pos (by omega)];rfl
  obtain ⟨B,n⟩:=gJ (f:=146) (g:=oQ) rfl u;refine ⟨g,B+1,fun N h=>?_⟩;obtain ⟨M,rfl⟩:=pR_ N;exact puA [(4,.p (aj g))] (pf1 (aZ (n M (by omega)) rfl)) (aj g)
 cases g with
 |false=>exact ⟨16,false,[],by decide,Nat.zero_le _,Nat.zero_le _,a+1,fun N h=>by obtain ⟨M,rfl⟩:=pR_ N;exact puA [(8,.p (aj false))] (pf1 (l M (by omega))) (.tup [.sl true 1 [],num 16])⟩
 |true=>
  obtain ⟨e,σ',m,⟨w,zs,q,_,rfl,y,H,J⟩,j⟩:=zie s hs (τ:=⟨[(0,.yl 0),(1,.dp [aF s]),(3,nat 0)],nG false 0 []⟩) (by kernel_rfl);refine ⟨0,false,zs,by decide,by omega,by omega,a+m+3,fun N h=>?_⟩;obtain ⟨M,rfl⟩:∃M,N=M+1+1:=⟨N-2,by omega⟩;have j:=j M (by omega);have E:ah tab ext (M+1) (.fn 300) [.yl 0,.dp [aF s]] (nG false 0 [])=some (.tup [],nG w zs.length (zs.map fun z=>[num z])):=by
   obtain ⟨k,⟨rfl,rfl⟩|⟨F,rfl,rfl⟩⟩:=y
   ·cases w with
    |false=>grind[znw]
    |true=>grind[znv]
   cases w with
   |false=>grind[znu]
   |true=>grind[znt]
  obtain ⟨K,rfl⟩:=pR_ M;exact znx s _ _ (K+1+1) w (l _ (by omega)) (Ve _ s) E (qaD ..).symm
theorem XT (N:Nat)(s:qaY):Gam.aC (ah tab ext (N+2)) 233 [aF s]=some (.agg [num 4,num 0,num 0,aF s,.sl false 6 [],.sl false 7 []]):=by kernel_rfl
theorem zen (zs:List Int):intsOf (zs.map fun z=>[num z])=some zs:=by
 induction zs with
 |nil=>rfl
 |cons z r ih=>grind[intsOf,num]
theorem zhp (t:Bool)(zs:List Int)(h1:zs.length<=1000000)(h2:(zs.flatMap Lib.encodeRune).length<=1000000):∃(r:qaY) (e:Int),r.size<=1000000/\∃B,∀N,B<=N->Gam.aC (ah tab ext N) 235 [.sl t 1 (zs.map fun z=>[num z])]=some (.tup [aF r,num e]):=by
 have l:∃(r:qaY) (e:Int),r.size<=1000000/\qU [.sl t 1 (zs.map fun z=>[num z])] []=some (.tup [aF r,num e],[]):=by
  have e:qU [.sl t 1 (zs.map fun z=>[num z])] []=(match intsOf (zs.map fun z=>[num z]) with
   |some zs=>if zs.length<=1000000 then (if zs.all nH then some (.tup [.v (.string ⟨(zs.flatMap Lib.encodeRune).toArray⟩),.v (.int .i64 0)],[]) else some (.tup [.v (.string ⟨#[]⟩),.v (.int .i64 2)],[])) else none
   |none=>none):=rfl
  rw [e,zen];simp only [if_pos h1];split;·exact ⟨_,0,by grind[bsz],rfl⟩
  exact ⟨⟨#[]⟩,2,by decide,rfl⟩
 obtain ⟨r,e,h,m⟩:=l;obtain ⟨B,a⟩:=gJ (f:=235) (g:=qU) rfl m;exact ⟨r,e,h,B,fun N j=>aZ (a N j) rfl⟩
theorem zeW (zs:List Int)(lo hi:Nat):(((zs.take hi).drop lo).flatMap Lib.encodeRune).length<=(zs.flatMap Lib.encodeRune).length:=by
 have e:zs.flatMap Lib.encodeRune=((zs.take hi).take lo).flatMap Lib.encodeRune++(((zs.take hi).drop lo).flatMap Lib.encodeRune++(zs.drop hi).flatMap Lib.encodeRune):=by rw [<-qaM,<-List.flatMap_append,List.take_append_drop,<-List.flatMap_append,List.take_append_drop]
 grind
section
variable (d1 d2 d3:Int) (d4:qaY) (td t4:Bool) (d5 d6:qaX)
abbrev zeroV:List X:=[num 0,num 0,num 0,bD,.sl true 6 [],.sl true 7 []]
theorem zbg (k:Int)(N:Nat):ah tab ext (N+1) (.fn 176) [.ptr 0 0 0,num k] [.var [num d1,num d2,num d3,aF d4,.sl td 6 d5,.sl t4 7 d6,num 0]]=some (.agg zeroV,[.var [num d1,num d2,num d3,aF d4,.sl td 6 d5,.sl t4 7 d6,num k]]):=by kernel_rfl
variable (a1 a2 a3 b1 b2 b3 c1 c2 c3 e:Int) (a4 b4 c4:qaY) (a5 a6 b5 b6 c5 c6:qaX) (ta tb tc t1 t2 t3:Bool)
theorem UK (ha:a4.size<=1000000)(he:0<=e/\e<=100):∃(y:List X) (e2:Int),(0<=e2/\e2<=100)/\(y=zeroV\/∃r:qaY,r.size<=1000000/\y=[num 4,num 0,num 0,aF r,.sl false 6 [],.sl false 7 []])/\∃B,∀N,B<=N->ah tab ext N (.fn 182) [.ptr 0 0 0,.agg [num a1,num a2,num a3,aF a4,.sl ta 6 a5,.sl t1 7 a6],.agg [num b1,num b2,num b3,aF b4,.sl tb 6 b5,.sl t2 7 b6],.agg [num c1,num c2,num c3,aF c4,.sl tc 6 c5,.sl t3 7 c6]] [.var [num d1,num d2,num d3,aF d4,.sl td 6 d5,.sl t4 7 d6,num e]]=some (.agg y,[.var [num d1,num d2,num d3,aF d4,.sl td 6 d5,.sl t4 7 d6,num e2]]):=by
 have a:∀{y:List X} {e2:Int} {B:Nat},(∀M,B<=M->ah tab ext (M+1) (.fn 182) [.ptr 0 0 0,.agg [num a1,num a2,num a3,aF a4,.sl ta 6 a5,.sl t1 7 a6],.agg [num b1,num b2,num b3,aF b4,.sl tb 6 b5,.sl t2 7 b6],.agg [num c1,num c2,num c3,aF c4,.sl tc 6 c5,.sl t3 7 c6]] [.var [num d1,num d2,num d3,aF d4,.sl td 6 d5,.sl t4 7 d6,num e]]=some (.agg y,[.var [num d1,num d2,num d3,aF d4,.sl td 6 d5,.sl t4 7 d6,num e2]]))->∃B,∀N,B<=N->ah tab ext N (.fn 182) [.ptr 0 0 0,.agg [num a1,num a2,num a3,aF a4,.sl ta 6 a5,.sl t1 7 a6],.agg [num b1,num b2,num b3,aF b4,.sl tb 6 b5,.sl t2 7 b6],.agg [num c1,num c2,num c3,aF c4,.sl tc 6 c5,.sl t3 7 c6]] [.var [num d1,num d2,num d3,aF d4,.sl td 6 d5,.sl t4 7 d6,num e]]=some (.agg y,[.var [num d1,num d2,num d3,aF d4,.sl td 6 d5,.sl t4 7 d6,num e2]]):=fun {y e2 B} h=>⟨B+1,fun N hN=>by obtain ⟨M,rfl⟩:=pR_ N<;>simp_all⟩;cases m:(e !=0) with
 |true=>exact ⟨zeroV,e,he,.inl rfl,a (B:=0) fun M _=>caA [(20,.b true)] (pf1 m) (r:=some (.agg zeroV,[.var [num d1,num d2,num d3,aF d4,.sl td 6 d5,.sl t4 7 d6,num e]]))⟩
 |false=>
  have e0:e=0:=by simpa using m
  subst e0;have A:∀k M,1<=M->ah tab ext M (.fn 176) [.ptr 0 0 0,num k] [.var [num d1,num d2,num d3,aF d4,.sl td 6 d5,.sl t4 7 d6,num 0]]=some (.agg zeroV,[.var [num d1,num d2,num d3,aF d4,.sl td 6 d5,.sl t4 7 d6,num k]]):=fun k M l=>by obtain ⟨M,rfl⟩:∃M',M=M'+1:=⟨M-1,by omega⟩<;>simp_all[zbg]
  cases n:(a1 !=4) with
  |true=>exact ⟨zeroV,18,by decide,.inl rfl,a (B:=1) fun M l=>caA [(20,.b false),(25,.b true),(37,.r (.agg zeroV) [.var [num d1,num d2,num d3,aF d4,.sl td 6 d5,.sl t4 7 d6,num 18]])] (pf3 m n (A 18 M l)) (r:=some (.agg zeroV,[.var [num d1,num d2,num d3,aF d4,.sl td 6 d5,.sl t4 7 d6,num 18]]))⟩
  |false=>
   cases u:(b1 !=2) with
   |true=>exact ⟨zeroV,18,by decide,.inl rfl,a (B:=1) fun M l=>caA [(20,.b false),(25,.b false),(29,.b true),(37,.r (.agg zeroV) [.var [num d1,num d2,num d3,aF d4,.sl td 6 d5,.sl t4 7 d6,num 18]])] (pf4 m n u (A 18 M l)) (r:=some (.agg zeroV,[.var [num d1,num d2,num d3,aF d4,.sl td 6 d5,.sl t4 7 d6,num 18]]))⟩
   |false=>
    cases F:(c1 !=2) with
    |true=>exact ⟨zeroV,18,by decide,.inl rfl,a (B:=1) fun M l=>caA [(20,.b false),(25,.b false),(29,.b false),(34,.b true),(37,.r (.agg zeroV) [.var [num d1,num d2,num d3,aF d4,.sl td 6 d5,.sl t4 7 d6,num 18]])] (pf5 m n u F (A 18 M l)) (r:=some (.agg zeroV,[.var [num d1,num d2,num d3,aF d4,.sl td 6 d5,.sl t4 7 d6,num 18]]))⟩
    |false=>
     obtain ⟨E,S,j,er,z1,z2,O,f⟩:=OQ a4 ha;have Z:(j.map fun z:Int=>[num z]).length=j.length:=qaD ..;cases Q:(E !=0) with
     |true=>generalize (j.map fun z:Int=>[num z])=es at f;exact ⟨zeroV,16,by decide,.inl rfl,a (B:=O+1) fun M l=>caA [(20,.b false),(25,.b false),(29,.b false),(34,.b false),(41,.p (.tup [.sl S 1 es,num E])),(46,.b true),(48,.r (.agg zeroV) [.var [num d1,num d2,num d3,aF d4,.sl td 6 d5,.sl t4 7 d6,num 16]])] (pf7 m n u F (f M (by omega)) Q (A 16 M (by omega))) (r:=some (.agg zeroV,[.var [num d1,num d2,num d3,aF d4,.sl td 6 d5,.sl t4 7 d6,num 16]]))⟩
     |false=>
      cases P:decide (b2<0) with
      |true=>generalize (j.map fun z:Int=>[num z])=es at f;exact ⟨zeroV,2,by decide,.inl rfl,a (B:=O+1) fun M l=>caA [(20,.b false),(25,.b false),(29,.b false),(34,.b false),(41,.p (.tup [.sl S 1 es,num E])),(46,.b false),(52,.b true),(61,.r (.agg zeroV) [.var [num d1,num d2,num d3,aF d4,.sl td 6 d5,.sl t4 7 d6,num 2]])] (pf8 m n u F (f M (by omega)) Q P (A 2 M (by omega))) (r:=some (.agg zeroV,[.var [num d1,num d2,num d3,aF d4,.sl td 6 d5,.sl t4 7 d6,num 2]]))⟩
      |false=>
       cases Y:decide (b2>c2) with
       |true=>generalize (j.map fun z:Int=>[num z])=es at f;exact ⟨zeroV,2,by decide,.inl rfl,a (B:=O+1) fun M l=>caA [(20,.b false),(25,.b false),(29,.b false),(34,.b false),(41,.p (.tup [.sl S 1 es,num E])),(46,.b false),(52,.b false),(58,.b true),(61,.r (.agg zeroV) [.var [num d1,num d2,num d3,aF d4,.sl td 6 d5,.sl t4 7 d6,num 2]])] (pf9 m n u F (f M (by omega)) Q P Y (A 2 M (by omega))) (r:=some (.agg zeroV,[.var [num d1,num d2,num d3,aF d4,.sl td 6 d5,.sl t4 7 d6,num 2]]))⟩
       |false=>
        have k5:=of_decide_eq_false P;have k6:=of_decide_eq_false Y;obtain ⟨lo,L⟩:∃lo:Nat,(lo:Int)=min b2 j.length:=⟨(min b2 j.length).toNat,by omega⟩;obtain ⟨hi,J⟩:∃hi:Nat,(hi:Int)=min c2 j.length:=⟨(min c2 j.length).toNat,by omega⟩;obtain ⟨r,e3,hr,B2,q⟩:=zhp false ((j.take hi).drop lo) (by grind) (by grind[zeW]);have H:((j.map fun z:Int=>[num z]).take hi).drop lo=((j.take hi).drop lo).map fun z=>[num z]:=by rw [List.map_drop,List.map_take]
        rw [<-H] at q;rw [<-Z] at L J;have pa:(j.map fun z:Int=>[num z]).length<=1000000:=by omega
        clear H z2;generalize (j.map fun z:Int=>[num z])=es at f q L J pa;have U:(if false=true then if Int.ofNat es.length>b2 then Int.ofNat es.length else b2 else if Int.ofNat es.length<b2 then Int.ofNat es.length else b2)=Int.ofNat lo:=by rw [if_neg (by decide)];simp;split<;>omega
        have V:(if false=true then if Int.ofNat es.length>c2 then Int.ofNat es.length else c2 else if Int.ofNat es.length<c2 then Int.ofNat es.length else c2)=Int.ofNat hi:=by rw [if_neg (by decide)];simp;split<;>omega
        have W:(Int.ofNat lo).toNat<=(Int.ofNat hi).toNat/\(Int.ofNat hi).toNat<=es.length:=by show lo<=hi/\hi<=es.length;omega
        refine ⟨[num 4,num 0,num 0,aF r,.sl false 6 [],.sl false 7 []],0,by decide,.inr ⟨r,hr,rfl⟩,a (B:=O+B2+3) fun M l=>?_⟩;have zrD:Gam.aC (ah tab ext M) 233 [aF r]=some (.agg [num 4,num 0,num 0,aF r,.sl false 6 [],.sl false 7 []]):=by obtain ⟨K,rfl⟩:∃K,M=K+2:=⟨M-2,by omega⟩;exact XT K r
        exact caA [(20,.b false),(25,.b false),(29,.b false),(34,.b false),(41,.p (.tup [.sl S 1 es,num E])),(46,.b false),(52,.b false),(58,.b false),(66,.i (Int.ofNat lo)),(71,.i (Int.ofNat hi)),(76,.cut),(77,.p (.tup [aF r,num e3])),(81,.p (.agg [num 4,num 0,num 0,aF r,.sl false 6 [],.sl false 7 []]))] (zqP m n u F (f M (by omega)) Q P Y U V W (q M (by omega)) zrD) (r:=some (.agg [num 4,num 0,num 0,aF r,.sl false 6 [],.sl false 7 []],[.var [num d1,num d2,num d3,aF d4,.sl td 6 d5,.sl t4 7 d6,num 0]]))
end
def zuq:List Ctr:=[mkC 182 [.p 0,val,val,val] [.mP 0 6 oN] none [(val,[.mP 0 6 oN])]]
theorem AO {x:X}(hx:val.Is T 0 x):∃(a b c:Int) (s:qaY) (t:Bool) (l:qaX) (t':Bool) (f:qaX),x=.agg [num a,num b,num c,aF s,.sl t 6 l,.sl t' 7 f]/\s.size<=1000000:=by
 obtain ⟨h',xs,rfl,j,h⟩:∃h' xs,x=.agg xs/\0<=h'/\IsL T h' [int,int,int,.s,.slh 6 1,.slh 7 2] xs:=hx
 match xs,h with
 |[_,_,_,_,_,_],⟨⟨a,rfl⟩,⟨b,rfl⟩,⟨c,rfl⟩,⟨s,rfl,k1⟩,⟨t,l,rfl,k2,k3⟩,⟨t',f,rfl,k4,k5⟩,_⟩=>exact ⟨a,b,c,s,t,l,t',f,rfl,by grind[bT]⟩
theorem zkf:ay T Gm zuq:=.one (dH (fun o Y=>by rw [qaa.1 Y];exact ⟨rfl,rfl⟩) fun xs L V W=>by
 match xs,L,V,W with
 |[_,_,_,_],[_],⟨rfl,h1,h2,h3,_⟩,⟨⟨h',ys,rfl,m0,m1,hi⟩,_⟩=>
  obtain ⟨j,l,m,n,ta,q,t1,u,rfl,ka⟩:=AO h1;obtain ⟨A,B,E,F,tb,H,t2,J,rfl,_⟩:=AO h2;obtain ⟨M,N,O,P,tc,Q,t3,S,rfl,_⟩:=AO h3
  match ys,hi with
  |[_,_,_,_,_,_,_],⟨⟨d1,rfl⟩,⟨d2,rfl⟩,⟨d3,rfl⟩,⟨d4,rfl,k1⟩,⟨td,d5,rfl,k2⟩,⟨t4,d6,rfl,k3⟩,⟨e,rfl,er⟩,_⟩=>
   obtain ⟨y,h,a,Z,U⟩:=UK d1 d2 d3 d4 td t4 d5 d6 j l m A B E M N O e n F P q u H J Q S ta tb tc t1 t2 t3 ka er;refine ⟨_,qaa.2 rfl,.agg y,[.var [num d1,num d2,num d3,aF d4,.sl td 6 d5,.sl t4 7 d6,num h]],?_,⟨⟨h',_,rfl,m0,m1,⟨d1,rfl⟩,⟨d2,rfl⟩,⟨d3,rfl⟩,⟨d4,rfl,k1⟩,⟨td,d5,rfl,k2⟩,⟨t4,d6,rfl,k3⟩,⟨h,rfl,a⟩,trivial⟩,trivial⟩,U⟩;rcases Z with rfl|⟨r,hr,rfl⟩;·exact ⟨0,_,rfl,Int.le_refl _,⟨0,rfl⟩,⟨0,rfl⟩,⟨0,rfl⟩,⟨⟨#[]⟩,rfl,by decide⟩,⟨true,[],rfl,by decide,fun e f=>by grind⟩,⟨true,[],rfl,by decide,fun e f=>by grind⟩,trivial⟩
   exact ⟨0,_,rfl,Int.le_refl _,⟨4,rfl⟩,⟨0,rfl⟩,⟨0,rfl⟩,⟨r,rfl,by grind[bT]⟩,⟨false,[],rfl,by decide,fun e f=>by grind⟩,⟨false,[],rfl,by decide,fun e f=>by grind⟩,trivial⟩)
end Ct
end Go.Proofs.YtpcjeobkehmhpaaGreatDoor
