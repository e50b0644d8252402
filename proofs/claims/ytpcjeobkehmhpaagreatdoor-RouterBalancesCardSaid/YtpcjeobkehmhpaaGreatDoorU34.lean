/-.-/
import Derived.Test.YtpcjeobkehmhpaaGreatDoorU33
set_option linter.unusedSimpArgs false
set_option linter.unusedVariables false
namespace Go.Proofs.YtpcjeobkehmhpaaGreatDoor
open Go Go.Em Go.Ab
set_option maxRecDepth 100000
namespace Ct
theorem Fz (s:qaZ)(hs:s.size<=1000000)(c d:Int)(hc0:0<=c)(hc1:c<=97)(hd0:-32<=d)(hd1:d<=32)(hcd:0<=c+d):∃t:qaZ,t.size<=1000000/\∃B,∀N,B<=N->Gam.aF (ah tab ext N) 282 [aC s,.v (.int .u8 c),num d]=some (aC t):=by
 have he:Ad [aC s,.v (.int .u8 c),num d] []=some (.v (.string ⟨(s.data.toList.map (shB c d)).toArray⟩),[]):=by show (if 0<=c/\c<=97/\-32<=d/\d<=32/\0<=c+d/\s.size<=1000000 then _ else _)=_;rw [if_pos ⟨hc0,hc1,hd0,hd1,hcd,hs⟩]
 obtain ⟨B,hB⟩:=gB (f:=282) (g:=Ad) rfl he;exact ⟨_,by grind[bsz,bln],B,fun N hN=>aY (hB N hN) rfl⟩
theorem RX {f:FuncId}{s t:qaZ}{B:Nat}(h:∀M,B<=M->ah tab ext (M+1) (.fn f) [aC s] []=some (aC t,[])):∃B,∀N,B<=N->ah tab ext N (.fn f) [aC s] []=some (aC t,[]):=⟨B+1,fun N hN=>by obtain ⟨M,rfl⟩:∃M,N=M+1:=⟨N-1,by omega⟩<;>simp_all⟩
def zwt:List Ctr:=[mkC 240 [.s] [] none [(.s,[])]]
theorem zjC:ay T Gm zwt:=.one (dF (fun o ho=>by rw [qaa.1 ho];exact ⟨rfl,rfl⟩) fun xs bx ha hb=>by obtain ⟨x,rfl,hx⟩:=zdN ha;obtain rfl:=nD hb;obtain ⟨s,rfl,h⟩:=isS hx;obtain ⟨t,ht,B,hB⟩:=Fz s (by omega) 65 32 (by decide) (by decide) (by decide) (by decide) (by decide);exact ⟨_,qaa.2 rfl,aC t,[],⟨t,rfl,by grind[bT]⟩,trivial,RX (B:=B) fun M hM=>caA [(4,.p (aC t))] (pf1 (hB M hM)) (r:=some (aC t,[]))⟩)
def zwr:List Ctr:=[mkC 241 [.s] [] none [(.s,[])]]
theorem zjB:ay T Gm zwr:=.one (dF (fun o ho=>by rw [qaa.1 ho];exact ⟨rfl,rfl⟩) fun xs bx ha hb=>by obtain ⟨x,rfl,hx⟩:=zdN ha;obtain rfl:=nD hb;obtain ⟨s,rfl,h⟩:=isS hx;obtain ⟨t,ht,B,hB⟩:=Fz s (by omega) 97 (-32) (by decide) (by decide) (by decide) (by decide) (by decide);exact ⟨_,qaa.2 rfl,aC t,[],⟨t,rfl,by grind[bT]⟩,trivial,RX (B:=B) fun M hM=>caA [(4,.p (aC t))] (pf1 (hB M hM)) (r:=some (aC t,[]))⟩)
theorem zwM (n a b c d:Nat)(ha:a<256)(h:¬((Lib.decodeN n a b c d).1=65533/\(Lib.decodeN n a b c d).2<=1)):(Lib.encodeRune ((Lib.decodeN n a b c d).1:Int)).length=(Lib.decodeN n a b c d).2:=by
 have hl:∀r:Int,(Lib.encodeRune r).length=(Lib.encodeRuneZ r).length:=fun r=>qat ..;rw [hl]
 revert h
 unfold Lib.decodeN
 repeat' split
 all_goals intro h
 all_goals first
  |exact absurd ⟨rfl,by decide⟩ h
  |(dsimp only at h ⊢
    first
     |rw [Lib.encodeRuneZ_one (by omega) (by omega)];rfl
     |rw [Lib.encodeRuneZ_two (by omega) (by omega)];rfl
     |rw [Lib.encodeRuneZ_three (by omega)];rfl
     |grind[Lib.encodeRuneZ_four])
theorem zeV (s:qaZ)(h:1<=s.size):∃c w:Nat,(c<=1114111/\1<=w/\w<=s.size/\(¬(c=65533/\w<=1)->(Lib.encodeRune (c:Int)).length=w))/\∃B,∀N,B<=N->Gam.aF (ah tab ext N) 301 [aC s]=some (.tup [.v (.int .i32 (Int.ofNat c)),nat w]):=by
 have h1:¬s.size=0:=by omega
 obtain ⟨B,hB⟩:=gB (f:=301) (g:=Dz) (args:=[aC s]) rfl rfl;have h3:(wO s).1<=1114111/\1<=(wO s).2/\(wO s).2<=s.size/\(¬((wO s).1=65533/\(wO s).2<=1)->(Lib.encodeRune ((wO s).1:Int)).length=(wO s).2):=by unfold wO;rw [if_neg h1,Lib.decode_at];have:=Nu (s.size-0) (s.get! 0).toNat (s.get! (0+1)).toNat (s.get! (0+2)).toNat (s.get! (0+3)).toNat (by omega);exact ⟨Lib.decodeN_rune_le _ _ _ _ _ (UInt8.toNat_lt _),this.1,by omega,zwM _ _ _ _ _ (UInt8.toNat_lt _)⟩
 exact ⟨(wO s).1,(wO s).2,h3,B,fun N hN=>aY (hB N hN) rfl⟩
def zhy:C->List (C×C)
 |.seq a b|.cond _ a b=>zhy a++zhy b
 |.block _ b|.loop b=>zhy b
 |.rf _ _ _ a b=>(a,b)::(zhy a++zhy b)
 |_=>[]
noncomputable def ptA:C:=((zhy (G8 tab 234)).getD 0 (.skip,.skip)).1
noncomputable def ptB:C:=((zhy (G8 tab 234)).getD 0 (.skip,.skip)).2
noncomputable def Ey:Bx:=.loop .ready none [(4,.ptr 1 0 0)] [12,13] ptA ptB
noncomputable abbrev mY (w:Bool) (n:Nat) (outs:qaY):List Bx:=match w with
 |false=>[Ey,.var [.bs 2 0 n],.row 1 outs]
 |true=>[Ey,.var [.bs 3 0 n],.dead,.row 1 outs]
noncomputable abbrev ptH (s:qaZ) (p:Bool×Nat×List Int):St:=⟨[(0,.yl 0),(1,.dp [aC s]),(3,nat p.2.1)],mY p.1 p.2.2.length (p.2.2.map fun z=>[num z])⟩
theorem zuZ {r:Int}(h1:0<=r)(h2:r<=1114111):IntKind.i64.wrap r=r:=by grind[IntKind.wrap_i64]
theorem YU (N k n:Nat)(r:Int)(outs:qaY)(h0:0<=r)(h1:r<=1114111)(hn:n=outs.length)(hn2:n<=1000000):ah tab ext (N+1) .yl [.yl 0,nat k,.v (.int .i32 r)] [Ey,.var [.bs 2 0 n],.row 1 outs]=some (ak true,[Ey,.var [.bs 3 0 (n+1)],.dead,.row 1 (outs++[[num r]])]):=by have hroom:0+n=outs.length/\dD (n+[[num r]].length) (7+1)=true/\sD 1 (X.sl true 1 [[num r]]).rows=false:=⟨by omega,jc (by grind) (by grind),rfl⟩;exact yiA [(16,.i r),(18,.app)] (pf2 (zuZ h0 h1) hroom)
noncomputable abbrev ptN (w:Bool) (n:Nat) (outs:qaY):List Bx:=match w with
 |false=>[Ey,.var [.bs 3 0 n],.dead,.row 1 outs]
 |true=>[Ey,.var [.bs 4 0 n],.dead,.dead,.row 1 outs]
section
variable (s:qaZ) (k n c sz k2:Nat) (outs Vl:qaY) (M:Nat)
theorem zmV (w:Bool)(h1:decide (Int.ofNat k<Int.ofNat s.size)=false):run (ah tab ext M) 3 M (aH 300 0) ⟨[(0,.yl 0),(1,.dp [aC s]),(3,nat k)],mY w n outs⟩=some (.exit 0,⟨[(0,.yl 0),(1,.dp [aC s]),(3,nat k),(9,ak false)],mY w n outs⟩):=by
 cases w with
 |false=>exact ruA [(9,.b false)] (pf1 h1)
 |true=>exact ruA [(9,.b false)] (pf1 h1)
theorem zmW (w:Bool)(h1:decide (Int.ofNat k<Int.ofNat s.size)=true)(h13:(Int.ofNat k).toNat<=s.size/\s.size<=s.size)(hd:Gam.aF (ah tab ext M) 301 [aC (s.extract (Int.ofNat k).toNat s.size)]=some (.tup [.v (.int .i32 (Int.ofNat c)),nat sz]))(h18:(Int.ofNat c==65533)=true)(h21:decide (Int.ofNat sz<=1)=true):
  run (ah tab ext M) 3 M (aH 300 0) ⟨[(0,.yl 0),(1,.dp [aC s]),(3,nat k)],mY w n outs⟩=some (.ret,⟨[(0,.yl 0),(1,.dp [aC s]),(3,nat k),(5,nat sz),(29,ak true)],mY w n outs⟩):=by
 cases w with
 |false=>exact ruA [(9,.b true),(13,.cut),(14,.p (.tup [.v (.int .i32 (Int.ofNat c)),nat sz])),(18,.b true),(21,.b true)] (pf5 h1 h13 hd h18 h21)
 |true=>exact ruA [(9,.b true),(13,.cut),(14,.p (.tup [.v (.int .i32 (Int.ofNat c)),nat sz])),(18,.b true),(21,.b true)] (pf5 h1 h13 hd h18 h21)
theorem zhL (w:Bool)(h1:decide (Int.ofNat k<Int.ofNat s.size)=true)(h13:(Int.ofNat k).toNat<=s.size/\s.size<=s.size)(hd:Gam.aF (ah tab ext M) 301 [aC (s.extract (Int.ofNat k).toNat s.size)]=some (.tup [.v (.int .i32 (Int.ofNat c)),nat sz]))(h18:(Int.ofNat c==65533)=true/\decide (Int.ofNat sz<=1)=false\/(Int.ofNat c==65533)=false)
  (hy:ah tab ext M .yl [.yl 0,nat k,.v (.int .i32 (Int.ofNat c))] (mY false n outs)=some (ak true,ptN false (n+1) Vl)) (hk:IntKind.i64.wrap (Int.ofNat k+Int.ofNat sz)=Int.ofNat k2):
  run (ah tab ext M) 3 M (aH 300 0) ⟨[(0,.yl 0),(1,.dp [aC s]),(3,nat k)],mY w n outs⟩=some (.norm,⟨[(0,.yl 0),(1,.dp [aC s]),(3,nat k2)],ptN w (n+1) Vl⟩):=by
 rcases h18 with ⟨h18,h21⟩|h18
 ·cases w with
  |false=>exact ruA [(9,.b true),(13,.cut),(14,.p (.tup [.v (.int .i32 (Int.ofNat c)),nat sz])),(18,.b true),(21,.b false),(27,.r (ak true) [Ey,.var [.bs 3 0 (n+1)],.dead,.row 1 Vl]),(32,.i (Int.ofNat k2))] (pf7 h1 h13 hd h18 h21 hy hk)
  |true=>exact ruA [(9,.b true),(13,.cut),(14,.p (.tup [.v (.int .i32 (Int.ofNat c)),nat sz])),(18,.b true),(21,.b false),(27,.r (ak true) [Ey,.var [.bs 3 0 (n+1)],.dead,.row 1 Vl]),(32,.i (Int.ofNat k2))] (pf7 h1 h13 hd h18 h21 hy hk)
 cases w with
 |false=>exact ruA [(9,.b true),(13,.cut),(14,.p (.tup [.v (.int .i32 (Int.ofNat c)),nat sz])),(18,.b false),(27,.r (ak true) [Ey,.var [.bs 3 0 (n+1)],.dead,.row 1 Vl]),(32,.i (Int.ofNat k2))] (pf6 h1 h13 hd h18 hy hk)
 |true=>exact ruA [(9,.b true),(13,.cut),(14,.p (.tup [.v (.int .i32 (Int.ofNat c)),nat sz])),(18,.b false),(27,.r (ak true) [Ey,.var [.bs 3 0 (n+1)],.dead,.row 1 Vl]),(32,.i (Int.ofNat k2))] (pf6 h1 h13 hd h18 hy hk)
theorem zdf (w:Bool):canon 3 ⟨[(0,.yl 0),(1,.dp [aC s]),(3,nat k)],ptN w n outs⟩=some ⟨[(0,.yl 0),(1,.dp [aC s]),(3,nat k)],mY true n outs⟩:=by cases w<;>kernel_rfl
end
noncomputable abbrev PtI (s:qaZ) (p:Bool×Nat×List Int):Prop:=p.2.1<=s.size/\p.2.2.length<=p.2.1/\(p.2.2.flatMap Lib.encodeRune).length<=p.2.1/\∀z,z∈p.2.2->0<=z/\z<=1114111
theorem zhK (s:qaZ)(hs:s.size<=1000000){τ:St}(hτ:canon 3 τ=some (ptH s (false,0,[]))):∃e σ' B,(∃(w:Bool) (zs:List Int) (q:List (Nat×X)),(e=.ret\/e=.exit 0)/\(σ'=⟨q,mY w zs.length (zs.map fun z=>[num z])⟩)/\(∃k:Nat,q=[(0,.yl 0),(1,.dp [aC s]),(3,nat k),(9,ak false)]/\e=.exit 0\/∃(w2:Nat),q=[(0,.yl 0),(1,.dp [aC s]),(3,nat k),(5,nat w2),(29,ak true)]/\e=.ret)/\zs.length<=s.size/\(zs.flatMap Lib.encodeRune).length<=s.size)/\∀M,B<=M->run (ah tab ext M) 3 M (.loop (aH 300 0)) τ=some (e,σ'):=by
 refine jC (nIn:=3) (b:=aH 300 0) (H:=ptH s) (I:=PtI s) (μ:=fun p=>s.size-p.2.1) (Q:=fun e σ'=>∃(w:Bool) (zs:List Int) (q:List (Nat×X)),(e=.ret\/e=.exit 0)/\(σ'=⟨q,mY w zs.length (zs.map fun z=>[num z])⟩)/\(∃k:Nat,q=[(0,.yl 0),(1,.dp [aC s]),(3,nat k),(9,ak false)]/\e=.exit 0\/∃(w2:Nat),q=[(0,.yl 0),(1,.dp [aC s]),(3,nat k),(5,nat w2),(29,ak true)]/\e=.ret)/\zs.length<=s.size/\(zs.flatMap Lib.encodeRune).length<=s.size)
  (fun p hp=>?_) (a:=(false,0,[])) ⟨Nat.zero_le _,Nat.le_refl _,Nat.le_refl _,fun z hz=>by grind⟩ hτ
 obtain ⟨w,k,zs⟩:=p;obtain ⟨i1,i2,i3,i4⟩:=hp;dsimp only at i1 i2 i3 i4 ⊢;by_cases hk:k<s.size
 ·have h1:=aN hk;have h13:(Int.ofNat k).toNat<=s.size/\s.size<=s.size:=⟨i1,Nat.le_refl _⟩;have hsz:(s.extract k s.size).size=s.size-k:=by rw [ByteArray.size_extract];omega
  obtain ⟨c,sz,⟨c1,c2,c3,c4⟩,B,hd⟩:=zeV (s.extract k s.size) (by omega);have hd:∀N,B<=N->Gam.aF (ah tab ext N) 301 [aC (s.extract (Int.ofNat k).toNat s.size)]=some (.tup [.v (.int .i32 (Int.ofNat c)),nat sz]):=hd;by_cases hbad:c=65533/\sz<=1
  ·have h18:(Int.ofNat c==65533)=true:=by rw [hbad.1];rfl
   have h21:decide (Int.ofNat sz<=1)=true:=by rw [qaF,qaq];omega
   exact .inr ⟨.ret,⟨[(0,.yl 0),(1,.dp [aC s]),(3,nat k),(5,nat sz),(29,ak true)],mY w zs.length (zs.map fun z=>[num z])⟩,B,(by grind),⟨w,zs,_,.inl rfl,rfl,⟨k,.inr ⟨sz,rfl,rfl⟩⟩,by omega,by omega⟩,fun M hM=>zmW s k _ c sz _ M w h1 h13 (hd M hM) h18 h21⟩
  have hlen:(zs.map fun z:Int=>[num z]).length=zs.length:=qat ..;have hr0:(0:Int)<=Int.ofNat c:=by simp only [qaq];omega
  have hr1:Int.ofNat c<=1114111:=by simp;omega
  have y0:=fun N=>YU N k zs.length (Int.ofNat c) (zs.map fun z=>[num z]) hr0 hr1 hlen.symm (by omega);have hmap:(zs.map fun z:Int=>[num z])++[[num (Int.ofNat c)]]=(zs++[Int.ofNat c]).map fun z=>[num z]:=by simp
  have hl2:zs.length+1=(zs++[Int.ofNat c]).length:=by simp
  rw [hmap] at y0;have hI:PtI s (true,k+sz,zs++[Int.ofNat c]):=by
   refine ⟨by grind,by grind,?_,fun z hz=>?_⟩
   ·grind
   ·grind
  have hkn:IntKind.i64.wrap (Int.ofNat k+Int.ofNat sz)=Int.ofNat (k+sz):=by rw [IntKind.wrap_i64];simp only [qaq];omega
  have e18:(Int.ofNat c==65533)=true/\decide (Int.ofNat sz<=1)=false\/(Int.ofNat c==65533)=false:=by
   by_cases h:c=65533
   ·grind
   ·grind
  refine .inl ⟨⟨[(0,.yl 0),(1,.dp [aC s]),(3,nat (k+sz))],ptN w (zs.length+1) ((zs++[Int.ofNat c]).map fun z=>[num z])⟩,(true,k+sz,zs++[Int.ofNat c]),B+1,fun M hM=>?_,?_,hI,by grind⟩;·obtain ⟨M,rfl⟩:∃M',M=M'+1:=⟨M-1,by omega⟩;exact zhL s k _ c sz (k+sz) _ _ (M+1) w h1 h13 (hd (M+1) (by omega)) e18 (y0 M) hkn
  rw [hl2]<;>grind[zdf]
 exact .inr ⟨.exit 0,⟨[(0,.yl 0),(1,.dp [aC s]),(3,nat k),(9,ak false)],mY w zs.length (zs.map fun z=>[num z])⟩,0,(by grind),⟨w,zs,_,.inr rfl,rfl,⟨k,.inl ⟨rfl,rfl⟩⟩,by omega,by omega⟩,fun M _=>zmV s k _ _ M w (aO hk)⟩
theorem U2 (N:Nat)(s:qaZ):Gam.aF (ah tab ext (N+2)) 272 [aC s]=some (.fn 300 [.dp [aC s]]):=by kernel_rfl
section
variable (s:qaZ) (n k w2:Nat) (outs:qaY) (M:Nat)
theorem zmT (h:run (ah tab ext M) 3 M (.loop (aH 300 0)) ⟨[(0,.yl 0),(1,.dp [aC s]),(3,nat 0)],mY false 0 []⟩=some (.exit 0,⟨[(0,.yl 0),(1,.dp [aC s]),(3,nat k),(9,ak false)],mY false n outs⟩)):ah tab ext (M+1) (.fn 300) [.yl 0,.dp [aC s]] (mY false 0 [])=some (.tup [],mY false n outs):=
 caB [] [(.exit 0,⟨[(0,.yl 0),(1,.dp [aC s]),(3,nat k),(9,ak false)],mY false n outs⟩)] (pf1 h)
theorem zmS (h:run (ah tab ext M) 3 M (.loop (aH 300 0)) ⟨[(0,.yl 0),(1,.dp [aC s]),(3,nat 0)],mY false 0 []⟩=some (.exit 0,⟨[(0,.yl 0),(1,.dp [aC s]),(3,nat k),(9,ak false)],mY true n outs⟩)):ah tab ext (M+1) (.fn 300) [.yl 0,.dp [aC s]] (mY false 0 [])=some (.tup [],mY true n outs):=
 caB [] [(.exit 0,⟨[(0,.yl 0),(1,.dp [aC s]),(3,nat k),(9,ak false)],mY true n outs⟩)] (pf1 h)
theorem zmR (h:run (ah tab ext M) 3 M (.loop (aH 300 0)) ⟨[(0,.yl 0),(1,.dp [aC s]),(3,nat 0)],mY false 0 []⟩=some (.ret,⟨[(0,.yl 0),(1,.dp [aC s]),(3,nat k),(5,nat w2),(29,ak true)],mY false n outs⟩)):ah tab ext (M+1) (.fn 300) [.yl 0,.dp [aC s]] (mY false 0 [])=some (.tup [],mY false n outs):=
 caB [] [(.ret,⟨[(0,.yl 0),(1,.dp [aC s]),(3,nat k),(5,nat w2),(29,ak true)],mY false n outs⟩)] (pf1 h)
theorem zmQ (h:run (ah tab ext M) 3 M (.loop (aH 300 0)) ⟨[(0,.yl 0),(1,.dp [aC s]),(3,nat 0)],mY false 0 []⟩=some (.ret,⟨[(0,.yl 0),(1,.dp [aC s]),(3,nat k),(5,nat w2),(29,ak true)],mY true n outs⟩)):ah tab ext (M+1) (.fn 300) [.yl 0,.dp [aC s]] (mY false 0 [])=some (.tup [],mY true n outs):=
 caB [] [(.ret,⟨[(0,.yl 0),(1,.dp [aC s]),(3,nat k),(5,nat w2),(29,ak true)],mY true n outs⟩)] (pf1 h)
noncomputable def zsK:St:=⟨[(4,.ptr 0 0 0),(11,.fn 300 [.dp [aC s]])],[.var [.bs 1 0 0],.row 1 []]⟩
theorem zmP (N:Nat)(hy:ah tab ext N (.fn 300) [.yl 0,.dp [aC s]] (mY false 0 [])=some (.tup [],mY false n outs)):run (ah tab ext N) 0 N (.rf (.t 11) [12,13] [4] ptA ptB) (zsK s)=some (.norm,⟨[(4,.ptr 0 0 0),(11,.fn 300 [.dp [aC s]])],[.var [.bs 1 0 n],.row 1 outs,.dead]⟩):=
 U8 (g:=300) (caps:=[.dp [aC s]]) (y:=.tup []) (outb:=mY false n outs) (q:=(.tup [],[.var [.bs 1 0 n],.row 1 outs,.loop .ready none [(4,.ptr 0 0 0)] [12,13] ptA ptB],[2,0,1])) hy (by kernel_rfl) (by kernel_rfl) (by kernel_rfl)
theorem zmO (N:Nat)(hy:ah tab ext N (.fn 300) [.yl 0,.dp [aC s]] (mY false 0 [])=some (.tup [],mY true n outs)):run (ah tab ext N) 0 N (.rf (.t 11) [12,13] [4] ptA ptB) (zsK s)=some (.norm,⟨[(4,.ptr 0 0 0),(11,.fn 300 [.dp [aC s]])],[.var [.bs 3 0 n],.dead,.dead,.row 1 outs]⟩):=
 U8 (g:=300) (caps:=[.dp [aC s]]) (y:=.tup []) (outb:=mY true n outs) (q:=(.tup [],[.var [.bs 3 0 n],.dead,.loop .ready none [(4,.ptr 0 0 0)] [12,13] ptA ptB,.row 1 outs],[2,0,1])) hy (by kernel_rfl) (by kernel_rfl) (by kernel_rfl)
theorem zmU (w:Bool)(hv:Gam.aF (ah tab ext M) 198 [aC s]=some (ak true))(hr:Gam.aF (ah tab ext M) 272 [aC s]=some (.fn 300 [.dp [aC s]]))(hy:ah tab ext M (.fn 300) [.yl 0,.dp [aC s]] (mY false 0 [])=some (.tup [],mY w n outs))(hn:n=outs.length):
  Gam.aF (ah tab ext (M+1)) 234 [aC s]=some (.tup [.sl false 1 outs,num 0]):=by
 have hd:X.data [.row 1 outs] false (.tup [.bs 0 0 n,num 0])=some (.tup [.sl false 1 outs,num 0]):=by simp only [X.data,dZ,kY (bx:=[.row 1 outs]) (i:=0) (sz:=1) (es:=outs) (n:=n) rfl hn,qao,num]
 cases w with
 |false=>exact eH [(8,.p (ak true)),(11,.p (.fn 300 [.dp [aC s]]))] [(.norm,⟨[(4,.ptr 0 0 0),(11,.fn 300 [.dp [aC s]])],[.var [.bs 1 0 n],.row 1 outs,.dead]⟩)] (pf3 hv hr (zmP s n outs M hy)) (x:=.tup [.bs 0 0 n,num 0]) (bx:=[.row 1 outs]) (by kernel_rfl) hd
 |true=>exact eH [(8,.p (ak true)),(11,.p (.fn 300 [.dp [aC s]]))] [(.norm,⟨[(4,.ptr 0 0 0),(11,.fn 300 [.dp [aC s]])],[.var [.bs 3 0 n],.dead,.dead,.row 1 outs]⟩)] (pf3 hv hr (zmO s n outs M hy)) (x:=.tup [.bs 0 0 n,num 0]) (bx:=[.row 1 outs]) (by kernel_rfl) hd
end
theorem OM (s:qaZ)(hs:s.size<=1000000):∃(e:Int) (t:Bool) (zs:List Int),(0<=e/\e<=100)/\zs.length<=1000000/\(zs.flatMap Lib.encodeRune).length<=1000000/\∃B,∀N,B<=N->Gam.aF (ah tab ext N) 234 [aC s]=some (.tup [.sl t 1 (zs.map fun z=>[num z]),num e]):=by
 obtain ⟨g,B1,hv⟩:∃g,∃B,∀N,B<=N->Gam.aF (ah tab ext N) 198 [aC s]=some (ak g):=by
  have hsz:s.size<281474976710656:=by omega
  obtain ⟨g,hg⟩:∃g,oO [aC s] []=some (ak g,[]):=by refine ⟨Lib.validD s.data.toList,?_⟩;show (if s.size<=9223372036854775807 then some (X.v (Value.bool (Lib.validD s.data.toList)),[]) else none:Option (X×List Bx))=_;rw [if_pos (by omega)];rfl
  obtain ⟨B,hB⟩:=gB (f:=146) (g:=oO) rfl hg;refine ⟨g,B+1,fun N hN=>?_⟩;obtain ⟨M,rfl⟩:∃M,N=M+1:=⟨N-1,by omega⟩;exact puA [(4,.p (ak g))] (pf1 (aY (hB M (by omega)) rfl)) (ak g)
 cases g with
 |false=>exact ⟨16,false,[],by decide,Nat.zero_le _,Nat.zero_le _,B1+1,fun N hN=>by obtain ⟨M,rfl⟩:∃M,N=M+1:=⟨N-1,by omega⟩;exact puA [(8,.p (ak false))] (pf1 (hv M (by omega))) (.tup [.sl true 1 [],num 16])⟩
 |true=>
  obtain ⟨e,σ',B2,⟨w,zs,q,_,rfl,hq,z1,z2⟩,hl⟩:=zhK s hs (τ:=⟨[(0,.yl 0),(1,.dp [aC s]),(3,nat 0)],mY false 0 []⟩) (by kernel_rfl);refine ⟨0,false,zs,by decide,by omega,by omega,B1+B2+3,fun N hN=>?_⟩;obtain ⟨M,rfl⟩:∃M,N=M+1+1:=⟨N-2,by omega⟩;have hl:=hl M (by omega);have hy:ah tab ext (M+1) (.fn 300) [.yl 0,.dp [aC s]] (mY false 0 [])=some (.tup [],mY w zs.length (zs.map fun z=>[num z])):=by
   obtain ⟨k,⟨rfl,rfl⟩|⟨w2,rfl,rfl⟩⟩:=hq
   ·cases w with
    |false=>grind[zmT]
    |true=>grind[zmS]
   cases w with
   |false=>grind[zmR]
   |true=>grind[zmQ]
  obtain ⟨K,rfl⟩:∃K,M=K+1:=⟨M-1,by omega⟩;exact zmU s _ _ (K+1+1) w (hv _ (by omega)) (U2 _ s) hy (qat ..).symm
theorem XI (N:Nat)(s:qaZ):Gam.aF (ah tab ext (N+2)) 233 [aC s]=some (.agg [num 4,num 0,num 0,aC s,.sl false 6 [],.sl false 7 []]):=by kernel_rfl
theorem zd1 (zs:List Int):intsOf (zs.map fun z=>[num z])=some zs:=by
 induction zs with
 |nil=>rfl
 |cons z r ih=>grind[intsOf,num]
theorem zgX (t:Bool)(zs:List Int)(h1:zs.length<=1000000)(h2:(zs.flatMap Lib.encodeRune).length<=1000000):∃(r:qaZ) (e:Int),r.size<=1000000/\∃B,∀N,B<=N->Gam.aF (ah tab ext N) 235 [.sl t 1 (zs.map fun z=>[num z])]=some (.tup [aC r,num e]):=by
 have he:∃(r:qaZ) (e:Int),r.size<=1000000/\qO [.sl t 1 (zs.map fun z=>[num z])] []=some (.tup [aC r,num e],[]):=by
  have e:qO [.sl t 1 (zs.map fun z=>[num z])] []=(match intsOf (zs.map fun z=>[num z]) with
   |some zs=>if zs.length<=1000000 then (if zs.all mZ then some (.tup [.v (.string ⟨(zs.flatMap Lib.encodeRune).toArray⟩),.v (.int .i64 0)],[]) else some (.tup [.v (.string ⟨#[]⟩),.v (.int .i64 2)],[])) else none
   |none=>none):=rfl
  rw [e,zd1];simp only [if_pos h1];split;·exact ⟨_,0,by grind[bsz],rfl⟩
  exact ⟨⟨#[]⟩,2,by decide,rfl⟩
 obtain ⟨r,e,h,hx⟩:=he;obtain ⟨B,hB⟩:=gB (f:=235) (g:=qO) rfl hx;exact ⟨r,e,h,B,fun N hN=>aY (hB N hN) rfl⟩
theorem zeA (zs:List Int)(lo hi:Nat):(((zs.take hi).drop lo).flatMap Lib.encodeRune).length<=(zs.flatMap Lib.encodeRune).length:=by
 have e:zs.flatMap Lib.encodeRune=((zs.take hi).take lo).flatMap Lib.encodeRune++(((zs.take hi).drop lo).flatMap Lib.encodeRune++(zs.drop hi).flatMap Lib.encodeRune):=by rw [<-qaO,<-List.flatMap_append,List.take_append_drop,<-List.flatMap_append,List.take_append_drop]
 grind
section
variable (d1 d2 d3:Int) (d4:qaZ) (td t4:Bool) (d5 d6:qaY)
abbrev zeroV:List X:=[num 0,num 0,num 0,bD,.sl true 6 [],.sl true 7 []]
theorem za0 (k:Int)(N:Nat):ah tab ext (N+1) (.fn 176) [.ptr 0 0 0,num k] [.var [num d1,num d2,num d3,aC d4,.sl td 6 d5,.sl t4 7 d6,num 0]]=some (.agg zeroV,[.var [num d1,num d2,num d3,aC d4,.sl td 6 d5,.sl t4 7 d6,num k]]):=by kernel_rfl
variable (a1 a2 a3 b1 b2 b3 c1 c2 c3 e:Int) (a4 b4 c4:qaZ) (a5 a6 b5 b6 c5 c6:qaY) (ta tb tc t1 t2 t3:Bool)
theorem Uy (ha:a4.size<=1000000)(he:0<=e/\e<=100):∃(y:List X) (e2:Int),(0<=e2/\e2<=100)/\(y=zeroV\/∃r:qaZ,r.size<=1000000/\y=[num 4,num 0,num 0,aC r,.sl false 6 [],.sl false 7 []])/\∃B,∀N,B<=N->ah tab ext N (.fn 182) [.ptr 0 0 0,.agg [num a1,num a2,num a3,aC a4,.sl ta 6 a5,.sl t1 7 a6],.agg [num b1,num b2,num b3,aC b4,.sl tb 6 b5,.sl t2 7 b6],.agg [num c1,num c2,num c3,aC c4,.sl tc 6 c5,.sl t3 7 c6]] [.var [num d1,num d2,num d3,aC d4,.sl td 6 d5,.sl t4 7 d6,num e]]=some (.agg y,[.var [num d1,num d2,num d3,aC d4,.sl td 6 d5,.sl t4 7 d6,num e2]]):=by
 have lift:∀{y:List X} {e2:Int} {B:Nat},(∀M,B<=M->ah tab ext (M+1) (.fn 182) [.ptr 0 0 0,.agg [num a1,num a2,num a3,aC a4,.sl ta 6 a5,.sl t1 7 a6],.agg [num b1,num b2,num b3,aC b4,.sl tb 6 b5,.sl t2 7 b6],.agg [num c1,num c2,num c3,aC c4,.sl tc 6 c5,.sl t3 7 c6]] [.var [num d1,num d2,num d3,aC d4,.sl td 6 d5,.sl t4 7 d6,num e]]=some (.agg y,[.var [num d1,num d2,num d3,aC d4,.sl td 6 d5,.sl t4 7 d6,num e2]]))->∃B,∀N,B<=N->ah tab ext N (.fn 182) [.ptr 0 0 0,.agg [num a1,num a2,num a3,aC a4,.sl ta 6 a5,.sl t1 7 a6],.agg [num b1,num b2,num b3,aC b4,.sl tb 6 b5,.sl t2 7 b6],.agg [num c1,num c2,num c3,aC c4,.sl tc 6 c5,.sl t3 7 c6]] [.var [num d1,num d2,num d3,aC d4,.sl td 6 d5,.sl t4 7 d6,num e]]=some (.agg y,[.var [num d1,num d2,num d3,aC d4,.sl td 6 d5,.sl t4 7 d6,num e2]]):=fun {y e2 B} h=>⟨B+1,fun N hN=>by obtain ⟨M,rfl⟩:∃M,N=M+1:=⟨N-1,by omega⟩<;>simp_all⟩;cases h1:(e !=0) with
 |true=>exact ⟨zeroV,e,he,.inl rfl,lift (B:=0) fun M _=>caA [(20,.b true)] (pf1 h1) (r:=some (.agg zeroV,[.var [num d1,num d2,num d3,aC d4,.sl td 6 d5,.sl t4 7 d6,num e]]))⟩
 |false=>
  have e0:e=0:=by simpa using h1
  subst e0;have hf:∀k M,1<=M->ah tab ext M (.fn 176) [.ptr 0 0 0,num k] [.var [num d1,num d2,num d3,aC d4,.sl td 6 d5,.sl t4 7 d6,num 0]]=some (.agg zeroV,[.var [num d1,num d2,num d3,aC d4,.sl td 6 d5,.sl t4 7 d6,num k]]):=fun k M hM=>by obtain ⟨M,rfl⟩:∃M',M=M'+1:=⟨M-1,by omega⟩<;>simp_all[za0]
  cases h2:(a1 !=4) with
  |true=>exact ⟨zeroV,18,by decide,.inl rfl,lift (B:=1) fun M hM=>caA [(20,.b false),(25,.b true),(37,.r (.agg zeroV) [.var [num d1,num d2,num d3,aC d4,.sl td 6 d5,.sl t4 7 d6,num 18]])] (pf3 h1 h2 (hf 18 M hM)) (r:=some (.agg zeroV,[.var [num d1,num d2,num d3,aC d4,.sl td 6 d5,.sl t4 7 d6,num 18]]))⟩
  |false=>
   cases h3:(b1 !=2) with
   |true=>exact ⟨zeroV,18,by decide,.inl rfl,lift (B:=1) fun M hM=>caA [(20,.b false),(25,.b false),(29,.b true),(37,.r (.agg zeroV) [.var [num d1,num d2,num d3,aC d4,.sl td 6 d5,.sl t4 7 d6,num 18]])] (pf4 h1 h2 h3 (hf 18 M hM)) (r:=some (.agg zeroV,[.var [num d1,num d2,num d3,aC d4,.sl td 6 d5,.sl t4 7 d6,num 18]]))⟩
   |false=>
    cases h4:(c1 !=2) with
    |true=>exact ⟨zeroV,18,by decide,.inl rfl,lift (B:=1) fun M hM=>caA [(20,.b false),(25,.b false),(29,.b false),(34,.b true),(37,.r (.agg zeroV) [.var [num d1,num d2,num d3,aC d4,.sl td 6 d5,.sl t4 7 d6,num 18]])] (pf5 h1 h2 h3 h4 (hf 18 M hM)) (r:=some (.agg zeroV,[.var [num d1,num d2,num d3,aC d4,.sl td 6 d5,.sl t4 7 d6,num 18]]))⟩
    |false=>
     obtain ⟨ep,tp,zs,er,z1,z2,B1,zga⟩:=OM a4 ha;have hzl:(zs.map fun z:Int=>[num z]).length=zs.length:=qat ..;cases hb:(ep !=0) with
     |true=>generalize (zs.map fun z:Int=>[num z])=es at zga;exact ⟨zeroV,16,by decide,.inl rfl,lift (B:=B1+1) fun M hM=>caA [(20,.b false),(25,.b false),(29,.b false),(34,.b false),(41,.p (.tup [.sl tp 1 es,num ep])),(46,.b true),(48,.r (.agg zeroV) [.var [num d1,num d2,num d3,aC d4,.sl td 6 d5,.sl t4 7 d6,num 16]])] (pf7 h1 h2 h3 h4 (zga M (by omega)) hb (hf 16 M (by omega))) (r:=some (.agg zeroV,[.var [num d1,num d2,num d3,aC d4,.sl td 6 d5,.sl t4 7 d6,num 16]]))⟩
     |false=>
      cases h5:decide (b2<0) with
      |true=>generalize (zs.map fun z:Int=>[num z])=es at zga;exact ⟨zeroV,2,by decide,.inl rfl,lift (B:=B1+1) fun M hM=>caA [(20,.b false),(25,.b false),(29,.b false),(34,.b false),(41,.p (.tup [.sl tp 1 es,num ep])),(46,.b false),(52,.b true),(61,.r (.agg zeroV) [.var [num d1,num d2,num d3,aC d4,.sl td 6 d5,.sl t4 7 d6,num 2]])] (pf8 h1 h2 h3 h4 (zga M (by omega)) hb h5 (hf 2 M (by omega))) (r:=some (.agg zeroV,[.var [num d1,num d2,num d3,aC d4,.sl td 6 d5,.sl t4 7 d6,num 2]]))⟩
      |false=>
       cases h6:decide (b2>c2) with
       |true=>generalize (zs.map fun z:Int=>[num z])=es at zga;exact ⟨zeroV,2,by decide,.inl rfl,lift (B:=B1+1) fun M hM=>caA [(20,.b false),(25,.b false),(29,.b false),(34,.b false),(41,.p (.tup [.sl tp 1 es,num ep])),(46,.b false),(52,.b false),(58,.b true),(61,.r (.agg zeroV) [.var [num d1,num d2,num d3,aC d4,.sl td 6 d5,.sl t4 7 d6,num 2]])] (pf9 h1 h2 h3 h4 (zga M (by omega)) hb h5 h6 (hf 2 M (by omega))) (r:=some (.agg zeroV,[.var [num d1,num d2,num d3,aC d4,.sl td 6 d5,.sl t4 7 d6,num 2]]))⟩
       |false=>
        have k5:=of_decide_eq_false h5;have k6:=of_decide_eq_false h6;obtain ⟨lo,hlo⟩:∃lo:Nat,(lo:Int)=min b2 zs.length:=⟨(min b2 zs.length).toNat,by omega⟩;obtain ⟨hi,hhi⟩:∃hi:Nat,(hi:Int)=min c2 zs.length:=⟨(min c2 zs.length).toNat,by omega⟩;obtain ⟨r,e3,hr,B2,zqF⟩:=zgX false ((zs.take hi).drop lo) (by grind) (by grind[zeA]);have hes:((zs.map fun z:Int=>[num z]).take hi).drop lo=((zs.take hi).drop lo).map fun z=>[num z]:=by rw [List.map_drop,List.map_take]
        rw [<-hes] at zqF;rw [<-hzl] at hlo hhi;have z1':(zs.map fun z:Int=>[num z]).length<=1000000:=by omega
        clear hes z2;generalize (zs.map fun z:Int=>[num z])=es at zga zqF hlo hhi z1';have e66:(if false=true then if Int.ofNat es.length>b2 then Int.ofNat es.length else b2 else if Int.ofNat es.length<b2 then Int.ofNat es.length else b2)=Int.ofNat lo:=by rw [if_neg (by decide)];simp;split<;>omega
        have e71:(if false=true then if Int.ofNat es.length>c2 then Int.ofNat es.length else c2 else if Int.ofNat es.length<c2 then Int.ofNat es.length else c2)=Int.ofNat hi:=by rw [if_neg (by decide)];simp;split<;>omega
        have e76:(Int.ofNat lo).toNat<=(Int.ofNat hi).toNat/\(Int.ofNat hi).toNat<=es.length:=by show lo<=hi/\hi<=es.length;omega
        refine ⟨[num 4,num 0,num 0,aC r,.sl false 6 [],.sl false 7 []],0,by decide,.inr ⟨r,hr,rfl⟩,lift (B:=B1+B2+3) fun M hM=>?_⟩;have zqG:Gam.aF (ah tab ext M) 233 [aC r]=some (.agg [num 4,num 0,num 0,aC r,.sl false 6 [],.sl false 7 []]):=by obtain ⟨K,rfl⟩:∃K,M=K+2:=⟨M-2,by omega⟩;exact XI K r
        exact caA [(20,.b false),(25,.b false),(29,.b false),(34,.b false),(41,.p (.tup [.sl tp 1 es,num ep])),(46,.b false),(52,.b false),(58,.b false),(66,.i (Int.ofNat lo)),(71,.i (Int.ofNat hi)),(76,.cut),(77,.p (.tup [aC r,num e3])),(81,.p (.agg [num 4,num 0,num 0,aC r,.sl false 6 [],.sl false 7 []]))] (zpU h1 h2 h3 h4 (zga M (by omega)) hb h5 h6 e66 e71 e76 (zqF M (by omega)) zqG) (r:=some (.agg [num 4,num 0,num 0,aC r,.sl false 6 [],.sl false 7 []],[.var [num d1,num d2,num d3,aC d4,.sl td 6 d5,.sl t4 7 d6,num 0]]))
end
def ztw:List Ctr:=[mkC 182 [.p 0,val,val,val] [.l9 0 6 oL] none [(val,[.l9 0 6 oL])]]
theorem Az {x:X}(hx:val.Is T 0 x):∃(a b c:Int) (s:qaZ) (t:Bool) (l:qaY) (t':Bool) (f:qaY),x=.agg [num a,num b,num c,aC s,.sl t 6 l,.sl t' 7 f]/\s.size<=1000000:=by
 obtain ⟨h',xs,rfl,h0,hi⟩:∃h' xs,x=.agg xs/\0<=h'/\IsL T h' [int,int,int,.s,.slh 6 1,.slh 7 2] xs:=hx
 match xs,hi with
 |[_,_,_,_,_,_],⟨⟨a,rfl⟩,⟨b,rfl⟩,⟨c,rfl⟩,⟨s,rfl,k1⟩,⟨t,l,rfl,k2,k3⟩,⟨t',f,rfl,k4,k5⟩,_⟩=>exact ⟨a,b,c,s,t,l,t',f,rfl,by grind[bT]⟩
theorem zjI:ay T Gm ztw:=.one (dF (fun o ho=>by rw [qaa.1 ho];exact ⟨rfl,rfl⟩) fun xs bx ha hb=>by
 match xs,bx,ha,hb with
 |[_,_,_,_],[_],⟨rfl,h1,h2,h3,_⟩,⟨⟨h',ys,rfl,m0,m1,hi⟩,_⟩=>
  obtain ⟨a1,a2,a3,a4,ta,a5,t1,a6,rfl,ka⟩:=Az h1;obtain ⟨b1,b2,b3,b4,tb,b5,t2,b6,rfl,_⟩:=Az h2;obtain ⟨c1,c2,c3,c4,tc,c5,t3,c6,rfl,_⟩:=Az h3
  match ys,hi with
  |[_,_,_,_,_,_,_],⟨⟨d1,rfl⟩,⟨d2,rfl⟩,⟨d3,rfl⟩,⟨d4,rfl,k1⟩,⟨td,d5,rfl,k2⟩,⟨t4,d6,rfl,k3⟩,⟨e,rfl,er⟩,_⟩=>
   obtain ⟨y,e2,er2,hy,hB⟩:=Uy d1 d2 d3 d4 td t4 d5 d6 a1 a2 a3 b1 b2 b3 c1 c2 c3 e a4 b4 c4 a5 a6 b5 b6 c5 c6 ta tb tc t1 t2 t3 ka er;refine ⟨_,qaa.2 rfl,.agg y,[.var [num d1,num d2,num d3,aC d4,.sl td 6 d5,.sl t4 7 d6,num e2]],?_,⟨⟨h',_,rfl,m0,m1,⟨d1,rfl⟩,⟨d2,rfl⟩,⟨d3,rfl⟩,⟨d4,rfl,k1⟩,⟨td,d5,rfl,k2⟩,⟨t4,d6,rfl,k3⟩,⟨e2,rfl,er2⟩,trivial⟩,trivial⟩,hB⟩;rcases hy with rfl|⟨r,hr,rfl⟩;·exact ⟨0,_,rfl,Int.le_refl _,⟨0,rfl⟩,⟨0,rfl⟩,⟨0,rfl⟩,⟨⟨#[]⟩,rfl,by decide⟩,⟨true,[],rfl,by decide,fun e he=>by grind⟩,⟨true,[],rfl,by decide,fun e he=>by grind⟩,trivial⟩
   exact ⟨0,_,rfl,Int.le_refl _,⟨4,rfl⟩,⟨0,rfl⟩,⟨0,rfl⟩,⟨r,rfl,by grind[bT]⟩,⟨false,[],rfl,by decide,fun e he=>by grind⟩,⟨false,[],rfl,by decide,fun e he=>by grind⟩,trivial⟩)
end Ct
end Go.Proofs.YtpcjeobkehmhpaaGreatDoor
