/- decimal.Text: the text of any number. -/
import Derived.Test.YtjbndifenhihhaaGreatDoorP17
import Derived.Test.YtjbndifenhihhaaGreatDoorP22
namespace Go.Proofs.YtjbndifenhihhaaGreatDoor
open Go Go.Em Go.Ab
set_option maxRecDepth 100000
namespace Ct
theorem zaO {a:Int}(h1:-999999999999999≤a)(h2:a≤999999999999999):∃b:Int,0≤b∧b≤999999999999999∧∃B,∀N,B≤N→Gam.pureD (callF tab ext N) 275 [num a]=some (num b):=by
 have key:∀{lo hi lo' hi':Int},mkC 275 [.ir .i64 lo hi] [] none [(.ir .i64 lo' hi',[])]∈zdy→lo≤a→a≤hi→0≤lo'→hi'≤999999999999999→∃b:Int,0≤b∧b≤999999999999999∧∃B,∀N,B≤N→Gam.pureD (callF tab ext N) 275 [num a]=some (num b):=fun hm k1 k2 k3 k4=>by
  obtain ⟨o,ho,r,bx,hi,hb,B,hB⟩:=gu (vk _ hm) rfl rfl (xs:=[num a]) ⟨zha k1 k2,trivial⟩ (bx:=[]) trivial
  obtain rfl:=List.mem_singleton.1 ho
  obtain rfl:=vO hb
  obtain ⟨b,rfl,q1,q2⟩:=zhp hi
  exact ⟨b,by omega,by omega,B,fun N hN=>bP (hB N hN) rfl⟩
 by_cases k1:a≤-1
 ·exact key (List.mem_cons_self ..) h1 k1 (by decide) (by decide)
 ·by_cases k2:a=0
  ·exact key (List.mem_cons_of_mem _ (List.mem_cons_self ..)) (by omega) (by omega) (by decide) (by decide)
  ·exact key (List.mem_cons_of_mem _ (List.mem_cons_of_mem _ (List.mem_cons_self ..))) (by omega) (by omega) (by decide) (by decide)
theorem Vz {a:Int}(h1:-9223372036854775808≤a)(h2:a≤9223372036854775807):∃d:ByteArray,1≤d.size∧d.size≤21∧∃B,∀N,B≤N→Gam.pureD (callF tab ext N) 87 [num a]=some (strX d):=by
 have k1:=Lib.itoa_length_le a h1 h2
 have k2:=Oy a
 obtain ⟨B,hB⟩:=gI (f:=87) (g:=uZ) rfl (EL a h1 h2)
 exact ⟨_,by rw [bsz];omega,by rw [bsz];omega,B,fun N hN=>bP (hB N hN) rfl⟩
theorem JW {c:Int}(h2:0≤c)(h3:c≤100):∃r:ByteArray,(r.size:Int)=c∧∃B,∀N,B≤N→Gam.pureD (callF tab ext N) 333 [.v (.string ⟨#[48]⟩),num c]=some (strX r):=by
 obtain ⟨r,he,hr⟩:=Ci ⟨#[48]⟩ c rfl h2 h3
 obtain ⟨B,hB⟩:=gI (f:=333) (g:=l9) rfl he
 exact ⟨r,hr,B,fun N hN=>bP (hB N hN) rfl⟩
theorem pfc {p:Prop}{ps:List Prop}(h1:p)(h2:lU ps):lU (p::ps):=⟨h1,h2⟩
theorem Rx (a s:Int):(∃e:Int,(0≤e∧e≤100)∧Back 285 [.agg [num a,num s]] (.tup [noText,num e]))∨∃t:ByteArray,t.size≤60∧Back 285 [.agg [num a,num s]] (.tup [strX t,num 0]):=by
 have lift:∀{B:Nat} {r:X},(∀M,B≤M→callF tab ext (M+1) (.fn 285) [.agg [num a,num s]] []=some (r,[]))→Back 285 [.agg [num a,num s]] r:=fun {B} {r} h=>⟨B+1,fun N hN=>by
  obtain ⟨M,rfl⟩:∃M,N=M+1:=⟨N-1,by omega⟩
  exact h M (by omega)⟩
 obtain ⟨e,⟨hok,er⟩,he⟩:=zbx a s
 obtain ⟨B1,he⟩:=iF he rfl
 cases h1:(e !=0) with
 |true=>exact .inl ⟨e,er,lift (B:=B1) fun M hM=>aB [(7,.p (num e)),(9,.b true)] [] (pf2 (he M hM) h1) (r:=some (.tup [noText,num e],[])) (by kernel_rfl)⟩
 |false=>
  have e0:e=0:=by simpa using h1
  subst e0
  obtain ⟨o1,o2,o3,o4⟩:=hok rfl
  obtain ⟨b,b1,b2,B2,hb⟩:=zaO o1 o2
  obtain ⟨d,d1,d2,B3,hd⟩:=Vz (a:=b) (by omega) (by omega)
  right
  cases hs:decide (s>0) with
  |false=>
   cases ha:decide (a<0) with
   |true=>
    have hm:(⟨#[45]⟩:ByteArray).size+d.size≤9223372036854775807:=by
     show 1+d.size≤_
     omega
    refine ⟨⟨#[45]⟩++d,by rw [ByteArray.size_append];show 1+d.size≤60;omega,lift (B:=B1+B2+B3) fun M hM=>?_⟩
    exact aB [(7,.p (num 0)),(13,.p (num b)),(14,.p (strX d)),(17,.b false),(46,.b true),(48,.at)] [] (pf6 (he M (by omega)) (hb M (by omega)) (hd M (by omega)) hs ha hm) (r:=some (.tup [strX (⟨#[45]⟩++d),num 0],[])) (by kernel_rfl)
   |false=>exact ⟨d,by omega,lift (B:=B1+B2+B3) fun M hM=>aB [(7,.p (num 0)),(13,.p (num b)),(14,.p (strX d)),(17,.b false),(46,.b false)] [] (pf5 (he M (by omega)) (hb M (by omega)) (hd M (by omega)) hs ha) (r:=some (.tup [strX d,num 0],[])) (by kernel_rfl)⟩
  |true=>
   have hs':s>0:=of_decide_eq_true hs
   obtain ⟨w,hw⟩:∃w,w=s+1-Int.ofNat d.size:=⟨_,rfl⟩
   simp only [Int.ofNat_eq_natCast] at hw
   obtain ⟨c,hc⟩:∃c:Int,(if true=true then if w>0 then w else 0 else if w<0 then w else 0)=c:=⟨_,rfl⟩
   have hc':c=max w 0:=by
    rw [←hc,if_pos rfl]
    split<;>omega
   obtain ⟨z,hz1,B4,hz⟩:=JW (c:=c) (by omega) (by omega)
   have hzd:(z++d).size=z.size+d.size:=ByteArray.size_append
   obtain ⟨k,hk⟩:∃k:Nat,k+s.toNat=(z++d).size:=⟨(z++d).size-s.toNat,by omega⟩
   have h20:IntKind.i64.wrap (s+1)=s+1:=by rw [IntKind.wrap_i64];omega
   have h23:IntKind.i64.wrap (s+1-Int.ofNat d.size)=w:=by rw [IntKind.wrap_i64];simp only [Int.ofNat_eq_natCast];omega
   have h33:IntKind.i64.wrap (Int.ofNat (z++d).size-s)=Int.ofNat k:=by rw [IntKind.wrap_i64];simp only [Int.ofNat_eq_natCast];omega
   have h27:z.size+d.size≤9223372036854775807:=by omega
   have h34:0≤(Int.ofNat k).toNat∧(Int.ofNat k).toNat≤(z++d).size:=⟨Nat.zero_le _,by show k≤_;omega⟩
   have x1:((z++d).extract 0 k).size=k:=by rw [ByteArray.size_extract];omega
   have x2:((z++d).extract k (z++d).size).size=s.toNat:=by rw [ByteArray.size_extract];omega
   have h35:((z++d).extract 0 (Int.ofNat k).toNat).size+(⟨#[46]⟩:ByteArray).size≤9223372036854775807:=by
    show ((z++d).extract 0 k).size+1≤_
    omega
   have h42:(Int.ofNat k).toNat≤(z++d).size∧(z++d).size≤(z++d).size:=⟨by show k≤_;omega,Nat.le_refl _⟩
   have x3:((z++d).extract 0 k++(⟨#[46]⟩:ByteArray)).size=k+1:=by rw [ByteArray.size_append,x1];rfl
   have h43:((z++d).extract 0 (Int.ofNat k).toNat++(⟨#[46]⟩:ByteArray)).size+((z++d).extract (Int.ofNat k).toNat (z++d).size).size≤9223372036854775807:=by
    show ((z++d).extract 0 k++(⟨#[46]⟩:ByteArray)).size+((z++d).extract k (z++d).size).size≤_
    omega
   have x4:((z++d).extract 0 k++(⟨#[46]⟩:ByteArray)++(z++d).extract k (z++d).size).size=k+1+s.toNat:=by rw [ByteArray.size_append,x3,x2]
   cases ha:decide (a<0) with
   |true=>
    have h48:(⟨#[45]⟩:ByteArray).size+((z++d).extract 0 (Int.ofNat k).toNat++(⟨#[46]⟩:ByteArray)++(z++d).extract (Int.ofNat k).toNat (z++d).size).size≤9223372036854775807:=by
     show 1+((z++d).extract 0 k++(⟨#[46]⟩:ByteArray)++(z++d).extract k (z++d).size).size≤_
     omega
    refine ⟨⟨#[45]⟩++((z++d).extract 0 k++(⟨#[46]⟩:ByteArray)++(z++d).extract k (z++d).size),by rw [ByteArray.size_append,x4];show 1+(k+1+s.toNat)≤60;omega,lift (B:=B1+B2+B3+B4) fun M hM=>?_⟩
    exact aB [(7,.p (num 0)),(13,.p (num b)),(14,.p (strX d)),(17,.b true),(20,.i (s+1)),(23,.i w),(24,.i c),(25,.p (strX z)),(27,.at),(33,.i (Int.ofNat k)),(34,.cut),(35,.at),(41,.i (Int.ofNat k)),(42,.cut),(43,.at),(46,.b true),(48,.at)] []
     (pfc (he M (by omega)) (pfc (hb M (by omega)) (pfc (hd M (by omega)) (zmk hs h20 h23 hc (hz M (by omega)) h27 h33 h34 h35 h33 h42 h43 ha h48)))) (r:=some (.tup [strX (⟨#[45]⟩++((z++d).extract 0 k++(⟨#[46]⟩:ByteArray)++(z++d).extract k (z++d).size)),num 0],[])) (by kernel_rfl)
   |false=>
    refine ⟨(z++d).extract 0 k++(⟨#[46]⟩:ByteArray)++(z++d).extract k (z++d).size,by rw [x4];omega,lift (B:=B1+B2+B3+B4) fun M hM=>?_⟩
    exact aB [(7,.p (num 0)),(13,.p (num b)),(14,.p (strX d)),(17,.b true),(20,.i (s+1)),(23,.i w),(24,.i c),(25,.p (strX z)),(27,.at),(33,.i (Int.ofNat k)),(34,.cut),(35,.at),(41,.i (Int.ofNat k)),(42,.cut),(43,.at),(46,.b false)] []
     (pfc (he M (by omega)) (pfc (hb M (by omega)) (pfc (hd M (by omega)) (zjM hs h20 h23 hc (hz M (by omega)) h27 h33 h34 h35 h33 h42 h43 ha)))) (r:=some (.tup [strX ((z++d).extract 0 k++(⟨#[46]⟩:ByteArray)++(z++d).extract k (z++d).size),num 0],[])) (by kernel_rfl)
def zkF:List Ctr:=[mkC 285 [pJ] [] none [(.tu [.sr 0 60,err],[])]]
theorem Wh:ah T Gm zkF:=.one (dA (fun o ho=>by rw [List.mem_singleton.1 ho];exact ⟨rfl,rfl⟩) fun xs bx ha hb=>by
 obtain ⟨x,rfl,hx⟩:=zdf ha
 obtain rfl:=vO hb
 obtain ⟨ys,rfl,hy⟩:∃ys,x=.agg ys∧IsL T 0 [int,int] ys:=hx
 obtain ⟨y,z,rfl,⟨a,rfl⟩,⟨s,rfl⟩⟩:=zfX hy
 rcases Rx a s with ⟨e,er,h⟩|⟨t,ht,h⟩
 ·exact ⟨_,List.mem_singleton.2 rfl,.tup [noText,num e],[],⟨_,rfl,⟨⟨#[]⟩,rfl,by decide,by decide⟩,⟨e,rfl,er⟩,trivial⟩,trivial,h⟩
 ·exact ⟨_,List.mem_singleton.2 rfl,.tup [strX t,num 0],[],⟨_,rfl,⟨t,rfl,by omega,by omega⟩,⟨0,rfl,by decide,by decide⟩,trivial⟩,trivial,h⟩)
end Ct
end Go.Proofs.YtjbndifenhihhaaGreatDoor
namespace Go.Proofs.YtjbndifenhihhaaGreatDoor
open Go Go.Em Go.Ab
set_option maxRecDepth 100000
namespace Ct
theorem BL (s:ByteArray)(hs:s.size≤1000000)(c d:Int)(hc0:0≤c)(hc1:c≤97)(hd0:-32≤d)(hd1:d≤32)(hcd:0≤c+d):∃t:ByteArray,t.size≤1000000∧∃B,∀N,B≤N→Gam.pureD (callF tab ext N) 289 [strX s,.v (.int .u8 c),num d]=some (strX t):=by
 have he:xW [strX s,.v (.int .u8 c),num d] []=some (.v (.string ⟨(s.data.toList.map (shB c d)).toArray⟩),[]):=by
  show (if 0≤c∧c≤97∧-32≤d∧d≤32∧0≤c+d∧s.size≤1000000 then _ else _)=_
  rw [if_pos ⟨hc0,hc1,hd0,hd1,hcd,hs⟩]
 obtain ⟨B,hB⟩:=gI (f:=289) (g:=xW) rfl he
 exact ⟨_,by rw [bsz,List.length_map,bln];exact hs,B,fun N hN=>bP (hB N hN) rfl⟩
theorem NV {f:FuncId}{s t:ByteArray}{B:Nat}(h:∀M,B≤M→callF tab ext (M+1) (.fn f) [strX s] []=some (strX t,[])):∃B,∀N,B≤N→callF tab ext N (.fn f) [strX s] []=some (strX t,[]):=⟨B+1,fun N hN=>by
 obtain ⟨M,rfl⟩:∃M,N=M+1:=⟨N-1,by omega⟩
 exact h M (by omega)⟩
def znc:List Ctr:=[mkC 224 [.s] [] none [(.s,[])]]
theorem zed:ah T Gm znc:=.one (dA (fun o ho=>by rw [List.mem_singleton.1 ho];exact ⟨rfl,rfl⟩) fun xs bx ha hb=>by
 obtain ⟨x,rfl,hx⟩:=zdf ha
 obtain rfl:=vO hb
 obtain ⟨s,rfl,h⟩:=isS hx
 obtain ⟨t,ht,B,hB⟩:=BL s (by omega) 65 32 (by decide) (by decide) (by decide) (by decide) (by decide)
 exact ⟨_,List.mem_singleton.2 rfl,strX t,[],⟨t,rfl,by unfold dX;omega⟩,trivial,NV (B:=B) fun M hM=>aB [(4,.p (strX t))] [] (pf1 (hB M hM)) (r:=some (strX t,[])) (by kernel_rfl)⟩)
def znb:List Ctr:=[mkC 225 [.s] [] none [(.s,[])]]
theorem zec:ah T Gm znb:=.one (dA (fun o ho=>by rw [List.mem_singleton.1 ho];exact ⟨rfl,rfl⟩) fun xs bx ha hb=>by
 obtain ⟨x,rfl,hx⟩:=zdf ha
 obtain rfl:=vO hb
 obtain ⟨s,rfl,h⟩:=isS hx
 obtain ⟨t,ht,B,hB⟩:=BL s (by omega) 97 (-32) (by decide) (by decide) (by decide) (by decide) (by decide)
 exact ⟨_,List.mem_singleton.2 rfl,strX t,[],⟨t,rfl,by unfold dX;omega⟩,trivial,NV (B:=B) fun M hM=>aB [(4,.p (strX t))] [] (pf1 (hB M hM)) (r:=some (strX t,[])) (by kernel_rfl)⟩)
theorem zoP (n a b c d:Nat)(ha:a<256)(h:¬((Lib.decodeN n a b c d).1=65533∧(Lib.decodeN n a b c d).2≤1)):(Lib.encodeRune ((Lib.decodeN n a b c d).1:Int)).length=(Lib.decodeN n a b c d).2:=by
 have hl:∀r:Int,(Lib.encodeRune r).length=(Lib.encodeRuneZ r).length:=fun r=>List.length_map ..
 rw [hl]
 revert h
 unfold Lib.decodeN
 repeat' split
 all_goals intro h
 all_goals first
  |exact absurd ⟨rfl,by decide⟩ h
  |(dsimp only at h ⊢
    first
     |rw [Lib.encodeRuneZ_one (by omega) (by omega)];rfl
     |rw [Lib.encodeRuneZ_two (by omega) (by omega)];rfl
     |rw [Lib.encodeRuneZ_three (by omega)];rfl
     |rw [Lib.encodeRuneZ_four (by omega) (by omega)];rfl)
theorem zaq (s:ByteArray)(h:1≤s.size):∃c w:Nat,(c≤1114111∧1≤w∧w≤s.size∧(¬(c=65533∧w≤1)→(Lib.encodeRune (c:Int)).length=w))∧∃B,∀N,B≤N→Gam.pureD (callF tab ext N) 329 [strX s]=some (.tup [.v (.int .i32 (Int.ofNat c)),nat w]):=by
 have h1:¬s.size=0:=by omega
 obtain ⟨B,hB⟩:=gI (f:=329) (g:=Ac) (args:=[strX s]) rfl rfl
 have h3:(uj s).1≤1114111∧1≤(uj s).2∧(uj s).2≤s.size∧(¬((uj s).1=65533∧(uj s).2≤1)→(Lib.encodeRune ((uj s).1:Int)).length=(uj s).2):=by
  unfold uj
  rw [if_neg h1,Lib.decode_at]
  have:=Ja (s.size-0) (s.get! 0).toNat (s.get! (0+1)).toNat (s.get! (0+2)).toNat (s.get! (0+3)).toNat (by omega)
  exact ⟨Lib.decodeN_rune_le _ _ _ _ _ (UInt8.toNat_lt _),this.1,by omega,zoP _ _ _ _ _ (UInt8.toNat_lt _)⟩
 exact ⟨(uj s).1,(uj s).2,h3,B,fun N hN=>bP (hB N hN) rfl⟩
def zcw:C→List (C×C)
 |.seq a b|.cond _ a b=>zcw a++zcw b
 |.block _ b|.loop b=>zcw b
 |.rf _ _ _ a b=>(a,b)::(zcw a++zcw b)
 |_=>[]
noncomputable def ptA:C:=((zcw (bodyOf tab 219)).getD 0 (.skip,.skip)).1
noncomputable def ptB:C:=((zcw (bodyOf tab 219)).getD 0 (.skip,.skip)).2
noncomputable def ptRec:Bx:=.loop .ready none [(4,.ptr 1 0 0)] [12,13] ptA ptB
noncomputable abbrev lJ (w:Bool) (n:Nat) (outs:List (List X)):List Bx:=match w with
 |false=>[ptRec,.var [.bs 2 0 n],.row 1 outs]
 |true=>[ptRec,.var [.bs 3 0 n],.dead,.row 1 outs]
noncomputable abbrev ptH (s:ByteArray) (p:Bool×Nat×List Int):St:=⟨[(0,.yl 0),(1,.dp [strX s]),(3,nat p.2.1)],lJ p.1 p.2.2.length (p.2.2.map fun z=>[num z])⟩
theorem zor {r:Int}(h1:0≤r)(h2:r≤1114111):IntKind.i64.wrap r=r:=by rw [IntKind.wrap_i64];omega
theorem UR (N k n:Nat)(r:Int)(outs:List (List X))(h0:0≤r)(h1:r≤1114111)(hn:n=outs.length)(hn2:n≤1000000):callF tab ext (N+1) .yl [.yl 0,nat k,.v (.int .i32 r)] [ptRec,.var [.bs 2 0 n],.row 1 outs]=some (boolX true,[ptRec,.var [.bs 3 0 (n+1)],.dead,.row 1 (outs++[[num r]])]):=by
 have hroom:0+n=outs.length∧dD (n+[[num r]].length) (7+1)=true∧ou 1 (X.sl true 1 [[num r]]).rows=false:=⟨by omega,jW (by simp only [List.length_cons,List.length_nil];omega) (by simp only [List.length_cons,List.length_nil];omega),rfl⟩
 exact aG [(16,.i r),(18,.app)] (pf2 (zor h0 h1) hroom) (by kernel_rfl)
noncomputable abbrev ptN (w:Bool) (n:Nat) (outs:List (List X)):List Bx:=match w with
 |false=>[ptRec,.var [.bs 3 0 n],.dead,.row 1 outs]
 |true=>[ptRec,.var [.bs 4 0 n],.dead,.dead,.row 1 outs]
section
variable (s:ByteArray) (k n c sz k2:Nat) (outs QD:List (List X)) (M:Nat)
theorem zgU (w:Bool)(h1:decide (Int.ofNat k<Int.ofNat s.size)=false):run (callF tab ext M) 3 M (loopAt 328 0) ⟨[(0,.yl 0),(1,.dp [strX s]),(3,nat k)],lJ w n outs⟩=some (.exit 0,⟨[(0,.yl 0),(1,.dp [strX s]),(3,nat k),(9,boolX false)],lJ w n outs⟩):=by
 cases w with
 |false=>exact run_of [(9,.b false)] [] (pf1 h1) (lo':=[]) (by kernel_rfl)
 |true=>exact run_of [(9,.b false)] [] (pf1 h1) (lo':=[]) (by kernel_rfl)
theorem zgV (w:Bool)(h1:decide (Int.ofNat k<Int.ofNat s.size)=true)(h13:(Int.ofNat k).toNat≤s.size∧s.size≤s.size)(hd:Gam.pureD (callF tab ext M) 329 [strX (s.extract (Int.ofNat k).toNat s.size)]=some (.tup [.v (.int .i32 (Int.ofNat c)),nat sz]))(h18:(Int.ofNat c==65533)=true)(h21:decide (Int.ofNat sz≤1)=true):
  run (callF tab ext M) 3 M (loopAt 328 0) ⟨[(0,.yl 0),(1,.dp [strX s]),(3,nat k)],lJ w n outs⟩=some (.ret,⟨[(0,.yl 0),(1,.dp [strX s]),(3,nat k),(5,nat sz),(29,boolX true)],lJ w n outs⟩):=by
 cases w with
 |false=>exact run_of [(9,.b true),(13,.cut),(14,.p (.tup [.v (.int .i32 (Int.ofNat c)),nat sz])),(18,.b true),(21,.b true)] [] (pf5 h1 h13 hd h18 h21) (lo':=[]) (by kernel_rfl)
 |true=>exact run_of [(9,.b true),(13,.cut),(14,.p (.tup [.v (.int .i32 (Int.ofNat c)),nat sz])),(18,.b true),(21,.b true)] [] (pf5 h1 h13 hd h18 h21) (lo':=[]) (by kernel_rfl)
theorem zcJ (w:Bool)(h1:decide (Int.ofNat k<Int.ofNat s.size)=true)(h13:(Int.ofNat k).toNat≤s.size∧s.size≤s.size)(hd:Gam.pureD (callF tab ext M) 329 [strX (s.extract (Int.ofNat k).toNat s.size)]=some (.tup [.v (.int .i32 (Int.ofNat c)),nat sz]))(h18:(Int.ofNat c==65533)=true∧decide (Int.ofNat sz≤1)=false∨(Int.ofNat c==65533)=false)
  (hy:callF tab ext M .yl [.yl 0,nat k,.v (.int .i32 (Int.ofNat c))] (lJ false n outs)=some (boolX true,ptN false (n+1) QD)) (hk:IntKind.i64.wrap (Int.ofNat k+Int.ofNat sz)=Int.ofNat k2):
  run (callF tab ext M) 3 M (loopAt 328 0) ⟨[(0,.yl 0),(1,.dp [strX s]),(3,nat k)],lJ w n outs⟩=some (.norm,⟨[(0,.yl 0),(1,.dp [strX s]),(3,nat k2)],ptN w (n+1) QD⟩):=by
 rcases h18 with ⟨h18,h21⟩|h18
 ·cases w with
  |false=>exact run_of [(9,.b true),(13,.cut),(14,.p (.tup [.v (.int .i32 (Int.ofNat c)),nat sz])),(18,.b true),(21,.b false),(27,.r (boolX true) [ptRec,.var [.bs 3 0 (n+1)],.dead,.row 1 QD]),(32,.i (Int.ofNat k2))] [] (pf7 h1 h13 hd h18 h21 hy hk) (lo':=[]) (by kernel_rfl)
  |true=>exact run_of [(9,.b true),(13,.cut),(14,.p (.tup [.v (.int .i32 (Int.ofNat c)),nat sz])),(18,.b true),(21,.b false),(27,.r (boolX true) [ptRec,.var [.bs 3 0 (n+1)],.dead,.row 1 QD]),(32,.i (Int.ofNat k2))] [] (pf7 h1 h13 hd h18 h21 hy hk) (lo':=[]) (by kernel_rfl)
 ·cases w with
  |false=>exact run_of [(9,.b true),(13,.cut),(14,.p (.tup [.v (.int .i32 (Int.ofNat c)),nat sz])),(18,.b false),(27,.r (boolX true) [ptRec,.var [.bs 3 0 (n+1)],.dead,.row 1 QD]),(32,.i (Int.ofNat k2))] [] (pf6 h1 h13 hd h18 hy hk) (lo':=[]) (by kernel_rfl)
  |true=>exact run_of [(9,.b true),(13,.cut),(14,.p (.tup [.v (.int .i32 (Int.ofNat c)),nat sz])),(18,.b false),(27,.r (boolX true) [ptRec,.var [.bs 3 0 (n+1)],.dead,.row 1 QD]),(32,.i (Int.ofNat k2))] [] (pf6 h1 h13 hd h18 hy hk) (lo':=[]) (by kernel_rfl)
theorem YQ (w:Bool):canon 3 ⟨[(0,.yl 0),(1,.dp [strX s]),(3,nat k)],ptN w n outs⟩=some ⟨[(0,.yl 0),(1,.dp [strX s]),(3,nat k)],lJ true n outs⟩:=by cases w<;>kernel_rfl
end
noncomputable abbrev PtI (s:ByteArray) (p:Bool×Nat×List Int):Prop:=p.2.1≤s.size∧p.2.2.length≤p.2.1∧(p.2.2.flatMap Lib.encodeRune).length≤p.2.1∧∀z,z∈p.2.2→0≤z∧z≤1114111
theorem zcI (s:ByteArray)(hs:s.size≤1000000){τ:St}(hτ:canon 3 τ=some (ptH s (false,0,[]))):∃e σ' B,(∃(w:Bool) (zs:List Int) (q:List (Nat×X)),(e=.ret∨e=.exit 0)∧(σ'=⟨q,lJ w zs.length (zs.map fun z=>[num z])⟩)∧(∃k:Nat,q=[(0,.yl 0),(1,.dp [strX s]),(3,nat k),(9,boolX false)]∧e=.exit 0∨∃(w2:Nat),q=[(0,.yl 0),(1,.dp [strX s]),(3,nat k),(5,nat w2),(29,boolX true)]∧e=.ret)∧zs.length≤s.size∧(zs.flatMap Lib.encodeRune).length≤s.size)∧∀M,B≤M→run (callF tab ext M) 3 M (.loop (loopAt 328 0)) τ=some (e,σ'):=by
 refine lM (nIn:=3) (b:=loopAt 328 0) (H:=ptH s) (I:=PtI s) (μ:=fun p=>s.size-p.2.1) (Q:=fun e σ'=>∃(w:Bool) (zs:List Int) (q:List (Nat×X)),(e=.ret∨e=.exit 0)∧(σ'=⟨q,lJ w zs.length (zs.map fun z=>[num z])⟩)∧(∃k:Nat,q=[(0,.yl 0),(1,.dp [strX s]),(3,nat k),(9,boolX false)]∧e=.exit 0∨∃(w2:Nat),q=[(0,.yl 0),(1,.dp [strX s]),(3,nat k),(5,nat w2),(29,boolX true)]∧e=.ret)∧zs.length≤s.size∧(zs.flatMap Lib.encodeRune).length≤s.size)
  (fun p hp=>?_) (a:=(false,0,[])) ⟨Nat.zero_le _,Nat.le_refl _,Nat.le_refl _,fun z hz=>by cases hz⟩ hτ
 obtain ⟨w,k,zs⟩:=p
 obtain ⟨i1,i2,i3,i4⟩:=hp
 dsimp only at i1 i2 i3 i4 ⊢
 by_cases hk:k<s.size
 ·have h1:=aI hk
  have h13:(Int.ofNat k).toNat≤s.size∧s.size≤s.size:=⟨i1,Nat.le_refl _⟩
  have hsz:(s.extract k s.size).size=s.size-k:=by rw [ByteArray.size_extract];omega
  obtain ⟨c,sz,⟨c1,c2,c3,c4⟩,B,hd⟩:=zaq (s.extract k s.size) (by omega)
  have hd:∀N,B≤N→Gam.pureD (callF tab ext N) 329 [strX (s.extract (Int.ofNat k).toNat s.size)]=some (.tup [.v (.int .i32 (Int.ofNat c)),nat sz]):=hd
  by_cases hbad:c=65533∧sz≤1
  ·have h18:(Int.ofNat c==65533)=true:=by rw [hbad.1];rfl
   have h21:decide (Int.ofNat sz≤1)=true:=by rw [decide_eq_true_eq,Int.ofNat_eq_natCast];omega
   exact .inr ⟨.ret,⟨[(0,.yl 0),(1,.dp [strX s]),(3,nat k),(5,nat sz),(29,boolX true)],lJ w zs.length (zs.map fun z=>[num z])⟩,B,(by intro e;cases e),⟨w,zs,_,.inl rfl,rfl,⟨k,.inr ⟨sz,rfl,rfl⟩⟩,by omega,by omega⟩,fun M hM=>zgV s k _ c sz _ M w h1 h13 (hd M hM) h18 h21⟩
  ·have hlen:(zs.map fun z:Int=>[num z]).length=zs.length:=List.length_map ..
   have hr0:(0:Int)≤Int.ofNat c:=by simp only [Int.ofNat_eq_natCast];omega
   have hr1:Int.ofNat c≤1114111:=by simp only [Int.ofNat_eq_natCast];omega
   have y0:=fun N=>UR N k zs.length (Int.ofNat c) (zs.map fun z=>[num z]) hr0 hr1 hlen.symm (by omega)
   have hmap:(zs.map fun z:Int=>[num z])++[[num (Int.ofNat c)]]=(zs++[Int.ofNat c]).map fun z=>[num z]:=by simp
   have hl2:zs.length+1=(zs++[Int.ofNat c]).length:=by simp
   rw [hmap] at y0
   have hI:PtI s (true,k+sz,zs++[Int.ofNat c]):=by
    refine ⟨by dsimp only;omega,by dsimp only;rw [List.length_append,List.length_singleton];omega,?_,fun z hz=>?_⟩
    ·dsimp only
     rw [List.flatMap_append,List.length_append,List.flatMap_cons,List.flatMap_nil,List.append_nil]
     have:=c4 hbad
     simp only [Int.ofNat_eq_natCast]
     omega
    ·rcases List.mem_append.1 hz with hz|hz
     ·exact i4 z hz
     ·rw [List.mem_singleton.1 hz];exact ⟨hr0,hr1⟩
   have hkn:IntKind.i64.wrap (Int.ofNat k+Int.ofNat sz)=Int.ofNat (k+sz):=by rw [IntKind.wrap_i64];simp only [Int.ofNat_eq_natCast];omega
   have e18:(Int.ofNat c==65533)=true∧decide (Int.ofNat sz≤1)=false∨(Int.ofNat c==65533)=false:=by
    by_cases h:c=65533
    ·exact .inl ⟨by rw [h];rfl,by rw [decide_eq_false_iff_not,Int.ofNat_eq_natCast];omega⟩
    ·exact .inr (by rw [beq_eq_false_iff_ne,Int.ofNat_eq_natCast];omega)
   refine .inl ⟨⟨[(0,.yl 0),(1,.dp [strX s]),(3,nat (k+sz))],ptN w (zs.length+1) ((zs++[Int.ofNat c]).map fun z=>[num z])⟩,(true,k+sz,zs++[Int.ofNat c]),B+1,fun M hM=>?_,?_,hI,by dsimp only;omega⟩
   ·obtain ⟨M,rfl⟩:∃M',M=M'+1:=⟨M-1,by omega⟩
    exact zcJ s k _ c sz (k+sz) _ _ (M+1) w h1 h13 (hd (M+1) (by omega)) e18 (y0 M) hkn
   ·rw [hl2]
    exact YQ s (k+sz) _ _ w
 ·exact .inr ⟨.exit 0,⟨[(0,.yl 0),(1,.dp [strX s]),(3,nat k),(9,boolX false)],lJ w zs.length (zs.map fun z=>[num z])⟩,0,(by intro e;cases e),⟨w,zs,_,.inr rfl,rfl,⟨k,.inl ⟨rfl,rfl⟩⟩,by omega,by omega⟩,fun M _=>zgU s k _ _ M w (aJ hk)⟩
theorem runes_pure (N:Nat)(s:ByteArray):Gam.pureD (callF tab ext (N+2)) 279 [strX s]=some (.fn 328 [.dp [strX s]]):=by kernel_rfl
section
variable (s:ByteArray) (n k w2:Nat) (outs:List (List X)) (M:Nat)
theorem zgS (h:run (callF tab ext M) 3 M (.loop (loopAt 328 0)) ⟨[(0,.yl 0),(1,.dp [strX s]),(3,nat 0)],lJ false 0 []⟩=some (.exit 0,⟨[(0,.yl 0),(1,.dp [strX s]),(3,nat k),(9,boolX false)],lJ false n outs⟩)):callF tab ext (M+1) (.fn 328) [.yl 0,.dp [strX s]] (lJ false 0 [])=some (.tup [],lJ false n outs):=
 aB [] [(.exit 0,⟨[(0,.yl 0),(1,.dp [strX s]),(3,nat k),(9,boolX false)],lJ false n outs⟩)] (pf1 h) (by kernel_rfl)
theorem zgR (h:run (callF tab ext M) 3 M (.loop (loopAt 328 0)) ⟨[(0,.yl 0),(1,.dp [strX s]),(3,nat 0)],lJ false 0 []⟩=some (.exit 0,⟨[(0,.yl 0),(1,.dp [strX s]),(3,nat k),(9,boolX false)],lJ true n outs⟩)):callF tab ext (M+1) (.fn 328) [.yl 0,.dp [strX s]] (lJ false 0 [])=some (.tup [],lJ true n outs):=
 aB [] [(.exit 0,⟨[(0,.yl 0),(1,.dp [strX s]),(3,nat k),(9,boolX false)],lJ true n outs⟩)] (pf1 h) (by kernel_rfl)
theorem zgQ (h:run (callF tab ext M) 3 M (.loop (loopAt 328 0)) ⟨[(0,.yl 0),(1,.dp [strX s]),(3,nat 0)],lJ false 0 []⟩=some (.ret,⟨[(0,.yl 0),(1,.dp [strX s]),(3,nat k),(5,nat w2),(29,boolX true)],lJ false n outs⟩)):callF tab ext (M+1) (.fn 328) [.yl 0,.dp [strX s]] (lJ false 0 [])=some (.tup [],lJ false n outs):=
 aB [] [(.ret,⟨[(0,.yl 0),(1,.dp [strX s]),(3,nat k),(5,nat w2),(29,boolX true)],lJ false n outs⟩)] (pf1 h) (by kernel_rfl)
theorem zgP (h:run (callF tab ext M) 3 M (.loop (loopAt 328 0)) ⟨[(0,.yl 0),(1,.dp [strX s]),(3,nat 0)],lJ false 0 []⟩=some (.ret,⟨[(0,.yl 0),(1,.dp [strX s]),(3,nat k),(5,nat w2),(29,boolX true)],lJ true n outs⟩)):callF tab ext (M+1) (.fn 328) [.yl 0,.dp [strX s]] (lJ false 0 [])=some (.tup [],lJ true n outs):=
 aB [] [(.ret,⟨[(0,.yl 0),(1,.dp [strX s]),(3,nat k),(5,nat w2),(29,boolX true)],lJ true n outs⟩)] (pf1 h) (by kernel_rfl)
noncomputable def zmj:St:=⟨[(4,.ptr 0 0 0),(11,.fn 328 [.dp [strX s]])],[.var [.bs 1 0 0],.row 1 []]⟩
theorem zgO (N:Nat)(hy:callF tab ext N (.fn 328) [.yl 0,.dp [strX s]] (lJ false 0 [])=some (.tup [],lJ false n outs)):run (callF tab ext N) 0 N (.rf (.t 11) [12,13] [4] ptA ptB) (zmj s)=some (.norm,⟨[(4,.ptr 0 0 0),(11,.fn 328 [.dp [strX s]])],[.var [.bs 1 0 n],.row 1 outs,.dead]⟩):=
 YH (g:=328) (caps:=[.dp [strX s]]) (y:=.tup []) (outb:=lJ false n outs) (q:=(.tup [],[.var [.bs 1 0 n],.row 1 outs,.loop .ready none [(4,.ptr 0 0 0)] [12,13] ptA ptB],[2,0,1])) hy (by kernel_rfl) (by kernel_rfl) (by kernel_rfl)
theorem zgN (N:Nat)(hy:callF tab ext N (.fn 328) [.yl 0,.dp [strX s]] (lJ false 0 [])=some (.tup [],lJ true n outs)):run (callF tab ext N) 0 N (.rf (.t 11) [12,13] [4] ptA ptB) (zmj s)=some (.norm,⟨[(4,.ptr 0 0 0),(11,.fn 328 [.dp [strX s]])],[.var [.bs 3 0 n],.dead,.dead,.row 1 outs]⟩):=
 YH (g:=328) (caps:=[.dp [strX s]]) (y:=.tup []) (outb:=lJ true n outs) (q:=(.tup [],[.var [.bs 3 0 n],.dead,.loop .ready none [(4,.ptr 0 0 0)] [12,13] ptA ptB,.row 1 outs],[2,0,1])) hy (by kernel_rfl) (by kernel_rfl) (by kernel_rfl)
theorem zgT (w:Bool)(hv:Gam.pureD (callF tab ext M) 278 [strX s]=some (boolX true))(hr:Gam.pureD (callF tab ext M) 279 [strX s]=some (.fn 328 [.dp [strX s]]))(hy:callF tab ext M (.fn 328) [.yl 0,.dp [strX s]] (lJ false 0 [])=some (.tup [],lJ w n outs))(hn:n=outs.length):
  Gam.pureD (callF tab ext (M+1)) 219 [strX s]=some (.tup [.sl false 1 outs,num 0]):=by
 have hd:X.data [.row 1 outs] false (.tup [.bs 0 0 n,num 0])=some (.tup [.sl false 1 outs,num 0]):=by
  simp only [X.data,fG,Hg (bx:=[.row 1 outs]) (i:=0) (sz:=1) (es:=outs) (n:=n) rfl hn,Option.map_some,num]
 cases w with
 |false=>exact pure_of [(8,.p (boolX true)),(11,.p (.fn 328 [.dp [strX s]]))] [(.norm,⟨[(4,.ptr 0 0 0),(11,.fn 328 [.dp [strX s]])],[.var [.bs 1 0 n],.row 1 outs,.dead]⟩)] (pf3 hv hr (zgO s n outs M hy)) (x:=.tup [.bs 0 0 n,num 0]) (bx:=[.row 1 outs]) (by kernel_rfl) hd
 |true=>exact pure_of [(8,.p (boolX true)),(11,.p (.fn 328 [.dp [strX s]]))] [(.norm,⟨[(4,.ptr 0 0 0),(11,.fn 328 [.dp [strX s]])],[.var [.bs 3 0 n],.dead,.dead,.row 1 outs]⟩)] (pf3 hv hr (zgN s n outs M hy)) (x:=.tup [.bs 0 0 n,num 0]) (bx:=[.row 1 outs]) (by kernel_rfl) hd
end
theorem J4 (s:ByteArray)(hs:s.size≤1000000):∃(e:Int) (t:Bool) (zs:List Int),(0≤e∧e≤100)∧zs.length≤1000000∧(zs.flatMap Lib.encodeRune).length≤1000000∧∃B,∀N,B≤N→Gam.pureD (callF tab ext N) 219 [strX s]=some (.tup [.sl t 1 (zs.map fun z=>[num z]),num e]):=by
 obtain ⟨g,B1,hv⟩:∃g,∃B,∀N,B≤N→Gam.pureD (callF tab ext N) 278 [strX s]=some (boolX g):=by
  have hsz:s.size<281474976710656:=by omega
  obtain ⟨g,hg⟩:∃g,pR [strX s] []=some (boolX g,[]):=by
   refine ⟨Lib.validD s.data.toList,?_⟩
   show (if s.size≤9223372036854775807 then some (X.v (Value.bool (Lib.validD s.data.toList)),[]) else none:Option (X×List Bx))=_
   rw [if_pos (by omega)]
   rfl
  obtain ⟨B,hB⟩:=gI (f:=126) (g:=pR) rfl hg
  refine ⟨g,B+1,fun N hN=>?_⟩
  obtain ⟨M,rfl⟩:∃M,N=M+1:=⟨N-1,by omega⟩
  exact pure_of [(4,.p (boolX g))] [] (pf1 (bP (hB M (by omega)) rfl)) (x:=boolX g) (bx:=[]) (by kernel_rfl) rfl
 cases g with
 |false=>exact ⟨16,false,[],by decide,Nat.zero_le _,Nat.zero_le _,B1+1,fun N hN=>by
   obtain ⟨M,rfl⟩:∃M,N=M+1:=⟨N-1,by omega⟩
   exact pure_of [(8,.p (boolX false))] [] (pf1 (hv M (by omega))) (x:=.tup [.sl true 1 [],num 16]) (bx:=[]) (by kernel_rfl) rfl⟩
 |true=>
  obtain ⟨e,σ',B2,⟨w,zs,q,_,rfl,hq,z1,z2⟩,hl⟩:=zcI s hs (τ:=⟨[(0,.yl 0),(1,.dp [strX s]),(3,nat 0)],lJ false 0 []⟩) (by kernel_rfl)
  refine ⟨0,false,zs,by decide,by omega,by omega,B1+B2+3,fun N hN=>?_⟩
  obtain ⟨M,rfl⟩:∃M,N=M+1+1:=⟨N-2,by omega⟩
  have hl:=hl M (by omega)
  have hy:callF tab ext (M+1) (.fn 328) [.yl 0,.dp [strX s]] (lJ false 0 [])=some (.tup [],lJ w zs.length (zs.map fun z=>[num z])):=by
   obtain ⟨k,⟨rfl,rfl⟩|⟨w2,rfl,rfl⟩⟩:=hq
   ·cases w with
    |false=>exact zgS s _ k _ M hl
    |true=>exact zgR s _ k _ M hl
   ·cases w with
    |false=>exact zgQ s _ k w2 _ M hl
    |true=>exact zgP s _ k w2 _ M hl
  obtain ⟨K,rfl⟩:∃K,M=K+1:=⟨M-1,by omega⟩
  exact zgT s _ _ (K+1+1) w (hv _ (by omega)) (runes_pure _ s) hy (List.length_map ..).symm
theorem TJ (N:Nat)(s:ByteArray):Gam.pureD (callF tab ext (N+2)) 218 [strX s]=some (.agg [num 4,num 0,num 0,strX s,.sl false 6 [],.sl false 7 []]):=by kernel_rfl
theorem Zx (zs:List Int):intsOf (zs.map fun z=>[num z])=some zs:=by
 induction zs with
 |nil=>rfl
 |cons z r ih=>
  rw [List.map_cons]
  show (match intsOf (r.map fun z=>[num z]) with|some l=>some (z::l)|none=>none)=_
  rw [ih]
theorem zb0 (t:Bool)(zs:List Int)(h1:zs.length≤1000000)(h2:(zs.flatMap Lib.encodeRune).length≤1000000):∃(r:ByteArray) (e:Int),r.size≤1000000∧∃B,∀N,B≤N→Gam.pureD (callF tab ext N) 220 [.sl t 1 (zs.map fun z=>[num z])]=some (.tup [strX r,num e]):=by
 have he:∃(r:ByteArray) (e:Int),r.size≤1000000∧oN [.sl t 1 (zs.map fun z=>[num z])] []=some (.tup [strX r,num e],[]):=by
  have e:oN [.sl t 1 (zs.map fun z=>[num z])] []=(match intsOf (zs.map fun z=>[num z]) with
   |some zs=>if zs.length≤1000000 then (if zs.all lK then some (.tup [.v (.string ⟨(zs.flatMap Lib.encodeRune).toArray⟩),.v (.int .i64 0)],[]) else some (.tup [.v (.string ⟨#[]⟩),.v (.int .i64 2)],[])) else none
   |none=>none):=rfl
  rw [e,Zx]
  simp only [if_pos h1]
  split
  ·exact ⟨_,0,by rw [bsz];exact h2,rfl⟩
  ·exact ⟨⟨#[]⟩,2,by decide,rfl⟩
 obtain ⟨r,e,h,hx⟩:=he
 obtain ⟨B,hB⟩:=gI (f:=220) (g:=oN) rfl hx
 exact ⟨r,e,h,B,fun N hN=>bP (hB N hN) rfl⟩
theorem Z7 (zs:List Int)(lo hi:Nat):(((zs.take hi).drop lo).flatMap Lib.encodeRune).length≤(zs.flatMap Lib.encodeRune).length:=by
 have e:zs.flatMap Lib.encodeRune=((zs.take hi).take lo).flatMap Lib.encodeRune++(((zs.take hi).drop lo).flatMap Lib.encodeRune++(zs.drop hi).flatMap Lib.encodeRune):=by
  rw [←List.append_assoc,←List.flatMap_append,List.take_append_drop,←List.flatMap_append,List.take_append_drop]
 rw [e,List.length_append,List.length_append]
 omega
section
variable (d1 d2 d3:Int) (d4:ByteArray) (td t4:Bool) (d5 d6:List (List X))
abbrev zeroV:List X:=[num 0,num 0,num 0,noText,.sl true 6 [],.sl true 7 []]
theorem WL (k:Int)(N:Nat):callF tab ext (N+1) (.fn 159) [.ptr 0 0 0,num k] [.var [num d1,num d2,num d3,strX d4,.sl td 6 d5,.sl t4 7 d6,num 0]]=some (.agg zeroV,[.var [num d1,num d2,num d3,strX d4,.sl td 6 d5,.sl t4 7 d6,num k]]):=by kernel_rfl
variable (a1 a2 a3 b1 b2 b3 c1 c2 c3 e:Int) (a4 b4 c4:ByteArray) (a5 a6 b5 b6 c5 c6:List (List X)) (ta tb tc t1 t2 t3:Bool)
theorem PY (ha:a4.size≤1000000)(he:0≤e∧e≤100):∃(y:List X) (e2:Int),(0≤e2∧e2≤100)∧(y=zeroV∨∃r:ByteArray,r.size≤1000000∧y=[num 4,num 0,num 0,strX r,.sl false 6 [],.sl false 7 []])∧∃B,∀N,B≤N→callF tab ext N (.fn 165) [.ptr 0 0 0,.agg [num a1,num a2,num a3,strX a4,.sl ta 6 a5,.sl t1 7 a6],.agg [num b1,num b2,num b3,strX b4,.sl tb 6 b5,.sl t2 7 b6],.agg [num c1,num c2,num c3,strX c4,.sl tc 6 c5,.sl t3 7 c6]] [.var [num d1,num d2,num d3,strX d4,.sl td 6 d5,.sl t4 7 d6,num e]]=some (.agg y,[.var [num d1,num d2,num d3,strX d4,.sl td 6 d5,.sl t4 7 d6,num e2]]):=by
 have lift:∀{y:List X} {e2:Int} {B:Nat},(∀M,B≤M→callF tab ext (M+1) (.fn 165) [.ptr 0 0 0,.agg [num a1,num a2,num a3,strX a4,.sl ta 6 a5,.sl t1 7 a6],.agg [num b1,num b2,num b3,strX b4,.sl tb 6 b5,.sl t2 7 b6],.agg [num c1,num c2,num c3,strX c4,.sl tc 6 c5,.sl t3 7 c6]] [.var [num d1,num d2,num d3,strX d4,.sl td 6 d5,.sl t4 7 d6,num e]]=some (.agg y,[.var [num d1,num d2,num d3,strX d4,.sl td 6 d5,.sl t4 7 d6,num e2]]))→∃B,∀N,B≤N→callF tab ext N (.fn 165) [.ptr 0 0 0,.agg [num a1,num a2,num a3,strX a4,.sl ta 6 a5,.sl t1 7 a6],.agg [num b1,num b2,num b3,strX b4,.sl tb 6 b5,.sl t2 7 b6],.agg [num c1,num c2,num c3,strX c4,.sl tc 6 c5,.sl t3 7 c6]] [.var [num d1,num d2,num d3,strX d4,.sl td 6 d5,.sl t4 7 d6,num e]]=some (.agg y,[.var [num d1,num d2,num d3,strX d4,.sl td 6 d5,.sl t4 7 d6,num e2]]):=fun {y e2 B} h=>⟨B+1,fun N hN=>by
  obtain ⟨M,rfl⟩:∃M,N=M+1:=⟨N-1,by omega⟩
  exact h M (by omega)⟩
 cases h1:(e !=0) with
 |true=>exact ⟨zeroV,e,he,.inl rfl,lift (B:=0) fun M _=>aB [(20,.b true)] [] (pf1 h1) (r:=some (.agg zeroV,[.var [num d1,num d2,num d3,strX d4,.sl td 6 d5,.sl t4 7 d6,num e]])) (by kernel_rfl)⟩
 |false=>
  have e0:e=0:=by simpa using h1
  subst e0
  have hf:∀k M,1≤M→callF tab ext M (.fn 159) [.ptr 0 0 0,num k] [.var [num d1,num d2,num d3,strX d4,.sl td 6 d5,.sl t4 7 d6,num 0]]=some (.agg zeroV,[.var [num d1,num d2,num d3,strX d4,.sl td 6 d5,.sl t4 7 d6,num k]]):=fun k M hM=>by
   obtain ⟨M,rfl⟩:∃M',M=M'+1:=⟨M-1,by omega⟩
   exact WL d1 d2 d3 d4 td t4 d5 d6 k M
  cases h2:(a1 !=4) with
  |true=>exact ⟨zeroV,18,by decide,.inl rfl,lift (B:=1) fun M hM=>aB [(20,.b false),(25,.b true),(37,.r (.agg zeroV) [.var [num d1,num d2,num d3,strX d4,.sl td 6 d5,.sl t4 7 d6,num 18]])] [] (pf3 h1 h2 (hf 18 M hM)) (r:=some (.agg zeroV,[.var [num d1,num d2,num d3,strX d4,.sl td 6 d5,.sl t4 7 d6,num 18]])) (by kernel_rfl)⟩
  |false=>
   cases h3:(b1 !=2) with
   |true=>exact ⟨zeroV,18,by decide,.inl rfl,lift (B:=1) fun M hM=>aB [(20,.b false),(25,.b false),(29,.b true),(37,.r (.agg zeroV) [.var [num d1,num d2,num d3,strX d4,.sl td 6 d5,.sl t4 7 d6,num 18]])] [] (pf4 h1 h2 h3 (hf 18 M hM)) (r:=some (.agg zeroV,[.var [num d1,num d2,num d3,strX d4,.sl td 6 d5,.sl t4 7 d6,num 18]])) (by kernel_rfl)⟩
   |false=>
    cases h4:(c1 !=2) with
    |true=>exact ⟨zeroV,18,by decide,.inl rfl,lift (B:=1) fun M hM=>aB [(20,.b false),(25,.b false),(29,.b false),(34,.b true),(37,.r (.agg zeroV) [.var [num d1,num d2,num d3,strX d4,.sl td 6 d5,.sl t4 7 d6,num 18]])] [] (pf5 h1 h2 h3 h4 (hf 18 M hM)) (r:=some (.agg zeroV,[.var [num d1,num d2,num d3,strX d4,.sl td 6 d5,.sl t4 7 d6,num 18]])) (by kernel_rfl)⟩
    |false=>
     obtain ⟨ep,tp,zs,er,z1,z2,B1,h359⟩:=J4 a4 ha
     have hzl:(zs.map fun z:Int=>[num z]).length=zs.length:=List.length_map ..
     cases hb:(ep !=0) with
     |true=>
      generalize (zs.map fun z:Int=>[num z])=es at h359
      exact ⟨zeroV,16,by decide,.inl rfl,lift (B:=B1+1) fun M hM=>aB [(20,.b false),(25,.b false),(29,.b false),(34,.b false),(41,.p (.tup [.sl tp 1 es,num ep])),(46,.b true),(48,.r (.agg zeroV) [.var [num d1,num d2,num d3,strX d4,.sl td 6 d5,.sl t4 7 d6,num 16]])] [] (pf7 h1 h2 h3 h4 (h359 M (by omega)) hb (hf 16 M (by omega))) (r:=some (.agg zeroV,[.var [num d1,num d2,num d3,strX d4,.sl td 6 d5,.sl t4 7 d6,num 16]])) (by kernel_rfl)⟩
     |false=>
      cases h5:decide (b2<0) with
      |true=>
       generalize (zs.map fun z:Int=>[num z])=es at h359
       exact ⟨zeroV,2,by decide,.inl rfl,lift (B:=B1+1) fun M hM=>aB [(20,.b false),(25,.b false),(29,.b false),(34,.b false),(41,.p (.tup [.sl tp 1 es,num ep])),(46,.b false),(52,.b true),(61,.r (.agg zeroV) [.var [num d1,num d2,num d3,strX d4,.sl td 6 d5,.sl t4 7 d6,num 2]])] [] (pf8 h1 h2 h3 h4 (h359 M (by omega)) hb h5 (hf 2 M (by omega))) (r:=some (.agg zeroV,[.var [num d1,num d2,num d3,strX d4,.sl td 6 d5,.sl t4 7 d6,num 2]])) (by kernel_rfl)⟩
      |false=>
       cases h6:decide (b2>c2) with
       |true=>
        generalize (zs.map fun z:Int=>[num z])=es at h359
        exact ⟨zeroV,2,by decide,.inl rfl,lift (B:=B1+1) fun M hM=>aB [(20,.b false),(25,.b false),(29,.b false),(34,.b false),(41,.p (.tup [.sl tp 1 es,num ep])),(46,.b false),(52,.b false),(58,.b true),(61,.r (.agg zeroV) [.var [num d1,num d2,num d3,strX d4,.sl td 6 d5,.sl t4 7 d6,num 2]])] [] (pf9 h1 h2 h3 h4 (h359 M (by omega)) hb h5 h6 (hf 2 M (by omega))) (r:=some (.agg zeroV,[.var [num d1,num d2,num d3,strX d4,.sl td 6 d5,.sl t4 7 d6,num 2]])) (by kernel_rfl)⟩
       |false=>
        have k5:¬b2<0:=of_decide_eq_false h5
        have k6:¬b2>c2:=of_decide_eq_false h6
        obtain ⟨lo,hlo⟩:∃lo:Nat,(lo:Int)=min b2 zs.length:=⟨(min b2 zs.length).toNat,by omega⟩
        obtain ⟨hi,hhi⟩:∃hi:Nat,(hi:Int)=min c2 zs.length:=⟨(min c2 zs.length).toNat,by omega⟩
        obtain ⟨r,e3,hr,B2,h360⟩:=zb0 false ((zs.take hi).drop lo) (by rw [List.length_drop,List.length_take];omega) (by have:=Z7 zs lo hi;omega)
        have hes:((zs.map fun z:Int=>[num z]).take hi).drop lo=((zs.take hi).drop lo).map fun z=>[num z]:=by rw [List.map_drop,List.map_take]
        rw [←hes] at h360
        rw [←hzl] at hlo hhi
        have z1':(zs.map fun z:Int=>[num z]).length≤1000000:=by omega
        clear hes z2
        generalize (zs.map fun z:Int=>[num z])=es at h359 h360 hlo hhi z1'
        have e66:(if false=true then if Int.ofNat es.length>b2 then Int.ofNat es.length else b2 else if Int.ofNat es.length<b2 then Int.ofNat es.length else b2)=Int.ofNat lo:=by
         rw [if_neg (by decide)]
         simp only [Int.ofNat_eq_natCast]
         split<;>omega
        have e71:(if false=true then if Int.ofNat es.length>c2 then Int.ofNat es.length else c2 else if Int.ofNat es.length<c2 then Int.ofNat es.length else c2)=Int.ofNat hi:=by
         rw [if_neg (by decide)]
         simp only [Int.ofNat_eq_natCast]
         split<;>omega
        have e76:(Int.ofNat lo).toNat≤(Int.ofNat hi).toNat∧(Int.ofNat hi).toNat≤es.length:=by
         show lo≤hi∧hi≤es.length
         omega
        refine ⟨[num 4,num 0,num 0,strX r,.sl false 6 [],.sl false 7 []],0,by decide,.inr ⟨r,hr,rfl⟩,lift (B:=B1+B2+3) fun M hM=>?_⟩
        have h358:Gam.pureD (callF tab ext M) 218 [strX r]=some (.agg [num 4,num 0,num 0,strX r,.sl false 6 [],.sl false 7 []]):=by
         obtain ⟨K,rfl⟩:∃K,M=K+2:=⟨M-2,by omega⟩
         exact TJ K r
        exact aB [(20,.b false),(25,.b false),(29,.b false),(34,.b false),(41,.p (.tup [.sl tp 1 es,num ep])),(46,.b false),(52,.b false),(58,.b false),(66,.i (Int.ofNat lo)),(71,.i (Int.ofNat hi)),(76,.cut),(77,.p (.tup [strX r,num e3])),(81,.p (.agg [num 4,num 0,num 0,strX r,.sl false 6 [],.sl false 7 []]))] [] (zjM h1 h2 h3 h4 (h359 M (by omega)) hb h5 h6 e66 e71 e76 (h360 M (by omega)) h358) (r:=some (.agg [num 4,num 0,num 0,strX r,.sl false 6 [],.sl false 7 []],[.var [num d1,num d2,num d3,strX d4,.sl td 6 d5,.sl t4 7 d6,num 0]])) (by kernel_rfl)
end
def zni:List Ctr:=[mkC 165 [.p 0,val,val,val] [.lq 0 6 mZ] none [(val,[.lq 0 6 mZ])]]
theorem yD {x:X}(hx:val.Is T 0 x):∃(a b c:Int) (s:ByteArray) (t:Bool) (l:List (List X)) (t':Bool) (f:List (List X)),x=.agg [num a,num b,num c,strX s,.sl t 6 l,.sl t' 7 f]∧s.size≤1000000:=by
 obtain ⟨h',xs,rfl,h0,hi⟩:∃h' xs,x=.agg xs∧0≤h'∧IsL T h' [int,int,int,.s,.slh 6 1,.slh 7 2] xs:=hx
 match xs,hi with
 |[_,_,_,_,_,_],⟨⟨a,rfl⟩,⟨b,rfl⟩,⟨c,rfl⟩,⟨s,rfl,k1⟩,⟨t,l,rfl,k2,k3⟩,⟨t',f,rfl,k4,k5⟩,_⟩=>exact ⟨a,b,c,s,t,l,t',f,rfl,by unfold dX at k1;omega⟩
theorem zej:ah T Gm zni:=.one (dA (fun o ho=>by rw [List.mem_singleton.1 ho];exact ⟨rfl,rfl⟩) fun xs bx ha hb=>by
 match xs,bx,ha,hb with
 |[_,_,_,_],[_],⟨rfl,h1,h2,h3,_⟩,⟨⟨h',ys,rfl,m0,m1,hi⟩,_⟩=>
  obtain ⟨a1,a2,a3,a4,ta,a5,t1,a6,rfl,ka⟩:=yD h1
  obtain ⟨b1,b2,b3,b4,tb,b5,t2,b6,rfl,_⟩:=yD h2
  obtain ⟨c1,c2,c3,c4,tc,c5,t3,c6,rfl,_⟩:=yD h3
  match ys,hi with
  |[_,_,_,_,_,_,_],⟨⟨d1,rfl⟩,⟨d2,rfl⟩,⟨d3,rfl⟩,⟨d4,rfl,k1⟩,⟨td,d5,rfl,k2⟩,⟨t4,d6,rfl,k3⟩,⟨e,rfl,er⟩,_⟩=>
   obtain ⟨y,e2,er2,hy,hB⟩:=PY d1 d2 d3 d4 td t4 d5 d6 a1 a2 a3 b1 b2 b3 c1 c2 c3 e a4 b4 c4 a5 a6 b5 b6 c5 c6 ta tb tc t1 t2 t3 ka er
   refine ⟨_,List.mem_singleton.2 rfl,.agg y,[.var [num d1,num d2,num d3,strX d4,.sl td 6 d5,.sl t4 7 d6,num e2]],?_,⟨⟨h',_,rfl,m0,m1,⟨d1,rfl⟩,⟨d2,rfl⟩,⟨d3,rfl⟩,⟨d4,rfl,k1⟩,⟨td,d5,rfl,k2⟩,⟨t4,d6,rfl,k3⟩,⟨e2,rfl,er2⟩,trivial⟩,trivial⟩,hB⟩
   rcases hy with rfl|⟨r,hr,rfl⟩
   ·exact ⟨0,_,rfl,Int.le_refl _,⟨0,rfl⟩,⟨0,rfl⟩,⟨0,rfl⟩,⟨⟨#[]⟩,rfl,by decide⟩,⟨true,[],rfl,by decide,fun e he=>by cases he⟩,⟨true,[],rfl,by decide,fun e he=>by cases he⟩,trivial⟩
   ·exact ⟨0,_,rfl,Int.le_refl _,⟨4,rfl⟩,⟨0,rfl⟩,⟨0,rfl⟩,⟨r,rfl,by unfold dX;omega⟩,⟨false,[],rfl,by decide,fun e he=>by cases he⟩,⟨false,[],rfl,by decide,fun e he=>by cases he⟩,trivial⟩)
end Ct
end Go.Proofs.YtjbndifenhihhaaGreatDoor
