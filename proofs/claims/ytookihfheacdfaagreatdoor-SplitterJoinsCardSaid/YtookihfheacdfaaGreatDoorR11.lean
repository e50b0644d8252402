/- mapping.Apply at an element of the laws' lists of numbers: 32.SplitterNumbers, SplitterJoins. -/
import Derived.Test.YtookihfheacdfaaGreatDoorR10
namespace Go.Proofs.YtookihfheacdfaaGreatDoor
open Go.Em
set_option maxRecDepth 100000
def txN (l:List UInt8):ByteArray:=⟨l.toArray⟩
def iV (x:Int):Val:=.mk 2 x 0 ⟨#[]⟩ [] []
def lV (xs:List Int):Val:=.mk 8 0 0 ⟨#[]⟩ (xs.map iV) []
def bV (xs:List Int):Val:=.mk 9 0 0 ⟨#[]⟩ [] [(txN [108,105,110,101,115],lV xs)]
def eV (xs:List Int)(i x:Int):Val:=.mk 9 0 0 ⟨#[]⟩ [] [(txN [98,111,100,121],bV xs),(txN [105,110,100,101,120],iV i),(txN [105,116,101,109],iV x)]
def rV (x:Int):Val:=.mk 9 0 0 ⟨#[]⟩ [] [(txN [110],iV x)]
def tyI:List X:=[num 2,num 0,num 9,num 0,.sl false 1 [],.sl false 7 [],.sl false 11 []]
def tyR:List X:=[num 9,num 0,num 0,num 0,.sl false 1 [],.sl false 7 [],.sl false 11 [[num 1,strX (txN [110]),num 1,num 2,num 0,num 9,num 0,.sl true 1 [],.sl true 7 [],.sl true 11 [],.sl true 6 []]]]
def mapR:List X:=[.sl false 6 [[strX (txN [110]),num 2,num 0,strX (txN [105,116,101,109]),.sl true 6 [],.sl true 5 []]]]
def finX (ok done:Bool):List Bx:=[.var [.fn 123 [.ptr 1 0 0],boolX done],.var [boolX ok]]
def Misf (x:Int):Prop:=x<0∨9<x
theorem outside_out {x:Int}(h:Misf x)(N:Nat):callF tab ext (N+20) (.fn 181) [.ptr 0 0 0,.agg tyI,strX (txN [110]),num x] (finX true false)=some (.tup [],finX false true):=by
 by_cases h0:x<0
 ·exact callF_of [(11,.b true)] [] (pf1 (decide_eq_true h0)) (by kernel_rfl)
 ·have h9:9<x:=by rcases h with h|h<;>omega
  exact callF_of [(11,.b false),(16,.b true)] [] (pf2 (decide_eq_false h0) (decide_eq_true h9)) (by kernel_rfl)
theorem outside_in {x:Int}(h:¬Misf x)(N:Nat):callF tab ext (N+20) (.fn 181) [.ptr 0 0 0,.agg tyI,strX (txN [110]),num x] (finX true false)=some (.tup [],finX true false):=by
 have h0:¬x<0:=fun h1=>h (.inl h1)
 have h9:¬9<x:=fun h1=>h (.inr h1)
 exact callF_of [(11,.b false),(16,.b false)] [] (pf2 (decide_eq_false h0) (decide_eq_false h9)) (by kernel_rfl)
section
variable {x:Int} {a b:Bool} {N:Nat}
theorem find_int (h:callF tab ext (N+20) (.fn 181) [.ptr 0 0 0,.agg tyI,strX (txN [110]),num x] (finX true false)=some (.tup [],finX a b)):
  callF tab ext (N+21) (.fn 124) [.ptr 0 0 0,.agg tyI,.agg (iV x).cells,strX (txN [110])] (finX true false)=some (.tup [],finX a b):=
 callF_of [(55,.r (.tup []) (finX a b))] [] (pf1 h) (by kernel_rfl)
theorem find_fields (h:callF tab ext (N+21) (.fn 124) [.ptr 0 0 0,.agg tyI,.agg (iV x).cells,strX (txN [110])] (finX true false)=some (.tup [],finX a b)):
  callF tab ext (N+22) (.fn 183) [.ptr 0 0 0,.agg tyR,.agg (rV x).cells,strX (txN [])] (finX true false)=some (.tup [],finX a b):=
 callF_of [(39,.r (.tup []) (finX a b))] [] (pf1 h) (by kernel_rfl)
theorem find_rec (h:callF tab ext (N+22) (.fn 183) [.ptr 0 0 0,.agg tyR,.agg (rV x).cells,strX (txN [])] (finX true false)=some (.tup [],finX a b)):
  callF tab ext (N+23) (.fn 124) [.ptr 0 0 0,.agg tyR,.agg (rV x).cells,strX (txN [])] (finX true false)=some (.tup [],finX a b):=
 callF_of [(145,.r (.tup []) (finX a b))] [] (pf1 h) (by kernel_rfl)
theorem fits_rec (h:callF tab ext (N+23) (.fn 124) [.ptr 0 0 0,.agg tyR,.agg (rV x).cells,strX (txN [])] (finX true false)=some (.tup [],finX a b)):
  Gam.pureD (callF tab ext (N+24)) 69 [.agg tyR,.agg (rV x).cells]=some (boolX a):=
 pure_of [(11,.r (.tup []) (finX a b))] [] (pf1 h) (x:=boolX a) (bx:=[]) (by kernel_rfl) rfl
end
theorem fits_out {x:Int}(h:Misf x)(N:Nat):Gam.pureD (callF tab ext (N+24)) 69 [.agg tyR,.agg (rV x).cells]=some (boolX false):=fits_rec (find_rec (find_fields (find_int (outside_out h N))))
theorem fits_in {x:Int}(h:¬Misf x)(N:Nat):Gam.pureD (callF tab ext (N+24)) 69 [.agg tyR,.agg (rV x).cells]=some (boolX true):=fits_rec (find_rec (find_fields (find_int (outside_in h N))))
def zV:List X:=[num 0,num 0,num 0,strX ⟨#[]⟩,.sl false 6 [],.sl false 7 []]
theorem complete_out {x:Int}(h:Misf x)(N:Nat):Gam.pureD (callF tab ext (N+25)) 38 [.agg tyR,.agg (rV x).cells]=some (.tup [.agg zV,num 18]):=
 pure_of [(12,.p (boolX false))] [] (pf1 (fits_out h N)) (x:=.tup [.agg [num 0,num 0,num 0,strX ⟨#[]⟩,.sl true 6 [],.sl true 7 []],num 18]) (bx:=[]) (by kernel_rfl) rfl
theorem complete_in {x:Int}(h:¬Misf x)(N:Nat):Gam.pureD (callF tab ext (N+25)) 38 [.agg tyR,.agg (rV x).cells]=some (.tup [.agg (rV x).cells,num 0]):=
 pure_of [(12,.p (boolX true))] [] (pf1 (fits_in h N)) (x:=.tup [.agg (rV x).cells,num 0]) (bx:=[]) (by kernel_rfl) rfl
theorem check_n0 (N:Nat):Gam.pureD (callF tab ext (N+60)) 39 [.agg (rV 0).cells]=some (num 0):=by kernel_rfl
theorem check_n1 (N:Nat):Gam.pureD (callF tab ext (N+60)) 39 [.agg (rV 1).cells]=some (num 0):=by kernel_rfl
theorem check_n2 (N:Nat):Gam.pureD (callF tab ext (N+60)) 39 [.agg (rV 2).cells]=some (num 0):=by kernel_rfl
theorem check_n3 (N:Nat):Gam.pureD (callF tab ext (N+60)) 39 [.agg (rV 3).cells]=some (num 0):=by kernel_rfl
theorem check_n4 (N:Nat):Gam.pureD (callF tab ext (N+60)) 39 [.agg (rV 4).cells]=some (num 0):=by kernel_rfl
theorem check_n5 (N:Nat):Gam.pureD (callF tab ext (N+60)) 39 [.agg (rV 5).cells]=some (num 0):=by kernel_rfl
theorem check_n6 (N:Nat):Gam.pureD (callF tab ext (N+60)) 39 [.agg (rV 6).cells]=some (num 0):=by kernel_rfl
theorem check_n7 (N:Nat):Gam.pureD (callF tab ext (N+60)) 39 [.agg (rV 7).cells]=some (num 0):=by kernel_rfl
theorem check_n8 (N:Nat):Gam.pureD (callF tab ext (N+60)) 39 [.agg (rV 8).cells]=some (num 0):=by kernel_rfl
theorem check_n9 (N:Nat):Gam.pureD (callF tab ext (N+60)) 39 [.agg (rV 9).cells]=some (num 0):=by kernel_rfl
theorem check_in {x:Int}(h:¬Misf x)(N:Nat):Gam.pureD (callF tab ext (N+60)) 39 [.agg (rV x).cells]=some (num 0):=by
 have h0:x=0∨x=1∨x=2∨x=3∨x=4∨x=5∨x=6∨x=7∨x=8∨x=9:=by unfold Misf at h;omega
 rcases h0 with h|h|h|h|h|h|h|h|h|h<;>rw [h]
 ·exact check_n0 N
 ·exact check_n1 N
 ·exact check_n2 N
 ·exact check_n3 N
 ·exact check_n4 N
 ·exact check_n5 N
 ·exact check_n6 N
 ·exact check_n7 N
 ·exact check_n8 N
 ·exact check_n9 N
theorem apply_out {x:Int}(h:Misf x)(xs:List Int)(i:Int)(N:Nat):Gam.pureD (callF tab ext (N+100)) 15 [.agg mapR,.agg (eV xs i x).cells,.agg tyR]=some (.tup [.agg zV,num 18]):=
 pure_of [(68,.p (.tup [.agg zV,num 18]))] [] (pf1 (complete_out h (N+74))) (x:=.tup [.agg [num 0,num 0,num 0,strX ⟨#[]⟩,.sl true 6 [],.sl true 7 []],num 18]) (bx:=[]) (by kernel_rfl) rfl
theorem apply_in {x:Int}(h:¬Misf x)(xs:List Int)(i:Int)(N:Nat):Gam.pureD (callF tab ext (N+100)) 15 [.agg mapR,.agg (eV xs i x).cells,.agg tyR]=some (.tup [.agg (rV x).cells,num 0]):=
 pure_of [(68,.p (.tup [.agg (rV x).cells,num 0])),(76,.p (num 0))] [] (pf2 (complete_in h (N+74)) (check_in h (N+39))) (x:=.tup [.agg (rV x).cells,num 0]) (bx:=[]) (by kernel_rfl) rfl
end Go.Proofs.YtookihfheacdfaaGreatDoor
namespace Go.Proofs.YtookihfheacdfaaGreatDoor
open Go.Em
set_option maxRecDepth 100000
theorem sizeL_iV:∀xs:List Int,sizeL (xs.map iV)=2*xs.length
 |[]=>rfl
 |x::r=>by
  have:=sizeL_iV r
  have h1:(iV x).size=1:=rfl
  simp only [List.map_cons,sizeL,List.length_cons,h1,this];omega
theorem size_lV (xs:List Int):(lV xs).size=2*xs.length+1:=by
 have:=sizeL_iV xs
 show sizeL (xs.map iV)+sizeF []+1=_
 simp only [sizeF,this]
theorem size_bV (xs:List Int):(bV xs).size=2*xs.length+3:=by
 have:=size_lV xs
 show sizeL []+sizeF [(_,lV xs)]+1=_
 simp only [sizeF,sizeL,this];omega
theorem size_eV (xs:List Int)(i x:Int):(eV xs i x).size=2*xs.length+9:=by
 have:=size_bV xs
 have h1:(iV x).size=1:=rfl
 have h2:(iV i).size=1:=rfl
 show sizeL []+sizeF [(_,bV xs),(_,iV i),(_,iV x)]+1=_
 simp only [sizeF,sizeL,this,h1,h2];omega
def envB (xs:List Int):Val:=.mk 9 0 0 ⟨#[]⟩ [] [(txN [98,111,100,121],bV xs)]
theorem size_envB (xs:List Int):(envB xs).size=2*xs.length+5:=by
 have:=size_bV xs
 show sizeL []+sizeF [(_,bV xs)]+1=_
 simp only [sizeF,sizeL,this];omega
def nodeN:List X:=[strX (txN [115]),num 3,num 0,num 0,num 0,num 0,num 0,strX (txN [98,111,100,121,46,108,105,110,101,115]),num 9,num 0,num 0,num 0,.sl false 1 [],.sl false 7 [],.sl false 11 [[num 1,strX (txN [110]),num 1,num 2,num 0,num 9,num 0,.sl true 1 [],.sl true 7 [],.sl true 11 [],.sl true 6 []]],.sl false 7 [],.sl false 5 [],.sl false 6 [[strX (txN [110]),num 2,num 0,strX (txN [105,116,101,109]),.sl true 6 [],.sl true 5 []]],.sl false 2 [],.sl false 1 []]
def nodeT:List X:=[strX (txN [115]),num 3,num 0,num 0,num 0,num 0,num 0,strX (txN [98,111,100,121,46,108,105,110,101,115]),num 9,num 0,num 0,num 0,.sl true 1 [],.sl true 7 [],.sl true 11 [[num 1,strX (txN [110]),num 1,num 2,num 0,num 9,num 0,.sl true 1 [],.sl true 7 [],.sl true 11 [],.sl true 6 []]],.sl true 7 [],.sl true 5 [],.sl true 6 [[strX (txN [110]),num 2,num 0,strX (txN [105,116,101,109]),.sl true 6 [],.sl true 5 []]],.sl true 2 [],.sl true 1 []]
def partsB:X:=.sl false 3 [[num 1,num 0,strX (txN [98,111,100,121])],[num 1,num 0,strX (txN [108,105,110,101,115])]]
section
variable {N:Nat} {xs:List Int} (hx:xs.length≤200)
include hx
theorem vlist_pure (hN:1000≤N):Gam.pureD (callF tab ext (N+1)) 12 [.sl false 6 (cellsL (xs.map iV))]=some (.agg (lV xs).cells):=by
 have h:=clone_val N (lV xs) (by have:=size_lV xs;omega) (by have:=size_lV xs;omega)
 exact pure_of [(5,.p (.agg (lV xs).cells))] [] (pf1 h) (x:=.agg (lV xs).cells) (bx:=[]) (by kernel_rfl) rfl
theorem recL_pure (hN:1000≤N):Gam.pureD (callF tab ext (N+1)) 11 [.sl false 7 [strX (txN [108,105,110,101,115])::(lV xs).cells]]=some (.agg (bV xs).cells):=by
 have h:=clone_val N (bV xs) (by have:=size_bV xs;omega) (by have:=size_bV xs;omega)
 obtain ⟨M,rfl⟩:∃M,N=M+100:=⟨N-100,by omega⟩
 exact pure_of [(40,.p (.agg (bV xs).cells))] [] (pf2 (show 0+(0+1)≤1 by decide) h) (x:=.agg (bV xs).cells) (bx:=[]) (by kernel_rfl) rfl
theorem recB_pure (hN:1000≤N):Gam.pureD (callF tab ext (N+1)) 11 [.sl false 7 [strX (txN [98,111,100,121])::(bV xs).cells]]=some (.agg (envB xs).cells):=by
 have h:=clone_val N (envB xs) (by have:=size_envB xs;omega) (by have:=size_envB xs;omega)
 obtain ⟨M,rfl⟩:∃M,N=M+100:=⟨N-100,by omega⟩
 exact pure_of [(40,.p (.agg (envB xs).cells))] [] (pf2 (show 0+(0+1)≤1 by decide) h) (x:=.agg (envB xs).cells) (bx:=[]) (by kernel_rfl) rfl
theorem rec3_pure (hN:1000≤N)(i x:Int):Gam.pureD (callF tab ext (N+1)) 11 [.sl false 7 [strX (txN [98,111,100,121])::(bV xs).cells,strX (txN [105,110,100,101,120])::(iV i).cells,strX (txN [105,116,101,109])::(iV x).cells]]=some (.agg (eV xs i x).cells):=by
 have h:=clone_val N (eV xs i x) (by have:=size_eV xs i x;omega) (by have:=size_eV xs i x;omega)
 obtain ⟨M,rfl⟩:∃M,N=M+100:=⟨N-100,by omega⟩
 exact pure_of [(40,.p (.agg (eV xs i x).cells))] [] (pf2 (show 0+(0+3)≤3 by decide) h) (x:=.agg (eV xs i x).cells) (bx:=[]) (by kernel_rfl) rfl
theorem example_pure (hN:1010≤N):Gam.pureD (callF tab ext (N+1)) 6 [.sl false 6 (cellsL (xs.map iV))]=some (.tup [.agg nodeN,.agg (bV xs).cells]):=by
 obtain ⟨M,rfl⟩:∃M,N=M+1:=⟨N-1,by omega⟩
 exact pure_of [(18,.p (.agg (lV xs).cells)),(21,.p (.agg (bV xs).cells))] [] (pf2 (vlist_pure (N:=M) hx (by omega)) (recL_pure (N:=M) hx (by omega))) (x:=.tup [.agg nodeT,.agg (bV xs).cells]) (bx:=[]) (by kernel_rfl) rfl
theorem envL_pure (hN:1010≤N):Gam.pureD (callF tab ext (N+1)) 32 [.agg (bV xs).cells]=some (.agg (envB xs).cells):=by
 obtain ⟨M,rfl⟩:∃M,N=M+1:=⟨N-1,by omega⟩
 have h:=clone_val (M+1) (bV xs) (by have:=size_bV xs;omega) (by have:=size_bV xs;omega)
 exact pure_of [(4,.p (.agg (bV xs).cells)),(7,.p (.agg (envB xs).cells))] [] (pf2 h (recB_pure (N:=M) hx (by omega))) (x:=.agg (envB xs).cells) (bx:=[]) (by kernel_rfl) rfl
theorem find_lines (hN:1010≤N):Gam.pureD (callF tab ext (N+1)) 57 [.agg (envB xs).cells,partsB]=some (.tup [.sl false 6 [(lV xs).cells],num 0]):=by
 obtain ⟨M,rfl⟩:∃M,N=M+100:=⟨N-100,by omega⟩
 have h:=clone_val (M+100) (lV xs) (by have:=size_lV xs;omega) (by have:=size_lV xs;omega)
 exact pure_of [(63,.p (.agg (lV xs).cells))] [] (pf1 h) (x:=.tup [.bs 0 0 1,num 0]) (bx:=[.row 6 [(lV xs).cells]]) (by kernel_rfl) rfl
theorem get_lines (hN:1020≤N):Gam.pureD (callF tab ext (N+1)) 31 [.agg (envB xs).cells,partsB]=some (.tup [.agg (lV xs).cells,num 0]):=by
 obtain ⟨M,rfl⟩:∃M,N=M+10:=⟨N-10,by omega⟩
 exact pure_of [(11,.p (.tup [.sl false 6 [(lV xs).cells],num 0]))] [] (pf1 (find_lines (N:=M+9) hx (by omega))) (x:=.tup [.agg (lV xs).cells,num 0]) (bx:=[]) (by kernel_rfl) rfl
theorem slist_some (hN:1200≤N)(h0:xs≠[])(h1:xs.length≤64):Gam.pureD (callF tab ext (N+1)) 13 [.agg nodeN,.agg (bV xs).cells]=some (.tup [.sl false 6 (cellsL (xs.map iV)),strX (txN [])]):=by
 obtain ⟨M,rfl⟩:∃M,N=M+101:=⟨N-101,by omega⟩
 have he:=envL_pure (N:=M+100) hx (by omega)
 have hg:=get_lines (N:=M+100) hx (by omega)
 have hl:(cellsL (xs.map iV)).length=xs.length:=by rw [cellsL_length,List.length_map]
 have hp:0<xs.length:=List.length_pos_iff.2 h0
 have e0:(Int.ofNat (cellsL (xs.map iV)).length==0)=false:=by rw [hl];simp;omega
 have e1:decide (Int.ofNat (cellsL (xs.map iV)).length>64)=false:=by rw [hl];simp;omega
 exact pure_of [(27,.p (.agg (envB xs).cells)),(29,.p (.tup [.agg (lV xs).cells,num 0])),(49,.b false),(54,.b false)] [] (pf4 he hg e0 e1) (x:=.tup [.sl false 6 (cellsL (xs.map iV)),strX (txN [])]) (bx:=[]) (by kernel_rfl) rfl
theorem slist_many (hN:1200≤N)(h1:64<xs.length):Gam.pureD (callF tab ext (N+1)) 13 [.agg nodeN,.agg (bV xs).cells]=some (.tup [.sl false 6 [],strX (txN [112,97,114,116,115])]):=by
 obtain ⟨M,rfl⟩:∃M,N=M+101:=⟨N-101,by omega⟩
 have he:=envL_pure (N:=M+100) hx (by omega)
 have hg:=get_lines (N:=M+100) hx (by omega)
 have hl:(cellsL (xs.map iV)).length=xs.length:=by rw [cellsL_length,List.length_map]
 have hp:0<xs.length:=by omega
 have h0:xs≠[]:=List.length_pos_iff.1 hp
 have e0:(Int.ofNat (cellsL (xs.map iV)).length==0)=false:=by rw [hl];simp;first|exact h0|omega
 have e1:decide (Int.ofNat (cellsL (xs.map iV)).length>64)=true:=by rw [hl];simp;omega
 exact pure_of [(27,.p (.agg (envB xs).cells)),(29,.p (.tup [.agg (lV xs).cells,num 0])),(49,.b false),(54,.b true)] [] (pf4 he hg e0 e1) (x:=.tup [.sl true 6 [],strX (txN [112,97,114,116,115])]) (bx:=[]) (by kernel_rfl) rfl
end
theorem slist_none (N:Nat):Gam.pureD (callF tab ext (N+200)) 13 [.agg nodeN,.agg (bV []).cells]=some (.tup [.sl false 6 [],strX (txN [101,109,112,116,121])]):=by kernel_rfl
end Go.Proofs.YtookihfheacdfaaGreatDoor
namespace Go.Proofs.YtookihfheacdfaaGreatDoor
open Go.Em
set_option maxRecDepth 100000
def rlsN:C→List (C×C)
 |.seq a b|.cond _ a b=>rlsN a++rlsN b
 |.block _ b|.loop b=>rlsN b
 |.rf _ _ _ a b=>(a,b)::(rlsN a++rlsN b)
 |_=>[]
noncomputable def boA:C:=((rlsN (bodyOf tab 7)).getD 0 (.skip,.skip)).1
noncomputable def boB:C:=((rlsN (bodyOf tab 7)).getD 0 (.skip,.skip)).2
noncomputable def boRec (st:LoopState)(p:Option Ex):Bx:=.loop st p [(2,.ptr 1 0 0),(4,.ptr 2 0 0),(5,.ptr 3 0 0),(8,.ptr 4 0 0)] [25,26] boA boB
noncomputable def boS (j:Nat)(outs:List (List X)):List Bx:=[boRec .ready none,.var nodeN,.var [.sl true 6 []],.var [strX ⟨#[]⟩],.var [.bs 5 0 j],.row 6 outs]
noncomputable def boI (j:Nat)(outs:List (List X)):List Bx:=[boRec .ready none,.var nodeN,.var [.sl true 6 []],.var [strX ⟨#[]⟩],.var [.bs 6 0 j],.dead,.row 6 outs]
noncomputable def boE (j:Nat)(outs:List (List X)):List Bx:=[boRec .done (some .ret),.var nodeN,.var [.sl true 6 []],.var [strX (txN [116,121,112,101])],.var [.bs 5 0 j],.row 6 outs]
def zT:List X:=[num 0,num 0,num 0,strX ⟨#[]⟩,.sl true 6 [],.sl true 7 []]
section
variable {N:Nat} {xs:List Int} (hx:xs.length≤200) {x:Int} {j:Nat} {outs:List (List X)}
theorem bo_yield (h:¬Misf x)(hN:1010≤N)(hj:j<4000)(ho:j=outs.length):callF tab ext (N+1) .yl [.yl 0,nat j,.agg (eV xs (Int.ofNat j) x).cells] (boS j outs)=some (.v (.bool true),boI (j+1) (outs++[(rV x).cells])):=by
 obtain ⟨M,rfl⟩:∃M,N=M+100:=⟨N-100,by omega⟩
 have hs:(outs++[zT])[0+j]?=some zT:=by subst ho;simp
 have he:(outs++[zT]).set (0+j) (rV x).cells=outs++[(rV x).cells]:=by subst ho;simp
 rw [←he]
 exact yield_of [(33,.p (.tup [.agg (rV x).cells,num 0])),(44,.app),(45,.at),(1000045,.st zT)] (pf4 (apply_in h xs (Int.ofNat j) M) (app_ok j 5 88 ho (by omega) (by omega)) (show j<j+1 by omega) hs) (by kernel_rfl)
theorem bo_stop (h:Misf x)(hN:1010≤N):callF tab ext (N+1) .yl [.yl 0,nat j,.agg (eV xs (Int.ofNat j) x).cells] (boS j outs)=some (.v (.bool false),boE j outs):=by
 obtain ⟨M,rfl⟩:∃M,N=M+100:=⟨N-100,by omega⟩
 exact yield_of [(33,.p (.tup [.agg zV,num 18]))] (pf1 (apply_out h xs (Int.ofNat j) M)) (by kernel_rfl)
end
def enTm (L:List (List X))(bc:List X)(j:Nat):List (Nat×X):=[(0,.yl 0),(2,.dp bc),(7,.sl false 6 L),(8,nat L.length),(9,nat j)]
noncomputable def boH (p:Bool)(t:ByteArray)(r:List Bx):List Bx:=(if p then boRec .ready none else boRec .done (some .ret))::.var nodeN::.var [.sl true 6 []]::.var [strX t]::r
section
variable (L outs o1:List (List X)) (bc:List X) (xs:List Int) (x:Int) (j:Nat) {N:Nat}
noncomputable def en0:St:=⟨enTm L bc 0,boS 0 []⟩
noncomputable def enH:St:=⟨enTm L bc j,boI j outs⟩
noncomputable def enV:St:=⟨enTm L bc (j+1),boH true ⟨#[]⟩ [.var [.bs 9 0 (j+1)],.dead,.dead,.var (iV x).cells,.var (eV xs (Int.ofNat j) x).cells,.row 6 outs]⟩
noncomputable def enV0:St:=⟨enTm L bc 1,boH true ⟨#[]⟩ [.var [.bs 8 0 1],.dead,.var (iV x).cells,.var (eV xs (Int.ofNat 0) x).cells,.row 6 outs]⟩
noncomputable def enE:St:=⟨enTm L bc j++[(27,boolX true)],boH false (txN [116,121,112,101]) [.var [.bs 6 0 j],.dead,.row 6 outs,.var (iV x).cells,.var (eV xs (Int.ofNat j) x).cells]⟩
noncomputable def enE0:St:=⟨enTm L bc 0++[(27,boolX true)],boH false (txN [116,121,112,101]) [.var [.bs 5 0 0],.row 6 [],.var (iV x).cells,.var (eV xs (Int.ofNat 0) x).cells]⟩
theorem en_canon0:canon 6 (en0 L bc)=some (en0 L bc):=by kernel_rfl
theorem en_canonV:canon 6 (enV L outs bc xs x j)=some (enH L outs bc (j+1)):=by kernel_rfl
theorem en_canonV0:canon 6 (enV0 L outs bc xs x)=some (enH L outs bc 1):=by kernel_rfl
variable (hlt:decide (Int.ofNat j<Int.ofNat L.length)=true) (hlt0:decide (Int.ofNat 0<Int.ofNat L.length)=true) (he:L[j]?=some (iV x).cells) (he0:L[0]?=some (iV x).cells)
 (hr:Gam.pureD (callF tab ext N) 11 [.sl false 7 [strX (txN [98,111,100,121])::(bV xs).cells,strX (txN [105,110,100,101,120])::(iV (Int.ofNat j)).cells,strX (txN [105,116,101,109])::(iV x).cells]]=some (.agg (eV xs (Int.ofNat j) x).cells))
 (hr0:Gam.pureD (callF tab ext N) 11 [.sl false 7 [strX (txN [98,111,100,121])::(bV xs).cells,strX (txN [105,110,100,101,120])::(iV (Int.ofNat 0)).cells,strX (txN [105,116,101,109])::(iV x).cells]]=some (.agg (eV xs (Int.ofNat 0) x).cells))
 (hN:60≤N)
include hN
include hlt he hr in
theorem en_step (hy:callF tab ext N .yl [.yl 0,nat j,.agg (eV xs (Int.ofNat j) x).cells] (boS j outs)=some (.v (.bool true),boI (j+1) o1))(hj:j<4000):
  run (callF tab ext N) 6 N (loopAt 33 0) (enH L outs (bV xs).cells j)=some (.norm,enV L o1 (bV xs).cells xs x j):=by
 obtain ⟨M,rfl⟩:∃M,N=M+60:=⟨N-60,by omega⟩
 exact run_of [(10,.b true),(12,.e (iV x).cells),(22,.p (.agg (eV xs (Int.ofNat j) x).cells)),(26,.r (.v (.bool true)) (boI (j+1) o1)),(28,.i (Int.ofNat (j+1)))] [] (pf5 hlt he hr hy (next_nat (j:=j) (by omega))) (lo':=[]) (by kernel_rfl)
include hlt0 he0 hr0 in
theorem en_step0 (hy:callF tab ext N .yl [.yl 0,nat 0,.agg (eV xs (Int.ofNat 0) x).cells] (boS 0 [])=some (.v (.bool true),boI 1 o1)):
  run (callF tab ext N) 6 N (loopAt 33 0) (en0 L (bV xs).cells)=some (.norm,enV0 L o1 (bV xs).cells xs x):=by
 obtain ⟨M,rfl⟩:∃M,N=M+60:=⟨N-60,by omega⟩
 exact run_of [(10,.b true),(12,.e (iV x).cells),(22,.p (.agg (eV xs (Int.ofNat 0) x).cells)),(26,.r (.v (.bool true)) (boI 1 o1)),(28,.i (Int.ofNat 1))] [] (pf5 hlt0 he0 hr0 hy (next_nat (j:=0) (by omega))) (lo':=[]) (by kernel_rfl)
include hlt he hr in
theorem en_stop (hy:callF tab ext N .yl [.yl 0,nat j,.agg (eV xs (Int.ofNat j) x).cells] (boS j outs)=some (.v (.bool false),boE j outs)):
  run (callF tab ext N) 6 N (loopAt 33 0) (enH L outs (bV xs).cells j)=some (.ret,enE L outs (bV xs).cells xs x j):=by
 obtain ⟨M,rfl⟩:∃M,N=M+60:=⟨N-60,by omega⟩
 exact run_of [(10,.b true),(12,.e (iV x).cells),(22,.p (.agg (eV xs (Int.ofNat j) x).cells)),(26,.r (.v (.bool false)) (boE j outs))] [] (pf4 hlt he hr hy) (lo':=[]) (by kernel_rfl)
include hlt0 he0 hr0 in
theorem en_stop0 (hy:callF tab ext N .yl [.yl 0,nat 0,.agg (eV xs (Int.ofNat 0) x).cells] (boS 0 [])=some (.v (.bool false),boE 0 [])):
  run (callF tab ext N) 6 N (loopAt 33 0) (en0 L (bV xs).cells)=some (.ret,enE0 L (bV xs).cells xs x):=by
 obtain ⟨M,rfl⟩:∃M,N=M+60:=⟨N-60,by omega⟩
 exact run_of [(10,.b true),(12,.e (iV x).cells),(22,.p (.agg (eV xs (Int.ofNat 0) x).cells)),(26,.r (.v (.bool false)) (boE 0 []))] [] (pf4 hlt0 he0 hr0 hy) (lo':=[]) (by kernel_rfl)
omit hN in
theorem en_end (hn:j=L.length):run (callF tab ext N) 6 N (loopAt 33 0) (enH L outs bc j)=some (.exit 0,⟨enTm L bc j++[(10,boolX false)],boI j outs⟩):=
 run_of [(10,.b false)] [] (pf1 (nlt_nat (j:=j) (k:=L.length) (by omega))) (lo':=[]) (by kernel_rfl)
end
end Go.Proofs.YtookihfheacdfaaGreatDoor
namespace Go.Proofs.YtookihfheacdfaaGreatDoor
open Go.Em
set_option maxRecDepth 100000
def rowsI (xs:List Int):List (List X):=cellsL (xs.map iV)
def rowsR (xs:List Int):List (List X):=cellsL (xs.map rV)
theorem rowsI_length (xs:List Int):(rowsI xs).length=xs.length:=by simp [rowsI,cellsL_length]
theorem rowsR_length (xs:List Int):(rowsR xs).length=xs.length:=by simp [rowsR,cellsL_length]
theorem rowsI_get {xs:List Int}{j:Nat}(h:j<xs.length):(rowsI xs)[j]?=some (iV (xs[j])).cells:=by
 unfold rowsI;rw [cellsL_get (by simpa using h)];simp
theorem rowsR_take {xs:List Int}{j:Nat}(h:j<xs.length):rowsR (xs.take (j+1))=rowsR (xs.take j)++[(rV (xs[j])).cells]:=by
 have e:∀l:List Val,cellsL l=l.map Val.cells:=by
  intro l
  induction l with
  |nil=>rfl
  |cons a r ih=>simp [cellsL,ih]
 unfold rowsR
 rw [e,e]
 simp only [List.map_map,List.map_take]
 exact (take_succ_get (by simp [h])).symm
section
variable (xs:List Int) (N:Nat) (hN:1100≤N) (hx:xs.length≤200)
noncomputable def enSt:Nat→St
 |0=>en0 (rowsI xs) (bV xs).cells
 |j+1=>enH (rowsI xs) (rowsR (xs.take (j+1))) (bV xs).cells (j+1)
include hN hx
theorem en_round {j:Nat}(hj:j<xs.length)(hm:¬Misf xs[j]):∃υ,run (callF tab ext N) 6 N (loopAt 33 0) (enSt xs j)=some (.norm,υ)∧canon 6 υ=some (enSt xs (j+1)):=by
 obtain ⟨M,rfl⟩:∃M,N=M+1:=⟨N-1,by omega⟩
 have hl:=rowsI_length xs
 have hg:=rowsI_get hj
 have hr:=rec3_pure (N:=M) hx (by omega) (Int.ofNat j) xs[j]
 have ho:=rowsR_take hj
 have hy:=bo_yield (N:=M) (xs:=xs) (outs:=rowsR (xs.take j)) hm (by omega) (show j<4000 by omega) (by rw [rowsR_length];simp;omega)
 rw [←ho] at hy
 generalize xs[j]=x at hg hr hy
 match j with
 |0=>
  have h0:rowsR (xs.take 0)=[]:=rfl
  rw [h0] at hy
  exact ⟨_,en_step0 (rowsI xs) _ xs x (lt_nat (by omega)) hg hr (by omega) hy,en_canonV0 ..⟩
 |j+1=>exact ⟨_,en_step (rowsI xs) _ _ xs x (j+1) (lt_nat (by omega)) hg hr (by omega) hy (by omega),en_canonV ..⟩
theorem en_good (h0:xs≠[])(hm:∀x,x∈xs→¬Misf x):callF tab ext (N+1) (.fn 33) [.yl 0,.dp [.sl false 6 (rowsI xs)],.dp (bV xs).cells] (boS 0 [])=some (.tup [],boI xs.length (rowsR xs)):=by
 obtain ⟨k,hk⟩:∃k,xs.length=k+1:=⟨xs.length-1,by have:=List.length_pos_iff.2 h0;omega⟩
 have hl:=rowsI_length xs
 have hrun:run (callF tab ext N) 6 N (.loop (loopAt 33 0)) (en0 (rowsI xs) (bV xs).cells)=some (.exit 0,⟨enTm (rowsI xs) (bV xs).cells xs.length++[(10,boolX false)],boI xs.length (rowsR xs)⟩):=by
  refine loop_for (σ:=enSt xs) (k:=xs.length) (en_canon0 ..) (fun j hj=>en_round xs N hN hx hj (hm _ (List.getElem_mem hj))) ?_ (by simp) (by omega)
  have e:enSt xs xs.length=enH (rowsI xs) (rowsR xs) (bV xs).cells xs.length:=by
   rw [hk];show enH _ (rowsR (xs.take (k+1))) _ _=_;rw [←hk,List.take_length]
  rw [e]
  exact en_end _ _ _ _ (by omega)
 generalize xs.length=n at hrun ⊢
 generalize rowsR xs=o at hrun ⊢
 generalize rowsI xs=L at hrun ⊢
 exact callF_of [] [(.exit 0,⟨enTm L (bV xs).cells n++[(10,boolX false)],boI n o⟩)] (pf1 hrun) (by kernel_rfl)
noncomputable def boF (j:Nat)(outs:List (List X)):List Bx:=boH false (txN [116,121,112,101]) [.var [.bs 6 0 j],.dead,.row 6 outs]
noncomputable def boF0:List Bx:=boH false (txN [116,121,112,101]) [.var [.bs 5 0 0],.row 6 []]
theorem en_bad {k:Nat}(hk:k<xs.length)(hm:∀j (h:j<k),¬Misf (xs[j]'(by omega)))(hb:Misf xs[k]):
  callF tab ext (N+1) (.fn 33) [.yl 0,.dp [.sl false 6 (rowsI xs)],.dp (bV xs).cells] (boS 0 [])=some (.tup [],boF0)∨
  ∃j outs,callF tab ext (N+1) (.fn 33) [.yl 0,.dp [.sl false 6 (rowsI xs)],.dp (bV xs).cells] (boS 0 [])=some (.tup [],boF j outs):=by
 obtain ⟨M,rfl⟩:∃M,N=M+1:=⟨N-1,by omega⟩
 have hl:=rowsI_length xs
 have hg:=rowsI_get hk
 have hr:=rec3_pure (N:=M) hx (by omega) (Int.ofNat k) xs[k]
 have hy:=bo_stop (N:=M) (xs:=xs) (j:=k) (outs:=rowsR (xs.take k)) hb (by omega)
 have hs:∀j,j<k→∃υ,run (callF tab ext (M+1)) 6 (M+1) (loopAt 33 0) (enSt xs j)=some (.norm,υ)∧canon 6 υ=some (enSt xs (j+1)):=fun j hj=>en_round xs (M+1) hN hx (by omega) (hm j hj)
 generalize xs[k]=x at hg hr hy
 match k with
 |0=>
  have h0:rowsR (xs.take 0)=[]:=rfl
  rw [h0] at hy
  have h1:=en_stop0 (rowsI xs) xs x (lt_nat (by omega)) hg hr (by omega) hy
  have hrun:run (callF tab ext (M+1)) 6 (M+1) (.loop (loopAt 33 0)) (en0 (rowsI xs) (bV xs).cells)=some (.ret,enE0 (rowsI xs) (bV xs).cells xs x):=
   loop_for (σ:=enSt xs) (k:=0) (en_canon0 ..) hs h1 (by simp) (by omega)
  left
  generalize rowsI xs=L at hrun ⊢
  exact callF_of [] [(.ret,enE0 L (bV xs).cells xs x)] (pf1 hrun) (by kernel_rfl)
 |k+1=>
  have h1:=en_stop (rowsI xs) _ xs x (k+1) (lt_nat (by omega)) hg hr (by omega) hy
  have hrun:run (callF tab ext (M+1)) 6 (M+1) (.loop (loopAt 33 0)) (en0 (rowsI xs) (bV xs).cells)=some (.ret,enE (rowsI xs) (rowsR (xs.take (k+1))) (bV xs).cells xs x (k+1)):=
   loop_for (σ:=enSt xs) (k:=k+1) (en_canon0 ..) hs h1 (by simp) (by omega)
  refine .inr ⟨k+1,rowsR (xs.take (k+1)),?_⟩
  generalize rowsR (xs.take (k+1))=o at hrun ⊢
  generalize rowsI xs=L at hrun ⊢
  exact callF_of [] [(.ret,enE L o (bV xs).cells xs x (k+1))] (pf1 hrun) (by kernel_rfl)
end
section
variable (L outs:List (List X)) (bc:List X) (n:Nat) (N:Nat)
def boTm:List (Nat×X):=[(2,.ptr 0 0 0),(4,.ptr 2 0 0),(5,.ptr 3 0 0),(8,.ptr 4 0 0),(24,.fn 33 [.dp [.sl false 6 L],.dp bc])]
def boSt:St:=⟨boTm L bc,[.var nodeN,.var bc,.var [.sl true 6 []],.var [strX ⟨#[]⟩],.var [.bs 5 0 0],.row 6 []]⟩
def boFin (t:ByteArray)(r:List Bx):St:=⟨boTm L bc,.var nodeN::.var bc::.var [.sl true 6 []]::.var [strX t]::r⟩
noncomputable def boRc (st:LoopState)(p:Option Ex):Bx:=.loop st p [(2,.ptr 0 0 0),(4,.ptr 2 0 0),(5,.ptr 3 0 0),(8,.ptr 4 0 0)] [25,26] boA boB
theorem bo_rf (hy:callF tab ext N (.fn 33) [.yl 0,.dp [.sl false 6 L],.dp bc] (boS 0 [])=some (.tup [],boI n outs)):
  run (callF tab ext N) 0 N (.rf (.t 24) [25,26] [2,4,5,8] boA boB) (boSt L bc)=some (.norm,boFin L bc ⟨#[]⟩ [.var [.bs 7 0 n],.dead,.dead,.row 6 outs]):=
 rf_of (g:=33) (caps:=[.dp [.sl false 6 L],.dp bc]) (y:=.tup []) (outb:=boI n outs)
  (q:=(.tup [],[.var nodeN,.var bc,.var [.sl true 6 []],.var [strX ⟨#[]⟩],.var [.bs 7 0 n],.dead,boRc .ready none,.row 6 outs],[6,0,2,3,4,5])) hy (by kernel_rfl) (by kernel_rfl) (by kernel_rfl)
theorem bo_rfF (hy:callF tab ext N (.fn 33) [.yl 0,.dp [.sl false 6 L],.dp bc] (boS 0 [])=some (.tup [],boF n outs)):
  run (callF tab ext N) 0 N (.rf (.t 24) [25,26] [2,4,5,8] boA boB) (boSt L bc)=some (.ret,boFin L bc (txN [116,121,112,101]) [.var [.bs 7 0 n],.dead,.dead,.row 6 outs]):=
 rf_of (g:=33) (caps:=[.dp [.sl false 6 L],.dp bc]) (y:=.tup []) (outb:=boF n outs)
  (q:=(.tup [],[.var nodeN,.var bc,.var [.sl true 6 []],.var [strX (txN [116,121,112,101])],.var [.bs 7 0 n],.dead,boRc .done (some .ret),.row 6 outs],[6,0,2,3,4,5])) hy (by kernel_rfl) (by kernel_rfl) (by kernel_rfl)
theorem bo_rfF0 (hy:callF tab ext N (.fn 33) [.yl 0,.dp [.sl false 6 L],.dp bc] (boS 0 [])=some (.tup [],boF0)):
  run (callF tab ext N) 0 N (.rf (.t 24) [25,26] [2,4,5,8] boA boB) (boSt L bc)=some (.ret,boFin L bc (txN [116,121,112,101]) [.var [.bs 5 0 0],.row 6 [],.dead]):=
 rf_of (g:=33) (caps:=[.dp [.sl false 6 L],.dp bc]) (y:=.tup []) (outb:=boF0)
  (q:=(.tup [],[.var nodeN,.var bc,.var [.sl true 6 []],.var [strX (txN [116,121,112,101])],.var [.bs 5 0 0],.row 6 [],boRc .done (some .ret)],[6,0,2,3,4,5])) hy (by kernel_rfl) (by kernel_rfl) (by kernel_rfl)
end
theorem envs_pure (N:Nat)(L:List (List X))(xs:List Int):Gam.pureD (callF tab ext (N+3)) 14 [.agg (bV xs).cells,.sl false 6 L]=some (.fn 33 [.dp [.sl false 6 L],.dp (bV xs).cells]):=by kernel_rfl
section
variable {xs:List Int} (hx:xs.length≤200) {N:Nat} (hN:1300≤N)
include hx hN
theorem bodies_good (h0:xs≠[])(h1:xs.length≤64)(hm:∀x,x∈xs→¬Misf x):Gam.pureD (callF tab ext (N+1)) 7 [.agg nodeN,.agg (bV xs).cells]=some (.tup [.sl false 6 (rowsR xs),strX (txN [])]):=by
 obtain ⟨M,rfl⟩:∃M,N=M+3:=⟨N-3,by omega⟩
 have hs:Gam.pureD (callF tab ext (M+3)) 13 [.agg nodeN,.agg (bV xs).cells]=some (.tup [.sl false 6 (rowsI xs),strX (txN [])]):=slist_some (N:=M+2) hx (by omega) h0 h1
 have hv:=envs_pure M (rowsI xs) xs
 have hrf:=bo_rf _ _ _ _ _ (en_good xs (M+2) (by omega) hx h0 hm)
 have ho:xs.length=(rowsR xs).length:=(rowsR_length xs).symm
 generalize rowsR xs=o at hrf ho ⊢
 generalize xs.length=n at hrf ho
 generalize rowsI xs=L at hs hv hrf
 refine pure_of [(16,.p (.tup [.sl false 6 L,strX (txN [])])),(24,.p (.fn 33 [.dp [.sl false 6 L],.dp (bV xs).cells]))] [(.norm,boFin L (bV xs).cells ⟨#[]⟩ [.var [.bs 7 0 n],.dead,.dead,.row 6 o])] (pf3 hs hv hrf) (x:=.tup [.bs 0 0 n,strX (txN [])]) (bx:=[.row 6 o]) (by kernel_rfl) ?_
 simp [X.data,dataL,strX,rowOf_all (bx:=[.row 6 o]) (i:=0) (n:=n) rfl ho]
theorem bodies_bad (h1:xs.length≤64){k:Nat}(hk:k<xs.length)(hm:∀j (h:j<k),¬Misf (xs[j]'(by omega)))(hb:Misf xs[k]):Gam.pureD (callF tab ext (N+1)) 7 [.agg nodeN,.agg (bV xs).cells]=some (.tup [.sl false 6 [],strX (txN [116,121,112,101])]):=by
 obtain ⟨M,rfl⟩:∃M,N=M+3:=⟨N-3,by omega⟩
 have h0:xs≠[]:=by intro h;subst h;simp at hk
 have hs:Gam.pureD (callF tab ext (M+3)) 13 [.agg nodeN,.agg (bV xs).cells]=some (.tup [.sl false 6 (rowsI xs),strX (txN [])]):=slist_some (N:=M+2) hx (by omega) h0 h1
 have hv:=envs_pure M (rowsI xs) xs
 rcases en_bad xs (M+2) (by omega) hx hk hm hb with h|⟨j,o,h⟩
 ·have hrf:=bo_rfF0 _ _ _ h
  generalize rowsI xs=L at hs hv hrf
  exact pure_of [(16,.p (.tup [.sl false 6 L,strX (txN [])])),(24,.p (.fn 33 [.dp [.sl false 6 L],.dp (bV xs).cells]))] [(.ret,boFin L (bV xs).cells (txN [116,121,112,101]) [.var [.bs 5 0 0],.row 6 [],.dead])] (pf3 hs hv hrf) (x:=.tup [.sl true 6 [],strX (txN [116,121,112,101])]) (bx:=[]) (by kernel_rfl) rfl
 ·have hrf:=bo_rfF _ _ _ _ _ h
  generalize rowsI xs=L at hs hv hrf
  exact pure_of [(16,.p (.tup [.sl false 6 L,strX (txN [])])),(24,.p (.fn 33 [.dp [.sl false 6 L],.dp (bV xs).cells]))] [(.ret,boFin L (bV xs).cells (txN [116,121,112,101]) [.var [.bs 7 0 j],.dead,.dead,.row 6 o])] (pf3 hs hv hrf) (x:=.tup [.sl true 6 [],strX (txN [116,121,112,101])]) (bx:=[]) (by kernel_rfl) rfl
theorem bodies_many (h1:64<xs.length):Gam.pureD (callF tab ext (N+1)) 7 [.agg nodeN,.agg (bV xs).cells]=some (.tup [.sl false 6 [],strX (txN [112,97,114,116,115])]):=by
 obtain ⟨M,rfl⟩:∃M,N=M+3:=⟨N-3,by omega⟩
 have hs:=slist_many (N:=M+2) hx (by omega) h1
 exact pure_of [(16,.p (.tup [.sl false 6 [],strX (txN [112,97,114,116,115])]))] [] (pf1 hs) (x:=.tup [.sl true 6 [],strX (txN [112,97,114,116,115])]) (bx:=[]) (by kernel_rfl) rfl
omit hx in
theorem bodies_none:Gam.pureD (callF tab ext (N+1)) 7 [.agg nodeN,.agg (bV []).cells]=some (.tup [.sl false 6 [],strX (txN [101,109,112,116,121])]):=by
 obtain ⟨M,rfl⟩:∃M,N=M+200:=⟨N-200,by omega⟩
 exact pure_of [(16,.p (.tup [.sl false 6 [],strX (txN [101,109,112,116,121])]))] [] (pf1 (slist_none M)) (x:=.tup [.sl true 6 [],strX (txN [101,109,112,116,121])]) (bx:=[]) (by kernel_rfl) rfl
end
end Go.Proofs.YtookihfheacdfaaGreatDoor
