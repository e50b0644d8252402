/- The abstract machine: operations that do not touch one another can change places. -/
import Derived.Test.YtjbndifenhihhaaGreatDoorEmP3
namespace Go.Em
variable {P:Program} {R:aN} {x:Ctx} {K:Kn} {C:List CB} {σ:St} {a:Act} {w:World}
variable {A:Ann} {Γ:Gam}
def zij (Γ:Gam)(tm:List (Nat×X))(b b':List Bx)(i:I)(y:X)(fp:FP):Prop:=
 b'=b∧∀b2:List Bx,(∀r,r∈fp.rd→b2[r]?=b[r]?)→au Γ ⟨tm,b2⟩ i=some (y,b2,fp)
theorem jB {tm:List (Nat×X)}{b b':List Bx}{i:I}{y:X}{fp:FP}(f:Option X)(h:∀b2:List Bx,au Γ ⟨tm,b2⟩ i=f.map fun z=>(z,b2,⟨false,[],[]⟩))(e:au Γ ⟨tm,b⟩ i=some (y,b',fp)):
  zij Γ tm b b' i y fp∧∀r,r∉fp.wr→b'[r]?=b[r]?:=by
 rw [h b] at e
 obtain ⟨z,hz,e1⟩:=map_some e
 simp only [Prod.mk.injEq] at e1
 obtain ⟨rfl,rfl,rfl⟩:=e1
 exact ⟨⟨rfl,fun b2 _=>by rw [h b2,hz];rfl⟩,fun _ _=>rfl⟩
theorem oI {bx:List Bx}{i r:Nat}{B:Bx}(h:r≠i):(bx.set i B)[r]?=bx[r]?:=List.getElem?_set_ne (fun e=>h e.symm)
theorem jG {bx l:List Bx}{r:Nat}(h:∀k,k<l.length→r≠bx.length+k):(bx++l)[r]?=bx[r]?:=by
 by_cases hr:r<bx.length
 ·rw [List.getElem?_append_left hr]
 ·rw [List.getElem?_append_right (by omega),List.getElem?_eq_none (by
   rcases Nat.lt_or_ge (r-bx.length) l.length with h1|h1
   ·exact absurd (by omega) (h _ h1)
   ·exact h1),List.getElem?_eq_none (by omega)]
theorem uw {fv:Fv}{args:List X}{b b':List Bx}{y:X}{sel:List Nat}(e:gK Γ fv args b=some (y,b',sel)){r:Nat}(h:r∉sel++List.range' b.length (b'.length-b.length)):b'[r]?=b[r]?:=by
 unfold gK at e
 dsimp only at e
 split at e
 ·split at e
  ·simp at e
  ·split at e
   ·simp at e
   ·split at e
    ·simp only [Option.some.injEq,Prod.mk.injEq] at e
     obtain ⟨_,rfl,rfl⟩:=e
     simp only [List.mem_append,not_or,List.mem_range'_1,not_and,Nat.not_lt,List.length_append,dJ,List.length_drop] at h
     by_cases hr:r<b.length
     ·rw [List.getElem?_append_left (by rw [dJ];exact hr),jQ _ _ _ _ h.1]
     ·have h2:=h.2 (by omega)
      rw [List.getElem?_eq_none (by simp only [List.length_append,dJ,List.length_drop];omega),List.getElem?_eq_none (by omega)]
    ·simp at e
 ·simp at e
theorem yE {tm:List (Nat×X)}{b b':List Bx}{i:I}{y:X}{fp:FP}(e:au Γ ⟨tm,b⟩ i=some (y,b',fp)):
  (fp.eff=false→zij Γ tm b b' i y fp)∧∀r,r∉fp.wr→b'[r]?=b[r]?:=by
 have hev:=fun b2 q=>mP tm b2 [] q
 cases i with
 |mov p=>have:=jB ((St.ev ⟨tm,[]⟩ p)) (fun b2=>by simp only [au,hev b2]) e;exact ⟨fun _=>this.1,this.2⟩
 |pick c p q=>
  have:=jB (match St.ev ⟨tm,[]⟩ c,St.ev ⟨tm,[]⟩ p,St.ev ⟨tm,[]⟩ q with|some (.v (.bool t)),some y1,some y2=>some (if t then y1 else y2)|_,_,_=>none)
   (fun b2=>by simp only [au,hev b2];((repeat' split)<;>first|rfl|(simp_all;done)|(simp_all only [Option.map_map,Function.comp_def];rfl)|(exfalso;solve_by_elim))) e
  exact ⟨fun _=>this.1,this.2⟩
 |alloc z=>
  simp only [au,Option.some.injEq,Prod.mk.injEq] at e
  obtain ⟨rfl,rfl,rfl⟩:=e
  refine ⟨fun h=>by simp at h,fun r hr=>jG fun k hk=>?_⟩
  simp at hk hr;omega
 |box p=>
  simp only [au] at e
  split at e
  ·simp at e
  ·split at e
   ·simp only [Option.some.injEq,Prod.mk.injEq] at e
    obtain ⟨rfl,rfl,rfl⟩:=e
    refine ⟨fun h=>by simp at h,fun r hr=>jG fun k hk=>?_⟩
    simp at hk hr;omega
   ·simp at e
 |build z ps=>
  have:=jB (match jo ⟨tm,[]⟩ ps with|none=>none|some ps=>(Bh z ps).map .agg) (fun b2=>by
   simp only [au,H8 tm b2 []]
   ((repeat' split)<;>first|rfl|(simp_all [Option.map_map,Function.comp_def];done)|(simp_all only [Option.map_map,Function.comp_def];rfl)|(exfalso;solve_by_elim))) e
  exact ⟨fun _=>this.1,this.2⟩
 |Az n z ps=>
  have:=jB (match jX ⟨tm,[]⟩ ps with|none=>none|some ps=>if n==ps.length then (nO z.length 0 ps).map (.sl true z.length) else none) (fun b2=>by
   simp only [au,Ia tm b2 []]
   ((repeat' split)<;>first|rfl|(simp_all [Option.map_map,Function.comp_def];done)|(simp_all only [Option.map_map,Function.comp_def];rfl)|(exfalso;solve_by_elim))) e
  exact ⟨fun _=>this.1,this.2⟩
 |load n p=>
  simp only [au] at e
  split at e
  ·simp at e
  ·rename_i q hq
   obtain ⟨z,hz,e1⟩:=map_some e
   simp only [Prod.mk.injEq] at e1
   obtain ⟨rfl,rfl,rfl⟩:=e1
   refine ⟨fun _=>⟨rfl,fun b2 h2=>?_⟩,fun _ _=>rfl⟩
   simp only [au,mP tm b2 b,hq]
   rw [Zc h2,hz];rfl
 |store n p q=>
  simp only [au] at e
  split at e
  ·obtain ⟨z,hz,e1⟩:=map_some e
   simp only [Prod.mk.injEq] at e1
   obtain ⟨rfl,rfl,rfl⟩:=e1
   refine ⟨fun h=>by simp at h,fun r hr=>?_⟩
   unfold jm at hz
   split at hz
   ·split at hz
    ·rename_i i e o
     simp only [jh,List.mem_singleton] at hr
     split at hz
     ·split at hz
      ·obtain ⟨cs,_,rfl⟩:=map_some hz;exact oI hr
      ·simp at hz
     ·split at hz
      ·simp at hz
      ·split at hz
       ·obtain ⟨cs,_,rfl⟩:=map_some hz;exact oI hr
       ·simp at hz
     ·simp at hz
    ·simp at hz
   ·simp at hz
  ·simp at e
 |bin op p q=>
  have:=jB (match St.ev ⟨tm,[]⟩ p,St.ev ⟨tm,[]⟩ q with|some (.v m),some (.v n)=>(jq op m n).map .v|_,_=>none) (fun b2=>by
   simp only [au,hev b2]
   ((repeat' split)<;>first|rfl|(simp_all [Option.map_map,Function.comp_def];done)|(simp_all only [Option.map_map,Function.comp_def];rfl)|(exfalso;solve_by_elim))) e
  exact ⟨fun _=>this.1,this.2⟩
 |beq n p q=>
  have:=jB (match St.ev ⟨tm,[]⟩ p,St.ev ⟨tm,[]⟩ q with|some (.v (.bool m)),some (.v (.bool k))=>some (.v (.bool (if n then !(m==k) else m==k)))|_,_=>none) (fun b2=>by
   simp only [au,hev b2];((repeat' split)<;>first|rfl|(simp_all;done)|(simp_all only [Option.map_map,Function.comp_def];rfl)|(exfalso;solve_by_elim))) e
  exact ⟨fun _=>this.1,this.2⟩
 |za8 n p=>
  have:=jB (match St.ev ⟨tm,[]⟩ p with|some (.bs _ _ (_+1))=>some (.v (.bool n))|some (.sl _ _ (_::_))=>some (.v (.bool n))|_=>none) (fun b2=>by
   simp only [au,hev b2];((repeat' split)<;>first|rfl|(simp_all;done)|(simp_all only;rfl)|(exfalso;solve_by_elim))) e
  exact ⟨fun _=>this.1,this.2⟩
 |un op p=>
  have:=jB (match St.ev ⟨tm,[]⟩ p with|some (.v m)=>(unV op m).map .v|_=>none) (fun b2=>by
   simp only [au,hev b2]
   ((repeat' split)<;>first|rfl|(simp_all [Option.map_map,Function.comp_def];done)|(simp_all only [Option.map_map,Function.comp_def];rfl)|(exfalso;solve_by_elim))) e
  exact ⟨fun _=>this.1,this.2⟩
 |conv k p=>
  have:=jB (match St.ev ⟨tm,[]⟩ p with|some (.v (.int _ n))=>some (.v (.int k (k.wrap n)))|_=>none) (fun b2=>by
   simp only [au,hev b2];((repeat' split)<;>first|rfl|(simp_all;done)|(simp_all only [Option.map_map,Function.comp_def];rfl)|(exfalso;solve_by_elim))) e
  exact ⟨fun _=>this.1,this.2⟩
 |idc p=>
  have:=jB (match St.ev ⟨tm,[]⟩ p with|some (.v (.string s))=>some (.v (.string s))|_=>none) (fun b2=>by
   simp only [au,hev b2];((repeat' split)<;>first|rfl|(simp_all;done)|(simp_all only [Option.map_map,Function.comp_def];rfl)|(exfalso;solve_by_elim))) e
  exact ⟨fun _=>this.1,this.2⟩
 |s2b p=>
  have:=jB (match St.ev ⟨tm,[]⟩ p with|some (.v (.string s))=>some (.sl false 1 (byteRow s))|_=>none) (fun b2=>by
   simp only [au,hev b2];((repeat' split)<;>first|rfl|(simp_all;done)|(simp_all only [Option.map_map,Function.comp_def];rfl)|(exfalso;solve_by_elim))) e
  exact ⟨fun _=>this.1,this.2⟩
 |zfU f l=>
  have:=jB ((evs ⟨tm,[]⟩ l).map (.fn f)) (fun b2=>by simp only [au,OU tm b2 []];simp [Option.map_map,Function.comp_def]) e
  exact ⟨fun _=>this.1,this.2⟩
 |mksl n z p q=>
  simp only [au] at e
  split at e
  ·split at e
   ·simp only [Option.some.injEq,Prod.mk.injEq] at e
    obtain ⟨rfl,rfl,rfl⟩:=e
    refine ⟨fun h=>by simp at h,fun r hr=>jG fun k hk=>?_⟩
    simp at hk hr;omega
   ·simp at e
  ·simp at e
 |slice s p lo hi mx=>
  simp only [au] at e
  split at e
  ·rename_i t s' es hq
   have:fp=⟨false,[],[]⟩∧b'=b:=by
    split at e
    ·split at e
     ·split at e
      ·simp only [Option.some.injEq,Prod.mk.injEq] at e;exact ⟨e.2.2.symm,e.2.1.symm⟩
      ·split at e
       ·split at e
        ·simp only [Option.some.injEq,Prod.mk.injEq] at e;exact ⟨e.2.2.symm,e.2.1.symm⟩
        ·simp at e
       ·simp at e
     ·simp at e
    ·simp at e
   obtain ⟨rfl,rfl⟩:=this
   refine ⟨fun _=>⟨rfl,fun b2 _=>?_⟩,fun _ _=>rfl⟩
   simp only [au,mP tm b2 b',sU tm b2 b',hq]
   split at e
   ·rename_i l h el eh
    split at e
    ·rename_i hc
     rw [if_pos hc]
     split at e
     ·simp only [Option.some.injEq,Prod.mk.injEq,and_true] at e ⊢;exact e
     ·rename_i m
      split at e
      ·rename_i mv hm
       split at e
       ·rename_i hc2;rw [if_pos hc2];simp only [Option.some.injEq,Prod.mk.injEq,and_true] at e ⊢;exact e
       ·simp at e
      ·simp at e
    ·simp at e
   ·simp at e
  ·rename_i i off len hq
   split at e
   ·rename_i l h el eh
    split at e
    ·rename_i hc
     split at e
     ·rename_i hlh
      simp only [Option.some.injEq,Prod.mk.injEq] at e
      obtain ⟨rfl,rfl,rfl⟩:=e
      refine ⟨fun _=>⟨rfl,fun b2 _=>?_⟩,fun _ _=>rfl⟩
      simp only [au,mP tm b2 b,sU tm b2 b,hq,el,eh]
      rw [if_pos hc,if_pos hlh]
     ·rename_i hlh
      split at e
      ·rename_i s' es hb
       split at e
       ·rename_i hss
        simp only [Option.some.injEq,Prod.mk.injEq] at e
        obtain ⟨rfl,rfl,rfl⟩:=e
        refine ⟨fun _=>⟨rfl,fun b2 h2=>?_⟩,fun _ _=>rfl⟩
        simp only [au,mP tm b2 b,sU tm b2 b,hq,el,eh]
        rw [if_pos hc,if_neg hlh]
        simp only [h2 i (by simp),hb,hss,if_true]
       ·simp at e
      ·simp at e
    ·simp at e
   ·simp at e
  ·simp at e
 |sslice p lo hi=>
  have:=jB (match St.ev ⟨tm,[]⟩ p with
   |some (.v (.string s))=>match cO ⟨tm,[]⟩ 0 lo,cO ⟨tm,[]⟩ s.size hi with
    |some l,some h=>if l≤h&&h≤s.size then some (.v (.string (s.extract l h))) else none
    |_,_=>none
   |_=>none) (fun b2=>by
   simp only [au,hev b2,sU tm b2 []]
   cases St.ev ⟨tm,[]⟩ p with
   |none=>rfl
   |some xx=>cases xx with
    |v vv=>cases vv with
     |string s=>
      dsimp only
      cases cO ⟨tm,[]⟩ 0 lo with
      |none=>rfl
      |some l=>cases cO ⟨tm,[]⟩ s.size hi with
       |none=>rfl
       |some h=>
        dsimp only
        split<;>rfl
     |_=>rfl
    |_=>rfl) e
  exact ⟨fun _=>this.1,this.2⟩
 |Ro n p=>
  have:=jB (match St.ev ⟨tm,[]⟩ p with|some (.ptr i e o)=>some (.ptr i e (o+n))|some (.dp cs)=>some (.dp (cs.drop n))|_=>none) (fun b2=>by
   simp only [au,hev b2];((repeat' split)<;>first|rfl|(simp_all;done)|(simp_all only [Option.map_map,Function.comp_def];rfl)|(exfalso;solve_by_elim))) e
  exact ⟨fun _=>this.1,this.2⟩
 |field n o p=>
  have:=jB (match St.ev ⟨tm,[]⟩ p with
   |some (.agg cs)=>match n with
    |none=>cs[o]?
    |some n=>if ((cs.drop o).take n).length==n then some (.agg ((cs.drop o).take n)) else none
   |_=>none) (fun b2=>by
   simp only [au,hev b2]
   ((repeat' split)<;>first|rfl|(simp_all;done)|(simp_all only [Option.map_map,Function.comp_def];rfl)|(exfalso;solve_by_elim))) e
  exact ⟨fun _=>this.1,this.2⟩
 |iaddr ar s p q=>
  simp only [au] at e
  split at e
  ·rename_i yz n ez en
   split at e
   ·rename_i t s' es
    split at e
    ·rename_i hss
     obtain ⟨z,hz,e1⟩:=map_some e
     simp only [Prod.mk.injEq] at e1
     obtain ⟨rfl,rfl,rfl⟩:=e1
     refine ⟨fun _=>⟨rfl,fun b2 _=>?_⟩,fun _ _=>rfl⟩
     simp only [au,mP tm b2 b,ez,en,hss,if_true,hz];rfl
    ·simp at e
   ·rename_i i off len
    split at e
    ·rename_i s' es hb
     split at e
     ·rename_i hc
      simp only [Option.some.injEq,Prod.mk.injEq] at e
      obtain ⟨rfl,rfl,rfl⟩:=e
      refine ⟨fun _=>⟨rfl,fun b2 h2=>?_⟩,fun _ _=>rfl⟩
      simp only [au,mP tm b2 b,ez,en,h2 i (by simp),hb]
      rw [if_pos hc]
     ·simp at e
    ·simp at e
   ·split at e
    ·rename_i hc
     simp only [Option.some.injEq,Prod.mk.injEq] at e
     obtain ⟨rfl,rfl,rfl⟩:=e
     refine ⟨fun _=>⟨rfl,fun b2 _=>?_⟩,fun _ _=>rfl⟩
     simp only [au,mP tm b2 b,ez,en]
     rw [if_pos hc]
    ·simp at e
   ·split at e
    ·rename_i hc
     simp only [Option.some.injEq,Prod.mk.injEq] at e
     obtain ⟨rfl,rfl,rfl⟩:=e
     refine ⟨fun _=>⟨rfl,fun b2 _=>?_⟩,fun _ _=>rfl⟩
     simp only [au,mP tm b2 b,ez,en]
     rw [if_pos hc]
    ·simp at e
   ·simp at e
  ·simp at e
 |aidx m s r p q=>
  have:=jB (match St.ev ⟨tm,[]⟩ p,(St.ev ⟨tm,[]⟩ q).bind ER with
   |some (.agg cs),some j=>if j<m then (match r with
    |none=>cs[j*s]?
    |some k=>if ((cs.drop (j*s)).take k).length==k then some (.agg ((cs.drop (j*s)).take k)) else none) else none
   |_,_=>none) (fun b2=>by
   simp only [au,hev b2]
   cases St.ev ⟨tm,[]⟩ p with
   |none=>rfl
   |some xx=>cases xx with
    |agg cs=>cases (St.ev ⟨tm,[]⟩ q).bind ER with
     |none=>rfl
     |some jj=>
      dsimp only
      by_cases hc:jj<m
      ·rw [if_pos hc,if_pos hc]
       cases r with
       |none=>rfl
       |some k=>dsimp only;split<;>rfl
      ·rw [if_neg hc,if_neg hc];rfl
    |_=>rfl) e
  exact ⟨fun _=>this.1,this.2⟩
 |sidx p q=>
  have:=jB (match St.ev ⟨tm,[]⟩ p,(St.ev ⟨tm,[]⟩ q).bind ER with
   |some (.v (.string s)),some n=>match s[n]? with
    |some b=>some (.v (.int .u8 b.toNat))
    |none=>none
   |_,_=>none) (fun b2=>by
   simp only [au,hev b2]
   ((repeat' split)<;>first|rfl|(simp_all;done)|(simp_all only [Option.map_map,Function.comp_def];rfl)|(exfalso;solve_by_elim))) e
  exact ⟨fun _=>this.1,this.2⟩
 |QF p=>
  have:=jB (match St.ev ⟨tm,[]⟩ p with|some (.ptr i e o)=>some (.ptr i e o)|some (.dp cs)=>some (.dp cs)|some (.fn f cs)=>some (.fn f cs)|some (.yl i)=>some (.yl i)|_=>none) (fun b2=>by
   simp only [au,hev b2];((repeat' split)<;>first|rfl|(simp_all;done)|(simp_all only [Option.map_map,Function.comp_def];rfl)|(exfalso;solve_by_elim))) e
  exact ⟨fun _=>this.1,this.2⟩
 |extract p n=>
  have:=jB (match St.ev ⟨tm,[]⟩ p with|some (.tup xs)=>xs[n]?|_=>none) (fun b2=>by
   simp only [au,hev b2];((repeat' split)<;>first|rfl|(simp_all;done)|(simp_all only [Option.map_map,Function.comp_def];rfl)|(exfalso;solve_by_elim))) e
  exact ⟨fun _=>this.1,this.2⟩
 |QJ=>
  simp only [au,Option.some.injEq,Prod.mk.injEq] at e
  obtain ⟨rfl,rfl,rfl⟩:=e
  refine ⟨fun h=>by simp at h,fun r hr=>jG fun k hk=>?_⟩
  simp at hk hr;omega
 |zbg kk m k v=>
  simp only [au] at e
  split at e
  ·split at e
   ·split at e
    ·obtain ⟨z,hz,e1⟩:=map_some e
     simp only [Prod.mk.injEq] at e1
     obtain ⟨rfl,rfl,rfl⟩:=e1
     exact ⟨fun h=>by simp at h,fun r hr=>oI (by simpa using hr)⟩
    ·simp at e
   ·simp at e
  ·simp at e
 |zbh kk o z m k=>
  simp only [au] at e
  split at e
  ·rename_i i kv em ek
   split at e
   ·rename_i es hb
    split at e
    ·rename_i hc
     obtain ⟨q,hz,e1⟩:=map_some e
     simp only [Prod.mk.injEq] at e1
     obtain ⟨rfl,rfl,rfl⟩:=e1
     refine ⟨fun _=>⟨rfl,fun b2 h2=>?_⟩,fun _ _=>rfl⟩
     simp only [au,mP tm b2 b,em,ek,h2 i (by simp),hb]
     rw [if_pos hc,hz];rfl
    ·simp at e
   ·simp at e
  ·rename_i kv em ek
   split at e
   ·rename_i hc
    obtain ⟨q,hz,e1⟩:=map_some e
    simp only [Prod.mk.injEq] at e1
    obtain ⟨rfl,rfl,rfl⟩:=e1
    refine ⟨fun _=>⟨rfl,fun b2 h2=>?_⟩,fun _ _=>rfl⟩
    simp only [au,mP tm b2 b,em,ek]
    rw [if_pos hc,hz];rfl
   ·simp at e
  ·simp at e
 |copy sz d s=>
  simp only [au] at e
  split at e
  ·split at e
   ·split at e
    ·simp only [Option.some.injEq,Prod.mk.injEq] at e
     obtain ⟨rfl,rfl,rfl⟩:=e
     exact ⟨fun h=>by simp at h,fun r hr=>oI (by simpa using hr)⟩
    ·simp at e
   ·simp at e
  ·simp at e
 |zcX m=>
  simp only [au] at e
  split at e
  ·rename_i i em
   split at e
   ·rename_i es hb
    simp only [Option.some.injEq,Prod.mk.injEq] at e
    obtain ⟨rfl,rfl,rfl⟩:=e
    refine ⟨fun _=>⟨rfl,fun b2 h2=>?_⟩,fun _ _=>rfl⟩
    simp only [au,mP tm b2 b,em,h2 i (by simp),hb]
   ·simp at e
  ·rename_i em
   simp only [Option.some.injEq,Prod.mk.injEq] at e
   obtain ⟨rfl,rfl,rfl⟩:=e
   refine ⟨fun _=>⟨rfl,fun b2 h2=>?_⟩,fun _ _=>rfl⟩
   simp only [au,mP tm b2 b,em]
  ·simp at e
 |QK p=>
  have:=jB ((St.ev ⟨tm,[]⟩ p).map fun _=>X.ifc) (fun b2=>by simp only [au,hev b2,Option.map_map,Function.comp_def]) e
  exact ⟨fun _=>this.1,this.2⟩
 |zdg n p=>
  have:=jB (match St.ev ⟨tm,[]⟩ p with|some .ifc=>some (.v (.bool n))|some (.v .nilIface)=>some (.v (.bool (!n)))|_=>none) (fun b2=>by
   simp only [au,hev b2];((repeat' split)<;>first|rfl|(simp_all;done)|(simp_all only;rfl)|(exfalso;solve_by_elim))) e
  exact ⟨fun _=>this.1,this.2⟩
 |len p=>
  have:=jB (match St.ev ⟨tm,[]⟩ p with|some (.sl _ _ es)=>some (.v (.int .i64 (es.length:Int)))|some (.bs _ _ n)=>some (.v (.int .i64 (n:Int)))|_=>none) (fun b2=>by
   simp only [au,hev b2];((repeat' split)<;>first|rfl|(simp_all;done)|(simp_all only [Option.map_map,Function.comp_def];rfl)|(exfalso;solve_by_elim))) e
  exact ⟨fun _=>this.1,this.2⟩
 |slen p=>
  have:=jB (match St.ev ⟨tm,[]⟩ p with|some (.v (.string s))=>some (.v (.int .i64 (s.size:Int)))|_=>none) (fun b2=>by
   simp only [au,hev b2];((repeat' split)<;>first|rfl|(simp_all;done)|(simp_all only [Option.map_map,Function.comp_def];rfl)|(exfalso;solve_by_elim))) e
  exact ⟨fun _=>this.1,this.2⟩
 |mm m l=>
  have:=jB (match evs ⟨tm,[]⟩ l with|some (.v (.int .i64 k)::r)=>(mmV m k r).map fun z=>.v (.int .i64 z)|_=>none) (fun b2=>by
   simp only [au,OU tm b2 []]
   ((repeat' split)<;>first|rfl|(simp_all [Option.map_map,Function.comp_def];done)|(simp_all only [Option.map_map,Function.comp_def];rfl)|(exfalso;solve_by_elim))) e
  exact ⟨fun _=>this.1,this.2⟩
 |app own s n p q=>
  simp only [au] at e
  split at e
  ·rename_i yp yq ep eq
   split at e
   ·simp at e
   ·rename_i sz' new hsrc
    split at e
    ·simp at e
    ·rename_i hsz
     split at e
     ·rename_i sz0 es
      split at e
      ·rename_i hc
       split at e
       ·split at e
        ·simp only [Option.some.injEq,Prod.mk.injEq] at e
         obtain ⟨rfl,rfl,rfl⟩:=e
         exact ⟨fun h=>by simp at h,fun _ _=>rfl⟩
        ·simp only [Option.some.injEq,Prod.mk.injEq] at e
         obtain ⟨rfl,rfl,rfl⟩:=e
         refine ⟨fun h=>by simp at h,fun r hr=>jG fun k hk=>?_⟩
         simp at hk hr;omega
       ·rename_i hown
        simp only [Option.some.injEq,Prod.mk.injEq] at e
        obtain ⟨rfl,rfl,rfl⟩:=e
        refine ⟨fun _=>⟨rfl,fun b2 h2=>?_⟩,fun _ _=>rfl⟩
        simp only [au,mP tm b2 b,ep,eq,Yz h2,hsrc]
        rw [if_neg hsz,if_pos hc,if_neg hown]
      ·simp at e
     ·split at e
      ·split at e
       ·simp only [Option.some.injEq,Prod.mk.injEq] at e
        obtain ⟨rfl,rfl,rfl⟩:=e
        refine ⟨fun h=>by simp at h,fun r hr=>?_⟩
        simp only [List.mem_cons,List.not_mem_nil,or_false,not_or] at hr
        rw [jG (fun k hk=>?_),oI hr.1]
        simp at hk ⊢;omega
       ·simp at e
      ·simp at e
     ·simp at e
  ·simp at e
 |call own ref raw f l=>
  simp only [au] at e
  split at e
  ·rename_i yf ys ef es
   unfold qY at e
   split at e
   ·simp at e
   ·rename_i as hconv
    split at e
    ·rename_i g caps
     split at e
     ·rename_i hc
      split at e
      ·simp at e
      ·rename_i z hz
       split at e
       ·rename_i hcond
        simp only [Option.some.injEq,Prod.mk.injEq] at e
        obtain ⟨rfl,rfl,rfl⟩:=e
        refine ⟨fun _=>⟨rfl,fun b2 h2=>?_⟩,fun _ _=>rfl⟩
        simp only [Bool.and_eq_true,Bool.not_eq_true'] at hc
        have hd:fG b2 raw ys=fG b raw ys:=yt ys h2
        simp only [au,mP tm b2 b,OU tm b2 b,ef,es,qY,hd,hc.1.2]
        rw [hc.1.2] at hconv
        simp only [Bool.false_eq_true,if_false] at hconv ⊢
        simp only [hconv,hc.1.1,hc.2,hz,hcond]
        simp
       ·simp at e
     ·split at e
      ·split at e
       ·simp at e
       ·rename_i hz
        simp only [Option.some.injEq,Prod.mk.injEq] at e
        obtain ⟨rfl,rfl,rfl⟩:=e
        exact ⟨fun h=>by simp [xJ] at h,fun r hr=>uw hz (by simpa [xJ] using hr)⟩
      ·simp at e
    ·split at e
     ·split at e
      ·simp at e
      ·rename_i hz
       simp only [Option.some.injEq,Prod.mk.injEq] at e
       obtain ⟨rfl,rfl,rfl⟩:=e
       exact ⟨fun h=>by simp [xJ] at h,fun r hr=>uw hz (by simpa [xJ] using hr)⟩
     ·simp at e
    ·simp at e
  ·simp at e
end Go.Em
namespace Go.Em
variable {P:Program} {A:Ann} {Γ:Gam}
def core (Γ:Gam)(i:Ins)(σ:St):Option (X×List Bx×FP):=
 match i.g with
 |none=>au Γ σ i.op
 |some (s,want)=>match lk σ.tm s with
  |some (.v (.bool b))=>if b==want then au Γ σ i.op else some (undefX,σ.bx,⟨false,[],[]⟩)
  |some (.v (.tuple _))=>some (undefX,σ.bx,⟨false,[],[]⟩)
  |_=>none
theorem lV (i:Ins)(σ:St):step Γ i σ=(core Γ i σ).map fun q=>(⟨uN i.dst q.1 σ.tm,q.2.1⟩,q.2.2):=by
 have hgo:oC Γ i σ=(au Γ σ i.op).map fun q=>(⟨uN i.dst q.1 σ.tm,q.2.1⟩,q.2.2):=by
  unfold oC
  cases au Γ σ i.op with
  |none=>rfl
  |some q=>rfl
 unfold step core
 cases i.g with
 |none=>exact hgo
 |some g=>
  obtain ⟨s,want⟩:=g
  dsimp only
  cases lk σ.tm s with
  |none=>rfl
  |some z=>cases z with
   |v u=>cases u with
    |bool t=>
     dsimp only
     by_cases h:(t==want)=true
     ·rw [if_pos h,if_pos h];exact hgo
     ·rw [if_neg h,if_neg h];rfl
    |tuple=>rfl
    |_=>rfl
   |_=>rfl
theorem MC {i:Ins}{tm tm':List (Nat×X)}{b:List Bx}(h:∀n,n∈i.slots→lk tm n=lk tm' n):core Γ i ⟨tm,b⟩=core Γ i ⟨tm',b⟩:=by
 have h1:AQ tm tm' i.op.iH:=fun n hn=>h n (by
  simp only [Ins.slots,List.mem_append,List.mem_filterMap]
  exact .inl ⟨_,hn,rfl⟩)
 have h2:=Yw (Γ:=Γ) (b:=b) h1
 unfold core
 cases hg:i.g with
 |none=>exact h2
 |some g=>
  obtain ⟨s,want⟩:=g
  dsimp only
  rw [h s (by simp [Ins.slots,hg]),h2]
theorem Dl {i:Ins}{tm:List (Nat×X)}{b b':List Bx}{y:X}{fp:FP}(e:core Γ i ⟨tm,b⟩=some (y,b',fp)):
  (fp.eff=false→b'=b∧∀b2:List Bx,(∀r,r∈fp.rd→b2[r]?=b[r]?)→core Γ i ⟨tm,b2⟩=some (y,b2,fp))∧∀r,r∉fp.wr→b'[r]?=b[r]?:=by
 unfold core at e ⊢
 cases hg:i.g with
 |none=>
  rw [hg] at e
  have:=yE e
  exact ⟨fun h=>this.1 h,this.2⟩
 |some g=>
  obtain ⟨s,want⟩:=g
  rw [hg] at e
  dsimp only at e ⊢
  split at e
  ·rename_i t ht
   split at e
   ·rename_i hw
    have:=yE e
    refine ⟨fun h=>?_,this.2⟩
    obtain ⟨h1,h2⟩:=this.1 h
    refine ⟨h1,fun b2 hb=>?_⟩
    rw [if_pos hw];exact h2 b2 hb
   ·rename_i hw
    simp only [Option.some.injEq,Prod.mk.injEq] at e
    obtain ⟨rfl,rfl,rfl⟩:=e
    refine ⟨fun _=>⟨rfl,fun b2 _=>?_⟩,fun _ _=>rfl⟩
    rw [if_neg hw]
  ·rename_i t ht
   simp only [Option.some.injEq,Prod.mk.injEq] at e
   obtain ⟨rfl,rfl,rfl⟩:=e
   exact ⟨fun _=>⟨rfl,fun b2 _=>rfl⟩,fun _ _=>rfl⟩
  ·simp at e
def DJ (σ τ:St):Prop:=σ.bx=τ.bx∧∀n,lk σ.tm n=lk τ.tm n
theorem DJ.refl (σ:St):DJ σ σ:=⟨rfl,fun _=>rfl⟩
theorem DJ.trans {a b c:St}(h:DJ a b)(h':DJ b c):DJ a c:=⟨h.1.trans h'.1,fun n=>(h.2 n).trans (h'.2 n)⟩
theorem step_eq {i:Ins}{σ τ σ1:St}{fp:FP}(h:DJ σ τ)(e:step Γ i σ=some (σ1,fp)):∃τ1,step Γ i τ=some (τ1,fp)∧DJ σ1 τ1:=by
 obtain ⟨tm,b⟩:=σ
 obtain ⟨tm',b'⟩:=τ
 obtain ⟨h1,h2⟩:=h
 dsimp only at h1 h2;subst h1
 rw [lV] at e
 obtain ⟨q,hq,e1⟩:=map_some e
 simp only [Prod.mk.injEq] at e1
 obtain ⟨rfl,rfl⟩:=e1
 refine ⟨⟨uN i.dst q.1 tm',q.2.1⟩,?_,rfl,fun n=>?_⟩
 ·rw [lV,←MC (fun n _=>h2 n),hq];rfl
 ·dsimp only;rw [uX,uX,h2 n]
theorem OX {l m:List Nat}:Bv l m=true↔∀r,r∈l→r∉m:=by
 simp only [Bv,List.all_eq_true,Bool.not_eq_true']
 constructor
 ·intro h r hr hm
  have:=h r hr
  rw [lC.2 hm] at this;simp at this
 ·intro h r hr
  cases hx:ou r m with
  |false=>rfl
  |true=>exact absurd (lC.1 hx) (h r hr)
theorem DC {i j:Ins}(h:apart i j=true){d:Nat}(hd:i.dst=some d):d∉j.slots∧j.dst≠some d:=by
 simp only [apart,hd,Bool.and_eq_true,Bool.not_eq_true'] at h
 refine ⟨fun hm=>by rw [lC.2 hm] at h;simp at h,fun e=>by rw [e] at h;simp at h⟩
theorem Na {i j:Ins}(h:apart i j=true){d:Nat}(hd:j.dst=some d):d∉i.slots:=by
 simp only [apart,hd,Bool.and_eq_true,Bool.not_eq_true'] at h
 exact fun hm=>by rw [lC.2 hm] at h;simp at h
theorem TT {bx bx':List Bx}{n:Nat}{p z:X}(e:jm bx n p z=some bx'):∃k B,jh p=[k]∧bx'=bx.set k B∧∀b2:List Bx,b2[k]?=bx[k]?→jm b2 n p z=some (b2.set k B):=by
 unfold jm at e
 split at e
 ·rename_i h0
  split at e
  ·rename_i i e' o
   split at e
   ·rename_i cs hb
    split at e
    ·rename_i h1
     obtain ⟨cs',hs,rfl⟩:=map_some e
     refine ⟨i,_,rfl,rfl,fun b2 h2=>?_⟩
     unfold jm
     rw [if_pos h0]
     simp only [h2,hb]
     rw [if_pos h1,hs];rfl
    ·simp at e
   ·rename_i sz es hb
    split at e
    ·simp at e
    ·rename_i cs hc
     split at e
     ·rename_i h1
      obtain ⟨cs',hs,rfl⟩:=map_some e
      refine ⟨i,_,rfl,rfl,fun b2 h2=>?_⟩
      unfold jm
      rw [if_pos h0]
      simp only [h2,hb,hc]
      rw [if_pos h1,hs];rfl
     ·simp at e
   ·simp at e
  ·simp at e
 ·simp at e
theorem BJ {tm:List (Nat×X)}{b b':List Bx}{n:Nat}{q r:Opd}{y:X}{fp:FP}(e:au Γ ⟨tm,b⟩ (.store n q r)=some (y,b',fp)):∃k B,fp.wr=[k]∧b'=b.set k B∧∀b2:List Bx,b2[k]?=b[k]?→au Γ ⟨tm,b2⟩ (.store n q r)=some (y,b2.set k B,fp):=by
 simp only [au] at e
 split at e
 ·rename_i p z hp hz
  obtain ⟨b1,hs,e1⟩:=map_some e
  simp only [Prod.mk.injEq] at e1
  obtain ⟨rfl,rfl,rfl⟩:=e1
  obtain ⟨k,B,h1,h2,h3⟩:=TT hs
  refine ⟨k,B,h1,h2,fun b2 hb=>?_⟩
  simp only [au,mP tm b2 b,hp,hz]
  rw [h3 b2 hb];rfl
 ·simp at e
theorem vM {i:Ins}{tm:List (Nat×X)}{b b':List Bx}{y:X}{fp:FP}(hs:EN i=true)(e:core Γ i ⟨tm,b⟩=some (y,b',fp)):
  (b'=b∧∀b2:List Bx,core Γ i ⟨tm,b2⟩=some (y,b2,fp))∨∃k B,fp.wr=[k]∧b'=b.set k B∧∀b2:List Bx,b2[k]?=b[k]?→core Γ i ⟨tm,b2⟩=some (y,b2.set k B,fp):=by
 obtain ⟨n,q,r,hop⟩:∃n q r,i.op=.store n q r:=by
  unfold EN at hs
  split at hs
  ·rename_i n q r h;exact ⟨n,q,r,h⟩
  ·cases hs
 unfold core at e ⊢
 rw [hop] at e ⊢
 cases hg:i.g with
 |none=>
  rw [hg] at e
  exact .inr (BJ e)
 |some g=>
  obtain ⟨s,want⟩:=g
  rw [hg] at e
  dsimp only at e ⊢
  split at e
  ·rename_i t ht
   split at e
   ·rename_i hw
    obtain ⟨k,B,h1,h2,h3⟩:=BJ e
    refine .inr ⟨k,B,h1,h2,fun b2 hb=>?_⟩
    rw [if_pos hw];exact h3 b2 hb
   ·rename_i hw
    simp only [Option.some.injEq,Prod.mk.injEq] at e
    obtain ⟨rfl,rfl,rfl⟩:=e
    refine .inl ⟨rfl,fun b2=>?_⟩
    rw [if_neg hw]
  ·rename_i t ht
   simp only [Option.some.injEq,Prod.mk.injEq] at e
   obtain ⟨rfl,rfl,rfl⟩:=e
   exact .inl ⟨rfl,fun b2=>rfl⟩
  ·simp at e
theorem TW {i j:Ins}{σ σ1 σ2:St}{f1 f2:FP}(ha:apart i j=true)(hf:(fpOk f1 f2||xP (some i) (some j) f1 f2)=true)(e1:step Γ i σ=some (σ1,f1))(e2:step Γ j σ1=some (σ2,f2)):
  ∃τ1 τ2,step Γ j σ=some (τ1,f2)∧step Γ i τ1=some (τ2,f1)∧DJ σ2 τ2:=by
 obtain ⟨tm,b⟩:=σ
 rw [lV] at e1
 obtain ⟨⟨y1,b1,g1⟩,hq1,e1⟩:=map_some e1
 simp only [Prod.mk.injEq] at e1
 obtain ⟨rfl,rfl⟩:=e1
 rw [lV] at e2
 obtain ⟨⟨y2,b2,g2⟩,hq2,e2⟩:=map_some e2
 simp only [Prod.mk.injEq] at e2
 obtain ⟨rfl,rfl⟩:=e2
 have hj:∀(bb:List Bx),core Γ j ⟨uN i.dst y1 tm,bb⟩=core Γ j ⟨tm,bb⟩:=fun bb=>MC fun n hn=>by
  rw [uX,if_neg];intro hd;exact (DC ha hd).1 hn
 have hi:∀(bb:List Bx),core Γ i ⟨uN j.dst y2 tm,bb⟩=core Γ i ⟨tm,bb⟩:=fun bb=>MC fun n hn=>by
  rw [uX,if_neg];intro hd;exact (Na ha hd) hn
 rw [hj] at hq2
 have fr1:=Dl hq1
 have fr2:=Dl hq2
 have hlast:DJ ⟨uN j.dst y2 (uN i.dst y1 tm),b2⟩ ⟨uN i.dst y1 (uN j.dst y2 tm),b2⟩:=by
  refine ⟨rfl,fun n=>?_⟩
  simp only [uX]
  by_cases h1:i.dst=some n
  ·have:=(DC ha h1).2
   simp [h1,this]
  ·simp [h1]
 have done:∀bm,core Γ j ⟨tm,b⟩=some (y2,bm,g2)→core Γ i ⟨tm,bm⟩=some (y1,b2,g1)→∃τ1 τ2,step Γ j ⟨tm,b⟩=some (τ1,g2)∧step Γ i τ1=some (τ2,g1)∧DJ ⟨uN j.dst y2 (uN i.dst y1 tm),b2⟩ τ2:=by
  intro bm c1 c2
  refine ⟨⟨uN j.dst y2 tm,bm⟩,⟨uN i.dst y1 (uN j.dst y2 tm),b2⟩,?_,?_,hlast⟩
  ·rw [lV,c1];rfl
  ·rw [lV,hi,c2];rfl
 rw [Bool.or_eq_true] at hf
 rcases hf with hf|hf
 rotate_left
 ·simp only [xP,Bool.and_eq_true,OX] at hf
  obtain ⟨⟨s1,s2⟩,hd⟩:=hf
  rcases vM s1 hq1 with h1|⟨k1,B1,w1,rfl,p1⟩
  ·obtain ⟨rfl,p1⟩:=h1
   rcases vM s2 hq2 with h2|⟨k2,B2,w2,rfl,p2⟩
   ·obtain ⟨rfl,p2⟩:=h2
    exact done _ (p2 _) (p1 _)
   ·exact done _ (p2 _ rfl) (p1 _)
  ·rcases vM s2 hq2 with h2|⟨k2,B2,w2,rfl,p2⟩
   ·obtain ⟨rfl,p2⟩:=h2
    exact done _ (p2 _) (p1 _ rfl)
   ·have hne:k1≠k2:=fun e=>hd k1 (by rw [w1];simp) (by rw [w2,e];simp)
    have e1:(b.set k1 B1)[k2]?=b[k2]?:=List.getElem?_set_ne hne
    have e2:(b.set k2 B2)[k1]?=b[k1]?:=List.getElem?_set_ne (fun e=>hne e.symm)
    have c1:=p2 b e1.symm
    have c2:=p1 (b.set k2 B2) e2
    rw [List.set_comm _ _ (fun e=>hne e.symm)] at c2
    exact done _ c1 c2
 simp only [fpOk,Bool.and_eq_true,Bool.not_eq_true',OX] at hf
 obtain ⟨⟨hf0,hf1⟩,hf2⟩:=hf
 cases he:g1.eff with
 |false=>
  obtain ⟨rfl,hp⟩:=fr1.1 he
  refine done b2 hq2 (hp b2 fun r hr=>fr2.2 r fun hw=>hf2 r hw hr)
 |true=>
  rw [he] at hf0
  simp only [Bool.true_and] at hf0
  obtain ⟨rfl,hp⟩:=fr2.1 hf0
  refine done b (hp b fun r hr=>(fr1.2 r fun hw=>hf1 r hw hr).symm) hq1
inductive Runs (Γ:Gam) (l:List Ins) (fps:List FP):List Nat→St→St→Prop
 |nil (σ:St):Runs Γ l fps [] σ σ
 |cons {i:Nat} {L:List Nat} {σ σ1 σ2:St} {ins:Ins} {fp:FP}:l[i]?=some ins→fps[i]?=some fp→step Γ ins σ=some (σ1,fp)→Runs Γ l fps L σ1 σ2→Runs Γ l fps (i::L) σ σ2
theorem Runs.eq {l:List Ins}{fps:List FP}{L:List Nat}{σ σ':St}(h:Runs Γ l fps L σ σ'):∀{τ:St},DJ σ τ→∃τ',Runs Γ l fps L τ τ'∧DJ σ' τ':=by
 induction h with
 |nil σ=>exact fun h=>⟨_,.nil _,h⟩
 |cons h1 h2 h3 _ ih=>
  intro τ h
  obtain ⟨τ1,h4,h5⟩:=step_eq h h3
  obtain ⟨τ',h6,h7⟩:=ih h5
  exact ⟨τ',.cons h1 h2 h4 h6,h7⟩
def Free (l:List Ins)(fps:List FP)(i j:Nat):Prop:=∀a b f g,l[i]?=some a→l[j]?=some b→fps[i]?=some f→fps[j]?=some g→apart a b=true∧(fpOk f g||xP (some a) (some b) f g)=true
theorem Runs.push {l:List Ins}{fps:List FP}{i:Nat}{L2:List Nat}:∀{L1:List Nat} {σ σ':St},Runs Γ l fps (i::(L1++L2)) σ σ'→(∀j,j∈L1→Free l fps i j)→∃τ,Runs Γ l fps (L1++i::L2) σ τ∧DJ σ' τ
 |[],σ,σ',h,_=>⟨σ',h,.refl _⟩
 |j::L1,σ,σ',h,hf=>by
  cases h with
  |cons a1 a2 a3 h=>
   cases h with
   |cons b1 b2 b3 h=>
    obtain ⟨h1,h2⟩:=hf j (by simp) _ _ _ _ a1 b1 a2 b2
    obtain ⟨τ1,τ2,c1,c2,c3⟩:=TW h1 h2 a3 b3
    obtain ⟨τ',d1,d2⟩:=Runs.eq h c3
    obtain ⟨τ,e1,e2⟩:=Runs.push (.cons a1 a2 c2 d1) (fun k hk=>hf k (by simp [hk]))
    exact ⟨τ,.cons b1 b2 c1 e1,d2.trans e2⟩
theorem Runs.order {l:List Ins}{fps:List FP}:∀{m k:Nat} {L:List Nat} {σ σ':St},Runs Γ l fps (List.range' k m) σ σ'→L.Perm (List.range' k m)→L.Pairwise (fun j i=>i<j→Free l fps i j)→∃τ,Runs Γ l fps L σ τ∧DJ σ' τ
 |0,k,L,σ,σ',h,hp,_=>by
  have:L=[]:=by simpa using hp
  subst this
  exact ⟨σ',h,.refl _⟩
 |m+1,k,L,σ,σ',h,hp,hw=>by
  rw [List.range'_succ] at h hp
  obtain ⟨L1,L2,rfl⟩:=List.append_of_mem (hp.symm.subset (List.mem_cons_self))
  have hp':(L1++L2).Perm (List.range' (k+1) m):=(List.perm_cons k).1 (List.perm_middle.symm.trans hp)
  cases h with
  |cons h1 h2 h3 h4=>
   have hs:(L1++L2).Sublist (L1++k::L2):=List.Sublist.append (List.Sublist.refl _) (List.sublist_cons_self _ _)
   obtain ⟨τ,r1,r2⟩:=Runs.order h4 hp' (hw.sublist hs)
   obtain ⟨τ',r3,r4⟩:=Runs.push (.cons h1 h2 h3 r1) (fun j hj=>by
    have h5:=(List.pairwise_append.1 hw).2.2 j hj k (by simp)
    have h6:j∈List.range' (k+1) m:=hp'.subset (by simp [hj])
    rw [List.mem_range'_1] at h6
    exact h5 (by omega))
   exact ⟨τ',r3,r2.trans r4⟩
theorem rY {l:List Ins}{fps:List FP}:∀{m:List Ins} {k:Nat} {σ σ':St} {gs:List FP},steps Γ m σ=some (σ',gs)→(∀j,j<m.length→l[k+j]?=m[j]?∧fps[k+j]?=gs[j]?)→Runs Γ l fps (List.range' k m.length) σ σ'
 |[],k,σ,σ',gs,e,_=>by
  simp only [steps,Option.some.injEq,Prod.mk.injEq] at e
  obtain ⟨rfl,_⟩:=e
  exact .nil _
 |i::r,k,σ,σ',gs,e,h=>by
  simp only [steps] at e
  split at e
  ·simp at e
  ·rename_i σ1 fp hs
   obtain ⟨q,hq,e1⟩:=map_some e
   simp only [Prod.mk.injEq] at e1
   obtain ⟨rfl,rfl⟩:=e1
   rw [List.length_cons,List.range'_succ]
   have h0:=h 0 (by simp)
   simp only [Nat.add_zero,List.getElem?_cons_zero] at h0
   refine .cons h0.1 h0.2 hs (rY hq fun j hj=>?_)
   have:=h (j+1) (by simp;omega)
   simp only [List.getElem?_cons_succ] at this
   rw [show k+1+j=k+(j+1) by omega];exact this
theorem G8 {l:List Ins}{σ σ':St}{fps:List FP}(e:steps Γ l σ=some (σ',fps)):Runs Γ l fps (List.range' 0 l.length) σ σ':=
 rY e fun j _=>by simp
theorem En {rows:List Nat}{i:Nat}:∀{es:List Edge},(zcu rows es).testBit i=true→∃e∈es,Region.binds .any e=true∧(e.on=i∨(e.on<rows.length∧(rows.getD e.on 0).testBit i=true))
 |[],h=>by simp [zcu] at h
 |e::r,h=>by
  simp only [zcu] at h
  split at h
  ·rename_i hc
   rw [Bool.and_eq_true] at hc
   change (((1<<<e.on)|||rows.getD e.on 0)|||zcu rows r).testBit i=true at h
   rw [Nat.testBit_or,Nat.testBit_or,Bool.or_eq_true,Bool.or_eq_true] at h
   rcases h with (h|h)|h
   ·refine ⟨e,by simp,hc.1,.inl ?_⟩
    rw [Nat.one_shiftLeft,Nat.testBit_two_pow] at h
    exact of_decide_eq_true h
   ·exact ⟨e,by simp,hc.1,.inr ⟨of_decide_eq_true hc.2,h⟩⟩
   ·obtain ⟨e',h1,h2⟩:=En h
    exact ⟨e',List.mem_cons_of_mem _ h1,h2⟩
  ·obtain ⟨e',h1,h2⟩:=En h
   exact ⟨e',List.mem_cons_of_mem _ h1,h2⟩
def zby (ops:Array Oper)(rows:List Nat):Prop:=
 ∀j,j<rows.length→∀i,(rows.getD j 0).testBit i=true→∀L,Order ops L→∀L1 L2,L=L1++j::L2→i∈L1
theorem oL:∀{os:List Oper} {rows:List Nat},(uP rows os).length=rows.length+os.length
 |[],rows=>by simp [uP]
 |o::r,rows=>by rw [uP,oL];simp;omega
theorem NH {ops:Array Oper}:∀{os:List Oper} {rows:List Nat},zby ops rows→ops.toList.drop rows.length=os→zby ops (uP rows os)
 |[],rows,h,_=>h
 |o::r,rows,h,e=>by
  rw [uP]
  have ho:ops.getD rows.length default=o:=by
   have h1:(ops.toList.drop rows.length)[0]?=some o:=by rw [e];rfl
   rw [List.getElem?_drop] at h1
   simp only [Nat.add_zero,Array.getElem?_toList] at h1
   simp [Array.getD_eq_getD_getElem?,h1]
  refine NH ?_ (by
   rw [List.length_append,List.length_singleton,←List.drop_drop,e];rfl)
  intro j hj i hi L hL L1 L2 eL
  rw [List.length_append,List.length_singleton] at hj
  by_cases hlt:j<rows.length
  ·rw [List.getD_eq_getElem?_getD,List.getElem?_append_left hlt,←List.getD_eq_getElem?_getD] at hi
   exact h j hlt i hi L hL L1 L2 eL
  ·have hje:j=rows.length:=by omega
   subst hje
   rw [List.getD_eq_getElem?_getD,List.getElem?_append_right (by omega)] at hi
   simp only [Nat.sub_self,List.getElem?_cons_zero,Option.getD_some] at hi
   obtain ⟨ed,h1,h2,h3⟩:=En hi
   have hed:zan (ops.getD rows.length default) ed.on=true:=by
    rw [ho]
    simp only [zan,List.any_eq_true,Bool.and_eq_true,beq_iff_eq]
    exact ⟨ed,h1,h2,rfl⟩
   have hm:=hL.follows L1 L2 _ eL _ hed
   rcases h3 with rfl|⟨h4,h5⟩
   ·exact hm
   ·obtain ⟨A,B,rfl⟩:=List.append_of_mem hm
    have:=h ed.on h4 i h5 L hL A (B++rows.length::L2) (by rw [eL];simp)
    exact List.mem_append_left _ this
theorem Fe {ops:Array Oper}{i j:Nat}(hj:j<ops.size)(hi:i<j)(he:((uP [] ops.toList).getD j 0).testBit i=false):(i,j)∈zU ops:=by
 have hlen:(uP [] ops.toList).length=ops.size:=by rw [oL];simp
 simp only [zU,List.mem_flatMap,List.mem_range,List.mem_filterMap]
 refine ⟨((uP [] ops.toList).getD j 0,j),?_,i,hi,by simp only [he];rfl⟩
 rw [List.mem_zipIdx_iff_getElem?]
 simp only [List.getD_eq_getElem?_getD]
 rw [List.getElem?_eq_getElem (by omega)];rfl
theorem UG {ops:Array Oper}{l:List Ins}{σ σ':St}{fps:List FP}{ps:List (Nat×Nat)}{L:List Nat}(hl:l.length=ops.size)(hd:mQ ops l=some ps)(e:steps Γ l σ=some (σ',fps))(hp:pairsOk l fps ps=true)(hL:Order ops L):
  ∃τ,Runs Γ l fps L σ τ∧DJ σ' τ:=by
 refine Runs.order (G8 e) ?_ ?_
 ·refine (List.perm_ext_iff_of_nodup hL.nodup (List.nodup_range' ..)).2 fun i=>?_
  rw [hL.all i,List.mem_range'_1,hl];omega
 ·unfold mQ at hd
  dsimp only at hd
  split at hd
  ·rename_i hc
   simp only [Option.some.injEq] at hd
   subst hd
   rw [Bool.and_eq_true] at hc
   have hA:=List.all_eq_true.1 hc.2
   have hB:=List.all_eq_true.1 hp
   rw [List.pairwise_iff_getElem]
   intro p q hp hq hpq hlt
   have hsplit:L=L.take p++L[p]::L.drop (p+1):=by simp
   have hjs:L[p]<ops.size:=(hL.all _).1 (List.getElem_mem _)
   have hne:((uP [] ops.toList).getD L[p] 0).testBit L[q]=false:=by
    cases hx:((uP [] ops.toList).getD L[p] 0).testBit L[q] with
    |false=>rfl
    |true=>
     have hrl:(uP [] ops.toList).length=ops.size:=by rw [oL];simp
     have h1:=NH (ops:=ops) (rows:=[]) (fun j hj=>by simp at hj) (by simp) _ (by rw [hrl];exact hjs) _ hx L hL _ _ hsplit
     obtain ⟨s,hs,es⟩:=List.mem_iff_getElem.1 h1
     rw [List.getElem_take] at es
     have hs':s<p:=by simp at hs;omega
     exact absurd es (List.pairwise_iff_getElem.1 hL.nodup s q (by omega) hq (by omega))
   have hm:=Fe hjs hlt hne
   have h1:=hA _ hm
   have h2:=hB _ hm
   intro a b f g ha hb hf hg
   dsimp only at h1 h2
   rw [ha,hb] at h1
   rw [hf,hg,ha,hb] at h2
   exact ⟨h1,h2⟩
  ·simp at hd
end Go.Em
namespace Go.Em
variable {P:Program} {R:aN} {x:Ctx} {K:Kn} {C:List CB} {σ:St} {a:Act} {w:World}
variable {A:Ann} {Γ:Gam}
theorem ny {nt:Nat}{ops:Array Oper}:∀{m:List Oper} {l:List Ins},nC P R.gl A nt ops m=some l→l.length=m.length∧∀(j:Nat) (i:Ins),l[j]?=some i→∃o,m[j]?=some o∧Ns P R.gl A nt ops o=some i
 |[],l,e=>by simp only [nC,Option.some.injEq] at e;subst e;exact ⟨rfl,fun j i h=>by simp at h⟩
 |o::m,l,e=>by
  simp only [nC] at e
  split at e
  ·simp at e
  ·rename_i i hi
   obtain ⟨q,hq,rfl⟩:=map_some e
   obtain ⟨h1,h2⟩:=ny hq
   refine ⟨by simp [h1],fun j k h=>?_⟩
   cases j with
   |zero=>simp only [List.getElem?_cons_zero,Option.some.injEq] at h;subst h;exact ⟨o,rfl,hi⟩
   |succ j=>simp only [List.getElem?_cons_succ] at h ⊢;exact h2 j k h
theorem PO {o:Oper}{i:I}(h:zfO P R.gl A o=some i):∀c,o.op≠.defer c:=by
 intro c e
 unfold zfO at h
 rw [e] at h
 simp at h
theorem JB {nt:Nat}{ops:Array Oper}{o:Oper}{i:Ins}(h:Ns P R.gl A nt ops o=some i):
  i.dst=o.dst∧(∀n,o.dst=some n→n<nt)∧zfO P R.gl A o=some i.op∧
   ((o.guard=none∧i.g=none)∨∃j want s,o.guard=some (j,want)∧(ops[j]?).bind (·.dst)=some s∧i.g=some (s,want)):=by
 unfold Ns at h
 split at h
 ·simp at h
 ·rename_i hd
  have hd':∀n,o.dst=some n→n<nt:=by
   intro n e
   rw [e] at hd
   simpa [zhR] using hd
  split at h
  ·simp at h
  ·rename_i op hop
   split at h
   ·rename_i hg
    simp only [Option.some.injEq] at h;subst h
    exact ⟨rfl,hd',hop,.inl ⟨hg,rfl⟩⟩
   ·rename_i j want hg
    split at h
    ·rename_i s hs
     simp only [Option.some.injEq] at h;subst h
     exact ⟨rfl,hd',hop,.inr ⟨j,want,s,hg,hs,rfl⟩⟩
    ·simp at h
theorem Tq {r:Option Nat}{ops:Array Oper}{i:Nat}{L:List Nat}{Q:Exit→Act→World→Prop}{ins:Ins}{l:List Ins}{σ1:St}{fp:FP}(hΓ:qF P R Γ)(h:Rel P R x K C σ a w)
  (hl:nC P R.gl A x.nt ops ops.toList=some l) (hi:l[i]?=some ins) (hs:step Γ ins σ=some (σ1,fp))
  (hn:∀K' C' a' w',Em.Rel P R x K' C' σ1 a' w'→wpOpsIn (Fr r) 0 P ops Q L a' w'):wpOpsIn (Fr r) 0 P ops Q (i::L) a w:=by
 obtain ⟨o,ho,ht⟩:=(ny hl).2 i ins hi
 obtain ⟨hd,hlt,hop,hg⟩:=JB ht
 have ho':ops[i]?=some o:=by simpa using ho
 have habout:∀f,o.about P w a.eval=some f→(Fr r).fn f:=fun _ _=>trivial
 simp only [wpOpsIn,ho']
 have hgo:oC Γ ins σ=some (σ1,fp)→o.wpIn (Fr r) 0 P a w (wpOpsIn (Fr r) 0 P ops Q L) Q:=by
  intro e
  unfold oC at e
  split at e
  ·simp at e
  ·rename_i y bx fp' hst
   simp only [Option.some.injEq,Prod.mk.injEq] at e
   obtain ⟨rfl,rfl⟩:=e
   refine ⟨habout,?_⟩
   rw [Oper.semAt_eq _ _ _ (PO hop)]
   refine JF hΓ h hop hst r _ Q fun K' C' v w' hr hp=>?_
   have:=hr.set hp o.dst hlt
   rw [←hd] at this ⊢
   exact hn K' C' _ w' this
 have zhv:xQ ins σ=some (σ1,fp)→wpOpsIn (Fr r) 0 P ops Q L (a.put o.dst undef) w:=by
  intro e
  unfold xQ at e
  simp only [Option.some.injEq,Prod.mk.injEq] at e
  obtain ⟨rfl,rfl⟩:=e
  have:=h.set (y:=undefX) (v:=undef) (.v rfl) o.dst hlt
  rw [←hd] at this ⊢
  exact hn K C _ w this
 unfold step at hs
 rcases hg with ⟨hg1,hg2⟩|⟨j,want,s,hg1,hg2,hg3⟩
 ·rw [hg2] at hs
  simp only [Region.wanted,hg1,if_true]
  exact hgo hs
 ·rw [hg3] at hs
  simp only [Region.wanted,hg1]
  dsimp only at hs
  split at hs
  ·rename_i b hb
   obtain ⟨v,hv,hr⟩:=h.tm s _ hb
   have hv':=eH hr
   subst hv'
   have hy:yielded ops a.tmps j=some b:=by simp [yielded,hg2,hv]
   rw [hy]
   by_cases hw:(b==want)=true
   ·have e1:(some b==some want)=true:=by simpa using hw
    rw [if_pos hw] at hs
    simp only [e1,if_true]
    exact hgo hs
   ·have e1:¬(some b==some want)=true:=by simpa using hw
    rw [if_neg hw] at hs
    rw [if_neg e1]
    exact ⟨habout,zhv hs⟩
  ·rename_i t hb
   obtain ⟨v,hv,hr⟩:=h.tm s _ hb
   have hv':=eH hr
   subst hv'
   have hy:yielded ops a.tmps j=none:=by simp [yielded,hg2,hv]
   rw [hy]
   have e1:¬((none:Option Bool)==some want)=true:=by simp
   rw [if_neg e1]
   exact ⟨habout,zhv hs⟩
  ·simp at hs
theorem Cc {r:Option Nat}{ops:Array Oper}{l:List Ins}{fps:List FP}{Q:Exit→Act→World→Prop}(hΓ:qF P R Γ)(hl:nC P R.gl A x.nt ops ops.toList=some l){L:List Nat}{σ σ':St}(hr:Runs Γ l fps L σ σ'):
  ∀{K:Kn} {C:List CB} {a:Act} {w:World},Rel P R x K C σ a w→(∀K' C' a' w',Em.Rel P R x K' C' σ' a' w'→Q .normal a' w')→wpOpsIn (Fr r) 0 P ops Q L a w:=by
 induction hr with
 |nil σ=>intro K C a w h hn;exact hn K C a w h
 |cons h1 h2 h3 h4 ih=>
  intro K C a w h hn
  exact Tq hΓ h hl h1 h3 fun K' C' a' w' h'=>ih h' hn
theorem Rel.zom {τ:St}(h:Rel P R x K C σ a w)(e:DJ σ τ):Rel P R x K C τ a w:=by
 obtain ⟨tm,bx⟩:=σ
 obtain ⟨tm',bx'⟩:=τ
 obtain ⟨h1,h2⟩:=e
 dsimp only at h1 h2
 subst h1
 exact h.tms fun n y hy=>h.tm n y (by dsimp only;rw [h2];exact hy)
theorem DJ.symm {σ τ:St}(h:DJ σ τ):DJ τ σ:=⟨h.1.symm,fun n=>(h.2 n).symm⟩
theorem JX {r:Option Nat}{id:Nat}{ops:Array Oper}{l:List Ins}{fps:List FP}{Q:Exit→Act→World→Prop}{σ':St}(hΓ:qF P R Γ)(h:Rel P R x K C σ a w)(hl:nC P R.gl A x.nt ops ops.toList=some l)
  (hs:steps Γ l σ=some (σ',fps)) (hn:∀K' C' a' w',Em.Rel P R x K' C' σ' a' w'→Q .normal a' w'):(Code.region id ops false).wpIn (Fr r) 0 P Q a w:=by
 refine wpIn_region ?_
 have:=G8 hs
 rw [(ny hl).1,←List.range_eq_range'] at this
 exact Cc hΓ hl (by simpa using this) h hn
theorem JY {r:Option Nat}{id:Nat}{ops:Array Oper}{l:List Ins}{fps:List FP}{ps:List (Nat×Nat)}{Q:Exit→Act→World→Prop}{σ':St}(hΓ:qF P R Γ)(h:Rel P R x K C σ a w)(hl:nC P R.gl A x.nt ops ops.toList=some l)
  (hd:mQ ops l=some ps) (hs:steps Γ l σ=some (σ',fps)) (hp:pairsOk l fps ps=true) (hn:∀K' C' a' w',Em.Rel P R x K' C' σ' a' w'→Q .normal a' w'):(Code.region id ops true).wpIn (Fr r) 0 P Q a w:=by
 refine wpIn_region_draw fun t=>?_
 have he:FC ops=true:=by
  unfold mQ at hd
  dsimp only at hd
  split at hd
  ·rename_i hc;rw [Bool.and_eq_true] at hc;exact hc.1
  ·simp at hd
 obtain ⟨τ,h1,h2⟩:=UG (by rw [(ny hl).1];simp) hd hs hp (AV he (P.follows .mixedOrders) t)
 exact Cc hΓ hl h1 (h.still (aP.drew _ w)) fun K' C' a' w' hr=>hn K' C' a' w' (hr.zom h2.symm)
end Go.Em
