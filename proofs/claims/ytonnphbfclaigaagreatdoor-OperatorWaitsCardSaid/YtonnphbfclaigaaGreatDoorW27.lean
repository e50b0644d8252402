/-.-/
import Derived.Test.YtonnphbfclaigaaGreatDoorW16
set_option linter.all false
namespace Go.Proofs.YtonnphbfclaigaaGreatDoor.Sy
open Go Go.Em
variable {L Y:List Msg}{x y:Msg}{c:Nat}
structure Lin {κ:Type} (lt:κ->κ->Bool):Prop where
 irr:∀a,lt a a=false
 tr:∀a b c,lt a b=true->lt b c=true->lt a c=true
 tot:∀a b,lt a b=false->lt b a=false->a=b
section
variable {α κ:Type} [DecidableEq κ] {f:α->κ} {lt:κ->κ->Bool}
def Srt (f:α->κ)(lt:κ->κ->Bool)(l:List α):Prop:=l.Pairwise fun x y=>lt (f y) (f x)=false
structure Mg (f:α->κ) (lt:κ->κ->Bool) (l r:List α):Prop where
 srt:Srt f lt r
 same:∀k,r.filter (fun x=>f x==k)=l.filter (fun x=>f x==k)
omit [DecidableEq κ] in
theorem Lin.le_trans (h:Lin lt){a b c:κ}(h1:lt b a=false)(h2:lt c b=false):lt c a=false:=by
 cases e:lt c a with
 |false=>rfl
 |true=>
  cases e2:lt a b with
  |true=>rw [h.tr c a b e e2] at h2;cases h2
  |false=>have:=h.tot a b e2 h1;subst this;rw [e] at h2;cases h2
omit [DecidableEq κ] in
theorem Lin.lt_of_lt_le (h:Lin lt){a b c:κ}(h1:lt a b=true)(h2:lt c b=false):lt a c=true:=by
 cases e:lt b c with
 |true=>exact h.tr a b c h1 e
 |false=>have:=h.tot b c e h2;subst this;exact h1
omit [DecidableEq κ] in
theorem Lin.lt_of_le_lt (h:Lin lt){a b c:κ}(h1:lt b a=false)(h2:lt b c=true):lt a c=true:=by
 cases e:lt a b with
 |true=>exact h.tr a b c e h2
 |false=>have:=h.tot a b e h1;subst this;exact h2
omit [DecidableEq κ] in
theorem Lin.not_lt (h:Lin lt){a b:κ}(h1:lt a b=true):lt b a=false:=by
 cases e:lt b a with
 |false=>rfl
 |true=>have:=h.tr a b a h1 e;rw [h.irr] at this;cases this
theorem Mg.mem {l r:List α}(h:Mg f lt l r){x:α}:x∈r↔x∈l:=by
 have e:=h.same (f x);constructor;·intro hx;have:x∈r.filter (fun y=>f y==f x):=List.mem_filter.2 ⟨hx,by simp⟩;rw [e] at this;exact (List.mem_filter.1 this).1
 intro hx;have:x∈l.filter (fun y=>f y==f x):=List.mem_filter.2 ⟨hx,by simp⟩;rw [<-e] at this;exact (List.mem_filter.1 this).1
theorem Mg.self {l:List α}(h:Srt f lt l):Mg f lt l l:=⟨h,fun _=>rfl⟩
theorem Mg.of_same {l l' r:List α}(h:Mg f lt l' r)(e:∀k,l'.filter (fun x=>f x==k)=l.filter (fun x=>f x==k)):Mg f lt l r:=
 ⟨h.srt,fun k=>(h.same k).trans (e k)⟩
theorem filter_nil {l:List α}{k:κ}(h:∀x,x∈l->f x≠k):l.filter (fun x=>f x==k)=[]:=by rw [List.filter_eq_nil_iff];intro x hx;simpa using h x hx
theorem merge_cut (hL:Lin lt){X1 X2 Y1 Y2 r1 r2:List α}(hx:Srt f lt (X1++X2))(hy:Srt f lt (Y1++Y2))(h1:∀x,x∈X1->∀y,y∈Y2->lt (f y) (f x)=false)(h2:∀y,y∈Y1->∀x,x∈X2->lt (f y) (f x)=true)
  (m1:Mg f lt (X1++Y1) r1) (m2:Mg f lt (X2++Y2) r2):Mg f lt ((X1++X2)++(Y1++Y2)) (r1++r2):=by
 have px:=(List.pairwise_append.1 hx).2.2;have py:=(List.pairwise_append.1 hy).2.2;refine ⟨List.pairwise_append.2 ⟨m1.srt,m2.srt,fun a ha b hb=>?_⟩,fun k=>?_⟩
 ·have ha':=m1.mem.1 ha;have hb':=m2.mem.1 hb;rcases qaB.1 ha' with ha'|ha'<;>rcases qaB.1 hb' with hb'|hb';·exact px a ha' b hb'
  ·exact h1 a ha' b hb'
  ·exact hL.not_lt (h2 a ha' b hb')
  exact py a ha' b hb'
 rw [List.filter_append,m1.same k,m2.same k];simp only [List.filter_append];by_cases hk:∃x,x∈X2/\f x=k
 ·obtain ⟨x,hx2,hxk⟩:=hk;have:Y1.filter (fun x=>f x==k)=[]:=filter_nil fun y hy1 e=>by have:=h2 y hy1 x hx2;rw [e,hxk,hL.irr] at this;cases this
  rw [this];simp
 have:X2.filter (fun x=>f x==k)=[]:=filter_nil fun x hx2 e=>hk ⟨x,hx2,e⟩;rw [this];simp
theorem merge_left (hL:Lin lt){x:α}{Y1 Y2:List α}(hy:Srt f lt (Y1++Y2))(h1:∀y,y∈Y1->lt (f y) (f x)=true)(h2:∀y,y∈Y2->lt (f y) (f x)=false):Mg f lt ([x]++(Y1++Y2)) (Y1++x::Y2):=by have p:=List.pairwise_append.1 hy;have:=merge_cut hL (X1:=[]) (X2:=[x]) (r1:=Y1) (r2:=x::Y2) (by simp [Srt]) hy (fun a ha=>by cases ha) (fun y hy1 a ha=>by simp only [qaQ] at ha;subst ha;exact h1 y hy1) (Mg.self p.1) (Mg.self (List.pairwise_cons.2 ⟨fun y hy2=>h2 y hy2,p.2.1⟩));exact this
theorem merge_right (hL:Lin lt){y:α}{X1 X2:List α}(hx:Srt f lt (X1++X2))(h1:∀x,x∈X1->lt (f y) (f x)=false)(h2:∀x,x∈X2->lt (f y) (f x)=true):Mg f lt ((X1++X2)++[y]) (X1++y::X2):=by have p:=List.pairwise_append.1 hx;have hs:Srt f lt (X1++[y]):=List.pairwise_append.2 ⟨p.1,List.pairwise_singleton _ _,fun a ha b hb=>by simp only [qaQ] at hb;subst hb;exact h1 a ha⟩;have:=merge_cut hL (Y1:=[y]) (Y2:=[]) (r1:=X1++[y]) (r2:=X2) hx (by simp [Srt]) (fun a _ b hb=>by cases hb) (fun b hb a ha=>by simp only [qaQ] at hb;subst hb;exact h2 a ha) (Mg.self hs) (by rw [List.append_nil];exact Mg.self p.2.1);simpa using this
theorem Mg.insert (hL:Lin lt){l X1 X2:List α}{y:α}(h:Mg f lt l (X1++X2))(h1:∀x,x∈X1->lt (f y) (f x)=false)(h2:∀x,x∈X2->lt (f y) (f x)=true):Mg f lt (l++[y]) (X1++y::X2):=
 (merge_right hL h.srt h1 h2).of_same fun k=>by rw [List.filter_append,h.same k,List.filter_append]
theorem Mg.join {l1 l2 s1 s2 r:List α}(h1:Mg f lt l1 s1)(h2:Mg f lt l2 s2)(h:Mg f lt (s1++s2) r):Mg f lt (l1++l2) r:=
 h.of_same fun k=>by rw [List.filter_append,h1.same k,h2.same k,List.filter_append]
theorem Mg.uniq (hL:Lin lt):∀{l r r':List α},Mg f lt l r->Mg f lt l r'->r=r':=by
 have key:∀(r r':List α),Srt f lt r->Srt f lt r'->(∀k,r.filter (fun x=>f x==k)=r'.filter (fun x=>f x==k))->r=r':=by
  intro r;induction r with
  |nil=>
   intro r' _ _ h;cases r' with
   |nil=>rfl
   |cons b t=>have:=h (f b);simp at this
  |cons a s ih=>
   intro r' hs hs' h;cases r' with
   |nil=>have:=h (f a);simp at this
   |cons b t=>
    have ps:=List.pairwise_cons.1 hs;have pt:=List.pairwise_cons.1 hs';have hab:f a=f b:=by
     have hb:b∈a::s:=by have:b∈(b::t).filter (fun x=>f x==f b):=List.mem_filter.2 ⟨qaR,by simp⟩;rw [<-h] at this;exact (List.mem_filter.1 this).1
     have ha:a∈b::t:=by have:a∈(a::s).filter (fun x=>f x==f a):=List.mem_filter.2 ⟨qaR,by simp⟩;rw [h] at this;exact (List.mem_filter.1 this).1
     refine hL.tot _ _ ?_ ?_
     ·rcases qaz.1 ha with e|e;·rw [e];exact hL.irr _
      exact pt.1 a e
     rcases qaz.1 hb with e|e;·rw [e];exact hL.irr _
     exact ps.1 b e
    have h0:=h (f a);rw [List.filter_cons_of_pos (by simp),List.filter_cons_of_pos (by simp [hab])] at h0;have hab':a=b:=(List.cons.inj h0).1;subst hab';rw [ih t ps.2 pt.2 fun k=>?_];have hk:=h k;by_cases e:f a=k;·rw [List.filter_cons_of_pos (by simp [e]),List.filter_cons_of_pos (by simp [e])] at hk;exact (List.cons.inj hk).2
    rw [List.filter_cons_of_neg (by simp [e]),List.filter_cons_of_neg (by simp [e])] at hk;exact hk
 intro l r r' h h';exact key r r' h.srt h'.srt fun k=>(h.same k).trans (h'.same k).symm
end
open Go Go.Em Go.Proofs.YtonnphbfclaigaaGreatDoor
theorem ordI_lt {a b:Int}:ordI a b<0↔a<b:=by unfold ordI;split<;>(try split)<;>omega
theorem ordI_zero {a b:Int}:ordI a b=0↔a=b:=by unfold ordI;split<;>(try split)<;>omega
theorem ordI_neg (a b:Int):ordI b a=-ordI a b:=by unfold ordI;split<;>split<;>(try split)<;>omega
theorem lex_neg:∀p q:List Int,lexC ordI q p=-lexC ordI p q
 |[],[]=>rfl
 |[],_::_=>rfl
 |_::_,[]=>rfl
 |a::p,b::q=>by
  simp only [lexC];rw [lex_neg p q,ordI_neg a b];by_cases h:ordI a b=0;·rw [h];simp
  rw [if_neg (by omega),if_neg h]
theorem lex_zero:∀{p q:List Int},lexC ordI p q=0->p=q
 |[],[],_=>rfl
 |[],_::_,h=>by simp [lexC] at h
 |_::_,[],h=>by simp [lexC] at h
 |a::p,b::q,h=>by
  simp only [lexC] at h;by_cases e:ordI a b=0;·rw [if_pos e] at h;rw [ordI_zero.1 e,lex_zero h]
  rw [if_neg e] at h;exact absurd h e
theorem lex_tr:∀{p q r:List Int},lexC ordI p q<0->lexC ordI q r<0->lexC ordI p r<0
 |_,[],[],_,h2=>by simp [lexC] at h2
 |[],[],_::_,h1,_=>by simp [lexC] at h1
 |_::_,[],_::_,h1,_=>by simp [lexC] at h1
 |_,_::_,[],_,h2=>by simp [lexC] at h2
 |[],_::_,_::_,_,_=>by simp [lexC]
 |a::p,b::q,c::r,h1,h2=>by
  simp only [lexC] at h1 h2 ⊢;by_cases e1:ordI a b=0
  ·rw [if_pos e1] at h1;have:=ordI_zero.1 e1;subst this;by_cases e2:ordI a c=0;·rw [if_pos e2] at h2 ⊢;exact lex_tr h1 h2
   rw [if_neg e2] at h2 ⊢;exact h2
  rw [if_neg e1] at h1;by_cases e2:ordI b c=0;·have:=ordI_zero.1 e2;subst this;rw [if_neg e1];exact h1
  rw [if_neg e2] at h2;have:=Int.lt_trans (ordI_lt.1 h1) (ordI_lt.1 h2);have hlt:=ordI_lt.2 this;rw [if_neg (by omega)];exact hlt
def key (m:Msg):Int×List Int:=(m.st.e,m.st.p)
def ltS (a b:Int×List Int):Bool:=decide (cmpS ⟨a.1,a.2⟩ ⟨b.1,b.2⟩<0)
theorem ltS_iff {a b:Int×List Int}:ltS a b=true↔a.1<b.1\/a.1=b.1/\lexC ordI a.2 b.2<0:=by
 unfold ltS;rw [decide_eq_true_iff];unfold cmpS;simp only [orL];by_cases h:ordI a.1 b.1=0
 ·have e:=ordI_zero.1 h;rw [if_pos h];constructor;·intro h2;refine .inr ⟨e,?_⟩;split at h2<;>omega
  rintro (h2|⟨_,h2⟩)
  ·omega
  rw [if_neg (by omega)];exact h2
 have e:¬a.1=b.1:=fun e=>h (ordI_zero.2 e);rw [if_neg h,ordI_lt];constructor;·exact .inl
 rintro (h2|⟨h2,_⟩)
 ·exact h2
 exact absurd h2 e
theorem linS:Lin ltS where
 irr a:=by
  cases h:ltS a a with
  |false=>rfl
  |true=>
   rcases ltS_iff.1 h with h|⟨_,h⟩;·omega
   have:=lex_neg a.2 a.2;omega
 tr a b c h1 h2:=by
  rcases ltS_iff.1 h1 with h1|⟨e1,h1⟩<;>rcases ltS_iff.1 h2 with h2|⟨e2,h2⟩;·exact ltS_iff.2 (.inl (by omega))
  ·exact ltS_iff.2 (.inl (by omega))
  ·exact ltS_iff.2 (.inl (by omega))
  exact ltS_iff.2 (.inr ⟨by omega,lex_tr h1 h2⟩)
 tot a b h1 h2:=by
  have n1:¬(a.1<b.1\/a.1=b.1/\lexC ordI a.2 b.2<0):=fun h=>by rw [ltS_iff.2 h] at h1;cases h1
  have n2:¬(b.1<a.1\/b.1=a.1/\lexC ordI b.2 a.2<0):=fun h=>by rw [ltS_iff.2 h] at h2;cases h2
  have e1:a.1=b.1:=by omega
  have hn:=lex_neg a.2 b.2;have e2:a.2=b.2:=lex_zero (by have m1:¬lexC ordI a.2 b.2<0:=fun h=>n1 (.inr ⟨e1,h⟩);have m2:¬lexC ordI b.2 a.2<0:=fun h=>n2 (.inr ⟨e1.symm,h⟩);omega);exact Prod.ext e1 e2
theorem cmpS_neg (a b:Stp):cmpS b a=-cmpS a b:=by
 unfold cmpS;simp only [orL];rw [ordI_neg a.e b.e,lex_neg a.p b.p];by_cases h:ordI a.e b.e=0
 ·rw [h];simp only [Int.neg_zero,if_true];by_cases h2:lexC ordI a.p b.p=0;·rw [h2];simp
  rw [if_neg (by omega),if_neg h2]
 rw [if_neg (by omega),if_neg h]
theorem cmp_gt (a b:Stp):decide (cmpS a b>0)=ltS (b.e,b.p) (a.e,a.p):=by
 have:=cmpS_neg a b;unfold ltS;dsimp only;rw [this];by_cases h:cmpS a b>0;·rw [decide_eq_true h,decide_eq_true (by omega)]
 rw [decide_eq_false h,decide_eq_false (by omega)]
set_option maxRecDepth 100000
theorem pfI {a b c d e:Prop}{l:List Prop}(h1:a)(h2:b)(h3:c)(h4:d)(h5:e)(h:allP l):allP (a::b::c::d::e::l):=⟨h1,h2,h3,h4,h5,h⟩
theorem cmpM (a b:Msg)(ha:a.st.p.length<=60000)(N:Nat)(hN:60100<=N):Gam.pureD (callF tab ext N) 110 [.agg a.cells,.agg b.cells]=some (num (cmpS a.st b.st)):=by obtain ⟨M,rfl⟩:∃M,N=M+1:=⟨N-1,by omega⟩;have h:=cmp_stamp M a.st b.st (by omega) (by omega);obtain ⟨⟨a1,a2⟩,a3,a4,a5,a6,a7,a8,a9,a0⟩:=a;obtain ⟨⟨b1,b2⟩,b3,b4,b5,b6,b7,b8,b9,b0⟩:=b;exact pure_of [(9,.p (num (cmpS ⟨a1,a2⟩ ⟨b1,b2⟩)))] [] (pf1 h) (x:=num (cmpS ⟨a1,a2⟩ ⟨b1,b2⟩)) (bx:=[]) (by kernel_rfl) rfl
section
variable (n a b i j:Nat) (rows:qaV)
def isH:St:=⟨[(0,.bs 0 0 n),(1,nat a),(2,nat b),(3,.fn 110 []),(8,nat i),(9,nat j)],[.row 10 rows]⟩
def isX:St:=⟨[(0,.bs 0 0 n),(1,nat a),(2,nat b),(3,.fn 110 []),(8,nat i),(9,nat j),(34,boolX false)],[.row 10 rows]⟩
theorem isH_canon:canon 1 (isH n a b i j rows)=some (isH n a b i j rows):=by kernel_rfl
theorem i_zero (h:¬Int.ofNat j>Int.ofNat a)(N:Nat):run (callF tab ext N) 1 N (loopAt 236 1) (isH n a b i j rows)=some (.exit 2,isX n a b i j rows):=
 run_of [(20,.b false)] [] (pf1 (decide_eq_false h)) (lo':=[]) (by kernel_rfl)
end
theorem i_step (n a b i j:Nat)(L:List Msg)(hn:n=L.length)(h100:L.length<=100)(ha:a<j+1)(hj:j+1<L.length)(hok:∀m,m∈L->m.st.p.length<=60000)(N:Nat)(hN:60200<=N):
  (ltS (key L[j+1]) (key (L[j]'(by omega)))=false->run (callF tab ext N) 1 N (loopAt 236 1) (isH n a b i (j+1) (msgsC L))=some (.exit 2,isX n a b i (j+1) (msgsC L)))/\
  (ltS (key L[j+1]) (key (L[j]'(by omega)))=true->run (callF tab ext N) 1 N (loopAt 236 1) (isH n a b i (j+1) (msgsC L))=some (.norm,isH n a b i j (msgsC ((L.set (j+1) (L[j]'(by omega))).set j L[j+1])))):=by
 obtain ⟨M,rfl⟩:∃M,N=M+20:=⟨N-20,by omega⟩;have hlen:=msgsC_length L;have ga:=msgsC_get hj;have gb:=msgsC_get (show j<L.length by omega);have h1:decide (Int.ofNat (j+1)>Int.ofNat a)=true:=decide_eq_true (by simp only [qam];omega);have h2:(Int.ofNat (j+1)).toNat<n:=by simp;omega
 have h3:(Int.ofNat j).toNat<n:=by simp;omega
 have hw:IntKind.i64.wrap (Int.ofNat (j+1)-1)=Int.ofNat j:=by rw [IntKind.wrap_i64];simp only [qam];omega
 have hc:=cmpM L[j+1] (L[j]'(by omega)) (hok _ (qal hj)) (M+20) (by omega);have e2:msgsC ((L.set (j+1) (L[j]'(by omega))).set j L[j+1])=((msgsC L).set (0+(j+1)) (L[j]'(by omega)).cells).set (0+j) L[j+1].cells:=by simp [msgsC,List.map_set]
 rw [e2];generalize L[j+1]=x at*;generalize (L[j]'(by omega))=y at*;have ga':(msgsC L)[0+(Int.ofNat (j+1)).toNat]?=some x.cells:=by rw [Nat.zero_add];exact ga
 have gb':(msgsC L)[0+(Int.ofNat j).toNat]?=some y.cells:=by rw [Nat.zero_add];exact gb
 have gs:((msgsC L).set (0+(Int.ofNat (j+1)).toNat) y.cells)[0+(Int.ofNat j).toNat]?=some y.cells:=by rw [List.getElem?_set_ne (by simp only [qam,Int.toNat_natCast];omega)];exact gb'
 have ho:decide (cmpS x.st y.st<0)=ltS (key x) (key y):=rfl;obtain ⟨⟨a1,a2⟩,a3,a4,a5,a6,a7,a8,a9,a0⟩:=x;obtain ⟨⟨b1,b2⟩,b3,b4,b5,b6,b7,b8,b9,b0⟩:=y;dsimp only at ho hc;rw [<-ho];generalize cmpS ⟨a1,a2⟩ ⟨b1,b2⟩=r at hc;constructor
 ·intro h7;exact run_of [(20,.b true),(25,.at),(26,.ld (Msg.mk ⟨a1,a2⟩ a3 a4 (.mk a5 a6 a7 a8 a9 a0)).cells),(29,.i (Int.ofNat j)),(30,.at),(31,.ld (Msg.mk ⟨b1,b2⟩ b3 b4 (.mk b5 b6 b7 b8 b9 b0)).cells),(32,.p (num r)),(33,.b false)] []
   (pf8 h1 h2 ga' hw h3 gb' hc h7) (lo':=[]) (by kernel_rfl)
 intro h7;exact run_of [(20,.b true),(25,.at),(26,.ld (Msg.mk ⟨a1,a2⟩ a3 a4 (.mk a5 a6 a7 a8 a9 a0)).cells),(29,.i (Int.ofNat j)),(30,.at),(31,.ld (Msg.mk ⟨b1,b2⟩ b3 b4 (.mk b5 b6 b7 b8 b9 b0)).cells),(32,.p (num r)),(33,.b true),(41,.i (Int.ofNat j)),(44,.i (Int.ofNat j)),(45,.at),(46,.ld (Msg.mk ⟨b1,b2⟩ b3 b4 (.mk b5 b6 b7 b8 b9 b0)).cells),(49,.at),(50,.ld (Msg.mk ⟨a1,a2⟩ a3 a4 (.mk a5 a6 a7 a8 a9 a0)).cells),(51,.at),(1000051,.st (Msg.mk ⟨a1,a2⟩ a3 a4 (.mk a5 a6 a7 a8 a9 a0)).cells),(52,.at),(1000052,.st (Msg.mk ⟨b1,b2⟩ b3 b4 (.mk b5 b6 b7 b8 b9 b0)).cells),(36,.i (Int.ofNat j))] []
  (pfI h1 h2 ga' hw h3 (pf14 gb' hc h7 hw hw h3 gb' h2 ga' h2 ga' h3 gs hw)) (lo':=[]) (by kernel_rfl)
theorem i_loop (n b i:Nat)(N:Nat)(hN:60200<=N)(P:List Msg)(y:Msg):∀(k:Nat) (S Q:List Msg) (F:Nat) (τ:St),S.length=k->n=(P++S++y::Q).length->n<=100->(∀m,m∈P++S++y::Q->m.st.p.length<=60000)->Srt key ltS S->k<F->canon 1 τ=some (isH n P.length b i (P.length+k) (msgsC (P++S++y::Q)))->
  ∃X1 X2 j',S=X1++X2/\(∀x,x∈X1->ltS (key y) (key x)=false)/\(∀x,x∈X2->ltS (key y) (key x)=true)/\iter 1 (run (callF tab ext N) 1 N (loopAt 236 1)) F τ=some (.exit 2,isX n P.length b i j' (msgsC (P++(X1++y::X2)++Q)))
 |0,S,Q,F,τ,hk,hn,h100,hok,hs,hF,hτ=>by
  obtain ⟨F,rfl⟩:∃G,F=G+1:=⟨F-1,by omega⟩;have:S=[]:=List.length_eq_zero_iff.1 hk;subst this;refine ⟨[],[],P.length,rfl,by simp,by simp,?_⟩;have e:P++([]++y::[])++Q=P++[]++y::Q:=by simp
  rw [e];exact iter_end hτ (i_zero _ _ _ _ _ _ (by simp) N) (by simp)
 |k+1,S,Q,F,τ,hk,hn,h100,hok,hs,hF,hτ=>by
  obtain ⟨F,rfl⟩:∃G,F=G+1:=⟨F-1,by omega⟩;obtain ⟨T,x,rfl⟩:∃T x,S=T++[x]:=⟨S.dropLast,S.getLast (by intro h;rw [h] at hk;simp at hk),(List.dropLast_concat_getLast _).symm⟩;have hT:T.length=k:=by simp at hk;omega
  have pS:=List.pairwise_append.1 hs;have eL:P++(T++[x])++y::Q=(P++T)++x::y::Q:=by simp
  have hl:(P++T).length=P.length+k:=by simp [hT]
  rw [eL] at hτ hn hok;have hj:P.length+k+1<((P++T)++x::y::Q).length:=by simp;omega
  have g1:((P++T)++x::y::Q)[P.length+k+1]=y:=by rw [List.getElem_append_right (by omega)];simp [hT]
  have g2:((P++T)++x::y::Q)[P.length+k]'(by omega)=x:=by rw [List.getElem_append_right (by omega)];simp [hT]
  have st:=i_step n P.length b i (P.length+k) ((P++T)++x::y::Q) hn (by omega) (by omega) hj hok N hN;rw [g1,g2] at st;cases h:ltS (key y) (key x) with
  |false=>
   refine ⟨T++[x],[],P.length+k+1,by simp,?_,by simp,?_⟩
   ·intro z hz;rcases qaB.1 hz with hz|hz;·exact linS.le_trans (pS.2.2 z hz x (by simp)) h
    simp only [qaQ] at hz;subst hz;exact h
   have e:P++(T++[x]++y::[])++Q=(P++T)++x::y::Q:=by simp
   rw [e];exact iter_end hτ (st.1 h) (by simp)
  |true=>
   have e3:(((P++T)++x::y::Q).set (P.length+k+1) x).set (P.length+k) y=P++T++y::(x::Q):=by
    rw [List.set_append_right _ _ (by omega),List.set_append_right _ _ (by omega)];have d1:P.length+k+1-(P++T).length=1:=by omega
    have d2:P.length+k-(P++T).length=0:=by omega
    rw [d1,d2];rfl
   have s2:=st.2 h;rw [e3] at s2;obtain ⟨X1,X2,j',e,h1,h2,hi⟩:=i_loop n b i N hN P y k T (x::Q) F _ hT (by rw [hn];simp) h100 (fun m hm=>hok m (by simp only [qaB,qaz] at hm ⊢;rcases hm with (hm|hm)|hm|hm|hm<;>simp [hm])) pS.1 (by omega) (isH_canon ..);refine ⟨X1,X2++[x],j',by rw [e];simp,h1,?_,?_⟩
   ·intro z hz;rcases qaB.1 hz with hz|hz;·exact h2 z hz
    simp only [qaQ] at hz;subst hz;exact h
   have e4:P++(X1++y::(X2++[x]))++Q=P++(X1++y::X2)++x::Q:=by simp
   rw [e4];exact iter_step hτ s2 hi
section
variable (n a b i:Nat) (rows:qaV)
def oH:St:=⟨[(0,.bs 0 0 n),(1,nat a),(2,nat b),(3,.fn 110 []),(8,nat i)],[.row 10 rows]⟩
def oX:St:=⟨[(0,.bs 0 0 n),(1,nat a),(2,nat b),(3,.fn 110 []),(8,nat i),(14,boolX false)],[.row 10 rows]⟩
theorem oH_canon:canon 1 (oH n a b i rows)=some (oH n a b i rows):=by kernel_rfl
theorem o_end (h:¬i<b)(N:Nat):run (callF tab ext N) 1 N (loopAt 236 0) (oH n a b i rows)=some (.exit 0,oX n a b i rows):=
 run_of [(14,.b false)] [] (pf1 (nlt_nat h)) (lo':=[]) (by kernel_rfl)
end
theorem o_loop (n b:Nat)(N:Nat)(hN:60200<=N)(P Q:List Msg):∀(U S1 R1:List Msg) (F:Nat) (τ:St),Mg key ltS S1 R1->n=(P++R1++(U++Q)).length->n<=100->b=P.length+R1.length+U.length->(∀m,m∈P++R1++(U++Q)->m.st.p.length<=60000)->U.length<F->canon 1 τ=some (oH n P.length b (P.length+R1.length) (msgsC (P++R1++(U++Q))))->
  ∃R,Mg key ltS (S1++U) R/\R.length=R1.length+U.length/\iter 1 (run (callF tab ext N) 1 N (loopAt 236 0)) F τ=some (.exit 0,oX n P.length b b (msgsC (P++R++Q)))
 |[],S1,R1,F,τ,hm,hn,h100,hb,hok,hF,hτ=>by
  obtain ⟨F,rfl⟩:∃G,F=G+1:=⟨F-1,by omega⟩;have hb':b=P.length+R1.length:=by simpa using hb
  subst hb';refine ⟨R1,by simpa using hm,by simp,?_⟩;exact iter_end hτ (o_end _ _ _ _ _ (by omega) N) (by simp)
 |y::U,S1,R1,F,τ,hm,hn,h100,hb,hok,hF,hτ=>by
  obtain ⟨F,rfl⟩:∃G,F=G+1:=⟨F-1,by omega⟩;have hb':b=P.length+R1.length+(U.length+1):=by simpa using hb
  have hn':n=(P++R1++y::(U++Q)).length:=hn;have h100':P.length+R1.length<1000000:=by simp at hn';omega
  obtain ⟨X1,X2,j',e,h1,h2,hi⟩:=i_loop n b (P.length+R1.length) N hN P y R1.length R1 (U++Q) N (isH n P.length b (P.length+R1.length) (P.length+R1.length) (msgsC (P++R1++y::(U++Q)))) rfl hn' h100 hok hm.srt (by simp at hn';omega) (isH_canon ..);have hi:run (callF tab ext N) 1 N (.loop (loopAt 236 1)) (isH n P.length b (P.length+R1.length) (P.length+R1.length) (msgsC (P++R1++y::(U++Q))))=some (.exit 2,isX n P.length b (P.length+R1.length) j' (msgsC (P++(X1++y::X2)++(U++Q)))):=hi;have hs:run (callF tab ext N) 1 N (loopAt 236 0) (oH n P.length b (P.length+R1.length) (msgsC (P++R1++(y::U++Q))))=some (.norm,oH n P.length b (P.length+R1.length+1) (msgsC (P++(X1++y::X2)++(U++Q)))):=
   run_of [(14,.b true),(16,.i (Int.ofNat (P.length+R1.length+1)))] [(.exit 2,isX n P.length b (P.length+R1.length) j' (msgsC (P++(X1++y::X2)++(U++Q))))] (pf3 (lt_nat (j:=P.length+R1.length) (k:=b) (by omega)) hi (next_nat (j:=P.length+R1.length) (by omega))) (lo':=[]) (by kernel_rfl)
  have hm':Mg key ltS (S1++[y]) (X1++y::X2):=Mg.insert linS (e▸hm) h1 h2;have hl:(X1++y::X2).length=R1.length+1:=by rw [e];simp;omega
  have hlen:(P++(X1++y::X2)++(U++Q)).length=(P++R1++y::(U++Q)).length:=by rw [e];simp;omega
  obtain ⟨R,hR,hRl,hit⟩:=o_loop n b N hN P Q U (S1++[y]) (X1++y::X2) F (oH n P.length b (P.length+R1.length+1) (msgsC (P++(X1++y::X2)++(U++Q)))) hm' (by rw [hlen];exact hn') h100 (by rw [hl];omega) (fun m hmm=>hok m (by rw [e];simp only [qaB,qaz] at hmm ⊢;rcases hmm with (hmm|hmm|hmm|hmm)|hmm|hmm<;>simp [hmm])) (by simp at hF;omega) (by rw [hl,<-Nat.add_assoc];exact oH_canon ..);refine ⟨R,by simpa using hR,by rw [hRl,hl];simp;omega,?_⟩;exact iter_step hτ hs hit
theorem ins_sort (P S Q:List Msg)(h100:(P++S++Q).length<=100)(hok:∀m,m∈P++S++Q->m.st.p.length<=60000)(N:Nat)(hN:60201<=N):
  ∃R,Mg key ltS S R/\R.length=S.length/\callF tab ext N (.fn 236) [.bs 0 0 (P++S++Q).length,nat P.length,nat (P.length+S.length),.fn 110 []] [.row 10 (msgsC (P++S++Q))]=some (.tup [],[.row 10 (msgsC (P++R++Q))]):=by
 obtain ⟨M,rfl⟩:∃M,N=M+1:=⟨N-1,by omega⟩;have hlt:P.length<1000000:=by simp at h100;omega
 cases S with
 |nil=>
  refine ⟨[],Mg.self (by simp [Srt]),rfl,?_⟩;have h:run (callF tab ext M) 1 M (.loop (loopAt 236 0)) (oH (P++[]++Q).length P.length (P.length+0) (P.length+1) (msgsC (P++[]++Q)))=some (.exit 0,oX (P++[]++Q).length P.length (P.length+0) (P.length+1) (msgsC (P++[]++Q))):=
   loop_for (σ:=fun _=>oH (P++[]++Q).length P.length (P.length+0) (P.length+1) (msgsC (P++[]++Q))) (k:=0) (by kernel_rfl) (fun j hj=>by omega) (o_end _ _ _ _ _ (by omega) M) (by simp) (by omega)
  exact callF_of [(11,.i (Int.ofNat (P.length+1)))] [(.exit 0,oX (P++[]++Q).length P.length (P.length+0) (P.length+1) (msgsC (P++[]++Q)))] (pf2 (next_nat (j:=P.length) (by omega)) h) (by kernel_rfl)
 |cons y U=>
  have e:P++y::U++Q=P++[y]++(U++Q):=by simp
  rw [e] at h100 hok ⊢;obtain ⟨R,hR,hl,hit⟩:=o_loop (P++[y]++(U++Q)).length (P.length+(U.length+1)) M (by omega) P Q U [y] [y] M (oH (P++[y]++(U++Q)).length P.length (P.length+(U.length+1)) (P.length+1) (msgsC (P++[y]++(U++Q)))) (Mg.self (by simp [Srt])) rfl h100 (by simp;omega) hok (by simp at h100;omega) (oH_canon ..);have hit:run (callF tab ext M) 1 M (.loop (loopAt 236 0)) (oH (P++[y]++(U++Q)).length P.length (P.length+(U.length+1)) (P.length+1) (msgsC (P++[y]++(U++Q))))=some (.exit 0,oX (P++[y]++(U++Q)).length P.length (P.length+(U.length+1)) (P.length+(U.length+1)) (msgsC (P++R++Q))):=hit;refine ⟨R,hR,by simp at hl ⊢;omega,?_⟩;exact callF_of [(11,.i (Int.ofNat (P.length+1)))] [(.exit 0,oX (P++[y]++(U++Q)).length P.length (P.length+(U.length+1)) (P.length+(U.length+1)) (msgsC (P++R++Q)))] (pf2 (next_nat (j:=P.length) (by omega)) hit) (by kernel_rfl)
section
variable (n a b k i:Nat) (rows:qaV)
def wH:St:=⟨[(0,.bs 0 0 n),(1,nat a),(2,nat b),(3,nat k),(10,nat i)],[.row 10 rows]⟩
def wX:St:=⟨[(0,.bs 0 0 n),(1,nat a),(2,nat b),(3,nat k),(10,nat i),(13,boolX false)],[.row 10 rows]⟩
theorem wH_canon:canon 1 (wH n a b k i rows)=some (wH n a b k i rows):=by kernel_rfl
theorem w_end (N:Nat):run (callF tab ext N) 1 N (loopAt 382 0) (wH n a b k k rows)=some (.exit 0,wX n a b k k rows):=
 run_of [(13,.b false)] [] (pf1 (nlt_nat (qar k))) (lo':=[]) (by kernel_rfl)
end
theorem add_nat (a i:Nat)(h:a+i<1000000):IntKind.i64.wrap (Int.ofNat a+Int.ofNat i)=Int.ofNat (a+i):=by rw [IntKind.wrap_i64];simp only [qam];omega
theorem w_step (n a b k i:Nat)(L:List Msg)(x y:Msg)(hn:n=L.length)(h100:L.length<=100)(hi:i<k)(hab:a<b)(hb:b+i<L.length)(gx:L[a+i]?=some x)(gy:L[b+i]?=some y)(N:Nat):
  run (callF tab ext N) 1 N (loopAt 382 0) (wH n a b k i (msgsC L))=some (.norm,wH n a b k (i+1) (msgsC ((L.set (a+i) y).set (b+i) x))):=by
 have h1:=lt_nat hi;have ha:=add_nat a i (by omega);have hbb:=add_nat b i (by omega);have h2:(Int.ofNat (a+i)).toNat<n:=by simp;omega
 have h3:(Int.ofNat (b+i)).toNat<n:=by simp;omega
 have hw:=next_nat (j:=i) (by omega);have ga':(msgsC L)[0+(Int.ofNat (a+i)).toNat]?=some x.cells:=by rw [Nat.zero_add];show (L.map Msg.cells)[a+i]?=_;rw [qat,gx];rfl
 have gb':(msgsC L)[0+(Int.ofNat (b+i)).toNat]?=some y.cells:=by rw [Nat.zero_add];show (L.map Msg.cells)[b+i]?=_;rw [qat,gy];rfl
 have gs:((msgsC L).set (0+(Int.ofNat (a+i)).toNat) y.cells)[0+(Int.ofNat (b+i)).toNat]?=some y.cells:=by rw [List.getElem?_set_ne (by simp only [qam,Int.toNat_natCast];omega)];exact gb'
 have e2:msgsC ((L.set (a+i) y).set (b+i) x)=((msgsC L).set (0+(a+i)) y.cells).set (0+(b+i)) x.cells:=by simp [msgsC,List.map_set]
 rw [e2];obtain ⟨⟨a1,a2⟩,a3,a4,a5,a6,a7,a8,a9,a0⟩:=x;obtain ⟨⟨b1,b2⟩,b3,b4,b5,b6,b7,b8,b9,b0⟩:=y;exact run_of [(13,.b true),(19,.i (Int.ofNat (a+i))),(23,.i (Int.ofNat (b+i))),(27,.i (Int.ofNat (b+i))),(28,.at),(29,.ld (Msg.mk ⟨b1,b2⟩ b3 b4 (.mk b5 b6 b7 b8 b9 b0)).cells),(33,.i (Int.ofNat (a+i))),(34,.at),(35,.ld (Msg.mk ⟨a1,a2⟩ a3 a4 (.mk a5 a6 a7 a8 a9 a0)).cells),(36,.at),(1000036,.st (Msg.mk ⟨a1,a2⟩ a3 a4 (.mk a5 a6 a7 a8 a9 a0)).cells),(37,.at),(1000037,.st (Msg.mk ⟨b1,b2⟩ b3 b4 (.mk b5 b6 b7 b8 b9 b0)).cells),(15,.i (Int.ofNat (i+1)))] []
  (pf14 h1 ha hbb hbb h3 gb' ha h2 ga' h2 ga' h3 gs hw) (lo':=[]) (by kernel_rfl)
theorem w_loop (n a b k:Nat)(N:Nat)(P M Q:List Msg)(hp:P.length=a):∀(A B Bd Ad:List Msg) (F:Nat) (τ:St),A.length=B.length->Bd.length=Ad.length->b=P.length+Bd.length+A.length+M.length->k=Bd.length+A.length->n=(P++Bd++A++M++Ad++B++Q).length->n<=100->A.length<F->canon 1 τ=some (wH n a b k Bd.length (msgsC (P++Bd++A++M++Ad++B++Q)))->
  iter 1 (run (callF tab ext N) 1 N (loopAt 382 0)) F τ=some (.exit 0,wX n a b k k (msgsC (P++(Bd++B)++M++(Ad++A)++Q)))
 |[],B,Bd,Ad,F,τ,hl,hd,hb,hk,hn,h100,hF,hτ=>by
  obtain ⟨F,rfl⟩:∃G,F=G+1:=⟨F-1,by omega⟩;have:B=[]:=List.length_eq_zero_iff.1 hl.symm;subst this;have e:Bd.length=k:=by simpa using hk.symm
  rw [e] at hτ;have e2:P++(Bd++[])++M++(Ad++[])++Q=P++Bd++[]++M++Ad++[]++Q:=by simp
  rw [e2];exact iter_end hτ (w_end _ _ _ _ _ N) (by simp)
 |x::A,[],Bd,Ad,F,τ,hl,hd,hb,hk,hn,h100,hF,hτ=>by simp at hl
 |x::A,y::B,Bd,Ad,F,τ,hl,hd,hb,hk,hn,h100,hF,hτ=>by
  obtain ⟨F,rfl⟩:∃G,F=G+1:=⟨F-1,by omega⟩;subst hp;have hA:(P++Bd).length=P.length+Bd.length:=by simp
  have hB:(P++Bd++x::A++M++Ad).length=b+Bd.length:=by simp at hb ⊢;omega
  have gx:(P++Bd++x::A++M++Ad++y::B++Q)[P.length+Bd.length]?=some x:=by
   have e:P++Bd++x::A++M++Ad++y::B++Q=(P++Bd)++x::(A++M++Ad++y::B++Q):=by simp
   rw [e,qan (by omega),hA,Nat.sub_self];rfl
  have gy:(P++Bd++x::A++M++Ad++y::B++Q)[b+Bd.length]?=some y:=by
   have e:P++Bd++x::A++M++Ad++y::B++Q=(P++Bd++x::A++M++Ad)++y::(B++Q):=by simp
   rw [e,qan (by omega),hB,Nat.sub_self];rfl
  have e3:((P++Bd++x::A++M++Ad++y::B++Q).set (P.length+Bd.length) y).set (b+Bd.length) x=P++(Bd++[y])++A++M++(Ad++[x])++B++Q:=by
   have e:P++Bd++x::A++M++Ad++y::B++Q=(P++Bd)++x::(A++M++Ad++y::B++Q):=by simp
   rw [e,List.set_append_right _ _ (by omega),hA,Nat.sub_self,List.set_cons_zero];have e':(P++Bd)++y::(A++M++Ad++y::B++Q)=(P++Bd++y::A++M++Ad)++y::(B++Q):=by simp
   have hB':(P++Bd++y::A++M++Ad).length=b+Bd.length:=by simp at hB ⊢;omega
   rw [e',List.set_append_right _ _ (by omega),hB',Nat.sub_self,List.set_cons_zero];simp
  have hs:=w_step n P.length b k Bd.length _ x y hn (by omega) (by simp at hk;omega) (by simp at hb;omega) (by simp at hb ⊢;omega) gx gy N;rw [e3] at hs;have ih:=w_loop n P.length b k N P M Q rfl A B (Bd++[y]) (Ad++[x]) F (wH n P.length b k (Bd.length+1) (msgsC (P++(Bd++[y])++A++M++(Ad++[x])++B++Q))) (by simpa using hl) (by simp [hd]) (by simp at hb ⊢;omega) (by simp at hk ⊢;omega) (by simp at hn ⊢;omega) h100 (by simp at hF;omega) (by simp only [qae,qaI,qaS];exact wH_canon ..);have e5:P++(Bd++y::B)++M++(Ad++x::A)++Q=P++(Bd++[y]++B)++M++(Ad++[x]++A)++Q:=by simp
  rw [e5];exact iter_step hτ hs ih
theorem swap_range (P A M B Q:List Msg)(hl:A.length=B.length)(h100:(P++A++M++B++Q).length<=100)(N:Nat)(hN:201<=N):
  callF tab ext N (.fn 382) [.bs 0 0 (P++A++M++B++Q).length,nat P.length,nat (P.length+A.length+M.length),nat A.length,.fn 110 []] [.row 10 (msgsC (P++A++M++B++Q))]=some (.tup [],[.row 10 (msgsC (P++B++M++A++Q))]):=by
 obtain ⟨K,rfl⟩:∃M,N=M+1:=⟨N-1,by omega⟩;have h:run (callF tab ext K) 1 K (.loop (loopAt 382 0)) (wH (P++A++M++B++Q).length P.length (P.length+A.length+M.length) A.length 0 (msgsC (P++A++M++B++Q)))=some (.exit 0,wX (P++A++M++B++Q).length P.length (P.length+A.length+M.length) A.length A.length (msgsC (P++B++M++A++Q))):=by have:=w_loop (P++A++M++B++Q).length P.length (P.length+A.length+M.length) A.length K P M Q rfl A B [] [] K (wH (P++A++M++B++Q).length P.length (P.length+A.length+M.length) A.length 0 (msgsC (P++A++M++B++Q))) hl rfl (by simp) (by simp) (by simp) h100 (by simp at h100;omega) (by simp only [List.append_nil];exact wH_canon ..);simp only [qaK] at this;exact this
 exact callF_of [] [(.exit 0,wX (P++A++M++B++Q).length P.length (P.length+A.length+M.length) A.length A.length (msgsC (P++B++M++A++Q)))] (pf1 h) (by kernel_rfl)
section
variable (n a m b i j:Nat) (rows:qaV)
def rH:St:=⟨[(0,.bs 0 0 n),(2,nat m),(4,.fn 110 []),(10,nat i),(11,nat j)],[.row 10 rows]⟩
def rX:St:=⟨[(0,.bs 0 0 n),(2,nat m),(4,.fn 110 []),(10,nat i),(11,nat j),(20,boolX false)],[.row 10 rows]⟩
theorem rH_canon:canon 1 (rH n m i j rows)=some (rH n m i j rows):=by kernel_rfl
end
theorem sub_eq {a i c:Nat}(h:i+c=a)(h2:a<1000000):IntKind.i64.wrap (Int.ofNat a-Int.ofNat i)=Int.ofNat c:=by rw [IntKind.wrap_i64];simp only [qam];omega
theorem r_end (n m i:Nat)(rows:qaV)(N:Nat):run (callF tab ext N) 1 N (loopAt 315 0) (rH n m i i rows)=some (.exit 0,rX n m i i rows):=
 run_of [(20,.b false)] [] (pf1 (show (!(Int.ofNat i==Int.ofNat i))=false by simp)) (lo':=[]) (by kernel_rfl)
theorem r_loop (N:Nat)(hN:300<=N):∀(k:Nat) (P A B Q:List Msg) (n m F:Nat) (τ:St),A.length+B.length<=k->A≠[]->B≠[]->m=P.length+A.length->n=(P++A++B++Q).length->n<=100->k<F->canon 1 τ=some (rH n m A.length B.length (msgsC (P++A++B++Q)))->
  ∃P' A' B' Q' i,A'.length=i/\B'.length=i/\m=P'.length+i/\n=(P'++A'++B'++Q').length/\P'++B'++A'++Q'=P++B++A++Q/\iter 1 (run (callF tab ext N) 1 N (loopAt 315 0)) F τ=some (.exit 0,rX n m i i (msgsC (P'++A'++B'++Q')))
 |0,P,A,B,Q,n,m,F,τ,hk,hA,hB,hm,hn,h100,hF,hτ=>by
  cases A with
  |nil=>exact absurd rfl hA
  |cons a A=>simp at hk
 |k+1,P,A,B,Q,n,m,F,τ,hk,hA,hB,hm,hn,h100,hF,hτ=>by
  obtain ⟨F,rfl⟩:∃G,F=G+1:=⟨F-1,by omega⟩;have lA:0<A.length:=List.length_pos_iff.2 hA;have lB:0<B.length:=List.length_pos_iff.2 hB;have hn':n=P.length+A.length+B.length+Q.length:=by rw [hn];simp;omega
  rcases Nat.lt_trichotomy A.length B.length with h|h|h
  ·
   obtain ⟨B1,B2,rfl,l2⟩:∃B1 B2,B=B1++B2/\B2.length=A.length:=⟨B.take (B.length-A.length),B.drop (B.length-A.length),(List.take_append_drop _ _).symm,by rw [qaj];omega⟩;have l1:0<B1.length:=by simp at h;omega
   have hsw:=swap_range P A B1 B2 Q l2.symm (by have:=hn';simp at this ⊢;omega) N (by omega);have el:P++A++(B1++B2)++Q=P++A++B1++B2++Q:=by simp
   rw [el] at hτ hn;rw [<-hn] at hsw;have hs:run (callF tab ext N) 1 N (loopAt 315 0) (rH n m A.length (B1++B2).length (msgsC (P++A++B1++B2++Q)))=some (.norm,rH n m A.length B1.length (msgsC (P++B2++B1++A++Q))):=by have c1:(!(Int.ofNat A.length==Int.ofNat (B1++B2).length))=true:=nat_ne_true (by omega);have c2:decide (Int.ofNat A.length>Int.ofNat (B1++B2).length)=false:=decide_eq_false (by simp only [qam];omega);have c3:IntKind.i64.wrap (Int.ofNat m-Int.ofNat A.length)=Int.ofNat P.length:=sub_eq (by omega) (by omega);have c4:IntKind.i64.wrap (Int.ofNat m+Int.ofNat (B1++B2).length)=Int.ofNat (m+(B1++B2).length):=add_nat _ _ (by omega);have c5:IntKind.i64.wrap (Int.ofNat (m+(B1++B2).length)-Int.ofNat A.length)=Int.ofNat (P.length+A.length+B1.length):=sub_eq (by simp;omega) (by omega);have c6:IntKind.i64.wrap (Int.ofNat (B1++B2).length-Int.ofNat A.length)=Int.ofNat B1.length:=sub_eq (by simp;omega) (by omega);generalize msgsC (P++A++B1++B2++Q)=R0 at hsw;generalize msgsC (P++B2++B1++A++Q)=R1 at hsw;generalize (B1++B2).length=lb at*;have h9:=pf7 c1 c2 c3 c4 c5 hsw c6;exact run_of [(20,.b true),(23,.b false),(38,.i (Int.ofNat P.length)),(41,.i (Int.ofNat (m+lb))),(43,.i (Int.ofNat (P.length+A.length+B1.length))),(46,.r (.tup []) [.row 10 R1]),(49,.i (Int.ofNat B1.length))] [] h9 (lo':=[]) (by kernel_rfl)
   have e3:P++B2++B1++A++Q=P++B2++B1++(A++Q):=by simp
   rw [e3] at hs;rw [<-l2] at hs;obtain ⟨P',A',B',Q',i,g1,g2,g3,g4,g5,g6⟩:=r_loop N hN k P B2 B1 (A++Q) n m F (rH n m B2.length B1.length (msgsC (P++B2++B1++(A++Q)))) (by simp at hk;omega) (by intro e;rw [e] at l2;simp at l2;omega) (by intro e;rw [e] at l1;simp at l1) (by omega) (by simp at hn' ⊢;omega) h100 (by omega) (rH_canon ..);rw [<-l2] at hτ;exact ⟨P',A',B',Q',i,g1,g2,g3,g4,by rw [g5];simp,iter_step hτ hs g6⟩
  ·refine ⟨P,A,B,Q,A.length,rfl,h.symm,hm,hn,rfl,?_⟩;rw [<-h] at hτ;exact iter_end hτ (r_end ..) (by simp)
  ·
   obtain ⟨A1,A2,rfl,l1⟩:∃A1 A2,A=A1++A2/\A1.length=B.length:=⟨A.take B.length,A.drop B.length,(List.take_append_drop _ _).symm,by rw [qac];omega⟩;have l2:0<A2.length:=by simp at h;omega
   have hsw:=swap_range P A1 A2 B Q l1 (by have:=hn';simp at this ⊢;omega) N (by omega);have el:P++(A1++A2)++B++Q=P++A1++A2++B++Q:=by simp
   rw [el] at hτ hn;rw [<-hn] at hsw;have hm':m=P.length+A1.length+A2.length:=by rw [hm];simp;omega
   rw [<-hm',l1] at hsw;have hs:run (callF tab ext N) 1 N (loopAt 315 0) (rH n m (A1++A2).length B.length (msgsC (P++A1++A2++B++Q)))=some (.norm,rH n m A2.length B.length (msgsC (P++B++A2++A1++Q))):=by have c1:(!(Int.ofNat (A1++A2).length==Int.ofNat B.length))=true:=nat_ne_true (by omega);have c2:decide (Int.ofNat (A1++A2).length>Int.ofNat B.length)=true:=decide_eq_true (by simp only [qam];omega);have c3:IntKind.i64.wrap (Int.ofNat m-Int.ofNat (A1++A2).length)=Int.ofNat P.length:=sub_eq (by omega) (by omega);have c6:IntKind.i64.wrap (Int.ofNat (A1++A2).length-Int.ofNat B.length)=Int.ofNat A2.length:=sub_eq (by simp;omega) (by omega);generalize msgsC (P++A1++A2++B++Q)=R0 at hsw;generalize msgsC (P++B++A2++A1++Q)=R1 at hsw;generalize (A1++A2).length=la at*;have h9:=pf5 c1 c2 c3 hsw c6;exact run_of [(20,.b true),(23,.b true),(27,.i (Int.ofNat P.length)),(31,.r (.tup []) [.row 10 R1]),(34,.i (Int.ofNat A2.length))] [] h9 (lo':=[]) (by kernel_rfl)
   have e3:P++B++A2++A1++Q=(P++B)++A2++A1++Q:=rfl;rw [e3,<-l1] at hs;obtain ⟨P',A',B',Q',i,g1,g2,g3,g4,g5,g6⟩:=r_loop N hN k (P++B) A2 A1 Q n m F (rH n m A2.length A1.length (msgsC ((P++B)++A2++A1++Q))) (by simp at hk;omega) (by intro e;rw [e] at l2;simp at l2) (by intro e;rw [e] at l1;simp at l1;omega) (by simp;omega) (by simp at hn' ⊢;omega) h100 (by omega) (rH_canon ..);rw [<-l1] at hτ;exact ⟨P',A',B',Q',i,g1,g2,g3,g4,by rw [g5];simp,iter_step hτ hs g6⟩
theorem rotate (P A B Q:List Msg)(hA:A≠[])(hB:B≠[])(h100:(P++A++B++Q).length<=100)(N:Nat)(hN:301<=N):
  callF tab ext N (.fn 315) [.bs 0 0 (P++A++B++Q).length,nat P.length,nat (P.length+A.length),nat (P.length+A.length+B.length),.fn 110 []] [.row 10 (msgsC (P++A++B++Q))]=some (.tup [],[.row 10 (msgsC (P++B++A++Q))]):=by
 obtain ⟨M,rfl⟩:∃M,N=M+1:=⟨N-1,by omega⟩;have hh:P.length+A.length+B.length<=100:=by simp at h100;omega
 obtain ⟨P',A',B',Q',i,g1,g2,g3,g4,g5,g6⟩:=r_loop M (by omega) (A.length+B.length) P A B Q _ _ M (rH (P++A++B++Q).length (P.length+A.length) A.length B.length (msgsC (P++A++B++Q))) (Nat.le_refl _) hA hB rfl rfl h100 (by omega) (rH_canon ..);have g6:run (callF tab ext M) 1 M (.loop (loopAt 315 0)) (rH (P++A++B++Q).length (P.length+A.length) A.length B.length (msgsC (P++A++B++Q)))=some (.exit 0,rX (P++A++B++Q).length (P.length+A.length) i i (msgsC (P'++A'++B'++Q'))):=g6;have e0:P'++A'++[]++B'++Q'=P'++A'++B'++Q':=by simp
 have e1:P'++B'++[]++A'++Q'=P++B++A++Q:=by simpa using g5
 have hsw:=swap_range P' A' [] B' Q' (by omega) (by rw [e0,<-g4];exact h100) M (by omega);rw [e0,e1,<-g4,g1] at hsw;have e2:P'.length+i+([]:List Msg).length=P.length+A.length:=by simp;omega
 rw [e2] at hsw;have c1:IntKind.i64.wrap (Int.ofNat (P.length+A.length)-Int.ofNat P.length)=Int.ofNat A.length:=sub_eq (by omega) (by omega);have c2:IntKind.i64.wrap (Int.ofNat (P.length+A.length+B.length)-Int.ofNat (P.length+A.length))=Int.ofNat B.length:=sub_eq (by omega) (by omega);have c3:IntKind.i64.wrap (Int.ofNat (P.length+A.length)-Int.ofNat i)=Int.ofNat P'.length:=sub_eq (by omega) (by omega);generalize msgsC (P'++A'++B'++Q')=R0 at*;generalize msgsC (P++B++A++Q)=R1 at*;generalize msgsC (P++A++B++Q)=R2 at*;have h9:=pf5 c1 c2 g6 c3 hsw;exact callF_of [(14,.i (Int.ofNat A.length)),(17,.i (Int.ofNat B.length)),(53,.i (Int.ofNat P'.length)),(57,.r (.tup []) [.row 10 R1])] [(.exit 0,rX (P++A++B++Q).length (P.length+A.length) i i R0)] h9 (by kernel_rfl)
section
variable (n a m b lo hi k p q mid:Nat) (rows:qaV)
def y0H:St:=⟨[(0,.bs 0 0 n),(1,nat a),(4,.fn 110 []),(10,nat lo),(11,nat hi)],[.row 10 rows]⟩
def y0X:St:=⟨[(0,.bs 0 0 n),(1,nat a),(4,.fn 110 []),(10,nat lo),(11,nat hi),(33,boolX false)],[.row 10 rows]⟩
theorem y0_canon:canon 1 (y0H n a lo hi rows)=some (y0H n a lo hi rows):=by kernel_rfl
theorem y0_end (h:¬lo<hi)(N:Nat):run (callF tab ext N) 1 N (loopAt 237 0) (y0H n a lo hi rows)=some (.exit 0,y0X n a lo hi rows):=
 run_of [(33,.b false)] [] (pf1 (nlt_nat h)) (lo':=[]) (by kernel_rfl)
def y2H:St:=⟨[(0,.bs 0 0 n),(2,nat m),(4,.fn 110 []),(14,nat lo),(15,nat hi)],[.row 10 rows]⟩
def y2X:St:=⟨[(0,.bs 0 0 n),(2,nat m),(4,.fn 110 []),(14,nat lo),(15,nat hi),(85,boolX false)],[.row 10 rows]⟩
theorem y2_canon:canon 1 (y2H n m lo hi rows)=some (y2H n m lo hi rows):=by kernel_rfl
theorem y2_end (h:¬lo<hi)(N:Nat):run (callF tab ext N) 1 N (loopAt 237 2) (y2H n m lo hi rows)=some (.exit 4,y2X n m lo hi rows):=
 run_of [(85,.b false)] [] (pf1 (nlt_nat h)) (lo':=[]) (by kernel_rfl)
end
theorem get_row {i:Nat}(h:L[i]?=some x):(msgsC L)[0+(Int.ofNat i).toNat]?=some x.cells:=by rw [Nat.zero_add];show (L.map Msg.cells)[i]?=_;rw [qat,h];rfl
theorem y0_step (n a lo hi:Nat)(L:List Msg)(x y:Msg)(hn:n=L.length)(h100:L.length<=100)(hlt:lo<hi)(hh:hi<=L.length)(gx:L[a]?=some x)(gy:L[(lo+hi) /2]?=some y)(hy:y.st.p.length<=60000)(N:Nat)(hN:60200<=N):
  (ltS (key y) (key x)=true->run (callF tab ext N) 1 N (loopAt 237 0) (y0H n a lo hi (msgsC L))=some (.norm,y0H n a ((lo+hi) /2+1) hi (msgsC L)))/\
  (ltS (key y) (key x)=false->run (callF tab ext N) 1 N (loopAt 237 0) (y0H n a lo hi (msgsC L))=some (.norm,y0H n a lo ((lo+hi) /2) (msgsC L))):=by
 have hal:a<L.length:=by rcases Nat.lt_or_ge a L.length with h|h;exact h;rw [qaL h] at gx;cases gx
 have h1:=lt_nat hlt;have h2:=add_nat lo hi (by omega);have h3:=YtonnphbfclaigaaGreatDoor.u64_nat (s:=lo+hi) (by omega);have h4:=YtonnphbfclaigaaGreatDoor.shr_nat (s:=lo+hi);have h5:=YtonnphbfclaigaaGreatDoor.half_nat (s:=lo+hi) (by omega);have h6:(Int.ofNat ((lo+hi) /2)).toNat<n:=by simp;omega
 have h7:=get_row gy;have h8:(Int.ofNat a).toNat<n:=by simp;omega
 have h9:=get_row gx;have hc:=cmpM y x hy N (by omega);have hw:=next_nat (j:=(lo+hi) /2) (by omega);have ho:decide (cmpS y.st x.st<0)=ltS (key y) (key x):=rfl;obtain ⟨⟨a1,a2⟩,a3,a4,a5,a6,a7,a8,a9,a0⟩:=x;obtain ⟨⟨b1,b2⟩,b3,b4,b5,b6,b7,b8,b9,b0⟩:=y;dsimp only at ho hc;rw [<-ho];generalize cmpS ⟨b1,b2⟩ ⟨a1,a2⟩=r at hc;generalize msgsC L=R at*;generalize (lo+hi) /2=h at*;constructor;·intro hr;have hz:=pfI h1 h2 h3 h4 h5 (pf7 h6 h7 h8 h9 hc hr hw);exact run_of [(33,.b true),(36,.i (Int.ofNat (lo+hi))),(37,.i (Int.ofNat (lo+hi))),(38,.i (Int.ofNat h)),(39,.i (Int.ofNat h)),(43,.at),(44,.ld (Msg.mk ⟨b1,b2⟩ b3 b4 (.mk b5 b6 b7 b8 b9 b0)).cells),(47,.at),(48,.ld (Msg.mk ⟨a1,a2⟩ a3 a4 (.mk a5 a6 a7 a8 a9 a0)).cells),(49,.p (num r)),(50,.b true),(52,.i (Int.ofNat (h+1)))] [] hz (lo':=[]) (by kernel_rfl)
 intro hr;have hz:=pfI h1 h2 h3 h4 h5 (pf6 h6 h7 h8 h9 hc hr);exact run_of [(33,.b true),(36,.i (Int.ofNat (lo+hi))),(37,.i (Int.ofNat (lo+hi))),(38,.i (Int.ofNat h)),(39,.i (Int.ofNat h)),(43,.at),(44,.ld (Msg.mk ⟨b1,b2⟩ b3 b4 (.mk b5 b6 b7 b8 b9 b0)).cells),(47,.at),(48,.ld (Msg.mk ⟨a1,a2⟩ a3 a4 (.mk a5 a6 a7 a8 a9 a0)).cells),(49,.p (num r)),(50,.b false)] [] hz (lo':=[]) (by kernel_rfl)
theorem y2_step (n m lo hi:Nat)(L:List Msg)(x y:Msg)(hn:n=L.length)(h100:L.length<=100)(hlt:lo<hi)(hh:hi<=L.length)(gx:L[m]?=some x)(gy:L[(lo+hi) /2]?=some y)(hx:x.st.p.length<=60000)(N:Nat)(hN:60200<=N):
  (ltS (key x) (key y)=false->run (callF tab ext N) 1 N (loopAt 237 2) (y2H n m lo hi (msgsC L))=some (.norm,y2H n m ((lo+hi) /2+1) hi (msgsC L)))/\
  (ltS (key x) (key y)=true->run (callF tab ext N) 1 N (loopAt 237 2) (y2H n m lo hi (msgsC L))=some (.norm,y2H n m lo ((lo+hi) /2) (msgsC L))):=by
 have hal:m<L.length:=by rcases Nat.lt_or_ge m L.length with h|h;exact h;rw [qaL h] at gx;cases gx
 have h1:=lt_nat hlt;have h2:=add_nat lo hi (by omega);have h3:=YtonnphbfclaigaaGreatDoor.u64_nat (s:=lo+hi) (by omega);have h4:=YtonnphbfclaigaaGreatDoor.shr_nat (s:=lo+hi);have h5:=YtonnphbfclaigaaGreatDoor.half_nat (s:=lo+hi) (by omega);have h6:(Int.ofNat ((lo+hi) /2)).toNat<n:=by simp;omega
 have h7:=get_row gy;have h8:(Int.ofNat m).toNat<n:=by simp;omega
 have h9:=get_row gx;have hc:=cmpM x y hx N (by omega);have hw:=next_nat (j:=(lo+hi) /2) (by omega);have ho:decide (cmpS x.st y.st<0)=ltS (key x) (key y):=rfl;obtain ⟨⟨a1,a2⟩,a3,a4,a5,a6,a7,a8,a9,a0⟩:=x;obtain ⟨⟨b1,b2⟩,b3,b4,b5,b6,b7,b8,b9,b0⟩:=y;dsimp only at ho hc;rw [<-ho];generalize cmpS ⟨a1,a2⟩ ⟨b1,b2⟩=r at hc;generalize msgsC L=R at*;generalize (lo+hi) /2=h at*;constructor;·intro hr;have hz:=pfI h1 h2 h3 h4 h5 (pf7 h8 h9 h6 h7 hc hr hw);exact run_of [(85,.b true),(88,.i (Int.ofNat (lo+hi))),(89,.i (Int.ofNat (lo+hi))),(90,.i (Int.ofNat h)),(91,.i (Int.ofNat h)),(95,.at),(96,.ld (Msg.mk ⟨a1,a2⟩ a3 a4 (.mk a5 a6 a7 a8 a9 a0)).cells),(99,.at),(100,.ld (Msg.mk ⟨b1,b2⟩ b3 b4 (.mk b5 b6 b7 b8 b9 b0)).cells),(101,.p (num r)),(102,.b false),(105,.i (Int.ofNat (h+1)))] [] hz (lo':=[]) (by kernel_rfl)
 intro hr;have hz:=pfI h1 h2 h3 h4 h5 (pf6 h8 h9 h6 h7 hc hr);exact run_of [(85,.b true),(88,.i (Int.ofNat (lo+hi))),(89,.i (Int.ofNat (lo+hi))),(90,.i (Int.ofNat h)),(91,.i (Int.ofNat h)),(95,.at),(96,.ld (Msg.mk ⟨a1,a2⟩ a3 a4 (.mk a5 a6 a7 a8 a9 a0)).cells),(99,.at),(100,.ld (Msg.mk ⟨b1,b2⟩ b3 b4 (.mk b5 b6 b7 b8 b9 b0)).cells),(101,.p (num r)),(102,.b true)] [] hz (lo':=[]) (by kernel_rfl)
theorem search_loop {Γ:Gam}{fu:Nat}{b:C}(H X:Nat->Nat->St)(e:Ex)(hne:e≠.norm)(hcan:∀lo hi,canon 1 (H lo hi)=some (H lo hi))(hend:∀r,run Γ 1 fu b (H r r)=some (e,X r r))(A B:Nat)(g:Nat->Bool)
  (hstep:∀lo hi,A<=lo->lo<hi->hi<=B->(g ((lo+hi) /2)=true->run Γ 1 fu b (H lo hi)=some (.norm,H ((lo+hi) /2+1) hi))/\(g ((lo+hi) /2)=false->run Γ 1 fu b (H lo hi)=some (.norm,H lo ((lo+hi) /2)))):
  ∀(d lo hi F:Nat) (τ:St),A<=lo->lo<=hi->hi<=B->hi-lo<=d->d<F->(lo=A\/g (lo-1)=true)->(hi=B\/g hi=false)->canon 1 τ=some (H lo hi)->
  ∃r,A<=r/\r<=B/\(r=A\/g (r-1)=true)/\(r=B\/g r=false)/\iter 1 (run Γ 1 fu b) F τ=some (e,X r r)
 |0,lo,hi,F,τ,h1,h2,h3,hd,hF,hl,hr,hτ=>by
  obtain ⟨F,rfl⟩:∃G,F=G+1:=⟨F-1,by omega⟩;obtain rfl:lo=hi:=by omega
  exact ⟨lo,h1,h3,hl,hr,iter_end hτ (hend lo) hne⟩
 |d+1,lo,hi,F,τ,h1,h2,h3,hd,hF,hl,hr,hτ=>by
  obtain ⟨F,rfl⟩:∃G,F=G+1:=⟨F-1,by omega⟩;rcases Nat.lt_or_ge lo hi with hlt|hge
  ·have hs:=hstep lo hi h1 hlt h3;cases hg:g ((lo+hi) /2) with
   |true=>obtain ⟨r,a1,a2,a3,a4,a5⟩:=search_loop H X e hne hcan hend A B g hstep d ((lo+hi) /2+1) hi F _ (by omega) (by omega) h3 (by omega) (by omega) (.inr (by rw [Nat.add_sub_cancel];exact hg)) hr (hcan _ _);exact ⟨r,a1,a2,a3,a4,iter_step hτ (hs.1 hg) a5⟩
   |false=>obtain ⟨r,a1,a2,a3,a4,a5⟩:=search_loop H X e hne hcan hend A B g hstep d lo ((lo+hi) /2) F _ h1 (by omega) (by omega) (by omega) (by omega) hl (.inr hg) (hcan _ _);exact ⟨r,a1,a2,a3,a4,iter_step hτ (hs.2 hg) a5⟩
  obtain rfl:lo=hi:=by omega
  exact ⟨lo,h1,h3,hl,hr,iter_end hτ (hend lo) hne⟩
section
variable (n i k:Nat) (rows:qaV)
def y1H:St:=⟨[(0,.bs 0 0 n),(10,nat i),(13,nat k)],[.row 10 rows]⟩
def y1X:St:=⟨[(0,.bs 0 0 n),(10,nat i),(13,nat k),(58,boolX false)],[.row 10 rows]⟩
theorem y1_canon:canon 1 (y1H n i k rows)=some (y1H n i k rows):=by kernel_rfl
theorem pred_nat {i:Nat}(h:0<i)(h2:i<1000000):IntKind.i64.wrap (Int.ofNat i-1)=Int.ofNat (i-1):=by rw [IntKind.wrap_i64];simp only [qam];omega
theorem y1_end (h0:0<i)(h2:i<1000000)(h:¬k<i-1)(N:Nat):run (callF tab ext N) 1 N (loopAt 237 1) (y1H n i k rows)=some (.exit 2,y1X n i k rows):=
 run_of [(57,.i (Int.ofNat (i-1))),(58,.b false)] [] (pf2 (pred_nat h0 h2) (nlt_nat h)) (lo':=[]) (by kernel_rfl)
def y3H:St:=⟨[(0,.bs 0 0 n),(14,nat i),(17,nat k)],[.row 10 rows]⟩
def y3X:St:=⟨[(0,.bs 0 0 n),(14,nat i),(17,nat k),(110,boolX false)],[.row 10 rows]⟩
theorem y3_canon:canon 1 (y3H n i k rows)=some (y3H n i k rows):=by kernel_rfl
theorem y3_end (h:¬Int.ofNat k>Int.ofNat i)(N:Nat):run (callF tab ext N) 1 N (loopAt 237 3) (y3H n i k rows)=some (.exit 6,y3X n i k rows):=
 run_of [(110,.b false)] [] (pf1 (decide_eq_false h)) (lo':=[]) (by kernel_rfl)
end
theorem y1_step (n i k:Nat)(L:List Msg)(x y:Msg)(hn:n=L.length)(h100:L.length<=100)(hi:i<=100)(hk:k<i-1)(hk2:k+1<L.length)(gx:L[k]?=some x)(gy:L[k+1]?=some y)(N:Nat):
  run (callF tab ext N) 1 N (loopAt 237 1) (y1H n i k (msgsC L))=some (.norm,y1H n i (k+1) (msgsC ((L.set k y).set (k+1) x))):=by
 have h0:=pred_nat (i:=i) (by omega) (by omega);have h1:=lt_nat hk;have hw:=next_nat (j:=k) (by omega);have h2:(Int.ofNat k).toNat<n:=by simp;omega
 have h3:(Int.ofNat (k+1)).toNat<n:=by simp;omega
 have ga':=get_row gx;have gb':=get_row gy;have gs:((msgsC L).set (0+(Int.ofNat k).toNat) y.cells)[0+(Int.ofNat (k+1)).toNat]?=some y.cells:=by rw [List.getElem?_set_ne (by simp only [qam,Int.toNat_natCast];omega)];exact gb'
 have e2:msgsC ((L.set k y).set (k+1) x)=((msgsC L).set (0+k) y.cells).set (0+(k+1)) x.cells:=by simp [msgsC,List.map_set]
 rw [e2];obtain ⟨⟨a1,a2⟩,a3,a4,a5,a6,a7,a8,a9,a0⟩:=x;obtain ⟨⟨b1,b2⟩,b3,b4,b5,b6,b7,b8,b9,b0⟩:=y;have h9:=pf13 h0 h1 hw hw h3 gb' h2 ga' h2 ga' h3 gs hw;exact run_of [(57,.i (Int.ofNat (i-1))),(58,.b true),(65,.i (Int.ofNat (k+1))),(68,.i (Int.ofNat (k+1))),(69,.at),(70,.ld (Msg.mk ⟨b1,b2⟩ b3 b4 (.mk b5 b6 b7 b8 b9 b0)).cells),(73,.at),(74,.ld (Msg.mk ⟨a1,a2⟩ a3 a4 (.mk a5 a6 a7 a8 a9 a0)).cells),(75,.at),(1000075,.st (Msg.mk ⟨a1,a2⟩ a3 a4 (.mk a5 a6 a7 a8 a9 a0)).cells),(76,.at),(1000076,.st (Msg.mk ⟨b1,b2⟩ b3 b4 (.mk b5 b6 b7 b8 b9 b0)).cells),(60,.i (Int.ofNat (k+1)))] [] h9 (lo':=[]) (by kernel_rfl)
theorem y1_loop (n i:Nat)(N:Nat)(x:Msg)(Q:List Msg):∀(Y P:List Msg) (F:Nat) (τ:St),n=(P++x::Y++Q).length->n<=100->i=P.length+1+Y.length->Y.length<F->canon 1 τ=some (y1H n i P.length (msgsC (P++x::Y++Q)))->
  ∃k,iter 1 (run (callF tab ext N) 1 N (loopAt 237 1)) F τ=some (.exit 2,y1X n i k (msgsC (P++Y++x::Q)))
 |[],P,F,τ,hn,h100,hi,hF,hτ=>by
  obtain ⟨F,rfl⟩:∃G,F=G+1:=⟨F-1,by omega⟩;have e:P++[]++x::Q=P++[x]++Q:=by simp
  rw [e];exact ⟨P.length,iter_end hτ (y1_end _ _ _ _ (by omega) (by simp at hn hi;omega) (by simp at hi;omega) N) (by simp)⟩
 |y::Y,P,F,τ,hn,h100,hi,hF,hτ=>by
  obtain ⟨F,rfl⟩:∃G,F=G+1:=⟨F-1,by omega⟩;have el:P++x::(y::Y)++Q=P++x::y::(Y++Q):=by simp
  have gx:(P++x::(y::Y)++Q)[P.length]?=some x:=by rw [el,qan (Nat.le_refl _),Nat.sub_self];rfl
  have gy:(P++x::(y::Y)++Q)[P.length+1]?=some y:=by rw [el,qan (by omega),Nat.add_sub_cancel_left];rfl
  have e3:((P++x::(y::Y)++Q).set P.length y).set (P.length+1) x=(P++[y])++x::Y++Q:=by rw [el,List.set_append_right _ _ (Nat.le_refl _),Nat.sub_self,List.set_cons_zero,List.set_append_right _ _ (by omega),Nat.add_sub_cancel_left];simp
  have hs:=y1_step n i P.length _ x y hn (by omega) (by simp at hn hi;omega) (by simp at hi;omega) (by simp) gx gy N;rw [e3] at hs;obtain ⟨k,ih⟩:=y1_loop n i N x Q Y (P++[y]) F (y1H n i (P.length+1) (msgsC ((P++[y])++x::Y++Q))) (by rw [hn];simp) h100 (by simp at hi ⊢;omega) (by simp at hF;omega) (by simp only [qae,qaI,qaS];exact y1_canon ..);have e5:P++(y::Y)++x::Q=(P++[y])++Y++x::Q:=by simp
  rw [e5];exact ⟨k,iter_step hτ hs ih⟩
theorem y3_step (n i j:Nat)(L:List Msg)(x y:Msg)(hn:n=L.length)(h100:L.length<=100)(hi:i<j+1)(hj:j+1<L.length)(gx:L[j]?=some x)(gy:L[j+1]?=some y)(N:Nat):
  run (callF tab ext N) 1 N (loopAt 237 3) (y3H n i (j+1) (msgsC L))=some (.norm,y3H n i j (msgsC ((L.set (j+1) x).set j y))):=by
 have h1:decide (Int.ofNat (j+1)>Int.ofNat i)=true:=decide_eq_true (by simp only [qam];omega);have hw:IntKind.i64.wrap (Int.ofNat (j+1)-1)=Int.ofNat j:=by rw [IntKind.wrap_i64];simp only [qam];omega
 have h2:(Int.ofNat (j+1)).toNat<n:=by simp;omega
 have h3:(Int.ofNat j).toNat<n:=by simp;omega
 have ga':=get_row gy;have gb':=get_row gx;have gs:((msgsC L).set (0+(Int.ofNat (j+1)).toNat) x.cells)[0+(Int.ofNat j).toNat]?=some x.cells:=by rw [List.getElem?_set_ne (by simp only [qam,Int.toNat_natCast];omega)];exact gb'
 have e2:msgsC ((L.set (j+1) x).set j y)=((msgsC L).set (0+(j+1)) x.cells).set (0+j) y.cells:=by simp [msgsC,List.map_set]
 rw [e2];obtain ⟨⟨a1,a2⟩,a3,a4,a5,a6,a7,a8,a9,a0⟩:=y;obtain ⟨⟨b1,b2⟩,b3,b4,b5,b6,b7,b8,b9,b0⟩:=x;have h9:=pf12 h1 hw hw h3 gb' h2 ga' h2 ga' h3 gs hw;exact run_of [(110,.b true),(117,.i (Int.ofNat j)),(120,.i (Int.ofNat j)),(121,.at),(122,.ld (Msg.mk ⟨b1,b2⟩ b3 b4 (.mk b5 b6 b7 b8 b9 b0)).cells),(125,.at),(126,.ld (Msg.mk ⟨a1,a2⟩ a3 a4 (.mk a5 a6 a7 a8 a9 a0)).cells),(127,.at),(1000127,.st (Msg.mk ⟨a1,a2⟩ a3 a4 (.mk a5 a6 a7 a8 a9 a0)).cells),(128,.at),(1000128,.st (Msg.mk ⟨b1,b2⟩ b3 b4 (.mk b5 b6 b7 b8 b9 b0)).cells),(112,.i (Int.ofNat j))] [] h9 (lo':=[]) (by kernel_rfl)
theorem y3_loop (n:Nat)(N:Nat)(P:List Msg)(y:Msg):∀(k:Nat) (S Q:List Msg) (F:Nat) (τ:St),S.length=k->n=(P++S++y::Q).length->n<=100->k<F->canon 1 τ=some (y3H n P.length (P.length+k) (msgsC (P++S++y::Q)))->
  iter 1 (run (callF tab ext N) 1 N (loopAt 237 3)) F τ=some (.exit 6,y3X n P.length P.length (msgsC (P++y::S++Q)))
 |0,S,Q,F,τ,hk,hn,h100,hF,hτ=>by
  obtain ⟨F,rfl⟩:∃G,F=G+1:=⟨F-1,by omega⟩;have:S=[]:=List.length_eq_zero_iff.1 hk;subst this;have e:P++[y]++Q=P++[]++y::Q:=by simp
  rw [e];exact iter_end hτ (y3_end _ _ _ _ (by simp) N) (by simp)
 |k+1,S,Q,F,τ,hk,hn,h100,hF,hτ=>by
  obtain ⟨F,rfl⟩:∃G,F=G+1:=⟨F-1,by omega⟩;obtain ⟨T,x,rfl⟩:∃T x,S=T++[x]:=⟨S.dropLast,S.getLast (by intro h;rw [h] at hk;simp at hk),(List.dropLast_concat_getLast _).symm⟩;have hT:T.length=k:=by simp at hk;omega
  have eL:P++(T++[x])++y::Q=(P++T)++x::y::Q:=by simp
  have hl:(P++T).length=P.length+k:=by simp [hT]
  rw [eL] at hτ hn;have hj:P.length+k+1<((P++T)++x::y::Q).length:=by simp;omega
  have g1:((P++T)++x::y::Q)[P.length+k+1]?=some y:=by rw [qan (by omega),hl,Nat.add_sub_cancel_left];rfl
  have g2:((P++T)++x::y::Q)[P.length+k]?=some x:=by rw [qan (by omega),hl,Nat.sub_self];rfl
  have hs:=y3_step n P.length (P.length+k) ((P++T)++x::y::Q) x y hn (by omega) (by omega) hj g2 g1 N;have e3:(((P++T)++x::y::Q).set (P.length+k+1) x).set (P.length+k) y=P++T++y::(x::Q):=by
   rw [List.set_append_right _ _ (by omega),List.set_append_right _ _ (by omega)];have d1:P.length+k+1-(P++T).length=1:=by omega
   have d2:P.length+k-(P++T).length=0:=by omega
   rw [d1,d2];rfl
  rw [e3] at hs;have ih:=y3_loop n N P y k T (x::Q) F _ hT (by rw [hn];simp) h100 (by omega) (y3_canon ..);have e4:P++y::(T++[x])++Q=P++y::T++x::Q:=by simp
  rw [e4];exact iter_step hτ hs ih
theorem srt_get (h:Srt key ltS Y){i j:Nat}(hij:i<=j)(hx:Y[i]?=some x)(hy:Y[j]?=some y):ltS (key y) (key x)=false:=by
 rcases Nat.lt_or_ge i j with hlt|hge;·obtain ⟨hi,rfl⟩:=qah.1 hx;obtain ⟨hj,rfl⟩:=qah.1 hy;exact List.pairwise_iff_getElem.1 h i j hi hj hlt
 obtain rfl:i=j:=by omega
 rw [hx] at hy;cases hy;exact linS.irr _
theorem mem_take (h:y∈Y.take c):∃i,i<c/\Y[i]?=some y:=by obtain ⟨i,hi,e⟩:=qaU h;rw [qac] at hi;exact ⟨i,by omega,by rw [<-e,List.getElem_take,qad]⟩
theorem mem_drop (h:y∈Y.drop c):∃i,c<=i/\Y[i]?=some y:=by obtain ⟨i,hi,e⟩:=qaU h;rw [qaj] at hi;exact ⟨c+i,by omega,by rw [<-e,List.getElem_drop,qad]⟩
theorem split_lt (h:Srt key ltS Y){k:Int×List Int}(h1:c=0\/∃y,Y[c-1]?=some y/\ltS (key y) k=true):∀y,y∈Y.take c->ltS (key y) k=true:=by
 intro y hy;obtain ⟨i,hi,e⟩:=mem_take hy;rcases h1 with h1|⟨z,hz,hlt⟩;·omega
 exact linS.lt_of_le_lt (srt_get h (by omega) e hz) hlt
theorem split_ge (h:Srt key ltS Y){k:Int×List Int}(h1:c=Y.length\/∃y,Y[c]?=some y/\ltS (key y) k=false):∀y,y∈Y.drop c->ltS (key y) k=false:=by
 intro y hy;obtain ⟨i,hi,e⟩:=mem_drop hy;rcases h1 with h1|⟨z,hz,hlt⟩;·rw [qaL (by omega)] at e;cases e
 exact linS.le_trans hlt (srt_get h hi hz e)
theorem split_le (h:Srt key ltS Y){k:Int×List Int}(h1:c=0\/∃y,Y[c-1]?=some y/\ltS k (key y)=false):∀y,y∈Y.take c->ltS k (key y)=false:=by
 intro y hy;obtain ⟨i,hi,e⟩:=mem_take hy;rcases h1 with h1|⟨z,hz,hlt⟩;·omega
 exact linS.le_trans (srt_get h (by omega) e hz) hlt
theorem split_gt (h:Srt key ltS Y){k:Int×List Int}(h1:c=Y.length\/∃y,Y[c]?=some y/\ltS k (key y)=true):∀y,y∈Y.drop c->ltS k (key y)=true:=by
 intro y hy;obtain ⟨i,hi,e⟩:=mem_drop hy;rcases h1 with h1|⟨z,hz,hlt⟩;·rw [qaL (by omega)] at e;cases e
 exact linS.lt_of_lt_le hlt (srt_get h hi hz e)
def dM:Msg:=⟨⟨0,[]⟩,0,[],.mk 0 0 0 ⟨#[]⟩ [] []⟩
theorem getD_some {i:Nat}(h:i<L.length):L[i]?=some (L.getD i dM):=by rw [qaF,qad h];rfl
theorem sym_left (P:List Msg)(x:Msg)(Y Q:List Msg)(hs:Srt key ltS Y)(h100:(P++[x]++Y++Q).length<=100)(hok:∀m,m∈P++[x]++Y++Q->m.st.p.length<=60000)(N:Nat)(hN:60301<=N):
  ∃R,Mg key ltS ([x]++Y) R/\R.length=1+Y.length/\callF tab ext N (.fn 237) [.bs 0 0 (P++[x]++Y++Q).length,nat P.length,nat (P.length+1),nat (P.length+1+Y.length),.fn 110 []] [.row 10 (msgsC (P++[x]++Y++Q))]=some (.tup [],[.row 10 (msgsC (P++R++Q))]):=by
 obtain ⟨M,rfl⟩:∃M,N=M+1:=⟨N-1,by omega⟩;have hl:(P++[x]++Y++Q).length=P.length+1+Y.length+Q.length:=by simp;omega
 have hP:(P++[x]).length=P.length+1:=by simp
 have gx:(P++[x]++Y++Q)[P.length]?=some x:=by
  have e:P++[x]++Y++Q=P++x::(Y++Q):=by simp
  rw [e,qan (Nat.le_refl _),Nat.sub_self];rfl
 have gY:∀i,i<Y.length->(P++[x]++Y++Q)[P.length+1+i]?=Y[i]?:=fun i hi=>by
  have e:P++[x]++Y++Q=(P++[x])++(Y++Q):=by simp
  rw [e,qan (by omega),hP,Nat.add_sub_cancel_left,qai hi]
 obtain ⟨r,r1,r2,r3,r4,r5⟩:=search_loop (Γ:=callF tab ext M) (fu:=M) (b:=loopAt 237 0) (fun lo hi=>y0H (P++[x]++Y++Q).length P.length lo hi (msgsC (P++[x]++Y++Q))) (fun lo hi=>y0X (P++[x]++Y++Q).length P.length lo hi (msgsC (P++[x]++Y++Q))) (.exit 0) (by simp) (fun lo hi=>y0_canon ..) (fun r=>y0_end _ _ _ _ _ (qar r) M) (P.length+1) (P.length+1+Y.length) (fun h=>ltS (key ((P++[x]++Y++Q).getD h dM)) (key x))
  (fun lo hi h1 h2 h3=>by
   have hm:(lo+hi) /2<(P++[x]++Y++Q).length:=by omega
   have st:=y0_step (P++[x]++Y++Q).length P.length lo hi (P++[x]++Y++Q) x _ rfl h100 h2 (by omega) gx (getD_some hm) (hok _ (qas (getD_some hm))) M (by omega);exact st)
  100 (P.length+1) (P.length+1+Y.length) M (y0H (P++[x]++Y++Q).length P.length (P.length+1) (P.length+1+Y.length) (msgsC (P++[x]++Y++Q))) (Nat.le_refl _) (by omega) (Nat.le_refl _) (by omega) (by omega) (.inl rfl) (.inl rfl) (y0_canon ..)
 have r5:run (callF tab ext M) 1 M (.loop (loopAt 237 0)) (y0H (P++[x]++Y++Q).length P.length (P.length+1) (P.length+1+Y.length) (msgsC (P++[x]++Y++Q)))=some (.exit 0,y0X (P++[x]++Y++Q).length P.length r r (msgsC (P++[x]++Y++Q))):=r5;obtain ⟨c,rfl⟩:∃c,r=P.length+1+c:=⟨r-(P.length+1),by omega⟩;have hc:c<=Y.length:=by omega
 have hY:=List.take_append_drop c Y;have t1:=split_lt hs (k:=key x) (c:=c) (by
  rcases r3 with h|h;·left;omega
  rcases Nat.eq_zero_or_pos c with h0|h0;·exact .inl h0
  right;have e:P.length+1+c-1=P.length+1+(c-1):=by omega
  rw [e] at h;exact ⟨_,by rw [<-gY (c-1) (by omega)];exact getD_some (by omega),h⟩)
 have t2:=split_ge hs (k:=key x) (c:=c) (by
  rcases r4 with h|h;·left;omega
  rcases Nat.lt_or_ge c Y.length with h0|h0;·right;exact ⟨_,by rw [<-gY c h0];exact getD_some (by omega),h⟩
  left;omega)
 have mg:=merge_left linS (x:=x) (Y1:=Y.take c) (Y2:=Y.drop c) (by rw [hY];exact hs) t1 t2;rw [hY] at mg;have lt':(Y.take c).length=c:=by rw [qac];omega
 have eL:P++[x]++Y++Q=P++x::Y.take c++(Y.drop c++Q):=by
  have e:Y++Q=Y.take c++(Y.drop c++Q):=by rw [<-qau,hY]
  simp only [qau,List.cons_append,qaK];rw [e]
 obtain ⟨k,hm⟩:=y1_loop (P++[x]++Y++Q).length (P.length+1+c) M x (Y.drop c++Q) (Y.take c) P M (y1H (P++[x]++Y++Q).length (P.length+1+c) P.length (msgsC (P++[x]++Y++Q))) (by rw [<-eL]) h100 (by rw [lt']) (by rw [lt'];omega) (by rw [<-eL];exact y1_canon ..);have hm:run (callF tab ext M) 1 M (.loop (loopAt 237 1)) (y1H (P++[x]++Y++Q).length (P.length+1+c) P.length (msgsC (P++[x]++Y++Q)))=some (.exit 2,y1X (P++[x]++Y++Q).length (P.length+1+c) k (msgsC (P++Y.take c++x::(Y.drop c++Q)))):=hm;refine ⟨Y.take c++x::Y.drop c,mg,by simp;omega,?_⟩;have e9:P++(Y.take c++x::Y.drop c)++Q=P++Y.take c++x::(Y.drop c++Q):=by simp
 rw [e9];have c1:IntKind.i64.wrap (Int.ofNat (P.length+1)-Int.ofNat P.length)=Int.ofNat 1:=sub_eq (by omega) (by omega);generalize msgsC (P++Y.take c++x::(Y.drop c++Q))=R1 at*;generalize msgsC (P++[x]++Y++Q)=R0 at*;generalize (P++[x]++Y++Q).length=n at*;have h9:=pf3 c1 r5 hm;exact callF_of [(27,.i (Int.ofNat 1))] [(.exit 0,y0X n P.length (P.length+1+c) (P.length+1+c) R0),(.exit 2,y1X n (P.length+1+c) k R1)] h9 (by kernel_rfl)
theorem sym_right (P X:List Msg)(y:Msg)(Q:List Msg)(hX2:X.length≠1)(hX0:X≠[])(hs:Srt key ltS X)(h100:(P++X++[y]++Q).length<=100)(hok:∀m,m∈P++X++[y]++Q->m.st.p.length<=60000)(N:Nat)(hN:60301<=N):
  ∃R,Mg key ltS (X++[y]) R/\R.length=X.length+1/\callF tab ext N (.fn 237) [.bs 0 0 (P++X++[y]++Q).length,nat P.length,nat (P.length+X.length),nat (P.length+X.length+1),.fn 110 []] [.row 10 (msgsC (P++X++[y]++Q))]=some (.tup [],[.row 10 (msgsC (P++R++Q))]):=by
 obtain ⟨M,rfl⟩:∃M,N=M+1:=⟨N-1,by omega⟩;have lX:0<X.length:=List.length_pos_iff.2 hX0;have hl:(P++X++[y]++Q).length=P.length+X.length+1+Q.length:=by simp;omega
 have hPX:(P++X).length=P.length+X.length:=by simp
 have gy:(P++X++[y]++Q)[P.length+X.length]?=some y:=by
  have e:P++X++[y]++Q=(P++X)++y::Q:=by simp
  rw [e,qan (by omega),hPX,Nat.sub_self];rfl
 have hy:y.st.p.length<=60000:=hok y (by simp);have gX:∀i,i<X.length->(P++X++[y]++Q)[P.length+i]?=X[i]?:=fun i hi=>by
  have e:P++X++[y]++Q=P++(X++([y]++Q)):=by simp
  rw [e,qan (by omega),Nat.add_sub_cancel_left,qai hi]
 obtain ⟨r,r1,r2,r3,r4,r5⟩:=search_loop (Γ:=callF tab ext M) (fu:=M) (b:=loopAt 237 2) (fun lo hi=>y2H (P++X++[y]++Q).length (P.length+X.length) lo hi (msgsC (P++X++[y]++Q))) (fun lo hi=>y2X (P++X++[y]++Q).length (P.length+X.length) lo hi (msgsC (P++X++[y]++Q))) (.exit 4) (by simp) (fun lo hi=>y2_canon ..) (fun r=>y2_end _ _ _ _ _ (qar r) M) P.length (P.length+X.length) (fun h=>!ltS (key y) (key ((P++X++[y]++Q).getD h dM)))
  (fun lo hi h1 h2 h3=>by
   have hm:(lo+hi) /2<(P++X++[y]++Q).length:=by omega
   have st:=y2_step (P++X++[y]++Q).length (P.length+X.length) lo hi (P++X++[y]++Q) y _ rfl h100 h2 (by omega) gy (getD_some hm) hy M (by omega);exact ⟨fun hg=>st.1 (by simpa using hg),fun hg=>st.2 (by simpa using hg)⟩)
  100 P.length (P.length+X.length) M (y2H (P++X++[y]++Q).length (P.length+X.length) P.length (P.length+X.length) (msgsC (P++X++[y]++Q))) (Nat.le_refl _) (by omega) (Nat.le_refl _) (by omega) (by omega) (.inl rfl) (.inl rfl) (y2_canon ..)
 have r5:run (callF tab ext M) 1 M (.loop (loopAt 237 2)) (y2H (P++X++[y]++Q).length (P.length+X.length) P.length (P.length+X.length) (msgsC (P++X++[y]++Q)))=some (.exit 4,y2X (P++X++[y]++Q).length (P.length+X.length) r r (msgsC (P++X++[y]++Q))):=r5;obtain ⟨c,rfl⟩:∃c,r=P.length+c:=⟨r-P.length,by omega⟩;have hc:c<=X.length:=by omega
 have hX:=List.take_append_drop c X;have t1:=split_le hs (k:=key y) (c:=c) (by
  rcases r3 with h|h;·left;omega
  rcases Nat.eq_zero_or_pos c with h0|h0;·exact .inl h0
  right;have e:P.length+c-1=P.length+(c-1):=by omega
  rw [e] at h;exact ⟨_,by rw [<-gX (c-1) (by omega)];exact getD_some (by omega),by simpa using h⟩)
 have t2:=split_gt hs (k:=key y) (c:=c) (by
  rcases r4 with h|h;·left;omega
  rcases Nat.lt_or_ge c X.length with h0|h0;·right;exact ⟨_,by rw [<-gX c h0];exact getD_some (by omega),by simpa using h⟩
  left;omega)
 have mg:=merge_right linS (y:=y) (X1:=X.take c) (X2:=X.drop c) (by rw [hX];exact hs) t1 t2;rw [hX] at mg;have lt':(X.take c).length=c:=by rw [qac];omega
 have ld':(X.drop c).length=X.length-c:=qaj;have eL:P++X++[y]++Q=(P++X.take c)++X.drop c++y::Q:=by
  have e:P++X=(P++X.take c)++X.drop c:=by rw [qau,hX]
  rw [<-e];simp
 have lP:(P++X.take c).length=P.length+c:=by rw [qae,lt']
 have hm:=y3_loop (P++X++[y]++Q).length M (P++X.take c) y (X.length-c) (X.drop c) Q M (y3H (P++X++[y]++Q).length (P.length+c) (P.length+X.length) (msgsC (P++X++[y]++Q))) ld' (by rw [<-eL]) h100 (by omega) (by
  rw [<-eL,lP];have e:P.length+c+(X.length-c)=P.length+X.length:=by omega
  rw [e];exact y3_canon ..)
 rw [lP] at hm;have hm:run (callF tab ext M) 1 M (.loop (loopAt 237 3)) (y3H (P++X++[y]++Q).length (P.length+c) (P.length+X.length) (msgsC (P++X++[y]++Q)))=some (.exit 6,y3X (P++X++[y]++Q).length (P.length+c) (P.length+c) (msgsC (P++X.take c++y::X.drop c++Q))):=hm;refine ⟨X.take c++y::X.drop c,mg,by simp;omega,?_⟩;have e9:P++(X.take c++y::X.drop c)++Q=P++X.take c++y::X.drop c++Q:=by simp
 rw [e9];have c1:IntKind.i64.wrap (Int.ofNat (P.length+X.length)-Int.ofNat P.length)=Int.ofNat X.length:=sub_eq (by omega) (by omega);have c2:(Int.ofNat X.length==1)=false:=by rw [beq_eq_false_iff_ne];simp only [qam];omega
 have c3:IntKind.i64.wrap (Int.ofNat (P.length+X.length+1)-Int.ofNat (P.length+X.length))=Int.ofNat 1:=sub_eq (by omega) (by omega);generalize msgsC (P++X.take c++y::X.drop c++Q)=R1 at*;generalize msgsC (P++X++[y]++Q)=R0 at*;generalize (P++X++[y]++Q).length=n at*;have h9:=pf5 c1 c2 c3 r5 hm;exact callF_of [(27,.i (Int.ofNat X.length)),(28,.b false),(79,.i (Int.ofNat 1))] [(.exit 4,y2X n (P.length+X.length) (P.length+c) (P.length+c) R0),(.exit 6,y3X n (P.length+c) (P.length+c) R1)] h9 (by kernel_rfl)
section
variable (n a m b mid nn lo hi p:Nat) (rows:qaV)
def y4H:St:=⟨[(0,.bs 0 0 n),(1,nat a),(2,nat m),(3,nat b),(4,.fn 110 []),(18,nat mid),(19,nat nn),(20,nat lo),(21,nat hi),(22,nat p)],[.row 10 rows]⟩
def y4X:St:=⟨[(0,.bs 0 0 n),(1,nat a),(2,nat m),(3,nat b),(4,.fn 110 []),(18,nat mid),(19,nat nn),(20,nat lo),(21,nat hi),(22,nat p),(151,boolX false)],[.row 10 rows]⟩
theorem y4_canon:canon 1 (y4H n a m b mid nn lo hi p rows)=some (y4H n a m b mid nn lo hi p rows):=by kernel_rfl
theorem y4_end (h:¬lo<hi)(N:Nat):run (callF tab ext N) 1 N (loopAt 237 4) (y4H n a m b mid nn lo hi p rows)=some (.exit 8,y4X n a m b mid nn lo hi p rows):=
 run_of [(151,.b false)] [] (pf1 (nlt_nat h)) (lo':=[]) (by kernel_rfl)
end
theorem y4_step (n a m b mid nn lo hi p:Nat)(L:List Msg)(x y:Msg)(hn:n=L.length)(h100:L.length<=100)(hlt:lo<hi)(hh:hi<=L.length)(hp:(lo+hi) /2<=p)(hpl:p<=1000)(gx:L[(lo+hi) /2]?=some x)(gy:L[p-(lo+hi) /2]?=some y)(hy:y.st.p.length<=60000)(N:Nat)(hN:60200<=N):
  (ltS (key y) (key x)=false->run (callF tab ext N) 1 N (loopAt 237 4) (y4H n a m b mid nn lo hi p (msgsC L))=some (.norm,y4H n a m b mid nn ((lo+hi) /2+1) hi p (msgsC L)))/\
  (ltS (key y) (key x)=true->run (callF tab ext N) 1 N (loopAt 237 4) (y4H n a m b mid nn lo hi p (msgsC L))=some (.norm,y4H n a m b mid nn lo ((lo+hi) /2) p (msgsC L))):=by
 have hal:p-(lo+hi) /2<L.length:=by rcases Nat.lt_or_ge (p-(lo+hi) /2) L.length with h|h;exact h;rw [qaL h] at gy;cases gy
 have h1:=lt_nat hlt;have h2:=add_nat lo hi (by omega);have h3:=YtonnphbfclaigaaGreatDoor.u64_nat (s:=lo+hi) (by omega);have h4:=YtonnphbfclaigaaGreatDoor.shr_nat (s:=lo+hi);have h5:=YtonnphbfclaigaaGreatDoor.half_nat (s:=lo+hi) (by omega);have hs:IntKind.i64.wrap (Int.ofNat p-Int.ofNat ((lo+hi) /2))=Int.ofNat (p-(lo+hi) /2):=sub_eq (by omega) (by omega);have h6:(Int.ofNat (p-(lo+hi) /2)).toNat<n:=by simp;omega
 have h7:=get_row gy;have h8:(Int.ofNat ((lo+hi) /2)).toNat<n:=by simp;omega
 have h9:=get_row gx;have hc:=cmpM y x hy N (by omega);have hw:=next_nat (j:=(lo+hi) /2) (by omega);have ho:decide (cmpS y.st x.st<0)=ltS (key y) (key x):=rfl;obtain ⟨⟨a1,a2⟩,a3,a4,a5,a6,a7,a8,a9,a0⟩:=x;obtain ⟨⟨b1,b2⟩,b3,b4,b5,b6,b7,b8,b9,b0⟩:=y;dsimp only at ho hc;rw [<-ho];generalize cmpS ⟨b1,b2⟩ ⟨a1,a2⟩=r at hc;generalize msgsC L=R at*;generalize p-(lo+hi) /2=pc at*;generalize (lo+hi) /2=h at*;constructor;·intro hr;have hz:=pfI h1 h2 h3 h4 h5 (pf8 hs h6 h7 h8 h9 hc hr hw);exact run_of [(151,.b true),(154,.i (Int.ofNat (lo+hi))),(155,.i (Int.ofNat (lo+hi))),(156,.i (Int.ofNat h)),(157,.i (Int.ofNat h)),(162,.i (Int.ofNat pc)),(163,.at),(164,.ld (Msg.mk ⟨b1,b2⟩ b3 b4 (.mk b5 b6 b7 b8 b9 b0)).cells),(167,.at),(168,.ld (Msg.mk ⟨a1,a2⟩ a3 a4 (.mk a5 a6 a7 a8 a9 a0)).cells),(169,.p (num r)),(170,.b false),(173,.i (Int.ofNat (h+1)))] [] hz (lo':=[]) (by kernel_rfl)
 intro hr;have hz:=pfI h1 h2 h3 h4 h5 (pf7 hs h6 h7 h8 h9 hc hr);exact run_of [(151,.b true),(154,.i (Int.ofNat (lo+hi))),(155,.i (Int.ofNat (lo+hi))),(156,.i (Int.ofNat h)),(157,.i (Int.ofNat h)),(162,.i (Int.ofNat pc)),(163,.at),(164,.ld (Msg.mk ⟨b1,b2⟩ b3 b4 (.mk b5 b6 b7 b8 b9 b0)).cells),(167,.at),(168,.ld (Msg.mk ⟨a1,a2⟩ a3 a4 (.mk a5 a6 a7 a8 a9 a0)).cells),(169,.p (num r)),(170,.b true)] [] hz (lo':=[]) (by kernel_rfl)
theorem y4_search (P X Y Q:List Msg)(n a m b mid nn s0 r0 p:Nat)(ha:a=P.length)(hm:m=a+X.length)(hb:b=m+Y.length)(hmid:mid=(a+b) /2)(hnn:nn=mid+m)(hp:p+1=nn)(hX:2<=X.length)(hY:2<=Y.length)
  (hb0:(m>mid/\s0=nn-b/\r0=mid)\/(¬m>mid/\s0=a/\r0=m)) (hn:n=(P++X++Y++Q).length) (h100:n<=100) (hok:∀z,z∈P++X++Y++Q->z.st.p.length<=60000) (hsX:Srt key ltS X) (hsY:Srt key ltS Y) (M:Nat) (hM:60200<=M):
  ∃s,a<=s/\s<=m/\m<=nn-s/\nn-s<=b/\(∀x,x∈X.take (s-a)->∀y,y∈Y.drop (nn-s-m)->ltS (key y) (key x)=false)/\(∀y,y∈Y.take (nn-s-m)->∀x,x∈X.drop (s-a)->ltS (key y) (key x)=true)/\
   run (callF tab ext M) 1 M (.loop (loopAt 237 4)) (y4H n a m b mid nn s0 r0 p (msgsC (P++X++Y++Q)))=some (.exit 8,y4X n a m b mid nn s s p (msgsC (P++X++Y++Q))):=by
 have hl:n=P.length+X.length+Y.length+Q.length:=by rw [hn];simp;omega
 have gX:∀i,i<X.length->(P++X++Y++Q)[a+i]?=X[i]?:=fun i hi=>by
  have e:P++X++Y++Q=P++(X++(Y++Q)):=by simp
  rw [e,qan (by omega),ha,Nat.add_sub_cancel_left,qai hi]
 have gY:∀i,i<Y.length->(P++X++Y++Q)[m+i]?=Y[i]?:=fun i hi=>by
  have e:P++X++Y++Q=(P++X)++(Y++Q):=by simp
  have l:(P++X).length=m:=by simp;omega
  rw [e,qan (by omega),l,Nat.add_sub_cancel_left,qai hi]
 obtain ⟨r,r1,r2,r3,r4,r5⟩:=search_loop (Γ:=callF tab ext M) (fu:=M) (b:=loopAt 237 4) (fun lo hi=>y4H n a m b mid nn lo hi p (msgsC (P++X++Y++Q))) (fun lo hi=>y4X n a m b mid nn lo hi p (msgsC (P++X++Y++Q))) (.exit 8) (by simp) (fun lo hi=>y4_canon ..) (fun r=>y4_end _ _ _ _ _ _ _ _ _ _ (qar r) M) s0 r0 (fun h=>!ltS (key ((P++X++Y++Q).getD (p-h) dM)) (key ((P++X++Y++Q).getD h dM)))
  (fun lo hi h1 h2 h3=>by
   have k1:(lo+hi) /2<(P++X++Y++Q).length:=by rw [<-hn];omega
   have k2:p-(lo+hi) /2<(P++X++Y++Q).length:=by rw [<-hn];omega
   have st:=y4_step n a m b mid nn lo hi p (P++X++Y++Q) _ _ hn (by omega) h2 (by omega) (by omega) (by omega) (getD_some k1) (getD_some k2) (hok _ (qas (getD_some k2))) M hM;exact ⟨fun hg=>st.1 (by simpa using hg),fun hg=>st.2 (by simpa using hg)⟩)
  100 s0 r0 M (y4H n a m b mid nn s0 r0 p (msgsC (P++X++Y++Q))) (Nat.le_refl _) (by omega) (Nat.le_refl _) (by omega) (by omega) (.inl rfl) (.inl rfl) (y4_canon ..)
 have q1:a<=r:=by omega
 have q2:r<=m:=by omega
 have q3:m<=nn-r:=by omega
 have q4:nn-r<=b:=by omega
 refine ⟨r,q1,q2,q3,q4,?_,?_,r5⟩
 ·intro x hx y hy;obtain ⟨i,hi,ex⟩:=mem_take hx;obtain ⟨j,hj,ey⟩:=mem_drop hy;have hjl:j<Y.length:=by rcases Nat.lt_or_ge j Y.length with h|h;exact h;rw [qaL h] at ey;cases ey
  rcases r3 with h|h;·omega
  have k1:(P++X++Y++Q)[r-1]?=X[r-1-a]?:=by rw [<-gX (r-1-a) (by omega)];congr 1;omega
  have k2:(P++X++Y++Q)[p-(r-1)]?=Y[nn-r-m]?:=by rw [<-gY (nn-r-m) (by omega)];congr 1;omega
  have g1:=getD_some (L:=P++X++Y++Q) (i:=r-1) (by rw [<-hn];omega);have g2:=getD_some (L:=P++X++Y++Q) (i:=p-(r-1)) (by rw [<-hn];omega);rw [k1] at g1;rw [k2] at g2;have e1:=srt_get hsX (by omega) ex g1;have e2:=srt_get hsY hj g2 ey;exact linS.le_trans (linS.le_trans e1 (by simpa using h)) e2
 intro y hy x hx;obtain ⟨j,hj,ey⟩:=mem_take hy;obtain ⟨i,hi,ex⟩:=mem_drop hx;have hil:i<X.length:=by rcases Nat.lt_or_ge i X.length with h|h;exact h;rw [qaL h] at ex;cases ex
 rcases r4 with h|h;·omega
 have k1:(P++X++Y++Q)[r]?=X[r-a]?:=by rw [<-gX (r-a) (by omega)];congr 1;omega
 have k2:(P++X++Y++Q)[p-r]?=Y[nn-r-m-1]?:=by rw [<-gY (nn-r-m-1) (by omega)];congr 1;omega
 have g1:=getD_some (L:=P++X++Y++Q) (i:=r) (by rw [<-hn];omega);have g2:=getD_some (L:=P++X++Y++Q) (i:=p-r) (by rw [<-hn];omega);rw [k1] at g1;rw [k2] at g2;have e1:=srt_get hsX hi g1 ex;have e2:=srt_get hsY (by omega) ey g2;exact linS.lt_of_le_lt e2 (linS.lt_of_lt_le (by simpa using h) e1)
theorem sl_b_TT_TT_TT (n a m b mid nn s p M:Nat)(R0 R1 R2 R3:qaV)
  (c1:IntKind.i64.wrap (Int.ofNat m-Int.ofNat a)=Int.ofNat (m-a))
  (c2:(Int.ofNat (m-a)==1)=false)
  (c3:IntKind.i64.wrap (Int.ofNat b-Int.ofNat m)=Int.ofNat (b-m))
  (c4:(Int.ofNat (b-m)==1)=false)
  (c5:IntKind.i64.wrap (Int.ofNat a+Int.ofNat b)=Int.ofNat (a+b))
  (c6:IntKind.u64.wrap (Int.ofNat (a+b))=Int.ofNat (a+b))
  (c7:(Int.ofNat (a+b)).fdiv (2^min (Int.toNat 1) IntKind.u64.bits)=Int.ofNat mid)
  (c8:IntKind.i64.wrap (Int.ofNat mid)=Int.ofNat mid)
  (c9:IntKind.i64.wrap (Int.ofNat mid+Int.ofNat m)=Int.ofNat nn)
  (c10:decide (Int.ofNat m>Int.ofNat mid)=true)
  (c11:IntKind.i64.wrap (Int.ofNat nn-Int.ofNat b)=Int.ofNat (nn-b))
  (c12:IntKind.i64.wrap (Int.ofNat nn-1)=Int.ofNat p)
  (hloop:run (callF tab ext M) 1 M (.loop (loopAt 237 4)) (y4H n a m b mid nn (nn-b) mid p R0)=some (.exit 8,y4X n a m b mid nn s s p R0))
  (c13:IntKind.i64.wrap (Int.ofNat nn-Int.ofNat s)=Int.ofNat (nn-s))
  (d0:decide (Int.ofNat s<Int.ofNat m)=true)
  (e0:decide (Int.ofNat m<Int.ofNat (nn-s))=true)
  (h0:callF tab ext M (.fn 315) [.bs 0 0 n,nat s,nat m,nat (nn-s),.fn 110 []] [.row 10 R0]=some (.tup [],[.row 10 R1]))
  (d1:decide (Int.ofNat a<Int.ofNat s)=true)
  (e1:decide (Int.ofNat s<Int.ofNat mid)=true)
  (h1:callF tab ext M (.fn 237) [.bs 0 0 n,nat a,nat s,nat mid,.fn 110 []] [.row 10 R1]=some (.tup [],[.row 10 R2]))
  (d2:decide (Int.ofNat mid<Int.ofNat (nn-s))=true)
  (e2:decide (Int.ofNat (nn-s)<Int.ofNat b)=true)
  (h2:callF tab ext M (.fn 237) [.bs 0 0 n,nat mid,nat (nn-s),nat b,.fn 110 []] [.row 10 R2]=some (.tup [],[.row 10 R3])):
  callF tab ext (M+1) (.fn 237) [.bs 0 0 n,nat a,nat m,nat b,.fn 110 []] [.row 10 R0]=some (.tup [],[.row 10 R3]):=
 callF_of [(27,.i (Int.ofNat (m-a))),(28,.b false),(79,.i (Int.ofNat (b-m))),(80,.b false),(131,.i (Int.ofNat (a+b))),(132,.i (Int.ofNat (a+b))),(133,.i (Int.ofNat mid)),(134,.i (Int.ofNat mid)),(137,.i (Int.ofNat nn)),(140,.b true),(143,.i (Int.ofNat (nn-b))),(148,.i (Int.ofNat p)),(177,.i (Int.ofNat (nn-s))),(180,.b true),(184,.b true),(191,.r (.tup []) [.row 10 R1]),(194,.b true),(198,.b true),(205,.r (.tup []) [.row 10 R2]),(208,.b true),(212,.b true),(219,.r (.tup []) [.row 10 R3])] [(.exit 8,y4X n a m b mid nn s s p R0)] (pfI c1 c2 c3 c4 c5 (pfI c6 c7 c8 c9 c10 (pf13 c11 c12 hloop c13 d0 e0 h0 d1 e1 h1 d2 e2 h2))) (by kernel_rfl)
theorem sl_b_TT_TT_TF (n a m b mid nn s p M:Nat)(R0 R1 R2:qaV)
  (c1:IntKind.i64.wrap (Int.ofNat m-Int.ofNat a)=Int.ofNat (m-a))
  (c2:(Int.ofNat (m-a)==1)=false)
  (c3:IntKind.i64.wrap (Int.ofNat b-Int.ofNat m)=Int.ofNat (b-m))
  (c4:(Int.ofNat (b-m)==1)=false)
  (c5:IntKind.i64.wrap (Int.ofNat a+Int.ofNat b)=Int.ofNat (a+b))
  (c6:IntKind.u64.wrap (Int.ofNat (a+b))=Int.ofNat (a+b))
  (c7:(Int.ofNat (a+b)).fdiv (2^min (Int.toNat 1) IntKind.u64.bits)=Int.ofNat mid)
  (c8:IntKind.i64.wrap (Int.ofNat mid)=Int.ofNat mid)
  (c9:IntKind.i64.wrap (Int.ofNat mid+Int.ofNat m)=Int.ofNat nn)
  (c10:decide (Int.ofNat m>Int.ofNat mid)=true)
  (c11:IntKind.i64.wrap (Int.ofNat nn-Int.ofNat b)=Int.ofNat (nn-b))
  (c12:IntKind.i64.wrap (Int.ofNat nn-1)=Int.ofNat p)
  (hloop:run (callF tab ext M) 1 M (.loop (loopAt 237 4)) (y4H n a m b mid nn (nn-b) mid p R0)=some (.exit 8,y4X n a m b mid nn s s p R0))
  (c13:IntKind.i64.wrap (Int.ofNat nn-Int.ofNat s)=Int.ofNat (nn-s))
  (d0:decide (Int.ofNat s<Int.ofNat m)=true)
  (e0:decide (Int.ofNat m<Int.ofNat (nn-s))=true)
  (h0:callF tab ext M (.fn 315) [.bs 0 0 n,nat s,nat m,nat (nn-s),.fn 110 []] [.row 10 R0]=some (.tup [],[.row 10 R1]))
  (d1:decide (Int.ofNat a<Int.ofNat s)=true)
  (e1:decide (Int.ofNat s<Int.ofNat mid)=true)
  (h1:callF tab ext M (.fn 237) [.bs 0 0 n,nat a,nat s,nat mid,.fn 110 []] [.row 10 R1]=some (.tup [],[.row 10 R2]))
  (d2:decide (Int.ofNat mid<Int.ofNat (nn-s))=true)
  (e2:decide (Int.ofNat (nn-s)<Int.ofNat b)=false):
  callF tab ext (M+1) (.fn 237) [.bs 0 0 n,nat a,nat m,nat b,.fn 110 []] [.row 10 R0]=some (.tup [],[.row 10 R2]):=
 callF_of [(27,.i (Int.ofNat (m-a))),(28,.b false),(79,.i (Int.ofNat (b-m))),(80,.b false),(131,.i (Int.ofNat (a+b))),(132,.i (Int.ofNat (a+b))),(133,.i (Int.ofNat mid)),(134,.i (Int.ofNat mid)),(137,.i (Int.ofNat nn)),(140,.b true),(143,.i (Int.ofNat (nn-b))),(148,.i (Int.ofNat p)),(177,.i (Int.ofNat (nn-s))),(180,.b true),(184,.b true),(191,.r (.tup []) [.row 10 R1]),(194,.b true),(198,.b true),(205,.r (.tup []) [.row 10 R2]),(208,.b true),(212,.b false)] [(.exit 8,y4X n a m b mid nn s s p R0)] (pfI c1 c2 c3 c4 c5 (pfI c6 c7 c8 c9 c10 (pf12 c11 c12 hloop c13 d0 e0 h0 d1 e1 h1 d2 e2))) (by kernel_rfl)
theorem sl_b_TT_TT_F (n a m b mid nn s p M:Nat)(R0 R1 R2:qaV)
  (c1:IntKind.i64.wrap (Int.ofNat m-Int.ofNat a)=Int.ofNat (m-a))
  (c2:(Int.ofNat (m-a)==1)=false)
  (c3:IntKind.i64.wrap (Int.ofNat b-Int.ofNat m)=Int.ofNat (b-m))
  (c4:(Int.ofNat (b-m)==1)=false)
  (c5:IntKind.i64.wrap (Int.ofNat a+Int.ofNat b)=Int.ofNat (a+b))
  (c6:IntKind.u64.wrap (Int.ofNat (a+b))=Int.ofNat (a+b))
  (c7:(Int.ofNat (a+b)).fdiv (2^min (Int.toNat 1) IntKind.u64.bits)=Int.ofNat mid)
  (c8:IntKind.i64.wrap (Int.ofNat mid)=Int.ofNat mid)
  (c9:IntKind.i64.wrap (Int.ofNat mid+Int.ofNat m)=Int.ofNat nn)
  (c10:decide (Int.ofNat m>Int.ofNat mid)=true)
  (c11:IntKind.i64.wrap (Int.ofNat nn-Int.ofNat b)=Int.ofNat (nn-b))
  (c12:IntKind.i64.wrap (Int.ofNat nn-1)=Int.ofNat p)
  (hloop:run (callF tab ext M) 1 M (.loop (loopAt 237 4)) (y4H n a m b mid nn (nn-b) mid p R0)=some (.exit 8,y4X n a m b mid nn s s p R0))
  (c13:IntKind.i64.wrap (Int.ofNat nn-Int.ofNat s)=Int.ofNat (nn-s))
  (d0:decide (Int.ofNat s<Int.ofNat m)=true)
  (e0:decide (Int.ofNat m<Int.ofNat (nn-s))=true)
  (h0:callF tab ext M (.fn 315) [.bs 0 0 n,nat s,nat m,nat (nn-s),.fn 110 []] [.row 10 R0]=some (.tup [],[.row 10 R1]))
  (d1:decide (Int.ofNat a<Int.ofNat s)=true)
  (e1:decide (Int.ofNat s<Int.ofNat mid)=true)
  (h1:callF tab ext M (.fn 237) [.bs 0 0 n,nat a,nat s,nat mid,.fn 110 []] [.row 10 R1]=some (.tup [],[.row 10 R2]))
  (d2:decide (Int.ofNat mid<Int.ofNat (nn-s))=false):
  callF tab ext (M+1) (.fn 237) [.bs 0 0 n,nat a,nat m,nat b,.fn 110 []] [.row 10 R0]=some (.tup [],[.row 10 R2]):=
 callF_of [(27,.i (Int.ofNat (m-a))),(28,.b false),(79,.i (Int.ofNat (b-m))),(80,.b false),(131,.i (Int.ofNat (a+b))),(132,.i (Int.ofNat (a+b))),(133,.i (Int.ofNat mid)),(134,.i (Int.ofNat mid)),(137,.i (Int.ofNat nn)),(140,.b true),(143,.i (Int.ofNat (nn-b))),(148,.i (Int.ofNat p)),(177,.i (Int.ofNat (nn-s))),(180,.b true),(184,.b true),(191,.r (.tup []) [.row 10 R1]),(194,.b true),(198,.b true),(205,.r (.tup []) [.row 10 R2]),(208,.b false)] [(.exit 8,y4X n a m b mid nn s s p R0)] (pfI c1 c2 c3 c4 c5 (pfI c6 c7 c8 c9 c10 (pf11 c11 c12 hloop c13 d0 e0 h0 d1 e1 h1 d2))) (by kernel_rfl)
theorem sl_b_TT_TF_TT (n a m b mid nn s p M:Nat)(R0 R1 R3:qaV)
  (c1:IntKind.i64.wrap (Int.ofNat m-Int.ofNat a)=Int.ofNat (m-a))
  (c2:(Int.ofNat (m-a)==1)=false)
  (c3:IntKind.i64.wrap (Int.ofNat b-Int.ofNat m)=Int.ofNat (b-m))
  (c4:(Int.ofNat (b-m)==1)=false)
  (c5:IntKind.i64.wrap (Int.ofNat a+Int.ofNat b)=Int.ofNat (a+b))
  (c6:IntKind.u64.wrap (Int.ofNat (a+b))=Int.ofNat (a+b))
  (c7:(Int.ofNat (a+b)).fdiv (2^min (Int.toNat 1) IntKind.u64.bits)=Int.ofNat mid)
  (c8:IntKind.i64.wrap (Int.ofNat mid)=Int.ofNat mid)
  (c9:IntKind.i64.wrap (Int.ofNat mid+Int.ofNat m)=Int.ofNat nn)
  (c10:decide (Int.ofNat m>Int.ofNat mid)=true)
  (c11:IntKind.i64.wrap (Int.ofNat nn-Int.ofNat b)=Int.ofNat (nn-b))
  (c12:IntKind.i64.wrap (Int.ofNat nn-1)=Int.ofNat p)
  (hloop:run (callF tab ext M) 1 M (.loop (loopAt 237 4)) (y4H n a m b mid nn (nn-b) mid p R0)=some (.exit 8,y4X n a m b mid nn s s p R0))
  (c13:IntKind.i64.wrap (Int.ofNat nn-Int.ofNat s)=Int.ofNat (nn-s))
  (d0:decide (Int.ofNat s<Int.ofNat m)=true)
  (e0:decide (Int.ofNat m<Int.ofNat (nn-s))=true)
  (h0:callF tab ext M (.fn 315) [.bs 0 0 n,nat s,nat m,nat (nn-s),.fn 110 []] [.row 10 R0]=some (.tup [],[.row 10 R1]))
  (d1:decide (Int.ofNat a<Int.ofNat s)=true)
  (e1:decide (Int.ofNat s<Int.ofNat mid)=false)
  (d2:decide (Int.ofNat mid<Int.ofNat (nn-s))=true)
  (e2:decide (Int.ofNat (nn-s)<Int.ofNat b)=true)
  (h2:callF tab ext M (.fn 237) [.bs 0 0 n,nat mid,nat (nn-s),nat b,.fn 110 []] [.row 10 R1]=some (.tup [],[.row 10 R3])):
  callF tab ext (M+1) (.fn 237) [.bs 0 0 n,nat a,nat m,nat b,.fn 110 []] [.row 10 R0]=some (.tup [],[.row 10 R3]):=
 callF_of [(27,.i (Int.ofNat (m-a))),(28,.b false),(79,.i (Int.ofNat (b-m))),(80,.b false),(131,.i (Int.ofNat (a+b))),(132,.i (Int.ofNat (a+b))),(133,.i (Int.ofNat mid)),(134,.i (Int.ofNat mid)),(137,.i (Int.ofNat nn)),(140,.b true),(143,.i (Int.ofNat (nn-b))),(148,.i (Int.ofNat p)),(177,.i (Int.ofNat (nn-s))),(180,.b true),(184,.b true),(191,.r (.tup []) [.row 10 R1]),(194,.b true),(198,.b false),(208,.b true),(212,.b true),(219,.r (.tup []) [.row 10 R3])] [(.exit 8,y4X n a m b mid nn s s p R0)] (pfI c1 c2 c3 c4 c5 (pfI c6 c7 c8 c9 c10 (pf12 c11 c12 hloop c13 d0 e0 h0 d1 e1 d2 e2 h2))) (by kernel_rfl)
theorem sl_b_TT_TF_TF (n a m b mid nn s p M:Nat)(R0 R1:qaV)
  (c1:IntKind.i64.wrap (Int.ofNat m-Int.ofNat a)=Int.ofNat (m-a))
  (c2:(Int.ofNat (m-a)==1)=false)
  (c3:IntKind.i64.wrap (Int.ofNat b-Int.ofNat m)=Int.ofNat (b-m))
  (c4:(Int.ofNat (b-m)==1)=false)
  (c5:IntKind.i64.wrap (Int.ofNat a+Int.ofNat b)=Int.ofNat (a+b))
  (c6:IntKind.u64.wrap (Int.ofNat (a+b))=Int.ofNat (a+b))
  (c7:(Int.ofNat (a+b)).fdiv (2^min (Int.toNat 1) IntKind.u64.bits)=Int.ofNat mid)
  (c8:IntKind.i64.wrap (Int.ofNat mid)=Int.ofNat mid)
  (c9:IntKind.i64.wrap (Int.ofNat mid+Int.ofNat m)=Int.ofNat nn)
  (c10:decide (Int.ofNat m>Int.ofNat mid)=true)
  (c11:IntKind.i64.wrap (Int.ofNat nn-Int.ofNat b)=Int.ofNat (nn-b))
  (c12:IntKind.i64.wrap (Int.ofNat nn-1)=Int.ofNat p)
  (hloop:run (callF tab ext M) 1 M (.loop (loopAt 237 4)) (y4H n a m b mid nn (nn-b) mid p R0)=some (.exit 8,y4X n a m b mid nn s s p R0))
  (c13:IntKind.i64.wrap (Int.ofNat nn-Int.ofNat s)=Int.ofNat (nn-s))
  (d0:decide (Int.ofNat s<Int.ofNat m)=true)
  (e0:decide (Int.ofNat m<Int.ofNat (nn-s))=true)
  (h0:callF tab ext M (.fn 315) [.bs 0 0 n,nat s,nat m,nat (nn-s),.fn 110 []] [.row 10 R0]=some (.tup [],[.row 10 R1]))
  (d1:decide (Int.ofNat a<Int.ofNat s)=true)
  (e1:decide (Int.ofNat s<Int.ofNat mid)=false)
  (d2:decide (Int.ofNat mid<Int.ofNat (nn-s))=true)
  (e2:decide (Int.ofNat (nn-s)<Int.ofNat b)=false):
  callF tab ext (M+1) (.fn 237) [.bs 0 0 n,nat a,nat m,nat b,.fn 110 []] [.row 10 R0]=some (.tup [],[.row 10 R1]):=
 callF_of [(27,.i (Int.ofNat (m-a))),(28,.b false),(79,.i (Int.ofNat (b-m))),(80,.b false),(131,.i (Int.ofNat (a+b))),(132,.i (Int.ofNat (a+b))),(133,.i (Int.ofNat mid)),(134,.i (Int.ofNat mid)),(137,.i (Int.ofNat nn)),(140,.b true),(143,.i (Int.ofNat (nn-b))),(148,.i (Int.ofNat p)),(177,.i (Int.ofNat (nn-s))),(180,.b true),(184,.b true),(191,.r (.tup []) [.row 10 R1]),(194,.b true),(198,.b false),(208,.b true),(212,.b false)] [(.exit 8,y4X n a m b mid nn s s p R0)] (pfI c1 c2 c3 c4 c5 (pfI c6 c7 c8 c9 c10 (pf11 c11 c12 hloop c13 d0 e0 h0 d1 e1 d2 e2))) (by kernel_rfl)
theorem sl_b_TT_TF_F (n a m b mid nn s p M:Nat)(R0 R1:qaV)
  (c1:IntKind.i64.wrap (Int.ofNat m-Int.ofNat a)=Int.ofNat (m-a))
  (c2:(Int.ofNat (m-a)==1)=false)
  (c3:IntKind.i64.wrap (Int.ofNat b-Int.ofNat m)=Int.ofNat (b-m))
  (c4:(Int.ofNat (b-m)==1)=false)
  (c5:IntKind.i64.wrap (Int.ofNat a+Int.ofNat b)=Int.ofNat (a+b))
  (c6:IntKind.u64.wrap (Int.ofNat (a+b))=Int.ofNat (a+b))
  (c7:(Int.ofNat (a+b)).fdiv (2^min (Int.toNat 1) IntKind.u64.bits)=Int.ofNat mid)
  (c8:IntKind.i64.wrap (Int.ofNat mid)=Int.ofNat mid)
  (c9:IntKind.i64.wrap (Int.ofNat mid+Int.ofNat m)=Int.ofNat nn)
  (c10:decide (Int.ofNat m>Int.ofNat mid)=true)
  (c11:IntKind.i64.wrap (Int.ofNat nn-Int.ofNat b)=Int.ofNat (nn-b))
  (c12:IntKind.i64.wrap (Int.ofNat nn-1)=Int.ofNat p)
  (hloop:run (callF tab ext M) 1 M (.loop (loopAt 237 4)) (y4H n a m b mid nn (nn-b) mid p R0)=some (.exit 8,y4X n a m b mid nn s s p R0))
  (c13:IntKind.i64.wrap (Int.ofNat nn-Int.ofNat s)=Int.ofNat (nn-s))
  (d0:decide (Int.ofNat s<Int.ofNat m)=true)
  (e0:decide (Int.ofNat m<Int.ofNat (nn-s))=true)
  (h0:callF tab ext M (.fn 315) [.bs 0 0 n,nat s,nat m,nat (nn-s),.fn 110 []] [.row 10 R0]=some (.tup [],[.row 10 R1]))
  (d1:decide (Int.ofNat a<Int.ofNat s)=true)
  (e1:decide (Int.ofNat s<Int.ofNat mid)=false)
  (d2:decide (Int.ofNat mid<Int.ofNat (nn-s))=false):
  callF tab ext (M+1) (.fn 237) [.bs 0 0 n,nat a,nat m,nat b,.fn 110 []] [.row 10 R0]=some (.tup [],[.row 10 R1]):=
 callF_of [(27,.i (Int.ofNat (m-a))),(28,.b false),(79,.i (Int.ofNat (b-m))),(80,.b false),(131,.i (Int.ofNat (a+b))),(132,.i (Int.ofNat (a+b))),(133,.i (Int.ofNat mid)),(134,.i (Int.ofNat mid)),(137,.i (Int.ofNat nn)),(140,.b true),(143,.i (Int.ofNat (nn-b))),(148,.i (Int.ofNat p)),(177,.i (Int.ofNat (nn-s))),(180,.b true),(184,.b true),(191,.r (.tup []) [.row 10 R1]),(194,.b true),(198,.b false),(208,.b false)] [(.exit 8,y4X n a m b mid nn s s p R0)] (pfI c1 c2 c3 c4 c5 (pfI c6 c7 c8 c9 c10 (pf10 c11 c12 hloop c13 d0 e0 h0 d1 e1 d2))) (by kernel_rfl)
theorem sl_b_TT_F_TT (n a m b mid nn s p M:Nat)(R0 R1 R3:qaV)
  (c1:IntKind.i64.wrap (Int.ofNat m-Int.ofNat a)=Int.ofNat (m-a))
  (c2:(Int.ofNat (m-a)==1)=false)
  (c3:IntKind.i64.wrap (Int.ofNat b-Int.ofNat m)=Int.ofNat (b-m))
  (c4:(Int.ofNat (b-m)==1)=false)
  (c5:IntKind.i64.wrap (Int.ofNat a+Int.ofNat b)=Int.ofNat (a+b))
  (c6:IntKind.u64.wrap (Int.ofNat (a+b))=Int.ofNat (a+b))
  (c7:(Int.ofNat (a+b)).fdiv (2^min (Int.toNat 1) IntKind.u64.bits)=Int.ofNat mid)
  (c8:IntKind.i64.wrap (Int.ofNat mid)=Int.ofNat mid)
  (c9:IntKind.i64.wrap (Int.ofNat mid+Int.ofNat m)=Int.ofNat nn)
  (c10:decide (Int.ofNat m>Int.ofNat mid)=true)
  (c11:IntKind.i64.wrap (Int.ofNat nn-Int.ofNat b)=Int.ofNat (nn-b))
  (c12:IntKind.i64.wrap (Int.ofNat nn-1)=Int.ofNat p)
  (hloop:run (callF tab ext M) 1 M (.loop (loopAt 237 4)) (y4H n a m b mid nn (nn-b) mid p R0)=some (.exit 8,y4X n a m b mid nn s s p R0))
  (c13:IntKind.i64.wrap (Int.ofNat nn-Int.ofNat s)=Int.ofNat (nn-s))
  (d0:decide (Int.ofNat s<Int.ofNat m)=true)
  (e0:decide (Int.ofNat m<Int.ofNat (nn-s))=true)
  (h0:callF tab ext M (.fn 315) [.bs 0 0 n,nat s,nat m,nat (nn-s),.fn 110 []] [.row 10 R0]=some (.tup [],[.row 10 R1]))
  (d1:decide (Int.ofNat a<Int.ofNat s)=false)
  (d2:decide (Int.ofNat mid<Int.ofNat (nn-s))=true)
  (e2:decide (Int.ofNat (nn-s)<Int.ofNat b)=true)
  (h2:callF tab ext M (.fn 237) [.bs 0 0 n,nat mid,nat (nn-s),nat b,.fn 110 []] [.row 10 R1]=some (.tup [],[.row 10 R3])):
  callF tab ext (M+1) (.fn 237) [.bs 0 0 n,nat a,nat m,nat b,.fn 110 []] [.row 10 R0]=some (.tup [],[.row 10 R3]):=
 callF_of [(27,.i (Int.ofNat (m-a))),(28,.b false),(79,.i (Int.ofNat (b-m))),(80,.b false),(131,.i (Int.ofNat (a+b))),(132,.i (Int.ofNat (a+b))),(133,.i (Int.ofNat mid)),(134,.i (Int.ofNat mid)),(137,.i (Int.ofNat nn)),(140,.b true),(143,.i (Int.ofNat (nn-b))),(148,.i (Int.ofNat p)),(177,.i (Int.ofNat (nn-s))),(180,.b true),(184,.b true),(191,.r (.tup []) [.row 10 R1]),(194,.b false),(208,.b true),(212,.b true),(219,.r (.tup []) [.row 10 R3])] [(.exit 8,y4X n a m b mid nn s s p R0)] (pfI c1 c2 c3 c4 c5 (pfI c6 c7 c8 c9 c10 (pf11 c11 c12 hloop c13 d0 e0 h0 d1 d2 e2 h2))) (by kernel_rfl)
theorem sl_b_TT_F_TF (n a m b mid nn s p M:Nat)(R0 R1:qaV)
  (c1:IntKind.i64.wrap (Int.ofNat m-Int.ofNat a)=Int.ofNat (m-a))
  (c2:(Int.ofNat (m-a)==1)=false)
  (c3:IntKind.i64.wrap (Int.ofNat b-Int.ofNat m)=Int.ofNat (b-m))
  (c4:(Int.ofNat (b-m)==1)=false)
  (c5:IntKind.i64.wrap (Int.ofNat a+Int.ofNat b)=Int.ofNat (a+b))
  (c6:IntKind.u64.wrap (Int.ofNat (a+b))=Int.ofNat (a+b))
  (c7:(Int.ofNat (a+b)).fdiv (2^min (Int.toNat 1) IntKind.u64.bits)=Int.ofNat mid)
  (c8:IntKind.i64.wrap (Int.ofNat mid)=Int.ofNat mid)
  (c9:IntKind.i64.wrap (Int.ofNat mid+Int.ofNat m)=Int.ofNat nn)
  (c10:decide (Int.ofNat m>Int.ofNat mid)=true)
  (c11:IntKind.i64.wrap (Int.ofNat nn-Int.ofNat b)=Int.ofNat (nn-b))
  (c12:IntKind.i64.wrap (Int.ofNat nn-1)=Int.ofNat p)
  (hloop:run (callF tab ext M) 1 M (.loop (loopAt 237 4)) (y4H n a m b mid nn (nn-b) mid p R0)=some (.exit 8,y4X n a m b mid nn s s p R0))
  (c13:IntKind.i64.wrap (Int.ofNat nn-Int.ofNat s)=Int.ofNat (nn-s))
  (d0:decide (Int.ofNat s<Int.ofNat m)=true)
  (e0:decide (Int.ofNat m<Int.ofNat (nn-s))=true)
  (h0:callF tab ext M (.fn 315) [.bs 0 0 n,nat s,nat m,nat (nn-s),.fn 110 []] [.row 10 R0]=some (.tup [],[.row 10 R1]))
  (d1:decide (Int.ofNat a<Int.ofNat s)=false)
  (d2:decide (Int.ofNat mid<Int.ofNat (nn-s))=true)
  (e2:decide (Int.ofNat (nn-s)<Int.ofNat b)=false):
  callF tab ext (M+1) (.fn 237) [.bs 0 0 n,nat a,nat m,nat b,.fn 110 []] [.row 10 R0]=some (.tup [],[.row 10 R1]):=
 callF_of [(27,.i (Int.ofNat (m-a))),(28,.b false),(79,.i (Int.ofNat (b-m))),(80,.b false),(131,.i (Int.ofNat (a+b))),(132,.i (Int.ofNat (a+b))),(133,.i (Int.ofNat mid)),(134,.i (Int.ofNat mid)),(137,.i (Int.ofNat nn)),(140,.b true),(143,.i (Int.ofNat (nn-b))),(148,.i (Int.ofNat p)),(177,.i (Int.ofNat (nn-s))),(180,.b true),(184,.b true),(191,.r (.tup []) [.row 10 R1]),(194,.b false),(208,.b true),(212,.b false)] [(.exit 8,y4X n a m b mid nn s s p R0)] (pfI c1 c2 c3 c4 c5 (pfI c6 c7 c8 c9 c10 (pf10 c11 c12 hloop c13 d0 e0 h0 d1 d2 e2))) (by kernel_rfl)
theorem sl_b_TT_F_F (n a m b mid nn s p M:Nat)(R0 R1:qaV)
  (c1:IntKind.i64.wrap (Int.ofNat m-Int.ofNat a)=Int.ofNat (m-a))
  (c2:(Int.ofNat (m-a)==1)=false)
  (c3:IntKind.i64.wrap (Int.ofNat b-Int.ofNat m)=Int.ofNat (b-m))
  (c4:(Int.ofNat (b-m)==1)=false)
  (c5:IntKind.i64.wrap (Int.ofNat a+Int.ofNat b)=Int.ofNat (a+b))
  (c6:IntKind.u64.wrap (Int.ofNat (a+b))=Int.ofNat (a+b))
  (c7:(Int.ofNat (a+b)).fdiv (2^min (Int.toNat 1) IntKind.u64.bits)=Int.ofNat mid)
  (c8:IntKind.i64.wrap (Int.ofNat mid)=Int.ofNat mid)
  (c9:IntKind.i64.wrap (Int.ofNat mid+Int.ofNat m)=Int.ofNat nn)
  (c10:decide (Int.ofNat m>Int.ofNat mid)=true)
  (c11:IntKind.i64.wrap (Int.ofNat nn-Int.ofNat b)=Int.ofNat (nn-b))
  (c12:IntKind.i64.wrap (Int.ofNat nn-1)=Int.ofNat p)
  (hloop:run (callF tab ext M) 1 M (.loop (loopAt 237 4)) (y4H n a m b mid nn (nn-b) mid p R0)=some (.exit 8,y4X n a m b mid nn s s p R0))
  (c13:IntKind.i64.wrap (Int.ofNat nn-Int.ofNat s)=Int.ofNat (nn-s))
  (d0:decide (Int.ofNat s<Int.ofNat m)=true)
  (e0:decide (Int.ofNat m<Int.ofNat (nn-s))=true)
  (h0:callF tab ext M (.fn 315) [.bs 0 0 n,nat s,nat m,nat (nn-s),.fn 110 []] [.row 10 R0]=some (.tup [],[.row 10 R1]))
  (d1:decide (Int.ofNat a<Int.ofNat s)=false)
  (d2:decide (Int.ofNat mid<Int.ofNat (nn-s))=false):
  callF tab ext (M+1) (.fn 237) [.bs 0 0 n,nat a,nat m,nat b,.fn 110 []] [.row 10 R0]=some (.tup [],[.row 10 R1]):=
 callF_of [(27,.i (Int.ofNat (m-a))),(28,.b false),(79,.i (Int.ofNat (b-m))),(80,.b false),(131,.i (Int.ofNat (a+b))),(132,.i (Int.ofNat (a+b))),(133,.i (Int.ofNat mid)),(134,.i (Int.ofNat mid)),(137,.i (Int.ofNat nn)),(140,.b true),(143,.i (Int.ofNat (nn-b))),(148,.i (Int.ofNat p)),(177,.i (Int.ofNat (nn-s))),(180,.b true),(184,.b true),(191,.r (.tup []) [.row 10 R1]),(194,.b false),(208,.b false)] [(.exit 8,y4X n a m b mid nn s s p R0)] (pfI c1 c2 c3 c4 c5 (pf14 c6 c7 c8 c9 c10 c11 c12 hloop c13 d0 e0 h0 d1 d2)) (by kernel_rfl)
end Go.Proofs.YtonnphbfclaigaaGreatDoor.Sy
