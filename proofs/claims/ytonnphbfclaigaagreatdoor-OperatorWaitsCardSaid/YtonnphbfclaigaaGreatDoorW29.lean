/-.-/
import Derived.Test.YtonnphbfclaigaaGreatDoorW20
import Derived.Test.YtonnphbfclaigaaGreatDoorW28
set_option linter.all false
namespace Go.Proofs.YtonnphbfclaigaaGreatDoor.Sy
open Go Go.Em Go.Proofs.YtonnphbfclaigaaGreatDoor
set_option maxRecDepth 100000
variable {d:Nat}
theorem sym_join_b (n a m b mid nn s p M:Nat)(R0 R1 R2 R3:qaV)
  (c1:IntKind.i64.wrap (Int.ofNat m-Int.ofNat a)=Int.ofNat (m-a))
  (c2:(Int.ofNat (m-a)==1)=false)
  (c3:IntKind.i64.wrap (Int.ofNat b-Int.ofNat m)=Int.ofNat (b-m))
  (c4:(Int.ofNat (b-m)==1)=false)
  (c5:IntKind.i64.wrap (Int.ofNat a+Int.ofNat b)=Int.ofNat (a+b))
  (c6:IntKind.u64.wrap (Int.ofNat (a+b))=Int.ofNat (a+b))
  (c7:(Int.ofNat (a+b)).fdiv (2^min (Int.toNat 1) IntKind.u64.bits)=Int.ofNat mid)
  (c8:IntKind.i64.wrap (Int.ofNat mid)=Int.ofNat mid)
  (c9:IntKind.i64.wrap (Int.ofNat mid+Int.ofNat m)=Int.ofNat nn)
  (c10:decide (Int.ofNat m>Int.ofNat mid)=true)
  (c11:IntKind.i64.wrap (Int.ofNat nn-Int.ofNat b)=Int.ofNat (nn-b))
  (c12:IntKind.i64.wrap (Int.ofNat nn-1)=Int.ofNat p)
  (hloop:run (callF tab ext M) 1 M (.loop (loopAt 237 4)) (y4H n a m b mid nn (nn-b) mid p R0)=some (.exit 8,y4X n a m b mid nn s s p R0))
  (c13:IntKind.i64.wrap (Int.ofNat nn-Int.ofNat s)=Int.ofNat (nn-s))
  (hrot:(s<m/\m<nn-s)->callF tab ext M (.fn 315) [.bs 0 0 n,nat s,nat m,nat (nn-s),.fn 110 []] [.row 10 R0]=some (.tup [],[.row 10 R1]))
  (E01:¬(s<m/\m<nn-s)->R0=R1)
  (hL:(a<s/\s<mid)->callF tab ext M (.fn 237) [.bs 0 0 n,nat a,nat s,nat mid,.fn 110 []] [.row 10 R1]=some (.tup [],[.row 10 R2]))
  (E12:¬(a<s/\s<mid)->R1=R2)
  (hR:(mid<nn-s/\nn-s<b)->callF tab ext M (.fn 237) [.bs 0 0 n,nat mid,nat (nn-s),nat b,.fn 110 []] [.row 10 R2]=some (.tup [],[.row 10 R3]))
  (E23:¬(mid<nn-s/\nn-s<b)->R2=R3):
  callF tab ext (M+1) (.fn 237) [.bs 0 0 n,nat a,nat m,nat b,.fn 110 []] [.row 10 R0]=some (.tup [],[.row 10 R3]):=by
 by_cases u0:s<m
 ·have y0:=lt_nat u0;by_cases v0:m<nn-s
  ·have z0:=lt_nat v0;have h0:=hrot ⟨u0,v0⟩;by_cases u1:a<s
   ·have y1:=lt_nat u1;by_cases v1:s<mid
    ·have z1:=lt_nat v1;have h1:=hL ⟨u1,v1⟩;by_cases u2:mid<nn-s
     ·have y2:=lt_nat u2;by_cases v2:nn-s<b;·have z2:=lt_nat v2;have h2:=hR ⟨u2,v2⟩;exact sl_b_TT_TT_TT n a m b mid nn s p M R0 R1 R2 R3 c1 c2 c3 c4 c5 c6 c7 c8 c9 c10 c11 c12 hloop c13 y0 z0 h0 y1 z1 h1 y2 z2 h2
      have w2:=nlt_nat v2;have q2:=E23 (fun h=>v2 h.2);subst q2;exact sl_b_TT_TT_TF n a m b mid nn s p M R0 R1 R2 c1 c2 c3 c4 c5 c6 c7 c8 c9 c10 c11 c12 hloop c13 y0 z0 h0 y1 z1 h1 y2 w2
     have n2:=nlt_nat u2;have q2:=E23 (fun h=>u2 h.1);subst q2;exact sl_b_TT_TT_F n a m b mid nn s p M R0 R1 R2 c1 c2 c3 c4 c5 c6 c7 c8 c9 c10 c11 c12 hloop c13 y0 z0 h0 y1 z1 h1 n2
    have w1:=nlt_nat v1;have q1:=E12 (fun h=>v1 h.2);subst q1;by_cases u2:mid<nn-s
    ·have y2:=lt_nat u2;by_cases v2:nn-s<b;·have z2:=lt_nat v2;have h2:=hR ⟨u2,v2⟩;exact sl_b_TT_TF_TT n a m b mid nn s p M R0 R1 R3 c1 c2 c3 c4 c5 c6 c7 c8 c9 c10 c11 c12 hloop c13 y0 z0 h0 y1 w1 y2 z2 h2
     have w2:=nlt_nat v2;have q2:=E23 (fun h=>v2 h.2);subst q2;exact sl_b_TT_TF_TF n a m b mid nn s p M R0 R1 c1 c2 c3 c4 c5 c6 c7 c8 c9 c10 c11 c12 hloop c13 y0 z0 h0 y1 w1 y2 w2
    have n2:=nlt_nat u2;have q2:=E23 (fun h=>u2 h.1);subst q2;exact sl_b_TT_TF_F n a m b mid nn s p M R0 R1 c1 c2 c3 c4 c5 c6 c7 c8 c9 c10 c11 c12 hloop c13 y0 z0 h0 y1 w1 n2
   have n1:=nlt_nat u1;have q1:=E12 (fun h=>u1 h.1);subst q1;by_cases u2:mid<nn-s
   ·have y2:=lt_nat u2;by_cases v2:nn-s<b;·have z2:=lt_nat v2;have h2:=hR ⟨u2,v2⟩;exact sl_b_TT_F_TT n a m b mid nn s p M R0 R1 R3 c1 c2 c3 c4 c5 c6 c7 c8 c9 c10 c11 c12 hloop c13 y0 z0 h0 n1 y2 z2 h2
    have w2:=nlt_nat v2;have q2:=E23 (fun h=>v2 h.2);subst q2;exact sl_b_TT_F_TF n a m b mid nn s p M R0 R1 c1 c2 c3 c4 c5 c6 c7 c8 c9 c10 c11 c12 hloop c13 y0 z0 h0 n1 y2 w2
   have n2:=nlt_nat u2;have q2:=E23 (fun h=>u2 h.1);subst q2;exact sl_b_TT_F_F n a m b mid nn s p M R0 R1 c1 c2 c3 c4 c5 c6 c7 c8 c9 c10 c11 c12 hloop c13 y0 z0 h0 n1 n2
  have w0:=nlt_nat v0;have q0:=E01 (fun h=>v0 h.2);subst q0;by_cases u1:a<s
  ·have y1:=lt_nat u1;by_cases v1:s<mid
   ·have z1:=lt_nat v1;have h1:=hL ⟨u1,v1⟩;by_cases u2:mid<nn-s
    ·have y2:=lt_nat u2;by_cases v2:nn-s<b;·have z2:=lt_nat v2;have h2:=hR ⟨u2,v2⟩;exact sl_b_TF_TT_TT n a m b mid nn s p M R0 R2 R3 c1 c2 c3 c4 c5 c6 c7 c8 c9 c10 c11 c12 hloop c13 y0 w0 y1 z1 h1 y2 z2 h2
     have w2:=nlt_nat v2;have q2:=E23 (fun h=>v2 h.2);subst q2;exact sl_b_TF_TT_TF n a m b mid nn s p M R0 R2 c1 c2 c3 c4 c5 c6 c7 c8 c9 c10 c11 c12 hloop c13 y0 w0 y1 z1 h1 y2 w2
    have n2:=nlt_nat u2;have q2:=E23 (fun h=>u2 h.1);subst q2;exact sl_b_TF_TT_F n a m b mid nn s p M R0 R2 c1 c2 c3 c4 c5 c6 c7 c8 c9 c10 c11 c12 hloop c13 y0 w0 y1 z1 h1 n2
   have w1:=nlt_nat v1;have q1:=E12 (fun h=>v1 h.2);subst q1;by_cases u2:mid<nn-s
   ·have y2:=lt_nat u2;by_cases v2:nn-s<b;·have z2:=lt_nat v2;have h2:=hR ⟨u2,v2⟩;exact sl_b_TF_TF_TT n a m b mid nn s p M R0 R3 c1 c2 c3 c4 c5 c6 c7 c8 c9 c10 c11 c12 hloop c13 y0 w0 y1 w1 y2 z2 h2
    have w2:=nlt_nat v2;have q2:=E23 (fun h=>v2 h.2);subst q2;exact sl_b_TF_TF_TF n a m b mid nn s p M R0 c1 c2 c3 c4 c5 c6 c7 c8 c9 c10 c11 c12 hloop c13 y0 w0 y1 w1 y2 w2
   have n2:=nlt_nat u2;have q2:=E23 (fun h=>u2 h.1);subst q2;exact sl_b_TF_TF_F n a m b mid nn s p M R0 c1 c2 c3 c4 c5 c6 c7 c8 c9 c10 c11 c12 hloop c13 y0 w0 y1 w1 n2
  have n1:=nlt_nat u1;have q1:=E12 (fun h=>u1 h.1);subst q1;by_cases u2:mid<nn-s
  ·have y2:=lt_nat u2;by_cases v2:nn-s<b;·have z2:=lt_nat v2;have h2:=hR ⟨u2,v2⟩;exact sl_b_TF_F_TT n a m b mid nn s p M R0 R3 c1 c2 c3 c4 c5 c6 c7 c8 c9 c10 c11 c12 hloop c13 y0 w0 n1 y2 z2 h2
   have w2:=nlt_nat v2;have q2:=E23 (fun h=>v2 h.2);subst q2;exact sl_b_TF_F_TF n a m b mid nn s p M R0 c1 c2 c3 c4 c5 c6 c7 c8 c9 c10 c11 c12 hloop c13 y0 w0 n1 y2 w2
  have n2:=nlt_nat u2;have q2:=E23 (fun h=>u2 h.1);subst q2;exact sl_b_TF_F_F n a m b mid nn s p M R0 c1 c2 c3 c4 c5 c6 c7 c8 c9 c10 c11 c12 hloop c13 y0 w0 n1 n2
 have n0:=nlt_nat u0;have q0:=E01 (fun h=>u0 h.1);subst q0;by_cases u1:a<s
 ·have y1:=lt_nat u1;by_cases v1:s<mid
  ·have z1:=lt_nat v1;have h1:=hL ⟨u1,v1⟩;by_cases u2:mid<nn-s
   ·have y2:=lt_nat u2;by_cases v2:nn-s<b;·have z2:=lt_nat v2;have h2:=hR ⟨u2,v2⟩;exact sl_b_F_TT_TT n a m b mid nn s p M R0 R2 R3 c1 c2 c3 c4 c5 c6 c7 c8 c9 c10 c11 c12 hloop c13 n0 y1 z1 h1 y2 z2 h2
    have w2:=nlt_nat v2;have q2:=E23 (fun h=>v2 h.2);subst q2;exact sl_b_F_TT_TF n a m b mid nn s p M R0 R2 c1 c2 c3 c4 c5 c6 c7 c8 c9 c10 c11 c12 hloop c13 n0 y1 z1 h1 y2 w2
   have n2:=nlt_nat u2;have q2:=E23 (fun h=>u2 h.1);subst q2;exact sl_b_F_TT_F n a m b mid nn s p M R0 R2 c1 c2 c3 c4 c5 c6 c7 c8 c9 c10 c11 c12 hloop c13 n0 y1 z1 h1 n2
  have w1:=nlt_nat v1;have q1:=E12 (fun h=>v1 h.2);subst q1;by_cases u2:mid<nn-s
  ·have y2:=lt_nat u2;by_cases v2:nn-s<b;·have z2:=lt_nat v2;have h2:=hR ⟨u2,v2⟩;exact sl_b_F_TF_TT n a m b mid nn s p M R0 R3 c1 c2 c3 c4 c5 c6 c7 c8 c9 c10 c11 c12 hloop c13 n0 y1 w1 y2 z2 h2
   have w2:=nlt_nat v2;have q2:=E23 (fun h=>v2 h.2);subst q2;exact sl_b_F_TF_TF n a m b mid nn s p M R0 c1 c2 c3 c4 c5 c6 c7 c8 c9 c10 c11 c12 hloop c13 n0 y1 w1 y2 w2
  have n2:=nlt_nat u2;have q2:=E23 (fun h=>u2 h.1);subst q2;exact sl_b_F_TF_F n a m b mid nn s p M R0 c1 c2 c3 c4 c5 c6 c7 c8 c9 c10 c11 c12 hloop c13 n0 y1 w1 n2
 have n1:=nlt_nat u1;have q1:=E12 (fun h=>u1 h.1);subst q1;by_cases u2:mid<nn-s
 ·have y2:=lt_nat u2;by_cases v2:nn-s<b;·have z2:=lt_nat v2;have h2:=hR ⟨u2,v2⟩;exact sl_b_F_F_TT n a m b mid nn s p M R0 R3 c1 c2 c3 c4 c5 c6 c7 c8 c9 c10 c11 c12 hloop c13 n0 n1 y2 z2 h2
  have w2:=nlt_nat v2;have q2:=E23 (fun h=>v2 h.2);subst q2;exact sl_b_F_F_TF n a m b mid nn s p M R0 c1 c2 c3 c4 c5 c6 c7 c8 c9 c10 c11 c12 hloop c13 n0 n1 y2 w2
 have n2:=nlt_nat u2;have q2:=E23 (fun h=>u2 h.1);subst q2;exact sl_b_F_F_F n a m b mid nn s p M R0 c1 c2 c3 c4 c5 c6 c7 c8 c9 c10 c11 c12 hloop c13 n0 n1 n2
theorem sym_join_s (n a m b mid nn s p M:Nat)(R0 R1 R2 R3:qaV)
  (c1:IntKind.i64.wrap (Int.ofNat m-Int.ofNat a)=Int.ofNat (m-a))
  (c2:(Int.ofNat (m-a)==1)=false)
  (c3:IntKind.i64.wrap (Int.ofNat b-Int.ofNat m)=Int.ofNat (b-m))
  (c4:(Int.ofNat (b-m)==1)=false)
  (c5:IntKind.i64.wrap (Int.ofNat a+Int.ofNat b)=Int.ofNat (a+b))
  (c6:IntKind.u64.wrap (Int.ofNat (a+b))=Int.ofNat (a+b))
  (c7:(Int.ofNat (a+b)).fdiv (2^min (Int.toNat 1) IntKind.u64.bits)=Int.ofNat mid)
  (c8:IntKind.i64.wrap (Int.ofNat mid)=Int.ofNat mid)
  (c9:IntKind.i64.wrap (Int.ofNat mid+Int.ofNat m)=Int.ofNat nn)
  (c10:decide (Int.ofNat m>Int.ofNat mid)=false)
  (c12:IntKind.i64.wrap (Int.ofNat nn-1)=Int.ofNat p)
  (hloop:run (callF tab ext M) 1 M (.loop (loopAt 237 4)) (y4H n a m b mid nn a m p R0)=some (.exit 8,y4X n a m b mid nn s s p R0))
  (c13:IntKind.i64.wrap (Int.ofNat nn-Int.ofNat s)=Int.ofNat (nn-s))
  (hrot:(s<m/\m<nn-s)->callF tab ext M (.fn 315) [.bs 0 0 n,nat s,nat m,nat (nn-s),.fn 110 []] [.row 10 R0]=some (.tup [],[.row 10 R1]))
  (E01:¬(s<m/\m<nn-s)->R0=R1)
  (hL:(a<s/\s<mid)->callF tab ext M (.fn 237) [.bs 0 0 n,nat a,nat s,nat mid,.fn 110 []] [.row 10 R1]=some (.tup [],[.row 10 R2]))
  (E12:¬(a<s/\s<mid)->R1=R2)
  (hR:(mid<nn-s/\nn-s<b)->callF tab ext M (.fn 237) [.bs 0 0 n,nat mid,nat (nn-s),nat b,.fn 110 []] [.row 10 R2]=some (.tup [],[.row 10 R3]))
  (E23:¬(mid<nn-s/\nn-s<b)->R2=R3):
  callF tab ext (M+1) (.fn 237) [.bs 0 0 n,nat a,nat m,nat b,.fn 110 []] [.row 10 R0]=some (.tup [],[.row 10 R3]):=by
 by_cases u0:s<m
 ·have y0:=lt_nat u0;by_cases v0:m<nn-s
  ·have z0:=lt_nat v0;have h0:=hrot ⟨u0,v0⟩;by_cases u1:a<s
   ·have y1:=lt_nat u1;by_cases v1:s<mid
    ·have z1:=lt_nat v1;have h1:=hL ⟨u1,v1⟩;by_cases u2:mid<nn-s
     ·have y2:=lt_nat u2;by_cases v2:nn-s<b;·have z2:=lt_nat v2;have h2:=hR ⟨u2,v2⟩;exact sl_s_TT_TT_TT n a m b mid nn s p M R0 R1 R2 R3 c1 c2 c3 c4 c5 c6 c7 c8 c9 c10 c12 hloop c13 y0 z0 h0 y1 z1 h1 y2 z2 h2
      have w2:=nlt_nat v2;have q2:=E23 (fun h=>v2 h.2);subst q2;exact sl_s_TT_TT_TF n a m b mid nn s p M R0 R1 R2 c1 c2 c3 c4 c5 c6 c7 c8 c9 c10 c12 hloop c13 y0 z0 h0 y1 z1 h1 y2 w2
     have n2:=nlt_nat u2;have q2:=E23 (fun h=>u2 h.1);subst q2;exact sl_s_TT_TT_F n a m b mid nn s p M R0 R1 R2 c1 c2 c3 c4 c5 c6 c7 c8 c9 c10 c12 hloop c13 y0 z0 h0 y1 z1 h1 n2
    have w1:=nlt_nat v1;have q1:=E12 (fun h=>v1 h.2);subst q1;by_cases u2:mid<nn-s
    ·have y2:=lt_nat u2;by_cases v2:nn-s<b;·have z2:=lt_nat v2;have h2:=hR ⟨u2,v2⟩;exact sl_s_TT_TF_TT n a m b mid nn s p M R0 R1 R3 c1 c2 c3 c4 c5 c6 c7 c8 c9 c10 c12 hloop c13 y0 z0 h0 y1 w1 y2 z2 h2
     have w2:=nlt_nat v2;have q2:=E23 (fun h=>v2 h.2);subst q2;exact sl_s_TT_TF_TF n a m b mid nn s p M R0 R1 c1 c2 c3 c4 c5 c6 c7 c8 c9 c10 c12 hloop c13 y0 z0 h0 y1 w1 y2 w2
    have n2:=nlt_nat u2;have q2:=E23 (fun h=>u2 h.1);subst q2;exact sl_s_TT_TF_F n a m b mid nn s p M R0 R1 c1 c2 c3 c4 c5 c6 c7 c8 c9 c10 c12 hloop c13 y0 z0 h0 y1 w1 n2
   have n1:=nlt_nat u1;have q1:=E12 (fun h=>u1 h.1);subst q1;by_cases u2:mid<nn-s
   ·have y2:=lt_nat u2;by_cases v2:nn-s<b;·have z2:=lt_nat v2;have h2:=hR ⟨u2,v2⟩;exact sl_s_TT_F_TT n a m b mid nn s p M R0 R1 R3 c1 c2 c3 c4 c5 c6 c7 c8 c9 c10 c12 hloop c13 y0 z0 h0 n1 y2 z2 h2
    have w2:=nlt_nat v2;have q2:=E23 (fun h=>v2 h.2);subst q2;exact sl_s_TT_F_TF n a m b mid nn s p M R0 R1 c1 c2 c3 c4 c5 c6 c7 c8 c9 c10 c12 hloop c13 y0 z0 h0 n1 y2 w2
   have n2:=nlt_nat u2;have q2:=E23 (fun h=>u2 h.1);subst q2;exact sl_s_TT_F_F n a m b mid nn s p M R0 R1 c1 c2 c3 c4 c5 c6 c7 c8 c9 c10 c12 hloop c13 y0 z0 h0 n1 n2
  have w0:=nlt_nat v0;have q0:=E01 (fun h=>v0 h.2);subst q0;by_cases u1:a<s
  ·have y1:=lt_nat u1;by_cases v1:s<mid
   ·have z1:=lt_nat v1;have h1:=hL ⟨u1,v1⟩;by_cases u2:mid<nn-s
    ·have y2:=lt_nat u2;by_cases v2:nn-s<b;·have z2:=lt_nat v2;have h2:=hR ⟨u2,v2⟩;exact sl_s_TF_TT_TT n a m b mid nn s p M R0 R2 R3 c1 c2 c3 c4 c5 c6 c7 c8 c9 c10 c12 hloop c13 y0 w0 y1 z1 h1 y2 z2 h2
     have w2:=nlt_nat v2;have q2:=E23 (fun h=>v2 h.2);subst q2;exact sl_s_TF_TT_TF n a m b mid nn s p M R0 R2 c1 c2 c3 c4 c5 c6 c7 c8 c9 c10 c12 hloop c13 y0 w0 y1 z1 h1 y2 w2
    have n2:=nlt_nat u2;have q2:=E23 (fun h=>u2 h.1);subst q2;exact sl_s_TF_TT_F n a m b mid nn s p M R0 R2 c1 c2 c3 c4 c5 c6 c7 c8 c9 c10 c12 hloop c13 y0 w0 y1 z1 h1 n2
   have w1:=nlt_nat v1;have q1:=E12 (fun h=>v1 h.2);subst q1;by_cases u2:mid<nn-s
   ·have y2:=lt_nat u2;by_cases v2:nn-s<b;·have z2:=lt_nat v2;have h2:=hR ⟨u2,v2⟩;exact sl_s_TF_TF_TT n a m b mid nn s p M R0 R3 c1 c2 c3 c4 c5 c6 c7 c8 c9 c10 c12 hloop c13 y0 w0 y1 w1 y2 z2 h2
    have w2:=nlt_nat v2;have q2:=E23 (fun h=>v2 h.2);subst q2;exact sl_s_TF_TF_TF n a m b mid nn s p M R0 c1 c2 c3 c4 c5 c6 c7 c8 c9 c10 c12 hloop c13 y0 w0 y1 w1 y2 w2
   have n2:=nlt_nat u2;have q2:=E23 (fun h=>u2 h.1);subst q2;exact sl_s_TF_TF_F n a m b mid nn s p M R0 c1 c2 c3 c4 c5 c6 c7 c8 c9 c10 c12 hloop c13 y0 w0 y1 w1 n2
  have n1:=nlt_nat u1;have q1:=E12 (fun h=>u1 h.1);subst q1;by_cases u2:mid<nn-s
  ·have y2:=lt_nat u2;by_cases v2:nn-s<b;·have z2:=lt_nat v2;have h2:=hR ⟨u2,v2⟩;exact sl_s_TF_F_TT n a m b mid nn s p M R0 R3 c1 c2 c3 c4 c5 c6 c7 c8 c9 c10 c12 hloop c13 y0 w0 n1 y2 z2 h2
   have w2:=nlt_nat v2;have q2:=E23 (fun h=>v2 h.2);subst q2;exact sl_s_TF_F_TF n a m b mid nn s p M R0 c1 c2 c3 c4 c5 c6 c7 c8 c9 c10 c12 hloop c13 y0 w0 n1 y2 w2
  have n2:=nlt_nat u2;have q2:=E23 (fun h=>u2 h.1);subst q2;exact sl_s_TF_F_F n a m b mid nn s p M R0 c1 c2 c3 c4 c5 c6 c7 c8 c9 c10 c12 hloop c13 y0 w0 n1 n2
 have n0:=nlt_nat u0;have q0:=E01 (fun h=>u0 h.1);subst q0;by_cases u1:a<s
 ·have y1:=lt_nat u1;by_cases v1:s<mid
  ·have z1:=lt_nat v1;have h1:=hL ⟨u1,v1⟩;by_cases u2:mid<nn-s
   ·have y2:=lt_nat u2;by_cases v2:nn-s<b;·have z2:=lt_nat v2;have h2:=hR ⟨u2,v2⟩;exact sl_s_F_TT_TT n a m b mid nn s p M R0 R2 R3 c1 c2 c3 c4 c5 c6 c7 c8 c9 c10 c12 hloop c13 n0 y1 z1 h1 y2 z2 h2
    have w2:=nlt_nat v2;have q2:=E23 (fun h=>v2 h.2);subst q2;exact sl_s_F_TT_TF n a m b mid nn s p M R0 R2 c1 c2 c3 c4 c5 c6 c7 c8 c9 c10 c12 hloop c13 n0 y1 z1 h1 y2 w2
   have n2:=nlt_nat u2;have q2:=E23 (fun h=>u2 h.1);subst q2;exact sl_s_F_TT_F n a m b mid nn s p M R0 R2 c1 c2 c3 c4 c5 c6 c7 c8 c9 c10 c12 hloop c13 n0 y1 z1 h1 n2
  have w1:=nlt_nat v1;have q1:=E12 (fun h=>v1 h.2);subst q1;by_cases u2:mid<nn-s
  ·have y2:=lt_nat u2;by_cases v2:nn-s<b;·have z2:=lt_nat v2;have h2:=hR ⟨u2,v2⟩;exact sl_s_F_TF_TT n a m b mid nn s p M R0 R3 c1 c2 c3 c4 c5 c6 c7 c8 c9 c10 c12 hloop c13 n0 y1 w1 y2 z2 h2
   have w2:=nlt_nat v2;have q2:=E23 (fun h=>v2 h.2);subst q2;exact sl_s_F_TF_TF n a m b mid nn s p M R0 c1 c2 c3 c4 c5 c6 c7 c8 c9 c10 c12 hloop c13 n0 y1 w1 y2 w2
  have n2:=nlt_nat u2;have q2:=E23 (fun h=>u2 h.1);subst q2;exact sl_s_F_TF_F n a m b mid nn s p M R0 c1 c2 c3 c4 c5 c6 c7 c8 c9 c10 c12 hloop c13 n0 y1 w1 n2
 have n1:=nlt_nat u1;have q1:=E12 (fun h=>u1 h.1);subst q1;by_cases u2:mid<nn-s
 ·have y2:=lt_nat u2;by_cases v2:nn-s<b;·have z2:=lt_nat v2;have h2:=hR ⟨u2,v2⟩;exact sl_s_F_F_TT n a m b mid nn s p M R0 R3 c1 c2 c3 c4 c5 c6 c7 c8 c9 c10 c12 hloop c13 n0 n1 y2 z2 h2
  have w2:=nlt_nat v2;have q2:=E23 (fun h=>v2 h.2);subst q2;exact sl_s_F_F_TF n a m b mid nn s p M R0 c1 c2 c3 c4 c5 c6 c7 c8 c9 c10 c12 hloop c13 n0 n1 y2 w2
 have n2:=nlt_nat u2;have q2:=E23 (fun h=>u2 h.1);subst q2;exact sl_s_F_F_F n a m b mid nn s p M R0 c1 c2 c3 c4 c5 c6 c7 c8 c9 c10 c12 hloop c13 n0 n1 n2
def IHd (d:Nat):Prop:=∀(P X Y Q:List Msg),X.length+Y.length<=d->X≠[]->Y≠[]->Srt key ltS X->Srt key ltS Y->(P++X++Y++Q).length<=100->(∀z,z∈P++X++Y++Q->z.st.p.length<=60000)->∀N,60400+d<=N->
  ∃R,Mg key ltS (X++Y) R/\R.length=X.length+Y.length/\callF tab ext N (.fn 237) [.bs 0 0 (P++X++Y++Q).length,nat P.length,nat (P.length+X.length),nat (P.length+X.length+Y.length),.fn 110 []] [.row 10 (msgsC (P++X++Y++Q))]=some (.tup [],[.row 10 (msgsC (P++R++Q))])
theorem sym_sub (ih:IHd d)(P A B Q:List Msg)(a s m n M:Nat)(ha:a=P.length)(hs:s=a+A.length)(hm:m=s+B.length)(hn:n=(P++A++B++Q).length)(hd:A.length+B.length<=d)(sA:Srt key ltS A)(sB:Srt key ltS B)(h100:n<=100)(hok:∀z,z∈P++A++B++Q->z.st.p.length<=60000)(hM:60400+d<=M):
  ∃R,Mg key ltS (A++B) R/\R.length=A.length+B.length/\((a<s/\s<m)->callF tab ext M (.fn 237) [.bs 0 0 n,nat a,nat s,nat m,.fn 110 []] [.row 10 (msgsC (P++A++B++Q))]=some (.tup [],[.row 10 (msgsC (P++R++Q))]))/\(¬(a<s/\s<m)->A++B=R):=by
 by_cases h:a<s/\s<m;·obtain ⟨R,g1,g2,g3⟩:=ih P A B Q hd (fun e=>by subst e;simp at hs;omega) (fun e=>by subst e;simp at hm;omega) sA sB (by omega) hok M hM;refine ⟨R,g1,g2,fun _=>?_,fun h'=>absurd h h'⟩;rw [<-hn,<-ha,<-hs,<-hm] at g3;exact g3
 refine ⟨A++B,Mg.self ?_,by simp,fun h'=>absurd h' h,fun _=>rfl⟩;rcases Nat.lt_or_ge a s with h1|h1;·have:B=[]:=List.length_eq_zero_iff.1 (by omega);subst this;rw [List.append_nil];exact sA
 have:A=[]:=List.length_eq_zero_iff.1 (by omega);subst this;rw [qaK];exact sB
theorem sym_rot (P A B Q:List Msg)(s m e n M:Nat)(hs:s=P.length)(hm:m=s+A.length)(he:e=m+B.length)(hn:n=(P++A++B++Q).length)(h100:n<=100)(hM:301<=M):
  ((s<m/\m<e)->callF tab ext M (.fn 315) [.bs 0 0 n,nat s,nat m,nat e,.fn 110 []] [.row 10 (msgsC (P++A++B++Q))]=some (.tup [],[.row 10 (msgsC (P++B++A++Q))]))/\(¬(s<m/\m<e)->P++A++B++Q=P++B++A++Q):=by
 refine ⟨fun h=>?_,fun h=>?_⟩;·have g:=rotate P A B Q (fun e=>by subst e;simp at hm;omega) (fun e=>by subst e;simp at he;omega) (by omega) M hM;rw [<-hn,<-hs,<-hm,<-he] at g;exact g
 rcases Nat.lt_or_ge s m with h1|h1;·have:B=[]:=List.length_eq_zero_iff.1 (by omega);subst this;simp
 have:A=[]:=List.length_eq_zero_iff.1 (by omega);subst this;simp
theorem sym_nums (a m b mid nn n s p:Nat)(h1:a+2<=m)(h2:m+2<=b)(h3:b<=n)(h4:n<=100)(hmid:mid=(a+b) /2)(hnn:nn=mid+m)(hp:p+1=nn)(hs:s<=m):
  IntKind.i64.wrap (Int.ofNat m-Int.ofNat a)=Int.ofNat (m-a)/\(Int.ofNat (m-a)==1)=false/\IntKind.i64.wrap (Int.ofNat b-Int.ofNat m)=Int.ofNat (b-m)/\(Int.ofNat (b-m)==1)=false/\
  IntKind.i64.wrap (Int.ofNat a+Int.ofNat b)=Int.ofNat (a+b)/\IntKind.u64.wrap (Int.ofNat (a+b))=Int.ofNat (a+b)/\(Int.ofNat (a+b)).fdiv (2^min (Int.toNat 1) IntKind.u64.bits)=Int.ofNat mid/\IntKind.i64.wrap (Int.ofNat mid)=Int.ofNat mid/\IntKind.i64.wrap (Int.ofNat mid+Int.ofNat m)=Int.ofNat nn/\IntKind.i64.wrap (Int.ofNat nn-1)=Int.ofNat p/\IntKind.i64.wrap (Int.ofNat nn-Int.ofNat s)=Int.ofNat (nn-s):=by
 have c7:=YtonnphbfclaigaaGreatDoor.shr_nat (s:=a+b);have c8:=YtonnphbfclaigaaGreatDoor.half_nat (s:=a+b) (by omega);rw [<-hmid] at c7 c8;refine ⟨sub_eq (by omega) (by omega),?_,sub_eq (by omega) (by omega),?_,add_nat a b (by omega),YtonnphbfclaigaaGreatDoor.u64_nat (s:=a+b) (by omega),c7,c8,?_,?_,sub_eq (by omega) (by omega)⟩;·rw [beq_eq_false_iff_ne];simp only [qam];omega
 ·rw [beq_eq_false_iff_ne];simp only [qam];omega
 ·rw [hnn];exact add_nat mid m (by omega)
 rw [IntKind.wrap_i64];simp only [qam];omega
theorem sym_core (ih:IHd d)(P X1 X2 Y1 Y2 Q:List Msg)(a m b mid nn n s p s0 r0 M:Nat)(ha:a=P.length)(hs:s=a+X1.length)(hm:m=s+X2.length)(he:nn-s=m+Y1.length)(hb:b=nn-s+Y2.length)(hms:mid=s+Y1.length)(hmr:nn-s=mid+X2.length)
  (h1:a+2<=m) (h2:m+2<=b) (h4:n<=100) (hmid:mid=(a+b) /2) (hnn:nn=mid+m) (hp:p+1=nn) (hb0:(m>mid/\s0=nn-b/\r0=mid)\/(¬m>mid/\s0=a/\r0=m))
  (hn:n=(P++(X1++X2)++(Y1++Y2)++Q).length) (dL:X1.length+Y1.length<=d) (dR:X2.length+Y2.length<=d) (hsX:Srt key ltS (X1++X2)) (hsY:Srt key ltS (Y1++Y2)) (hok:∀z,z∈P++(X1++X2)++(Y1++Y2)++Q->z.st.p.length<=60000) (hM:60400+d<=M)
  (o1:∀x,x∈X1->∀y,y∈Y2->ltS (key y) (key x)=false) (o2:∀y,y∈Y1->∀x,x∈X2->ltS (key y) (key x)=true)
  (hloop:run (callF tab ext M) 1 M (.loop (loopAt 237 4)) (y4H n a m b mid nn s0 r0 p (msgsC (P++(X1++X2)++(Y1++Y2)++Q)))=some (.exit 8,y4X n a m b mid nn s s p (msgsC (P++(X1++X2)++(Y1++Y2)++Q)))):
  ∃R,Mg key ltS ((X1++X2)++(Y1++Y2)) R/\R.length=(X1++X2).length+(Y1++Y2).length/\callF tab ext (M+1) (.fn 237) [.bs 0 0 n,nat a,nat m,nat b,.fn 110 []] [.row 10 (msgsC (P++(X1++X2)++(Y1++Y2)++Q))]=some (.tup [],[.row 10 (msgsC (P++R++Q))]):=by
 have pX:=List.pairwise_append.1 hsX;have pY:=List.pairwise_append.1 hsY;have hbn:b<=n:=by rw [hn];simp;omega
 obtain ⟨c1,c2,c3,c4,c5,c6,c7,c8,c9,c12,c13⟩:=sym_nums a m b mid nn n s p h1 h2 hbn h4 hmid hnn hp (by omega);have e0:P++(X1++X2)++(Y1++Y2)++Q=(P++X1)++X2++Y1++(Y2++Q):=by simp only [qau]
 have e1:(P++X1)++Y1++X2++(Y2++Q)=P++X1++Y1++(X2++Y2++Q):=by simp only [qau]
 have m1:∀z,z∈P++X1++Y1++(X2++Y2++Q)->z.st.p.length<=60000:=fun z hz=>hok z (by simp only [qaB] at hz ⊢;rcases hz with ((h|h)|h)|(h|h)|h<;>simp [h]);obtain ⟨Rl,ml,ll,hL,E12⟩:=sym_sub ih P X1 Y1 (X2++Y2++Q) a s mid n M ha hs hms (by rw [hn,e0,<-e1];simp;omega) dL pX.1 pY.1 h4 m1 hM;have e2:P++Rl++(X2++Y2++Q)=(P++Rl)++X2++Y2++Q:=by simp only [qau]
 have m2:∀z,z∈(P++Rl)++X2++Y2++Q->z.st.p.length<=60000:=fun z hz=>hok z (by
  simp only [qaB] at hz ⊢;rcases hz with (((h|h)|h)|h)|h;·simp [h]
  ·rcases qaB.1 (ml.mem.1 h) with h|h<;>simp [h]
  ·simp [h]
  ·simp [h]
  simp [h])
 obtain ⟨Rr,mr,lr,hR,E23⟩:=sym_sub ih (P++Rl) X2 Y2 Q mid (nn-s) b n M (by rw [qae,ll,hms,hs,ha];omega) hmr hb (by rw [hn,e0];simp;omega) dR pX.2.1 pY.2.1 h4 m2 hM;obtain ⟨hrot,E01⟩:=sym_rot (P++X1) X2 Y1 (Y2++Q) s m (nn-s) n M (by rw [qae,hs,ha]) hm he (by rw [hn,e0]) h4 (by omega);refine ⟨Rl++Rr,merge_cut linS hsX hsY o1 o2 ml mr,by simp;omega,?_⟩;have e3:P++(Rl++Rr)++Q=(P++Rl)++Rr++Q:=by simp only [qau]
 rw [e0] at hloop ⊢;rw [e1] at hrot E01;rw [e2] at hL;rw [e3];have F01:¬(s<m/\m<nn-s)->msgsC ((P++X1)++X2++Y1++(Y2++Q))=msgsC (P++X1++Y1++(X2++Y2++Q)):=fun h=>by rw [E01 h]
 have F12:¬(a<s/\s<mid)->msgsC (P++X1++Y1++(X2++Y2++Q))=msgsC ((P++Rl)++X2++Y2++Q):=fun h=>by rw [<-e2,<-E12 h];simp only [qau]
 have F23:¬(mid<nn-s/\nn-s<b)->msgsC ((P++Rl)++X2++Y2++Q)=msgsC ((P++Rl)++Rr++Q):=fun h=>by rw [<-E23 h];simp only [qau]
 rcases hb0 with ⟨hbig,hb1,hb2⟩|⟨hbig,hb1,hb2⟩;·have c10:decide (Int.ofNat m>Int.ofNat mid)=true:=decide_eq_true (by simp only [qam];omega);have c11:IntKind.i64.wrap (Int.ofNat nn-Int.ofNat b)=Int.ofNat (nn-b):=sub_eq (by omega) (by omega);rw [hb1,hb2] at hloop;exact sym_join_b n a m b mid nn s p M _ _ _ _ c1 c2 c3 c4 c5 c6 c7 c8 c9 c10 c11 c12 hloop c13 hrot F01 hL F12 hR F23
 have c10:decide (Int.ofNat m>Int.ofNat mid)=false:=decide_eq_false (by simp only [qam];omega);rw [hb1,hb2] at hloop;exact sym_join_s n a m b mid nn s p M _ _ _ _ c1 c2 c3 c4 c5 c6 c7 c8 c9 c10 c12 hloop c13 hrot F01 hL F12 hR F23
theorem sym_step (ih:IHd d):IHd (d+1):=by
 intro P X Y Q hd hX hY hsX hsY h100 hok N hN;by_cases x1:X.length=1;·obtain ⟨x,rfl⟩:=List.length_eq_one_iff.1 x1;exact sym_left P x Y Q hsY h100 hok N (by omega)
 by_cases y1:Y.length=1;·obtain ⟨y,rfl⟩:=List.length_eq_one_iff.1 y1;exact sym_right P X y Q x1 hX hsX h100 hok N (by omega)
 obtain ⟨M,rfl⟩:∃M,N=M+1:=⟨N-1,by omega⟩;have lX:0<X.length:=List.length_pos_iff.2 hX;have lY:0<Y.length:=List.length_pos_iff.2 hY;have hl:(P++X++Y++Q).length=P.length+X.length+Y.length+Q.length:=by simp;omega
 obtain ⟨a,ha⟩:∃a,a=P.length:=⟨_,rfl⟩;obtain ⟨m,hm⟩:∃m,m=a+X.length:=⟨_,rfl⟩;obtain ⟨b,hb⟩:∃b,b=m+Y.length:=⟨_,rfl⟩;obtain ⟨mid,hmid⟩:∃mid,mid=(a+b) /2:=⟨_,rfl⟩;obtain ⟨nn,hnn⟩:∃nn,nn=mid+m:=⟨_,rfl⟩;obtain ⟨p,hp⟩:∃p,p+1=nn:=⟨nn-1,by omega⟩;obtain ⟨n,hn⟩:∃n,n=(P++X++Y++Q).length:=⟨_,rfl⟩;have hcase:∃s0 r0,(m>mid/\s0=nn-b/\r0=mid)\/(¬m>mid/\s0=a/\r0=m):=by
  by_cases h:m>mid;·exact ⟨_,_,.inl ⟨h,rfl,rfl⟩⟩
  exact ⟨_,_,.inr ⟨h,rfl,rfl⟩⟩
 obtain ⟨s0,r0,hb0⟩:=hcase;obtain ⟨s,q1,q2,q3,q4,o1,o2,hloop⟩:=y4_search P X Y Q n a m b mid nn s0 r0 p ha hm hb hmid hnn hp (by omega) (by omega) hb0 hn (by omega) hok hsX hsY M (by omega);have k1:(X.take (s-a)).length=s-a:=by rw [qac];omega
 have k2:(X.drop (s-a)).length=m-s:=by rw [qaj];omega
 have k3:(Y.take (nn-s-m)).length=mid-s:=by rw [qac];omega
 have k4:(Y.drop (nn-s-m)).length=b-(nn-s):=by rw [qaj];omega
 have eX:=List.take_append_drop (s-a) X;have eY:=List.take_append_drop (nn-s-m) Y;generalize X.take (s-a)=X1 at*;generalize X.drop (s-a)=X2 at*;generalize Y.take (nn-s-m)=Y1 at*;generalize Y.drop (nn-s-m)=Y2 at*;subst eX;subst eY;rw [<-hn,<-ha,<-hm,<-hb];have h4:n<=100:=by omega
 clear h100 hl;simp only [qae] at hd hm hb lX lY;exact sym_core ih P X1 X2 Y1 Y2 Q a m b mid nn n s p s0 r0 M ha (by omega) (by omega) (by omega) (by omega) (by omega) (by omega) (by simp at x1;omega) (by simp at y1;omega) h4 hmid hnn hp hb0 hn (by omega) (by omega) hsX hsY hok (by omega) o1 o2 hloop
theorem sym_merge:∀d:Nat,IHd d:=by
 intro d;induction d with
 |zero=>intro P X Y Q hd hX;exact absurd (List.length_eq_zero_iff.1 (by omega)) hX
 |succ d ih=>exact sym_step ih
section
variable (n a b k:Nat) (R R':qaV) (N:Nat)
def t0H:St:=⟨[(0,.bs 0 0 n),(1,nat n),(2,.fn 110 []),(6,nat 20),(7,nat a),(8,nat b)],[.row 10 R]⟩
def t0X:St:=⟨[(0,.bs 0 0 n),(1,nat n),(2,.fn 110 []),(6,nat 20),(7,nat a),(8,nat b),(13,boolX false)],[.row 10 R]⟩
theorem t0_canon:canon 1 (t0H n a b R)=some (t0H n a b R):=by kernel_rfl
theorem t0_end (h:¬b<=n):run (callF tab ext N) 1 N (loopAt 162 0) (t0H n a b R)=some (.exit 0,t0X n a b R):=
 run_of [(13,.b false)] [] (pf1 (show decide (Int.ofNat b<=Int.ofNat n)=false from decide_eq_false (by simp only [qam];omega))) (lo':=[]) (by kernel_rfl)
theorem t0_step (h:b<=n)(hb:b<1000)(hc:callF tab ext N (.fn 236) [.bs 0 0 n,nat a,nat b,.fn 110 []] [.row 10 R]=some (.tup [],[.row 10 R'])):run (callF tab ext N) 1 N (loopAt 162 0) (t0H n a b R)=some (.norm,t0H n b (b+20) R'):=
 run_of [(13,.b true),(18,.r (.tup []) [.row 10 R']),(22,.i (Int.ofNat (b+20)))] []
  (pf3 (show decide (Int.ofNat b<=Int.ofNat n)=true from decide_eq_true (by simp only [qam];omega)) hc (add_nat b 20 (by omega))) (lo':=[]) (by kernel_rfl)
def t1H:St:=⟨[(0,.bs 0 0 n),(1,nat n),(2,.fn 110 []),(6,nat k)],[.row 10 R]⟩
def t1X:St:=⟨[(0,.bs 0 0 n),(1,nat n),(2,.fn 110 []),(6,nat k),(30,boolX false)],[.row 10 R]⟩
theorem t1_canon:canon 1 (t1H n k R)=some (t1H n k R):=by kernel_rfl
theorem t1_end (h:¬k<n):run (callF tab ext N) 1 N (loopAt 162 1) (t1H n k R)=some (.exit 2,t1X n k R):=
 run_of [(30,.b false)] [] (pf1 (nlt_nat h)) (lo':=[]) (by kernel_rfl)
def t2H:St:=⟨[(0,.bs 0 0 n),(1,nat n),(2,.fn 110 []),(6,nat k),(7,nat 0),(8,nat (2*k))],[.row 10 R]⟩
def t2X:St:=⟨[(0,.bs 0 0 n),(1,nat n),(2,.fn 110 []),(6,nat k),(7,nat 0),(8,nat (2*k)),(35,boolX false)],[.row 10 R]⟩
theorem t2_canon:canon 1 (t2H n k R)=some (t2H n k R):=by kernel_rfl
theorem t2_end (h:¬2*k<=n):run (callF tab ext N) 1 N (loopAt 162 2) (t2H n k R)=some (.exit 4,t2X n k R):=
 run_of [(35,.b false)] [] (pf1 (show decide (Int.ofNat (2*k)<=Int.ofNat n)=false from decide_eq_false (by simp only [qam];omega))) (lo':=[]) (by kernel_rfl)
theorem t1_step (h:k<n)(h2:¬2*k<=n)(hk:k<1000)(hN:0<N)(hc:callF tab ext N (.fn 237) [.bs 0 0 n,nat 0,nat k,nat n,.fn 110 []] [.row 10 R]=some (.tup [],[.row 10 R'])):run (callF tab ext N) 1 N (loopAt 162 1) (t1H n k R)=some (.norm,t1H n (2*k) R'):=by
 have m1:IntKind.i64.wrap (2*Int.ofNat k)=Int.ofNat (2*k):=by rw [IntKind.wrap_i64];simp only [qam];omega
 have m2:IntKind.i64.wrap (Int.ofNat k*2)=Int.ofNat (2*k):=by rw [IntKind.wrap_i64];simp only [qam];omega
 have ha:IntKind.i64.wrap (Int.ofNat 0+Int.ofNat k)=Int.ofNat k:=by rw [IntKind.wrap_i64];simp only [qam];omega
 have hl:run (callF tab ext N) 1 N (.loop (loopAt 162 2)) (t2H n k R)=some (.exit 4,t2X n k R):=
  loop_for (σ:=fun _=>t2H n k R) (k:=0) (t2_canon ..) (fun j hj=>by omega) (t2_end n k R N h2) (by simp) hN
 have h9:=pf7 (lt_nat h) m1 hl ha (lt_nat h) hc m2;exact run_of [(30,.b true),(32,.i (Int.ofNat (2*k))),(51,.i (Int.ofNat k)),(54,.b true),(60,.r (.tup []) [.row 10 R']),(62,.i (Int.ofNat (2*k)))] [(.exit 4,t2X n k R)] h9 (lo':=[]) (by kernel_rfl)
theorem stab_a (hN:0<N)(h:n<20)(hc:callF tab ext N (.fn 236) [.bs 0 0 n,nat 0,nat n,.fn 110 []] [.row 10 R]=some (.tup [],[.row 10 R'])):callF tab ext (N+1) (.fn 162) [.bs 0 0 n,nat n,.fn 110 []] [.row 10 R]=some (.tup [],[.row 10 R']):=by
 have h0:run (callF tab ext N) 1 N (.loop (loopAt 162 0)) (t0H n 0 20 R)=some (.exit 0,t0X n 0 20 R):=
  loop_for (σ:=fun _=>t0H n 0 20 R) (k:=0) (t0_canon ..) (fun j hj=>by omega) (t0_end n 0 20 R N (by omega)) (by simp) hN
 have h1:run (callF tab ext N) 1 N (.loop (loopAt 162 1)) (t1H n 20 R')=some (.exit 2,t1X n 20 R'):=
  loop_for (σ:=fun _=>t1H n 20 R') (k:=0) (t1_canon ..) (fun j hj=>by omega) (t1_end n 20 R' N (by omega)) (by simp) hN
 have h9:=pf3 h0 hc h1;exact callF_of [(27,.r (.tup []) [.row 10 R'])] [(.exit 0,t0X n 0 20 R),(.exit 2,t1X n 20 R')] h9 (by kernel_rfl)
end
section
variable (n:Nat) (R R' R'' R3:qaV) (N:Nat)
theorem stab_b0 (hN:1<N)(h:20<=n)(h4:n<40)(hc:callF tab ext N (.fn 236) [.bs 0 0 n,nat 0,nat 20,.fn 110 []] [.row 10 R]=some (.tup [],[.row 10 R'])):
  run (callF tab ext N) 1 N (.loop (loopAt 162 0)) (t0H n 0 20 R)=some (.exit 0,t0X n 20 40 R'):=
 loop_for (σ:=fun j=>if j=0 then t0H n 0 20 R else t0H n 20 40 R') (k:=1) (t0_canon ..) (fun j hj=>by
  obtain rfl:j=0:=by omega
  exact ⟨_,t0_step n 0 20 R R' N h (by omega) hc,t0_canon ..⟩) (t0_end n 20 40 R' N (by omega)) (by simp) hN
theorem stab_b (hN:1<N)(h:20=n)(hc:callF tab ext N (.fn 236) [.bs 0 0 n,nat 0,nat 20,.fn 110 []] [.row 10 R]=some (.tup [],[.row 10 R']))(hc2:callF tab ext N (.fn 236) [.bs 0 0 n,nat 20,nat n,.fn 110 []] [.row 10 R']=some (.tup [],[.row 10 R''])):
  callF tab ext (N+1) (.fn 162) [.bs 0 0 n,nat n,.fn 110 []] [.row 10 R]=some (.tup [],[.row 10 R'']):=by
 have h0:=stab_b0 n R R' N hN (by omega) (by omega) hc;have h1:run (callF tab ext N) 1 N (.loop (loopAt 162 1)) (t1H n 20 R'')=some (.exit 2,t1X n 20 R''):=
  loop_for (σ:=fun _=>t1H n 20 R'') (k:=0) (t1_canon ..) (fun j hj=>by omega) (t1_end n 20 R'' N (by omega)) (by simp) (by omega)
 have h9:=pf3 h0 hc2 h1;exact callF_of [(27,.r (.tup []) [.row 10 R''])] [(.exit 0,t0X n 20 40 R'),(.exit 2,t1X n 20 R'')] h9 (by kernel_rfl)
theorem stab_c (hN:1<N)(h:20<n)(h4:n<40)(hc:callF tab ext N (.fn 236) [.bs 0 0 n,nat 0,nat 20,.fn 110 []] [.row 10 R]=some (.tup [],[.row 10 R']))(hc2:callF tab ext N (.fn 236) [.bs 0 0 n,nat 20,nat n,.fn 110 []] [.row 10 R']=some (.tup [],[.row 10 R'']))
  (hc3:callF tab ext N (.fn 237) [.bs 0 0 n,nat 0,nat 20,nat n,.fn 110 []] [.row 10 R'']=some (.tup [],[.row 10 R3])):
  callF tab ext (N+1) (.fn 162) [.bs 0 0 n,nat n,.fn 110 []] [.row 10 R]=some (.tup [],[.row 10 R3]):=by
 have h0:=stab_b0 n R R' N hN (by omega) (by omega) hc;have h1:run (callF tab ext N) 1 N (.loop (loopAt 162 1)) (t1H n 20 R'')=some (.exit 2,t1X n 40 R3):=
  loop_for (σ:=fun j=>if j=0 then t1H n 20 R'' else t1H n 40 R3) (k:=1) (t1_canon ..) (fun j hj=>by
   obtain rfl:j=0:=by omega
   exact ⟨_,t1_step n 20 R'' R3 N h (by omega) (by omega) (by omega) hc3,t1_canon ..⟩) (t1_end n 40 R3 N (by omega)) (by simp) hN
 have h9:=pf3 h0 hc2 h1;exact callF_of [(27,.r (.tup []) [.row 10 R''])] [(.exit 0,t0X n 20 40 R'),(.exit 2,t1X n 40 R3)] h9 (by kernel_rfl)
end
theorem stable (L:List Msg)(h:L.length<40)(hok:∀m,m∈L->m.st.p.length<=60000)(N:Nat)(hN:60501<=N):
  ∃R,Mg key ltS L R/\R.length=L.length/\callF tab ext N (.fn 162) [.bs 0 0 L.length,nat L.length,.fn 110 []] [.row 10 (msgsC L)]=some (.tup [],[.row 10 (msgsC R)]):=by
 obtain ⟨M,rfl⟩:∃M,N=M+1:=⟨N-1,by omega⟩;by_cases h1:L.length<20;·obtain ⟨R,g1,g2,g3⟩:=ins_sort [] L [] (by simp;omega) (by simpa using hok) M (by omega);simp only [qaK,List.append_nil,qaS,Nat.zero_add] at g3;exact ⟨R,g1,g2,stab_a _ _ _ M (by omega) h1 g3⟩
 have eL:=List.take_append_drop 20 L;have l1:(L.take 20).length=20:=by rw [qac];omega
 have l2:(L.drop 20).length=L.length-20:=qaj;generalize L.take 20=A at eL l1;generalize L.drop 20=B at eL l2;subst eL;have hlen:(A++B).length=20+B.length:=by rw [qae,l1]
 obtain ⟨A',a1,a2,a3⟩:=ins_sort [] A B (by simp;omega) (by simpa using hok) M (by omega);simp only [qaK,qaS,Nat.zero_add] at a3;rw [l1] at a2;have hokA:∀m,m∈A'->m.st.p.length<=60000:=fun m hm=>hok m (qaB.2 (.inl (a1.mem.1 hm)));obtain ⟨B',b1,b2,b3⟩:=ins_sort A' B [] (by simp;omega) (by
  intro m hm;simp only [List.append_nil,qaB] at hm;rcases hm with hm|hm;·exact hokA m hm
  exact hok m (qaB.2 (.inr hm))) M (by omega)
 simp only [List.append_nil] at b3;have e1:(A'++B).length=(A++B).length:=by rw [qae,qae,a2,l1]
 rw [e1,a2] at b3;have e2:20+B.length=(A++B).length:=hlen.symm;rw [e2] at b3;rw [l1] at a3;by_cases h2:20=(A++B).length;·have hB:B=[]:=List.length_eq_zero_iff.1 (by omega);refine ⟨A'++B',?_,by simp;omega,stab_b _ _ _ _ M (by omega) h2 a3 b3⟩;subst hB;have:B'=[]:=List.length_eq_zero_iff.1 b2;subst this;simpa using a1
 have hB:B≠[]:=fun e=>by subst e;simp at h2;omega
 have hA':A'≠[]:=fun e=>by subst e;simp at a2
 have hB':B'≠[]:=fun e=>by subst e;exact hB (List.length_eq_zero_iff.1 (by simpa using b2.symm))
 obtain ⟨R,r1,r2,r3⟩:=sym_merge (A'.length+B'.length) [] A' B' [] (Nat.le_refl _) hA' hB' a1.srt b1.srt (by simp;omega) (by
  intro m hm;simp only [qaK,List.append_nil,qaB] at hm;rcases hm with hm|hm;·exact hokA m hm
  exact hok m (qaB.2 (.inr (b1.mem.1 hm)))) M (by omega)
 simp only [qaK,List.append_nil,qaS,Nat.zero_add] at r3;have e3:(A'++B').length=(A++B).length:=by rw [qae,qae,a2,l1,b2]
 have e4:A'.length+B'.length=(A++B).length:=by rw [<-qae,e3]
 rw [e3,e4,a2] at r3;exact ⟨R,Mg.join a1 b1 r1,by rw [r2,e4],stab_c _ _ _ _ _ M (by omega) (by omega) h a3 b3 r3⟩
theorem sort109 (L:List Msg)(h:L.length<40)(hok:∀m,m∈L->m.st.p.length<=60000)(N:Nat)(hN:60502<=N):
  ∃R,Mg key ltS L R/\R.length=L.length/\callF tab ext N (.fn 109) [.bs 0 0 L.length,.fn 110 []] [.row 10 (msgsC L)]=some (.tup [],[.row 10 (msgsC R)]):=by
 obtain ⟨M,rfl⟩:∃M,N=M+1:=⟨N-1,by omega⟩;obtain ⟨R,r1,r2,r3⟩:=stable L h hok M (by omega);refine ⟨R,r1,r2,?_⟩;generalize msgsC L=A at*;generalize msgsC R=B at*;generalize L.length=n at*;exact callF_of [(8,.r (.tup []) [.row 10 B])] [] (pf1 r3) (by kernel_rfl)
section
variable (l acc:qaV) (k m i:Nat) (x:List X)
def soH:St:=⟨[(3,.bs 0 0 k),(6,.sl false 10 l),(7,nat m),(8,nat i)],[.row 10 acc]⟩
def soH':St:=⟨[(3,.bs 2 0 (k+1)),(6,.sl false 10 l),(7,nat m),(8,nat (i+1))],[.dead,.var x,.row 10 (acc++[x])]⟩
def soE:St:=⟨[(3,.bs 0 0 k),(6,.sl false 10 l),(7,nat m),(8,nat m),(9,boolX false)],[.row 10 acc]⟩
theorem so_canon:canon 0 (soH l acc k m i)=some (soH l acc k m i):=by kernel_rfl
theorem so_canon':canon 0 (soH' l acc k m i x)=some (soH l (acc++[x]) (k+1) m (i+1)):=by kernel_rfl
end
theorem so_loop (M:Nat)(hM:190010<=M)(items:List Msg)(hok:∀m,m∈items->m.ok)(hl:items.length<=60000){τ:St}(hτ:canon 0 τ=some (soH (msgsC items) [] 0 (msgsC items).length 0)):
  run (callF tab ext M) 0 M (.loop (loopAt 63 0)) τ=some (.exit 0,soE (msgsC items) (msgsC items) items.length (msgsC items).length):=by
 have hn:=msgsC_length items;refine loop_for (σ:=fun i=>soH (msgsC items) (msgsC (items.take i)) (items.take i).length (msgsC items).length i) (k:=(msgsC items).length) (by rw [List.take_zero];exact hτ) (fun i hi=>?_) ?_ (by simp) (by omega)
 ·have hi':i<items.length:=by omega
  have hg:=msgsC_get hi';have hc:=clone_msg M items[i] (hok _ (qal hi')) (by omega);have hlen:(items.take i).length=i:=by rw [qac];omega
  have hml:=msgsC_length (items.take i);have e1:items.take (i+1)=items.take i++[items[i]]:=qaP hi';have e2:msgsC (items.take i++[items[i]])=msgsC (items.take i)++[items[i].cells]:=by simp only [msgsC,List.map_append,qaO,List.map_nil]
  have e3:(items.take i++[items[i]]).length=(items.take i).length+1:=qae.trans rfl;rw [e1,e2,e3];generalize items[i]=x at hg hc;obtain ⟨⟨a1,a2⟩,a3,a4,a5,a6,a7,a8,a9,a0⟩:=x;generalize items.take i=q at hlen hml;exact ⟨soH' (msgsC items) (msgsC q) q.length (msgsC items).length i (Msg.mk ⟨a1,a2⟩ a3 a4 (Val.mk a5 a6 a7 a8 a9 a0)).cells,
   run_of [(9,.b true),(10,.e (Msg.mk ⟨a1,a2⟩ a3 a4 (Val.mk a5 a6 a7 a8 a9 a0)).cells),(14,.p (.agg (Msg.mk ⟨a1,a2⟩ a3 a4 (Val.mk a5 a6 a7 a8 a9 a0)).cells)),(16,.app),(17,.i (Int.ofNat (i+1)))] []
    (pf5 (lt_nat hi) hg hc (app_ok (acc:=msgsC q) q.length 0 152 (by omega) (by omega) (by omega)) (next_nat (j:=i) (by omega))) (lo':=[]) (by kernel_rfl),so_canon' ..⟩
 have e:items.take (msgsC items).length=items:=List.take_of_length_le (by omega);rw [e];exact run_of [(9,.b false)] [] (pf1 (nlt_nat (qar (msgsC items).length))) (lo':=[]) (by kernel_rfl)
theorem sort_pure (L:List Msg)(h:L.length<40)(hok:∀m,m∈L->m.ok)(N:Nat)(hN:190020<=N):
  ∃R,Mg key ltS L R/\R.length=L.length/\Gam.pureD (callF tab ext N) 63 [.sl false 10 (msgsC L)]=some (.sl false 10 (msgsC R)):=by
 obtain ⟨M,rfl⟩:∃M,N=M+1:=⟨N-1,by omega⟩;have hl:=so_loop M (by omega) L hok (by omega) (τ:=soH (msgsC L) [] 0 (msgsC L).length 0) (so_canon ..);obtain ⟨R,r1,r2,r3⟩:=sort109 L h (fun m hm=>(hok m hm).st.p) M (by omega);refine ⟨R,r1,r2,?_⟩;have hml:=msgsC_length R;have hd:(X.bs 0 0 L.length).data [.row 10 (msgsC R)] false=some (.sl false 10 (msgsC R)):=by simp only [X.data,rowOf,List.getElem?_cons_zero,Nat.zero_add,hml,r2,Nat.le_refl,if_true,qaG,List.drop_zero];rw [List.take_of_length_le (by omega)]
 generalize msgsC L=A at*;generalize msgsC R=B at*;generalize L.length=n at*;have h9:=pf2 hl r3;exact pure_of [(19,.r (.tup []) [.row 10 B])] [(.exit 0,soE A A n A.length)] h9 (x:=.bs 0 0 n) (bx:=[.row 10 B]) (by kernel_rfl) hd
theorem waits_pure (s:Stt)(hs:s.small)(h:(accOf s.slots).length<40)(hok:∀m,m∈accOf s.slots->m.ok)(N:Nat)(hN:190030<=N):
  ∃R,Mg key ltS (accOf s.slots) R/\R.length=(accOf s.slots).length/\Gam.pureD (callF tab ext N) 21 [.agg s.cells]=some (.sl false 10 (msgsC R)):=by
 obtain ⟨M,rfl⟩:∃M,N=M+1:=⟨N-1,by omega⟩;obtain ⟨R,r1,r2,r3⟩:=sort_pure _ h hok M (by omega);have hw:=waiting_pure s hs M (by omega);refine ⟨R,r1,r2,?_⟩;obtain ⟨a,b,ss⟩:=s;dsimp only at hw r3 ⊢;generalize msgsC (accOf ss)=A at*;generalize msgsC R=B at*;have h9:=pf2 hw r3;exact pure_of [(4,.p (.sl false 10 A)),(5,.p (.sl false 10 B))] [] h9 (x:=.sl false 10 B) (bx:=[]) (by kernel_rfl) rfl
end Go.Proofs.YtonnphbfclaigaaGreatDoor.Sy
namespace Go.Proofs.YtonnphbfclaigaaGreatDoor
open Go.Em
set_option maxRecDepth 100000
section
variable (g:Nat) (l m:qaV) (j:Nat)
end
section
variable (g:Nat) (l m:qaV) (j:Nat)
end
section
variable (l m:qaV) (j:Nat)
end
section
variable (n t n' t':Int) (sl ou rq ft lt sl' ou' rq' ft' lt':qaV) (j:Nat)
end
theorem vEq_refl (a:Val):vEq a a=true:=by unfold vEq;rw [cmpV_refl];rfl
theorem sEq_refl (a:Stp):sEq a a=true:=by unfold sEq;rw [cmpS_refl];rfl
theorem mEq_refl (a:Msg):mEq a a=true:=by unfold mEq;rw [sEq_refl,vEq_refl,eqL_refl (fun x _=>by simp)];simp
end Go.Proofs.YtonnphbfclaigaaGreatDoor
namespace Go.Proofs.YtonnphbfclaigaaGreatDoor.Wt
open Go Go.Em Go.Proofs.YtonnphbfclaigaaGreatDoor Go.Proofs.YtonnphbfclaigaaGreatDoor.Sy
set_option maxRecDepth 100000
variable {n:Nat}
section
variable (g:Bool) (r w want:qaV) (i k:Nat)
def lH:St:=⟨[(3,.sl false 10 r),(4,.sl false 10 w),(5,.sl g 10 want),(6,nat i)],[]⟩
def lX:St:=⟨[(3,.sl false 10 r),(4,.sl false 10 w),(5,.sl g 10 want),(6,nat i),(33,boolX false)],[]⟩
def iH:St:=⟨[(3,.sl false 10 r),(4,.sl false 10 w),(5,.sl g 10 want),(6,nat i),(7,nat k)],[]⟩
def iX:St:=⟨[(3,.sl false 10 r),(4,.sl false 10 w),(5,.sl g 10 want),(6,nat i),(7,nat k),(54,boolX false)],[]⟩
theorem l_canon:canon 0 (lH g r w want i)=some (lH g r w want i):=by kernel_rfl
theorem i_canon:canon 0 (iH g r w want i k)=some (iH g r w want i k):=by kernel_rfl
theorem l_canon':canon 0 ⟨[(3,.sl false 10 r),(4,.sl false 10 w),(5,.sl g 10 want),(6,nat i)],[.dead,.dead]⟩=some (lH g r w want i):=by kernel_rfl
theorem l_canon'':canon 0 ⟨[(3,.sl false 10 r),(4,.sl false 10 w),(5,.sl g 10 want),(6,nat i)],[.dead,.dead,.dead]⟩=some (lH g r w want i):=by kernel_rfl
theorem l_end (h:¬i<w.length)(N:Nat):run (callF tab ext N) 0 N (loopAt 5 0) (lH g r w want i)=some (.exit 0,lX g r w want i):=
 run_of [(33,.b false)] [] (pf1 (nlt_nat h)) (lo':=[]) (by kernel_rfl)
theorem i_end0 (h:¬0<k)(N:Nat):run (callF tab ext N) 0 N (loopAt 5 1) (iH g r w want i k)=some (.exit 2,iX g r w want i k):=
 run_of [(39,.b false)] [] (pf1 (show decide (Int.ofNat k>0)=false from decide_eq_false (by simp only [qam];omega))) (lo':=[]) (by kernel_rfl)
end
theorem i_step (g:Bool)(r:qaV)(W S:List Msg)(i k:Nat)(x m:Msg)(gx:S[k]?=some x)(gm:W[i]?=some m)(hx:x.st.p.length<=60000)(hk:k<1000000)(N:Nat)(hN:60100<=N):
  (ltS (key m) (key x)=true->run (callF tab ext N) 0 N (loopAt 5 1) (iH g r (msgsC W) (msgsC S) i (k+1))=some (.norm,iH g r (msgsC W) (msgsC S) i k))/\
  (ltS (key m) (key x)=false->run (callF tab ext N) 0 N (loopAt 5 1) (iH g r (msgsC W) (msgsC S) i (k+1))=some (.exit 2,iX g r (msgsC W) (msgsC S) i (k+1))):=by
 have h1:decide (Int.ofNat (k+1)>0)=true:=decide_eq_true (by simp only [qam];omega);have hw:IntKind.i64.wrap (Int.ofNat (k+1)-1)=Int.ofNat k:=by rw [IntKind.wrap_i64];simp only [qam];omega
 have he:(msgsC S)[(Int.ofNat k).toNat]?=some x.cells:=by show (S.map Msg.cells)[k]?=_;rw [qat,gx];rfl
 have he2:(msgsC W)[(Int.ofNat i).toNat]?=some m.cells:=by show (W.map Msg.cells)[i]?=_;rw [qat,gm];rfl
 have hc:=cmp_stamp N x.st m.st (by omega) (by omega);have hq:=cmp_gt x.st m.st;rw [show ltS (m.st.e,m.st.p) (x.st.e,x.st.p)=ltS (key m) (key x) from rfl] at hq;rw [<-hq];obtain ⟨⟨a1,a2⟩,a3,a4,a5,a6,a7,a8,a9,a0⟩:=x;obtain ⟨⟨b1,b2⟩,b3,b4,b5,b6,b7,b8,b9,b0⟩:=m;dsimp only at hc;dsimp only;generalize cmpS ⟨a1,a2⟩ ⟨b1,b2⟩=q at hc;generalize msgsC W=w at*;generalize msgsC S=s at*;constructor;·intro h2;have h9:=pf7 h1 hw he he2 hc h2 hw;exact run_of [(39,.b true),(43,.i (Int.ofNat k)),(44,.e (Msg.mk ⟨a1,a2⟩ a3 a4 (.mk a5 a6 a7 a8 a9 a0)).cells),(49,.e (Msg.mk ⟨b1,b2⟩ b3 b4 (.mk b5 b6 b7 b8 b9 b0)).cells),(52,.p (num q)),(53,.b true),(56,.i (Int.ofNat k))] [] h9 (lo':=[]) (by kernel_rfl)
 intro h2;have h9:=pf6 h1 hw he he2 hc h2;exact run_of [(39,.b true),(43,.i (Int.ofNat k)),(44,.e (Msg.mk ⟨a1,a2⟩ a3 a4 (.mk a5 a6 a7 a8 a9 a0)).cells),(49,.e (Msg.mk ⟨b1,b2⟩ b3 b4 (.mk b5 b6 b7 b8 b9 b0)).cells),(52,.p (num q)),(53,.b false)] [] h9 (lo':=[]) (by kernel_rfl)
theorem i_loop (g:Bool)(r:qaV)(W S:List Msg)(i:Nat)(m:Msg)(gm:W[i]?=some m)(hok:∀x,x∈S->x.st.p.length<=60000)(hl:S.length<1000000)(N:Nat)(hN:60100<=N):∀(k F:Nat) (τ:St),k<=S.length->k<F->(∀x,x∈S.drop k->ltS (key m) (key x)=true)->canon 0 τ=some (iH g r (msgsC W) (msgsC S) i k)->
  ∃c,c<=S.length/\(∀x,x∈S.drop c->ltS (key m) (key x)=true)/\(c=0\/∃x,S[c-1]?=some x/\ltS (key m) (key x)=false)/\iter 0 (run (callF tab ext N) 0 N (loopAt 5 1)) F τ=some (.exit 2,iX g r (msgsC W) (msgsC S) i c)
 |0,F,τ,hk,hF,hd,hτ=>by obtain ⟨F,rfl⟩:∃G,F=G+1:=⟨F-1,by omega⟩;exact ⟨0,hk,hd,.inl rfl,iter_end hτ (i_end0 _ _ _ _ _ _ (qar 0) N) (by simp)⟩
 |k+1,F,τ,hk,hF,hd,hτ=>by
  obtain ⟨F,rfl⟩:∃G,F=G+1:=⟨F-1,by omega⟩;have hk':k<S.length:=by omega
  have gx:S[k]?=some S[k]:=qad hk';have st:=i_step g r W S i k S[k] m gx gm (hok _ (qal hk')) (by omega) N hN;cases hq:ltS (key m) (key S[k]) with
  |true=>
   obtain ⟨c,c1,c2,c3,c4⟩:=i_loop g r W S i m gm hok hl N hN k F _ (by omega) (by omega) (by
    intro x hx;rw [List.drop_eq_getElem_cons hk'] at hx;rcases qaz.1 hx with e|e;·rw [e];exact hq
    exact hd x e) (i_canon ..)
   exact ⟨c,c1,c2,c3,iter_step hτ (st.1 hq) c4⟩
  |false=>exact ⟨k+1,hk,hd,.inr ⟨S[k],by rw [Nat.add_sub_cancel];exact gx,hq⟩,iter_end hτ (st.2 hq) (by simp)⟩
theorem room_msg (h:n<1000000):roomOk n (151+1)=true:=room_of (by have:n*(151+1)<=1000000*(151+1):=qax _ (by omega);omega) (by omega)
theorem l_step (g:Bool)(r w S:qaV)(i k:Nat)(m:Msg)(hi:i<100000)(hm:w[i]?=some m.cells)(hk:k<=S.length)(hS:S.length<100000)(N:Nat)
  (hl:run (callF tab ext N) 0 N (.loop (loopAt 5 1)) (iH g r w S i S.length)=some (.exit 2,iX g r w S i k)):
  ∃υ,run (callF tab ext N) 0 N (loopAt 5 0) (lH g r w S i)=some (.norm,υ)/\canon 0 υ=some (lH false r w (S.take k++m.cells::S.drop k) (i+1)):=by
 have hlt:i<w.length:=by
  rcases Nat.lt_or_ge i w.length with h|h;·exact h
  rw [qaL h] at hm;cases hm
 have h1:=lt_nat hlt;have hw:=next_nat (j:=i) (by omega);have eD:List.take S.length S=S:=List.take_of_length_le (Nat.le_refl _);have h70:(Int.ofNat k).toNat<=S.length/\S.length<=S.length:=⟨hk,Nat.le_refl _⟩;have he:w[(Int.ofNat i).toNat]?=some m.cells:=hm;rcases Nat.eq_zero_or_pos k with h0|h0
 ·subst h0;have h71:0+1=[m.cells].length/\roomOk (1+(List.drop (Int.ofNat 0).toNat (List.take S.length S)).length) (151+1)=true/\memN 0 []=false:=⟨rfl,room_msg (by rw [eD];simp;omega),rfl⟩;have hg:0+(1+(List.drop (Int.ofNat 0).toNat (List.take S.length S)).length)<=(List.drop 0 [m.cells]++List.drop (Int.ofNat 0).toNat (List.take S.length S)).length:=by simp;omega
  have eE:List.take (1+(List.drop (Int.ofNat 0).toNat (List.take S.length S)).length) (List.drop 0 (List.drop 0 [m.cells]++List.drop (Int.ofNat 0).toNat (List.take S.length S)))=S.take 0++m.cells::S.drop 0:=by rw [eD];rw [List.take_of_length_le (by simp;omega)];simp
  obtain ⟨⟨a1,a2⟩,a3,a4,a5,a6,a7,a8,a9,a0⟩:=m;have h9:=pf7 h1 hl he h70 h71 hg hw;refine ⟨_,run_of [(33,.b true),(64,.e (Msg.mk ⟨a1,a2⟩ a3 a4 (.mk a5 a6 a7 a8 a9 a0)).cells),(70,.cut),(71,.app),(35,.i (Int.ofNat (i+1)))] [(.exit 2,iX g r w S i 0)] h9 (lo':=[])
   (σ':=⟨[(3,.sl false 10 r),(4,.sl false 10 w),(5,.sl false 10 (List.take (1+(List.drop (Int.ofNat 0).toNat (List.take S.length S)).length) (List.drop 0 (List.drop 0 [(Msg.mk ⟨a1,a2⟩ a3 a4 (.mk a5 a6 a7 a8 a9 a0)).cells]++List.drop (Int.ofNat 0).toNat (List.take S.length S))))),(6,nat (i+1))],[.dead,.dead]⟩) (by kernel_rfl),?_⟩
  rw [eE];exact l_canon' ..
 have lA:(List.drop 0 (List.take (Int.ofNat k).toNat S)).length=k:=by show (List.take k S).length=k;rw [qac];omega
 have h60:0<=(Int.ofNat k).toNat/\(Int.ofNat k).toNat<=S.length:=⟨Nat.zero_le _,hk⟩;have h61:(List.drop 0 (List.take (Int.ofNat k).toNat S)).isEmpty=false/\roomOk (([]:qaV).length+(List.drop 0 (List.take (Int.ofNat k).toNat S)).length) (151+1)=true:=by
  rw [lA];refine ⟨?_,room_msg (by simp;omega)⟩;cases hh:(List.drop 0 (List.take (Int.ofNat k).toNat S)) with
  |nil=>rw [hh] at lA;simp at lA;omega
  |cons a b=>rfl
 have h67:0+(0+(List.drop 0 (List.take (Int.ofNat k).toNat S)).length)=(([]:qaV)++List.drop 0 (List.take (Int.ofNat k).toNat S)).length/\roomOk (0+(List.drop 0 (List.take (Int.ofNat k).toNat S)).length+[m.cells].length) (151+1)=true/\memN 0 []=false:=
  ⟨by simp,room_msg (by rw [lA];simp;omega),rfl⟩
 have h71:0+(0+(List.drop 0 (List.take (Int.ofNat k).toNat S)).length+1)=(List.drop 0 (([]:qaV)++List.drop 0 (List.take (Int.ofNat k).toNat S))++[m.cells]).length/\roomOk (0+(List.drop 0 (List.take (Int.ofNat k).toNat S)).length+1+(List.drop (Int.ofNat k).toNat (List.take S.length S)).length) (151+1)=true/\memN 1 []=false:=
  ⟨by simp,room_msg (by rw [lA,eD,qaj];simp only [qam,Int.toNat_natCast];omega),rfl⟩
 have hg:0+(0+(List.drop 0 (List.take (Int.ofNat k).toNat S)).length+1+(List.drop (Int.ofNat k).toNat (List.take S.length S)).length)<=(List.drop 0 (List.drop 0 (([]:qaV)++List.drop 0 (List.take (Int.ofNat k).toNat S))++[m.cells])++List.drop (Int.ofNat k).toNat (List.take S.length S)).length:=by simp;omega
 have eE:List.take (0+(List.drop 0 (List.take (Int.ofNat k).toNat S)).length+1+(List.drop (Int.ofNat k).toNat (List.take S.length S)).length) (List.drop 0 (List.drop 0 (List.drop 0 (([]:qaV)++List.drop 0 (List.take (Int.ofNat k).toNat S))++[m.cells])++List.drop (Int.ofNat k).toNat (List.take S.length S)))=S.take k++m.cells::S.drop k:=by rw [eD];rw [List.take_of_length_le (by simp;omega)];simp
 obtain ⟨⟨a1,a2⟩,a3,a4,a5,a6,a7,a8,a9,a0⟩:=m;have h9:=pf10 h1 hl h60 h61 he h67 h70 h71 hg hw;refine ⟨_,run_of [(33,.b true),(60,.cut),(61,.fresh),(64,.e (Msg.mk ⟨a1,a2⟩ a3 a4 (.mk a5 a6 a7 a8 a9 a0)).cells),(67,.app),(70,.cut),(71,.app),(35,.i (Int.ofNat (i+1)))] [(.exit 2,iX g r w S i k)] h9 (lo':=[])
  (σ':=⟨[(3,.sl false 10 r),(4,.sl false 10 w),(5,.sl false 10 (List.take (0+(List.drop 0 (List.take (Int.ofNat k).toNat S)).length+1+(List.drop (Int.ofNat k).toNat (List.take S.length S)).length) (List.drop 0 (List.drop 0 (List.drop 0 (([]:qaV)++List.drop 0 (List.take (Int.ofNat k).toNat S))++[(Msg.mk ⟨a1,a2⟩ a3 a4 (.mk a5 a6 a7 a8 a9 a0)).cells])++List.drop (Int.ofNat k).toNat (List.take S.length S))))),(6,nat (i+1))],[.dead,.dead,.dead]⟩) (by kernel_rfl),?_⟩
 rw [eE];exact l_canon'' ..
theorem w_loop (r:qaV)(W:List Msg)(hok:∀m,m∈W->m.st.p.length<=60000)(hW:W.length<1000)(N:Nat)(hN:60100<=N):∀(d i:Nat) (S:List Msg) (g:Bool) (F:Nat) (τ:St),i+d=W.length->Mg key ltS (W.take i) S->S.length=i->d<F->canon 0 τ=some (lH g r (msgsC W) (msgsC S) i)->
  ∃S' g',Mg key ltS W S'/\S'.length=W.length/\iter 0 (run (callF tab ext N) 0 N (loopAt 5 0)) F τ=some (.exit 0,lX g' r (msgsC W) (msgsC S') W.length)
 |0,i,S,g,F,τ,hi,hm,hS,hF,hτ=>by
  obtain ⟨F,rfl⟩:∃G,F=G+1:=⟨F-1,by omega⟩;obtain rfl:i=W.length:=by omega
  rw [List.take_of_length_le (Nat.le_refl _)] at hm;have hl:=msgsC_length W;exact ⟨S,g,hm,hS,iter_end hτ (l_end _ _ _ _ _ (by omega) N) (by simp)⟩
 |d+1,i,S,g,F,τ,hi,hm,hS,hF,hτ=>by
  obtain ⟨F,rfl⟩:∃G,F=G+1:=⟨F-1,by omega⟩;have hi':i<W.length:=by omega
  have gm:W[i]?=some W[i]:=qad hi';have hSok:∀x,x∈S->x.st.p.length<=60000:=fun x hx=>hok x (List.mem_of_mem_take (hm.mem.1 hx));have lS:=msgsC_length S;obtain ⟨c,c1,c2,c3,c4⟩:=i_loop g r W S i W[i] gm hSok (by omega) N hN S.length N (iH g r (msgsC W) (msgsC S) i S.length) (Nat.le_refl _) (by omega) (by rw [List.drop_length];intro x hx;cases hx) (i_canon ..);have hrun:run (callF tab ext N) 0 N (.loop (loopAt 5 1)) (iH g r (msgsC W) (msgsC S) i (msgsC S).length)=some (.exit 2,iX g r (msgsC W) (msgsC S) i c):=by rw [lS];exact c4
  have hmc:(msgsC W)[i]?=some W[i].cells:=by show (W.map Msg.cells)[i]?=_;rw [qat,gm];rfl
  obtain ⟨υ,u1,u2⟩:=l_step g r (msgsC W) (msgsC S) i c W[i] (by omega) hmc (by omega) (by omega) N hrun;have t1:=split_le hm.srt (k:=key W[i]) (c:=c) c3;have hins:=Mg.insert linS (X1:=S.take c) (X2:=S.drop c) (by rw [List.take_append_drop];exact hm) t1 c2;have et:W.take i++[W[i]]=W.take (i+1):=(qaP hi').symm;rw [et] at hins;have e2:(msgsC S).take c++W[i].cells::(msgsC S).drop c=msgsC (S.take c++W[i]::S.drop c):=by simp [msgsC,List.map_take,List.map_drop]
  rw [e2] at u2;obtain ⟨S',g',s1,s2,s3⟩:=w_loop r W hok hW N hN d (i+1) (S.take c++W[i]::S.drop c) false F υ (by omega) hins (by simp;omega) (by omega) u2;exact ⟨S',g',s1,s2,iter_step hτ u1 s3⟩
theorem held23 (s:Stt)(hs:s.small)(N:Nat)(hN:60030<=N):Gam.pureD (callF tab ext N) 23 [.agg s.cells]=some (nat (accOf s.slots).length):=by obtain ⟨M,rfl⟩:∃M,N=M+1:=⟨N-1,by omega⟩;have h:=held_pure s hs M (by omega);obtain ⟨a,b,ss⟩:=s;dsimp only at h ⊢;generalize (accOf ss).length=k at*;exact pure_of [(4,.p (nat k))] [] (pf1 h) (x:=nat k) (bx:=[]) (by kernel_rfl) rfl
theorem acc_items {l:List Slt}:(∀x,x∈l->x.items.length<=n)->(accOf l).length<=n*l.length:=by
 induction l with
 |nil=>intro _;simp [accOf]
 |cons a t ih=>intro h;have h1:=h a qaR;have h2:=ih fun x hx=>h x (qaT _ hx);simp only [accOf,List.flatMap_cons,qae,qaI,Nat.mul_add] at*;omega
theorem shortS_24 (s:Stt):(accOf (shortS s).slots).length<=24:=by
 have hl:(shortS s).slots.length<=6:=by show ((s.slots.take 6).map shortL).length<=6;rw [qay,qac];omega
 have:=acc_items (l:=(shortS s).slots) (n:=4) fun x hx=>by obtain ⟨y,hy,rfl⟩:=qaC.1 hx;show ((y.items.take 4).map shortM).length<=4;rw [qay,qac];omega
 omega
theorem accOf_ok {s:Stt}(hs:s.small):∀m,m∈accOf s.slots->m.ok:=fun m hm=>by obtain ⟨x,hx,hm⟩:=List.mem_flatMap.1 hm;exact (hs.slot x hx).1.item m hm
theorem waits_all (s:Stt)(N:Nat)(hN:191001<=N):Gam.pureD (callF tab ext N) 5 [.agg s.cells]=some (.v (.bool true)):=by
 obtain ⟨M,rfl⟩:∃M,N=M+1001:=⟨N-1001,by omega⟩;have h8:=short_state s (M+1000) (by omega);have hs:=shortS_small s;have h24:=shortS_24 s;have hok:=accOf_ok hs;have hk:=known39 M;generalize shortS s=t at h8 hs h24 hok;have hw:=waiting_pure t hs (M+1000) (by omega);have hh:=held23 t hs (M+1000) (by omega);obtain ⟨R,r1,r2,r3⟩:=waits_pure t hs (by omega) hok (M+1000) (by omega);obtain ⟨S,g,s1,s2,s3⟩:=w_loop (msgsC R) (accOf t.slots) (fun m hm=>(hok m hm).st.p) (by omega) (M+1000) (by omega) (accOf t.slots).length 0 [] true (M+1000) (lH true (msgsC R) (msgsC (accOf t.slots)) [] 0) (by omega) (Mg.self (by simp [Srt])) rfl (by omega) (l_canon ..);have e:=Mg.uniq linS s1 r1;subst e;have hsame:=sa25_pure (M+999) S S mEq (fun a b ha _=>msg_eq (M+999) a b (hok a (s1.mem.1 ha)) (by omega)) (by omega) (by omega);rw [eqL_refl (fun x _=>mEq_refl x)] at hsame;have s3:run (callF tab ext (M+1000)) 0 (M+1000) (.loop (loopAt 5 0)) (lH true (msgsC S) (msgsC (accOf t.slots)) [] 0)=some (.exit 0,lX g (msgsC S) (msgsC (accOf t.slots)) (msgsC S) (accOf t.slots).length):=s3;have lW:=msgsC_length (accOf t.slots);have lS:=msgsC_length S;have q1:(!(Int.ofNat (msgsC S).length==Int.ofNat (msgsC (accOf t.slots)).length))=false:=by rw [lW,lS,s2];simp
 have q2:(!(Int.ofNat (accOf t.slots).length==Int.ofNat (msgsC (accOf t.slots)).length))=false:=by rw [lW];simp
 obtain ⟨a,b,ss⟩:=s;obtain ⟨c,d,tt⟩:=t;dsimp only at*;generalize msgsC (accOf tt)=w at*;generalize msgsC S=R at*;generalize (accOf tt).length=n at*;have h9:=pf9 h8 r3 hw hk q1 hh q2 s3 hsame;exact pure_of [(9,.p (.agg (Stt.mk c d tt).cells)),(11,.p (.sl false 10 R)),(13,.p (.sl false 10 w)),(14,.p (.v (.bool true))),(21,.b false),(25,.p (nat n)),(28,.b false),(74,.p (boolX true))] [(.exit 0,lX g R w R n)] h9 (x:=.v (.bool true)) (bx:=[]) (by kernel_rfl) rfl
end Go.Proofs.YtonnphbfclaigaaGreatDoor.Wt
