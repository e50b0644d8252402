/- A message's fate, and its environment. -/
import Derived.Test.YthfchdkjeddijaaGreatDoorK11
import Derived.Test.YthfchdkjeddijaaGreatDoorK12
import Derived.Test.YthfchdkjeddijaaGreatDoorK14
import Derived.Test.YthfchdkjeddijaaGreatDoorK15
import Derived.Test.YthfchdkjeddijaaGreatDoorK18
namespace Go.Proofs.YthfchdkjeddijaaGreatDoor
open Go.Em
set_option maxRecDepth 100000

theorem fate_pure (m : Msg) (hm : m.ok) (name r : ByteArray) (N : Nat) (hN : 300 ≤ N) : Gam.pureD (callF tab ext N) 145 [.agg m.cells, strX name, num 4, .sl false 1 [[.fn 146 [.dp [strX r]]]]] = some (.agg (Fte.mk m.st 4 name [] r).cells) := by
  obtain ⟨M, rfl⟩ : ∃ M, N = M + 101 := ⟨N - 101, by omega⟩
  have h1 := clone_stamp (M + 98) m.st hm.st
  obtain ⟨⟨e, p⟩, ms, o, ⟨a1, a2, a3, a4, a5, a6⟩⟩ := m
  exact pure_of [(14, .p (.agg (Stp.mk e p).cells))] [] (pf1 h1) (x := .agg [num e, .sl false 1 (intsC p), num 4, strX name, .sl true 2 [], strX r]) (bx := []) (by kernel_rfl) rfl
/-- message.Rejected. -/
theorem rejected_pure (m : Msg) (hm : m.ok) (name r : ByteArray) (N : Nat) (hN : 310 ≤ N) : Gam.pureD (callF tab ext N) 82 [.agg m.cells, strX name, strX r] = some (.agg (Fte.mk m.st 4 name [] r).cells) := by
  obtain ⟨M, rfl⟩ : ∃ M, N = M + 1 := ⟨N - 1, by omega⟩
  have h1 := fate_pure m hm name r M (by omega)
  obtain ⟨⟨e, p⟩, ms, o, ⟨a1, a2, a3, a4, a5, a6⟩⟩ := m
  exact pure_of [(11, .p (.agg (Fte.mk ⟨e, p⟩ 4 name [] r).cells))] [] (pf1 h1) (x := .agg (Fte.mk ⟨e, p⟩ 4 name [] r).cells) (bx := []) (by kernel_rfl) rfl
/-- A record of one field, which is left out if it is Null. -/
def rec1 (nm : ByteArray) (b : Val) : Val := .mk 9 0 0 ⟨#[]⟩ [] (if nullV b then [] else [(nm, b)])
theorem rec1_size (nm : ByteArray) (b : Val) : (rec1 nm b).size ≤ b.size + 2 := by
  unfold rec1
  split
  · simp [Val.size, sizeL, sizeF]
  · simp [Val.size, sizeL, sizeF]
theorem rec1_pure (nm : ByteArray) (b : Val) (hb : b.size < 100000) (N : Nat) (hN : 200400 ≤ N) : Gam.pureD (callF tab ext N) 48 [.sl false 7 [strX nm :: b.cells]] = some (.agg (rec1 nm b).cells) := by
  obtain ⟨M, rfl⟩ : ∃ M, N = M + 301 := ⟨N - 301, by omega⟩
  have hs := rec1_size nm b
  have h1 := clone_val (M + 300) (rec1 nm b) (by omega) (by omega)
  have h2 := null_val (M + 299) b
  unfold rec1 at h1 ⊢
  obtain ⟨k, i, s, t, l, f⟩ := b
  cases h : nullV (.mk k i s t l f) with
  | true =>
    rw [h] at h1 h2
    exact pure_of [(23, .p (boolX true)), (40, .p (.agg (Val.mk 9 0 0 ⟨#[]⟩ [] []).cells))] [] (pf3 h2 (Nat.le_refl 0) h1) (x := .agg (Val.mk 9 0 0 ⟨#[]⟩ [] []).cells) (bx := []) (by kernel_rfl) rfl
  | false =>
    rw [h] at h1 h2
    exact pure_of [(23, .p (boolX false)), (40, .p (.agg (Val.mk 9 0 0 ⟨#[]⟩ [] [(nm, .mk k i s t l f)]).cells))] [] (pf3 h2 (Nat.le_refl 1) h1) (x := .agg (Val.mk 9 0 0 ⟨#[]⟩ [] [(nm, .mk k i s t l f)]).cells) (bx := []) (by kernel_rfl) rfl
def envV (b : Val) : Val := rec1 ⟨#[98, 111, 100, 121]⟩ b
/-- message.Env. -/
theorem env_pure (b : Val) (hb : b.ok) (N : Nat) (hN : 200410 ≤ N) : Gam.pureD (callF tab ext N) 92 [.agg b.cells] = some (.agg (envV b).cells) := by
  obtain ⟨M, rfl⟩ : ∃ M, N = M + 1 := ⟨N - 1, by omega⟩
  have h1 := clone_val M b (by unfold Val.ok at hb; omega) (by unfold Val.ok at hb; omega)
  have h2 := rec1_pure ⟨#[98, 111, 100, 121]⟩ b (by unfold Val.ok at hb; omega) M (by omega)
  unfold envV
  generalize rec1 ⟨#[98, 111, 100, 121]⟩ b = r at h2 ⊢
  obtain ⟨k, i, s, t, l, f⟩ := b
  obtain ⟨k', i', s', t', l', f'⟩ := r
  exact pure_of [(4, .p (.agg (Val.mk k i s t l f).cells)), (7, .p (.agg (Val.mk k' i' s' t' l' f').cells))] [] (pf2 h1 h2) (x := .agg (Val.mk k' i' s' t' l' f').cells) (bx := []) (by kernel_rfl) rfl
end Go.Proofs.YthfchdkjeddijaaGreatDoor

/- RouterRejects comes to true. -/
namespace Go.Proofs.YthfchdkjeddijaaGreatDoor
open Go.Em
set_option maxRecDepth 100000

theorem given_pure (nd nd' : Nod) (hn : ∀ N, 220 ≤ N → Gam.pureD (callF tab ext N) 18 [.agg nd.cells] = some (.agg nd'.cells)) (s : Stt) (i : Inp) (k : Int) (N : Nat) (hN : 230 ≤ N) :
    Gam.pureD (callF tab ext N) 36 [.agg nd.cells, .agg s.cells, .agg i.cells, num k] = some (.tup [.agg ({ nd' with kind := k } : Nod).cells, .agg (shortS s).cells, .agg (shortN i).cells]) := by
  obtain ⟨M, rfl⟩ : ∃ M, N = M + 1 := ⟨N - 1, by omega⟩
  have h1 := hn M (by omega)
  have h2 := short_state s M (by omega)
  have h3 := short_inp i M (by omega)
  generalize shortS s = s' at h2 ⊢
  generalize shortN i = i' at h3 ⊢
  obtain ⟨kd, tm, ⟨se, sp⟩, ⟨⟨e, p⟩, ms, o, ⟨a1, a2, a3, a4, a5, a6⟩⟩, x, b1, b2, ⟨c1, c2, c3, c4, c5, c6⟩⟩ := i
  obtain ⟨kd', tm', ⟨se', sp'⟩, ⟨⟨e', p'⟩, ms', o', ⟨g1, g2, g3, g4, g5, g6⟩⟩, x', d1, d2, ⟨f1, f2, f3, f4, f5, f6⟩⟩ := i'
  generalize hi' : Inp.cells _ = ci' at h3 ⊢
  subst hi'
  exact pure_of [(12, .p (.agg nd'.cells)), (14, .p (.agg s'.cells)), (16, .p (.agg (Inp.mk kd' tm' ⟨se', sp'⟩ ⟨⟨e', p'⟩, ms', o', ⟨g1, g2, g3, g4, g5, g6⟩⟩ x' d1 d2 ⟨f1, f2, f3, f4, f5, f6⟩).cells))] [] (pf3 h1 h2 h3)
    (x := .tup [.agg ({ nd' with kind := k } : Nod).cells, .agg s'.cells, .agg (Inp.mk kd' tm' ⟨se', sp'⟩ ⟨⟨e', p'⟩, ms', o', ⟨g1, g2, g3, g4, g5, g6⟩⟩ x' d1 d2 ⟨f1, f2, f3, f4, f5, f6⟩).cells]) (bx := []) (by kernel_rfl) rfl

/-! ### A message that is rejected -/
def fteC (t : Bool) (f : Fte) : List X := [num f.st.e, .sl false 1 (intsC f.st.p), num f.kind, strX f.node, .sl t 2 [], strX f.text]
/-- The outcome in which a message is rejected; 't': how the document has the fate's list. -/
def rejC (t : Bool) (s : Stt) (m : Msg) (name r : ByteArray) : List X := [num s.n, num s.t, .sl false 10 (sltsC s.slots), .sl false 11 [], .sl false 11 [], .sl false 6 [fteC t (Fte.mk m.st 4 name [] r)], .sl false 10 [m.cells]]
theorem beq_bytes (a : ByteArray) : (a.toList == a.toList) = true := bytes_self a
theorem fate_same (m : Msg) (hm : m.ok) (t u : Bool) (name r : ByteArray) (N : Nat) (hN : 190200 ≤ N) : Gam.pureD (callF tab ext N) 122 [.agg (fteC t (Fte.mk m.st 4 name [] r)), .agg (fteC u (Fte.mk m.st 4 name [] r))] = some (boolX true) := by
  obtain ⟨M, rfl⟩ : ∃ M, N = M + 101 := ⟨N - 101, by omega⟩
  have h1 := stp_refl (M + 100) m.st hm.st (by omega)
  have h2 := beq_bytes name
  have h3 := beq_bytes r
  have h4 : Gam.pureD (callF tab ext (M + 100)) 184 [.sl false 2 [], .sl false 2 [], .fn 71 []] = some (boolX true) := by kernel_rfl
  obtain ⟨⟨e, p⟩, ms, o, ⟨a1, a2, a3, a4, a5, a6⟩⟩ := m
  cases t <;> cases u <;> exact pure_of [(9, .p (boolX true)), (22, .b true), (29, .b true), (36, .p (boolX true))] [] (pf4 h1 h2 h3 h4) (x := boolX true) (bx := []) (by kernel_rfl) rfl
theorem rej_same (s : Stt) (hs : s.ok) (m : Msg) (hm : m.ok) (t u : Bool) (name r : ByteArray) (N : Nat) (hN : 190400 ≤ N) : Gam.pureD (callF tab ext N) 24 [.agg (rejC t s m name r), .agg (rejC u s m name r)] = some (boolX true) := by
  obtain ⟨M, rfl⟩ : ∃ M, N = M + 101 := ⟨N - 101, by omega⟩
  have h1 := stt_refl (M + 100) s hs (by omega)
  have h2 : Gam.pureD (callF tab ext (M + 100)) 64 [.sl false 6 [fteC t (Fte.mk m.st 4 name [] r)], .sl false 6 [fteC u (Fte.mk m.st 4 name [] r)]] = some (boolX true) := by
    have h := fate_same m hm false false name r (M + 99) (by omega)
    obtain ⟨⟨e, p⟩, ms, o, ⟨a1, a2, a3, a4, a5, a6⟩⟩ := m
    exact pure_of [(25, .p (boolX true))] [] (pf1 h) (x := boolX true) (bx := []) (by kernel_rfl) rfl
  have h3 : Gam.pureD (callF tab ext (M + 100)) 65 [.sl false 10 [m.cells], .sl false 10 [m.cells]] = some (boolX true) := by
    have h := msg_refl (M + 99) m hm (by omega)
    obtain ⟨⟨e, p⟩, ms, o, ⟨a1, a2, a3, a4, a5, a6⟩⟩ := m
    exact pure_of [(25, .p (boolX true))] [] (pf1 h) (x := boolX true) (bx := []) (by kernel_rfl) rfl
  obtain ⟨a, b, ss⟩ := s
  exact pure_of [(10, .p (boolX true)), (67, .p (boolX true)), (74, .p (boolX true))] [] (pf3 h1 h2 h3) (x := boolX true) (bx := []) (by kernel_rfl) rfl

theorem router_reject (nd : Nod) (s : Stt) (hs : s.ok) (i : Inp) (hm : i.m.ok) (N : Nat) (hN : 200700 ≤ N) : Gam.pureD (callF tab ext N) 37 [.agg ({ nd with kind := 14 } : Nod).cells, .agg s.cells, .agg ({ i with kind := 1 } : Inp).cells] = some (.agg (rejC false s i.m nd.name nd.text)) := by
  obtain ⟨M, rfl⟩ : ∃ M, N = M + 101 := ⟨N - 101, by omega⟩
  have h1 := clone_state_pure (M + 100) s hs (by omega)
  have h2 := clone_msg (M + 100) i.m hm (by omega)
  have h3 := rejected_pure i.m hm nd.name nd.text (M + 100) (by omega)
  obtain ⟨kd, tm, ⟨se, sp⟩, ⟨⟨e, p⟩, ms, o, ⟨a1, a2, a3, a4, a5, a6⟩⟩, x, b1, b2, ⟨c1, c2, c3, c4, c5, c6⟩⟩ := i
  obtain ⟨name, k1, k2, k3, w, k5, k6, text, ⟨a, b, c, d⟩, we, el, f, ty, ex, ca, ru, ne⟩ := nd
  obtain ⟨n, t, ss⟩ := s
  exact pure_of [(15, .p (.agg (Stt.mk n t ss).cells)), (23, .p (.agg (Msg.mk ⟨e, p⟩ ms o (.mk a1 a2 a3 a4 a5 a6)).cells)), (56, .p (.agg (Fte.mk ⟨e, p⟩ 4 name [] text).cells))] [] (pf3 h1 h2 h3)
    (x := .agg [num n, num t, .sl false 10 (sltsC ss), .sl true 11 [], .sl true 11 [], .sl true 6 [(Fte.mk ⟨e, p⟩ 4 name [] text).cells], .sl true 10 [(Msg.mk ⟨e, p⟩ ms o (.mk a1 a2 a3 a4 a5 a6)).cells]]) (bx := []) (by kernel_rfl) rfl
theorem model_reject (nd : Nod) (s : Stt) (i : Inp) (hm : i.m.ok) (N : Nat) (hN : 200700 ≤ N) : Gam.pureD (callF tab ext N) 79 [.agg ({ nd with kind := 14 } : Nod).cells, .agg s.cells, .agg ({ i with kind := 1 } : Inp).cells] = some (.agg (rejC true s i.m nd.name nd.text)) := by
  obtain ⟨M, rfl⟩ : ∃ M, N = M + 101 := ⟨N - 101, by omega⟩
  have h1 := env_pure i.m.body hm.body (M + 100) (by omega)
  generalize envV i.m.body = v at h1
  obtain ⟨v1, v2, v3, v4, v5, v6⟩ := v
  obtain ⟨kd, tm, ⟨se, sp⟩, ⟨⟨e, p⟩, ms, o, ⟨a1, a2, a3, a4, a5, a6⟩⟩, x, b1, b2, ⟨c1, c2, c3, c4, c5, c6⟩⟩ := i
  obtain ⟨name, k1, k2, k3, w, k5, k6, text, ⟨a, b, c, d⟩, we, el, f, ty, ex, ca, ru, ne⟩ := nd
  obtain ⟨n, t, ss⟩ := s
  exact pure_of [(29, .p (.agg (Val.mk v1 v2 v3 v4 v5 v6).cells))] [] (pf1 h1)
    (x := .agg [num n, num t, .sl false 10 (sltsC ss), .sl false 11 [], .sl false 11 [], .sl false 6 [fteC true (Fte.mk ⟨e, p⟩ 4 name [] text)], .sl false 10 [(Msg.mk ⟨e, p⟩ ms o (.mk a1 a2 a3 a4 a5 a6)).cells]]) (bx := []) (by kernel_rfl) rfl
def ocC (n t : Int) (ss outs fates letters : List (List X)) : List X := [num n, num t, .sl false 10 ss, .sl false 11 outs, .sl false 11 [], .sl false 6 fates, .sl false 10 letters]
/-- Step and the document agree, if their outcomes are the same. -/
theorem agrees_of (nd nd' : Nod) (hn : ∀ N, 220 ≤ N → Gam.pureD (callF tab ext N) 18 [.agg nd.cells] = some (.agg nd'.cells)) (s : Stt) (i : Inp) (k : Int) (N : Nat) (hN : 200900 ≤ N) (n t n' t' : Int) (ss outs fates letters ss' outs' fates' letters' : List (List X))
    (ha : Gam.pureD (callF tab ext (N - 1)) 37 [.agg ({ nd' with kind := k } : Nod).cells, .agg (shortS s).cells, .agg ({ shortN i with kind := 1 } : Inp).cells] = some (.agg (ocC n t ss outs fates letters))) (hb : Gam.pureD (callF tab ext (N - 1)) 79 [.agg ({ nd' with kind := k } : Nod).cells, .agg (shortS s).cells, .agg ({ shortN i with kind := 1 } : Inp).cells] = some (.agg (ocC n' t' ss' outs' fates' letters')))
    (hab : Gam.pureD (callF tab ext (N - 1)) 24 [.agg (ocC n t ss outs fates letters), .agg (ocC n' t' ss' outs' fates' letters')] = some (boolX true)) : Gam.pureD (callF tab ext N) 35 [.agg nd.cells, .agg s.cells, .agg i.cells, num k] = some (boolX true) := by
  obtain ⟨M, rfl⟩ : ∃ M, N = M + 1 := ⟨N - 1, by omega⟩
  have h1 := given_pure nd nd' hn s i k M (by omega)
  have h2 : Gam.pureD (callF tab ext M) 33 [] = some (boolX true) := by
    obtain ⟨K, rfl⟩ : ∃ K, M = K + 400 := ⟨M - 400, by omega⟩
    exact known31_at K
  have ha : Gam.pureD (callF tab ext M) 37 [.agg ({ nd' with kind := k } : Nod).cells, .agg (shortS s).cells, .agg ({ shortN i with kind := 1 } : Inp).cells] = some (.agg (ocC n t ss outs fates letters)) := ha
  have hb : Gam.pureD (callF tab ext M) 79 [.agg ({ nd' with kind := k } : Nod).cells, .agg (shortS s).cells, .agg ({ shortN i with kind := 1 } : Inp).cells] = some (.agg (ocC n' t' ss' outs' fates' letters')) := hb
  have hab : Gam.pureD (callF tab ext M) 24 [.agg (ocC n t ss outs fates letters), .agg (ocC n' t' ss' outs' fates' letters')] = some (boolX true) := hab
  generalize shortN i = i' at h1 ha hb
  generalize shortS s = s' at h1 ha hb
  obtain ⟨kd, tm, ⟨se, sp⟩, ⟨⟨e, p⟩, ms, o, ⟨a1, a2, a3, a4, a5, a6⟩⟩, x, b1, b2, ⟨c1, c2, c3, c4, c5, c6⟩⟩ := i
  obtain ⟨kd', tm', ⟨se', sp'⟩, ⟨⟨e', p'⟩, ms', o', ⟨g1, g2, g3, g4, g5, g6⟩⟩, x', d1, d2, ⟨f1, f2, f3, f4, f5, f6⟩⟩ := i'
  exact pure_of [(14, .p (.tup [.agg ({ nd' with kind := k } : Nod).cells, .agg s'.cells, .agg (Inp.mk kd' tm' ⟨se', sp'⟩ ⟨⟨e', p'⟩, ms', o', ⟨g1, g2, g3, g4, g5, g6⟩⟩ x' d1 d2 ⟨f1, f2, f3, f4, f5, f6⟩).cells])), (19, .p (boolX true)), (24, .p (.agg (ocC n t ss outs fates letters))), (28, .p (.agg (ocC n' t' ss' outs' fates' letters'))), (29, .p (boolX true))] [] (pf5 h1 h2 ha hb hab) (x := boolX true) (bx := []) (by kernel_rfl) rfl
theorem shortN_m (i : Inp) : (shortN i).m = shortM i.m := rfl
theorem rrejects_all (cn : List X) (hcn : isNode cn) (s : Stt) (i : Inp) : callF tab ext 201000 (.fn 12) [.agg cn, .agg s.cells, .agg i.cells] [] = some (.v (.bool true), []) := by
  obtain ⟨nd, nd', rfl, hn⟩ := node_of hcn
  have hs := (shortS_small s).ok
  have hm : (shortN i).m.ok := by rw [shortN_m]; exact shortM_ok i.m
  have ha := router_reject nd' (shortS s) hs (shortN i) hm 200998 (by omega)
  have hb := model_reject nd' (shortS s) (shortN i) hm 200998 (by omega)
  have hab := rej_same (shortS s) hs (shortN i).m hm false true nd'.name nd'.text 200998 (by omega)
  have h := agrees_of nd nd' hn s i 14 200999 (by omega) _ _ _ _ _ _ _ _ _ _ _ _ ha hb hab
  obtain ⟨kd, tm, ⟨se, sp⟩, ⟨⟨e, p⟩, ms, o, ⟨a1, a2, a3, a4, a5, a6⟩⟩, x, b1, b2, ⟨c1, c2, c3, c4, c5, c6⟩⟩ := i
  exact callF_of [(10, .p (boolX true))] [] (pf1 h) (by kernel_rfl)
end Go.Proofs.YthfchdkjeddijaaGreatDoor
