/- The abstract machine, asked with answers: where an outcome is not plain, it is told, and what was told is to be shown. -/
import Derived.Test.YtjfheahakfoofaaEmDefs
namespace Go.Em

/-- An answer. 'b', 'i', 'x': the value that comes out · 'c': what a call hands back · 'e': the element that is read · 'p': what a call hands back that writes nothing. -/
inductive Ans where
  | b (t : Bool)
  | i (n : Int)
  | x (y : X)
  | c (y : X) (bx : List Bx) (fp : FP)
  | e (l : List X)
  | p (y : X)

def askI (Γ : Gam) (σ : St) (i : I) : Ans → Option ((X × List Bx × FP) × Prop)
  | .b t' => match stepI Γ σ i with
    | some (.v (.bool t), bx, fp) => some ((.v (.bool t'), bx, fp), t = t')
    | _ => none
  | .i n' => match stepI Γ σ i with
    | some (.v (.int k n), bx, fp) => some ((.v (.int k n'), bx, fp), n = n')
    | _ => none
  | .x y' => match stepI Γ σ i with
    | some (y, bx, fp) => some ((y', bx, fp), y = y')
    | none => none
  | .c y bx fp => match i with
    | .call own ref raw f args => match σ.ev f, evs σ args with
      | some f, some as => some ((y, bx, fp), callX Γ own ref raw f as σ.bx = some (y, bx, fp))
      | _, _ => none
    | _ => none
  | .e l => match i with
    | .iaddr none sz z j => match σ.ev z, (σ.ev j).bind natX with
      | some (.sl _ s es), some n => if s == sz then some ((.dp l, σ.bx, ⟨false, [], []⟩), es[n]? = some l) else none
      | _, _ => none
    | _ => none
  | .p _ => none

def askP (Γ : Gam) (σ : St) (y : X) : I → Option ((X × List Bx × FP) × Prop)
  | .call own ref raw f args => match σ.ev f, evs σ args with
    | some (.fn g caps), some zs => match dataL σ.bx raw zs with
      | some as => if !ref && (!own && !ref && (refsL (as ++ caps)).isEmpty) && (noRef y && ((rowsL zs).isEmpty || y.plain)) then some ((y, σ.bx, ⟨false, rowsL zs, []⟩), Γ.pureD g (as ++ caps) = some y) else none
      | none => none
    | _, _ => none
  | _ => none

theorem askP_sound {Γ : Gam} {σ : St} {i : I} {y : X} {q : X × List Bx × FP} {p : Prop} (h : askP Γ σ y i = some (q, p)) (hp : p) : stepI Γ σ i = some q := by
  unfold askP at h
  split at h
  · rename_i own ref raw f args
    split at h
    · rename_i g caps zs hf ha
      split at h
      · rename_i as hd
        split at h
        · rename_i hc
          simp only [Option.some.injEq, Prod.mk.injEq] at h
          obtain ⟨rfl, rfl⟩ := h
          simp only [Bool.and_eq_true, Bool.not_eq_true'] at hc
          obtain ⟨⟨hr, ⟨⟨h1, _⟩, h2⟩⟩, h3, h4⟩ := hc
          subst hr; subst h1
          simp only [stepI, hf, ha, callX, Bool.false_eq_true, if_false, hd, h2, Bool.not_false, Bool.and_true, if_true, hp, h3, h4]
        · simp at h
      · simp at h
    · simp at h
  · simp at h

theorem pureD_of {Γ : Gam} {g : FuncId} {as : List X} {x y : X} {bx : List Bx} (h : Γ (.fn g) as [] = some (x, bx)) (hd : x.data bx false = some y) : Γ.pureD g as = some y := by
  simp only [Gam.pureD, h, hd]

theorem askI_sound {Γ : Gam} {σ : St} {i : I} {a : Ans} {q : X × List Bx × FP} {p : Prop} (h : askI Γ σ i a = some (q, p)) (hp : p) : stepI Γ σ i = some q := by
  cases a with
  | p y => simp [askI] at h
  | b t' =>
    simp only [askI] at h
    split at h
    · rename_i t bx fp hs
      simp only [Option.some.injEq, Prod.mk.injEq] at h
      obtain ⟨rfl, rfl⟩ := h
      rw [hs, hp]
    · simp at h
  | i n' =>
    simp only [askI] at h
    split at h
    · rename_i k n bx fp hs
      simp only [Option.some.injEq, Prod.mk.injEq] at h
      obtain ⟨rfl, rfl⟩ := h
      rw [hs, hp]
    · simp at h
  | x y' =>
    simp only [askI] at h
    split at h
    · rename_i y bx fp hs
      simp only [Option.some.injEq, Prod.mk.injEq] at h
      obtain ⟨rfl, rfl⟩ := h
      rw [hs, hp]
    · simp at h
  | c y bx fp =>
    simp only [askI] at h
    split at h
    · split at h
      · rename_i f as hf ha
        simp only [Option.some.injEq, Prod.mk.injEq] at h
        obtain ⟨rfl, rfl⟩ := h
        simp only [stepI, hf, ha]; exact hp
      · simp at h
    · simp at h
  | e l =>
    simp only [askI] at h
    split at h
    · split at h
      · rename_i t s es n hz hj
        split at h
        · rename_i hs
          simp only [Option.some.injEq, Prod.mk.injEq] at h
          obtain ⟨rfl, rfl⟩ := h
          simp only [stepI, hz, hj, hs, if_true, hp, Option.map_some]
        · simp at h
      · simp at h
    · simp at h

def ansOf : List (Nat × Ans) → Option Nat → Option Ans
  | _, none => none
  | [], some _ => none
  | (k, a) :: r, some d => if k == d then some a else ansOf r (some d)

def goA (Γ : Gam) (ans : List (Nat × Ans)) (i : Ins) (σ : St) : Option (St × FP × List Prop) :=
  match ansOf ans i.dst with
  | none => match stepGo Γ i σ with
    | none => none
    | some (σ', fp) => some (σ', fp, [])
  | some a => match (match a with | .p y => askP Γ σ y i.op | a => askI Γ σ i.op a) with
    | none => none
    | some ((y, bx, fp), p) => some (⟨setD i.dst y σ.tm, bx⟩, fp, [p])

def allP : List Prop → Prop
  | [] => True
  | p :: r => p ∧ allP r

theorem allP_append : ∀ {l m : List Prop}, allP (l ++ m) ↔ allP l ∧ allP m
  | [], m => by simp [allP]
  | p :: r, m => by simp [allP, allP_append (l := r), and_assoc]

theorem goA_sound {Γ : Gam} {ans : List (Nat × Ans)} {i : Ins} {σ σ' : St} {fp : FP} {ps : List Prop} (h : goA Γ ans i σ = some (σ', fp, ps)) (hp : allP ps) : stepGo Γ i σ = some (σ', fp) := by
  unfold goA at h
  split at h
  · split at h
    · simp at h
    · rename_i hs
      simp only [Option.some.injEq, Prod.mk.injEq] at h
      obtain ⟨rfl, rfl, _⟩ := h
      exact hs
  · split at h
    · simp at h
    · rename_i hs
      simp only [Option.some.injEq, Prod.mk.injEq] at h
      obtain ⟨rfl, rfl, rfl⟩ := h
      split at hs
      · simp only [stepGo, askP_sound hs hp.1]
      · simp only [stepGo, askI_sound hs hp.1]

def stepA (Γ : Gam) (ans : List (Nat × Ans)) (i : Ins) (σ : St) : Option (St × FP × List Prop) :=
  match i.g with
  | none => goA Γ ans i σ
  | some (s, want) => match lk σ.tm s with
    | some (.v (.bool b)) => if b == want then goA Γ ans i σ else some (⟨setD i.dst undefX σ.tm, σ.bx⟩, ⟨false, [], []⟩, [])
    | some (.v (.tuple _)) => some (⟨setD i.dst undefX σ.tm, σ.bx⟩, ⟨false, [], []⟩, [])
    | _ => none

theorem stepA_sound {Γ : Gam} {ans : List (Nat × Ans)} {i : Ins} {σ σ' : St} {fp : FP} {ps : List Prop} (h : stepA Γ ans i σ = some (σ', fp, ps)) (hp : allP ps) : step Γ i σ = some (σ', fp) := by
  unfold stepA at h
  unfold step
  split at h
  · rename_i hg
    rw [hg]; exact goA_sound h hp
  · rename_i s want hg
    rw [hg]
    dsimp only
    split at h
    · rename_i b hb
      rw [hb]; dsimp only
      by_cases hw : (b == want) = true
      · rw [if_pos hw] at h ⊢; exact goA_sound h hp
      · rw [if_neg hw] at h ⊢
        simp only [Option.some.injEq, Prod.mk.injEq] at h
        obtain ⟨rfl, rfl, _⟩ := h
        rfl
    · rename_i t hb
      rw [hb]
      simp only [Option.some.injEq, Prod.mk.injEq] at h
      obtain ⟨rfl, rfl, _⟩ := h
      rfl
    · simp at h

def stepsA (Γ : Gam) (ans : List (Nat × Ans)) : List Ins → St → Option (St × List FP × List Prop)
  | [], σ => some (σ, [], [])
  | i :: r, σ => match stepA Γ ans i σ with
    | none => none
    | some (σ', fp, ps) => match stepsA Γ ans r σ' with
      | none => none
      | some (σ'', fps, qs) => some (σ'', fp :: fps, ps ++ qs)

theorem stepsA_sound {Γ : Gam} {ans : List (Nat × Ans)} : ∀ {l : List Ins} {σ σ' : St} {fps : List FP} {ps : List Prop}, stepsA Γ ans l σ = some (σ', fps, ps) → allP ps → steps Γ l σ = some (σ', fps)
  | [], σ, σ', fps, ps, h, _ => by
    simp only [stepsA, Option.some.injEq, Prod.mk.injEq] at h
    obtain ⟨rfl, rfl, _⟩ := h
    rfl
  | i :: r, σ, σ', fps, ps, h, hp => by
    simp only [stepsA] at h
    split at h
    · simp at h
    · rename_i σ1 fp ps1 h1
      split at h
      · simp at h
      · rename_i σ2 fps2 qs h2
        simp only [Option.some.injEq, Prod.mk.injEq] at h
        obtain ⟨rfl, rfl, rfl⟩ := h
        obtain ⟨hp1, hp2⟩ := allP_append.1 hp
        simp only [steps, stepA_sound h1 hp1, stepsA_sound h2 hp2, Option.map_some]

/-- 'lo': what the loops come to, in turn. -/
def runA (Γ : Gam) (ans : List (Nat × Ans)) (nIn fu : Nat) : C → St → List (Ex × St) → Option (Ex × St × List (Ex × St) × List Prop)
  | .skip, σ, lo => some (.norm, σ, lo, [])
  | .reg gh draw l live, σ, lo => match ghosts gh σ with
    | none => none
    | some σ => match stepsA Γ ans l σ with
      | none => none
      | some (σ', fps, ps) => if pairsOk fps draw then some (.norm, ⟨keep live σ'.tm, σ'.bx⟩, lo, ps) else none
  | .seq a b, σ, lo => match runA Γ ans nIn fu a σ lo with
    | some (.norm, σ', lo, ps) => match runA Γ ans nIn fu b σ' lo with
      | some (e, σ'', lo, qs) => some (e, σ'', lo, ps ++ qs)
      | none => none
    | r => r
  | .cond c a b, σ, lo => match σ.ev c with
    | some (.v (.bool t)) => if t then runA Γ ans nIn fu a σ lo else runA Γ ans nIn fu b σ lo
    | _ => none
  | .block id b, σ, lo => match runA Γ ans nIn fu b σ lo with
    | some (.exit j, σ', lo, ps) => if j == id then some (.norm, σ', lo, ps) else some (.exit j, σ', lo, ps)
    | r => r
  | .loop b, σ, o :: lo => some (o.1, o.2, lo, [run Γ nIn fu (.loop b) σ = some o])
  | .loop b, σ, [] => match run Γ nIn fu (.loop b) σ with
    | some (e, σ') => some (e, σ', [], [])
    | none => none
  | .rf f ps live as b, σ, lo => match run Γ nIn fu (.rf f ps live as b) σ with
    | some (e, σ') => some (e, σ', lo, [])
    | none => none
  | .exit id, σ, lo => some (.exit id, σ, lo, [])
  | .ret, σ, lo => some (.ret, σ, lo, [])
  | .stuck, _, _ => none

theorem runA_sound {Γ : Gam} {ans : List (Nat × Ans)} {nIn fu : Nat} : ∀ {m : C} {σ σ' : St} {lo lo' : List (Ex × St)} {e : Ex} {ps : List Prop}, runA Γ ans nIn fu m σ lo = some (e, σ', lo', ps) → allP ps → run Γ nIn fu m σ = some (e, σ') := by
  intro m
  induction m with
  | skip =>
    intro σ σ' lo lo' e ps h _
    simp only [runA, Option.some.injEq, Prod.mk.injEq] at h
    obtain ⟨rfl, rfl, _⟩ := h; rfl
  | exit id =>
    intro σ σ' lo lo' e ps h _
    simp only [runA, Option.some.injEq, Prod.mk.injEq] at h
    obtain ⟨rfl, rfl, _⟩ := h; rfl
  | ret =>
    intro σ σ' lo lo' e ps h _
    simp only [runA, Option.some.injEq, Prod.mk.injEq] at h
    obtain ⟨rfl, rfl, _⟩ := h; rfl
  | stuck => intro σ σ' lo lo' e ps h _; simp [runA] at h
  | reg gh draw l live =>
    intro σ σ' lo lo' e ps h hp
    simp only [runA] at h
    split at h
    · simp at h
    · rename_i σ1 hg
      split at h
      · simp at h
      · rename_i σ2 fps qs hs
        split at h
        · rename_i hpo
          simp only [Option.some.injEq, Prod.mk.injEq] at h
          obtain ⟨rfl, rfl, _, rfl⟩ := h
          simp only [run, hg, stepsA_sound hs hp, hpo, if_true]
        · simp at h
  | seq a b iha ihb =>
    intro σ σ' lo lo' e ps h hp
    simp only [runA] at h
    split at h
    · rename_i σ1 lo1 ps1 h1
      split at h
      · rename_i e2 σ2 lo2 qs h2
        simp only [Option.some.injEq, Prod.mk.injEq] at h
        obtain ⟨rfl, rfl, _, rfl⟩ := h
        obtain ⟨hp1, hp2⟩ := allP_append.1 hp
        simp only [run, iha h1 hp1, ihb h2 hp2]
      · simp at h
    · rename_i hne
      have h1 := iha h hp
      simp only [run, h1]
      cases e with
      | norm => exact absurd h (hne _ _ _)
      | exit k => rfl
      | ret => rfl
  | cond c a b iha ihb =>
    intro σ σ' lo lo' e ps h hp
    simp only [runA] at h
    split at h
    · rename_i t ht
      cases t with
      | true => simp only [if_true] at h; simp only [run, ht, if_true]; exact iha h hp
      | false => simp only [Bool.false_eq_true, if_false] at h; simp only [run, ht, Bool.false_eq_true, if_false]; exact ihb h hp
    · simp at h
  | block id b ih =>
    intro σ σ' lo lo' e ps h hp
    simp only [runA] at h
    split at h
    · rename_i j σ1 lo1 ps1 h1
      by_cases hj : (j == id) = true
      · rw [if_pos hj] at h
        simp only [Option.some.injEq, Prod.mk.injEq] at h
        obtain ⟨rfl, rfl, _, rfl⟩ := h
        simp only [run, ih h1 hp, if_pos hj]
      · rw [if_neg hj] at h
        simp only [Option.some.injEq, Prod.mk.injEq] at h
        obtain ⟨rfl, rfl, _, rfl⟩ := h
        simp only [run, ih h1 hp, if_neg hj]
    · rename_i hne
      have h1 := ih h hp
      simp only [run, h1]
      cases e with
      | norm => rfl
      | exit k => exact absurd h (hne _ _ _ _)
      | ret => rfl
  | loop b ih =>
    intro σ σ' lo lo' e ps h hp
    cases lo with
    | nil =>
      simp only [runA] at h
      split at h
      · rename_i e1 σ1 h1
        simp only [Option.some.injEq, Prod.mk.injEq] at h
        obtain ⟨rfl, rfl, _⟩ := h
        exact h1
      · simp at h
    | cons o lo =>
      simp only [runA, Option.some.injEq, Prod.mk.injEq] at h
      obtain ⟨rfl, rfl, _, rfl⟩ := h
      exact hp.1
  | rf f qs live as b _ _ =>
    intro σ σ' lo lo' e ps h hp
    simp only [runA] at h
    split at h
    · rename_i e1 σ1 h1
      simp only [Option.some.injEq, Prod.mk.injEq] at h
      obtain ⟨rfl, rfl, _⟩ := h
      exact h1
    · simp at h

/-- A function, with answers: what it hands back, and what is to be shown. -/
def funA (Γ : Gam) (fu : Nat) (ans : List (Nat × Ans)) (lo : List (Ex × St)) (fd : Fun) (args : List X) (inb : List Bx) : Option (Option (X × List Bx) × List Prop) :=
  if args.length == fd.np then
    match runA Γ ans inb.length fu fd.body ⟨zipTm 0 args, inb⟩ lo with
    | some (.norm, σ, _, ps) | some (.ret, σ, _, ps) => some ((resX σ fd.res).bind fun xs => pack inb.length (packRes xs) σ.bx, ps)
    | _ => none
  else none

theorem funA_sound {Γ : Gam} {fu : Nat} {ans : List (Nat × Ans)} {lo : List (Ex × St)} {fd : Fun} {args : List X} {inb : List Bx} {r : Option (X × List Bx)} {ps : List Prop} (h : funA Γ fu ans lo fd args inb = some (r, ps)) (hp : allP ps) : runF Γ fu fd args inb = r := by
  unfold funA at h
  unfold runF
  split at h
  · rename_i hl
    rw [if_pos hl]
    split at h
    · rename_i hr
      simp only [Option.some.injEq, Prod.mk.injEq] at h
      obtain ⟨rfl, rfl⟩ := h
      rw [runA_sound hr hp]
    · rename_i hr
      simp only [Option.some.injEq, Prod.mk.injEq] at h
      obtain ⟨rfl, rfl⟩ := h
      rw [runA_sound hr hp]
    · simp at h
  · simp at h

/-- A function of the table. -/
def callA (T : FuncId → Option Fun) (ext : Ext) (n : Nat) (ans : List (Nat × Ans)) (lo : List (Ex × St)) (f : FuncId) (args : List X) (inb : List Bx) : Option (Option (X × List Bx) × List Prop) :=
  match ext f with
  | some _ => none
  | none => match T f with
    | some fd => funA (callF T ext n) n ans lo fd args inb
    | none => none

theorem callA_sound {T : FuncId → Option Fun} {ext : Ext} {n : Nat} {ans : List (Nat × Ans)} {lo : List (Ex × St)} {f : FuncId} {args : List X} {inb : List Bx} {r : Option (X × List Bx)} {ps : List Prop} (h : callA T ext n ans lo f args inb = some (r, ps)) (hp : allP ps) :
    callF T ext (n + 1) (.fn f) args inb = r := by
  unfold callA at h
  simp only [callF]
  split at h
  · simp at h
  · rename_i he
    rw [he]
    split at h
    · rename_i fd hfd
      rw [hfd]
      exact funA_sound h hp
    · simp at h

end Go.Em
