/- ThrottleBegins on the abstract machine: whatever the two numbers, it comes to true. -/
import Derived.Test.YtjfheahakfoofaaSeatTab
namespace Go.Proofs.Ytjfheahakfoofaa
open Go.Em
/-- The node that the law builds. -/
noncomputable def nodeX (a : Int) : X := match zeroP Try.prog 36 with
  | some z => (X.data [] false (.agg ((z.set 1 (.v (.int .i64 7))).set 5 (.v (.int .i64 a))))).getD undefX
  | none => undefX
def clampI (a : Int) : Int := if (if a < 17592186044416 then a else 17592186044416) > 1 then (if a < 17592186044416 then a else 17592186044416) else 1
def int (n : Int) : X := .v (.int .i64 n)

theorem period_eq (a : Int) : callF tab ext 398 (.fn 17) [nodeX a] [] = some (int (clampI a), []) := by kernel_rfl

theorem window_neg (a b : Int) (h : b < 0) : callF tab ext 399 (.fn 9) [nodeX a, int b] [] = some (int 0, []) :=
  callA_sound (ans := [(6, .b true)]) (lo := []) (ps := [decide (b < 0) = true]) (by kernel_rfl) ⟨by simpa using h, trivial⟩

theorem window_pos (a b w : Int) (q : Nat) (h : ¬ b < 0) (hq : clampI a = Int.ofNat (q + 1)) (hw : IntKind.i64.wrap (b - b.tmod (Int.ofNat (q + 1))) = w) : callF tab ext 399 (.fn 9) [nodeX a, int b] [] = some (int w, []) :=
  callA_sound (ans := [(6, .b false), (10, .p (int (Int.ofNat (q + 1)))), (12, .i w)]) (lo := [])
    (ps := [decide (b < 0) = false, Gam.pureD (callF tab ext 398) 17 [nodeX a] = some (int (Int.ofNat (q + 1))), IntKind.i64.wrap (b - b.tmod (Int.ofNat (q + 1))) = w])
    (by kernel_rfl) ⟨by simpa using h, pureD_of (by rw [period_eq, hq]) rfl, hw, trivial⟩

theorem known_pure : Gam.pureD (callF tab ext 399) 8 [] = some (.v (.bool true)) := pureD_of known_true rfl

def clampI' (a : Int) : Int := if (if 17592186044416 < a then 17592186044416 else a) > 1 then (if 17592186044416 < a then 17592186044416 else a) else 1

theorem begins_neg (a b : Int) (h : b < 0) : callF tab ext 400 (.fn 6) [int a, int b] [] = some (.v (.bool true), []) :=
  callA_sound (ans := [(12, .p (int 0)), (16, .p (.v (.bool true))), (20, .b true), (22, .p (.v (.bool true)))]) (lo := [])
    (ps := [Gam.pureD (callF tab ext 399) 9 [nodeX a, int b] = some (int 0), Gam.pureD (callF tab ext 399) 8 [] = some (.v (.bool true)), decide (b < 0) = true, Gam.pureD (callF tab ext 399) 8 [] = some (.v (.bool true))])
    (by kernel_rfl) ⟨pureD_of (window_neg a b h) rfl, known_pure, by simpa using h, known_pure, trivial⟩

theorem begins_pos (a b w : Int) (q : Nat) (h : ¬ b < 0) (hq : clampI a = Int.ofNat (q + 1)) (hq' : clampI' a = Int.ofNat (q + 1)) (hw : IntKind.i64.wrap (b - b.tmod (Int.ofNat (q + 1))) = w)
    (h1 : 0 ≤ w) (h2 : w ≤ b) (h3 : IntKind.i64.wrap (b - w) < Int.ofNat (q + 1)) (h4 : w.tmod (Int.ofNat (q + 1)) = 0) : callF tab ext 400 (.fn 6) [int a, int b] [] = some (.v (.bool true), []) :=
  callA_sound (ans := [(12, .p (int w)), (7, .i (Int.ofNat (q + 1))), (16, .p (.v (.bool true))), (20, .b false), (28, .b true), (32, .b true), (39, .b true), (45, .b true)]) (lo := [])
    (ps := [Gam.pureD (callF tab ext 399) 9 [nodeX a, int b] = some (int w), clampI' a = Int.ofNat (q + 1), Gam.pureD (callF tab ext 399) 8 [] = some (.v (.bool true)), decide (b < 0) = false, decide (w ≥ 0) = true, decide (w ≤ b) = true,
      decide (IntKind.i64.wrap (b - w) < Int.ofNat (q + 1)) = true, (w.tmod (Int.ofNat (q + 1)) == 0) = true])
    (by kernel_rfl) ⟨pureD_of (window_pos a b w q h hq hw) rfl, hq', known_pure, by simpa using h, by simpa using h1, by simpa using h2, by simpa using h3, by simpa using h4, trivial⟩

end Go.Proofs.Ytjfheahakfoofaa
