import Derived.Test.YtjfheahakfoofaaRows
import Derived.Lib.Bytealg
import Derived.Laws.BitsLemmas
import Derived.Test.YtjfheahakfoofaaEmWai8
namespace Go.Proofs.Ytjfheahakfoofaa
open Go.Em
def ids : List Nat := [2, 3, 4, 5, 6, 7, 8, 9, 10, 11, 12, 13, 14, 15, 16, 17, 18, 19, 20, 21, 22, 23, 24, 25, 26, 27, 28, 29, 30, 31, 32, 33, 34, 35, 36, 37, 38, 39, 40, 41, 42, 43, 44, 45, 46, 47, 48, 49, 50, 51, 52, 53, 54, 55, 56, 57, 58, 60, 61, 62, 63, 64, 65, 66, 67, 68]
def look {α : Type} : List (Nat × List α) → Nat → List α
  | [], _ => []
  | (k, l) :: r, n => if k == n then l else look r n
def annOf : Nat → Ann := fun f => match f with
  | 2 => ⟨look [(0, [])], look [], [], [], [], []⟩
  | 3 => ⟨look [(17, [4]), (8, [5, 6, 10]), (16, [4]), (15, [5, 6, 10, 69]), (12, [5, 6, 10, 11, 12]), (14, [5, 6, 10, 11, 12]), (13, [5, 6, 10, 11, 12, 63]), (11, [5, 6, 10, 11, 12, 48]), (10, [5, 6, 10, 11, 12]), (9, [5, 6, 10, 11]), (7, [5, 6, 10, 42]), (6, [5, 6, 10]), (5, [4]), (4, [5, 6, 38]), (3, [5, 6]), (2, [1, 5]), (1, [1, 2]), (0, [1, 2])], look [], [], [], [], []⟩
  | 4 => ⟨look [(37, [6]), (31, [1, 13, 18]), (36, [6]), (35, [1, 13, 18, 193]), (34, [1, 13, 18, 19]), (33, [1, 13, 18, 19, 186]), (32, [1, 13, 18, 19]), (30, [1, 13, 18, 179]), (29, [1, 13, 18]), (24, [1, 9, 12, 13, 16]), (28, [1, 9, 12, 13, 16]), (27, [6]), (26, [1, 9, 12, 13, 16, 17, 169]), (25, [1, 9, 12, 13, 16, 17]), (23, [1, 9, 12, 13, 16, 139]), (22, [1, 9, 12, 13, 16]), (18, [1, 9, 10, 12, 13, 15]), (21, [1, 9, 10, 12, 13, 15]), (20, [6]), (19, [1, 9, 10, 12, 13, 15, 126]), (17, [1, 9, 10, 12, 13, 15, 110]), (16, [1, 9, 10, 12, 13, 15]), (12, [1, 9, 10, 12, 13, 14]), (15, [1, 9, 10, 12, 13, 14]), (14, [6]), (13, [1, 9, 10, 12, 13, 14, 97]), (11, [1, 9, 10, 12, 13, 14, 65]), (10, [1, 9, 10, 12, 13, 14]), (9, [1, 9, 10, 12, 13]), (8, [6]), (7, [1, 9, 10, 12, 57]), (6, [1, 3, 9, 10, 12]), (5, [1, 3, 9, 10, 11]), (4, [1, 3, 7]), (3, [1, 3, 7, 36]), (2, [1, 2, 3, 7]), (1, [1, 2, 3]), (0, [1, 2, 3])], look [], [], [], [], []⟩
  | 5 => ⟨look [(29, [4]), (17, [1, 5, 6, 7, 10, 13, 14]), (28, [1, 5, 6, 7, 10, 13, 14]), (27, [4]), (26, [1, 5, 6, 7, 10, 13, 14, 134]), (25, [1, 5, 6, 7, 10, 13, 14, 15, 113]), (22, [1, 5, 6, 7, 10, 13, 14, 15, 16]), (24, [1, 5, 6, 7, 10, 13, 14, 15, 16]), (23, [1, 5, 6, 7, 10, 13, 14, 15, 16, 107]), (21, [1, 5, 6, 7, 10, 13, 14, 15, 16, 93]), (20, [1, 5, 6, 7, 10, 13, 14, 15, 16]), (19, [1, 5, 6, 7, 10, 13, 14, 15]), (18, [1, 5, 6, 7, 10, 13, 14, 83]), (16, [1, 5, 6, 7, 10, 13, 14, 75]), (15, [1, 5, 6, 7, 10, 13, 14]), (14, [1, 5, 6, 7, 10, 13]), (9, [1, 5, 6, 7, 10, 11]), (13, [1, 5, 6, 7, 10, 11]), (12, [1, 5, 6, 7, 10, 11, 12]), (11, [1, 5, 6, 7, 10, 11, 12, 55]), (10, [1, 5, 6, 7, 10, 11, 12]), (8, [1, 5, 6, 7, 10, 11, 51]), (7, [1, 5, 6, 7, 10, 11]), (6, [1, 5, 6, 7, 10]), (5, [4]), (4, [1, 5, 6, 7, 47]), (3, [1, 5, 6, 7, 8]), (2, [1, 5]), (1, [0, 1]), (0, [0, 1])], look [(7, [.thaw 10 none])], [71], [], [], []⟩
  | 6 => ⟨look [(6, [4]), (5, [4]), (4, [1, 6, 7, 21]), (3, [1, 6, 7]), (2, [0, 1, 6]), (1, [0, 1, 5]), (0, [0, 1])], look [], [], [], [], []⟩
  | 7 => ⟨look [(23, [4, 5, 6, 7]), (4, [1, 2, 4, 5, 6, 7, 8, 9]), (11, [1, 2, 4, 5, 6, 7, 8, 9, 10, 11]), (22, [1, 2, 4, 5, 6, 7, 8, 9, 10, 11]), (20, [1, 2, 4, 5, 6, 7, 8, 9, 10, 11, 12, 14]), (21, [1, 2, 4, 5, 6, 7, 8, 9, 10, 11, 12, 14]), (19, [1, 2, 4, 5, 6, 7, 8, 9, 10, 11, 12, 14, 84]), (18, [1, 2, 4, 5, 6, 7, 8, 9, 10, 11, 12, 14]), (15, [1, 2, 4, 5, 6, 7, 8, 9, 10, 11, 12, 13]), (17, [1, 2, 4, 5, 6, 7, 8, 9, 10, 11, 12, 13]), (16, [1, 2, 4, 5, 6, 7, 8, 9, 10, 11, 12, 13]), (14, [1, 2, 4, 5, 6, 7, 8, 9, 10, 11, 12, 13, 63]), (13, [1, 2, 4, 5, 6, 7, 8, 9, 10, 11, 12, 13]), (12, [1, 2, 4, 5, 6, 7, 8, 9, 10, 11, 12]), (10, [1, 2, 4, 5, 6, 7, 8, 9, 10, 11, 49]), (9, [1, 2, 4, 5, 6, 7, 8, 9, 10, 11]), (8, [1, 2, 4, 5, 6, 7, 8, 9, 10]), (7, [1, 2, 4, 5, 6, 7, 8, 9, 10, 38]), (6, [1, 2, 4, 5, 6, 7, 8, 9, 10]), (5, [1, 2, 4, 5, 6, 7, 8, 9]), (3, [1, 2, 4, 5, 6, 7, 8, 9, 18]), (2, [1, 2, 4, 5, 6, 7, 8, 9]), (1, [1, 2, 4, 5, 6, 7, 8]), (0, [1, 2, 4, 5, 6, 7])], look [(2, [.thaw 10 none, .thaw 4 none, .thaw 5 none, .thaw 6 none]), (9, [.thaw 4 none, .thaw 5 none, .thaw 6 none, .frzA 10]), (13, [.thaw 4 none, .thaw 5 none]), (18, [.thaw 6 none])], [45, 69, 79, 95], [], [], []⟩
  | 8 => ⟨look [(7, [0]), (6, [2, 3, 4, 5, 6]), (5, [1, 2, 3, 4, 5]), (4, [1, 2, 3, 4]), (3, [1, 2, 3]), (2, [1, 2]), (1, [1]), (0, [])], look [], [], [], [], []⟩
  | 9 => ⟨look [(3, [4]), (2, [4]), (1, [1, 2, 6]), (0, [1, 2])], look [], [], [], [], []⟩
  | 10 => ⟨look [(11, [2]), (10, [3, 9, 10, 11]), (9, [3, 9, 10, 11, 16, 17, 18]), (8, [3, 9, 10, 11, 16, 17, 18]), (7, [3, 7, 9, 10, 11, 16, 17, 18]), (6, [3, 9, 10, 11, 16, 17, 18, 19]), (5, [3, 9, 10, 11, 16, 17, 18]), (4, [3, 5, 9, 10, 11]), (3, [3, 9, 10, 11, 12]), (2, [3, 9, 10, 11]), (1, [1, 3]), (0, [1])], look [(2, [.thaw 3 none]), (5, [.thaw 3 none])], [26], [], [], []⟩
  | 11 => ⟨look [(3, [2]), (2, [2]), (1, [1, 6]), (0, [1])], look [], [], [], [], []⟩
  | 12 => ⟨look [(1, [4]), (0, [0, 1, 4])], look [], [], [], [], []⟩
  | 13 => ⟨look [(1, [4]), (0, [0, 1, 4])], look [], [], [], [], []⟩
  | 14 => ⟨look [(4, [6]), (3, [6]), (2, [3, 4, 5, 6, 11]), (1, [3, 4, 5, 6]), (0, [3, 4, 5, 6])], look [], [], [], [], []⟩
  | 15 => ⟨look [(7, [2]), (6, [3, 7, 8, 9]), (5, [3, 7, 8, 9]), (4, [3, 5, 7, 8, 9]), (3, [3, 7, 8, 9, 10]), (2, [3, 7, 8, 9]), (1, [1, 3]), (0, [1])], look [], [], [], [], []⟩
  | 16 => ⟨look [(1, [4]), (0, [2, 3])], look [], [], [], [], []⟩
  | 17 => ⟨look [(1, [2]), (0, [1])], look [], [], [], [], []⟩
  | 18 => ⟨look [(1, [2]), (0, [1, 2])], look [], [], [], [], []⟩
  | 19 => ⟨look [(1, [2]), (0, [0, 2])], look [], [], [], [], []⟩
  | 20 => ⟨look [(8, [2]), (7, [1, 2]), (6, [1, 2, 3, 11, 12, 13]), (5, [1, 2, 3, 11, 12, 13]), (4, [1, 2, 3, 5, 11, 12, 13]), (3, [1, 2, 3, 11, 12, 13, 14]), (2, [1, 2, 3, 11, 12, 13]), (1, [1, 2, 3]), (0, [1, 2])], look [(2, [.thaw 3 none])], [21], [], [], []⟩
  | 21 => ⟨look [(21, [6]), (7, [6]), (6, [4, 5, 6, 8]), (5, [6]), (4, [3, 4, 5, 6, 7, 25]), (20, [6]), (19, [6, 9]), (18, [3, 5, 6, 7, 9, 10, 52, 53, 54]), (16, [3, 5, 6, 7, 9, 10, 52, 53, 54]), (17, [3, 5, 6, 7, 9, 10, 52, 53, 54]), (15, [3, 5, 6, 7, 9, 10, 12, 52, 53, 54, 61]), (14, [3, 5, 6, 7, 9, 10, 12, 52, 53, 54]), (13, [3, 5, 6, 7, 9, 10, 52, 53, 54, 55]), (12, [3, 5, 6, 7, 9, 10, 52, 53, 54]), (11, [3, 4, 5, 6, 7, 9, 10]), (10, [3, 4, 5, 6, 7, 9]), (9, [3, 4, 5, 6, 7, 9]), (8, [3, 4, 5, 6, 7, 45]), (3, [3, 4, 5, 6, 7, 17, 18]), (2, [3, 4, 5, 6, 7, 17]), (1, [3, 4, 5, 6, 7]), (0, [3, 4, 5, 6])], look [(12, [.thaw 10 none, .thaw 9 (some 2)]), (19, [.frzA 10, .frzA 9])], [65, 71], [], [43], []⟩
  | 22 => ⟨look [(17, [6]), (9, [6]), (6, [6]), (8, [6]), (7, [3, 4, 5, 6, 43]), (5, [3, 4, 5, 6, 7, 8, 20]), (16, [6]), (15, [6, 9]), (14, [3, 4, 6, 7, 9, 10, 78]), (13, [3, 4, 6, 7, 9, 10]), (12, [3, 4, 6, 7, 9, 10]), (11, [3, 4, 5, 6, 7, 8, 9]), (10, [3, 4, 5, 6, 7, 8, 60]), (4, [3, 4, 5, 6, 7, 8, 17, 18]), (3, [3, 4, 5, 6, 7, 8, 17]), (2, [3, 4, 5, 6, 7, 8]), (1, [3, 4, 5, 6, 7]), (0, [3, 4, 5, 6])], look [], [], [], [53], []⟩
  | 23 => ⟨look [(1, [4]), (0, [2, 3])], look [], [], [], [], []⟩
  | 24 => ⟨look [(1, [6]), (0, [0, 1, 2])], look [], [], [], [], []⟩
  | 25 => ⟨look [(1, [2]), (0, [1, 2])], look [], [], [], [], []⟩
  | 26 => ⟨look [(3, [2]), (2, [2]), (1, [0, 4]), (0, [0])], look [], [7], [], [], []⟩
  | 27 => ⟨look [(13, [2]), (12, [2, 3, 27, 28, 29]), (11, [2, 3, 27, 28, 29]), (10, [2, 3, 7, 27, 28, 29]), (9, [2, 3, 27, 28, 29, 30]), (8, [2, 3, 27, 28, 29]), (7, [1, 2, 3, 12, 13, 14]), (6, [1, 2, 3, 12, 13, 14]), (5, [1, 2, 3, 5, 12, 13, 14]), (4, [1, 2, 3, 12, 13, 14, 15]), (3, [1, 2, 3, 12, 13, 14]), (2, [1, 2, 3]), (1, [1, 2, 3]), (0, [1, 2])], look [(3, [.thaw 3 (some 4)]), (8, [.thaw 3 (some 5)])], [23, 42], [], [], []⟩
  | 28 => ⟨look [(14, [2]), (13, [1, 2]), (12, [1, 2, 3, 6, 31, 32, 33]), (11, [1, 2, 3, 6, 31, 32, 33]), (10, [1, 2, 3, 6, 8, 31, 32, 33]), (9, [1, 2, 3, 6, 31, 32, 33, 34]), (8, [1, 2, 3, 6, 31, 32, 33]), (7, [1, 2, 3, 6]), (6, [1, 2, 3, 14, 15, 16]), (5, [1, 2, 3, 14, 15, 16]), (4, [1, 2, 3, 5, 14, 15, 16]), (3, [1, 2, 3, 14, 15, 16, 17]), (2, [1, 2, 3, 14, 15, 16]), (1, [1, 2, 3]), (0, [1, 2])], look [(2, [.thaw 3 none]), (8, [.thaw 6 none])], [24, 41], [], [], []⟩
  | 29 => ⟨look [(1, [2]), (0, [1])], look [], [], [], [], []⟩
  | 30 => ⟨look [(1, [6]), (0, [3, 4, 5, 6])], look [], [], [], [], []⟩
  | 31 => ⟨look [(8, [6]), (7, [6]), (6, [3, 6, 9, 34]), (5, [3, 6, 9, 10]), (4, [3, 4, 6]), (3, [3, 4, 5, 6]), (2, [3, 4, 5, 6, 7, 18]), (1, [3, 4, 5, 6, 7, 8]), (0, [3, 4, 5, 6])], look [(5, [.frzA 4])], [25, 15], [], [], []⟩
  | 32 => ⟨look [(1, [2]), (0, [0, 2])], look [], [], [], [], []⟩
  | 33 => ⟨look [(8, [10]), (7, []), (6, [11]), (5, [5, 6, 11, 12, 13]), (4, [5, 6, 11, 12, 13]), (3, [5, 6, 11, 12, 19]), (2, [5, 6, 11, 17]), (1, [2, 4, 5, 6, 8, 11]), (0, [2, 4, 5, 6, 8])], look [], [28, 44], [], [], [(17, [5, 6, 11])]⟩
  | 34 => ⟨look [(3, [6]), (2, [6]), (1, [4, 12]), (0, [2, 3, 4])], look [], [], [], [], []⟩
  | 35 => ⟨look [(1, [2]), (0, [1])], look [], [], [], [], []⟩
  | 36 => ⟨look [(3, [8]), (2, [5, 8]), (1, [2, 4, 5, 8]), (0, [2, 3, 4, 5, 8])], look [], [], [], [], []⟩
  | 37 => ⟨look [(13, [4]), (12, [1, 4, 5, 13, 14, 15]), (11, [1, 4, 5, 13, 14, 15]), (10, [1, 4, 5, 7, 13, 14, 15, 41]), (9, [1, 4, 5, 7, 9, 13, 14, 15]), (8, [1, 4, 5, 7, 8, 9, 13, 14, 15]), (7, [1, 4, 5, 7, 8, 13, 14, 15]), (6, [1, 4, 5, 7, 8, 13, 14, 15]), (5, [1, 4, 5, 7, 13, 14, 15]), (4, [1, 4, 5, 13, 14, 15, 16]), (3, [1, 4, 5, 13, 14, 15]), (2, [1, 2, 4, 5]), (1, [1, 2, 4, 5]), (0, [1, 2, 4])], look [(3, [.thaw 5 (some 2)])], [46], [], [], []⟩
  | 38 => ⟨look [(8, [2]), (7, [3, 6, 7, 8]), (6, [2]), (5, [3, 5, 6, 7, 8, 14]), (4, [3, 5, 6, 7, 8]), (3, [3, 6, 7, 8, 9]), (2, [3, 6, 7, 8]), (1, [0, 3]), (0, [0])], look [], [], [], [], []⟩
  | 39 => ⟨look [(13, [4]), (12, [4]), (11, [19]), (10, [4]), (9, [0, 1, 16]), (8, [4]), (7, [0, 1, 13]), (6, [4]), (5, [4]), (4, [12]), (3, [0, 1, 6, 11]), (2, [0, 1, 5, 6]), (1, [0, 1, 5]), (0, [0, 1])], look [], [], [], [], []⟩
  | 40 => ⟨look [(13, [6]), (12, [6]), (11, [38]), (10, [0, 1, 2, 11, 12, 13]), (9, [6]), (8, [0, 1, 2, 10, 11, 12, 13, 31]), (7, [0, 1, 2, 10, 11, 12, 13]), (6, [0, 1, 2, 8, 9, 11, 12, 13]), (5, [6]), (4, [0, 1, 2, 7, 8, 11, 12, 13, 21]), (3, [0, 1, 2, 7, 8, 11, 12, 13]), (2, [0, 1, 2, 11, 12, 13, 14]), (1, [0, 1, 2, 11, 12, 13]), (0, [0, 1, 2])], look [], [], [], [], []⟩
  | 41 => ⟨look [(1, [4]), (0, [0, 1])], look [], [], [], [], []⟩
  | 42 => ⟨look [(1, [6]), (0, [1, 3, 5, 6])], look [(1, [.frzV 5])], [], [], [], []⟩
  | 43 => ⟨look [(4, [4, 5]), (3, [4, 5]), (2, [2, 4, 6, 15]), (1, [2, 4, 6, 7]), (0, [2, 3, 4])], look [], [22], [], [], []⟩
  | 44 => ⟨look [(8, [4, 5]), (6, [4, 8]), (7, [4, 8]), (5, [3, 4, 6, 8, 27]), (4, [3, 4, 6, 7, 8]), (3, [4, 5]), (2, [2, 3, 4, 6, 7, 23]), (1, [2, 3, 4, 6, 7]), (0, [2, 3, 4])], look [], [26, 40], [40], [], []⟩
  | 45 => ⟨look [(1, [6]), (0, [3, 4, 5])], look [(1, [.frzV 3, .frzV 5, .frzV 4])], [], [], [], []⟩
  | 46 => ⟨look [(1, [6]), (0, [1, 2, 3, 6])], look [], [], [], [], []⟩
  | 47 => ⟨look [(1, [2]), (0, [0])], look [], [], [], [], []⟩
  | 48 => ⟨look [(7, [8]), (6, [8, 9, 18, 19, 20]), (5, [8, 9, 18, 19, 20]), (4, [8, 9, 11, 18, 19, 20]), (3, [8, 9, 18, 19, 20, 21]), (2, [8, 9, 18, 19, 20]), (1, [3, 8, 9]), (0, [1, 2, 3, 4, 8])], look [], [], [], [], []⟩
  | 49 => ⟨look [(0, [])], look [], [], [], [], []⟩
  | 50 => ⟨look [(1, [4, 5]), (0, [2, 3])], look [], [], [], [], []⟩
  | 51 => ⟨look [(20, [6]), (19, [0]), (18, [0, 1, 7]), (17, [6]), (16, [0]), (15, [0, 1, 2]), (14, [0, 1, 2, 7, 8, 68]), (13, [0, 1, 2, 7, 8]), (12, [6]), (11, [9]), (10, [0, 1, 7, 9]), (9, [0, 1, 2, 7, 9]), (8, [0, 1, 2, 7, 8, 31]), (7, [6]), (6, [0, 1, 2, 7, 8, 22]), (5, [0, 1, 2, 7, 8]), (4, [6]), (3, [0, 1, 2, 7, 16]), (2, [0, 1, 2, 7]), (1, [0, 1, 2]), (0, [0, 1, 2])], look [], [25], [], [], []⟩
  | 52 => ⟨look [(4, [0, 2, 3, 7, 8, 9]), (3, [0, 2, 3, 7, 8, 9, 27]), (2, [0, 2, 3, 5, 6, 7, 8, 9]), (1, [0, 2, 3, 7, 8, 9, 10]), (0, [0, 2, 3, 7, 8, 9])], look [], [], [], [], []⟩
  | 53 => ⟨look [(3, [4]), (2, [2, 4]), (1, [2, 3, 4]), (0, [2, 3, 4])], look [], [], [], [], []⟩
  | 54 => ⟨look [(1, [4]), (0, [1, 2, 4])], look [], [9], [], [], []⟩
  | 55 => ⟨look [(1, [2]), (0, [1])], look [(1, [.frzV 1])], [], [], [], []⟩
  | 56 => ⟨look [(8, [6, 7]), (6, [0, 2, 4, 8, 9, 10]), (7, [0, 2, 4, 8, 9, 10]), (5, [0, 2, 4, 8, 9, 10, 11, 31]), (4, [0, 2, 4, 8, 9, 10, 11]), (3, [0, 2, 4, 8, 9, 10, 17]), (2, [0, 2, 4, 8, 9, 10]), (1, [0, 2, 4, 8]), (0, [0, 2, 4])], look [], [], [], [], []⟩
  | 57 => ⟨look [(1, [4]), (0, [2, 3])], look [], [], [], [], []⟩
  | 58 => ⟨look [(1, [4]), (0, [2, 3])], look [], [], [], [], []⟩
  | 60 => ⟨look [(0, [])], look [], [], [], [], []⟩
  | 61 => ⟨look [(4, [0, 5, 6, 7]), (3, [0, 5, 6, 7]), (2, [0, 4, 5, 6, 7]), (1, [0, 5, 6, 7, 8]), (0, [0, 5, 6, 7])], look [], [], [], [], []⟩
  | 62 => ⟨look [(1, [4]), (0, [0, 1])], look [], [], [], [], []⟩
  | 63 => ⟨look [(13, [6]), (12, [6]), (11, [38]), (10, [0, 1, 2, 11, 12, 13]), (9, [6]), (8, [0, 1, 2, 10, 11, 12, 13, 31]), (7, [0, 1, 2, 10, 11, 12, 13]), (6, [0, 1, 2, 8, 9, 11, 12, 13]), (5, [6]), (4, [0, 1, 2, 7, 8, 11, 12, 13, 21]), (3, [0, 1, 2, 7, 8, 11, 12, 13]), (2, [0, 1, 2, 11, 12, 13, 14]), (1, [0, 1, 2, 11, 12, 13]), (0, [0, 1, 2])], look [], [], [], [], []⟩
  | 64 => ⟨look [(13, [6]), (12, [6]), (11, [38]), (10, [0, 1, 2, 11, 12, 13]), (9, [6]), (8, [0, 1, 2, 10, 11, 12, 13, 31]), (7, [0, 1, 2, 10, 11, 12, 13]), (6, [0, 1, 2, 8, 9, 11, 12, 13]), (5, [6]), (4, [0, 1, 2, 7, 8, 11, 12, 13, 21]), (3, [0, 1, 2, 7, 8, 11, 12, 13]), (2, [0, 1, 2, 11, 12, 13, 14]), (1, [0, 1, 2, 11, 12, 13]), (0, [0, 1, 2])], look [], [], [], [], []⟩
  | 65 => ⟨look [(1, [4]), (0, [2, 3])], look [], [], [], [], []⟩
  | 66 => ⟨look [(2, []), (1, [0]), (0, [0, 1])], look [], [], [], [], []⟩
  | 67 => ⟨look [(1, [4]), (0, [0, 1])], look [], [], [], [], []⟩
  | 68 => ⟨look [(2, [0, 2, 3]), (3, [0, 2, 3]), (1, [0, 2, 3, 9]), (0, [0, 2, 3])], look [], [], [], [], []⟩
  | _ => ⟨fun _ => [], fun _ => [], [], [], [], []⟩
noncomputable def tab : FuncId → Option Fun := fun f => if memN f ids then trFun Try.prog (annOf f) f else none
def compareExt (args : List X) (inb : List Bx) : Option (X × List Bx) :=
  match args with
  | [.v (.string a), .v (.string b)] => some (.v (.int .i64 (Lib.compareBytes a.data.toList b.data.toList)), inb)
  | _ => none
def ext : Ext := fun i => if i == 67 then some compareExt else none
theorem known_true : callF tab ext 399 (.fn 8) [] [] = some (.v (.bool true), []) := by kernel_rfl
end Go.Proofs.Ytjfheahakfoofaa

/- Notes: the messages of the runs, and what copies them. -/
namespace Go.Proofs.Ytjfheahakfoofaa
open Go.Em

def num (n : Int) : X := .v (.int .i64 n)
def nat (n : Nat) : X := .v (.int .i64 (Int.ofNat n))
def text (s : ByteArray) : X := .v (.string s)
def noText : X := .v (.string ⟨#[]⟩)

theorem lt_nat {j k : Nat} (h : j < k) : decide (Int.ofNat j < Int.ofNat k) = true := by
  have : Int.ofNat j < Int.ofNat k := by simp only [Int.ofNat_eq_natCast]; omega
  exact decide_eq_true this
theorem nlt_nat {j k : Nat} (h : ¬ j < k) : decide (Int.ofNat j < Int.ofNat k) = false := by
  have : ¬ Int.ofNat j < Int.ofNat k := by simp only [Int.ofNat_eq_natCast]; omega
  exact decide_eq_false this
theorem next_nat {j : Nat} (h : j < 4294967296) : IntKind.i64.wrap (Int.ofNat j + 1) = Int.ofNat (j + 1) := by
  rw [IntKind.wrap_i64]; simp only [Int.ofNat_eq_natCast]; omega
theorem room_of {n bytes : Nat} (h : n * bytes ≤ 70368744177664) (h2 : n < 4611686018427387904) : roomOk n bytes = true := by
  simp only [roomOk, Bool.and_eq_true, decide_eq_true_eq]; exact ⟨h, h2⟩

/-- The message of an entry, by cells. -/
def noteC (e : Int) : List X := [num e, .sl false 1 [[num 1]], num 1048576, .sl false 1 [[num e]], num 9, num 0, num 0, noText, .sl false 6 [], .sl false 7 []]

theorem clone_note (N : Nat) (e : Int) : Gam.pureD (callF tab ext (N + 20)) 18 [.agg (noteC e)] = some (.agg (noteC e)) := by kernel_rfl

end Go.Proofs.Ytjfheahakfoofaa

/- Waiting and the copies of slots, for messages that are notes. -/
namespace Go.Proofs.Ytjfheahakfoofaa
open Go.Em

/-- The items of a slot. -/
def notes (es : List Int) : List (List X) := es.map noteC

theorem notes_get {es : List Int} {j : Nat} (h : j < es.length) : (notes es)[j]? = some (noteC (es.getD j 0)) := by
  simp [notes, h, List.getD]
theorem notes_take {es : List Int} {j : Nat} (h : j < es.length) : notes (es.take (j + 1)) = notes (es.take j) ++ [noteC (es.getD j 0)] := by
  simp only [notes]
  rw [List.take_succ_eq_append_getElem h, List.map_append]
  congr 1
  simp [List.getD, h]
theorem notes_length (es : List Int) : (notes es).length = es.length := by simp [notes]

/-- The head of the inner loop of Waiting. -/
def waitIn (slots items acc : List (List X)) (i k n j ns : Nat) : St :=
  ⟨[(3, .bs 0 0 n), (9, .sl false 10 slots), (10, nat ns), (11, nat i), (16, .sl false 10 items), (17, nat k), (18, nat j)], [.row 10 acc]⟩
def waitIn' (slots items acc : List (List X)) (i k n j ns : Nat) (m : List X) : St :=
  ⟨[(3, .bs 2 0 (n + 1)), (9, .sl false 10 slots), (10, nat ns), (11, nat i), (16, .sl false 10 items), (17, nat k), (18, nat (j + 1))], [.dead, .var m, .row 10 (acc ++ [m])]⟩

theorem wait_in_canon (slots items acc : List (List X)) (i k n j ns : Nat) : canon 0 (waitIn slots items acc i k n j ns) = some (waitIn slots items acc i k n j ns) := by kernel_rfl
theorem wait_in_canon' (slots items acc : List (List X)) (i k n j ns : Nat) (m : List X) : canon 0 (waitIn' slots items acc i k n j ns m) = some (waitIn slots items (acc ++ [m]) i k (n + 1) (j + 1) ns) := by kernel_rfl

theorem wait_in_step (N : Nat) (slots items acc : List (List X)) (i k n j ns : Nat) (e : Int) (hi : items[j]? = some (noteC e)) (hj : j < k) (hk : k < 4294967296) (hn : n = acc.length) (hr : n < 1000) :
    run (callF tab ext (N + 80)) 0 (N + 80) (loopOf tab 10 1) (waitIn slots items acc i k n j ns) = some (.norm, waitIn' slots items acc i k n j ns (noteC e)) := by
  exact runA_sound (ans := [(19, .b true), (20, .e (noteC e)), (24, .p (.agg (noteC e))), (26, .app), (27, .i (Int.ofNat (j+1)))]) (lo := []) (lo' := [])
    (ps := [decide (Int.ofNat j < Int.ofNat k) = true, items[j]? = some (noteC e), Gam.pureD (callF tab ext (N + 80)) 18 [.agg (noteC e)] = some (.agg (noteC e)),
      (0 + n = acc.length ∧ roomOk (n + 1) 152 = true ∧ memN 0 [] = false), IntKind.i64.wrap (Int.ofNat j + 1) = Int.ofNat (j + 1)]) (by kernel_rfl) ⟨lt_nat hj, hi, clone_note (N + 60) e, ⟨by omega, room_of (by omega) (by omega), rfl⟩, next_nat (by omega), trivial⟩

theorem wait_in_end (N : Nat) (slots items acc : List (List X)) (i k n ns : Nat) :
    run (callF tab ext (N + 80)) 0 (N + 80) (loopOf tab 10 1) (waitIn slots items acc i k n k ns) = some (.exit 2, ⟨[(3, .bs 0 0 n), (9, .sl false 10 slots), (10, nat ns), (11, nat i), (16, .sl false 10 items), (17, nat k), (18, nat k), (19, .v (.bool false))], [.row 10 acc]⟩) := by
  exact runA_sound (ans := [(19, .b false)]) (lo := []) (lo' := []) (ps := [decide (Int.ofNat k < Int.ofNat k) = false]) (by kernel_rfl) ⟨nlt_nat (by omega), trivial⟩

theorem wait_in_loop (N : Nat) (slots acc : List (List X)) (es : List Int) (i ns : Nat) (τ : St) (hτ : canon 0 τ = some (waitIn slots (notes es) acc i (notes es).length acc.length 0 ns)) (hl : acc.length + es.length < 1000) (hF : es.length < N + 80) :
    run (callF tab ext (N + 80)) 0 (N + 80) (.loop (loopOf tab 10 1)) τ = some (.exit 2, ⟨[(3, .bs 0 0 (acc.length + es.length)), (9, .sl false 10 slots), (10, nat ns), (11, nat i), (16, .sl false 10 (notes es)), (17, nat (notes es).length), (18, nat (notes es).length), (19, .v (.bool false))], [.row 10 (acc ++ notes es)]⟩) := by
  simp only [run]
  let σs : Nat → St := fun j => waitIn slots (notes es) (acc ++ notes (es.take j)) i (notes es).length (acc.length + j) j ns
  let τs : Nat → St := fun j => match j with
    | 0 => τ
    | j + 1 => waitIn' slots (notes es) (acc ++ notes (es.take j)) i (notes es).length (acc.length + j) j ns (noteC (es.getD j 0))
  have hlen : (acc ++ notes (es.take es.length)) = acc ++ notes es := by rw [List.take_length]
  refine iter_for (k := es.length) (σ := σs) (τ := τs) (fun j hj => ?_) (fun j hj => ?_) ?_ (by simp) hF
  · cases j with
    | zero => simpa [σs, τs, notes] using hτ
    | succ j =>
      have := wait_in_canon' slots (notes es) (acc ++ notes (es.take j)) i (notes es).length (acc.length + j) j ns (noteC (es.getD j 0))
      simp only [σs, τs]
      rw [this, notes_take (by omega), List.append_assoc]; rfl
  · refine wait_in_step N slots (notes es) _ i _ _ j ns _ (notes_get hj) (by rw [notes_length]; exact hj) (by rw [notes_length]; omega) ?_ (by omega)
    simp [notes_length]; omega
  · have := wait_in_end N slots (notes es) (acc ++ notes (es.take es.length)) i (notes es).length (acc.length + es.length) ns
    simp only [σs]
    rw [hlen] at this ⊢
    rw [notes_length] at this ⊢
    exact this

/-- A slot of the runs: the key, the time, the entries of what is held. -/
structure Sl where
  kind : Int
  key : Int
  time : Int
  es : List Int
def Sl.cells (s : Sl) : List X := [num s.kind, num s.key, num 0, noText, .sl false 6 [], .sl false 7 [], num 0, num s.time, .sl false 10 (notes s.es), .sl false 6 []]
def slotsC (ss : List Sl) : List (List X) := ss.map Sl.cells
def allOf (ss : List Sl) : List Int := ss.flatMap (·.es)

/-- The head of the outer loop of Waiting. -/
def waitOut (slots acc : List (List X)) (ns n i : Nat) : St :=
  ⟨[(3, .bs 0 0 n), (9, .sl false 10 slots), (10, nat ns), (11, nat i)], [.row 10 acc]⟩

theorem wait_out_canon (slots acc : List (List X)) (ns n i : Nat) : canon 0 (waitOut slots acc ns n i) = some (waitOut slots acc ns n i) := by kernel_rfl

theorem wait_out_step (N : Nat) (slots acc : List (List X)) (i ns : Nat) (s : Sl) (hi : slots[i]? = some s.cells) (hj : i < ns) (hk : ns < 4294967296) (hl : acc.length + s.es.length < 1000) (hF : s.es.length < N + 80) :
    run (callF tab ext (N + 80)) 0 (N + 80) (loopOf tab 10 0) (waitOut slots acc ns acc.length i) = some (.norm, waitOut slots (acc ++ notes s.es) ns (acc.length + s.es.length) (i + 1)) := by
  refine runA_sound (ans := [(12, .b true), (13, .e s.cells), (28, .i (Int.ofNat (i+1)))]) (lo := [(.exit 2, ⟨[(3, .bs 0 0 (acc.length + s.es.length)), (9, .sl false 10 slots), (10, nat ns), (11, nat i), (16, .sl false 10 (notes s.es)), (17, nat (notes s.es).length), (18, nat (notes s.es).length), (19, .v (.bool false))], [.row 10 (acc ++ notes s.es)]⟩)]) (lo' := [])
    (ps := [decide (Int.ofNat i < Int.ofNat ns) = true, slots[i]? = some s.cells,
      run (callF tab ext (N + 80)) 0 (N + 80) (.loop (loopOf tab 10 1)) ⟨[(3, .bs 0 0 acc.length), (9, .sl false 10 slots), (10, nat ns), (11, nat i), (16, .sl false 10 (notes s.es)), (17, nat (notes s.es).length), (18, nat 0)], [.row 10 acc, .var s.cells]⟩ = some (.exit 2, ⟨[(3, .bs 0 0 (acc.length + s.es.length)), (9, .sl false 10 slots), (10, nat ns), (11, nat i), (16, .sl false 10 (notes s.es)), (17, nat (notes s.es).length), (18, nat (notes s.es).length), (19, .v (.bool false))], [.row 10 (acc ++ notes s.es)]⟩),
      IntKind.i64.wrap (Int.ofNat i + 1) = Int.ofNat (i + 1)]) (by kernel_rfl) ⟨lt_nat hj, hi, wait_in_loop N slots acc s.es i ns _ (by kernel_rfl) hl hF, next_nat (by omega), trivial⟩

end Go.Proofs.Ytjfheahakfoofaa

/- Waiting, whole; and the copies of slots. -/
namespace Go.Proofs.Ytjfheahakfoofaa
open Go.Em

theorem slots_get {ss : List Sl} {j : Nat} (h : j < ss.length) : (slotsC ss)[j]? = some (ss.getD j ⟨0, 0, 0, []⟩).cells := by
  simp [slotsC, h, List.getD]
theorem slots_length (ss : List Sl) : (slotsC ss).length = ss.length := by simp [slotsC]
theorem slots_take {ss : List Sl} {j : Nat} (h : j < ss.length) : slotsC (ss.take (j + 1)) = slotsC (ss.take j) ++ [(ss.getD j ⟨0, 0, 0, []⟩).cells] := by
  simp only [slotsC]
  rw [List.take_succ_eq_append_getElem h, List.map_append]
  congr 1
  simp [List.getD, h]
theorem all_take {ss : List Sl} {j : Nat} (h : j < ss.length) : allOf (ss.take (j + 1)) = allOf (ss.take j) ++ (ss.getD j ⟨0, 0, 0, []⟩).es := by
  simp only [allOf]
  rw [List.take_succ_eq_append_getElem h, List.flatMap_append]
  congr 1
  simp [List.getD, h]
theorem notes_append (a b : List Int) : notes (a ++ b) = notes a ++ notes b := by simp [notes]
theorem all_le {ss : List Sl} {j : Nat} (h : j < ss.length) : (allOf (ss.take j)).length + (ss.getD j ⟨0, 0, 0, []⟩).es.length ≤ (allOf ss).length := by
  have h1 : (allOf (ss.take (j + 1))).length ≤ (allOf ss).length := by
    have : allOf ss = allOf (ss.take (j + 1)) ++ allOf (ss.drop (j + 1)) := by
      simp only [allOf]; rw [← List.flatMap_append, List.take_append_drop]
    rw [this, List.length_append]; omega
  rw [all_take h, List.length_append] at h1
  exact h1

/-- A state of the runs. -/
def stateX (n t : Int) (ss : List Sl) : X := .agg [num n, num t, .sl false 10 (slotsC ss)]

theorem wait_out_end (N : Nat) (slots acc : List (List X)) (n ns : Nat) :
    run (callF tab ext (N + 80)) 0 (N + 80) (loopOf tab 10 0) (waitOut slots acc ns n ns) = some (.exit 0, ⟨[(3, .bs 0 0 n), (9, .sl false 10 slots), (10, nat ns), (11, nat ns), (12, .v (.bool false))], [.row 10 acc]⟩) := by
  exact runA_sound (ans := [(12, .b false)]) (lo := []) (lo' := []) (ps := [decide (Int.ofNat ns < Int.ofNat ns) = false]) (by kernel_rfl) ⟨nlt_nat (by omega), trivial⟩

theorem wait_out_loop (N : Nat) (ss : List Sl) (τ : St) (hτ : canon 0 τ = some (waitOut (slotsC ss) [] (slotsC ss).length 0 0)) (hl : (allOf ss).length < 80) (hs : ss.length < 80) :
    run (callF tab ext (N + 80)) 0 (N + 80) (.loop (loopOf tab 10 0)) τ = some (.exit 0, ⟨[(3, .bs 0 0 (allOf ss).length), (9, .sl false 10 (slotsC ss)), (10, nat (slotsC ss).length), (11, nat (slotsC ss).length), (12, .v (.bool false))], [.row 10 (notes (allOf ss))]⟩) := by
  simp only [run]
  let σs : Nat → St := fun j => waitOut (slotsC ss) (notes (allOf (ss.take j))) (slotsC ss).length (allOf (ss.take j)).length j
  let τs : Nat → St := fun j => match j with
    | 0 => τ
    | j + 1 => waitOut (slotsC ss) (notes (allOf (ss.take (j + 1)))) (slotsC ss).length (allOf (ss.take (j + 1))).length (j + 1)
  refine iter_for (k := ss.length) (σ := σs) (τ := τs) (fun j hj => ?_) (fun j hj => ?_) ?_ (by simp) (by omega)
  · cases j with
    | zero => simpa [σs, τs, notes, allOf] using hτ
    | succ j => exact wait_out_canon _ _ _ _ _
  · have h1 := all_le hj
    have := wait_out_step N (slotsC ss) (notes (allOf (ss.take j))) j (slotsC ss).length (ss.getD j ⟨0, 0, 0, []⟩) (slots_get hj) (by rw [slots_length]; exact hj) (by rw [slots_length]; omega) (by rw [notes_length]; omega) (by omega)
    simp only [σs, τs]
    rw [notes_length] at this
    rw [this, all_take hj, notes_append, List.length_append]
  · have := wait_out_end N (slotsC ss) (notes (allOf ss)) (allOf ss).length (slotsC ss).length
    simp only [σs]
    rw [List.take_length]
    rw [slots_length] at this ⊢
    exact this

theorem waiting_eq (N : Nat) (n t : Int) (ss : List Sl) (hl : (allOf ss).length < 80) (hs : ss.length < 80) :
    callF tab ext (N + 81) (.fn 10) [stateX n t ss] [] = some (.bs 0 0 (allOf ss).length, [.row 10 (notes (allOf ss))]) :=
  callA_sound (ans := []) (lo := [(.exit 0, ⟨[(3, .bs 0 0 (allOf ss).length), (9, .sl false 10 (slotsC ss)), (10, nat (slotsC ss).length), (11, nat (slotsC ss).length), (12, .v (.bool false))], [.row 10 (notes (allOf ss))]⟩)])
    (ps := [run (callF tab ext (N + 80)) 0 (N + 80) (.loop (loopOf tab 10 0)) ⟨[(3, .bs 1 0 0), (9, .sl false 10 (slotsC ss)), (10, nat (slotsC ss).length), (11, nat 0)], [.var [num n, num t, .sl false 10 (slotsC ss)], .row 10 []]⟩ = some (.exit 0, ⟨[(3, .bs 0 0 (allOf ss).length), (9, .sl false 10 (slotsC ss)), (10, nat (slotsC ss).length), (11, nat (slotsC ss).length), (12, .v (.bool false))], [.row 10 (notes (allOf ss))]⟩)])
    (by kernel_rfl) ⟨wait_out_loop N ss _ (by kernel_rfl) hl hs, trivial⟩

theorem rowOf_all {sz : Nat} {es : List (List X)} {n : Nat} (h : n = es.length) : rowOf [.row sz es] 0 0 n = some (sz, es) := by
  subst h
  simp [rowOf]

theorem waiting_pure (N : Nat) (n t : Int) (ss : List Sl) (hl : (allOf ss).length < 80) (hs : ss.length < 80) : Gam.pureD (callF tab ext (N + 81)) 10 [stateX n t ss] = some (.sl false 10 (notes (allOf ss))) :=
  pureD_of (waiting_eq N n t ss hl hs) (by simp only [X.data, rowOf_all (notes_length _).symm, Option.map_some])

end Go.Proofs.Ytjfheahakfoofaa

/- The copies of slots and of states. -/
namespace Go.Proofs.Ytjfheahakfoofaa
open Go.Em

def zSlot : List X := [num 0, num 0, num 0, noText, .sl true 6 [], .sl true 7 [], num 0, num 0, .sl true 10 [], .sl true 6 []]

/-- The head of the loop over the items, in the copy of a slot. -/
def csH (s : List X) (items acc : List (List X)) (k n j : Nat) : St :=
  ⟨[(1, .ptr 0 0 0), (2, .ptr 1 0 0), (3, .bs 2 0 n), (14, .sl false 10 items), (15, nat k), (16, nat j)], [.var s, .var zSlot, .row 10 acc]⟩
def csH' (s : List X) (items acc : List (List X)) (k n j : Nat) (m : List X) : St :=
  ⟨[(1, .ptr 0 0 0), (2, .ptr 1 0 0), (3, .bs 4 0 (n + 1)), (14, .sl false 10 items), (15, nat k), (16, nat (j + 1))], [.var s, .var zSlot, .dead, .var m, .row 10 (acc ++ [m])]⟩

theorem cs_canon (s : Sl) (items acc : List (List X)) (k n j : Nat) : canon 0 (csH s.cells items acc k n j) = some (csH s.cells items acc k n j) := by kernel_rfl
theorem cs_canon' (s : Sl) (items acc : List (List X)) (k n j : Nat) (m : List X) : canon 0 (csH' s.cells items acc k n j m) = some (csH s.cells items (acc ++ [m]) k (n + 1) (j + 1)) := by kernel_rfl

theorem cs_step (N : Nat) (s : Sl) (items acc : List (List X)) (k n j : Nat) (e : Int) (hi : items[j]? = some (noteC e)) (hj : j < k) (hk : k < 4294967296) (hn : n = acc.length) (hr : n < 1000) :
    run (callF tab ext (N + 80)) 0 (N + 80) (loopOf tab 28 0) (csH s.cells items acc k n j) = some (.norm, csH' s.cells items acc k n j (noteC e)) := by
  exact runA_sound (ans := [(17, .b true), (18, .e (noteC e)), (22, .p (.agg (noteC e))), (24, .app), (25, .i (Int.ofNat (j+1)))]) (lo := []) (lo' := [])
    (ps := [decide (Int.ofNat j < Int.ofNat k) = true, items[j]? = some (noteC e), Gam.pureD (callF tab ext (N + 80)) 18 [.agg (noteC e)] = some (.agg (noteC e)),
      (0 + n = acc.length ∧ roomOk (n + 1) 152 = true ∧ memN 2 [] = false), IntKind.i64.wrap (Int.ofNat j + 1) = Int.ofNat (j + 1)]) (by kernel_rfl) ⟨lt_nat hj, hi, clone_note (N + 60) e, ⟨by omega, room_of (by omega) (by omega), rfl⟩, next_nat (by omega), trivial⟩

def csEnd (s : List X) (items acc : List (List X)) (k n : Nat) : St :=
  ⟨[(1, .ptr 0 0 0), (2, .ptr 1 0 0), (3, .bs 2 0 n), (14, .sl false 10 items), (15, nat k), (16, nat k), (17, .v (.bool false))], [.var s, .var zSlot, .row 10 acc]⟩

theorem cs_end (N : Nat) (s : Sl) (items acc : List (List X)) (k n : Nat) :
    run (callF tab ext (N + 80)) 0 (N + 80) (loopOf tab 28 0) (csH s.cells items acc k n k) = some (.exit 0, csEnd s.cells items acc k n) := by
  exact runA_sound (ans := [(17, .b false)]) (lo := []) (lo' := []) (ps := [decide (Int.ofNat k < Int.ofNat k) = false]) (by kernel_rfl) ⟨nlt_nat (by omega), trivial⟩

theorem cs_loop (N : Nat) (s : Sl) (τ : St) (hτ : canon 0 τ = some (csH s.cells (notes s.es) [] (notes s.es).length 0 0)) (hl : s.es.length < 80) :
    run (callF tab ext (N + 80)) 0 (N + 80) (.loop (loopOf tab 28 0)) τ = some (.exit 0, csEnd s.cells (notes s.es) (notes s.es) (notes s.es).length s.es.length) := by
  simp only [run]
  let σs : Nat → St := fun j => csH s.cells (notes s.es) (notes (s.es.take j)) (notes s.es).length j j
  let τs : Nat → St := fun j => match j with
    | 0 => τ
    | j + 1 => csH' s.cells (notes s.es) (notes (s.es.take j)) (notes s.es).length j j (noteC (s.es.getD j 0))
  refine iter_for (k := s.es.length) (σ := σs) (τ := τs) (fun j hj => ?_) (fun j hj => ?_) ?_ (by simp) (by omega)
  · cases j with
    | zero => simpa [σs, τs, notes] using hτ
    | succ j =>
      have := cs_canon' s (notes s.es) (notes (s.es.take j)) (notes s.es).length j j (noteC (s.es.getD j 0))
      simp only [σs, τs]
      rw [this, notes_take (by omega)]
  · refine cs_step N s (notes s.es) _ _ _ j _ (notes_get hj) (by rw [notes_length]; exact hj) (by rw [notes_length]; omega) ?_ (by omega)
    simp [notes_length]; omega
  · have := cs_end N s (notes s.es) (notes (s.es.take s.es.length)) (notes s.es).length s.es.length
    simp only [σs]
    rw [List.take_length] at this ⊢
    rw [notes_length] at this ⊢
    exact this

theorem clone_key (N : Nat) (a b : Int) : Gam.pureD (callF tab ext (N + 20)) 27 [.agg [num a, num b, num 0, noText, .sl false 6 [], .sl false 7 []]] = some (.agg [num a, num b, num 0, noText, .sl false 6 [], .sl false 7 []]) := by kernel_rfl

theorem clone_slot_eq (N : Nat) (s : Sl) (hl : s.es.length < 80) :
    callF tab ext (N + 81) (.fn 28) [.agg s.cells] [] = some (.agg [num s.kind, num s.key, num 0, noText, .sl false 6 [], .sl false 7 [], num 0, num s.time, .bs 0 0 s.es.length, .bs 1 0 0], [.row 10 (notes s.es), .row 6 []]) :=
  callA_sound (ans := [(12, .mk), (45, .p (.agg [num s.kind, num s.key, num 0, noText, .sl false 6 [], .sl false 7 []]))]) (lo := [(.exit 0, csEnd s.cells (notes s.es) (notes s.es) (notes s.es).length s.es.length)])
    (ps := [0 ≤ (notes s.es).length ∧ roomOk (notes s.es).length 152 = true,
      run (callF tab ext (N + 80)) 0 (N + 80) (.loop (loopOf tab 28 0)) ⟨[(1, .ptr 0 0 0), (2, .ptr 1 0 0), (3, .bs 2 0 0), (14, .sl false 10 (notes s.es)), (15, nat (notes s.es).length), (16, nat 0)], [.var s.cells, .var zSlot, .row 10 []]⟩ = some (.exit 0, csEnd s.cells (notes s.es) (notes s.es) (notes s.es).length s.es.length),
      Gam.pureD (callF tab ext (N + 80)) 27 [.agg [num s.kind, num s.key, num 0, noText, .sl false 6 [], .sl false 7 []]] = some (.agg [num s.kind, num s.key, num 0, noText, .sl false 6 [], .sl false 7 []])])
    (by kernel_rfl) ⟨⟨by omega, room_of (by rw [notes_length]; omega) (by rw [notes_length]; omega)⟩, cs_loop N s _ (by kernel_rfl) hl, clone_key (N + 60) _ _, trivial⟩

end Go.Proofs.Ytjfheahakfoofaa

/- The copy of a state. -/
namespace Go.Proofs.Ytjfheahakfoofaa
open Go.Em

theorem rowOf_get {bx : List Bx} {i sz n : Nat} {es : List (List X)} (h : bx[i]? = some (.row sz es)) (hn : n = es.length) : rowOf bx i 0 n = some (sz, es) := by
  subst hn
  simp [rowOf, h]

theorem clone_slot_pure (N : Nat) (s : Sl) (hl : s.es.length < 80) : Gam.pureD (callF tab ext (N + 81)) 28 [.agg s.cells] = some (.agg s.cells) := by
  refine pureD_of (clone_slot_eq N s hl) ?_
  have h0 : rowOf [Bx.row 10 (notes s.es), .row 6 []] 0 0 s.es.length = some (10, notes s.es) := rowOf_get rfl (notes_length _).symm
  have h1 : rowOf [Bx.row 10 (notes s.es), .row 6 []] 1 0 0 = some (6, []) := rowOf_get rfl rfl
  simp only [X.data, dataL, num, noText, Bool.false_and, h0, h1, Option.map_some, Sl.cells]

/-- The head of the loop over the slots, in the copy of a state. -/
def clH (s : List X) (items acc : List (List X)) (k n j : Nat) : St :=
  ⟨[(1, .ptr 0 0 0), (2, .ptr 1 0 0), (3, .bs 2 0 n), (11, .sl false 10 items), (12, nat k), (13, nat j)], [.var s, .var [num 0, num 0, .sl true 10 []], .row 10 acc]⟩
def clH' (s : List X) (items acc : List (List X)) (k n j : Nat) (m : List X) : St :=
  ⟨[(1, .ptr 0 0 0), (2, .ptr 1 0 0), (3, .bs 4 0 (n + 1)), (11, .sl false 10 items), (12, nat k), (13, nat (j + 1))], [.var s, .var [num 0, num 0, .sl true 10 []], .dead, .var m, .row 10 (acc ++ [m])]⟩
def stC (n t : Int) (slots : List (List X)) : List X := [num n, num t, .sl false 10 slots]

theorem cl_canon (a b : Int) (c : List (List X)) (items acc : List (List X)) (k n j : Nat) : canon 0 (clH (stC a b c) items acc k n j) = some (clH (stC a b c) items acc k n j) := by kernel_rfl
theorem cl_canon' (a b : Int) (c : List (List X)) (items acc : List (List X)) (k n j : Nat) (m : List X) : canon 0 (clH' (stC a b c) items acc k n j m) = some (clH (stC a b c) items (acc ++ [m]) k (n + 1) (j + 1)) := by kernel_rfl

theorem cl_step (N : Nat) (a b : Int) (c : List (List X)) (items acc : List (List X)) (k n j : Nat) (s : Sl) (hi : items[j]? = some s.cells) (hj : j < k) (hk : k < 4294967296) (hn : n = acc.length) (hr : n < 1000) (hl : s.es.length < 80) :
    run (callF tab ext (N + 82)) 0 (N + 82) (loopOf tab 20 0) (clH (stC a b c) items acc k n j) = some (.norm, clH' (stC a b c) items acc k n j s.cells) := by
  exact runA_sound (ans := [(14, .b true), (15, .e s.cells), (19, .p (.agg s.cells)), (21, .app), (22, .i (Int.ofNat (j+1)))]) (lo := []) (lo' := [])
    (ps := [decide (Int.ofNat j < Int.ofNat k) = true, items[j]? = some s.cells, Gam.pureD (callF tab ext (N + 82)) 28 [.agg s.cells] = some (.agg s.cells),
      (0 + n = acc.length ∧ roomOk (n + 1) 152 = true ∧ memN 2 [] = false), IntKind.i64.wrap (Int.ofNat j + 1) = Int.ofNat (j + 1)]) (by kernel_rfl) ⟨lt_nat hj, hi, clone_slot_pure (N + 1) s hl, ⟨by omega, room_of (by omega) (by omega), rfl⟩, next_nat (by omega), trivial⟩

def clEnd (s : List X) (items acc : List (List X)) (k n : Nat) : St :=
  ⟨[(1, .ptr 0 0 0), (2, .ptr 1 0 0), (3, .bs 2 0 n), (11, .sl false 10 items), (12, nat k), (13, nat k), (14, .v (.bool false))], [.var s, .var [num 0, num 0, .sl true 10 []], .row 10 acc]⟩

theorem cl_end (N : Nat) (a b : Int) (c : List (List X)) (items acc : List (List X)) (k n : Nat) :
    run (callF tab ext (N + 82)) 0 (N + 82) (loopOf tab 20 0) (clH (stC a b c) items acc k n k) = some (.exit 0, clEnd (stC a b c) items acc k n) := by
  exact runA_sound (ans := [(14, .b false)]) (lo := []) (lo' := []) (ps := [decide (Int.ofNat k < Int.ofNat k) = false]) (by kernel_rfl) ⟨nlt_nat (by omega), trivial⟩

theorem cl_loop (N : Nat) (a b : Int) (c : List (List X)) (ss : List Sl) (τ : St) (hτ : canon 0 τ = some (clH (stC a b c) (slotsC ss) [] (slotsC ss).length 0 0)) (hl : ss.length < 80) (hs : ∀ s, s ∈ ss → s.es.length < 80) :
    run (callF tab ext (N + 82)) 0 (N + 82) (.loop (loopOf tab 20 0)) τ = some (.exit 0, clEnd (stC a b c) (slotsC ss) (slotsC ss) (slotsC ss).length ss.length) := by
  simp only [run]
  let σs : Nat → St := fun j => clH (stC a b c) (slotsC ss) (slotsC (ss.take j)) (slotsC ss).length j j
  let τs : Nat → St := fun j => match j with
    | 0 => τ
    | j + 1 => clH' (stC a b c) (slotsC ss) (slotsC (ss.take j)) (slotsC ss).length j j (ss.getD j ⟨0, 0, 0, []⟩).cells
  refine iter_for (k := ss.length) (σ := σs) (τ := τs) (fun j hj => ?_) (fun j hj => ?_) ?_ (by simp) (by omega)
  · cases j with
    | zero => simpa [σs, τs, slotsC] using hτ
    | succ j =>
      have := cl_canon' a b c (slotsC ss) (slotsC (ss.take j)) (slotsC ss).length j j (ss.getD j ⟨0, 0, 0, []⟩).cells
      simp only [σs, τs]
      rw [this, slots_take (by omega)]
  · have hm : ss.getD j ⟨0, 0, 0, []⟩ ∈ ss := by simp only [List.getD, List.getElem?_eq_getElem hj, Option.getD_some]; exact List.getElem_mem hj
    refine cl_step N a b c (slotsC ss) _ _ _ j _ (slots_get hj) (by rw [slots_length]; exact hj) (by rw [slots_length]; omega) ?_ (by omega) (hs _ hm)
    simp [slots_length]; omega
  · have := cl_end N a b c (slotsC ss) (slotsC (ss.take ss.length)) (slotsC ss).length ss.length
    simp only [σs]
    rw [List.take_length] at this ⊢
    rw [slots_length] at this ⊢
    exact this

theorem clone_eq (N : Nat) (n t : Int) (ss : List Sl) (hl : ss.length < 80) (hs : ∀ s, s ∈ ss → s.es.length < 80) :
    callF tab ext (N + 83) (.fn 20) [stateX n t ss] [] = some (.agg [num n, num t, .bs 0 0 ss.length], [.row 10 (slotsC ss)]) :=
  callA_sound (ans := [(9, .mk)]) (lo := [(.exit 0, clEnd (stC n t (slotsC ss)) (slotsC ss) (slotsC ss) (slotsC ss).length ss.length)])
    (ps := [0 ≤ (slotsC ss).length ∧ roomOk (slotsC ss).length 152 = true,
      run (callF tab ext (N + 82)) 0 (N + 82) (.loop (loopOf tab 20 0)) ⟨[(1, .ptr 0 0 0), (2, .ptr 1 0 0), (3, .bs 2 0 0), (11, .sl false 10 (slotsC ss)), (12, nat (slotsC ss).length), (13, nat 0)], [.var (stC n t (slotsC ss)), .var [num 0, num 0, .sl true 10 []], .row 10 []]⟩ = some (.exit 0, clEnd (stC n t (slotsC ss)) (slotsC ss) (slotsC ss) (slotsC ss).length ss.length)])
    (by kernel_rfl) ⟨⟨by omega, room_of (by rw [slots_length]; omega) (by rw [slots_length]; omega)⟩, cl_loop N n t (slotsC ss) ss _ (by kernel_rfl) hl hs, trivial⟩

theorem clone_pure (N : Nat) (n t : Int) (ss : List Sl) (hl : ss.length < 80) (hs : ∀ s, s ∈ ss → s.es.length < 80) : Gam.pureD (callF tab ext (N + 83)) 20 [stateX n t ss] = some (stateX n t ss) := by
  refine pureD_of (clone_eq N n t ss hl hs) ?_
  have h0 : rowOf [Bx.row 10 (slotsC ss)] 0 0 ss.length = some (10, slotsC ss) := rowOf_get rfl (slots_length _).symm
  simp only [X.data, dataL, num, h0, Option.map_some, stateX]

end Go.Proofs.Ytjfheahakfoofaa

/- The bounds of a node, windows, counts. -/
namespace Go.Proofs.Ytjfheahakfoofaa
open Go.Em

/-- A node: kind, name, number, time, limit. -/
noncomputable def nodeG (kind : Int) (s : ByteArray) (n t l : Int) : X := match zeroP Try.prog 36 with
  | some z => (X.data [] false (.agg (((((z.set 0 (text s)).set 1 (num kind)).set 4 (num n)).set 5 (num t)).set 6 (num l)))).getD undefX
  | none => undefX
/-- The node of the runs: the time is one more than p. -/
noncomputable def nodeT (kind : Int) (s : ByteArray) (n p l : Nat) : X := nodeG kind s (Int.ofNat n) (Int.ofNat (p + 1)) (Int.ofNat l)

theorem number_g (N : Nat) (kind : Int) (s : ByteArray) (n t l : Int) : Gam.pureD (callF tab ext (N + 20)) 35 [nodeG kind s n t l] = some (num (if n > 0 then n else 0)) := by kernel_rfl
theorem limit_g (N : Nat) (kind : Int) (s : ByteArray) (n t l : Int) : Gam.pureD (callF tab ext (N + 20)) 29 [nodeG kind s n t l] = some (num (if (if l < 256 then l else 256) > 0 then (if l < 256 then l else 256) else 0)) := by kernel_rfl
theorem period_g (N : Nat) (kind : Int) (s : ByteArray) (n t l : Int) : Gam.pureD (callF tab ext (N + 20)) 17 [nodeG kind s n t l] = some (num (if (if t < 17592186044416 then t else 17592186044416) > 1 then (if t < 17592186044416 then t else 17592186044416) else 1)) := by kernel_rfl

theorem number_pure (N : Nat) (kind : Int) (s : ByteArray) (n p l : Nat) : Gam.pureD (callF tab ext (N + 20)) 35 [nodeT kind s n p l] = some (nat n) := by
  refine (number_g N kind s _ _ _).trans ?_
  have : (if Int.ofNat n > 0 then Int.ofNat n else 0) = Int.ofNat n := by
    split
    · rfl
    · rename_i h; simp only [Int.ofNat_eq_natCast] at h ⊢; omega
  rw [this]; rfl

theorem limit_pure (N : Nat) (kind : Int) (s : ByteArray) (n p l : Nat) (hl : l ≤ 256) : Gam.pureD (callF tab ext (N + 20)) 29 [nodeT kind s n p l] = some (nat l) := by
  refine (limit_g N kind s _ _ _).trans ?_
  have : (if (if Int.ofNat l < 256 then Int.ofNat l else 256) > 0 then (if Int.ofNat l < 256 then Int.ofNat l else 256) else 0) = Int.ofNat l := by
    simp only [Int.ofNat_eq_natCast]; split <;> split <;> omega
  rw [this]; rfl

theorem period_pure (N : Nat) (kind : Int) (s : ByteArray) (n p l : Nat) (hp : p < 17592186044416) : Gam.pureD (callF tab ext (N + 20)) 17 [nodeT kind s n p l] = some (nat (p + 1)) := by
  refine (period_g N kind s _ _ _).trans ?_
  have : (if (if Int.ofNat (p + 1) < 17592186044416 then Int.ofNat (p + 1) else 17592186044416) > 1 then (if Int.ofNat (p + 1) < 17592186044416 then Int.ofNat (p + 1) else 17592186044416) else 1) = Int.ofNat (p + 1) := by
    simp only [Int.ofNat_eq_natCast]; split <;> split <;> omega
  rw [this]; rfl

/-- The beginning of the window. -/
def win (p a : Nat) : Nat := a - a % (p + 1)

theorem win_int (p a : Nat) (ha : a < 4611686018427387904) : IntKind.i64.wrap (Int.ofNat a - (Int.ofNat a).tmod (Int.ofNat (p + 1))) = Int.ofNat (win p a) := by
  have h1 : (Int.ofNat a).tmod (Int.ofNat (p + 1)) = Int.ofNat (a % (p + 1)) := rfl
  have h2 : a % (p + 1) ≤ a := Nat.mod_le _ _
  rw [h1, IntKind.wrap_i64, win]
  simp only [Int.ofNat_eq_natCast]
  omega

theorem window_nat (N : Nat) (kind : Int) (s : ByteArray) (n p l a : Nat) (hp : p < 17592186044416) (ha : a < 4611686018427387904) : Gam.pureD (callF tab ext (N + 21)) 9 [nodeT kind s n p l, nat a] = some (nat (win p a)) :=
  pureD_of (x := nat (win p a)) (bx := []) (callA_sound (ans := [(6, .b false), (10, .p (nat (p + 1))), (12, .i (Int.ofNat (win p a)))]) (lo := [])
    (ps := [decide (Int.ofNat a < 0) = false, Gam.pureD (callF tab ext (N + 20)) 17 [nodeT kind s n p l] = some (nat (p + 1)), IntKind.i64.wrap (Int.ofNat a - (Int.ofNat a).tmod (Int.ofNat (p + 1))) = Int.ofNat (win p a)])
    (by kernel_rfl) ⟨by simp, period_pure N kind s n p l hp, win_int p a ha, trivial⟩) rfl

/-- How many have left in the window. -/
def cnt (p c t a : Nat) : Nat := if t < win p a then 0 else c

theorem count_pure (N : Nat) (kind : Int) (s : ByteArray) (n p l c t a : Nat) (ss : List Sl) (hp : p < 17592186044416) (ha : a < 4611686018427387904) : Gam.pureD (callF tab ext (N + 22)) 34 [nodeT kind s n p l, stateX (Int.ofNat c) (Int.ofNat t) ss, nat a] = some (nat (cnt p c t a)) := by
  by_cases h : t < win p a
  · have e : cnt p c t a = 0 := by rw [cnt, if_pos h]
    rw [e]
    exact pureD_of (x := nat 0) (bx := []) (callA_sound (ans := [(9, .p (nat (win p a))), (12, .b true)]) (lo := [])
      (ps := [Gam.pureD (callF tab ext (N + 21)) 9 [nodeT kind s n p l, nat a] = some (nat (win p a)), decide (Int.ofNat t < Int.ofNat (win p a)) = true])
      (by kernel_rfl) ⟨window_nat N kind s n p l a hp ha, lt_nat h, trivial⟩) rfl
  · have e : cnt p c t a = c := by rw [cnt, if_neg h]
    rw [e]
    have hc : (if Int.ofNat c > 0 then Int.ofNat c else 0) = Int.ofNat c := by
      split
      · rfl
      · rename_i h; simp only [Int.ofNat_eq_natCast] at h ⊢; omega
    exact pureD_of (x := nat c) (bx := []) (callA_sound (ans := [(9, .p (nat (win p a))), (12, .b false), (15, .i (Int.ofNat c))]) (lo := [])
      (ps := [Gam.pureD (callF tab ext (N + 21)) 9 [nodeT kind s n p l, nat a] = some (nat (win p a)), decide (Int.ofNat t < Int.ofNat (win p a)) = false, (if Int.ofNat c > 0 then Int.ofNat c else 0) = Int.ofNat c])
      (by kernel_rfl) ⟨window_nat N kind s n p l a hp ha, nlt_nat h, hc, trivial⟩) rfl

theorem max_nat (a b : Nat) : (if Int.ofNat b > Int.ofNat a then Int.ofNat b else Int.ofNat a) = Int.ofNat (max a b) := by
  simp only [Int.ofNat_eq_natCast]; split <;> omega

theorem left_pure (N : Nat) (kind : Int) (s : ByteArray) (n p l c t a k : Nat) (ss : List Sl) (hp : p < 17592186044416) (ha : a < 4611686018427387904) (hc : cnt p c t a + k < 4294967296) :
    Gam.pureD (callF tab ext (N + 23)) 36 [nodeT kind s n p l, stateX (Int.ofNat c) (Int.ofNat t) ss, nat a, nat k] = some (stateX (Int.ofNat (cnt p c t a + k)) (Int.ofNat (max t (win p a))) ss) := by
  have hw : IntKind.i64.wrap (Int.ofNat (cnt p c t a) + Int.ofNat k) = Int.ofNat (cnt p c t a + k) := by
    rw [IntKind.wrap_i64]; simp only [Int.ofNat_eq_natCast]; omega
  exact pureD_of (x := stateX (Int.ofNat (cnt p c t a + k)) (Int.ofNat (max t (win p a))) ss) (bx := []) (callA_sound (ans := [(12, .p (nat (cnt p c t a))), (14, .i (Int.ofNat (cnt p c t a + k))), (20, .p (nat (win p a))), (21, .i (Int.ofNat (max t (win p a))))]) (lo := [])
      (ps := [Gam.pureD (callF tab ext (N + 22)) 34 [nodeT kind s n p l, stateX (Int.ofNat c) (Int.ofNat t) ss, nat a] = some (nat (cnt p c t a)), IntKind.i64.wrap (Int.ofNat (cnt p c t a) + Int.ofNat k) = Int.ofNat (cnt p c t a + k),
        Gam.pureD (callF tab ext (N + 22)) 9 [nodeT kind s n p l, nat a] = some (nat (win p a)), (if Int.ofNat (win p a) > Int.ofNat t then Int.ofNat (win p a) else Int.ofNat t) = Int.ofNat (max t (win p a))])
      (by kernel_rfl) ⟨count_pure N kind s n p l c t a ss hp ha, hw, window_nat (N + 1) kind s n p l a hp ha, max_nat t (win p a), trivial⟩) rfl

end Go.Proofs.Ytjfheahakfoofaa

/- Slots are found, and put. -/
namespace Go.Proofs.Ytjfheahakfoofaa
open Go.Em

def noKey : X := .agg [num 0, num 0, num 0, noText, .sl false 6 [], .sl false 7 []]
def zSlotD : X := .agg [num 0, num 0, num 0, noText, .sl false 6 [], .sl false 7 [], num 0, num 0, .sl false 10 [], .sl false 6 []]
/-- The slot of a throttle. -/
def slot0 (es : List Int) : Sl := ⟨0, 0, 0, es⟩
def rowSlot (n : Nat) : X := .agg [num 0, num 0, num 0, noText, .sl false 6 [], .sl false 7 [], num 0, num 0, .bs 0 0 n, .bs 1 0 0]

theorem get_none (N : Nat) (n t : Int) : callF tab ext (N + 40) (.fn 43) [stateX n t [], noKey] [] = some (.tup [.agg zSlot, .v (.bool false)], []) := by kernel_rfl
theorem find_one (N : Nat) (n t : Int) (es : List Int) : Gam.pureD (callF tab ext (N + 40)) 50 [stateX n t [slot0 es], noKey] = some (.tup [num 0, .v (.bool true)]) := by kernel_rfl
theorem find_none (N : Nat) (n t : Int) : Gam.pureD (callF tab ext (N + 40)) 50 [stateX n t [], noKey] = some (.tup [num 0, .v (.bool false)]) := by kernel_rfl

theorem get_one (N : Nat) (n t : Int) (es : List Int) (hl : es.length < 80) : callF tab ext (N + 82) (.fn 43) [stateX n t [slot0 es], noKey] [] = some (.tup [rowSlot es.length, .v (.bool true)], [.row 10 (notes es), .row 6 []]) :=
  callA_sound (ans := [(11, .p (.tup [num 0, .v (.bool true)])), (22, .o (rowSlot es.length) [.row 10 (notes es), .row 6 []])]) (lo := [])
    (ps := [Gam.pureD (callF tab ext (N + 81)) 50 [stateX n t [slot0 es], noKey] = some (.tup [num 0, .v (.bool true)]), callF tab ext (N + 81) (.fn 28) [.agg (slot0 es).cells] [] = some (rowSlot es.length, [.row 10 (notes es), .row 6 []])])
    (by kernel_rfl) ⟨find_one (N + 41) n t es, clone_slot_eq N (slot0 es) hl, trivial⟩

theorem put_none (N : Nat) (n t e : Int) : Gam.pureD (callF tab ext (N + 60)) 44 [stateX n t [], .agg (slot0 [e]).cells] = some (.tup [stateX n t [slot0 [e]], num 0]) := by kernel_rfl

theorem put_one (N : Nat) (n t : Int) (es es' : List Int) (hl : es.length < 80) (hl' : es'.length < 80) : callF tab ext (N + 84) (.fn 44) [stateX n t [slot0 es], .agg (slot0 es').cells] [] = some (.tup [.agg [num n, num t, .bs 0 0 1], num 0], [.row 10 (slotsC [slot0 es'])]) :=
  callA_sound (ans := [(13, .p (.tup [num 0, .v (.bool true)])), (26, .o (.agg [num n, num t, .bs 0 0 1]) [.row 10 (slotsC [slot0 es])]), (32, .p (.agg (slot0 es').cells))]) (lo := [])
    (ps := [Gam.pureD (callF tab ext (N + 83)) 50 [stateX n t [slot0 es], noKey] = some (.tup [num 0, .v (.bool true)]), callF tab ext (N + 83) (.fn 20) [stateX n t [slot0 es]] [] = some (.agg [num n, num t, .bs 0 0 1], [.row 10 (slotsC [slot0 es])]),
      Gam.pureD (callF tab ext (N + 83)) 28 [.agg (slot0 es').cells] = some (.agg (slot0 es').cells)])
    (by kernel_rfl) ⟨find_one (N + 43) n t es, clone_eq N n t [slot0 es] (by simp) (by simpa [slot0] using hl), clone_slot_pure (N + 2) (slot0 es') hl', trivial⟩

end Go.Proofs.Ytjfheahakfoofaa

/- A message is held. -/
namespace Go.Proofs.Ytjfheahakfoofaa
open Go.Em

theorem put_one_pure (N : Nat) (n t : Int) (es es' : List Int) (hl : es.length < 80) (hl' : es'.length < 80) : Gam.pureD (callF tab ext (N + 84)) 44 [stateX n t [slot0 es], .agg (slot0 es').cells] = some (.tup [stateX n t [slot0 es'], num 0]) :=
  pureD_of (put_one N n t es es' hl hl') (by kernel_rfl)

theorem add_none (N : Nat) (n t e : Int) : Gam.pureD (callF tab ext (N + 70)) 31 [stateX n t [], .agg zSlot, .agg (noteC e)] = some (stateX n t [slot0 [e]]) := by kernel_rfl

theorem notes_snoc (es : List Int) (e : Int) : List.take (es.length + 1) (List.drop 0 (notes es ++ [noteC e])) = notes (es ++ [e]) := by
  rw [List.drop_zero, List.take_of_length_le (by simp [notes_length])]
  simp [notes]

theorem add_one (N : Nat) (n t e : Int) (es : List Int) (hl : es.length < 79) : Gam.pureD (callF tab ext (N + 85)) 31 [stateX n t [slot0 es], .agg zSlot, .agg (noteC e)] = some (stateX n t [slot0 (es ++ [e])]) :=
  pureD_of (x := stateX n t [slot0 (es ++ [e])]) (bx := []) (callA_sound (ans := [(15, .o (.tup [rowSlot es.length, .v (.bool true)]) [.row 10 (notes es), .row 6 []]), (25, .app), (30, .p (.tup [stateX n t [slot0 (es ++ [e])], num 0]))]) (lo := [])
    (ps := [callF tab ext (N + 84) (.fn 43) [stateX n t [slot0 es], noKey] [] = some (.tup [rowSlot es.length, .v (.bool true)], [.row 10 (notes es), .row 6 []]),
      (0 + es.length = (notes es).length ∧ roomOk (es.length + 1) 152 = true ∧ memN 4 [] = false),
      0 + (es.length + 1) ≤ (notes es ++ [noteC e]).length, 0 + 0 ≤ 0, 0 + 0 ≤ 0,
      Gam.pureD (callF tab ext (N + 84)) 44 [stateX n t [slot0 es], .agg [num 0, num 0, num 0, noText, .sl false 6 [], .sl false 7 [], num 0, num 0, .sl false 10 (List.take (es.length + 1) (List.drop 0 (notes es ++ [noteC e]))), .sl false 6 []]] = some (.tup [stateX n t [slot0 (es ++ [e])], num 0])])
    (by kernel_rfl) ⟨get_one (N + 2) n t es (by omega), ⟨by rw [notes_length]; omega, room_of (by omega) (by omega), rfl⟩, by simp [notes_length], by omega, by omega, by rw [notes_snoc]; exact put_one_pure N n t es (es ++ [e]) (by omega) (by simp; omega), trivial⟩) rfl

end Go.Proofs.Ytjfheahakfoofaa

/- Inputs, and what a throttle does with a message. -/
namespace Go.Proofs.Ytjfheahakfoofaa
open Go.Em

/-- An input: kind, time, stamp, message. -/
noncomputable def inX (kind time : Int) (st msg : List X) : X := match zeroP Try.prog 62 with
  | some z => (X.data [] false (.agg ([num kind, num time] ++ st ++ msg ++ z.drop 14))).getD undefX
  | none => undefX
def zMsg : List X := [num 0, .sl false 1 [], num 0, .sl false 1 [], num 0, num 0, num 0, noText, .sl false 6 [], .sl false 7 []]
noncomputable def arriveX (e a : Int) : X := inX 1 a [num e, .sl false 1 [[num 1]]] (noteC e)
noncomputable def tickX (e a : Int) : X := inX 2 a [num e, .sl false 1 [[num 0], [num 3]]] zMsg

theorem arrives_pure (N : Nat) (e a : Int) : Gam.pureD (callF tab ext (N + 30)) 13 [num e, num a] = some (arriveX e a) := by kernel_rfl
theorem ticks_pure (N : Nat) (e a : Int) : Gam.pureD (callF tab ext (N + 30)) 12 [num e, num a] = some (tickX e a) := by kernel_rfl

theorem clamp_g (N : Nat) (a lo hi : Int) : Gam.pureD (callF tab ext (N + 20)) 24 [num a, num lo, num hi] = some (num (if (if a < hi then a else hi) > lo then (if a < hi then a else hi) else lo)) := by kernel_rfl
theorem clamp_time (N : Nat) (a : Nat) (ha : a < 17592186044416) : Gam.pureD (callF tab ext (N + 20)) 24 [nat a, num 0, num 17592186044416] = some (nat a) := by
  refine (clamp_g N _ _ _).trans ?_
  have : (if (if Int.ofNat a < 17592186044416 then Int.ofNat a else 17592186044416) > 0 then (if Int.ofNat a < 17592186044416 then Int.ofNat a else 17592186044416) else 0) = Int.ofNat a := by
    simp only [Int.ofNat_eq_natCast]; split <;> split <;> omega
  rw [this]; rfl

/-- An outcome: state, outputs, requests, fates, letters. -/
def outX (n t : Int) (ss : List Sl) (outs fates letters : List (List X)) (r : List (List X)) : X := .agg [num n, num t, .sl false 10 (slotsC ss), .sl false 11 outs, .sl false 11 r, .sl false 6 fates, .sl false 10 letters]

theorem pass_one (N : Nat) (s : ByteArray) (n p l c t a : Nat) (e : Int) (hp : p < 17592186044416) (ha : a < 17592186044416) (hc : cnt p c t a < n) (hc2 : cnt p c t a < 1000) :
    (Gam.pureD (callF tab ext (N + 85)) 22 [nodeT 7 s n p l, stateX (Int.ofNat c) (Int.ofNat t) [], arriveX e (Int.ofNat a)]).isSome = true := by
  have h := callA_sound (T := tab) (ext := ext) (n := N + 84) (f := 22) (args := [nodeT 7 s n p l, stateX (Int.ofNat c) (Int.ofNat t) [], arriveX e (Int.ofNat a)]) (inb := [])
    (ans := [(13, .p (nat a)), (15, .p (.sl false 10 [])), (28, .p (nat (cnt p c t a))), (30, .p (nat n)), (31, .b true), (36, .p (stateX (Int.ofNat (cnt p c t a + 1)) (Int.ofNat (max t (win p a))) [])), (39, .p (.agg (noteC e)))]) (lo := [])
    (r := some (.agg [nat (cnt p c t a + 1), nat (max t (win p a)), .sl false 10 [], .sl true 11 [num 0 :: noteC e], .sl true 11 [], .sl true 6 [], .sl true 10 []], []))
    (ps := [Gam.pureD (callF tab ext (N + 84)) 24 [nat a, num 0, num 17592186044416] = some (nat a), Gam.pureD (callF tab ext (N + 84)) 10 [stateX (Int.ofNat c) (Int.ofNat t) []] = some (.sl false 10 []),
      Gam.pureD (callF tab ext (N + 84)) 34 [nodeT 7 s n p l, stateX (Int.ofNat c) (Int.ofNat t) [], nat a] = some (nat (cnt p c t a)), Gam.pureD (callF tab ext (N + 84)) 35 [nodeT 7 s n p l] = some (nat n), decide (Int.ofNat (cnt p c t a) < Int.ofNat n) = true,
      Gam.pureD (callF tab ext (N + 84)) 36 [nodeT 7 s n p l, stateX (Int.ofNat c) (Int.ofNat t) [], nat a, nat 1] = some (stateX (Int.ofNat (cnt p c t a + 1)) (Int.ofNat (max t (win p a))) []), Gam.pureD (callF tab ext (N + 84)) 18 [.agg (noteC e)] = some (.agg (noteC e))])
    (by kernel_rfl) ⟨clamp_time (N + 64) a ha, waiting_pure (N + 3) _ _ [] (by simp [allOf]) (by simp), count_pure (N + 62) 7 s n p l c t a [] hp (by omega), number_pure (N + 64) 7 s n p l, lt_nat hc, left_pure (N + 61) 7 s n p l c t a 1 [] hp (by omega) (by omega), clone_note (N + 64) e, trivial⟩
  rw [pureD_of h (by rfl)]; rfl

end Go.Proofs.Ytjfheahakfoofaa

/- What a throttle does with a message: it passes, it is held, it is rejected. -/
namespace Go.Proofs.Ytjfheahakfoofaa
open Go.Em

theorem pass_pure (N : Nat) (s : ByteArray) (n p l c t a : Nat) (e : Int) (hp : p < 17592186044416) (ha : a < 17592186044416) (hc : cnt p c t a < n) (hc2 : cnt p c t a < 1000) :
    Gam.pureD (callF tab ext (N + 85)) 22 [nodeT 7 s n p l, stateX (Int.ofNat c) (Int.ofNat t) [], arriveX e (Int.ofNat a)] = some (outX (Int.ofNat (cnt p c t a + 1)) (Int.ofNat (max t (win p a))) [] [num 0 :: noteC e] [] [] []) := by
  have h := callA_sound (T := tab) (ext := ext) (n := N + 84) (f := 22) (args := [nodeT 7 s n p l, stateX (Int.ofNat c) (Int.ofNat t) [], arriveX e (Int.ofNat a)]) (inb := [])
    (ans := [(13, .p (nat a)), (15, .p (.sl false 10 [])), (28, .p (nat (cnt p c t a))), (30, .p (nat n)), (31, .b true), (36, .p (stateX (Int.ofNat (cnt p c t a + 1)) (Int.ofNat (max t (win p a))) [])), (39, .p (.agg (noteC e)))]) (lo := [])
    (r := some (.agg [nat (cnt p c t a + 1), nat (max t (win p a)), .sl false 10 [], .sl true 11 [num 0 :: noteC e], .sl true 11 [], .sl true 6 [], .sl true 10 []], []))
    (ps := [Gam.pureD (callF tab ext (N + 84)) 24 [nat a, num 0, num 17592186044416] = some (nat a), Gam.pureD (callF tab ext (N + 84)) 10 [stateX (Int.ofNat c) (Int.ofNat t) []] = some (.sl false 10 []),
      Gam.pureD (callF tab ext (N + 84)) 34 [nodeT 7 s n p l, stateX (Int.ofNat c) (Int.ofNat t) [], nat a] = some (nat (cnt p c t a)), Gam.pureD (callF tab ext (N + 84)) 35 [nodeT 7 s n p l] = some (nat n), decide (Int.ofNat (cnt p c t a) < Int.ofNat n) = true,
      Gam.pureD (callF tab ext (N + 84)) 36 [nodeT 7 s n p l, stateX (Int.ofNat c) (Int.ofNat t) [], nat a, nat 1] = some (stateX (Int.ofNat (cnt p c t a + 1)) (Int.ofNat (max t (win p a))) []), Gam.pureD (callF tab ext (N + 84)) 18 [.agg (noteC e)] = some (.agg (noteC e))])
    (by kernel_rfl) ⟨clamp_time (N + 64) a ha, waiting_pure (N + 3) _ _ [] (by simp [allOf]) (by simp), count_pure (N + 62) 7 s n p l c t a [] hp (by omega), number_pure (N + 64) 7 s n p l, lt_nat hc, left_pure (N + 61) 7 s n p l c t a 1 [] hp (by omega) (by omega), clone_note (N + 64) e, trivial⟩
  exact pureD_of h (by kernel_rfl)

theorem hold_first (N : Nat) (s : ByteArray) (n p l c t a : Nat) (e : Int) (hp : p < 17592186044416) (ha : a < 17592186044416) (hc : ¬ cnt p c t a < n) (hl : 0 < l) (hl2 : l ≤ 256) :
    Gam.pureD (callF tab ext (N + 86)) 22 [nodeT 7 s n p l, stateX (Int.ofNat c) (Int.ofNat t) [], arriveX e (Int.ofNat a)] = some (outX (Int.ofNat c) (Int.ofNat t) [slot0 [e]] [] [] [] []) := by
  have h := callA_sound (T := tab) (ext := ext) (n := N + 85) (f := 22) (args := [nodeT 7 s n p l, stateX (Int.ofNat c) (Int.ofNat t) [], arriveX e (Int.ofNat a)]) (inb := [])
    (ans := [(13, .p (nat a)), (15, .p (.sl false 10 [])), (28, .p (nat (cnt p c t a))), (30, .p (nat n)), (31, .b false), (47, .p (nat l)), (48, .b true), (53, .p (stateX (Int.ofNat c) (Int.ofNat t) [slot0 [e]]))]) (lo := [])
    (r := some (.agg [nat c, nat t, .sl false 10 (slotsC [slot0 [e]]), .sl true 11 [], .sl true 11 [], .sl true 6 [], .sl true 10 []], []))
    (ps := [Gam.pureD (callF tab ext (N + 85)) 24 [nat a, num 0, num 17592186044416] = some (nat a), Gam.pureD (callF tab ext (N + 85)) 10 [stateX (Int.ofNat c) (Int.ofNat t) []] = some (.sl false 10 []),
      Gam.pureD (callF tab ext (N + 85)) 34 [nodeT 7 s n p l, stateX (Int.ofNat c) (Int.ofNat t) [], nat a] = some (nat (cnt p c t a)), Gam.pureD (callF tab ext (N + 85)) 35 [nodeT 7 s n p l] = some (nat n), decide (Int.ofNat (cnt p c t a) < Int.ofNat n) = false,
      Gam.pureD (callF tab ext (N + 85)) 29 [nodeT 7 s n p l] = some (nat l), decide (Int.ofNat 0 < Int.ofNat l) = true,
      Gam.pureD (callF tab ext (N + 85)) 31 [stateX (Int.ofNat c) (Int.ofNat t) [], .agg zSlot, .agg (noteC e)] = some (stateX (Int.ofNat c) (Int.ofNat t) [slot0 [e]])])
    (by kernel_rfl) ⟨clamp_time (N + 65) a ha, waiting_pure (N + 4) _ _ [] (by simp [allOf]) (by simp), count_pure (N + 63) 7 s n p l c t a [] hp (by omega), number_pure (N + 65) 7 s n p l, nlt_nat hc, limit_pure (N + 65) 7 s n p l hl2, lt_nat hl, add_none (N + 15) _ _ e, trivial⟩
  exact pureD_of h (by kernel_rfl)

theorem allOf_one (es : List Int) : allOf [slot0 es] = es := by simp [allOf, slot0]

theorem hold_more (N : Nat) (s : ByteArray) (n p l c t a : Nat) (e : Int) (es : List Int) (ha : a < 17592186044416) (he : 0 < es.length) (h79 : es.length < 79) (hl : es.length < l) (hl2 : l ≤ 256) :
    Gam.pureD (callF tab ext (N + 86)) 22 [nodeT 7 s n p l, stateX (Int.ofNat c) (Int.ofNat t) [slot0 es], arriveX e (Int.ofNat a)] = some (outX (Int.ofNat c) (Int.ofNat t) [slot0 (es ++ [e])] [] [] [] []) := by
  have hz : (Int.ofNat (notes es).length == 0) = false := by
    rw [notes_length]
    have : Int.ofNat es.length ≠ 0 := by simp only [Int.ofNat_eq_natCast]; omega
    simpa using this
  have h := callA_sound (T := tab) (ext := ext) (n := N + 85) (f := 22) (args := [nodeT 7 s n p l, stateX (Int.ofNat c) (Int.ofNat t) [slot0 es], arriveX e (Int.ofNat a)]) (inb := [])
    (ans := [(13, .p (nat a)), (15, .p (.sl false 10 (notes es))), (23, .b false), (47, .p (nat l)), (48, .b true), (53, .p (stateX (Int.ofNat c) (Int.ofNat t) [slot0 (es ++ [e])]))]) (lo := [])
    (r := some (.agg [nat c, nat t, .sl false 10 (slotsC [slot0 (es ++ [e])]), .sl true 11 [], .sl true 11 [], .sl true 6 [], .sl true 10 []], []))
    (ps := [Gam.pureD (callF tab ext (N + 85)) 24 [nat a, num 0, num 17592186044416] = some (nat a), Gam.pureD (callF tab ext (N + 85)) 10 [stateX (Int.ofNat c) (Int.ofNat t) [slot0 es]] = some (.sl false 10 (notes es)),
      (Int.ofNat (notes es).length == 0) = false, Gam.pureD (callF tab ext (N + 85)) 29 [nodeT 7 s n p l] = some (nat l), decide (Int.ofNat (notes es).length < Int.ofNat l) = true,
      Gam.pureD (callF tab ext (N + 85)) 31 [stateX (Int.ofNat c) (Int.ofNat t) [slot0 es], .agg zSlot, .agg (noteC e)] = some (stateX (Int.ofNat c) (Int.ofNat t) [slot0 (es ++ [e])])])
    (by kernel_rfl) ⟨clamp_time (N + 65) a ha, (by have := waiting_pure (N + 4) (Int.ofNat c) (Int.ofNat t) [slot0 es] (by rw [allOf_one]; omega) (by simp); rw [allOf_one] at this; exact this), hz, limit_pure (N + 65) 7 s n p l hl2, lt_nat (by rw [notes_length]; exact hl), add_one N _ _ e es h79, trivial⟩
  exact pureD_of h (by kernel_rfl)

def fullT : ByteArray := ⟨#[102, 117, 108, 108]⟩
theorem reject_pure (N : Nat) (s : ByteArray) (n p l : Nat) (c t : Int) (ss : List Sl) (e : Int) : Gam.pureD (callF tab ext (N + 60)) 30 [nodeT 7 s n p l, stateX c t ss, .agg (noteC e)] = some (outX c t ss [] [[num e, .sl false 1 [[num 1]], num 4, text s, .sl false 2 [], text fullT]] [noteC e] []) := by kernel_rfl

end Go.Proofs.Ytjfheahakfoofaa

/- What a throttle does with a message: it is rejected. And the step around it. -/
namespace Go.Proofs.Ytjfheahakfoofaa
open Go.Em

def fateR (s : ByteArray) (e : Int) : List X := [num e, .sl false 1 [[num 1]], num 4, text s, .sl false 2 [], text fullT]

theorem rej_first (N : Nat) (s : ByteArray) (n p l c t a : Nat) (e : Int) (hp : p < 17592186044416) (ha : a < 17592186044416) (hc : ¬ cnt p c t a < n) (hl : ¬ 0 < l) :
    Gam.pureD (callF tab ext (N + 86)) 22 [nodeT 7 s n p l, stateX (Int.ofNat c) (Int.ofNat t) [], arriveX e (Int.ofNat a)] = some (outX (Int.ofNat c) (Int.ofNat t) [] [] [fateR s e] [noteC e] []) := by
  have h := callA_sound (T := tab) (ext := ext) (n := N + 85) (f := 22) (args := [nodeT 7 s n p l, stateX (Int.ofNat c) (Int.ofNat t) [], arriveX e (Int.ofNat a)]) (inb := [])
    (ans := [(13, .p (nat a)), (15, .p (.sl false 10 [])), (28, .p (nat (cnt p c t a))), (30, .p (nat n)), (31, .b false), (47, .p (nat l)), (48, .b false), (59, .p (outX (Int.ofNat c) (Int.ofNat t) [] [] [fateR s e] [noteC e] []))]) (lo := [])
    (r := some (outX (Int.ofNat c) (Int.ofNat t) [] [] [fateR s e] [noteC e] [], []))
    (ps := [Gam.pureD (callF tab ext (N + 85)) 24 [nat a, num 0, num 17592186044416] = some (nat a), Gam.pureD (callF tab ext (N + 85)) 10 [stateX (Int.ofNat c) (Int.ofNat t) []] = some (.sl false 10 []),
      Gam.pureD (callF tab ext (N + 85)) 34 [nodeT 7 s n p l, stateX (Int.ofNat c) (Int.ofNat t) [], nat a] = some (nat (cnt p c t a)), Gam.pureD (callF tab ext (N + 85)) 35 [nodeT 7 s n p l] = some (nat n), decide (Int.ofNat (cnt p c t a) < Int.ofNat n) = false,
      Gam.pureD (callF tab ext (N + 85)) 29 [nodeT 7 s n p l] = some (nat l), decide (Int.ofNat 0 < Int.ofNat l) = false,
      Gam.pureD (callF tab ext (N + 85)) 30 [nodeT 7 s n p l, stateX (Int.ofNat c) (Int.ofNat t) [], .agg (noteC e)] = some (outX (Int.ofNat c) (Int.ofNat t) [] [] [fateR s e] [noteC e] [])])
    (by kernel_rfl) ⟨clamp_time (N + 65) a ha, waiting_pure (N + 4) _ _ [] (by simp [allOf]) (by simp), count_pure (N + 63) 7 s n p l c t a [] hp (by omega), number_pure (N + 65) 7 s n p l, nlt_nat hc, limit_pure (N + 65) 7 s n p l (by omega), nlt_nat hl, reject_pure (N + 25) s n p l _ _ [] e, trivial⟩
  exact pureD_of h (by kernel_rfl)

theorem rej_more (N : Nat) (s : ByteArray) (n p l c t a : Nat) (e : Int) (es : List Int) (ha : a < 17592186044416) (he : 0 < es.length) (h79 : es.length < 79) (hl : ¬ es.length < l) :
    Gam.pureD (callF tab ext (N + 86)) 22 [nodeT 7 s n p l, stateX (Int.ofNat c) (Int.ofNat t) [slot0 es], arriveX e (Int.ofNat a)] = some (outX (Int.ofNat c) (Int.ofNat t) [slot0 es] [] [fateR s e] [noteC e] []) := by
  have hz : (Int.ofNat (notes es).length == 0) = false := by
    rw [notes_length]
    have : Int.ofNat es.length ≠ 0 := by simp only [Int.ofNat_eq_natCast]; omega
    simpa using this
  have h := callA_sound (T := tab) (ext := ext) (n := N + 85) (f := 22) (args := [nodeT 7 s n p l, stateX (Int.ofNat c) (Int.ofNat t) [slot0 es], arriveX e (Int.ofNat a)]) (inb := [])
    (ans := [(13, .p (nat a)), (15, .p (.sl false 10 (notes es))), (23, .b false), (47, .p (nat l)), (48, .b false), (59, .p (outX (Int.ofNat c) (Int.ofNat t) [slot0 es] [] [fateR s e] [noteC e] []))]) (lo := [])
    (r := some (outX (Int.ofNat c) (Int.ofNat t) [slot0 es] [] [fateR s e] [noteC e] [], []))
    (ps := [Gam.pureD (callF tab ext (N + 85)) 24 [nat a, num 0, num 17592186044416] = some (nat a), Gam.pureD (callF tab ext (N + 85)) 10 [stateX (Int.ofNat c) (Int.ofNat t) [slot0 es]] = some (.sl false 10 (notes es)),
      (Int.ofNat (notes es).length == 0) = false, Gam.pureD (callF tab ext (N + 85)) 29 [nodeT 7 s n p l] = some (nat l), decide (Int.ofNat (notes es).length < Int.ofNat l) = false,
      Gam.pureD (callF tab ext (N + 85)) 30 [nodeT 7 s n p l, stateX (Int.ofNat c) (Int.ofNat t) [slot0 es], .agg (noteC e)] = some (outX (Int.ofNat c) (Int.ofNat t) [slot0 es] [] [fateR s e] [noteC e] [])])
    (by kernel_rfl) ⟨clamp_time (N + 65) a ha, (by have := waiting_pure (N + 4) (Int.ofNat c) (Int.ofNat t) [slot0 es] (by rw [allOf_one]; omega) (by simp); rw [allOf_one] at this; exact this), hz, limit_pure (N + 65) 7 s n p l (by omega), nlt_nat (by rw [notes_length]; exact hl), reject_pure (N + 25) s n p l _ _ [slot0 es] e, trivial⟩
  exact pureD_of h (by kernel_rfl)

/-- A step of a throttle is what it does with a copy of the state. -/
theorem step_pure (N : Nat) (s : ByteArray) (n p l : Nat) (c t : Int) (ss : List Sl) (kind a : Int) (st msg : List X) (h : ∃ e b, (st = [num e, .sl false 1 [[num 1]]] ∧ msg = noteC b) ∨ (st = [num e, .sl false 1 [[num 0], [num 3]]] ∧ msg = zMsg)) (n' t' : Int) (ss' : List Sl) (outs fates letters r : List (List X)) (hs : ss.length < 80) (hs2 : ∀ s, s ∈ ss → s.es.length < 80)
    (hst : Gam.pureD (callF tab ext (N + 86)) 22 [nodeT 7 s n p l, stateX c t ss, inX kind a st msg] = some (outX n' t' ss' outs fates letters r)) :
    Gam.pureD (callF tab ext (N + 87)) 14 [nodeT 7 s n p l, stateX c t ss, inX kind a st msg] = some (outX n' t' ss' outs fates letters r) := by
  obtain ⟨e, b, ⟨rfl, rfl⟩ | ⟨rfl, rfl⟩⟩ := h
  · have h := callA_sound (T := tab) (ext := ext) (n := N + 86) (f := 14) (args := [nodeT 7 s n p l, stateX c t ss, inX kind a [num e, .sl false 1 [[num 1]]] (noteC b)]) (inb := [])
      (ans := [(8, .p (stateX c t ss)), (19, .p (outX n' t' ss' outs fates letters r))]) (lo := []) (r := some (outX n' t' ss' outs fates letters r, []))
      (ps := [Gam.pureD (callF tab ext (N + 86)) 20 [stateX c t ss] = some (stateX c t ss), Gam.pureD (callF tab ext (N + 86)) 22 [nodeT 7 s n p l, stateX c t ss, inX kind a [num e, .sl false 1 [[num 1]]] (noteC b)] = some (outX n' t' ss' outs fates letters r)])
      (by kernel_rfl) ⟨clone_pure (N + 3) c t ss hs hs2, hst, trivial⟩
    exact pureD_of h (by kernel_rfl)
  · have h := callA_sound (T := tab) (ext := ext) (n := N + 86) (f := 14) (args := [nodeT 7 s n p l, stateX c t ss, inX kind a [num e, .sl false 1 [[num 0], [num 3]]] zMsg]) (inb := [])
      (ans := [(8, .p (stateX c t ss)), (19, .p (outX n' t' ss' outs fates letters r))]) (lo := []) (r := some (outX n' t' ss' outs fates letters r, []))
      (ps := [Gam.pureD (callF tab ext (N + 86)) 20 [stateX c t ss] = some (stateX c t ss), Gam.pureD (callF tab ext (N + 86)) 22 [nodeT 7 s n p l, stateX c t ss, inX kind a [num e, .sl false 1 [[num 0], [num 3]]] zMsg] = some (outX n' t' ss' outs fates letters r)])
      (by kernel_rfl) ⟨clone_pure (N + 3) c t ss hs hs2, hst, trivial⟩
    exact pureD_of h (by kernel_rfl)

end Go.Proofs.Ytjfheahakfoofaa

/- The clock of a throttle that holds nothing. -/
namespace Go.Proofs.Ytjfheahakfoofaa
open Go.Em

theorem tick_empty (N : Nat) (s : ByteArray) (n p l c t a : Nat) (e : Int) (hp : p < 17592186044416) (ha : a < 17592186044416) :
    Gam.pureD (callF tab ext (N + 86)) 22 [nodeT 7 s n p l, stateX (Int.ofNat c) (Int.ofNat t) [], tickX e (Int.ofNat a)] = some (outX (Int.ofNat c) (Int.ofNat t) [] [] [] [] []) := by
  have h := callA_sound (T := tab) (ext := ext) (n := N + 85) (f := 22) (args := [nodeT 7 s n p l, stateX (Int.ofNat c) (Int.ofNat t) [], tickX e (Int.ofNat a)]) (inb := [])
    (ans := [(13, .p (nat a)), (15, .p (.sl false 10 [])), (68, .p (nat n)), (72, .p (nat (cnt p c t a)))]) (lo := [])
    (r := some (.agg [nat c, nat t, .sl false 10 [], .sl true 11 [], .sl true 11 [], .sl true 6 [], .sl true 10 []], []))
    (ps := [Gam.pureD (callF tab ext (N + 85)) 24 [nat a, num 0, num 17592186044416] = some (nat a), Gam.pureD (callF tab ext (N + 85)) 10 [stateX (Int.ofNat c) (Int.ofNat t) []] = some (.sl false 10 []),
      Gam.pureD (callF tab ext (N + 85)) 35 [nodeT 7 s n p l] = some (nat n),
      Gam.pureD (callF tab ext (N + 85)) 34 [nodeT 7 s n p l, stateX (Int.ofNat c) (Int.ofNat t) [], nat a] = some (nat (cnt p c t a))])
    (by kernel_rfl) ⟨clamp_time (N + 65) a ha, waiting_pure (N + 4) _ _ [] (by simp [allOf]) (by simp), number_pure (N + 65) 7 s n p l, count_pure (N + 63) 7 s n p l c t a [] hp (by omega), trivial⟩
  exact pureD_of h (by kernel_rfl)

/-- What the release makes of a message: its new stamp, its fate. -/
def movedC (b e : Int) (i : Nat) : List X := [num b, .sl false 1 [[num 0], [num 3], [nat i]], num 1048576, .sl false 1 [[num e]], num 9, num 0, num 0, noText, .sl false 6 [], .sl false 7 []]
theorem under_pure (N : Nat) (b : Int) (i : Nat) : Gam.pureD (callF tab ext (N + 30)) 54 [.agg [num b, .sl false 1 [[num 0], [num 3]]], nat i] = some (.agg [num b, .sl false 1 [[num 0], [num 3], [nat i]]]) := by kernel_rfl
theorem move_pure (N : Nat) (b e : Int) (i : Nat) : Gam.pureD (callF tab ext (N + 30)) 53 [.agg (noteC e), .agg [num b, .sl false 1 [[num 0], [num 3], [nat i]]]] = some (.agg (movedC b e i)) := by kernel_rfl

end Go.Proofs.Ytjfheahakfoofaa

/- The release of messages: the rounds, the loop that yields, and the call as a whole. -/
namespace Go.Proofs.Ytjfheahakfoofaa
open Go.Em

theorem app_c {j len bytes i : Nat} (h : j = len) (hj : j < 4096) (hb : bytes ≤ 4096) : (0 + j = len ∧ roomOk (j + 1) bytes = true ∧ memN i [] = false) := by
  refine ⟨by omega, room_of ?_ (by omega), rfl⟩
  have : (j + 1) * bytes ≤ 4096 * 4096 := Nat.mul_le_mul (by omega) hb
  omega

/-- The ranges over functions in a code: what assigns, and the body. -/
def rfsOf : C → List (C × C)
  | .seq a b | .cond _ a b => rfsOf a ++ rfsOf b
  | .block _ b | .loop b => rfsOf b
  | .rf _ _ _ a b => (a, b) :: (rfsOf a ++ rfsOf b)
  | _ => []
noncomputable def rfA : C := ((rfsOf (bodyOf tab 33)).getD 0 (.skip, .skip)).1
noncomputable def rfB : C := ((rfsOf (bodyOf tab 33)).getD 0 (.skip, .skip)).2
noncomputable def recB : Bx := .loop .ready none [(5, .ptr 1 0 0), (6, .ptr 2 0 0), (11, .ptr 3 0 0)] [18, 19] rfA rfB

section
variable (kd : Int) (s : ByteArray) (n p l : Nat) (x y : Int) (tt : Bool) (rest : List (List X))

def out0 : List X := [num x, num y, .sl tt 10 rest, .sl true 11 [], .sl true 11 [], .sl true 6 [], .sl true 10 []]
def outJ (a b j : Nat) : List X := [num x, num y, .sl tt 10 rest, .bs a 0 j, .sl true 11 [], .bs b 0 j, .sl true 10 []]
noncomputable def inb0 : List Bx := [recB, .var [.ptr 4 0 0], .var (nodeT kd s n p l).cells, .var [nat 0], .var (out0 x y tt rest)]
noncomputable def inbS (j : Nat) (outs fates : List (List X)) : List Bx :=
  [recB, .var [.ptr 4 0 0], .var (nodeT kd s n p l).cells, .var [nat j], .var (outJ x y tt rest 5 6 j), .row 11 outs, .row 6 fates]
noncomputable def outS (j : Nat) (outs fates : List (List X)) : List Bx :=
  [recB, .var [.ptr 4 0 0], .var (nodeT kd s n p l).cells, .var [nat j], .var (outJ x y tt rest 7 8 j), .dead, .dead, .row 11 outs, .row 6 fates]
end

def fateM (s : ByteArray) (b e : Int) (i : Nat) : List X := [num e, .sl false 1 [[num 1]], num 1, text s, .sl false 2 [[num b, .sl false 1 [[num 0], [num 3], [nat i]]]], noText]
theorem replaced_pure (N : Nat) (s : ByteArray) (b e : Int) (i : Nat) : Gam.pureD (callF tab ext (N + 40)) 46 [.agg (noteC e), text s, .sl false 2 [[num b, .sl false 1 [[num 0], [num 3], [nat i]]]]] = some (.agg (fateM s b e i)) := by kernel_rfl

theorem round_more (N : Nat) (kd : Int) (s : ByteArray) (n p l : Nat) (x y : Int) (tt : Bool) (rest : List (List X)) (j i : Nat) (b e : Int) (outs fates : List (List X)) (hj : j < 1000) (h1 : j = outs.length) (h2 : j = fates.length) :
    callF tab ext (N + 81) .yl [.yl 0, .agg (noteC e), .agg (movedC b e i)] (inbS kd s n p l x y tt rest j outs fates) = some (.v (.bool true), outS kd s n p l x y tt rest (j + 1) (outs ++ [num 0 :: movedC b e i]) (fates ++ [fateM s b e i])) :=
  yield_of [(28, .app), (42, .p (.agg (fateM s b e i))), (44, .app), (48, .i (Int.ofNat (j + 1)))]
    (pf4 (app_c (i := 5) (bytes := 160) h1 (by omega) (by omega)) (replaced_pure (N + 40) s b e i) (app_c (i := 6) (bytes := 96) h2 (by omega) (by omega)) (next_nat (j := j) (by omega))) (by kernel_rfl)

theorem round_first (N : Nat) (kd : Int) (s : ByteArray) (n p l : Nat) (x y : Int) (tt : Bool) (rest : List (List X)) (b e : Int) (i : Nat) :
    callF tab ext (N + 81) .yl [.yl 0, .agg (noteC e), .agg (movedC b e i)] (inb0 kd s n p l x y tt rest) = some (.v (.bool true), inbS kd s n p l x y tt rest 1 [num 0 :: movedC b e i] [fateM s b e i]) :=
  yield_of [(42, .p (.agg (fateM s b e i))), (48, .i (Int.ofNat 1))] (pf2 (replaced_pure (N + 40) s b e i) (next_nat (j := 0) (by omega))) (by kernel_rfl)

def relTm (es : List Int) (most b : Int) (k j : Nat) : List (Nat × X) :=
  [(0, .yl 0), (2, .dp [num most]), (3, .dp [num b, .sl false 1 [[num 0], [num 3]]]), (7, .sl false 10 (notes es)), (8, nat k), (9, nat j)]

section
variable (kd : Int) (s : ByteArray) (n p l : Nat) (x y : Int) (tt : Bool) (rest : List (List X)) (es : List Int) (most b e : Int) (k j : Nat) (outs fates : List (List X))
noncomputable def relH : St := ⟨relTm es most b k j, inbS kd s n p l x y tt rest j outs fates⟩
noncomputable def relH' : St :=
  ⟨relTm es most b k (j + 1), [recB, .var [.ptr 4 0 0], .var (nodeT kd s n p l).cells, .var [nat (j + 1)], .var (outJ x y tt rest 8 9 (j + 1)), .dead, .dead, .var (noteC e), .row 11 outs, .row 6 fates]⟩
noncomputable def relH0 : St := ⟨relTm es most b k 0, inb0 kd s n p l x y tt rest⟩
noncomputable def relH0' : St :=
  ⟨relTm es most b k 1, [recB, .var [.ptr 4 0 0], .var (nodeT kd s n p l).cells, .var [nat 1], .var (outJ x y tt rest 6 7 1), .var (noteC e), .row 11 outs, .row 6 fates]⟩

theorem rel_canon : canon 5 (relH kd s n p l x y tt rest es most b k j outs fates) = some (relH kd s n p l x y tt rest es most b k j outs fates) := by kernel_rfl
theorem rel_canon' : canon 5 (relH' kd s n p l x y tt rest es most b e k j outs fates) = some (relH kd s n p l x y tt rest es most b k (j + 1) outs fates) := by kernel_rfl
theorem rel_canon0 : canon 5 (relH0 kd s n p l x y tt rest es most b k) = some (relH0 kd s n p l x y tt rest es most b k) := by kernel_rfl
theorem rel_canon0' : canon 5 (relH0' kd s n p l x y tt rest es most b e k outs fates) = some (relH kd s n p l x y tt rest es most b k 1 outs fates) := by kernel_rfl
end

theorem rel_step (N : Nat) (kd : Int) (s : ByteArray) (n p l : Nat) (x y : Int) (tt : Bool) (rest : List (List X)) (es : List Int) (most b e : Int) (k j : Nat) (outs fates : List (List X)) (hi : (notes es)[j]? = some (noteC e)) (hj : j < k) (hk : k < 1000) (hm : ¬ Int.ofNat j ≥ most) (h1 : j = outs.length) (h2 : j = fates.length) :
    run (callF tab ext (N + 81)) 5 (N + 81) (loopOf tab 52 0) (relH kd s n p l x y tt rest es most b k j outs fates) = some (.norm, relH' kd s n p l x y tt rest es most b e k j (outs ++ [num 0 :: movedC b e j]) (fates ++ [fateM s b e j])) :=
  run_of [(10, .b true), (12, .e (noteC e)), (16, .b false), (23, .p (.agg [num b, .sl false 1 [[num 0], [num 3], [nat j]]])), (24, .p (.agg (movedC b e j))), (25, .r (.v (.bool true)) (outS kd s n p l x y tt rest (j + 1) (outs ++ [num 0 :: movedC b e j]) (fates ++ [fateM s b e j]))), (28, .i (Int.ofNat (j + 1)))] []
    (pf7 (lt_nat hj) hi (decide_eq_false hm) (under_pure (N + 51) b j) (move_pure (N + 51) b e j) (round_more N kd s n p l x y tt rest j j b e outs fates (by omega) h1 h2) (next_nat (j := j) (by omega))) (lo' := []) (by kernel_rfl)

theorem rel_step0 (N : Nat) (kd : Int) (s : ByteArray) (n p l : Nat) (x y : Int) (tt : Bool) (rest : List (List X)) (es : List Int) (most b e : Int) (k : Nat) (hi : (notes es)[0]? = some (noteC e)) (hj : 0 < k) (hm : ¬ Int.ofNat 0 ≥ most) :
    run (callF tab ext (N + 81)) 5 (N + 81) (loopOf tab 52 0) (relH0 kd s n p l x y tt rest es most b k) = some (.norm, relH0' kd s n p l x y tt rest es most b e k [num 0 :: movedC b e 0] [fateM s b e 0]) :=
  run_of [(10, .b true), (12, .e (noteC e)), (16, .b false), (23, .p (.agg [num b, .sl false 1 [[num 0], [num 3], [nat 0]]])), (24, .p (.agg (movedC b e 0))), (25, .r (.v (.bool true)) (inbS kd s n p l x y tt rest 1 [num 0 :: movedC b e 0] [fateM s b e 0])), (28, .i (Int.ofNat 1))] []
    (pf7 (lt_nat hj) hi (decide_eq_false hm) (under_pure (N + 51) b 0) (move_pure (N + 51) b e 0) (round_first N kd s n p l x y tt rest b e 0) (next_nat (j := 0) (by omega))) (lo' := []) (by kernel_rfl)

section
variable (N : Nat) (kd : Int) (s : ByteArray) (n p l : Nat) (x y : Int) (tt : Bool) (rest : List (List X)) (es : List Int) (most b e : Int) (k j : Nat) (outs fates : List (List X))
theorem rel_end : run (callF tab ext (N + 81)) 5 (N + 81) (loopOf tab 52 0) (relH kd s n p l x y tt rest es most b k k outs fates) = some (.exit 0, ⟨relTm es most b k k ++ [(10, .v (.bool false))], inbS kd s n p l x y tt rest k outs fates⟩) :=
  run_of [(10, .b false)] [] (pf1 (nlt_nat (j := k) (k := k) (by omega))) (lo' := []) (by kernel_rfl)
theorem rel_end0 : run (callF tab ext (N + 81)) 5 (N + 81) (loopOf tab 52 0) (relH0 kd s n p l x y tt rest es most b 0) = some (.exit 0, ⟨relTm es most b 0 0 ++ [(10, .v (.bool false))], inb0 kd s n p l x y tt rest⟩) :=
  run_of [(10, .b false)] [] (pf1 (nlt_nat (j := 0) (k := 0) (by omega))) (lo' := []) (by kernel_rfl)
theorem rel_stop (hi : (notes es)[j]? = some (noteC e)) (hj : j < k) (hm : Int.ofNat j ≥ most) :
    run (callF tab ext (N + 81)) 5 (N + 81) (loopOf tab 52 0) (relH kd s n p l x y tt rest es most b k j outs fates) = some (.ret, ⟨relTm es most b k j ++ [(27, .v (.bool true))], inbS kd s n p l x y tt rest j outs fates ++ [.var (noteC e)]⟩) :=
  run_of [(10, .b true), (12, .e (noteC e)), (16, .b true)] [] (pf3 (lt_nat hj) hi (decide_eq_true hm)) (lo' := []) (by kernel_rfl)
theorem rel_stop0 (hi : (notes es)[0]? = some (noteC e)) (hj : 0 < k) (hm : Int.ofNat 0 ≥ most) :
    run (callF tab ext (N + 81)) 5 (N + 81) (loopOf tab 52 0) (relH0 kd s n p l x y tt rest es most b k) = some (.ret, ⟨relTm es most b k 0 ++ [(27, .v (.bool true))], inb0 kd s n p l x y tt rest ++ [.var (noteC e)]⟩) :=
  run_of [(10, .b true), (12, .e (noteC e)), (16, .b true)] [] (pf3 (lt_nat hj) hi (decide_eq_true hm)) (lo' := []) (by kernel_rfl)
end

end Go.Proofs.Ytjfheahakfoofaa

/- The release of messages as a whole. -/
namespace Go.Proofs.Ytjfheahakfoofaa
open Go.Em

/-- How many leave; what leaves; the fates. -/
def relN (es : List Int) (most : Int) : Nat := min es.length most.toNat
def movedL (b : Int) (es : List Int) (m : Nat) : List (List X) := (List.range m).map fun i => num 0 :: movedC b (es.getD i 0) i
def fatesL (s : ByteArray) (b : Int) (es : List Int) (m : Nat) : List (List X) := (List.range m).map fun i => fateM s b (es.getD i 0) i
theorem movedL_length (b : Int) (es : List Int) (m : Nat) : (movedL b es m).length = m := by simp [movedL]
theorem fatesL_length (s : ByteArray) (b : Int) (es : List Int) (m : Nat) : (fatesL s b es m).length = m := by simp [fatesL]
theorem movedL_succ (b : Int) (es : List Int) (m : Nat) : movedL b es (m + 1) = movedL b es m ++ [num 0 :: movedC b (es.getD m 0) m] := by simp [movedL, List.range_succ]
theorem fatesL_succ (s : ByteArray) (b : Int) (es : List Int) (m : Nat) : fatesL s b es (m + 1) = fatesL s b es m ++ [fateM s b (es.getD m 0) m] := by simp [fatesL, List.range_succ]

section
variable (N : Nat) (kd : Int) (s : ByteArray) (n p l : Nat) (x y : Int) (tt : Bool) (rest : List (List X)) (es : List Int) (most b : Int)

/-- The rounds of the loop, up to the m-th. -/
theorem rel_rounds {e : Ex} {fin : St} (hl : es.length < 1000) (m : Nat) (hm : m = relN es most) (h0 : 0 < m) (he : e ≠ .norm)
    (hend : run (callF tab ext (N + 81)) 5 (N + 81) (loopOf tab 52 0) (relH kd s n p l x y tt rest es most b es.length m (movedL b es m) (fatesL s b es m)) = some (e, fin)) (hF : m < N + 81) :
    run (callF tab ext (N + 81)) 5 (N + 81) (.loop (loopOf tab 52 0)) (relH0 kd s n p l x y tt rest es most b es.length) = some (e, fin) := by
  simp only [run]
  have hmk : m ≤ es.length := by rw [hm]; exact Nat.min_le_left _ _
  have hmost : ∀ j, j < m → ¬ Int.ofNat j ≥ most := by
    intro j hj hge
    have : m ≤ most.toNat := by rw [hm]; exact Nat.min_le_right _ _
    simp only [Int.ofNat_eq_natCast] at hge
    omega
  let σs : Nat → St := fun j => match j with
    | 0 => relH0 kd s n p l x y tt rest es most b es.length
    | j + 1 => relH kd s n p l x y tt rest es most b es.length (j + 1) (movedL b es (j + 1)) (fatesL s b es (j + 1))
  let τs : Nat → St := fun j => match j with
    | 0 => relH0 kd s n p l x y tt rest es most b es.length
    | 1 => relH0' kd s n p l x y tt rest es most b (es.getD 0 0) es.length (movedL b es 1) (fatesL s b es 1)
    | j + 2 => relH' kd s n p l x y tt rest es most b (es.getD (j + 1) 0) es.length (j + 1) (movedL b es (j + 2)) (fatesL s b es (j + 2))
  refine iter_for (k := m) (σ := σs) (τ := τs) (fun j hj => ?_) (fun j hj => ?_) ?_ he hF
  · rcases j with _ | _ | j
    · exact rel_canon0 kd s n p l x y tt rest es most b es.length
    · exact rel_canon0' kd s n p l x y tt rest es most b (es.getD 0 0) es.length (movedL b es 1) (fatesL s b es 1)
    · exact rel_canon' kd s n p l x y tt rest es most b (es.getD (j + 1) 0) es.length (j + 1) (movedL b es (j + 2)) (fatesL s b es (j + 2))
  · match j with
    | 0 =>
      have := rel_step0 N kd s n p l x y tt rest es most b (es.getD 0 0) es.length (notes_get (by omega)) (by omega) (hmost 0 hj)
      exact this
    | j + 1 =>
      have := rel_step N kd s n p l x y tt rest es most b (es.getD (j + 1) 0) es.length (j + 1) (movedL b es (j + 1)) (fatesL s b es (j + 1)) (notes_get (by omega)) (by omega) hl (hmost _ hj) (movedL_length _ _ _).symm (fatesL_length _ _ _ _).symm
      rw [← movedL_succ, ← fatesL_succ] at this
      exact this
  · cases m with
    | zero => exact absurd h0 (Nat.lt_irrefl 0)
    | succ m => exact hend

/-- What the iterator yields. -/
theorem yields (hl : es.length < 80) :
    callF tab ext (N + 82) (.fn 52) [.yl 0, .dp [.sl false 10 (notes es)], .dp [num most], .dp [num b, .sl false 1 [[num 0], [num 3]]]] (inb0 kd s n p l x y tt rest)
      = some (.tup [], if relN es most = 0 then inb0 kd s n p l x y tt rest else inbS kd s n p l x y tt rest (relN es most) (movedL b es (relN es most)) (fatesL s b es (relN es most))) := by
  by_cases h0 : relN es most = 0
  · rw [if_pos h0]
    by_cases he : es.length = 0
    · obtain rfl : es = [] := List.length_eq_zero_iff.1 he
      have hl := run_of (Γ := callF tab ext (N + 81)) (nIn := 5) (fu := N + 81) [(10, .b false)] [] (pf1 (nlt_nat (j := 0) (k := 0) (by omega))) (m := loopOf tab 52 0) (σ := relH0 kd s n p l x y tt rest [] most b 0) (lo' := []) (e := .exit 0) (σ' := ⟨relTm [] most b 0 0 ++ [(10, .v (.bool false))], inb0 kd s n p l x y tt rest⟩) (by kernel_rfl)
      have hrun : run (callF tab ext (N + 81)) 5 (N + 81) (.loop (loopOf tab 52 0)) (relH0 kd s n p l x y tt rest [] most b 0) = some (.exit 0, ⟨relTm [] most b 0 0 ++ [(10, .v (.bool false))], inb0 kd s n p l x y tt rest⟩) := by
        simp only [run]
        exact iter_end (n := N + 80) (rel_canon0 kd s n p l x y tt rest [] most b 0) hl (by simp)
      exact callF_of [] [(.exit 0, ⟨relTm [] most b 0 0 ++ [(10, .v (.bool false))], inb0 kd s n p l x y tt rest⟩)] (pf1 hrun) (by kernel_rfl)
    · have hm : Int.ofNat 0 ≥ most := by simp only [relN] at h0; simp only [Int.ofNat_eq_natCast]; omega
      have hrun : run (callF tab ext (N + 81)) 5 (N + 81) (.loop (loopOf tab 52 0)) (relH0 kd s n p l x y tt rest es most b (notes es).length) = some (.ret, ⟨relTm es most b (notes es).length 0 ++ [(27, .v (.bool true))], inb0 kd s n p l x y tt rest ++ [.var (noteC (es.getD 0 0))]⟩) := by
        simp only [run]
        exact iter_end (n := N + 80) (rel_canon0 kd s n p l x y tt rest es most b _) (rel_stop0 N kd s n p l x y tt rest es most b _ _ (notes_get (by omega)) (by rw [notes_length]; omega) hm) (by simp)
      exact callF_of [] [(.ret, ⟨relTm es most b (notes es).length 0 ++ [(27, .v (.bool true))], inb0 kd s n p l x y tt rest ++ [.var (noteC (es.getD 0 0))]⟩)] (pf1 hrun) (by kernel_rfl)
  · rw [if_neg h0]
    by_cases hm : relN es most = es.length
    · have hrun := rel_rounds N kd s n p l x y tt rest es most b (by omega) _ rfl (by omega) (e := .exit 0) (by simp) (by rw [hm]; exact rel_end N kd s n p l x y tt rest es most b es.length (movedL b es es.length) (fatesL s b es es.length)) (by omega)
      rw [hm]
      rw [← notes_length es] at hrun ⊢
      exact callF_of [] [(.exit 0, ⟨relTm es most b (notes es).length (notes es).length ++ [(10, .v (.bool false))], inbS kd s n p l x y tt rest (notes es).length (movedL b es (notes es).length) (fatesL s b es (notes es).length)⟩)] (pf1 hrun) (by kernel_rfl)
    · have hle : relN es most ≤ es.length := Nat.min_le_left _ _
      have hge : Int.ofNat (relN es most) ≥ most := by simp only [relN] at hm h0 ⊢; simp only [Int.ofNat_eq_natCast]; omega
      have hrun := rel_rounds N kd s n p l x y tt rest es most b (by omega) _ rfl (by omega) (e := .ret) (by simp) (rel_stop N kd s n p l x y tt rest es most b (es.getD (relN es most) 0) es.length (relN es most) (movedL b es (relN es most)) (fatesL s b es (relN es most)) (notes_get (by omega)) (by omega) hge) (by omega)
      rw [← notes_length es] at hrun
      exact callF_of [] [(.ret, ⟨relTm es most b (notes es).length (relN es most) ++ [(27, .v (.bool true))], inbS kd s n p l x y tt rest (relN es most) (movedL b es (relN es most)) (fatesL s b es (relN es most)) ++ [.var (noteC (es.getD (relN es most) 0))]⟩)] (pf1 hrun) (by kernel_rfl)
end

end Go.Proofs.Ytjfheahakfoofaa

/- The call of release. -/
namespace Go.Proofs.Ytjfheahakfoofaa
open Go.Em

section
variable (N : Nat) (kd : Int) (s : ByteArray) (n p l : Nat) (x y : Int) (tt : Bool) (rest : List (List X)) (es : List Int) (most b : Int)

def stampC : List X := [num b, .sl false 1 [[num 0], [num 3]]]
noncomputable def recBx : Bx := .loop .ready none [(5, .ptr 1 0 0), (6, .ptr 2 0 0), (11, .ptr 4 0 0)] [18, 19] rfA rfB
noncomputable def rfSt : St := ⟨[(5, .ptr 1 0 0), (6, .ptr 2 0 0), (11, .ptr 4 0 0), (17, .fn 52 [.dp [.sl false 10 (notes es)], .dp [num most], .dp (stampC b)])],
  [.var (out0 x y tt rest), .var [.ptr 0 0 0], .var (nodeT kd s n p l).cells, .var (stampC b), .var [nat 0]]⟩
noncomputable def rfSt0 : St := ⟨(rfSt kd s n p l x y tt rest es most b).tm, [.var (out0 x y tt rest), .var [.ptr 0 0 0], .var (nodeT kd s n p l).cells, .var (stampC b), .var [nat 0], .dead]⟩
noncomputable def rfStM (m : Nat) (outs fates : List (List X)) : St := ⟨(rfSt kd s n p l x y tt rest es most b).tm, [.var (outJ x y tt rest 6 7 m), .var [.ptr 0 0 0], .var (nodeT kd s n p l).cells, .var (stampC b), .var [nat m], .dead, .row 11 outs, .row 6 fates]⟩

theorem release_zero (hl : es.length < 80) (h0 : relN es most = 0) :
    callF tab ext (N + 83) (.fn 33) [.ptr 0 0 0, nodeT kd s n p l, .sl false 10 (notes es), .agg (stampC b), num most] [.var (out0 x y tt rest)] = some (nat 0, [.var (out0 x y tt rest)]) := by
  have hy := yields N kd s n p l x y tt rest es most b hl
  rw [if_pos h0] at hy
  have hrf : run (callF tab ext (N + 82)) 1 (N + 82) (.rf (.t 17) [18, 19] [5, 6, 11] rfA rfB) (rfSt kd s n p l x y tt rest es most b) = some (.norm, rfSt0 kd s n p l x y tt rest es most b) :=
    rf_of (g := 52) (caps := [.dp [.sl false 10 (notes es)], .dp [num most], .dp (stampC b)]) (y := .tup []) (outb := inb0 kd s n p l x y tt rest) (q := (.tup [], (rfSt kd s n p l x y tt rest es most b).bx ++ [recBx], [5, 1, 2, 4, 0])) hy (by kernel_rfl) (by kernel_rfl) (by kernel_rfl)
  exact callF_of [] [(.norm, rfSt0 kd s n p l x y tt rest es most b)] (pf1 hrf) (by kernel_rfl)

theorem release_some (hl : es.length < 80) (h0 : relN es most ≠ 0) :
    callF tab ext (N + 83) (.fn 33) [.ptr 0 0 0, nodeT kd s n p l, .sl false 10 (notes es), .agg (stampC b), num most] [.var (out0 x y tt rest)]
      = some (nat (relN es most), [.var (outJ x y tt rest 1 2 (relN es most)), .row 11 (movedL b es (relN es most)), .row 6 (fatesL s b es (relN es most))]) := by
  have hy := yields N kd s n p l x y tt rest es most b hl
  rw [if_neg h0] at hy
  have hrf : run (callF tab ext (N + 82)) 1 (N + 82) (.rf (.t 17) [18, 19] [5, 6, 11] rfA rfB) (rfSt kd s n p l x y tt rest es most b) = some (.norm, rfStM kd s n p l x y tt rest es most b (relN es most) (movedL b es (relN es most)) (fatesL s b es (relN es most))) :=
    rf_of (g := 52) (caps := [.dp [.sl false 10 (notes es)], .dp [num most], .dp (stampC b)]) (y := .tup []) (outb := inbS kd s n p l x y tt rest (relN es most) (movedL b es (relN es most)) (fatesL s b es (relN es most)))
      (q := (.tup [], [.var (outJ x y tt rest 6 7 (relN es most)), .var [.ptr 0 0 0], .var (nodeT kd s n p l).cells, .var (stampC b), .var [nat (relN es most)], recBx, .row 11 (movedL b es (relN es most)), .row 6 (fatesL s b es (relN es most))], [5, 1, 2, 4, 0])) hy (by kernel_rfl) (by kernel_rfl) (by kernel_rfl)
  exact callF_of [] [(.norm, rfStM kd s n p l x y tt rest es most b (relN es most) (movedL b es (relN es most)) (fatesL s b es (relN es most)))] (pf1 hrf) (by kernel_rfl)
end

end Go.Proofs.Ytjfheahakfoofaa

/- A state without the first messages that are held. -/
namespace Go.Proofs.Ytjfheahakfoofaa
open Go.Em

theorem min_nat (a b : Nat) : (if Int.ofNat b < Int.ofNat a then Int.ofNat b else Int.ofNat a) = Int.ofNat (min a b) := by
  simp only [Int.ofNat_eq_natCast]; split <;> omega
theorem sub_nat {a b : Nat} (h : b ≤ a) (ha : a < 4294967296) : IntKind.i64.wrap (Int.ofNat a - Int.ofNat b) = Int.ofNat (a - b) := by
  rw [IntKind.wrap_i64]; simp only [Int.ofNat_eq_natCast]; omega
theorem add_nat {a b : Nat} (ha : a < 4294967296) (hb : b < 4294967296) : IntKind.i64.wrap (Int.ofNat a + Int.ofNat b) = Int.ofNat (a + b) := by
  rw [IntKind.wrap_i64]; simp only [Int.ofNat_eq_natCast]; omega
theorem gt_nat {j k : Nat} (h : k < j) : decide (Int.ofNat j > Int.ofNat k) = true := lt_nat h
theorem ngt_nat {j k : Nat} (h : ¬ k < j) : decide (Int.ofNat j > Int.ofNat k) = false := nlt_nat h
theorem ne_zero {k : Nat} (h : k ≠ 0) : (Int.ofNat k == 0) = false := by
  have : Int.ofNat k ≠ 0 := by simp only [Int.ofNat_eq_natCast]; omega
  simpa using this
theorem notes_drop (es : List Int) (k : Nat) : List.drop k (List.take (notes es).length (notes es)) = notes (es.drop k) := by
  rw [List.take_length]; simp [notes]

theorem without_all (N : Nat) (c t : Int) (es : List Int) (k : Nat) (hk : k = (notes es).length) (h0 : k ≠ 0) (hb : k < 1000) :
    Gam.pureD (callF tab ext (N + 40)) 37 [stateX c t [slot0 es], nat k] = some (stateX c t []) := by
  subst hk
  exact pure_of [(23, .i (Int.ofNat (notes es).length)), (26, .i (Int.ofNat 0)), (31, .b false), (34, .b false), (39, .cut)] []
    (pf5 (show (if Int.ofNat (notes es).length < Int.ofNat (notes es).length then Int.ofNat (notes es).length else Int.ofNat (notes es).length) = Int.ofNat (notes es).length by split <;> rfl)
      (show IntKind.i64.wrap (Int.ofNat (notes es).length - Int.ofNat (notes es).length) = Int.ofNat 0 by rw [sub_nat (by omega) (by omega), Nat.sub_self])
      (ngt_nat (j := (notes es).length) (k := (notes es).length) (by omega)) (ne_zero h0) (show (notes es).length ≤ (notes es).length ∧ (notes es).length ≤ (notes es).length by omega)) (x := .agg [num c, num t, .bs 0 0 0]) (bx := [.row 10 []]) (by kernel_rfl) (by kernel_rfl)

theorem without_some (N : Nat) (c t : Int) (es : List Int) (k : Nat) (hk : k < (notes es).length) (hb : (notes es).length < 1000) :
    Gam.pureD (callF tab ext (N + 40)) 37 [stateX c t [slot0 es], nat k] = some (stateX c t [slot0 (es.drop k)]) := by
  have h := pure_of (T := tab) (ext := ext) (N := N + 39) (f := 37) (args := [stateX c t [slot0 es], nat k]) [(23, .i (Int.ofNat k)), (26, .i (Int.ofNat 0)), (31, .b true), (39, .cut)] []
    (pf4 (show (if Int.ofNat (notes es).length < Int.ofNat k then Int.ofNat (notes es).length else Int.ofNat k) = Int.ofNat k by rw [min_nat]; congr 1; omega)
      (show IntKind.i64.wrap (Int.ofNat k - Int.ofNat k) = Int.ofNat 0 by rw [sub_nat (by omega) (by omega), Nat.sub_self])
      (gt_nat (j := (notes es).length) (k := k) hk) (show k ≤ (notes es).length ∧ (notes es).length ≤ (notes es).length by omega)) (x := .agg [num c, num t, .bs 0 0 1])
      (bx := [.row 10 [[num 0, num 0, num 0, noText, .sl false 6 [], .sl false 7 [], num 0, num 0, .sl false 10 (List.drop k (List.take (notes es).length (notes es))), .sl false 6 []]]])
      (y := .agg [num c, num t, .sl false 10 [[num 0, num 0, num 0, noText, .sl false 6 [], .sl false 7 [], num 0, num 0, .sl false 10 (List.drop k (List.take (notes es).length (notes es))), .sl false 6 []]]]) (by kernel_rfl) (by kernel_rfl)
  rw [notes_drop] at h
  exact h

end Go.Proofs.Ytjfheahakfoofaa

/- The clock of a throttle that holds messages. -/
namespace Go.Proofs.Ytjfheahakfoofaa
open Go.Em

/-- What of the held messages is left. -/
def heldS (es : List Int) : List Sl := if es = [] then [] else [slot0 es]

theorem sub_int {a b : Nat} (ha : a < 4294967296) (hb : b < 4294967296) : IntKind.i64.wrap (Int.ofNat a - Int.ofNat b) = Int.ofNat a - Int.ofNat b := by
  rw [IntKind.wrap_i64]; simp only [Int.ofNat_eq_natCast]; omega

theorem waiting_one (N : Nat) (c t : Int) (es : List Int) (hl : es.length < 80) : Gam.pureD (callF tab ext (N + 85)) 10 [stateX c t [slot0 es]] = some (.sl false 10 (notes es)) := by
  have := waiting_pure (N + 4) c t [slot0 es] (by rw [allOf_one]; omega) (by simp)
  rw [allOf_one] at this; exact this

theorem tick_zero (N : Nat) (s : ByteArray) (n p l c t a : Nat) (e : Int) (es : List Int) (hp : p < 17592186044416) (ha : a < 17592186044416) (hl : es.length < 80) (hn : n < 4294967296) (hc : cnt p c t a < 4294967296)
    (h0 : relN es (Int.ofNat n - Int.ofNat (cnt p c t a)) = 0) :
    Gam.pureD (callF tab ext (N + 86)) 22 [nodeT 7 s n p l, stateX (Int.ofNat c) (Int.ofNat t) [slot0 es], tickX e (Int.ofNat a)] = some (outX (Int.ofNat c) (Int.ofNat t) [slot0 es] [] [] [] []) :=
  pure_of [(13, .p (nat a)), (15, .p (.sl false 10 (notes es))), (68, .p (nat n)), (72, .p (nat (cnt p c t a))), (73, .i (Int.ofNat n - Int.ofNat (cnt p c t a))), (74, .r (nat 0) [.var (out0 0 0 true [])])] []
    (pf6 (clamp_time (N + 65) a ha) (waiting_one N (Int.ofNat c) (Int.ofNat t) es hl) (number_pure (N + 65) 7 s n p l) (count_pure (N + 63) 7 s n p l c t a [slot0 es] hp (by omega)) (sub_int hn hc) (release_zero (N + 2) 7 s n p l 0 0 true [] es _ e hl h0))
    (x := .agg [nat c, nat t, .sl false 10 (slotsC [slot0 es]), .sl true 11 [], .sl true 11 [], .sl true 6 [], .sl true 10 []]) (bx := []) (by kernel_rfl) (by kernel_rfl)

theorem tick_some (N : Nat) (s : ByteArray) (n p l c t a : Nat) (e : Int) (es : List Int) (hp : p < 17592186044416) (ha : a < 17592186044416) (hl : es.length < 80) (hn : n < 4294967296) (hc : cnt p c t a < 4294967)
    (m : Nat) (hm : relN es (Int.ofNat n - Int.ofNat (cnt p c t a)) = m) (h0 : m ≠ 0) :
    Gam.pureD (callF tab ext (N + 86)) 22 [nodeT 7 s n p l, stateX (Int.ofNat c) (Int.ofNat t) [slot0 es], tickX e (Int.ofNat a)]
      = some (outX (Int.ofNat (cnt p c t a + m)) (Int.ofNat (max t (win p a))) (heldS (es.drop m)) (movedL e es m) (fatesL s e es m) [] []) := by
  have hle : m ≤ es.length := by rw [← hm]; exact Nat.min_le_left _ _
  have hw : Gam.pureD (callF tab ext (N + 85)) 37 [stateX (Int.ofNat (cnt p c t a + m)) (Int.ofNat (max t (win p a))) [slot0 es], nat m] = some (stateX (Int.ofNat (cnt p c t a + m)) (Int.ofNat (max t (win p a))) (heldS (es.drop m))) := by
    unfold heldS
    by_cases h : m = es.length
    · rw [if_pos (by rw [h]; simp)]
      exact without_all (N + 45) _ _ es m (by rw [notes_length]; exact h) h0 (by omega)
    · rw [if_neg (by simp; omega)]
      exact without_some (N + 45) _ _ es m (by rw [notes_length]; omega) (by rw [notes_length]; omega)
  have hr := release_some (N + 2) 7 s n p l 0 0 true [] es _ e hl (by rw [hm]; exact h0)
  rw [hm] at hr
  have h := callF_of (T := tab) (ext := ext) (N := N + 85) (f := 22) (args := [nodeT 7 s n p l, stateX (Int.ofNat c) (Int.ofNat t) [slot0 es], tickX e (Int.ofNat a)]) (inb := [])
    (r := some (.agg [nat (cnt p c t a + m), nat (max t (win p a)), .sl false 10 (slotsC (heldS (es.drop m))), .bs 0 0 m, .sl true 11 [], .bs 1 0 m, .sl true 10 []], [.row 11 (movedL e es m), .row 6 (fatesL s e es m)]))
    [(13, .p (nat a)), (15, .p (.sl false 10 (notes es))), (68, .p (nat n)), (72, .p (nat (cnt p c t a))), (73, .i (Int.ofNat n - Int.ofNat (cnt p c t a))), (74, .r (nat m) [.var (outJ 0 0 true [] 1 2 m), .row 11 (movedL e es m), .row 6 (fatesL s e es m)]),
     (78, .b true), (83, .p (stateX (Int.ofNat (cnt p c t a + m)) (Int.ofNat (max t (win p a))) [slot0 es])), (85, .p (stateX (Int.ofNat (cnt p c t a + m)) (Int.ofNat (max t (win p a))) (heldS (es.drop m))))] []
    (pf9 (clamp_time (N + 65) a ha) (waiting_one N (Int.ofNat c) (Int.ofNat t) es hl) (number_pure (N + 65) 7 s n p l) (count_pure (N + 63) 7 s n p l c t a [slot0 es] hp (by omega)) (sub_int (a := n) (b := cnt p c t a) hn (by omega)) hr (gt_nat (j := m) (k := 0) (by omega))
      (left_pure (N + 62) 7 s n p l c t a m [slot0 es] hp (by omega) (by omega)) hw) (by kernel_rfl)
  refine pureD_of h ?_
  have h1 : rowOf [Bx.row 11 (movedL e es m), .row 6 (fatesL s e es m)] 0 0 m = some (11, movedL e es m) := rowOf_get rfl (movedL_length _ _ _).symm
  have h2 : rowOf [Bx.row 11 (movedL e es m), .row 6 (fatesL s e es m)] 1 0 m = some (6, fatesL s e es m) := rowOf_get rfl (fatesL_length _ _ _ _).symm
  simp only [X.data, dataL, nat, num, h1, h2, Option.map_some, outX, Bool.false_and]

end Go.Proofs.Ytjfheahakfoofaa

/- The runs: what one input does. -/
namespace Go.Proofs.Ytjfheahakfoofaa
open Go.Em

/-- A message: the entry and the path of its stamp, its first origin. -/
structure Ms where
  en : Int
  path : List (List X)
  fst : Int
def Ms.cells (o : Ms) : List X := [num o.en, .sl false 1 o.path, num 1048576, .sl false 1 [[num o.fst]], num 9, num 0, num 0, noText, .sl false 6 [], .sl false 7 []]
def outsC (os : List Ms) : List (List X) := os.map fun o => num 0 :: o.cells
def lettC (os : List Ms) : List (List X) := os.map Ms.cells
def rowI (l : List Int) : List (List X) := l.map fun v => [num v]
theorem outsC_get {os : List Ms} {j : Nat} (h : j < os.length) : (outsC os)[j]? = some (num 0 :: (os[j]).cells) := by simp [outsC, h]
theorem lettC_get {os : List Ms} {j : Nat} (h : j < os.length) : (lettC os)[j]? = some (os[j]).cells := by simp [lettC, h]
theorem outsC_length (os : List Ms) : (outsC os).length = os.length := by simp [outsC]
theorem lettC_length (os : List Ms) : (lettC os).length = os.length := by simp [lettC]
theorem rowI_length (l : List Int) : (rowI l).length = l.length := by simp [rowI]
theorem rowI_snoc (l : List Int) (v : Int) : rowI (l ++ [v]) = rowI l ++ [[num v]] := by simp [rowI]

theorem first_pure (N : Nat) (o : Ms) : Gam.pureD (callF tab ext (N + 20)) 11 [.agg o.cells] = some (num o.fst) := by kernel_rfl

/-- A state in a variable: 'b': its slots have no spare room. -/
def stF (c t : Int) (ss : Bool × List (List X)) : List X := [num c, num t, .sl ss.1 10 ss.2]
/-- An outcome: the state, outputs, fates, letters. -/
def outcC (c t : Int) (ss : List (List X)) (os : List Ms) (fates : List (List X)) (ls : List Ms) : List X := [num c, num t, .sl false 10 ss, .sl false 11 (outsC os), .sl false 11 [], .sl false 6 fates, .sl false 10 (lettC ls)]

section
variable (moves : List (List X)) (node : X) (a b c i k j : Nat) (now : Nat) (tt : Bool) (ins : List (List X)) (T L R : List (List X)) (st out : List X)
def ruTm (x y z : Nat) : List (Nat × X) := [(1, .sl false 2 moves), (2, .ptr 0 0 0), (4, .bs x 0 a), (5, .bs y 0 b), (6, .bs z 0 c), (7, .ptr 4 0 0), (8, nat now), (9, nat i), (10, .sl tt 23 ins), (11, nat k)]
/-- Heads of the loop over the outputs. -/
def roH : St := ⟨ruTm moves a b c i k now tt ins 1 2 3 ++ [(12, .ptr 5 0 0), (13, nat j)], [.var node.cells, .row 1 T, .row 1 L, .row 1 R, .var st, .var out]⟩
def roH' : St := ⟨ruTm moves (a + 1) (b + 1) c i k now tt ins 6 7 3 ++ [(12, .ptr 5 0 0), (13, nat (j + 1))], [.var node.cells, .dead, .dead, .row 1 R, .var st, .var out, .row 1 T, .row 1 L]⟩
def roE : St := ⟨ruTm moves a b c i k now tt ins 1 2 3 ++ [(12, .ptr 5 0 0), (13, nat j), (63, .v (.bool false))], [.var node.cells, .row 1 T, .row 1 L, .row 1 R, .var st, .var out]⟩
/-- Heads of the loop over the letters. -/
def rlH : St := ⟨ruTm moves a b c i k now tt ins 1 2 3 ++ [(12, .ptr 5 0 0), (14, nat j)], [.var node.cells, .row 1 T, .row 1 L, .row 1 R, .var st, .var out]⟩
def rlH' : St := ⟨ruTm moves a b (c + 1) i k now tt ins 1 2 6 ++ [(12, .ptr 5 0 0), (14, nat (j + 1))], [.var node.cells, .row 1 T, .row 1 L, .dead, .var st, .var out, .row 1 R]⟩
def rlE : St := ⟨ruTm moves a b c i k now tt ins 1 2 3 ++ [(12, .ptr 5 0 0), (14, nat j), (84, .v (.bool false))], [.var node.cells, .row 1 T, .row 1 L, .row 1 R, .var st, .var out]⟩
/-- Heads of the loop over the inputs. -/
def riH : St := ⟨ruTm moves a b c i k now tt ins 1 2 3, [.var node.cells, .row 1 T, .row 1 L, .row 1 R, .var st]⟩
def riH' : St := ⟨ruTm moves a b c i (k + 1) now tt ins 1 2 3, [.var node.cells, .row 1 T, .row 1 L, .row 1 R, .var st, .var out]⟩
end

section
variable (kd : Int) (s : ByteArray) (n p l : Nat) (moves : List (List X)) (a b c i k j : Nat) (now : Nat) (tt : Bool) (ins : List (List X)) (T L R : List (List X)) (c0 t0 c1 t1 : Int) (s0 : Bool × List (List X)) (s1 : List (List X)) (os ls : List Ms) (fates : List (List X))
theorem ro_canon' (m m' : List X) : canon 0 (roH' moves (nodeT kd s n p l) a b c i k j now tt ins (T ++ [m]) (L ++ [m']) R (stF c0 t0 s0) (outcC c1 t1 s1 os fates ls)) = some (roH moves (nodeT kd s n p l) (a + 1) (b + 1) c i k (j + 1) now tt ins (T ++ [m]) (L ++ [m']) R (stF c0 t0 s0) (outcC c1 t1 s1 os fates ls)) := by kernel_rfl
theorem rl_canon' (m : List X) : canon 0 (rlH' moves (nodeT kd s n p l) a b c i k j now tt ins T L (R ++ [m]) (stF c0 t0 s0) (outcC c1 t1 s1 os fates ls)) = some (rlH moves (nodeT kd s n p l) a b (c + 1) i k (j + 1) now tt ins T L (R ++ [m]) (stF c0 t0 s0) (outcC c1 t1 s1 os fates ls)) := by kernel_rfl
theorem ri_canon' : canon 0 (riH' moves (nodeT kd s n p l) a b c i k now tt ins T L R (stF c0 t0 s0) (outcC c1 t1 s1 os fates ls)) = some (riH moves (nodeT kd s n p l) a b c i (k + 1) now tt ins T L R (stF c0 t0 s0)) := by kernel_rfl

variable (N : Nat)
theorem ro_step (o : Ms) (ho : (outsC os)[j]? = some (num 0 :: o.cells)) (hj : j < (outsC os).length) (hk : (outsC os).length < 1000) (ha : a = T.length) (ha2 : a < 4000) (hb : b = L.length) (hb2 : b < 4000) :
    run (callF tab ext (N + 90)) 0 (N + 90) (loopOf tab 7 2) (roH moves (nodeT kd s n p l) a b c i k j now tt ins T L R (stF c0 t0 s0) (outcC c1 t1 s1 os fates ls))
      = some (.norm, roH' moves (nodeT kd s n p l) a b c i k j now tt ins (T ++ [[nat now]]) (L ++ [[num o.fst]]) R (stF c0 t0 s0) (outcC c1 t1 s1 os fates ls)) :=
  run_of [(63, .b true), (69, .app), (74, .e (num 0 :: o.cells)), (77, .p (num o.fst)), (79, .app), (65, .i (Int.ofNat (j + 1)))] []
    (pf6 (lt_nat hj) (app_c (i := 1) (bytes := 8) ha (by omega) (by omega)) ho (first_pure (N + 70) o) (app_c (i := 2) (bytes := 8) hb (by omega) (by omega)) (next_nat (j := j) (by omega))) (lo' := []) (by kernel_rfl)
theorem ro_end (hj : ¬ j < (outsC os).length) :
    run (callF tab ext (N + 90)) 0 (N + 90) (loopOf tab 7 2) (roH moves (nodeT kd s n p l) a b c i k j now tt ins T L R (stF c0 t0 s0) (outcC c1 t1 s1 os fates ls))
      = some (.exit 4, roE moves (nodeT kd s n p l) a b c i k j now tt ins T L R (stF c0 t0 s0) (outcC c1 t1 s1 os fates ls)) :=
  run_of [(63, .b false)] [] (pf1 (nlt_nat hj)) (lo' := []) (by kernel_rfl)
theorem rl_step (o : Ms) (ho : (lettC ls)[j]? = some o.cells) (hj : j < (lettC ls).length) (hk : (lettC ls).length < 1000) (hc : c = R.length) (hc2 : c < 4000) :
    run (callF tab ext (N + 90)) 0 (N + 90) (loopOf tab 7 3) (rlH moves (nodeT kd s n p l) a b c i k j now tt ins T L R (stF c0 t0 s0) (outcC c1 t1 s1 os fates ls))
      = some (.norm, rlH' moves (nodeT kd s n p l) a b c i k j now tt ins T L (R ++ [[num o.fst]]) (stF c0 t0 s0) (outcC c1 t1 s1 os fates ls)) :=
  run_of [(84, .b true), (91, .e o.cells), (93, .p (num o.fst)), (95, .app), (86, .i (Int.ofNat (j + 1)))] []
    (pf5 (lt_nat hj) ho (first_pure (N + 70) o) (app_c (i := 3) (bytes := 8) hc (by omega) (by omega)) (next_nat (j := j) (by omega))) (lo' := []) (by kernel_rfl)
theorem rl_end (hj : ¬ j < (lettC ls).length) :
    run (callF tab ext (N + 90)) 0 (N + 90) (loopOf tab 7 3) (rlH moves (nodeT kd s n p l) a b c i k j now tt ins T L R (stF c0 t0 s0) (outcC c1 t1 s1 os fates ls))
      = some (.exit 6, rlE moves (nodeT kd s n p l) a b c i k j now tt ins T L R (stF c0 t0 s0) (outcC c1 t1 s1 os fates ls)) :=
  run_of [(84, .b false)] [] (pf1 (nlt_nat hj)) (lo' := []) (by kernel_rfl)
end

end Go.Proofs.Ytjfheahakfoofaa
