/- The hints of this program: which slots live, which slices are rows. -/
import Derived.Test.YthihinlamlamhaaEwA
import Derived.Test.YthihinlamlamhaaChecked
import Derived.KernelRfl
namespace Go.Proofs.YthihinlamlamhaaE
open Go
set_option maxRecDepth 100000
def tabK : List (Nat × Nat × List Nat) := [(7, 10, [5, 6, 7]),
 (7, 15, [5, 6, 8]),
 (7, 21, [6, 10]),
 (8, 9, [1, 2, 7, 8, 9, 10]),
 (8, 18, [7, 9, 11, 12]),
 (8, 23, [7, 9, 11, 13]),
 (10, 6, [1, 2, 3, 4]),
 (11, 13, [2, 4, 7, 9, 43, 44]),
 (12, 4, [2, 3, 5]),
 (12, 9, [2, 3, 6]),
 (13, 4, [2, 4, 5, 6, 7]),
 (13, 23, [2, 4, 5, 6, 9, 10]),
 (16, 6, [2, 3, 5]),
 (16, 11, [2, 3, 6]),
 (19, 4, [1, 3, 4, 17, 18]),
 (23, 3, [1, 5, 10, 11]),
 (25, 12, [0, 4, 5, 44, 45]),
 (28, 4, [0, 1, 5]),
 (30, 3, [0, 1, 2, 7, 8]),
 (32, 4, [0, 3, 4, 5]),
 (32, 10, [0, 3, 4, 5, 6, 7, 8]),
 (39, 2, [1, 3]),
 (40, 14, [3, 6]),
 (45, 3, [0, 3, 5, 6]),
 (46, 2, [0, 1, 7, 8]),
 (47, 2, [0, 1, 7, 8]),
 (51, 2, [0, 1, 7, 8])]
def tabX : List (Nat × Nat × List Nat) := [(7, 0, [5, 6]),
 (7, 2, [6]),
 (7, 4, [6]),
 (8, 0, [1, 7, 9]),
 (8, 2, [7, 9, 11]),
 (8, 4, [7, 9]),
 (10, 0, [2, 3]),
 (11, 0, [4, 7]),
 (12, 0, [2, 3]),
 (12, 2, [2, 3]),
 (13, 0, [2, 4, 5, 6]),
 (13, 3, [4, 6]),
 (16, 0, [2, 3]),
 (16, 2, [2, 3]),
 (19, 0, [1]),
 (23, 0, [5]),
 (25, 1, [0, 4, 5]),
 (28, 0, []),
 (30, 0, [7]),
 (32, 0, [3]),
 (32, 2, [0, 3, 4, 5, 6]),
 (39, 0, [1]),
 (40, 1, []),
 (45, 0, [3]),
 (46, 0, []),
 (47, 0, []),
 (51, 0, [])]
def tabR : List (Nat × Nat × List Nat) := [(3, 0, [4]),
 (4, 0, [10]),
 (5, 0, [8]),
 (6, 0, [2]),
 (7, 0, [4]),
 (8, 0, [6]),
 (9, 0, [0]),
 (10, 0, [2]),
 (11, 0, [4]),
 (12, 0, [4]),
 (13, 0, [4]),
 (14, 0, [4]),
 (15, 0, [2]),
 (16, 0, [4]),
 (17, 0, [4]),
 (18, 0, [4]),
 (19, 0, [2]),
 (20, 0, [2]),
 (21, 0, [1]),
 (22, 0, [4]),
 (23, 0, [4]),
 (24, 0, [4]),
 (25, 0, [4]),
 (26, 0, [4]),
 (27, 0, [2]),
 (28, 0, [4]),
 (29, 0, [4]),
 (30, 0, [6]),
 (31, 0, [2]),
 (32, 0, [2]),
 (33, 0, [2]),
 (34, 0, [6]),
 (35, 0, [3]),
 (36, 0, [4]),
 (37, 0, [4]),
 (38, 0, [4]),
 (39, 0, [2]),
 (40, 0, [4]),
 (41, 0, [6]),
 (42, 0, [3]),
 (43, 0, [2]),
 (44, 0, [2]),
 (45, 0, [2]),
 (46, 0, [4]),
 (47, 0, [4]),
 (48, 0, [4]),
 (49, 0, [4]),
 (50, 0, [2]),
 (51, 0, [4])]
def tabF : List (Nat × List (List (List K))) := [(10, [[[], [], [], [], [], [.int .i64]]]), (25, [[[], [], [], [], [.int .i64, .int .i64, .str], [.int .i64]]]), (20, [[[.int .u8]]]), (27, [[[.int .i64, .int .i64, .int .i64, .int .i64]]]), (23, [[[.int .i64]]]), (30, [[[.int .i64]]]), (32, [[[.int .i64, .int .i64, .str]]]), (11, [[[.int .i64], [.int .i64], [.int .i64], [.int .i64, .int .i64, .int .i64, .int .i64], [], [], [], [], [.int .i64, .int .i64, .str], [.int .i64], []]]), (13, [[[.int .i64], [.int .i64], [.int .i64], [.int .i64, .int .i64, .int .i64, .int .i64], [], [], [], [], [.int .i64, .int .i64, .str], [.int .i64], []]])]
def look (f r : Nat) : List (Nat × Nat × List Nat) → Option (List Nat)
  | [] => none
  | (a, b, l) :: t => match Nat.beq a f, Nat.beq b r with
    | true, true => some l
    | _, _ => look f r t
def lookF (f : Nat) : List (Nat × List (List (List K))) → List (List (List K))
  | [] => []
  | (a, l) :: t => match Nat.beq a f with
    | true => l
    | false => lookF f t
def memB (f : Nat) : List Nat → Bool
  | [] => false
  | a :: t => match Nat.beq a f with
    | true => true
    | false => memB f t
def tabA : List Nat := []
def H0 : Hints := ⟨fun f r => (look f r tabK).getD [], fun f r => look f r tabX, fun f => look f 0 tabR, fun f => memB f tabA, fun f => some (lookF f tabF)⟩
theorem ok_prog : okProg Try.prog = true := by kernel_rfl
end Go.Proofs.YthihinlamlamhaaE
