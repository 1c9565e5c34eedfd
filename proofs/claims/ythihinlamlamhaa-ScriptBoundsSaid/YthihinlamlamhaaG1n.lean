/- What path mode says of functions, printed by a program of this session; the kernel holds each. -/
import Derived.Test.YthihinlamlamhaaG1d
import Derived.KernelRfl
namespace Go.Proofs.YthihinlamlamhaaE
open Go
set_option maxRecDepth 100000
set_option linter.unusedVariables false
theorem nf9 (Q : AV × List AObj → Prop) : inlW Try.prog H0 S0 60 (InO Try.prog H0 S0 60 12) 9 [] [] Q = (
Q ((AV.bool true, []))) := by kernel_rfl
theorem nf17 (a n : Int) (Q : AV × List AObj → Prop) : inlW Try.prog H0 S0 6 (InO Try.prog H0 S0 6 6) 17 [.int .i64 a, .int .i64 n] [] Q = (
chk (n ≠ (0 : Int)) (br (decide (a.tmod n < (0 : Int)))
 (Q ((AV.int IntKind.i64 (IntKind.i64.wrap (a.tmod n + n)), [])))
 (Q ((AV.int IntKind.i64 (a.tmod n), []))))) := by kernel_rfl
theorem nf18 (a n : Int) (Q : AV × List AObj → Prop) : inlW Try.prog H0 S0 6 (InO Try.prog H0 S0 6 6) 18 [.int .i64 a, .int .i64 n] [] Q = (
chk (n ≠ (0 : Int)) (br (decide (a.tmod n < (0 : Int)))
 (Q ((AV.int IntKind.i64 (IntKind.i64.wrap (a.tmod n + n)), [])))
 (Q ((AV.int IntKind.i64 (a.tmod n), []))))) := by kernel_rfl
theorem nf6 (n : Int) (Q : AV × List AObj → Prop) : inlW Try.prog H0 S1 60 (InO Try.prog H0 S1 60 12) 6 [.int .i64 n] [] Q = (
Q ((AV.bool
    ((IntKind.i64.wrap (62 : Int)).tmod (60 : Int) == (2 : Int) &&
      ((IntKind.i64.wrap (7 : Int)).tmod (6 : Int) == (1 : Int) &&
        ((IntKind.i64.wrap (3 : Int)).tmod (2 : Int) == (1 : Int) &&
          (IntKind.i64.wrap (IntKind.u8.wrap (s_rem n (256 : Int))) == s_rem n (256 : Int) && true)))),
  []))) := by kernel_rfl
end Go.Proofs.YthihinlamlamhaaE
