/- Plain lemmas: when two frames are the same. -/
import Derived.Test.YtcpohmfkmgcjkaaQFrameChecksReads
import Derived.Test.YtcpohmfkmgcjkaaQFrameChecksPx1
import Derived.Test.YtcpohmfkmgcjkaaQFrameChecksPx3
namespace Go.Proofs.Ytcpohmfkmgcjkaa.P
open Go.RowKit Go.Proofs.YtcpohmfkmgcjkaaW.PrintWords Go.Proofs.YtcpohmfkmgcjkaaW.PrintLast Go.Proofs.YtcpohmfkmgcjkaaW.PrintMore
attribute [local go_sem] max2_int min2_int max_two min_two max_three min_three max_four min_four
set_option linter.unusedVariables false
set_option linter.unusedSimpArgs false
theorem rd26 (a : List S26) (i : Nat) (h : i < a.length) : rd_T26 a (i : Int) = a[i] := by
  unfold rd_T26
  rw [Int.toNat_natCast, List.getD_eq_getElem?_getD, List.getElem?_eq_getElem h]
  rfl
end Go.Proofs.Ytcpohmfkmgcjkaa.P
