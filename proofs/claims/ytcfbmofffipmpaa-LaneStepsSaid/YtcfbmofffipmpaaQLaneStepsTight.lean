/- Facts carried over draws and new blocks, in short words: the printed proofs of this claim use them. -/
import Derived.Test.YtcfbmofffipmpaaProg
import Derived.Test.YtcfbmofffipmpaaQLaneStepsWTab
import Derived.Laws.StructEq
import Derived.Test.YtcfbmofffipmpaaQLaneStepsWRepsOne
import Derived.Test.YtcfbmofffipmpaaQLaneStepsWMore
namespace Go.Proofs.Ytcfbmofffipmpaa.P
open Go.RowKit Go.Proofs.YtcfbmofffipmpaaW.PrintWords Go.Proofs.YtcfbmofffipmpaaW.PrintLast Go.Proofs.YtcfbmofffipmpaaW.PrintMore
attribute [local go_sem] max2_int min2_int max_two min_two max_three min_three max_four min_four
set_option linter.unusedVariables false
set_option linter.unusedSimpArgs false
theorem pH_ {B : Nat} {u w W : World} (h : Below B u w)
    (f : Below B u w → Below B u W := by intro h_; repeat (first | (with_reducible first | exact h_ | apply below_alloc | apply pw_below_drewN | apply below_drew1 | refine below_set ?_ (Aside0.out (by assumption))) | exact h_)) : Below B u W := f h
end Go.Proofs.Ytcfbmofffipmpaa.P
