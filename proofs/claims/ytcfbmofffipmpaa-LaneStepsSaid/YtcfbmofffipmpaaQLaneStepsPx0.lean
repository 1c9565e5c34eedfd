/- Printed by a program of this session (myprint) out of the translation: the functions as plain Lean functions, and that the calls compute them. What counts is Lean's check. -/
import Derived.Test.YtcfbmofffipmpaaQLaneStepsTight
namespace Go.Proofs.Ytcfbmofffipmpaa.P
open Go.RowKit Go.Proofs.YtcfbmofffipmpaaW.PrintWords Go.Proofs.YtcfbmofffipmpaaW.PrintLast Go.Proofs.YtcfbmofffipmpaaW.PrintMore
attribute [local go_sem] max2_int min2_int max_two min_two max_three min_three max_four min_four
set_option linter.unusedVariables false
set_option linter.unusedSimpArgs false
def errW : Option Int → Value
 | none => .nilIface
 | some c => .iface 0 (.int .i64 c)
theorem errW_none : errW none = .nilIface := rfl
theorem errW_some (c : Int) : errW (some c) = .iface 0 (.int .i64 c) := rfl
end Go.Proofs.Ytcfbmofffipmpaa.P
