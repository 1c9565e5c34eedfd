/- Plain lemmas on relays: what lane.Out passes on, as functions on lists of bytes. -/
import Derived.Test.YtcfbmofffipmpaaQLaneStepsSyms
import Derived.Test.YtcfbmofffipmpaaQLaneStepsPx4
namespace Go.Proofs.Ytcfbmofffipmpaa.P
open Go.RowKit Go.Proofs.YtcfbmofffipmpaaW.PrintWords Go.Proofs.YtcfbmofffipmpaaW.PrintLast Go.Proofs.YtcfbmofffipmpaaW.PrintMore
attribute [local go_sem] max2_int min2_int max_two min_two max_three min_three max_four min_four
set_option linter.unusedVariables false
set_option linter.unusedSimpArgs false
theorem lane_known : plaitinglaw7_known.f = some true := by decide +kernel
theorem text_app (k : Nat) (l m : List Int) : (ofL (textL l) ++ ofL (textL m)).size ≤ 160 := by
  have h1 := textL_length l
  have h2 := textL_length m
  rw [ByteArray.size_append, ofL_size, ofL_size]
  omega
end Go.Proofs.Ytcfbmofffipmpaa.P
