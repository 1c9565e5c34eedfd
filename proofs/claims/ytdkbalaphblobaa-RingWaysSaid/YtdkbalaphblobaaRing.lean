/- Plain lemmas on the ring's functions: what At, Dist, within compute within their bounds. -/
import Derived.Test.YtdkbalaphblobaaMath
import Derived.Test.YtdkbalaphblobaaPx2
import Derived.Test.YtdkbalaphblobaaPx1
import Derived.Test.YtdkbalaphblobaaPx6
namespace Go.Proofs.Ytdkbalaphblobaa.P
open Go.RowKit Go.Proofs.YtdkbalaphblobaaW.PrintWords Go.Proofs.YtdkbalaphblobaaW.PrintLast Go.Proofs.YtdkbalaphblobaaW.PrintMore
attribute [local go_sem] max2_int min2_int max_two min_two max_three min_three max_four min_four
set_option linter.unusedVariables false
set_option linter.unusedSimpArgs false
theorem ring_within (a n : Int) (hn : 0 < n) (hb : n ≤ 1000000000000) : plaitinglaw4_within.f a n = some (a % n) := within_gen a n hn hb
theorem ring_At_eq (n i d : Int) (hn : 0 < n) (hb : n ≤ 1000000000000) (h0 : -4000000000000000000 ≤ i + d) (h1 : i + d ≤ 4000000000000000000) : ring_At.f n i d = some ((i + d) % n) := by
  unfold ring_At.f
  rw [if_neg (by omega), if_neg (by omega), w64 (x := i + d) (by omega) (by omega)]
  have hb2 := tmod_bounds (i + d) n hn
  rw [w64 (by omega) (by omega), tmod_twice _ _ hn]
theorem ring_known : plaitinglaw4_known.f = some true := by decide +kernel

end Go.Proofs.Ytdkbalaphblobaa.P
