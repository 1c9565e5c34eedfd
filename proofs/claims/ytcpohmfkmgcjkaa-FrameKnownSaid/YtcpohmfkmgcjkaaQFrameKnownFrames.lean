/- Plain lemmas on frames: what Make makes of a raw one. -/
import Derived.Test.YtcpohmfkmgcjkaaQFrameKnownAid
import Derived.Test.YtcpohmfkmgcjkaaQFrameKnownMath
import Derived.Test.YtcpohmfkmgcjkaaQFrameKnownPx10
import Derived.Test.YtcpohmfkmgcjkaaQFrameKnownPx9
import Derived.Test.YtcpohmfkmgcjkaaQFrameKnownPx11
import Derived.Test.YtcpohmfkmgcjkaaQFrameKnownPx2
import Derived.Laws.BitsLemmas
import Derived.Test.YtcpohmfkmgcjkaaQFrameKnownBits
import Derived.Test.YtcpohmfkmgcjkaaQFrameKnownPx8
import Derived.Test.YtcpohmfkmgcjkaaQFrameKnownPx12
import Derived.Test.YtcpohmfkmgcjkaaQFrameKnownPx1
namespace Go.Proofs.Ytcpohmfkmgcjkaa.P
open Go.RowKit Go.Proofs.YtcpohmfkmgcjkaaW.PrintWords Go.Proofs.YtcpohmfkmgcjkaaW.PrintLast Go.Proofs.YtcpohmfkmgcjkaaW.PrintMore
attribute [local go_sem] max2_int min2_int max_two min_two max_three min_three max_four min_four
set_option linter.unusedVariables false
set_option linter.unusedSimpArgs false
theorem l5_within (a n : Int) (hn : 0 < n) (hb : n ≤ 1000000000000) : plaitinglaw5_within.f a n = some (a % n) := within_gen a n hn hb
theorem known5 : plaitinglaw5_known.f = some true := by
  unfold plaitinglaw5_known.f frame_Text.f
  rw [if_pos (by decide), Option.bind_some, if_pos (by rw [ofL_size, wrapL_length, frameBits_length]; decide), show frame_Check.f 6 4 0 0 0 [] 0 0 0 0 0 [] = some 6 from by decide +kernel]
  rfl
end Go.Proofs.Ytcpohmfkmgcjkaa.P
