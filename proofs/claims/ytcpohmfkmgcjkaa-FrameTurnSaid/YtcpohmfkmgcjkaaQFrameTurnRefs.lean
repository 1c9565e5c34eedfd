/- Plain lemmas on the document's own texts: bits, sums, wrapped texts, frames' texts, when two frames are the same. -/
import Derived.Test.YtcpohmfkmgcjkaaQFrameTurnReads
import Derived.Test.YtcpohmfkmgcjkaaQFrameTurnPx1
import Derived.Test.YtcpohmfkmgcjkaaQFrameTurnPx3
import Derived.Test.YtcpohmfkmgcjkaaQFrameTurnPx15
import Derived.Test.YtcpohmfkmgcjkaaQFrameTurnPx19
import Derived.Test.YtcpohmfkmgcjkaaQFrameTurnPx13
import Derived.Laws.BitsLemmas
namespace Go.Proofs.Ytcpohmfkmgcjkaa.P
open Go.RowKit Go.Proofs.YtcpohmfkmgcjkaaW.PrintWords Go.Proofs.YtcpohmfkmgcjkaaW.PrintLast Go.Proofs.YtcpohmfkmgcjkaaW.PrintMore
attribute [local go_sem] max2_int min2_int max_two min_two max_three min_three max_four min_four
set_option linter.unusedVariables false
set_option linter.unusedSimpArgs false
theorem mask_eq (n : Int) (h0 : 0 ≤ n) (h1 : n ≤ 65535) : Go.bits .and .i64 (wrap64 (n * 2)) 65535 = n * 2 % 65536 := by
  rw [w64 (by omega) (by omega)]
  exact bits_mask .i64 63 (by decide) wraps_i64 16 (by decide) (n * 2) (by omega) (by omega)
theorem crcStep_ref (n : Int) (c : UInt8) (hc : isBit c = true) (h0 : 0 ≤ n) (h1 : n ≤ 65535) :
    crcStep n c = if (((n / 32768) == 1) != (((c.toNat : Int)) == 49)) = true then Go.bits .xor .i64 (Go.bits .and .i64 (wrap64 (n * 2)) 65535) 4129 else Go.bits .and .i64 (wrap64 (n * 2)) 65535 := by
  unfold crcStep
  have hq : n / 32768 = 0 ∨ n / 32768 = 1 := by omega
  have e : (n / 32768 != Go.bits .and .i64 ((c.toNat : Int) - 48) 1) = (((n / 32768) == 1) != (((c.toNat : Int)) == 49)) := by
    rcases bit_cases hc with rfl | rfl
    · have e0 : Go.bits .and .i64 (((48 : UInt8).toNat : Int) - 48) 1 = 0 := by decide
      rw [e0]
      rcases hq with h | h <;> rw [h] <;> rfl
    · have e0 : Go.bits .and .i64 (((49 : UInt8).toNat : Int) - 48) 1 = 1 := by decide
      rw [e0]
      rcases hq with h | h <;> rw [h] <;> rfl
  rw [e]
end Go.Proofs.Ytcpohmfkmgcjkaa.P
