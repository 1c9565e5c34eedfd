/- Plain lemmas on wrapped texts: what sym.Whole and crc.Open answer, as functions on lists of bytes; numbers out of bits. -/
import Derived.Test.YtcpohmfkmgcjkaaQFramePlacesBits
import Derived.Laws.BitsLemmas
namespace Go.Proofs.Ytcpohmfkmgcjkaa.P
open Go.RowKit Go.Proofs.YtcpohmfkmgcjkaaW.PrintWords Go.Proofs.YtcpohmfkmgcjkaaW.PrintLast Go.Proofs.YtcpohmfkmgcjkaaW.PrintMore
attribute [local go_sem] max2_int min2_int max_two min_two max_three min_three max_four min_four
set_option linter.unusedVariables false
set_option linter.unusedSimpArgs false
theorem toL_extract2 (s : ByteArray) (a b : Nat) : toL (s.extract a b) = ((toL s).take b).drop a := by
  simp [toL, ByteArray.data_extract, List.drop_take, List.extract_eq_take_drop]
theorem extract_ofL2 (l : List UInt8) (a b : Nat) : (ofL l).extract a b = ofL ((l.take b).drop a) := toL_inj (by rw [toL_extract2, toL_ofL, toL_ofL])
theorem bitsL_succ (v : Int) (n : Nat) : bitsL v (n + 1) = (if bitB v n = true then 49 else 48) :: bitsL v n := by
  unfold bitsL
  rw [List.range_succ_eq_map, List.map_cons, List.map_map]
  refine congr (congrArg List.cons ?_) ?_
  · rw [show n + 1 - 1 - 0 = n by omega]
  · refine List.map_congr_left fun i _ => ?_
    show (if bitB v (n + 1 - 1 - (i + 1)) = true then (49 : UInt8) else 48) = _
    rw [show n + 1 - 1 - (i + 1) = n - 1 - i by omega]
end Go.Proofs.Ytcpohmfkmgcjkaa.P
