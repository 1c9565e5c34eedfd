/- Plain lemmas on the document's own texts: bits, sums, wrapped texts, frames' texts, when two frames are the same. -/
import Derived.Test.YtcpohmfkmgcjkaaQFramePlacesSame
import Derived.Test.YtcpohmfkmgcjkaaQFramePlacesPx15
import Derived.Test.YtcpohmfkmgcjkaaQFramePlacesPx19
import Derived.Test.YtcpohmfkmgcjkaaQFramePlacesPx13
import Derived.Laws.BitsLemmas
namespace Go.Proofs.Ytcpohmfkmgcjkaa.P
open Go.RowKit Go.Proofs.YtcpohmfkmgcjkaaW.PrintWords Go.Proofs.YtcpohmfkmgcjkaaW.PrintLast Go.Proofs.YtcpohmfkmgcjkaaW.PrintMore
attribute [local go_sem] max2_int min2_int max_two min_two max_three min_three max_four min_four
set_option linter.unusedVariables false
set_option linter.unusedSimpArgs false
theorem wrap_u64 (x : Int) (h0 : 0 ≤ x) (h1 : x < 9223372036854775808) : IntKind.u64.wrap x = x := by
  simp [IntKind.wrap, IntKind.bits, IntKind.signed]
  omega
theorem r1_bits_loop (n : Int) : ∀ (d k : Nat) (acc : ByteArray), acc.size + d ≤ 62 → d < k → plaitingref1_Bits.l0 k n acc ((d : Int) - 1) = some (acc ++ ofL (bitsL n d))
  | 0, k, acc, h1, h2 => by
    obtain ⟨k, rfl⟩ : ∃ q, k = q + 1 := ⟨k - 1, by omega⟩
    rw [plaitingref1_Bits.l0, if_neg (by omega)]
    refine congrArg some (toL_inj ?_)
    rw [toL_append, toL_ofL]
    simp [bitsL]
  | d + 1, k, acc, h1, h2 => by
    obtain ⟨k, rfl⟩ : ∃ q, k = q + 1 := ⟨k - 1, by omega⟩
    have e0 : ((d + 1 : Nat) : Int) - 1 = (d : Int) := by omega
    rw [e0, plaitingref1_Bits.l0, wrap_u64 (d : Int) (by omega) (by omega), if_pos (by omega), if_pos (by omega), shr_eq n d (by omega), w64 (x := (d : Int) - 1) (by omega) (by omega)]
    have hs : ∀ x : UInt8, (acc ++ (⟨#[x]⟩ : ByteArray)).size = acc.size + 1 := fun x => by rw [ByteArray.size_append]; rfl
    have hb : ∀ x : UInt8, (acc ++ (⟨#[x]⟩ : ByteArray)) ++ ofL (bitsL n d) = acc ++ ofL (x :: bitsL n d) := fun x => toL_inj (by rw [toL_append, toL_append, toL_append, toL_ofL, toL_ofL, List.append_assoc]; rfl)
    rw [bitsL_succ]
    by_cases hq : Go.bits .and .i64 (n / 2 ^ d) 1 = 1
    · have hB : bitB n d = true := beq_iff_eq.2 hq
      rw [if_pos hq, if_pos (by omega), r1_bits_loop n d k _ (by rw [hs]; omega) (by omega), hb, if_pos hB]
    · have hB : ¬ bitB n d = true := fun h => hq (beq_iff_eq.1 h)
      rw [if_neg hq, if_pos (by omega), r1_bits_loop n d k _ (by rw [hs]; omega) (by omega), hb, if_neg hB]
theorem r1_Bits_eq (k : Nat) (n : Int) (size : Nat) (h0 : 1 ≤ size) (hs : size ≤ 62) : plaitingref1_Bits.f (k + 70) n (size : Int) = some (ofL (bitsL n size)) := by
  unfold plaitingref1_Bits.f
  rw [if_neg (by omega), decide_eq_false (by omega), show k + 70 = (k + 69) + 1 from rfl, plaitingref1_Bits.j0, if_neg (by decide), w64 (by omega) (by omega), r1_bits_loop n size (k + 69) _ (by show 0 + size ≤ 62; omega) (by omega)]
  refine congrArg some (toL_inj ?_)
  rw [toL_append]
  rfl
end Go.Proofs.Ytcpohmfkmgcjkaa.P
