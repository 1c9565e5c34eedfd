/- Plain lemmas on frames as texts: what frame.Read answers, as a function on lists of bytes; a made frame's text is read as it was. -/
import Derived.Test.YtcpohmfkmgcjkaaQFramePlacesSums
import Derived.Test.YtcpohmfkmgcjkaaQFramePlacesFrames
import Derived.Test.YtcpohmfkmgcjkaaQFramePlacesPx1
import Derived.Laws.BitsLemmas
namespace Go.Proofs.Ytcpohmfkmgcjkaa.P
open Go.RowKit Go.Proofs.YtcpohmfkmgcjkaaW.PrintWords Go.Proofs.YtcpohmfkmgcjkaaW.PrintLast Go.Proofs.YtcpohmfkmgcjkaaW.PrintMore
attribute [local go_sem] max2_int min2_int max_two min_two max_three min_three max_four min_four
set_option linter.unusedVariables false
set_option linter.unusedSimpArgs false
theorem frameBits_parts (K R S P V : Int) (l : List S26) :
    (frameBits K R S P V l).take 2 = bitsL K 2 ∧ ((frameBits K R S P V l).drop 2).take 16 = bitsL R 16 ∧ ((frameBits K R S P V l).drop 18).take 6 = bitsL S 6 ∧ ((frameBits K R S P V l).drop 24).take 2 = bitsL P 2 ∧ ((frameBits K R S P V l).drop 26).take 8 = bitsL V 8 ∧ (frameBits K R S P V l).drop 34 = l.flatMap frameItemL := by
  have e : frameBits K R S P V l = bitsL K 2 ++ (bitsL R 16 ++ (bitsL S 6 ++ (bitsL P 2 ++ (bitsL V 8 ++ l.flatMap frameItemL)))) := by
    unfold frameBits
    simp only [List.append_assoc]
  have d2 : (frameBits K R S P V l).drop 2 = bitsL R 16 ++ (bitsL S 6 ++ (bitsL P 2 ++ (bitsL V 8 ++ l.flatMap frameItemL))) := by rw [e, List.drop_left' (bitsL_length _ _)]
  have d18 : (frameBits K R S P V l).drop 18 = bitsL S 6 ++ (bitsL P 2 ++ (bitsL V 8 ++ l.flatMap frameItemL)) := by rw [show 18 = 2 + 16 from rfl, ← List.drop_drop, d2, List.drop_left' (bitsL_length _ _)]
  have d24 : (frameBits K R S P V l).drop 24 = bitsL P 2 ++ (bitsL V 8 ++ l.flatMap frameItemL) := by rw [show 24 = 18 + 6 from rfl, ← List.drop_drop, d18, List.drop_left' (bitsL_length _ _)]
  have d26 : (frameBits K R S P V l).drop 26 = bitsL V 8 ++ l.flatMap frameItemL := by rw [show 26 = 24 + 2 from rfl, ← List.drop_drop, d24, List.drop_left' (bitsL_length _ _)]
  refine ⟨?_, ?_, ?_, ?_, ?_, ?_⟩
  · rw [e, List.take_left' (bitsL_length _ _)]
  · rw [d2, List.take_left' (bitsL_length _ _)]
  · rw [d18, List.take_left' (bitsL_length _ _)]
  · rw [d24, List.take_left' (bitsL_length _ _)]
  · rw [d26, List.take_left' (bitsL_length _ _)]
  · rw [show 34 = 26 + 8 from rfl, ← List.drop_drop, d26, List.drop_left' (bitsL_length _ _)]
end Go.Proofs.Ytcpohmfkmgcjkaa.P
