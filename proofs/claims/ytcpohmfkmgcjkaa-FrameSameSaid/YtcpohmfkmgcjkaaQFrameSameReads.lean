/- Plain lemmas on frames as texts: what frame.Read answers, as a function on lists of bytes; a made frame's text is read as it was. -/
import Derived.Test.YtcpohmfkmgcjkaaQFrameSameSums
import Derived.Test.YtcpohmfkmgcjkaaQFrameSameFrames
import Derived.Test.YtcpohmfkmgcjkaaQFrameSamePx1
import Derived.Laws.BitsLemmas
namespace Go.Proofs.Ytcpohmfkmgcjkaa.P
open Go.RowKit Go.Proofs.YtcpohmfkmgcjkaaW.PrintWords Go.Proofs.YtcpohmfkmgcjkaaW.PrintLast Go.Proofs.YtcpohmfkmgcjkaaW.PrintMore
attribute [local go_sem] max2_int min2_int max_two min_two max_three min_three max_four min_four
set_option linter.unusedVariables false
set_option linter.unusedSimpArgs false
theorem itemVal_cases {a b : Int} (h : itemVal ⟨a, b⟩ = true) : (a = 1 ∧ b = 0) ∨ (a = 2 ∧ 0 ≤ b ∧ b ≤ 255) := by
  unfold itemVal at h
  simp only [Bool.or_eq_true, Bool.and_eq_true, beq_iff_eq, decide_eq_true_eq] at h
  exact h
theorem itemOk_cases {x : S26} (h : itemOk x = true) : 0 ≤ x.f0 ∧ x.f0 ≤ 2 ∧ 0 ≤ x.f1 ∧ x.f1 ≤ 255 := by
  obtain ⟨a, b⟩ := x
  unfold itemOk itemEmp at h
  simp only [Bool.or_eq_true, Bool.and_eq_true, beq_iff_eq] at h
  show 0 ≤ a ∧ a ≤ 2 ∧ 0 ≤ b ∧ b ≤ 255
  rcases h with h | h
  · omega
  · rcases itemVal_cases h with h | h <;> omega
theorem made_bounds {n : Int} {np : Nat} {K R S P V : Int} {echo : List S26} (h : MadeFrame n np K R S P V echo) : 0 ≤ P ∧ P ≤ 2 ∧ 0 ≤ V ∧ V ≤ 255 := by
  by_cases h3 : K = 3
  · rcases itemVal_cases (h.pay h3) with h | h <;> omega
  · have := h.nopay h3
    omega
theorem frameBits_parts (K R S P V : Int) (l : List S26) :
    (frameBits K R S P V l).take 2 = bitsL K 2 ∧ ((frameBits K R S P V l).drop 2).take 16 = bitsL R 16 ∧ ((frameBits K R S P V l).drop 18).take 6 = bitsL S 6 ∧ ((frameBits K R S P V l).drop 24).take 2 = bitsL P 2 ∧ ((frameBits K R S P V l).drop 26).take 8 = bitsL V 8 ∧ (frameBits K R S P V l).drop 34 = l.flatMap frameItemL := by
  have e : frameBits K R S P V l = bitsL K 2 ++ (bitsL R 16 ++ (bitsL S 6 ++ (bitsL P 2 ++ (bitsL V 8 ++ l.flatMap frameItemL)))) := by
    unfold frameBits
    simp only [List.append_assoc]
  have d2 : (frameBits K R S P V l).drop 2 = bitsL R 16 ++ (bitsL S 6 ++ (bitsL P 2 ++ (bitsL V 8 ++ l.flatMap frameItemL))) := by rw [e, List.drop_left' (bitsL_length _ _)]
  have d18 : (frameBits K R S P V l).drop 18 = bitsL S 6 ++ (bitsL P 2 ++ (bitsL V 8 ++ l.flatMap frameItemL)) := by rw [show 18 = 2 + 16 from rfl, ← List.drop_drop, d2, List.drop_left' (bitsL_length _ _)]
  have d24 : (frameBits K R S P V l).drop 24 = bitsL P 2 ++ (bitsL V 8 ++ l.flatMap frameItemL) := by rw [show 24 = 18 + 6 from rfl, ← List.drop_drop, d18, List.drop_left' (bitsL_length _ _)]
  have d26 : (frameBits K R S P V l).drop 26 = bitsL V 8 ++ l.flatMap frameItemL := by rw [show 26 = 24 + 2 from rfl, ← List.drop_drop, d24, List.drop_left' (bitsL_length _ _)]
  refine ⟨?_, ?_, ?_, ?_, ?_, ?_⟩
  · rw [e, List.take_left' (bitsL_length _ _)]
  · rw [d2, List.take_left' (bitsL_length _ _)]
  · rw [d18, List.take_left' (bitsL_length _ _)]
  · rw [d24, List.take_left' (bitsL_length _ _)]
  · rw [d26, List.take_left' (bitsL_length _ _)]
  · rw [show 34 = 26 + 8 from rfl, ← List.drop_drop, d26, List.drop_left' (bitsL_length _ _)]
theorem made_nums {n : Int} {np : Nat} {K R S P V : Int} {echo : List S26} (h : MadeFrame n np K R S P V echo) (h2 : n + np ≤ 63) : numL (bitsL K 2) = K ∧ numL (bitsL R 16) = R ∧ numL (bitsL S 6) = S ∧ numL (bitsL P 2) = P ∧ numL (bitsL V 8) = V := by
  have hb := made_bounds h
  have a1 := h.k1
  have a2 := h.k2
  have a3 := h.r1
  have a4 := h.r2
  have a5 := h.s1
  have a6 := h.s2
  exact ⟨numL_bitsL K 2 (by omega) (by omega) (by decide), numL_bitsL R 16 (by omega) (by omega) (by decide), numL_bitsL S 6 (by omega) (by omega) (by decide), numL_bitsL P 2 (by omega) (by omega) (by decide), numL_bitsL V 8 (by omega) (by omega) (by decide)⟩
theorem frameItemL_inj {x y : S26} (hx : itemOk x = true) (hy : itemOk y = true) (h : frameItemL x = frameItemL y) : x = y := by
  have bx := itemOk_cases hx
  have by_ := itemOk_cases hy
  unfold frameItemL at h
  obtain ⟨e1, e2⟩ := List.append_inj h (by rw [bitsL_length, bitsL_length])
  obtain ⟨a, b⟩ := x
  obtain ⟨c, d⟩ := y
  have h1 : a = c := bitsL_inj (by decide) (by dsimp only at bx; omega) (by dsimp only at bx; omega) (by dsimp only at by_; omega) (by dsimp only at by_; omega) e1
  have h2 : b = d := bitsL_inj (by decide) (by dsimp only at bx; omega) (by dsimp only at bx; omega) (by dsimp only at by_; omega) (by dsimp only at by_; omega) e2
  rw [h1, h2]
end Go.Proofs.Ytcpohmfkmgcjkaa.P
