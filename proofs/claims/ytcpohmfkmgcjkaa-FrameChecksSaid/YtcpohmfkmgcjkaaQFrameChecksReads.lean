/- Plain lemmas on frames as texts: what frame.Read answers, as a function on lists of bytes; a made frame's text is read as it was. -/
import Derived.Test.YtcpohmfkmgcjkaaQFrameChecksBits
import Derived.Laws.BitsLemmas
import Derived.Test.YtcpohmfkmgcjkaaQFrameChecksFrames
import Derived.Test.YtcpohmfkmgcjkaaQFrameChecksPx1
namespace Go.Proofs.Ytcpohmfkmgcjkaa.P
open Go.RowKit Go.Proofs.YtcpohmfkmgcjkaaW.PrintWords Go.Proofs.YtcpohmfkmgcjkaaW.PrintLast Go.Proofs.YtcpohmfkmgcjkaaW.PrintMore
attribute [local go_sem] max2_int min2_int max_two min_two max_three min_three max_four min_four
set_option linter.unusedVariables false
set_option linter.unusedSimpArgs false
theorem frame_Check_some (n pi e g f : Int) (ps : List Int) (K R S P V : Int) (l : List S26) : ∃ r, frame_Check.f n pi e g f ps K R S P V l = some r := by
  unfold frame_Check.f
  by_cases h1 : S < 0 ∨ wrap64 (n + (ps.length : Int)) ≤ S ∨ R < 0 ∨ 65535 < R
  · exact ⟨1, by rw [if_pos h1]⟩
  · rw [if_neg h1]
    by_cases h2 : K < 1 ∨ 3 < K ∨ (n ≤ S ∧ K ≠ 3)
    · exact ⟨6, by rw [if_pos h2]⟩
    · rw [if_neg h2]
      by_cases h3 : (if K = 3 then itemVal ⟨P, V⟩ else itemEmp ⟨P, V⟩) = false
      · exact ⟨1, by rw [if_pos h3]⟩
      · rw [if_neg h3]
        by_cases h4 : (l.length : Int) ≠ frame_echoesV n ps.length K S
        · exact ⟨2, by rw [if_pos h4]⟩
        · rw [if_neg h4]
          by_cases h5 : l.any (fun x => !itemEmp x && !itemVal x) = true
          · exact ⟨1, by rw [if_pos h5]⟩
          · exact ⟨0, by rw [if_neg h5]⟩
def checkV (n pi e g f : Int) (ps : List Int) (K R S P V : Int) (l : List S26) : Int := (frame_Check.f n pi e g f ps K R S P V l).getD 0
theorem checkV_eq (n pi e g f : Int) (ps : List Int) (K R S P V : Int) (l : List S26) : frame_Check.f n pi e g f ps K R S P V l = some (checkV n pi e g f ps K R S P V l) := by
  obtain ⟨r, hr⟩ := frame_Check_some n pi e g f ps K R S P V l
  unfold checkV
  rw [hr]
  rfl
theorem made_check {n : Int} {K R S P V : Int} {echo : List S26} (pi e g f : Int) {ps : List Int} (h : MadeFrame n ps.length K R S P V echo) (h1 : 0 ≤ n) (h2 : n ≤ 1000) (h3 : ps.length ≤ 1000) : frame_Check.f n pi e g f ps K R S P V echo = some 0 := by
  have hw : wrap64 (n + (ps.length : Int)) = n + ps.length := w64 (by omega) (by omega)
  have a1 := h.k1
  have a2 := h.k2
  have a3 := h.r1
  have a4 := h.r2
  have a5 := h.s1
  have a6 := h.s2
  have a7 := h.pair
  have a8 := h.len
  unfold frame_Check.f
  rw [hw, if_neg (by omega), if_neg (by omega), if_neg, if_neg, if_neg]
  · intro hq
    rw [List.any_eq_true] at hq
    obtain ⟨x, hx, hq⟩ := hq
    have ho := h.ok x hx
    unfold itemOk at ho
    rw [Bool.and_eq_true] at hq
    rw [Bool.or_eq_true] at ho
    rcases ho with ho | ho
    · rw [ho] at hq; exact absurd hq.1 (by decide)
    · rw [ho] at hq; exact absurd hq.2 (by decide)
  · intro hq
    apply hq
    unfold frame_echoesV
    rw [a8, hw]
    by_cases hc : K = 3 ∧ S < n
    · rw [if_pos hc, if_pos hc]; omega
    · rw [if_neg hc, if_neg hc]; rfl
  · by_cases h3 : K = 3
    · rw [if_pos h3, h.pay h3]; decide
    · rw [if_neg h3]
      obtain ⟨rfl, rfl⟩ := h.nopay h3
      decide
end Go.Proofs.Ytcpohmfkmgcjkaa.P
