/- Proves FrameLong: every made frame's text has 51 symbols, ten more for each slot where it says again what was taken, and is whole (no condition on the inputs). -/
import Derived.Test.YtcpohmfkmgcjkaaQFrameLongFrames
import Derived.Test.YtcpohmfkmgcjkaaQFrameLongSyms
import Derived.Test.YtcpohmfkmgcjkaaQFrameLongPx16
namespace Go.Proofs.Ytcpohmfkmgcjkaa.Pure
open Go.RowKit Go.Proofs.Ytcpohmfkmgcjkaa.P Go.Proofs.YtcpohmfkmgcjkaaW.PrintWords Go.Proofs.YtcpohmfkmgcjkaaW.PrintLast
theorem FrameLong : plaitinglaw5_FrameLong.Pure := by
  intro N Pi E G F l b0 b1 b2 b3 b4 lb l2 _ _ _ _ _ hl _ _ _ _ _ _ hl2 _ _
  obtain ⟨n, pi, e, g, f, ps, hm, hk, _⟩ := make_eq 0 N Pi E G F l hl.1
  obtain ⟨K, R, S, P, V, echo, hM, hkM⟩ := make5_eq hm b0 b1 b2 b3 b4 lb l2 hl2
  obtain ⟨n1, n2, e1, e2, g1, g2, p1, p2, f1, f2, l1, l3⟩ := hm
  have hlen : echo.length ≤ 15 := by rw [hM.len]; split <;> omega
  have hT : frame_Text.f n pi e g f ps K R S P V echo = some (ofL (wrapL (frameBits K R S P V echo))) := by
    unfold frame_Text.f
    rw [if_pos (by omega)]
  have hW : ∀ k, plaitingref1_Whole.f (k + 300) (ofL (wrapL (frameBits K R S P V echo))) = some true := by
    intro k
    unfold wrapL
    refine whole_eq _ _ ?_ ?_ ?_
    · rw [List.length_append, frameBits_length, bitsL_length]; omega
    · intro c hc
      rcases List.mem_append.1 hc with h | h
      · exact frameBits_bit _ _ _ _ _ _ c h
      · exact bitsL_bit _ _ c h
    · rw [List.length_append, frameBits_length, bitsL_length]; omega
  refine ⟨401, ?_⟩
  unfold plaitinglaw5_FrameLong.f
  rw [known5, Option.bind_some, if_pos rfl, show (401 : Nat) = 395 + 6 from rfl, hk 395, Option.bind_some]
  show ((plaitinglaw5_Make.f (341 + 60) n pi e g f ps b0 b1 b2 b3 b4 lb l2).bind _) = _
  rw [hkM 341, Option.bind_some]
  have hj : ∀ b, plaitinglaw5_FrameLong.j0 401 51 b n pi e g f ps K R S P V echo = if b = true then (if ((wrapL (frameBits K R S P V echo)).length : Int) = wrap64 (51 + wrap64 (10 * wrap64 (n + (ps.length : Int)))) then some true else some false) else (if ((wrapL (frameBits K R S P V echo)).length : Int) = 51 then some true else some false) := by
    intro b
    rw [plaitinglaw5_FrameLong.j0, hT, Option.bind_some, Option.bind_some, show (400 : Nat) = 100 + 300 from rfl, hW 100, Option.bind_some, ofL_size]
  have hs : (wrapL (frameBits K R S P V echo)).length = 51 + 10 * echo.length := by rw [wrapL_length, frameBits_length]; omega
  have w1 : wrap64 (51 + wrap64 (10 * wrap64 (n + (ps.length : Int)))) = 51 + 10 * (n + ps.length) := by
    rw [w64 (x := n + (ps.length : Int)) (by omega) (by omega), w64 (x := 10 * (n + (ps.length : Int))) (by omega) (by omega), w64 (by omega) (by omega)]
  show (if K = 3 then plaitinglaw5_FrameLong.j0 401 51 (decide (S < n)) n pi e g f ps K R S P V echo else plaitinglaw5_FrameLong.j0 401 51 false n pi e g f ps K R S P V echo) = some true
  rw [hj, hj, hs, w1]
  have hL := hM.len
  by_cases h3 : K = 3
  · rw [if_pos h3]
    by_cases hS : S < n
    · rw [decide_eq_true hS, if_pos rfl, if_pos]
      rw [hL, if_pos ⟨h3, hS⟩]
      omega
    · rw [decide_eq_false hS, if_neg (by decide), if_pos]
      rw [hL, if_neg (fun h => hS h.2)]
      rfl
  · rw [if_neg h3, if_neg (by decide), if_pos]
    rw [hL, if_neg (fun h => h3 h.1)]
    rfl
end Go.Proofs.Ytcpohmfkmgcjkaa.Pure
