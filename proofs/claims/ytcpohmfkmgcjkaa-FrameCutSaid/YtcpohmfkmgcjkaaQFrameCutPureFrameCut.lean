/- Proves FrameCut: no front of a made frame's text but itself is a frame's, nor is it with a symbol behind (no condition on the inputs). -/
import Derived.Test.YtcpohmfkmgcjkaaQFrameCutReads
import Derived.Test.YtcpohmfkmgcjkaaQFrameCutPx24
namespace Go.Proofs.Ytcpohmfkmgcjkaa.Pure
open Go.RowKit Go.Proofs.Ytcpohmfkmgcjkaa.P Go.Proofs.YtcpohmfkmgcjkaaW.PrintWords Go.Proofs.YtcpohmfkmgcjkaaW.PrintLast
theorem not_whole_front (b : List UInt8) (hb : ∀ c ∈ b, isBit c = true) (t : Nat) (ht : t < (b ++ [35]).length) : wholeL ((b ++ [35]).take t) = false := by
  rw [Bool.eq_false_iff]
  intro hw
  obtain ⟨b2, e, h2⟩ := (wholeL_iff _).1 hw
  have := take_bits rfl hb t ht 35 (by rw [e]; simp)
  exact absurd this (by decide)
theorem not_whole_more (b : List UInt8) (c : UInt8) : wholeL ((b ++ [35]) ++ [c]) = false := by
  rw [Bool.eq_false_iff]
  intro hw
  obtain ⟨b2, e, h2⟩ := (wholeL_iff _).1 hw
  have e2 := (List.append_inj' e rfl).1
  have := h2 35 (by rw [← e2]; simp)
  exact absurd this (by decide)
theorem read_not_whole (n pi e g f : Int) (ps : List Int) (l : List UInt8) (h : wholeL l = false) : readL n pi e g f ps l = readE 4 := by
  have ho : openL l = ([], 4) := by
    unfold openL
    rw [if_neg (by rw [h]; decide)]
  unfold readL
  rw [ho, if_neg (by decide)]
def moreSyms : List ByteArray := [(⟨#[48]⟩ : ByteArray), (⟨#[49]⟩ : ByteArray), (⟨#[35]⟩ : ByteArray), (⟨#[46]⟩ : ByteArray)]
theorem moreSyms_one : ∀ n, n < 4 → ∃ c, rdOf ByteArray.empty moreSyms ((n : Nat) : Int) = ofL [c]
  | 0, _ => ⟨48, rfl⟩
  | 1, _ => ⟨49, rfl⟩
  | 2, _ => ⟨35, rfl⟩
  | 3, _ => ⟨46, rfl⟩
theorem FrameCut : plaitinglaw5_FrameCut.Pure := by
  intro N Pi E G F l b0 b1 b2 b3 b4 lb l2 a3 a4 _ _ _ _ _ hl _ _ _ _ _ _ hl2 _ _ _ _
  obtain ⟨n, pi, e, g, f, ps, hm, hk, _⟩ := make_eq 0 N Pi E G F l hl.1
  obtain ⟨K, R, S, P, V, echo, hM, hkM⟩ := make5_eq hm b0 b1 b2 b3 b4 lb l2 hl2
  clear hl2 hl
  obtain ⟨n1, n2, e1, e2, g1, g2, p1, p2, f1, f2, l1, l3⟩ := hm
  have hlen : echo.length ≤ 15 := by rw [hM.len]; split <;> omega
  have hT : frame_Text.f n pi e g f ps K R S P V echo = some (ofL (wrapL (frameBits K R S P V echo))) := by
    unfold frame_Text.f
    rw [if_pos (by omega)]
  have hs : (wrapL (frameBits K R S P V echo)).length = 51 + 10 * echo.length := by rw [wrapL_length, frameBits_length]; omega
  refine ⟨401, ?_⟩
  unfold plaitinglaw5_FrameCut.f
  rw [known5, Option.bind_some, if_pos rfl, show (401 : Nat) = 395 + 6 from rfl, hk 395, Option.bind_some]
  show ((plaitinglaw5_Make.f (341 + 60) n pi e g f ps b0 b1 b2 b3 b4 lb l2).bind _) = _
  rw [hkM 341, Option.bind_some]
  show ((frame_Text.f n pi e g f ps K R S P V echo).bind _) = _
  rw [hT, Option.bind_some, ofL_size, hs]
  have hm1 := mod_bounds a3 ((51 + 10 * echo.length : Nat) : Int) (by omega)
  have hm2 := mod_bounds a4 4 (by decide)
  rw [l5_within a3 _ (by omega) (by omega), Option.bind_some, if_pos hm1.1, if_pos (by omega), extract_ofL, toL_ofL]
  obtain ⟨t, ht⟩ := Int.eq_ofNat_of_zero_le hm1.1
  obtain ⟨m, hm4⟩ := Int.eq_ofNat_of_zero_le hm2.1
  rw [ht] at hm1
  rw [hm4] at hm2
  have hbits : ∀ c ∈ frameBits K R S P V echo ++ bitsL (crcL (frameBits K R S P V echo)) 16, isBit c = true := by
    intro c hc
    rcases List.mem_append.1 hc with h | h
    · exact frameBits_bit _ _ _ _ _ _ c h
    · exact bitsL_bit _ _ c h
  have hR1 : frame_Read.f n pi e g f ps (ofL ((wrapL (frameBits K R S P V echo)).take t)) = some (readE 4) := by
    rw [frame_Read_eq n pi e g f ps _ (by omega) (by omega) (by omega) (by rw [ofL_size, List.length_take]; omega), toL_ofL]
    exact congrArg some (read_not_whole n pi e g f ps _ (not_whole_front _ hbits t (by show t < (wrapL (frameBits K R S P V echo)).length; omega)))
  obtain ⟨c, hc⟩ := moreSyms_one m (by omega)
  have hR2 : frame_Read.f n pi e g f ps (ofL (wrapL (frameBits K R S P V echo)) ++ ofL [c]) = some (readE 4) := by
    rw [ofL_append, frame_Read_eq n pi e g f ps _ (by omega) (by omega) (by omega) (by rw [ofL_size, List.length_append, List.length_singleton]; omega), toL_ofL]
    exact congrArg some (read_not_whole n pi e g f ps _ (not_whole_more _ c))
  rw [ht, Int.toNat_natCast]
  show ((frame_Read.f n pi e g f ps (ofL ((wrapL (frameBits K R S P V echo)).take t))).bind _) = _
  rw [hR1, Option.bind_some, Option.bind_some, l5_within a4 4 (by decide) (by decide), Option.bind_some, hm4]
  show (if 0 ≤ (m : Int) then (if (m : Int) < ((4 : Nat) : Int) then (if (51 + 10 * echo.length) + (rdOf ByteArray.empty moreSyms (m : Int)).size ≤ 9223372036854775807 then ((frame_Read.f n pi e g f ps (ofL (wrapL (frameBits K R S P V echo)) ++ rdOf ByteArray.empty moreSyms (m : Int))).bind _) else none) else none) else none) = _
  rw [hc, if_pos (by omega), if_pos (by omega), if_pos (by rw [ofL_size, List.length_singleton]; omega), hR2, Option.bind_some]
  show (some (decide (((51 + 10 * echo.length : Nat) : Int) > 0))) = _
  rw [decide_eq_true (by omega)]
end Go.Proofs.Ytcpohmfkmgcjkaa.Pure
