/- Proves FrameBack: a made frame's text is the document's, and is read as the frame was (no condition on the inputs). -/
import Derived.Test.YtcpohmfkmgcjkaaQFrameBackRefs
import Derived.Test.YtcpohmfkmgcjkaaQFrameBackPx27
namespace Go.Proofs.Ytcpohmfkmgcjkaa.Pure
open Go.RowKit Go.Proofs.Ytcpohmfkmgcjkaa.P Go.Proofs.YtcpohmfkmgcjkaaW.PrintWords Go.Proofs.YtcpohmfkmgcjkaaW.PrintLast
theorem FrameBack : plaitinglaw5_FrameBack.Pure := by
  intro N Pi E G F l b0 b1 b2 b3 b4 lb l2 _ _ _ _ _ hl _ _ _ _ _ _ hl2 _ _
  obtain ⟨n, pi, e, g, f, ps, hm, hk, _⟩ := make_eq 0 N Pi E G F l hl.1
  obtain ⟨K, R, S, P, V, echo, hM, hkM⟩ := make5_eq hm b0 b1 b2 b3 b4 lb l2 hl2
  clear hl2 hl
  obtain ⟨n1, n2, e1, e2, g1, g2, p1, p2, f1, f2, l1, l3⟩ := hm
  have hlen : echo.length ≤ 15 := by rw [hM.len]; split <;> omega
  have hs : (wrapL (frameBits K R S P V echo)).length = 51 + 10 * echo.length := by rw [wrapL_length, frameBits_length]; omega
  have hT : frame_Text.f n pi e g f ps K R S P V echo = some (ofL (wrapL (frameBits K R S P V echo))) := by
    unfold frame_Text.f
    rw [if_pos (by omega)]
  have hR : frame_Read.f n pi e g f ps (ofL (wrapL (frameBits K R S P V echo))) = some (K, R, S, P, V, echo, 0) := by
    rw [frame_Read_eq n pi e g f ps _ (by omega) (by omega) (by omega) (by rw [ofL_size]; omega), toL_ofL, readL_made pi e g f hM (by omega) (by omega)]
  have hX := r5_Text_eq 40001 n pi e g f ps K R S P V echo (by omega) (by omega)
  have hS2 := frame_Same_eq K R S P V echo K R S P V echo (by omega) 40001 (by omega)
  have hS3 := ref5_Same_eq K R S P V echo K R S P V echo (by omega) 40001 (by omega)
  have hself : sameF K R S P V echo K R S P V echo = true := (sameF_iff ..).2 ⟨rfl, rfl, rfl, rfl, rfl, rfl⟩
  rw [hself] at hS2 hS3
  refine ⟨40001, ?_⟩
  unfold plaitinglaw5_FrameBack.f
  rw [known5, Option.bind_some, if_pos rfl, show (40001 : Nat) = 39995 + 6 from rfl, hk 39995, Option.bind_some]
  show ((plaitinglaw5_Make.f (39941 + 60) n pi e g f ps b0 b1 b2 b3 b4 lb l2).bind _) = _
  rw [hkM 39941, Option.bind_some]
  show ((frame_Text.f n pi e g f ps K R S P V echo).bind _) = _
  rw [hT, Option.bind_some]
  show ((frame_Read.f n pi e g f ps (ofL (wrapL (frameBits K R S P V echo)))).bind _) = _
  rw [hR, Option.bind_some]
  show ((plaitingref5_Text.f 40001 n pi e g f ps K R S P V echo).bind _) = _
  rw [hX, Option.bind_some, if_pos rfl]
  show (if (0 : Int) = 0 then ((plaitingref5_Same.f 40001 K R S P V echo K R S P V echo).bind _) else _) = _
  rw [if_pos rfl, hS3, Option.bind_some, if_pos rfl]
  show ((frame_Same.f 40001 K R S P V echo K R S P V echo).bind _) = _
  rw [hS2, Option.bind_some]
end Go.Proofs.Ytcpohmfkmgcjkaa.Pure
