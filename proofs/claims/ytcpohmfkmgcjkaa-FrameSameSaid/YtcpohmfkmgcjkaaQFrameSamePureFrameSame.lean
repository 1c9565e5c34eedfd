/- Proves FrameSame: two made frames are the same just where their texts are, and as the document says; a frame is the same as itself (no condition on the inputs). -/
import Derived.Test.YtcpohmfkmgcjkaaQFrameSameRefs
import Derived.Test.YtcpohmfkmgcjkaaQFrameSamePx18
namespace Go.Proofs.Ytcpohmfkmgcjkaa.Pure
open Go.RowKit Go.Proofs.Ytcpohmfkmgcjkaa.P Go.Proofs.YtcpohmfkmgcjkaaW.PrintWords Go.Proofs.YtcpohmfkmgcjkaaW.PrintLast
theorem FrameSame : plaitinglaw5_FrameSame.Pure := by
  intro N Pi E G F l b0 b1 b2 b3 b4 lb d0 d1 d2 d3 d4 ld l2 l4 _ _ _ _ _ hl _ _ _ _ _ _ _ _ _ _ _ _ hl2 _ _ hl4 _ _
  obtain ⟨n, pi, e, g, f, ps, hm, hk, _⟩ := make_eq 0 N Pi E G F l hl.1
  obtain ⟨K, R, S, P, V, echo, hM, hkM⟩ := make5_eq hm b0 b1 b2 b3 b4 lb l2 hl2
  obtain ⟨K2, R2, S2, P2, V2, echo2, hM2, hkM2⟩ := make5_eq hm d0 d1 d2 d3 d4 ld l4 hl4
  clear hl2 hl hl4
  obtain ⟨n1, n2, e1, e2, g1, g2, p1, p2, f1, f2, l1, l3⟩ := hm
  have hlen : echo.length ≤ 15 := by rw [hM.len]; split <;> omega
  have hlen2 : echo2.length ≤ 15 := by rw [hM2.len]; split <;> omega
  have hT : ∀ K R S P V, ∀ echo : List S26, echo.length ≤ 15 → frame_Text.f n pi e g f ps K R S P V echo = some (ofL (wrapL (frameBits K R S P V echo))) := by
    intro K R S P V echo h
    unfold frame_Text.f
    rw [if_pos (by omega)]
  have hS1 := frame_Same_eq K R S P V echo K2 R2 S2 P2 V2 echo2 (by omega) 401 (by omega)
  have hS2 := frame_Same_eq K R S P V echo K R S P V echo (by omega) 401 (by omega)
  have hS3 := ref5_Same_eq K R S P V echo K2 R2 S2 P2 V2 echo2 (by omega) 401 (by omega)
  have hself : sameF K R S P V echo K R S P V echo = true := (sameF_iff ..).2 ⟨rfl, rfl, rfl, rfl, rfl, rfl⟩
  have hq : (sameF K R S P V echo K2 R2 S2 P2 V2 echo2 == ((ofL (wrapL (frameBits K R S P V echo))).toList == (ofL (wrapL (frameBits K2 R2 S2 P2 V2 echo2))).toList)) = true := by
    rw [beq_iff_eq, toL_of, toL_of, toL_ofL, toL_ofL, Bool.eq_iff_iff, sameF_iff, beq_iff_eq]
    constructor
    · rintro ⟨rfl, rfl, rfl, rfl, rfl, rfl⟩; rfl
    · intro h
      exact frameBits_inj hM hM2 (by omega) (wrapL_inj h)
  refine ⟨401, ?_⟩
  unfold plaitinglaw5_FrameSame.f
  rw [known5, Option.bind_some, if_pos rfl, show (401 : Nat) = 395 + 6 from rfl, hk 395, Option.bind_some]
  show ((plaitinglaw5_Make.f (341 + 60) n pi e g f ps b0 b1 b2 b3 b4 lb l2).bind _) = _
  rw [hkM 341, Option.bind_some]
  show ((plaitinglaw5_Make.f (341 + 60) n pi e g f ps d0 d1 d2 d3 d4 ld l4).bind _) = _
  rw [hkM2 341, Option.bind_some]
  show ((frame_Text.f n pi e g f ps K R S P V echo).bind _) = _
  rw [hT _ _ _ _ _ _ hlen, Option.bind_some]
  show ((frame_Text.f n pi e g f ps K2 R2 S2 P2 V2 echo2).bind _) = _
  rw [hT _ _ _ _ _ _ hlen2, Option.bind_some]
  show ((frame_Same.f 401 K R S P V echo K2 R2 S2 P2 V2 echo2).bind _) = _
  rw [hS1, Option.bind_some, if_pos hq, Option.bind_some]
  show ((plaitingref5_Same.f 401 K R S P V echo K2 R2 S2 P2 V2 echo2).bind _) = _
  rw [hS3, Option.bind_some, if_pos (by exact beq_self_eq_true _)]
  show ((frame_Same.f 401 K R S P V echo K R S P V echo).bind _) = _
  rw [hS2, Option.bind_some, hself]
end Go.Proofs.Ytcpohmfkmgcjkaa.Pure
