/- Proves LaneFronts: of any two texts that the raw inputs make, what a compared lane passes on is a front of both, the same whichever is which, and stays if it is passed on once more (no condition on the inputs). -/
import Derived.Test.YtdkbalaphblobaaLane
import Derived.Test.YtdkbalaphblobaaPx25
namespace Go.Proofs.Ytdkbalaphblobaa.Pure
open Go.RowKit Go.Proofs.Ytdkbalaphblobaa.P Go.Proofs.YtdkbalaphblobaaW.PrintWords Go.Proofs.YtdkbalaphblobaaW.PrintLast
theorem LaneFronts : plaitinglaw7_LaneFronts.Pure := by
  intro l0 l1 l2 h0 _ _ h1 _ _ h2 _ _
  refine ⟨1000, ?_⟩
  unfold plaitinglaw7_LaneFronts.f
  rw [lane_known]
  simp only [Option.bind_some, if_true]
  rw [text_eq _ l2 h2 (by omega), Option.bind_some, text_eq _ l0 h0 (by omega), Option.bind_some]
  have a0 := text_sz l0
  have a1 := text_sz l1
  have a2 := text_sz l2
  rw [if_pos (by omega), text_eq _ l1 h1 (by omega), Option.bind_some, if_pos (by omega)]
  have hA := text_app 0 l2 l0
  have hB := text_app 0 l2 l1
  generalize ofL (textL l2) ++ ofL (textL l0) = A at *
  generalize ofL (textL l2) ++ ofL (textL l1) = B at *
  rw [lane_Out_eq true A B (by omega), Option.bind_some]
  have hs : laneSpec true (toL A) (toL B) = commonL (cleanL (toL A)) (cleanL (toL B)) := rfl
  have hAB : laneSpec true (toL B) (toL A) = laneSpec true (toL A) (toL B) := by rw [hs]; exact commonL_comm _ _
  have f1 := spec_front_l true (toL A) (toL B)
  have f2 : laneSpec true (toL A) (toL B) <+: toL B := by rw [← hAB]; exact spec_front_l true _ _
  have hc : cleanL (laneSpec true (toL A) (toL B)) = laneSpec true (toL A) (toL B) := by rw [hs]; exact cleanL_common _ _
  have hsz : (ofL (laneSpec true (toL A) (toL B))).size ≤ 1000 := by
    rw [ofL_size]
    have := f1.length_le
    rw [toL_length] at this
    omega
  have g1 : laneSpec true (laneSpec true (toL A) (toL B)) (laneSpec true (toL A) (toL B)) = laneSpec true (toL A) (toL B) := by
    show commonL (cleanL _) (cleanL _) = _
    rw [hc, commonL_self]
  have g2 : laneSpec true (laneSpec true (toL A) (toL B)) (toL A) = laneSpec true (toL A) (toL B) := by
    show commonL (cleanL _) (cleanL _) = _
    rw [hc]
    exact commonL_of_prefix _ _ (by rw [hs]; exact commonL_left _ _)
  have g3 : laneSpec false (laneSpec true (toL A) (toL B)) (toL B) = laneSpec true (toL A) (toL B) := hc
  have g4 : laneSpec true (toL A) (toL A) = cleanL (toL A) := commonL_self _
  have g5 : laneSpec false (toL A) (toL B) = cleanL (toL A) := rfl
  rw [front_true _ _ (by rw [toL_ofL]; exact f1), Option.bind_some, if_pos rfl, front_true _ _ (by rw [toL_ofL]; exact f2), Option.bind_some, if_pos rfl,
    lane_Out_eq true B A (by omega), Option.bind_some, hAB, if_pos rfl, lane_Out_eq true _ _ (by omega), Option.bind_some, toL_ofL, g1, if_pos rfl, lane_Out_eq true _ A (by omega), Option.bind_some, toL_ofL, g2, if_pos rfl,
    lane_Out_eq false _ B (by omega), Option.bind_some, toL_ofL, g3, if_pos rfl, lane_Out_eq true A A (by omega), Option.bind_some, clean_eq _ A (by omega) (by omega), Option.bind_some, g4, if_pos rfl, lane_Out_eq false A B (by omega), Option.bind_some, g5,
    front_true _ _ (by rw [toL_ofL, toL_ofL, hs]; exact commonL_left _ _)]
  rfl

end Go.Proofs.Ytdkbalaphblobaa.Pure
