/- Proves LaneThree: of any three texts that the raw inputs make, compared in any order, what is left is the front that all have (no condition on the inputs). -/
import Derived.Test.YtdkbalaphblobaaLane
import Derived.Test.YtdkbalaphblobaaPx26
namespace Go.Proofs.Ytdkbalaphblobaa.Pure
open Go.RowKit Go.Proofs.Ytdkbalaphblobaa.P Go.Proofs.YtdkbalaphblobaaW.PrintWords Go.Proofs.YtdkbalaphblobaaW.PrintLast
theorem LaneThree : plaitinglaw7_LaneThree.Pure := by
  intro l0 l1 l2 l3 h0 _ _ h1 _ _ h2 _ _ h3 _ _
  refine ⟨1000, ?_⟩
  unfold plaitinglaw7_LaneThree.f
  rw [lane_known]
  simp only [Option.bind_some, if_true]
  rw [text_eq _ l3 h3 (by omega), Option.bind_some, text_eq _ l0 h0 (by omega), Option.bind_some]
  have a0 := text_sz l0
  have a1 := text_sz l1
  have a2 := text_sz l2
  have a3 := text_sz l3
  rw [if_pos (by omega), text_eq _ l1 h1 (by omega), Option.bind_some, if_pos (by omega), text_eq _ l2 h2 (by omega), Option.bind_some, if_pos (by omega)]
  have hA := text_app 0 l3 l0
  have hB := text_app 0 l3 l1
  have hC := text_app 0 l3 l2
  generalize ofL (textL l3) ++ ofL (textL l0) = A at *
  generalize ofL (textL l3) ++ ofL (textL l1) = B at *
  generalize ofL (textL l3) ++ ofL (textL l2) = C at *
  have sz : ∀ (X Y : ByteArray), X.size ≤ 160 → (ofL (laneSpec true (toL X) (toL Y))).size ≤ 160 := by
    intro X Y h
    rw [ofL_size]
    have := (spec_front_l true (toL X) (toL Y)).length_le
    rw [toL_length] at this
    omega
  have hc : ∀ X Y : List UInt8, cleanL (laneSpec true X Y) = laneSpec true X Y := fun X Y => cleanL_common X Y
  have s1 := sz A B hA
  have s2 := sz B C hB
  have s3 := sz C A hC
  have c1 := cleanL_length (toL A)
  have c2 := cleanL_length (toL B)
  rw [toL_length] at c1 c2
  have t1 : laneSpec true (laneSpec true (toL A) (toL B)) (toL C) = commonL (commonL (cleanL (toL A)) (cleanL (toL B))) (cleanL (toL C)) := by
    show commonL (cleanL _) (cleanL _) = _
    rw [hc]; rfl
  have t2 : laneSpec true (toL A) (laneSpec true (toL B) (toL C)) = commonL (cleanL (toL A)) (commonL (cleanL (toL B)) (cleanL (toL C))) := by
    show commonL (cleanL _) (cleanL _) = _
    rw [hc]; rfl
  have t3 : laneSpec true (laneSpec true (toL C) (toL A)) (toL B) = commonL (commonL (cleanL (toL C)) (cleanL (toL A))) (cleanL (toL B)) := by
    show commonL (cleanL _) (cleanL _) = _
    rw [hc]; rfl
  rw [lane_Out_eq true A B (by omega), Option.bind_some, lane_Out_eq true _ C (by omega), Option.bind_some, lane_Out_eq true B C (by omega), Option.bind_some, lane_Out_eq true A _ (by omega), Option.bind_some, toL_ofL, toL_ofL, t1, t2, commonL_assoc, if_pos rfl,
    lane_Out_eq true C A (by omega), Option.bind_some, lane_Out_eq true _ B (by omega), Option.bind_some, toL_ofL, t3]
  have e3 : commonL (commonL (cleanL (toL C)) (cleanL (toL A))) (cleanL (toL B)) = commonL (cleanL (toL A)) (commonL (cleanL (toL B)) (cleanL (toL C))) := by
    rw [commonL_assoc, commonL_comm, commonL_assoc]
  rw [e3, if_pos rfl, clean_eq _ A (by omega) (by omega), Option.bind_some, clean_eq _ B (by omega) (by omega), Option.bind_some, clean_eq _ C (by omega) (by omega), Option.bind_some,
    common_eq _ _ _ (by rw [ofL_size]; omega) (by rw [ofL_size]; omega), Option.bind_some, toL_ofL, toL_ofL, common_eq _ _ _ (by rw [ofL_size]; omega) (by rw [ofL_size]; omega), Option.bind_some, toL_ofL, toL_ofL]
  simp

end Go.Proofs.Ytdkbalaphblobaa.Pure
