/- Proves LaneOut: of any two of the texts that the raw inputs make, compared or not, what lane.Out passes on is the reference's (no condition on the inputs). -/
import Derived.Test.YtdkbalaphblobaaLane
import Derived.Test.YtdkbalaphblobaaPx23
namespace Go.Proofs.Ytdkbalaphblobaa.Pure
open Go.RowKit Go.Proofs.Ytdkbalaphblobaa.P Go.Proofs.YtdkbalaphblobaaW.PrintWords Go.Proofs.YtdkbalaphblobaaW.PrintLast
theorem rdOf_mem (xs : List ByteArray) (i : Int) (h0 : 0 ≤ i) (h1 : i < (xs.length : Int)) : rdOf ByteArray.empty xs i ∈ xs := by
  have hi : i.toNat < xs.length := by omega
  unfold rdOf
  rw [List.getD_eq_getElem?_getD, List.getElem?_eq_getElem hi]
  exact List.getElem_mem hi
theorem out_inner (cmp : Bool) (xs : List ByteArray) (hx : ∀ s ∈ xs, s.size ≤ 250) (hn : xs.length ≤ 10) (i : Nat) (hi : i < xs.length) : ∀ d (k j : Nat), xs.length - j = d → 300 ≤ k → plaitinglaw7_LaneOut.l1 (k + d + 1) cmp xs (i : Int) (j : Int) = plaitinglaw7_LaneOut.l0 k cmp xs ((i + 1 : Nat) : Int) := by
  intro d
  induction d with
  | zero =>
    intro k j h1 h2
    rw [plaitinglaw7_LaneOut.l1, if_neg (by omega), w64 (by omega) (by omega)]
    rfl
  | succ d ih =>
    intro k j h1 h2
    have s1 := hx _ (rdOf_mem xs i (by omega) (by omega))
    have s2 := hx _ (rdOf_mem xs j (by omega) (by omega))
    rw [show k + (d + 1) + 1 = (k + d + 1) + 1 from by omega, plaitinglaw7_LaneOut.l1, if_pos (by omega), if_pos (by omega), if_pos (by omega), if_pos (by omega), lane_Out_eq _ _ _ (by omega), Option.bind_some, ref7_Out_eq _ _ _ _ (by omega) (by omega) (by omega) (by omega), Option.bind_some, if_pos rfl, w64 (by omega) (by omega), show (j : Int) + 1 = ((j + 1 : Nat) : Int) from by omega]
    exact ih k (j + 1) (by omega) h2
theorem out_outer (cmp : Bool) (xs : List ByteArray) (hx : ∀ s ∈ xs, s.size ≤ 250) (hn : xs.length ≤ 10) : ∀ d (k i : Nat), xs.length - i = d → 300 ≤ k → plaitinglaw7_LaneOut.l0 (k + d * (xs.length + 2) + 1) cmp xs (i : Int) = some true := by
  intro d
  induction d with
  | zero =>
    intro k i h1 h2
    rw [plaitinglaw7_LaneOut.l0, if_neg (by omega)]
  | succ d ih =>
    intro k i h1 h2
    rw [plaitinglaw7_LaneOut.l0, if_pos (by omega)]
    have h := out_inner cmp xs hx hn i (by omega) xs.length (k + d * (xs.length + 2) + 1) 0 (by omega) (by omega)
    rw [show k + (d + 1) * (xs.length + 2) = k + d * (xs.length + 2) + 1 + xs.length + 1 from by rw [Nat.succ_mul]; omega]
    have h' : plaitinglaw7_LaneOut.l1 (k + d * (xs.length + 2) + 1 + xs.length + 1) cmp xs (i : Int) 0 = _ := h
    rw [h']
    exact ih k (i + 1) (by omega) h2
theorem LaneOut : plaitinglaw7_LaneOut.Pure := by
  intro l0 l1 l2 raw cmp h0 _ _ h1 _ _ h2 _ _ _
  refine ⟨300 + 5 * 7 + 1, ?_⟩
  unfold plaitinglaw7_LaneOut.f
  rw [lane_known]
  simp only [Option.bind_some, if_true]
  by_cases hr : (raw.size : Int) > 200
  · rw [if_pos hr]
  · rw [if_neg hr, text_eq _ l2 h2 (by omega), Option.bind_some, text_eq _ l0 h0 (by omega), Option.bind_some]
    have a0 := text_sz l0
    have a1 := text_sz l1
    have a2 := text_sz l2
    rw [if_pos (by omega), text_eq _ l1 h1 (by omega), Option.bind_some, if_pos (by omega)]
    refine out_outer cmp [_, _, _, _, _] ?_ (by simp) 5 300 0 rfl (by omega)
    intro s hs
    simp only [List.mem_cons, List.not_mem_nil, or_false] at hs
    rcases hs with rfl | rfl | rfl | rfl | rfl
    · rw [ByteArray.size_append]; omega
    · rw [ByteArray.size_append]; omega
    · omega
    · omega
    · decide

end Go.Proofs.Ytdkbalaphblobaa.Pure
