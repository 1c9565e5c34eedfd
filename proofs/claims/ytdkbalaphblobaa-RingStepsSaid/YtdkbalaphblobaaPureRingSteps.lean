/- Proves RingSteps: for all whole numbers n, a, b and each direction, as many steps as Dist tells lead from one node to the other, and both ways round together are the ring (no condition on the inputs). -/
import Derived.Test.YtdkbalaphblobaaRing
import Derived.Test.YtdkbalaphblobaaPx3
namespace Go.Proofs.Ytdkbalaphblobaa.Pure
open Go.RowKit Go.Proofs.Ytdkbalaphblobaa.P Go.Proofs.YtdkbalaphblobaaW.PrintWords Go.Proofs.YtdkbalaphblobaaW.PrintLast
theorem RingSteps : plaitinglaw4_RingSteps.Pure := by
  intro a b c up _ _ _
  refine ⟨2, ?_⟩
  have hn := mod_bounds a 7 (by decide)
  unfold plaitinglaw4_RingSteps.f
  rw [ring_known]
  simp only [Option.bind_some, if_true]
  rw [ring_within a 7 (by decide) (by decide)]
  simp only [Option.bind_some]
  obtain ⟨n, hnn, hn1, hn2⟩ : ∃ n, wrap64 (6 + a % 7) = n ∧ 6 ≤ n ∧ n ≤ 12 := ⟨_, rfl, by rw [w64 (by omega) (by omega)]; omega, by rw [w64 (by omega) (by omega)]; omega⟩
  rw [hnn, ring_within b n (by omega) (by omega), Option.bind_some, ring_within c n (by omega) (by omega), Option.bind_some]
  have hi := mod_bounds b n (by omega)
  have hj := mod_bounds c n (by omega)
  generalize b % n = i at *
  generalize c % n = j at *
  clear hnn hn
  have key : ∀ d : Int, (d = 1 ∨ d = -1) → plaitinglaw4_RingSteps.j0 2 n i j d = some true := by
    intro d hd
    have hw : ∀ x y : Int, 0 ≤ x → x < n → 0 ≤ y → y < n → wrap64 (d * wrap64 (y - x)) = d * (y - x) ∧ wrap64 (wrap64 (-d) * wrap64 (y - x)) = -d * (y - x) ∧ -100 ≤ d * (y - x) ∧ d * (y - x) ≤ 100 := by
      intro x y _ _ _ _
      rcases hd with rfl | rfl <;> refine ⟨?_, ?_, by omega, by omega⟩ <;> (rw [w64 (x := y - x) (by omega) (by omega)]; first | rw [w64 (by omega) (by omega)] | (rw [show wrap64 (-1) = -1 from by decide +kernel]; rw [w64 (by omega) (by omega)]) | (rw [show wrap64 (- -1) = 1 from by decide +kernel]; rw [w64 (by omega) (by omega)]; omega))
    obtain ⟨w1, w2, w3, w4⟩ := hw i j hi.1 hi.2 hj.1 hj.2
    obtain ⟨v1, v2, v3, v4⟩ := hw j i hj.1 hj.2 hi.1 hi.2
    have hD : ring_Dist.f n i j d = some ((d * (j - i)) % n) := by
      unfold ring_Dist.f
      rw [w1, ring_At_eq n _ 0 (by omega) (by omega) (by omega) (by omega), Option.bind_some, Int.add_zero]
    have hE : ring_Dist.f n i j (wrap64 (-d)) = some ((-d * (j - i)) % n) := by
      unfold ring_Dist.f
      rw [w2, ring_At_eq n _ 0 (by omega) (by omega) (by rcases hd with rfl | rfl <;> omega) (by rcases hd with rfl | rfl <;> omega), Option.bind_some, Int.add_zero]
    have hF : ring_Dist.f n j i (wrap64 (-d)) = some ((-d * (i - j)) % n) := by
      unfold ring_Dist.f
      rw [v2, ring_At_eq n _ 0 (by omega) (by omega) (by rcases hd with rfl | rfl <;> omega) (by rcases hd with rfl | rfl <;> omega), Option.bind_some, Int.add_zero]
    have hm := mod_bounds (d * (j - i)) n (by omega)
    have hm2 := mod_bounds (-d * (j - i)) n (by omega)
    have hdm : wrap64 (d * (d * (j - i) % n)) = d * (d * (j - i) % n) := by
      rcases hd with rfl | rfl <;> exact w64 (by omega) (by omega)
    have hA : ring_At.f n i (wrap64 (d * (d * (j - i) % n))) = some ((i + d * (d * (j - i) % n)) % n) := by
      rw [hdm]
      exact ring_At_eq n i _ (by omega) (by omega) (by rcases hd with rfl | rfl <;> omega) (by rcases hd with rfl | rfl <;> omega)
    simp only [plaitinglaw4_RingSteps.j0, plaitinglaw4_RingSteps.j1]
    rw [hD, Option.bind_some, if_neg (by omega), if_neg (by omega), hA, Option.bind_some, hE, Option.bind_some, hF, Option.bind_some]
    have hlit : n = 6 ∨ n = 7 ∨ n = 8 ∨ n = 9 ∨ n = 10 ∨ n = 11 ∨ n = 12 := by omega
    have e1 : (i + d * (d * (j - i) % n)) % n = j := by
      rcases hd with rfl | rfl <;> rcases hlit with rfl | rfl | rfl | rfl | rfl | rfl | rfl <;> omega
    have e2 : i = j → d * (j - i) % n = 0 := by
      rintro rfl
      rw [Int.sub_self, Int.mul_zero, Int.zero_emod]
    have e3 : i ≠ j → d * (j - i) % n + -d * (j - i) % n = n := by
      intro hne
      rcases hd with rfl | rfl <;> rcases hlit with rfl | rfl | rfl | rfl | rfl | rfl | rfl <;> omega
    have e4 : -d * (i - j) % n = d * (j - i) % n := by
      rw [show -d * (i - j) = d * (j - i) from by rcases hd with rfl | rfl <;> omega]
    rw [e1, e4]
    have e5 : ¬ ((j != j) = true) := by simp
    rw [if_neg e5]
    by_cases h : i = j
    · rw [if_pos h, if_pos (e2 h)]
    · rw [if_neg h, w64 (by omega) (by omega), if_pos (e3 h)]
      simp
  cases up with
  | true => exact key 1 (.inl rfl)
  | false => exact key (-1) (.inr rfl)

end Go.Proofs.Ytdkbalaphblobaa.Pure
