/- Proves RingTurns: for all whole numbers, two steps of At put together are one step, as many steps as there are nodes lead back, and a step back undoes a step (no condition on the inputs). -/
import Derived.Test.YtdkbalaphblobaaRing
import Derived.Test.YtdkbalaphblobaaPx4
namespace Go.Proofs.Ytdkbalaphblobaa.Pure
open Go.RowKit Go.Proofs.Ytdkbalaphblobaa.P Go.Proofs.YtdkbalaphblobaaW.PrintWords Go.Proofs.YtdkbalaphblobaaW.PrintLast
theorem RingTurns : plaitinglaw4_RingTurns.Pure := by
  intro a b c d _ _ _ _
  have hn := mod_bounds a 7 (by decide)
  unfold plaitinglaw4_RingTurns.f
  rw [ring_known]
  simp only [Option.bind_some, if_true]
  rw [ring_within a 7 (by decide) (by decide)]
  simp only [Option.bind_some]
  obtain ⟨n, hnn, hn1, hn2⟩ : ∃ n, wrap64 (6 + a % 7) = n ∧ 6 ≤ n ∧ n ≤ 12 := ⟨_, rfl, by rw [w64 (by omega) (by omega)]; omega, by rw [w64 (by omega) (by omega)]; omega⟩
  rw [hnn, ring_within b n (by omega) (by omega), Option.bind_some, ring_within c 2000 (by omega) (by omega), Option.bind_some, ring_within d 2000 (by omega) (by omega), Option.bind_some]
  have hi := mod_bounds b n (by omega)
  have hx := mod_bounds c 2000 (by omega)
  have hy := mod_bounds d 2000 (by omega)
  generalize b % n = i at *
  generalize c % 2000 = x at *
  generalize d % 2000 = y at *
  clear hnn hn
  have wx : wrap64 (x - 1000) = x - 1000 := w64 (by omega) (by omega)
  have wy : wrap64 (y - 1000) = y - 1000 := w64 (by omega) (by omega)
  have wz : wrap64 (x - 1000 + (y - 1000)) = x - 1000 + (y - 1000) := w64 (by omega) (by omega)
  have wn : wrap64 (-(x - 1000)) = -(x - 1000) := w64 (by omega) (by omega)
  rw [wx, wy, wz, wn]
  have m1 := mod_bounds (i + (x - 1000)) n (by omega)
  rw [ring_At_eq n i (x - 1000) (by omega) (by omega) (by omega) (by omega), Option.bind_some, ring_At_eq n _ (y - 1000) (by omega) (by omega) (by omega) (by omega), Option.bind_some, ring_At_eq n i _ (by omega) (by omega) (by omega) (by omega), Option.bind_some, ring_At_eq n i n (by omega) (by omega) (by omega) (by omega), Option.bind_some]
  have hlit : n = 6 ∨ n = 7 ∨ n = 8 ∨ n = 9 ∨ n = 10 ∨ n = 11 ∨ n = 12 := by omega
  have e1 : ((i + (x - 1000)) % n + (y - 1000)) % n = (i + (x - 1000 + (y - 1000))) % n := by
    rcases hlit with rfl | rfl | rfl | rfl | rfl | rfl | rfl <;> omega
  have e2 : (i + n) % n = i := by
    rcases hlit with rfl | rfl | rfl | rfl | rfl | rfl | rfl <;> omega
  have e3 : ((i + (x - 1000)) % n + -(x - 1000)) % n = i := by
    rcases hlit with rfl | rfl | rfl | rfl | rfl | rfl | rfl <;> omega
  rw [if_pos e1, if_pos e2, Option.bind_some, ring_At_eq n _ (-(x - 1000)) (by omega) (by omega) (by omega) (by omega), Option.bind_some, e3]
  simp

end Go.Proofs.Ytdkbalaphblobaa.Pure
