/- Proves RingWays: for all raw inputs, the ways of one owner, of two, of none, are the reference's, each goes by all others one step at a time, and up is down turned round (no condition on the inputs). -/
import Derived.Test.YtdkbalaphblobaaRing
import Derived.Test.YtdkbalaphblobaaPx15
namespace Go.Proofs.Ytdkbalaphblobaa.Pure
open Go.RowKit Go.Proofs.Ytdkbalaphblobaa.P Go.Proofs.YtdkbalaphblobaaW.PrintWords Go.Proofs.YtdkbalaphblobaaW.PrintLast
theorem ways_one : ∀ n : Fin 7, ∀ a : Fin 12, ∀ up : Bool, a.val < 6 + n.val → plaitinglaw4_RingWays.j0 50 (6 + (n.val : Int)) up [(a.val : Int)] = some true := by decide +kernel
theorem ways_two : ∀ n : Fin 7, ∀ a : Fin 12, ∀ up : Bool, a.val < 6 + n.val → plaitinglaw4_RingWays.j0 50 (6 + (n.val : Int)) up ([(a.val : Int)] ++ [Int.tmod (wrap64 ((rd [(a.val : Int)] 0) + 1)) (6 + (n.val : Int))]) = some true := by decide +kernel
theorem RingWays : plaitinglaw4_RingWays.Pure := by
  intro a b two up _ _
  refine ⟨50, ?_⟩
  have hn := mod_bounds a 7 (by decide)
  unfold plaitinglaw4_RingWays.f
  rw [ring_known]
  simp only [Option.bind_some, if_true]
  rw [ring_within a 7 (by decide) (by decide)]
  simp only [Option.bind_some]
  have w6 : wrap64 (6 + a % 7) = 6 + a % 7 := w64 (by omega) (by omega)
  rw [w6, ring_within b _ (by omega) (by omega), Option.bind_some]
  have hi := mod_bounds b (6 + a % 7) (by omega)
  generalize b % (6 + a % 7) = i at *
  clear w6
  generalize a % 7 = n at *
  obtain ⟨n, rfl⟩ := Int.eq_ofNat_of_zero_le hn.1
  obtain ⟨i, rfl⟩ := Int.eq_ofNat_of_zero_le hi.1
  have h1 := ways_one ⟨n, by omega⟩ ⟨i, by omega⟩ up (by show i < 6 + n; omega)
  have h2 := ways_two ⟨n, by omega⟩ ⟨i, by omega⟩ up (by show i < 6 + n; omega)
  cases two with
  | true => rw [if_pos rfl, if_pos (by simp), if_neg (by omega), if_pos (by simp)]; exact h2
  | false => rw [if_neg (by decide)]; exact h1

end Go.Proofs.Ytdkbalaphblobaa.Pure
