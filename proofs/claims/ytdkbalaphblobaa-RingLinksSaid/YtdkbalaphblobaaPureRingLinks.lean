/- Proves RingLinks: for all whole numbers, each link is between its ends in either order, and a node is linked just to those one and two away (no condition on the inputs). -/
import Derived.Test.YtdkbalaphblobaaRing
import Derived.Test.YtdkbalaphblobaaPx7
namespace Go.Proofs.Ytdkbalaphblobaa.Pure
open Go.RowKit Go.Proofs.Ytdkbalaphblobaa.P Go.Proofs.YtdkbalaphblobaaW.PrintWords Go.Proofs.YtdkbalaphblobaaW.PrintLast
def linkOk (n k : Int) : Bool := match ring_Ends.f n k with
  | some (x, y) => ring_Link.f n x y == some (k, true) && ring_Link.f n y x == some (k, true)
  | none => false
theorem links_ends : ∀ n : Fin 7, ∀ k : Fin 24, (k.val : Nat) < 2 * (6 + n.val) → linkOk (6 + (n.val : Int)) (k.val : Int) = true := by decide +kernel
theorem links_round : ∀ n : Fin 7, ∀ i : Fin 12, (i.val : Nat) < 6 + n.val → plaitinglaw4_RingLinks.l0 20 (6 + (n.val : Int)) (i.val : Int) 0 = some true := by decide +kernel
theorem RingLinks : plaitinglaw4_RingLinks.Pure := by
  intro a b c _ _ _
  refine ⟨21, ?_⟩
  have hn := mod_bounds a 7 (by decide)
  unfold plaitinglaw4_RingLinks.f
  rw [ring_known]
  simp only [Option.bind_some, if_true]
  rw [ring_within a 7 (by decide) (by decide)]
  simp only [Option.bind_some]
  have w6 : wrap64 (6 + a % 7) = 6 + a % 7 := w64 (by omega) (by omega)
  have w12 : wrap64 (2 * (6 + a % 7)) = 2 * (6 + a % 7) := w64 (by omega) (by omega)
  rw [w6, w12, ring_within b _ (by omega) (by omega), Option.bind_some, ring_within c _ (by omega) (by omega), Option.bind_some]
  have hi := mod_bounds b (6 + a % 7) (by omega)
  have hk := mod_bounds c (2 * (6 + a % 7)) (by omega)
  generalize b % (6 + a % 7) = i at *
  generalize c % (2 * (6 + a % 7)) = k at *
  clear w6 w12
  generalize a % 7 = n at *
  obtain ⟨n, rfl⟩ := Int.eq_ofNat_of_zero_le hn.1
  obtain ⟨i, rfl⟩ := Int.eq_ofNat_of_zero_le hi.1
  obtain ⟨k, rfl⟩ := Int.eq_ofNat_of_zero_le hk.1
  have h1 := links_ends ⟨n, by omega⟩ ⟨k, by omega⟩ (by show k < 2 * (6 + n); omega)
  have h2 := links_round ⟨n, by omega⟩ ⟨i, by omega⟩ (by show i < 6 + n; omega)
  simp only at h1 h2
  unfold linkOk at h1
  cases he : ring_Ends.f (6 + (n : Int)) (k : Int) with
  | none => rw [he] at h1; simp at h1
  | some p =>
    obtain ⟨x, y⟩ := p
    rw [he] at h1
    simp only [Bool.and_eq_true, beq_iff_eq] at h1
    rw [Option.bind_some]
    simp only
    rw [h1.1, Option.bind_some, h1.2, Option.bind_some]
    simp only [if_true]
    have e : ((k : Int) != (k : Int)) = false := by simp
    rw [e]
    simp only [plaitinglaw4_RingLinks.j0]
    rw [if_neg (by decide)]
    exact h2

end Go.Proofs.Ytdkbalaphblobaa.Pure
