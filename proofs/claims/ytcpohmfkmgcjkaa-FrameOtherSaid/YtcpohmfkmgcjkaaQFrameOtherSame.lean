/- Plain lemmas: when two frames are the same. -/
import Derived.Test.YtcpohmfkmgcjkaaQFrameOtherReads
namespace Go.Proofs.Ytcpohmfkmgcjkaa.P
open Go.RowKit Go.Proofs.YtcpohmfkmgcjkaaW.PrintWords Go.Proofs.YtcpohmfkmgcjkaaW.PrintLast Go.Proofs.YtcpohmfkmgcjkaaW.PrintMore
attribute [local go_sem] max2_int min2_int max_two min_two max_three min_three max_four min_four
set_option linter.unusedVariables false
set_option linter.unusedSimpArgs false
def sameL : List S26 → List S26 → Bool
  | [], [] => true
  | x :: a, y :: b => (x.f0 == y.f0 && x.f1 == y.f1) && sameL a b
  | _, _ => false
theorem sameL_iff : ∀ a b : List S26, sameL a b = true ↔ a = b
  | [], [] => ⟨fun _ => rfl, fun _ => rfl⟩
  | [], y :: b => by
    constructor
    · intro h; exact absurd h (by simp [sameL])
    · intro h; cases h
  | x :: a, [] => by
    constructor
    · intro h; exact absurd h (by simp [sameL])
    · intro h; cases h
  | ⟨p, q⟩ :: a, ⟨r, s⟩ :: b => by
    rw [sameL, Bool.and_eq_true, Bool.and_eq_true, beq_iff_eq, beq_iff_eq, sameL_iff a b]
    constructor
    · rintro ⟨⟨h1, h2⟩, rfl⟩
      dsimp only at h1 h2
      rw [h1, h2]
    · intro h
      injection h with h1 h2
      injection h1 with h3 h4
      exact ⟨⟨h3, h4⟩, h2⟩
theorem sameL_length {a b : List S26} (h : a.length ≠ b.length) : sameL a b = false := Bool.eq_false_iff.mpr fun h2 => h (congrArg List.length ((sameL_iff a b).1 h2))
theorem rd26 (a : List S26) (i : Nat) (h : i < a.length) : rd_T26 a (i : Int) = a[i] := by
  unfold rd_T26
  rw [Int.toNat_natCast, List.getD_eq_getElem?_getD, List.getElem?_eq_getElem h]
  rfl
theorem same_step (a b : List S26) (hl : a.length = b.length) (i : Nat) (h : i < a.length) :
    sameL (a.drop i) (b.drop i) = (((rd_T26 a (i : Int)).f0 == (rd_T26 b (i : Int)).f0 && (rd_T26 a (i : Int)).f1 == (rd_T26 b (i : Int)).f1) && sameL (a.drop (i + 1)) (b.drop (i + 1))) := by
  rw [rd26 a i h, rd26 b i (by omega), List.drop_eq_getElem_cons h, List.drop_eq_getElem_cons (show i < b.length by omega), sameL]
def sameF (K R S P V : Int) (l : List S26) (K2 R2 S2 P2 V2 : Int) (l2 : List S26) : Bool := (K == K2 && R == R2 && S == S2 && P == P2 && V == V2) && sameL l l2
theorem sameF_iff (K R S P V : Int) (l : List S26) (K2 R2 S2 P2 V2 : Int) (l2 : List S26) : sameF K R S P V l K2 R2 S2 P2 V2 l2 = true ↔ (K = K2 ∧ R = R2 ∧ S = S2 ∧ P = P2 ∧ V = V2 ∧ l = l2) := by
  unfold sameF
  simp only [Bool.and_eq_true, beq_iff_eq, sameL_iff]
  constructor
  · rintro ⟨⟨⟨⟨⟨h1, h2⟩, h3⟩, h4⟩, h5⟩, h6⟩; exact ⟨h1, h2, h3, h4, h5, h6⟩
  · rintro ⟨h1, h2, h3, h4, h5, h6⟩; exact ⟨⟨⟨⟨⟨h1, h2⟩, h3⟩, h4⟩, h5⟩, h6⟩
end Go.Proofs.Ytcpohmfkmgcjkaa.P
