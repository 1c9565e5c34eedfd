/- Plain lemmas on the document's own texts: bits, sums, wrapped texts, frames' texts, when two frames are the same. -/
import Derived.Test.YtcpohmfkmgcjkaaQFrameOtherSame
import Derived.Test.YtcpohmfkmgcjkaaQFrameOtherPx13
namespace Go.Proofs.Ytcpohmfkmgcjkaa.P
open Go.RowKit Go.Proofs.YtcpohmfkmgcjkaaW.PrintWords Go.Proofs.YtcpohmfkmgcjkaaW.PrintLast Go.Proofs.YtcpohmfkmgcjkaaW.PrintMore
attribute [local go_sem] max2_int min2_int max_two min_two max_three min_three max_four min_four
set_option linter.unusedVariables false
set_option linter.unusedSimpArgs false
theorem items_loop (a b : List S26) (hl : a.length = b.length) (ha : a.length ≤ 100000) : ∀ d (k i : Nat), a.length - i = d → i ≤ a.length → d < k →
    plaitingref5_Items.l0 k a b (i : Int) = some (sameL (a.drop i) (b.drop i)) := by
  intro d
  induction d with
  | zero =>
    intro k i h1 h2 h3
    obtain ⟨k, rfl⟩ : ∃ q, k = q + 1 := ⟨k - 1, by omega⟩
    rw [plaitingref5_Items.l0, if_neg (by omega), List.drop_of_length_le (by omega), List.drop_of_length_le (by omega)]
    rfl
  | succ d ih =>
    intro k i h1 h2 h3
    obtain ⟨k, rfl⟩ : ∃ q, k = q + 1 := ⟨k - 1, by omega⟩
    have w1 : wrap64 ((i : Int) + 1) = ((i + 1 : Nat) : Int) := by rw [w64 (by omega) (by omega)]; omega
    rw [plaitingref5_Items.l0, if_pos (by omega), if_pos (by omega), if_pos (by omega), w1, same_step a b hl i (by omega), ih k (i + 1) (by omega) (by omega) (by omega)]
    cases (rd_T26 a (i : Int)).f0 == (rd_T26 b (i : Int)).f0 <;> cases (rd_T26 a (i : Int)).f1 == (rd_T26 b (i : Int)).f1 <;> rfl
theorem items_eq (a b : List S26) (ha : a.length ≤ 100000) (k : Nat) (hk : a.length < k) : plaitingref5_Items.f k a b = some (sameL a b) := by
  unfold plaitingref5_Items.f
  by_cases hl : a.length = b.length
  · rw [if_pos (by omega), show (0 : Int) = ((0 : Nat) : Int) from rfl, items_loop a b hl ha a.length k 0 (by omega) (by omega) hk]
    rfl
  · rw [if_neg (by omega), sameL_length hl]
theorem ref5_Same_eq (K R S P V : Int) (l : List S26) (K2 R2 S2 P2 V2 : Int) (l2 : List S26) (hl : l.length ≤ 100000) (k : Nat) (hk : l.length < k) :
    plaitingref5_Same.f k K R S P V l K2 R2 S2 P2 V2 l2 = some (sameF K R S P V l K2 R2 S2 P2 V2 l2) := by
  unfold plaitingref5_Same.f sameF
  rw [items_eq l l2 hl k hk]
  by_cases h1 : K = K2
  · subst h1
    by_cases h2 : R = R2
    · subst h2
      by_cases h3 : S = S2
      · subst h3
        rw [if_pos rfl, if_pos rfl, if_pos rfl]
        simp only [beq_self_eq_true, Bool.true_and]
        cases P == P2 <;> cases V == V2 <;> rfl
      · rw [if_pos rfl, if_pos rfl, if_neg h3, beq_eq_false_iff_ne.mpr h3]; simp
    · rw [if_pos rfl, if_neg h2, beq_eq_false_iff_ne.mpr h2]; simp
  · rw [if_neg h1, beq_eq_false_iff_ne.mpr h1]; simp
end Go.Proofs.Ytcpohmfkmgcjkaa.P
