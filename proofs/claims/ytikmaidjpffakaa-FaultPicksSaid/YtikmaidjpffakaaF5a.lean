/- Small facts of made configurations and of what is emitted. -/
import Derived.Test.YtikmaidjpffakaaF3p
namespace Go.Proofs.YtikmaidjpffakaaE
open Go
set_option linter.unusedVariables false
set_option linter.unusedSimpArgs false
set_option maxRecDepth 100000

theorem ints_irow (k : IntKind) (ps : List Int) : ints (irow k ps) = ps := by
  induction ps with
  | nil => rfl
  | cons a l ih =>
    have : ints (irow k (a :: l)) = a :: ints (irow k l) := rfl
    rw [this, ih]
theorem cfMade_ok {n pi e g fi : Int} {ps : List Int} (h : s_made n pi e g fi ps) : s_confOk n pi e g fi (ints (irow .i64 ps)) = true := by
  obtain ⟨h1, h2, h3, h4, h5, h6, h7, h8, h9, h10, h11, h12⟩ := h
  rw [ints_irow]
  simp only [s_confOk, Bool.and_eq_true, decide_eq_true_eq, List.all_eq_true]
  exact ⟨⟨⟨⟨⟨⟨⟨⟨⟨⟨⟨h1, h2⟩, h3⟩, by omega⟩, h5⟩, by omega⟩, h7⟩, h8⟩, h9⟩, by omega⟩, h11⟩, h12⟩
theorem clean_le (s : ByteArray) : (s_clean s).size ≤ s.size := ext_le _ _ _
theorem emit0 {F T r sl dst : Int} {acts : List (List AV)} {b : ByteArray} : s_emit false F T acts r sl dst b = b := by
  unfold s_emit; rw [if_pos (.inl rfl)]
end Go.Proofs.YtikmaidjpffakaaE
