/- Common lemmas of this claim's own. -/
import Derived.Test.YtcpohmfkmgcjkaaQFrameOtherWWords
import Derived.Test.YtcpohmfkmgcjkaaQFrameOtherWLast
namespace Go.Proofs.Ytcpohmfkmgcjkaa.P
open Go.RowKit Go.Proofs.YtcpohmfkmgcjkaaW.PrintWords Go.Proofs.YtcpohmfkmgcjkaaW.PrintLast
set_option linter.unusedVariables false
set_option linter.unusedSimpArgs false
theorem w64 {x : Int} (h0 : -9223372036854775808 ≤ x) (h1 : x ≤ 9223372036854775807) : wrap64 x = x := by
  unfold wrap64
  omega
theorem tmod_pos (a n : Int) (hn : 0 < n) : (if Int.tmod a n < 0 then Int.tmod a n + n else Int.tmod a n) = a % n := by
  have h1 := Int.mul_tdiv_add_tmod a n
  have h2 := Int.tmod_lt_of_pos a hn
  have h3 := Int.lt_tmod_of_pos a hn
  split
  · refine ((Int.ediv_emod_unique hn (q := Int.tdiv a n - 1)).2 ⟨?_, by omega, by omega⟩).2.symm
    rw [Int.mul_sub, Int.mul_one]
    omega
  · exact ((Int.ediv_emod_unique hn (q := Int.tdiv a n)).2 ⟨by omega, by omega, by omega⟩).2.symm
theorem tmod_bounds (a n : Int) (hn : 0 < n) : -n < Int.tmod a n ∧ Int.tmod a n < n := ⟨Int.lt_tmod_of_pos a hn, Int.tmod_lt_of_pos a hn⟩
theorem within_gen (a n : Int) (hn : 0 < n) (hb : n ≤ 1000000000000) : (if n = 0 then (none : Option Int) else (if Int.tmod a n < 0 then (some (wrap64 (Int.tmod a n + n))) else (some (Int.tmod a n)))) = some (a % n) := by
  have hb2 := tmod_bounds a n hn
  rw [if_neg (by omega), ← tmod_pos a n hn]
  split
  · rw [w64 (by omega) (by omega)]
  · rfl
theorem mod_bounds (a n : Int) (hn : 0 < n) : 0 ≤ a % n ∧ a % n < n := ⟨Int.emod_nonneg _ (by omega), Int.emod_lt_of_pos _ hn⟩
end Go.Proofs.Ytcpohmfkmgcjkaa.P
