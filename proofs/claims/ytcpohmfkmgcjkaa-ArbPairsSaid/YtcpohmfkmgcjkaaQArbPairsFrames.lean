/- Plain lemmas on frames: what Make makes of a raw one. -/
import Derived.Test.YtcpohmfkmgcjkaaQArbPairsConfs
import Derived.Test.YtcpohmfkmgcjkaaQArbPairsPx12
namespace Go.Proofs.Ytcpohmfkmgcjkaa.P
open Go.RowKit Go.Proofs.YtcpohmfkmgcjkaaW.PrintWords Go.Proofs.YtcpohmfkmgcjkaaW.PrintLast Go.Proofs.YtcpohmfkmgcjkaaW.PrintMore
attribute [local go_sem] max2_int min2_int max_two min_two max_three min_three max_four min_four
set_option linter.unusedVariables false
set_option linter.unusedSimpArgs false
def itemOk (x : S26) : Bool := itemEmp x || itemVal x
theorem itemVal_two (b : Int) (h0 : 0 ≤ b) (h1 : b < 256) : itemVal ⟨2, b⟩ = true := by
  unfold itemVal
  show ((2 : Int) == 1 && b == 0 || ((2 : Int) == 2 && (decide (0 ≤ b) && decide (b ≤ 255)))) = true
  rw [decide_eq_true h0, decide_eq_true (show b ≤ 255 by omega)]
  rfl
structure MadeFrame (n : Int) (np : Nat) (K R S P V : Int) (echo : List S26) : Prop where
  k1 : 1 ≤ K
  k2 : K ≤ 3
  r1 : 0 ≤ R
  r2 : R ≤ 65535
  s1 : 0 ≤ S
  s2 : S < n + np
  pair : n ≤ S → K = 3
  pay : K = 3 → itemVal ⟨P, V⟩ = true
  nopay : K ≠ 3 → P = 0 ∧ V = 0
  len : echo.length = if K = 3 ∧ S < n then (n + np).toNat else 0
  ok : ∀ x ∈ echo, itemOk x = true
end Go.Proofs.Ytcpohmfkmgcjkaa.P
