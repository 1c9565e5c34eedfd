/- Plain lemmas on configurations: what Make makes of a raw one, and what is derived of it. -/
import Derived.Test.YtcpohmfkmgcjkaaQFrameOtherMath
import Derived.Test.YtcpohmfkmgcjkaaQFrameOtherPx10
import Derived.Test.YtcpohmfkmgcjkaaQFrameOtherPx11
import Derived.Test.YtcpohmfkmgcjkaaQFrameOtherPx2
namespace Go.Proofs.Ytcpohmfkmgcjkaa.P
open Go.RowKit Go.Proofs.YtcpohmfkmgcjkaaW.PrintWords Go.Proofs.YtcpohmfkmgcjkaaW.PrintLast Go.Proofs.YtcpohmfkmgcjkaaW.PrintMore
attribute [local go_sem] max2_int min2_int max_two min_two max_three min_three max_four min_four
set_option linter.unusedVariables false
set_option linter.unusedSimpArgs false
theorem c3_within (a n : Int) (hn : 0 < n) (hb : n ≤ 1000000000000) : plaitinglaw3_within.f a n = some (a % n) := within_gen a n hn hb
structure MadeConf (N Pi E G F : Int) (l : List Int) : Prop where
  n1 : 6 ≤ N
  n2 : N ≤ 12
  e1 : 0 ≤ E
  e2 : E ≤ 20
  g1 : 0 ≤ G
  g2 : G ≤ 20
  p1 : 4 * (E + G + 1) ≤ Pi
  p2 : Pi ≤ 4 * (E + G + 1) + 99
  f1 : 0 ≤ F
  f2 : F ≤ 65535
  l1 : l.length ≤ 3
  l2 : ∀ x ∈ l, -1 ≤ x ∧ x ≤ N - 1
def mkPairs (n : Int) (l : List Int) : List Int := (l.take 3).map (fun x => x % (n + 1) - 1)
theorem make_loop (k : Nat) (n a1 a2 a3 a4 a5 pi e g f : Int) (l : List Int) (hn : 6 ≤ n) (hn2 : n ≤ 12) (hl : l.length ≤ maxLen) :
    plaitinglaw3_Make.l0 (k + 4) 0 a1 a2 a3 a4 a5 l n pi e g f [] = some (n, pi, e, g, f, mkPairs n l) := by
  have w1 : wrap64 (n + 1) = n + 1 := w64 (by omega) (by omega)
  have hw : ∀ x : Int, wrap64 (x % (n + 1) - 1) = x % (n + 1) - 1 := by
    intro x
    have := mod_bounds x (n + 1) (by omega)
    exact w64 (by omega) (by omega)
  have hwi : ∀ x : Int, plaitinglaw3_within.f x (n + 1) = some (x % (n + 1)) := fun x => c3_within x _ (by omega) (by omega)
  have q1 : wrap64 (0 + 1) = 1 := by decide +kernel
  have q2 : wrap64 (1 + 1) = 2 := by decide +kernel
  have q3 : wrap64 (2 + 1) = 3 := by decide +kernel
  have r1 : wrap64 1 = 1 := by decide +kernel
  have r2 : wrap64 2 = 2 := by decide +kernel
  have r3 : wrap64 3 = 3 := by decide +kernel
  unfold maxLen at hl
  match l, hl with
  | [], _ => simp [plaitinglaw3_Make.l0, mkPairs]
  | [a], _ =>
    simp [plaitinglaw3_Make.l0, mkPairs, w1, hw, hwi, rd, r1]
  | [a, b], _ =>
    simp [plaitinglaw3_Make.l0, mkPairs, w1, hw, hwi, rd, r1, r2]
  | a :: b :: c :: t, hl =>
    simp only [List.length_cons] at hl
    have h0 : (0 : Int) < ((a :: b :: c :: t).length : Int) := by simp only [List.length_cons]; omega
    have h1 : (1 : Int) < ((a :: b :: c :: t).length : Int) := by simp only [List.length_cons]; omega
    have h2 : (2 : Int) < ((a :: b :: c :: t).length : Int) := by simp only [List.length_cons]; omega
    simp only [plaitinglaw3_Make.l0, w1, if_pos h0, if_pos h1, if_pos h2, q1, q2, q3]
    simp [hw, hwi, rd, mkPairs]
theorem make_eq (k : Nat) (N Pi E G F : Int) (l : List Int) (hl : l.length ≤ maxLen) :
    ∃ n pi e g f ps, MadeConf n pi e g f ps ∧ (∀ k, plaitinglaw3_Make.f (k + 6) N Pi E G F l = some (n, pi, e, g, f, ps)) ∧ ps = mkPairs n l := by
  have m1 := mod_bounds N 7 (by decide)
  have m2 := mod_bounds E 21 (by decide)
  have m3 := mod_bounds G 21 (by decide)
  have m4 := mod_bounds F 65536 (by decide)
  have m5 := mod_bounds F 40 (by decide)
  have m6 := mod_bounds Pi 100 (by decide)
  have hps : ∀ n : Int, 6 ≤ n → n ≤ 12 → (mkPairs n l).length ≤ 3 ∧ ∀ x ∈ mkPairs n l, -1 ≤ x ∧ x ≤ n - 1 := by
    intro n h1 h2
    refine ⟨by simp [mkPairs]; omega, fun x hx => ?_⟩
    simp only [mkPairs, List.mem_map] at hx
    obtain ⟨y, _, rfl⟩ := hx
    have := mod_bounds y (n + 1) (by omega)
    omega
  have hj : ∀ k f, plaitinglaw3_Make.j0 (k + 5) N Pi E G F l (6 + N % 7) 0 (E % 21) (G % 21) f = some (6 + N % 7, 4 * (E % 21 + G % 21 + 1) + Pi % 100, E % 21, G % 21, f, mkPairs (6 + N % 7) l) := by
    intro k f
    rw [plaitinglaw3_Make.j0]
    rw [c3_within Pi 100 (by decide) (by decide), Option.bind_some]
    rw [w64 (x := E % 21 + G % 21) (by omega) (by omega), w64 (x := E % 21 + G % 21 + 1) (by omega) (by omega), w64 (x := 4 * (E % 21 + G % 21 + 1)) (by omega) (by omega), w64 (by omega) (by omega)]
    exact make_loop k _ _ _ _ _ _ _ _ _ _ l (by omega) (by omega) hl
  have hm : ∀ f, 0 ≤ f → f ≤ 65535 → MadeConf (6 + N % 7) (4 * (E % 21 + G % 21 + 1) + Pi % 100) (E % 21) (G % 21) f (mkPairs (6 + N % 7) l) := fun f h1 h2 =>
    ⟨by omega, by omega, by omega, by omega, by omega, by omega, by omega, by omega, h1, h2, (hps _ (by omega) (by omega)).1, (hps _ (by omega) (by omega)).2⟩
  by_cases h3 : F % 3 = 0
  · refine ⟨_, _, _, _, 65535 - F % 40, _, hm _ (by omega) (by omega), fun k => ?_, rfl⟩
    unfold plaitinglaw3_Make.f
    rw [c3_within N 7 (by decide) (by decide), Option.bind_some, c3_within E 21 (by decide) (by decide), Option.bind_some, c3_within G 21 (by decide) (by decide), Option.bind_some, c3_within F 65536 (by decide) (by decide), Option.bind_some, c3_within F 3 (by decide) (by decide), Option.bind_some, if_pos h3, c3_within F 40 (by decide) (by decide), Option.bind_some]
    rw [w64 (x := 6 + N % 7) (by omega) (by omega), w64 (x := 65535 - F % 40) (by omega) (by omega)]
    exact hj (k + 1) _
  · refine ⟨_, _, _, _, F % 65536, _, hm _ (by omega) (by omega), fun k => ?_, rfl⟩
    unfold plaitinglaw3_Make.f
    rw [c3_within N 7 (by decide) (by decide), Option.bind_some, c3_within E 21 (by decide) (by decide), Option.bind_some, c3_within G 21 (by decide) (by decide), Option.bind_some, c3_within F 65536 (by decide) (by decide), Option.bind_some, c3_within F 3 (by decide) (by decide), Option.bind_some, if_neg h3]
    rw [w64 (x := 6 + N % 7) (by omega) (by omega)]
    exact hj (k + 1) _
theorem r3_Slots_eq (N Pi E G F : Int) (l : List Int) (h0 : 0 ≤ N) (h1 : N ≤ 1000) (h2 : l.length ≤ 1000) : plaitingref3_Slots.f N Pi E G F l = some (N + l.length) := by
  unfold plaitingref3_Slots.f
  rw [w64 (by omega) (by omega)]
end Go.Proofs.Ytcpohmfkmgcjkaa.P
