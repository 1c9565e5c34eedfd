/- Plain lemmas: a text with one symbol turned. -/
import Derived.Test.YtcpohmfkmgcjkaaQArbRightRefs
import Derived.Test.YtcpohmfkmgcjkaaQArbRightSyms
namespace Go.Proofs.Ytcpohmfkmgcjkaa.P
open Go.RowKit Go.Proofs.YtcpohmfkmgcjkaaW.PrintWords Go.Proofs.YtcpohmfkmgcjkaaW.PrintLast Go.Proofs.YtcpohmfkmgcjkaaW.PrintMore
attribute [local go_sem] max2_int min2_int max_two min_two max_three min_three max_four min_four
set_option linter.unusedVariables false
set_option linter.unusedSimpArgs false
def turnC (c : UInt8) : UInt8 := if c = 48 then 49 else if c = 49 then 48 else if c = 35 then 48 else c
def turnL (l : List UInt8) (i : Nat) : List UInt8 := l.take i ++ ((l.drop i).take 1).map turnC ++ l.drop (i + 1)
theorem turnL_length (l : List UInt8) (i : Nat) : (turnL l i).length = l.length := by
  show (l.take i ++ ((l.drop i).take 1).map turnC ++ l.drop (i + 1)).length = l.length
  simp only [List.length_append, List.length_map, List.length_take, List.length_drop]
  omega
theorem r1_Turn_eq (k : Nat) (l : List UInt8) (hl : l.length ≤ 1000000) (i : Nat) (hi : i < l.length) : plaitingref1_Turn.f (k + 1) (ofL l) (i : Int) = some (ofL (turnL l i)) := by
  have w1 : wrap64 ((i : Int) + 1) = ((i + 1 : Nat) : Int) := by rw [w64 (by omega) (by omega)]; omega
  have e1 : (l.take (i + 1)).drop i = [l[i]] := by
    rw [List.drop_take, show i + 1 - i = 1 by omega, List.drop_eq_getElem_cons hi]
    rfl
  have x1 : (ofL l).extract i (i + 1) = ofL [l[i]] := by rw [extract_ofL2, e1]
  have x2 : (ofL l).extract 0 i = ofL (l.take i) := by rw [extract_ofL, toL_ofL]
  have x3 : (ofL l).extract (i + 1) l.length = ofL (l.drop (i + 1)) := by rw [extract_ofL2, List.take_of_length_le (Nat.le_refl _)]
  have hT : ∀ c, turnC l[i] = c → some ((ofL (l.take i) ++ ofL [c]) ++ ofL (l.drop (i + 1))) = some (ofL (turnL l i)) := by
    intro c hc
    rw [ofL_append, ofL_append]
    refine congrArg some (congrArg ofL ?_)
    show _ = l.take i ++ ((l.drop i).take 1).map turnC ++ l.drop (i + 1)
    rw [List.drop_eq_getElem_cons hi, ← hc]
    rfl
  have b1 : (⟨#[49]⟩ : ByteArray) = ofL [49] := rfl
  have b0 : (⟨#[48]⟩ : ByteArray) = ofL [48] := rfl
  unfold plaitingref1_Turn.f
  rw [if_neg (by omega), ofL_size, decide_eq_false (by omega), plaitingref1_Turn.j0, if_neg (by decide), w1, ofL_size, Int.toNat_natCast, Int.toNat_natCast, x1, x2, x3, toL_of, toL_ofL, b1, b0, if_pos (by omega), if_pos (by omega), if_pos (by omega)]
  have s0 : (ofL (l.take i)).size = i := by rw [ofL_size, List.length_take]; omega
  have s1 : ∀ c : UInt8, (ofL (l.take i) ++ ofL [c]).size = i + 1 := fun c => by rw [ofL_append, ofL_size, List.length_append, List.length_take, List.length_singleton]; omega
  have s2 : (ofL (l.drop (i + 1))).size = l.length - (i + 1) := by rw [ofL_size, List.length_drop]
  have s3 : (ofL [l[i]]).size = 1 := by rw [ofL_size]; rfl
  rw [s0, s1, s1, s1, s2, s3]
  have key : ∀ c : UInt8, turnC l[i] = c → (if (i : Int) ≤ (l.length : Int) then (if i + 1 ≤ 9223372036854775807 then (if 0 ≤ ((i + 1 : Nat) : Int) then (if i + 1 + (l.length - (i + 1)) ≤ 9223372036854775807 then (some ((ofL (l.take i) ++ ofL [c]) ++ ofL (l.drop (i + 1)))) else (none : Option ByteArray)) else none) else none) else none) = some (ofL (turnL l i)) := by
    intro c hc
    rw [if_pos (by omega), if_pos (by omega), if_pos (by omega), if_pos (by omega)]
    exact hT c hc
  by_cases q0 : l[i] = 48
  · rw [if_pos (by rw [q0])]
    exact key 49 (by rw [q0]; rfl)
  · rw [if_neg (fun h_ => q0 (List.cons.inj h_).1)]
    by_cases q1 : l[i] = 49
    · rw [if_pos (by rw [q1])]
      exact key 48 (by rw [q1]; rfl)
    · rw [if_neg (fun h_ => q1 (List.cons.inj h_).1)]
      by_cases q2 : l[i] = 35
      · rw [if_pos (by rw [q2])]
        exact key 48 (by rw [q2]; rfl)
      · rw [if_neg (fun h_ => q2 (List.cons.inj h_).1)]
        exact key l[i] (by unfold turnC; rw [if_neg q0, if_neg q1, if_neg q2])
end Go.Proofs.Ytcpohmfkmgcjkaa.P
