/- Plain lemmas on the document's own reading of frames: it answers as frame.Read does. -/
import Derived.Test.YtcpohmfkmgcjkaaQFrameChecksSame
import Derived.Test.YtcpohmfkmgcjkaaQFrameChecksPx15
import Derived.Test.YtcpohmfkmgcjkaaQFrameChecksPx19
import Derived.Test.YtcpohmfkmgcjkaaQFrameChecksPx13
import Derived.Laws.BitsLemmas
import Derived.Test.YtcpohmfkmgcjkaaQFrameChecksAid
import Derived.Test.YtcpohmfkmgcjkaaQFrameChecksMath
import Derived.Test.YtcpohmfkmgcjkaaQFrameChecksTxt
import Derived.Test.YtcpohmfkmgcjkaaQFrameChecksPx20
import Derived.Test.YtcpohmfkmgcjkaaQFrameChecksPx22
namespace Go.Proofs.Ytcpohmfkmgcjkaa.P
open Go.RowKit Go.Proofs.YtcpohmfkmgcjkaaW.PrintWords Go.Proofs.YtcpohmfkmgcjkaaW.PrintLast Go.Proofs.YtcpohmfkmgcjkaaW.PrintMore
attribute [local go_sem] max2_int min2_int max_two min_two max_three min_three max_four min_four
set_option linter.unusedVariables false
set_option linter.unusedSimpArgs false
theorem r5_item_eq (x : S26) (c : Bool) : plaitingref5_item.f x.f0 x.f1 c = some (if c = true then itemVal x else itemOk x) := by
  obtain ⟨a, b⟩ := x
  unfold plaitingref5_item.f itemOk itemEmp itemVal
  dsimp only
  by_cases h0 : a = 0
  · subst h0
    rw [if_pos rfl]
    by_cases hb : b = 0
    · subst hb; cases c <;> rfl
    · rw [if_neg hb, beq_eq_false_iff_ne.2 hb]; cases c <;> rfl
  · rw [if_neg h0]
    by_cases h1 : a = 1
    · subst h1; rw [if_pos rfl]; cases c <;> cases b == 0 <;> rfl
    · rw [if_neg h1]
      have e0 : (a == 0) = false := beq_eq_false_iff_ne.2 h0
      have e1 : (a == 1) = false := beq_eq_false_iff_ne.2 h1
      rw [e0, e1]
      by_cases h2 : a = 2
      · subst h2
        rw [if_pos rfl]
        by_cases hb : b ≥ 0
        · rw [if_pos hb, decide_eq_true (show 0 ≤ b from hb)]; cases c <;> simp
        · rw [if_neg hb, decide_eq_false (show ¬ 0 ≤ b from hb)]; cases c <;> rfl
      · rw [if_neg h2, beq_eq_false_iff_ne.2 h2]; cases c <;> rfl
theorem r5_check_loop (K R S P V : Int) (l : List S26) (hl : l.length ≤ 1000000) : ∀ d (k i : Nat), l.length - i = d → i ≤ l.length → d < k →
    plaitingref5_Check.l0 k (i : Int) K R S P V l = some (if (l.drop i).any (fun x => !itemEmp x && !itemVal x) = true then 1 else 0) := by
  intro d
  induction d with
  | zero =>
    intro k i h1 h2 h3
    obtain ⟨k, rfl⟩ : ∃ q, k = q + 1 := ⟨k - 1, by omega⟩
    rw [plaitingref5_Check.l0, if_neg (by omega), List.drop_of_length_le (by omega)]
    rfl
  | succ d ih =>
    intro k i h1 h2 h3
    obtain ⟨k, rfl⟩ : ∃ q, k = q + 1 := ⟨k - 1, by omega⟩
    have hi : i < l.length := by omega
    have w1 : wrap64 ((i : Int) + 1) = ((i + 1 : Nat) : Int) := by rw [w64 (by omega) (by omega)]; omega
    have e : (!itemEmp l[i] && !itemVal l[i]) = !itemOk l[i] := by unfold itemOk; rw [Bool.not_or]
    rw [plaitingref5_Check.l0, if_pos (by omega), if_pos (by omega), rd26 l i hi, r5_item_eq, if_neg (by decide), Option.bind_some, w1, ih k (i + 1) (by omega) (by omega) (by omega), List.drop_eq_getElem_cons hi, List.any_cons, e]
    cases itemOk l[i] <;> simp
theorem r5_echoes_eq (n pi e g f : Int) (ps : List Int) (K S : Int) (h0 : 0 ≤ n) (h1 : n ≤ 1000) (h2 : ps.length ≤ 1000) : plaitingref5_echoes.f n pi e g f ps K S = some (frame_echoesV n ps.length K S) := by
  unfold plaitingref5_echoes.f frame_echoesV
  rw [r3_Slots_eq n pi e g f ps h0 h1 h2, Option.bind_some]
  by_cases hK : K = 3
  · rw [if_pos hK]
    by_cases hS : S < n
    · rw [if_pos hS, if_pos ⟨hK, hS⟩, w64 (by omega) (by omega)]
    · rw [if_neg hS, if_neg (fun h => hS h.2)]
  · rw [if_neg hK, if_neg (fun h => hK h.1)]
theorem r5_Check_eq (k : Nat) (n pi e g f : Int) (ps : List Int) (K R S P V : Int) (l : List S26) (h0 : 0 ≤ n) (h1 : n ≤ 1000) (h2 : ps.length ≤ 1000) (hl : l.length ≤ 1000000) (hk : l.length + 10 < k) :
    plaitingref5_Check.f k n pi e g f ps K R S P V l = frame_Check.f n pi e g f ps K R S P V l := by
  obtain ⟨k, rfl⟩ : ∃ q, k = q + 4 := ⟨k - 4, by omega⟩
  have hj0 : ∀ x, plaitingref5_Check.j0 (k + 4) x n pi e g f ps K R S P V l = if x = true then some 1 else (if K < 1 then plaitingref5_Check.j1 (k + 3) true n pi e g f ps K R S P V l else (if K > 3 then plaitingref5_Check.j1 (k + 3) true n pi e g f ps K R S P V l else (if K = 3 then plaitingref5_Check.j1 (k + 3) false n pi e g f ps K R S P V l else plaitingref5_Check.j1 (k + 3) (decide (S ≥ n)) n pi e g f ps K R S P V l))) := fun x => by rw [show k + 4 = (k + 3) + 1 from rfl, plaitingref5_Check.j0]
  have hj2 : ∀ x, plaitingref5_Check.j2 (k + 2) x n pi e g f ps K R S P V l = if x = true then some 1 else (if (l.length : Int) = frame_echoesV n ps.length K S then some (if l.any (fun x => !itemEmp x && !itemVal x) = true then 1 else 0) else some 2) := fun x => by
    rw [show k + 2 = (k + 1) + 1 from rfl, plaitingref5_Check.j2, r5_echoes_eq n pi e g f ps K S h0 h1 h2, Option.bind_some, show (0 : Int) = ((0 : Nat) : Int) from rfl, r5_check_loop K R S P V l hl l.length (k + 1) 0 (by omega) (by omega) (by omega)]
    rfl
  have hj1 : ∀ x, plaitingref5_Check.j1 (k + 3) x n pi e g f ps K R S P V l = if x = true then some 6 else (if (if (K == 3) = true then itemVal ⟨P, V⟩ else itemOk ⟨P, V⟩) = true then (if K = 3 then plaitingref5_Check.j2 (k + 2) false n pi e g f ps K R S P V l else plaitingref5_Check.j2 (k + 2) (P != 0) n pi e g f ps K R S P V l) else plaitingref5_Check.j2 (k + 2) true n pi e g f ps K R S P V l) := fun x => by
    rw [show k + 3 = (k + 2) + 1 from rfl, plaitingref5_Check.j1]
    have := r5_item_eq ⟨P, V⟩ (K == 3)
    dsimp only at this
    rw [this, Option.bind_some]
  have hw : wrap64 (n + (ps.length : Int)) = n + ps.length := w64 (by omega) (by omega)
  unfold plaitingref5_Check.f frame_Check.f
  rw [r3_Slots_eq n pi e g f ps h0 h1 h2, Option.bind_some, hw, hj0, hj0, if_pos rfl]
  by_cases a1 : S < 0
  · rw [if_pos a1, if_pos (.inl a1)]
  · rw [if_neg a1]
    by_cases a2 : S ≥ n + ps.length
    · rw [if_pos a2, if_pos (.inr (.inl a2))]
    · rw [if_neg a2]
      by_cases a3 : R < 0
      · rw [if_pos a3, if_pos (.inr (.inr (.inl a3)))]
      · rw [if_neg a3]
        by_cases a4 : R ≥ 65536
        · rw [decide_eq_true a4, if_pos rfl, if_pos (.inr (.inr (.inr (by omega))))]
        · rw [decide_eq_false a4, if_neg (by decide), if_neg (show ¬ (S < 0 ∨ n + (ps.length : Int) ≤ S ∨ R < 0 ∨ 65535 < R) by omega)]
          rw [hj1, hj1, hj1, if_pos rfl]
          by_cases b1 : K < 1
          · rw [if_pos b1, if_pos (.inl b1)]
          · rw [if_neg b1]
            by_cases b2 : K > 3
            · rw [if_pos b2, if_pos (.inr (.inl b2))]
            · rw [if_neg b2]
              by_cases b3 : K = 3
              · rw [if_pos b3, if_neg (by decide), if_neg (show ¬ (K < 1 ∨ 3 < K ∨ (n ≤ S ∧ K ≠ 3)) by omega), if_pos b3, if_pos (beq_iff_eq.2 b3), hj2, hj2, if_pos b3]
                by_cases q : itemVal ⟨P, V⟩ = true
                · rw [if_pos q, if_neg (show ¬ (false = true) by decide), if_neg (show ¬ itemVal ⟨P, V⟩ = false by rw [q]; decide)]
                  by_cases z : (l.length : Int) = frame_echoesV n ps.length K S
                  · rw [if_pos z, if_neg (show ¬ ((l.length : Int) ≠ frame_echoesV n ps.length K S) from fun h_ => h_ z)]
                    by_cases y : l.any (fun x => !itemEmp x && !itemVal x) = true
                    · rw [if_pos y, if_pos y]
                    · rw [if_neg y, if_neg y]
                  · rw [if_neg z, if_pos z]
                · rw [if_neg q, if_pos rfl, if_pos (Bool.eq_false_iff.mpr q)]
              · rw [if_neg b3]
                by_cases b4 : S ≥ n
                · rw [decide_eq_true b4, if_pos rfl, if_pos (.inr (.inr ⟨b4, b3⟩))]
                · rw [decide_eq_false b4, if_neg (by decide), if_neg (show ¬ (K < 1 ∨ 3 < K ∨ (n ≤ S ∧ K ≠ 3)) by omega), if_neg (show ¬ (K == 3) = true from fun h_ => b3 (beq_iff_eq.1 h_)), if_neg b3, hj2, hj2, if_neg b3]
                  have hi : itemOk ⟨P, V⟩ = (itemEmp ⟨P, V⟩ || itemVal ⟨P, V⟩) := rfl
                  by_cases p0 : P = 0
                  · subst p0
                    have hv : itemVal ⟨0, V⟩ = false := rfl
                    rw [hi, hv, Bool.or_false]
                    by_cases q : itemEmp ⟨0, V⟩ = true
                    · rw [if_pos q, if_neg (show ¬ ((0 : Int) != 0) = true by decide), if_neg (show ¬ itemEmp ⟨0, V⟩ = false by rw [q]; decide)]
                      by_cases z : (l.length : Int) = frame_echoesV n ps.length K S
                      · rw [if_pos z, if_neg (show ¬ ((l.length : Int) ≠ frame_echoesV n ps.length K S) from fun h_ => h_ z)]
                        by_cases y : l.any (fun x => !itemEmp x && !itemVal x) = true
                        · rw [if_pos y, if_pos y]
                        · rw [if_neg y, if_neg y]
                      · rw [if_neg z, if_pos z]
                    · rw [if_neg q, if_pos rfl, if_pos (Bool.eq_false_iff.mpr q)]
                  · have hv : itemEmp ⟨P, V⟩ = false := by unfold itemEmp; rw [beq_eq_false_iff_ne.2 p0]; rfl
                    have hp : (P != 0) = true := bne_iff_ne.2 p0
                    rw [hv, if_pos rfl, hp, if_pos rfl]
                    split <;> rfl
end Go.Proofs.Ytcpohmfkmgcjkaa.P
