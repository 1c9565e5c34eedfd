/- Plain lemmas: when two frames are the same. -/
import Derived.Test.YtcpohmfkmgcjkaaQFrameSameReads
import Derived.Test.YtcpohmfkmgcjkaaQFrameSamePx1
import Derived.Test.YtcpohmfkmgcjkaaQFrameSamePx3
namespace Go.Proofs.Ytcpohmfkmgcjkaa.P
open Go.RowKit Go.Proofs.YtcpohmfkmgcjkaaW.PrintWords Go.Proofs.YtcpohmfkmgcjkaaW.PrintLast Go.Proofs.YtcpohmfkmgcjkaaW.PrintMore
attribute [local go_sem] max2_int min2_int max_two min_two max_three min_three max_four min_four
set_option linter.unusedVariables false
set_option linter.unusedSimpArgs false
def sameL : List S26 → List S26 → Bool
  | [], [] => true
  | x :: a, y :: b => (x.f0 == y.f0 && x.f1 == y.f1) && sameL a b
  | _, _ => false
theorem sameL_iff : ∀ a b : List S26, sameL a b = true ↔ a = b
  | [], [] => ⟨fun _ => rfl, fun _ => rfl⟩
  | [], y :: b => by
    constructor
    · intro h; exact absurd h (by simp [sameL])
    · intro h; cases h
  | x :: a, [] => by
    constructor
    · intro h; exact absurd h (by simp [sameL])
    · intro h; cases h
  | ⟨p, q⟩ :: a, ⟨r, s⟩ :: b => by
    rw [sameL, Bool.and_eq_true, Bool.and_eq_true, beq_iff_eq, beq_iff_eq, sameL_iff a b]
    constructor
    · rintro ⟨⟨h1, h2⟩, rfl⟩
      dsimp only at h1 h2
      rw [h1, h2]
    · intro h
      injection h with h1 h2
      injection h1 with h3 h4
      exact ⟨⟨h3, h4⟩, h2⟩
theorem sameL_length {a b : List S26} (h : a.length ≠ b.length) : sameL a b = false := Bool.eq_false_iff.mpr fun h2 => h (congrArg List.length ((sameL_iff a b).1 h2))
theorem rd26 (a : List S26) (i : Nat) (h : i < a.length) : rd_T26 a (i : Int) = a[i] := by
  unfold rd_T26
  rw [Int.toNat_natCast, List.getD_eq_getElem?_getD, List.getElem?_eq_getElem h]
  rfl
theorem same_step (a b : List S26) (hl : a.length = b.length) (i : Nat) (h : i < a.length) :
    sameL (a.drop i) (b.drop i) = (((rd_T26 a (i : Int)).f0 == (rd_T26 b (i : Int)).f0 && (rd_T26 a (i : Int)).f1 == (rd_T26 b (i : Int)).f1) && sameL (a.drop (i + 1)) (b.drop (i + 1))) := by
  rw [rd26 a i h, rd26 b i (by omega), List.drop_eq_getElem_cons h, List.drop_eq_getElem_cons (show i < b.length by omega), sameL]
theorem same_loop (a b : List S26) (hl : a.length = b.length) (ha : a.length ≤ 100000) : ∀ d (k i : Nat), a.length - i = d → i ≤ a.length → d < k →
    api_Item_61.l0 k a b (a.length : Int) (i : Int) = some (sameL (a.drop i) (b.drop i)) := by
  intro d
  induction d with
  | zero =>
    intro k i h1 h2 h3
    obtain ⟨k, rfl⟩ : ∃ q, k = q + 1 := ⟨k - 1, by omega⟩
    rw [api_Item_61.l0, if_neg (by omega), List.drop_of_length_le (by omega), List.drop_of_length_le (by omega)]
    rfl
  | succ d ih =>
    intro k i h1 h2 h3
    obtain ⟨k, rfl⟩ : ∃ q, k = q + 1 := ⟨k - 1, by omega⟩
    have w1 : wrap64 ((i : Int) + 1) = ((i + 1 : Nat) : Int) := by rw [w64 (by omega) (by omega)]; omega
    rw [api_Item_61.l0, if_pos (by omega), if_pos (by omega), if_pos (by omega), if_pos (by omega), w1, same_step a b hl i (by omega), ih k (i + 1) (by omega) (by omega) (by omega)]
    cases (rd_T26 a (i : Int)).f0 == (rd_T26 b (i : Int)).f0 <;> cases (rd_T26 a (i : Int)).f1 == (rd_T26 b (i : Int)).f1 <;> rfl
theorem same_eq (a b : List S26) (ha : a.length ≤ 100000) (k : Nat) (hk : a.length < k) : api_Item_61.f k a b = some (sameL a b) := by
  unfold api_Item_61.f
  by_cases hl : a.length = b.length
  · rw [if_pos (by omega), show (0 : Int) = ((0 : Nat) : Int) from rfl, same_loop a b hl ha a.length k 0 (by omega) (by omega) hk]
    rfl
  · rw [if_neg (by omega), sameL_length hl]
def sameF (K R S P V : Int) (l : List S26) (K2 R2 S2 P2 V2 : Int) (l2 : List S26) : Bool := (K == K2 && R == R2 && S == S2 && P == P2 && V == V2) && sameL l l2
theorem sameF_iff (K R S P V : Int) (l : List S26) (K2 R2 S2 P2 V2 : Int) (l2 : List S26) : sameF K R S P V l K2 R2 S2 P2 V2 l2 = true ↔ (K = K2 ∧ R = R2 ∧ S = S2 ∧ P = P2 ∧ V = V2 ∧ l = l2) := by
  unfold sameF
  simp only [Bool.and_eq_true, beq_iff_eq, sameL_iff]
  constructor
  · rintro ⟨⟨⟨⟨⟨h1, h2⟩, h3⟩, h4⟩, h5⟩, h6⟩; exact ⟨h1, h2, h3, h4, h5, h6⟩
  · rintro ⟨h1, h2, h3, h4, h5, h6⟩; exact ⟨⟨⟨⟨⟨h1, h2⟩, h3⟩, h4⟩, h5⟩, h6⟩
theorem frame_Same_eq (K R S P V : Int) (l : List S26) (K2 R2 S2 P2 V2 : Int) (l2 : List S26) (hl : l.length ≤ 100000) (k : Nat) (hk : l.length < k) :
    frame_Same.f k K R S P V l K2 R2 S2 P2 V2 l2 = some (sameF K R S P V l K2 R2 S2 P2 V2 l2) := by
  unfold frame_Same.f sameF
  rw [same_eq l l2 hl k hk]
  by_cases h1 : K = K2
  · subst h1
    by_cases h2 : R = R2
    · subst h2
      by_cases h3 : S = S2
      · subst h3
        rw [if_pos rfl, if_pos rfl, if_pos rfl]
        simp only [beq_self_eq_true, Bool.true_and]
        by_cases h4 : (P == P2 && V == V2) = true
        · rw [if_pos h4, h4]; rfl
        · rw [if_neg h4, Bool.eq_false_iff.mpr h4]; rfl
      · rw [if_pos rfl, if_pos rfl, if_neg h3, beq_eq_false_iff_ne.mpr h3]; simp
    · rw [if_pos rfl, if_neg h2, beq_eq_false_iff_ne.mpr h2]; simp
  · rw [if_neg h1, beq_eq_false_iff_ne.mpr h1]; simp
theorem flat_inj : ∀ (a b : List S26), (∀ x ∈ a, itemOk x = true) → (∀ x ∈ b, itemOk x = true) → a.flatMap frameItemL = b.flatMap frameItemL → a = b
  | [], [], _, _, _ => rfl
  | [], y :: b, _, _, h => by
    have := congrArg List.length h
    rw [List.flatMap_cons, List.length_append, frameItemL_length] at this
    simp at this
    omega
  | x :: a, [], _, _, h => by
    have := congrArg List.length h
    rw [List.flatMap_cons, List.length_append, frameItemL_length] at this
    simp at this
  | x :: a, y :: b, ha, hb, h => by
    rw [List.flatMap_cons, List.flatMap_cons] at h
    obtain ⟨e1, e2⟩ := List.append_inj h (by rw [frameItemL_length, frameItemL_length])
    rw [frameItemL_inj (ha x (List.mem_cons_self ..)) (hb y (List.mem_cons_self ..)) e1, flat_inj a b (fun z hz => ha z (List.mem_cons_of_mem _ hz)) (fun z hz => hb z (List.mem_cons_of_mem _ hz)) e2]
theorem frameBits_inj {n : Int} {np : Nat} {K R S P V K2 R2 S2 P2 V2 : Int} {e e2 : List S26} (h : MadeFrame n np K R S P V e) (h2 : MadeFrame n np K2 R2 S2 P2 V2 e2) (hn : n + np ≤ 63) (hb : frameBits K R S P V e = frameBits K2 R2 S2 P2 V2 e2) :
    K = K2 ∧ R = R2 ∧ S = S2 ∧ P = P2 ∧ V = V2 ∧ e = e2 := by
  obtain ⟨p1, p2, p3, p4, p5, p6⟩ := frameBits_parts K R S P V e
  obtain ⟨q1, q2, q3, q4, q5, q6⟩ := frameBits_parts K2 R2 S2 P2 V2 e2
  obtain ⟨r1, r2, r3, r4, r5⟩ := made_nums h hn
  obtain ⟨s1, s2, s3, s4, s5⟩ := made_nums h2 hn
  rw [hb] at p1 p2 p3 p4 p5 p6
  refine ⟨?_, ?_, ?_, ?_, ?_, flat_inj e e2 h.ok h2.ok (p6.symm.trans q6)⟩
  · rw [← r1, ← s1, ← p1, ← q1]
  · rw [← r2, ← s2, ← p2, ← q2]
  · rw [← r3, ← s3, ← p3, ← q3]
  · rw [← r4, ← s4, ← p4, ← q4]
  · rw [← r5, ← s5, ← p5, ← q5]
theorem wrapL_inj {a b : List UInt8} (h : wrapL a = wrapL b) : a = b := by
  have hl := congrArg List.length h
  rw [wrapL_length, wrapL_length] at hl
  unfold wrapL at h
  rw [List.append_assoc, List.append_assoc] at h
  exact (List.append_inj h (by omega)).1
end Go.Proofs.Ytcpohmfkmgcjkaa.P
