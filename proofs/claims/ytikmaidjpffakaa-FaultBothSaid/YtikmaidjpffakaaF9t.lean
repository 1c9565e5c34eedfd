/- FaultBoth: the plain law. -/
import Derived.Test.YtikmaidjpffakaaF5a
import Derived.Test.YtikmaidjpffakaaF6p
namespace Go.Proofs.YtikmaidjpffakaaE
open Go
set_option linter.unusedVariables false
set_option linter.unusedSimpArgs false
set_option maxRecDepth 100000

theorem ends_link {n k : Int} (h1 : 6 ≤ n) (h2 : n ≤ 12) (h3 : 0 ≤ k) (h4 : k < 2 * n) : s_linkO n (s_endA n k) (s_endB n k) = some k ∧ s_linkO n (s_endB n k) (s_endA n k) = some k ∧ 0 ≤ s_endA n k ∧ s_endA n k < n ∧ 0 ≤ s_endB n k ∧ s_endB n k < n := by
  have key : ((List.range 7).all fun m => (List.range 24).all fun k => !(decide (k < 2 * (m + 6))) || decide (s_linkO ((m + 6 : Nat) : Int) (s_endA ((m + 6 : Nat) : Int) k) (s_endB ((m + 6 : Nat) : Int) k) = some (k : Int) ∧ s_linkO ((m + 6 : Nat) : Int) (s_endB ((m + 6 : Nat) : Int) k) (s_endA ((m + 6 : Nat) : Int) k) = some (k : Int) ∧
    0 ≤ s_endA ((m + 6 : Nat) : Int) k ∧ s_endA ((m + 6 : Nat) : Int) k < ((m + 6 : Nat) : Int) ∧ 0 ≤ s_endB ((m + 6 : Nat) : Int) k ∧ s_endB ((m + 6 : Nat) : Int) k < ((m + 6 : Nat) : Int))) = true := by decide +kernel
  have := List.all_eq_true.1 (List.all_eq_true.1 key (n - 6).toNat (by simp; omega)) k.toNat (by simp; omega)
  have d1 : decide (k.toNat < 2 * ((n - 6).toNat + 6)) = true := decide_eq_true (by omega)
  rw [d1] at this
  have := of_decide_eq_true this
  rwa [show (((n - 6).toNat + 6 : Nat) : Int) = n by omega, show (k.toNat : Int) = k by omega] at this
abbrev act0 : List (List AV) := [[AV.int IntKind.i64 (0 : Int), AV.int IntKind.i64 (0 : Int), AV.str (ByteArray.mk #[])]]
theorem act0_ok : s_actsOk act0 := by
  refine ⟨by decide, fun r hr => ?_⟩
  obtain rfl : r = _ := List.mem_singleton.1 hr
  exact ⟨by decide, by decide⟩
theorem emit2 {r sl dst : Int} {b : ByteArray} (h0 : 0 ≤ r) (h1 : r < 1000) (hd : 0 ≤ 17 * r + 5 * sl + dst) : s_emit true 0 1000 act0 r sl dst b = ByteArray.mk #[] := by
  unfold s_emit
  have hk : s_rem (17 * r + 5 * sl + dst) (act0.length : Nat) = 0 := by show (17 * r + 5 * sl + dst) % (1 : Int) = 0; omega
  rw [hk, if_neg (by simp; omega), if_neg (by simp only [List.length_cons, List.length_nil]; omega)]
  unfold s_done
  rw [if_neg (by decide), if_neg (by decide), if_neg (by decide)]
theorem both_holds (n pi e g fi : Int) (nl : Bool) (rs : List (List AV)) (li a b ro : Int) : inlW Try.prog H0 S9 6 (InO Try.prog H0 S9 6 6) 8 [cf n pi e g fi nl rs, .int .i64 li, .int .i64 a, .int .i64 b, .int .i64 ro] [] (fun r => r.1 = .bool true) := by
  refine to (nf8 ..) ?_
  intro n' pi' e' g' fi' nl' ps hm
  have hc : s_confOk n' pi' e' g' fi' (List.map (fun r => (r.getD (0 : Nat) AV.gone).toI) (List.map (fun n => [AV.int IntKind.i64 n]) ps)) = true := cfMade_ok hm
  have hn := hm.1
  have hn2 := hm.2.1
  clear hm
  rw [wr (x := 2 * n') (by omega) (by omega)]
  have rK := rem_lt li (show (0 : Int) < 2 * n' by omega)
  have rA := rem_lt a (show (0 : Int) < n' by omega)
  have rB := rem_lt b (show (0 : Int) < n' by omega)
  have rR := rem_lt ro (show (0 : Int) < 999 by omega)
  obtain ⟨l1, l2, x1, x2, y1, y2⟩ := ends_link hn hn2 rK.1 rK.2
  generalize s_rem li (2 * n') = K at *
  generalize s_rem a n' = A at *
  generalize s_rem b n' = B at *
  generalize s_rem ro 999 = r at *
  generalize s_endA n' K = X at *
  generalize s_endB n' K = Y at *
  have h1 : s_hit n' 2 K X Y = true := by simp [s_hit, s_linkB, s_linkN, l1]
  have h2 : s_hit n' 2 K Y X = true := by simp [s_hit, s_linkB, s_linkN, l2]
  have h3 : s_hit n' 2 K A B = (s_linkB n' A B && (s_linkN n' A B == K)) := by simp [s_hit]
  have h4 : ∀ z, s_right 2 K 1000 r z = true := fun z => by simp [s_right]
  rw [h1, h2, h3]
  simp only [h4]
  rw [emit2 rR.1 (by omega) (by omega), emit2 rR.1 (by omega) (by omega)]
  have g1 : ∀ d : Int, 0 ≤ d → d < n' → (s_confOk n' pi' e' g' fi' (List.map (fun r => (r.getD (0 : Nat) AV.gone).toI) (List.map (fun n => [AV.int IntKind.i64 n]) ps)) = true ∧ (0 : Int) ≤ r ∧ r ≤ 1000000 ∧ (0 : Int) ≤ 0 ∧ (0 : Int) ≤ 1000000 ∧ 0 ≤ d ∧ d ≤ 1000000 ∧ (1 : Int) ≤ 2305843009213693952 ∧ s_actsOk act0) :=
    fun d d1 d2 => ⟨hc, rR.1, by omega, by omega, by omega, d1, by omega, by omega, act0_ok⟩
  have gX := Hyp.mk (g1 X x1 x2)
  have gY := Hyp.mk (g1 Y y1 y2)
  have gB := Hyp.mk (g1 B rB.1 rB.2)
  refine chk_iff.2 ⟨by omega, .mk ⟨by omega, by omega, rK.1, rK.2⟩, chk_iff.2 ⟨by omega, chk_iff.2 ⟨by omega, .mk ⟨hn, hn2, rA.1, rA.2, rB.1, rB.2⟩, .mk (by omega), ?_⟩⟩⟩
  have hnn : Hyp ((0 : Int) < n' ∧ n' ≤ 1000) := .mk (by omega)
  have e0 : ∀ {dst : Int} {b : ByteArray}, s_emit false 0 1000 act0 r 0 dst b = b := emit0
  have eT : ∀ {b : ByteArray}, s_emit true 0 1000 act0 r 0 B b = ByteArray.mk #[] := emit2 rR.1 (by omega) (by omega)
  cases hL : s_linkB n' A B with
  | true =>
    cases hM : (s_linkN n' A B == K) with
    | true => simp only [Bool.and_self, br_t, br_f, beq_self_eq_true]; exact ⟨hnn, hnn, gY, gX, trivial⟩
    | false => simp only [Bool.and_false, br_t, br_f, beq_self_eq_true, Bool.not_true, e0]; exact ⟨hnn, hnn, gY, gX, gB, trivial⟩
  | false =>
    simp only [Bool.false_and, br_t, br_f, beq_self_eq_true, Bool.not_false]
    exact ⟨hnn, hnn, gY, gX, trivial⟩
end Go.Proofs.YtikmaidjpffakaaE
