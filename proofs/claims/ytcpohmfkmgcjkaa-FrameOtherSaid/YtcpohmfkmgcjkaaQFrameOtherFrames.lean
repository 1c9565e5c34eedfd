/- Plain lemmas on frames: what Make makes of a raw one. -/
import Derived.Test.YtcpohmfkmgcjkaaQFrameOtherConfs
import Derived.Test.YtcpohmfkmgcjkaaQFrameOtherPx12
namespace Go.Proofs.Ytcpohmfkmgcjkaa.P
open Go.RowKit Go.Proofs.YtcpohmfkmgcjkaaW.PrintWords Go.Proofs.YtcpohmfkmgcjkaaW.PrintLast Go.Proofs.YtcpohmfkmgcjkaaW.PrintMore
attribute [local go_sem] max2_int min2_int max_two min_two max_three min_three max_four min_four
set_option linter.unusedVariables false
set_option linter.unusedSimpArgs false
theorem l5_within (a n : Int) (hn : 0 < n) (hb : n ≤ 1000000000000) : plaitinglaw5_within.f a n = some (a % n) := within_gen a n hn hb
theorem known5 : plaitinglaw5_known.f = some true := by
  unfold plaitinglaw5_known.f frame_Text.f
  rw [if_pos (by decide), Option.bind_some, if_pos (by rw [ofL_size, wrapL_length, frameBits_length]; decide), show frame_Check.f 6 4 0 0 0 [] 0 0 0 0 0 [] = some 6 from by decide +kernel]
  rfl
def itemOk (x : S26) : Bool := itemEmp x || itemVal x
theorem itemVal_two (b : Int) (h0 : 0 ≤ b) (h1 : b < 256) : itemVal ⟨2, b⟩ = true := by
  unfold itemVal
  show ((2 : Int) == 1 && b == 0 || ((2 : Int) == 2 && (decide (0 ≤ b) && decide (b ≤ 255)))) = true
  rw [decide_eq_true h0, decide_eq_true (show b ≤ 255 by omega)]
  rfl
theorem item5_eq (n : Int) (c : Bool) : ∃ a b, (∀ k, plaitinglaw5_Item.f (k + 3) n c = some (a, b)) ∧ itemOk ⟨a, b⟩ = true ∧ (c = true → itemVal ⟨a, b⟩ = true) := by
  have h3 := mod_bounds n 3 (by decide)
  have h256 := mod_bounds (wrap64 (Int.tdiv n 3)) 256 (by decide)
  have hw := l5_within (wrap64 (Int.tdiv n 3)) 256 (by decide) (by decide)
  have hv := itemVal_two _ h256.1 h256.2
  have ho : itemOk ⟨2, wrap64 (Int.tdiv n 3) % 256⟩ = true := by unfold itemOk; rw [hv, Bool.or_true]
  have hf : ∀ k, plaitinglaw5_Item.f (k + 3) n c = if c = true then plaitinglaw5_Item.j0 (k + 3) n (n % 3) (n % 3 == 0) else plaitinglaw5_Item.j0 (k + 3) n (n % 3) false := by
    intro k
    unfold plaitinglaw5_Item.f
    rw [l5_within n 3 (by decide) (by decide), Option.bind_some]
  have hj : ∀ k b, plaitinglaw5_Item.j0 (k + 3) n (n % 3) b = if b = true then some (2, wrap64 (Int.tdiv n 3) % 256) else if n % 3 = 2 then some (n % 3, wrap64 (Int.tdiv n 3) % 256) else some (n % 3, 0) := by
    intro k b
    rw [plaitinglaw5_Item.j0, hw]
    rfl
  by_cases e2 : n % 3 = 2
  · refine ⟨2, wrap64 (Int.tdiv n 3) % 256, fun k => ?_, ho, fun _ => hv⟩
    rw [hf, hj, hj, e2]
    cases c <;> rfl
  · by_cases e0 : n % 3 = 0
    · cases c with
      | true =>
        refine ⟨2, wrap64 (Int.tdiv n 3) % 256, fun k => ?_, ho, fun _ => hv⟩
        rw [hf, hj, hj, e0]
        rfl
      | false =>
        refine ⟨0, 0, fun k => ?_, rfl, fun h => absurd h (by decide)⟩
        rw [hf, hj, hj, e0]
        rfl
    · have e1 : n % 3 = 1 := by omega
      refine ⟨1, 0, fun k => ?_, rfl, fun _ => rfl⟩
      rw [hf, hj, hj, e1]
      cases c <;> rfl
structure MadeFrame (n : Int) (np : Nat) (K R S P V : Int) (echo : List S26) : Prop where
  k1 : 1 ≤ K
  k2 : K ≤ 3
  r1 : 0 ≤ R
  r2 : R ≤ 65535
  s1 : 0 ≤ S
  s2 : S < n + np
  pair : n ≤ S → K = 3
  pay : K = 3 → itemVal ⟨P, V⟩ = true
  nopay : K ≠ 3 → P = 0 ∧ V = 0
  len : echo.length = if K = 3 ∧ S < n then (n + np).toNat else 0
  ok : ∀ x ∈ echo, itemOk x = true
set_option maxHeartbeats 4000000 in
theorem make5_loop (n pi e g f : Int) (ps l2 : List Int) (hn : 6 ≤ n) (hn2 : n ≤ 12) (hp : ps.length ≤ 3) (b0 b1 b2 b3 b4 b5 c0 c1 c2 c3 c4 : Int) (hS : c2 < n) :
    ∀ d (i : Nat) (acc : List S26), (n + ps.length).toNat - i = d → acc.length ≤ i → i ≤ (n + ps.length).toNat → ∃ echo : List S26, echo.length = acc.length + d ∧ ((∀ x ∈ acc, itemOk x = true) → ∀ x ∈ echo, itemOk x = true) ∧
      ∀ k, 2 * d + 8 ≤ k → plaitinglaw5_Make.l0 k l2 (i : Int) n pi e g f ps c0 c1 c2 c3 c4 acc = some (c0, c1, c2, c3, c4, echo) := by
  intro d
  induction d with
  | zero =>
    intro i acc h1 h2 h3
    refine ⟨acc, by simp, fun h => h, fun k hk => ?_⟩
    obtain ⟨k, rfl⟩ : ∃ m, k = m + 2 := ⟨k - 2, by omega⟩
    rw [plaitinglaw5_Make.l0, r3_Slots_eq _ _ _ _ _ _ (by omega) (by omega) (by omega), Option.bind_some, if_neg (by omega), plaitinglaw5_Make.j2, if_neg (by decide)]
  | succ d ih =>
    intro i acc h1 h2 h3
    have hi : (i : Int) < n + ps.length := by omega
    have w1 : wrap64 ((i : Int) + 1) = ((i + 1 : Nat) : Int) := by rw [w64 (by omega) (by omega)]; omega
    have w2 : wrap64 (1 + (i : Int)) = ((i + 1 : Nat) : Int) := by rw [w64 (by omega) (by omega)]; omega
    have step : ∀ (v : Int) (k : Nat), (∀ K, 8 ≤ K → plaitinglaw5_Make.j2 (K + 1) l2 (i : Int) true n pi e g f ps c0 c1 c2 c3 c4 acc = (plaitinglaw5_Item.f K v false).bind fun t => if acc.length < 8796093022208 then plaitinglaw5_Make.l0 K l2 (wrap64 ((i : Int) + 1)) n pi e g f ps c0 c1 c2 c3 c4 (acc ++ [⟨t.1, t.2⟩]) else none) →
        ∃ echo : List S26, echo.length = acc.length + (d + 1) ∧ ((∀ x ∈ acc, itemOk x = true) → ∀ x ∈ echo, itemOk x = true) ∧ ∀ k, 2 * (d + 1) + 8 ≤ k → plaitinglaw5_Make.l0 k l2 (i : Int) n pi e g f ps c0 c1 c2 c3 c4 acc = some (c0, c1, c2, c3, c4, echo) := by
      intro v _ hj
      obtain ⟨a, b, hit, hok, _⟩ := item5_eq v false
      obtain ⟨echo, hel, heo, hek⟩ := ih (i + 1) (acc ++ [⟨a, b⟩]) (by omega) (by rw [List.length_append]; simp; omega) (by omega)
      refine ⟨echo, by rw [hel, List.length_append]; simp; omega, fun h => heo (fun x hx => ?_), fun k hk => ?_⟩
      · rcases List.mem_append.1 hx with h' | h'
        · exact h x h'
        · rw [List.mem_singleton] at h'; subst h'; exact hok
      · obtain ⟨k, rfl⟩ : ∃ m, k = m + 2 := ⟨k - 2, by omega⟩
        obtain ⟨m, rfl⟩ : ∃ m, k = m + 3 := ⟨k - 3, by omega⟩
        rw [plaitinglaw5_Make.l0, r3_Slots_eq _ _ _ _ _ _ (by omega) (by omega) (by omega), Option.bind_some, if_pos hi, decide_eq_true hS, hj (m + 3) (by omega), hit, Option.bind_some, if_pos (by omega), w1]
        exact hek (m + 3) (by omega)
    by_cases hz : (l2.length : Int) > 0
    · have t0 : 0 ≤ Int.tmod (i : Int) (l2.length : Int) := by rw [Int.tmod_eq_emod_of_nonneg (by omega)]; exact Int.emod_nonneg _ (by omega)
      have t1 : Int.tmod (i : Int) (l2.length : Int) < (l2.length : Int) := Int.tmod_lt_of_pos _ hz
      refine step (wrap64 ((wrap64 (Int.tdiv (rd l2 (Int.tmod (i : Int) (l2.length : Int))) (wrap64 (1 + (i : Int))))) + (i : Int))) 0 (fun K _ => ?_)
      rw [plaitinglaw5_Make.j2, if_pos rfl, if_pos hz, if_neg (by omega), if_pos t0, if_pos t1, if_neg (by rw [w2]; omega)]
    · refine step (i : Int) 0 (fun K _ => ?_)
      rw [plaitinglaw5_Make.j2, if_pos rfl, if_neg hz]
end Go.Proofs.Ytcpohmfkmgcjkaa.P
