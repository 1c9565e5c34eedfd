/- Proves FrameChecks: any frame is checked as the document says; one that may be, with one thing turned, too (no condition on the inputs). -/
import Derived.Test.YtcpohmfkmgcjkaaQFrameChecksRefReads
import Derived.Test.YtcpohmfkmgcjkaaQFrameChecksPx14
namespace Go.Proofs.Ytcpohmfkmgcjkaa.Pure
open Go.RowKit Go.Proofs.Ytcpohmfkmgcjkaa.P Go.Proofs.YtcpohmfkmgcjkaaW.PrintWords Go.Proofs.YtcpohmfkmgcjkaaW.PrintLast
theorem FrameChecks : plaitinglaw5_FrameChecks.Pure := by
  intro N Pi E G F l b0 b1 b2 b3 b4 lb l2 a3 a4 _ _ _ _ _ hl _ _ _ _ _ _ hl2 _ _ _ _
  obtain ⟨n, pi, e, g, f, ps, hm, hk, _⟩ := make_eq 0 N Pi E G F l hl.1
  obtain ⟨K, R, S, P, V, echo, hM, hkM⟩ := make5_eq hm b0 b1 b2 b3 b4 lb l2 hl2
  clear hl2 hl
  obtain ⟨n1, n2, e1, e2, g1, g2, p1, p2, f1, f2, l1, l3⟩ := hm
  have hlen : echo.length ≤ 15 := by rw [hM.len]; split <;> omega
  have hC := made_check pi e g f hM (by omega) (by omega) (by omega)
  have key : ∀ (K R S P V : Int) (l : List S26), l.length ≤ 100 → ((frame_Check.f n pi e g f ps K R S P V l).bind fun a => (plaitingref5_Check.f 399 n pi e g f ps K R S P V l).bind fun b => some (a == b)) = some true := by
    intro K R S P V l h
    rw [r5_Check_eq 399 n pi e g f ps K R S P V l (by omega) (by omega) (by omega) (by omega) (by omega), checkV_eq, Option.bind_some, Option.bind_some, beq_self_eq_true]
  have hj1 : plaitinglaw5_FrameChecks.j1 400 a3 a4 false b0 b1 b2 b3 b4 lb n pi e g f ps K R S P V echo = some true := by
    rw [show (400 : Nat) = 399 + 1 from rfl, plaitinglaw5_FrameChecks.j1, if_neg (by decide), l5_within a3 8 (by decide) (by decide), Option.bind_some]
    have hb := mod_bounds a3 8 (by decide)
    generalize a3 % 8 = t at hb
    have c3 := mod_bounds a4 3 (by decide)
    have c4 := mod_bounds a4 4 (by decide)
    by_cases t0 : t = 0
    · rw [if_pos t0]
      exact key _ _ _ _ _ _ (by omega)
    rw [if_neg t0]
    by_cases t1 : t = 1
    · rw [if_pos t1, Option.bind_some, l5_within a4 3 (by decide) (by decide), Option.bind_some, if_pos c3.1, if_pos (show a4 % 3 < ((([-1, 65536, a4] : List Int).length : Nat) : Int) from c3.2)]
      exact key _ _ _ _ _ _ (by omega)
    rw [if_neg t1]
    by_cases t2 : t = 2
    · rw [if_pos t2, r3_Slots_eq n pi e g f ps (by omega) (by omega) (by omega), Option.bind_some, Option.bind_some, l5_within a4 4 (by decide) (by decide), Option.bind_some, if_pos c4.1, if_pos (show a4 % 4 < ((([-1, n + (ps.length : Int), a4, n] : List Int).length : Nat) : Int) from c4.2)]
      exact key _ _ _ _ _ _ (by omega)
    rw [if_neg t2]
    by_cases t3 : t = 3
    · rw [if_pos t3, l5_within a4 5 (by decide) (by decide), Option.bind_some]
      exact key _ _ _ _ _ _ (by omega)
    rw [if_neg t3]
    by_cases t4 : t = 4
    · rw [if_pos t4, Option.bind_some, l5_within a4 4 (by decide) (by decide), Option.bind_some, if_pos c4.1, if_pos (show a4 % 4 < ((([-1, 256, 1, a4] : List Int).length : Nat) : Int) from c4.2)]
      exact key _ _ _ _ _ _ (by omega)
    rw [if_neg t4]
    by_cases t5 : t = 5
    · rw [if_pos t5, Option.bind_some, if_pos (by rw [List.length_nil]; omega), Option.bind_some, if_pos (by rw [List.nil_append]; omega), Option.bind_some]
      exact key _ _ _ _ _ _ (by rw [List.nil_append, List.length_append, List.length_singleton]; omega)
    rw [if_neg t5]
    by_cases t6 : t = 6
    · rw [if_pos t6]
      by_cases z : (echo.length : Int) > 0
      · have c6 := mod_bounds a4 (echo.length : Int) (by omega)
        rw [if_pos z, l5_within a4 _ (by omega) (by omega), Option.bind_some, if_pos c6.1, if_pos c6.2, Option.bind_some]
        exact key _ _ _ _ _ _ (by rw [List.length_set]; omega)
      · rw [if_neg z]
        exact key _ _ _ _ _ _ (by omega)
    rw [if_neg t6]
    by_cases t7 : t = 7
    · rw [if_pos t7]
      exact key _ _ _ _ _ _ (by rw [List.length_nil]; omega)
    rw [if_neg t7]
    exact key _ _ _ _ _ _ (by omega)
  refine ⟨401, ?_⟩
  unfold plaitinglaw5_FrameChecks.f plaitinglaw5_Few.f
  rw [known5, Option.bind_some, if_pos rfl, Option.bind_some]
  by_cases few : (lb.length : Int) ≤ 30
  · rw [if_pos (decide_eq_true few), show (401 : Nat) = 400 + 1 from rfl, plaitinglaw5_FrameChecks.j0]
    by_cases big : (l.length : Int) > 10
    · rw [if_pos (decide_eq_true big)]
    · rw [if_neg (by rw [decide_eq_false big]; decide), show (400 : Nat) = 394 + 6 from rfl, hk 394, Option.bind_some]
      show ((plaitinglaw5_Make.f (340 + 60) n pi e g f ps b0 b1 b2 b3 b4 lb l2).bind _) = _
      rw [hkM 340, Option.bind_some]
      show ((frame_Check.f n pi e g f ps b0 b1 b2 b3 b4 lb).bind fun a => (plaitingref5_Check.f 400 n pi e g f ps b0 b1 b2 b3 b4 lb).bind fun b => if a = b then ((frame_Check.f n pi e g f ps K R S P V echo).bind fun c => plaitinglaw5_FrameChecks.j1 400 a3 a4 (c != 0) b0 b1 b2 b3 b4 lb n pi e g f ps K R S P V echo) else _) = _
      rw [r5_Check_eq 400 n pi e g f ps b0 b1 b2 b3 b4 lb (by omega) (by omega) (by omega) (by omega) (by omega), checkV_eq, Option.bind_some, Option.bind_some, if_pos rfl, hC, Option.bind_some]
      exact hj1
  · rw [if_neg (by rw [decide_eq_false few]; decide), show (401 : Nat) = 400 + 1 from rfl, plaitinglaw5_FrameChecks.j0, if_pos rfl]
end Go.Proofs.Ytcpohmfkmgcjkaa.Pure
