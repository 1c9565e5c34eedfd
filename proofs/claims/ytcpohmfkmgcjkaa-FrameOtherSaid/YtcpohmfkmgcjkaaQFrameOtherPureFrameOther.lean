/- Proves FrameOther: a frame that says again what was taken is none of a network with other slots (no condition on the inputs). -/
import Derived.Test.YtcpohmfkmgcjkaaQFrameOtherRefs
import Derived.Test.YtcpohmfkmgcjkaaQFrameOtherPx25
namespace Go.Proofs.Ytcpohmfkmgcjkaa.Pure
open Go.RowKit Go.Proofs.Ytcpohmfkmgcjkaa.P Go.Proofs.YtcpohmfkmgcjkaaW.PrintWords Go.Proofs.YtcpohmfkmgcjkaaW.PrintLast
theorem make5_three {n pi e g f : Int} {ps : List Int} (h : MadeConf n pi e g f ps) (b1 b2 b3 b4 : Int) (lb : List S26) (l2 : List Int) (s0 : 0 ≤ b2) (s1 : b2 < 6) :
    ∃ R P V echo, MadeFrame n ps.length 3 R b2 P V echo ∧ ∀ k, plaitinglaw5_Make.f (k + 60) n pi e g f ps 2 b1 b2 b3 b4 lb l2 = some (3, R, b2, P, V, echo) := by
  obtain ⟨n1, n2, e1, e2, g1, g2, p1, p2, f1, f2, l1, l3⟩ := h
  have m1 := mod_bounds b1 65536 (by decide)
  have hb2 : b2 % (n + ps.length) = b2 := Int.emod_eq_of_lt s0 (by omega)
  have hf : ∀ k, plaitinglaw5_Make.f (k + 60) n pi e g f ps 2 b1 b2 b3 b4 lb l2 = plaitinglaw5_Make.j0 (k + 60) l2 n pi e g f ps 2 b1 b2 b3 b4 lb 3 (b1 % 65536) b2 0 0 := by
    intro k
    unfold plaitinglaw5_Make.f
    rw [l5_within 2 3 (by decide) (by decide), Option.bind_some, l5_within b1 65536 (by decide) (by decide), Option.bind_some, r3_Slots_eq _ _ _ _ _ _ (by omega) (by omega) (by omega), Option.bind_some, l5_within b2 _ (by omega) (by omega), Option.bind_some, hb2, if_neg (by omega), show wrap64 (1 + (2 : Int) % 3) = 3 from by decide +kernel]
  obtain ⟨a, b, hit, hok, hval⟩ := item5_eq b4 true
  have hv := hval rfl
  generalize b1 % 65536 = R at *
  obtain ⟨echo, hel, heo, hek⟩ := make5_loop n pi e g f ps l2 n1 n2 l1 0 0 0 0 0 0 3 R b2 a b (by omega) (n + ps.length).toNat 0 [] (by omega) (by simp) (by omega)
  refine ⟨R, a, b, echo, ⟨by decide, by decide, m1.1, by omega, s0, by omega, fun _ => rfl, fun _ => hv, fun h => absurd rfl h, by rw [hel, if_pos ⟨rfl, by omega⟩]; simp, heo (fun x hx => by cases hx)⟩, fun k => ?_⟩
  rw [hf, plaitinglaw5_Make.j0, if_pos rfl, show k + 59 = (k + 56) + 3 from rfl, hit, Option.bind_some]
  exact hek _ (by omega)
theorem other_tail (k : Nat) {n pi e g f : Int} {ps : List Int} {R S P V : Int} {echo : List S26} (qs : List Int) (hM : MadeFrame n ps.length 3 R S P V echo) (h1 : 6 ≤ n) (h2 : n ≤ 12) (h3 : ps.length ≤ 3) (h4 : qs.length ≤ 3) (hne : qs.length ≠ ps.length) (hS : S < 6) (hk : 1000 < k) :
    plaitinglaw5_FrameOther.tail k n pi e g f ps 3 R S P V echo n pi e g f qs = some true := by
  have hlen : echo.length = (n + ps.length).toNat := by rw [hM.len, if_pos ⟨rfl, by omega⟩]
  have hs0 := hM.s1
  have hr0 := hM.r1
  have hr1 := hM.r2
  have hw : wrap64 (n + (qs.length : Int)) = n + qs.length := w64 (by omega) (by omega)
  have hE : frame_echoesV n qs.length 3 S = n + qs.length := by unfold frame_echoesV; rw [if_pos ⟨rfl, by omega⟩, hw]
  have hT : frame_Text.f n pi e g f ps 3 R S P V echo = some (ofL (wrapL (frameBits 3 R S P V echo))) := by unfold frame_Text.f; rw [if_pos (by omega)]
  have hR : readL n pi e g f qs (wrapL (frameBits 3 R S P V echo)) = readE 2 := by
    obtain ⟨p1, p2, p3, p4, p5, p6⟩ := frameBits_parts 3 R S P V echo
    obtain ⟨q1, q2, q3, q4, q5⟩ := made_nums hM (by omega)
    unfold readL
    rw [openL_wrapL _ (frameBits_bit _ _ _ _ _ _)]
    show readB n pi e g f qs (frameBits 3 R S P V echo) = _
    unfold readB
    rw [p1, p3, q1, q3, hE, frameBits_length, if_neg (by omega), if_neg (by omega)]
  have hC : frame_Check.f n pi e g f qs 3 R S P V echo = some 2 := by
    unfold frame_Check.f
    rw [hw, hE, if_neg (by omega), if_neg (by omega), if_neg (by rw [if_pos rfl, hM.pay rfl]; decide), if_pos (by omega)]
  unfold plaitinglaw5_FrameOther.tail
  rw [hT, Option.bind_some, frame_Read_eq n pi e g f qs _ (by omega) (by omega) (by omega) (by rw [ofL_size, wrapL_length, frameBits_length]; omega), toL_ofL, hR, Option.bind_some, if_pos rfl, if_pos hS]
  show (if (2 : Int) = 2 then _ else _) = _
  rw [if_pos rfl, hC, Option.bind_some, if_pos rfl, r3_Slots_eq _ _ _ _ _ _ (by omega) (by omega) (by omega), Option.bind_some, r3_Slots_eq _ _ _ _ _ _ (by omega) (by omega) (by omega), Option.bind_some, if_neg (by omega), ref5_Same_eq _ _ _ _ _ _ _ _ _ _ _ _ (by omega) k (by omega), Option.bind_some, (sameF_iff ..).2 ⟨rfl, rfl, rfl, rfl, rfl, rfl⟩]
theorem FrameOther : plaitinglaw5_FrameOther.Pure := by
  intro N Pi E G F l b0 b1 b2 b3 b4 lb l2 a3 _ _ _ _ _ hl _ _ _ _ _ _ _ _ _ _
  obtain ⟨n, pi, e, g, f, ps, hm, hk, _⟩ := make_eq 0 N Pi E G F l hl.1
  clear hl
  have m2 := mod_bounds b2 6 (by decide)
  obtain ⟨R, P, V, echo, hM, hkM⟩ := make5_three hm b1 (b2 % 6) b3 b4 lb l2 m2.1 m2.2
  obtain ⟨k0, hk0⟩ : ∃ k0 : Nat, k0 = 3999930 := ⟨_, rfl⟩
  obtain ⟨n1, n2, e1, e2, g1, g2, p1, p2, f1, f2, l1, _⟩ := hm
  refine ⟨k0 + 71, ?_⟩
  unfold plaitinglaw5_FrameOther.f
  rw [known5, Option.bind_some, if_pos rfl, show k0 + 71 = (k0 + 65) + 6 from rfl, hk (k0 + 65), Option.bind_some, l5_within b2 6 (by decide) (by decide), Option.bind_some]
  show ((plaitinglaw5_Make.f ((k0 + 11) + 60) n pi e g f ps 2 b1 (b2 % 6) b3 b4 lb l2).bind _) = _
  rw [hkM (k0 + 11), Option.bind_some]
  show plaitinglaw5_FrameOther.mid (k0 + 71) n pi e g f ps 3 R (b2 % 6) P V echo a3 = some true
  unfold plaitinglaw5_FrameOther.mid
  by_cases hp : 0 < ps.length
  · rw [if_pos hp]
    exact other_tail (k0 + 71) _ hM n1 n2 l1 (by rw [List.length_take]; omega) (by rw [List.length_take]; omega) m2.2 (by omega)
  · rw [if_neg hp, l5_within a3 6 (by decide) (by decide), Option.bind_some]
    exact other_tail (k0 + 71) _ hM n1 n2 l1 (by simp) (by simp; omega) m2.2 (by omega)
end Go.Proofs.Ytcpohmfkmgcjkaa.Pure
