/- Proves ArbPairs: in a pair slot what a neighbour has is compared, and counts so; its bare copy does not (no condition on the inputs). -/
import Derived.Test.YtcpohmfkmgcjkaaQArbPairsPicks
import Derived.Test.YtcpohmfkmgcjkaaQArbPairsPx37
namespace Go.Proofs.Ytcpohmfkmgcjkaa.Pure
open Go.RowKit Go.Proofs.Ytcpohmfkmgcjkaa.P Go.Proofs.YtcpohmfkmgcjkaaW.PrintWords Go.Proofs.YtcpohmfkmgcjkaaW.PrintLast
theorem a10_within (a n : Int) (hn : 0 < n) (hb : n ≤ 1000000000000) : plaitinglaw10_within.f a n = some (a % n) := within_gen a n hn hb
theorem known10 (k : Nat) (hk : 30000 < k) : plaitinglaw10_known.f k = some true := by
  unfold plaitinglaw10_known.f
  rw [r5_Text_eq k 6 4 0 0 0 [] 1 0 2 0 0 [] (by simp) hk, show arb_Pick.f 6 4 0 0 0 [] 0 0 ⟨#[]⟩ ⟨#[]⟩ ⟨#[]⟩ 0 ⟨#[]⟩ ⟨#[]⟩ ⟨#[]⟩ 0 = some (0, 0, 0, 0, 0, [], false) from by rfl]
  have hm : MadeFrame 6 ([] : List Int).length 1 0 2 0 0 [] := ⟨by decide, by decide, by decide, by decide, by decide, by decide, by decide, by decide, by decide, by decide, by simp⟩
  rw [Option.bind_some, Option.bind_some, arb_Right_eq 6 4 0 0 0 [] 0 2 _ (by decide) (by decide) (by simp) (by decide) (by decide) (by decide) (by decide) (by rw [ofL_size, wrapL_length, frameBits_length]; simp), toL_ofL, show ((0 : Int) + 0) % 65536 = 0 from rfl, rightL_made 4 0 0 0 hm (by decide) (by simp), Option.bind_some]
  rfl
set_option maxHeartbeats 4000000 in
theorem ArbPairs : plaitinglaw10_ArbPairs.Pure := by
  intro N Pi E G F l v r w _ _ _ _ _ _ _ _ _
  obtain ⟨n, pi, e, g, f, ps, hm, hk, hps⟩ := make_eq 0 N Pi E G F [2] (by decide)
  obtain ⟨k0, hk0⟩ : ∃ k0 : Nat, k0 = 3999930 := ⟨_, rfl⟩
  obtain ⟨n1, n2, e1, e2, g1, g2, p1, p2, f1, f2, l1, l3⟩ := hm
  have hl1 : ps.length = 1 := by rw [hps]; rfl
  have m1 := mod_bounds v 256 (by decide)
  have m2 := mod_bounds r 100 (by decide)
  have m3 := mod_bounds w 3 (by decide)
  generalize v % 256 = V at m1
  have hvm := a10_within v 256 (by decide) (by decide)
  refine ⟨k0 + 71, ?_⟩
  unfold plaitinglaw10_ArbPairs.f
  rw [known10 (k0 + 71) (by omega), Option.bind_some, if_pos rfl, show k0 + 71 = (k0 + 65) + 6 from rfl, hk (k0 + 65), Option.bind_some, a10_within r 100 (by decide) (by decide), Option.bind_some]
  rw [arb_Wire3_eq n pi e g f ps _ f1 f2 m2.1 (by omega), Option.bind_some, a10_within v 256 (by decide) (by decide), Option.bind_some]
  have m1' := mod_bounds v 256 (by decide)
  generalize v % 256 = V at m1'
  generalize r % 100 = q at m2
  have mW := mod_bounds (f + q) 65536 (by decide)
  have hWW : Aside0 ((f + q) % 65536 = (f + q) % 65536) := ⟨rfl⟩
  have hM : MadeFrame n ps.length 3 ((f + q) % 65536) n 2 V [] := ⟨by decide, by decide, mW.1, by omega, by omega, by omega, fun _ => rfl, fun _ => itemVal_two V m1'.1 (by omega), fun h => absurd rfl h, by rw [if_neg (by omega)]; rfl, by simp⟩
  have hX := r5_Text_eq (k0 + 71) n pi e g f ps 3 ((f + q) % 65536) n 2 V [] (by simp) (by omega)
  have hG := rgL_made pi e g f hM (by omega) (by omega)
  have hS := frameBits_length 3 ((f + q) % 65536) n 2 V []
  show ((plaitingref5_Text.f (k0 + 71) n pi e g f ps 3 ((f + q) % 65536) n 2 V []).bind _) = _
  rw [hX, Option.bind_some, a10_within w 3 (by decide) (by decide), Option.bind_some]
  have hsz : (ofL (wrapL (frameBits 3 ((f + q) % 65536) n 2 V []))).size = 51 := by rw [ofL_size, wrapL_length, hS]; rfl
  generalize ofL (wrapL (frameBits 3 ((f + q) % 65536) n 2 V [])) = s at hG hsz
  have hE : ∀ W slot B, rgL n pi e g f ps W slot B ⟨#[]⟩ = [] := fun W slot B => rgL_not n pi e g f ps W slot B _ (rightL_err _ _ _ _ _ _ _ _ _ (readL_short _ _ _ _ _ _ _ (by decide)))
  have hC : ∀ W slot B, rgL n pi e g f ps W slot B (s.extract 0 9) = [] := fun W slot B => rgL_not n pi e g f ps W slot B _ (rightL_err _ _ _ _ _ _ _ _ _ (readL_short _ _ _ _ _ _ _ (by rw [toL_length, ByteArray.size_extract]; omega)))
  have hd : decide (n ≥ n) = true := decide_eq_true (Int.le_refl n)
  have hsame := ref5_Same_eq 3 ((f + q) % 65536) n 2 V [] 3 ((f + q) % 65536) n 2 V [] (by simp) (k0 + 71) (by simp)
  rw [(sameF_iff ..).2 ⟨rfl, rfl, rfl, rfl, rfl, rfl⟩] at hsame
  by_cases h1 : w % 3 = 1
  · rw [if_pos h1, if_pos (by decide), if_pos (by omega), arb_Pick_eq n pi e g f ps q n s _ _ 1 _ _ _ 0 (by omega) (by omega) (by omega) f1 f2 m2.1 (by omega) (by omega) (by rw [ByteArray.size_extract]; omega) (by decide) (by decide), hd, hC, hE, hE]
    rw [show rgL n pi e g f ps ((f + q) % 65536) n ((1 : Int) == 1 && !true) s = [] from rgL_off ..]
    show ((some ((0 : Int), (0 : Int), (0 : Int), (0 : Int), (0 : Int), ([] : List S26), false)).bind _) = _
    rw [Option.bind_some, Option.bind_some, h1]
    rfl
  · rw [if_neg h1]
    by_cases h2 : w % 3 = 2
    · rw [if_pos h2, arb_Pick_eq n pi e g f ps q n s _ _ 1 _ _ _ 4 (by omega) (by omega) (by omega) f1 f2 m2.1 (by omega) (by omega) (by decide) (by decide) (by omega), hd, hE, hE]
      rw [show rgL n pi e g f ps ((f + q) % 65536) n (decide ((4 : Int) ≥ 2) || ((4 : Int) == 1 && true)) s = _ from hG]
      show ((some (3, (f + q) % 65536, n, 2, V, ([] : List S26), true)).bind _) = _
      rw [Option.bind_some, Option.bind_some, h2]
      dsimp only
      rw [if_pos (by decide), if_pos rfl]
      show ((plaitingref5_Same.f (k0 + 71) 3 ((f + q) % 65536) n 2 V [] 3 ((f + q) % 65536) n 2 V []).bind _) = _
      rw [hsame]
      rfl
    · rw [if_neg h2, arb_Pick_eq n pi e g f ps q n s _ _ 1 _ _ _ 0 (by omega) (by omega) (by omega) f1 f2 m2.1 (by omega) (by omega) (by omega) (by decide) (by decide), hd, hE, hE]
      rw [show rgL n pi e g f ps ((f + q) % 65536) n (decide ((1 : Int) ≥ 2) || ((1 : Int) == 1 && true)) s = _ from hG]
      show ((some (3, (f + q) % 65536, n, 2, V, ([] : List S26), true)).bind _) = _
      rw [Option.bind_some, Option.bind_some]
      dsimp only
      rw [if_pos (by rw [beq_iff_eq, eq_comm, bne_iff_ne]; exact h1), if_pos rfl]
      show ((plaitingref5_Same.f (k0 + 71) 3 ((f + q) % 65536) n 2 V [] 3 ((f + q) % 65536) n 2 V []).bind _) = _
      rw [hsame]
      rfl
end Go.Proofs.Ytcpohmfkmgcjkaa.Pure
