/- Proves ArbRight: of any text whether it is a frame of that round and slot, and which, is the document's (no condition on the inputs). -/
import Derived.Test.YtcpohmfkmgcjkaaQArbRightArbs
import Derived.Test.YtcpohmfkmgcjkaaQArbRightTurns
import Derived.Test.YtcpohmfkmgcjkaaQArbRightPx32
namespace Go.Proofs.Ytcpohmfkmgcjkaa.Pure
open Go.RowKit Go.Proofs.Ytcpohmfkmgcjkaa.P Go.Proofs.YtcpohmfkmgcjkaaW.PrintWords Go.Proofs.YtcpohmfkmgcjkaaW.PrintLast
theorem a10_within (a n : Int) (hn : 0 < n) (hb : n ≤ 1000000000000) : plaitinglaw10_within.f a n = some (a % n) := within_gen a n hn hb
theorem known10 (k : Nat) (hk : 30000 < k) : plaitinglaw10_known.f k = some true := by
  unfold plaitinglaw10_known.f
  rw [r5_Text_eq k 6 4 0 0 0 [] 1 0 2 0 0 [] (by simp) hk, show arb_Pick.f 6 4 0 0 0 [] 0 0 ⟨#[]⟩ ⟨#[]⟩ ⟨#[]⟩ 0 ⟨#[]⟩ ⟨#[]⟩ ⟨#[]⟩ 0 = some (0, 0, 0, 0, 0, [], false) from by rfl]
  have hm : MadeFrame 6 ([] : List Int).length 1 0 2 0 0 [] := ⟨by decide, by decide, by decide, by decide, by decide, by decide, by decide, by decide, by decide, by decide, by simp⟩
  rw [Option.bind_some, Option.bind_some, arb_Right_eq 6 4 0 0 0 [] 0 2 _ (by decide) (by decide) (by simp) (by decide) (by decide) (by decide) (by decide) (by rw [ofL_size, wrapL_length, frameBits_length]; simp), toL_ofL, show ((0 : Int) + 0) % 65536 = 0 from rfl, rightL_made 4 0 0 0 hm (by decide) (by simp), Option.bind_some]
  rfl
theorem right_step (k : Nat) (n pi e g f : Int) (ps : List Int) (r slot : Int) (s : ByteArray) (h1 : 0 ≤ n) (h2 : n ≤ 1000) (h3 : ps.length ≤ 1000) (f1 : 0 ≤ f) (f2 : f ≤ 65535) (r1 : 0 ≤ r) (r2 : r ≤ 1073741824) (hs : s.size ≤ 1000) (hk : 3000000 ≤ k) (X : Option Bool) :
    ((arb_Right.f n pi e g f ps r slot s).bind fun x => (plaitingref10_Right.f k n pi e g f ps r slot s).bind fun y => if (x.2.2.2.2.2.2 != y.2.2.2.2.2.2) = true then some false else (plaitingref5_Same.f k x.1 x.2.1 x.2.2.1 x.2.2.2.1 x.2.2.2.2.1 x.2.2.2.2.2.1 y.1 y.2.1 y.2.2.1 y.2.2.2.1 y.2.2.2.2.1 y.2.2.2.2.2.1).bind fun t => if t = true then X else some false) = X := by
  have hq := rightL_items n pi e g f ps ((f + r) % 65536) slot (toL s)
  rw [toL_length] at hq
  rw [arb_Right_eq n pi e g f ps r slot s h1 h2 h3 f1 f2 r1 r2 (by omega), Option.bind_some, r10_Right_eq k n pi e g f ps r slot s h1 h2 h3 f1 f2 r1 r2 (by omega) hk, Option.bind_some]
  generalize rightL n pi e g f ps ((f + r) % 65536) slot (toL s) = q at hq
  obtain ⟨K, R, S, P, V, l, b⟩ := q
  dsimp only at hq ⊢
  rw [if_neg (by simp), ref5_Same_eq K R S P V l K R S P V l (by omega) k (by omega), Option.bind_some, if_pos ((sameF_iff ..).2 ⟨rfl, rfl, rfl, rfl, rfl, rfl⟩)]
theorem right_loop (n pi e g f : Int) (ps : List Int) (a4 r : Int) (h1 : 0 < n) (h2 : n ≤ 1000) (h3 : ps.length ≤ 1000) (f1 : 0 ≤ f) (f2 : f ≤ 65535) (r1 : 0 ≤ r) (r2 : r ≤ 1073741824) (K R S P V : Int) (echo : List S26) (xs : List ByteArray) (hx : ∀ x ∈ xs, x.size ≤ 1000) (hl : xs.length = 4) : ∀ d (k i : Nat), 4 - i = d → i ≤ 4 → 3000000 + 4 * d < k →
    plaitinglaw10_ArbRight.l0 k a4 r xs (i : Int) n pi e g f ps K R S P V echo = some true := by
  intro d
  induction d with
  | zero =>
    intro k i q1 q2 q3
    obtain ⟨k, rfl⟩ : ∃ q, k = q + 1 := ⟨k - 1, by omega⟩
    rw [plaitinglaw10_ArbRight.l0, if_neg (by omega)]
  | succ d ih =>
    intro k i q1 q2 q3
    obtain ⟨k, rfl⟩ : ∃ q, k = q + 4 := ⟨k - 4, by omega⟩
    have hi : i < xs.length := by omega
    have w1 : wrap64 ((i : Int) + 1) = ((i + 1 : Nat) : Int) := by rw [w64 (by omega) (by omega)]; omega
    have hr : rdOf ByteArray.empty xs (i : Int) = xs[i] := by
      unfold rdOf
      rw [Int.toNat_natCast, List.getD_eq_getElem?_getD, List.getElem?_eq_getElem hi]
      rfl
    have hs := hx _ (List.getElem_mem hi)
    have m1 := mod_bounds a4 (n + ps.length) (by omega)
    have hsl := r3_Slots_eq n pi e g f ps (by omega) h2 h3
    have hwi := a10_within a4 (n + ps.length) (by omega) (by omega)
    have e1 : wrap64 ((0 : Int) + 1) = 1 := by decide +kernel
    have e2 : wrap64 ((1 : Int) + 1) = 2 := by decide +kernel
    rw [plaitinglaw10_ArbRight.l0, if_pos (by omega), plaitinglaw10_ArbRight.l1, if_pos (by decide), hsl, Option.bind_some, hwi, Option.bind_some, Option.bind_some, if_pos (by decide), if_pos (by simp), if_pos (by omega), if_pos (by omega), hr, right_step (k + 2) n pi e g f ps r _ _ (by omega) h2 h3 f1 f2 r1 r2 hs (by omega), e1]
    rw [plaitinglaw10_ArbRight.l1, if_pos (by decide), hsl, Option.bind_some, hwi, Option.bind_some, Option.bind_some, if_pos (by decide), if_pos (by simp), if_pos (by omega), if_pos (by omega), hr, right_step (k + 1) n pi e g f ps r _ _ (by omega) h2 h3 f1 f2 r1 r2 hs (by omega), e2]
    rw [plaitinglaw10_ArbRight.l1, if_neg (by decide), w1]
    exact ih k (i + 1) (by omega) (by omega) (by omega)
theorem right_j0 (n pi e g f : Int) (ps : List Int) (a4 a5 : Int) (l6 : List Int) (a7 : ByteArray) (r : Int) (h1 : 0 < n) (h2 : n ≤ 1000) (h3 : ps.length ≤ 1000) (f1 : 0 ≤ f) (f2 : f ≤ 65535) (r1 : 0 ≤ r) (r2 : r ≤ 1073741824) (K R S P V : Int) (echo : List S26) (he : echo.length ≤ 15) (h7 : a7.size ≤ 200) (h6 : l6.length ≤ maxLen) (k0 : Nat) (hk0 : k0 = 3999930) :
    plaitinglaw10_ArbRight.j0 (k0 + 71) a4 a5 l6 a7 r n pi e g f ps K R S P V echo = some true := by
  have hT := text_eq (k0 + 70) l6 h6 (by omega)
  clear h6
  have h6 := textL_length l6
  have hX := r5_Text_eq (k0 + 70) n pi e g f ps K R S P V echo (by omega) (by omega)
  have hFl : (frameBits K R S P V echo).length = 34 + 10 * echo.length := frameBits_length ..
  have hs : (wrapL (frameBits K R S P V echo)).length = 51 + 10 * echo.length := by rw [wrapL_length]; omega
  generalize wrapL (frameBits K R S P V echo) = WB at hX hs
  obtain ⟨t, ht⟩ := Int.eq_ofNat_of_zero_le (mod_bounds a5 ((51 + 10 * echo.length : Nat) : Int) (by omega)).1
  have bt := (mod_bounds a5 ((51 + 10 * echo.length : Nat) : Int) (by omega)).2
  rw [ht] at bt
  have hU := r1_Turn_eq (k0 + 69) WB (by omega) t (by omega)
  have hL : (turnL WB t).length = 51 + 10 * echo.length := (turnL_length ..).trans hs
  rw [plaitinglaw10_ArbRight.j0, hX, Option.bind_some, ofL_size, hs, a10_within a5 _ (by omega) (by omega), Option.bind_some, ht]
  show ((plaitingref1_Turn.f ((k0 + 69) + 1) (ofL WB) (t : Int)).bind _) = _
  rw [hU, Option.bind_some, hT, Option.bind_some]
  refine right_loop n pi e g f ps a4 r h1 h2 h3 f1 f2 r1 r2 K R S P V echo _ ?_ rfl 4 (k0 + 70) 0 rfl (by omega) (by omega)
  intro x hx
  simp only [List.mem_cons, List.not_mem_nil, or_false] at hx
  rcases hx with rfl | rfl | rfl | rfl
  · rw [ofL_size]; omega
  · rw [ofL_size]; omega
  · rw [ofL_size]; omega
  · omega
set_option maxHeartbeats 4000000 in
theorem ArbRight : plaitinglaw10_ArbRight.Pure := by
  intro N Pi E G F l b0 b1 b2 b3 b4 lb l2 a3 a4 a5 l6 a7 _ _ _ _ _ hl _ _ _ _ _ _ hl2 _ _ _ _ _ hl6 _ _ _
  obtain ⟨n, pi, e, g, f, ps, hm, hk, _⟩ := make_eq 0 N Pi E G F l hl.1
  obtain ⟨K, R, S, P, V, echo, hM, hkM⟩ := make5_eq hm b0 b1 b2 b3 b4 lb l2 hl2
  obtain ⟨k0, hk0⟩ : ∃ k0 : Nat, k0 = 3999930 := ⟨_, rfl⟩
  obtain ⟨n1, n2, e1, e2, g1, g2, p1, p2, f1, f2, l1, l3⟩ := hm
  have hJ := fun (R' : Int) (h7 : a7.size ≤ 200) (r : Int) (r1 : 0 ≤ r) (r2 : r ≤ 1073741824) (he : echo.length ≤ 15) (h1 : 0 < n) (h2 : n ≤ 1000) (h3 : ps.length ≤ 1000) => right_j0 n pi e g f ps a4 a5 l6 a7 r h1 h2 h3 f1 f2 r1 r2 K R' S P V echo he h7 hl6 k0 hk0
  clear hl2 hl hl6
  have hlen : echo.length ≤ 15 := by rw [hM.len]; split <;> omega
  have m2 := mod_bounds a3 200 (by decide)
  refine ⟨k0 + 71, ?_⟩
  unfold plaitinglaw10_ArbRight.f
  rw [known10 (k0 + 71) (by omega), Option.bind_some, if_pos rfl]
  by_cases h200 : (a7.size : Int) > 200
  · rw [if_pos h200]
  rw [if_neg h200, show k0 + 71 = (k0 + 65) + 6 from rfl, hk (k0 + 65), Option.bind_some, a10_within a3 200 (by decide) (by decide), Option.bind_some]
  show ((plaitinglaw5_Make.f ((k0 + 11) + 60) n pi e g f ps b0 b1 b2 b3 b4 lb l2).bind _) = _
  rw [hkM (k0 + 11), Option.bind_some, a10_within a5 3 (by decide) (by decide), Option.bind_some]
  split
  · rw [arb_Wire3_eq n pi e g f ps _ f1 f2 m2.1 (by omega), Option.bind_some]
    exact hJ _ (by omega) _ m2.1 (by omega) hlen (by omega) (by omega) (by omega)
  · exact hJ _ (by omega) _ m2.1 (by omega) hlen (by omega) (by omega) (by omega)
end Go.Proofs.Ytcpohmfkmgcjkaa.Pure
