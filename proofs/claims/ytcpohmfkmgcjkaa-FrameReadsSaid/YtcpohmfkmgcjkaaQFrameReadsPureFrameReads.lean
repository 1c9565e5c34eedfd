/- Proves FrameReads: any text, a frame's with symbols turned, cut off, wrapped anew, with others laid in, is read, or refused, as the document says (no condition on the inputs). -/
import Derived.Test.YtcpohmfkmgcjkaaQFrameReadsRefReads
import Derived.Test.YtcpohmfkmgcjkaaQFrameReadsTurns
import Derived.Test.YtcpohmfkmgcjkaaQFrameReadsPx23
namespace Go.Proofs.Ytcpohmfkmgcjkaa.Pure
open Go.RowKit Go.Proofs.Ytcpohmfkmgcjkaa.P Go.Proofs.YtcpohmfkmgcjkaaW.PrintWords Go.Proofs.YtcpohmfkmgcjkaaW.PrintLast
theorem readT_items (n pi e g f : Int) (ps : List Int) (K R S P V : Int) (l : List S26) : (readT n pi e g f ps K R S P V l).2.2.2.2.2.1.length ≤ l.length := by
  unfold readT
  split
  · exact Nat.le_refl _
  · exact Nat.zero_le _
theorem readL_items (n pi e g f : Int) (ps : List Int) (l : List UInt8) : (readL n pi e g f ps l).2.2.2.2.2.1.length ≤ l.length := by
  have hl := openL_length l
  unfold readL
  split
  · unfold readB
    split
    · exact Nat.zero_le _
    · split
      · refine Nat.le_trans (readT_items ..) ?_
        rw [itemsL_length]
        omega
      · exact Nat.zero_le _
  · exact Nat.zero_le _
theorem reads_loop (n pi e g f : Int) (ps : List Int) (h1 : 0 ≤ n) (h2 : n ≤ 1000) (h3 : ps.length ≤ 1000) (xs : List ByteArray) (hx : ∀ x ∈ xs, x.size ≤ 1000) (hl : xs.length ≤ 1000) : ∀ d (k i : Nat), xs.length - i = d → i ≤ xs.length → 3000000 + d < k →
    plaitinglaw5_FrameReads.l0 k xs (i : Int) n pi e g f ps = some true := by
  intro d
  induction d with
  | zero =>
    intro k i a1 a2 a3
    obtain ⟨k, rfl⟩ : ∃ q, k = q + 1 := ⟨k - 1, by omega⟩
    rw [plaitinglaw5_FrameReads.l0, if_neg (by omega)]
  | succ d ih =>
    intro k i a1 a2 a3
    obtain ⟨k, rfl⟩ : ∃ q, k = q + 1 := ⟨k - 1, by omega⟩
    have hi : i < xs.length := by omega
    have w1 : wrap64 ((i : Int) + 1) = ((i + 1 : Nat) : Int) := by rw [w64 (by omega) (by omega)]; omega
    have hr : rdOf ByteArray.empty xs (i : Int) = xs[i] := by
      unfold rdOf
      rw [Int.toNat_natCast, List.getD_eq_getElem?_getD, List.getElem?_eq_getElem hi]
      rfl
    have hs := hx _ (List.getElem_mem hi)
    have hq := readL_items n pi e g f ps (toL xs[i])
    rw [toL_length] at hq
    rw [plaitinglaw5_FrameReads.l0, if_pos (by omega), if_pos (by omega), hr, frame_Read_eq n pi e g f ps _ h1 h2 h3 (by omega), Option.bind_some, r5_Read_eq k n pi e g f ps _ h1 h2 h3 (by omega) (by omega), Option.bind_some, if_pos rfl]
    generalize readL n pi e g f ps (toL xs[i]) = r at hq
    obtain ⟨K, R, S, P, V, l, er⟩ := r
    dsimp only at hq ⊢
    rw [ref5_Same_eq K R S P V l K R S P V l (by omega) k (by omega), Option.bind_some, if_pos ((sameF_iff ..).2 ⟨rfl, rfl, rfl, rfl, rfl, rfl⟩), w1]
    exact ih k (i + 1) (by omega) (by omega) (by omega)
theorem k80 (k0 : Nat) (h : k0 = 3999930) : 80 < k0 + 70 := by omega
set_option maxHeartbeats 4000000 in
theorem FrameReads : plaitinglaw5_FrameReads.Pure := by
  intro N Pi E G F l b0 b1 b2 b3 b4 lb l2 a3 a4 l5 a6 _ _ _ _ _ hl _ _ _ _ _ _ hl2 _ _ _ _ hl5 _ _ _
  obtain ⟨n, pi, e, g, f, ps, hm, hk, _⟩ := make_eq 0 N Pi E G F l hl.1
  obtain ⟨K, R, S, P, V, echo, hM, hkM⟩ := make5_eq hm b0 b1 b2 b3 b4 lb l2 hl2
  obtain ⟨k0, hk0⟩ : ∃ k0 : Nat, k0 = 3999930 := ⟨_, rfl⟩
  have hT5 := text_eq (k0 + 70) l5 hl5 (k80 k0 hk0)
  clear hl2 hl hl5
  obtain ⟨n1, n2, e1, e2, g1, g2, p1, p2, f1, f2, l1, l3⟩ := hm
  have hlen : echo.length ≤ 15 := by rw [hM.len]; split <;> omega
  have hX := r5_Text_eq (k0 + 70) n pi e g f ps K R S P V echo (by omega) (by omega)
  have hFl : (frameBits K R S P V echo).length = 34 + 10 * echo.length := frameBits_length ..
  have hFb : ∀ c ∈ frameBits K R S P V echo, isBit c = true := frameBits_bit _ _ _ _ _ _
  have h5 := textL_length l5
  generalize frameBits K R S P V echo = FB at hX hFl hFb
  have hs : (wrapL FB).length = 51 + 10 * echo.length := by rw [wrapL_length]; omega
  have hfront : (wrapL FB).take FB.length = FB := by unfold wrapL; rw [List.append_assoc, List.take_left]
  refine ⟨k0 + 70, ?_⟩
  unfold plaitinglaw5_FrameReads.f
  rw [known5, Option.bind_some, if_pos rfl]
  by_cases h200 : (a6.size : Int) > 200
  · rw [if_pos h200]
  rw [if_neg h200, show k0 + 70 = (k0 + 64) + 6 from rfl, hk (k0 + 64), Option.bind_some]
  show ((plaitinglaw5_Make.f ((k0 + 10) + 60) n pi e g f ps b0 b1 b2 b3 b4 lb l2).bind _) = _
  rw [hkM (k0 + 10), Option.bind_some]
  show ((plaitingref5_Text.f (k0 + 70) n pi e g f ps K R S P V echo).bind _) = _
  rw [hX, Option.bind_some, ofL_size, hs]
  have w1 : Aside0 (wrap64 (((51 + 10 * echo.length : Nat) : Int) + 1) = ((52 + 10 * echo.length : Nat) : Int)) := ⟨by rw [w64 (by omega) (by omega)]; omega⟩
  have w2 : Aside0 (wrap64 (((51 + 10 * echo.length : Nat) : Int) - 17) = (FB.length : Int)) := ⟨by rw [w64 (by omega) (by omega)]; omega⟩
  have x1 : (ofL (wrapL FB)).extract 0 FB.length = ofL FB := by rw [extract_ofL, toL_ofL, hfront]
  obtain ⟨t22, h22⟩ := Int.eq_ofNat_of_zero_le (mod_bounds a4 ((52 + 10 * echo.length : Nat) : Int) (by omega)).1
  have b22 := (mod_bounds a4 ((52 + 10 * echo.length : Nat) : Int) (by omega)).2
  obtain ⟨t23, h23⟩ := Int.eq_ofNat_of_zero_le (mod_bounds a3 (FB.length : Int) (by omega)).1
  have b23 := (mod_bounds a3 (FB.length : Int) (by omega)).2
  obtain ⟨t25, h25⟩ := Int.eq_ofNat_of_zero_le (mod_bounds a3 ((51 + 10 * echo.length : Nat) : Int) (by omega)).1
  have b25 := (mod_bounds a3 ((51 + 10 * echo.length : Nat) : Int) (by omega)).2
  obtain ⟨t29, h29⟩ := Int.eq_ofNat_of_zero_le (mod_bounds a4 (FB.length : Int) (by omega)).1
  have b29 := (mod_bounds a4 (FB.length : Int) (by omega)).2
  obtain ⟨t32, h32⟩ := Int.eq_ofNat_of_zero_le (mod_bounds a4 ((FB.length + 1 : Nat) : Int) (by omega)).1
  have b32 := (mod_bounds a4 ((FB.length + 1 : Nat) : Int) (by omega)).2
  obtain ⟨t34, h34⟩ := Int.eq_ofNat_of_zero_le (mod_bounds a3 20 (by decide)).1
  have b34 := (mod_bounds a3 20 (by decide)).2
  rw [h22] at b22
  rw [h23] at b23
  rw [h25] at b25
  rw [h29] at b29
  rw [h32] at b32
  rw [h34] at b34
  have w3 : Aside0 (wrap64 ((FB.length : Int) + 1) = ((FB.length + 1 : Nat) : Int)) := ⟨by rw [w64 (by omega) (by omega)]; omega⟩
  have w4 : Aside0 (wrap64 (1 + (t34 : Int)) = ((t34 + 1 : Nat) : Int)) := ⟨by rw [w64 (by omega) (by omega)]; omega⟩
  have hT1 := r1_Turn_eq (k0 + 69) FB (by omega) t23 (by omega)
  have hT2 := r1_Turn_eq (k0 + 69) (wrapL FB) (by omega) t25 (by omega)
  have hB1 := turnL_bits hFb t23
  have hL1 : (turnL FB t23).length = FB.length := turnL_length ..
  have hT3 := r1_Turn_eq (k0 + 69) (turnL FB t23) (by omega) t29 (by omega)
  have hB2 := turnL_bits hB1 t29
  have hL2 : (turnL (turnL FB t23) t29).length = FB.length := (turnL_length ..).trans hL1
  have hL3 : (turnL (wrapL FB) t25).length = 51 + 10 * echo.length := (turnL_length ..).trans hs
  generalize turnL FB t23 = T1 at hT1 hB1 hL1 hT3 hB2 hL2
  generalize turnL T1 t29 = T3 at hT3 hB2 hL2
  generalize turnL (wrapL FB) t25 = T2 at hT2 hL3
  have hW1 := r2_Wrap_eq k0 T1 (by omega) hB1 (by omega)
  have hW3 := r2_Wrap_eq k0 T3 (by omega) hB2 (by omega)
  have hW4 := r2_Wrap_eq k0 (FB.take t32) (by rw [List.length_take]; omega) (fun c hc => hFb c (List.mem_of_mem_take hc)) (by rw [List.length_take]; omega)
  have hBt := r1_Bits_eq k0 a4 (t34 + 1) (by omega) (by omega)
  have hW5 := r2_Wrap_eq k0 (FB ++ bitsL a4 (t34 + 1)) (by rw [List.length_append, bitsL_length]; omega) (fun c hc => by
    rcases List.mem_append.1 hc with h | h
    · exact hFb c h
    · exact bitsL_bit _ _ c h) (by rw [List.length_append, bitsL_length]; omega)
  rw [w1.out, l5_within a4 _ (by omega) (by omega), Option.bind_some, w2.out, if_pos (by omega), if_pos (by omega), Int.toNat_natCast, x1, ofL_size, l5_within a3 _ (by omega) (by omega), Option.bind_some, h23]
  show ((plaitingref1_Turn.f ((k0 + 69) + 1) (ofL FB) (t23 : Int)).bind _) = _
  rw [hT1, Option.bind_some, l5_within a3 _ (by omega) (by omega), Option.bind_some, h25]
  show ((plaitingref1_Turn.f ((k0 + 69) + 1) (ofL (wrapL FB)) (t25 : Int)).bind _) = _
  rw [hT2, Option.bind_some, h22, if_pos (by omega), if_pos (by omega)]
  show ((plaitinglaw1_Text.f (k0 + 70) l5).bind _) = _
  rw [hT5, Option.bind_some, Int.toNat_natCast]
  have x2 : (ofL (wrapL FB)).extract 0 t22 = ofL ((wrapL FB).take t22) := by rw [extract_ofL, toL_ofL]
  have x3 : (ofL (wrapL FB)).extract t22 (51 + 10 * echo.length) = ofL ((wrapL FB).drop t22) := by rw [extract_ofL2, ← hs, List.take_of_length_le (Nat.le_refl _)]
  have y1 : ((wrapL FB).take t22).length = t22 := by rw [List.length_take]; omega
  have y2 : ((wrapL FB).drop t22).length = 51 + 10 * echo.length - t22 := by rw [List.length_drop]; omega
  rw [x2, x3, ofL_append, ofL_append, ofL_size, ofL_size, ofL_size, ofL_size, List.length_append, y1, y2, if_pos (by omega), if_pos (by omega)]
  show ((plaitingref2_Wrap.f (k0 + 70) (ofL T1)).bind _) = _
  rw [hW1, Option.bind_some, ofL_size, hL1, l5_within a4 _ (by omega) (by omega), Option.bind_some, h29]
  show ((plaitingref1_Turn.f ((k0 + 69) + 1) (ofL T1) (t29 : Int)).bind _) = _
  rw [hT3, Option.bind_some]
  show ((plaitingref2_Wrap.f (k0 + 70) (ofL T3)).bind _) = _
  rw [hW3, Option.bind_some, w3.out, l5_within a4 _ (by omega) (by omega), Option.bind_some, h32, if_pos (by omega), if_pos (by omega), Int.toNat_natCast]
  have x4 : (ofL FB).extract 0 t32 = ofL (FB.take t32) := by rw [extract_ofL, toL_ofL]
  rw [x4]
  show ((plaitingref2_Wrap.f (k0 + 70) (ofL (FB.take t32))).bind _) = _
  rw [hW4, Option.bind_some, l5_within a3 20 (by decide) (by decide), Option.bind_some, h34, w4.out]
  show ((plaitingref1_Bits.f (k0 + 70) a4 ((t34 + 1 : Nat) : Int)).bind _) = _
  rw [hBt, Option.bind_some, ofL_size, bitsL_length, if_pos (by omega), ofL_append]
  show ((plaitingref2_Wrap.f (k0 + 70) (ofL (FB ++ bitsL a4 (t34 + 1)))).bind _) = _
  rw [hW5, Option.bind_some]
  refine reads_loop n pi e g f ps (by omega) (by omega) (by omega) _ ?_ (by simp) 8 (k0 + 70) 0 rfl (by simp) (by omega)
  intro x hx
  simp only [List.mem_cons, List.not_mem_nil, or_false] at hx
  rcases hx with rfl | rfl | rfl | rfl | rfl | rfl | rfl | rfl
  · rw [ofL_size]; omega
  · rw [ofL_size]; omega
  · rw [ofL_size, List.length_append, List.length_append]; omega
  · omega
  · rw [ofL_size, wrapL_length]; omega
  · rw [ofL_size, wrapL_length]; omega
  · rw [ofL_size, wrapL_length, List.length_take]; omega
  · rw [ofL_size, wrapL_length, List.length_append, bitsL_length]; omega
end Go.Proofs.Ytcpohmfkmgcjkaa.Pure
