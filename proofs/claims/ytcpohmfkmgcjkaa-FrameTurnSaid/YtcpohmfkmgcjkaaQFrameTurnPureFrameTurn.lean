/- Proves FrameTurn: a made frame with one symbol another one, or two, is refused, whichever they are (no condition on the inputs). -/
import Derived.Test.YtcpohmfkmgcjkaaQFrameTurnReads
import Derived.Test.YtcpohmfkmgcjkaaQFrameTurnErrs
import Derived.Test.YtcpohmfkmgcjkaaQFrameTurnPx26
namespace Go.Proofs.Ytcpohmfkmgcjkaa.Pure
open Go.RowKit Go.Proofs.Ytcpohmfkmgcjkaa.P Go.Proofs.YtcpohmfkmgcjkaaW.PrintWords Go.Proofs.YtcpohmfkmgcjkaaW.PrintLast
theorem turnL_front (b : List UInt8) (i : Nat) (hi : i < b.length) : turnL (b ++ [35]) i = turnL b i ++ [35] := by
  show (b ++ [35]).take i ++ (((b ++ [35]).drop i).take 1).map turnC ++ (b ++ [35]).drop (i + 1) = b.take i ++ ((b.drop i).take 1).map turnC ++ b.drop (i + 1) ++ [35]
  rw [List.take_append_of_le_length (by omega), List.drop_append_of_le_length (by omega), List.drop_append_of_le_length (by omega), List.take_append_of_le_length (by rw [List.length_drop]; omega), List.append_assoc, List.append_assoc, List.append_assoc]
theorem turnL_twice (b : List UInt8) (hb : ∀ c ∈ b, isBit c = true) (i : Nat) (hi : i < b.length) : turnL (turnL b i) i = b := by
  have e2 : turnL b i = b.take i ++ turnC b[i] :: b.drop (i + 1) := by
    show b.take i ++ ((b.drop i).take 1).map turnC ++ b.drop (i + 1) = _
    rw [List.drop_eq_getElem_cons hi, List.append_assoc]
    rfl
  have hl : (b.take i).length = i := by rw [List.length_take]; omega
  have e3 : turnC (turnC b[i]) = b[i] := by
    rcases bit_cases (hb _ (List.getElem_mem hi)) with h | h <;> rw [h] <;> rfl
  rw [e2]
  show (b.take i ++ turnC b[i] :: b.drop (i + 1)).take i ++ (((b.take i ++ turnC b[i] :: b.drop (i + 1)).drop i).take 1).map turnC ++ (b.take i ++ turnC b[i] :: b.drop (i + 1)).drop (i + 1) = b
  have d1 : (b.take i ++ turnC b[i] :: b.drop (i + 1)).drop (i + 1) = b.drop (i + 1) := by
    rw [show i + 1 = i + 1 from rfl, ← List.drop_drop, List.drop_left' hl]
    rfl
  rw [List.take_left' hl, List.drop_left' hl, d1]
  show b.take i ++ [turnC (turnC b[i])] ++ b.drop (i + 1) = b
  rw [e3, List.append_assoc]
  show b.take i ++ b[i] :: b.drop (i + 1) = b
  rw [← List.drop_eq_getElem_cons hi, List.take_append_drop]
theorem open_bad (b : List UInt8) (hb : ∀ c ∈ b, isBit c = true) (h16 : 16 ≤ b.length) (hz : runB 65535#16 (bitsOf b) ≠ 0#16) : openL (b ++ [35]) = ([], 5) := by
  have hw : wholeL (b ++ [35]) = true := (wholeL_iff _).2 ⟨b, rfl, hb⟩
  have hl : (b ++ [35]).length = b.length + 1 := by rw [List.length_append]; rfl
  unfold openL
  rw [if_pos hw, hl, if_neg (by omega), if_neg]
  intro h
  have e1 : (b ++ [35]).take (b.length + 1 - 17) = b.take (b.length - 16) := by
    rw [List.take_append_of_le_length (by omega)]
    congr 1
  have e2 : ((b ++ [35]).drop (b.length + 1 - 17)).take 16 = b.drop (b.length - 16) := by
    rw [List.drop_append_of_le_length (by omega), List.take_append_of_le_length (by rw [List.length_drop]; omega), List.take_of_length_le (by rw [List.length_drop]; omega)]
    congr 1
  rw [e1, e2] at h
  have := full_zero (b.take (b.length - 16)) _ (fun x hx => hb x (List.mem_of_mem_take hx)) h
  rw [List.take_append_drop] at this
  exact hz this
theorem read_bad (n pi e g f : Int) (ps : List Int) (l : List UInt8) (c : Int) (hc : c ≠ 0) (h : openL l = ([], c)) : readL n pi e g f ps l = readE c := by
  unfold readL
  rw [h, if_neg hc]
theorem FrameTurn : plaitinglaw5_FrameTurn.Pure := by
  intro N Pi E G F l b0 b1 b2 b3 b4 lb l2 a3 a4 _ _ _ _ _ hl _ _ _ _ _ _ hl2 _ _ _ _
  obtain ⟨n, pi, e, g, f, ps, hm, hk, _⟩ := make_eq 0 N Pi E G F l hl.1
  obtain ⟨K, R, S, P, V, echo, hM, hkM⟩ := make5_eq hm b0 b1 b2 b3 b4 lb l2 hl2
  clear hl2 hl
  obtain ⟨n1, n2, e1, e2, g1, g2, p1, p2, f1, f2, l1, l3⟩ := hm
  have hlen : echo.length ≤ 15 := by rw [hM.len]; split <;> omega
  have hT : frame_Text.f n pi e g f ps K R S P V echo = some (ofL (wrapL (frameBits K R S P V echo))) := by
    unfold frame_Text.f
    rw [if_pos (by omega)]
  have hRM := readL_made pi e g f hM (by omega) (by omega)
  have hFl : (frameBits K R S P V echo).length = 34 + 10 * echo.length := frameBits_length ..
  have hFb : ∀ c ∈ frameBits K R S P V echo, isBit c = true := frameBits_bit _ _ _ _ _ _
  generalize frameBits K R S P V echo = FB at hT hFl hFb hRM
  have hBb : ∀ c ∈ FB ++ bitsL (crcL FB) 16, isBit c = true := by
    intro c hc
    rcases List.mem_append.1 hc with h | h
    · exact hFb c h
    · exact bitsL_bit _ _ c h
  have hz : runB 65535#16 (bitsOf (FB ++ bitsL (crcL FB) 16)) = 0#16 := full_zero FB _ hFb rfl
  have hW : wrapL FB = (FB ++ bitsL (crcL FB) 16) ++ [35] := rfl
  have hBl : (FB ++ bitsL (crcL FB) 16).length = 50 + 10 * echo.length := by rw [List.length_append, bitsL_length]; omega
  rw [hW] at hT hRM
  generalize FB ++ bitsL (crcL FB) 16 = B at hT hRM hBb hz hBl
  clear hW hFb hFl
  obtain ⟨a, ha⟩ := Int.eq_ofNat_of_zero_le (mod_bounds a3 ((50 + 10 * echo.length : Nat) : Int) (by omega)).1
  have ba := (mod_bounds a3 ((50 + 10 * echo.length : Nat) : Int) (by omega)).2
  obtain ⟨b, hb⟩ := Int.eq_ofNat_of_zero_le (mod_bounds a4 ((50 + 10 * echo.length : Nat) : Int) (by omega)).1
  have bb := (mod_bounds a4 ((50 + 10 * echo.length : Nat) : Int) (by omega)).2
  rw [ha] at ba
  rw [hb] at bb
  have hL : (B ++ [35]).length = 51 + 10 * echo.length := by rw [List.length_append, List.length_singleton]; omega
  have hTl : (turnL B a).length = B.length := turnL_length ..
  have hTb := turnL_bits hBb a
  have hT2l : (turnL (turnL B a) b).length = B.length := (turnL_length ..).trans hTl
  have hT2b := turnL_bits hTb b

  have u1 := r1_Turn_eq 400 (B ++ [35]) (by omega) a (by omega)
  rw [turnL_front B a (by omega)] at u1
  have u2 := r1_Turn_eq 400 (turnL B a ++ [35]) (by rw [List.length_append, List.length_singleton]; omega) b (by rw [List.length_append, List.length_singleton]; omega)
  rw [turnL_front (turnL B a) b (by omega)] at u2
  have u3 := r1_Turn_eq 400 (B ++ [35]) (by omega) (50 + 10 * echo.length) (by omega)
  have rd_of : ∀ x : List UInt8, x.length ≤ 1000 → frame_Read.f n pi e g f ps (ofL x) = some (readL n pi e g f ps x) := by
    intro x hx
    rw [frame_Read_eq n pi e g f ps _ (by omega) (by omega) (by omega) (by rw [ofL_size]; omega), toL_ofL]
  have z1 : runB 65535#16 (bitsOf (turnL B a)) ≠ 0#16 := by
    rw [bitsOf_turn B hBb a (by omega), hz, BitVec.zero_xor]
    exact one_error _
  have r1 : frame_Read.f n pi e g f ps (ofL (turnL B a ++ [35])) = some (readE 5) := by
    rw [rd_of _ (by rw [List.length_append, List.length_singleton]; omega), read_bad n pi e g f ps _ 5 (by decide) (open_bad _ hTb (by omega) z1)]
  have r3 : frame_Read.f n pi e g f ps (ofL (turnL (B ++ [35]) (50 + 10 * echo.length))) = some (readE 4) := by
    have hnw : wholeL (turnL (B ++ [35]) (50 + 10 * echo.length)) = false := by
      rw [Bool.eq_false_iff]
      intro hw
      obtain ⟨c, hc, hcb⟩ := (wholeL_iff _).1 hw
      have e5 : turnL (B ++ [35]) (50 + 10 * echo.length) = B ++ [48] := by
        show (B ++ [35]).take _ ++ (((B ++ [35]).drop _).take 1).map turnC ++ (B ++ [35]).drop (50 + 10 * echo.length + 1) = B ++ [48]
        rw [← hBl, List.take_left, List.drop_left, List.drop_of_length_le (by rw [List.length_append, List.length_singleton]; omega), List.append_nil]
        rfl
      rw [e5] at hc
      have := (List.append_inj' hc rfl).2
      exact absurd this (by decide)
    have ho : openL (turnL (B ++ [35]) (50 + 10 * echo.length)) = ([], 4) := by
      unfold openL
      rw [if_neg (by rw [hnw]; decide)]
    rw [rd_of _ (by rw [turnL_length]; omega), read_bad n pi e g f ps _ 4 (by decide) ho]
  have r2 : (a ≠ b → frame_Read.f n pi e g f ps (ofL (turnL (turnL B a) b ++ [35])) = some (readE 5)) ∧ (a = b → frame_Read.f n pi e g f ps (ofL (turnL (turnL B a) b ++ [35])) = some (K, R, S, P, V, echo, 0)) := by
    constructor
    · intro hab
      have z2 : runB 65535#16 (bitsOf (turnL (turnL B a) b)) ≠ 0#16 := by
        rw [bitsOf_turn (turnL B a) hTb b (by omega), bitsOf_turn B hBb a (by omega), hz, BitVec.zero_xor, hTl]
        exact two_errors (by omega) (by omega) (by omega)
      rw [rd_of _ (by rw [List.length_append, List.length_singleton]; omega), read_bad n pi e g f ps _ 5 (by decide) (open_bad _ hT2b (by omega) z2)]
    · intro hab
      subst hab
      rw [turnL_twice B hBb a (by omega), rd_of _ (by omega), hRM]
  have w1 : Aside0 (wrap64 (((51 + 10 * echo.length : Nat) : Int) - 1) = ((50 + 10 * echo.length : Nat) : Int)) := ⟨by rw [w64 (by omega) (by omega)]; omega⟩
  refine ⟨401, ?_⟩
  unfold plaitinglaw5_FrameTurn.f
  rw [known5, Option.bind_some, if_pos rfl, show (401 : Nat) = 395 + 6 from rfl, hk 395, Option.bind_some]
  show ((plaitinglaw5_Make.f (341 + 60) n pi e g f ps b0 b1 b2 b3 b4 lb l2).bind _) = _
  rw [hkM 341, Option.bind_some]
  show ((frame_Text.f n pi e g f ps K R S P V echo).bind _) = _
  rw [hT, Option.bind_some, ofL_size, hL, w1.out, l5_within a3 _ (by omega) (by omega), Option.bind_some, l5_within a4 _ (by omega) (by omega), Option.bind_some, ha, hb]
  show ((plaitingref1_Turn.f (400 + 1) (ofL (B ++ [35])) (a : Int)).bind _) = _
  rw [u1, Option.bind_some]
  show ((frame_Read.f n pi e g f ps (ofL (turnL B a ++ [35]))).bind _) = _
  rw [r1, Option.bind_some, Option.bind_some]
  show ((plaitingref1_Turn.f (400 + 1) (ofL (turnL B a ++ [35])) (b : Int)).bind _) = _
  rw [u2, Option.bind_some]
  show ((frame_Read.f n pi e g f ps (ofL (turnL (turnL B a) b ++ [35]))).bind _) = _
  by_cases hab : a = b
  · rw [r2.2 hab, Option.bind_some]
    show ((plaitingref1_Turn.f (400 + 1) (ofL (B ++ [35])) ((50 + 10 * echo.length : Nat) : Int)).bind _) = _
    rw [u3, Option.bind_some]
    show ((frame_Read.f n pi e g f ps (ofL (turnL (B ++ [35]) (50 + 10 * echo.length)))).bind _) = _
    rw [r3, Option.bind_some]
    show (if (5 : Int) = 5 then (if (4 : Int) = 4 then (if (0 : Int) = 5 then some true else if (a : Int) = (b : Int) then some ((0 : Int) == 0) else some false) else some false) else some false) = some true
    rw [if_pos rfl, if_pos rfl, if_neg (by decide), if_pos (by rw [hab])]
    rfl
  · rw [r2.1 hab, Option.bind_some]
    show ((plaitingref1_Turn.f (400 + 1) (ofL (B ++ [35])) ((50 + 10 * echo.length : Nat) : Int)).bind _) = _
    rw [u3, Option.bind_some]
    show ((frame_Read.f n pi e g f ps (ofL (turnL (B ++ [35]) (50 + 10 * echo.length)))).bind _) = _
    rw [r3, Option.bind_some]
    show (if (5 : Int) = 5 then (if (4 : Int) = 4 then (if (5 : Int) = 5 then some true else _) else some false) else some false) = some true
    rw [if_pos rfl, if_pos rfl, if_pos rfl]
end Go.Proofs.Ytcpohmfkmgcjkaa.Pure
