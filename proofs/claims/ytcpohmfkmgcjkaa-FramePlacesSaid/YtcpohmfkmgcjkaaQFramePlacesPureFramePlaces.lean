/- Proves FramePlaces: each part of a made frame stands in its place in its text (no condition on the inputs). -/
import Derived.Test.YtcpohmfkmgcjkaaQFramePlacesRefs
import Derived.Test.YtcpohmfkmgcjkaaQFramePlacesPx17
namespace Go.Proofs.Ytcpohmfkmgcjkaa.Pure
open Go.RowKit Go.Proofs.Ytcpohmfkmgcjkaa.P Go.Proofs.YtcpohmfkmgcjkaaW.PrintWords Go.Proofs.YtcpohmfkmgcjkaaW.PrintLast
theorem place (FB : List UInt8) (a n : Nat) (h : a + n ≤ FB.length) : (ofL (wrapL FB)).extract a (a + n) = ofL ((FB.drop a).take n) := by
  rw [extract_ofL2]
  unfold wrapL
  rw [List.append_assoc, List.take_append_of_le_length h, List.drop_take]
  congr 2
  omega
theorem flat_drop : ∀ (l : List S26) (i : Nat), i ≤ l.length → (l.flatMap frameItemL).drop (10 * i) = (l.drop i).flatMap frameItemL
  | l, 0, _ => rfl
  | [], i + 1, h => by simp at h
  | x :: l, i + 1, h => by
    rw [List.flatMap_cons, show 10 * (i + 1) = 10 + 10 * i by omega, ← List.drop_drop, List.drop_left' (frameItemL_length x), flat_drop l i (by simp at h; omega)]
    rfl
theorem place_item (K R S P V : Int) (echo : List S26) (i : Nat) (hi : i < echo.length) :
    (ofL (wrapL (frameBits K R S P V echo))).extract (34 + 10 * i) (36 + 10 * i) = ofL (bitsL (echo[i]).f0 2) ∧ (ofL (wrapL (frameBits K R S P V echo))).extract (36 + 10 * i) (44 + 10 * i) = ofL (bitsL (echo[i]).f1 8) := by
  obtain ⟨_, _, _, _, _, p6⟩ := frameBits_parts K R S P V echo
  have hL : (frameBits K R S P V echo).length = 34 + 10 * echo.length := frameBits_length ..
  have d1 : (frameBits K R S P V echo).drop (34 + 10 * i) = frameItemL echo[i] ++ (echo.drop (i + 1)).flatMap frameItemL := by
    rw [← List.drop_drop, p6, flat_drop echo i (by omega), List.drop_eq_getElem_cons hi, List.flatMap_cons]
  have d2 : (frameBits K R S P V echo).drop (36 + 10 * i) = bitsL (echo[i]).f1 8 ++ (echo.drop (i + 1)).flatMap frameItemL := by
    rw [show 36 + 10 * i = 34 + 10 * i + 2 by omega, ← List.drop_drop, d1]
    unfold frameItemL
    rw [List.append_assoc, List.drop_left' (bitsL_length _ _)]
  constructor
  · rw [show 36 + 10 * i = 34 + 10 * i + 2 by omega, place _ _ 2 (by omega), d1]
    unfold frameItemL
    rw [List.append_assoc, List.take_left' (bitsL_length _ _)]
  · rw [show 44 + 10 * i = 36 + 10 * i + 8 by omega, place _ _ 8 (by omega), d2, List.take_left' (bitsL_length _ _)]
theorem places_loop (K R S P V : Int) (echo : List S26) (he : echo.length ≤ 15) : ∀ d (k i : Nat), echo.length - i = d → i ≤ echo.length → 100 + d < k →
    plaitinglaw5_FramePlaces.l0 k (ofL (wrapL (frameBits K R S P V echo))) (i : Int) K R S P V echo = some true := by
  intro d
  induction d with
  | zero =>
    intro k i h1 h2 h3
    obtain ⟨k, rfl⟩ : ∃ q, k = q + 1 := ⟨k - 1, by omega⟩
    rw [plaitinglaw5_FramePlaces.l0, if_neg (by omega)]
  | succ d ih =>
    intro k i h1 h2 h3
    obtain ⟨k, rfl⟩ : ∃ q, k = q + 71 := ⟨k - 71, by omega⟩
    have hi : i < echo.length := by omega
    obtain ⟨e1, e2⟩ := place_item K R S P V echo i hi
    have hs : (ofL (wrapL (frameBits K R S P V echo))).size = 51 + 10 * echo.length := by rw [ofL_size, wrapL_length, frameBits_length]; omega
    have hI := ih (k + 70) (i + 1) (by omega) (by omega) (by omega)
    have v0 : wrap64 (10 * (i : Int)) = 10 * (i : Int) := w64 (by omega) (by omega)
    have v1 : wrap64 (34 + 10 * (i : Int)) = ((34 + 10 * i : Nat) : Int) := by rw [w64 (by omega) (by omega)]; omega
    have v2 : wrap64 (36 + 10 * (i : Int)) = ((36 + 10 * i : Nat) : Int) := by rw [w64 (by omega) (by omega)]; omega
    have v3 : wrap64 (44 + 10 * (i : Int)) = ((44 + 10 * i : Nat) : Int) := by rw [w64 (by omega) (by omega)]; omega
    have v4 : wrap64 ((i : Int) + 1) = ((i + 1 : Nat) : Int) := by rw [w64 (by omega) (by omega)]; omega
    rw [show k + 71 = (k + 70) + 1 from rfl, plaitinglaw5_FramePlaces.l0, v0, v1, v2, v3, v4]
    clear v0 v1 v2 v3 v4
    rw [hs, if_pos (by omega), if_pos (by omega), if_pos (by omega), if_pos (by omega), if_pos (by omega), rd26 echo i hi, show (2 : Int) = ((2 : Nat) : Int) from rfl, r1_Bits_eq k _ 2 (by decide) (by decide), Option.bind_some, Int.toNat_natCast, Int.toNat_natCast, e1, if_pos rfl, if_pos (by omega), if_pos (by omega), if_pos (by omega), show (8 : Int) = ((8 : Nat) : Int) from rfl, r1_Bits_eq k _ 8 (by decide) (by decide), Option.bind_some, Int.toNat_natCast, e2, if_pos rfl]
    exact hI
theorem FramePlaces : plaitinglaw5_FramePlaces.Pure := by
  intro N Pi E G F l b0 b1 b2 b3 b4 lb l2 _ _ _ _ _ hl _ _ _ _ _ _ hl2 _ _
  obtain ⟨n, pi, e, g, f, ps, hm, hk, _⟩ := make_eq 0 N Pi E G F l hl.1
  obtain ⟨K, R, S, P, V, echo, hM, hkM⟩ := make5_eq hm b0 b1 b2 b3 b4 lb l2 hl2
  clear hl2 hl
  obtain ⟨n1, n2, e1, e2, g1, g2, p1, p2, f1, f2, l1, l3⟩ := hm
  have hlen : echo.length ≤ 15 := by rw [hM.len]; split <;> omega
  have hT : frame_Text.f n pi e g f ps K R S P V echo = some (ofL (wrapL (frameBits K R S P V echo))) := by
    unfold frame_Text.f
    rw [if_pos (by omega)]
  have hs : (ofL (wrapL (frameBits K R S P V echo))).size = 51 + 10 * echo.length := by rw [ofL_size, wrapL_length, frameBits_length]; omega
  have hL : (frameBits K R S P V echo).length = 34 + 10 * echo.length := frameBits_length ..
  obtain ⟨q1, q2, q3, q4, q5, _⟩ := frameBits_parts K R S P V echo
  have x1 : (ofL (wrapL (frameBits K R S P V echo))).extract 0 2 = ofL (bitsL K 2) := by rw [place _ 0 2 (by omega), List.drop_zero, q1]
  have x2 : (ofL (wrapL (frameBits K R S P V echo))).extract 2 18 = ofL (bitsL R 16) := by rw [place _ 2 16 (by omega), q2]
  have x3 : (ofL (wrapL (frameBits K R S P V echo))).extract 18 24 = ofL (bitsL S 6) := by rw [place _ 18 6 (by omega), q3]
  have x4 : (ofL (wrapL (frameBits K R S P V echo))).extract 24 26 = ofL (bitsL P 2) := by rw [place _ 24 2 (by omega), q4]
  have x5 : (ofL (wrapL (frameBits K R S P V echo))).extract 26 34 = ofL (bitsL V 8) := by rw [place _ 26 8 (by omega), q5]
  have hloop := places_loop K R S P V echo hlen echo.length 400 0 (by omega) (by omega) (by omega)
  have y1 := r1_Bits_eq 331 K 2 (by decide) (by decide)
  have y2 := r1_Bits_eq 331 R 16 (by decide) (by decide)
  have y3 := r1_Bits_eq 331 S 6 (by decide) (by decide)
  have y4 := r1_Bits_eq 331 P 2 (by decide) (by decide)
  have y5 := r1_Bits_eq 331 V 8 (by decide) (by decide)
  have w1 : Aside0 (wrap64 (51 + wrap64 (10 * (echo.length : Int))) = ((51 + 10 * echo.length : Nat) : Int)) := ⟨by rw [w64 (x := 10 * (echo.length : Int)) (by omega) (by omega), w64 (by omega) (by omega)]; omega⟩
  generalize ofL (wrapL (frameBits K R S P V echo)) = s at *
  refine ⟨401, ?_⟩
  unfold plaitinglaw5_FramePlaces.f
  rw [known5, Option.bind_some, if_pos rfl, show (401 : Nat) = 395 + 6 from rfl, hk 395, Option.bind_some]
  show ((plaitinglaw5_Make.f (341 + 60) n pi e g f ps b0 b1 b2 b3 b4 lb l2).bind _) = _
  rw [hkM 341, Option.bind_some]
  show ((frame_Text.f n pi e g f ps K R S P V echo).bind _) = _
  rw [hT, Option.bind_some, hs, if_neg (by omega), if_pos (by decide), if_pos (by omega)]
  show ((plaitingref1_Bits.f (331 + 70) K ((2 : Nat) : Int)).bind _) = _
  rw [y1, Option.bind_some, x1, if_pos rfl, if_pos (by decide), if_pos (by omega)]
  show ((plaitingref1_Bits.f (331 + 70) R ((16 : Nat) : Int)).bind _) = _
  rw [y2, Option.bind_some, x2, if_pos rfl, if_pos (by decide), if_pos (by omega)]
  show ((plaitingref1_Bits.f (331 + 70) S ((6 : Nat) : Int)).bind _) = _
  rw [y3, Option.bind_some, x3, if_pos rfl, if_pos (by decide), if_pos (by omega)]
  show ((plaitingref1_Bits.f (331 + 70) P ((2 : Nat) : Int)).bind _) = _
  rw [y4, Option.bind_some, x4, if_pos rfl, if_pos (by decide), if_pos (by omega)]
  show ((plaitingref1_Bits.f (331 + 70) V ((8 : Nat) : Int)).bind _) = _
  rw [y5, Option.bind_some, x5, if_pos rfl]
  show plaitinglaw5_FramePlaces.j0 (400 + 1) s (((51 + 10 * echo.length : Nat) : Int) != wrap64 (51 + wrap64 (10 * (echo.length : Int)))) K R S P V echo = some true
  rw [w1.out, bne_self_eq_false, plaitinglaw5_FramePlaces.j0, if_neg (by decide)]
  exact hloop
end Go.Proofs.Ytcpohmfkmgcjkaa.Pure
