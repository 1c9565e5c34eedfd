/- FaultPicks. -/
import Derived.Test.YtikmaidjpffakaaFAn
import Derived.Test.YtikmaidjpffakaaF6p
import Derived.Test.YtikmaidjpffakaaF5a
namespace Go.Proofs.YtikmaidjpffakaaE
open Go
set_option linter.unusedVariables false
set_option linter.unusedSimpArgs false
set_option maxRecDepth 100000

theorem okLBits : OkLp Try.prog H0 37 5 lBits := by
  refine okLp_of (U := 6) (k := 6) okS9 lBits (fun vals _ => match vals with | [_, _, .int _ k] => (k + 1).toNat | _ => 0) fun vals h Q hl => ?_
  unfold lBits at hl
  split at hl
  · rename_i n s k
    obtain ⟨⟨h0, h1, h2⟩, hq⟩ := hyp_iff.1 hl
    refine to (nf37a ..) ?_
    refine br_intro (fun hc => ?_) fun hc => ?_
    · have hc := of_decide_eq_true hc
      have wu : IntKind.u64.wrap k = k := by
        have e : IntKind.u64.wrap k = k % 18446744073709551616 := by simp [IntKind.wrap, IntKind.bits, IntKind.signed]
        rw [e, Int.emod_eq_of_lt (by omega) (by omega)]
      refine chk_iff.2 ⟨by rw [wu]; omega, ?_⟩
      intro z hz z2 hz2
      have hb : s_bitB n k = (z2 == 1) := by unfold s_bitB; rw [← hz, ← hz2]
      have hk : (k + 1).toNat = k.toNat + 1 := by omega
      rw [hk] at hq
      simp only [bitsG] at hq
      rw [show ((k.toNat : Nat) : Int) = k by omega, hb] at hq
      have w1 : IntKind.i64.wrap (k - 1) = k - 1 := wr (by omega) (by omega)
      rw [w1]
      have hm : (k - 1 + 1).toNat = k.toNat := by omega
      refine br_intro (fun c => ?_) fun c => ?_
      · rw [c] at hq
        rw [chk_iff]
        refine ⟨by show Nat.ble s.size 9223372036854775806 = true; rw [Nat.ble_eq]; omega, by show (k - 1 + 1).toNat < (k + 1).toNat; omega, .mk ⟨by omega, by omega, ?_⟩, by rw [hm]; exact hq⟩
        rw [ByteArray.size_append]; show ((s.size + 1 : Nat) : Int) + (k - 1) ≤ 1000; omega
      · rw [c] at hq
        rw [chk_iff]
        refine ⟨by show Nat.ble s.size 9223372036854775806 = true; rw [Nat.ble_eq]; omega, by show (k - 1 + 1).toNat < (k + 1).toNat; omega, .mk ⟨by omega, by omega, ?_⟩, by rw [hm]; exact hq⟩
        rw [ByteArray.size_append]; show ((s.size + 1 : Nat) : Int) + (k - 1) ≤ 1000; omega
    · have hc := of_decide_eq_false hc
      rw [show (k + 1).toNat = 0 by omega] at hq
      exact hq
  · exact hl.elim
theorem okSAL : OkSp Try.prog H0 SAL := ⟨okS9.fn, okLBits, trivial⟩
theorem ok37 : OkS Try.prog H0 37 sBits := by
  intro args h Q hq
  unfold sBits at hq
  split at hq
  · rename_i n k
    refine in_ok (S := SAL) (U := 6) (k := 6) okSAL (to (nf37 ..) ?_)
    unfold s_bits at hq
    refine br_intro (fun c => ?_) fun c => br_intro (fun c2 => ?_) fun c2 => ?_
    · rw [if_pos (.inl (of_decide_eq_true c))] at hq; exact hq
    · rw [if_pos (.inr (of_decide_eq_true c2))] at hq; exact hq
    · have c := of_decide_eq_false c
      have c2 := of_decide_eq_false c2
      rw [if_neg (by omega)] at hq
      rw [wr (x := k - 1) (by omega) (by omega)]
      refine ⟨.mk ⟨by omega, by omega, ?_⟩, ?_⟩
      · show ((0 : Nat) : Int) + (k - 1) ≤ 1000; omega
      · rw [show (k - 1 + 1).toNat = k.toNat by omega]; exact hq
  · exact hq.elim
theorem okSA : OkSp Try.prog H0 SA := ⟨⟨ok37, okS9.fn⟩, trivial⟩
theorem picks_succ (i : Nat) : s_picks (i + 1) = s_picks i ++ [[.int .i64 3, .int .i64 0, .str (s_bits (i : Int) 6)]] := by
  unfold s_picks; rw [List.range_succ, List.map_append]; rfl
theorem picks_len (i : Nat) : (s_picks i).length = i := by simp [s_picks]
theorem okLPicks : OkLp Try.prog H0 7 7 lPicks := by
  refine okLp_of (U := 6) (k := 6) okSA lPicks (fun vals _ => match vals with | [.int _ x, _, _, _, _, _, .int _ i] => (x - i).toNat | _ => 0) fun vals h Q hl => ?_
  unfold lPicks at hl
  split at hl
  case h_2 => exact hl.elim
  rename_i x ro sl to_ i n pi e g fi nl rs k a f t A rest
  split at hl
  · obtain ⟨⟨h0, h1, h2⟩, hq⟩ := hyp_iff.1 hl
    subst h0
    refine to (nf7a ..) (br_intro (fun hc => ?_) fun hc => ?_)
    · exact ⟨by show (x - 1).toNat < (x - 0).toNat; omega, ⟨rfl, h1, h2, h1, rfl⟩, hq⟩
    · have := of_decide_eq_false hc; omega
  · rename_i m rows
    obtain ⟨⟨h0, h1, h2, h3, rfl⟩, hq⟩ := hl
    subst h0
    refine to (nf7b ..) (br_intro (fun hc => ?_) fun hc => ?_)
    · have hc := of_decide_eq_true hc
      rw [picks_len, wr (x := (m : Int) + 1) (by omega) (by omega)]
      refine chk_iff.2 ⟨rfl, chk_iff.2 ⟨by omega, chk_iff.2 ⟨by omega, ?_⟩⟩⟩
      exact ⟨by show (x - ((m : Int) + 1)).toNat < (x - (m : Int)).toNat; omega, ⟨by omega, by omega, h2, h3, (picks_succ m).symm⟩, hq⟩
    · have hc := of_decide_eq_false hc
      have e : x.toNat = m := by omega
      rw [e] at hq; exact hq
  · exact hl.elim
theorem okSAP : OkSp Try.prog H0 SAP := ⟨okSA.fn, okLPicks, trivial⟩
theorem clean_bits : ∀ l : List UInt8, (∀ b ∈ l, b = 48 ∨ b = 49) → cleanN l = l.length
  | [], _ => rfl
  | b :: l, h => by
    have hb := h b (by simp)
    have h35 : b ≠ 35 := by rcases hb with rfl | rfl <;> decide
    simp only [cleanN, if_neg h35, if_pos hb, clean_bits l fun c hc => h c (by simp [hc]), List.length_cons]
theorem bitsG_all (n : Int) : ∀ (i : Nat) (s : ByteArray), (∀ b ∈ s.data.toList, b = 48 ∨ b = 49) → (∀ b ∈ (bitsG n i s).data.toList, b = 48 ∨ b = 49) ∧ (bitsG n i s).size = s.size + i
  | 0, s, h => ⟨h, rfl⟩
  | i + 1, s, h => by
    simp only [bitsG]
    have key : ∀ c : UInt8, c = 48 ∨ c = 49 → (∀ b ∈ (s ++ (⟨#[c]⟩ : ByteArray)).data.toList, b = 48 ∨ b = 49) ∧ (s ++ (⟨#[c]⟩ : ByteArray)).size = s.size + 1 := fun c hc => by
      constructor
      · intro b hb
        rw [ByteArray.data_append, Array.toList_append, List.mem_append] at hb
        rcases hb with hb | hb
        · exact h b hb
        · simp at hb; rw [hb]; exact hc
      · rw [ByteArray.size_append]; rfl
    split
    · obtain ⟨k1, k2⟩ := key 49 (.inr rfl)
      obtain ⟨r1, r2⟩ := bitsG_all n i _ k1
      exact ⟨r1, by omega⟩
    · obtain ⟨k1, k2⟩ := key 48 (.inl rfl)
      obtain ⟨r1, r2⟩ := bitsG_all n i _ k1
      exact ⟨r1, by omega⟩
theorem bits6 (n : Int) : s_clean (s_bits n 6) = s_bits n 6 ∧ (s_bits n 6).size = 6 := by
  have e : s_bits n 6 = bitsG n 6 ⟨#[]⟩ := by unfold s_bits; rw [if_neg (by decide)]; rfl
  rw [e]
  obtain ⟨h1, h2⟩ := bitsG_all n 6 ⟨#[]⟩ (fun b hb => by simp at hb)
  refine ⟨clean_end ?_, h2⟩
  rw [clean_bits _ h1]; simp
theorem picks_get {x i : Nat} (hi : i < x) : (s_picks x).getD i [] = [.int .i64 3, .int .i64 0, .str (s_bits (i : Int) 6)] := by
  unfold s_picks
  rw [List.getD_eq_getElem?_getD, List.getElem?_map, List.getElem?_range hi]; rfl
theorem picks_ok {x : Nat} (hx : x ≤ 40) : s_actsOk (s_picks x) := by
  refine ⟨by rw [picks_len]; omega, fun r hr => ?_⟩
  unfold s_picks at hr
  obtain ⟨j, hj, rfl⟩ := List.mem_map.1 hr
  refine ⟨by show s_rem 3 7 ≤ 3; decide, ?_⟩
  show ((s_bits (j : Int) 6).size : Int) ≤ _
  rw [(bits6 _).2]; omega
theorem picks_holds (n pi e g fi : Int) (nl : Bool) (rs : List (List AV)) (x ro sl to_ : Int) : inlW Try.prog H0 SAP 6 (InO Try.prog H0 SAP 6 6) 7 [cf n pi e g fi nl rs, .int .i64 x, .int .i64 ro, .int .i64 sl, .int .i64 to_] [] (fun r => r.1 = .bool true) := by
  refine to (nf7 ..) ?_
  intro n' pi' e' g' fi' nl' ps hm
  have hc : s_confOk n' pi' e' g' fi' (List.map (fun r => (r.getD (0 : Nat) AV.gone).toI) (List.map (fun n => [AV.int IntKind.i64 n]) ps)) = true := cfMade_ok hm
  have hn := hm.1
  have hn2 := hm.2.1
  clear hm
  have rX := rem_lt x (show (0 : Int) < 40 by omega)
  have rR := rem_lt ro (show (0 : Int) < 900 by omega)
  have rS := rem_lt sl (show (0 : Int) < n' by omega)
  have rT := rem_lt to_ (show (0 : Int) < 4 by omega)
  rw [wr (x := 1 + s_rem x 40) (by omega) (by omega)]
  generalize hT : (([[AV.int IntKind.i64 (1 : Int)], [AV.int IntKind.i64 (2 : Int)], [AV.int IntKind.i64 (-1 : Int)], [AV.int IntKind.i64 (-2 : Int)]].getD ((0 : Nat) + (s_rem to_ (4 : Int)).toNat) []).getD (0 : Nat) AV.gone).toI = T
  have hT2 : -2 ≤ T ∧ T ≤ 2 := by
    have : (s_rem to_ 4).toNat = 0 ∨ (s_rem to_ 4).toNat = 1 ∨ (s_rem to_ 4).toNat = 2 ∨ (s_rem to_ 4).toNat = 3 := by omega
    rw [← hT]
    rcases this with h | h | h | h <;> rw [h] <;> decide
  clear hT
  rw [wr (x := 0 + T) (by omega) (by omega)]
  have rJ := rem_lt (0 + T) (show (0 : Int) < n' by omega)
  generalize s_rem (0 + T) n' = J at *
  generalize hm : 1 + s_rem x 40 = m at *
  generalize s_rem ro 900 = r at *
  generalize s_rem sl n' = s at *
  have hmm : 1 ≤ m ∧ m ≤ 40 := by omega
  have e17 : IntKind.i64.wrap (IntKind.i64.wrap (IntKind.i64.wrap (17 * r) + IntKind.i64.wrap (5 * s)) + J) = 17 * r + 5 * s + J := by
    rw [wr (x := 17 * r) (by omega) (by omega), wr (x := 5 * s) (by omega) (by omega), wr (x := 17 * r + 5 * s) (by omega) (by omega), wr (by omega) (by omega)]
  rw [e17]
  have take2 : List.take m.toNat (List.drop 0 (s_picks m.toNat)) = s_picks m.toNat := by rw [List.drop_zero, List.take_of_length_le (by rw [picks_len]; omega)]
  rw [take2, picks_len]
  have hk := rem_lt (17 * r + 5 * s + J) (show 0 < m by omega)
  have hem : s_emit (s_hit n' 1 0 0 J) 0 1000 (s_picks m.toNat) r s J (ByteArray.mk #[(48 : UInt8), (49 : UInt8)]) = s_bits ((17 * r + 5 * s + J).tmod m) 6 := by
    have hh : s_hit n' 1 0 0 J = true := by simp [s_hit]
    rw [hh]
    unfold s_emit
    rw [if_neg (by simp; omega), picks_len, if_neg (by omega), show ((m.toNat : Nat) : Int) = m by omega, picks_get (by omega)]
    show s_done 3 0 (s_bits _ 6) _ = _
    unfold s_done
    rw [if_neg (by decide), if_neg (by decide), if_pos (by decide), (bits6 _).1]
    congr 1
    rw [Int.tmod_eq_emod_of_nonneg (by omega)]
    show (((s_rem (17 * r + 5 * s + J) m).toNat : Nat) : Int) = _
    unfold s_rem at hk ⊢
    omega
  rw [hem]
  refine ⟨.mk (by omega), ?_⟩
  rw [chk_iff, chk_iff, chk_iff, chk_iff, chk_iff, chk_iff]
  refine ⟨by omega, rT, by omega, by omega, by omega, by omega, .mk ⟨hc, rR.1, by omega, rS.1, by omega, rJ.1, by omega, by omega, picks_ok (by omega)⟩, ?_⟩
  simp
end Go.Proofs.YtikmaidjpffakaaE
