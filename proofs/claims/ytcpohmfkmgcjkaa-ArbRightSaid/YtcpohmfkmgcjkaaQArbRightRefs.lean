/- Plain lemmas on the document's own texts: bits, sums, wrapped texts, frames' texts, when two frames are the same. -/
import Derived.Test.YtcpohmfkmgcjkaaQArbRightSame
import Derived.Test.YtcpohmfkmgcjkaaQArbRightPx13
namespace Go.Proofs.Ytcpohmfkmgcjkaa.P
open Go.RowKit Go.Proofs.YtcpohmfkmgcjkaaW.PrintWords Go.Proofs.YtcpohmfkmgcjkaaW.PrintLast Go.Proofs.YtcpohmfkmgcjkaaW.PrintMore
attribute [local go_sem] max2_int min2_int max_two min_two max_three min_three max_four min_four
set_option linter.unusedVariables false
set_option linter.unusedSimpArgs false
theorem items_loop (a b : List S26) (hl : a.length = b.length) (ha : a.length ≤ 100000) : ∀ d (k i : Nat), a.length - i = d → i ≤ a.length → d < k →
    plaitingref5_Items.l0 k a b (i : Int) = some (sameL (a.drop i) (b.drop i)) := by
  intro d
  induction d with
  | zero =>
    intro k i h1 h2 h3
    obtain ⟨k, rfl⟩ : ∃ q, k = q + 1 := ⟨k - 1, by omega⟩
    rw [plaitingref5_Items.l0, if_neg (by omega), List.drop_of_length_le (by omega), List.drop_of_length_le (by omega)]
    rfl
  | succ d ih =>
    intro k i h1 h2 h3
    obtain ⟨k, rfl⟩ : ∃ q, k = q + 1 := ⟨k - 1, by omega⟩
    have w1 : wrap64 ((i : Int) + 1) = ((i + 1 : Nat) : Int) := by rw [w64 (by omega) (by omega)]; omega
    rw [plaitingref5_Items.l0, if_pos (by omega), if_pos (by omega), if_pos (by omega), w1, same_step a b hl i (by omega), ih k (i + 1) (by omega) (by omega) (by omega)]
    cases (rd_T26 a (i : Int)).f0 == (rd_T26 b (i : Int)).f0 <;> cases (rd_T26 a (i : Int)).f1 == (rd_T26 b (i : Int)).f1 <;> rfl
theorem items_eq (a b : List S26) (ha : a.length ≤ 100000) (k : Nat) (hk : a.length < k) : plaitingref5_Items.f k a b = some (sameL a b) := by
  unfold plaitingref5_Items.f
  by_cases hl : a.length = b.length
  · rw [if_pos (by omega), show (0 : Int) = ((0 : Nat) : Int) from rfl, items_loop a b hl ha a.length k 0 (by omega) (by omega) hk]
    rfl
  · rw [if_neg (by omega), sameL_length hl]
theorem ref5_Same_eq (K R S P V : Int) (l : List S26) (K2 R2 S2 P2 V2 : Int) (l2 : List S26) (hl : l.length ≤ 100000) (k : Nat) (hk : l.length < k) :
    plaitingref5_Same.f k K R S P V l K2 R2 S2 P2 V2 l2 = some (sameF K R S P V l K2 R2 S2 P2 V2 l2) := by
  unfold plaitingref5_Same.f sameF
  rw [items_eq l l2 hl k hk]
  by_cases h1 : K = K2
  · subst h1
    by_cases h2 : R = R2
    · subst h2
      by_cases h3 : S = S2
      · subst h3
        rw [if_pos rfl, if_pos rfl, if_pos rfl]
        simp only [beq_self_eq_true, Bool.true_and]
        cases P == P2 <;> cases V == V2 <;> rfl
      · rw [if_pos rfl, if_pos rfl, if_neg h3, beq_eq_false_iff_ne.mpr h3]; simp
    · rw [if_pos rfl, if_neg h2, beq_eq_false_iff_ne.mpr h2]; simp
  · rw [if_neg h1, beq_eq_false_iff_ne.mpr h1]; simp
theorem wrap_u64 (x : Int) (h0 : 0 ≤ x) (h1 : x < 9223372036854775808) : IntKind.u64.wrap x = x := by
  simp [IntKind.wrap, IntKind.bits, IntKind.signed]
  omega
theorem r1_bits_loop (n : Int) : ∀ (d k : Nat) (acc : ByteArray), acc.size + d ≤ 62 → d < k → plaitingref1_Bits.l0 k n acc ((d : Int) - 1) = some (acc ++ ofL (bitsL n d))
  | 0, k, acc, h1, h2 => by
    obtain ⟨k, rfl⟩ : ∃ q, k = q + 1 := ⟨k - 1, by omega⟩
    rw [plaitingref1_Bits.l0, if_neg (by omega)]
    refine congrArg some (toL_inj ?_)
    rw [toL_append, toL_ofL]
    simp [bitsL]
  | d + 1, k, acc, h1, h2 => by
    obtain ⟨k, rfl⟩ : ∃ q, k = q + 1 := ⟨k - 1, by omega⟩
    have e0 : ((d + 1 : Nat) : Int) - 1 = (d : Int) := by omega
    rw [e0, plaitingref1_Bits.l0, wrap_u64 (d : Int) (by omega) (by omega), if_pos (by omega), if_pos (by omega), shr_eq n d (by omega), w64 (x := (d : Int) - 1) (by omega) (by omega)]
    have hs : ∀ x : UInt8, (acc ++ (⟨#[x]⟩ : ByteArray)).size = acc.size + 1 := fun x => by rw [ByteArray.size_append]; rfl
    have hb : ∀ x : UInt8, (acc ++ (⟨#[x]⟩ : ByteArray)) ++ ofL (bitsL n d) = acc ++ ofL (x :: bitsL n d) := fun x => toL_inj (by rw [toL_append, toL_append, toL_append, toL_ofL, toL_ofL, List.append_assoc]; rfl)
    rw [bitsL_succ]
    by_cases hq : Go.bits .and .i64 (n / 2 ^ d) 1 = 1
    · have hB : bitB n d = true := beq_iff_eq.2 hq
      rw [if_pos hq, if_pos (by omega), r1_bits_loop n d k _ (by rw [hs]; omega) (by omega), hb, if_pos hB]
    · have hB : ¬ bitB n d = true := fun h => hq (beq_iff_eq.1 h)
      rw [if_neg hq, if_pos (by omega), r1_bits_loop n d k _ (by rw [hs]; omega) (by omega), hb, if_neg hB]
theorem r1_Bits_eq (k : Nat) (n : Int) (size : Nat) (h0 : 1 ≤ size) (hs : size ≤ 62) : plaitingref1_Bits.f (k + 70) n (size : Int) = some (ofL (bitsL n size)) := by
  unfold plaitingref1_Bits.f
  rw [if_neg (by omega), decide_eq_false (by omega), show k + 70 = (k + 69) + 1 from rfl, plaitingref1_Bits.j0, if_neg (by decide), w64 (by omega) (by omega), r1_bits_loop n size (k + 69) _ (by show 0 + size ≤ 62; omega) (by omega)]
  refine congrArg some (toL_inj ?_)
  rw [toL_append]
  rfl
theorem xor_bound (x : Int) (h0 : 0 ≤ x) (h1 : x ≤ 65535) : 0 ≤ Go.bits .xor .i64 x 4129 ∧ Go.bits .xor .i64 x 4129 ≤ 65535 := by
  obtain ⟨a, rfl⟩ := Int.eq_ofNat_of_zero_le h0
  have e : Go.bits .xor .i64 (a : Int) 4129 = IntKind.i64.wrap (((BitVec.ofInt 64 (a : Int) ^^^ BitVec.ofInt 64 4129).toNat : Nat) : Int) := rfl
  have ha : (BitVec.ofInt 64 (a : Int)).toNat < 2 ^ 16 := by rw [BitVec.toNat_ofInt]; omega
  have hx : (BitVec.ofInt 64 (a : Int) ^^^ BitVec.ofInt 64 4129).toNat < 2 ^ 16 := by
    rw [BitVec.toNat_xor]
    exact Nat.xor_lt_two_pow ha (by decide)
  rw [e, IntKind.wrap_i64]
  omega
theorem mask_eq (n : Int) (h0 : 0 ≤ n) (h1 : n ≤ 65535) : Go.bits .and .i64 (wrap64 (n * 2)) 65535 = n * 2 % 65536 := by
  rw [w64 (by omega) (by omega)]
  exact bits_mask .i64 63 (by decide) wraps_i64 16 (by decide) (n * 2) (by omega) (by omega)
theorem crcStep_bounds (n : Int) (c : UInt8) (h0 : 0 ≤ n) (h1 : n ≤ 65535) : 0 ≤ crcStep n c ∧ crcStep n c ≤ 65535 := by
  unfold crcStep
  rw [mask_eq n h0 h1]
  split
  · exact xor_bound _ (by omega) (by omega)
  · omega
theorem crcStep_ref (n : Int) (c : UInt8) (hc : isBit c = true) (h0 : 0 ≤ n) (h1 : n ≤ 65535) :
    crcStep n c = if (((n / 32768) == 1) != (((c.toNat : Int)) == 49)) = true then Go.bits .xor .i64 (Go.bits .and .i64 (wrap64 (n * 2)) 65535) 4129 else Go.bits .and .i64 (wrap64 (n * 2)) 65535 := by
  unfold crcStep
  have hq : n / 32768 = 0 ∨ n / 32768 = 1 := by omega
  have e : (n / 32768 != Go.bits .and .i64 ((c.toNat : Int) - 48) 1) = (((n / 32768) == 1) != (((c.toNat : Int)) == 49)) := by
    rcases bit_cases hc with rfl | rfl
    · have e0 : Go.bits .and .i64 (((48 : UInt8).toNat : Int) - 48) 1 = 0 := by decide
      rw [e0]
      rcases hq with h | h <;> rw [h] <;> rfl
    · have e0 : Go.bits .and .i64 (((49 : UInt8).toNat : Int) - 48) 1 = 1 := by decide
      rw [e0]
      rcases hq with h | h <;> rw [h] <;> rfl
  rw [e]
theorem r2_sum_loop (s : ByteArray) (hs : s.size ≤ 1000000) (hb : ∀ c ∈ toL s, isBit c = true) : ∀ (d k i : Nat) (n : Int), s.size - i = d → i ≤ s.size → d < k → 0 ≤ n → n ≤ 65535 →
    plaitingref2_Sum.l0 k s n (i : Int) = some (((toL s).drop i).foldl crcStep n) := by
  intro d
  induction d with
  | zero =>
    intro k i n h1 h2 h3 h4 h5
    obtain ⟨k, rfl⟩ : ∃ q, k = q + 1 := ⟨k - 1, by omega⟩
    rw [plaitingref2_Sum.l0, if_neg (by omega), List.drop_of_length_le (by rw [toL_length]; omega)]
    rfl
  | succ d ih =>
    intro k i n h1 h2 h3 h4 h5
    obtain ⟨k, rfl⟩ : ∃ q, k = q + 1 := ⟨k - 1, by omega⟩
    have w1 : wrap64 ((i : Int) + 1) = ((i + 1 : Nat) : Int) := by rw [w64 (by omega) (by omega)]; omega
    have hi : i < (toL s).length := by rw [toL_length]; omega
    have hB := crcStep_bounds n ((toL s)[i]) h4 h5
    have hI := ih k (i + 1) (crcStep n ((toL s)[i])) (by omega) (by omega) (by omega) hB.1 hB.2
    rw [crcStep_ref n _ (hb _ (List.getElem_mem hi)) h4 h5] at hI
    rw [plaitingref2_Sum.l0, if_pos (by omega), if_pos (by omega), bt_eq s i (by omega), w1, List.drop_eq_getElem_cons hi, List.foldl_cons, crcStep_ref n _ (hb _ (List.getElem_mem hi)) h4 h5]
    by_cases hq : (((n / 32768) == 1) != ((((toL s)[i].toNat : Int)) == 49)) = true
    · rw [if_pos hq] at hI ⊢
      rw [if_pos hq]
      exact hI
    · rw [if_neg hq] at hI ⊢
      rw [if_neg hq]
      exact hI
theorem r2_Sum_eq (k : Nat) (l : List UInt8) (hl : l.length ≤ 1000000) (hb : ∀ c ∈ l, isBit c = true) (hk : l.length < k) : plaitingref2_Sum.f k (ofL l) = some (crcL l) := by
  unfold plaitingref2_Sum.f
  exact r2_sum_loop (ofL l) (by rw [ofL_size]; exact hl) hb l.length k 0 65535 (by rw [ofL_size]; omega) (by omega) hk (by decide) (by decide)
theorem r2_Wrap_eq (k : Nat) (l : List UInt8) (hl : l.length ≤ 1000000) (hb : ∀ c ∈ l, isBit c = true) (hk : l.length < k + 70) : plaitingref2_Wrap.f (k + 70) (ofL l) = some (ofL (wrapL l)) := by
  unfold plaitingref2_Wrap.f
  rw [r2_Sum_eq (k + 70) l hl hb hk, Option.bind_some, show (16 : Int) = ((16 : Nat) : Int) from rfl, r1_Bits_eq k _ 16 (by decide) (by decide), Option.bind_some, ofL_append, ofL_size, ofL_size, ofL_size, bitsL_length, List.length_append, bitsL_length, if_pos (by omega), if_pos (by omega)]
  rfl
theorem r5_bits_eq (k : Nat) (a b : Int) : plaitingref5_bits.f (k + 70) a b = some (ofL (bitsL a 2 ++ bitsL b 8)) := by
  unfold plaitingref5_bits.f
  rw [show (2 : Int) = ((2 : Nat) : Int) from rfl, show (8 : Int) = ((8 : Nat) : Int) from rfl, r1_Bits_eq k _ 2 (by decide) (by decide), Option.bind_some, r1_Bits_eq k _ 8 (by decide) (by decide), Option.bind_some, ofL_append, ofL_size, ofL_size, bitsL_length, bitsL_length, if_pos (by decide)]
theorem r5_text_loop (K R S P V : Int) (l : List S26) (hl : l.length ≤ 1000) : ∀ (d k i : Nat) (acc : List UInt8), l.length - i = d → i ≤ l.length → (∀ c ∈ acc, isBit c = true) → acc.length ≤ 34 + 10 * i → 20000 + d < k →
    plaitingref5_Text.l0 k (ofL acc) (i : Int) K R S P V l = some (ofL (wrapL (acc ++ (l.drop i).flatMap frameItemL))) := by
  intro d
  induction d with
  | zero =>
    intro k i acc h1 h2 h3 h4 h5
    obtain ⟨k, rfl⟩ : ∃ q, k = q + 71 := ⟨k - 71, by omega⟩
    rw [show k + 71 = (k + 70) + 1 from rfl, plaitingref5_Text.l0, if_neg (by omega), r2_Wrap_eq k acc (by omega) h3 (by omega), List.drop_of_length_le (by omega)]
    show (some (ofL (wrapL acc))) = _
    rw [List.flatMap_nil, List.append_nil]
  | succ d ih =>
    intro k i acc h1 h2 h3 h4 h5
    obtain ⟨k, rfl⟩ : ∃ q, k = q + 71 := ⟨k - 71, by omega⟩
    have w1 : wrap64 ((i : Int) + 1) = ((i + 1 : Nat) : Int) := by rw [w64 (by omega) (by omega)]; omega
    have hi : i < l.length := by omega
    have hF : ofL (bitsL (l[i]).f0 2 ++ bitsL (l[i]).f1 8) = ofL (frameItemL l[i]) := rfl
    have hbit : ∀ c ∈ acc ++ frameItemL l[i], isBit c = true := by
      intro c hc
      rcases List.mem_append.1 hc with h | h
      · exact h3 c h
      · unfold frameItemL at h
        rcases List.mem_append.1 h with h | h
        · exact bitsL_bit _ _ c h
        · exact bitsL_bit _ _ c h
    rw [show k + 71 = (k + 70) + 1 from rfl, plaitingref5_Text.l0, if_pos (by omega), if_pos (by omega), rd26 l i hi, r5_bits_eq k, Option.bind_some, hF, ofL_size, ofL_size, frameItemL_length, if_pos (by omega), ofL_append, w1, ih (k + 70) (i + 1) (acc ++ frameItemL l[i]) (by omega) (by omega) hbit (by rw [List.length_append, frameItemL_length]; omega) (by omega), List.drop_eq_getElem_cons hi, List.flatMap_cons, List.append_assoc]
theorem r5_Text_eq (k : Nat) (n pi e g f : Int) (ps : List Int) (K R S P V : Int) (l : List S26) (hl : l.length ≤ 1000) (hk : 30000 < k) : plaitingref5_Text.f k n pi e g f ps K R S P V l = some (ofL (wrapL (frameBits K R S P V l))) := by
  obtain ⟨k, rfl⟩ : ∃ q, k = q + 70 := ⟨k - 70, by omega⟩
  unfold plaitingref5_Text.f
  have hb : ∀ c ∈ bitsL K 2 ++ bitsL R 16 ++ bitsL S 6 ++ (bitsL P 2 ++ bitsL V 8), isBit c = true := by
    intro c hc
    simp only [List.mem_append] at hc
    rcases hc with ((h | h) | h) | h | h <;> exact bitsL_bit _ _ c h
  rw [show (2 : Int) = ((2 : Nat) : Int) from rfl, show (16 : Int) = ((16 : Nat) : Int) from rfl, show (6 : Int) = ((6 : Nat) : Int) from rfl, r1_Bits_eq k _ 2 (by decide) (by decide), Option.bind_some, r1_Bits_eq k _ 16 (by decide) (by decide), Option.bind_some, ofL_size, ofL_size, bitsL_length, bitsL_length, if_pos (by decide), r1_Bits_eq k _ 6 (by decide) (by decide), Option.bind_some, ofL_append, ofL_size, ofL_size, bitsL_length, List.length_append, bitsL_length, bitsL_length, if_pos (by decide), r5_bits_eq k, Option.bind_some, ofL_append, ofL_size, ofL_size, List.length_append, List.length_append, List.length_append, bitsL_length, bitsL_length, bitsL_length, bitsL_length, bitsL_length, if_pos (by decide), ofL_append, show (0 : Int) = ((0 : Nat) : Int) from rfl, r5_text_loop K R S P V l hl l.length (k + 70) 0 _ (by omega) (by omega) hb (by simp [bitsL_length]) (by omega)]
  rfl
end Go.Proofs.Ytcpohmfkmgcjkaa.P
