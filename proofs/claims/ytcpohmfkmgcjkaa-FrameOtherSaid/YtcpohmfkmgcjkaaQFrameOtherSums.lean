/- Plain lemmas on wrapped texts: what sym.Whole and crc.Open answer, as functions on lists of bytes; numbers out of bits. -/
import Derived.Test.YtcpohmfkmgcjkaaQFrameOtherBits
namespace Go.Proofs.Ytcpohmfkmgcjkaa.P
open Go.RowKit Go.Proofs.YtcpohmfkmgcjkaaW.PrintWords Go.Proofs.YtcpohmfkmgcjkaaW.PrintLast Go.Proofs.YtcpohmfkmgcjkaaW.PrintMore
attribute [local go_sem] max2_int min2_int max_two min_two max_three min_three max_four min_four
set_option linter.unusedVariables false
set_option linter.unusedSimpArgs false
theorem toL_of (s : ByteArray) : s.toList = toL s := ByteArray.toList_eq s
theorem toL_extract2 (s : ByteArray) (a b : Nat) : toL (s.extract a b) = ((toL s).take b).drop a := by
  simp [toL, ByteArray.data_extract, List.drop_take, List.extract_eq_take_drop]
theorem extract_ofL2 (l : List UInt8) (a b : Nat) : (ofL l).extract a b = ofL ((l.take b).drop a) := toL_inj (by rw [toL_extract2, toL_ofL, toL_ofL])
theorem clean_bits : ∀ b : List UInt8, cleanL (b ++ [35]) = b ++ [35] → ∀ c ∈ b, isBit c = true
  | [], _ => by simp
  | x :: b, h => by
    rw [List.cons_append, cleanL] at h
    by_cases hx : isBit x = true
    · rw [if_pos hx] at h
      intro c hc
      rcases List.mem_cons.1 hc with rfl | hc
      · exact hx
      · exact clean_bits b (List.cons.inj h).2 c hc
    · rw [if_neg hx] at h
      split at h
      · simp at h
      · cases h
theorem clean_tail : ∀ l : List UInt8, (∀ c ∈ l, isBit c = true) → cleanL (l ++ [35]) = l ++ [35]
  | [], _ => by decide
  | c :: l, h => by
    rw [List.cons_append, cleanL, if_pos (h c (List.mem_cons_self ..)), clean_tail l (fun d hd => h d (List.mem_cons_of_mem _ hd))]
def wholeL (l : List UInt8) : Bool := l.getLast? == some 35 && cleanL l == l
theorem wholeL_iff (l : List UInt8) : wholeL l = true ↔ ∃ b, l = b ++ [35] ∧ ∀ c ∈ b, isBit c = true := by
  unfold wholeL
  rw [Bool.and_eq_true, beq_iff_eq, beq_iff_eq, List.getLast?_eq_some_iff]
  constructor
  · rintro ⟨⟨b, rfl⟩, h⟩
    exact ⟨b, rfl, clean_bits b h⟩
  · rintro ⟨b, rfl, h⟩
    exact ⟨⟨b, rfl⟩, clean_tail b h⟩
theorem sym_Whole_eq (s : ByteArray) (h : s.size ≤ 1000000) : sym_Whole.f s = some (wholeL (toL s)) := by
  obtain ⟨l, rfl⟩ : ∃ l, s = ofL l := ⟨toL s, rfl⟩
  rw [ofL_size] at h
  rw [toL_ofL]
  unfold sym_Whole.f strings_HasSuffix.f stringslite_HasSuffix.f wholeL
  have h1 : (⟨#[35]⟩ : ByteArray).size = 1 := rfl
  have h2 : (⟨#[35]⟩ : ByteArray).toList = [35] := by rw [ByteArray.toList_eq]
  rw [ofL_size, h1, h2]
  rcases List.eq_nil_or_concat l with rfl | ⟨b, c, rfl⟩
  · rfl
  · have hl : (b ++ [c]).length = b.length + 1 := by simp
    rw [List.concat_eq_append] at h ⊢
    rw [hl] at h ⊢
    have w1 : wrap64 (((b.length + 1 : Nat) : Int) - ((1 : Nat) : Int)) = (b.length : Int) := by rw [w64 (by omega) (by omega)]; omega
    rw [if_pos (by omega), w1, if_pos (by omega), if_pos (by omega), Option.bind_some, Option.bind_some, Int.toNat_natCast, extract_ofL2, toL_of, toL_ofL]
    have e1 : (b ++ [c]).take (b.length + 1) = b ++ [c] := List.take_of_length_le (by rw [hl]; exact Nat.le_refl _)
    rw [e1, List.drop_left]
    have e2 : ((b ++ [c]).getLast? == some 35) = ([c] == ([35] : List UInt8)) := by
      rw [List.getLast?_concat]
      by_cases hc : c = 35
      · subst hc; rfl
      · rw [beq_eq_false_iff_ne.mpr (fun h_ => hc (Option.some.inj h_)), beq_eq_false_iff_ne.mpr (fun h_ => hc (List.cons.inj h_).1)]
    rw [e2]
    by_cases hc : ([c] == ([35] : List UInt8)) = true
    · rw [if_pos hc, hc, Bool.true_and]
      unfold sym_Clean.f
      rw [if_pos (by rw [ofL_size, hl]; omega), Option.bind_some, toL_of, toL_of, toL_ofL, toL_ofL]
    · rw [if_neg hc, Bool.eq_false_iff.mpr hc, Bool.false_and]
def openL (l : List UInt8) : List UInt8 × Int :=
  if wholeL l = true then (if l.length < 17 then ([], 3) else if bitsL (crcL (l.take (l.length - 17))) 16 = (l.drop (l.length - 17)).take 16 then (l.take (l.length - 17), 0) else ([], 5)) else ([], 4)
theorem take_bits {l b : List UInt8} (hl : l = b ++ [35]) (hb : ∀ c ∈ b, isBit c = true) (n : Nat) (hn : n < l.length) : ∀ c ∈ l.take n, isBit c = true := by
  subst hl
  intro c hc
  rw [List.length_append] at hn
  have hn2 : n ≤ b.length := by simp at hn; omega
  rw [List.take_append_of_le_length hn2] at hc
  exact hb c (List.mem_of_mem_take hc)
theorem openL_bits (l : List UInt8) : ∀ c ∈ (openL l).1, isBit c = true := by
  unfold openL
  by_cases hw : wholeL l = true
  · rw [if_pos hw]
    obtain ⟨b, hl, hb⟩ := (wholeL_iff l).1 hw
    split
    · intro c hc; cases hc
    · split
      · exact take_bits hl hb _ (by omega)
      · intro c hc; cases hc
  · rw [if_neg hw]
    intro c hc; cases hc
theorem openL_length (l : List UInt8) : (openL l).1.length ≤ l.length := by
  unfold openL
  split
  · split
    · exact Nat.zero_le _
    · split
      · show (l.take (l.length - 17)).length ≤ l.length
        rw [List.length_take]; omega
      · exact Nat.zero_le _
  · exact Nat.zero_le _
theorem crc_Open_eq (k : Nat) (s : ByteArray) (h : s.size ≤ 1000000) : crc_Open.f (k + 70) s = some (ofL (openL (toL s)).1, (openL (toL s)).2) := by
  unfold crc_Open.f openL
  rw [sym_Whole_eq s h, Option.bind_some]
  have hsz : (toL s).length = s.size := toL_length s
  by_cases hw : wholeL (toL s) = true
  · rw [if_pos hw, if_pos hw]
    obtain ⟨b, hl, hb⟩ := (wholeL_iff _).1 hw
    have w1 : wrap64 ((s.size : Int) - 1) = (s.size : Int) - 1 := w64 (by omega) (by omega)
    have w2 : wrap64 ((s.size : Int) - 1 - 16) = (s.size : Int) - 17 := by rw [w64 (by omega) (by omega)]; omega
    rw [w1, w2]
    by_cases hs : s.size < 17
    · rw [if_pos (by omega), if_pos (by omega)]
      rfl
    · rw [if_neg (show ¬ (toL s).length < 17 by omega), if_neg (by omega), if_pos (by omega), if_pos (by omega)]
      have n1 : ((s.size : Int) - 17).toNat = (toL s).length - 17 := by omega
      have n2 : ((s.size : Int) - 1).toNat = (toL s).length - 1 := by omega
      rw [n1, n2, extract_ofL, crc_Sum_eq _ (take_bits hl hb _ (by omega)), Option.bind_some, show (16 : Int) = ((16 : Nat) : Int) from rfl, sym_Bits_eq k _ 16 (by decide) (by decide), Option.bind_some, if_pos (by omega), if_pos (by omega), toL_of, toL_of, toL_ofL, toL_extract2]
      have e1 : ((toL s).take ((toL s).length - 1)).drop ((toL s).length - 17) = ((toL s).drop ((toL s).length - 17)).take 16 := by
        rw [List.drop_take]
        congr 1
        omega
      rw [e1]
      by_cases hq : bitsL (crcL ((toL s).take ((toL s).length - 17))) 16 = ((toL s).drop ((toL s).length - 17)).take 16
      · rw [if_pos hq, if_pos hq]
      · rw [if_neg hq, if_neg hq]
        rfl
  · rw [if_neg hw, if_neg hw]
    rfl
theorem openL_wrapL (l : List UInt8) (h : ∀ c ∈ l, isBit c = true) : openL (wrapL l) = (l, 0) := by
  have hw : wholeL (wrapL l) = true := by
    rw [wholeL_iff]
    refine ⟨l ++ bitsL (crcL l) 16, rfl, fun c hc => ?_⟩
    rcases List.mem_append.1 hc with h' | h'
    · exact h c h'
    · exact bitsL_bit _ _ c h'
  unfold openL
  have e0 : (wrapL l).length - 17 = l.length := by rw [wrapL_length]; omega
  have e1 : (wrapL l).take l.length = l := by unfold wrapL; rw [List.append_assoc, List.take_left]
  have e2 : ((wrapL l).drop l.length).take 16 = bitsL (crcL l) 16 := by
    unfold wrapL
    rw [List.append_assoc, List.drop_left, List.take_append_of_le_length (by rw [bitsL_length]; exact Nat.le_refl _), List.take_of_length_le (by rw [bitsL_length]; exact Nat.le_refl _)]
  rw [if_pos hw, e0, e1, e2, if_neg (by rw [wrapL_length]; omega), if_pos rfl]
def numS (n : Int) (c : UInt8) : Int := 2 * n + (if c = 49 then 1 else 0)
def numL (l : List UInt8) : Int := l.foldl numS 0
theorem wraps_i64 (n : Int) (h₀ : 0 ≤ n) (h₁ : n < 2 ^ 63) : IntKind.i64.wrap n = n := by rw [IntKind.wrap_i64]; omega
theorem and_mod (x : Int) (h0 : 0 ≤ x) (h1 : x < 2 ^ 63) : Go.bits .and .i64 x 1 = x % 2 := bits_mask .i64 63 (by decide) wraps_i64 1 (by decide) x h0 h1
theorem bit_cases {c : UInt8} (h : isBit c = true) : c = 48 ∨ c = 49 := by
  unfold isBit at h
  rcases Bool.or_eq_true_iff.1 h with h | h
  · exact .inl (beq_iff_eq.1 h)
  · exact .inr (beq_iff_eq.1 h)
theorem numS_bounds (n : Int) (c : UInt8) : 2 * n ≤ numS n c ∧ numS n c ≤ 2 * n + 1 := by
  unfold numS
  split <;> omega
theorem bitsL_succ (v : Int) (n : Nat) : bitsL v (n + 1) = (if bitB v n = true then 49 else 48) :: bitsL v n := by
  unfold bitsL
  rw [List.range_succ_eq_map, List.map_cons, List.map_map]
  refine congr (congrArg List.cons ?_) ?_
  · rw [show n + 1 - 1 - 0 = n by omega]
  · refine List.map_congr_left fun i _ => ?_
    show (if bitB v (n + 1 - 1 - (i + 1)) = true then (49 : UInt8) else 48) = _
    rw [show n + 1 - 1 - (i + 1) = n - 1 - i by omega]
theorem bitB_nat (u n : Nat) (hu : u < 2 ^ 62) : bitB (u : Int) n = decide (u / 2 ^ n % 2 = 1) := by
  unfold bitB
  have hd : u / 2 ^ n ≤ u := Nat.div_le_self _ _
  have e : (u : Int) / 2 ^ n = ((u / 2 ^ n : Nat) : Int) := by push_cast; rfl
  have hb : u / 2 ^ n < 4611686018427387904 := Nat.lt_of_le_of_lt hd hu
  rw [e]
  generalize u / 2 ^ n = q at hb
  rw [and_mod _ (by omega) (by omega)]
  by_cases h : q % 2 = 1
  · rw [decide_eq_true h, beq_iff_eq]
    omega
  · rw [decide_eq_false h, beq_eq_false_iff_ne]
    omega
theorem fold_bits (u : Nat) (hu : u < 2 ^ 62) : ∀ (n : Nat) (a : Int), (bitsL (u : Int) n).foldl numS a = a * 2 ^ n + ((u % 2 ^ n : Nat) : Int)
  | 0, a => by
    have h0 : (u : Nat) % 2 ^ 0 = 0 := Nat.mod_one u
    rw [h0]
    show a = a * 2 ^ 0 + ((0 : Nat) : Int)
    rw [Int.pow_zero]
    omega
  | n + 1, a => by
    rw [bitsL_succ, List.foldl_cons, fold_bits u hu n, bitB_nat u n hu]
    have hm : u % 2 ^ (n + 1) = u % 2 ^ n + 2 ^ n * (u / 2 ^ n % 2) := by rw [Nat.pow_succ, Nat.mod_mul]
    rw [hm, Int.pow_succ]
    have h2 : u / 2 ^ n % 2 = 0 ∨ u / 2 ^ n % 2 = 1 := by omega
    rcases h2 with h | h
    · rw [h, decide_eq_false (by decide), if_neg (by decide)]
      unfold numS
      rw [if_neg (by decide), Int.add_zero, Int.mul_comm 2 a, Int.mul_assoc, Int.mul_comm 2 (2 ^ n), Nat.mul_zero, Nat.add_zero]
    · rw [h, decide_eq_true rfl, if_pos rfl]
      unfold numS
      rw [if_pos rfl, Int.add_mul, Int.mul_comm 2 a, Int.mul_assoc, Int.mul_comm 2 (2 ^ n), Nat.mul_one]
      push_cast
      omega
theorem numL_bitsL (v : Int) (n : Nat) (h0 : 0 ≤ v) (h1 : v < 2 ^ n) (hn : n ≤ 62) : numL (bitsL v n) = v := by
  obtain ⟨u, rfl⟩ := Int.eq_ofNat_of_zero_le h0
  have hu : u < 2 ^ n := by
    have : ((2 ^ n : Nat) : Int) = 2 ^ n := by push_cast; rfl
    omega
  have hu2 : u < 2 ^ 62 := Nat.lt_of_lt_of_le hu (Nat.pow_le_pow_right (by decide) hn)
  unfold numL
  rw [fold_bits u hu2 n 0, Nat.mod_eq_of_lt hu]
  omega
end Go.Proofs.Ytcpohmfkmgcjkaa.P
