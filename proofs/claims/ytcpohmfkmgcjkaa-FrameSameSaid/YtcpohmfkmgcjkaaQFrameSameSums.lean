/- Plain lemmas on wrapped texts: what sym.Whole and crc.Open answer, as functions on lists of bytes; numbers out of bits. -/
import Derived.Test.YtcpohmfkmgcjkaaQFrameSameBits
import Derived.Laws.BitsLemmas
namespace Go.Proofs.Ytcpohmfkmgcjkaa.P
open Go.RowKit Go.Proofs.YtcpohmfkmgcjkaaW.PrintWords Go.Proofs.YtcpohmfkmgcjkaaW.PrintLast Go.Proofs.YtcpohmfkmgcjkaaW.PrintMore
attribute [local go_sem] max2_int min2_int max_two min_two max_three min_three max_four min_four
set_option linter.unusedVariables false
set_option linter.unusedSimpArgs false
theorem toL_of (s : ByteArray) : s.toList = toL s := ByteArray.toList_eq s
def numS (n : Int) (c : UInt8) : Int := 2 * n + (if c = 49 then 1 else 0)
def numL (l : List UInt8) : Int := l.foldl numS 0
theorem wraps_i64 (n : Int) (h₀ : 0 ≤ n) (h₁ : n < 2 ^ 63) : IntKind.i64.wrap n = n := by rw [IntKind.wrap_i64]; omega
theorem and_mod (x : Int) (h0 : 0 ≤ x) (h1 : x < 2 ^ 63) : Go.bits .and .i64 x 1 = x % 2 := bits_mask .i64 63 (by decide) wraps_i64 1 (by decide) x h0 h1
theorem bitsL_succ (v : Int) (n : Nat) : bitsL v (n + 1) = (if bitB v n = true then 49 else 48) :: bitsL v n := by
  unfold bitsL
  rw [List.range_succ_eq_map, List.map_cons, List.map_map]
  refine congr (congrArg List.cons ?_) ?_
  · rw [show n + 1 - 1 - 0 = n by omega]
  · refine List.map_congr_left fun i _ => ?_
    show (if bitB v (n + 1 - 1 - (i + 1)) = true then (49 : UInt8) else 48) = _
    rw [show n + 1 - 1 - (i + 1) = n - 1 - i by omega]
theorem bitB_nat (u n : Nat) (hu : u < 2 ^ 62) : bitB (u : Int) n = decide (u / 2 ^ n % 2 = 1) := by
  unfold bitB
  have hd : u / 2 ^ n ≤ u := Nat.div_le_self _ _
  have e : (u : Int) / 2 ^ n = ((u / 2 ^ n : Nat) : Int) := by push_cast; rfl
  have hb : u / 2 ^ n < 4611686018427387904 := Nat.lt_of_le_of_lt hd hu
  rw [e]
  generalize u / 2 ^ n = q at hb
  rw [and_mod _ (by omega) (by omega)]
  by_cases h : q % 2 = 1
  · rw [decide_eq_true h, beq_iff_eq]
    omega
  · rw [decide_eq_false h, beq_eq_false_iff_ne]
    omega
theorem fold_bits (u : Nat) (hu : u < 2 ^ 62) : ∀ (n : Nat) (a : Int), (bitsL (u : Int) n).foldl numS a = a * 2 ^ n + ((u % 2 ^ n : Nat) : Int)
  | 0, a => by
    have h0 : (u : Nat) % 2 ^ 0 = 0 := Nat.mod_one u
    rw [h0]
    show a = a * 2 ^ 0 + ((0 : Nat) : Int)
    rw [Int.pow_zero]
    omega
  | n + 1, a => by
    rw [bitsL_succ, List.foldl_cons, fold_bits u hu n, bitB_nat u n hu]
    have hm : u % 2 ^ (n + 1) = u % 2 ^ n + 2 ^ n * (u / 2 ^ n % 2) := by rw [Nat.pow_succ, Nat.mod_mul]
    rw [hm, Int.pow_succ]
    have h2 : u / 2 ^ n % 2 = 0 ∨ u / 2 ^ n % 2 = 1 := by omega
    rcases h2 with h | h
    · rw [h, decide_eq_false (by decide), if_neg (by decide)]
      unfold numS
      rw [if_neg (by decide), Int.add_zero, Int.mul_comm 2 a, Int.mul_assoc, Int.mul_comm 2 (2 ^ n), Nat.mul_zero, Nat.add_zero]
    · rw [h, decide_eq_true rfl, if_pos rfl]
      unfold numS
      rw [if_pos rfl, Int.add_mul, Int.mul_comm 2 a, Int.mul_assoc, Int.mul_comm 2 (2 ^ n), Nat.mul_one]
      push_cast
      omega
theorem numL_bitsL (v : Int) (n : Nat) (h0 : 0 ≤ v) (h1 : v < 2 ^ n) (hn : n ≤ 62) : numL (bitsL v n) = v := by
  obtain ⟨u, rfl⟩ := Int.eq_ofNat_of_zero_le h0
  have hu : u < 2 ^ n := by
    have : ((2 ^ n : Nat) : Int) = 2 ^ n := by push_cast; rfl
    omega
  have hu2 : u < 2 ^ 62 := Nat.lt_of_lt_of_le hu (Nat.pow_le_pow_right (by decide) hn)
  unfold numL
  rw [fold_bits u hu2 n 0, Nat.mod_eq_of_lt hu]
  omega
theorem bitsL_inj {v u : Int} {n : Nat} (hn : n ≤ 62) (h0 : 0 ≤ v) (h1 : v < 2 ^ n) (h2 : 0 ≤ u) (h3 : u < 2 ^ n) (h : bitsL v n = bitsL u n) : v = u := by
  rw [← numL_bitsL v n h0 h1 hn, h, numL_bitsL u n h2 h3 hn]
end Go.Proofs.Ytcpohmfkmgcjkaa.P
