/- Plain lemmas on the sum: one symbol that is another one, or two, are always seen. -/
import Derived.Test.YtcpohmfkmgcjkaaQFrameTurnRefs
import Derived.Test.YtcpohmfkmgcjkaaQFrameTurnTurns
import Derived.Laws.BitsLemmas
namespace Go.Proofs.Ytcpohmfkmgcjkaa.P
open Go.RowKit Go.Proofs.YtcpohmfkmgcjkaaW.PrintWords Go.Proofs.YtcpohmfkmgcjkaaW.PrintLast Go.Proofs.YtcpohmfkmgcjkaaW.PrintMore
attribute [local go_sem] max2_int min2_int max_two min_two max_three min_three max_four min_four
set_option linter.unusedVariables false
set_option linter.unusedSimpArgs false
def stepB (s : BitVec 16) (b : Bool) : BitVec 16 := (s <<< 1) ^^^ (if (s.msb != b) = true then 4129#16 else 0#16)
def runB (s : BitVec 16) (l : List Bool) : BitVec 16 := l.foldl stepB s
theorem stepB_xor (s t : BitVec 16) (b c : Bool) : stepB (s ^^^ t) (b != c) = stepB s b ^^^ stepB t c := by
  unfold stepB
  rw [BitVec.shiftLeft_xor_distrib, BitVec.msb_xor]
  generalize s <<< 1 = x
  generalize t <<< 1 = y
  have h0 : ∀ z : BitVec 16, z ^^^ 0#16 = z := fun z => BitVec.xor_zero
  have h1 : ∀ u v : BitVec 16, u ^^^ 4129#16 ^^^ (v ^^^ 4129#16) = u ^^^ v := fun u v => by
    rw [BitVec.xor_assoc, BitVec.xor_comm v, ← BitVec.xor_assoc (4129#16), BitVec.xor_self, BitVec.zero_xor]
  have h2 : ∀ u v : BitVec 16, u ^^^ 4129#16 ^^^ v = u ^^^ v ^^^ 4129#16 := fun u v => by
    rw [BitVec.xor_assoc, BitVec.xor_comm (4129#16), ← BitVec.xor_assoc]
  have h3 : ∀ u v : BitVec 16, u ^^^ (v ^^^ 4129#16) = u ^^^ v ^^^ 4129#16 := fun u v => by rw [BitVec.xor_assoc]
  cases s.msb <;> cases t.msb <;> cases b <;> cases c <;> simp [h1, h2, h3]
theorem stepB_flip (s : BitVec 16) (b : Bool) : stepB s (!b) = stepB s b ^^^ 4129#16 := by
  have h := stepB_xor s 0#16 b true
  have e : stepB 0#16 true = 4129#16 := by decide
  rw [e, BitVec.xor_zero] at h
  rw [← h]
  congr 1
  cases b <;> rfl
def zeroB : Nat → BitVec 16 → BitVec 16
  | 0, d => d
  | n + 1, d => zeroB n (stepB d false)
theorem runB_xor : ∀ (l : List Bool) (s d : BitVec 16), runB (s ^^^ d) l = runB s l ^^^ zeroB l.length d
  | [], _, _ => rfl
  | b :: l, s, d => by
    have h := stepB_xor s d b false
    rw [Bool.bne_false] at h
    show runB (stepB (s ^^^ d) b) l = runB (stepB s b) l ^^^ zeroB l.length (stepB d false)
    rw [h, runB_xor l]
theorem runB_flip (p q : List Bool) (b : Bool) (s : BitVec 16) : runB s (p ++ (!b) :: q) = runB s (p ++ b :: q) ^^^ zeroB q.length 4129#16 := by
  unfold runB
  rw [List.foldl_append, List.foldl_append, List.foldl_cons, List.foldl_cons, stepB_flip]
  exact runB_xor q _ _
theorem zeroB_xor : ∀ (n : Nat) (s t : BitVec 16), zeroB n (s ^^^ t) = zeroB n s ^^^ zeroB n t
  | 0, _, _ => rfl
  | n + 1, s, t => by
    have h := stepB_xor s t false false
    rw [Bool.bne_false] at h
    show zeroB n (stepB (s ^^^ t) false) = zeroB n (stepB s false) ^^^ zeroB n (stepB t false)
    rw [h, zeroB_xor n]
theorem stepB_zero {d : BitVec 16} (h : stepB d false = 0#16) : d = 0#16 := by
  unfold stepB at h
  have hd := d.isLt
  have hs : (d <<< 1).toNat = d.toNat * 2 % 65536 := by
    rw [BitVec.toNat_shiftLeft, Nat.shiftLeft_eq]
  rw [Bool.bne_false] at h
  by_cases hm : d.msb = true
  · rw [if_pos hm] at h
    have e : d <<< 1 = 4129#16 := by
      have h2 : d <<< 1 ^^^ 4129#16 ^^^ 4129#16 = 0#16 ^^^ 4129#16 := congrArg (fun z => z ^^^ 4129#16) h
      rw [BitVec.xor_assoc, BitVec.xor_self, BitVec.xor_zero, BitVec.zero_xor] at h2
      exact h2
    have e2 := congrArg BitVec.toNat e
    rw [hs] at e2
    have e3 : (4129#16).toNat = 4129 := rfl
    omega
  · rw [if_neg hm, BitVec.xor_zero] at h
    have e2 := congrArg BitVec.toNat h
    rw [hs] at e2
    have e3 : (0#16).toNat = 0 := rfl
    have hm2 : d.msb = false := Bool.eq_false_iff.mpr hm
    rw [BitVec.msb_eq_false_iff_two_mul_lt] at hm2
    apply BitVec.eq_of_toNat_eq
    omega
theorem zeroB_zero : ∀ (n : Nat) {d : BitVec 16}, zeroB n d = 0#16 → d = 0#16
  | 0, _, h => h
  | n + 1, d, h => stepB_zero (zeroB_zero n h)
theorem zeroB_add : ∀ (n m : Nat) (d : BitVec 16), zeroB (n + m) d = zeroB n (zeroB m d)
  | n, 0, _ => rfl
  | n, m + 1, d => zeroB_add n m (stepB d false)
def awayB : Nat → BitVec 16 → Bool
  | 0, _ => true
  | n + 1, d => (d != 4129#16) && awayB n (stepB d false)
theorem awayB_all : awayB 220 (stepB 4129#16 false) = true := by decide +kernel
theorem awayB_get : ∀ (n : Nat) (d : BitVec 16), awayB n d = true → ∀ m, m < n → zeroB m d ≠ 4129#16
  | n + 1, d, h, 0, _ => by
    rw [awayB, Bool.and_eq_true] at h
    exact bne_iff_ne.1 h.1
  | n + 1, d, h, m + 1, hm => by
    rw [awayB, Bool.and_eq_true] at h
    exact awayB_get n (stepB d false) h.2 m (by omega)
theorem one_error (p : Nat) : zeroB p 4129#16 ≠ 0#16 := fun h => absurd (zeroB_zero p h) (by decide)
theorem two_errors {p q : Nat} (hp : p < 220) (hq : q < 220) (h : p ≠ q) : zeroB p 4129#16 ^^^ zeroB q 4129#16 ≠ 0#16 := by
  have key : ∀ a r : Nat, r < 220 → zeroB a 4129#16 ^^^ zeroB (a + (r + 1)) 4129#16 ≠ 0#16 := by
    intro a r hr h0
    rw [zeroB_add, ← zeroB_xor] at h0
    have h1 := zeroB_zero a h0
    have h2 : zeroB (r + 1) 4129#16 = 4129#16 := by
      have h3 : 4129#16 ^^^ (4129#16 ^^^ zeroB (r + 1) 4129#16) = 4129#16 ^^^ 0#16 := congrArg (fun z => 4129#16 ^^^ z) h1
      rw [← BitVec.xor_assoc, BitVec.xor_self, BitVec.zero_xor, BitVec.xor_zero] at h3
      exact h3
    exact awayB_get 220 _ awayB_all r hr h2
  rcases Nat.lt_or_gt_of_ne h with h1 | h1
  · obtain ⟨r, rfl⟩ : ∃ r, q = p + (r + 1) := ⟨q - p - 1, by omega⟩
    exact key p r (by omega)
  · obtain ⟨r, rfl⟩ : ∃ r, p = q + (r + 1) := ⟨p - q - 1, by omega⟩
    rw [BitVec.xor_comm]
    exact key q r (by omega)
def bitsOf (l : List UInt8) : List Bool := l.map (fun c => c == 49)
theorem crcStep_B (s : BitVec 16) (c : UInt8) (hc : isBit c = true) : crcStep (s.toNat : Int) c = ((stepB s (c == 49)).toNat : Int) := by
  have hs := s.isLt
  rw [crcStep_ref _ c hc (by omega) (by omega), mask_eq _ (by omega) (by omega)]
  unfold stepB
  have hsh : (s <<< 1).toNat = s.toNat * 2 % 65536 := by rw [BitVec.toNat_shiftLeft, Nat.shiftLeft_eq]
  have hx : (s.toNat : Int) * 2 % 65536 = ((s.toNat * 2 % 65536 : Nat) : Int) := by omega
  have hm : (((s.toNat : Int) / 32768) == 1) = s.msb := by
    rw [Bool.eq_iff_iff, beq_iff_eq, BitVec.msb_eq_true_iff_two_mul_ge]
    omega
  have hc2 : (((c.toNat : Int)) == 49) = (c == 49) := by
    rcases bit_cases hc with rfl | rfl <;> rfl
  rw [hm, hc2, hx]
  by_cases h : (s.msb != (c == 49)) = true
  · rw [if_pos h, if_pos h, BitVec.toNat_xor, hsh]
    have e : Go.bits .xor .i64 ((s.toNat * 2 % 65536 : Nat) : Int) 4129 = IntKind.i64.wrap (((BitVec.ofInt 64 ((s.toNat * 2 % 65536 : Nat) : Int) ^^^ BitVec.ofInt 64 4129).toNat : Nat) : Int) := rfl
    have e1 : (BitVec.ofInt 64 ((s.toNat * 2 % 65536 : Nat) : Int)).toNat = s.toNat * 2 % 65536 := by rw [BitVec.toNat_ofInt]; omega
    have e2 : (BitVec.ofInt 64 4129).toNat = 4129 := by decide
    have e3 : (4129#16).toNat = 4129 := rfl
    have hb : (s.toNat * 2 % 65536) ^^^ 4129 < 2 ^ 16 := Nat.xor_lt_two_pow (by omega) (by decide)
    rw [e, BitVec.toNat_xor, e1, e2, e3, IntKind.wrap_i64]
    omega
  · rw [if_neg h, if_neg h, BitVec.xor_zero, hsh]
theorem crc_B : ∀ (l : List UInt8) (s : BitVec 16), (∀ c ∈ l, isBit c = true) → l.foldl crcStep (s.toNat : Int) = ((runB s (bitsOf l)).toNat : Int)
  | [], _, _ => rfl
  | c :: l, s, h => by
    rw [List.foldl_cons, crcStep_B s c (h c (List.mem_cons_self ..)), crc_B l _ (fun d hd => h d (List.mem_cons_of_mem _ hd))]
    rfl
theorem crcL_B (l : List UInt8) (h : ∀ c ∈ l, isBit c = true) : crcL l = ((runB 65535#16 (bitsOf l)).toNat : Int) := crc_B l 65535#16 h
theorem own_bits : ∀ (n : Nat) (s : BitVec 16), n ≤ 16 → s.toNat % 2 ^ (16 - n) = 0 → runB s (bitsOf (bitsL ((s.toNat / 2 ^ (16 - n) : Nat) : Int) n)) = 0#16
  | 0, s, _, h => by
    have hs := s.isLt
    apply BitVec.eq_of_toNat_eq
    show s.toNat = 0
    rw [Nat.mod_eq_of_lt (by simpa using hs)] at h
    exact h
  | n + 1, s, hn, h => by
    have hs := s.isLt
    have hp : 2 ^ (16 - n) = 2 * 2 ^ (16 - (n + 1)) := by rw [show 16 - n = (16 - (n + 1)) + 1 by omega, Nat.pow_succ]; omega
    have hpp : 2 ^ n * 2 ^ (16 - (n + 1)) = 32768 := by rw [← Nat.pow_add, show n + (16 - (n + 1)) = 15 by omega]
    have hpos : 0 < 2 ^ (16 - (n + 1)) := Nat.pow_pos (by decide)
    obtain ⟨q, hq⟩ : ∃ q, s.toNat = 2 ^ (16 - (n + 1)) * q := ⟨s.toNat / 2 ^ (16 - (n + 1)), by have := Nat.div_add_mod s.toNat (2 ^ (16 - (n + 1))); omega⟩
    have hdiv : s.toNat / 2 ^ (16 - (n + 1)) = q := by rw [hq, Nat.mul_div_cancel_left _ hpos]
    have hmsb : s.msb = bitB (q : Int) n := by
      rw [bitB_nat q n (by rw [← hdiv]; exact Nat.lt_of_le_of_lt (Nat.div_le_self _ _) (Nat.lt_trans hs (by decide))), Bool.eq_iff_iff, BitVec.msb_eq_true_iff_two_mul_ge, decide_eq_true_eq]
      have hq2 : q / 2 ^ n = s.toNat / 32768 := by rw [← hdiv, Nat.div_div_eq_div_mul, Nat.mul_comm, hpp]
      rw [hq2]
      omega
    rw [hdiv, bitsL_succ]
    have hstep : stepB s (bitB (q : Int) n) = s <<< 1 := by
      unfold stepB
      rw [hmsb, bne_self_eq_false, if_neg (by decide), BitVec.xor_zero]
    have hbit : ((if bitB (q : Int) n = true then (49 : UInt8) else 48) == 49) = bitB (q : Int) n := by cases bitB (q : Int) n <;> rfl
    show runB (stepB s ((if bitB (q : Int) n = true then (49 : UInt8) else 48) == 49)) (bitsOf (bitsL (q : Int) n)) = 0#16
    rw [hbit, hstep]
    have hsh : (s <<< 1).toNat = s.toNat * 2 % 65536 := by rw [BitVec.toNat_shiftLeft, Nat.shiftLeft_eq]
    have h16 : 2 ^ (16 - n) * 2 ^ n = 65536 := by rw [← Nat.pow_add, show 16 - n + n = 16 by omega]
    have hval : (s <<< 1).toNat = 2 ^ (16 - n) * (q % 2 ^ n) := by
      rw [hsh, hq, show 2 ^ (16 - (n + 1)) * q * 2 = 2 ^ (16 - n) * q by rw [hp, Nat.mul_right_comm, Nat.mul_comm (2 ^ (16 - (n + 1))) 2], ← h16, Nat.mul_mod_mul_left]
    have hpos2 : 0 < 2 ^ (16 - n) := Nat.pow_pos (by decide)
    have ih := own_bits n (s <<< 1) (by omega) (by rw [hval, Nat.mul_mod_right])
    have hd2 : (s <<< 1).toNat / 2 ^ (16 - n) = q % 2 ^ n := by rw [hval, Nat.mul_div_cancel_left _ hpos2]
    rw [hd2] at ih
    have hsame : bitsL (q : Int) n = bitsL ((q % 2 ^ n : Nat) : Int) n := by
      unfold bitsL
      refine List.map_congr_left fun i hi => ?_
      have hq62 : q < 2 ^ 62 := by rw [← hdiv]; exact Nat.lt_of_le_of_lt (Nat.div_le_self _ _) (Nat.lt_trans hs (by decide))
      have hi2 : n - 1 - i < n := by have := List.mem_range.1 hi; omega
      rw [bitB_nat q _ hq62, bitB_nat _ _ (Nat.lt_of_le_of_lt (Nat.mod_le _ _) hq62)]
      have hsplit : 2 ^ n = 2 ^ (n - 1 - i) * (2 * 2 ^ (i)) := by
        have := List.mem_range.1 hi
        rw [show 2 * 2 ^ i = 2 ^ (i + 1) by rw [Nat.pow_succ, Nat.mul_comm], ← Nat.pow_add]
        congr 1
        omega
      have : q % 2 ^ n / 2 ^ (n - 1 - i) % 2 = q / 2 ^ (n - 1 - i) % 2 := by
        rw [hsplit, Nat.mod_mul_right_div_self, Nat.mod_mul_right_mod]
      rw [this]
    rw [hsame]
    exact ih
theorem full_zero (l c : List UInt8) (hl : ∀ x ∈ l, isBit x = true) (h : bitsL (crcL l) 16 = c) : runB 65535#16 (bitsOf (l ++ c)) = 0#16 := by
  subst h
  unfold bitsOf runB
  rw [List.map_append, List.foldl_append, crcL_B l hl]
  have := own_bits 16 (runB 65535#16 (bitsOf l)) (by decide) (by simp [Nat.mod_one])
  rw [show 2 ^ (16 - 16) = 1 from rfl, Nat.div_one] at this
  exact this
theorem bitsOf_turn (l : List UInt8) (hb : ∀ c ∈ l, isBit c = true) (i : Nat) (hi : i < l.length) (s : BitVec 16) : runB s (bitsOf (turnL l i)) = runB s (bitsOf l) ^^^ zeroB (l.length - 1 - i) 4129#16 := by
  have e1 : l = l.take i ++ l[i] :: l.drop (i + 1) := by rw [← List.drop_eq_getElem_cons hi, List.take_append_drop]
  have e2 : turnL l i = l.take i ++ turnC l[i] :: l.drop (i + 1) := by
    show l.take i ++ ((l.drop i).take 1).map turnC ++ l.drop (i + 1) = _
    rw [List.drop_eq_getElem_cons hi, List.append_assoc]
    rfl
  have e3 : (turnC l[i] == 49) = !(l[i] == 49) := by
    rcases bit_cases (hb _ (List.getElem_mem hi)) with h | h <;> rw [h] <;> rfl
  have e4 : bitsOf (turnL l i) = bitsOf (l.take i) ++ (!(l[i] == 49)) :: bitsOf (l.drop (i + 1)) := by
    rw [e2]
    unfold bitsOf
    rw [List.map_append, List.map_cons, e3]
  have e5 : bitsOf l = bitsOf (l.take i) ++ (l[i] == 49) :: bitsOf (l.drop (i + 1)) := by
    conv => lhs; rw [e1]
    unfold bitsOf
    rw [List.map_append, List.map_cons]
  have e6 : (bitsOf (l.drop (i + 1))).length = l.length - 1 - i := by unfold bitsOf; rw [List.length_map, List.length_drop]; omega
  rw [e4, runB_flip, ← e5, e6]
end Go.Proofs.Ytcpohmfkmgcjkaa.P
