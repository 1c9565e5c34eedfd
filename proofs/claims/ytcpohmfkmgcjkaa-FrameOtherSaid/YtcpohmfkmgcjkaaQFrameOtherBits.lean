/- Plain lemmas on bits as texts: what sym.Bits, crc.Sum and crc.Wrap answer, as functions on lists of bytes. -/
import Derived.Test.YtcpohmfkmgcjkaaQFrameOtherPx7
namespace Go.Proofs.Ytcpohmfkmgcjkaa.P
open Go.RowKit Go.Proofs.YtcpohmfkmgcjkaaW.PrintWords Go.Proofs.YtcpohmfkmgcjkaaW.PrintLast Go.Proofs.YtcpohmfkmgcjkaaW.PrintMore
attribute [local go_sem] max2_int min2_int max_two min_two max_three min_three max_four min_four
set_option linter.unusedVariables false
set_option linter.unusedSimpArgs false
theorem and_one (x : Int) : Go.bits .and .i64 x 1 = 0 ∨ Go.bits .and .i64 x 1 = 1 := by
  have h : ∀ m : Nat, m < 2 → IntKind.i64.wrap (m : Int) = m := fun m h => by rw [IntKind.wrap_i64]; omega
  have e : Go.bits .and .i64 x 1 = IntKind.i64.wrap (((BitVec.ofInt 64 x &&& BitVec.ofInt 64 1).toNat : Nat) : Int) := rfl
  have l : (BitVec.ofInt 64 x &&& BitVec.ofInt 64 1).toNat < 2 := by
    rw [BitVec.toNat_and, show (BitVec.ofInt 64 1).toNat = 1 from rfl, Nat.and_one_is_mod]
    omega
  rw [e, h _ l]
  omega
def bitB (n : Int) (j : Nat) : Bool := Go.bits .and .i64 (n / 2 ^ j) 1 == 1
def bitsL (n : Int) (size : Nat) : List UInt8 := (List.range size).map fun i => if bitB n (size - 1 - i) = true then 49 else 48
theorem bitsL_length (n : Int) (size : Nat) : (bitsL n size).length = size := by simp [bitsL]
theorem bitsL_bit (n : Int) (size : Nat) : ∀ c ∈ bitsL n size, isBit c = true := by
  intro c hc
  simp only [bitsL, List.mem_map] at hc
  obtain ⟨i, _, rfl⟩ := hc
  split <;> rfl
theorem shr_eq (n : Int) (j : Nat) (hj : j ≤ 64) : shr .i64 n (j : Int) = n / 2 ^ j := by
  unfold shr
  rw [Int.toNat_natCast, Nat.min_eq_left (by exact hj)]
def bitsN (n : Int) (size : Nat) : List Int := (List.range size).map fun i => if bitB n (size - 1 - i) = true then 49 else 48
theorem strOf_bitsN (n : Int) (size : Nat) : strOfNums (bitsN n size) = ofL (bitsL n size) := by
  unfold strOfNums ofL bitsN bitsL
  rw [List.map_map]
  congr 2
  apply List.map_congr_left
  intro i _
  simp only [Function.comp_apply]
  split <;> rfl
theorem sym_Bits_loop (n : Int) (size : Nat) (hs : size ≤ 62) : ∀ d (k i : Nat) (acc : List Int), size - i = d → d < k → i ≤ size → acc.length = size →
    sym_Bits.l0 k n (size : Int) acc (size : Int) (i : Int) = some (strOfNums (acc.take i ++ (bitsN n size).drop i)) := by
  intro d
  induction d with
  | zero =>
    intro k i acc h1 h2 h3 h4
    obtain ⟨k, rfl⟩ : ∃ m, k = m + 1 := ⟨k - 1, by omega⟩
    have : i = size := by omega
    subst this
    rw [sym_Bits.l0, if_neg (by omega), List.take_of_length_le (by omega), List.drop_eq_nil_of_le (by simp [bitsN]), List.append_nil]
  | succ d ih =>
    intro k i acc h1 h2 h3 h4
    obtain ⟨k, rfl⟩ : ∃ m, k = m + 1 := ⟨k - 1, by omega⟩
    have e1 : wrap64 (wrap64 ((size : Int) - 1) - (i : Int)) = ((size - 1 - i : Nat) : Int) := by
      rw [w64 (x := (size : Int) - 1) (by omega) (by omega), w64 (by omega) (by omega)]
      omega
    rw [sym_Bits.l0, if_pos (by omega), e1, if_pos (by omega), if_pos (by omega), if_pos (by rw [h4]; omega), shr_eq _ _ (by omega), w64 (x := (i : Int) + 1) (by omega) (by omega), show (i : Int) + 1 = ((i + 1 : Nat) : Int) from by omega]
    have hv : (wrap64 (48 + Go.bits .and .i64 (n / 2 ^ (size - 1 - i)) 1)) % 256 = if bitB n (size - 1 - i) = true then 49 else 48 := by
      unfold bitB
      rcases and_one (n / 2 ^ (size - 1 - i)) with h | h <;> rw [h] <;> decide +kernel
    rw [hv, Int.toNat_natCast, ih k (i + 1) _ (by omega) (by omega) (by omega) (by rw [List.length_set, h4])]
    have hL : i < (bitsN n size).length := by simp [bitsN]; omega
    have hg : (bitsN n size)[i] = if bitB n (size - 1 - i) = true then 49 else 48 := by simp [bitsN]
    rw [List.drop_eq_getElem_cons hL, hg, List.take_add_one, List.getElem?_set_self (by omega), List.take_set_of_le (by omega)]
    simp
theorem sym_Bits_eq (k : Nat) (n : Int) (size : Nat) (h0 : 1 ≤ size) (hs : size ≤ 62) : sym_Bits.f (k + 70) n (size : Int) = some (ofL (bitsL n size)) := by
  unfold sym_Bits.f
  rw [if_neg (by omega), decide_eq_false (by omega), sym_Bits.j0, if_neg (by decide), if_pos (by omega), if_pos (by omega), Option.bind_some, List.length_replicate]
  rw [Int.toNat_natCast]
  have := sym_Bits_loop n size hs (size - 0) (k + 69) 0 (List.replicate size 0) rfl (by omega) (by omega) (by simp)
  rw [List.take_zero, List.nil_append, List.drop_zero, strOf_bitsN] at this
  exact this
def crcL (l : List UInt8) : Int := l.foldl crcStep 65535
theorem isBit_lt {c : UInt8} (h : isBit c = true) : c.toNat < 128 := by
  unfold isBit at h
  rw [Bool.or_eq_true, beq_iff_eq, beq_iff_eq] at h
  rcases h with rfl | rfl <;> decide
theorem crc_Sum_eq (l : List UInt8) (h : ∀ c ∈ l, isBit c = true) : crc_Sum.f (ofL l) = some (crcL l) := by
  unfold crc_Sum.f
  rw [if_pos]
  · rfl
  · rw [List.all_eq_true]
    intro c hc
    exact decide_eq_true (isBit_lt (h c hc))
def wrapL (l : List UInt8) : List UInt8 := l ++ bitsL (crcL l) 16 ++ [35]
theorem wrapL_length (l : List UInt8) : (wrapL l).length = l.length + 17 := by simp [wrapL, bitsL_length]
theorem ofL_append (a b : List UInt8) : ofL a ++ ofL b = ofL (a ++ b) := toL_inj (by rw [toL_append, toL_ofL, toL_ofL, toL_ofL])
theorem crc_Wrap_eq (k : Nat) (l : List UInt8) (h : ∀ c ∈ l, isBit c = true) (hl : l.length ≤ 100000000) : crc_Wrap.f (k + 70) (ofL l) = some (ofL (wrapL l)) := by
  unfold crc_Wrap.f
  rw [crc_Sum_eq l h, Option.bind_some, show (16 : Int) = ((16 : Nat) : Int) from rfl, sym_Bits_eq k _ 16 (by decide) (by decide), Option.bind_some, ofL_append, ofL_size, ofL_size, bitsL_length, ofL_size, List.length_append, bitsL_length, if_pos (by omega), if_pos (by omega)]
  rw [show (⟨#[35]⟩ : ByteArray) = ofL [35] from rfl, ofL_append]
  rfl
end Go.Proofs.Ytcpohmfkmgcjkaa.P
