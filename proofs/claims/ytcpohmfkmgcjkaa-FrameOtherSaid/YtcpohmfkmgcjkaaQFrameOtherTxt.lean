/- Plain lemmas on texts as lists of bytes: fronts, what is common, what is clean. -/
import Derived.Test.YtcpohmfkmgcjkaaQFrameOtherAid
import Derived.Test.YtcpohmfkmgcjkaaQFrameOtherMath
namespace Go.Proofs.Ytcpohmfkmgcjkaa.P
open Go.RowKit Go.Proofs.YtcpohmfkmgcjkaaW.PrintWords Go.Proofs.YtcpohmfkmgcjkaaW.PrintLast Go.Proofs.YtcpohmfkmgcjkaaW.PrintMore
attribute [local go_sem] max2_int min2_int max_two min_two max_three min_three max_four min_four
set_option linter.unusedVariables false
set_option linter.unusedSimpArgs false
def toL (s : ByteArray) : List UInt8 := s.data.toList
def ofL (l : List UInt8) : ByteArray := ⟨l.toArray⟩
theorem ofL_toL (s : ByteArray) : ofL (toL s) = s := rfl
theorem toL_ofL (l : List UInt8) : toL (ofL l) = l := rfl
theorem toL_inj {a b : ByteArray} (h : toL a = toL b) : a = b := by rw [← ofL_toL a, ← ofL_toL b, h]
theorem toL_length (s : ByteArray) : (toL s).length = s.size := by
  unfold toL
  rw [Array.length_toList]
  rfl
theorem ofL_size (l : List UInt8) : (ofL l).size = l.length := by rw [← toL_length]; rfl
theorem toL_append (a b : ByteArray) : toL (a ++ b) = toL a ++ toL b := by simp [toL, ByteArray.data_append]
theorem toL_extract (s : ByteArray) (n : Nat) : toL (s.extract 0 n) = (toL s).take n := by simp [toL, ByteArray.data_extract]
theorem extract_ofL (s : ByteArray) (n : Nat) : s.extract 0 n = ofL ((toL s).take n) := toL_inj (by rw [toL_extract, toL_ofL])
def isBit (c : UInt8) : Bool := c == 48 || c == 49
def cleanL : List UInt8 → List UInt8
  | [] => []
  | c :: t => if isBit c = true then c :: cleanL t else if c = 35 then [c] else []
end Go.Proofs.Ytcpohmfkmgcjkaa.P
