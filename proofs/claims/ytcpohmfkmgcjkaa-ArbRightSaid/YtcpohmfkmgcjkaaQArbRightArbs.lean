/- Plain lemmas on what a node takes: what arb.Right and the document's Right answer, as one function on lists of bytes. -/
import Derived.Test.YtcpohmfkmgcjkaaQArbRightRefReads
import Derived.Test.YtcpohmfkmgcjkaaQArbRightPx29
import Derived.Test.YtcpohmfkmgcjkaaQArbRightPx31
namespace Go.Proofs.Ytcpohmfkmgcjkaa.P
open Go.RowKit Go.Proofs.YtcpohmfkmgcjkaaW.PrintWords Go.Proofs.YtcpohmfkmgcjkaaW.PrintLast Go.Proofs.YtcpohmfkmgcjkaaW.PrintMore
attribute [local go_sem] max2_int min2_int max_two min_two max_three min_three max_four min_four
set_option linter.unusedVariables false
set_option linter.unusedSimpArgs false
theorem arb_65535 (x : Int) (h0 : 0 ≤ x) (h1 : x < 1099511627776) : Go.bits .and .i64 x 65535 = x % 65536 := by
  have h := bits_mask .i64 40 (by decide) (fun n a b => by rw [IntKind.wrap_i64]; omega) 16 (by decide) x h0 (by simpa using h1)
  simpa using h
theorem arb_Wire_eq (N Pi E G F : Int) (l : List Int) (r : Int) (h0 : 0 ≤ F) (h1 : F ≤ 65535) (h2 : 0 ≤ r) (h3 : r ≤ 1073741824) : conf_Wire.f N Pi E G F l r = some ((F + r) % 65536) := by
  unfold conf_Wire.f
  rw [w64 (by omega) (by omega), arb_65535 _ (by omega) (by omega)]
theorem arb_Wire3_eq (N Pi E G F : Int) (l : List Int) (r : Int) (h0 : 0 ≤ F) (h1 : F ≤ 65535) (h2 : 0 ≤ r) (h3 : r ≤ 1073741824) : plaitingref3_Wire.f N Pi E G F l r = some ((F + r) % 65536) := by
  unfold plaitingref3_Wire.f
  rw [w64 (by omega) (by omega), Int.tmod_eq_emod_of_nonneg (by omega)]
abbrev RightRes := Int × Int × Int × Int × Int × List S26 × Bool
def noRight : RightRes := (0, 0, 0, 0, 0, [], false)
def rightR (r : ReadRes) (W slot : Int) : RightRes := if r.2.2.2.2.2.2 = 0 then (if r.2.1 = W then (if r.2.2.1 = slot then (r.1, r.2.1, r.2.2.1, r.2.2.2.1, r.2.2.2.2.1, r.2.2.2.2.2.1, true) else noRight) else noRight) else noRight
def rightL (n pi e g f : Int) (ps : List Int) (W slot : Int) (l : List UInt8) : RightRes := rightR (readL n pi e g f ps l) W slot
theorem arb_Right_eq (n pi e g f : Int) (ps : List Int) (r slot : Int) (s : ByteArray) (h1 : 0 ≤ n) (h2 : n ≤ 1000) (h3 : ps.length ≤ 1000) (f1 : 0 ≤ f) (f2 : f ≤ 65535) (r1 : 0 ≤ r) (r2 : r ≤ 1073741824) (hs : s.size ≤ 1000000) :
    arb_Right.f n pi e g f ps r slot s = some (rightL n pi e g f ps ((f + r) % 65536) slot (toL s)) := by
  unfold arb_Right.f rightL rightR
  rw [frame_Read_eq n pi e g f ps s h1 h2 h3 hs, Option.bind_some]
  generalize readL n pi e g f ps (toL s) = q
  split
  · rw [arb_Wire_eq n pi e g f ps r f1 f2 r1 r2, Option.bind_some]
    split
    · split <;> rfl
    · rfl
  · rfl
theorem r10_Right_eq (k : Nat) (n pi e g f : Int) (ps : List Int) (r slot : Int) (s : ByteArray) (h1 : 0 ≤ n) (h2 : n ≤ 1000) (h3 : ps.length ≤ 1000) (f1 : 0 ≤ f) (f2 : f ≤ 65535) (r1 : 0 ≤ r) (r2 : r ≤ 1073741824) (hs : s.size ≤ 1000000) (hk : 3000000 ≤ k) :
    plaitingref10_Right.f k n pi e g f ps r slot s = some (rightL n pi e g f ps ((f + r) % 65536) slot (toL s)) := by
  unfold plaitingref10_Right.f rightL rightR
  rw [r5_Read_eq k n pi e g f ps s h1 h2 h3 hs hk, Option.bind_some]
  generalize readL n pi e g f ps (toL s) = q
  split
  · rw [arb_Wire3_eq n pi e g f ps r f1 f2 r1 r2, Option.bind_some]
    split
    · split <;> rfl
    · rfl
  · rfl
theorem readT_items2 (n pi e g f : Int) (ps : List Int) (K R S P V : Int) (l : List S26) : (readT n pi e g f ps K R S P V l).2.2.2.2.2.1.length ≤ l.length := by
  unfold readT
  split
  · exact Nat.le_refl _
  · exact Nat.zero_le _
theorem readL_items2 (n pi e g f : Int) (ps : List Int) (l : List UInt8) : (readL n pi e g f ps l).2.2.2.2.2.1.length ≤ l.length := by
  have hl := openL_length l
  unfold readL
  split
  · unfold readB
    split
    · exact Nat.zero_le _
    · split
      · refine Nat.le_trans (readT_items2 ..) ?_
        rw [itemsL_length]
        omega
      · exact Nat.zero_le _
  · exact Nat.zero_le _
theorem rightL_items (n pi e g f : Int) (ps : List Int) (W slot : Int) (l : List UInt8) : (rightL n pi e g f ps W slot l).2.2.2.2.2.1.length ≤ l.length := by
  have h := readL_items2 n pi e g f ps l
  unfold rightL rightR
  split
  · split
    · split
      · exact h
      · exact Nat.zero_le _
    · exact Nat.zero_le _
  · exact Nat.zero_le _
theorem rightL_made {n : Int} {K R S P V : Int} {echo : List S26} (pi e g f : Int) {ps : List Int} (h : MadeFrame n ps.length K R S P V echo) (h1 : 0 ≤ n) (h2 : n + ps.length ≤ 63) : rightL n pi e g f ps R S (wrapL (frameBits K R S P V echo)) = (K, R, S, P, V, echo, true) := by
  unfold rightL rightR
  rw [readL_made pi e g f h h1 h2, if_pos rfl, if_pos rfl, if_pos rfl]
end Go.Proofs.Ytcpohmfkmgcjkaa.P
