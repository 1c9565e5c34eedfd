/- Plain lemmas on what a node takes: what arb.Pick answers, as one function. -/
import Derived.Test.YtcpohmfkmgcjkaaQArbPairsArbs
namespace Go.Proofs.Ytcpohmfkmgcjkaa.P
open Go.RowKit Go.Proofs.YtcpohmfkmgcjkaaW.PrintWords Go.Proofs.YtcpohmfkmgcjkaaW.PrintLast Go.Proofs.YtcpohmfkmgcjkaaW.PrintMore
attribute [local go_sem] max2_int min2_int max_two min_two max_three min_three max_four min_four
set_option linter.unusedVariables false
set_option linter.unusedSimpArgs false
def rgL (n pi e g f : Int) (ps : List Int) (W slot : Int) (B : Bool) (s : ByteArray) : List Tk :=
  if B = true then (let q := rightL n pi e g f ps W slot (toL s); tk true q.2.2.2.2.2.2 ⟨s, q.1, q.2.1, q.2.2.1, q.2.2.2.1, q.2.2.2.2.1, q.2.2.2.2.2.1⟩) else []
theorem arb_Pick_eq (n pi e g f : Int) (ps : List Int) (r slot : Int) (a0 a1 a2 : ByteArray) (a3 : Int) (b0 b1 b2 : ByteArray) (b3 : Int) (h1 : 0 ≤ n) (h2 : n ≤ 1000) (h3 : ps.length ≤ 1000) (f1 : 0 ≤ f) (f2 : f ≤ 65535) (r1 : 0 ≤ r) (r2 : r ≤ 1073741824)
    (s1 : a0.size ≤ 1000000) (s2 : a2.size ≤ 1000000) (s3 : b0.size ≤ 1000000) (s4 : b2.size ≤ 1000000) :
    arb_Pick.f n pi e g f ps r slot a0 a1 a2 a3 b0 b1 b2 b3 = pickTail (some (pickFirst (rgL n pi e g f ps ((f + r) % 65536) slot (a3 == 1 && !decide (slot ≥ n)) a0 ++ rgL n pi e g f ps ((f + r) % 65536) slot (b3 == 1 && !decide (slot ≥ n)) b0)))
      (rgL n pi e g f ps ((f + r) % 65536) slot (decide (a3 ≥ 2) || (a3 == 1 && decide (slot ≥ n))) a2 ++ rgL n pi e g f ps ((f + r) % 65536) slot (decide (b3 ≥ 2) || (b3 == 1 && decide (slot ≥ n))) b2) := by
  unfold arb_Pick.f
  rw [arb_rg_eq n pi e g f ps r slot _ a2 h1 h2 h3 f1 f2 r1 r2 s2, Option.bind_some, arb_rg_eq n pi e g f ps r slot _ b2 h1 h2 h3 f1 f2 r1 r2 s4, Option.bind_some, arb_rg_eq n pi e g f ps r slot _ a0 h1 h2 h3 f1 f2 r1 r2 s1, Option.bind_some, arb_rg_eq n pi e g f ps r slot _ b0 h1 h2 h3 f1 f2 r1 r2 s3, Option.bind_some]
  rfl
theorem rgL_off (n pi e g f : Int) (ps : List Int) (W slot : Int) (s : ByteArray) : rgL n pi e g f ps W slot false s = [] := rfl
theorem rgL_not (n pi e g f : Int) (ps : List Int) (W slot : Int) (B : Bool) (s : ByteArray) (h : (rightL n pi e g f ps W slot (toL s)).2.2.2.2.2.2 = false) : rgL n pi e g f ps W slot B s = [] := by
  unfold rgL
  split
  · show tk true _ _ = []
    rw [h]
    rfl
  · rfl
theorem rightL_err (n pi e g f : Int) (ps : List Int) (W slot : Int) (l : List UInt8) (h : (readL n pi e g f ps l).2.2.2.2.2.2 ≠ 0) : (rightL n pi e g f ps W slot l).2.2.2.2.2.2 = false := by
  unfold rightL rightR
  rw [if_neg h]
  rfl
theorem readL_short (n pi e g f : Int) (ps : List Int) (l : List UInt8) (h : l.length < 34) : (readL n pi e g f ps l).2.2.2.2.2.2 ≠ 0 := by
  have hl := openL_length l
  unfold readL
  split
  · unfold readB
    rw [if_pos (by omega)]
    show (3 : Int) ≠ 0
    decide
  · assumption
theorem rgL_made {n : Int} {K R S P V : Int} {echo : List S26} (pi e g f : Int) {ps : List Int} (h : MadeFrame n ps.length K R S P V echo) (h1 : 0 ≤ n) (h2 : n + ps.length ≤ 63) : rgL n pi e g f ps R S true (ofL (wrapL (frameBits K R S P V echo))) = [⟨ofL (wrapL (frameBits K R S P V echo)), K, R, S, P, V, echo⟩] := by
  unfold rgL
  rw [if_pos rfl, toL_ofL, rightL_made pi e g f h h1 h2]
  rfl
end Go.Proofs.Ytcpohmfkmgcjkaa.P
