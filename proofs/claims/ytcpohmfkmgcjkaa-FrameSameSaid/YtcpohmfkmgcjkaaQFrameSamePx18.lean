/- Printed by a program of this session (myprint) out of the translation: the functions as plain Lean functions, and that the calls compute them. What counts is Lean's check. -/
import Derived.Test.YtcpohmfkmgcjkaaQFrameSameOks
import Derived.Test.YtcpohmfkmgcjkaaQFrameSamePx0
import Derived.Test.YtcpohmfkmgcjkaaQFrameSamePx1
import Derived.Test.YtcpohmfkmgcjkaaQFrameSamePx8
import Derived.Test.YtcpohmfkmgcjkaaQFrameSamePx10
import Derived.Test.YtcpohmfkmgcjkaaQFrameSamePx12
import Derived.Test.YtcpohmfkmgcjkaaQFrameSamePx13
namespace Go.Proofs.Ytcpohmfkmgcjkaa.P
open Go.RowKit Go.Proofs.YtcpohmfkmgcjkaaW.PrintWords Go.Proofs.YtcpohmfkmgcjkaaW.PrintLast Go.Proofs.YtcpohmfkmgcjkaaW.PrintMore
attribute [local go_sem] max2_int min2_int max_two min_two max_three min_three max_four min_four
set_option linter.unusedVariables false
set_option linter.unusedSimpArgs false
attribute [-simp] ByteArray.size_extract ByteArray.size_append ByteArray.extract_append_extract
attribute [-go_sem] ByteArray.size_append'
def plaitinglaw5_FrameSame.f (k : Nat) (a0_0 : Int) (a0_1 : Int) (a0_2 : Int) (a0_3 : Int) (a0_4 : Int) (l0_5 : List Int) (a1_0 : Int) (a1_1 : Int) (a1_2 : Int) (a1_3 : Int) (a1_4 : Int) (l1_5 : List (S26)) (a2_0 : Int) (a2_1 : Int) (a2_2 : Int) (a2_3 : Int) (a2_4 : Int) (l2_5 : List (S26)) (l3 : List Int) (l4 : List Int) : Option (Bool) := (plaitinglaw5_known.f).bind fun t12104 => (if t12104 = true then ((plaitinglaw3_Make.f k a0_0 a0_1 a0_2 a0_3 a0_4 l0_5).bind fun bt12105 => ((plaitinglaw5_Make.f k bt12105.1 bt12105.2.1 bt12105.2.2.1 bt12105.2.2.2.1 bt12105.2.2.2.2.1 bt12105.2.2.2.2.2 a1_0 a1_1 a1_2 a1_3 a1_4 l1_5 l3).bind fun bt12114 => ((plaitinglaw5_Make.f k bt12105.1 bt12105.2.1 bt12105.2.2.1 bt12105.2.2.2.1 bt12105.2.2.2.2.1 bt12105.2.2.2.2.2 a2_0 a2_1 a2_2 a2_3 a2_4 l2_5 l4).bind fun bt12122 => ((frame_Text.f bt12105.1 bt12105.2.1 bt12105.2.2.1 bt12105.2.2.2.1 bt12105.2.2.2.2.1 bt12105.2.2.2.2.2 bt12114.1 bt12114.2.1 bt12114.2.2.1 bt12114.2.2.2.1 bt12114.2.2.2.2.1 bt12114.2.2.2.2.2).bind fun t12132 => ((frame_Text.f bt12105.1 bt12105.2.1 bt12105.2.2.1 bt12105.2.2.2.1 bt12105.2.2.2.2.1 bt12105.2.2.2.2.2 bt12122.1 bt12122.2.1 bt12122.2.2.1 bt12122.2.2.2.1 bt12122.2.2.2.2.1 bt12122.2.2.2.2.2).bind fun t12133 => ((frame_Same.f k bt12114.1 bt12114.2.1 bt12114.2.2.1 bt12114.2.2.2.1 bt12114.2.2.2.2.1 bt12114.2.2.2.2.2 bt12122.1 bt12122.2.1 bt12122.2.2.1 bt12122.2.2.2.1 bt12122.2.2.2.2.1 bt12122.2.2.2.2.2).bind fun t12134 => (if (t12134 == (t12132.toList == t12133.toList)) = true then ((frame_Same.f k bt12114.1 bt12114.2.1 bt12114.2.2.1 bt12114.2.2.2.1 bt12114.2.2.2.2.1 bt12114.2.2.2.2.2 bt12122.1 bt12122.2.1 bt12122.2.2.1 bt12122.2.2.2.1 bt12122.2.2.2.2.1 bt12122.2.2.2.2.2).bind fun t12135 => ((plaitingref5_Same.f k bt12114.1 bt12114.2.1 bt12114.2.2.1 bt12114.2.2.2.1 bt12114.2.2.2.2.1 bt12114.2.2.2.2.2 bt12122.1 bt12122.2.1 bt12122.2.2.1 bt12122.2.2.2.1 bt12122.2.2.2.2.1 bt12122.2.2.2.2.2).bind fun t12136 => (if (t12135 == t12136) = true then ((frame_Same.f k bt12114.1 bt12114.2.1 bt12114.2.2.1 bt12114.2.2.2.1 bt12114.2.2.2.2.1 bt12114.2.2.2.2.2 bt12114.1 bt12114.2.1 bt12114.2.2.1 bt12114.2.2.2.1 bt12114.2.2.2.2.1 bt12114.2.2.2.2.2).bind fun t12137 => (some t12137)) else (some false)))) else (some false)))))))) else (some false))
def plaitinglaw5_FrameSame.T4 : Bool × List (List Nat × List Nat) := (true, [([], []), ([], []), ([], []), ([0, 1, 2], [0, 1, 2]), ([], []), ([], []), ([], []), ([4, 5, 6, 3], [4, 5, 6]), ([], []), ([], []), ([8, 3, 7, 0, 1, 2, 3, 8, 9], [3, 8]), ([9, 7, 10, 0, 1, 2, 3, 4, 5, 6, 7, 8, 9, 10], [7, 9])])
def plaitinglaw5_FrameSame.B4 : List Nat := [0, 0, 0, 7, 0, 0, 0, 127, 0, 0, 1023, 2047]
theorem plaitinglaw5_FrameSame.tab4 : rtab .any (opsOf Try.f6 4) = plaitinglaw5_FrameSame.T4 := by kernel_rfl
theorem plaitinglaw5_FrameSame.bits4 : waitsOk plaitinglaw5_FrameSame.T4.2 plaitinglaw5_FrameSame.B4 = true := by kernel_rfl
def plaitinglaw5_FrameSame.T5 : Bool × List (List Nat × List Nat) := (true, [([], []), ([], []), ([0, 1], [0, 1]), ([], []), ([], []), ([3, 4, 2], [3, 4]), ([2, 5], [2, 5]), ([6, 5, 0, 1, 2, 3, 4, 5, 6], [6])])
def plaitinglaw5_FrameSame.B5 : List Nat := [0, 0, 3, 0, 0, 31, 63, 127]
theorem plaitinglaw5_FrameSame.tab5 : rtab .any (opsOf Try.f6 5) = plaitinglaw5_FrameSame.T5 := by kernel_rfl
theorem plaitinglaw5_FrameSame.bits5 : waitsOk plaitinglaw5_FrameSame.T5.2 plaitinglaw5_FrameSame.B5 = true := by kernel_rfl
def plaitinglaw5_FrameSame.T6 : Bool × List (List Nat × List Nat) := (true, [([], []), ([], []), ([0, 1], [0, 1]), ([], []), ([2, 3], [2, 3]), ([4, 2], [4]), ([5], [5]), ([5], [5]), ([6, 7, 5, 5], [5, 6, 7]), ([5], [5]), ([5], [5]), ([9, 10, 8, 5], [5, 9, 10]), ([8, 11, 5], [5, 8, 11]), ([5, 12], [5, 12]), ([13, 11], [13]), ([14], [14]), ([14], [14]), ([15, 16, 14, 14], [14, 15, 16]), ([14, 17], [14, 17]), ([18, 17, 0, 1, 2, 3, 4, 5, 6, 7, 8, 9, 10, 11, 12, 13, 14, 15, 16, 17, 18], [18])])
def plaitinglaw5_FrameSame.B6 : List Nat := [0, 0, 3, 0, 15, 31, 63, 63, 255, 63, 63, 2047, 4095, 8191, 16383, 32767, 32767, 131071, 262143, 524287]
theorem plaitinglaw5_FrameSame.tab6 : rtab .any (opsOf Try.f6 6) = plaitinglaw5_FrameSame.T6 := by kernel_rfl
theorem plaitinglaw5_FrameSame.bits6 : waitsOk plaitinglaw5_FrameSame.T6.2 plaitinglaw5_FrameSame.B6 = true := by kernel_rfl
set_option maxHeartbeats 8000000 in
set_option maxRecDepth 100000 in
theorem plaitinglaw5_FrameSame.calls (k : Nat) (a0_0 : Int) (a0_1 : Int) (a0_2 : Int) (a0_3 : Int) (a0_4 : Int) (A0_5 : Option Addr) (c0_5 : Nat) (l0_5 : List Int) (a1_0 : Int) (a1_1 : Int) (a1_2 : Int) (a1_3 : Int) (a1_4 : Int) (A1_5 : Option Addr) (c1_5 : Nat) (l1_5 : List (S26)) (a2_0 : Int) (a2_1 : Int) (a2_2 : Int) (a2_3 : Int) (a2_4 : Int) (A2_5 : Option Addr) (c2_5 : Nat) (l2_5 : List (S26)) (A3 : Option Addr) (c3 : Nat) (l3 : List Int) (A4 : Option Addr) (c4 : Nat) (l4 : List Int) (r : Bool) (w : World) (hr0_5 : Kd.C (Kd.int .i64) w A0_5 l0_5.length l0_5) (hc0_5 : l0_5.length ≤ c0_5) (hr1_5 : Kd.C k26 w A1_5 l1_5.length l1_5) (hc1_5 : l1_5.length ≤ c1_5) (hr2_5 : Kd.C k26 w A2_5 l2_5.length l2_5) (hc2_5 : l2_5.length ≤ c2_5) (hr3 : Kd.C (Kd.int .i64) w A3 l3.length l3) (hc3 : l3.length ≤ c3) (hr4 : Kd.C (Kd.int .i64) w A4 l4.length l4) (hc4 : l4.length ≤ c4) (hrt : r = true) (h : plaitinglaw5_FrameSame.f k a0_0 a0_1 a0_2 a0_3 a0_4 l0_5 a1_0 a1_1 a1_2 a1_3 a1_4 l1_5 a2_0 a2_1 a2_2 a2_3 a2_4 l2_5 l3 l4 = some r) :
    Calls Try.prog 6 #[.agg #[.int .i64 a0_0, .int .i64 a0_1, .int .i64 a0_2, .int .i64 a0_3, .int .i64 a0_4, .slice A0_5 l0_5.length c0_5], .agg #[.int .i64 a1_0, .int .i64 a1_1, .int .i64 a1_2, .int .i64 a1_3, .int .i64 a1_4, .slice A1_5 l1_5.length c1_5], .agg #[.int .i64 a2_0, .int .i64 a2_1, .int .i64 a2_2, .int .i64 a2_3, .int .i64 a2_4, .slice A2_5 l2_5.length c2_5], .slice A3 l3.length c3, .slice A4 l4.length c4] w fun e w' => e = .returned (.bool r) ∧ Below w.heap.size w w' := by
  have HRT := Aside0.mk hrt
  clear hrt
  have hu24 := Try.underlying24
  have hu29 := Try.underlying29
  have HR0_5 := Aside0.mk hr0_5
  have HC0_5 := Aside0.mk hc0_5
  clear hr0_5 hc0_5
  have HR1_5 := Aside0.mk hr1_5
  have HC1_5 := Aside0.mk hc1_5
  clear hr1_5 hc1_5
  have HR2_5 := Aside0.mk hr2_5
  have HC2_5 := Aside0.mk hc2_5
  clear hr2_5 hc2_5
  have HR3 := Aside0.mk hr3
  have HC3 := Aside0.mk hc3
  clear hr3 hc3
  have HR4 := Aside0.mk hr4
  have HC4 := Aside0.mk hc4
  clear hr4 hc4
  have HB := Aside0.mk (Below.refl w.heap.size w)
  have H : ((plaitinglaw5_known.f).bind fun t12104 => (if t12104 = true then ((plaitinglaw3_Make.f k a0_0 a0_1 a0_2 a0_3 a0_4 l0_5).bind fun bt12105 => ((plaitinglaw5_Make.f k bt12105.1 bt12105.2.1 bt12105.2.2.1 bt12105.2.2.2.1 bt12105.2.2.2.2.1 bt12105.2.2.2.2.2 a1_0 a1_1 a1_2 a1_3 a1_4 l1_5 l3).bind fun bt12114 => ((plaitinglaw5_Make.f k bt12105.1 bt12105.2.1 bt12105.2.2.1 bt12105.2.2.2.1 bt12105.2.2.2.2.1 bt12105.2.2.2.2.2 a2_0 a2_1 a2_2 a2_3 a2_4 l2_5 l4).bind fun bt12122 => ((frame_Text.f bt12105.1 bt12105.2.1 bt12105.2.2.1 bt12105.2.2.2.1 bt12105.2.2.2.2.1 bt12105.2.2.2.2.2 bt12114.1 bt12114.2.1 bt12114.2.2.1 bt12114.2.2.2.1 bt12114.2.2.2.2.1 bt12114.2.2.2.2.2).bind fun t12132 => ((frame_Text.f bt12105.1 bt12105.2.1 bt12105.2.2.1 bt12105.2.2.2.1 bt12105.2.2.2.2.1 bt12105.2.2.2.2.2 bt12122.1 bt12122.2.1 bt12122.2.2.1 bt12122.2.2.2.1 bt12122.2.2.2.2.1 bt12122.2.2.2.2.2).bind fun t12133 => ((frame_Same.f k bt12114.1 bt12114.2.1 bt12114.2.2.1 bt12114.2.2.2.1 bt12114.2.2.2.2.1 bt12114.2.2.2.2.2 bt12122.1 bt12122.2.1 bt12122.2.2.1 bt12122.2.2.2.1 bt12122.2.2.2.2.1 bt12122.2.2.2.2.2).bind fun t12134 => (if (t12134 == (t12132.toList == t12133.toList)) = true then ((frame_Same.f k bt12114.1 bt12114.2.1 bt12114.2.2.1 bt12114.2.2.2.1 bt12114.2.2.2.2.1 bt12114.2.2.2.2.2 bt12122.1 bt12122.2.1 bt12122.2.2.1 bt12122.2.2.2.1 bt12122.2.2.2.2.1 bt12122.2.2.2.2.2).bind fun t12135 => ((plaitingref5_Same.f k bt12114.1 bt12114.2.1 bt12114.2.2.1 bt12114.2.2.2.1 bt12114.2.2.2.2.1 bt12114.2.2.2.2.2 bt12122.1 bt12122.2.1 bt12122.2.2.1 bt12122.2.2.2.1 bt12122.2.2.2.2.1 bt12122.2.2.2.2.2).bind fun t12136 => (if (t12135 == t12136) = true then ((frame_Same.f k bt12114.1 bt12114.2.1 bt12114.2.2.1 bt12114.2.2.2.1 bt12114.2.2.2.2.1 bt12114.2.2.2.2.2 bt12114.1 bt12114.2.1 bt12114.2.2.1 bt12114.2.2.2.1 bt12114.2.2.2.2.1 bt12114.2.2.2.2.2).bind fun t12137 => (some t12137)) else (some false)))) else (some false)))))))) else (some false))) = some r := h
  clear h
  replace H := Option.bind_eq_some_iff.mp H
  obtain ⟨t12104, A60, H⟩ := H
  replace H : (if t12104 = true then ((plaitinglaw3_Make.f k a0_0 a0_1 a0_2 a0_3 a0_4 l0_5).bind fun bt12105 => ((plaitinglaw5_Make.f k bt12105.1 bt12105.2.1 bt12105.2.2.1 bt12105.2.2.2.1 bt12105.2.2.2.2.1 bt12105.2.2.2.2.2 a1_0 a1_1 a1_2 a1_3 a1_4 l1_5 l3).bind fun bt12114 => ((plaitinglaw5_Make.f k bt12105.1 bt12105.2.1 bt12105.2.2.1 bt12105.2.2.2.1 bt12105.2.2.2.2.1 bt12105.2.2.2.2.2 a2_0 a2_1 a2_2 a2_3 a2_4 l2_5 l4).bind fun bt12122 => ((frame_Text.f bt12105.1 bt12105.2.1 bt12105.2.2.1 bt12105.2.2.2.1 bt12105.2.2.2.2.1 bt12105.2.2.2.2.2 bt12114.1 bt12114.2.1 bt12114.2.2.1 bt12114.2.2.2.1 bt12114.2.2.2.2.1 bt12114.2.2.2.2.2).bind fun t12132 => ((frame_Text.f bt12105.1 bt12105.2.1 bt12105.2.2.1 bt12105.2.2.2.1 bt12105.2.2.2.2.1 bt12105.2.2.2.2.2 bt12122.1 bt12122.2.1 bt12122.2.2.1 bt12122.2.2.2.1 bt12122.2.2.2.2.1 bt12122.2.2.2.2.2).bind fun t12133 => ((frame_Same.f k bt12114.1 bt12114.2.1 bt12114.2.2.1 bt12114.2.2.2.1 bt12114.2.2.2.2.1 bt12114.2.2.2.2.2 bt12122.1 bt12122.2.1 bt12122.2.2.1 bt12122.2.2.2.1 bt12122.2.2.2.2.1 bt12122.2.2.2.2.2).bind fun t12134 => (if (t12134 == (t12132.toList == t12133.toList)) = true then ((frame_Same.f k bt12114.1 bt12114.2.1 bt12114.2.2.1 bt12114.2.2.2.1 bt12114.2.2.2.2.1 bt12114.2.2.2.2.2 bt12122.1 bt12122.2.1 bt12122.2.2.1 bt12122.2.2.2.1 bt12122.2.2.2.2.1 bt12122.2.2.2.2.2).bind fun t12135 => ((plaitingref5_Same.f k bt12114.1 bt12114.2.1 bt12114.2.2.1 bt12114.2.2.2.1 bt12114.2.2.2.2.1 bt12114.2.2.2.2.2 bt12122.1 bt12122.2.1 bt12122.2.2.1 bt12122.2.2.2.1 bt12122.2.2.2.2.1 bt12122.2.2.2.2.2).bind fun t12136 => (if (t12135 == t12136) = true then ((frame_Same.f k bt12114.1 bt12114.2.1 bt12114.2.2.1 bt12114.2.2.2.1 bt12114.2.2.2.2.1 bt12114.2.2.2.2.2 bt12114.1 bt12114.2.1 bt12114.2.2.1 bt12114.2.2.2.1 bt12114.2.2.2.2.1 bt12114.2.2.2.2.2).bind fun t12137 => (some t12137)) else (some false)))) else (some false)))))))) else (some false)) = some r := H
  have A6 := Aside0.mk A60
  clear A60
  by_cases c7 : t12104 = true
  rotate_left
  · replace c7 := Bool.eq_false_iff.mpr c7
    subst c7
    have H1 : (some false) = some r := by rw [if_neg (show ¬ (false = true) by decide)] at H; exact H
    clear H
    have H := H1
    clear H1
    exact absurd ((Option.some.inj H).trans HRT.out) (by decide)
  subst c7
  have H1 : ((plaitinglaw3_Make.f k a0_0 a0_1 a0_2 a0_3 a0_4 l0_5).bind fun bt12105 => ((plaitinglaw5_Make.f k bt12105.1 bt12105.2.1 bt12105.2.2.1 bt12105.2.2.2.1 bt12105.2.2.2.2.1 bt12105.2.2.2.2.2 a1_0 a1_1 a1_2 a1_3 a1_4 l1_5 l3).bind fun bt12114 => ((plaitinglaw5_Make.f k bt12105.1 bt12105.2.1 bt12105.2.2.1 bt12105.2.2.2.1 bt12105.2.2.2.2.1 bt12105.2.2.2.2.2 a2_0 a2_1 a2_2 a2_3 a2_4 l2_5 l4).bind fun bt12122 => ((frame_Text.f bt12105.1 bt12105.2.1 bt12105.2.2.1 bt12105.2.2.2.1 bt12105.2.2.2.2.1 bt12105.2.2.2.2.2 bt12114.1 bt12114.2.1 bt12114.2.2.1 bt12114.2.2.2.1 bt12114.2.2.2.2.1 bt12114.2.2.2.2.2).bind fun t12132 => ((frame_Text.f bt12105.1 bt12105.2.1 bt12105.2.2.1 bt12105.2.2.2.1 bt12105.2.2.2.2.1 bt12105.2.2.2.2.2 bt12122.1 bt12122.2.1 bt12122.2.2.1 bt12122.2.2.2.1 bt12122.2.2.2.2.1 bt12122.2.2.2.2.2).bind fun t12133 => ((frame_Same.f k bt12114.1 bt12114.2.1 bt12114.2.2.1 bt12114.2.2.2.1 bt12114.2.2.2.2.1 bt12114.2.2.2.2.2 bt12122.1 bt12122.2.1 bt12122.2.2.1 bt12122.2.2.2.1 bt12122.2.2.2.2.1 bt12122.2.2.2.2.2).bind fun t12134 => (if (t12134 == (t12132.toList == t12133.toList)) = true then ((frame_Same.f k bt12114.1 bt12114.2.1 bt12114.2.2.1 bt12114.2.2.2.1 bt12114.2.2.2.2.1 bt12114.2.2.2.2.2 bt12122.1 bt12122.2.1 bt12122.2.2.1 bt12122.2.2.2.1 bt12122.2.2.2.2.1 bt12122.2.2.2.2.2).bind fun t12135 => ((plaitingref5_Same.f k bt12114.1 bt12114.2.1 bt12114.2.2.1 bt12114.2.2.2.1 bt12114.2.2.2.2.1 bt12114.2.2.2.2.2 bt12122.1 bt12122.2.1 bt12122.2.2.1 bt12122.2.2.2.1 bt12122.2.2.2.2.1 bt12122.2.2.2.2.2).bind fun t12136 => (if (t12135 == t12136) = true then ((frame_Same.f k bt12114.1 bt12114.2.1 bt12114.2.2.1 bt12114.2.2.2.1 bt12114.2.2.2.2.1 bt12114.2.2.2.2.2 bt12114.1 bt12114.2.1 bt12114.2.2.1 bt12114.2.2.2.1 bt12114.2.2.2.2.1 bt12114.2.2.2.2.2).bind fun t12137 => (some t12137)) else (some false)))) else (some false)))))))) = some r := by rw [if_pos rfl] at H; exact H
  clear H
  have H := H1
  clear H1
  replace H := Option.bind_eq_some_iff.mp H
  obtain ⟨⟨t12105, t12106, t12107, t12108, t12109, t12110⟩, A80, H⟩ := H
  replace H : ((plaitinglaw5_Make.f k t12105 t12106 t12107 t12108 t12109 t12110 a1_0 a1_1 a1_2 a1_3 a1_4 l1_5 l3).bind fun bt12114 => ((plaitinglaw5_Make.f k t12105 t12106 t12107 t12108 t12109 t12110 a2_0 a2_1 a2_2 a2_3 a2_4 l2_5 l4).bind fun bt12122 => ((frame_Text.f t12105 t12106 t12107 t12108 t12109 t12110 bt12114.1 bt12114.2.1 bt12114.2.2.1 bt12114.2.2.2.1 bt12114.2.2.2.2.1 bt12114.2.2.2.2.2).bind fun t12132 => ((frame_Text.f t12105 t12106 t12107 t12108 t12109 t12110 bt12122.1 bt12122.2.1 bt12122.2.2.1 bt12122.2.2.2.1 bt12122.2.2.2.2.1 bt12122.2.2.2.2.2).bind fun t12133 => ((frame_Same.f k bt12114.1 bt12114.2.1 bt12114.2.2.1 bt12114.2.2.2.1 bt12114.2.2.2.2.1 bt12114.2.2.2.2.2 bt12122.1 bt12122.2.1 bt12122.2.2.1 bt12122.2.2.2.1 bt12122.2.2.2.2.1 bt12122.2.2.2.2.2).bind fun t12134 => (if (t12134 == (t12132.toList == t12133.toList)) = true then ((frame_Same.f k bt12114.1 bt12114.2.1 bt12114.2.2.1 bt12114.2.2.2.1 bt12114.2.2.2.2.1 bt12114.2.2.2.2.2 bt12122.1 bt12122.2.1 bt12122.2.2.1 bt12122.2.2.2.1 bt12122.2.2.2.2.1 bt12122.2.2.2.2.2).bind fun t12135 => ((plaitingref5_Same.f k bt12114.1 bt12114.2.1 bt12114.2.2.1 bt12114.2.2.2.1 bt12114.2.2.2.2.1 bt12114.2.2.2.2.2 bt12122.1 bt12122.2.1 bt12122.2.2.1 bt12122.2.2.2.1 bt12122.2.2.2.2.1 bt12122.2.2.2.2.2).bind fun t12136 => (if (t12135 == t12136) = true then ((frame_Same.f k bt12114.1 bt12114.2.1 bt12114.2.2.1 bt12114.2.2.2.1 bt12114.2.2.2.2.1 bt12114.2.2.2.2.2 bt12114.1 bt12114.2.1 bt12114.2.2.1 bt12114.2.2.2.1 bt12114.2.2.2.2.1 bt12114.2.2.2.2.2).bind fun t12137 => (some t12137)) else (some false)))) else (some false))))))) = some r := H
  have A8 := Aside0.mk A80
  clear A80
  replace H := Option.bind_eq_some_iff.mp H
  obtain ⟨⟨t12114, t12115, t12116, t12117, t12118, t12119⟩, A90, H⟩ := H
  replace H : ((plaitinglaw5_Make.f k t12105 t12106 t12107 t12108 t12109 t12110 a2_0 a2_1 a2_2 a2_3 a2_4 l2_5 l4).bind fun bt12122 => ((frame_Text.f t12105 t12106 t12107 t12108 t12109 t12110 t12114 t12115 t12116 t12117 t12118 t12119).bind fun t12132 => ((frame_Text.f t12105 t12106 t12107 t12108 t12109 t12110 bt12122.1 bt12122.2.1 bt12122.2.2.1 bt12122.2.2.2.1 bt12122.2.2.2.2.1 bt12122.2.2.2.2.2).bind fun t12133 => ((frame_Same.f k t12114 t12115 t12116 t12117 t12118 t12119 bt12122.1 bt12122.2.1 bt12122.2.2.1 bt12122.2.2.2.1 bt12122.2.2.2.2.1 bt12122.2.2.2.2.2).bind fun t12134 => (if (t12134 == (t12132.toList == t12133.toList)) = true then ((frame_Same.f k t12114 t12115 t12116 t12117 t12118 t12119 bt12122.1 bt12122.2.1 bt12122.2.2.1 bt12122.2.2.2.1 bt12122.2.2.2.2.1 bt12122.2.2.2.2.2).bind fun t12135 => ((plaitingref5_Same.f k t12114 t12115 t12116 t12117 t12118 t12119 bt12122.1 bt12122.2.1 bt12122.2.2.1 bt12122.2.2.2.1 bt12122.2.2.2.2.1 bt12122.2.2.2.2.2).bind fun t12136 => (if (t12135 == t12136) = true then ((frame_Same.f k t12114 t12115 t12116 t12117 t12118 t12119 t12114 t12115 t12116 t12117 t12118 t12119).bind fun t12137 => (some t12137)) else (some false)))) else (some false)))))) = some r := H
  have A9 := Aside0.mk A90
  clear A90
  replace H := Option.bind_eq_some_iff.mp H
  obtain ⟨⟨t12122, t12123, t12124, t12125, t12126, t12127⟩, A100, H⟩ := H
  replace H : ((frame_Text.f t12105 t12106 t12107 t12108 t12109 t12110 t12114 t12115 t12116 t12117 t12118 t12119).bind fun t12132 => ((frame_Text.f t12105 t12106 t12107 t12108 t12109 t12110 t12122 t12123 t12124 t12125 t12126 t12127).bind fun t12133 => ((frame_Same.f k t12114 t12115 t12116 t12117 t12118 t12119 t12122 t12123 t12124 t12125 t12126 t12127).bind fun t12134 => (if (t12134 == (t12132.toList == t12133.toList)) = true then ((frame_Same.f k t12114 t12115 t12116 t12117 t12118 t12119 t12122 t12123 t12124 t12125 t12126 t12127).bind fun t12135 => ((plaitingref5_Same.f k t12114 t12115 t12116 t12117 t12118 t12119 t12122 t12123 t12124 t12125 t12126 t12127).bind fun t12136 => (if (t12135 == t12136) = true then ((frame_Same.f k t12114 t12115 t12116 t12117 t12118 t12119 t12114 t12115 t12116 t12117 t12118 t12119).bind fun t12137 => (some t12137)) else (some false)))) else (some false))))) = some r := H
  have A10 := Aside0.mk A100
  clear A100
  replace H := Option.bind_eq_some_iff.mp H
  obtain ⟨t12132, A110, H⟩ := H
  replace H : ((frame_Text.f t12105 t12106 t12107 t12108 t12109 t12110 t12122 t12123 t12124 t12125 t12126 t12127).bind fun t12133 => ((frame_Same.f k t12114 t12115 t12116 t12117 t12118 t12119 t12122 t12123 t12124 t12125 t12126 t12127).bind fun t12134 => (if (t12134 == (t12132.toList == t12133.toList)) = true then ((frame_Same.f k t12114 t12115 t12116 t12117 t12118 t12119 t12122 t12123 t12124 t12125 t12126 t12127).bind fun t12135 => ((plaitingref5_Same.f k t12114 t12115 t12116 t12117 t12118 t12119 t12122 t12123 t12124 t12125 t12126 t12127).bind fun t12136 => (if (t12135 == t12136) = true then ((frame_Same.f k t12114 t12115 t12116 t12117 t12118 t12119 t12114 t12115 t12116 t12117 t12118 t12119).bind fun t12137 => (some t12137)) else (some false)))) else (some false)))) = some r := H
  have A11 := Aside0.mk A110
  clear A110
  replace H := Option.bind_eq_some_iff.mp H
  obtain ⟨t12133, A120, H⟩ := H
  replace H : ((frame_Same.f k t12114 t12115 t12116 t12117 t12118 t12119 t12122 t12123 t12124 t12125 t12126 t12127).bind fun t12134 => (if (t12134 == (t12132.toList == t12133.toList)) = true then ((frame_Same.f k t12114 t12115 t12116 t12117 t12118 t12119 t12122 t12123 t12124 t12125 t12126 t12127).bind fun t12135 => ((plaitingref5_Same.f k t12114 t12115 t12116 t12117 t12118 t12119 t12122 t12123 t12124 t12125 t12126 t12127).bind fun t12136 => (if (t12135 == t12136) = true then ((frame_Same.f k t12114 t12115 t12116 t12117 t12118 t12119 t12114 t12115 t12116 t12117 t12118 t12119).bind fun t12137 => (some t12137)) else (some false)))) else (some false))) = some r := H
  have A12 := Aside0.mk A120
  clear A120
  replace H := Option.bind_eq_some_iff.mp H
  obtain ⟨t12134, A130, H⟩ := H
  replace H : (if (t12134 == (t12132.toList == t12133.toList)) = true then ((frame_Same.f k t12114 t12115 t12116 t12117 t12118 t12119 t12122 t12123 t12124 t12125 t12126 t12127).bind fun t12135 => ((plaitingref5_Same.f k t12114 t12115 t12116 t12117 t12118 t12119 t12122 t12123 t12124 t12125 t12126 t12127).bind fun t12136 => (if (t12135 == t12136) = true then ((frame_Same.f k t12114 t12115 t12116 t12117 t12118 t12119 t12114 t12115 t12116 t12117 t12118 t12119).bind fun t12137 => (some t12137)) else (some false)))) else (some false)) = some r := H
  have A13 := Aside0.mk A130
  clear A130
  by_cases c14 : (t12134 == (t12132.toList == t12133.toList)) = true
  rotate_left
  · rw [if_neg c14] at H
    have c14b0 : (t12134 == (t12132.toList == t12133.toList)) = false := by simpa using c14
    (try (have c14b1 : decide (t12134 = (t12132.toList == t12133.toList)) = false := by simpa using c14))
    (try (have c14b2 : (t12134 == (t12132.toList == t12133.toList)) = false := by simpa using c14))
    (try (have c14b3 : ¬ (t12134 = (t12132.toList == t12133.toList)) := by simpa using c14))
    clear c14
    exact absurd ((Option.some.inj H).trans HRT.out) (by decide)
  rw [if_pos c14] at H
  have c14b0 : (t12134 == (t12132.toList == t12133.toList)) = true := c14
  (try (have c14b1 : decide (t12134 = (t12132.toList == t12133.toList)) = true := by simpa using c14))
  (try (have c14b2 : (t12134 == (t12132.toList == t12133.toList)) = true := by simpa using c14))
  clear c14
  replace H := Option.bind_eq_some_iff.mp H
  obtain ⟨t12135, A150, H⟩ := H
  replace H : ((plaitingref5_Same.f k t12114 t12115 t12116 t12117 t12118 t12119 t12122 t12123 t12124 t12125 t12126 t12127).bind fun t12136 => (if (t12135 == t12136) = true then ((frame_Same.f k t12114 t12115 t12116 t12117 t12118 t12119 t12114 t12115 t12116 t12117 t12118 t12119).bind fun t12137 => (some t12137)) else (some false))) = some r := H
  have A15 := Aside0.mk A150
  clear A150
  replace H := Option.bind_eq_some_iff.mp H
  obtain ⟨t12136, A160, H⟩ := H
  replace H : (if (t12135 == t12136) = true then ((frame_Same.f k t12114 t12115 t12116 t12117 t12118 t12119 t12114 t12115 t12116 t12117 t12118 t12119).bind fun t12137 => (some t12137)) else (some false)) = some r := H
  have A16 := Aside0.mk A160
  clear A160
  by_cases c17 : (t12135 == t12136) = true
  rotate_left
  · rw [if_neg c17] at H
    have c17b0 : (t12135 == t12136) = false := by simpa using c17
    (try (have c17b1 : decide (t12135 = t12136) = false := by simpa using c17))
    (try (have c17b2 : (t12135 == t12136) = false := by simpa using c17))
    (try (have c17b3 : ¬ (t12135 = t12136) := by simpa using c17))
    clear c17
    exact absurd ((Option.some.inj H).trans HRT.out) (by decide)
  rw [if_pos c17] at H
  have c17b0 : (t12135 == t12136) = true := c17
  (try (have c17b1 : decide (t12135 = t12136) = true := by simpa using c17))
  (try (have c17b2 : (t12135 == t12136) = true := by simpa using c17))
  clear c17
  replace H := Option.bind_eq_some_iff.mp H
  obtain ⟨t12137, A180, H⟩ := H
  replace H : (some t12137) = some r := H
  have A18 := Aside0.mk A180
  clear A180
  obtain rfl := Option.some.inj H
  go_enter Try.func6, Try.ntmps6
  try go_wp2_with (first | ((with_reducible refine gate_dst (N := 5) rfl ?_); refine box_event ?hg (N := 5) ?hd (cs := #[.int .i64 a0_0, .int .i64 a0_1, .int .i64 a0_2, .int .i64 a0_3, .int .i64 a0_4, .slice A0_5 l0_5.length c0_5]) (t := 24) ?hr ?_; (case hd => rfl); (case hg => rfl); (case hr => first | (go_simp; done) | (go_simp; rfl)); intro gb12101 hg w19 hbox hb; have BK12101 := Aside0.mk (hbox); have GW12101 := Aside0.mk ((by rw [hg]; exact (below_size (pH_ HB.out)) : w.heap.size ≤ gb12101)); have GE12101 := Aside0.mk ((by rw [hg]; exact (below_size (pH_ HB.out)) : w.heap.size ≤ gb12101)); replace HB := Aside0.mk (below_step (pH_ HB.out) hb); clear hb hbox hg) | ((with_reducible refine gate_dst (N := 6) rfl ?_); refine box_event ?hg (N := 6) ?hd (cs := #[.int .i64 a1_0, .int .i64 a1_1, .int .i64 a1_2, .int .i64 a1_3, .int .i64 a1_4, .slice A1_5 l1_5.length c1_5]) (t := 29) ?hr ?_; (case hd => rfl); (case hg => rfl); (case hr => first | (go_simp; done) | (go_simp; rfl)); intro gb12102 hg w20 hbox hb; have BK12102 := Aside0.mk (hbox); have GW12102 := Aside0.mk ((by rw [hg]; exact (below_size (pH_ HB.out)) : w.heap.size ≤ gb12102)); have GE12102 := Aside0.mk ((by rw [hg]; exact (below_size (pH_ HB.out)) : w.heap.size ≤ gb12102)); have NB12101_12102 := Aside0.mk (ltB_ hg BK12101.out); have NB12102_12101 := Aside0.mk (ltB_ hg BK12101.out).symm; replace BK12101 := Aside0.mk (blk_below (pB_ BK12101.out) hb); replace HB := Aside0.mk (below_step (pH_ HB.out) hb); clear hb hbox hg) | ((with_reducible refine gate_dst (N := 7) rfl ?_); refine box_event ?hg (N := 7) ?hd (cs := #[.int .i64 a2_0, .int .i64 a2_1, .int .i64 a2_2, .int .i64 a2_3, .int .i64 a2_4, .slice A2_5 l2_5.length c2_5]) (t := 29) ?hr ?_; (case hd => rfl); (case hg => rfl); (case hr => first | (go_simp; done) | (go_simp; rfl)); intro gb12103 hg w21 hbox hb; have BK12103 := Aside0.mk (hbox); have GW12103 := Aside0.mk ((by rw [hg]; exact (below_size (pH_ HB.out)) : w.heap.size ≤ gb12103)); have GE12103 := Aside0.mk ((by rw [hg]; exact (below_size (pH_ HB.out)) : w.heap.size ≤ gb12103)); have NB12101_12103 := Aside0.mk (ltB_ hg BK12101.out); have NB12103_12101 := Aside0.mk (ltB_ hg BK12101.out).symm; have NB12102_12103 := Aside0.mk (ltB_ hg BK12102.out); have NB12103_12102 := Aside0.mk (ltB_ hg BK12102.out).symm; replace BK12101 := Aside0.mk (blk_below (pB_ BK12101.out) hb); replace BK12102 := Aside0.mk (blk_below (pB_ BK12102.out) hb); replace HB := Aside0.mk (below_step (pH_ HB.out) hb); clear hb hbox hg) | ((with_reducible refine gate_callee (f := 18) rfl ?_); refine goesL_ (some 15) rfl rfl Try.func18 (by kernel_rfl) rfl #[] rfl (by (try simp only [List.map_toArray, List.map_cons, List.map_nil]); first | done | rfl | (simp only [List.length_drop, List.length_take]; rfl)) ?_; (with_reducible refine (plaitinglaw5_known.calls  true _ A6.out).mono ?_); rintro e w22 ⟨rfl, hb⟩; refine ⟨_, rfl, ?_⟩; replace BK12101 := Aside0.mk (blk_below (pB_ BK12101.out) hb); replace BK12102 := Aside0.mk (blk_below (pB_ BK12102.out) hb); replace BK12103 := Aside0.mk (blk_below (pB_ BK12103.out) hb); replace HB := Aside0.mk (below_step (pH_ HB.out) hb); (try clear hb); (try clear hb2); (try clear hk); (try clear hi); have hnb23 := NB12101_12102.out; have hnc23 := NB12102_12101.out; have hnb24 := NB12101_12103.out; have hnc24 := NB12103_12101.out; have hcz25_0 : w22.cell? ⟨gb12101, 0, none⟩ = some (.int .i64 a0_0) := (blk_cell BK12101.out 0).trans rfl; have hcz25_1 : w22.cell? ⟨gb12101, 1, none⟩ = some (.int .i64 a0_1) := (blk_cell BK12101.out 1).trans rfl; have hcz25_2 : w22.cell? ⟨gb12101, 2, none⟩ = some (.int .i64 a0_2) := (blk_cell BK12101.out 2).trans rfl; have hcz25_3 : w22.cell? ⟨gb12101, 3, none⟩ = some (.int .i64 a0_3) := (blk_cell BK12101.out 3).trans rfl; have hcz25_4 : w22.cell? ⟨gb12101, 4, none⟩ = some (.int .i64 a0_4) := (blk_cell BK12101.out 4).trans rfl; have hcz25_5 : w22.cell? ⟨gb12101, 5, none⟩ = some (.slice A0_5 l0_5.length c0_5) := (blk_cell BK12101.out 5).trans rfl; have hfz25_0 := blk_frozen BK12101.out 0; have hfz25_1 := blk_frozen BK12101.out 1; have hfz25_2 := blk_frozen BK12101.out 2; have hfz25_3 := blk_frozen BK12101.out 3; have hfz25_4 := blk_frozen BK12101.out 4; have hfz25_5 := blk_frozen BK12101.out 5) | ((with_reducible refine gate_callee (f := 20) rfl ?_); refine goesL_ (some 18) rfl rfl Try.func20 (by kernel_rfl) rfl #[.agg #[.int .i64 a0_0, .int .i64 a0_1, .int .i64 a0_2, .int .i64 a0_3, .int .i64 a0_4, .slice A0_5 l0_5.length c0_5]] rfl (by (try simp only [List.map_toArray, List.map_cons, List.map_nil]); first | done | rfl | (simp only [List.length_drop, List.length_take]; rfl)) ?_; (with_reducible refine (plaitinglaw3_Make.calls k a0_0 a0_1 a0_2 a0_3 a0_4 _ _ l0_5 t12105 t12106 t12107 t12108 t12109 t12110 _ ?side1 ?side2 A8.out).mono ?_); (case side1 => repeat (first | exact (Kd.C_below HR0_5.out HB.out) | (with_reducible refine Kd.C_alloc ?_ _) | (with_reducible refine Kd.C_drewN ?_ _) | (with_reducible refine Kd.C_drew ?_))); (case side2 => exact HC0_5.out); rintro e w26 ⟨v12111, rfl, ho0, hb⟩; refine ⟨_, rfl, ?_⟩; have HO12112 := Aside0.mk (Kd.R_lower ho0 (below_size (pH_ HB.out))); replace BK12101 := Aside0.mk (blk_below (pB_ BK12101.out) hb); replace BK12102 := Aside0.mk (blk_below (pB_ BK12102.out) hb); replace BK12103 := Aside0.mk (blk_below (pB_ BK12103.out) hb); replace HB := Aside0.mk (below_step (pH_ HB.out) hb); (try clear hb); (try clear hb2); (try clear hk); (try clear hi); (try clear ho0)) | ((with_reducible refine gate_dst (N := 11) rfl ?_); refine box_event ?hg (N := 11) ?hd (cs := #[.int .i64 0, .int .i64 0, .int .i64 0, .int .i64 0, .int .i64 0, .slice none 0 0]) (t := 24) ?hr ?_; (case hd => rfl); (case hg => rfl); (case hr => first | (go_simp; done) | (go_simp; rfl)); intro gb12113 hg w27 hbox hb; have BK12113 := Aside0.mk (hbox); have GW12113 := Aside0.mk ((by rw [hg]; exact (below_size (pH_ HB.out)) : w.heap.size ≤ gb12113)); have GE12113 := Aside0.mk ((by rw [hg]; exact (below_size (pH_ HB.out)) : w.heap.size ≤ gb12113)); have NB12101_12113 := Aside0.mk (ltB_ hg BK12101.out); have NB12113_12101 := Aside0.mk (ltB_ hg BK12101.out).symm; have NB12102_12113 := Aside0.mk (ltB_ hg BK12102.out); have NB12113_12102 := Aside0.mk (ltB_ hg BK12102.out).symm; have NB12103_12113 := Aside0.mk (ltB_ hg BK12103.out); have NB12113_12103 := Aside0.mk (ltB_ hg BK12103.out).symm; replace HO12112 := Aside0.mk (Kd.R_below (pR_ HO12112.out) hb); replace BK12101 := Aside0.mk (blk_below (pB_ BK12101.out) hb); replace BK12102 := Aside0.mk (blk_below (pB_ BK12102.out) hb); replace BK12103 := Aside0.mk (blk_below (pB_ BK12103.out) hb); replace HB := Aside0.mk (below_step (pH_ HB.out) hb); clear hb hbox hg; have hnb28 := NB12113_12101.out; have hnc28 := NB12101_12113.out; have hnb29 := NB12113_12102.out; have hnc29 := NB12102_12113.out; have hnb30 := NB12113_12103.out; have hnc30 := NB12103_12113.out; have hcz31_0 : w27.cell? ⟨gb12113, 0, none⟩ = some (.int .i64 0) := (blk_cell BK12113.out 0).trans rfl; have hcz31_1 : w27.cell? ⟨gb12113, 1, none⟩ = some (.int .i64 0) := (blk_cell BK12113.out 1).trans rfl; have hcz31_2 : w27.cell? ⟨gb12113, 2, none⟩ = some (.int .i64 0) := (blk_cell BK12113.out 2).trans rfl; have hcz31_3 : w27.cell? ⟨gb12113, 3, none⟩ = some (.int .i64 0) := (blk_cell BK12113.out 3).trans rfl; have hcz31_4 : w27.cell? ⟨gb12113, 4, none⟩ = some (.int .i64 0) := (blk_cell BK12113.out 4).trans rfl; have hcz31_5 : w27.cell? ⟨gb12113, 5, none⟩ = some (.slice none 0 0) := (blk_cell BK12113.out 5).trans rfl; have hfz31_0 := blk_frozen BK12113.out 0; have hfz31_1 := blk_frozen BK12113.out 1; have hfz31_2 := blk_frozen BK12113.out 2; have hfz31_3 := blk_frozen BK12113.out 3; have hfz31_4 := blk_frozen BK12113.out 4; have hfz31_5 := blk_frozen BK12113.out 5; obtain ⟨Ao32, co32, eo32⟩ := Kd.R_slice HO12112.out; subst eo32))
  have n0_ : Aside0 (Kd.R (Kd.int .i64) 3 ((((((w27.setCell ⟨gb12113, 0, none⟩ (.int .i64 t12105)).setCell ⟨gb12113, 1, none⟩ (.int .i64 t12106)).setCell ⟨gb12113, 2, none⟩ (.int .i64 t12107)).setCell ⟨gb12113, 3, none⟩ (.int .i64 t12108)).setCell ⟨gb12113, 4, none⟩ (.int .i64 t12109)).setCell ⟨gb12113, 5, none⟩ (.slice Ao32 t12110.length co32)) w.heap.size (fun _ => True) (.slice Ao32 t12110.length co32) t12110) := ⟨by (with_reducible repeat (first | apply Kd.R_alloc | apply Kd.R_drewN | apply Kd.R_drew)); exact Kd.R_mono (Kd.R_far (p := ⟨gb12113, 5, none⟩) (Kd.R_far (p := ⟨gb12113, 4, none⟩) (Kd.R_far (p := ⟨gb12113, 3, none⟩) (Kd.R_far (p := ⟨gb12113, 2, none⟩) (Kd.R_far (p := ⟨gb12113, 1, none⟩) (Kd.R_far (p := ⟨gb12113, 0, none⟩) (Kd.R_types HO12112.out BK12113.out (by decide)) (fun _ hk => hk.2) (.int .i64 t12105)) (fun _ hk => hk.2) (.int .i64 t12106)) (fun _ hk => hk.2) (.int .i64 t12107)) (fun _ hk => hk.2) (.int .i64 t12108)) (fun _ hk => hk.2) (.int .i64 t12109)) (fun _ hk => hk.2) (.slice Ao32 t12110.length co32)) (fun _ hk => trivial)⟩
  have n1_ : Aside0 (((((((w27.setCell ⟨gb12113, 0, none⟩ (.int .i64 t12105)).setCell ⟨gb12113, 1, none⟩ (.int .i64 t12106)).setCell ⟨gb12113, 2, none⟩ (.int .i64 t12107)).setCell ⟨gb12113, 3, none⟩ (.int .i64 t12108)).setCell ⟨gb12113, 4, none⟩ (.int .i64 t12109)).setCell ⟨gb12113, 5, none⟩ (.slice Ao32 t12110.length co32)).heap[gb12101]? = some (.cells #[.int .i64 a0_0, .int .i64 a0_1, .int .i64 a0_2, .int .i64 a0_3, .int .i64 a0_4, .slice A0_5 l0_5.length c0_5] 24 (0, 0))) := ⟨by (with_reducible repeat (first | refine blk_drewN ?_ _ | refine blk_drew ?_ | refine blk_alloc ?_ _)); refine blk_far ?_ NB12101_12113.out _; refine blk_far ?_ NB12101_12113.out _; refine blk_far ?_ NB12101_12113.out _; refine blk_far ?_ NB12101_12113.out _; refine blk_far ?_ NB12101_12113.out _; refine blk_far ?_ NB12101_12113.out _; (with_reducible repeat (first | refine blk_drewN ?_ _ | refine blk_drew ?_ | refine blk_alloc ?_ _)); exact BK12101.out⟩
  have n2_ : Aside0 (((((((w27.setCell ⟨gb12113, 0, none⟩ (.int .i64 t12105)).setCell ⟨gb12113, 1, none⟩ (.int .i64 t12106)).setCell ⟨gb12113, 2, none⟩ (.int .i64 t12107)).setCell ⟨gb12113, 3, none⟩ (.int .i64 t12108)).setCell ⟨gb12113, 4, none⟩ (.int .i64 t12109)).setCell ⟨gb12113, 5, none⟩ (.slice Ao32 t12110.length co32)).heap[gb12102]? = some (.cells #[.int .i64 a1_0, .int .i64 a1_1, .int .i64 a1_2, .int .i64 a1_3, .int .i64 a1_4, .slice A1_5 l1_5.length c1_5] 29 (0, 0))) := ⟨by (with_reducible repeat (first | refine blk_drewN ?_ _ | refine blk_drew ?_ | refine blk_alloc ?_ _)); refine blk_far ?_ NB12102_12113.out _; refine blk_far ?_ NB12102_12113.out _; refine blk_far ?_ NB12102_12113.out _; refine blk_far ?_ NB12102_12113.out _; refine blk_far ?_ NB12102_12113.out _; refine blk_far ?_ NB12102_12113.out _; (with_reducible repeat (first | refine blk_drewN ?_ _ | refine blk_drew ?_ | refine blk_alloc ?_ _)); exact BK12102.out⟩
  have n3_ : Aside0 (((((((w27.setCell ⟨gb12113, 0, none⟩ (.int .i64 t12105)).setCell ⟨gb12113, 1, none⟩ (.int .i64 t12106)).setCell ⟨gb12113, 2, none⟩ (.int .i64 t12107)).setCell ⟨gb12113, 3, none⟩ (.int .i64 t12108)).setCell ⟨gb12113, 4, none⟩ (.int .i64 t12109)).setCell ⟨gb12113, 5, none⟩ (.slice Ao32 t12110.length co32)).heap[gb12103]? = some (.cells #[.int .i64 a2_0, .int .i64 a2_1, .int .i64 a2_2, .int .i64 a2_3, .int .i64 a2_4, .slice A2_5 l2_5.length c2_5] 29 (0, 0))) := ⟨by (with_reducible repeat (first | refine blk_drewN ?_ _ | refine blk_drew ?_ | refine blk_alloc ?_ _)); refine blk_far ?_ NB12103_12113.out _; refine blk_far ?_ NB12103_12113.out _; refine blk_far ?_ NB12103_12113.out _; refine blk_far ?_ NB12103_12113.out _; refine blk_far ?_ NB12103_12113.out _; refine blk_far ?_ NB12103_12113.out _; (with_reducible repeat (first | refine blk_drewN ?_ _ | refine blk_drew ?_ | refine blk_alloc ?_ _)); exact BK12103.out⟩
  have n4_ : Aside0 (((((((w27.setCell ⟨gb12113, 0, none⟩ (.int .i64 t12105)).setCell ⟨gb12113, 1, none⟩ (.int .i64 t12106)).setCell ⟨gb12113, 2, none⟩ (.int .i64 t12107)).setCell ⟨gb12113, 3, none⟩ (.int .i64 t12108)).setCell ⟨gb12113, 4, none⟩ (.int .i64 t12109)).setCell ⟨gb12113, 5, none⟩ (.slice Ao32 t12110.length co32)).heap[gb12113]? = some (.cells #[.int .i64 t12105, .int .i64 t12106, .int .i64 t12107, .int .i64 t12108, .int .i64 t12109, .slice Ao32 t12110.length co32] 24 (0, 0))) := ⟨by (with_reducible repeat (first | refine blk_drewN ?_ _ | refine blk_drew ?_ | refine blk_alloc ?_ _)); refine blk_put (cs := #[.int .i64 t12105, .int .i64 t12106, .int .i64 t12107, .int .i64 t12108, .int .i64 t12109, .slice none 0 0]) ?_ 5 _ rfl; refine blk_put (cs := #[.int .i64 t12105, .int .i64 t12106, .int .i64 t12107, .int .i64 t12108, .int .i64 0, .slice none 0 0]) ?_ 4 _ rfl; refine blk_put (cs := #[.int .i64 t12105, .int .i64 t12106, .int .i64 t12107, .int .i64 0, .int .i64 0, .slice none 0 0]) ?_ 3 _ rfl; refine blk_put (cs := #[.int .i64 t12105, .int .i64 t12106, .int .i64 0, .int .i64 0, .int .i64 0, .slice none 0 0]) ?_ 2 _ rfl; refine blk_put (cs := #[.int .i64 t12105, .int .i64 0, .int .i64 0, .int .i64 0, .int .i64 0, .slice none 0 0]) ?_ 1 _ rfl; refine blk_put (cs := #[.int .i64 0, .int .i64 0, .int .i64 0, .int .i64 0, .int .i64 0, .slice none 0 0]) ?_ 0 _ rfl; (with_reducible repeat (first | refine blk_drewN ?_ _ | refine blk_drew ?_ | refine blk_alloc ?_ _)); exact BK12113.out⟩
  have n5_ : Aside0 (Below w.heap.size w ((((((w27.setCell ⟨gb12113, 0, none⟩ (.int .i64 t12105)).setCell ⟨gb12113, 1, none⟩ (.int .i64 t12106)).setCell ⟨gb12113, 2, none⟩ (.int .i64 t12107)).setCell ⟨gb12113, 3, none⟩ (.int .i64 t12108)).setCell ⟨gb12113, 4, none⟩ (.int .i64 t12109)).setCell ⟨gb12113, 5, none⟩ (.slice Ao32 t12110.length co32))) := ⟨by repeat (first | (with_reducible first | exact HB.out | apply below_alloc | apply pw_below_drewN | apply below_drew1 | refine below_set ?_ GE12101.out | refine below_set ?_ GE12102.out | refine below_set ?_ GE12103.out | refine below_set ?_ GE12113.out) | exact HB.out)⟩
  (try clear HO12112)
  (try clear BK12101)
  (try clear BK12102)
  (try clear BK12103)
  (try clear BK12113)
  (try clear HB)
  generalize ((((((w27.setCell ⟨gb12113, 0, none⟩ (.int .i64 t12105)).setCell ⟨gb12113, 1, none⟩ (.int .i64 t12106)).setCell ⟨gb12113, 2, none⟩ (.int .i64 t12107)).setCell ⟨gb12113, 3, none⟩ (.int .i64 t12108)).setCell ⟨gb12113, 4, none⟩ (.int .i64 t12109)).setCell ⟨gb12113, 5, none⟩ (.slice Ao32 t12110.length co32)) = w33 at n0_ n1_ n2_ n3_ n4_ n5_ ⊢
  have HO12112 := n0_
  have BK12101 := n1_
  have BK12102 := n2_
  have BK12103 := n3_
  have BK12113 := n4_
  have HB := n5_
  clear n0_ n1_ n2_ n3_ n4_ n5_
  replace HO12112 := Aside0.mk (Kd.R_drew HO12112.out)
  replace BK12101 := Aside0.mk (blk_drew BK12101.out)
  replace BK12102 := Aside0.mk (blk_drew BK12102.out)
  replace BK12103 := Aside0.mk (blk_drew BK12103.out)
  replace BK12113 := Aside0.mk (blk_drew BK12113.out)
  replace HB := Aside0.mk (below_drew1 HB.out)
  refine start_ (n := 12) (S := fun w' => w'.cell? ⟨gb12113, 0, none⟩ = some (.int .i64 t12105) ∧ w'.cell? ⟨gb12113, 1, none⟩ = some (.int .i64 t12106) ∧ w'.cell? ⟨gb12113, 2, none⟩ = some (.int .i64 t12107) ∧ w'.cell? ⟨gb12113, 3, none⟩ = some (.int .i64 t12108) ∧ w'.cell? ⟨gb12113, 4, none⟩ = some (.int .i64 t12109) ∧ w'.cell? ⟨gb12113, 5, none⟩ = some (.slice Ao32 t12110.length co32) ∧ w'.cell? ⟨gb12102, 0, none⟩ = some (.int .i64 a1_0) ∧ w'.cell? ⟨gb12102, 1, none⟩ = some (.int .i64 a1_1) ∧ w'.cell? ⟨gb12102, 2, none⟩ = some (.int .i64 a1_2) ∧ w'.cell? ⟨gb12102, 3, none⟩ = some (.int .i64 a1_3) ∧ w'.cell? ⟨gb12102, 4, none⟩ = some (.int .i64 a1_4) ∧ w'.cell? ⟨gb12102, 5, none⟩ = some (.slice A1_5 l1_5.length c1_5) ∧ w'.cell? ⟨gb12103, 0, none⟩ = some (.int .i64 a2_0) ∧ w'.cell? ⟨gb12103, 1, none⟩ = some (.int .i64 a2_1) ∧ w'.cell? ⟨gb12103, 2, none⟩ = some (.int .i64 a2_2) ∧ w'.cell? ⟨gb12103, 3, none⟩ = some (.int .i64 a2_3) ∧ w'.cell? ⟨gb12103, 4, none⟩ = some (.int .i64 a2_4) ∧ w'.cell? ⟨gb12103, 5, none⟩ = some (.slice A2_5 l2_5.length c2_5)) (ds := []) #[false, false, false, false, false, false, false, false, false, false, false, false] (by kernel_rfl) rfl rfl ⟨(blk_cell BK12113.out 0).trans rfl, (blk_cell BK12113.out 1).trans rfl, (blk_cell BK12113.out 2).trans rfl, (blk_cell BK12113.out 3).trans rfl, (blk_cell BK12113.out 4).trans rfl, (blk_cell BK12113.out 5).trans rfl, (blk_cell BK12102.out 0).trans rfl, (blk_cell BK12102.out 1).trans rfl, (blk_cell BK12102.out 2).trans rfl, (blk_cell BK12102.out 3).trans rfl, (blk_cell BK12102.out 4).trans rfl, (blk_cell BK12102.out 5).trans rfl, (blk_cell BK12103.out 0).trans rfl, (blk_cell BK12103.out 1).trans rfl, (blk_cell BK12103.out 2).trans rfl, (blk_cell BK12103.out 3).trans rfl, (blk_cell BK12103.out 4).trans rfl, (blk_cell BK12103.out 5).trans rfl⟩ (fun hHeld => ?_); refine with_tabW plaitinglaw5_FrameSame.tab4 plaitinglaw5_FrameSame.bits4 (fun HT_ HW_ => ?_)
  generalize w33.drew = w34 at HO12112 BK12101 BK12102 BK12103 BK12113 HB hHeld ⊢
  refine pure_ (i := 2) (N := some 21) (v := ?_) (a' := ?_) #[false, false, true, false, false, false, false, false, false, false, false, false] rfl rfl (any_of HT_.out (by kernel_rfl)) (fun _ _ _ h => h) (Or.inl ⟨by rfl, ?_⟩) ?_ ?_
  rotate_left
  · intro w'
    go_simp
    with_reducible rfl
  rotate_left
  · simp only [Act.put, List.setIfInBounds_toArray, List.set_cons_zero, List.set_cons_succ, i64_w, i32_w]
    rfl
  refine pure_ (i := 6) (N := some 25) (v := ?_) (a' := ?_) #[false, false, true, false, false, false, true, false, false, false, false, false] rfl rfl (any_of HT_.out (by kernel_rfl)) (fun _ _ _ h => h) (Or.inl ⟨by rfl, ?_⟩) ?_ ?_
  rotate_left
  · intro w'
    go_simp
    with_reducible rfl
  rotate_left
  · simp only [Act.put, List.setIfInBounds_toArray, List.set_cons_zero, List.set_cons_succ, i64_w, i32_w]
    rfl
  refine take_ (i := 0) (N := some 19) (v := ?_) (a' := ?_) #[true, false, true, false, false, false, true, false, false, false, false, false] rfl rfl (take_ofW HT_.out HW_.out (by kernel_rfl)) (fun _ _ _ h => h) (Or.inl ⟨by rfl, ?_⟩) hHeld ?_ ?_
  rotate_left
  · rintro w' ⟨s0, s1, s2, s3, s4, s5, s6, s7, s8, s9, s10, s11, s12, s13, s14, s15, s16, s17⟩
    go_simp
    with_reducible rfl
  rotate_left
  · simp only [Act.put, List.setIfInBounds_toArray, List.set_cons_zero, List.set_cons_succ, i64_w, i32_w]
    rfl
  refine take_ (i := 1) (N := some 20) (v := ?_) (a' := ?_) #[true, true, true, false, false, false, true, false, false, false, false, false] rfl rfl (take_ofW HT_.out HW_.out (by kernel_rfl)) (fun _ _ _ h => h) (Or.inl ⟨by rfl, ?_⟩) hHeld ?_ ?_
  rotate_left
  · rintro w' ⟨s0, s1, s2, s3, s4, s5, s6, s7, s8, s9, s10, s11, s12, s13, s14, s15, s16, s17⟩
    go_simp
    with_reducible rfl
  rotate_left
  · simp only [Act.put, List.setIfInBounds_toArray, List.set_cons_zero, List.set_cons_succ, i64_w, i32_w]
    rfl
  refine take_ (i := 4) (N := some 23) (v := ?_) (a' := ?_) #[true, true, true, false, true, false, true, false, false, false, false, false] rfl rfl (take_ofW HT_.out HW_.out (by kernel_rfl)) (fun _ _ _ h => h) (Or.inl ⟨by rfl, ?_⟩) hHeld ?_ ?_
  rotate_left
  · rintro w' ⟨s0, s1, s2, s3, s4, s5, s6, s7, s8, s9, s10, s11, s12, s13, s14, s15, s16, s17⟩
    go_simp
    with_reducible rfl
  rotate_left
  · simp only [Act.put, List.setIfInBounds_toArray, List.set_cons_zero, List.set_cons_succ, i64_w, i32_w]
    rfl
  refine take_ (i := 5) (N := some 24) (v := ?_) (a' := ?_) #[true, true, true, false, true, true, true, false, false, false, false, false] rfl rfl (take_ofW HT_.out HW_.out (by kernel_rfl)) (fun _ _ _ h => h) (Or.inl ⟨by rfl, ?_⟩) hHeld ?_ ?_
  rotate_left
  · rintro w' ⟨s0, s1, s2, s3, s4, s5, s6, s7, s8, s9, s10, s11, s12, s13, s14, s15, s16, s17⟩
    go_simp
    with_reducible rfl
  rotate_left
  · simp only [Act.put, List.setIfInBounds_toArray, List.set_cons_zero, List.set_cons_succ, i64_w, i32_w]
    rfl
  refine join_ (σ := Value × Value × Nat × Nat) 2 #[true, true, true, true, true, true, true, true, true, true, false, false] (fun s_ => [(22, .agg #[.int .i64 t12114, .int .i64 t12115, .int .i64 t12116, .int .i64 t12117, .int .i64 t12118, s_.1]), (26, .agg #[.int .i64 t12122, .int .i64 t12123, .int .i64 t12124, .int .i64 t12125, .int .i64 t12126, s_.2.1]), (12, .pointer (some ⟨s_.2.2.1, 0, none⟩)), (13, .pointer (some ⟨s_.2.2.2, 0, none⟩))]) (fun s_ w' => (w'.cell? ⟨gb12113, 0, none⟩ = some (.int .i64 t12105) ∧ w'.cell? ⟨gb12113, 1, none⟩ = some (.int .i64 t12106) ∧ w'.cell? ⟨gb12113, 2, none⟩ = some (.int .i64 t12107) ∧ w'.cell? ⟨gb12113, 3, none⟩ = some (.int .i64 t12108) ∧ w'.cell? ⟨gb12113, 4, none⟩ = some (.int .i64 t12109) ∧ w'.cell? ⟨gb12113, 5, none⟩ = some (.slice Ao32 t12110.length co32) ∧ w'.cell? ⟨gb12102, 0, none⟩ = some (.int .i64 a1_0) ∧ w'.cell? ⟨gb12102, 1, none⟩ = some (.int .i64 a1_1) ∧ w'.cell? ⟨gb12102, 2, none⟩ = some (.int .i64 a1_2) ∧ w'.cell? ⟨gb12102, 3, none⟩ = some (.int .i64 a1_3) ∧ w'.cell? ⟨gb12102, 4, none⟩ = some (.int .i64 a1_4) ∧ w'.cell? ⟨gb12102, 5, none⟩ = some (.slice A1_5 l1_5.length c1_5) ∧ w'.cell? ⟨gb12103, 0, none⟩ = some (.int .i64 a2_0) ∧ w'.cell? ⟨gb12103, 1, none⟩ = some (.int .i64 a2_1) ∧ w'.cell? ⟨gb12103, 2, none⟩ = some (.int .i64 a2_2) ∧ w'.cell? ⟨gb12103, 3, none⟩ = some (.int .i64 a2_3) ∧ w'.cell? ⟨gb12103, 4, none⟩ = some (.int .i64 a2_4) ∧ w'.cell? ⟨gb12103, 5, none⟩ = some (.slice A2_5 l2_5.length c2_5)) ∧ (Kd.R (Kd.int .i64) 3 w' w.heap.size (fun _ => True) (.slice Ao32 t12110.length co32) t12110) ∧ (Kd.R k26 26 w' w.heap.size (fun k_ => some k_ ≠ (s_.2.1 : Value).ownBlock) s_.1 t12119) ∧ (Kd.R k26 26 w' w.heap.size (fun k_ => some k_ ≠ (s_.1 : Value).ownBlock) s_.2.1 t12127) ∧ (w'.heap[gb12101]? = some (.cells #[.int .i64 a0_0, .int .i64 a0_1, .int .i64 a0_2, .int .i64 a0_3, .int .i64 a0_4, .slice A0_5 l0_5.length c0_5] 24 (0, 0))) ∧ (w'.heap[gb12102]? = some (.cells #[.int .i64 a1_0, .int .i64 a1_1, .int .i64 a1_2, .int .i64 a1_3, .int .i64 a1_4, .slice A1_5 l1_5.length c1_5] 29 (0, 0))) ∧ (w'.heap[gb12103]? = some (.cells #[.int .i64 a2_0, .int .i64 a2_1, .int .i64 a2_2, .int .i64 a2_3, .int .i64 a2_4, .slice A2_5 l2_5.length c2_5] 29 (0, 0))) ∧ (w'.heap[gb12113]? = some (.cells #[.int .i64 t12105, .int .i64 t12106, .int .i64 t12107, .int .i64 t12108, .int .i64 t12109, .slice Ao32 t12110.length co32] 24 (0, 0))) ∧ (w'.heap[s_.2.2.1]? = some (.cells #[.int .i64 0, .int .i64 0, .int .i64 0, .int .i64 0, .int .i64 0, .slice none 0 0] 29 (0, 0))) ∧ (w'.heap[s_.2.2.2]? = some (.cells #[.int .i64 0, .int .i64 0, .int .i64 0, .int .i64 0, .int .i64 0, .slice none 0 0] 29 (0, 0))) ∧ (w.heap.size ≤ s_.2.2.1) ∧ (w.heap.size ≤ s_.2.2.1) ∧ (gb12101 ≠ s_.2.2.1) ∧ (s_.2.2.1 ≠ gb12101) ∧ (gb12102 ≠ s_.2.2.1) ∧ (s_.2.2.1 ≠ gb12102) ∧ (gb12103 ≠ s_.2.2.1) ∧ (s_.2.2.1 ≠ gb12103) ∧ (gb12113 ≠ s_.2.2.1) ∧ (s_.2.2.1 ≠ gb12113) ∧ (s_.2.2.2 ≠ s_.2.2.1) ∧ (s_.2.2.1 ≠ s_.2.2.2) ∧ (w.heap.size ≤ s_.2.2.2) ∧ (w.heap.size ≤ s_.2.2.2) ∧ (gb12101 ≠ s_.2.2.2) ∧ (s_.2.2.2 ≠ gb12101) ∧ (gb12102 ≠ s_.2.2.2) ∧ (s_.2.2.2 ≠ gb12102) ∧ (gb12103 ≠ s_.2.2.2) ∧ (s_.2.2.2 ≠ gb12103) ∧ (gb12113 ≠ s_.2.2.2) ∧ (s_.2.2.2 ≠ gb12113) ∧ (Below w.heap.size w w')) ?_ ?_
  rotate_left
  · intro hJ3_7_8_9
    refine join_ (σ := Value × Value × Nat) 3 #[true, true, true, true, true, true, true, true, true, false, false, false] (fun s_ => [(22, .agg #[.int .i64 t12114, .int .i64 t12115, .int .i64 t12116, .int .i64 t12117, .int .i64 t12118, s_.1]), (26, .agg #[.int .i64 t12122, .int .i64 t12123, .int .i64 t12124, .int .i64 t12125, .int .i64 t12126, s_.2.1]), (12, .pointer (some ⟨s_.2.2, 0, none⟩))]) (fun s_ w' => (w'.cell? ⟨gb12113, 0, none⟩ = some (.int .i64 t12105) ∧ w'.cell? ⟨gb12113, 1, none⟩ = some (.int .i64 t12106) ∧ w'.cell? ⟨gb12113, 2, none⟩ = some (.int .i64 t12107) ∧ w'.cell? ⟨gb12113, 3, none⟩ = some (.int .i64 t12108) ∧ w'.cell? ⟨gb12113, 4, none⟩ = some (.int .i64 t12109) ∧ w'.cell? ⟨gb12113, 5, none⟩ = some (.slice Ao32 t12110.length co32) ∧ w'.cell? ⟨gb12102, 0, none⟩ = some (.int .i64 a1_0) ∧ w'.cell? ⟨gb12102, 1, none⟩ = some (.int .i64 a1_1) ∧ w'.cell? ⟨gb12102, 2, none⟩ = some (.int .i64 a1_2) ∧ w'.cell? ⟨gb12102, 3, none⟩ = some (.int .i64 a1_3) ∧ w'.cell? ⟨gb12102, 4, none⟩ = some (.int .i64 a1_4) ∧ w'.cell? ⟨gb12102, 5, none⟩ = some (.slice A1_5 l1_5.length c1_5) ∧ w'.cell? ⟨gb12103, 0, none⟩ = some (.int .i64 a2_0) ∧ w'.cell? ⟨gb12103, 1, none⟩ = some (.int .i64 a2_1) ∧ w'.cell? ⟨gb12103, 2, none⟩ = some (.int .i64 a2_2) ∧ w'.cell? ⟨gb12103, 3, none⟩ = some (.int .i64 a2_3) ∧ w'.cell? ⟨gb12103, 4, none⟩ = some (.int .i64 a2_4) ∧ w'.cell? ⟨gb12103, 5, none⟩ = some (.slice A2_5 l2_5.length c2_5)) ∧ (Kd.R (Kd.int .i64) 3 w' w.heap.size (fun _ => True) (.slice Ao32 t12110.length co32) t12110) ∧ (Kd.R k26 26 w' w.heap.size (fun k_ => some k_ ≠ (s_.2.1 : Value).ownBlock) s_.1 t12119) ∧ (Kd.R k26 26 w' w.heap.size (fun k_ => some k_ ≠ (s_.1 : Value).ownBlock) s_.2.1 t12127) ∧ (w'.heap[gb12101]? = some (.cells #[.int .i64 a0_0, .int .i64 a0_1, .int .i64 a0_2, .int .i64 a0_3, .int .i64 a0_4, .slice A0_5 l0_5.length c0_5] 24 (0, 0))) ∧ (w'.heap[gb12102]? = some (.cells #[.int .i64 a1_0, .int .i64 a1_1, .int .i64 a1_2, .int .i64 a1_3, .int .i64 a1_4, .slice A1_5 l1_5.length c1_5] 29 (0, 0))) ∧ (w'.heap[gb12103]? = some (.cells #[.int .i64 a2_0, .int .i64 a2_1, .int .i64 a2_2, .int .i64 a2_3, .int .i64 a2_4, .slice A2_5 l2_5.length c2_5] 29 (0, 0))) ∧ (w'.heap[gb12113]? = some (.cells #[.int .i64 t12105, .int .i64 t12106, .int .i64 t12107, .int .i64 t12108, .int .i64 t12109, .slice Ao32 t12110.length co32] 24 (0, 0))) ∧ (w'.heap[s_.2.2]? = some (.cells #[.int .i64 0, .int .i64 0, .int .i64 0, .int .i64 0, .int .i64 0, .slice none 0 0] 29 (0, 0))) ∧ (w.heap.size ≤ s_.2.2) ∧ (w.heap.size ≤ s_.2.2) ∧ (gb12101 ≠ s_.2.2) ∧ (s_.2.2 ≠ gb12101) ∧ (gb12102 ≠ s_.2.2) ∧ (s_.2.2 ≠ gb12102) ∧ (gb12103 ≠ s_.2.2) ∧ (s_.2.2 ≠ gb12103) ∧ (gb12113 ≠ s_.2.2) ∧ (s_.2.2 ≠ gb12113) ∧ (Below w.heap.size w w')) ?_ ?_
    rotate_left
    · intro hJ3_7_8
      refine join_ (σ := Value × Value × Nat) 3 #[true, true, true, true, true, true, true, true, false, true, false, false] (fun s_ => [(22, .agg #[.int .i64 t12114, .int .i64 t12115, .int .i64 t12116, .int .i64 t12117, .int .i64 t12118, s_.1]), (26, .agg #[.int .i64 t12122, .int .i64 t12123, .int .i64 t12124, .int .i64 t12125, .int .i64 t12126, s_.2.1]), (13, .pointer (some ⟨s_.2.2, 0, none⟩))]) (fun s_ w' => (w'.cell? ⟨gb12113, 0, none⟩ = some (.int .i64 t12105) ∧ w'.cell? ⟨gb12113, 1, none⟩ = some (.int .i64 t12106) ∧ w'.cell? ⟨gb12113, 2, none⟩ = some (.int .i64 t12107) ∧ w'.cell? ⟨gb12113, 3, none⟩ = some (.int .i64 t12108) ∧ w'.cell? ⟨gb12113, 4, none⟩ = some (.int .i64 t12109) ∧ w'.cell? ⟨gb12113, 5, none⟩ = some (.slice Ao32 t12110.length co32) ∧ w'.cell? ⟨gb12102, 0, none⟩ = some (.int .i64 a1_0) ∧ w'.cell? ⟨gb12102, 1, none⟩ = some (.int .i64 a1_1) ∧ w'.cell? ⟨gb12102, 2, none⟩ = some (.int .i64 a1_2) ∧ w'.cell? ⟨gb12102, 3, none⟩ = some (.int .i64 a1_3) ∧ w'.cell? ⟨gb12102, 4, none⟩ = some (.int .i64 a1_4) ∧ w'.cell? ⟨gb12102, 5, none⟩ = some (.slice A1_5 l1_5.length c1_5) ∧ w'.cell? ⟨gb12103, 0, none⟩ = some (.int .i64 a2_0) ∧ w'.cell? ⟨gb12103, 1, none⟩ = some (.int .i64 a2_1) ∧ w'.cell? ⟨gb12103, 2, none⟩ = some (.int .i64 a2_2) ∧ w'.cell? ⟨gb12103, 3, none⟩ = some (.int .i64 a2_3) ∧ w'.cell? ⟨gb12103, 4, none⟩ = some (.int .i64 a2_4) ∧ w'.cell? ⟨gb12103, 5, none⟩ = some (.slice A2_5 l2_5.length c2_5)) ∧ (Kd.R (Kd.int .i64) 3 w' w.heap.size (fun _ => True) (.slice Ao32 t12110.length co32) t12110) ∧ (Kd.R k26 26 w' w.heap.size (fun k_ => some k_ ≠ (s_.2.1 : Value).ownBlock) s_.1 t12119) ∧ (Kd.R k26 26 w' w.heap.size (fun k_ => some k_ ≠ (s_.1 : Value).ownBlock) s_.2.1 t12127) ∧ (w'.heap[gb12101]? = some (.cells #[.int .i64 a0_0, .int .i64 a0_1, .int .i64 a0_2, .int .i64 a0_3, .int .i64 a0_4, .slice A0_5 l0_5.length c0_5] 24 (0, 0))) ∧ (w'.heap[gb12102]? = some (.cells #[.int .i64 a1_0, .int .i64 a1_1, .int .i64 a1_2, .int .i64 a1_3, .int .i64 a1_4, .slice A1_5 l1_5.length c1_5] 29 (0, 0))) ∧ (w'.heap[gb12103]? = some (.cells #[.int .i64 a2_0, .int .i64 a2_1, .int .i64 a2_2, .int .i64 a2_3, .int .i64 a2_4, .slice A2_5 l2_5.length c2_5] 29 (0, 0))) ∧ (w'.heap[gb12113]? = some (.cells #[.int .i64 t12105, .int .i64 t12106, .int .i64 t12107, .int .i64 t12108, .int .i64 t12109, .slice Ao32 t12110.length co32] 24 (0, 0))) ∧ (w'.heap[s_.2.2]? = some (.cells #[.int .i64 0, .int .i64 0, .int .i64 0, .int .i64 0, .int .i64 0, .slice none 0 0] 29 (0, 0))) ∧ (w.heap.size ≤ s_.2.2) ∧ (w.heap.size ≤ s_.2.2) ∧ (gb12101 ≠ s_.2.2) ∧ (s_.2.2 ≠ gb12101) ∧ (gb12102 ≠ s_.2.2) ∧ (s_.2.2 ≠ gb12102) ∧ (gb12103 ≠ s_.2.2) ∧ (s_.2.2 ≠ gb12103) ∧ (gb12113 ≠ s_.2.2) ∧ (s_.2.2 ≠ gb12113) ∧ (Below w.heap.size w w')) ?_ ?_
      rotate_left
      · intro hJ3_7_9
        refine join_ (σ := Value × Nat × Nat) 3 #[true, true, true, true, true, true, true, false, true, true, false, false] (fun s_ => [(22, .agg #[.int .i64 t12114, .int .i64 t12115, .int .i64 t12116, .int .i64 t12117, .int .i64 t12118, s_.1]), (12, .pointer (some ⟨s_.2.1, 0, none⟩)), (13, .pointer (some ⟨s_.2.2, 0, none⟩))]) (fun s_ w' => (w'.cell? ⟨gb12113, 0, none⟩ = some (.int .i64 t12105) ∧ w'.cell? ⟨gb12113, 1, none⟩ = some (.int .i64 t12106) ∧ w'.cell? ⟨gb12113, 2, none⟩ = some (.int .i64 t12107) ∧ w'.cell? ⟨gb12113, 3, none⟩ = some (.int .i64 t12108) ∧ w'.cell? ⟨gb12113, 4, none⟩ = some (.int .i64 t12109) ∧ w'.cell? ⟨gb12113, 5, none⟩ = some (.slice Ao32 t12110.length co32) ∧ w'.cell? ⟨gb12102, 0, none⟩ = some (.int .i64 a1_0) ∧ w'.cell? ⟨gb12102, 1, none⟩ = some (.int .i64 a1_1) ∧ w'.cell? ⟨gb12102, 2, none⟩ = some (.int .i64 a1_2) ∧ w'.cell? ⟨gb12102, 3, none⟩ = some (.int .i64 a1_3) ∧ w'.cell? ⟨gb12102, 4, none⟩ = some (.int .i64 a1_4) ∧ w'.cell? ⟨gb12102, 5, none⟩ = some (.slice A1_5 l1_5.length c1_5) ∧ w'.cell? ⟨gb12103, 0, none⟩ = some (.int .i64 a2_0) ∧ w'.cell? ⟨gb12103, 1, none⟩ = some (.int .i64 a2_1) ∧ w'.cell? ⟨gb12103, 2, none⟩ = some (.int .i64 a2_2) ∧ w'.cell? ⟨gb12103, 3, none⟩ = some (.int .i64 a2_3) ∧ w'.cell? ⟨gb12103, 4, none⟩ = some (.int .i64 a2_4) ∧ w'.cell? ⟨gb12103, 5, none⟩ = some (.slice A2_5 l2_5.length c2_5)) ∧ (Kd.R (Kd.int .i64) 3 w' w.heap.size (fun _ => True) (.slice Ao32 t12110.length co32) t12110) ∧ (Kd.R k26 26 w' w.heap.size (fun _ => True) s_.1 t12119) ∧ (w'.heap[gb12101]? = some (.cells #[.int .i64 a0_0, .int .i64 a0_1, .int .i64 a0_2, .int .i64 a0_3, .int .i64 a0_4, .slice A0_5 l0_5.length c0_5] 24 (0, 0))) ∧ (w'.heap[gb12102]? = some (.cells #[.int .i64 a1_0, .int .i64 a1_1, .int .i64 a1_2, .int .i64 a1_3, .int .i64 a1_4, .slice A1_5 l1_5.length c1_5] 29 (0, 0))) ∧ (w'.heap[gb12103]? = some (.cells #[.int .i64 a2_0, .int .i64 a2_1, .int .i64 a2_2, .int .i64 a2_3, .int .i64 a2_4, .slice A2_5 l2_5.length c2_5] 29 (0, 0))) ∧ (w'.heap[gb12113]? = some (.cells #[.int .i64 t12105, .int .i64 t12106, .int .i64 t12107, .int .i64 t12108, .int .i64 t12109, .slice Ao32 t12110.length co32] 24 (0, 0))) ∧ (w'.heap[s_.2.1]? = some (.cells #[.int .i64 0, .int .i64 0, .int .i64 0, .int .i64 0, .int .i64 0, .slice none 0 0] 29 (0, 0))) ∧ (w'.heap[s_.2.2]? = some (.cells #[.int .i64 0, .int .i64 0, .int .i64 0, .int .i64 0, .int .i64 0, .slice none 0 0] 29 (0, 0))) ∧ (w.heap.size ≤ s_.2.1) ∧ (w.heap.size ≤ s_.2.1) ∧ (gb12101 ≠ s_.2.1) ∧ (s_.2.1 ≠ gb12101) ∧ (gb12102 ≠ s_.2.1) ∧ (s_.2.1 ≠ gb12102) ∧ (gb12103 ≠ s_.2.1) ∧ (s_.2.1 ≠ gb12103) ∧ (gb12113 ≠ s_.2.1) ∧ (s_.2.1 ≠ gb12113) ∧ (s_.2.2 ≠ s_.2.1) ∧ (s_.2.1 ≠ s_.2.2) ∧ (w.heap.size ≤ s_.2.2) ∧ (w.heap.size ≤ s_.2.2) ∧ (gb12101 ≠ s_.2.2) ∧ (s_.2.2 ≠ gb12101) ∧ (gb12102 ≠ s_.2.2) ∧ (s_.2.2 ≠ gb12102) ∧ (gb12103 ≠ s_.2.2) ∧ (s_.2.2 ≠ gb12103) ∧ (gb12113 ≠ s_.2.2) ∧ (s_.2.2 ≠ gb12113) ∧ (Below w.heap.size w w')) ?_ ?_
        rotate_left
        · intro hJ3_8_9
          refine join_ (σ := Value × Value) 4 #[true, true, true, true, true, true, true, true, false, false, false, false] (fun s_ => [(22, .agg #[.int .i64 t12114, .int .i64 t12115, .int .i64 t12116, .int .i64 t12117, .int .i64 t12118, s_.1]), (26, .agg #[.int .i64 t12122, .int .i64 t12123, .int .i64 t12124, .int .i64 t12125, .int .i64 t12126, s_.2])]) (fun s_ w' => (w'.cell? ⟨gb12113, 0, none⟩ = some (.int .i64 t12105) ∧ w'.cell? ⟨gb12113, 1, none⟩ = some (.int .i64 t12106) ∧ w'.cell? ⟨gb12113, 2, none⟩ = some (.int .i64 t12107) ∧ w'.cell? ⟨gb12113, 3, none⟩ = some (.int .i64 t12108) ∧ w'.cell? ⟨gb12113, 4, none⟩ = some (.int .i64 t12109) ∧ w'.cell? ⟨gb12113, 5, none⟩ = some (.slice Ao32 t12110.length co32) ∧ w'.cell? ⟨gb12102, 0, none⟩ = some (.int .i64 a1_0) ∧ w'.cell? ⟨gb12102, 1, none⟩ = some (.int .i64 a1_1) ∧ w'.cell? ⟨gb12102, 2, none⟩ = some (.int .i64 a1_2) ∧ w'.cell? ⟨gb12102, 3, none⟩ = some (.int .i64 a1_3) ∧ w'.cell? ⟨gb12102, 4, none⟩ = some (.int .i64 a1_4) ∧ w'.cell? ⟨gb12102, 5, none⟩ = some (.slice A1_5 l1_5.length c1_5) ∧ w'.cell? ⟨gb12103, 0, none⟩ = some (.int .i64 a2_0) ∧ w'.cell? ⟨gb12103, 1, none⟩ = some (.int .i64 a2_1) ∧ w'.cell? ⟨gb12103, 2, none⟩ = some (.int .i64 a2_2) ∧ w'.cell? ⟨gb12103, 3, none⟩ = some (.int .i64 a2_3) ∧ w'.cell? ⟨gb12103, 4, none⟩ = some (.int .i64 a2_4) ∧ w'.cell? ⟨gb12103, 5, none⟩ = some (.slice A2_5 l2_5.length c2_5)) ∧ (Kd.R (Kd.int .i64) 3 w' w.heap.size (fun _ => True) (.slice Ao32 t12110.length co32) t12110) ∧ (Kd.R k26 26 w' w.heap.size (fun k_ => some k_ ≠ (s_.2 : Value).ownBlock) s_.1 t12119) ∧ (Kd.R k26 26 w' w.heap.size (fun k_ => some k_ ≠ (s_.1 : Value).ownBlock) s_.2 t12127) ∧ (w'.heap[gb12101]? = some (.cells #[.int .i64 a0_0, .int .i64 a0_1, .int .i64 a0_2, .int .i64 a0_3, .int .i64 a0_4, .slice A0_5 l0_5.length c0_5] 24 (0, 0))) ∧ (w'.heap[gb12102]? = some (.cells #[.int .i64 a1_0, .int .i64 a1_1, .int .i64 a1_2, .int .i64 a1_3, .int .i64 a1_4, .slice A1_5 l1_5.length c1_5] 29 (0, 0))) ∧ (w'.heap[gb12103]? = some (.cells #[.int .i64 a2_0, .int .i64 a2_1, .int .i64 a2_2, .int .i64 a2_3, .int .i64 a2_4, .slice A2_5 l2_5.length c2_5] 29 (0, 0))) ∧ (w'.heap[gb12113]? = some (.cells #[.int .i64 t12105, .int .i64 t12106, .int .i64 t12107, .int .i64 t12108, .int .i64 t12109, .slice Ao32 t12110.length co32] 24 (0, 0))) ∧ (Below w.heap.size w w')) ?_ ?_
          rotate_left
          · intro hJ3_7
            refine join_ (σ := Value × Nat) 4 #[true, true, true, true, true, true, true, false, true, false, false, false] (fun s_ => [(22, .agg #[.int .i64 t12114, .int .i64 t12115, .int .i64 t12116, .int .i64 t12117, .int .i64 t12118, s_.1]), (12, .pointer (some ⟨s_.2, 0, none⟩))]) (fun s_ w' => (w'.cell? ⟨gb12113, 0, none⟩ = some (.int .i64 t12105) ∧ w'.cell? ⟨gb12113, 1, none⟩ = some (.int .i64 t12106) ∧ w'.cell? ⟨gb12113, 2, none⟩ = some (.int .i64 t12107) ∧ w'.cell? ⟨gb12113, 3, none⟩ = some (.int .i64 t12108) ∧ w'.cell? ⟨gb12113, 4, none⟩ = some (.int .i64 t12109) ∧ w'.cell? ⟨gb12113, 5, none⟩ = some (.slice Ao32 t12110.length co32) ∧ w'.cell? ⟨gb12102, 0, none⟩ = some (.int .i64 a1_0) ∧ w'.cell? ⟨gb12102, 1, none⟩ = some (.int .i64 a1_1) ∧ w'.cell? ⟨gb12102, 2, none⟩ = some (.int .i64 a1_2) ∧ w'.cell? ⟨gb12102, 3, none⟩ = some (.int .i64 a1_3) ∧ w'.cell? ⟨gb12102, 4, none⟩ = some (.int .i64 a1_4) ∧ w'.cell? ⟨gb12102, 5, none⟩ = some (.slice A1_5 l1_5.length c1_5) ∧ w'.cell? ⟨gb12103, 0, none⟩ = some (.int .i64 a2_0) ∧ w'.cell? ⟨gb12103, 1, none⟩ = some (.int .i64 a2_1) ∧ w'.cell? ⟨gb12103, 2, none⟩ = some (.int .i64 a2_2) ∧ w'.cell? ⟨gb12103, 3, none⟩ = some (.int .i64 a2_3) ∧ w'.cell? ⟨gb12103, 4, none⟩ = some (.int .i64 a2_4) ∧ w'.cell? ⟨gb12103, 5, none⟩ = some (.slice A2_5 l2_5.length c2_5)) ∧ (Kd.R (Kd.int .i64) 3 w' w.heap.size (fun _ => True) (.slice Ao32 t12110.length co32) t12110) ∧ (Kd.R k26 26 w' w.heap.size (fun _ => True) s_.1 t12119) ∧ (w'.heap[gb12101]? = some (.cells #[.int .i64 a0_0, .int .i64 a0_1, .int .i64 a0_2, .int .i64 a0_3, .int .i64 a0_4, .slice A0_5 l0_5.length c0_5] 24 (0, 0))) ∧ (w'.heap[gb12102]? = some (.cells #[.int .i64 a1_0, .int .i64 a1_1, .int .i64 a1_2, .int .i64 a1_3, .int .i64 a1_4, .slice A1_5 l1_5.length c1_5] 29 (0, 0))) ∧ (w'.heap[gb12103]? = some (.cells #[.int .i64 a2_0, .int .i64 a2_1, .int .i64 a2_2, .int .i64 a2_3, .int .i64 a2_4, .slice A2_5 l2_5.length c2_5] 29 (0, 0))) ∧ (w'.heap[gb12113]? = some (.cells #[.int .i64 t12105, .int .i64 t12106, .int .i64 t12107, .int .i64 t12108, .int .i64 t12109, .slice Ao32 t12110.length co32] 24 (0, 0))) ∧ (w'.heap[s_.2]? = some (.cells #[.int .i64 0, .int .i64 0, .int .i64 0, .int .i64 0, .int .i64 0, .slice none 0 0] 29 (0, 0))) ∧ (w.heap.size ≤ s_.2) ∧ (w.heap.size ≤ s_.2) ∧ (gb12101 ≠ s_.2) ∧ (s_.2 ≠ gb12101) ∧ (gb12102 ≠ s_.2) ∧ (s_.2 ≠ gb12102) ∧ (gb12103 ≠ s_.2) ∧ (s_.2 ≠ gb12103) ∧ (gb12113 ≠ s_.2) ∧ (s_.2 ≠ gb12113) ∧ (Below w.heap.size w w')) ?_ ?_
            rotate_left
            · intro hJ3_8
              refine join_ (σ := Value × Nat) 4 #[true, true, true, true, true, true, true, false, false, true, false, false] (fun s_ => [(22, .agg #[.int .i64 t12114, .int .i64 t12115, .int .i64 t12116, .int .i64 t12117, .int .i64 t12118, s_.1]), (13, .pointer (some ⟨s_.2, 0, none⟩))]) (fun s_ w' => (w'.cell? ⟨gb12113, 0, none⟩ = some (.int .i64 t12105) ∧ w'.cell? ⟨gb12113, 1, none⟩ = some (.int .i64 t12106) ∧ w'.cell? ⟨gb12113, 2, none⟩ = some (.int .i64 t12107) ∧ w'.cell? ⟨gb12113, 3, none⟩ = some (.int .i64 t12108) ∧ w'.cell? ⟨gb12113, 4, none⟩ = some (.int .i64 t12109) ∧ w'.cell? ⟨gb12113, 5, none⟩ = some (.slice Ao32 t12110.length co32) ∧ w'.cell? ⟨gb12102, 0, none⟩ = some (.int .i64 a1_0) ∧ w'.cell? ⟨gb12102, 1, none⟩ = some (.int .i64 a1_1) ∧ w'.cell? ⟨gb12102, 2, none⟩ = some (.int .i64 a1_2) ∧ w'.cell? ⟨gb12102, 3, none⟩ = some (.int .i64 a1_3) ∧ w'.cell? ⟨gb12102, 4, none⟩ = some (.int .i64 a1_4) ∧ w'.cell? ⟨gb12102, 5, none⟩ = some (.slice A1_5 l1_5.length c1_5) ∧ w'.cell? ⟨gb12103, 0, none⟩ = some (.int .i64 a2_0) ∧ w'.cell? ⟨gb12103, 1, none⟩ = some (.int .i64 a2_1) ∧ w'.cell? ⟨gb12103, 2, none⟩ = some (.int .i64 a2_2) ∧ w'.cell? ⟨gb12103, 3, none⟩ = some (.int .i64 a2_3) ∧ w'.cell? ⟨gb12103, 4, none⟩ = some (.int .i64 a2_4) ∧ w'.cell? ⟨gb12103, 5, none⟩ = some (.slice A2_5 l2_5.length c2_5)) ∧ (Kd.R (Kd.int .i64) 3 w' w.heap.size (fun _ => True) (.slice Ao32 t12110.length co32) t12110) ∧ (Kd.R k26 26 w' w.heap.size (fun _ => True) s_.1 t12119) ∧ (w'.heap[gb12101]? = some (.cells #[.int .i64 a0_0, .int .i64 a0_1, .int .i64 a0_2, .int .i64 a0_3, .int .i64 a0_4, .slice A0_5 l0_5.length c0_5] 24 (0, 0))) ∧ (w'.heap[gb12102]? = some (.cells #[.int .i64 a1_0, .int .i64 a1_1, .int .i64 a1_2, .int .i64 a1_3, .int .i64 a1_4, .slice A1_5 l1_5.length c1_5] 29 (0, 0))) ∧ (w'.heap[gb12103]? = some (.cells #[.int .i64 a2_0, .int .i64 a2_1, .int .i64 a2_2, .int .i64 a2_3, .int .i64 a2_4, .slice A2_5 l2_5.length c2_5] 29 (0, 0))) ∧ (w'.heap[gb12113]? = some (.cells #[.int .i64 t12105, .int .i64 t12106, .int .i64 t12107, .int .i64 t12108, .int .i64 t12109, .slice Ao32 t12110.length co32] 24 (0, 0))) ∧ (w'.heap[s_.2]? = some (.cells #[.int .i64 0, .int .i64 0, .int .i64 0, .int .i64 0, .int .i64 0, .slice none 0 0] 29 (0, 0))) ∧ (w.heap.size ≤ s_.2) ∧ (w.heap.size ≤ s_.2) ∧ (gb12101 ≠ s_.2) ∧ (s_.2 ≠ gb12101) ∧ (gb12102 ≠ s_.2) ∧ (s_.2 ≠ gb12102) ∧ (gb12103 ≠ s_.2) ∧ (s_.2 ≠ gb12103) ∧ (gb12113 ≠ s_.2) ∧ (s_.2 ≠ gb12113) ∧ (Below w.heap.size w w')) ?_ ?_
              rotate_left
              · intro hJ3_9
                refine join_ (σ := Nat × Nat) 4 #[true, true, true, false, true, true, true, false, true, true, false, false] (fun s_ => [(12, .pointer (some ⟨s_.1, 0, none⟩)), (13, .pointer (some ⟨s_.2, 0, none⟩))]) (fun s_ w' => (w'.cell? ⟨gb12113, 0, none⟩ = some (.int .i64 t12105) ∧ w'.cell? ⟨gb12113, 1, none⟩ = some (.int .i64 t12106) ∧ w'.cell? ⟨gb12113, 2, none⟩ = some (.int .i64 t12107) ∧ w'.cell? ⟨gb12113, 3, none⟩ = some (.int .i64 t12108) ∧ w'.cell? ⟨gb12113, 4, none⟩ = some (.int .i64 t12109) ∧ w'.cell? ⟨gb12113, 5, none⟩ = some (.slice Ao32 t12110.length co32) ∧ w'.cell? ⟨gb12102, 0, none⟩ = some (.int .i64 a1_0) ∧ w'.cell? ⟨gb12102, 1, none⟩ = some (.int .i64 a1_1) ∧ w'.cell? ⟨gb12102, 2, none⟩ = some (.int .i64 a1_2) ∧ w'.cell? ⟨gb12102, 3, none⟩ = some (.int .i64 a1_3) ∧ w'.cell? ⟨gb12102, 4, none⟩ = some (.int .i64 a1_4) ∧ w'.cell? ⟨gb12102, 5, none⟩ = some (.slice A1_5 l1_5.length c1_5) ∧ w'.cell? ⟨gb12103, 0, none⟩ = some (.int .i64 a2_0) ∧ w'.cell? ⟨gb12103, 1, none⟩ = some (.int .i64 a2_1) ∧ w'.cell? ⟨gb12103, 2, none⟩ = some (.int .i64 a2_2) ∧ w'.cell? ⟨gb12103, 3, none⟩ = some (.int .i64 a2_3) ∧ w'.cell? ⟨gb12103, 4, none⟩ = some (.int .i64 a2_4) ∧ w'.cell? ⟨gb12103, 5, none⟩ = some (.slice A2_5 l2_5.length c2_5)) ∧ (Kd.R (Kd.int .i64) 3 w' w.heap.size (fun _ => True) (.slice Ao32 t12110.length co32) t12110) ∧ (w'.heap[gb12101]? = some (.cells #[.int .i64 a0_0, .int .i64 a0_1, .int .i64 a0_2, .int .i64 a0_3, .int .i64 a0_4, .slice A0_5 l0_5.length c0_5] 24 (0, 0))) ∧ (w'.heap[gb12102]? = some (.cells #[.int .i64 a1_0, .int .i64 a1_1, .int .i64 a1_2, .int .i64 a1_3, .int .i64 a1_4, .slice A1_5 l1_5.length c1_5] 29 (0, 0))) ∧ (w'.heap[gb12103]? = some (.cells #[.int .i64 a2_0, .int .i64 a2_1, .int .i64 a2_2, .int .i64 a2_3, .int .i64 a2_4, .slice A2_5 l2_5.length c2_5] 29 (0, 0))) ∧ (w'.heap[gb12113]? = some (.cells #[.int .i64 t12105, .int .i64 t12106, .int .i64 t12107, .int .i64 t12108, .int .i64 t12109, .slice Ao32 t12110.length co32] 24 (0, 0))) ∧ (w'.heap[s_.1]? = some (.cells #[.int .i64 0, .int .i64 0, .int .i64 0, .int .i64 0, .int .i64 0, .slice none 0 0] 29 (0, 0))) ∧ (w'.heap[s_.2]? = some (.cells #[.int .i64 0, .int .i64 0, .int .i64 0, .int .i64 0, .int .i64 0, .slice none 0 0] 29 (0, 0))) ∧ (w.heap.size ≤ s_.1) ∧ (w.heap.size ≤ s_.1) ∧ (gb12101 ≠ s_.1) ∧ (s_.1 ≠ gb12101) ∧ (gb12102 ≠ s_.1) ∧ (s_.1 ≠ gb12102) ∧ (gb12103 ≠ s_.1) ∧ (s_.1 ≠ gb12103) ∧ (gb12113 ≠ s_.1) ∧ (s_.1 ≠ gb12113) ∧ (s_.2 ≠ s_.1) ∧ (s_.1 ≠ s_.2) ∧ (w.heap.size ≤ s_.2) ∧ (w.heap.size ≤ s_.2) ∧ (gb12101 ≠ s_.2) ∧ (s_.2 ≠ gb12101) ∧ (gb12102 ≠ s_.2) ∧ (s_.2 ≠ gb12102) ∧ (gb12103 ≠ s_.2) ∧ (s_.2 ≠ gb12103) ∧ (gb12113 ≠ s_.2) ∧ (s_.2 ≠ gb12113) ∧ (Below w.heap.size w w')) ?_ ?_
                rotate_left
                · intro hJ8_9
                  refine join_ (σ := Value) 5 #[true, true, true, true, true, true, true, false, false, false, false, false] (fun s_ => [(22, .agg #[.int .i64 t12114, .int .i64 t12115, .int .i64 t12116, .int .i64 t12117, .int .i64 t12118, s_])]) (fun s_ w' => (w'.cell? ⟨gb12113, 0, none⟩ = some (.int .i64 t12105) ∧ w'.cell? ⟨gb12113, 1, none⟩ = some (.int .i64 t12106) ∧ w'.cell? ⟨gb12113, 2, none⟩ = some (.int .i64 t12107) ∧ w'.cell? ⟨gb12113, 3, none⟩ = some (.int .i64 t12108) ∧ w'.cell? ⟨gb12113, 4, none⟩ = some (.int .i64 t12109) ∧ w'.cell? ⟨gb12113, 5, none⟩ = some (.slice Ao32 t12110.length co32) ∧ w'.cell? ⟨gb12102, 0, none⟩ = some (.int .i64 a1_0) ∧ w'.cell? ⟨gb12102, 1, none⟩ = some (.int .i64 a1_1) ∧ w'.cell? ⟨gb12102, 2, none⟩ = some (.int .i64 a1_2) ∧ w'.cell? ⟨gb12102, 3, none⟩ = some (.int .i64 a1_3) ∧ w'.cell? ⟨gb12102, 4, none⟩ = some (.int .i64 a1_4) ∧ w'.cell? ⟨gb12102, 5, none⟩ = some (.slice A1_5 l1_5.length c1_5) ∧ w'.cell? ⟨gb12103, 0, none⟩ = some (.int .i64 a2_0) ∧ w'.cell? ⟨gb12103, 1, none⟩ = some (.int .i64 a2_1) ∧ w'.cell? ⟨gb12103, 2, none⟩ = some (.int .i64 a2_2) ∧ w'.cell? ⟨gb12103, 3, none⟩ = some (.int .i64 a2_3) ∧ w'.cell? ⟨gb12103, 4, none⟩ = some (.int .i64 a2_4) ∧ w'.cell? ⟨gb12103, 5, none⟩ = some (.slice A2_5 l2_5.length c2_5)) ∧ (Kd.R (Kd.int .i64) 3 w' w.heap.size (fun _ => True) (.slice Ao32 t12110.length co32) t12110) ∧ (Kd.R k26 26 w' w.heap.size (fun _ => True) s_ t12119) ∧ (w'.heap[gb12101]? = some (.cells #[.int .i64 a0_0, .int .i64 a0_1, .int .i64 a0_2, .int .i64 a0_3, .int .i64 a0_4, .slice A0_5 l0_5.length c0_5] 24 (0, 0))) ∧ (w'.heap[gb12102]? = some (.cells #[.int .i64 a1_0, .int .i64 a1_1, .int .i64 a1_2, .int .i64 a1_3, .int .i64 a1_4, .slice A1_5 l1_5.length c1_5] 29 (0, 0))) ∧ (w'.heap[gb12103]? = some (.cells #[.int .i64 a2_0, .int .i64 a2_1, .int .i64 a2_2, .int .i64 a2_3, .int .i64 a2_4, .slice A2_5 l2_5.length c2_5] 29 (0, 0))) ∧ (w'.heap[gb12113]? = some (.cells #[.int .i64 t12105, .int .i64 t12106, .int .i64 t12107, .int .i64 t12108, .int .i64 t12109, .slice Ao32 t12110.length co32] 24 (0, 0))) ∧ (Below w.heap.size w w')) ?_ ?_
                  rotate_left
                  · intro hJ3
                    refine join_ (σ := Nat) 5 #[true, true, true, false, true, true, true, false, true, false, false, false] (fun s_ => [(12, .pointer (some ⟨s_, 0, none⟩))]) (fun s_ w' => (w'.cell? ⟨gb12113, 0, none⟩ = some (.int .i64 t12105) ∧ w'.cell? ⟨gb12113, 1, none⟩ = some (.int .i64 t12106) ∧ w'.cell? ⟨gb12113, 2, none⟩ = some (.int .i64 t12107) ∧ w'.cell? ⟨gb12113, 3, none⟩ = some (.int .i64 t12108) ∧ w'.cell? ⟨gb12113, 4, none⟩ = some (.int .i64 t12109) ∧ w'.cell? ⟨gb12113, 5, none⟩ = some (.slice Ao32 t12110.length co32) ∧ w'.cell? ⟨gb12102, 0, none⟩ = some (.int .i64 a1_0) ∧ w'.cell? ⟨gb12102, 1, none⟩ = some (.int .i64 a1_1) ∧ w'.cell? ⟨gb12102, 2, none⟩ = some (.int .i64 a1_2) ∧ w'.cell? ⟨gb12102, 3, none⟩ = some (.int .i64 a1_3) ∧ w'.cell? ⟨gb12102, 4, none⟩ = some (.int .i64 a1_4) ∧ w'.cell? ⟨gb12102, 5, none⟩ = some (.slice A1_5 l1_5.length c1_5) ∧ w'.cell? ⟨gb12103, 0, none⟩ = some (.int .i64 a2_0) ∧ w'.cell? ⟨gb12103, 1, none⟩ = some (.int .i64 a2_1) ∧ w'.cell? ⟨gb12103, 2, none⟩ = some (.int .i64 a2_2) ∧ w'.cell? ⟨gb12103, 3, none⟩ = some (.int .i64 a2_3) ∧ w'.cell? ⟨gb12103, 4, none⟩ = some (.int .i64 a2_4) ∧ w'.cell? ⟨gb12103, 5, none⟩ = some (.slice A2_5 l2_5.length c2_5)) ∧ (Kd.R (Kd.int .i64) 3 w' w.heap.size (fun _ => True) (.slice Ao32 t12110.length co32) t12110) ∧ (w'.heap[gb12101]? = some (.cells #[.int .i64 a0_0, .int .i64 a0_1, .int .i64 a0_2, .int .i64 a0_3, .int .i64 a0_4, .slice A0_5 l0_5.length c0_5] 24 (0, 0))) ∧ (w'.heap[gb12102]? = some (.cells #[.int .i64 a1_0, .int .i64 a1_1, .int .i64 a1_2, .int .i64 a1_3, .int .i64 a1_4, .slice A1_5 l1_5.length c1_5] 29 (0, 0))) ∧ (w'.heap[gb12103]? = some (.cells #[.int .i64 a2_0, .int .i64 a2_1, .int .i64 a2_2, .int .i64 a2_3, .int .i64 a2_4, .slice A2_5 l2_5.length c2_5] 29 (0, 0))) ∧ (w'.heap[gb12113]? = some (.cells #[.int .i64 t12105, .int .i64 t12106, .int .i64 t12107, .int .i64 t12108, .int .i64 t12109, .slice Ao32 t12110.length co32] 24 (0, 0))) ∧ (w'.heap[s_]? = some (.cells #[.int .i64 0, .int .i64 0, .int .i64 0, .int .i64 0, .int .i64 0, .slice none 0 0] 29 (0, 0))) ∧ (w.heap.size ≤ s_) ∧ (w.heap.size ≤ s_) ∧ (gb12101 ≠ s_) ∧ (s_ ≠ gb12101) ∧ (gb12102 ≠ s_) ∧ (s_ ≠ gb12102) ∧ (gb12103 ≠ s_) ∧ (s_ ≠ gb12103) ∧ (gb12113 ≠ s_) ∧ (s_ ≠ gb12113) ∧ (Below w.heap.size w w')) ?_ ?_
                    rotate_left
                    · intro hJ8
                      refine join_ (σ := Nat) 5 #[true, true, true, false, true, true, true, false, false, true, false, false] (fun s_ => [(13, .pointer (some ⟨s_, 0, none⟩))]) (fun s_ w' => (w'.cell? ⟨gb12113, 0, none⟩ = some (.int .i64 t12105) ∧ w'.cell? ⟨gb12113, 1, none⟩ = some (.int .i64 t12106) ∧ w'.cell? ⟨gb12113, 2, none⟩ = some (.int .i64 t12107) ∧ w'.cell? ⟨gb12113, 3, none⟩ = some (.int .i64 t12108) ∧ w'.cell? ⟨gb12113, 4, none⟩ = some (.int .i64 t12109) ∧ w'.cell? ⟨gb12113, 5, none⟩ = some (.slice Ao32 t12110.length co32) ∧ w'.cell? ⟨gb12102, 0, none⟩ = some (.int .i64 a1_0) ∧ w'.cell? ⟨gb12102, 1, none⟩ = some (.int .i64 a1_1) ∧ w'.cell? ⟨gb12102, 2, none⟩ = some (.int .i64 a1_2) ∧ w'.cell? ⟨gb12102, 3, none⟩ = some (.int .i64 a1_3) ∧ w'.cell? ⟨gb12102, 4, none⟩ = some (.int .i64 a1_4) ∧ w'.cell? ⟨gb12102, 5, none⟩ = some (.slice A1_5 l1_5.length c1_5) ∧ w'.cell? ⟨gb12103, 0, none⟩ = some (.int .i64 a2_0) ∧ w'.cell? ⟨gb12103, 1, none⟩ = some (.int .i64 a2_1) ∧ w'.cell? ⟨gb12103, 2, none⟩ = some (.int .i64 a2_2) ∧ w'.cell? ⟨gb12103, 3, none⟩ = some (.int .i64 a2_3) ∧ w'.cell? ⟨gb12103, 4, none⟩ = some (.int .i64 a2_4) ∧ w'.cell? ⟨gb12103, 5, none⟩ = some (.slice A2_5 l2_5.length c2_5)) ∧ (Kd.R (Kd.int .i64) 3 w' w.heap.size (fun _ => True) (.slice Ao32 t12110.length co32) t12110) ∧ (w'.heap[gb12101]? = some (.cells #[.int .i64 a0_0, .int .i64 a0_1, .int .i64 a0_2, .int .i64 a0_3, .int .i64 a0_4, .slice A0_5 l0_5.length c0_5] 24 (0, 0))) ∧ (w'.heap[gb12102]? = some (.cells #[.int .i64 a1_0, .int .i64 a1_1, .int .i64 a1_2, .int .i64 a1_3, .int .i64 a1_4, .slice A1_5 l1_5.length c1_5] 29 (0, 0))) ∧ (w'.heap[gb12103]? = some (.cells #[.int .i64 a2_0, .int .i64 a2_1, .int .i64 a2_2, .int .i64 a2_3, .int .i64 a2_4, .slice A2_5 l2_5.length c2_5] 29 (0, 0))) ∧ (w'.heap[gb12113]? = some (.cells #[.int .i64 t12105, .int .i64 t12106, .int .i64 t12107, .int .i64 t12108, .int .i64 t12109, .slice Ao32 t12110.length co32] 24 (0, 0))) ∧ (w'.heap[s_]? = some (.cells #[.int .i64 0, .int .i64 0, .int .i64 0, .int .i64 0, .int .i64 0, .slice none 0 0] 29 (0, 0))) ∧ (w.heap.size ≤ s_) ∧ (w.heap.size ≤ s_) ∧ (gb12101 ≠ s_) ∧ (s_ ≠ gb12101) ∧ (gb12102 ≠ s_) ∧ (s_ ≠ gb12102) ∧ (gb12103 ≠ s_) ∧ (s_ ≠ gb12103) ∧ (gb12113 ≠ s_) ∧ (s_ ≠ gb12113) ∧ (Below w.heap.size w w')) ?_ ?_
                      rotate_left
                      · intro hJ9
                        refine three_ (i := 3) (j := 8) (k := 9) (Ni := some 22) (Nj := some 12) (Nk := some 13) #[true, true, true, true, true, true, true, false, false, false, false, false] #[true, true, true, false, true, true, true, false, true, false, false, false] #[true, true, true, false, true, true, true, false, false, true, false, false] rfl rfl rfl rfl rfl rfl (three_of HT_.out (by kernel_rfl)) (by decide) (by decide) (by decide) (fun K hK => ?_) (fun K hK => ?_) (fun K hK => ?_)
                        · skip
                          refine goes_ Try.func21 (by kernel_rfl) rfl #[.agg #[.int .i64 t12105, .int .i64 t12106, .int .i64 t12107, .int .i64 t12108, .int .i64 t12109, .slice Ao32 t12110.length co32], .agg #[.int .i64 a1_0, .int .i64 a1_1, .int .i64 a1_2, .int .i64 a1_3, .int .i64 a1_4, .slice A1_5 l1_5.length c1_5], .slice A3 l3.length c3] (by rfl) rfl rfl (by (try simp only [List.map_toArray, List.map_cons, List.map_nil]); first | done | rfl | (simp only [List.length_drop, List.length_take]; rfl)) ?_
                          with_reducible refine (plaitinglaw5_Make.calls k t12105 t12106 t12107 t12108 t12109 _ _ t12110 a1_0 a1_1 a1_2 a1_3 a1_4 _ _ l1_5 _ _ l3 t12114 t12115 t12116 t12117 t12118 t12119 _ ?side1 ?side2 ?side3 ?side4 ?side5 ?side6 A9.out).mono ?_
                          (case side1 => repeat (first | exact (Kd.R_reads' HO12112.out).2.2 | (with_reducible refine Kd.C_alloc ?_ _) | (with_reducible refine Kd.C_drewN ?_ _) | (with_reducible refine Kd.C_drew ?_)))
                          (case side2 => exact (Kd.R_reads' HO12112.out).2.1)
                          (case side3 => repeat (first | exact (Kd.C_below HR1_5.out HB.out) | (with_reducible refine Kd.C_alloc ?_ _) | (with_reducible refine Kd.C_drewN ?_ _) | (with_reducible refine Kd.C_drew ?_)))
                          (case side4 => exact HC1_5.out)
                          (case side5 => repeat (first | exact (Kd.C_below HR3.out HB.out) | (with_reducible refine Kd.C_alloc ?_ _) | (with_reducible refine Kd.C_drewN ?_ _) | (with_reducible refine Kd.C_drew ?_)))
                          (case side6 => exact HC3.out)
                          rintro e w35 ⟨v12120, rfl, ho0, hb⟩
                          refine ⟨_, rfl, ?_⟩
                          have HO12121 := Aside0.mk (Kd.R_lower ho0 (below_size (pH_ HB.out)))
                          replace HO12112 := Aside0.mk (Kd.R_below (pR_ HO12112.out) hb)
                          replace BK12101 := Aside0.mk (blk_below (pB_ BK12101.out) hb)
                          replace BK12102 := Aside0.mk (blk_below (pB_ BK12102.out) hb)
                          replace BK12103 := Aside0.mk (blk_below (pB_ BK12103.out) hb)
                          replace BK12113 := Aside0.mk (blk_below (pB_ BK12113.out) hb)
                          replace HB := Aside0.mk (below_step (pH_ HB.out) hb)
                          (try clear hb)
                          (try clear hb2)
                          (try clear hk)
                          (try clear hi)
                          (try clear ho0)
                          refine hK.out _ _ ⟨(blk_cell BK12113.out 0).trans rfl, (blk_cell BK12113.out 1).trans rfl, (blk_cell BK12113.out 2).trans rfl, (blk_cell BK12113.out 3).trans rfl, (blk_cell BK12113.out 4).trans rfl, (blk_cell BK12113.out 5).trans rfl, (blk_cell BK12102.out 0).trans rfl, (blk_cell BK12102.out 1).trans rfl, (blk_cell BK12102.out 2).trans rfl, (blk_cell BK12102.out 3).trans rfl, (blk_cell BK12102.out 4).trans rfl, (blk_cell BK12102.out 5).trans rfl, (blk_cell BK12103.out 0).trans rfl, (blk_cell BK12103.out 1).trans rfl, (blk_cell BK12103.out 2).trans rfl, (blk_cell BK12103.out 3).trans rfl, (blk_cell BK12103.out 4).trans rfl, (blk_cell BK12103.out 5).trans rfl⟩ (fun hHeld => ?_)
                          clear hK K
                          refine norm_ (a' := ?_) ?_ ?_
                          rotate_left
                          · show Act.put _ (some 22) _ = _
                            simp only [Act.put, List.setIfInBounds_toArray, List.set_cons_zero, List.set_cons_succ, i64_w, i32_w]
                            rfl
                          exact norm2_ (hJ3 (v12120) _ ⟨hHeld, (pR_ HO12112.out), (pR_ HO12121.out), (pB_ BK12101.out), (pB_ BK12102.out), (pB_ BK12103.out), (pB_ BK12113.out), (pH_ HB.out)⟩)
                        · skip
                          refine box_step ?hg (N := 12) ?hd (cs := #[.int .i64 0, .int .i64 0, .int .i64 0, .int .i64 0, .int .i64 0, .slice none 0 0]) (t := 29) ?hr ?_; (case hd => rfl); (case hg => rfl); (case hr => first | (go_simp; done) | (go_simp; rfl))
                          intro gb12130 hg w35 hbox hb
                          have BK12130 := Aside0.mk (hbox)
                          have GW12130 := Aside0.mk ((by rw [hg]; exact (below_size (pH_ HB.out)) : w.heap.size ≤ gb12130))
                          have GE12130 := Aside0.mk ((by rw [hg]; exact (below_size (pH_ HB.out)) : w.heap.size ≤ gb12130))
                          have NB12101_12130 := Aside0.mk (ltB_ hg BK12101.out)
                          have NB12130_12101 := Aside0.mk (ltB_ hg BK12101.out).symm
                          have NB12102_12130 := Aside0.mk (ltB_ hg BK12102.out)
                          have NB12130_12102 := Aside0.mk (ltB_ hg BK12102.out).symm
                          have NB12103_12130 := Aside0.mk (ltB_ hg BK12103.out)
                          have NB12130_12103 := Aside0.mk (ltB_ hg BK12103.out).symm
                          have NB12113_12130 := Aside0.mk (ltB_ hg BK12113.out)
                          have NB12130_12113 := Aside0.mk (ltB_ hg BK12113.out).symm
                          replace HO12112 := Aside0.mk (Kd.R_below (pR_ HO12112.out) hb)
                          replace BK12101 := Aside0.mk (blk_below (pB_ BK12101.out) hb)
                          replace BK12102 := Aside0.mk (blk_below (pB_ BK12102.out) hb)
                          replace BK12103 := Aside0.mk (blk_below (pB_ BK12103.out) hb)
                          replace BK12113 := Aside0.mk (blk_below (pB_ BK12113.out) hb)
                          replace HB := Aside0.mk (below_step (pH_ HB.out) hb)
                          clear hb hbox hg
                          refine hK.out _ _ ⟨(blk_cell BK12113.out 0).trans rfl, (blk_cell BK12113.out 1).trans rfl, (blk_cell BK12113.out 2).trans rfl, (blk_cell BK12113.out 3).trans rfl, (blk_cell BK12113.out 4).trans rfl, (blk_cell BK12113.out 5).trans rfl, (blk_cell BK12102.out 0).trans rfl, (blk_cell BK12102.out 1).trans rfl, (blk_cell BK12102.out 2).trans rfl, (blk_cell BK12102.out 3).trans rfl, (blk_cell BK12102.out 4).trans rfl, (blk_cell BK12102.out 5).trans rfl, (blk_cell BK12103.out 0).trans rfl, (blk_cell BK12103.out 1).trans rfl, (blk_cell BK12103.out 2).trans rfl, (blk_cell BK12103.out 3).trans rfl, (blk_cell BK12103.out 4).trans rfl, (blk_cell BK12103.out 5).trans rfl⟩ (fun hHeld => ?_)
                          clear hK K
                          refine norm_ (a' := ?_) ?_ ?_
                          rotate_left
                          · show Act.put _ (some 12) _ = _
                            simp only [Act.put, List.setIfInBounds_toArray, List.set_cons_zero, List.set_cons_succ, i64_w, i32_w]
                            rfl
                          exact norm2_ (hJ8 (gb12130) _ ⟨hHeld, (pR_ HO12112.out), (pB_ BK12101.out), (pB_ BK12102.out), (pB_ BK12103.out), (pB_ BK12113.out), (pB_ BK12130.out), GW12130.out, GE12130.out, NB12101_12130.out, NB12130_12101.out, NB12102_12130.out, NB12130_12102.out, NB12103_12130.out, NB12130_12103.out, NB12113_12130.out, NB12130_12113.out, (pH_ HB.out)⟩)
                        skip
                        refine box_step ?hg (N := 13) ?hd (cs := #[.int .i64 0, .int .i64 0, .int .i64 0, .int .i64 0, .int .i64 0, .slice none 0 0]) (t := 29) ?hr ?_; (case hd => rfl); (case hg => rfl); (case hr => first | (go_simp; done) | (go_simp; rfl))
                        intro gb12131 hg w35 hbox hb
                        have BK12131 := Aside0.mk (hbox)
                        have GW12131 := Aside0.mk ((by rw [hg]; exact (below_size (pH_ HB.out)) : w.heap.size ≤ gb12131))
                        have GE12131 := Aside0.mk ((by rw [hg]; exact (below_size (pH_ HB.out)) : w.heap.size ≤ gb12131))
                        have NB12101_12131 := Aside0.mk (ltB_ hg BK12101.out)
                        have NB12131_12101 := Aside0.mk (ltB_ hg BK12101.out).symm
                        have NB12102_12131 := Aside0.mk (ltB_ hg BK12102.out)
                        have NB12131_12102 := Aside0.mk (ltB_ hg BK12102.out).symm
                        have NB12103_12131 := Aside0.mk (ltB_ hg BK12103.out)
                        have NB12131_12103 := Aside0.mk (ltB_ hg BK12103.out).symm
                        have NB12113_12131 := Aside0.mk (ltB_ hg BK12113.out)
                        have NB12131_12113 := Aside0.mk (ltB_ hg BK12113.out).symm
                        replace HO12112 := Aside0.mk (Kd.R_below (pR_ HO12112.out) hb)
                        replace BK12101 := Aside0.mk (blk_below (pB_ BK12101.out) hb)
                        replace BK12102 := Aside0.mk (blk_below (pB_ BK12102.out) hb)
                        replace BK12103 := Aside0.mk (blk_below (pB_ BK12103.out) hb)
                        replace BK12113 := Aside0.mk (blk_below (pB_ BK12113.out) hb)
                        replace HB := Aside0.mk (below_step (pH_ HB.out) hb)
                        clear hb hbox hg
                        refine hK.out _ _ ⟨(blk_cell BK12113.out 0).trans rfl, (blk_cell BK12113.out 1).trans rfl, (blk_cell BK12113.out 2).trans rfl, (blk_cell BK12113.out 3).trans rfl, (blk_cell BK12113.out 4).trans rfl, (blk_cell BK12113.out 5).trans rfl, (blk_cell BK12102.out 0).trans rfl, (blk_cell BK12102.out 1).trans rfl, (blk_cell BK12102.out 2).trans rfl, (blk_cell BK12102.out 3).trans rfl, (blk_cell BK12102.out 4).trans rfl, (blk_cell BK12102.out 5).trans rfl, (blk_cell BK12103.out 0).trans rfl, (blk_cell BK12103.out 1).trans rfl, (blk_cell BK12103.out 2).trans rfl, (blk_cell BK12103.out 3).trans rfl, (blk_cell BK12103.out 4).trans rfl, (blk_cell BK12103.out 5).trans rfl⟩ (fun hHeld => ?_)
                        clear hK K
                        refine norm_ (a' := ?_) ?_ ?_
                        rotate_left
                        · show Act.put _ (some 13) _ = _
                          simp only [Act.put, List.setIfInBounds_toArray, List.set_cons_zero, List.set_cons_succ, i64_w, i32_w]
                          rfl
                        exact norm2_ (hJ9 (gb12131) _ ⟨hHeld, (pR_ HO12112.out), (pB_ BK12101.out), (pB_ BK12102.out), (pB_ BK12103.out), (pB_ BK12113.out), (pB_ BK12131.out), GW12131.out, GE12131.out, NB12101_12131.out, NB12131_12101.out, NB12102_12131.out, NB12131_12102.out, NB12103_12131.out, NB12131_12103.out, NB12113_12131.out, NB12131_12113.out, (pH_ HB.out)⟩)
                      skip
                      rintro gb12131 w36 ⟨hS_, h0_, h1_, h2_, h3_, h4_, h5_, h6_, h7_, h8_, h9_, h10_, h11_, h12_, h13_, h14_, h15_, h16_⟩
                      have n0_ : Aside0 (Kd.R (Kd.int .i64) 3 w36 w.heap.size (fun _ => True) (.slice Ao32 t12110.length co32) t12110) := ⟨h0_⟩
                      have n1_ : Aside0 (w36.heap[gb12101]? = some (.cells #[.int .i64 a0_0, .int .i64 a0_1, .int .i64 a0_2, .int .i64 a0_3, .int .i64 a0_4, .slice A0_5 l0_5.length c0_5] 24 (0, 0))) := ⟨h1_⟩
                      have n2_ : Aside0 (w36.heap[gb12102]? = some (.cells #[.int .i64 a1_0, .int .i64 a1_1, .int .i64 a1_2, .int .i64 a1_3, .int .i64 a1_4, .slice A1_5 l1_5.length c1_5] 29 (0, 0))) := ⟨h2_⟩
                      have n3_ : Aside0 (w36.heap[gb12103]? = some (.cells #[.int .i64 a2_0, .int .i64 a2_1, .int .i64 a2_2, .int .i64 a2_3, .int .i64 a2_4, .slice A2_5 l2_5.length c2_5] 29 (0, 0))) := ⟨h3_⟩
                      have n4_ : Aside0 (w36.heap[gb12113]? = some (.cells #[.int .i64 t12105, .int .i64 t12106, .int .i64 t12107, .int .i64 t12108, .int .i64 t12109, .slice Ao32 t12110.length co32] 24 (0, 0))) := ⟨h4_⟩
                      have n5_ : Aside0 (w36.heap[gb12131]? = some (.cells #[.int .i64 0, .int .i64 0, .int .i64 0, .int .i64 0, .int .i64 0, .slice none 0 0] 29 (0, 0))) := ⟨h5_⟩
                      have n6_ : Aside0 (w.heap.size ≤ gb12131) := ⟨h6_⟩
                      have n7_ : Aside0 (w.heap.size ≤ gb12131) := ⟨h7_⟩
                      have n8_ : Aside0 (gb12101 ≠ gb12131) := ⟨h8_⟩
                      have n9_ : Aside0 (gb12131 ≠ gb12101) := ⟨h9_⟩
                      have n10_ : Aside0 (gb12102 ≠ gb12131) := ⟨h10_⟩
                      have n11_ : Aside0 (gb12131 ≠ gb12102) := ⟨h11_⟩
                      have n12_ : Aside0 (gb12103 ≠ gb12131) := ⟨h12_⟩
                      have n13_ : Aside0 (gb12131 ≠ gb12103) := ⟨h13_⟩
                      have n14_ : Aside0 (gb12113 ≠ gb12131) := ⟨h14_⟩
                      have n15_ : Aside0 (gb12131 ≠ gb12113) := ⟨h15_⟩
                      have n16_ : Aside0 (Below w.heap.size w w36) := ⟨h16_⟩
                      clear HO12112
                      clear BK12101
                      clear BK12102
                      clear BK12103
                      clear BK12113
                      clear HB
                      clear h0_ h1_ h2_ h3_ h4_ h5_ h6_ h7_ h8_ h9_ h10_ h11_ h12_ h13_ h14_ h15_ h16_
                      have HO12112 := n0_
                      have BK12101 := n1_
                      have BK12102 := n2_
                      have BK12103 := n3_
                      have BK12113 := n4_
                      have BK12131 := n5_
                      have GW12131 := n6_
                      have GE12131 := n7_
                      have NB12101_12131 := n8_
                      have NB12131_12101 := n9_
                      have NB12102_12131 := n10_
                      have NB12131_12102 := n11_
                      have NB12103_12131 := n12_
                      have NB12131_12103 := n13_
                      have NB12113_12131 := n14_
                      have NB12131_12113 := n15_
                      have HB := n16_
                      clear n0_ n1_ n2_ n3_ n4_ n5_ n6_ n7_ n8_ n9_ n10_ n11_ n12_ n13_ n14_ n15_ n16_
                      have hHeld : w36.cell? ⟨gb12113, 0, none⟩ = some (.int .i64 t12105) ∧ w36.cell? ⟨gb12113, 1, none⟩ = some (.int .i64 t12106) ∧ w36.cell? ⟨gb12113, 2, none⟩ = some (.int .i64 t12107) ∧ w36.cell? ⟨gb12113, 3, none⟩ = some (.int .i64 t12108) ∧ w36.cell? ⟨gb12113, 4, none⟩ = some (.int .i64 t12109) ∧ w36.cell? ⟨gb12113, 5, none⟩ = some (.slice Ao32 t12110.length co32) ∧ w36.cell? ⟨gb12102, 0, none⟩ = some (.int .i64 a1_0) ∧ w36.cell? ⟨gb12102, 1, none⟩ = some (.int .i64 a1_1) ∧ w36.cell? ⟨gb12102, 2, none⟩ = some (.int .i64 a1_2) ∧ w36.cell? ⟨gb12102, 3, none⟩ = some (.int .i64 a1_3) ∧ w36.cell? ⟨gb12102, 4, none⟩ = some (.int .i64 a1_4) ∧ w36.cell? ⟨gb12102, 5, none⟩ = some (.slice A1_5 l1_5.length c1_5) ∧ w36.cell? ⟨gb12103, 0, none⟩ = some (.int .i64 a2_0) ∧ w36.cell? ⟨gb12103, 1, none⟩ = some (.int .i64 a2_1) ∧ w36.cell? ⟨gb12103, 2, none⟩ = some (.int .i64 a2_2) ∧ w36.cell? ⟨gb12103, 3, none⟩ = some (.int .i64 a2_3) ∧ w36.cell? ⟨gb12103, 4, none⟩ = some (.int .i64 a2_4) ∧ w36.cell? ⟨gb12103, 5, none⟩ = some (.slice A2_5 l2_5.length c2_5) := hS_
                      refine norm_ (a' := ?_) ?_ ?_
                      rotate_left
                      · simp only [putAll, Act.put, List.setIfInBounds_toArray, List.set_cons_zero, List.set_cons_succ]
                        rfl
                      refine two_ (i := 3) (j := 8) (Ni := some 22) (Nj := some 12) #[true, true, true, true, true, true, true, false, false, true, false, false] #[true, true, true, false, true, true, true, false, true, true, false, false] rfl rfl rfl rfl (two_of HT_.out (by kernel_rfl)) (by decide) (by decide) (fun K hK => ?_) (fun K hK => ?_)
                      · skip
                        refine goes_ Try.func21 (by kernel_rfl) rfl #[.agg #[.int .i64 t12105, .int .i64 t12106, .int .i64 t12107, .int .i64 t12108, .int .i64 t12109, .slice Ao32 t12110.length co32], .agg #[.int .i64 a1_0, .int .i64 a1_1, .int .i64 a1_2, .int .i64 a1_3, .int .i64 a1_4, .slice A1_5 l1_5.length c1_5], .slice A3 l3.length c3] (by rfl) rfl rfl (by (try simp only [List.map_toArray, List.map_cons, List.map_nil]); first | done | rfl | (simp only [List.length_drop, List.length_take]; rfl)) ?_
                        with_reducible refine (plaitinglaw5_Make.calls k t12105 t12106 t12107 t12108 t12109 _ _ t12110 a1_0 a1_1 a1_2 a1_3 a1_4 _ _ l1_5 _ _ l3 t12114 t12115 t12116 t12117 t12118 t12119 _ ?side1 ?side2 ?side3 ?side4 ?side5 ?side6 A9.out).mono ?_
                        (case side1 => repeat (first | exact (Kd.R_reads' HO12112.out).2.2 | (with_reducible refine Kd.C_alloc ?_ _) | (with_reducible refine Kd.C_drewN ?_ _) | (with_reducible refine Kd.C_drew ?_)))
                        (case side2 => exact (Kd.R_reads' HO12112.out).2.1)
                        (case side3 => repeat (first | exact (Kd.C_below HR1_5.out HB.out) | (with_reducible refine Kd.C_alloc ?_ _) | (with_reducible refine Kd.C_drewN ?_ _) | (with_reducible refine Kd.C_drew ?_)))
                        (case side4 => exact HC1_5.out)
                        (case side5 => repeat (first | exact (Kd.C_below HR3.out HB.out) | (with_reducible refine Kd.C_alloc ?_ _) | (with_reducible refine Kd.C_drewN ?_ _) | (with_reducible refine Kd.C_drew ?_)))
                        (case side6 => exact HC3.out)
                        rintro e w37 ⟨v12120, rfl, ho0, hb⟩
                        refine ⟨_, rfl, ?_⟩
                        have HO12121 := Aside0.mk (Kd.R_lower ho0 (below_size (pH_ HB.out)))
                        replace HO12112 := Aside0.mk (Kd.R_below (pR_ HO12112.out) hb)
                        replace BK12101 := Aside0.mk (blk_below (pB_ BK12101.out) hb)
                        replace BK12102 := Aside0.mk (blk_below (pB_ BK12102.out) hb)
                        replace BK12103 := Aside0.mk (blk_below (pB_ BK12103.out) hb)
                        replace BK12113 := Aside0.mk (blk_below (pB_ BK12113.out) hb)
                        replace BK12131 := Aside0.mk (blk_below (pB_ BK12131.out) hb)
                        replace HB := Aside0.mk (below_step (pH_ HB.out) hb)
                        (try clear hb)
                        (try clear hb2)
                        (try clear hk)
                        (try clear hi)
                        (try clear ho0)
                        refine hK.out _ _ ⟨(blk_cell BK12113.out 0).trans rfl, (blk_cell BK12113.out 1).trans rfl, (blk_cell BK12113.out 2).trans rfl, (blk_cell BK12113.out 3).trans rfl, (blk_cell BK12113.out 4).trans rfl, (blk_cell BK12113.out 5).trans rfl, (blk_cell BK12102.out 0).trans rfl, (blk_cell BK12102.out 1).trans rfl, (blk_cell BK12102.out 2).trans rfl, (blk_cell BK12102.out 3).trans rfl, (blk_cell BK12102.out 4).trans rfl, (blk_cell BK12102.out 5).trans rfl, (blk_cell BK12103.out 0).trans rfl, (blk_cell BK12103.out 1).trans rfl, (blk_cell BK12103.out 2).trans rfl, (blk_cell BK12103.out 3).trans rfl, (blk_cell BK12103.out 4).trans rfl, (blk_cell BK12103.out 5).trans rfl⟩ (fun hHeld => ?_)
                        clear hK K
                        refine norm_ (a' := ?_) ?_ ?_
                        rotate_left
                        · show Act.put _ (some 22) _ = _
                          simp only [Act.put, List.setIfInBounds_toArray, List.set_cons_zero, List.set_cons_succ, i64_w, i32_w]
                          rfl
                        exact norm2_ (hJ3_9 (v12120, gb12131) _ ⟨hHeld, (pR_ HO12112.out), (pR_ HO12121.out), (pB_ BK12101.out), (pB_ BK12102.out), (pB_ BK12103.out), (pB_ BK12113.out), (pB_ BK12131.out), GW12131.out, GE12131.out, NB12101_12131.out, NB12131_12101.out, NB12102_12131.out, NB12131_12102.out, NB12103_12131.out, NB12131_12103.out, NB12113_12131.out, NB12131_12113.out, (pH_ HB.out)⟩)
                      skip
                      refine box_step ?hg (N := 12) ?hd (cs := #[.int .i64 0, .int .i64 0, .int .i64 0, .int .i64 0, .int .i64 0, .slice none 0 0]) (t := 29) ?hr ?_; (case hd => rfl); (case hg => rfl); (case hr => first | (go_simp; done) | (go_simp; rfl))
                      intro gb12130 hg w37 hbox hb
                      have BK12130 := Aside0.mk (hbox)
                      have GW12130 := Aside0.mk ((by rw [hg]; exact (below_size (pH_ HB.out)) : w.heap.size ≤ gb12130))
                      have GE12130 := Aside0.mk ((by rw [hg]; exact (below_size (pH_ HB.out)) : w.heap.size ≤ gb12130))
                      have NB12101_12130 := Aside0.mk (ltB_ hg BK12101.out)
                      have NB12130_12101 := Aside0.mk (ltB_ hg BK12101.out).symm
                      have NB12102_12130 := Aside0.mk (ltB_ hg BK12102.out)
                      have NB12130_12102 := Aside0.mk (ltB_ hg BK12102.out).symm
                      have NB12103_12130 := Aside0.mk (ltB_ hg BK12103.out)
                      have NB12130_12103 := Aside0.mk (ltB_ hg BK12103.out).symm
                      have NB12113_12130 := Aside0.mk (ltB_ hg BK12113.out)
                      have NB12130_12113 := Aside0.mk (ltB_ hg BK12113.out).symm
                      have NB12131_12130 := Aside0.mk (ltB_ hg BK12131.out)
                      have NB12130_12131 := Aside0.mk (ltB_ hg BK12131.out).symm
                      replace HO12112 := Aside0.mk (Kd.R_below (pR_ HO12112.out) hb)
                      replace BK12101 := Aside0.mk (blk_below (pB_ BK12101.out) hb)
                      replace BK12102 := Aside0.mk (blk_below (pB_ BK12102.out) hb)
                      replace BK12103 := Aside0.mk (blk_below (pB_ BK12103.out) hb)
                      replace BK12113 := Aside0.mk (blk_below (pB_ BK12113.out) hb)
                      replace BK12131 := Aside0.mk (blk_below (pB_ BK12131.out) hb)
                      replace HB := Aside0.mk (below_step (pH_ HB.out) hb)
                      clear hb hbox hg
                      refine hK.out _ _ ⟨(blk_cell BK12113.out 0).trans rfl, (blk_cell BK12113.out 1).trans rfl, (blk_cell BK12113.out 2).trans rfl, (blk_cell BK12113.out 3).trans rfl, (blk_cell BK12113.out 4).trans rfl, (blk_cell BK12113.out 5).trans rfl, (blk_cell BK12102.out 0).trans rfl, (blk_cell BK12102.out 1).trans rfl, (blk_cell BK12102.out 2).trans rfl, (blk_cell BK12102.out 3).trans rfl, (blk_cell BK12102.out 4).trans rfl, (blk_cell BK12102.out 5).trans rfl, (blk_cell BK12103.out 0).trans rfl, (blk_cell BK12103.out 1).trans rfl, (blk_cell BK12103.out 2).trans rfl, (blk_cell BK12103.out 3).trans rfl, (blk_cell BK12103.out 4).trans rfl, (blk_cell BK12103.out 5).trans rfl⟩ (fun hHeld => ?_)
                      clear hK K
                      refine norm_ (a' := ?_) ?_ ?_
                      rotate_left
                      · show Act.put _ (some 12) _ = _
                        simp only [Act.put, List.setIfInBounds_toArray, List.set_cons_zero, List.set_cons_succ, i64_w, i32_w]
                        rfl
                      exact norm2_ (hJ8_9 (gb12130, gb12131) _ ⟨hHeld, (pR_ HO12112.out), (pB_ BK12101.out), (pB_ BK12102.out), (pB_ BK12103.out), (pB_ BK12113.out), (pB_ BK12130.out), (pB_ BK12131.out), GW12130.out, GE12130.out, NB12101_12130.out, NB12130_12101.out, NB12102_12130.out, NB12130_12102.out, NB12103_12130.out, NB12130_12103.out, NB12113_12130.out, NB12130_12113.out, NB12131_12130.out, NB12130_12131.out, GW12131.out, GE12131.out, NB12101_12131.out, NB12131_12101.out, NB12102_12131.out, NB12131_12102.out, NB12103_12131.out, NB12131_12103.out, NB12113_12131.out, NB12131_12113.out, (pH_ HB.out)⟩)
                    skip
                    rintro gb12130 w36 ⟨hS_, h0_, h1_, h2_, h3_, h4_, h5_, h6_, h7_, h8_, h9_, h10_, h11_, h12_, h13_, h14_, h15_, h16_⟩
                    have n0_ : Aside0 (Kd.R (Kd.int .i64) 3 w36 w.heap.size (fun _ => True) (.slice Ao32 t12110.length co32) t12110) := ⟨h0_⟩
                    have n1_ : Aside0 (w36.heap[gb12101]? = some (.cells #[.int .i64 a0_0, .int .i64 a0_1, .int .i64 a0_2, .int .i64 a0_3, .int .i64 a0_4, .slice A0_5 l0_5.length c0_5] 24 (0, 0))) := ⟨h1_⟩
                    have n2_ : Aside0 (w36.heap[gb12102]? = some (.cells #[.int .i64 a1_0, .int .i64 a1_1, .int .i64 a1_2, .int .i64 a1_3, .int .i64 a1_4, .slice A1_5 l1_5.length c1_5] 29 (0, 0))) := ⟨h2_⟩
                    have n3_ : Aside0 (w36.heap[gb12103]? = some (.cells #[.int .i64 a2_0, .int .i64 a2_1, .int .i64 a2_2, .int .i64 a2_3, .int .i64 a2_4, .slice A2_5 l2_5.length c2_5] 29 (0, 0))) := ⟨h3_⟩
                    have n4_ : Aside0 (w36.heap[gb12113]? = some (.cells #[.int .i64 t12105, .int .i64 t12106, .int .i64 t12107, .int .i64 t12108, .int .i64 t12109, .slice Ao32 t12110.length co32] 24 (0, 0))) := ⟨h4_⟩
                    have n5_ : Aside0 (w36.heap[gb12130]? = some (.cells #[.int .i64 0, .int .i64 0, .int .i64 0, .int .i64 0, .int .i64 0, .slice none 0 0] 29 (0, 0))) := ⟨h5_⟩
                    have n6_ : Aside0 (w.heap.size ≤ gb12130) := ⟨h6_⟩
                    have n7_ : Aside0 (w.heap.size ≤ gb12130) := ⟨h7_⟩
                    have n8_ : Aside0 (gb12101 ≠ gb12130) := ⟨h8_⟩
                    have n9_ : Aside0 (gb12130 ≠ gb12101) := ⟨h9_⟩
                    have n10_ : Aside0 (gb12102 ≠ gb12130) := ⟨h10_⟩
                    have n11_ : Aside0 (gb12130 ≠ gb12102) := ⟨h11_⟩
                    have n12_ : Aside0 (gb12103 ≠ gb12130) := ⟨h12_⟩
                    have n13_ : Aside0 (gb12130 ≠ gb12103) := ⟨h13_⟩
                    have n14_ : Aside0 (gb12113 ≠ gb12130) := ⟨h14_⟩
                    have n15_ : Aside0 (gb12130 ≠ gb12113) := ⟨h15_⟩
                    have n16_ : Aside0 (Below w.heap.size w w36) := ⟨h16_⟩
                    clear HO12112
                    clear BK12101
                    clear BK12102
                    clear BK12103
                    clear BK12113
                    clear HB
                    clear h0_ h1_ h2_ h3_ h4_ h5_ h6_ h7_ h8_ h9_ h10_ h11_ h12_ h13_ h14_ h15_ h16_
                    have HO12112 := n0_
                    have BK12101 := n1_
                    have BK12102 := n2_
                    have BK12103 := n3_
                    have BK12113 := n4_
                    have BK12130 := n5_
                    have GW12130 := n6_
                    have GE12130 := n7_
                    have NB12101_12130 := n8_
                    have NB12130_12101 := n9_
                    have NB12102_12130 := n10_
                    have NB12130_12102 := n11_
                    have NB12103_12130 := n12_
                    have NB12130_12103 := n13_
                    have NB12113_12130 := n14_
                    have NB12130_12113 := n15_
                    have HB := n16_
                    clear n0_ n1_ n2_ n3_ n4_ n5_ n6_ n7_ n8_ n9_ n10_ n11_ n12_ n13_ n14_ n15_ n16_
                    have hHeld : w36.cell? ⟨gb12113, 0, none⟩ = some (.int .i64 t12105) ∧ w36.cell? ⟨gb12113, 1, none⟩ = some (.int .i64 t12106) ∧ w36.cell? ⟨gb12113, 2, none⟩ = some (.int .i64 t12107) ∧ w36.cell? ⟨gb12113, 3, none⟩ = some (.int .i64 t12108) ∧ w36.cell? ⟨gb12113, 4, none⟩ = some (.int .i64 t12109) ∧ w36.cell? ⟨gb12113, 5, none⟩ = some (.slice Ao32 t12110.length co32) ∧ w36.cell? ⟨gb12102, 0, none⟩ = some (.int .i64 a1_0) ∧ w36.cell? ⟨gb12102, 1, none⟩ = some (.int .i64 a1_1) ∧ w36.cell? ⟨gb12102, 2, none⟩ = some (.int .i64 a1_2) ∧ w36.cell? ⟨gb12102, 3, none⟩ = some (.int .i64 a1_3) ∧ w36.cell? ⟨gb12102, 4, none⟩ = some (.int .i64 a1_4) ∧ w36.cell? ⟨gb12102, 5, none⟩ = some (.slice A1_5 l1_5.length c1_5) ∧ w36.cell? ⟨gb12103, 0, none⟩ = some (.int .i64 a2_0) ∧ w36.cell? ⟨gb12103, 1, none⟩ = some (.int .i64 a2_1) ∧ w36.cell? ⟨gb12103, 2, none⟩ = some (.int .i64 a2_2) ∧ w36.cell? ⟨gb12103, 3, none⟩ = some (.int .i64 a2_3) ∧ w36.cell? ⟨gb12103, 4, none⟩ = some (.int .i64 a2_4) ∧ w36.cell? ⟨gb12103, 5, none⟩ = some (.slice A2_5 l2_5.length c2_5) := hS_
                    refine norm_ (a' := ?_) ?_ ?_
                    rotate_left
                    · simp only [putAll, Act.put, List.setIfInBounds_toArray, List.set_cons_zero, List.set_cons_succ]
                      rfl
                    refine two_ (i := 3) (j := 9) (Ni := some 22) (Nj := some 13) #[true, true, true, true, true, true, true, false, true, false, false, false] #[true, true, true, false, true, true, true, false, true, true, false, false] rfl rfl rfl rfl (two_of HT_.out (by kernel_rfl)) (by decide) (by decide) (fun K hK => ?_) (fun K hK => ?_)
                    · skip
                      refine goes_ Try.func21 (by kernel_rfl) rfl #[.agg #[.int .i64 t12105, .int .i64 t12106, .int .i64 t12107, .int .i64 t12108, .int .i64 t12109, .slice Ao32 t12110.length co32], .agg #[.int .i64 a1_0, .int .i64 a1_1, .int .i64 a1_2, .int .i64 a1_3, .int .i64 a1_4, .slice A1_5 l1_5.length c1_5], .slice A3 l3.length c3] (by rfl) rfl rfl (by (try simp only [List.map_toArray, List.map_cons, List.map_nil]); first | done | rfl | (simp only [List.length_drop, List.length_take]; rfl)) ?_
                      with_reducible refine (plaitinglaw5_Make.calls k t12105 t12106 t12107 t12108 t12109 _ _ t12110 a1_0 a1_1 a1_2 a1_3 a1_4 _ _ l1_5 _ _ l3 t12114 t12115 t12116 t12117 t12118 t12119 _ ?side1 ?side2 ?side3 ?side4 ?side5 ?side6 A9.out).mono ?_
                      (case side1 => repeat (first | exact (Kd.R_reads' HO12112.out).2.2 | (with_reducible refine Kd.C_alloc ?_ _) | (with_reducible refine Kd.C_drewN ?_ _) | (with_reducible refine Kd.C_drew ?_)))
                      (case side2 => exact (Kd.R_reads' HO12112.out).2.1)
                      (case side3 => repeat (first | exact (Kd.C_below HR1_5.out HB.out) | (with_reducible refine Kd.C_alloc ?_ _) | (with_reducible refine Kd.C_drewN ?_ _) | (with_reducible refine Kd.C_drew ?_)))
                      (case side4 => exact HC1_5.out)
                      (case side5 => repeat (first | exact (Kd.C_below HR3.out HB.out) | (with_reducible refine Kd.C_alloc ?_ _) | (with_reducible refine Kd.C_drewN ?_ _) | (with_reducible refine Kd.C_drew ?_)))
                      (case side6 => exact HC3.out)
                      rintro e w37 ⟨v12120, rfl, ho0, hb⟩
                      refine ⟨_, rfl, ?_⟩
                      have HO12121 := Aside0.mk (Kd.R_lower ho0 (below_size (pH_ HB.out)))
                      replace HO12112 := Aside0.mk (Kd.R_below (pR_ HO12112.out) hb)
                      replace BK12101 := Aside0.mk (blk_below (pB_ BK12101.out) hb)
                      replace BK12102 := Aside0.mk (blk_below (pB_ BK12102.out) hb)
                      replace BK12103 := Aside0.mk (blk_below (pB_ BK12103.out) hb)
                      replace BK12113 := Aside0.mk (blk_below (pB_ BK12113.out) hb)
                      replace BK12130 := Aside0.mk (blk_below (pB_ BK12130.out) hb)
                      replace HB := Aside0.mk (below_step (pH_ HB.out) hb)
                      (try clear hb)
                      (try clear hb2)
                      (try clear hk)
                      (try clear hi)
                      (try clear ho0)
                      refine hK.out _ _ ⟨(blk_cell BK12113.out 0).trans rfl, (blk_cell BK12113.out 1).trans rfl, (blk_cell BK12113.out 2).trans rfl, (blk_cell BK12113.out 3).trans rfl, (blk_cell BK12113.out 4).trans rfl, (blk_cell BK12113.out 5).trans rfl, (blk_cell BK12102.out 0).trans rfl, (blk_cell BK12102.out 1).trans rfl, (blk_cell BK12102.out 2).trans rfl, (blk_cell BK12102.out 3).trans rfl, (blk_cell BK12102.out 4).trans rfl, (blk_cell BK12102.out 5).trans rfl, (blk_cell BK12103.out 0).trans rfl, (blk_cell BK12103.out 1).trans rfl, (blk_cell BK12103.out 2).trans rfl, (blk_cell BK12103.out 3).trans rfl, (blk_cell BK12103.out 4).trans rfl, (blk_cell BK12103.out 5).trans rfl⟩ (fun hHeld => ?_)
                      clear hK K
                      refine norm_ (a' := ?_) ?_ ?_
                      rotate_left
                      · show Act.put _ (some 22) _ = _
                        simp only [Act.put, List.setIfInBounds_toArray, List.set_cons_zero, List.set_cons_succ, i64_w, i32_w]
                        rfl
                      exact norm2_ (hJ3_8 (v12120, gb12130) _ ⟨hHeld, (pR_ HO12112.out), (pR_ HO12121.out), (pB_ BK12101.out), (pB_ BK12102.out), (pB_ BK12103.out), (pB_ BK12113.out), (pB_ BK12130.out), GW12130.out, GE12130.out, NB12101_12130.out, NB12130_12101.out, NB12102_12130.out, NB12130_12102.out, NB12103_12130.out, NB12130_12103.out, NB12113_12130.out, NB12130_12113.out, (pH_ HB.out)⟩)
                    skip
                    refine box_step ?hg (N := 13) ?hd (cs := #[.int .i64 0, .int .i64 0, .int .i64 0, .int .i64 0, .int .i64 0, .slice none 0 0]) (t := 29) ?hr ?_; (case hd => rfl); (case hg => rfl); (case hr => first | (go_simp; done) | (go_simp; rfl))
                    intro gb12131 hg w37 hbox hb
                    have BK12131 := Aside0.mk (hbox)
                    have GW12131 := Aside0.mk ((by rw [hg]; exact (below_size (pH_ HB.out)) : w.heap.size ≤ gb12131))
                    have GE12131 := Aside0.mk ((by rw [hg]; exact (below_size (pH_ HB.out)) : w.heap.size ≤ gb12131))
                    have NB12101_12131 := Aside0.mk (ltB_ hg BK12101.out)
                    have NB12131_12101 := Aside0.mk (ltB_ hg BK12101.out).symm
                    have NB12102_12131 := Aside0.mk (ltB_ hg BK12102.out)
                    have NB12131_12102 := Aside0.mk (ltB_ hg BK12102.out).symm
                    have NB12103_12131 := Aside0.mk (ltB_ hg BK12103.out)
                    have NB12131_12103 := Aside0.mk (ltB_ hg BK12103.out).symm
                    have NB12113_12131 := Aside0.mk (ltB_ hg BK12113.out)
                    have NB12131_12113 := Aside0.mk (ltB_ hg BK12113.out).symm
                    have NB12130_12131 := Aside0.mk (ltB_ hg BK12130.out)
                    have NB12131_12130 := Aside0.mk (ltB_ hg BK12130.out).symm
                    replace HO12112 := Aside0.mk (Kd.R_below (pR_ HO12112.out) hb)
                    replace BK12101 := Aside0.mk (blk_below (pB_ BK12101.out) hb)
                    replace BK12102 := Aside0.mk (blk_below (pB_ BK12102.out) hb)
                    replace BK12103 := Aside0.mk (blk_below (pB_ BK12103.out) hb)
                    replace BK12113 := Aside0.mk (blk_below (pB_ BK12113.out) hb)
                    replace BK12130 := Aside0.mk (blk_below (pB_ BK12130.out) hb)
                    replace HB := Aside0.mk (below_step (pH_ HB.out) hb)
                    clear hb hbox hg
                    refine hK.out _ _ ⟨(blk_cell BK12113.out 0).trans rfl, (blk_cell BK12113.out 1).trans rfl, (blk_cell BK12113.out 2).trans rfl, (blk_cell BK12113.out 3).trans rfl, (blk_cell BK12113.out 4).trans rfl, (blk_cell BK12113.out 5).trans rfl, (blk_cell BK12102.out 0).trans rfl, (blk_cell BK12102.out 1).trans rfl, (blk_cell BK12102.out 2).trans rfl, (blk_cell BK12102.out 3).trans rfl, (blk_cell BK12102.out 4).trans rfl, (blk_cell BK12102.out 5).trans rfl, (blk_cell BK12103.out 0).trans rfl, (blk_cell BK12103.out 1).trans rfl, (blk_cell BK12103.out 2).trans rfl, (blk_cell BK12103.out 3).trans rfl, (blk_cell BK12103.out 4).trans rfl, (blk_cell BK12103.out 5).trans rfl⟩ (fun hHeld => ?_)
                    clear hK K
                    refine norm_ (a' := ?_) ?_ ?_
                    rotate_left
                    · show Act.put _ (some 13) _ = _
                      simp only [Act.put, List.setIfInBounds_toArray, List.set_cons_zero, List.set_cons_succ, i64_w, i32_w]
                      rfl
                    exact norm2_ (hJ8_9 (gb12130, gb12131) _ ⟨hHeld, (pR_ HO12112.out), (pB_ BK12101.out), (pB_ BK12102.out), (pB_ BK12103.out), (pB_ BK12113.out), (pB_ BK12130.out), (pB_ BK12131.out), GW12130.out, GE12130.out, NB12101_12130.out, NB12130_12101.out, NB12102_12130.out, NB12130_12102.out, NB12103_12130.out, NB12130_12103.out, NB12113_12130.out, NB12130_12113.out, NB12131_12130.out, NB12130_12131.out, GW12131.out, GE12131.out, NB12101_12131.out, NB12131_12101.out, NB12102_12131.out, NB12131_12102.out, NB12103_12131.out, NB12131_12103.out, NB12113_12131.out, NB12131_12113.out, (pH_ HB.out)⟩)
                  skip
                  rintro v12120 w36 ⟨hS_, h0_, h1_, h2_, h3_, h4_, h5_, h6_⟩
                  have n0_ : Aside0 (Kd.R (Kd.int .i64) 3 w36 w.heap.size (fun _ => True) (.slice Ao32 t12110.length co32) t12110) := ⟨h0_⟩
                  have n1_ : Aside0 (Kd.R k26 26 w36 w.heap.size (fun _ => True) v12120 t12119) := ⟨h1_⟩
                  have n2_ : Aside0 (w36.heap[gb12101]? = some (.cells #[.int .i64 a0_0, .int .i64 a0_1, .int .i64 a0_2, .int .i64 a0_3, .int .i64 a0_4, .slice A0_5 l0_5.length c0_5] 24 (0, 0))) := ⟨h2_⟩
                  have n3_ : Aside0 (w36.heap[gb12102]? = some (.cells #[.int .i64 a1_0, .int .i64 a1_1, .int .i64 a1_2, .int .i64 a1_3, .int .i64 a1_4, .slice A1_5 l1_5.length c1_5] 29 (0, 0))) := ⟨h3_⟩
                  have n4_ : Aside0 (w36.heap[gb12103]? = some (.cells #[.int .i64 a2_0, .int .i64 a2_1, .int .i64 a2_2, .int .i64 a2_3, .int .i64 a2_4, .slice A2_5 l2_5.length c2_5] 29 (0, 0))) := ⟨h4_⟩
                  have n5_ : Aside0 (w36.heap[gb12113]? = some (.cells #[.int .i64 t12105, .int .i64 t12106, .int .i64 t12107, .int .i64 t12108, .int .i64 t12109, .slice Ao32 t12110.length co32] 24 (0, 0))) := ⟨h5_⟩
                  have n6_ : Aside0 (Below w.heap.size w w36) := ⟨h6_⟩
                  clear HO12112
                  clear BK12101
                  clear BK12102
                  clear BK12103
                  clear BK12113
                  clear HB
                  clear h0_ h1_ h2_ h3_ h4_ h5_ h6_
                  have HO12112 := n0_
                  have HO12121 := n1_
                  have BK12101 := n2_
                  have BK12102 := n3_
                  have BK12103 := n4_
                  have BK12113 := n5_
                  have HB := n6_
                  clear n0_ n1_ n2_ n3_ n4_ n5_ n6_
                  have hHeld : w36.cell? ⟨gb12113, 0, none⟩ = some (.int .i64 t12105) ∧ w36.cell? ⟨gb12113, 1, none⟩ = some (.int .i64 t12106) ∧ w36.cell? ⟨gb12113, 2, none⟩ = some (.int .i64 t12107) ∧ w36.cell? ⟨gb12113, 3, none⟩ = some (.int .i64 t12108) ∧ w36.cell? ⟨gb12113, 4, none⟩ = some (.int .i64 t12109) ∧ w36.cell? ⟨gb12113, 5, none⟩ = some (.slice Ao32 t12110.length co32) ∧ w36.cell? ⟨gb12102, 0, none⟩ = some (.int .i64 a1_0) ∧ w36.cell? ⟨gb12102, 1, none⟩ = some (.int .i64 a1_1) ∧ w36.cell? ⟨gb12102, 2, none⟩ = some (.int .i64 a1_2) ∧ w36.cell? ⟨gb12102, 3, none⟩ = some (.int .i64 a1_3) ∧ w36.cell? ⟨gb12102, 4, none⟩ = some (.int .i64 a1_4) ∧ w36.cell? ⟨gb12102, 5, none⟩ = some (.slice A1_5 l1_5.length c1_5) ∧ w36.cell? ⟨gb12103, 0, none⟩ = some (.int .i64 a2_0) ∧ w36.cell? ⟨gb12103, 1, none⟩ = some (.int .i64 a2_1) ∧ w36.cell? ⟨gb12103, 2, none⟩ = some (.int .i64 a2_2) ∧ w36.cell? ⟨gb12103, 3, none⟩ = some (.int .i64 a2_3) ∧ w36.cell? ⟨gb12103, 4, none⟩ = some (.int .i64 a2_4) ∧ w36.cell? ⟨gb12103, 5, none⟩ = some (.slice A2_5 l2_5.length c2_5) := hS_
                  refine norm_ (a' := ?_) ?_ ?_
                  rotate_left
                  · simp only [putAll, Act.put, List.setIfInBounds_toArray, List.set_cons_zero, List.set_cons_succ]
                    rfl
                  refine three_ (i := 7) (j := 8) (k := 9) (Ni := some 26) (Nj := some 12) (Nk := some 13) #[true, true, true, true, true, true, true, true, false, false, false, false] #[true, true, true, true, true, true, true, false, true, false, false, false] #[true, true, true, true, true, true, true, false, false, true, false, false] rfl rfl rfl rfl rfl rfl (three_of HT_.out (by kernel_rfl)) (by decide) (by decide) (by decide) (fun K hK => ?_) (fun K hK => ?_) (fun K hK => ?_)
                  · skip
                    refine goes_ Try.func21 (by kernel_rfl) rfl #[.agg #[.int .i64 t12105, .int .i64 t12106, .int .i64 t12107, .int .i64 t12108, .int .i64 t12109, .slice Ao32 t12110.length co32], .agg #[.int .i64 a2_0, .int .i64 a2_1, .int .i64 a2_2, .int .i64 a2_3, .int .i64 a2_4, .slice A2_5 l2_5.length c2_5], .slice A4 l4.length c4] (by rfl) rfl rfl (by (try simp only [List.map_toArray, List.map_cons, List.map_nil]); first | done | rfl | (simp only [List.length_drop, List.length_take]; rfl)) ?_
                    with_reducible refine (plaitinglaw5_Make.calls k t12105 t12106 t12107 t12108 t12109 _ _ t12110 a2_0 a2_1 a2_2 a2_3 a2_4 _ _ l2_5 _ _ l4 t12122 t12123 t12124 t12125 t12126 t12127 _ ?side1 ?side2 ?side3 ?side4 ?side5 ?side6 A10.out).mono ?_
                    (case side1 => repeat (first | exact (Kd.R_reads' HO12112.out).2.2 | (with_reducible refine Kd.C_alloc ?_ _) | (with_reducible refine Kd.C_drewN ?_ _) | (with_reducible refine Kd.C_drew ?_)))
                    (case side2 => exact (Kd.R_reads' HO12112.out).2.1)
                    (case side3 => repeat (first | exact (Kd.C_below HR2_5.out HB.out) | (with_reducible refine Kd.C_alloc ?_ _) | (with_reducible refine Kd.C_drewN ?_ _) | (with_reducible refine Kd.C_drew ?_)))
                    (case side4 => exact HC2_5.out)
                    (case side5 => repeat (first | exact (Kd.C_below HR4.out HB.out) | (with_reducible refine Kd.C_alloc ?_ _) | (with_reducible refine Kd.C_drewN ?_ _) | (with_reducible refine Kd.C_drew ?_)))
                    (case side6 => exact HC4.out)
                    rintro e w37 ⟨v12128, rfl, ho0, hb⟩
                    refine ⟨_, rfl, ?_⟩
                    have HO12129 := Aside0.mk (Kd.R_lower (Kd.R_new' ho0 (Kd.R_lt (pR_ HO12121.out))) (below_size (pH_ HB.out)))
                    replace HO12112 := Aside0.mk (Kd.R_below (pR_ HO12112.out) hb)
                    replace HO12121 := Aside0.mk (Kd.R_elder' (pR_ HO12121.out) (Kd.R_base ho0) hb)
                    replace BK12101 := Aside0.mk (blk_below (pB_ BK12101.out) hb)
                    replace BK12102 := Aside0.mk (blk_below (pB_ BK12102.out) hb)
                    replace BK12103 := Aside0.mk (blk_below (pB_ BK12103.out) hb)
                    replace BK12113 := Aside0.mk (blk_below (pB_ BK12113.out) hb)
                    replace HB := Aside0.mk (below_step (pH_ HB.out) hb)
                    (try clear hb)
                    (try clear hb2)
                    (try clear hk)
                    (try clear hi)
                    (try clear ho0)
                    refine hK.out _ _ ⟨(blk_cell BK12113.out 0).trans rfl, (blk_cell BK12113.out 1).trans rfl, (blk_cell BK12113.out 2).trans rfl, (blk_cell BK12113.out 3).trans rfl, (blk_cell BK12113.out 4).trans rfl, (blk_cell BK12113.out 5).trans rfl, (blk_cell BK12102.out 0).trans rfl, (blk_cell BK12102.out 1).trans rfl, (blk_cell BK12102.out 2).trans rfl, (blk_cell BK12102.out 3).trans rfl, (blk_cell BK12102.out 4).trans rfl, (blk_cell BK12102.out 5).trans rfl, (blk_cell BK12103.out 0).trans rfl, (blk_cell BK12103.out 1).trans rfl, (blk_cell BK12103.out 2).trans rfl, (blk_cell BK12103.out 3).trans rfl, (blk_cell BK12103.out 4).trans rfl, (blk_cell BK12103.out 5).trans rfl⟩ (fun hHeld => ?_)
                    clear hK K
                    refine norm_ (a' := ?_) ?_ ?_
                    rotate_left
                    · show Act.put _ (some 26) _ = _
                      simp only [Act.put, List.setIfInBounds_toArray, List.set_cons_zero, List.set_cons_succ, i64_w, i32_w]
                      rfl
                    exact norm2_ (hJ3_7 (v12120, v12128) _ ⟨hHeld, (pR_ HO12112.out), (by (with_reducible repeat (first | apply Kd.R_alloc | apply Kd.R_drewN | apply Kd.R_drew)); exact Kd.R_mono HO12121.out (fun _ hk => hk.2)), (by (with_reducible repeat (first | apply Kd.R_alloc | apply Kd.R_drewN | apply Kd.R_drew)); exact Kd.R_mono HO12129.out (fun _ hk => hk.2)), (pB_ BK12101.out), (pB_ BK12102.out), (pB_ BK12103.out), (pB_ BK12113.out), (pH_ HB.out)⟩)
                  · skip
                    refine box_step ?hg (N := 12) ?hd (cs := #[.int .i64 0, .int .i64 0, .int .i64 0, .int .i64 0, .int .i64 0, .slice none 0 0]) (t := 29) ?hr ?_; (case hd => rfl); (case hg => rfl); (case hr => first | (go_simp; done) | (go_simp; rfl))
                    intro gb12130 hg w37 hbox hb
                    have BK12130 := Aside0.mk (hbox)
                    have GW12130 := Aside0.mk ((by rw [hg]; exact (below_size (pH_ HB.out)) : w.heap.size ≤ gb12130))
                    have GE12130 := Aside0.mk ((by rw [hg]; exact (below_size (pH_ HB.out)) : w.heap.size ≤ gb12130))
                    have NB12101_12130 := Aside0.mk (ltB_ hg BK12101.out)
                    have NB12130_12101 := Aside0.mk (ltB_ hg BK12101.out).symm
                    have NB12102_12130 := Aside0.mk (ltB_ hg BK12102.out)
                    have NB12130_12102 := Aside0.mk (ltB_ hg BK12102.out).symm
                    have NB12103_12130 := Aside0.mk (ltB_ hg BK12103.out)
                    have NB12130_12103 := Aside0.mk (ltB_ hg BK12103.out).symm
                    have NB12113_12130 := Aside0.mk (ltB_ hg BK12113.out)
                    have NB12130_12113 := Aside0.mk (ltB_ hg BK12113.out).symm
                    replace HO12112 := Aside0.mk (Kd.R_below (pR_ HO12112.out) hb)
                    replace HO12121 := Aside0.mk (Kd.R_below (pR_ HO12121.out) hb)
                    replace BK12101 := Aside0.mk (blk_below (pB_ BK12101.out) hb)
                    replace BK12102 := Aside0.mk (blk_below (pB_ BK12102.out) hb)
                    replace BK12103 := Aside0.mk (blk_below (pB_ BK12103.out) hb)
                    replace BK12113 := Aside0.mk (blk_below (pB_ BK12113.out) hb)
                    replace HB := Aside0.mk (below_step (pH_ HB.out) hb)
                    clear hb hbox hg
                    refine hK.out _ _ ⟨(blk_cell BK12113.out 0).trans rfl, (blk_cell BK12113.out 1).trans rfl, (blk_cell BK12113.out 2).trans rfl, (blk_cell BK12113.out 3).trans rfl, (blk_cell BK12113.out 4).trans rfl, (blk_cell BK12113.out 5).trans rfl, (blk_cell BK12102.out 0).trans rfl, (blk_cell BK12102.out 1).trans rfl, (blk_cell BK12102.out 2).trans rfl, (blk_cell BK12102.out 3).trans rfl, (blk_cell BK12102.out 4).trans rfl, (blk_cell BK12102.out 5).trans rfl, (blk_cell BK12103.out 0).trans rfl, (blk_cell BK12103.out 1).trans rfl, (blk_cell BK12103.out 2).trans rfl, (blk_cell BK12103.out 3).trans rfl, (blk_cell BK12103.out 4).trans rfl, (blk_cell BK12103.out 5).trans rfl⟩ (fun hHeld => ?_)
                    clear hK K
                    refine norm_ (a' := ?_) ?_ ?_
                    rotate_left
                    · show Act.put _ (some 12) _ = _
                      simp only [Act.put, List.setIfInBounds_toArray, List.set_cons_zero, List.set_cons_succ, i64_w, i32_w]
                      rfl
                    exact norm2_ (hJ3_8 (v12120, gb12130) _ ⟨hHeld, (pR_ HO12112.out), (pR_ HO12121.out), (pB_ BK12101.out), (pB_ BK12102.out), (pB_ BK12103.out), (pB_ BK12113.out), (pB_ BK12130.out), GW12130.out, GE12130.out, NB12101_12130.out, NB12130_12101.out, NB12102_12130.out, NB12130_12102.out, NB12103_12130.out, NB12130_12103.out, NB12113_12130.out, NB12130_12113.out, (pH_ HB.out)⟩)
                  skip
                  refine box_step ?hg (N := 13) ?hd (cs := #[.int .i64 0, .int .i64 0, .int .i64 0, .int .i64 0, .int .i64 0, .slice none 0 0]) (t := 29) ?hr ?_; (case hd => rfl); (case hg => rfl); (case hr => first | (go_simp; done) | (go_simp; rfl))
                  intro gb12131 hg w37 hbox hb
                  have BK12131 := Aside0.mk (hbox)
                  have GW12131 := Aside0.mk ((by rw [hg]; exact (below_size (pH_ HB.out)) : w.heap.size ≤ gb12131))
                  have GE12131 := Aside0.mk ((by rw [hg]; exact (below_size (pH_ HB.out)) : w.heap.size ≤ gb12131))
                  have NB12101_12131 := Aside0.mk (ltB_ hg BK12101.out)
                  have NB12131_12101 := Aside0.mk (ltB_ hg BK12101.out).symm
                  have NB12102_12131 := Aside0.mk (ltB_ hg BK12102.out)
                  have NB12131_12102 := Aside0.mk (ltB_ hg BK12102.out).symm
                  have NB12103_12131 := Aside0.mk (ltB_ hg BK12103.out)
                  have NB12131_12103 := Aside0.mk (ltB_ hg BK12103.out).symm
                  have NB12113_12131 := Aside0.mk (ltB_ hg BK12113.out)
                  have NB12131_12113 := Aside0.mk (ltB_ hg BK12113.out).symm
                  replace HO12112 := Aside0.mk (Kd.R_below (pR_ HO12112.out) hb)
                  replace HO12121 := Aside0.mk (Kd.R_below (pR_ HO12121.out) hb)
                  replace BK12101 := Aside0.mk (blk_below (pB_ BK12101.out) hb)
                  replace BK12102 := Aside0.mk (blk_below (pB_ BK12102.out) hb)
                  replace BK12103 := Aside0.mk (blk_below (pB_ BK12103.out) hb)
                  replace BK12113 := Aside0.mk (blk_below (pB_ BK12113.out) hb)
                  replace HB := Aside0.mk (below_step (pH_ HB.out) hb)
                  clear hb hbox hg
                  refine hK.out _ _ ⟨(blk_cell BK12113.out 0).trans rfl, (blk_cell BK12113.out 1).trans rfl, (blk_cell BK12113.out 2).trans rfl, (blk_cell BK12113.out 3).trans rfl, (blk_cell BK12113.out 4).trans rfl, (blk_cell BK12113.out 5).trans rfl, (blk_cell BK12102.out 0).trans rfl, (blk_cell BK12102.out 1).trans rfl, (blk_cell BK12102.out 2).trans rfl, (blk_cell BK12102.out 3).trans rfl, (blk_cell BK12102.out 4).trans rfl, (blk_cell BK12102.out 5).trans rfl, (blk_cell BK12103.out 0).trans rfl, (blk_cell BK12103.out 1).trans rfl, (blk_cell BK12103.out 2).trans rfl, (blk_cell BK12103.out 3).trans rfl, (blk_cell BK12103.out 4).trans rfl, (blk_cell BK12103.out 5).trans rfl⟩ (fun hHeld => ?_)
                  clear hK K
                  refine norm_ (a' := ?_) ?_ ?_
                  rotate_left
                  · show Act.put _ (some 13) _ = _
                    simp only [Act.put, List.setIfInBounds_toArray, List.set_cons_zero, List.set_cons_succ, i64_w, i32_w]
                    rfl
                  exact norm2_ (hJ3_9 (v12120, gb12131) _ ⟨hHeld, (pR_ HO12112.out), (pR_ HO12121.out), (pB_ BK12101.out), (pB_ BK12102.out), (pB_ BK12103.out), (pB_ BK12113.out), (pB_ BK12131.out), GW12131.out, GE12131.out, NB12101_12131.out, NB12131_12101.out, NB12102_12131.out, NB12131_12102.out, NB12103_12131.out, NB12131_12103.out, NB12113_12131.out, NB12131_12113.out, (pH_ HB.out)⟩)
                skip
                rintro ⟨gb12130, gb12131⟩ w37 ⟨hS_, h0_, h1_, h2_, h3_, h4_, h5_, h6_, h7_, h8_, h9_, h10_, h11_, h12_, h13_, h14_, h15_, h16_, h17_, h18_, h19_, h20_, h21_, h22_, h23_, h24_, h25_, h26_, h27_, h28_, h29_⟩
                have n0_ : Aside0 (Kd.R (Kd.int .i64) 3 w37 w.heap.size (fun _ => True) (.slice Ao32 t12110.length co32) t12110) := ⟨h0_⟩
                have n1_ : Aside0 (w37.heap[gb12101]? = some (.cells #[.int .i64 a0_0, .int .i64 a0_1, .int .i64 a0_2, .int .i64 a0_3, .int .i64 a0_4, .slice A0_5 l0_5.length c0_5] 24 (0, 0))) := ⟨h1_⟩
                have n2_ : Aside0 (w37.heap[gb12102]? = some (.cells #[.int .i64 a1_0, .int .i64 a1_1, .int .i64 a1_2, .int .i64 a1_3, .int .i64 a1_4, .slice A1_5 l1_5.length c1_5] 29 (0, 0))) := ⟨h2_⟩
                have n3_ : Aside0 (w37.heap[gb12103]? = some (.cells #[.int .i64 a2_0, .int .i64 a2_1, .int .i64 a2_2, .int .i64 a2_3, .int .i64 a2_4, .slice A2_5 l2_5.length c2_5] 29 (0, 0))) := ⟨h3_⟩
                have n4_ : Aside0 (w37.heap[gb12113]? = some (.cells #[.int .i64 t12105, .int .i64 t12106, .int .i64 t12107, .int .i64 t12108, .int .i64 t12109, .slice Ao32 t12110.length co32] 24 (0, 0))) := ⟨h4_⟩
                have n5_ : Aside0 (w37.heap[gb12130]? = some (.cells #[.int .i64 0, .int .i64 0, .int .i64 0, .int .i64 0, .int .i64 0, .slice none 0 0] 29 (0, 0))) := ⟨h5_⟩
                have n6_ : Aside0 (w37.heap[gb12131]? = some (.cells #[.int .i64 0, .int .i64 0, .int .i64 0, .int .i64 0, .int .i64 0, .slice none 0 0] 29 (0, 0))) := ⟨h6_⟩
                have n7_ : Aside0 (w.heap.size ≤ gb12130) := ⟨h7_⟩
                have n8_ : Aside0 (w.heap.size ≤ gb12130) := ⟨h8_⟩
                have n9_ : Aside0 (gb12101 ≠ gb12130) := ⟨h9_⟩
                have n10_ : Aside0 (gb12130 ≠ gb12101) := ⟨h10_⟩
                have n11_ : Aside0 (gb12102 ≠ gb12130) := ⟨h11_⟩
                have n12_ : Aside0 (gb12130 ≠ gb12102) := ⟨h12_⟩
                have n13_ : Aside0 (gb12103 ≠ gb12130) := ⟨h13_⟩
                have n14_ : Aside0 (gb12130 ≠ gb12103) := ⟨h14_⟩
                have n15_ : Aside0 (gb12113 ≠ gb12130) := ⟨h15_⟩
                have n16_ : Aside0 (gb12130 ≠ gb12113) := ⟨h16_⟩
                have n17_ : Aside0 (gb12131 ≠ gb12130) := ⟨h17_⟩
                have n18_ : Aside0 (gb12130 ≠ gb12131) := ⟨h18_⟩
                have n19_ : Aside0 (w.heap.size ≤ gb12131) := ⟨h19_⟩
                have n20_ : Aside0 (w.heap.size ≤ gb12131) := ⟨h20_⟩
                have n21_ : Aside0 (gb12101 ≠ gb12131) := ⟨h21_⟩
                have n22_ : Aside0 (gb12131 ≠ gb12101) := ⟨h22_⟩
                have n23_ : Aside0 (gb12102 ≠ gb12131) := ⟨h23_⟩
                have n24_ : Aside0 (gb12131 ≠ gb12102) := ⟨h24_⟩
                have n25_ : Aside0 (gb12103 ≠ gb12131) := ⟨h25_⟩
                have n26_ : Aside0 (gb12131 ≠ gb12103) := ⟨h26_⟩
                have n27_ : Aside0 (gb12113 ≠ gb12131) := ⟨h27_⟩
                have n28_ : Aside0 (gb12131 ≠ gb12113) := ⟨h28_⟩
                have n29_ : Aside0 (Below w.heap.size w w37) := ⟨h29_⟩
                clear HO12112
                clear BK12101
                clear BK12102
                clear BK12103
                clear BK12113
                clear HB
                clear h0_ h1_ h2_ h3_ h4_ h5_ h6_ h7_ h8_ h9_ h10_ h11_ h12_ h13_ h14_ h15_ h16_ h17_ h18_ h19_ h20_ h21_ h22_ h23_ h24_ h25_ h26_ h27_ h28_ h29_
                have HO12112 := n0_
                have BK12101 := n1_
                have BK12102 := n2_
                have BK12103 := n3_
                have BK12113 := n4_
                have BK12130 := n5_
                have BK12131 := n6_
                have GW12130 := n7_
                have GE12130 := n8_
                have NB12101_12130 := n9_
                have NB12130_12101 := n10_
                have NB12102_12130 := n11_
                have NB12130_12102 := n12_
                have NB12103_12130 := n13_
                have NB12130_12103 := n14_
                have NB12113_12130 := n15_
                have NB12130_12113 := n16_
                have NB12131_12130 := n17_
                have NB12130_12131 := n18_
                have GW12131 := n19_
                have GE12131 := n20_
                have NB12101_12131 := n21_
                have NB12131_12101 := n22_
                have NB12102_12131 := n23_
                have NB12131_12102 := n24_
                have NB12103_12131 := n25_
                have NB12131_12103 := n26_
                have NB12113_12131 := n27_
                have NB12131_12113 := n28_
                have HB := n29_
                clear n0_ n1_ n2_ n3_ n4_ n5_ n6_ n7_ n8_ n9_ n10_ n11_ n12_ n13_ n14_ n15_ n16_ n17_ n18_ n19_ n20_ n21_ n22_ n23_ n24_ n25_ n26_ n27_ n28_ n29_
                have hHeld : w37.cell? ⟨gb12113, 0, none⟩ = some (.int .i64 t12105) ∧ w37.cell? ⟨gb12113, 1, none⟩ = some (.int .i64 t12106) ∧ w37.cell? ⟨gb12113, 2, none⟩ = some (.int .i64 t12107) ∧ w37.cell? ⟨gb12113, 3, none⟩ = some (.int .i64 t12108) ∧ w37.cell? ⟨gb12113, 4, none⟩ = some (.int .i64 t12109) ∧ w37.cell? ⟨gb12113, 5, none⟩ = some (.slice Ao32 t12110.length co32) ∧ w37.cell? ⟨gb12102, 0, none⟩ = some (.int .i64 a1_0) ∧ w37.cell? ⟨gb12102, 1, none⟩ = some (.int .i64 a1_1) ∧ w37.cell? ⟨gb12102, 2, none⟩ = some (.int .i64 a1_2) ∧ w37.cell? ⟨gb12102, 3, none⟩ = some (.int .i64 a1_3) ∧ w37.cell? ⟨gb12102, 4, none⟩ = some (.int .i64 a1_4) ∧ w37.cell? ⟨gb12102, 5, none⟩ = some (.slice A1_5 l1_5.length c1_5) ∧ w37.cell? ⟨gb12103, 0, none⟩ = some (.int .i64 a2_0) ∧ w37.cell? ⟨gb12103, 1, none⟩ = some (.int .i64 a2_1) ∧ w37.cell? ⟨gb12103, 2, none⟩ = some (.int .i64 a2_2) ∧ w37.cell? ⟨gb12103, 3, none⟩ = some (.int .i64 a2_3) ∧ w37.cell? ⟨gb12103, 4, none⟩ = some (.int .i64 a2_4) ∧ w37.cell? ⟨gb12103, 5, none⟩ = some (.slice A2_5 l2_5.length c2_5) := hS_
                refine norm_ (a' := ?_) ?_ ?_
                rotate_left
                · simp only [putAll, Act.put, List.setIfInBounds_toArray, List.set_cons_zero, List.set_cons_succ]
                  rfl
                refine one_ (i := 3) (N := some 22) #[true, true, true, true, true, true, true, false, true, true, false, false] rfl rfl (one_of HT_.out (by kernel_rfl)) (by decide) (fun K hK => ?_)
                refine goes_ Try.func21 (by kernel_rfl) rfl #[.agg #[.int .i64 t12105, .int .i64 t12106, .int .i64 t12107, .int .i64 t12108, .int .i64 t12109, .slice Ao32 t12110.length co32], .agg #[.int .i64 a1_0, .int .i64 a1_1, .int .i64 a1_2, .int .i64 a1_3, .int .i64 a1_4, .slice A1_5 l1_5.length c1_5], .slice A3 l3.length c3] (by rfl) rfl rfl (by (try simp only [List.map_toArray, List.map_cons, List.map_nil]); first | done | rfl | (simp only [List.length_drop, List.length_take]; rfl)) ?_
                with_reducible refine (plaitinglaw5_Make.calls k t12105 t12106 t12107 t12108 t12109 _ _ t12110 a1_0 a1_1 a1_2 a1_3 a1_4 _ _ l1_5 _ _ l3 t12114 t12115 t12116 t12117 t12118 t12119 _ ?side1 ?side2 ?side3 ?side4 ?side5 ?side6 A9.out).mono ?_
                (case side1 => repeat (first | exact (Kd.R_reads' HO12112.out).2.2 | (with_reducible refine Kd.C_alloc ?_ _) | (with_reducible refine Kd.C_drewN ?_ _) | (with_reducible refine Kd.C_drew ?_)))
                (case side2 => exact (Kd.R_reads' HO12112.out).2.1)
                (case side3 => repeat (first | exact (Kd.C_below HR1_5.out HB.out) | (with_reducible refine Kd.C_alloc ?_ _) | (with_reducible refine Kd.C_drewN ?_ _) | (with_reducible refine Kd.C_drew ?_)))
                (case side4 => exact HC1_5.out)
                (case side5 => repeat (first | exact (Kd.C_below HR3.out HB.out) | (with_reducible refine Kd.C_alloc ?_ _) | (with_reducible refine Kd.C_drewN ?_ _) | (with_reducible refine Kd.C_drew ?_)))
                (case side6 => exact HC3.out)
                rintro e w38 ⟨v12120, rfl, ho0, hb⟩
                refine ⟨_, rfl, ?_⟩
                have HO12121 := Aside0.mk (Kd.R_lower ho0 (below_size (pH_ HB.out)))
                replace HO12112 := Aside0.mk (Kd.R_below (pR_ HO12112.out) hb)
                replace BK12101 := Aside0.mk (blk_below (pB_ BK12101.out) hb)
                replace BK12102 := Aside0.mk (blk_below (pB_ BK12102.out) hb)
                replace BK12103 := Aside0.mk (blk_below (pB_ BK12103.out) hb)
                replace BK12113 := Aside0.mk (blk_below (pB_ BK12113.out) hb)
                replace BK12130 := Aside0.mk (blk_below (pB_ BK12130.out) hb)
                replace BK12131 := Aside0.mk (blk_below (pB_ BK12131.out) hb)
                replace HB := Aside0.mk (below_step (pH_ HB.out) hb)
                (try clear hb)
                (try clear hb2)
                (try clear hk)
                (try clear hi)
                (try clear ho0)
                refine hK.out _ _ ⟨(blk_cell BK12113.out 0).trans rfl, (blk_cell BK12113.out 1).trans rfl, (blk_cell BK12113.out 2).trans rfl, (blk_cell BK12113.out 3).trans rfl, (blk_cell BK12113.out 4).trans rfl, (blk_cell BK12113.out 5).trans rfl, (blk_cell BK12102.out 0).trans rfl, (blk_cell BK12102.out 1).trans rfl, (blk_cell BK12102.out 2).trans rfl, (blk_cell BK12102.out 3).trans rfl, (blk_cell BK12102.out 4).trans rfl, (blk_cell BK12102.out 5).trans rfl, (blk_cell BK12103.out 0).trans rfl, (blk_cell BK12103.out 1).trans rfl, (blk_cell BK12103.out 2).trans rfl, (blk_cell BK12103.out 3).trans rfl, (blk_cell BK12103.out 4).trans rfl, (blk_cell BK12103.out 5).trans rfl⟩ (fun hHeld => ?_)
                clear hK K
                refine norm_ (a' := ?_) ?_ ?_
                rotate_left
                · show Act.put _ (some 22) _ = _
                  simp only [Act.put, List.setIfInBounds_toArray, List.set_cons_zero, List.set_cons_succ, i64_w, i32_w]
                  rfl
                exact norm2_ (hJ3_8_9 (v12120, gb12130, gb12131) _ ⟨hHeld, (pR_ HO12112.out), (pR_ HO12121.out), (pB_ BK12101.out), (pB_ BK12102.out), (pB_ BK12103.out), (pB_ BK12113.out), (pB_ BK12130.out), (pB_ BK12131.out), GW12130.out, GE12130.out, NB12101_12130.out, NB12130_12101.out, NB12102_12130.out, NB12130_12102.out, NB12103_12130.out, NB12130_12103.out, NB12113_12130.out, NB12130_12113.out, NB12131_12130.out, NB12130_12131.out, GW12131.out, GE12131.out, NB12101_12131.out, NB12131_12101.out, NB12102_12131.out, NB12131_12102.out, NB12103_12131.out, NB12131_12103.out, NB12113_12131.out, NB12131_12113.out, (pH_ HB.out)⟩)
              skip
              rintro ⟨v12120, gb12131⟩ w37 ⟨hS_, h0_, h1_, h2_, h3_, h4_, h5_, h6_, h7_, h8_, h9_, h10_, h11_, h12_, h13_, h14_, h15_, h16_, h17_⟩
              have n0_ : Aside0 (Kd.R (Kd.int .i64) 3 w37 w.heap.size (fun _ => True) (.slice Ao32 t12110.length co32) t12110) := ⟨h0_⟩
              have n1_ : Aside0 (Kd.R k26 26 w37 w.heap.size (fun _ => True) v12120 t12119) := ⟨h1_⟩
              have n2_ : Aside0 (w37.heap[gb12101]? = some (.cells #[.int .i64 a0_0, .int .i64 a0_1, .int .i64 a0_2, .int .i64 a0_3, .int .i64 a0_4, .slice A0_5 l0_5.length c0_5] 24 (0, 0))) := ⟨h2_⟩
              have n3_ : Aside0 (w37.heap[gb12102]? = some (.cells #[.int .i64 a1_0, .int .i64 a1_1, .int .i64 a1_2, .int .i64 a1_3, .int .i64 a1_4, .slice A1_5 l1_5.length c1_5] 29 (0, 0))) := ⟨h3_⟩
              have n4_ : Aside0 (w37.heap[gb12103]? = some (.cells #[.int .i64 a2_0, .int .i64 a2_1, .int .i64 a2_2, .int .i64 a2_3, .int .i64 a2_4, .slice A2_5 l2_5.length c2_5] 29 (0, 0))) := ⟨h4_⟩
              have n5_ : Aside0 (w37.heap[gb12113]? = some (.cells #[.int .i64 t12105, .int .i64 t12106, .int .i64 t12107, .int .i64 t12108, .int .i64 t12109, .slice Ao32 t12110.length co32] 24 (0, 0))) := ⟨h5_⟩
              have n6_ : Aside0 (w37.heap[gb12131]? = some (.cells #[.int .i64 0, .int .i64 0, .int .i64 0, .int .i64 0, .int .i64 0, .slice none 0 0] 29 (0, 0))) := ⟨h6_⟩
              have n7_ : Aside0 (w.heap.size ≤ gb12131) := ⟨h7_⟩
              have n8_ : Aside0 (w.heap.size ≤ gb12131) := ⟨h8_⟩
              have n9_ : Aside0 (gb12101 ≠ gb12131) := ⟨h9_⟩
              have n10_ : Aside0 (gb12131 ≠ gb12101) := ⟨h10_⟩
              have n11_ : Aside0 (gb12102 ≠ gb12131) := ⟨h11_⟩
              have n12_ : Aside0 (gb12131 ≠ gb12102) := ⟨h12_⟩
              have n13_ : Aside0 (gb12103 ≠ gb12131) := ⟨h13_⟩
              have n14_ : Aside0 (gb12131 ≠ gb12103) := ⟨h14_⟩
              have n15_ : Aside0 (gb12113 ≠ gb12131) := ⟨h15_⟩
              have n16_ : Aside0 (gb12131 ≠ gb12113) := ⟨h16_⟩
              have n17_ : Aside0 (Below w.heap.size w w37) := ⟨h17_⟩
              clear HO12112
              clear BK12101
              clear BK12102
              clear BK12103
              clear BK12113
              clear HB
              clear h0_ h1_ h2_ h3_ h4_ h5_ h6_ h7_ h8_ h9_ h10_ h11_ h12_ h13_ h14_ h15_ h16_ h17_
              have HO12112 := n0_
              have HO12121 := n1_
              have BK12101 := n2_
              have BK12102 := n3_
              have BK12103 := n4_
              have BK12113 := n5_
              have BK12131 := n6_
              have GW12131 := n7_
              have GE12131 := n8_
              have NB12101_12131 := n9_
              have NB12131_12101 := n10_
              have NB12102_12131 := n11_
              have NB12131_12102 := n12_
              have NB12103_12131 := n13_
              have NB12131_12103 := n14_
              have NB12113_12131 := n15_
              have NB12131_12113 := n16_
              have HB := n17_
              clear n0_ n1_ n2_ n3_ n4_ n5_ n6_ n7_ n8_ n9_ n10_ n11_ n12_ n13_ n14_ n15_ n16_ n17_
              have hHeld : w37.cell? ⟨gb12113, 0, none⟩ = some (.int .i64 t12105) ∧ w37.cell? ⟨gb12113, 1, none⟩ = some (.int .i64 t12106) ∧ w37.cell? ⟨gb12113, 2, none⟩ = some (.int .i64 t12107) ∧ w37.cell? ⟨gb12113, 3, none⟩ = some (.int .i64 t12108) ∧ w37.cell? ⟨gb12113, 4, none⟩ = some (.int .i64 t12109) ∧ w37.cell? ⟨gb12113, 5, none⟩ = some (.slice Ao32 t12110.length co32) ∧ w37.cell? ⟨gb12102, 0, none⟩ = some (.int .i64 a1_0) ∧ w37.cell? ⟨gb12102, 1, none⟩ = some (.int .i64 a1_1) ∧ w37.cell? ⟨gb12102, 2, none⟩ = some (.int .i64 a1_2) ∧ w37.cell? ⟨gb12102, 3, none⟩ = some (.int .i64 a1_3) ∧ w37.cell? ⟨gb12102, 4, none⟩ = some (.int .i64 a1_4) ∧ w37.cell? ⟨gb12102, 5, none⟩ = some (.slice A1_5 l1_5.length c1_5) ∧ w37.cell? ⟨gb12103, 0, none⟩ = some (.int .i64 a2_0) ∧ w37.cell? ⟨gb12103, 1, none⟩ = some (.int .i64 a2_1) ∧ w37.cell? ⟨gb12103, 2, none⟩ = some (.int .i64 a2_2) ∧ w37.cell? ⟨gb12103, 3, none⟩ = some (.int .i64 a2_3) ∧ w37.cell? ⟨gb12103, 4, none⟩ = some (.int .i64 a2_4) ∧ w37.cell? ⟨gb12103, 5, none⟩ = some (.slice A2_5 l2_5.length c2_5) := hS_
              refine norm_ (a' := ?_) ?_ ?_
              rotate_left
              · simp only [putAll, Act.put, List.setIfInBounds_toArray, List.set_cons_zero, List.set_cons_succ]
                rfl
              refine two_ (i := 7) (j := 8) (Ni := some 26) (Nj := some 12) #[true, true, true, true, true, true, true, true, false, true, false, false] #[true, true, true, true, true, true, true, false, true, true, false, false] rfl rfl rfl rfl (two_of HT_.out (by kernel_rfl)) (by decide) (by decide) (fun K hK => ?_) (fun K hK => ?_)
              · skip
                refine goes_ Try.func21 (by kernel_rfl) rfl #[.agg #[.int .i64 t12105, .int .i64 t12106, .int .i64 t12107, .int .i64 t12108, .int .i64 t12109, .slice Ao32 t12110.length co32], .agg #[.int .i64 a2_0, .int .i64 a2_1, .int .i64 a2_2, .int .i64 a2_3, .int .i64 a2_4, .slice A2_5 l2_5.length c2_5], .slice A4 l4.length c4] (by rfl) rfl rfl (by (try simp only [List.map_toArray, List.map_cons, List.map_nil]); first | done | rfl | (simp only [List.length_drop, List.length_take]; rfl)) ?_
                with_reducible refine (plaitinglaw5_Make.calls k t12105 t12106 t12107 t12108 t12109 _ _ t12110 a2_0 a2_1 a2_2 a2_3 a2_4 _ _ l2_5 _ _ l4 t12122 t12123 t12124 t12125 t12126 t12127 _ ?side1 ?side2 ?side3 ?side4 ?side5 ?side6 A10.out).mono ?_
                (case side1 => repeat (first | exact (Kd.R_reads' HO12112.out).2.2 | (with_reducible refine Kd.C_alloc ?_ _) | (with_reducible refine Kd.C_drewN ?_ _) | (with_reducible refine Kd.C_drew ?_)))
                (case side2 => exact (Kd.R_reads' HO12112.out).2.1)
                (case side3 => repeat (first | exact (Kd.C_below HR2_5.out HB.out) | (with_reducible refine Kd.C_alloc ?_ _) | (with_reducible refine Kd.C_drewN ?_ _) | (with_reducible refine Kd.C_drew ?_)))
                (case side4 => exact HC2_5.out)
                (case side5 => repeat (first | exact (Kd.C_below HR4.out HB.out) | (with_reducible refine Kd.C_alloc ?_ _) | (with_reducible refine Kd.C_drewN ?_ _) | (with_reducible refine Kd.C_drew ?_)))
                (case side6 => exact HC4.out)
                rintro e w38 ⟨v12128, rfl, ho0, hb⟩
                refine ⟨_, rfl, ?_⟩
                have HO12129 := Aside0.mk (Kd.R_lower (Kd.R_new' ho0 (Kd.R_lt (pR_ HO12121.out))) (below_size (pH_ HB.out)))
                replace HO12112 := Aside0.mk (Kd.R_below (pR_ HO12112.out) hb)
                replace HO12121 := Aside0.mk (Kd.R_elder' (pR_ HO12121.out) (Kd.R_base ho0) hb)
                replace BK12101 := Aside0.mk (blk_below (pB_ BK12101.out) hb)
                replace BK12102 := Aside0.mk (blk_below (pB_ BK12102.out) hb)
                replace BK12103 := Aside0.mk (blk_below (pB_ BK12103.out) hb)
                replace BK12113 := Aside0.mk (blk_below (pB_ BK12113.out) hb)
                replace BK12131 := Aside0.mk (blk_below (pB_ BK12131.out) hb)
                replace HB := Aside0.mk (below_step (pH_ HB.out) hb)
                (try clear hb)
                (try clear hb2)
                (try clear hk)
                (try clear hi)
                (try clear ho0)
                refine hK.out _ _ ⟨(blk_cell BK12113.out 0).trans rfl, (blk_cell BK12113.out 1).trans rfl, (blk_cell BK12113.out 2).trans rfl, (blk_cell BK12113.out 3).trans rfl, (blk_cell BK12113.out 4).trans rfl, (blk_cell BK12113.out 5).trans rfl, (blk_cell BK12102.out 0).trans rfl, (blk_cell BK12102.out 1).trans rfl, (blk_cell BK12102.out 2).trans rfl, (blk_cell BK12102.out 3).trans rfl, (blk_cell BK12102.out 4).trans rfl, (blk_cell BK12102.out 5).trans rfl, (blk_cell BK12103.out 0).trans rfl, (blk_cell BK12103.out 1).trans rfl, (blk_cell BK12103.out 2).trans rfl, (blk_cell BK12103.out 3).trans rfl, (blk_cell BK12103.out 4).trans rfl, (blk_cell BK12103.out 5).trans rfl⟩ (fun hHeld => ?_)
                clear hK K
                refine norm_ (a' := ?_) ?_ ?_
                rotate_left
                · show Act.put _ (some 26) _ = _
                  simp only [Act.put, List.setIfInBounds_toArray, List.set_cons_zero, List.set_cons_succ, i64_w, i32_w]
                  rfl
                exact norm2_ (hJ3_7_9 (v12120, v12128, gb12131) _ ⟨hHeld, (pR_ HO12112.out), (by (with_reducible repeat (first | apply Kd.R_alloc | apply Kd.R_drewN | apply Kd.R_drew)); exact Kd.R_mono HO12121.out (fun _ hk => hk.2)), (by (with_reducible repeat (first | apply Kd.R_alloc | apply Kd.R_drewN | apply Kd.R_drew)); exact Kd.R_mono HO12129.out (fun _ hk => hk.2)), (pB_ BK12101.out), (pB_ BK12102.out), (pB_ BK12103.out), (pB_ BK12113.out), (pB_ BK12131.out), GW12131.out, GE12131.out, NB12101_12131.out, NB12131_12101.out, NB12102_12131.out, NB12131_12102.out, NB12103_12131.out, NB12131_12103.out, NB12113_12131.out, NB12131_12113.out, (pH_ HB.out)⟩)
              skip
              refine box_step ?hg (N := 12) ?hd (cs := #[.int .i64 0, .int .i64 0, .int .i64 0, .int .i64 0, .int .i64 0, .slice none 0 0]) (t := 29) ?hr ?_; (case hd => rfl); (case hg => rfl); (case hr => first | (go_simp; done) | (go_simp; rfl))
              intro gb12130 hg w38 hbox hb
              have BK12130 := Aside0.mk (hbox)
              have GW12130 := Aside0.mk ((by rw [hg]; exact (below_size (pH_ HB.out)) : w.heap.size ≤ gb12130))
              have GE12130 := Aside0.mk ((by rw [hg]; exact (below_size (pH_ HB.out)) : w.heap.size ≤ gb12130))
              have NB12101_12130 := Aside0.mk (ltB_ hg BK12101.out)
              have NB12130_12101 := Aside0.mk (ltB_ hg BK12101.out).symm
              have NB12102_12130 := Aside0.mk (ltB_ hg BK12102.out)
              have NB12130_12102 := Aside0.mk (ltB_ hg BK12102.out).symm
              have NB12103_12130 := Aside0.mk (ltB_ hg BK12103.out)
              have NB12130_12103 := Aside0.mk (ltB_ hg BK12103.out).symm
              have NB12113_12130 := Aside0.mk (ltB_ hg BK12113.out)
              have NB12130_12113 := Aside0.mk (ltB_ hg BK12113.out).symm
              have NB12131_12130 := Aside0.mk (ltB_ hg BK12131.out)
              have NB12130_12131 := Aside0.mk (ltB_ hg BK12131.out).symm
              replace HO12112 := Aside0.mk (Kd.R_below (pR_ HO12112.out) hb)
              replace HO12121 := Aside0.mk (Kd.R_below (pR_ HO12121.out) hb)
              replace BK12101 := Aside0.mk (blk_below (pB_ BK12101.out) hb)
              replace BK12102 := Aside0.mk (blk_below (pB_ BK12102.out) hb)
              replace BK12103 := Aside0.mk (blk_below (pB_ BK12103.out) hb)
              replace BK12113 := Aside0.mk (blk_below (pB_ BK12113.out) hb)
              replace BK12131 := Aside0.mk (blk_below (pB_ BK12131.out) hb)
              replace HB := Aside0.mk (below_step (pH_ HB.out) hb)
              clear hb hbox hg
              refine hK.out _ _ ⟨(blk_cell BK12113.out 0).trans rfl, (blk_cell BK12113.out 1).trans rfl, (blk_cell BK12113.out 2).trans rfl, (blk_cell BK12113.out 3).trans rfl, (blk_cell BK12113.out 4).trans rfl, (blk_cell BK12113.out 5).trans rfl, (blk_cell BK12102.out 0).trans rfl, (blk_cell BK12102.out 1).trans rfl, (blk_cell BK12102.out 2).trans rfl, (blk_cell BK12102.out 3).trans rfl, (blk_cell BK12102.out 4).trans rfl, (blk_cell BK12102.out 5).trans rfl, (blk_cell BK12103.out 0).trans rfl, (blk_cell BK12103.out 1).trans rfl, (blk_cell BK12103.out 2).trans rfl, (blk_cell BK12103.out 3).trans rfl, (blk_cell BK12103.out 4).trans rfl, (blk_cell BK12103.out 5).trans rfl⟩ (fun hHeld => ?_)
              clear hK K
              refine norm_ (a' := ?_) ?_ ?_
              rotate_left
              · show Act.put _ (some 12) _ = _
                simp only [Act.put, List.setIfInBounds_toArray, List.set_cons_zero, List.set_cons_succ, i64_w, i32_w]
                rfl
              exact norm2_ (hJ3_8_9 (v12120, gb12130, gb12131) _ ⟨hHeld, (pR_ HO12112.out), (pR_ HO12121.out), (pB_ BK12101.out), (pB_ BK12102.out), (pB_ BK12103.out), (pB_ BK12113.out), (pB_ BK12130.out), (pB_ BK12131.out), GW12130.out, GE12130.out, NB12101_12130.out, NB12130_12101.out, NB12102_12130.out, NB12130_12102.out, NB12103_12130.out, NB12130_12103.out, NB12113_12130.out, NB12130_12113.out, NB12131_12130.out, NB12130_12131.out, GW12131.out, GE12131.out, NB12101_12131.out, NB12131_12101.out, NB12102_12131.out, NB12131_12102.out, NB12103_12131.out, NB12131_12103.out, NB12113_12131.out, NB12131_12113.out, (pH_ HB.out)⟩)
            skip
            rintro ⟨v12120, gb12130⟩ w37 ⟨hS_, h0_, h1_, h2_, h3_, h4_, h5_, h6_, h7_, h8_, h9_, h10_, h11_, h12_, h13_, h14_, h15_, h16_, h17_⟩
            have n0_ : Aside0 (Kd.R (Kd.int .i64) 3 w37 w.heap.size (fun _ => True) (.slice Ao32 t12110.length co32) t12110) := ⟨h0_⟩
            have n1_ : Aside0 (Kd.R k26 26 w37 w.heap.size (fun _ => True) v12120 t12119) := ⟨h1_⟩
            have n2_ : Aside0 (w37.heap[gb12101]? = some (.cells #[.int .i64 a0_0, .int .i64 a0_1, .int .i64 a0_2, .int .i64 a0_3, .int .i64 a0_4, .slice A0_5 l0_5.length c0_5] 24 (0, 0))) := ⟨h2_⟩
            have n3_ : Aside0 (w37.heap[gb12102]? = some (.cells #[.int .i64 a1_0, .int .i64 a1_1, .int .i64 a1_2, .int .i64 a1_3, .int .i64 a1_4, .slice A1_5 l1_5.length c1_5] 29 (0, 0))) := ⟨h3_⟩
            have n4_ : Aside0 (w37.heap[gb12103]? = some (.cells #[.int .i64 a2_0, .int .i64 a2_1, .int .i64 a2_2, .int .i64 a2_3, .int .i64 a2_4, .slice A2_5 l2_5.length c2_5] 29 (0, 0))) := ⟨h4_⟩
            have n5_ : Aside0 (w37.heap[gb12113]? = some (.cells #[.int .i64 t12105, .int .i64 t12106, .int .i64 t12107, .int .i64 t12108, .int .i64 t12109, .slice Ao32 t12110.length co32] 24 (0, 0))) := ⟨h5_⟩
            have n6_ : Aside0 (w37.heap[gb12130]? = some (.cells #[.int .i64 0, .int .i64 0, .int .i64 0, .int .i64 0, .int .i64 0, .slice none 0 0] 29 (0, 0))) := ⟨h6_⟩
            have n7_ : Aside0 (w.heap.size ≤ gb12130) := ⟨h7_⟩
            have n8_ : Aside0 (w.heap.size ≤ gb12130) := ⟨h8_⟩
            have n9_ : Aside0 (gb12101 ≠ gb12130) := ⟨h9_⟩
            have n10_ : Aside0 (gb12130 ≠ gb12101) := ⟨h10_⟩
            have n11_ : Aside0 (gb12102 ≠ gb12130) := ⟨h11_⟩
            have n12_ : Aside0 (gb12130 ≠ gb12102) := ⟨h12_⟩
            have n13_ : Aside0 (gb12103 ≠ gb12130) := ⟨h13_⟩
            have n14_ : Aside0 (gb12130 ≠ gb12103) := ⟨h14_⟩
            have n15_ : Aside0 (gb12113 ≠ gb12130) := ⟨h15_⟩
            have n16_ : Aside0 (gb12130 ≠ gb12113) := ⟨h16_⟩
            have n17_ : Aside0 (Below w.heap.size w w37) := ⟨h17_⟩
            clear HO12112
            clear BK12101
            clear BK12102
            clear BK12103
            clear BK12113
            clear HB
            clear h0_ h1_ h2_ h3_ h4_ h5_ h6_ h7_ h8_ h9_ h10_ h11_ h12_ h13_ h14_ h15_ h16_ h17_
            have HO12112 := n0_
            have HO12121 := n1_
            have BK12101 := n2_
            have BK12102 := n3_
            have BK12103 := n4_
            have BK12113 := n5_
            have BK12130 := n6_
            have GW12130 := n7_
            have GE12130 := n8_
            have NB12101_12130 := n9_
            have NB12130_12101 := n10_
            have NB12102_12130 := n11_
            have NB12130_12102 := n12_
            have NB12103_12130 := n13_
            have NB12130_12103 := n14_
            have NB12113_12130 := n15_
            have NB12130_12113 := n16_
            have HB := n17_
            clear n0_ n1_ n2_ n3_ n4_ n5_ n6_ n7_ n8_ n9_ n10_ n11_ n12_ n13_ n14_ n15_ n16_ n17_
            have hHeld : w37.cell? ⟨gb12113, 0, none⟩ = some (.int .i64 t12105) ∧ w37.cell? ⟨gb12113, 1, none⟩ = some (.int .i64 t12106) ∧ w37.cell? ⟨gb12113, 2, none⟩ = some (.int .i64 t12107) ∧ w37.cell? ⟨gb12113, 3, none⟩ = some (.int .i64 t12108) ∧ w37.cell? ⟨gb12113, 4, none⟩ = some (.int .i64 t12109) ∧ w37.cell? ⟨gb12113, 5, none⟩ = some (.slice Ao32 t12110.length co32) ∧ w37.cell? ⟨gb12102, 0, none⟩ = some (.int .i64 a1_0) ∧ w37.cell? ⟨gb12102, 1, none⟩ = some (.int .i64 a1_1) ∧ w37.cell? ⟨gb12102, 2, none⟩ = some (.int .i64 a1_2) ∧ w37.cell? ⟨gb12102, 3, none⟩ = some (.int .i64 a1_3) ∧ w37.cell? ⟨gb12102, 4, none⟩ = some (.int .i64 a1_4) ∧ w37.cell? ⟨gb12102, 5, none⟩ = some (.slice A1_5 l1_5.length c1_5) ∧ w37.cell? ⟨gb12103, 0, none⟩ = some (.int .i64 a2_0) ∧ w37.cell? ⟨gb12103, 1, none⟩ = some (.int .i64 a2_1) ∧ w37.cell? ⟨gb12103, 2, none⟩ = some (.int .i64 a2_2) ∧ w37.cell? ⟨gb12103, 3, none⟩ = some (.int .i64 a2_3) ∧ w37.cell? ⟨gb12103, 4, none⟩ = some (.int .i64 a2_4) ∧ w37.cell? ⟨gb12103, 5, none⟩ = some (.slice A2_5 l2_5.length c2_5) := hS_
            refine norm_ (a' := ?_) ?_ ?_
            rotate_left
            · simp only [putAll, Act.put, List.setIfInBounds_toArray, List.set_cons_zero, List.set_cons_succ]
              rfl
            refine two_ (i := 7) (j := 9) (Ni := some 26) (Nj := some 13) #[true, true, true, true, true, true, true, true, true, false, false, false] #[true, true, true, true, true, true, true, false, true, true, false, false] rfl rfl rfl rfl (two_of HT_.out (by kernel_rfl)) (by decide) (by decide) (fun K hK => ?_) (fun K hK => ?_)
            · skip
              refine goes_ Try.func21 (by kernel_rfl) rfl #[.agg #[.int .i64 t12105, .int .i64 t12106, .int .i64 t12107, .int .i64 t12108, .int .i64 t12109, .slice Ao32 t12110.length co32], .agg #[.int .i64 a2_0, .int .i64 a2_1, .int .i64 a2_2, .int .i64 a2_3, .int .i64 a2_4, .slice A2_5 l2_5.length c2_5], .slice A4 l4.length c4] (by rfl) rfl rfl (by (try simp only [List.map_toArray, List.map_cons, List.map_nil]); first | done | rfl | (simp only [List.length_drop, List.length_take]; rfl)) ?_
              with_reducible refine (plaitinglaw5_Make.calls k t12105 t12106 t12107 t12108 t12109 _ _ t12110 a2_0 a2_1 a2_2 a2_3 a2_4 _ _ l2_5 _ _ l4 t12122 t12123 t12124 t12125 t12126 t12127 _ ?side1 ?side2 ?side3 ?side4 ?side5 ?side6 A10.out).mono ?_
              (case side1 => repeat (first | exact (Kd.R_reads' HO12112.out).2.2 | (with_reducible refine Kd.C_alloc ?_ _) | (with_reducible refine Kd.C_drewN ?_ _) | (with_reducible refine Kd.C_drew ?_)))
              (case side2 => exact (Kd.R_reads' HO12112.out).2.1)
              (case side3 => repeat (first | exact (Kd.C_below HR2_5.out HB.out) | (with_reducible refine Kd.C_alloc ?_ _) | (with_reducible refine Kd.C_drewN ?_ _) | (with_reducible refine Kd.C_drew ?_)))
              (case side4 => exact HC2_5.out)
              (case side5 => repeat (first | exact (Kd.C_below HR4.out HB.out) | (with_reducible refine Kd.C_alloc ?_ _) | (with_reducible refine Kd.C_drewN ?_ _) | (with_reducible refine Kd.C_drew ?_)))
              (case side6 => exact HC4.out)
              rintro e w38 ⟨v12128, rfl, ho0, hb⟩
              refine ⟨_, rfl, ?_⟩
              have HO12129 := Aside0.mk (Kd.R_lower (Kd.R_new' ho0 (Kd.R_lt (pR_ HO12121.out))) (below_size (pH_ HB.out)))
              replace HO12112 := Aside0.mk (Kd.R_below (pR_ HO12112.out) hb)
              replace HO12121 := Aside0.mk (Kd.R_elder' (pR_ HO12121.out) (Kd.R_base ho0) hb)
              replace BK12101 := Aside0.mk (blk_below (pB_ BK12101.out) hb)
              replace BK12102 := Aside0.mk (blk_below (pB_ BK12102.out) hb)
              replace BK12103 := Aside0.mk (blk_below (pB_ BK12103.out) hb)
              replace BK12113 := Aside0.mk (blk_below (pB_ BK12113.out) hb)
              replace BK12130 := Aside0.mk (blk_below (pB_ BK12130.out) hb)
              replace HB := Aside0.mk (below_step (pH_ HB.out) hb)
              (try clear hb)
              (try clear hb2)
              (try clear hk)
              (try clear hi)
              (try clear ho0)
              refine hK.out _ _ ⟨(blk_cell BK12113.out 0).trans rfl, (blk_cell BK12113.out 1).trans rfl, (blk_cell BK12113.out 2).trans rfl, (blk_cell BK12113.out 3).trans rfl, (blk_cell BK12113.out 4).trans rfl, (blk_cell BK12113.out 5).trans rfl, (blk_cell BK12102.out 0).trans rfl, (blk_cell BK12102.out 1).trans rfl, (blk_cell BK12102.out 2).trans rfl, (blk_cell BK12102.out 3).trans rfl, (blk_cell BK12102.out 4).trans rfl, (blk_cell BK12102.out 5).trans rfl, (blk_cell BK12103.out 0).trans rfl, (blk_cell BK12103.out 1).trans rfl, (blk_cell BK12103.out 2).trans rfl, (blk_cell BK12103.out 3).trans rfl, (blk_cell BK12103.out 4).trans rfl, (blk_cell BK12103.out 5).trans rfl⟩ (fun hHeld => ?_)
              clear hK K
              refine norm_ (a' := ?_) ?_ ?_
              rotate_left
              · show Act.put _ (some 26) _ = _
                simp only [Act.put, List.setIfInBounds_toArray, List.set_cons_zero, List.set_cons_succ, i64_w, i32_w]
                rfl
              exact norm2_ (hJ3_7_8 (v12120, v12128, gb12130) _ ⟨hHeld, (pR_ HO12112.out), (by (with_reducible repeat (first | apply Kd.R_alloc | apply Kd.R_drewN | apply Kd.R_drew)); exact Kd.R_mono HO12121.out (fun _ hk => hk.2)), (by (with_reducible repeat (first | apply Kd.R_alloc | apply Kd.R_drewN | apply Kd.R_drew)); exact Kd.R_mono HO12129.out (fun _ hk => hk.2)), (pB_ BK12101.out), (pB_ BK12102.out), (pB_ BK12103.out), (pB_ BK12113.out), (pB_ BK12130.out), GW12130.out, GE12130.out, NB12101_12130.out, NB12130_12101.out, NB12102_12130.out, NB12130_12102.out, NB12103_12130.out, NB12130_12103.out, NB12113_12130.out, NB12130_12113.out, (pH_ HB.out)⟩)
            skip
            refine box_step ?hg (N := 13) ?hd (cs := #[.int .i64 0, .int .i64 0, .int .i64 0, .int .i64 0, .int .i64 0, .slice none 0 0]) (t := 29) ?hr ?_; (case hd => rfl); (case hg => rfl); (case hr => first | (go_simp; done) | (go_simp; rfl))
            intro gb12131 hg w38 hbox hb
            have BK12131 := Aside0.mk (hbox)
            have GW12131 := Aside0.mk ((by rw [hg]; exact (below_size (pH_ HB.out)) : w.heap.size ≤ gb12131))
            have GE12131 := Aside0.mk ((by rw [hg]; exact (below_size (pH_ HB.out)) : w.heap.size ≤ gb12131))
            have NB12101_12131 := Aside0.mk (ltB_ hg BK12101.out)
            have NB12131_12101 := Aside0.mk (ltB_ hg BK12101.out).symm
            have NB12102_12131 := Aside0.mk (ltB_ hg BK12102.out)
            have NB12131_12102 := Aside0.mk (ltB_ hg BK12102.out).symm
            have NB12103_12131 := Aside0.mk (ltB_ hg BK12103.out)
            have NB12131_12103 := Aside0.mk (ltB_ hg BK12103.out).symm
            have NB12113_12131 := Aside0.mk (ltB_ hg BK12113.out)
            have NB12131_12113 := Aside0.mk (ltB_ hg BK12113.out).symm
            have NB12130_12131 := Aside0.mk (ltB_ hg BK12130.out)
            have NB12131_12130 := Aside0.mk (ltB_ hg BK12130.out).symm
            replace HO12112 := Aside0.mk (Kd.R_below (pR_ HO12112.out) hb)
            replace HO12121 := Aside0.mk (Kd.R_below (pR_ HO12121.out) hb)
            replace BK12101 := Aside0.mk (blk_below (pB_ BK12101.out) hb)
            replace BK12102 := Aside0.mk (blk_below (pB_ BK12102.out) hb)
            replace BK12103 := Aside0.mk (blk_below (pB_ BK12103.out) hb)
            replace BK12113 := Aside0.mk (blk_below (pB_ BK12113.out) hb)
            replace BK12130 := Aside0.mk (blk_below (pB_ BK12130.out) hb)
            replace HB := Aside0.mk (below_step (pH_ HB.out) hb)
            clear hb hbox hg
            refine hK.out _ _ ⟨(blk_cell BK12113.out 0).trans rfl, (blk_cell BK12113.out 1).trans rfl, (blk_cell BK12113.out 2).trans rfl, (blk_cell BK12113.out 3).trans rfl, (blk_cell BK12113.out 4).trans rfl, (blk_cell BK12113.out 5).trans rfl, (blk_cell BK12102.out 0).trans rfl, (blk_cell BK12102.out 1).trans rfl, (blk_cell BK12102.out 2).trans rfl, (blk_cell BK12102.out 3).trans rfl, (blk_cell BK12102.out 4).trans rfl, (blk_cell BK12102.out 5).trans rfl, (blk_cell BK12103.out 0).trans rfl, (blk_cell BK12103.out 1).trans rfl, (blk_cell BK12103.out 2).trans rfl, (blk_cell BK12103.out 3).trans rfl, (blk_cell BK12103.out 4).trans rfl, (blk_cell BK12103.out 5).trans rfl⟩ (fun hHeld => ?_)
            clear hK K
            refine norm_ (a' := ?_) ?_ ?_
            rotate_left
            · show Act.put _ (some 13) _ = _
              simp only [Act.put, List.setIfInBounds_toArray, List.set_cons_zero, List.set_cons_succ, i64_w, i32_w]
              rfl
            exact norm2_ (hJ3_8_9 (v12120, gb12130, gb12131) _ ⟨hHeld, (pR_ HO12112.out), (pR_ HO12121.out), (pB_ BK12101.out), (pB_ BK12102.out), (pB_ BK12103.out), (pB_ BK12113.out), (pB_ BK12130.out), (pB_ BK12131.out), GW12130.out, GE12130.out, NB12101_12130.out, NB12130_12101.out, NB12102_12130.out, NB12130_12102.out, NB12103_12130.out, NB12130_12103.out, NB12113_12130.out, NB12130_12113.out, NB12131_12130.out, NB12130_12131.out, GW12131.out, GE12131.out, NB12101_12131.out, NB12131_12101.out, NB12102_12131.out, NB12131_12102.out, NB12103_12131.out, NB12131_12103.out, NB12113_12131.out, NB12131_12113.out, (pH_ HB.out)⟩)
          skip
          rintro ⟨v12120, v12128⟩ w37 ⟨hS_, h0_, h1_, h2_, h3_, h4_, h5_, h6_, h7_⟩
          have n0_ : Aside0 (Kd.R (Kd.int .i64) 3 w37 w.heap.size (fun _ => True) (.slice Ao32 t12110.length co32) t12110) := ⟨h0_⟩
          have n1_ : Aside0 (Kd.R k26 26 w37 w.heap.size (fun k_ => some k_ ≠ (v12128 : Value).ownBlock) v12120 t12119) := ⟨h1_⟩
          have n2_ : Aside0 (Kd.R k26 26 w37 w.heap.size (fun k_ => some k_ ≠ (v12120 : Value).ownBlock) v12128 t12127) := ⟨h2_⟩
          have n3_ : Aside0 (w37.heap[gb12101]? = some (.cells #[.int .i64 a0_0, .int .i64 a0_1, .int .i64 a0_2, .int .i64 a0_3, .int .i64 a0_4, .slice A0_5 l0_5.length c0_5] 24 (0, 0))) := ⟨h3_⟩
          have n4_ : Aside0 (w37.heap[gb12102]? = some (.cells #[.int .i64 a1_0, .int .i64 a1_1, .int .i64 a1_2, .int .i64 a1_3, .int .i64 a1_4, .slice A1_5 l1_5.length c1_5] 29 (0, 0))) := ⟨h4_⟩
          have n5_ : Aside0 (w37.heap[gb12103]? = some (.cells #[.int .i64 a2_0, .int .i64 a2_1, .int .i64 a2_2, .int .i64 a2_3, .int .i64 a2_4, .slice A2_5 l2_5.length c2_5] 29 (0, 0))) := ⟨h5_⟩
          have n6_ : Aside0 (w37.heap[gb12113]? = some (.cells #[.int .i64 t12105, .int .i64 t12106, .int .i64 t12107, .int .i64 t12108, .int .i64 t12109, .slice Ao32 t12110.length co32] 24 (0, 0))) := ⟨h6_⟩
          have n7_ : Aside0 (Below w.heap.size w w37) := ⟨h7_⟩
          clear HO12112
          clear BK12101
          clear BK12102
          clear BK12103
          clear BK12113
          clear HB
          clear h0_ h1_ h2_ h3_ h4_ h5_ h6_ h7_
          have HO12112 := n0_
          have HO12121 := n1_
          have HO12129 := n2_
          have BK12101 := n3_
          have BK12102 := n4_
          have BK12103 := n5_
          have BK12113 := n6_
          have HB := n7_
          clear n0_ n1_ n2_ n3_ n4_ n5_ n6_ n7_
          have hHeld : w37.cell? ⟨gb12113, 0, none⟩ = some (.int .i64 t12105) ∧ w37.cell? ⟨gb12113, 1, none⟩ = some (.int .i64 t12106) ∧ w37.cell? ⟨gb12113, 2, none⟩ = some (.int .i64 t12107) ∧ w37.cell? ⟨gb12113, 3, none⟩ = some (.int .i64 t12108) ∧ w37.cell? ⟨gb12113, 4, none⟩ = some (.int .i64 t12109) ∧ w37.cell? ⟨gb12113, 5, none⟩ = some (.slice Ao32 t12110.length co32) ∧ w37.cell? ⟨gb12102, 0, none⟩ = some (.int .i64 a1_0) ∧ w37.cell? ⟨gb12102, 1, none⟩ = some (.int .i64 a1_1) ∧ w37.cell? ⟨gb12102, 2, none⟩ = some (.int .i64 a1_2) ∧ w37.cell? ⟨gb12102, 3, none⟩ = some (.int .i64 a1_3) ∧ w37.cell? ⟨gb12102, 4, none⟩ = some (.int .i64 a1_4) ∧ w37.cell? ⟨gb12102, 5, none⟩ = some (.slice A1_5 l1_5.length c1_5) ∧ w37.cell? ⟨gb12103, 0, none⟩ = some (.int .i64 a2_0) ∧ w37.cell? ⟨gb12103, 1, none⟩ = some (.int .i64 a2_1) ∧ w37.cell? ⟨gb12103, 2, none⟩ = some (.int .i64 a2_2) ∧ w37.cell? ⟨gb12103, 3, none⟩ = some (.int .i64 a2_3) ∧ w37.cell? ⟨gb12103, 4, none⟩ = some (.int .i64 a2_4) ∧ w37.cell? ⟨gb12103, 5, none⟩ = some (.slice A2_5 l2_5.length c2_5) := hS_
          refine norm_ (a' := ?_) ?_ ?_
          rotate_left
          · simp only [putAll, Act.put, List.setIfInBounds_toArray, List.set_cons_zero, List.set_cons_succ]
            rfl
          refine two_ (i := 8) (j := 9) (Ni := some 12) (Nj := some 13) #[true, true, true, true, true, true, true, true, true, false, false, false] #[true, true, true, true, true, true, true, true, false, true, false, false] rfl rfl rfl rfl (two_of HT_.out (by kernel_rfl)) (by decide) (by decide) (fun K hK => ?_) (fun K hK => ?_)
          · skip
            refine box_step ?hg (N := 12) ?hd (cs := #[.int .i64 0, .int .i64 0, .int .i64 0, .int .i64 0, .int .i64 0, .slice none 0 0]) (t := 29) ?hr ?_; (case hd => rfl); (case hg => rfl); (case hr => first | (go_simp; done) | (go_simp; rfl))
            intro gb12130 hg w38 hbox hb
            have BK12130 := Aside0.mk (hbox)
            have GW12130 := Aside0.mk ((by rw [hg]; exact (below_size (pH_ HB.out)) : w.heap.size ≤ gb12130))
            have GE12130 := Aside0.mk ((by rw [hg]; exact (below_size (pH_ HB.out)) : w.heap.size ≤ gb12130))
            have NB12101_12130 := Aside0.mk (ltB_ hg BK12101.out)
            have NB12130_12101 := Aside0.mk (ltB_ hg BK12101.out).symm
            have NB12102_12130 := Aside0.mk (ltB_ hg BK12102.out)
            have NB12130_12102 := Aside0.mk (ltB_ hg BK12102.out).symm
            have NB12103_12130 := Aside0.mk (ltB_ hg BK12103.out)
            have NB12130_12103 := Aside0.mk (ltB_ hg BK12103.out).symm
            have NB12113_12130 := Aside0.mk (ltB_ hg BK12113.out)
            have NB12130_12113 := Aside0.mk (ltB_ hg BK12113.out).symm
            replace HO12112 := Aside0.mk (Kd.R_below (pR_ HO12112.out) hb)
            replace HO12121 := Aside0.mk (Kd.R_below (pR_ HO12121.out) hb)
            replace HO12129 := Aside0.mk (Kd.R_below (pR_ HO12129.out) hb)
            replace BK12101 := Aside0.mk (blk_below (pB_ BK12101.out) hb)
            replace BK12102 := Aside0.mk (blk_below (pB_ BK12102.out) hb)
            replace BK12103 := Aside0.mk (blk_below (pB_ BK12103.out) hb)
            replace BK12113 := Aside0.mk (blk_below (pB_ BK12113.out) hb)
            replace HB := Aside0.mk (below_step (pH_ HB.out) hb)
            clear hb hbox hg
            refine hK.out _ _ ⟨(blk_cell BK12113.out 0).trans rfl, (blk_cell BK12113.out 1).trans rfl, (blk_cell BK12113.out 2).trans rfl, (blk_cell BK12113.out 3).trans rfl, (blk_cell BK12113.out 4).trans rfl, (blk_cell BK12113.out 5).trans rfl, (blk_cell BK12102.out 0).trans rfl, (blk_cell BK12102.out 1).trans rfl, (blk_cell BK12102.out 2).trans rfl, (blk_cell BK12102.out 3).trans rfl, (blk_cell BK12102.out 4).trans rfl, (blk_cell BK12102.out 5).trans rfl, (blk_cell BK12103.out 0).trans rfl, (blk_cell BK12103.out 1).trans rfl, (blk_cell BK12103.out 2).trans rfl, (blk_cell BK12103.out 3).trans rfl, (blk_cell BK12103.out 4).trans rfl, (blk_cell BK12103.out 5).trans rfl⟩ (fun hHeld => ?_)
            clear hK K
            refine norm_ (a' := ?_) ?_ ?_
            rotate_left
            · show Act.put _ (some 12) _ = _
              simp only [Act.put, List.setIfInBounds_toArray, List.set_cons_zero, List.set_cons_succ, i64_w, i32_w]
              rfl
            exact norm2_ (hJ3_7_8 (v12120, v12128, gb12130) _ ⟨hHeld, (pR_ HO12112.out), (pR_ HO12121.out), (pR_ HO12129.out), (pB_ BK12101.out), (pB_ BK12102.out), (pB_ BK12103.out), (pB_ BK12113.out), (pB_ BK12130.out), GW12130.out, GE12130.out, NB12101_12130.out, NB12130_12101.out, NB12102_12130.out, NB12130_12102.out, NB12103_12130.out, NB12130_12103.out, NB12113_12130.out, NB12130_12113.out, (pH_ HB.out)⟩)
          skip
          refine box_step ?hg (N := 13) ?hd (cs := #[.int .i64 0, .int .i64 0, .int .i64 0, .int .i64 0, .int .i64 0, .slice none 0 0]) (t := 29) ?hr ?_; (case hd => rfl); (case hg => rfl); (case hr => first | (go_simp; done) | (go_simp; rfl))
          intro gb12131 hg w38 hbox hb
          have BK12131 := Aside0.mk (hbox)
          have GW12131 := Aside0.mk ((by rw [hg]; exact (below_size (pH_ HB.out)) : w.heap.size ≤ gb12131))
          have GE12131 := Aside0.mk ((by rw [hg]; exact (below_size (pH_ HB.out)) : w.heap.size ≤ gb12131))
          have NB12101_12131 := Aside0.mk (ltB_ hg BK12101.out)
          have NB12131_12101 := Aside0.mk (ltB_ hg BK12101.out).symm
          have NB12102_12131 := Aside0.mk (ltB_ hg BK12102.out)
          have NB12131_12102 := Aside0.mk (ltB_ hg BK12102.out).symm
          have NB12103_12131 := Aside0.mk (ltB_ hg BK12103.out)
          have NB12131_12103 := Aside0.mk (ltB_ hg BK12103.out).symm
          have NB12113_12131 := Aside0.mk (ltB_ hg BK12113.out)
          have NB12131_12113 := Aside0.mk (ltB_ hg BK12113.out).symm
          replace HO12112 := Aside0.mk (Kd.R_below (pR_ HO12112.out) hb)
          replace HO12121 := Aside0.mk (Kd.R_below (pR_ HO12121.out) hb)
          replace HO12129 := Aside0.mk (Kd.R_below (pR_ HO12129.out) hb)
          replace BK12101 := Aside0.mk (blk_below (pB_ BK12101.out) hb)
          replace BK12102 := Aside0.mk (blk_below (pB_ BK12102.out) hb)
          replace BK12103 := Aside0.mk (blk_below (pB_ BK12103.out) hb)
          replace BK12113 := Aside0.mk (blk_below (pB_ BK12113.out) hb)
          replace HB := Aside0.mk (below_step (pH_ HB.out) hb)
          clear hb hbox hg
          refine hK.out _ _ ⟨(blk_cell BK12113.out 0).trans rfl, (blk_cell BK12113.out 1).trans rfl, (blk_cell BK12113.out 2).trans rfl, (blk_cell BK12113.out 3).trans rfl, (blk_cell BK12113.out 4).trans rfl, (blk_cell BK12113.out 5).trans rfl, (blk_cell BK12102.out 0).trans rfl, (blk_cell BK12102.out 1).trans rfl, (blk_cell BK12102.out 2).trans rfl, (blk_cell BK12102.out 3).trans rfl, (blk_cell BK12102.out 4).trans rfl, (blk_cell BK12102.out 5).trans rfl, (blk_cell BK12103.out 0).trans rfl, (blk_cell BK12103.out 1).trans rfl, (blk_cell BK12103.out 2).trans rfl, (blk_cell BK12103.out 3).trans rfl, (blk_cell BK12103.out 4).trans rfl, (blk_cell BK12103.out 5).trans rfl⟩ (fun hHeld => ?_)
          clear hK K
          refine norm_ (a' := ?_) ?_ ?_
          rotate_left
          · show Act.put _ (some 13) _ = _
            simp only [Act.put, List.setIfInBounds_toArray, List.set_cons_zero, List.set_cons_succ, i64_w, i32_w]
            rfl
          exact norm2_ (hJ3_7_9 (v12120, v12128, gb12131) _ ⟨hHeld, (pR_ HO12112.out), (pR_ HO12121.out), (pR_ HO12129.out), (pB_ BK12101.out), (pB_ BK12102.out), (pB_ BK12103.out), (pB_ BK12113.out), (pB_ BK12131.out), GW12131.out, GE12131.out, NB12101_12131.out, NB12131_12101.out, NB12102_12131.out, NB12131_12102.out, NB12103_12131.out, NB12131_12103.out, NB12113_12131.out, NB12131_12113.out, (pH_ HB.out)⟩)
        skip
        rintro ⟨v12120, gb12130, gb12131⟩ w38 ⟨hS_, h0_, h1_, h2_, h3_, h4_, h5_, h6_, h7_, h8_, h9_, h10_, h11_, h12_, h13_, h14_, h15_, h16_, h17_, h18_, h19_, h20_, h21_, h22_, h23_, h24_, h25_, h26_, h27_, h28_, h29_, h30_⟩
        have n0_ : Aside0 (Kd.R (Kd.int .i64) 3 w38 w.heap.size (fun _ => True) (.slice Ao32 t12110.length co32) t12110) := ⟨h0_⟩
        have n1_ : Aside0 (Kd.R k26 26 w38 w.heap.size (fun _ => True) v12120 t12119) := ⟨h1_⟩
        have n2_ : Aside0 (w38.heap[gb12101]? = some (.cells #[.int .i64 a0_0, .int .i64 a0_1, .int .i64 a0_2, .int .i64 a0_3, .int .i64 a0_4, .slice A0_5 l0_5.length c0_5] 24 (0, 0))) := ⟨h2_⟩
        have n3_ : Aside0 (w38.heap[gb12102]? = some (.cells #[.int .i64 a1_0, .int .i64 a1_1, .int .i64 a1_2, .int .i64 a1_3, .int .i64 a1_4, .slice A1_5 l1_5.length c1_5] 29 (0, 0))) := ⟨h3_⟩
        have n4_ : Aside0 (w38.heap[gb12103]? = some (.cells #[.int .i64 a2_0, .int .i64 a2_1, .int .i64 a2_2, .int .i64 a2_3, .int .i64 a2_4, .slice A2_5 l2_5.length c2_5] 29 (0, 0))) := ⟨h4_⟩
        have n5_ : Aside0 (w38.heap[gb12113]? = some (.cells #[.int .i64 t12105, .int .i64 t12106, .int .i64 t12107, .int .i64 t12108, .int .i64 t12109, .slice Ao32 t12110.length co32] 24 (0, 0))) := ⟨h5_⟩
        have n6_ : Aside0 (w38.heap[gb12130]? = some (.cells #[.int .i64 0, .int .i64 0, .int .i64 0, .int .i64 0, .int .i64 0, .slice none 0 0] 29 (0, 0))) := ⟨h6_⟩
        have n7_ : Aside0 (w38.heap[gb12131]? = some (.cells #[.int .i64 0, .int .i64 0, .int .i64 0, .int .i64 0, .int .i64 0, .slice none 0 0] 29 (0, 0))) := ⟨h7_⟩
        have n8_ : Aside0 (w.heap.size ≤ gb12130) := ⟨h8_⟩
        have n9_ : Aside0 (w.heap.size ≤ gb12130) := ⟨h9_⟩
        have n10_ : Aside0 (gb12101 ≠ gb12130) := ⟨h10_⟩
        have n11_ : Aside0 (gb12130 ≠ gb12101) := ⟨h11_⟩
        have n12_ : Aside0 (gb12102 ≠ gb12130) := ⟨h12_⟩
        have n13_ : Aside0 (gb12130 ≠ gb12102) := ⟨h13_⟩
        have n14_ : Aside0 (gb12103 ≠ gb12130) := ⟨h14_⟩
        have n15_ : Aside0 (gb12130 ≠ gb12103) := ⟨h15_⟩
        have n16_ : Aside0 (gb12113 ≠ gb12130) := ⟨h16_⟩
        have n17_ : Aside0 (gb12130 ≠ gb12113) := ⟨h17_⟩
        have n18_ : Aside0 (gb12131 ≠ gb12130) := ⟨h18_⟩
        have n19_ : Aside0 (gb12130 ≠ gb12131) := ⟨h19_⟩
        have n20_ : Aside0 (w.heap.size ≤ gb12131) := ⟨h20_⟩
        have n21_ : Aside0 (w.heap.size ≤ gb12131) := ⟨h21_⟩
        have n22_ : Aside0 (gb12101 ≠ gb12131) := ⟨h22_⟩
        have n23_ : Aside0 (gb12131 ≠ gb12101) := ⟨h23_⟩
        have n24_ : Aside0 (gb12102 ≠ gb12131) := ⟨h24_⟩
        have n25_ : Aside0 (gb12131 ≠ gb12102) := ⟨h25_⟩
        have n26_ : Aside0 (gb12103 ≠ gb12131) := ⟨h26_⟩
        have n27_ : Aside0 (gb12131 ≠ gb12103) := ⟨h27_⟩
        have n28_ : Aside0 (gb12113 ≠ gb12131) := ⟨h28_⟩
        have n29_ : Aside0 (gb12131 ≠ gb12113) := ⟨h29_⟩
        have n30_ : Aside0 (Below w.heap.size w w38) := ⟨h30_⟩
        clear HO12112
        clear BK12101
        clear BK12102
        clear BK12103
        clear BK12113
        clear HB
        clear h0_ h1_ h2_ h3_ h4_ h5_ h6_ h7_ h8_ h9_ h10_ h11_ h12_ h13_ h14_ h15_ h16_ h17_ h18_ h19_ h20_ h21_ h22_ h23_ h24_ h25_ h26_ h27_ h28_ h29_ h30_
        have HO12112 := n0_
        have HO12121 := n1_
        have BK12101 := n2_
        have BK12102 := n3_
        have BK12103 := n4_
        have BK12113 := n5_
        have BK12130 := n6_
        have BK12131 := n7_
        have GW12130 := n8_
        have GE12130 := n9_
        have NB12101_12130 := n10_
        have NB12130_12101 := n11_
        have NB12102_12130 := n12_
        have NB12130_12102 := n13_
        have NB12103_12130 := n14_
        have NB12130_12103 := n15_
        have NB12113_12130 := n16_
        have NB12130_12113 := n17_
        have NB12131_12130 := n18_
        have NB12130_12131 := n19_
        have GW12131 := n20_
        have GE12131 := n21_
        have NB12101_12131 := n22_
        have NB12131_12101 := n23_
        have NB12102_12131 := n24_
        have NB12131_12102 := n25_
        have NB12103_12131 := n26_
        have NB12131_12103 := n27_
        have NB12113_12131 := n28_
        have NB12131_12113 := n29_
        have HB := n30_
        clear n0_ n1_ n2_ n3_ n4_ n5_ n6_ n7_ n8_ n9_ n10_ n11_ n12_ n13_ n14_ n15_ n16_ n17_ n18_ n19_ n20_ n21_ n22_ n23_ n24_ n25_ n26_ n27_ n28_ n29_ n30_
        have hHeld : w38.cell? ⟨gb12113, 0, none⟩ = some (.int .i64 t12105) ∧ w38.cell? ⟨gb12113, 1, none⟩ = some (.int .i64 t12106) ∧ w38.cell? ⟨gb12113, 2, none⟩ = some (.int .i64 t12107) ∧ w38.cell? ⟨gb12113, 3, none⟩ = some (.int .i64 t12108) ∧ w38.cell? ⟨gb12113, 4, none⟩ = some (.int .i64 t12109) ∧ w38.cell? ⟨gb12113, 5, none⟩ = some (.slice Ao32 t12110.length co32) ∧ w38.cell? ⟨gb12102, 0, none⟩ = some (.int .i64 a1_0) ∧ w38.cell? ⟨gb12102, 1, none⟩ = some (.int .i64 a1_1) ∧ w38.cell? ⟨gb12102, 2, none⟩ = some (.int .i64 a1_2) ∧ w38.cell? ⟨gb12102, 3, none⟩ = some (.int .i64 a1_3) ∧ w38.cell? ⟨gb12102, 4, none⟩ = some (.int .i64 a1_4) ∧ w38.cell? ⟨gb12102, 5, none⟩ = some (.slice A1_5 l1_5.length c1_5) ∧ w38.cell? ⟨gb12103, 0, none⟩ = some (.int .i64 a2_0) ∧ w38.cell? ⟨gb12103, 1, none⟩ = some (.int .i64 a2_1) ∧ w38.cell? ⟨gb12103, 2, none⟩ = some (.int .i64 a2_2) ∧ w38.cell? ⟨gb12103, 3, none⟩ = some (.int .i64 a2_3) ∧ w38.cell? ⟨gb12103, 4, none⟩ = some (.int .i64 a2_4) ∧ w38.cell? ⟨gb12103, 5, none⟩ = some (.slice A2_5 l2_5.length c2_5) := hS_
        refine norm_ (a' := ?_) ?_ ?_
        rotate_left
        · simp only [putAll, Act.put, List.setIfInBounds_toArray, List.set_cons_zero, List.set_cons_succ]
          rfl
        refine one_ (i := 7) (N := some 26) #[true, true, true, true, true, true, true, true, true, true, false, false] rfl rfl (one_of HT_.out (by kernel_rfl)) (by decide) (fun K hK => ?_)
        refine goes_ Try.func21 (by kernel_rfl) rfl #[.agg #[.int .i64 t12105, .int .i64 t12106, .int .i64 t12107, .int .i64 t12108, .int .i64 t12109, .slice Ao32 t12110.length co32], .agg #[.int .i64 a2_0, .int .i64 a2_1, .int .i64 a2_2, .int .i64 a2_3, .int .i64 a2_4, .slice A2_5 l2_5.length c2_5], .slice A4 l4.length c4] (by rfl) rfl rfl (by (try simp only [List.map_toArray, List.map_cons, List.map_nil]); first | done | rfl | (simp only [List.length_drop, List.length_take]; rfl)) ?_
        with_reducible refine (plaitinglaw5_Make.calls k t12105 t12106 t12107 t12108 t12109 _ _ t12110 a2_0 a2_1 a2_2 a2_3 a2_4 _ _ l2_5 _ _ l4 t12122 t12123 t12124 t12125 t12126 t12127 _ ?side1 ?side2 ?side3 ?side4 ?side5 ?side6 A10.out).mono ?_
        (case side1 => repeat (first | exact (Kd.R_reads' HO12112.out).2.2 | (with_reducible refine Kd.C_alloc ?_ _) | (with_reducible refine Kd.C_drewN ?_ _) | (with_reducible refine Kd.C_drew ?_)))
        (case side2 => exact (Kd.R_reads' HO12112.out).2.1)
        (case side3 => repeat (first | exact (Kd.C_below HR2_5.out HB.out) | (with_reducible refine Kd.C_alloc ?_ _) | (with_reducible refine Kd.C_drewN ?_ _) | (with_reducible refine Kd.C_drew ?_)))
        (case side4 => exact HC2_5.out)
        (case side5 => repeat (first | exact (Kd.C_below HR4.out HB.out) | (with_reducible refine Kd.C_alloc ?_ _) | (with_reducible refine Kd.C_drewN ?_ _) | (with_reducible refine Kd.C_drew ?_)))
        (case side6 => exact HC4.out)
        rintro e w39 ⟨v12128, rfl, ho0, hb⟩
        refine ⟨_, rfl, ?_⟩
        have HO12129 := Aside0.mk (Kd.R_lower (Kd.R_new' ho0 (Kd.R_lt (pR_ HO12121.out))) (below_size (pH_ HB.out)))
        replace HO12112 := Aside0.mk (Kd.R_below (pR_ HO12112.out) hb)
        replace HO12121 := Aside0.mk (Kd.R_elder' (pR_ HO12121.out) (Kd.R_base ho0) hb)
        replace BK12101 := Aside0.mk (blk_below (pB_ BK12101.out) hb)
        replace BK12102 := Aside0.mk (blk_below (pB_ BK12102.out) hb)
        replace BK12103 := Aside0.mk (blk_below (pB_ BK12103.out) hb)
        replace BK12113 := Aside0.mk (blk_below (pB_ BK12113.out) hb)
        replace BK12130 := Aside0.mk (blk_below (pB_ BK12130.out) hb)
        replace BK12131 := Aside0.mk (blk_below (pB_ BK12131.out) hb)
        replace HB := Aside0.mk (below_step (pH_ HB.out) hb)
        (try clear hb)
        (try clear hb2)
        (try clear hk)
        (try clear hi)
        (try clear ho0)
        refine hK.out _ _ ⟨(blk_cell BK12113.out 0).trans rfl, (blk_cell BK12113.out 1).trans rfl, (blk_cell BK12113.out 2).trans rfl, (blk_cell BK12113.out 3).trans rfl, (blk_cell BK12113.out 4).trans rfl, (blk_cell BK12113.out 5).trans rfl, (blk_cell BK12102.out 0).trans rfl, (blk_cell BK12102.out 1).trans rfl, (blk_cell BK12102.out 2).trans rfl, (blk_cell BK12102.out 3).trans rfl, (blk_cell BK12102.out 4).trans rfl, (blk_cell BK12102.out 5).trans rfl, (blk_cell BK12103.out 0).trans rfl, (blk_cell BK12103.out 1).trans rfl, (blk_cell BK12103.out 2).trans rfl, (blk_cell BK12103.out 3).trans rfl, (blk_cell BK12103.out 4).trans rfl, (blk_cell BK12103.out 5).trans rfl⟩ (fun hHeld => ?_)
        clear hK K
        refine norm_ (a' := ?_) ?_ ?_
        rotate_left
        · show Act.put _ (some 26) _ = _
          simp only [Act.put, List.setIfInBounds_toArray, List.set_cons_zero, List.set_cons_succ, i64_w, i32_w]
          rfl
        exact norm2_ (hJ3_7_8_9 (v12120, v12128, gb12130, gb12131) _ ⟨hHeld, (pR_ HO12112.out), (by (with_reducible repeat (first | apply Kd.R_alloc | apply Kd.R_drewN | apply Kd.R_drew)); exact Kd.R_mono HO12121.out (fun _ hk => hk.2)), (by (with_reducible repeat (first | apply Kd.R_alloc | apply Kd.R_drewN | apply Kd.R_drew)); exact Kd.R_mono HO12129.out (fun _ hk => hk.2)), (pB_ BK12101.out), (pB_ BK12102.out), (pB_ BK12103.out), (pB_ BK12113.out), (pB_ BK12130.out), (pB_ BK12131.out), GW12130.out, GE12130.out, NB12101_12130.out, NB12130_12101.out, NB12102_12130.out, NB12130_12102.out, NB12103_12130.out, NB12130_12103.out, NB12113_12130.out, NB12130_12113.out, NB12131_12130.out, NB12130_12131.out, GW12131.out, GE12131.out, NB12101_12131.out, NB12131_12101.out, NB12102_12131.out, NB12131_12102.out, NB12103_12131.out, NB12131_12103.out, NB12113_12131.out, NB12131_12113.out, (pH_ HB.out)⟩)
      skip
      rintro ⟨v12120, v12128, gb12131⟩ w38 ⟨hS_, h0_, h1_, h2_, h3_, h4_, h5_, h6_, h7_, h8_, h9_, h10_, h11_, h12_, h13_, h14_, h15_, h16_, h17_, h18_⟩
      have n0_ : Aside0 (Kd.R (Kd.int .i64) 3 w38 w.heap.size (fun _ => True) (.slice Ao32 t12110.length co32) t12110) := ⟨h0_⟩
      have n1_ : Aside0 (Kd.R k26 26 w38 w.heap.size (fun k_ => some k_ ≠ (v12128 : Value).ownBlock) v12120 t12119) := ⟨h1_⟩
      have n2_ : Aside0 (Kd.R k26 26 w38 w.heap.size (fun k_ => some k_ ≠ (v12120 : Value).ownBlock) v12128 t12127) := ⟨h2_⟩
      have n3_ : Aside0 (w38.heap[gb12101]? = some (.cells #[.int .i64 a0_0, .int .i64 a0_1, .int .i64 a0_2, .int .i64 a0_3, .int .i64 a0_4, .slice A0_5 l0_5.length c0_5] 24 (0, 0))) := ⟨h3_⟩
      have n4_ : Aside0 (w38.heap[gb12102]? = some (.cells #[.int .i64 a1_0, .int .i64 a1_1, .int .i64 a1_2, .int .i64 a1_3, .int .i64 a1_4, .slice A1_5 l1_5.length c1_5] 29 (0, 0))) := ⟨h4_⟩
      have n5_ : Aside0 (w38.heap[gb12103]? = some (.cells #[.int .i64 a2_0, .int .i64 a2_1, .int .i64 a2_2, .int .i64 a2_3, .int .i64 a2_4, .slice A2_5 l2_5.length c2_5] 29 (0, 0))) := ⟨h5_⟩
      have n6_ : Aside0 (w38.heap[gb12113]? = some (.cells #[.int .i64 t12105, .int .i64 t12106, .int .i64 t12107, .int .i64 t12108, .int .i64 t12109, .slice Ao32 t12110.length co32] 24 (0, 0))) := ⟨h6_⟩
      have n7_ : Aside0 (w38.heap[gb12131]? = some (.cells #[.int .i64 0, .int .i64 0, .int .i64 0, .int .i64 0, .int .i64 0, .slice none 0 0] 29 (0, 0))) := ⟨h7_⟩
      have n8_ : Aside0 (w.heap.size ≤ gb12131) := ⟨h8_⟩
      have n9_ : Aside0 (w.heap.size ≤ gb12131) := ⟨h9_⟩
      have n10_ : Aside0 (gb12101 ≠ gb12131) := ⟨h10_⟩
      have n11_ : Aside0 (gb12131 ≠ gb12101) := ⟨h11_⟩
      have n12_ : Aside0 (gb12102 ≠ gb12131) := ⟨h12_⟩
      have n13_ : Aside0 (gb12131 ≠ gb12102) := ⟨h13_⟩
      have n14_ : Aside0 (gb12103 ≠ gb12131) := ⟨h14_⟩
      have n15_ : Aside0 (gb12131 ≠ gb12103) := ⟨h15_⟩
      have n16_ : Aside0 (gb12113 ≠ gb12131) := ⟨h16_⟩
      have n17_ : Aside0 (gb12131 ≠ gb12113) := ⟨h17_⟩
      have n18_ : Aside0 (Below w.heap.size w w38) := ⟨h18_⟩
      clear HO12112
      clear BK12101
      clear BK12102
      clear BK12103
      clear BK12113
      clear HB
      clear h0_ h1_ h2_ h3_ h4_ h5_ h6_ h7_ h8_ h9_ h10_ h11_ h12_ h13_ h14_ h15_ h16_ h17_ h18_
      have HO12112 := n0_
      have HO12121 := n1_
      have HO12129 := n2_
      have BK12101 := n3_
      have BK12102 := n4_
      have BK12103 := n5_
      have BK12113 := n6_
      have BK12131 := n7_
      have GW12131 := n8_
      have GE12131 := n9_
      have NB12101_12131 := n10_
      have NB12131_12101 := n11_
      have NB12102_12131 := n12_
      have NB12131_12102 := n13_
      have NB12103_12131 := n14_
      have NB12131_12103 := n15_
      have NB12113_12131 := n16_
      have NB12131_12113 := n17_
      have HB := n18_
      clear n0_ n1_ n2_ n3_ n4_ n5_ n6_ n7_ n8_ n9_ n10_ n11_ n12_ n13_ n14_ n15_ n16_ n17_ n18_
      have hHeld : w38.cell? ⟨gb12113, 0, none⟩ = some (.int .i64 t12105) ∧ w38.cell? ⟨gb12113, 1, none⟩ = some (.int .i64 t12106) ∧ w38.cell? ⟨gb12113, 2, none⟩ = some (.int .i64 t12107) ∧ w38.cell? ⟨gb12113, 3, none⟩ = some (.int .i64 t12108) ∧ w38.cell? ⟨gb12113, 4, none⟩ = some (.int .i64 t12109) ∧ w38.cell? ⟨gb12113, 5, none⟩ = some (.slice Ao32 t12110.length co32) ∧ w38.cell? ⟨gb12102, 0, none⟩ = some (.int .i64 a1_0) ∧ w38.cell? ⟨gb12102, 1, none⟩ = some (.int .i64 a1_1) ∧ w38.cell? ⟨gb12102, 2, none⟩ = some (.int .i64 a1_2) ∧ w38.cell? ⟨gb12102, 3, none⟩ = some (.int .i64 a1_3) ∧ w38.cell? ⟨gb12102, 4, none⟩ = some (.int .i64 a1_4) ∧ w38.cell? ⟨gb12102, 5, none⟩ = some (.slice A1_5 l1_5.length c1_5) ∧ w38.cell? ⟨gb12103, 0, none⟩ = some (.int .i64 a2_0) ∧ w38.cell? ⟨gb12103, 1, none⟩ = some (.int .i64 a2_1) ∧ w38.cell? ⟨gb12103, 2, none⟩ = some (.int .i64 a2_2) ∧ w38.cell? ⟨gb12103, 3, none⟩ = some (.int .i64 a2_3) ∧ w38.cell? ⟨gb12103, 4, none⟩ = some (.int .i64 a2_4) ∧ w38.cell? ⟨gb12103, 5, none⟩ = some (.slice A2_5 l2_5.length c2_5) := hS_
      refine norm_ (a' := ?_) ?_ ?_
      rotate_left
      · simp only [putAll, Act.put, List.setIfInBounds_toArray, List.set_cons_zero, List.set_cons_succ]
        rfl
      refine one_ (i := 8) (N := some 12) #[true, true, true, true, true, true, true, true, true, true, false, false] rfl rfl (one_of HT_.out (by kernel_rfl)) (by decide) (fun K hK => ?_)
      refine box_step ?hg (N := 12) ?hd (cs := #[.int .i64 0, .int .i64 0, .int .i64 0, .int .i64 0, .int .i64 0, .slice none 0 0]) (t := 29) ?hr ?_; (case hd => rfl); (case hg => rfl); (case hr => first | (go_simp; done) | (go_simp; rfl))
      intro gb12130 hg w39 hbox hb
      have BK12130 := Aside0.mk (hbox)
      have GW12130 := Aside0.mk ((by rw [hg]; exact (below_size (pH_ HB.out)) : w.heap.size ≤ gb12130))
      have GE12130 := Aside0.mk ((by rw [hg]; exact (below_size (pH_ HB.out)) : w.heap.size ≤ gb12130))
      have NB12101_12130 := Aside0.mk (ltB_ hg BK12101.out)
      have NB12130_12101 := Aside0.mk (ltB_ hg BK12101.out).symm
      have NB12102_12130 := Aside0.mk (ltB_ hg BK12102.out)
      have NB12130_12102 := Aside0.mk (ltB_ hg BK12102.out).symm
      have NB12103_12130 := Aside0.mk (ltB_ hg BK12103.out)
      have NB12130_12103 := Aside0.mk (ltB_ hg BK12103.out).symm
      have NB12113_12130 := Aside0.mk (ltB_ hg BK12113.out)
      have NB12130_12113 := Aside0.mk (ltB_ hg BK12113.out).symm
      have NB12131_12130 := Aside0.mk (ltB_ hg BK12131.out)
      have NB12130_12131 := Aside0.mk (ltB_ hg BK12131.out).symm
      replace HO12112 := Aside0.mk (Kd.R_below (pR_ HO12112.out) hb)
      replace HO12121 := Aside0.mk (Kd.R_below (pR_ HO12121.out) hb)
      replace HO12129 := Aside0.mk (Kd.R_below (pR_ HO12129.out) hb)
      replace BK12101 := Aside0.mk (blk_below (pB_ BK12101.out) hb)
      replace BK12102 := Aside0.mk (blk_below (pB_ BK12102.out) hb)
      replace BK12103 := Aside0.mk (blk_below (pB_ BK12103.out) hb)
      replace BK12113 := Aside0.mk (blk_below (pB_ BK12113.out) hb)
      replace BK12131 := Aside0.mk (blk_below (pB_ BK12131.out) hb)
      replace HB := Aside0.mk (below_step (pH_ HB.out) hb)
      clear hb hbox hg
      refine hK.out _ _ ⟨(blk_cell BK12113.out 0).trans rfl, (blk_cell BK12113.out 1).trans rfl, (blk_cell BK12113.out 2).trans rfl, (blk_cell BK12113.out 3).trans rfl, (blk_cell BK12113.out 4).trans rfl, (blk_cell BK12113.out 5).trans rfl, (blk_cell BK12102.out 0).trans rfl, (blk_cell BK12102.out 1).trans rfl, (blk_cell BK12102.out 2).trans rfl, (blk_cell BK12102.out 3).trans rfl, (blk_cell BK12102.out 4).trans rfl, (blk_cell BK12102.out 5).trans rfl, (blk_cell BK12103.out 0).trans rfl, (blk_cell BK12103.out 1).trans rfl, (blk_cell BK12103.out 2).trans rfl, (blk_cell BK12103.out 3).trans rfl, (blk_cell BK12103.out 4).trans rfl, (blk_cell BK12103.out 5).trans rfl⟩ (fun hHeld => ?_)
      clear hK K
      refine norm_ (a' := ?_) ?_ ?_
      rotate_left
      · show Act.put _ (some 12) _ = _
        simp only [Act.put, List.setIfInBounds_toArray, List.set_cons_zero, List.set_cons_succ, i64_w, i32_w]
        rfl
      exact norm2_ (hJ3_7_8_9 (v12120, v12128, gb12130, gb12131) _ ⟨hHeld, (pR_ HO12112.out), (pR_ HO12121.out), (pR_ HO12129.out), (pB_ BK12101.out), (pB_ BK12102.out), (pB_ BK12103.out), (pB_ BK12113.out), (pB_ BK12130.out), (pB_ BK12131.out), GW12130.out, GE12130.out, NB12101_12130.out, NB12130_12101.out, NB12102_12130.out, NB12130_12102.out, NB12103_12130.out, NB12130_12103.out, NB12113_12130.out, NB12130_12113.out, NB12131_12130.out, NB12130_12131.out, GW12131.out, GE12131.out, NB12101_12131.out, NB12131_12101.out, NB12102_12131.out, NB12131_12102.out, NB12103_12131.out, NB12131_12103.out, NB12113_12131.out, NB12131_12113.out, (pH_ HB.out)⟩)
    skip
    rintro ⟨v12120, v12128, gb12130⟩ w38 ⟨hS_, h0_, h1_, h2_, h3_, h4_, h5_, h6_, h7_, h8_, h9_, h10_, h11_, h12_, h13_, h14_, h15_, h16_, h17_, h18_⟩
    have n0_ : Aside0 (Kd.R (Kd.int .i64) 3 w38 w.heap.size (fun _ => True) (.slice Ao32 t12110.length co32) t12110) := ⟨h0_⟩
    have n1_ : Aside0 (Kd.R k26 26 w38 w.heap.size (fun k_ => some k_ ≠ (v12128 : Value).ownBlock) v12120 t12119) := ⟨h1_⟩
    have n2_ : Aside0 (Kd.R k26 26 w38 w.heap.size (fun k_ => some k_ ≠ (v12120 : Value).ownBlock) v12128 t12127) := ⟨h2_⟩
    have n3_ : Aside0 (w38.heap[gb12101]? = some (.cells #[.int .i64 a0_0, .int .i64 a0_1, .int .i64 a0_2, .int .i64 a0_3, .int .i64 a0_4, .slice A0_5 l0_5.length c0_5] 24 (0, 0))) := ⟨h3_⟩
    have n4_ : Aside0 (w38.heap[gb12102]? = some (.cells #[.int .i64 a1_0, .int .i64 a1_1, .int .i64 a1_2, .int .i64 a1_3, .int .i64 a1_4, .slice A1_5 l1_5.length c1_5] 29 (0, 0))) := ⟨h4_⟩
    have n5_ : Aside0 (w38.heap[gb12103]? = some (.cells #[.int .i64 a2_0, .int .i64 a2_1, .int .i64 a2_2, .int .i64 a2_3, .int .i64 a2_4, .slice A2_5 l2_5.length c2_5] 29 (0, 0))) := ⟨h5_⟩
    have n6_ : Aside0 (w38.heap[gb12113]? = some (.cells #[.int .i64 t12105, .int .i64 t12106, .int .i64 t12107, .int .i64 t12108, .int .i64 t12109, .slice Ao32 t12110.length co32] 24 (0, 0))) := ⟨h6_⟩
    have n7_ : Aside0 (w38.heap[gb12130]? = some (.cells #[.int .i64 0, .int .i64 0, .int .i64 0, .int .i64 0, .int .i64 0, .slice none 0 0] 29 (0, 0))) := ⟨h7_⟩
    have n8_ : Aside0 (w.heap.size ≤ gb12130) := ⟨h8_⟩
    have n9_ : Aside0 (w.heap.size ≤ gb12130) := ⟨h9_⟩
    have n10_ : Aside0 (gb12101 ≠ gb12130) := ⟨h10_⟩
    have n11_ : Aside0 (gb12130 ≠ gb12101) := ⟨h11_⟩
    have n12_ : Aside0 (gb12102 ≠ gb12130) := ⟨h12_⟩
    have n13_ : Aside0 (gb12130 ≠ gb12102) := ⟨h13_⟩
    have n14_ : Aside0 (gb12103 ≠ gb12130) := ⟨h14_⟩
    have n15_ : Aside0 (gb12130 ≠ gb12103) := ⟨h15_⟩
    have n16_ : Aside0 (gb12113 ≠ gb12130) := ⟨h16_⟩
    have n17_ : Aside0 (gb12130 ≠ gb12113) := ⟨h17_⟩
    have n18_ : Aside0 (Below w.heap.size w w38) := ⟨h18_⟩
    clear HO12112
    clear BK12101
    clear BK12102
    clear BK12103
    clear BK12113
    clear HB
    clear h0_ h1_ h2_ h3_ h4_ h5_ h6_ h7_ h8_ h9_ h10_ h11_ h12_ h13_ h14_ h15_ h16_ h17_ h18_
    have HO12112 := n0_
    have HO12121 := n1_
    have HO12129 := n2_
    have BK12101 := n3_
    have BK12102 := n4_
    have BK12103 := n5_
    have BK12113 := n6_
    have BK12130 := n7_
    have GW12130 := n8_
    have GE12130 := n9_
    have NB12101_12130 := n10_
    have NB12130_12101 := n11_
    have NB12102_12130 := n12_
    have NB12130_12102 := n13_
    have NB12103_12130 := n14_
    have NB12130_12103 := n15_
    have NB12113_12130 := n16_
    have NB12130_12113 := n17_
    have HB := n18_
    clear n0_ n1_ n2_ n3_ n4_ n5_ n6_ n7_ n8_ n9_ n10_ n11_ n12_ n13_ n14_ n15_ n16_ n17_ n18_
    have hHeld : w38.cell? ⟨gb12113, 0, none⟩ = some (.int .i64 t12105) ∧ w38.cell? ⟨gb12113, 1, none⟩ = some (.int .i64 t12106) ∧ w38.cell? ⟨gb12113, 2, none⟩ = some (.int .i64 t12107) ∧ w38.cell? ⟨gb12113, 3, none⟩ = some (.int .i64 t12108) ∧ w38.cell? ⟨gb12113, 4, none⟩ = some (.int .i64 t12109) ∧ w38.cell? ⟨gb12113, 5, none⟩ = some (.slice Ao32 t12110.length co32) ∧ w38.cell? ⟨gb12102, 0, none⟩ = some (.int .i64 a1_0) ∧ w38.cell? ⟨gb12102, 1, none⟩ = some (.int .i64 a1_1) ∧ w38.cell? ⟨gb12102, 2, none⟩ = some (.int .i64 a1_2) ∧ w38.cell? ⟨gb12102, 3, none⟩ = some (.int .i64 a1_3) ∧ w38.cell? ⟨gb12102, 4, none⟩ = some (.int .i64 a1_4) ∧ w38.cell? ⟨gb12102, 5, none⟩ = some (.slice A1_5 l1_5.length c1_5) ∧ w38.cell? ⟨gb12103, 0, none⟩ = some (.int .i64 a2_0) ∧ w38.cell? ⟨gb12103, 1, none⟩ = some (.int .i64 a2_1) ∧ w38.cell? ⟨gb12103, 2, none⟩ = some (.int .i64 a2_2) ∧ w38.cell? ⟨gb12103, 3, none⟩ = some (.int .i64 a2_3) ∧ w38.cell? ⟨gb12103, 4, none⟩ = some (.int .i64 a2_4) ∧ w38.cell? ⟨gb12103, 5, none⟩ = some (.slice A2_5 l2_5.length c2_5) := hS_
    refine norm_ (a' := ?_) ?_ ?_
    rotate_left
    · simp only [putAll, Act.put, List.setIfInBounds_toArray, List.set_cons_zero, List.set_cons_succ]
      rfl
    refine one_ (i := 9) (N := some 13) #[true, true, true, true, true, true, true, true, true, true, false, false] rfl rfl (one_of HT_.out (by kernel_rfl)) (by decide) (fun K hK => ?_)
    refine box_step ?hg (N := 13) ?hd (cs := #[.int .i64 0, .int .i64 0, .int .i64 0, .int .i64 0, .int .i64 0, .slice none 0 0]) (t := 29) ?hr ?_; (case hd => rfl); (case hg => rfl); (case hr => first | (go_simp; done) | (go_simp; rfl))
    intro gb12131 hg w39 hbox hb
    have BK12131 := Aside0.mk (hbox)
    have GW12131 := Aside0.mk ((by rw [hg]; exact (below_size (pH_ HB.out)) : w.heap.size ≤ gb12131))
    have GE12131 := Aside0.mk ((by rw [hg]; exact (below_size (pH_ HB.out)) : w.heap.size ≤ gb12131))
    have NB12101_12131 := Aside0.mk (ltB_ hg BK12101.out)
    have NB12131_12101 := Aside0.mk (ltB_ hg BK12101.out).symm
    have NB12102_12131 := Aside0.mk (ltB_ hg BK12102.out)
    have NB12131_12102 := Aside0.mk (ltB_ hg BK12102.out).symm
    have NB12103_12131 := Aside0.mk (ltB_ hg BK12103.out)
    have NB12131_12103 := Aside0.mk (ltB_ hg BK12103.out).symm
    have NB12113_12131 := Aside0.mk (ltB_ hg BK12113.out)
    have NB12131_12113 := Aside0.mk (ltB_ hg BK12113.out).symm
    have NB12130_12131 := Aside0.mk (ltB_ hg BK12130.out)
    have NB12131_12130 := Aside0.mk (ltB_ hg BK12130.out).symm
    replace HO12112 := Aside0.mk (Kd.R_below (pR_ HO12112.out) hb)
    replace HO12121 := Aside0.mk (Kd.R_below (pR_ HO12121.out) hb)
    replace HO12129 := Aside0.mk (Kd.R_below (pR_ HO12129.out) hb)
    replace BK12101 := Aside0.mk (blk_below (pB_ BK12101.out) hb)
    replace BK12102 := Aside0.mk (blk_below (pB_ BK12102.out) hb)
    replace BK12103 := Aside0.mk (blk_below (pB_ BK12103.out) hb)
    replace BK12113 := Aside0.mk (blk_below (pB_ BK12113.out) hb)
    replace BK12130 := Aside0.mk (blk_below (pB_ BK12130.out) hb)
    replace HB := Aside0.mk (below_step (pH_ HB.out) hb)
    clear hb hbox hg
    refine hK.out _ _ ⟨(blk_cell BK12113.out 0).trans rfl, (blk_cell BK12113.out 1).trans rfl, (blk_cell BK12113.out 2).trans rfl, (blk_cell BK12113.out 3).trans rfl, (blk_cell BK12113.out 4).trans rfl, (blk_cell BK12113.out 5).trans rfl, (blk_cell BK12102.out 0).trans rfl, (blk_cell BK12102.out 1).trans rfl, (blk_cell BK12102.out 2).trans rfl, (blk_cell BK12102.out 3).trans rfl, (blk_cell BK12102.out 4).trans rfl, (blk_cell BK12102.out 5).trans rfl, (blk_cell BK12103.out 0).trans rfl, (blk_cell BK12103.out 1).trans rfl, (blk_cell BK12103.out 2).trans rfl, (blk_cell BK12103.out 3).trans rfl, (blk_cell BK12103.out 4).trans rfl, (blk_cell BK12103.out 5).trans rfl⟩ (fun hHeld => ?_)
    clear hK K
    refine norm_ (a' := ?_) ?_ ?_
    rotate_left
    · show Act.put _ (some 13) _ = _
      simp only [Act.put, List.setIfInBounds_toArray, List.set_cons_zero, List.set_cons_succ, i64_w, i32_w]
      rfl
    exact norm2_ (hJ3_7_8_9 (v12120, v12128, gb12130, gb12131) _ ⟨hHeld, (pR_ HO12112.out), (pR_ HO12121.out), (pR_ HO12129.out), (pB_ BK12101.out), (pB_ BK12102.out), (pB_ BK12103.out), (pB_ BK12113.out), (pB_ BK12130.out), (pB_ BK12131.out), GW12130.out, GE12130.out, NB12101_12130.out, NB12130_12101.out, NB12102_12130.out, NB12130_12102.out, NB12103_12130.out, NB12130_12103.out, NB12113_12130.out, NB12130_12113.out, NB12131_12130.out, NB12130_12131.out, GW12131.out, GE12131.out, NB12101_12131.out, NB12131_12101.out, NB12102_12131.out, NB12131_12102.out, NB12103_12131.out, NB12131_12103.out, NB12113_12131.out, NB12131_12113.out, (pH_ HB.out)⟩)
  rintro ⟨v12120, v12128, gb12130, gb12131⟩ w39 ⟨hS_, h0_, h1_, h2_, h3_, h4_, h5_, h6_, h7_, h8_, h9_, h10_, h11_, h12_, h13_, h14_, h15_, h16_, h17_, h18_, h19_, h20_, h21_, h22_, h23_, h24_, h25_, h26_, h27_, h28_, h29_, h30_, h31_⟩
  have n0_ : Aside0 (Kd.R (Kd.int .i64) 3 w39 w.heap.size (fun _ => True) (.slice Ao32 t12110.length co32) t12110) := ⟨h0_⟩
  have n1_ : Aside0 (Kd.R k26 26 w39 w.heap.size (fun k_ => some k_ ≠ (v12128 : Value).ownBlock) v12120 t12119) := ⟨h1_⟩
  have n2_ : Aside0 (Kd.R k26 26 w39 w.heap.size (fun k_ => some k_ ≠ (v12120 : Value).ownBlock) v12128 t12127) := ⟨h2_⟩
  have n3_ : Aside0 (w39.heap[gb12101]? = some (.cells #[.int .i64 a0_0, .int .i64 a0_1, .int .i64 a0_2, .int .i64 a0_3, .int .i64 a0_4, .slice A0_5 l0_5.length c0_5] 24 (0, 0))) := ⟨h3_⟩
  have n4_ : Aside0 (w39.heap[gb12102]? = some (.cells #[.int .i64 a1_0, .int .i64 a1_1, .int .i64 a1_2, .int .i64 a1_3, .int .i64 a1_4, .slice A1_5 l1_5.length c1_5] 29 (0, 0))) := ⟨h4_⟩
  have n5_ : Aside0 (w39.heap[gb12103]? = some (.cells #[.int .i64 a2_0, .int .i64 a2_1, .int .i64 a2_2, .int .i64 a2_3, .int .i64 a2_4, .slice A2_5 l2_5.length c2_5] 29 (0, 0))) := ⟨h5_⟩
  have n6_ : Aside0 (w39.heap[gb12113]? = some (.cells #[.int .i64 t12105, .int .i64 t12106, .int .i64 t12107, .int .i64 t12108, .int .i64 t12109, .slice Ao32 t12110.length co32] 24 (0, 0))) := ⟨h6_⟩
  have n7_ : Aside0 (w39.heap[gb12130]? = some (.cells #[.int .i64 0, .int .i64 0, .int .i64 0, .int .i64 0, .int .i64 0, .slice none 0 0] 29 (0, 0))) := ⟨h7_⟩
  have n8_ : Aside0 (w39.heap[gb12131]? = some (.cells #[.int .i64 0, .int .i64 0, .int .i64 0, .int .i64 0, .int .i64 0, .slice none 0 0] 29 (0, 0))) := ⟨h8_⟩
  have n9_ : Aside0 (w.heap.size ≤ gb12130) := ⟨h9_⟩
  have n10_ : Aside0 (w.heap.size ≤ gb12130) := ⟨h10_⟩
  have n11_ : Aside0 (gb12101 ≠ gb12130) := ⟨h11_⟩
  have n12_ : Aside0 (gb12130 ≠ gb12101) := ⟨h12_⟩
  have n13_ : Aside0 (gb12102 ≠ gb12130) := ⟨h13_⟩
  have n14_ : Aside0 (gb12130 ≠ gb12102) := ⟨h14_⟩
  have n15_ : Aside0 (gb12103 ≠ gb12130) := ⟨h15_⟩
  have n16_ : Aside0 (gb12130 ≠ gb12103) := ⟨h16_⟩
  have n17_ : Aside0 (gb12113 ≠ gb12130) := ⟨h17_⟩
  have n18_ : Aside0 (gb12130 ≠ gb12113) := ⟨h18_⟩
  have n19_ : Aside0 (gb12131 ≠ gb12130) := ⟨h19_⟩
  have n20_ : Aside0 (gb12130 ≠ gb12131) := ⟨h20_⟩
  have n21_ : Aside0 (w.heap.size ≤ gb12131) := ⟨h21_⟩
  have n22_ : Aside0 (w.heap.size ≤ gb12131) := ⟨h22_⟩
  have n23_ : Aside0 (gb12101 ≠ gb12131) := ⟨h23_⟩
  have n24_ : Aside0 (gb12131 ≠ gb12101) := ⟨h24_⟩
  have n25_ : Aside0 (gb12102 ≠ gb12131) := ⟨h25_⟩
  have n26_ : Aside0 (gb12131 ≠ gb12102) := ⟨h26_⟩
  have n27_ : Aside0 (gb12103 ≠ gb12131) := ⟨h27_⟩
  have n28_ : Aside0 (gb12131 ≠ gb12103) := ⟨h28_⟩
  have n29_ : Aside0 (gb12113 ≠ gb12131) := ⟨h29_⟩
  have n30_ : Aside0 (gb12131 ≠ gb12113) := ⟨h30_⟩
  have n31_ : Aside0 (Below w.heap.size w w39) := ⟨h31_⟩
  clear HO12112
  clear BK12101
  clear BK12102
  clear BK12103
  clear BK12113
  clear HB
  clear h0_ h1_ h2_ h3_ h4_ h5_ h6_ h7_ h8_ h9_ h10_ h11_ h12_ h13_ h14_ h15_ h16_ h17_ h18_ h19_ h20_ h21_ h22_ h23_ h24_ h25_ h26_ h27_ h28_ h29_ h30_ h31_
  have HO12112 := n0_
  have HO12121 := n1_
  have HO12129 := n2_
  have BK12101 := n3_
  have BK12102 := n4_
  have BK12103 := n5_
  have BK12113 := n6_
  have BK12130 := n7_
  have BK12131 := n8_
  have GW12130 := n9_
  have GE12130 := n10_
  have NB12101_12130 := n11_
  have NB12130_12101 := n12_
  have NB12102_12130 := n13_
  have NB12130_12102 := n14_
  have NB12103_12130 := n15_
  have NB12130_12103 := n16_
  have NB12113_12130 := n17_
  have NB12130_12113 := n18_
  have NB12131_12130 := n19_
  have NB12130_12131 := n20_
  have GW12131 := n21_
  have GE12131 := n22_
  have NB12101_12131 := n23_
  have NB12131_12101 := n24_
  have NB12102_12131 := n25_
  have NB12131_12102 := n26_
  have NB12103_12131 := n27_
  have NB12131_12103 := n28_
  have NB12113_12131 := n29_
  have NB12131_12113 := n30_
  have HB := n31_
  clear n0_ n1_ n2_ n3_ n4_ n5_ n6_ n7_ n8_ n9_ n10_ n11_ n12_ n13_ n14_ n15_ n16_ n17_ n18_ n19_ n20_ n21_ n22_ n23_ n24_ n25_ n26_ n27_ n28_ n29_ n30_ n31_
  have hHeld : w39.cell? ⟨gb12113, 0, none⟩ = some (.int .i64 t12105) ∧ w39.cell? ⟨gb12113, 1, none⟩ = some (.int .i64 t12106) ∧ w39.cell? ⟨gb12113, 2, none⟩ = some (.int .i64 t12107) ∧ w39.cell? ⟨gb12113, 3, none⟩ = some (.int .i64 t12108) ∧ w39.cell? ⟨gb12113, 4, none⟩ = some (.int .i64 t12109) ∧ w39.cell? ⟨gb12113, 5, none⟩ = some (.slice Ao32 t12110.length co32) ∧ w39.cell? ⟨gb12102, 0, none⟩ = some (.int .i64 a1_0) ∧ w39.cell? ⟨gb12102, 1, none⟩ = some (.int .i64 a1_1) ∧ w39.cell? ⟨gb12102, 2, none⟩ = some (.int .i64 a1_2) ∧ w39.cell? ⟨gb12102, 3, none⟩ = some (.int .i64 a1_3) ∧ w39.cell? ⟨gb12102, 4, none⟩ = some (.int .i64 a1_4) ∧ w39.cell? ⟨gb12102, 5, none⟩ = some (.slice A1_5 l1_5.length c1_5) ∧ w39.cell? ⟨gb12103, 0, none⟩ = some (.int .i64 a2_0) ∧ w39.cell? ⟨gb12103, 1, none⟩ = some (.int .i64 a2_1) ∧ w39.cell? ⟨gb12103, 2, none⟩ = some (.int .i64 a2_2) ∧ w39.cell? ⟨gb12103, 3, none⟩ = some (.int .i64 a2_3) ∧ w39.cell? ⟨gb12103, 4, none⟩ = some (.int .i64 a2_4) ∧ w39.cell? ⟨gb12103, 5, none⟩ = some (.slice A2_5 l2_5.length c2_5) := hS_
  obtain ⟨Ao45, co45, eo45⟩ := Kd.R_slice HO12121.out
  (first | subst eo45 | (injection eo45 with f1_ f2_ f3_; have f4_ := f1_.symm; have f5_ := f3_.symm; clear f1_ f2_ f3_; subst f4_; subst f5_))
  obtain ⟨Ao52, co52, eo52⟩ := Kd.R_slice HO12129.out
  (first | subst eo52 | (injection eo52 with f1_ f2_ f3_; have f4_ := f1_.symm; have f5_ := f3_.symm; clear f1_ f2_ f3_; subst f4_; subst f5_))
  refine norm_ (a' := ?_) ?_ ?_
  rotate_left
  · simp only [putAll, Act.put, List.setIfInBounds_toArray, List.set_cons_zero, List.set_cons_succ]
    rfl
  refine one_ (i := 10) (N := none) #[true, true, true, true, true, true, true, true, true, true, true, false] rfl rfl (one_of HT_.out (by kernel_rfl)) (by decide) (fun K hK => ?_)
  have hs40 : w39.cell? ⟨gb12130, 0, none⟩ = some (.int .i64 0) := (blk_cell BK12130.out 0).trans rfl
  have hfs40 := blk_frozen BK12130.out 0
  have hns40_0 := NB12101_12130.out
  have hns40_1 := NB12102_12130.out
  have hns40_2 := NB12103_12130.out
  have hns40_3 := NB12113_12130.out
  have hns40_5 := NB12131_12130.out
  have hms40_0 := NB12130_12101.out
  have hms40_1 := NB12130_12102.out
  have hms40_2 := NB12130_12103.out
  have hms40_3 := NB12130_12113.out
  have hms40_5 := NB12130_12131.out
  have hs41 : w39.cell? ⟨gb12130, 1, none⟩ = some (.int .i64 0) := (blk_cell BK12130.out 1).trans rfl
  have hfs41 := blk_frozen BK12130.out 1
  have hns41_0 := NB12101_12130.out
  have hns41_1 := NB12102_12130.out
  have hns41_2 := NB12103_12130.out
  have hns41_3 := NB12113_12130.out
  have hns41_5 := NB12131_12130.out
  have hms41_0 := NB12130_12101.out
  have hms41_1 := NB12130_12102.out
  have hms41_2 := NB12130_12103.out
  have hms41_3 := NB12130_12113.out
  have hms41_5 := NB12130_12131.out
  have hs42 : w39.cell? ⟨gb12130, 2, none⟩ = some (.int .i64 0) := (blk_cell BK12130.out 2).trans rfl
  have hfs42 := blk_frozen BK12130.out 2
  have hns42_0 := NB12101_12130.out
  have hns42_1 := NB12102_12130.out
  have hns42_2 := NB12103_12130.out
  have hns42_3 := NB12113_12130.out
  have hns42_5 := NB12131_12130.out
  have hms42_0 := NB12130_12101.out
  have hms42_1 := NB12130_12102.out
  have hms42_2 := NB12130_12103.out
  have hms42_3 := NB12130_12113.out
  have hms42_5 := NB12130_12131.out
  have hs43 : w39.cell? ⟨gb12130, 3, none⟩ = some (.int .i64 0) := (blk_cell BK12130.out 3).trans rfl
  have hfs43 := blk_frozen BK12130.out 3
  have hns43_0 := NB12101_12130.out
  have hns43_1 := NB12102_12130.out
  have hns43_2 := NB12103_12130.out
  have hns43_3 := NB12113_12130.out
  have hns43_5 := NB12131_12130.out
  have hms43_0 := NB12130_12101.out
  have hms43_1 := NB12130_12102.out
  have hms43_2 := NB12130_12103.out
  have hms43_3 := NB12130_12113.out
  have hms43_5 := NB12130_12131.out
  have hs44 : w39.cell? ⟨gb12130, 4, none⟩ = some (.int .i64 0) := (blk_cell BK12130.out 4).trans rfl
  have hfs44 := blk_frozen BK12130.out 4
  have hns44_0 := NB12101_12130.out
  have hns44_1 := NB12102_12130.out
  have hns44_2 := NB12103_12130.out
  have hns44_3 := NB12113_12130.out
  have hns44_5 := NB12131_12130.out
  have hms44_0 := NB12130_12101.out
  have hms44_1 := NB12130_12102.out
  have hms44_2 := NB12130_12103.out
  have hms44_3 := NB12130_12113.out
  have hms44_5 := NB12130_12131.out
  have hs46 : w39.cell? ⟨gb12130, 5, none⟩ = some (.slice none 0 0) := (blk_cell BK12130.out 5).trans rfl
  have hfs46 := blk_frozen BK12130.out 5
  have hns46_0 := NB12101_12130.out
  have hns46_1 := NB12102_12130.out
  have hns46_2 := NB12103_12130.out
  have hns46_3 := NB12113_12130.out
  have hns46_5 := NB12131_12130.out
  have hms46_0 := NB12130_12101.out
  have hms46_1 := NB12130_12102.out
  have hms46_2 := NB12130_12103.out
  have hms46_3 := NB12130_12113.out
  have hms46_5 := NB12130_12131.out
  refine skip_ (w1 := ?_) (by rfl) rfl ?_ ?_
  rotate_left
  · go_simp
    rfl
  refine hK.out _ _ ⟨((cell_far (p := ⟨gb12130, _, none⟩) NB12113_12130.out _).trans (((cell_far (p := ⟨gb12130, _, none⟩) NB12113_12130.out _).trans (((cell_far (p := ⟨gb12130, _, none⟩) NB12113_12130.out _).trans (((cell_far (p := ⟨gb12130, _, none⟩) NB12113_12130.out _).trans (((cell_far (p := ⟨gb12130, _, none⟩) NB12113_12130.out _).trans (((cell_far (p := ⟨gb12130, _, none⟩) NB12113_12130.out _).trans (hHeld.1)))))))))))), ((cell_far (p := ⟨gb12130, _, none⟩) NB12113_12130.out _).trans (((cell_far (p := ⟨gb12130, _, none⟩) NB12113_12130.out _).trans (((cell_far (p := ⟨gb12130, _, none⟩) NB12113_12130.out _).trans (((cell_far (p := ⟨gb12130, _, none⟩) NB12113_12130.out _).trans (((cell_far (p := ⟨gb12130, _, none⟩) NB12113_12130.out _).trans (((cell_far (p := ⟨gb12130, _, none⟩) NB12113_12130.out _).trans (hHeld.2.1)))))))))))), ((cell_far (p := ⟨gb12130, _, none⟩) NB12113_12130.out _).trans (((cell_far (p := ⟨gb12130, _, none⟩) NB12113_12130.out _).trans (((cell_far (p := ⟨gb12130, _, none⟩) NB12113_12130.out _).trans (((cell_far (p := ⟨gb12130, _, none⟩) NB12113_12130.out _).trans (((cell_far (p := ⟨gb12130, _, none⟩) NB12113_12130.out _).trans (((cell_far (p := ⟨gb12130, _, none⟩) NB12113_12130.out _).trans (hHeld.2.2.1)))))))))))), ((cell_far (p := ⟨gb12130, _, none⟩) NB12113_12130.out _).trans (((cell_far (p := ⟨gb12130, _, none⟩) NB12113_12130.out _).trans (((cell_far (p := ⟨gb12130, _, none⟩) NB12113_12130.out _).trans (((cell_far (p := ⟨gb12130, _, none⟩) NB12113_12130.out _).trans (((cell_far (p := ⟨gb12130, _, none⟩) NB12113_12130.out _).trans (((cell_far (p := ⟨gb12130, _, none⟩) NB12113_12130.out _).trans (hHeld.2.2.2.1)))))))))))), ((cell_far (p := ⟨gb12130, _, none⟩) NB12113_12130.out _).trans (((cell_far (p := ⟨gb12130, _, none⟩) NB12113_12130.out _).trans (((cell_far (p := ⟨gb12130, _, none⟩) NB12113_12130.out _).trans (((cell_far (p := ⟨gb12130, _, none⟩) NB12113_12130.out _).trans (((cell_far (p := ⟨gb12130, _, none⟩) NB12113_12130.out _).trans (((cell_far (p := ⟨gb12130, _, none⟩) NB12113_12130.out _).trans (hHeld.2.2.2.2.1)))))))))))), ((cell_far (p := ⟨gb12130, _, none⟩) NB12113_12130.out _).trans (((cell_far (p := ⟨gb12130, _, none⟩) NB12113_12130.out _).trans (((cell_far (p := ⟨gb12130, _, none⟩) NB12113_12130.out _).trans (((cell_far (p := ⟨gb12130, _, none⟩) NB12113_12130.out _).trans (((cell_far (p := ⟨gb12130, _, none⟩) NB12113_12130.out _).trans (((cell_far (p := ⟨gb12130, _, none⟩) NB12113_12130.out _).trans (hHeld.2.2.2.2.2.1)))))))))))), ((cell_far (p := ⟨gb12130, _, none⟩) NB12102_12130.out _).trans (((cell_far (p := ⟨gb12130, _, none⟩) NB12102_12130.out _).trans (((cell_far (p := ⟨gb12130, _, none⟩) NB12102_12130.out _).trans (((cell_far (p := ⟨gb12130, _, none⟩) NB12102_12130.out _).trans (((cell_far (p := ⟨gb12130, _, none⟩) NB12102_12130.out _).trans (((cell_far (p := ⟨gb12130, _, none⟩) NB12102_12130.out _).trans (hHeld.2.2.2.2.2.2.1)))))))))))), ((cell_far (p := ⟨gb12130, _, none⟩) NB12102_12130.out _).trans (((cell_far (p := ⟨gb12130, _, none⟩) NB12102_12130.out _).trans (((cell_far (p := ⟨gb12130, _, none⟩) NB12102_12130.out _).trans (((cell_far (p := ⟨gb12130, _, none⟩) NB12102_12130.out _).trans (((cell_far (p := ⟨gb12130, _, none⟩) NB12102_12130.out _).trans (((cell_far (p := ⟨gb12130, _, none⟩) NB12102_12130.out _).trans (hHeld.2.2.2.2.2.2.2.1)))))))))))), ((cell_far (p := ⟨gb12130, _, none⟩) NB12102_12130.out _).trans (((cell_far (p := ⟨gb12130, _, none⟩) NB12102_12130.out _).trans (((cell_far (p := ⟨gb12130, _, none⟩) NB12102_12130.out _).trans (((cell_far (p := ⟨gb12130, _, none⟩) NB12102_12130.out _).trans (((cell_far (p := ⟨gb12130, _, none⟩) NB12102_12130.out _).trans (((cell_far (p := ⟨gb12130, _, none⟩) NB12102_12130.out _).trans (hHeld.2.2.2.2.2.2.2.2.1)))))))))))), ((cell_far (p := ⟨gb12130, _, none⟩) NB12102_12130.out _).trans (((cell_far (p := ⟨gb12130, _, none⟩) NB12102_12130.out _).trans (((cell_far (p := ⟨gb12130, _, none⟩) NB12102_12130.out _).trans (((cell_far (p := ⟨gb12130, _, none⟩) NB12102_12130.out _).trans (((cell_far (p := ⟨gb12130, _, none⟩) NB12102_12130.out _).trans (((cell_far (p := ⟨gb12130, _, none⟩) NB12102_12130.out _).trans (hHeld.2.2.2.2.2.2.2.2.2.1)))))))))))), ((cell_far (p := ⟨gb12130, _, none⟩) NB12102_12130.out _).trans (((cell_far (p := ⟨gb12130, _, none⟩) NB12102_12130.out _).trans (((cell_far (p := ⟨gb12130, _, none⟩) NB12102_12130.out _).trans (((cell_far (p := ⟨gb12130, _, none⟩) NB12102_12130.out _).trans (((cell_far (p := ⟨gb12130, _, none⟩) NB12102_12130.out _).trans (((cell_far (p := ⟨gb12130, _, none⟩) NB12102_12130.out _).trans (hHeld.2.2.2.2.2.2.2.2.2.2.1)))))))))))), ((cell_far (p := ⟨gb12130, _, none⟩) NB12102_12130.out _).trans (((cell_far (p := ⟨gb12130, _, none⟩) NB12102_12130.out _).trans (((cell_far (p := ⟨gb12130, _, none⟩) NB12102_12130.out _).trans (((cell_far (p := ⟨gb12130, _, none⟩) NB12102_12130.out _).trans (((cell_far (p := ⟨gb12130, _, none⟩) NB12102_12130.out _).trans (((cell_far (p := ⟨gb12130, _, none⟩) NB12102_12130.out _).trans (hHeld.2.2.2.2.2.2.2.2.2.2.2.1)))))))))))), ((cell_far (p := ⟨gb12130, _, none⟩) NB12103_12130.out _).trans (((cell_far (p := ⟨gb12130, _, none⟩) NB12103_12130.out _).trans (((cell_far (p := ⟨gb12130, _, none⟩) NB12103_12130.out _).trans (((cell_far (p := ⟨gb12130, _, none⟩) NB12103_12130.out _).trans (((cell_far (p := ⟨gb12130, _, none⟩) NB12103_12130.out _).trans (((cell_far (p := ⟨gb12130, _, none⟩) NB12103_12130.out _).trans (hHeld.2.2.2.2.2.2.2.2.2.2.2.2.1)))))))))))), ((cell_far (p := ⟨gb12130, _, none⟩) NB12103_12130.out _).trans (((cell_far (p := ⟨gb12130, _, none⟩) NB12103_12130.out _).trans (((cell_far (p := ⟨gb12130, _, none⟩) NB12103_12130.out _).trans (((cell_far (p := ⟨gb12130, _, none⟩) NB12103_12130.out _).trans (((cell_far (p := ⟨gb12130, _, none⟩) NB12103_12130.out _).trans (((cell_far (p := ⟨gb12130, _, none⟩) NB12103_12130.out _).trans (hHeld.2.2.2.2.2.2.2.2.2.2.2.2.2.1)))))))))))), ((cell_far (p := ⟨gb12130, _, none⟩) NB12103_12130.out _).trans (((cell_far (p := ⟨gb12130, _, none⟩) NB12103_12130.out _).trans (((cell_far (p := ⟨gb12130, _, none⟩) NB12103_12130.out _).trans (((cell_far (p := ⟨gb12130, _, none⟩) NB12103_12130.out _).trans (((cell_far (p := ⟨gb12130, _, none⟩) NB12103_12130.out _).trans (((cell_far (p := ⟨gb12130, _, none⟩) NB12103_12130.out _).trans (hHeld.2.2.2.2.2.2.2.2.2.2.2.2.2.2.1)))))))))))), ((cell_far (p := ⟨gb12130, _, none⟩) NB12103_12130.out _).trans (((cell_far (p := ⟨gb12130, _, none⟩) NB12103_12130.out _).trans (((cell_far (p := ⟨gb12130, _, none⟩) NB12103_12130.out _).trans (((cell_far (p := ⟨gb12130, _, none⟩) NB12103_12130.out _).trans (((cell_far (p := ⟨gb12130, _, none⟩) NB12103_12130.out _).trans (((cell_far (p := ⟨gb12130, _, none⟩) NB12103_12130.out _).trans (hHeld.2.2.2.2.2.2.2.2.2.2.2.2.2.2.2.1)))))))))))), ((cell_far (p := ⟨gb12130, _, none⟩) NB12103_12130.out _).trans (((cell_far (p := ⟨gb12130, _, none⟩) NB12103_12130.out _).trans (((cell_far (p := ⟨gb12130, _, none⟩) NB12103_12130.out _).trans (((cell_far (p := ⟨gb12130, _, none⟩) NB12103_12130.out _).trans (((cell_far (p := ⟨gb12130, _, none⟩) NB12103_12130.out _).trans (((cell_far (p := ⟨gb12130, _, none⟩) NB12103_12130.out _).trans (hHeld.2.2.2.2.2.2.2.2.2.2.2.2.2.2.2.2.1)))))))))))), ((cell_far (p := ⟨gb12130, _, none⟩) NB12103_12130.out _).trans (((cell_far (p := ⟨gb12130, _, none⟩) NB12103_12130.out _).trans (((cell_far (p := ⟨gb12130, _, none⟩) NB12103_12130.out _).trans (((cell_far (p := ⟨gb12130, _, none⟩) NB12103_12130.out _).trans (((cell_far (p := ⟨gb12130, _, none⟩) NB12103_12130.out _).trans (((cell_far (p := ⟨gb12130, _, none⟩) NB12103_12130.out _).trans (hHeld.2.2.2.2.2.2.2.2.2.2.2.2.2.2.2.2.2))))))))))))⟩ (fun hHeld => ?_)
  clear hK K
  refine one_ (i := 11) (N := none) #[true, true, true, true, true, true, true, true, true, true, true, true] rfl rfl (one_of HT_.out (by kernel_rfl)) (by decide) (fun K hK => ?_)
  have hs47 : w39.cell? ⟨gb12131, 0, none⟩ = some (.int .i64 0) := (blk_cell BK12131.out 0).trans rfl
  have hfs47 := blk_frozen BK12131.out 0
  have hns47_0 := NB12101_12131.out
  have hns47_1 := NB12102_12131.out
  have hns47_2 := NB12103_12131.out
  have hns47_3 := NB12113_12131.out
  have hns47_4 := NB12130_12131.out
  have hms47_0 := NB12131_12101.out
  have hms47_1 := NB12131_12102.out
  have hms47_2 := NB12131_12103.out
  have hms47_3 := NB12131_12113.out
  have hms47_4 := NB12131_12130.out
  have hs48 : w39.cell? ⟨gb12131, 1, none⟩ = some (.int .i64 0) := (blk_cell BK12131.out 1).trans rfl
  have hfs48 := blk_frozen BK12131.out 1
  have hns48_0 := NB12101_12131.out
  have hns48_1 := NB12102_12131.out
  have hns48_2 := NB12103_12131.out
  have hns48_3 := NB12113_12131.out
  have hns48_4 := NB12130_12131.out
  have hms48_0 := NB12131_12101.out
  have hms48_1 := NB12131_12102.out
  have hms48_2 := NB12131_12103.out
  have hms48_3 := NB12131_12113.out
  have hms48_4 := NB12131_12130.out
  have hs49 : w39.cell? ⟨gb12131, 2, none⟩ = some (.int .i64 0) := (blk_cell BK12131.out 2).trans rfl
  have hfs49 := blk_frozen BK12131.out 2
  have hns49_0 := NB12101_12131.out
  have hns49_1 := NB12102_12131.out
  have hns49_2 := NB12103_12131.out
  have hns49_3 := NB12113_12131.out
  have hns49_4 := NB12130_12131.out
  have hms49_0 := NB12131_12101.out
  have hms49_1 := NB12131_12102.out
  have hms49_2 := NB12131_12103.out
  have hms49_3 := NB12131_12113.out
  have hms49_4 := NB12131_12130.out
  have hs50 : w39.cell? ⟨gb12131, 3, none⟩ = some (.int .i64 0) := (blk_cell BK12131.out 3).trans rfl
  have hfs50 := blk_frozen BK12131.out 3
  have hns50_0 := NB12101_12131.out
  have hns50_1 := NB12102_12131.out
  have hns50_2 := NB12103_12131.out
  have hns50_3 := NB12113_12131.out
  have hns50_4 := NB12130_12131.out
  have hms50_0 := NB12131_12101.out
  have hms50_1 := NB12131_12102.out
  have hms50_2 := NB12131_12103.out
  have hms50_3 := NB12131_12113.out
  have hms50_4 := NB12131_12130.out
  have hs51 : w39.cell? ⟨gb12131, 4, none⟩ = some (.int .i64 0) := (blk_cell BK12131.out 4).trans rfl
  have hfs51 := blk_frozen BK12131.out 4
  have hns51_0 := NB12101_12131.out
  have hns51_1 := NB12102_12131.out
  have hns51_2 := NB12103_12131.out
  have hns51_3 := NB12113_12131.out
  have hns51_4 := NB12130_12131.out
  have hms51_0 := NB12131_12101.out
  have hms51_1 := NB12131_12102.out
  have hms51_2 := NB12131_12103.out
  have hms51_3 := NB12131_12113.out
  have hms51_4 := NB12131_12130.out
  have hs53 : w39.cell? ⟨gb12131, 5, none⟩ = some (.slice none 0 0) := (blk_cell BK12131.out 5).trans rfl
  have hfs53 := blk_frozen BK12131.out 5
  have hns53_0 := NB12101_12131.out
  have hns53_1 := NB12102_12131.out
  have hns53_2 := NB12103_12131.out
  have hns53_3 := NB12113_12131.out
  have hns53_4 := NB12130_12131.out
  have hms53_0 := NB12131_12101.out
  have hms53_1 := NB12131_12102.out
  have hms53_2 := NB12131_12103.out
  have hms53_3 := NB12131_12113.out
  have hms53_4 := NB12131_12130.out
  refine skip_ (w1 := ?_) (by rfl) rfl ?_ ?_
  rotate_left
  · go_simp
    rfl
  refine hK.out _ _ ⟨((cell_far (p := ⟨gb12131, _, none⟩) NB12113_12131.out _).trans (((cell_far (p := ⟨gb12131, _, none⟩) NB12113_12131.out _).trans (((cell_far (p := ⟨gb12131, _, none⟩) NB12113_12131.out _).trans (((cell_far (p := ⟨gb12131, _, none⟩) NB12113_12131.out _).trans (((cell_far (p := ⟨gb12131, _, none⟩) NB12113_12131.out _).trans (((cell_far (p := ⟨gb12131, _, none⟩) NB12113_12131.out _).trans (hHeld.1)))))))))))), ((cell_far (p := ⟨gb12131, _, none⟩) NB12113_12131.out _).trans (((cell_far (p := ⟨gb12131, _, none⟩) NB12113_12131.out _).trans (((cell_far (p := ⟨gb12131, _, none⟩) NB12113_12131.out _).trans (((cell_far (p := ⟨gb12131, _, none⟩) NB12113_12131.out _).trans (((cell_far (p := ⟨gb12131, _, none⟩) NB12113_12131.out _).trans (((cell_far (p := ⟨gb12131, _, none⟩) NB12113_12131.out _).trans (hHeld.2.1)))))))))))), ((cell_far (p := ⟨gb12131, _, none⟩) NB12113_12131.out _).trans (((cell_far (p := ⟨gb12131, _, none⟩) NB12113_12131.out _).trans (((cell_far (p := ⟨gb12131, _, none⟩) NB12113_12131.out _).trans (((cell_far (p := ⟨gb12131, _, none⟩) NB12113_12131.out _).trans (((cell_far (p := ⟨gb12131, _, none⟩) NB12113_12131.out _).trans (((cell_far (p := ⟨gb12131, _, none⟩) NB12113_12131.out _).trans (hHeld.2.2.1)))))))))))), ((cell_far (p := ⟨gb12131, _, none⟩) NB12113_12131.out _).trans (((cell_far (p := ⟨gb12131, _, none⟩) NB12113_12131.out _).trans (((cell_far (p := ⟨gb12131, _, none⟩) NB12113_12131.out _).trans (((cell_far (p := ⟨gb12131, _, none⟩) NB12113_12131.out _).trans (((cell_far (p := ⟨gb12131, _, none⟩) NB12113_12131.out _).trans (((cell_far (p := ⟨gb12131, _, none⟩) NB12113_12131.out _).trans (hHeld.2.2.2.1)))))))))))), ((cell_far (p := ⟨gb12131, _, none⟩) NB12113_12131.out _).trans (((cell_far (p := ⟨gb12131, _, none⟩) NB12113_12131.out _).trans (((cell_far (p := ⟨gb12131, _, none⟩) NB12113_12131.out _).trans (((cell_far (p := ⟨gb12131, _, none⟩) NB12113_12131.out _).trans (((cell_far (p := ⟨gb12131, _, none⟩) NB12113_12131.out _).trans (((cell_far (p := ⟨gb12131, _, none⟩) NB12113_12131.out _).trans (hHeld.2.2.2.2.1)))))))))))), ((cell_far (p := ⟨gb12131, _, none⟩) NB12113_12131.out _).trans (((cell_far (p := ⟨gb12131, _, none⟩) NB12113_12131.out _).trans (((cell_far (p := ⟨gb12131, _, none⟩) NB12113_12131.out _).trans (((cell_far (p := ⟨gb12131, _, none⟩) NB12113_12131.out _).trans (((cell_far (p := ⟨gb12131, _, none⟩) NB12113_12131.out _).trans (((cell_far (p := ⟨gb12131, _, none⟩) NB12113_12131.out _).trans (hHeld.2.2.2.2.2.1)))))))))))), ((cell_far (p := ⟨gb12131, _, none⟩) NB12102_12131.out _).trans (((cell_far (p := ⟨gb12131, _, none⟩) NB12102_12131.out _).trans (((cell_far (p := ⟨gb12131, _, none⟩) NB12102_12131.out _).trans (((cell_far (p := ⟨gb12131, _, none⟩) NB12102_12131.out _).trans (((cell_far (p := ⟨gb12131, _, none⟩) NB12102_12131.out _).trans (((cell_far (p := ⟨gb12131, _, none⟩) NB12102_12131.out _).trans (hHeld.2.2.2.2.2.2.1)))))))))))), ((cell_far (p := ⟨gb12131, _, none⟩) NB12102_12131.out _).trans (((cell_far (p := ⟨gb12131, _, none⟩) NB12102_12131.out _).trans (((cell_far (p := ⟨gb12131, _, none⟩) NB12102_12131.out _).trans (((cell_far (p := ⟨gb12131, _, none⟩) NB12102_12131.out _).trans (((cell_far (p := ⟨gb12131, _, none⟩) NB12102_12131.out _).trans (((cell_far (p := ⟨gb12131, _, none⟩) NB12102_12131.out _).trans (hHeld.2.2.2.2.2.2.2.1)))))))))))), ((cell_far (p := ⟨gb12131, _, none⟩) NB12102_12131.out _).trans (((cell_far (p := ⟨gb12131, _, none⟩) NB12102_12131.out _).trans (((cell_far (p := ⟨gb12131, _, none⟩) NB12102_12131.out _).trans (((cell_far (p := ⟨gb12131, _, none⟩) NB12102_12131.out _).trans (((cell_far (p := ⟨gb12131, _, none⟩) NB12102_12131.out _).trans (((cell_far (p := ⟨gb12131, _, none⟩) NB12102_12131.out _).trans (hHeld.2.2.2.2.2.2.2.2.1)))))))))))), ((cell_far (p := ⟨gb12131, _, none⟩) NB12102_12131.out _).trans (((cell_far (p := ⟨gb12131, _, none⟩) NB12102_12131.out _).trans (((cell_far (p := ⟨gb12131, _, none⟩) NB12102_12131.out _).trans (((cell_far (p := ⟨gb12131, _, none⟩) NB12102_12131.out _).trans (((cell_far (p := ⟨gb12131, _, none⟩) NB12102_12131.out _).trans (((cell_far (p := ⟨gb12131, _, none⟩) NB12102_12131.out _).trans (hHeld.2.2.2.2.2.2.2.2.2.1)))))))))))), ((cell_far (p := ⟨gb12131, _, none⟩) NB12102_12131.out _).trans (((cell_far (p := ⟨gb12131, _, none⟩) NB12102_12131.out _).trans (((cell_far (p := ⟨gb12131, _, none⟩) NB12102_12131.out _).trans (((cell_far (p := ⟨gb12131, _, none⟩) NB12102_12131.out _).trans (((cell_far (p := ⟨gb12131, _, none⟩) NB12102_12131.out _).trans (((cell_far (p := ⟨gb12131, _, none⟩) NB12102_12131.out _).trans (hHeld.2.2.2.2.2.2.2.2.2.2.1)))))))))))), ((cell_far (p := ⟨gb12131, _, none⟩) NB12102_12131.out _).trans (((cell_far (p := ⟨gb12131, _, none⟩) NB12102_12131.out _).trans (((cell_far (p := ⟨gb12131, _, none⟩) NB12102_12131.out _).trans (((cell_far (p := ⟨gb12131, _, none⟩) NB12102_12131.out _).trans (((cell_far (p := ⟨gb12131, _, none⟩) NB12102_12131.out _).trans (((cell_far (p := ⟨gb12131, _, none⟩) NB12102_12131.out _).trans (hHeld.2.2.2.2.2.2.2.2.2.2.2.1)))))))))))), ((cell_far (p := ⟨gb12131, _, none⟩) NB12103_12131.out _).trans (((cell_far (p := ⟨gb12131, _, none⟩) NB12103_12131.out _).trans (((cell_far (p := ⟨gb12131, _, none⟩) NB12103_12131.out _).trans (((cell_far (p := ⟨gb12131, _, none⟩) NB12103_12131.out _).trans (((cell_far (p := ⟨gb12131, _, none⟩) NB12103_12131.out _).trans (((cell_far (p := ⟨gb12131, _, none⟩) NB12103_12131.out _).trans (hHeld.2.2.2.2.2.2.2.2.2.2.2.2.1)))))))))))), ((cell_far (p := ⟨gb12131, _, none⟩) NB12103_12131.out _).trans (((cell_far (p := ⟨gb12131, _, none⟩) NB12103_12131.out _).trans (((cell_far (p := ⟨gb12131, _, none⟩) NB12103_12131.out _).trans (((cell_far (p := ⟨gb12131, _, none⟩) NB12103_12131.out _).trans (((cell_far (p := ⟨gb12131, _, none⟩) NB12103_12131.out _).trans (((cell_far (p := ⟨gb12131, _, none⟩) NB12103_12131.out _).trans (hHeld.2.2.2.2.2.2.2.2.2.2.2.2.2.1)))))))))))), ((cell_far (p := ⟨gb12131, _, none⟩) NB12103_12131.out _).trans (((cell_far (p := ⟨gb12131, _, none⟩) NB12103_12131.out _).trans (((cell_far (p := ⟨gb12131, _, none⟩) NB12103_12131.out _).trans (((cell_far (p := ⟨gb12131, _, none⟩) NB12103_12131.out _).trans (((cell_far (p := ⟨gb12131, _, none⟩) NB12103_12131.out _).trans (((cell_far (p := ⟨gb12131, _, none⟩) NB12103_12131.out _).trans (hHeld.2.2.2.2.2.2.2.2.2.2.2.2.2.2.1)))))))))))), ((cell_far (p := ⟨gb12131, _, none⟩) NB12103_12131.out _).trans (((cell_far (p := ⟨gb12131, _, none⟩) NB12103_12131.out _).trans (((cell_far (p := ⟨gb12131, _, none⟩) NB12103_12131.out _).trans (((cell_far (p := ⟨gb12131, _, none⟩) NB12103_12131.out _).trans (((cell_far (p := ⟨gb12131, _, none⟩) NB12103_12131.out _).trans (((cell_far (p := ⟨gb12131, _, none⟩) NB12103_12131.out _).trans (hHeld.2.2.2.2.2.2.2.2.2.2.2.2.2.2.2.1)))))))))))), ((cell_far (p := ⟨gb12131, _, none⟩) NB12103_12131.out _).trans (((cell_far (p := ⟨gb12131, _, none⟩) NB12103_12131.out _).trans (((cell_far (p := ⟨gb12131, _, none⟩) NB12103_12131.out _).trans (((cell_far (p := ⟨gb12131, _, none⟩) NB12103_12131.out _).trans (((cell_far (p := ⟨gb12131, _, none⟩) NB12103_12131.out _).trans (((cell_far (p := ⟨gb12131, _, none⟩) NB12103_12131.out _).trans (hHeld.2.2.2.2.2.2.2.2.2.2.2.2.2.2.2.2.1)))))))))))), ((cell_far (p := ⟨gb12131, _, none⟩) NB12103_12131.out _).trans (((cell_far (p := ⟨gb12131, _, none⟩) NB12103_12131.out _).trans (((cell_far (p := ⟨gb12131, _, none⟩) NB12103_12131.out _).trans (((cell_far (p := ⟨gb12131, _, none⟩) NB12103_12131.out _).trans (((cell_far (p := ⟨gb12131, _, none⟩) NB12103_12131.out _).trans (((cell_far (p := ⟨gb12131, _, none⟩) NB12103_12131.out _).trans (hHeld.2.2.2.2.2.2.2.2.2.2.2.2.2.2.2.2.2))))))))))))⟩ (fun hHeld => ?_)
  clear hK K
  refine done_ (done_of HT_.out (by kernel_rfl)) ?_
  try go_wp2
  (try (rw [drewN_self w39]; generalize hq_ : World.drewN w39 _ = w39; have n0_ := Aside0.mk (Kd.R_at hq_ HO12112.out); have n1_ := Aside0.mk (Kd.R_at hq_ HO12121.out); have n2_ := Aside0.mk (Kd.R_at hq_ HO12129.out); have n3_ := Aside0.mk (blk_at hq_ BK12101.out); have n4_ := Aside0.mk (blk_at hq_ BK12102.out); have n5_ := Aside0.mk (blk_at hq_ BK12103.out); have n6_ := Aside0.mk (blk_at hq_ BK12113.out); have n7_ := Aside0.mk (blk_at hq_ BK12130.out); have n8_ := Aside0.mk (blk_at hq_ BK12131.out); have n9_ := Aside0.mk (below_at hq_ HB.out); clear hq_ HO12112 HO12121 HO12129 BK12101 BK12102 BK12103 BK12113 BK12130 BK12131 HB; have HO12112 := n0_; have HO12121 := n1_; have HO12129 := n2_; have BK12101 := n3_; have BK12102 := n4_; have BK12103 := n5_; have BK12113 := n6_; have BK12130 := n7_; have BK12131 := n8_; have HB := n9_; clear n0_ n1_ n2_ n3_ n4_ n5_ n6_ n7_ n8_ n9_))
  have n0_ : Aside0 (Kd.R (Kd.int .i64) 3 ((((((((((((w39.setCell ⟨gb12130, 0, none⟩ (.int .i64 t12114)).setCell ⟨gb12130, 1, none⟩ (.int .i64 t12115)).setCell ⟨gb12130, 2, none⟩ (.int .i64 t12116)).setCell ⟨gb12130, 3, none⟩ (.int .i64 t12117)).setCell ⟨gb12130, 4, none⟩ (.int .i64 t12118)).setCell ⟨gb12130, 5, none⟩ (.slice Ao45 t12119.length co45)).setCell ⟨gb12131, 0, none⟩ (.int .i64 t12122)).setCell ⟨gb12131, 1, none⟩ (.int .i64 t12123)).setCell ⟨gb12131, 2, none⟩ (.int .i64 t12124)).setCell ⟨gb12131, 3, none⟩ (.int .i64 t12125)).setCell ⟨gb12131, 4, none⟩ (.int .i64 t12126)).setCell ⟨gb12131, 5, none⟩ (.slice Ao52 t12127.length co52)) w.heap.size (fun _ => True) (.slice Ao32 t12110.length co32) t12110) := ⟨by (with_reducible repeat (first | apply Kd.R_alloc | apply Kd.R_drewN | apply Kd.R_drew)); exact Kd.R_mono (Kd.R_far (p := ⟨gb12131, 5, none⟩) (Kd.R_far (p := ⟨gb12131, 4, none⟩) (Kd.R_far (p := ⟨gb12131, 3, none⟩) (Kd.R_far (p := ⟨gb12131, 2, none⟩) (Kd.R_far (p := ⟨gb12131, 1, none⟩) (Kd.R_far (p := ⟨gb12131, 0, none⟩) (Kd.R_far (p := ⟨gb12130, 5, none⟩) (Kd.R_far (p := ⟨gb12130, 4, none⟩) (Kd.R_far (p := ⟨gb12130, 3, none⟩) (Kd.R_far (p := ⟨gb12130, 2, none⟩) (Kd.R_far (p := ⟨gb12130, 1, none⟩) (Kd.R_far (p := ⟨gb12130, 0, none⟩) (Kd.R_types (Kd.R_types HO12112.out BK12130.out (by decide)) BK12131.out (by decide)) (fun _ hk => hk.1.2) (.int .i64 t12114)) (fun _ hk => hk.1.2) (.int .i64 t12115)) (fun _ hk => hk.1.2) (.int .i64 t12116)) (fun _ hk => hk.1.2) (.int .i64 t12117)) (fun _ hk => hk.1.2) (.int .i64 t12118)) (fun _ hk => hk.1.2) (.slice Ao45 t12119.length co45)) (fun _ hk => hk.2) (.int .i64 t12122)) (fun _ hk => hk.2) (.int .i64 t12123)) (fun _ hk => hk.2) (.int .i64 t12124)) (fun _ hk => hk.2) (.int .i64 t12125)) (fun _ hk => hk.2) (.int .i64 t12126)) (fun _ hk => hk.2) (.slice Ao52 t12127.length co52)) (fun _ hk => trivial)⟩
  have n1_ : Aside0 (Kd.R k26 26 ((((((((((((w39.setCell ⟨gb12130, 0, none⟩ (.int .i64 t12114)).setCell ⟨gb12130, 1, none⟩ (.int .i64 t12115)).setCell ⟨gb12130, 2, none⟩ (.int .i64 t12116)).setCell ⟨gb12130, 3, none⟩ (.int .i64 t12117)).setCell ⟨gb12130, 4, none⟩ (.int .i64 t12118)).setCell ⟨gb12130, 5, none⟩ (.slice Ao45 t12119.length co45)).setCell ⟨gb12131, 0, none⟩ (.int .i64 t12122)).setCell ⟨gb12131, 1, none⟩ (.int .i64 t12123)).setCell ⟨gb12131, 2, none⟩ (.int .i64 t12124)).setCell ⟨gb12131, 3, none⟩ (.int .i64 t12125)).setCell ⟨gb12131, 4, none⟩ (.int .i64 t12126)).setCell ⟨gb12131, 5, none⟩ (.slice Ao52 t12127.length co52)) w.heap.size (fun k_ => some k_ ≠ (.slice Ao52 t12127.length co52 : Value).ownBlock) (.slice Ao45 t12119.length co45) t12119) := ⟨by (with_reducible repeat (first | apply Kd.R_alloc | apply Kd.R_drewN | apply Kd.R_drew)); exact Kd.R_mono (Kd.R_far (p := ⟨gb12131, 5, none⟩) (Kd.R_far (p := ⟨gb12131, 4, none⟩) (Kd.R_far (p := ⟨gb12131, 3, none⟩) (Kd.R_far (p := ⟨gb12131, 2, none⟩) (Kd.R_far (p := ⟨gb12131, 1, none⟩) (Kd.R_far (p := ⟨gb12131, 0, none⟩) (Kd.R_far (p := ⟨gb12130, 5, none⟩) (Kd.R_far (p := ⟨gb12130, 4, none⟩) (Kd.R_far (p := ⟨gb12130, 3, none⟩) (Kd.R_far (p := ⟨gb12130, 2, none⟩) (Kd.R_far (p := ⟨gb12130, 1, none⟩) (Kd.R_far (p := ⟨gb12130, 0, none⟩) (Kd.R_types (Kd.R_types HO12121.out BK12130.out (by decide)) BK12131.out (by decide)) (fun _ hk => hk.1.2) (.int .i64 t12114)) (fun _ hk => hk.1.2) (.int .i64 t12115)) (fun _ hk => hk.1.2) (.int .i64 t12116)) (fun _ hk => hk.1.2) (.int .i64 t12117)) (fun _ hk => hk.1.2) (.int .i64 t12118)) (fun _ hk => hk.1.2) (.slice Ao45 t12119.length co45)) (fun _ hk => hk.2) (.int .i64 t12122)) (fun _ hk => hk.2) (.int .i64 t12123)) (fun _ hk => hk.2) (.int .i64 t12124)) (fun _ hk => hk.2) (.int .i64 t12125)) (fun _ hk => hk.2) (.int .i64 t12126)) (fun _ hk => hk.2) (.slice Ao52 t12127.length co52)) (fun _ hk => hk.1.1)⟩
  have n2_ : Aside0 (Kd.R k26 26 ((((((((((((w39.setCell ⟨gb12130, 0, none⟩ (.int .i64 t12114)).setCell ⟨gb12130, 1, none⟩ (.int .i64 t12115)).setCell ⟨gb12130, 2, none⟩ (.int .i64 t12116)).setCell ⟨gb12130, 3, none⟩ (.int .i64 t12117)).setCell ⟨gb12130, 4, none⟩ (.int .i64 t12118)).setCell ⟨gb12130, 5, none⟩ (.slice Ao45 t12119.length co45)).setCell ⟨gb12131, 0, none⟩ (.int .i64 t12122)).setCell ⟨gb12131, 1, none⟩ (.int .i64 t12123)).setCell ⟨gb12131, 2, none⟩ (.int .i64 t12124)).setCell ⟨gb12131, 3, none⟩ (.int .i64 t12125)).setCell ⟨gb12131, 4, none⟩ (.int .i64 t12126)).setCell ⟨gb12131, 5, none⟩ (.slice Ao52 t12127.length co52)) w.heap.size (fun k_ => some k_ ≠ (.slice Ao45 t12119.length co45 : Value).ownBlock) (.slice Ao52 t12127.length co52) t12127) := ⟨by (with_reducible repeat (first | apply Kd.R_alloc | apply Kd.R_drewN | apply Kd.R_drew)); exact Kd.R_mono (Kd.R_far (p := ⟨gb12131, 5, none⟩) (Kd.R_far (p := ⟨gb12131, 4, none⟩) (Kd.R_far (p := ⟨gb12131, 3, none⟩) (Kd.R_far (p := ⟨gb12131, 2, none⟩) (Kd.R_far (p := ⟨gb12131, 1, none⟩) (Kd.R_far (p := ⟨gb12131, 0, none⟩) (Kd.R_far (p := ⟨gb12130, 5, none⟩) (Kd.R_far (p := ⟨gb12130, 4, none⟩) (Kd.R_far (p := ⟨gb12130, 3, none⟩) (Kd.R_far (p := ⟨gb12130, 2, none⟩) (Kd.R_far (p := ⟨gb12130, 1, none⟩) (Kd.R_far (p := ⟨gb12130, 0, none⟩) (Kd.R_types (Kd.R_types HO12129.out BK12130.out (by decide)) BK12131.out (by decide)) (fun _ hk => hk.1.2) (.int .i64 t12114)) (fun _ hk => hk.1.2) (.int .i64 t12115)) (fun _ hk => hk.1.2) (.int .i64 t12116)) (fun _ hk => hk.1.2) (.int .i64 t12117)) (fun _ hk => hk.1.2) (.int .i64 t12118)) (fun _ hk => hk.1.2) (.slice Ao45 t12119.length co45)) (fun _ hk => hk.2) (.int .i64 t12122)) (fun _ hk => hk.2) (.int .i64 t12123)) (fun _ hk => hk.2) (.int .i64 t12124)) (fun _ hk => hk.2) (.int .i64 t12125)) (fun _ hk => hk.2) (.int .i64 t12126)) (fun _ hk => hk.2) (.slice Ao52 t12127.length co52)) (fun _ hk => hk.1.1)⟩
  have n3_ : Aside0 (((((((((((((w39.setCell ⟨gb12130, 0, none⟩ (.int .i64 t12114)).setCell ⟨gb12130, 1, none⟩ (.int .i64 t12115)).setCell ⟨gb12130, 2, none⟩ (.int .i64 t12116)).setCell ⟨gb12130, 3, none⟩ (.int .i64 t12117)).setCell ⟨gb12130, 4, none⟩ (.int .i64 t12118)).setCell ⟨gb12130, 5, none⟩ (.slice Ao45 t12119.length co45)).setCell ⟨gb12131, 0, none⟩ (.int .i64 t12122)).setCell ⟨gb12131, 1, none⟩ (.int .i64 t12123)).setCell ⟨gb12131, 2, none⟩ (.int .i64 t12124)).setCell ⟨gb12131, 3, none⟩ (.int .i64 t12125)).setCell ⟨gb12131, 4, none⟩ (.int .i64 t12126)).setCell ⟨gb12131, 5, none⟩ (.slice Ao52 t12127.length co52)).heap[gb12101]? = some (.cells #[.int .i64 a0_0, .int .i64 a0_1, .int .i64 a0_2, .int .i64 a0_3, .int .i64 a0_4, .slice A0_5 l0_5.length c0_5] 24 (0, 0))) := ⟨by (with_reducible repeat (first | refine blk_drewN ?_ _ | refine blk_drew ?_ | refine blk_alloc ?_ _)); refine blk_far ?_ NB12101_12131.out _; refine blk_far ?_ NB12101_12131.out _; refine blk_far ?_ NB12101_12131.out _; refine blk_far ?_ NB12101_12131.out _; refine blk_far ?_ NB12101_12131.out _; refine blk_far ?_ NB12101_12131.out _; refine blk_far ?_ NB12101_12130.out _; refine blk_far ?_ NB12101_12130.out _; refine blk_far ?_ NB12101_12130.out _; refine blk_far ?_ NB12101_12130.out _; refine blk_far ?_ NB12101_12130.out _; refine blk_far ?_ NB12101_12130.out _; (with_reducible repeat (first | refine blk_drewN ?_ _ | refine blk_drew ?_ | refine blk_alloc ?_ _)); exact BK12101.out⟩
  have n4_ : Aside0 (((((((((((((w39.setCell ⟨gb12130, 0, none⟩ (.int .i64 t12114)).setCell ⟨gb12130, 1, none⟩ (.int .i64 t12115)).setCell ⟨gb12130, 2, none⟩ (.int .i64 t12116)).setCell ⟨gb12130, 3, none⟩ (.int .i64 t12117)).setCell ⟨gb12130, 4, none⟩ (.int .i64 t12118)).setCell ⟨gb12130, 5, none⟩ (.slice Ao45 t12119.length co45)).setCell ⟨gb12131, 0, none⟩ (.int .i64 t12122)).setCell ⟨gb12131, 1, none⟩ (.int .i64 t12123)).setCell ⟨gb12131, 2, none⟩ (.int .i64 t12124)).setCell ⟨gb12131, 3, none⟩ (.int .i64 t12125)).setCell ⟨gb12131, 4, none⟩ (.int .i64 t12126)).setCell ⟨gb12131, 5, none⟩ (.slice Ao52 t12127.length co52)).heap[gb12102]? = some (.cells #[.int .i64 a1_0, .int .i64 a1_1, .int .i64 a1_2, .int .i64 a1_3, .int .i64 a1_4, .slice A1_5 l1_5.length c1_5] 29 (0, 0))) := ⟨by (with_reducible repeat (first | refine blk_drewN ?_ _ | refine blk_drew ?_ | refine blk_alloc ?_ _)); refine blk_far ?_ NB12102_12131.out _; refine blk_far ?_ NB12102_12131.out _; refine blk_far ?_ NB12102_12131.out _; refine blk_far ?_ NB12102_12131.out _; refine blk_far ?_ NB12102_12131.out _; refine blk_far ?_ NB12102_12131.out _; refine blk_far ?_ NB12102_12130.out _; refine blk_far ?_ NB12102_12130.out _; refine blk_far ?_ NB12102_12130.out _; refine blk_far ?_ NB12102_12130.out _; refine blk_far ?_ NB12102_12130.out _; refine blk_far ?_ NB12102_12130.out _; (with_reducible repeat (first | refine blk_drewN ?_ _ | refine blk_drew ?_ | refine blk_alloc ?_ _)); exact BK12102.out⟩
  have n5_ : Aside0 (((((((((((((w39.setCell ⟨gb12130, 0, none⟩ (.int .i64 t12114)).setCell ⟨gb12130, 1, none⟩ (.int .i64 t12115)).setCell ⟨gb12130, 2, none⟩ (.int .i64 t12116)).setCell ⟨gb12130, 3, none⟩ (.int .i64 t12117)).setCell ⟨gb12130, 4, none⟩ (.int .i64 t12118)).setCell ⟨gb12130, 5, none⟩ (.slice Ao45 t12119.length co45)).setCell ⟨gb12131, 0, none⟩ (.int .i64 t12122)).setCell ⟨gb12131, 1, none⟩ (.int .i64 t12123)).setCell ⟨gb12131, 2, none⟩ (.int .i64 t12124)).setCell ⟨gb12131, 3, none⟩ (.int .i64 t12125)).setCell ⟨gb12131, 4, none⟩ (.int .i64 t12126)).setCell ⟨gb12131, 5, none⟩ (.slice Ao52 t12127.length co52)).heap[gb12103]? = some (.cells #[.int .i64 a2_0, .int .i64 a2_1, .int .i64 a2_2, .int .i64 a2_3, .int .i64 a2_4, .slice A2_5 l2_5.length c2_5] 29 (0, 0))) := ⟨by (with_reducible repeat (first | refine blk_drewN ?_ _ | refine blk_drew ?_ | refine blk_alloc ?_ _)); refine blk_far ?_ NB12103_12131.out _; refine blk_far ?_ NB12103_12131.out _; refine blk_far ?_ NB12103_12131.out _; refine blk_far ?_ NB12103_12131.out _; refine blk_far ?_ NB12103_12131.out _; refine blk_far ?_ NB12103_12131.out _; refine blk_far ?_ NB12103_12130.out _; refine blk_far ?_ NB12103_12130.out _; refine blk_far ?_ NB12103_12130.out _; refine blk_far ?_ NB12103_12130.out _; refine blk_far ?_ NB12103_12130.out _; refine blk_far ?_ NB12103_12130.out _; (with_reducible repeat (first | refine blk_drewN ?_ _ | refine blk_drew ?_ | refine blk_alloc ?_ _)); exact BK12103.out⟩
  have n6_ : Aside0 (((((((((((((w39.setCell ⟨gb12130, 0, none⟩ (.int .i64 t12114)).setCell ⟨gb12130, 1, none⟩ (.int .i64 t12115)).setCell ⟨gb12130, 2, none⟩ (.int .i64 t12116)).setCell ⟨gb12130, 3, none⟩ (.int .i64 t12117)).setCell ⟨gb12130, 4, none⟩ (.int .i64 t12118)).setCell ⟨gb12130, 5, none⟩ (.slice Ao45 t12119.length co45)).setCell ⟨gb12131, 0, none⟩ (.int .i64 t12122)).setCell ⟨gb12131, 1, none⟩ (.int .i64 t12123)).setCell ⟨gb12131, 2, none⟩ (.int .i64 t12124)).setCell ⟨gb12131, 3, none⟩ (.int .i64 t12125)).setCell ⟨gb12131, 4, none⟩ (.int .i64 t12126)).setCell ⟨gb12131, 5, none⟩ (.slice Ao52 t12127.length co52)).heap[gb12113]? = some (.cells #[.int .i64 t12105, .int .i64 t12106, .int .i64 t12107, .int .i64 t12108, .int .i64 t12109, .slice Ao32 t12110.length co32] 24 (0, 0))) := ⟨by (with_reducible repeat (first | refine blk_drewN ?_ _ | refine blk_drew ?_ | refine blk_alloc ?_ _)); refine blk_far ?_ NB12113_12131.out _; refine blk_far ?_ NB12113_12131.out _; refine blk_far ?_ NB12113_12131.out _; refine blk_far ?_ NB12113_12131.out _; refine blk_far ?_ NB12113_12131.out _; refine blk_far ?_ NB12113_12131.out _; refine blk_far ?_ NB12113_12130.out _; refine blk_far ?_ NB12113_12130.out _; refine blk_far ?_ NB12113_12130.out _; refine blk_far ?_ NB12113_12130.out _; refine blk_far ?_ NB12113_12130.out _; refine blk_far ?_ NB12113_12130.out _; (with_reducible repeat (first | refine blk_drewN ?_ _ | refine blk_drew ?_ | refine blk_alloc ?_ _)); exact BK12113.out⟩
  have n7_ : Aside0 (((((((((((((w39.setCell ⟨gb12130, 0, none⟩ (.int .i64 t12114)).setCell ⟨gb12130, 1, none⟩ (.int .i64 t12115)).setCell ⟨gb12130, 2, none⟩ (.int .i64 t12116)).setCell ⟨gb12130, 3, none⟩ (.int .i64 t12117)).setCell ⟨gb12130, 4, none⟩ (.int .i64 t12118)).setCell ⟨gb12130, 5, none⟩ (.slice Ao45 t12119.length co45)).setCell ⟨gb12131, 0, none⟩ (.int .i64 t12122)).setCell ⟨gb12131, 1, none⟩ (.int .i64 t12123)).setCell ⟨gb12131, 2, none⟩ (.int .i64 t12124)).setCell ⟨gb12131, 3, none⟩ (.int .i64 t12125)).setCell ⟨gb12131, 4, none⟩ (.int .i64 t12126)).setCell ⟨gb12131, 5, none⟩ (.slice Ao52 t12127.length co52)).heap[gb12130]? = some (.cells #[.int .i64 t12114, .int .i64 t12115, .int .i64 t12116, .int .i64 t12117, .int .i64 t12118, .slice Ao45 t12119.length co45] 29 (0, 0))) := ⟨by (with_reducible repeat (first | refine blk_drewN ?_ _ | refine blk_drew ?_ | refine blk_alloc ?_ _)); refine blk_far ?_ NB12130_12131.out _; refine blk_far ?_ NB12130_12131.out _; refine blk_far ?_ NB12130_12131.out _; refine blk_far ?_ NB12130_12131.out _; refine blk_far ?_ NB12130_12131.out _; refine blk_far ?_ NB12130_12131.out _; refine blk_put (cs := #[.int .i64 t12114, .int .i64 t12115, .int .i64 t12116, .int .i64 t12117, .int .i64 t12118, .slice none 0 0]) ?_ 5 _ rfl; refine blk_put (cs := #[.int .i64 t12114, .int .i64 t12115, .int .i64 t12116, .int .i64 t12117, .int .i64 0, .slice none 0 0]) ?_ 4 _ rfl; refine blk_put (cs := #[.int .i64 t12114, .int .i64 t12115, .int .i64 t12116, .int .i64 0, .int .i64 0, .slice none 0 0]) ?_ 3 _ rfl; refine blk_put (cs := #[.int .i64 t12114, .int .i64 t12115, .int .i64 0, .int .i64 0, .int .i64 0, .slice none 0 0]) ?_ 2 _ rfl; refine blk_put (cs := #[.int .i64 t12114, .int .i64 0, .int .i64 0, .int .i64 0, .int .i64 0, .slice none 0 0]) ?_ 1 _ rfl; refine blk_put (cs := #[.int .i64 0, .int .i64 0, .int .i64 0, .int .i64 0, .int .i64 0, .slice none 0 0]) ?_ 0 _ rfl; (with_reducible repeat (first | refine blk_drewN ?_ _ | refine blk_drew ?_ | refine blk_alloc ?_ _)); exact BK12130.out⟩
  have n8_ : Aside0 (((((((((((((w39.setCell ⟨gb12130, 0, none⟩ (.int .i64 t12114)).setCell ⟨gb12130, 1, none⟩ (.int .i64 t12115)).setCell ⟨gb12130, 2, none⟩ (.int .i64 t12116)).setCell ⟨gb12130, 3, none⟩ (.int .i64 t12117)).setCell ⟨gb12130, 4, none⟩ (.int .i64 t12118)).setCell ⟨gb12130, 5, none⟩ (.slice Ao45 t12119.length co45)).setCell ⟨gb12131, 0, none⟩ (.int .i64 t12122)).setCell ⟨gb12131, 1, none⟩ (.int .i64 t12123)).setCell ⟨gb12131, 2, none⟩ (.int .i64 t12124)).setCell ⟨gb12131, 3, none⟩ (.int .i64 t12125)).setCell ⟨gb12131, 4, none⟩ (.int .i64 t12126)).setCell ⟨gb12131, 5, none⟩ (.slice Ao52 t12127.length co52)).heap[gb12131]? = some (.cells #[.int .i64 t12122, .int .i64 t12123, .int .i64 t12124, .int .i64 t12125, .int .i64 t12126, .slice Ao52 t12127.length co52] 29 (0, 0))) := ⟨by (with_reducible repeat (first | refine blk_drewN ?_ _ | refine blk_drew ?_ | refine blk_alloc ?_ _)); refine blk_put (cs := #[.int .i64 t12122, .int .i64 t12123, .int .i64 t12124, .int .i64 t12125, .int .i64 t12126, .slice none 0 0]) ?_ 5 _ rfl; refine blk_put (cs := #[.int .i64 t12122, .int .i64 t12123, .int .i64 t12124, .int .i64 t12125, .int .i64 0, .slice none 0 0]) ?_ 4 _ rfl; refine blk_put (cs := #[.int .i64 t12122, .int .i64 t12123, .int .i64 t12124, .int .i64 0, .int .i64 0, .slice none 0 0]) ?_ 3 _ rfl; refine blk_put (cs := #[.int .i64 t12122, .int .i64 t12123, .int .i64 0, .int .i64 0, .int .i64 0, .slice none 0 0]) ?_ 2 _ rfl; refine blk_put (cs := #[.int .i64 t12122, .int .i64 0, .int .i64 0, .int .i64 0, .int .i64 0, .slice none 0 0]) ?_ 1 _ rfl; refine blk_put (cs := #[.int .i64 0, .int .i64 0, .int .i64 0, .int .i64 0, .int .i64 0, .slice none 0 0]) ?_ 0 _ rfl; refine blk_far ?_ NB12131_12130.out _; refine blk_far ?_ NB12131_12130.out _; refine blk_far ?_ NB12131_12130.out _; refine blk_far ?_ NB12131_12130.out _; refine blk_far ?_ NB12131_12130.out _; refine blk_far ?_ NB12131_12130.out _; (with_reducible repeat (first | refine blk_drewN ?_ _ | refine blk_drew ?_ | refine blk_alloc ?_ _)); exact BK12131.out⟩
  have n9_ : Aside0 (Below w.heap.size w ((((((((((((w39.setCell ⟨gb12130, 0, none⟩ (.int .i64 t12114)).setCell ⟨gb12130, 1, none⟩ (.int .i64 t12115)).setCell ⟨gb12130, 2, none⟩ (.int .i64 t12116)).setCell ⟨gb12130, 3, none⟩ (.int .i64 t12117)).setCell ⟨gb12130, 4, none⟩ (.int .i64 t12118)).setCell ⟨gb12130, 5, none⟩ (.slice Ao45 t12119.length co45)).setCell ⟨gb12131, 0, none⟩ (.int .i64 t12122)).setCell ⟨gb12131, 1, none⟩ (.int .i64 t12123)).setCell ⟨gb12131, 2, none⟩ (.int .i64 t12124)).setCell ⟨gb12131, 3, none⟩ (.int .i64 t12125)).setCell ⟨gb12131, 4, none⟩ (.int .i64 t12126)).setCell ⟨gb12131, 5, none⟩ (.slice Ao52 t12127.length co52))) := ⟨by repeat (first | (with_reducible first | exact HB.out | apply below_alloc | apply pw_below_drewN | apply below_drew1 | refine below_set ?_ GE12101.out | refine below_set ?_ GE12102.out | refine below_set ?_ GE12103.out | refine below_set ?_ GE12113.out | refine below_set ?_ GE12130.out | refine below_set ?_ GE12131.out) | exact HB.out)⟩
  (try clear HO12112)
  (try clear HO12121)
  (try clear HO12129)
  (try clear BK12101)
  (try clear BK12102)
  (try clear BK12103)
  (try clear BK12113)
  (try clear BK12130)
  (try clear BK12131)
  (try clear HB)
  generalize ((((((((((((w39.setCell ⟨gb12130, 0, none⟩ (.int .i64 t12114)).setCell ⟨gb12130, 1, none⟩ (.int .i64 t12115)).setCell ⟨gb12130, 2, none⟩ (.int .i64 t12116)).setCell ⟨gb12130, 3, none⟩ (.int .i64 t12117)).setCell ⟨gb12130, 4, none⟩ (.int .i64 t12118)).setCell ⟨gb12130, 5, none⟩ (.slice Ao45 t12119.length co45)).setCell ⟨gb12131, 0, none⟩ (.int .i64 t12122)).setCell ⟨gb12131, 1, none⟩ (.int .i64 t12123)).setCell ⟨gb12131, 2, none⟩ (.int .i64 t12124)).setCell ⟨gb12131, 3, none⟩ (.int .i64 t12125)).setCell ⟨gb12131, 4, none⟩ (.int .i64 t12126)).setCell ⟨gb12131, 5, none⟩ (.slice Ao52 t12127.length co52)) = w54 at n0_ n1_ n2_ n3_ n4_ n5_ n6_ n7_ n8_ n9_ ⊢
  have HO12112 := n0_
  have HO12121 := n1_
  have HO12129 := n2_
  have BK12101 := n3_
  have BK12102 := n4_
  have BK12103 := n5_
  have BK12113 := n6_
  have BK12130 := n7_
  have BK12131 := n8_
  have HB := n9_
  clear n0_ n1_ n2_ n3_ n4_ n5_ n6_ n7_ n8_ n9_
  replace HO12112 := Aside0.mk (Kd.R_drew HO12112.out)
  replace HO12121 := Aside0.mk (Kd.R_drew HO12121.out)
  replace HO12129 := Aside0.mk (Kd.R_drew HO12129.out)
  replace BK12101 := Aside0.mk (blk_drew BK12101.out)
  replace BK12102 := Aside0.mk (blk_drew BK12102.out)
  replace BK12103 := Aside0.mk (blk_drew BK12103.out)
  replace BK12113 := Aside0.mk (blk_drew BK12113.out)
  replace BK12130 := Aside0.mk (blk_drew BK12130.out)
  replace BK12131 := Aside0.mk (blk_drew BK12131.out)
  replace HB := Aside0.mk (below_drew1 HB.out)
  refine start_ (n := 8) (S := fun w' => w'.cell? ⟨gb12113, 0, none⟩ = some (.int .i64 t12105) ∧ w'.cell? ⟨gb12113, 1, none⟩ = some (.int .i64 t12106) ∧ w'.cell? ⟨gb12113, 2, none⟩ = some (.int .i64 t12107) ∧ w'.cell? ⟨gb12113, 3, none⟩ = some (.int .i64 t12108) ∧ w'.cell? ⟨gb12113, 4, none⟩ = some (.int .i64 t12109) ∧ w'.cell? ⟨gb12113, 5, none⟩ = some (.slice Ao32 t12110.length co32) ∧ w'.cell? ⟨gb12130, 0, none⟩ = some (.int .i64 t12114) ∧ w'.cell? ⟨gb12130, 1, none⟩ = some (.int .i64 t12115) ∧ w'.cell? ⟨gb12130, 2, none⟩ = some (.int .i64 t12116) ∧ w'.cell? ⟨gb12130, 3, none⟩ = some (.int .i64 t12117) ∧ w'.cell? ⟨gb12130, 4, none⟩ = some (.int .i64 t12118) ∧ w'.cell? ⟨gb12130, 5, none⟩ = some (.slice Ao45 t12119.length co45) ∧ w'.cell? ⟨gb12131, 0, none⟩ = some (.int .i64 t12122) ∧ w'.cell? ⟨gb12131, 1, none⟩ = some (.int .i64 t12123) ∧ w'.cell? ⟨gb12131, 2, none⟩ = some (.int .i64 t12124) ∧ w'.cell? ⟨gb12131, 3, none⟩ = some (.int .i64 t12125) ∧ w'.cell? ⟨gb12131, 4, none⟩ = some (.int .i64 t12126) ∧ w'.cell? ⟨gb12131, 5, none⟩ = some (.slice Ao52 t12127.length co52)) (ds := []) #[false, false, false, false, false, false, false, false] (by kernel_rfl) rfl rfl ⟨(blk_cell BK12113.out 0).trans rfl, (blk_cell BK12113.out 1).trans rfl, (blk_cell BK12113.out 2).trans rfl, (blk_cell BK12113.out 3).trans rfl, (blk_cell BK12113.out 4).trans rfl, (blk_cell BK12113.out 5).trans rfl, (blk_cell BK12130.out 0).trans rfl, (blk_cell BK12130.out 1).trans rfl, (blk_cell BK12130.out 2).trans rfl, (blk_cell BK12130.out 3).trans rfl, (blk_cell BK12130.out 4).trans rfl, (blk_cell BK12130.out 5).trans rfl, (blk_cell BK12131.out 0).trans rfl, (blk_cell BK12131.out 1).trans rfl, (blk_cell BK12131.out 2).trans rfl, (blk_cell BK12131.out 3).trans rfl, (blk_cell BK12131.out 4).trans rfl, (blk_cell BK12131.out 5).trans rfl⟩ (fun hHeld => ?_); refine with_tabW plaitinglaw5_FrameSame.tab5 plaitinglaw5_FrameSame.bits5 (fun HT_ HW_ => ?_)
  generalize w54.drew = w55 at HO12112 HO12121 HO12129 BK12101 BK12102 BK12103 BK12113 BK12130 BK12131 HB hHeld ⊢
  refine take_ (i := 0) (N := some 27) (v := ?_) (a' := ?_) #[true, false, false, false, false, false, false, false] rfl rfl (take_ofW HT_.out HW_.out (by kernel_rfl)) (fun _ _ _ h => h) (Or.inl ⟨by rfl, ?_⟩) hHeld ?_ ?_
  rotate_left
  · rintro w' ⟨s0, s1, s2, s3, s4, s5, s6, s7, s8, s9, s10, s11, s12, s13, s14, s15, s16, s17⟩
    go_simp
    with_reducible rfl
  rotate_left
  · simp only [Act.put, List.setIfInBounds_toArray, List.set_cons_zero, List.set_cons_succ, i64_w, i32_w]
    rfl
  refine take_ (i := 1) (N := some 28) (v := ?_) (a' := ?_) #[true, true, false, false, false, false, false, false] rfl rfl (take_ofW HT_.out HW_.out (by kernel_rfl)) (fun _ _ _ h => h) (Or.inl ⟨by rfl, ?_⟩) hHeld ?_ ?_
  rotate_left
  · rintro w' ⟨s0, s1, s2, s3, s4, s5, s6, s7, s8, s9, s10, s11, s12, s13, s14, s15, s16, s17⟩
    go_simp
    with_reducible rfl
  rotate_left
  · simp only [Act.put, List.setIfInBounds_toArray, List.set_cons_zero, List.set_cons_succ, i64_w, i32_w]
    rfl
  refine take_ (i := 3) (N := some 30) (v := ?_) (a' := ?_) #[true, true, false, true, false, false, false, false] rfl rfl (take_ofW HT_.out HW_.out (by kernel_rfl)) (fun _ _ _ h => h) (Or.inl ⟨by rfl, ?_⟩) hHeld ?_ ?_
  rotate_left
  · rintro w' ⟨s0, s1, s2, s3, s4, s5, s6, s7, s8, s9, s10, s11, s12, s13, s14, s15, s16, s17⟩
    go_simp
    with_reducible rfl
  rotate_left
  · simp only [Act.put, List.setIfInBounds_toArray, List.set_cons_zero, List.set_cons_succ, i64_w, i32_w]
    rfl
  refine take_ (i := 4) (N := some 31) (v := ?_) (a' := ?_) #[true, true, false, true, true, false, false, false] rfl rfl (take_ofW HT_.out HW_.out (by kernel_rfl)) (fun _ _ _ h => h) (Or.inl ⟨by rfl, ?_⟩) hHeld ?_ ?_
  rotate_left
  · rintro w' ⟨s0, s1, s2, s3, s4, s5, s6, s7, s8, s9, s10, s11, s12, s13, s14, s15, s16, s17⟩
    go_simp
    with_reducible rfl
  rotate_left
  · simp only [Act.put, List.setIfInBounds_toArray, List.set_cons_zero, List.set_cons_succ, i64_w, i32_w]
    rfl
  refine one_ (i := 2) (N := some 29) #[true, true, true, true, true, false, false, false] rfl rfl (one_of HT_.out (by kernel_rfl)) (by decide) (fun K hK => ?_)
  refine goes_ Try.func26 (by kernel_rfl) rfl #[.agg #[.int .i64 t12105, .int .i64 t12106, .int .i64 t12107, .int .i64 t12108, .int .i64 t12109, .slice Ao32 t12110.length co32], .agg #[.int .i64 t12114, .int .i64 t12115, .int .i64 t12116, .int .i64 t12117, .int .i64 t12118, .slice Ao45 t12119.length co45]] (by rfl) rfl rfl (by (try simp only [List.map_toArray, List.map_cons, List.map_nil]); first | done | rfl | (simp only [List.length_drop, List.length_take]; rfl)) ?_
  with_reducible refine (frame_Text.calls t12105 t12106 t12107 t12108 t12109 _ _ t12110 t12114 t12115 t12116 t12117 t12118 _ _ t12119 t12132 _ ?side1 ?side2 ?side3 ?side4 A11.out).mono ?_
  (case side1 => repeat (first | exact (Kd.R_reads' HO12112.out).2.2 | (with_reducible refine Kd.C_alloc ?_ _) | (with_reducible refine Kd.C_drewN ?_ _) | (with_reducible refine Kd.C_drew ?_)))
  (case side2 => exact (Kd.R_reads' HO12112.out).2.1)
  (case side3 => repeat (first | exact (Kd.R_reads' HO12121.out).2.2 | (with_reducible refine Kd.C_alloc ?_ _) | (with_reducible refine Kd.C_drewN ?_ _) | (with_reducible refine Kd.C_drew ?_)))
  (case side4 => exact (Kd.R_reads' HO12121.out).2.1)
  rintro e w56 ⟨rfl, hb⟩
  refine ⟨_, rfl, ?_⟩
  replace HO12112 := Aside0.mk (Kd.R_below (pR_ HO12112.out) hb)
  replace HO12121 := Aside0.mk (Kd.R_below (pR_ HO12121.out) hb)
  replace HO12129 := Aside0.mk (Kd.R_below (pR_ HO12129.out) hb)
  replace BK12101 := Aside0.mk (blk_below (pB_ BK12101.out) hb)
  replace BK12102 := Aside0.mk (blk_below (pB_ BK12102.out) hb)
  replace BK12103 := Aside0.mk (blk_below (pB_ BK12103.out) hb)
  replace BK12113 := Aside0.mk (blk_below (pB_ BK12113.out) hb)
  replace BK12130 := Aside0.mk (blk_below (pB_ BK12130.out) hb)
  replace BK12131 := Aside0.mk (blk_below (pB_ BK12131.out) hb)
  replace HB := Aside0.mk (below_step (pH_ HB.out) hb)
  (try clear hb)
  (try clear hb2)
  (try clear hk)
  (try clear hi)
  refine hK.out _ _ ⟨(blk_cell BK12113.out 0).trans rfl, (blk_cell BK12113.out 1).trans rfl, (blk_cell BK12113.out 2).trans rfl, (blk_cell BK12113.out 3).trans rfl, (blk_cell BK12113.out 4).trans rfl, (blk_cell BK12113.out 5).trans rfl, (blk_cell BK12130.out 0).trans rfl, (blk_cell BK12130.out 1).trans rfl, (blk_cell BK12130.out 2).trans rfl, (blk_cell BK12130.out 3).trans rfl, (blk_cell BK12130.out 4).trans rfl, (blk_cell BK12130.out 5).trans rfl, (blk_cell BK12131.out 0).trans rfl, (blk_cell BK12131.out 1).trans rfl, (blk_cell BK12131.out 2).trans rfl, (blk_cell BK12131.out 3).trans rfl, (blk_cell BK12131.out 4).trans rfl, (blk_cell BK12131.out 5).trans rfl⟩ (fun hHeld => ?_)
  clear hK K
  refine norm_ (a' := ?_) ?_ ?_
  rotate_left
  · show Act.put _ (some 29) _ = _
    simp only [Act.put, List.setIfInBounds_toArray, List.set_cons_zero, List.set_cons_succ, i64_w, i32_w]
    rfl
  refine one_ (i := 5) (N := some 32) #[true, true, true, true, true, true, false, false] rfl rfl (one_of HT_.out (by kernel_rfl)) (by decide) (fun K hK => ?_)
  refine goes_ Try.func26 (by kernel_rfl) rfl #[.agg #[.int .i64 t12105, .int .i64 t12106, .int .i64 t12107, .int .i64 t12108, .int .i64 t12109, .slice Ao32 t12110.length co32], .agg #[.int .i64 t12122, .int .i64 t12123, .int .i64 t12124, .int .i64 t12125, .int .i64 t12126, .slice Ao52 t12127.length co52]] (by rfl) rfl rfl (by (try simp only [List.map_toArray, List.map_cons, List.map_nil]); first | done | rfl | (simp only [List.length_drop, List.length_take]; rfl)) ?_
  with_reducible refine (frame_Text.calls t12105 t12106 t12107 t12108 t12109 _ _ t12110 t12122 t12123 t12124 t12125 t12126 _ _ t12127 t12133 _ ?side1 ?side2 ?side3 ?side4 A12.out).mono ?_
  (case side1 => repeat (first | exact (Kd.R_reads' HO12112.out).2.2 | (with_reducible refine Kd.C_alloc ?_ _) | (with_reducible refine Kd.C_drewN ?_ _) | (with_reducible refine Kd.C_drew ?_)))
  (case side2 => exact (Kd.R_reads' HO12112.out).2.1)
  (case side3 => repeat (first | exact (Kd.R_reads' HO12129.out).2.2 | (with_reducible refine Kd.C_alloc ?_ _) | (with_reducible refine Kd.C_drewN ?_ _) | (with_reducible refine Kd.C_drew ?_)))
  (case side4 => exact (Kd.R_reads' HO12129.out).2.1)
  rintro e w57 ⟨rfl, hb⟩
  refine ⟨_, rfl, ?_⟩
  replace HO12112 := Aside0.mk (Kd.R_below (pR_ HO12112.out) hb)
  replace HO12121 := Aside0.mk (Kd.R_below (pR_ HO12121.out) hb)
  replace HO12129 := Aside0.mk (Kd.R_below (pR_ HO12129.out) hb)
  replace BK12101 := Aside0.mk (blk_below (pB_ BK12101.out) hb)
  replace BK12102 := Aside0.mk (blk_below (pB_ BK12102.out) hb)
  replace BK12103 := Aside0.mk (blk_below (pB_ BK12103.out) hb)
  replace BK12113 := Aside0.mk (blk_below (pB_ BK12113.out) hb)
  replace BK12130 := Aside0.mk (blk_below (pB_ BK12130.out) hb)
  replace BK12131 := Aside0.mk (blk_below (pB_ BK12131.out) hb)
  replace HB := Aside0.mk (below_step (pH_ HB.out) hb)
  (try clear hb)
  (try clear hb2)
  (try clear hk)
  (try clear hi)
  refine hK.out _ _ ⟨(blk_cell BK12113.out 0).trans rfl, (blk_cell BK12113.out 1).trans rfl, (blk_cell BK12113.out 2).trans rfl, (blk_cell BK12113.out 3).trans rfl, (blk_cell BK12113.out 4).trans rfl, (blk_cell BK12113.out 5).trans rfl, (blk_cell BK12130.out 0).trans rfl, (blk_cell BK12130.out 1).trans rfl, (blk_cell BK12130.out 2).trans rfl, (blk_cell BK12130.out 3).trans rfl, (blk_cell BK12130.out 4).trans rfl, (blk_cell BK12130.out 5).trans rfl, (blk_cell BK12131.out 0).trans rfl, (blk_cell BK12131.out 1).trans rfl, (blk_cell BK12131.out 2).trans rfl, (blk_cell BK12131.out 3).trans rfl, (blk_cell BK12131.out 4).trans rfl, (blk_cell BK12131.out 5).trans rfl⟩ (fun hHeld => ?_)
  clear hK K
  refine norm_ (a' := ?_) ?_ ?_
  rotate_left
  · show Act.put _ (some 32) _ = _
    simp only [Act.put, List.setIfInBounds_toArray, List.set_cons_zero, List.set_cons_succ, i64_w, i32_w]
    rfl
  refine pure_ (i := 6) (N := some 33) (v := ?_) (a' := ?_) #[true, true, true, true, true, true, true, false] rfl rfl (any_of HT_.out (by kernel_rfl)) (fun _ _ _ h => h) (Or.inl ⟨by rfl, ?_⟩) ?_ ?_
  rotate_left
  · intro w'
    go_simp
    with_reducible rfl
  rotate_left
  · simp only [Act.put, List.setIfInBounds_toArray, List.set_cons_zero, List.set_cons_succ, i64_w, i32_w]
    rfl
  refine pure_ (i := 7) (N := some 14) (v := ?_) (a' := ?_) #[true, true, true, true, true, true, true, true] rfl rfl (any_of HT_.out (by kernel_rfl)) (fun _ _ _ h => h) (Or.inl ⟨by rfl, ?_⟩) ?_ ?_
  rotate_left
  · intro w'
    go_simp
    with_reducible rfl
  rotate_left
  · simp only [Act.put, List.setIfInBounds_toArray, List.set_cons_zero, List.set_cons_succ, i64_w, i32_w]
    rfl
  refine done_ (done_of HT_.out (by kernel_rfl)) ?_
  try go_wp2
  replace HO12112 := Aside0.mk (Kd.R_drew HO12112.out)
  replace HO12121 := Aside0.mk (Kd.R_drew HO12121.out)
  replace HO12129 := Aside0.mk (Kd.R_drew HO12129.out)
  replace BK12101 := Aside0.mk (blk_drew BK12101.out)
  replace BK12102 := Aside0.mk (blk_drew BK12102.out)
  replace BK12103 := Aside0.mk (blk_drew BK12103.out)
  replace BK12113 := Aside0.mk (blk_drew BK12113.out)
  replace BK12130 := Aside0.mk (blk_drew BK12130.out)
  replace BK12131 := Aside0.mk (blk_drew BK12131.out)
  replace HB := Aside0.mk (below_drew1 HB.out)
  refine start_ (n := 20) (S := fun w' => w'.cell? ⟨gb12130, 0, none⟩ = some (.int .i64 t12114) ∧ w'.cell? ⟨gb12130, 1, none⟩ = some (.int .i64 t12115) ∧ w'.cell? ⟨gb12130, 2, none⟩ = some (.int .i64 t12116) ∧ w'.cell? ⟨gb12130, 3, none⟩ = some (.int .i64 t12117) ∧ w'.cell? ⟨gb12130, 4, none⟩ = some (.int .i64 t12118) ∧ w'.cell? ⟨gb12130, 5, none⟩ = some (.slice Ao45 t12119.length co45) ∧ w'.cell? ⟨gb12131, 0, none⟩ = some (.int .i64 t12122) ∧ w'.cell? ⟨gb12131, 1, none⟩ = some (.int .i64 t12123) ∧ w'.cell? ⟨gb12131, 2, none⟩ = some (.int .i64 t12124) ∧ w'.cell? ⟨gb12131, 3, none⟩ = some (.int .i64 t12125) ∧ w'.cell? ⟨gb12131, 4, none⟩ = some (.int .i64 t12126) ∧ w'.cell? ⟨gb12131, 5, none⟩ = some (.slice Ao52 t12127.length co52)) (ds := []) #[false, false, false, false, false, false, false, false, false, false, false, false, false, false, false, false, false, false, false, false] (by kernel_rfl) rfl rfl ⟨(blk_cell BK12130.out 0).trans rfl, (blk_cell BK12130.out 1).trans rfl, (blk_cell BK12130.out 2).trans rfl, (blk_cell BK12130.out 3).trans rfl, (blk_cell BK12130.out 4).trans rfl, (blk_cell BK12130.out 5).trans rfl, (blk_cell BK12131.out 0).trans rfl, (blk_cell BK12131.out 1).trans rfl, (blk_cell BK12131.out 2).trans rfl, (blk_cell BK12131.out 3).trans rfl, (blk_cell BK12131.out 4).trans rfl, (blk_cell BK12131.out 5).trans rfl⟩ (fun hHeld => ?_); refine with_tabW plaitinglaw5_FrameSame.tab6 plaitinglaw5_FrameSame.bits6 (fun HT_ HW_ => ?_)
  generalize w57.drew = w58 at HO12112 HO12121 HO12129 BK12101 BK12102 BK12103 BK12113 BK12130 BK12131 HB hHeld ⊢
  refine pure_ (i := 3) (N := some 37) (v := ?_) (a' := ?_) #[false, false, false, true, false, false, false, false, false, false, false, false, false, false, false, false, false, false, false, false] rfl rfl (any_of HT_.out (by kernel_rfl)) (fun _ _ _ h => h) (Or.inl ⟨by rfl, ?_⟩) ?_ ?_
  rotate_left
  · intro w'
    go_simp
    with_reducible rfl
  rotate_left
  · simp only [Act.put, List.setIfInBounds_toArray, List.set_cons_zero, List.set_cons_succ, i64_w, i32_w]
    rfl
  refine take_ (i := 0) (N := some 34) (v := ?_) (a' := ?_) #[true, false, false, true, false, false, false, false, false, false, false, false, false, false, false, false, false, false, false, false] rfl rfl (take_ofW HT_.out HW_.out (by kernel_rfl)) (fun _ _ _ h => h) (Or.inl ⟨by rfl, ?_⟩) hHeld ?_ ?_
  rotate_left
  · rintro w' ⟨s0, s1, s2, s3, s4, s5, s6, s7, s8, s9, s10, s11⟩
    go_simp
    with_reducible rfl
  rotate_left
  · simp only [Act.put, List.setIfInBounds_toArray, List.set_cons_zero, List.set_cons_succ, i64_w, i32_w]
    rfl
  refine take_ (i := 1) (N := some 35) (v := ?_) (a' := ?_) #[true, true, false, true, false, false, false, false, false, false, false, false, false, false, false, false, false, false, false, false] rfl rfl (take_ofW HT_.out HW_.out (by kernel_rfl)) (fun _ _ _ h => h) (Or.inl ⟨by rfl, ?_⟩) hHeld ?_ ?_
  rotate_left
  · rintro w' ⟨s0, s1, s2, s3, s4, s5, s6, s7, s8, s9, s10, s11⟩
    go_simp
    with_reducible rfl
  rotate_left
  · simp only [Act.put, List.setIfInBounds_toArray, List.set_cons_zero, List.set_cons_succ, i64_w, i32_w]
    rfl
  refine one_ (i := 2) (N := some 36) #[true, true, true, true, false, false, false, false, false, false, false, false, false, false, false, false, false, false, false, false] rfl rfl (one_of HT_.out (by kernel_rfl)) (by decide) (fun K hK => ?_)
  refine goes_ Try.func29 (by kernel_rfl) rfl #[.agg #[.int .i64 t12114, .int .i64 t12115, .int .i64 t12116, .int .i64 t12117, .int .i64 t12118, .slice Ao45 t12119.length co45], .agg #[.int .i64 t12122, .int .i64 t12123, .int .i64 t12124, .int .i64 t12125, .int .i64 t12126, .slice Ao52 t12127.length co52]] (by rfl) rfl rfl (by (try simp only [List.map_toArray, List.map_cons, List.map_nil]); first | done | rfl | (simp only [List.length_drop, List.length_take]; rfl)) ?_
  with_reducible refine (frame_Same.calls k t12114 t12115 t12116 t12117 t12118 _ _ t12119 t12122 t12123 t12124 t12125 t12126 _ _ t12127 t12134 _ ?side1 ?side2 ?side3 ?side4 A13.out).mono ?_
  (case side1 => repeat (first | exact (Kd.R_reads' HO12121.out).2.2 | (with_reducible refine Kd.C_alloc ?_ _) | (with_reducible refine Kd.C_drewN ?_ _) | (with_reducible refine Kd.C_drew ?_)))
  (case side2 => exact (Kd.R_reads' HO12121.out).2.1)
  (case side3 => repeat (first | exact (Kd.R_reads' HO12129.out).2.2 | (with_reducible refine Kd.C_alloc ?_ _) | (with_reducible refine Kd.C_drewN ?_ _) | (with_reducible refine Kd.C_drew ?_)))
  (case side4 => exact (Kd.R_reads' HO12129.out).2.1)
  rintro e w59 ⟨rfl, hb⟩
  refine ⟨_, rfl, ?_⟩
  replace HO12112 := Aside0.mk (Kd.R_below (pR_ HO12112.out) hb)
  replace HO12121 := Aside0.mk (Kd.R_below (pR_ HO12121.out) hb)
  replace HO12129 := Aside0.mk (Kd.R_below (pR_ HO12129.out) hb)
  replace BK12101 := Aside0.mk (blk_below (pB_ BK12101.out) hb)
  replace BK12102 := Aside0.mk (blk_below (pB_ BK12102.out) hb)
  replace BK12103 := Aside0.mk (blk_below (pB_ BK12103.out) hb)
  replace BK12113 := Aside0.mk (blk_below (pB_ BK12113.out) hb)
  replace BK12130 := Aside0.mk (blk_below (pB_ BK12130.out) hb)
  replace BK12131 := Aside0.mk (blk_below (pB_ BK12131.out) hb)
  replace HB := Aside0.mk (below_step (pH_ HB.out) hb)
  (try clear hb)
  (try clear hb2)
  (try clear hk)
  (try clear hi)
  refine hK.out _ _ ⟨(blk_cell BK12130.out 0).trans rfl, (blk_cell BK12130.out 1).trans rfl, (blk_cell BK12130.out 2).trans rfl, (blk_cell BK12130.out 3).trans rfl, (blk_cell BK12130.out 4).trans rfl, (blk_cell BK12130.out 5).trans rfl, (blk_cell BK12131.out 0).trans rfl, (blk_cell BK12131.out 1).trans rfl, (blk_cell BK12131.out 2).trans rfl, (blk_cell BK12131.out 3).trans rfl, (blk_cell BK12131.out 4).trans rfl, (blk_cell BK12131.out 5).trans rfl⟩ (fun hHeld => ?_)
  clear hK K
  refine norm_ (a' := ?_) ?_ ?_
  rotate_left
  · show Act.put _ (some 36) _ = _
    simp only [Act.put, List.setIfInBounds_toArray, List.set_cons_zero, List.set_cons_succ, i64_w, i32_w]
    rfl
  refine pure_ (i := 4) (N := some 38) (v := ?_) (a' := ?_) #[true, true, true, true, true, false, false, false, false, false, false, false, false, false, false, false, false, false, false, false] rfl rfl (any_of HT_.out (by kernel_rfl)) (fun _ _ _ h => h) (Or.inl ⟨by rfl, ?_⟩) ?_ ?_
  rotate_left
  · intro w'
    go_simp
    with_reducible rfl
  rotate_left
  · simp only [Act.put, List.setIfInBounds_toArray, List.set_cons_zero, List.set_cons_succ, i64_w, i32_w]
    rfl
  refine pure_ (i := 5) (N := some 39) (v := ?_) (a' := ?_) #[true, true, true, true, true, true, false, false, false, false, false, false, false, false, false, false, false, false, false, false] rfl rfl (any_of HT_.out (by kernel_rfl)) (fun _ _ _ h => h) (Or.inl ⟨by rfl, ?_⟩) ?_ ?_
  rotate_left
  · intro w'
    go_simp
    with_reducible rfl
  rotate_left
  · simp only [Act.put, List.setIfInBounds_toArray, List.set_cons_zero, List.set_cons_succ, i64_w, i32_w]
    rfl
  refine take_ (i := 6) (N := some 40) (v := ?_) (a' := ?_) #[true, true, true, true, true, true, true, false, false, false, false, false, false, false, false, false, false, false, false, false] rfl rfl (take_ofW HT_.out HW_.out (by kernel_rfl)) (fun _ _ _ h => h) (Or.inl ⟨by rfl, ?_⟩) hHeld ?_ ?_
  rotate_left
  · rintro w' ⟨s0, s1, s2, s3, s4, s5, s6, s7, s8, s9, s10, s11⟩
    go_simp
    with_reducible rfl
  rotate_left
  · simp only [Act.put, List.setIfInBounds_toArray, List.set_cons_zero, List.set_cons_succ, i64_w, i32_w]
    rfl
  refine take_ (i := 7) (N := some 41) (v := ?_) (a' := ?_) #[true, true, true, true, true, true, true, true, false, false, false, false, false, false, false, false, false, false, false, false] rfl rfl (take_ofW HT_.out HW_.out (by kernel_rfl)) (fun _ _ _ h => h) (Or.inl ⟨by rfl, ?_⟩) hHeld ?_ ?_
  rotate_left
  · rintro w' ⟨s0, s1, s2, s3, s4, s5, s6, s7, s8, s9, s10, s11⟩
    go_simp
    with_reducible rfl
  rotate_left
  · simp only [Act.put, List.setIfInBounds_toArray, List.set_cons_zero, List.set_cons_succ, i64_w, i32_w]
    rfl
  refine take_ (i := 9) (N := some 43) (v := ?_) (a' := ?_) #[true, true, true, true, true, true, true, true, false, true, false, false, false, false, false, false, false, false, false, false] rfl rfl (take_ofW HT_.out HW_.out (by kernel_rfl)) (fun _ _ _ h => h) (Or.inl ⟨by rfl, ?_⟩) hHeld ?_ ?_
  rotate_left
  · rintro w' ⟨s0, s1, s2, s3, s4, s5, s6, s7, s8, s9, s10, s11⟩
    go_simp
    with_reducible rfl
  rotate_left
  · simp only [Act.put, List.setIfInBounds_toArray, List.set_cons_zero, List.set_cons_succ, i64_w, i32_w]
    rfl
  refine take_ (i := 10) (N := some 44) (v := ?_) (a' := ?_) #[true, true, true, true, true, true, true, true, false, true, true, false, false, false, false, false, false, false, false, false] rfl rfl (take_ofW HT_.out HW_.out (by kernel_rfl)) (fun _ _ _ h => h) (Or.inl ⟨by rfl, ?_⟩) hHeld ?_ ?_
  rotate_left
  · rintro w' ⟨s0, s1, s2, s3, s4, s5, s6, s7, s8, s9, s10, s11⟩
    go_simp
    with_reducible rfl
  rotate_left
  · simp only [Act.put, List.setIfInBounds_toArray, List.set_cons_zero, List.set_cons_succ, i64_w, i32_w]
    rfl
  refine one_ (i := 8) (N := some 42) #[true, true, true, true, true, true, true, true, true, true, true, false, false, false, false, false, false, false, false, false] rfl rfl (one_of HT_.out (by kernel_rfl)) (by decide) (fun K hK => ?_)
  refine goes_ Try.func29 (by kernel_rfl) rfl #[.agg #[.int .i64 t12114, .int .i64 t12115, .int .i64 t12116, .int .i64 t12117, .int .i64 t12118, .slice Ao45 t12119.length co45], .agg #[.int .i64 t12122, .int .i64 t12123, .int .i64 t12124, .int .i64 t12125, .int .i64 t12126, .slice Ao52 t12127.length co52]] (by rfl) rfl rfl (by (try simp only [List.map_toArray, List.map_cons, List.map_nil]); first | done | rfl | (simp only [List.length_drop, List.length_take]; rfl)) ?_
  with_reducible refine (frame_Same.calls k t12114 t12115 t12116 t12117 t12118 _ _ t12119 t12122 t12123 t12124 t12125 t12126 _ _ t12127 t12135 _ ?side1 ?side2 ?side3 ?side4 A15.out).mono ?_
  (case side1 => repeat (first | exact (Kd.R_reads' HO12121.out).2.2 | (with_reducible refine Kd.C_alloc ?_ _) | (with_reducible refine Kd.C_drewN ?_ _) | (with_reducible refine Kd.C_drew ?_)))
  (case side2 => exact (Kd.R_reads' HO12121.out).2.1)
  (case side3 => repeat (first | exact (Kd.R_reads' HO12129.out).2.2 | (with_reducible refine Kd.C_alloc ?_ _) | (with_reducible refine Kd.C_drewN ?_ _) | (with_reducible refine Kd.C_drew ?_)))
  (case side4 => exact (Kd.R_reads' HO12129.out).2.1)
  rintro e w60 ⟨rfl, hb⟩
  refine ⟨_, rfl, ?_⟩
  replace HO12112 := Aside0.mk (Kd.R_below (pR_ HO12112.out) hb)
  replace HO12121 := Aside0.mk (Kd.R_below (pR_ HO12121.out) hb)
  replace HO12129 := Aside0.mk (Kd.R_below (pR_ HO12129.out) hb)
  replace BK12101 := Aside0.mk (blk_below (pB_ BK12101.out) hb)
  replace BK12102 := Aside0.mk (blk_below (pB_ BK12102.out) hb)
  replace BK12103 := Aside0.mk (blk_below (pB_ BK12103.out) hb)
  replace BK12113 := Aside0.mk (blk_below (pB_ BK12113.out) hb)
  replace BK12130 := Aside0.mk (blk_below (pB_ BK12130.out) hb)
  replace BK12131 := Aside0.mk (blk_below (pB_ BK12131.out) hb)
  replace HB := Aside0.mk (below_step (pH_ HB.out) hb)
  (try clear hb)
  (try clear hb2)
  (try clear hk)
  (try clear hi)
  refine hK.out _ _ ⟨(blk_cell BK12130.out 0).trans rfl, (blk_cell BK12130.out 1).trans rfl, (blk_cell BK12130.out 2).trans rfl, (blk_cell BK12130.out 3).trans rfl, (blk_cell BK12130.out 4).trans rfl, (blk_cell BK12130.out 5).trans rfl, (blk_cell BK12131.out 0).trans rfl, (blk_cell BK12131.out 1).trans rfl, (blk_cell BK12131.out 2).trans rfl, (blk_cell BK12131.out 3).trans rfl, (blk_cell BK12131.out 4).trans rfl, (blk_cell BK12131.out 5).trans rfl⟩ (fun hHeld => ?_)
  clear hK K
  refine norm_ (a' := ?_) ?_ ?_
  rotate_left
  · show Act.put _ (some 42) _ = _
    simp only [Act.put, List.setIfInBounds_toArray, List.set_cons_zero, List.set_cons_succ, i64_w, i32_w]
    rfl
  refine one_ (i := 11) (N := some 45) #[true, true, true, true, true, true, true, true, true, true, true, true, false, false, false, false, false, false, false, false] rfl rfl (one_of HT_.out (by kernel_rfl)) (by decide) (fun K hK => ?_)
  refine goes_ Try.func30 (by kernel_rfl) rfl #[.agg #[.int .i64 t12114, .int .i64 t12115, .int .i64 t12116, .int .i64 t12117, .int .i64 t12118, .slice Ao45 t12119.length co45], .agg #[.int .i64 t12122, .int .i64 t12123, .int .i64 t12124, .int .i64 t12125, .int .i64 t12126, .slice Ao52 t12127.length co52]] (by rfl) rfl rfl (by (try simp only [List.map_toArray, List.map_cons, List.map_nil]); first | done | rfl | (simp only [List.length_drop, List.length_take]; rfl)) ?_
  with_reducible refine (plaitingref5_Same.calls k t12114 t12115 t12116 t12117 t12118 _ _ t12119 t12122 t12123 t12124 t12125 t12126 _ _ t12127 t12136 _ ?side1 ?side2 ?side3 ?side4 A16.out).mono ?_
  (case side1 => repeat (first | exact (Kd.R_reads' HO12121.out).2.2 | (with_reducible refine Kd.C_alloc ?_ _) | (with_reducible refine Kd.C_drewN ?_ _) | (with_reducible refine Kd.C_drew ?_)))
  (case side2 => exact (Kd.R_reads' HO12121.out).2.1)
  (case side3 => repeat (first | exact (Kd.R_reads' HO12129.out).2.2 | (with_reducible refine Kd.C_alloc ?_ _) | (with_reducible refine Kd.C_drewN ?_ _) | (with_reducible refine Kd.C_drew ?_)))
  (case side4 => exact (Kd.R_reads' HO12129.out).2.1)
  rintro e w61 ⟨rfl, hb⟩
  refine ⟨_, rfl, ?_⟩
  replace HO12112 := Aside0.mk (Kd.R_below (pR_ HO12112.out) hb)
  replace HO12121 := Aside0.mk (Kd.R_below (pR_ HO12121.out) hb)
  replace HO12129 := Aside0.mk (Kd.R_below (pR_ HO12129.out) hb)
  replace BK12101 := Aside0.mk (blk_below (pB_ BK12101.out) hb)
  replace BK12102 := Aside0.mk (blk_below (pB_ BK12102.out) hb)
  replace BK12103 := Aside0.mk (blk_below (pB_ BK12103.out) hb)
  replace BK12113 := Aside0.mk (blk_below (pB_ BK12113.out) hb)
  replace BK12130 := Aside0.mk (blk_below (pB_ BK12130.out) hb)
  replace BK12131 := Aside0.mk (blk_below (pB_ BK12131.out) hb)
  replace HB := Aside0.mk (below_step (pH_ HB.out) hb)
  (try clear hb)
  (try clear hb2)
  (try clear hk)
  (try clear hi)
  refine hK.out _ _ ⟨(blk_cell BK12130.out 0).trans rfl, (blk_cell BK12130.out 1).trans rfl, (blk_cell BK12130.out 2).trans rfl, (blk_cell BK12130.out 3).trans rfl, (blk_cell BK12130.out 4).trans rfl, (blk_cell BK12130.out 5).trans rfl, (blk_cell BK12131.out 0).trans rfl, (blk_cell BK12131.out 1).trans rfl, (blk_cell BK12131.out 2).trans rfl, (blk_cell BK12131.out 3).trans rfl, (blk_cell BK12131.out 4).trans rfl, (blk_cell BK12131.out 5).trans rfl⟩ (fun hHeld => ?_)
  clear hK K
  refine norm_ (a' := ?_) ?_ ?_
  rotate_left
  · show Act.put _ (some 45) _ = _
    simp only [Act.put, List.setIfInBounds_toArray, List.set_cons_zero, List.set_cons_succ, i64_w, i32_w]
    rfl
  refine pure_ (i := 12) (N := some 46) (v := ?_) (a' := ?_) #[true, true, true, true, true, true, true, true, true, true, true, true, true, false, false, false, false, false, false, false] rfl rfl (any_of HT_.out (by kernel_rfl)) (fun _ _ _ h => h) (Or.inl ⟨by rfl, ?_⟩) ?_ ?_
  rotate_left
  · intro w'
    go_simp
    with_reducible rfl
  rotate_left
  · simp only [Act.put, List.setIfInBounds_toArray, List.set_cons_zero, List.set_cons_succ, i64_w, i32_w]
    rfl
  refine pure_ (i := 13) (N := some 47) (v := ?_) (a' := ?_) #[true, true, true, true, true, true, true, true, true, true, true, true, true, true, false, false, false, false, false, false] rfl rfl (any_of HT_.out (by kernel_rfl)) (fun _ _ _ h => h) (Or.inl ⟨by rfl, ?_⟩) ?_ ?_
  rotate_left
  · intro w'
    go_simp
    with_reducible rfl
  rotate_left
  · simp only [Act.put, List.setIfInBounds_toArray, List.set_cons_zero, List.set_cons_succ, i64_w, i32_w]
    rfl
  refine pure_ (i := 14) (N := some 48) (v := ?_) (a' := ?_) #[true, true, true, true, true, true, true, true, true, true, true, true, true, true, true, false, false, false, false, false] rfl rfl (any_of HT_.out (by kernel_rfl)) (fun _ _ _ h => h) (Or.inl ⟨by rfl, ?_⟩) ?_ ?_
  rotate_left
  · intro w'
    go_simp
    with_reducible rfl
  rotate_left
  · simp only [Act.put, List.setIfInBounds_toArray, List.set_cons_zero, List.set_cons_succ, i64_w, i32_w]
    rfl
  refine take_ (i := 15) (N := some 49) (v := ?_) (a' := ?_) #[true, true, true, true, true, true, true, true, true, true, true, true, true, true, true, true, false, false, false, false] rfl rfl (take_ofW HT_.out HW_.out (by kernel_rfl)) (fun _ _ _ h => h) (Or.inl ⟨by rfl, ?_⟩) hHeld ?_ ?_
  rotate_left
  · rintro w' ⟨s0, s1, s2, s3, s4, s5, s6, s7, s8, s9, s10, s11⟩
    go_simp
    with_reducible rfl
  rotate_left
  · simp only [Act.put, List.setIfInBounds_toArray, List.set_cons_zero, List.set_cons_succ, i64_w, i32_w]
    rfl
  refine take_ (i := 16) (N := some 50) (v := ?_) (a' := ?_) #[true, true, true, true, true, true, true, true, true, true, true, true, true, true, true, true, true, false, false, false] rfl rfl (take_ofW HT_.out HW_.out (by kernel_rfl)) (fun _ _ _ h => h) (Or.inl ⟨by rfl, ?_⟩) hHeld ?_ ?_
  rotate_left
  · rintro w' ⟨s0, s1, s2, s3, s4, s5, s6, s7, s8, s9, s10, s11⟩
    go_simp
    with_reducible rfl
  rotate_left
  · simp only [Act.put, List.setIfInBounds_toArray, List.set_cons_zero, List.set_cons_succ, i64_w, i32_w]
    rfl
  refine one_ (i := 17) (N := some 51) #[true, true, true, true, true, true, true, true, true, true, true, true, true, true, true, true, true, true, false, false] rfl rfl (one_of HT_.out (by kernel_rfl)) (by decide) (fun K hK => ?_)
  refine goes_ Try.func29 (by kernel_rfl) rfl #[.agg #[.int .i64 t12114, .int .i64 t12115, .int .i64 t12116, .int .i64 t12117, .int .i64 t12118, .slice Ao45 t12119.length co45], .agg #[.int .i64 t12114, .int .i64 t12115, .int .i64 t12116, .int .i64 t12117, .int .i64 t12118, .slice Ao45 t12119.length co45]] (by rfl) rfl rfl (by (try simp only [List.map_toArray, List.map_cons, List.map_nil]); first | done | rfl | (simp only [List.length_drop, List.length_take]; rfl)) ?_
  with_reducible refine (frame_Same.calls k t12114 t12115 t12116 t12117 t12118 _ _ t12119 t12114 t12115 t12116 t12117 t12118 _ _ t12119 t12137 _ ?side1 ?side2 ?side3 ?side4 A18.out).mono ?_
  (case side1 => repeat (first | exact (Kd.R_reads' HO12121.out).2.2 | (with_reducible refine Kd.C_alloc ?_ _) | (with_reducible refine Kd.C_drewN ?_ _) | (with_reducible refine Kd.C_drew ?_)))
  (case side2 => exact (Kd.R_reads' HO12121.out).2.1)
  (case side3 => repeat (first | exact (Kd.R_reads' HO12121.out).2.2 | (with_reducible refine Kd.C_alloc ?_ _) | (with_reducible refine Kd.C_drewN ?_ _) | (with_reducible refine Kd.C_drew ?_)))
  (case side4 => exact (Kd.R_reads' HO12121.out).2.1)
  rintro e w62 ⟨rfl, hb⟩
  refine ⟨_, rfl, ?_⟩
  replace HO12112 := Aside0.mk (Kd.R_below (pR_ HO12112.out) hb)
  replace HO12121 := Aside0.mk (Kd.R_below (pR_ HO12121.out) hb)
  replace HO12129 := Aside0.mk (Kd.R_below (pR_ HO12129.out) hb)
  replace BK12101 := Aside0.mk (blk_below (pB_ BK12101.out) hb)
  replace BK12102 := Aside0.mk (blk_below (pB_ BK12102.out) hb)
  replace BK12103 := Aside0.mk (blk_below (pB_ BK12103.out) hb)
  replace BK12113 := Aside0.mk (blk_below (pB_ BK12113.out) hb)
  replace BK12130 := Aside0.mk (blk_below (pB_ BK12130.out) hb)
  replace BK12131 := Aside0.mk (blk_below (pB_ BK12131.out) hb)
  replace HB := Aside0.mk (below_step (pH_ HB.out) hb)
  (try clear hb)
  (try clear hb2)
  (try clear hk)
  (try clear hi)
  refine hK.out _ _ ⟨(blk_cell BK12130.out 0).trans rfl, (blk_cell BK12130.out 1).trans rfl, (blk_cell BK12130.out 2).trans rfl, (blk_cell BK12130.out 3).trans rfl, (blk_cell BK12130.out 4).trans rfl, (blk_cell BK12130.out 5).trans rfl, (blk_cell BK12131.out 0).trans rfl, (blk_cell BK12131.out 1).trans rfl, (blk_cell BK12131.out 2).trans rfl, (blk_cell BK12131.out 3).trans rfl, (blk_cell BK12131.out 4).trans rfl, (blk_cell BK12131.out 5).trans rfl⟩ (fun hHeld => ?_)
  clear hK K
  refine norm_ (a' := ?_) ?_ ?_
  rotate_left
  · show Act.put _ (some 51) _ = _
    simp only [Act.put, List.setIfInBounds_toArray, List.set_cons_zero, List.set_cons_succ, i64_w, i32_w]
    rfl
  refine pure_ (i := 18) (N := some 52) (v := ?_) (a' := ?_) #[true, true, true, true, true, true, true, true, true, true, true, true, true, true, true, true, true, true, true, false] rfl rfl (any_of HT_.out (by kernel_rfl)) (fun _ _ _ h => h) (Or.inl ⟨by rfl, ?_⟩) ?_ ?_
  rotate_left
  · intro w'
    go_simp
    with_reducible rfl
  rotate_left
  · simp only [Act.put, List.setIfInBounds_toArray, List.set_cons_zero, List.set_cons_succ, i64_w, i32_w]
    rfl
  refine pure_ (i := 19) (N := some 10) (v := ?_) (a' := ?_) #[true, true, true, true, true, true, true, true, true, true, true, true, true, true, true, true, true, true, true, true] rfl rfl (any_of HT_.out (by kernel_rfl)) (fun _ _ _ h => h) (Or.inl ⟨by rfl, ?_⟩) ?_ ?_
  rotate_left
  · intro w'
    go_simp
    with_reducible rfl
  rotate_left
  · simp only [Act.put, List.setIfInBounds_toArray, List.set_cons_zero, List.set_cons_succ, i64_w, i32_w]
    rfl
  refine done_ (done_of HT_.out (by kernel_rfl)) ?_
  try go_wp2
  go_ret
  exact ⟨by first | rfl | (simp [errW_none, errW_some] <;> rfl) | (simp [*, errW_none, errW_some] <;> rfl), by repeat (first | (with_reducible first | exact HB.out | apply below_alloc | apply pw_below_drewN | apply below_drew1 | refine below_set ?_ GE12101.out | refine below_set ?_ GE12102.out | refine below_set ?_ GE12103.out | refine below_set ?_ GE12113.out | refine below_set ?_ GE12130.out | refine below_set ?_ GE12131.out) | exact HB.out)⟩
def plaitinglaw5_FrameSame.Pure : Prop := ∀ (a0_0 : Int) (a0_1 : Int) (a0_2 : Int) (a0_3 : Int) (a0_4 : Int) (l0_5 : List Int) (a1_0 : Int) (a1_1 : Int) (a1_2 : Int) (a1_3 : Int) (a1_4 : Int) (l1_5 : List (S26)) (a2_0 : Int) (a2_1 : Int) (a2_2 : Int) (a2_3 : Int) (a2_4 : Int) (l2_5 : List (S26)) (l3 : List Int) (l4 : List Int), ((Lit.int .i64 a0_0).wf = true) → ((Lit.int .i64 a0_1).wf = true) → ((Lit.int .i64 a0_2).wf = true) → ((Lit.int .i64 a0_3).wf = true) → ((Lit.int .i64 a0_4).wf = true) → (l0_5.length ≤ maxLen ∧ ∀ y_ ∈ l0_5, (Lit.int .i64 y_).wf = true) → ((Lit.int .i64 a1_0).wf = true) → ((Lit.int .i64 a1_1).wf = true) → ((Lit.int .i64 a1_2).wf = true) → ((Lit.int .i64 a1_3).wf = true) → ((Lit.int .i64 a1_4).wf = true) → (l1_5.length ≤ maxLen ∧ ∀ y_ ∈ l1_5, ok26 y_) → ((Lit.int .i64 a2_0).wf = true) → ((Lit.int .i64 a2_1).wf = true) → ((Lit.int .i64 a2_2).wf = true) → ((Lit.int .i64 a2_3).wf = true) → ((Lit.int .i64 a2_4).wf = true) → (l2_5.length ≤ maxLen ∧ ∀ y_ ∈ l2_5, ok26 y_) → (l3.length ≤ maxLen) → (l3.length * 8 ≤ 140737488351232) → (∀ y_ ∈ l3, (Lit.int .i64 y_).wf = true) → (l4.length ≤ maxLen) → (l4.length * 8 ≤ 140737488351232) → (∀ y_ ∈ l4, (Lit.int .i64 y_).wf = true) → ∃ k, plaitinglaw5_FrameSame.f k a0_0 a0_1 a0_2 a0_3 a0_4 l0_5 a1_0 a1_1 a1_2 a1_3 a1_4 l1_5 a2_0 a2_1 a2_2 a2_3 a2_4 l2_5 l3 l4 = some true
theorem plaitinglaw5_FrameSame.walk (P : plaitinglaw5_FrameSame.Pure) (a0_0 : Int) (a0_1 : Int) (a0_2 : Int) (a0_3 : Int) (a0_4 : Int) (A0_5 : Option Addr) (c0_5 : Nat) (l0_5 : List Int) (a1_0 : Int) (a1_1 : Int) (a1_2 : Int) (a1_3 : Int) (a1_4 : Int) (A1_5 : Option Addr) (c1_5 : Nat) (l1_5 : List (S26)) (a2_0 : Int) (a2_1 : Int) (a2_2 : Int) (a2_3 : Int) (a2_4 : Int) (A2_5 : Option Addr) (c2_5 : Nat) (l2_5 : List (S26)) (A3 : Option Addr) (c3 : Nat) (l3 : List Int) (A4 : Option Addr) (c4 : Nat) (l4 : List Int) (w : World) (q0 : (Lit.int .i64 a0_0).wf = true) (q1 : (Lit.int .i64 a0_1).wf = true) (q2 : (Lit.int .i64 a0_2).wf = true) (q3 : (Lit.int .i64 a0_3).wf = true) (q4 : (Lit.int .i64 a0_4).wf = true) (q5 : l0_5.length ≤ maxLen ∧ ∀ y_ ∈ l0_5, (Lit.int .i64 y_).wf = true) (q6 : (Lit.int .i64 a1_0).wf = true) (q7 : (Lit.int .i64 a1_1).wf = true) (q8 : (Lit.int .i64 a1_2).wf = true) (q9 : (Lit.int .i64 a1_3).wf = true) (q10 : (Lit.int .i64 a1_4).wf = true) (q11 : l1_5.length ≤ maxLen ∧ ∀ y_ ∈ l1_5, ok26 y_) (q12 : (Lit.int .i64 a2_0).wf = true) (q13 : (Lit.int .i64 a2_1).wf = true) (q14 : (Lit.int .i64 a2_2).wf = true) (q15 : (Lit.int .i64 a2_3).wf = true) (q16 : (Lit.int .i64 a2_4).wf = true) (q17 : l2_5.length ≤ maxLen ∧ ∀ y_ ∈ l2_5, ok26 y_) (q18 : l3.length ≤ maxLen) (q19 : l3.length * 8 ≤ 140737488351232) (q20 : ∀ y_ ∈ l3, (Lit.int .i64 y_).wf = true) (q21 : l4.length ≤ maxLen) (q22 : l4.length * 8 ≤ 140737488351232) (q23 : ∀ y_ ∈ l4, (Lit.int .i64 y_).wf = true) (hr0_5 : Kd.C (Kd.int .i64) w A0_5 l0_5.length l0_5) (hc0_5 : l0_5.length ≤ c0_5) (hr1_5 : Kd.C k26 w A1_5 l1_5.length l1_5) (hc1_5 : l1_5.length ≤ c1_5) (hr2_5 : Kd.C k26 w A2_5 l2_5.length l2_5) (hc2_5 : l2_5.length ≤ c2_5) (hr3 : Kd.C (Kd.int .i64) w A3 l3.length l3) (hc3 : l3.length ≤ c3) (hr4 : Kd.C (Kd.int .i64) w A4 l4.length l4) (hc4 : l4.length ≤ c4) :
    Calls Try.prog 6 #[.agg #[.int .i64 a0_0, .int .i64 a0_1, .int .i64 a0_2, .int .i64 a0_3, .int .i64 a0_4, .slice A0_5 l0_5.length c0_5], .agg #[.int .i64 a1_0, .int .i64 a1_1, .int .i64 a1_2, .int .i64 a1_3, .int .i64 a1_4, .slice A1_5 l1_5.length c1_5], .agg #[.int .i64 a2_0, .int .i64 a2_1, .int .i64 a2_2, .int .i64 a2_3, .int .i64 a2_4, .slice A2_5 l2_5.length c2_5], .slice A3 l3.length c3, .slice A4 l4.length c4] w fun e w' => e = .returned (.bool true) ∧ Below w.heap.size w w' := by
  obtain ⟨k, h⟩ := P a0_0 a0_1 a0_2 a0_3 a0_4 l0_5 a1_0 a1_1 a1_2 a1_3 a1_4 l1_5 a2_0 a2_1 a2_2 a2_3 a2_4 l2_5 l3 l4 q0 q1 q2 q3 q4 q5 q6 q7 q8 q9 q10 q11 q12 q13 q14 q15 q16 q17 q18 q19 q20 q21 q22 q23
  refine (plaitinglaw5_FrameSame.calls k a0_0 a0_1 a0_2 a0_3 a0_4 A0_5 c0_5 l0_5 a1_0 a1_1 a1_2 a1_3 a1_4 A1_5 c1_5 l1_5 a2_0 a2_1 a2_2 a2_3 a2_4 A2_5 c2_5 l2_5 A3 c3 l3 A4 c4 l4 true w hr0_5 hc0_5 hr1_5 hc1_5 hr2_5 hc2_5 hr3 hc3 hr4 hc4 rfl h).mono ?_
  rintro e w' ⟨rfl, hd⟩
  exact ⟨rfl, hd⟩
end Go.Proofs.Ytcpohmfkmgcjkaa.P
