/- Printed by a program of this session (myprint) out of the translation: the functions as plain Lean functions, and that the calls compute them. What counts is Lean's check. -/
import Derived.Test.YtcpohmfkmgcjkaaQFrameKnownPx0
import Derived.Test.YtcpohmfkmgcjkaaQFrameKnownPx1
import Derived.Test.YtcpohmfkmgcjkaaQFrameKnownPx8
import Derived.Test.YtcpohmfkmgcjkaaQFrameKnownPx19
namespace Go.Proofs.Ytcpohmfkmgcjkaa.P
open Go.RowKit Go.Proofs.YtcpohmfkmgcjkaaW.PrintWords Go.Proofs.YtcpohmfkmgcjkaaW.PrintLast Go.Proofs.YtcpohmfkmgcjkaaW.PrintMore
attribute [local go_sem] max2_int min2_int max_two min_two max_three min_three max_four min_four
set_option linter.unusedVariables false
set_option linter.unusedSimpArgs false
attribute [-simp] ByteArray.size_extract ByteArray.size_append ByteArray.extract_append_extract
attribute [-go_sem] ByteArray.size_append'
attribute [local simp] ByteArray.size_append ByteArray.size_extract
attribute [local go_sem] ByteArray.size_append'
def plaitinglaw5_FrameKnown.f (k : Nat) (a0 : Int) : Option (Bool) := (plaitinglaw5_known.f).bind fun t24101 => (if t24101 = true then ((some (([2] : List Int) : List Int)).bind fun y24102 => (if 24 + 2 ≤ 9223372036854775807 then (if 25 + 8 ≤ 9223372036854775807 then ((plaitingref2_Wrap.f k (((⟨#[49, 49, 48, 48, 48, 48, 48, 48, 48, 48, 48, 48, 48, 48, 48, 49, 48, 49, 48, 48, 48, 49, 49, 48]⟩ : ByteArray) ++ (⟨#[49, 48]⟩ : ByteArray)) ++ (⟨#[48, 48, 48, 48, 48, 49, 49, 49]⟩ : ByteArray))).bind fun t24106 => ((frame_Read.f 6 4 0 0 0 y24102 t24106).bind fun bt24107 => (if 24 + 10 ≤ 9223372036854775807 then (if 24 + 11 ≤ 9223372036854775807 then (if 24 + 9 ≤ 9223372036854775807 then ((some (([(⟨#[48, 48, 48, 48, 48, 48, 48, 48, 48, 48, 48, 48, 48, 48, 48, 49, 48, 49, 48, 48, 48, 49, 49, 48, 48, 48, 48, 48, 48, 48, 48, 48, 48, 48]⟩ : ByteArray), (⟨#[49, 49, 48, 48, 48, 48, 48, 48, 48, 48, 48, 48, 48, 48, 48, 49, 48, 49, 48, 48, 48, 49, 49, 48]⟩ : ByteArray) ++ (⟨#[49, 49, 48, 48, 48, 48, 48, 48, 48, 48]⟩ : ByteArray), (⟨#[49, 49, 48, 48, 48, 48, 48, 48, 48, 48, 48, 48, 48, 48, 48, 49, 48, 49, 48, 48, 48, 49, 49, 48]⟩ : ByteArray) ++ (⟨#[48, 48, 48, 48, 48, 48, 48, 48, 48, 48]⟩ : ByteArray), (⟨#[49, 49, 48, 48, 48, 48, 48, 48, 48, 48, 48, 48, 48, 48, 48, 49, 48, 49, 48, 48, 48, 49, 49, 48]⟩ : ByteArray) ++ (⟨#[48, 49, 48, 48, 48, 48, 48, 48, 48, 49]⟩ : ByteArray), (⟨#[49, 49, 48, 48, 48, 48, 48, 48, 48, 48, 48, 48, 48, 48, 48, 49, 48, 49, 48, 48, 48, 49, 49, 48]⟩ : ByteArray) ++ (⟨#[49, 48, 48, 48, 48, 48, 48, 49, 49, 49, 48]⟩ : ByteArray), (⟨#[49, 49, 48, 48, 48, 48, 48, 48, 48, 48, 48, 48, 48, 48, 48, 49, 48, 49, 48, 48, 48, 49, 49, 48]⟩ : ByteArray) ++ (⟨#[49, 48, 48, 48, 48, 48, 48, 49, 49]⟩ : ByteArray), (⟨#[48, 49, 48, 48, 48, 48, 48, 48, 48, 48, 48, 48, 48, 48, 48, 49, 48, 49, 48, 48, 48, 49, 49, 48, 48, 48, 48, 48, 48, 48, 48, 48, 48, 48]⟩ : ByteArray), (⟨#[49, 49, 48, 48, 48, 48, 48, 48, 48, 48, 48, 48, 48, 48, 48, 49, 48, 49, 48, 48, 48, 49, 49, 49, 49, 48, 48, 48, 48, 48, 48, 49, 49, 49]⟩ : ByteArray), (⟨#[48, 49, 48, 48, 48, 48, 48, 48, 48, 48, 48, 48, 48, 48, 48, 49, 48, 49, 48, 48, 48, 48, 48, 49, 48, 48, 48, 48, 48, 48, 48, 48, 48, 48]⟩ : ByteArray), (⟨#[49, 49, 48, 48, 48, 48, 48, 48, 48, 48, 48, 48, 48, 48, 48, 49, 48, 49, 48, 48, 48, 48, 48, 49, 49, 48, 48, 48, 48, 48, 48, 49, 49, 49]⟩ : ByteArray)] : List ByteArray) : List ByteArray)).bind fun y24117 => ((some (([6, 1, 1, 1, 2, 3, 6, 1, 0, 2] : List Int) : List Int)).bind fun y24120 => ((plaitinglaw5_within.f a0 (y24117.length : Int)).bind fun t24123 => (if 0 ≤ t24123 then (if t24123 < (y24117.length : Int) then ((plaitingref2_Wrap.f k (rdOf ByteArray.empty y24117 t24123)).bind fun t24125 => ((frame_Read.f 6 4 0 0 0 y24102 t24125).bind fun bt24126 => (if bt24107.2.2.2.2.2.2 = 0 then ((frame_Same.f k bt24107.1 bt24107.2.1 bt24107.2.2.1 bt24107.2.2.2.1 bt24107.2.2.2.2.1 bt24107.2.2.2.2.2.1 3 5 6 2 7 ([] : List (S26))).bind fun t24136 => (if t24136 = true then (if t24123 < (y24120.length : Int) then (some (bt24126.2.2.2.2.2.2 == (rd y24120 t24123))) else (none)) else (some false))) else (some false)))) else (none)) else (none))))) else (none)) else (none)) else (none)))) else (none)) else (none))) else (some false))
def plaitinglaw5_FrameKnown.T5 : Bool × List (List Nat × List Nat) := (true, [([], []), ([], []), ([1], [1]), ([2], [2]), ([3], [3]), ([0, 4, 4], [0, 4]), ([5], [5]), ([6], [6]), ([6], [6]), ([], []), ([9, 7, 5, 0, 1, 2, 3, 4, 5, 6, 7, 9], [7, 9]), ([8, 10, 0, 1, 2, 3, 4, 5, 6, 7, 8, 9, 10], [8])])
def plaitinglaw5_FrameKnown.B5 : List Nat := [0, 0, 2, 6, 14, 31, 63, 127, 127, 0, 767, 2047]
theorem plaitinglaw5_FrameKnown.tab5 : rtab .any (opsOf Try.f12 5) = plaitinglaw5_FrameKnown.T5 := by kernel_rfl
theorem plaitinglaw5_FrameKnown.bits5 : waitsOk plaitinglaw5_FrameKnown.T5.2 plaitinglaw5_FrameKnown.B5 = true := by kernel_rfl
def plaitinglaw5_FrameKnown.T9 : Bool × List (List Nat × List Nat) := (true, [([], []), ([], []), ([], []), ([1, 2], [1, 2]), ([3], [3]), ([4], [4]), ([0, 5, 5], [0, 5]), ([6], [6]), ([7], [7]), ([7], [7]), ([], []), ([10, 8, 6, 0, 1, 2, 3, 4, 5, 6, 7, 8, 10], [8, 10]), ([9, 11, 0, 1, 2, 3, 4, 5, 6, 7, 8, 9, 10, 11], [9])])
def plaitinglaw5_FrameKnown.B9 : List Nat := [0, 0, 0, 6, 14, 30, 63, 127, 255, 255, 0, 1535, 4095]
theorem plaitinglaw5_FrameKnown.tab9 : rtab .any (opsOf Try.f12 9) = plaitinglaw5_FrameKnown.T9 := by kernel_rfl
theorem plaitinglaw5_FrameKnown.bits9 : waitsOk plaitinglaw5_FrameKnown.T9.2 plaitinglaw5_FrameKnown.B9 = true := by kernel_rfl
set_option maxHeartbeats 8000000 in
set_option maxRecDepth 100000 in
theorem plaitinglaw5_FrameKnown.calls (k : Nat) (a0 : Int) (r : Bool) (w : World) (hrt : r = true) (h : plaitinglaw5_FrameKnown.f k a0 = some r) :
    Calls Try.prog 12 #[.int .i64 a0] w fun e w' => e = .returned (.bool r) ∧ Below w.heap.size w w' := by
  have HRT := Aside0.mk hrt
  clear hrt
  have hu24 := Try.underlying24
  have hu29 := Try.underlying29
  have hu26 := Try.underlying26
  have HB := Aside0.mk (Below.refl w.heap.size w)
  have H : ((plaitinglaw5_known.f).bind fun t24101 => (if t24101 = true then ((some (([2] : List Int) : List Int)).bind fun y24102 => (if 24 + 2 ≤ 9223372036854775807 then (if 25 + 8 ≤ 9223372036854775807 then ((plaitingref2_Wrap.f k (((⟨#[49, 49, 48, 48, 48, 48, 48, 48, 48, 48, 48, 48, 48, 48, 48, 49, 48, 49, 48, 48, 48, 49, 49, 48]⟩ : ByteArray) ++ (⟨#[49, 48]⟩ : ByteArray)) ++ (⟨#[48, 48, 48, 48, 48, 49, 49, 49]⟩ : ByteArray))).bind fun t24106 => ((frame_Read.f 6 4 0 0 0 y24102 t24106).bind fun bt24107 => (if 24 + 10 ≤ 9223372036854775807 then (if 24 + 11 ≤ 9223372036854775807 then (if 24 + 9 ≤ 9223372036854775807 then ((some (([(⟨#[48, 48, 48, 48, 48, 48, 48, 48, 48, 48, 48, 48, 48, 48, 48, 49, 48, 49, 48, 48, 48, 49, 49, 48, 48, 48, 48, 48, 48, 48, 48, 48, 48, 48]⟩ : ByteArray), (⟨#[49, 49, 48, 48, 48, 48, 48, 48, 48, 48, 48, 48, 48, 48, 48, 49, 48, 49, 48, 48, 48, 49, 49, 48]⟩ : ByteArray) ++ (⟨#[49, 49, 48, 48, 48, 48, 48, 48, 48, 48]⟩ : ByteArray), (⟨#[49, 49, 48, 48, 48, 48, 48, 48, 48, 48, 48, 48, 48, 48, 48, 49, 48, 49, 48, 48, 48, 49, 49, 48]⟩ : ByteArray) ++ (⟨#[48, 48, 48, 48, 48, 48, 48, 48, 48, 48]⟩ : ByteArray), (⟨#[49, 49, 48, 48, 48, 48, 48, 48, 48, 48, 48, 48, 48, 48, 48, 49, 48, 49, 48, 48, 48, 49, 49, 48]⟩ : ByteArray) ++ (⟨#[48, 49, 48, 48, 48, 48, 48, 48, 48, 49]⟩ : ByteArray), (⟨#[49, 49, 48, 48, 48, 48, 48, 48, 48, 48, 48, 48, 48, 48, 48, 49, 48, 49, 48, 48, 48, 49, 49, 48]⟩ : ByteArray) ++ (⟨#[49, 48, 48, 48, 48, 48, 48, 49, 49, 49, 48]⟩ : ByteArray), (⟨#[49, 49, 48, 48, 48, 48, 48, 48, 48, 48, 48, 48, 48, 48, 48, 49, 48, 49, 48, 48, 48, 49, 49, 48]⟩ : ByteArray) ++ (⟨#[49, 48, 48, 48, 48, 48, 48, 49, 49]⟩ : ByteArray), (⟨#[48, 49, 48, 48, 48, 48, 48, 48, 48, 48, 48, 48, 48, 48, 48, 49, 48, 49, 48, 48, 48, 49, 49, 48, 48, 48, 48, 48, 48, 48, 48, 48, 48, 48]⟩ : ByteArray), (⟨#[49, 49, 48, 48, 48, 48, 48, 48, 48, 48, 48, 48, 48, 48, 48, 49, 48, 49, 48, 48, 48, 49, 49, 49, 49, 48, 48, 48, 48, 48, 48, 49, 49, 49]⟩ : ByteArray), (⟨#[48, 49, 48, 48, 48, 48, 48, 48, 48, 48, 48, 48, 48, 48, 48, 49, 48, 49, 48, 48, 48, 48, 48, 49, 48, 48, 48, 48, 48, 48, 48, 48, 48, 48]⟩ : ByteArray), (⟨#[49, 49, 48, 48, 48, 48, 48, 48, 48, 48, 48, 48, 48, 48, 48, 49, 48, 49, 48, 48, 48, 48, 48, 49, 49, 48, 48, 48, 48, 48, 48, 49, 49, 49]⟩ : ByteArray)] : List ByteArray) : List ByteArray)).bind fun y24117 => ((some (([6, 1, 1, 1, 2, 3, 6, 1, 0, 2] : List Int) : List Int)).bind fun y24120 => ((plaitinglaw5_within.f a0 (y24117.length : Int)).bind fun t24123 => (if 0 ≤ t24123 then (if t24123 < (y24117.length : Int) then ((plaitingref2_Wrap.f k (rdOf ByteArray.empty y24117 t24123)).bind fun t24125 => ((frame_Read.f 6 4 0 0 0 y24102 t24125).bind fun bt24126 => (if bt24107.2.2.2.2.2.2 = 0 then ((frame_Same.f k bt24107.1 bt24107.2.1 bt24107.2.2.1 bt24107.2.2.2.1 bt24107.2.2.2.2.1 bt24107.2.2.2.2.2.1 3 5 6 2 7 ([] : List (S26))).bind fun t24136 => (if t24136 = true then (if t24123 < (y24120.length : Int) then (some (bt24126.2.2.2.2.2.2 == (rd y24120 t24123))) else (none)) else (some false))) else (some false)))) else (none)) else (none))))) else (none)) else (none)) else (none)))) else (none)) else (none))) else (some false))) = some r := h
  clear h
  replace H := Option.bind_eq_some_iff.mp H
  obtain ⟨t24101, A20, H⟩ := H
  replace H : (if t24101 = true then ((some (([2] : List Int) : List Int)).bind fun y24102 => (if 24 + 2 ≤ 9223372036854775807 then (if 25 + 8 ≤ 9223372036854775807 then ((plaitingref2_Wrap.f k (((⟨#[49, 49, 48, 48, 48, 48, 48, 48, 48, 48, 48, 48, 48, 48, 48, 49, 48, 49, 48, 48, 48, 49, 49, 48]⟩ : ByteArray) ++ (⟨#[49, 48]⟩ : ByteArray)) ++ (⟨#[48, 48, 48, 48, 48, 49, 49, 49]⟩ : ByteArray))).bind fun t24106 => ((frame_Read.f 6 4 0 0 0 y24102 t24106).bind fun bt24107 => (if 24 + 10 ≤ 9223372036854775807 then (if 24 + 11 ≤ 9223372036854775807 then (if 24 + 9 ≤ 9223372036854775807 then ((some (([(⟨#[48, 48, 48, 48, 48, 48, 48, 48, 48, 48, 48, 48, 48, 48, 48, 49, 48, 49, 48, 48, 48, 49, 49, 48, 48, 48, 48, 48, 48, 48, 48, 48, 48, 48]⟩ : ByteArray), (⟨#[49, 49, 48, 48, 48, 48, 48, 48, 48, 48, 48, 48, 48, 48, 48, 49, 48, 49, 48, 48, 48, 49, 49, 48]⟩ : ByteArray) ++ (⟨#[49, 49, 48, 48, 48, 48, 48, 48, 48, 48]⟩ : ByteArray), (⟨#[49, 49, 48, 48, 48, 48, 48, 48, 48, 48, 48, 48, 48, 48, 48, 49, 48, 49, 48, 48, 48, 49, 49, 48]⟩ : ByteArray) ++ (⟨#[48, 48, 48, 48, 48, 48, 48, 48, 48, 48]⟩ : ByteArray), (⟨#[49, 49, 48, 48, 48, 48, 48, 48, 48, 48, 48, 48, 48, 48, 48, 49, 48, 49, 48, 48, 48, 49, 49, 48]⟩ : ByteArray) ++ (⟨#[48, 49, 48, 48, 48, 48, 48, 48, 48, 49]⟩ : ByteArray), (⟨#[49, 49, 48, 48, 48, 48, 48, 48, 48, 48, 48, 48, 48, 48, 48, 49, 48, 49, 48, 48, 48, 49, 49, 48]⟩ : ByteArray) ++ (⟨#[49, 48, 48, 48, 48, 48, 48, 49, 49, 49, 48]⟩ : ByteArray), (⟨#[49, 49, 48, 48, 48, 48, 48, 48, 48, 48, 48, 48, 48, 48, 48, 49, 48, 49, 48, 48, 48, 49, 49, 48]⟩ : ByteArray) ++ (⟨#[49, 48, 48, 48, 48, 48, 48, 49, 49]⟩ : ByteArray), (⟨#[48, 49, 48, 48, 48, 48, 48, 48, 48, 48, 48, 48, 48, 48, 48, 49, 48, 49, 48, 48, 48, 49, 49, 48, 48, 48, 48, 48, 48, 48, 48, 48, 48, 48]⟩ : ByteArray), (⟨#[49, 49, 48, 48, 48, 48, 48, 48, 48, 48, 48, 48, 48, 48, 48, 49, 48, 49, 48, 48, 48, 49, 49, 49, 49, 48, 48, 48, 48, 48, 48, 49, 49, 49]⟩ : ByteArray), (⟨#[48, 49, 48, 48, 48, 48, 48, 48, 48, 48, 48, 48, 48, 48, 48, 49, 48, 49, 48, 48, 48, 48, 48, 49, 48, 48, 48, 48, 48, 48, 48, 48, 48, 48]⟩ : ByteArray), (⟨#[49, 49, 48, 48, 48, 48, 48, 48, 48, 48, 48, 48, 48, 48, 48, 49, 48, 49, 48, 48, 48, 48, 48, 49, 49, 48, 48, 48, 48, 48, 48, 49, 49, 49]⟩ : ByteArray)] : List ByteArray) : List ByteArray)).bind fun y24117 => ((some (([6, 1, 1, 1, 2, 3, 6, 1, 0, 2] : List Int) : List Int)).bind fun y24120 => ((plaitinglaw5_within.f a0 (y24117.length : Int)).bind fun t24123 => (if 0 ≤ t24123 then (if t24123 < (y24117.length : Int) then ((plaitingref2_Wrap.f k (rdOf ByteArray.empty y24117 t24123)).bind fun t24125 => ((frame_Read.f 6 4 0 0 0 y24102 t24125).bind fun bt24126 => (if bt24107.2.2.2.2.2.2 = 0 then ((frame_Same.f k bt24107.1 bt24107.2.1 bt24107.2.2.1 bt24107.2.2.2.1 bt24107.2.2.2.2.1 bt24107.2.2.2.2.2.1 3 5 6 2 7 ([] : List (S26))).bind fun t24136 => (if t24136 = true then (if t24123 < (y24120.length : Int) then (some (bt24126.2.2.2.2.2.2 == (rd y24120 t24123))) else (none)) else (some false))) else (some false)))) else (none)) else (none))))) else (none)) else (none)) else (none)))) else (none)) else (none))) else (some false)) = some r := H
  have A2 := Aside0.mk A20
  clear A20
  by_cases c3 : t24101 = true
  rotate_left
  · replace c3 := Bool.eq_false_iff.mpr c3
    subst c3
    have H1 : (some false) = some r := by rw [if_neg (show ¬ (false = true) by decide)] at H; exact H
    clear H
    have H := H1
    clear H1
    exact absurd ((Option.some.inj H).trans HRT.out) (by decide)
  subst c3
  have H1 : ((some (([2] : List Int) : List Int)).bind fun y24102 => (if 24 + 2 ≤ 9223372036854775807 then (if 25 + 8 ≤ 9223372036854775807 then ((plaitingref2_Wrap.f k (((⟨#[49, 49, 48, 48, 48, 48, 48, 48, 48, 48, 48, 48, 48, 48, 48, 49, 48, 49, 48, 48, 48, 49, 49, 48]⟩ : ByteArray) ++ (⟨#[49, 48]⟩ : ByteArray)) ++ (⟨#[48, 48, 48, 48, 48, 49, 49, 49]⟩ : ByteArray))).bind fun t24106 => ((frame_Read.f 6 4 0 0 0 y24102 t24106).bind fun bt24107 => (if 24 + 10 ≤ 9223372036854775807 then (if 24 + 11 ≤ 9223372036854775807 then (if 24 + 9 ≤ 9223372036854775807 then ((some (([(⟨#[48, 48, 48, 48, 48, 48, 48, 48, 48, 48, 48, 48, 48, 48, 48, 49, 48, 49, 48, 48, 48, 49, 49, 48, 48, 48, 48, 48, 48, 48, 48, 48, 48, 48]⟩ : ByteArray), (⟨#[49, 49, 48, 48, 48, 48, 48, 48, 48, 48, 48, 48, 48, 48, 48, 49, 48, 49, 48, 48, 48, 49, 49, 48]⟩ : ByteArray) ++ (⟨#[49, 49, 48, 48, 48, 48, 48, 48, 48, 48]⟩ : ByteArray), (⟨#[49, 49, 48, 48, 48, 48, 48, 48, 48, 48, 48, 48, 48, 48, 48, 49, 48, 49, 48, 48, 48, 49, 49, 48]⟩ : ByteArray) ++ (⟨#[48, 48, 48, 48, 48, 48, 48, 48, 48, 48]⟩ : ByteArray), (⟨#[49, 49, 48, 48, 48, 48, 48, 48, 48, 48, 48, 48, 48, 48, 48, 49, 48, 49, 48, 48, 48, 49, 49, 48]⟩ : ByteArray) ++ (⟨#[48, 49, 48, 48, 48, 48, 48, 48, 48, 49]⟩ : ByteArray), (⟨#[49, 49, 48, 48, 48, 48, 48, 48, 48, 48, 48, 48, 48, 48, 48, 49, 48, 49, 48, 48, 48, 49, 49, 48]⟩ : ByteArray) ++ (⟨#[49, 48, 48, 48, 48, 48, 48, 49, 49, 49, 48]⟩ : ByteArray), (⟨#[49, 49, 48, 48, 48, 48, 48, 48, 48, 48, 48, 48, 48, 48, 48, 49, 48, 49, 48, 48, 48, 49, 49, 48]⟩ : ByteArray) ++ (⟨#[49, 48, 48, 48, 48, 48, 48, 49, 49]⟩ : ByteArray), (⟨#[48, 49, 48, 48, 48, 48, 48, 48, 48, 48, 48, 48, 48, 48, 48, 49, 48, 49, 48, 48, 48, 49, 49, 48, 48, 48, 48, 48, 48, 48, 48, 48, 48, 48]⟩ : ByteArray), (⟨#[49, 49, 48, 48, 48, 48, 48, 48, 48, 48, 48, 48, 48, 48, 48, 49, 48, 49, 48, 48, 48, 49, 49, 49, 49, 48, 48, 48, 48, 48, 48, 49, 49, 49]⟩ : ByteArray), (⟨#[48, 49, 48, 48, 48, 48, 48, 48, 48, 48, 48, 48, 48, 48, 48, 49, 48, 49, 48, 48, 48, 48, 48, 49, 48, 48, 48, 48, 48, 48, 48, 48, 48, 48]⟩ : ByteArray), (⟨#[49, 49, 48, 48, 48, 48, 48, 48, 48, 48, 48, 48, 48, 48, 48, 49, 48, 49, 48, 48, 48, 48, 48, 49, 49, 48, 48, 48, 48, 48, 48, 49, 49, 49]⟩ : ByteArray)] : List ByteArray) : List ByteArray)).bind fun y24117 => ((some (([6, 1, 1, 1, 2, 3, 6, 1, 0, 2] : List Int) : List Int)).bind fun y24120 => ((plaitinglaw5_within.f a0 (y24117.length : Int)).bind fun t24123 => (if 0 ≤ t24123 then (if t24123 < (y24117.length : Int) then ((plaitingref2_Wrap.f k (rdOf ByteArray.empty y24117 t24123)).bind fun t24125 => ((frame_Read.f 6 4 0 0 0 y24102 t24125).bind fun bt24126 => (if bt24107.2.2.2.2.2.2 = 0 then ((frame_Same.f k bt24107.1 bt24107.2.1 bt24107.2.2.1 bt24107.2.2.2.1 bt24107.2.2.2.2.1 bt24107.2.2.2.2.2.1 3 5 6 2 7 ([] : List (S26))).bind fun t24136 => (if t24136 = true then (if t24123 < (y24120.length : Int) then (some (bt24126.2.2.2.2.2.2 == (rd y24120 t24123))) else (none)) else (some false))) else (some false)))) else (none)) else (none))))) else (none)) else (none)) else (none)))) else (none)) else (none))) = some r := by rw [if_pos rfl] at H; exact H
  clear H
  have H := H1
  clear H1
  obtain ⟨y24102, hy24102⟩ : ∃ y_ : List Int, y_ = (([2] : List Int)) := ⟨_, rfl⟩
  replace H : (if 24 + 2 ≤ 9223372036854775807 then (if 25 + 8 ≤ 9223372036854775807 then ((plaitingref2_Wrap.f k (((⟨#[49, 49, 48, 48, 48, 48, 48, 48, 48, 48, 48, 48, 48, 48, 48, 49, 48, 49, 48, 48, 48, 49, 49, 48]⟩ : ByteArray) ++ (⟨#[49, 48]⟩ : ByteArray)) ++ (⟨#[48, 48, 48, 48, 48, 49, 49, 49]⟩ : ByteArray))).bind fun t24106 => ((frame_Read.f 6 4 0 0 0 y24102 t24106).bind fun bt24107 => (if 24 + 10 ≤ 9223372036854775807 then (if 24 + 11 ≤ 9223372036854775807 then (if 24 + 9 ≤ 9223372036854775807 then ((some (([(⟨#[48, 48, 48, 48, 48, 48, 48, 48, 48, 48, 48, 48, 48, 48, 48, 49, 48, 49, 48, 48, 48, 49, 49, 48, 48, 48, 48, 48, 48, 48, 48, 48, 48, 48]⟩ : ByteArray), (⟨#[49, 49, 48, 48, 48, 48, 48, 48, 48, 48, 48, 48, 48, 48, 48, 49, 48, 49, 48, 48, 48, 49, 49, 48]⟩ : ByteArray) ++ (⟨#[49, 49, 48, 48, 48, 48, 48, 48, 48, 48]⟩ : ByteArray), (⟨#[49, 49, 48, 48, 48, 48, 48, 48, 48, 48, 48, 48, 48, 48, 48, 49, 48, 49, 48, 48, 48, 49, 49, 48]⟩ : ByteArray) ++ (⟨#[48, 48, 48, 48, 48, 48, 48, 48, 48, 48]⟩ : ByteArray), (⟨#[49, 49, 48, 48, 48, 48, 48, 48, 48, 48, 48, 48, 48, 48, 48, 49, 48, 49, 48, 48, 48, 49, 49, 48]⟩ : ByteArray) ++ (⟨#[48, 49, 48, 48, 48, 48, 48, 48, 48, 49]⟩ : ByteArray), (⟨#[49, 49, 48, 48, 48, 48, 48, 48, 48, 48, 48, 48, 48, 48, 48, 49, 48, 49, 48, 48, 48, 49, 49, 48]⟩ : ByteArray) ++ (⟨#[49, 48, 48, 48, 48, 48, 48, 49, 49, 49, 48]⟩ : ByteArray), (⟨#[49, 49, 48, 48, 48, 48, 48, 48, 48, 48, 48, 48, 48, 48, 48, 49, 48, 49, 48, 48, 48, 49, 49, 48]⟩ : ByteArray) ++ (⟨#[49, 48, 48, 48, 48, 48, 48, 49, 49]⟩ : ByteArray), (⟨#[48, 49, 48, 48, 48, 48, 48, 48, 48, 48, 48, 48, 48, 48, 48, 49, 48, 49, 48, 48, 48, 49, 49, 48, 48, 48, 48, 48, 48, 48, 48, 48, 48, 48]⟩ : ByteArray), (⟨#[49, 49, 48, 48, 48, 48, 48, 48, 48, 48, 48, 48, 48, 48, 48, 49, 48, 49, 48, 48, 48, 49, 49, 49, 49, 48, 48, 48, 48, 48, 48, 49, 49, 49]⟩ : ByteArray), (⟨#[48, 49, 48, 48, 48, 48, 48, 48, 48, 48, 48, 48, 48, 48, 48, 49, 48, 49, 48, 48, 48, 48, 48, 49, 48, 48, 48, 48, 48, 48, 48, 48, 48, 48]⟩ : ByteArray), (⟨#[49, 49, 48, 48, 48, 48, 48, 48, 48, 48, 48, 48, 48, 48, 48, 49, 48, 49, 48, 48, 48, 48, 48, 49, 49, 48, 48, 48, 48, 48, 48, 49, 49, 49]⟩ : ByteArray)] : List ByteArray) : List ByteArray)).bind fun y24117 => ((some (([6, 1, 1, 1, 2, 3, 6, 1, 0, 2] : List Int) : List Int)).bind fun y24120 => ((plaitinglaw5_within.f a0 (y24117.length : Int)).bind fun t24123 => (if 0 ≤ t24123 then (if t24123 < (y24117.length : Int) then ((plaitingref2_Wrap.f k (rdOf ByteArray.empty y24117 t24123)).bind fun t24125 => ((frame_Read.f 6 4 0 0 0 y24102 t24125).bind fun bt24126 => (if bt24107.2.2.2.2.2.2 = 0 then ((frame_Same.f k bt24107.1 bt24107.2.1 bt24107.2.2.1 bt24107.2.2.2.1 bt24107.2.2.2.2.1 bt24107.2.2.2.2.2.1 3 5 6 2 7 ([] : List (S26))).bind fun t24136 => (if t24136 = true then (if t24123 < (y24120.length : Int) then (some (bt24126.2.2.2.2.2.2 == (rd y24120 t24123))) else (none)) else (some false))) else (some false)))) else (none)) else (none))))) else (none)) else (none)) else (none)))) else (none)) else (none)) = some r := by first | (rw [hy24102]; with_reducible exact H) | (have H2_ := (Option.bind_some _ _).symm.trans H; rw [hy24102]; with_reducible exact H2_) | (have H2_ := (Option.bind_some _ _).symm.trans H; with_reducible exact H2_) | with_reducible exact H | (rw [hy24102]; exact H) | exact H
  have Ny24102 := Aside0.mk hy24102
  clear hy24102
  by_cases c4 : 24 + 2 ≤ 9223372036854775807
  rotate_left
  · rw [if_neg c4] at H
    exact absurd H (by simp)
  rw [if_pos c4] at H
  have c4b0 := eq_true c4
  have c4b1 : decide (24 + 2 ≤ 9223372036854775807) = true := decide_eq_true c4
  try have c4b2 : (9223372036854775807 < 24 + 2) = False := eq_false (Nat.not_lt.2 c4)
  by_cases c5 : 25 + 8 ≤ 9223372036854775807
  rotate_left
  · rw [if_neg c5] at H
    exact absurd H (by simp)
  rw [if_pos c5] at H
  have c5b0 := eq_true c5
  have c5b1 : decide (25 + 8 ≤ 9223372036854775807) = true := decide_eq_true c5
  try have c5b2 : (9223372036854775807 < 25 + 8) = False := eq_false (Nat.not_lt.2 c5)
  replace H := Option.bind_eq_some_iff.mp H
  obtain ⟨t24106, A60, H⟩ := H
  replace H : ((frame_Read.f 6 4 0 0 0 y24102 t24106).bind fun bt24107 => (if 24 + 10 ≤ 9223372036854775807 then (if 24 + 11 ≤ 9223372036854775807 then (if 24 + 9 ≤ 9223372036854775807 then ((some (([(⟨#[48, 48, 48, 48, 48, 48, 48, 48, 48, 48, 48, 48, 48, 48, 48, 49, 48, 49, 48, 48, 48, 49, 49, 48, 48, 48, 48, 48, 48, 48, 48, 48, 48, 48]⟩ : ByteArray), (⟨#[49, 49, 48, 48, 48, 48, 48, 48, 48, 48, 48, 48, 48, 48, 48, 49, 48, 49, 48, 48, 48, 49, 49, 48]⟩ : ByteArray) ++ (⟨#[49, 49, 48, 48, 48, 48, 48, 48, 48, 48]⟩ : ByteArray), (⟨#[49, 49, 48, 48, 48, 48, 48, 48, 48, 48, 48, 48, 48, 48, 48, 49, 48, 49, 48, 48, 48, 49, 49, 48]⟩ : ByteArray) ++ (⟨#[48, 48, 48, 48, 48, 48, 48, 48, 48, 48]⟩ : ByteArray), (⟨#[49, 49, 48, 48, 48, 48, 48, 48, 48, 48, 48, 48, 48, 48, 48, 49, 48, 49, 48, 48, 48, 49, 49, 48]⟩ : ByteArray) ++ (⟨#[48, 49, 48, 48, 48, 48, 48, 48, 48, 49]⟩ : ByteArray), (⟨#[49, 49, 48, 48, 48, 48, 48, 48, 48, 48, 48, 48, 48, 48, 48, 49, 48, 49, 48, 48, 48, 49, 49, 48]⟩ : ByteArray) ++ (⟨#[49, 48, 48, 48, 48, 48, 48, 49, 49, 49, 48]⟩ : ByteArray), (⟨#[49, 49, 48, 48, 48, 48, 48, 48, 48, 48, 48, 48, 48, 48, 48, 49, 48, 49, 48, 48, 48, 49, 49, 48]⟩ : ByteArray) ++ (⟨#[49, 48, 48, 48, 48, 48, 48, 49, 49]⟩ : ByteArray), (⟨#[48, 49, 48, 48, 48, 48, 48, 48, 48, 48, 48, 48, 48, 48, 48, 49, 48, 49, 48, 48, 48, 49, 49, 48, 48, 48, 48, 48, 48, 48, 48, 48, 48, 48]⟩ : ByteArray), (⟨#[49, 49, 48, 48, 48, 48, 48, 48, 48, 48, 48, 48, 48, 48, 48, 49, 48, 49, 48, 48, 48, 49, 49, 49, 49, 48, 48, 48, 48, 48, 48, 49, 49, 49]⟩ : ByteArray), (⟨#[48, 49, 48, 48, 48, 48, 48, 48, 48, 48, 48, 48, 48, 48, 48, 49, 48, 49, 48, 48, 48, 48, 48, 49, 48, 48, 48, 48, 48, 48, 48, 48, 48, 48]⟩ : ByteArray), (⟨#[49, 49, 48, 48, 48, 48, 48, 48, 48, 48, 48, 48, 48, 48, 48, 49, 48, 49, 48, 48, 48, 48, 48, 49, 49, 48, 48, 48, 48, 48, 48, 49, 49, 49]⟩ : ByteArray)] : List ByteArray) : List ByteArray)).bind fun y24117 => ((some (([6, 1, 1, 1, 2, 3, 6, 1, 0, 2] : List Int) : List Int)).bind fun y24120 => ((plaitinglaw5_within.f a0 (y24117.length : Int)).bind fun t24123 => (if 0 ≤ t24123 then (if t24123 < (y24117.length : Int) then ((plaitingref2_Wrap.f k (rdOf ByteArray.empty y24117 t24123)).bind fun t24125 => ((frame_Read.f 6 4 0 0 0 y24102 t24125).bind fun bt24126 => (if bt24107.2.2.2.2.2.2 = 0 then ((frame_Same.f k bt24107.1 bt24107.2.1 bt24107.2.2.1 bt24107.2.2.2.1 bt24107.2.2.2.2.1 bt24107.2.2.2.2.2.1 3 5 6 2 7 ([] : List (S26))).bind fun t24136 => (if t24136 = true then (if t24123 < (y24120.length : Int) then (some (bt24126.2.2.2.2.2.2 == (rd y24120 t24123))) else (none)) else (some false))) else (some false)))) else (none)) else (none))))) else (none)) else (none)) else (none))) = some r := H
  have A6 := Aside0.mk A60
  clear A60
  replace H := Option.bind_eq_some_iff.mp H
  obtain ⟨⟨t24107, t24108, t24109, t24110, t24111, t24112, t24115⟩, A70, H⟩ := H
  replace H : (if 24 + 10 ≤ 9223372036854775807 then (if 24 + 11 ≤ 9223372036854775807 then (if 24 + 9 ≤ 9223372036854775807 then ((some (([(⟨#[48, 48, 48, 48, 48, 48, 48, 48, 48, 48, 48, 48, 48, 48, 48, 49, 48, 49, 48, 48, 48, 49, 49, 48, 48, 48, 48, 48, 48, 48, 48, 48, 48, 48]⟩ : ByteArray), (⟨#[49, 49, 48, 48, 48, 48, 48, 48, 48, 48, 48, 48, 48, 48, 48, 49, 48, 49, 48, 48, 48, 49, 49, 48]⟩ : ByteArray) ++ (⟨#[49, 49, 48, 48, 48, 48, 48, 48, 48, 48]⟩ : ByteArray), (⟨#[49, 49, 48, 48, 48, 48, 48, 48, 48, 48, 48, 48, 48, 48, 48, 49, 48, 49, 48, 48, 48, 49, 49, 48]⟩ : ByteArray) ++ (⟨#[48, 48, 48, 48, 48, 48, 48, 48, 48, 48]⟩ : ByteArray), (⟨#[49, 49, 48, 48, 48, 48, 48, 48, 48, 48, 48, 48, 48, 48, 48, 49, 48, 49, 48, 48, 48, 49, 49, 48]⟩ : ByteArray) ++ (⟨#[48, 49, 48, 48, 48, 48, 48, 48, 48, 49]⟩ : ByteArray), (⟨#[49, 49, 48, 48, 48, 48, 48, 48, 48, 48, 48, 48, 48, 48, 48, 49, 48, 49, 48, 48, 48, 49, 49, 48]⟩ : ByteArray) ++ (⟨#[49, 48, 48, 48, 48, 48, 48, 49, 49, 49, 48]⟩ : ByteArray), (⟨#[49, 49, 48, 48, 48, 48, 48, 48, 48, 48, 48, 48, 48, 48, 48, 49, 48, 49, 48, 48, 48, 49, 49, 48]⟩ : ByteArray) ++ (⟨#[49, 48, 48, 48, 48, 48, 48, 49, 49]⟩ : ByteArray), (⟨#[48, 49, 48, 48, 48, 48, 48, 48, 48, 48, 48, 48, 48, 48, 48, 49, 48, 49, 48, 48, 48, 49, 49, 48, 48, 48, 48, 48, 48, 48, 48, 48, 48, 48]⟩ : ByteArray), (⟨#[49, 49, 48, 48, 48, 48, 48, 48, 48, 48, 48, 48, 48, 48, 48, 49, 48, 49, 48, 48, 48, 49, 49, 49, 49, 48, 48, 48, 48, 48, 48, 49, 49, 49]⟩ : ByteArray), (⟨#[48, 49, 48, 48, 48, 48, 48, 48, 48, 48, 48, 48, 48, 48, 48, 49, 48, 49, 48, 48, 48, 48, 48, 49, 48, 48, 48, 48, 48, 48, 48, 48, 48, 48]⟩ : ByteArray), (⟨#[49, 49, 48, 48, 48, 48, 48, 48, 48, 48, 48, 48, 48, 48, 48, 49, 48, 49, 48, 48, 48, 48, 48, 49, 49, 48, 48, 48, 48, 48, 48, 49, 49, 49]⟩ : ByteArray)] : List ByteArray) : List ByteArray)).bind fun y24117 => ((some (([6, 1, 1, 1, 2, 3, 6, 1, 0, 2] : List Int) : List Int)).bind fun y24120 => ((plaitinglaw5_within.f a0 (y24117.length : Int)).bind fun t24123 => (if 0 ≤ t24123 then (if t24123 < (y24117.length : Int) then ((plaitingref2_Wrap.f k (rdOf ByteArray.empty y24117 t24123)).bind fun t24125 => ((frame_Read.f 6 4 0 0 0 y24102 t24125).bind fun bt24126 => (if t24115 = 0 then ((frame_Same.f k t24107 t24108 t24109 t24110 t24111 t24112 3 5 6 2 7 ([] : List (S26))).bind fun t24136 => (if t24136 = true then (if t24123 < (y24120.length : Int) then (some (bt24126.2.2.2.2.2.2 == (rd y24120 t24123))) else (none)) else (some false))) else (some false)))) else (none)) else (none))))) else (none)) else (none)) else (none)) = some r := H
  have A7 := Aside0.mk A70
  clear A70
  by_cases c8 : 24 + 10 ≤ 9223372036854775807
  rotate_left
  · rw [if_neg c8] at H
    exact absurd H (by simp)
  rw [if_pos c8] at H
  have c8b0 := eq_true c8
  have c8b1 : decide (24 + 10 ≤ 9223372036854775807) = true := decide_eq_true c8
  try have c8b2 : (9223372036854775807 < 24 + 10) = False := eq_false (Nat.not_lt.2 c8)
  by_cases c9 : 24 + 11 ≤ 9223372036854775807
  rotate_left
  · rw [if_neg c9] at H
    exact absurd H (by simp)
  rw [if_pos c9] at H
  have c9b0 := eq_true c9
  have c9b1 : decide (24 + 11 ≤ 9223372036854775807) = true := decide_eq_true c9
  try have c9b2 : (9223372036854775807 < 24 + 11) = False := eq_false (Nat.not_lt.2 c9)
  by_cases c10 : 24 + 9 ≤ 9223372036854775807
  rotate_left
  · rw [if_neg c10] at H
    exact absurd H (by simp)
  rw [if_pos c10] at H
  have c10b0 := eq_true c10
  have c10b1 : decide (24 + 9 ≤ 9223372036854775807) = true := decide_eq_true c10
  try have c10b2 : (9223372036854775807 < 24 + 9) = False := eq_false (Nat.not_lt.2 c10)
  obtain ⟨y24117, hy24117⟩ : ∃ y_ : List ByteArray, y_ = (([(⟨#[48, 48, 48, 48, 48, 48, 48, 48, 48, 48, 48, 48, 48, 48, 48, 49, 48, 49, 48, 48, 48, 49, 49, 48, 48, 48, 48, 48, 48, 48, 48, 48, 48, 48]⟩ : ByteArray), (⟨#[49, 49, 48, 48, 48, 48, 48, 48, 48, 48, 48, 48, 48, 48, 48, 49, 48, 49, 48, 48, 48, 49, 49, 48]⟩ : ByteArray) ++ (⟨#[49, 49, 48, 48, 48, 48, 48, 48, 48, 48]⟩ : ByteArray), (⟨#[49, 49, 48, 48, 48, 48, 48, 48, 48, 48, 48, 48, 48, 48, 48, 49, 48, 49, 48, 48, 48, 49, 49, 48]⟩ : ByteArray) ++ (⟨#[48, 48, 48, 48, 48, 48, 48, 48, 48, 48]⟩ : ByteArray), (⟨#[49, 49, 48, 48, 48, 48, 48, 48, 48, 48, 48, 48, 48, 48, 48, 49, 48, 49, 48, 48, 48, 49, 49, 48]⟩ : ByteArray) ++ (⟨#[48, 49, 48, 48, 48, 48, 48, 48, 48, 49]⟩ : ByteArray), (⟨#[49, 49, 48, 48, 48, 48, 48, 48, 48, 48, 48, 48, 48, 48, 48, 49, 48, 49, 48, 48, 48, 49, 49, 48]⟩ : ByteArray) ++ (⟨#[49, 48, 48, 48, 48, 48, 48, 49, 49, 49, 48]⟩ : ByteArray), (⟨#[49, 49, 48, 48, 48, 48, 48, 48, 48, 48, 48, 48, 48, 48, 48, 49, 48, 49, 48, 48, 48, 49, 49, 48]⟩ : ByteArray) ++ (⟨#[49, 48, 48, 48, 48, 48, 48, 49, 49]⟩ : ByteArray), (⟨#[48, 49, 48, 48, 48, 48, 48, 48, 48, 48, 48, 48, 48, 48, 48, 49, 48, 49, 48, 48, 48, 49, 49, 48, 48, 48, 48, 48, 48, 48, 48, 48, 48, 48]⟩ : ByteArray), (⟨#[49, 49, 48, 48, 48, 48, 48, 48, 48, 48, 48, 48, 48, 48, 48, 49, 48, 49, 48, 48, 48, 49, 49, 49, 49, 48, 48, 48, 48, 48, 48, 49, 49, 49]⟩ : ByteArray), (⟨#[48, 49, 48, 48, 48, 48, 48, 48, 48, 48, 48, 48, 48, 48, 48, 49, 48, 49, 48, 48, 48, 48, 48, 49, 48, 48, 48, 48, 48, 48, 48, 48, 48, 48]⟩ : ByteArray), (⟨#[49, 49, 48, 48, 48, 48, 48, 48, 48, 48, 48, 48, 48, 48, 48, 49, 48, 49, 48, 48, 48, 48, 48, 49, 49, 48, 48, 48, 48, 48, 48, 49, 49, 49]⟩ : ByteArray)] : List ByteArray)) := ⟨_, rfl⟩
  replace H : ((some (([6, 1, 1, 1, 2, 3, 6, 1, 0, 2] : List Int) : List Int)).bind fun y24120 => ((plaitinglaw5_within.f a0 (y24117.length : Int)).bind fun t24123 => (if 0 ≤ t24123 then (if t24123 < (y24117.length : Int) then ((plaitingref2_Wrap.f k (rdOf ByteArray.empty y24117 t24123)).bind fun t24125 => ((frame_Read.f 6 4 0 0 0 y24102 t24125).bind fun bt24126 => (if t24115 = 0 then ((frame_Same.f k t24107 t24108 t24109 t24110 t24111 t24112 3 5 6 2 7 ([] : List (S26))).bind fun t24136 => (if t24136 = true then (if t24123 < (y24120.length : Int) then (some (bt24126.2.2.2.2.2.2 == (rd y24120 t24123))) else (none)) else (some false))) else (some false)))) else (none)) else (none)))) = some r := by first | (rw [hy24117]; with_reducible exact H) | (have H2_ := (Option.bind_some _ _).symm.trans H; rw [hy24117]; with_reducible exact H2_) | (have H2_ := (Option.bind_some _ _).symm.trans H; with_reducible exact H2_) | with_reducible exact H | (rw [hy24117]; exact H) | exact H
  have Ny24117 := Aside0.mk hy24117
  clear hy24117
  obtain ⟨y24120, hy24120⟩ : ∃ y_ : List Int, y_ = (([6, 1, 1, 1, 2, 3, 6, 1, 0, 2] : List Int)) := ⟨_, rfl⟩
  replace H : ((plaitinglaw5_within.f a0 (y24117.length : Int)).bind fun t24123 => (if 0 ≤ t24123 then (if t24123 < (y24117.length : Int) then ((plaitingref2_Wrap.f k (rdOf ByteArray.empty y24117 t24123)).bind fun t24125 => ((frame_Read.f 6 4 0 0 0 y24102 t24125).bind fun bt24126 => (if t24115 = 0 then ((frame_Same.f k t24107 t24108 t24109 t24110 t24111 t24112 3 5 6 2 7 ([] : List (S26))).bind fun t24136 => (if t24136 = true then (if t24123 < (y24120.length : Int) then (some (bt24126.2.2.2.2.2.2 == (rd y24120 t24123))) else (none)) else (some false))) else (some false)))) else (none)) else (none))) = some r := by first | (rw [hy24120]; with_reducible exact H) | (have H2_ := (Option.bind_some _ _).symm.trans H; rw [hy24120]; with_reducible exact H2_) | (have H2_ := (Option.bind_some _ _).symm.trans H; with_reducible exact H2_) | with_reducible exact H | (rw [hy24120]; exact H) | exact H
  have Ny24120 := Aside0.mk hy24120
  clear hy24120
  replace H := Option.bind_eq_some_iff.mp H
  obtain ⟨t24123, A110, H⟩ := H
  replace H : (if 0 ≤ t24123 then (if t24123 < (y24117.length : Int) then ((plaitingref2_Wrap.f k (rdOf ByteArray.empty y24117 t24123)).bind fun t24125 => ((frame_Read.f 6 4 0 0 0 y24102 t24125).bind fun bt24126 => (if t24115 = 0 then ((frame_Same.f k t24107 t24108 t24109 t24110 t24111 t24112 3 5 6 2 7 ([] : List (S26))).bind fun t24136 => (if t24136 = true then (if t24123 < (y24120.length : Int) then (some (bt24126.2.2.2.2.2.2 == (rd y24120 t24123))) else (none)) else (some false))) else (some false)))) else (none)) else (none)) = some r := H
  have A11 := Aside0.mk A110
  clear A110
  by_cases c12 : 0 ≤ t24123
  rotate_left
  · rw [if_neg c12] at H
    exact absurd H (by simp)
  rw [if_pos c12] at H
  have c12b0 : decide (0 ≤ t24123) = true := decide_eq_true c12
  clear c12
  by_cases c13 : t24123 < (y24117.length : Int)
  rotate_left
  · rw [if_neg c13] at H
    exact absurd H (by simp)
  rw [if_pos c13] at H
  have c13b0 : decide (t24123 < (y24117.length : Int)) = true := decide_eq_true c13
  clear c13
  replace H := Option.bind_eq_some_iff.mp H
  obtain ⟨t24125, A140, H⟩ := H
  replace H : ((frame_Read.f 6 4 0 0 0 y24102 t24125).bind fun bt24126 => (if t24115 = 0 then ((frame_Same.f k t24107 t24108 t24109 t24110 t24111 t24112 3 5 6 2 7 ([] : List (S26))).bind fun t24136 => (if t24136 = true then (if t24123 < (y24120.length : Int) then (some (bt24126.2.2.2.2.2.2 == (rd y24120 t24123))) else (none)) else (some false))) else (some false))) = some r := H
  have A14 := Aside0.mk A140
  clear A140
  replace H := Option.bind_eq_some_iff.mp H
  obtain ⟨⟨t24126, t24127, t24128, t24129, t24130, t24131, t24134⟩, A150, H⟩ := H
  replace H : (if t24115 = 0 then ((frame_Same.f k t24107 t24108 t24109 t24110 t24111 t24112 3 5 6 2 7 ([] : List (S26))).bind fun t24136 => (if t24136 = true then (if t24123 < (y24120.length : Int) then (some (t24134 == (rd y24120 t24123))) else (none)) else (some false))) else (some false)) = some r := H
  have A15 := Aside0.mk A150
  clear A150
  by_cases c16 : t24115 = 0
  rotate_left
  · rw [if_neg c16] at H
    have c16b0 : (t24115 == 0) = false := beq_eq_false_iff_ne.mpr c16
    have c16b1 : (t24115 != 0) = true := bne_iff_ne.mpr c16
    exact absurd ((Option.some.inj H).trans HRT.out) (by decide)
  rw [if_pos c16] at H
  have c16b0 : (t24115 == 0) = true := beq_iff_eq.mpr c16
  have c16b1 : (t24115 != 0) = false := bne_eq_false_iff_eq.mpr c16
  clear c16
  replace H := Option.bind_eq_some_iff.mp H
  obtain ⟨t24136, A170, H⟩ := H
  replace H : (if t24136 = true then (if t24123 < (y24120.length : Int) then (some (t24134 == (rd y24120 t24123))) else (none)) else (some false)) = some r := H
  have A17 := Aside0.mk A170
  clear A170
  by_cases c18 : t24136 = true
  rotate_left
  · replace c18 := Bool.eq_false_iff.mpr c18
    subst c18
    have H1 : (some false) = some r := by rw [if_neg (show ¬ (false = true) by decide)] at H; exact H
    clear H
    have H := H1
    clear H1
    exact absurd ((Option.some.inj H).trans HRT.out) (by decide)
  subst c18
  have H1 : (if t24123 < (y24120.length : Int) then (some (t24134 == (rd y24120 t24123))) else (none)) = some r := by rw [if_pos rfl] at H; exact H
  clear H
  have H := H1
  clear H1
  by_cases c19 : t24123 < (y24120.length : Int)
  rotate_left
  · rw [if_neg c19] at H
    exact absurd H (by simp)
  rw [if_pos c19] at H
  have c19b0 : decide (t24123 < (y24120.length : Int)) = true := decide_eq_true c19
  clear c19
  obtain rfl := Option.some.inj H
  go_enter Try.func12, Try.ntmps12
  try go_wp2_with (first | ((with_reducible refine gate_callee (f := 18) rfl ?_); refine goesL_ (some 12) rfl rfl Try.func18 (by kernel_rfl) rfl #[] rfl (by (try simp only [List.map_toArray, List.map_cons, List.map_nil]); first | done | rfl | (simp only [List.length_drop, List.length_take]; rfl)) ?_; (with_reducible refine (plaitinglaw5_known.calls  true _ A2.out).mono ?_); rintro e w20 ⟨rfl, hb⟩; refine ⟨_, rfl, ?_⟩; replace HB := Aside0.mk (below_step (pH_ HB.out) hb); (try clear hb); (try clear hb2); (try clear hk); (try clear hi)) | ((with_reducible refine gate_dst (N := 14) rfl ?_); refine Kd.R_lit (Kd.int .i64) _ 3 ?hg (N := 14) ?hd (xs := ([2] : List Int)) (inner := [.int .i64 2]) (ok := fun _ => True) (okp := fun _ => True) ?hr ?hp (fun _ hk => hk) trivial (Below.refl _ _) (Nat.le_refl _) (by simp) ?_; (case hd => rfl); (case hg => rfl); (case hr => first | (go_simp; done) | (go_simp; rfl)); (case hp => exact (Reps.one (show Kd.M (Kd.int .i64) _ _ _ 2 [.int .i64 2] from rfl) (Reps.none _ _))); intro v24103 w21 ho22 hb hg_ hnew_; clear hg_ hnew_; (first | rw [← Ny24102.out] at ho22 | (simp only [Int.reduceToNat] at ho22; rw [← Ny24102.out] at ho22)); have HO24104 := Aside0.mk (Kd.R_lower ho22 (below_size (pH_ HB.out))); replace HB := Aside0.mk (below_step (pH_ HB.out) hb); clear hb ho22; obtain ⟨Ao23, co23, eo23⟩ := Kd.R_slice HO24104.out; subst eo23) | ((with_reducible refine gate_dst (N := 3) rfl ?_); refine box_event ?hg (N := 3) ?hd (cs := #[.int .i64 0, .int .i64 0, .int .i64 0, .int .i64 0, .int .i64 0, .slice none 0 0]) (t := 24) ?hr ?_; (case hd => rfl); (case hg => rfl); (case hr => first | (go_simp; done) | (go_simp; rfl)); intro gb24105 hg w24 hbox hb; have BK24105 := Aside0.mk (hbox); have GW24105 := Aside0.mk ((by rw [hg]; exact (below_size (pH_ HB.out)) : w.heap.size ≤ gb24105)); have GE24105 := Aside0.mk ((by rw [hg]; exact (below_size (pH_ HB.out)) : w.heap.size ≤ gb24105)); replace HO24104 := Aside0.mk (Kd.R_below (pR_ HO24104.out) hb); replace HB := Aside0.mk (below_step (pH_ HB.out) hb); clear hb hbox hg; have hcz25_0 : w24.cell? ⟨gb24105, 0, none⟩ = some (.int .i64 0) := (blk_cell BK24105.out 0).trans rfl; have hcz25_1 : w24.cell? ⟨gb24105, 1, none⟩ = some (.int .i64 0) := (blk_cell BK24105.out 1).trans rfl; have hcz25_2 : w24.cell? ⟨gb24105, 2, none⟩ = some (.int .i64 0) := (blk_cell BK24105.out 2).trans rfl; have hcz25_3 : w24.cell? ⟨gb24105, 3, none⟩ = some (.int .i64 0) := (blk_cell BK24105.out 3).trans rfl; have hcz25_4 : w24.cell? ⟨gb24105, 4, none⟩ = some (.int .i64 0) := (blk_cell BK24105.out 4).trans rfl; have hcz25_5 : w24.cell? ⟨gb24105, 5, none⟩ = some (.slice none 0 0) := (blk_cell BK24105.out 5).trans rfl; have hfz25_0 := blk_frozen BK24105.out 0; have hfz25_1 := blk_frozen BK24105.out 1; have hfz25_2 := blk_frozen BK24105.out 2; have hfz25_3 := blk_frozen BK24105.out 3; have hfz25_4 := blk_frozen BK24105.out 4; have hfz25_5 := blk_frozen BK24105.out 5))
  have n0_ : Aside0 (Kd.R (Kd.int .i64) 3 ((((((w24.setCell ⟨gb24105, 0, none⟩ (.int .i64 6)).setCell ⟨gb24105, 1, none⟩ (.int .i64 4)).setCell ⟨gb24105, 2, none⟩ (.int .i64 0)).setCell ⟨gb24105, 3, none⟩ (.int .i64 0)).setCell ⟨gb24105, 4, none⟩ (.int .i64 0)).setCell ⟨gb24105, 5, none⟩ (.slice Ao23 y24102.length co23)) w.heap.size (fun _ => True) (.slice Ao23 y24102.length co23) y24102) := ⟨by (with_reducible repeat (first | apply Kd.R_alloc | apply Kd.R_drewN | apply Kd.R_drew)); exact Kd.R_mono (Kd.R_far (p := ⟨gb24105, 5, none⟩) (Kd.R_far (p := ⟨gb24105, 4, none⟩) (Kd.R_far (p := ⟨gb24105, 3, none⟩) (Kd.R_far (p := ⟨gb24105, 2, none⟩) (Kd.R_far (p := ⟨gb24105, 1, none⟩) (Kd.R_far (p := ⟨gb24105, 0, none⟩) (Kd.R_types HO24104.out BK24105.out (by decide)) (fun _ hk => hk.2) (.int .i64 6)) (fun _ hk => hk.2) (.int .i64 4)) (fun _ hk => hk.2) (.int .i64 0)) (fun _ hk => hk.2) (.int .i64 0)) (fun _ hk => hk.2) (.int .i64 0)) (fun _ hk => hk.2) (.slice Ao23 y24102.length co23)) (fun _ hk => trivial)⟩
  have n1_ : Aside0 (((((((w24.setCell ⟨gb24105, 0, none⟩ (.int .i64 6)).setCell ⟨gb24105, 1, none⟩ (.int .i64 4)).setCell ⟨gb24105, 2, none⟩ (.int .i64 0)).setCell ⟨gb24105, 3, none⟩ (.int .i64 0)).setCell ⟨gb24105, 4, none⟩ (.int .i64 0)).setCell ⟨gb24105, 5, none⟩ (.slice Ao23 y24102.length co23)).heap[gb24105]? = some (.cells #[.int .i64 6, .int .i64 4, .int .i64 0, .int .i64 0, .int .i64 0, .slice Ao23 y24102.length co23] 24 (0, 0))) := ⟨by (with_reducible repeat (first | refine blk_drewN ?_ _ | refine blk_drew ?_ | refine blk_alloc ?_ _)); refine blk_put (cs := #[.int .i64 6, .int .i64 4, .int .i64 0, .int .i64 0, .int .i64 0, .slice none 0 0]) ?_ 5 _ rfl; (with_reducible repeat (first | refine blk_drewN ?_ _ | refine blk_drew ?_ | refine blk_alloc ?_ _)); refine blk_put (cs := #[.int .i64 6, .int .i64 4, .int .i64 0, .int .i64 0, .int .i64 0, .slice none 0 0]) ?_ 4 _ rfl; (with_reducible repeat (first | refine blk_drewN ?_ _ | refine blk_drew ?_ | refine blk_alloc ?_ _)); refine blk_put (cs := #[.int .i64 6, .int .i64 4, .int .i64 0, .int .i64 0, .int .i64 0, .slice none 0 0]) ?_ 3 _ rfl; (with_reducible repeat (first | refine blk_drewN ?_ _ | refine blk_drew ?_ | refine blk_alloc ?_ _)); refine blk_put (cs := #[.int .i64 6, .int .i64 4, .int .i64 0, .int .i64 0, .int .i64 0, .slice none 0 0]) ?_ 2 _ rfl; (with_reducible repeat (first | refine blk_drewN ?_ _ | refine blk_drew ?_ | refine blk_alloc ?_ _)); refine blk_put (cs := #[.int .i64 6, .int .i64 0, .int .i64 0, .int .i64 0, .int .i64 0, .slice none 0 0]) ?_ 1 _ rfl; (with_reducible repeat (first | refine blk_drewN ?_ _ | refine blk_drew ?_ | refine blk_alloc ?_ _)); refine blk_put (cs := #[.int .i64 0, .int .i64 0, .int .i64 0, .int .i64 0, .int .i64 0, .slice none 0 0]) ?_ 0 _ rfl; (with_reducible repeat (first | refine blk_drewN ?_ _ | refine blk_drew ?_ | refine blk_alloc ?_ _)); exact BK24105.out⟩
  have n2_ : Aside0 (Below w.heap.size w ((((((w24.setCell ⟨gb24105, 0, none⟩ (.int .i64 6)).setCell ⟨gb24105, 1, none⟩ (.int .i64 4)).setCell ⟨gb24105, 2, none⟩ (.int .i64 0)).setCell ⟨gb24105, 3, none⟩ (.int .i64 0)).setCell ⟨gb24105, 4, none⟩ (.int .i64 0)).setCell ⟨gb24105, 5, none⟩ (.slice Ao23 y24102.length co23))) := ⟨by repeat (first | (with_reducible first | exact HB.out | apply below_alloc | apply pw_below_drewN | apply below_drew1 | refine below_set ?_ GE24105.out) | exact HB.out)⟩
  (try clear HO24104)
  (try clear BK24105)
  (try clear HB)
  generalize ((((((w24.setCell ⟨gb24105, 0, none⟩ (.int .i64 6)).setCell ⟨gb24105, 1, none⟩ (.int .i64 4)).setCell ⟨gb24105, 2, none⟩ (.int .i64 0)).setCell ⟨gb24105, 3, none⟩ (.int .i64 0)).setCell ⟨gb24105, 4, none⟩ (.int .i64 0)).setCell ⟨gb24105, 5, none⟩ (.slice Ao23 y24102.length co23)) = w26 at n0_ n1_ n2_ ⊢
  have HO24104 := n0_
  have BK24105 := n1_
  have HB := n2_
  clear n0_ n1_ n2_
  replace HO24104 := Aside0.mk (Kd.R_drew HO24104.out)
  replace BK24105 := Aside0.mk (blk_drew BK24105.out)
  replace HB := Aside0.mk (below_drew1 HB.out)
  refine start_ (n := 12) (S := fun w' => w'.cell? ⟨gb24105, 0, none⟩ = some (.int .i64 6) ∧ w'.cell? ⟨gb24105, 1, none⟩ = some (.int .i64 4) ∧ w'.cell? ⟨gb24105, 2, none⟩ = some (.int .i64 0) ∧ w'.cell? ⟨gb24105, 3, none⟩ = some (.int .i64 0) ∧ w'.cell? ⟨gb24105, 4, none⟩ = some (.int .i64 0) ∧ w'.cell? ⟨gb24105, 5, none⟩ = some (.slice Ao23 y24102.length co23)) (ds := []) #[false, false, false, false, false, false, false, false, false, false, false, false] (by kernel_rfl) rfl rfl ⟨(blk_cell BK24105.out 0).trans rfl, (blk_cell BK24105.out 1).trans rfl, (blk_cell BK24105.out 2).trans rfl, (blk_cell BK24105.out 3).trans rfl, (blk_cell BK24105.out 4).trans rfl, (blk_cell BK24105.out 5).trans rfl⟩ (fun hHeld => ?_); refine with_tabW plaitinglaw5_FrameKnown.tab5 plaitinglaw5_FrameKnown.bits5 (fun HT_ HW_ => ?_)
  generalize w26.drew = w27 at HO24104 BK24105 HB hHeld ⊢
  refine pure_ (i := 1) (N := some 18) (v := ?_) (a' := ?_) #[false, true, false, false, false, false, false, false, false, false, false, false] rfl rfl (any_of HT_.out (by kernel_rfl)) (fun _ _ _ h => h) (Or.inl ⟨by rfl, ?_⟩) ?_ ?_
  rotate_left
  · intro w'
    go_simp
    first | with_reducible rfl | (rw [if_neg (by decide)])
  rotate_left
  · simp only [Act.put, List.setIfInBounds_toArray, List.set_cons_zero, List.set_cons_succ, i64_w, i32_w]
    rfl
  refine pure_ (i := 2) (N := some 19) (v := ?_) (a' := ?_) #[false, true, true, false, false, false, false, false, false, false, false, false] rfl rfl (any_of HT_.out (by kernel_rfl)) (fun _ _ _ h => h) (Or.inl ⟨by rfl, ?_⟩) ?_ ?_
  rotate_left
  · intro w'
    go_simp
    first | with_reducible rfl | (rw [if_neg (by decide)])
  rotate_left
  · simp only [Act.put, List.setIfInBounds_toArray, List.set_cons_zero, List.set_cons_succ, i64_w, i32_w]
    rfl
  refine pure_ (i := 3) (N := some 20) (v := ?_) (a' := ?_) #[false, true, true, true, false, false, false, false, false, false, false, false] rfl rfl (any_of HT_.out (by kernel_rfl)) (fun _ _ _ h => h) (Or.inl ⟨by rfl, ?_⟩) ?_ ?_
  rotate_left
  · intro w'
    go_simp
    first | with_reducible rfl | (rw [if_neg (by decide)])
  rotate_left
  · simp only [Act.put, List.setIfInBounds_toArray, List.set_cons_zero, List.set_cons_succ, i64_w, i32_w]
    rfl
  refine take_ (i := 0) (N := some 17) (v := ?_) (a' := ?_) #[true, true, true, true, false, false, false, false, false, false, false, false] rfl rfl (take_ofW HT_.out HW_.out (by kernel_rfl)) (fun _ _ _ h => h) (Or.inl ⟨by rfl, ?_⟩) hHeld ?_ ?_
  rotate_left
  · rintro w' ⟨s0, s1, s2, s3, s4, s5⟩
    go_simp
    first | with_reducible rfl | (rw [if_neg (by decide)])
  rotate_left
  · simp only [Act.put, List.setIfInBounds_toArray, List.set_cons_zero, List.set_cons_succ, i64_w, i32_w]
    rfl
  refine join_ (σ := Value × Nat) 2 #[true, true, true, true, true, true, true, true, true, true, false, false] (fun s_ => [(21, .string t24106), (22, .tuple #[.agg #[.int .i64 t24107, .int .i64 t24108, .int .i64 t24109, .int .i64 t24110, .int .i64 t24111, s_.1], .int .i64 t24115]), (5, .pointer (some ⟨s_.2, 0, none⟩)), (16, .tuple #[.agg #[.int .i64 t24107, .int .i64 t24108, .int .i64 t24109, .int .i64 t24110, .int .i64 t24111, s_.1], .int .i64 t24115]), (23, .agg #[.int .i64 t24107, .int .i64 t24108, .int .i64 t24109, .int .i64 t24110, .int .i64 t24111, s_.1]), (24, .int .i64 t24115)]) (fun s_ w' => (w'.cell? ⟨gb24105, 0, none⟩ = some (.int .i64 6) ∧ w'.cell? ⟨gb24105, 1, none⟩ = some (.int .i64 4) ∧ w'.cell? ⟨gb24105, 2, none⟩ = some (.int .i64 0) ∧ w'.cell? ⟨gb24105, 3, none⟩ = some (.int .i64 0) ∧ w'.cell? ⟨gb24105, 4, none⟩ = some (.int .i64 0) ∧ w'.cell? ⟨gb24105, 5, none⟩ = some (.slice Ao23 y24102.length co23)) ∧ (Kd.R (Kd.int .i64) 3 w' w.heap.size (fun _ => True) (.slice Ao23 y24102.length co23) y24102) ∧ (Kd.R k26 26 w' w.heap.size (fun _ => True) s_.1 t24112) ∧ (w'.heap[gb24105]? = some (.cells #[.int .i64 6, .int .i64 4, .int .i64 0, .int .i64 0, .int .i64 0, .slice Ao23 y24102.length co23] 24 (0, 0))) ∧ (w'.heap[s_.2]? = some (.cells #[.int .i64 0, .int .i64 0, .int .i64 0, .int .i64 0, .int .i64 0, .slice none 0 0] 29 (0, 0))) ∧ (w.heap.size ≤ s_.2) ∧ (w.heap.size ≤ s_.2) ∧ (gb24105 ≠ s_.2) ∧ (s_.2 ≠ gb24105) ∧ (Below w.heap.size w w')) ?_ ?_
  rotate_left
  · intro hCont
    refine two_ (i := 4) (j := 9) (Ni := some 21) (Nj := some 5) #[true, true, true, true, true, false, false, false, false, false, false, false] #[true, true, true, true, false, false, false, false, false, true, false, false] rfl rfl rfl rfl (two_of HT_.out (by kernel_rfl)) (by decide) (by decide) (fun K hK => ?_) (fun K hK => ?_)
    · skip
      refine goes_ Try.func34 (by kernel_rfl) rfl #[.string (((⟨#[49, 49, 48, 48, 48, 48, 48, 48, 48, 48, 48, 48, 48, 48, 48, 49, 48, 49, 48, 48, 48, 49, 49, 48]⟩ : ByteArray) ++ (⟨#[49, 48]⟩ : ByteArray)) ++ (⟨#[48, 48, 48, 48, 48, 49, 49, 49]⟩ : ByteArray))] (by rfl) rfl rfl (by (try simp only [List.map_toArray, List.map_cons, List.map_nil]); first | done | rfl | (simp only [List.length_drop, List.length_take]; rfl)) ?_
      with_reducible refine (plaitingref2_Wrap.calls k (((⟨#[49, 49, 48, 48, 48, 48, 48, 48, 48, 48, 48, 48, 48, 48, 48, 49, 48, 49, 48, 48, 48, 49, 49, 48]⟩ : ByteArray) ++ (⟨#[49, 48]⟩ : ByteArray)) ++ (⟨#[48, 48, 48, 48, 48, 49, 49, 49]⟩ : ByteArray)) t24106 _ A6.out).mono ?_
      rintro e w' ⟨rfl, ⟨nd, rfl⟩⟩
      refine ⟨_, rfl, ?_⟩
      refine hK.out _ _ ⟨(blk_cell BK24105.out 0).trans rfl, (blk_cell BK24105.out 1).trans rfl, (blk_cell BK24105.out 2).trans rfl, (blk_cell BK24105.out 3).trans rfl, (blk_cell BK24105.out 4).trans rfl, (blk_cell BK24105.out 5).trans rfl⟩ (fun hHeld => ?_)
      clear hK K
      refine norm_ (a' := ?_) ?_ ?_
      rotate_left
      · show Act.put _ (some 21) _ = _
        simp only [Act.put, List.setIfInBounds_toArray, List.set_cons_zero, List.set_cons_succ, i64_w, i32_w]
        rfl
      refine two_ (i := 5) (j := 9) (Ni := some 22) (Nj := some 5) #[true, true, true, true, true, true, false, false, false, false, false, false] #[true, true, true, true, true, false, false, false, false, true, false, false] rfl rfl rfl rfl (two_of HT_.out (by kernel_rfl)) (by decide) (by decide) (fun K hK => ?_) (fun K hK => ?_)
      · skip
        refine goes_ Try.func35 (by kernel_rfl) rfl #[.agg #[.int .i64 6, .int .i64 4, .int .i64 0, .int .i64 0, .int .i64 0, .slice Ao23 y24102.length co23], .string t24106] (by rfl) rfl rfl (by (try simp only [List.map_toArray, List.map_cons, List.map_nil]); first | done | rfl | (simp only [List.length_drop, List.length_take]; rfl)) ?_
        with_reducible refine (frame_Read.calls 6 4 0 0 0 _ _ y24102 t24106 t24107 t24108 t24109 t24110 t24111 t24112 t24115 _ ?side1 ?side2 A7.out).mono ?_
        (case side1 => repeat (first | exact (Kd.R_reads' HO24104.out).2.2 | (with_reducible refine Kd.C_alloc ?_ _) | (with_reducible refine Kd.C_drewN ?_ _) | (with_reducible refine Kd.C_drew ?_)))
        (case side2 => exact (Kd.R_reads' HO24104.out).2.1)
        rintro e w28 ⟨v24113, rfl, ho0, hb⟩
        refine ⟨_, rfl, ?_⟩
        have HO24114 := Aside0.mk (Kd.R_lower ho0 (below_size (pH_ HB.out)))
        replace HO24104 := Aside0.mk (Kd.R_below (pR_ HO24104.out) hb)
        replace BK24105 := Aside0.mk (blk_below (pB_ BK24105.out) hb)
        replace HB := Aside0.mk (below_step (pH_ HB.out) hb)
        (try clear hb)
        (try clear hb2)
        (try clear hk)
        (try clear hi)
        (try clear ho0)
        refine hK.out _ _ ⟨(blk_cell BK24105.out 0).trans rfl, (blk_cell BK24105.out 1).trans rfl, (blk_cell BK24105.out 2).trans rfl, (blk_cell BK24105.out 3).trans rfl, (blk_cell BK24105.out 4).trans rfl, (blk_cell BK24105.out 5).trans rfl⟩ (fun hHeld => ?_)
        clear hK K
        refine norm_ (a' := ?_) ?_ ?_
        rotate_left
        · show Act.put _ (some 22) _ = _
          simp only [Act.put, List.setIfInBounds_toArray, List.set_cons_zero, List.set_cons_succ, i64_w, i32_w]
          rfl
        refine pure_ (i := 6) (N := some 16) (v := ?_) (a' := ?_) #[true, true, true, true, true, true, true, false, false, false, false, false] rfl rfl (any_of HT_.out (by kernel_rfl)) (fun _ _ _ h => h) (Or.inl ⟨by rfl, ?_⟩) ?_ ?_
        rotate_left
        · intro w'
          go_simp
          first | with_reducible rfl | (rw [if_neg (by decide)])
        rotate_left
        · simp only [Act.put, List.setIfInBounds_toArray, List.set_cons_zero, List.set_cons_succ, i64_w, i32_w]
          rfl
        refine pure_ (i := 7) (N := some 23) (v := ?_) (a' := ?_) #[true, true, true, true, true, true, true, true, false, false, false, false] rfl rfl (any_of HT_.out (by kernel_rfl)) (fun _ _ _ h => h) (Or.inl ⟨by rfl, ?_⟩) ?_ ?_
        rotate_left
        · intro w'
          go_simp
          first | with_reducible rfl | (rw [if_neg (by decide)])
        rotate_left
        · simp only [Act.put, List.setIfInBounds_toArray, List.set_cons_zero, List.set_cons_succ, i64_w, i32_w]
          rfl
        refine pure_ (i := 8) (N := some 24) (v := ?_) (a' := ?_) #[true, true, true, true, true, true, true, true, true, false, false, false] rfl rfl (any_of HT_.out (by kernel_rfl)) (fun _ _ _ h => h) (Or.inl ⟨by rfl, ?_⟩) ?_ ?_
        rotate_left
        · intro w'
          go_simp
          first | with_reducible rfl | (rw [if_neg (by decide)])
        rotate_left
        · simp only [Act.put, List.setIfInBounds_toArray, List.set_cons_zero, List.set_cons_succ, i64_w, i32_w]
          rfl
        refine one_ (i := 9) (N := some 5) #[true, true, true, true, true, true, true, true, true, true, false, false] rfl rfl (one_of HT_.out (by kernel_rfl)) (by decide) (fun K hK => ?_)
        refine box_step ?hg (N := 5) ?hd (cs := #[.int .i64 0, .int .i64 0, .int .i64 0, .int .i64 0, .int .i64 0, .slice none 0 0]) (t := 29) ?hr ?_; (case hd => rfl); (case hg => rfl); (case hr => first | (go_simp; done) | (go_simp; rfl))
        intro gb24116 hg w29 hbox hb
        have BK24116 := Aside0.mk (hbox)
        have GW24116 := Aside0.mk ((by rw [hg]; exact (below_size (pH_ HB.out)) : w.heap.size ≤ gb24116))
        have GE24116 := Aside0.mk ((by rw [hg]; exact (below_size (pH_ HB.out)) : w.heap.size ≤ gb24116))
        have NB24105_24116 := Aside0.mk (ltB_ hg BK24105.out)
        have NB24116_24105 := Aside0.mk (ltB_ hg BK24105.out).symm
        replace HO24104 := Aside0.mk (Kd.R_below (pR_ HO24104.out) hb)
        replace HO24114 := Aside0.mk (Kd.R_below (pR_ HO24114.out) hb)
        replace BK24105 := Aside0.mk (blk_below (pB_ BK24105.out) hb)
        replace HB := Aside0.mk (below_step (pH_ HB.out) hb)
        clear hb hbox hg
        refine hK.out _ _ ⟨(blk_cell BK24105.out 0).trans rfl, (blk_cell BK24105.out 1).trans rfl, (blk_cell BK24105.out 2).trans rfl, (blk_cell BK24105.out 3).trans rfl, (blk_cell BK24105.out 4).trans rfl, (blk_cell BK24105.out 5).trans rfl⟩ (fun hHeld => ?_)
        clear hK K
        refine norm_ (a' := ?_) ?_ ?_
        rotate_left
        · show Act.put _ (some 5) _ = _
          simp only [Act.put, List.setIfInBounds_toArray, List.set_cons_zero, List.set_cons_succ, i64_w, i32_w]
          rfl
        exact norm_ (by simp only [putAll, Act.put, List.setIfInBounds_toArray, List.set_cons_zero, List.set_cons_succ]) (hCont (v24113, gb24116) _ ⟨hHeld, (pR_ HO24104.out), (pR_ HO24114.out), (pB_ BK24105.out), (pB_ BK24116.out), GW24116.out, GE24116.out, NB24105_24116.out, NB24116_24105.out, (pH_ HB.out)⟩)
      skip
      refine box_step ?hg (N := 5) ?hd (cs := #[.int .i64 0, .int .i64 0, .int .i64 0, .int .i64 0, .int .i64 0, .slice none 0 0]) (t := 29) ?hr ?_; (case hd => rfl); (case hg => rfl); (case hr => first | (go_simp; done) | (go_simp; rfl))
      intro gb24116 hg w28 hbox hb
      have BK24116 := Aside0.mk (hbox)
      have GW24116 := Aside0.mk ((by rw [hg]; exact (below_size (pH_ HB.out)) : w.heap.size ≤ gb24116))
      have GE24116 := Aside0.mk ((by rw [hg]; exact (below_size (pH_ HB.out)) : w.heap.size ≤ gb24116))
      have NB24105_24116 := Aside0.mk (ltB_ hg BK24105.out)
      have NB24116_24105 := Aside0.mk (ltB_ hg BK24105.out).symm
      replace HO24104 := Aside0.mk (Kd.R_below (pR_ HO24104.out) hb)
      replace BK24105 := Aside0.mk (blk_below (pB_ BK24105.out) hb)
      replace HB := Aside0.mk (below_step (pH_ HB.out) hb)
      clear hb hbox hg
      refine hK.out _ _ ⟨(blk_cell BK24105.out 0).trans rfl, (blk_cell BK24105.out 1).trans rfl, (blk_cell BK24105.out 2).trans rfl, (blk_cell BK24105.out 3).trans rfl, (blk_cell BK24105.out 4).trans rfl, (blk_cell BK24105.out 5).trans rfl⟩ (fun hHeld => ?_)
      clear hK K
      refine norm_ (a' := ?_) ?_ ?_
      rotate_left
      · show Act.put _ (some 5) _ = _
        simp only [Act.put, List.setIfInBounds_toArray, List.set_cons_zero, List.set_cons_succ, i64_w, i32_w]
        rfl
      refine one_ (i := 5) (N := some 22) #[true, true, true, true, true, true, false, false, false, true, false, false] rfl rfl (one_of HT_.out (by kernel_rfl)) (by decide) (fun K hK => ?_)
      refine goes_ Try.func35 (by kernel_rfl) rfl #[.agg #[.int .i64 6, .int .i64 4, .int .i64 0, .int .i64 0, .int .i64 0, .slice Ao23 y24102.length co23], .string t24106] (by rfl) rfl rfl (by (try simp only [List.map_toArray, List.map_cons, List.map_nil]); first | done | rfl | (simp only [List.length_drop, List.length_take]; rfl)) ?_
      with_reducible refine (frame_Read.calls 6 4 0 0 0 _ _ y24102 t24106 t24107 t24108 t24109 t24110 t24111 t24112 t24115 _ ?side1 ?side2 A7.out).mono ?_
      (case side1 => repeat (first | exact (Kd.R_reads' HO24104.out).2.2 | (with_reducible refine Kd.C_alloc ?_ _) | (with_reducible refine Kd.C_drewN ?_ _) | (with_reducible refine Kd.C_drew ?_)))
      (case side2 => exact (Kd.R_reads' HO24104.out).2.1)
      rintro e w29 ⟨v24113, rfl, ho0, hb⟩
      refine ⟨_, rfl, ?_⟩
      have HO24114 := Aside0.mk (Kd.R_lower ho0 (below_size (pH_ HB.out)))
      replace HO24104 := Aside0.mk (Kd.R_below (pR_ HO24104.out) hb)
      replace BK24105 := Aside0.mk (blk_below (pB_ BK24105.out) hb)
      replace BK24116 := Aside0.mk (blk_below (pB_ BK24116.out) hb)
      replace HB := Aside0.mk (below_step (pH_ HB.out) hb)
      (try clear hb)
      (try clear hb2)
      (try clear hk)
      (try clear hi)
      (try clear ho0)
      refine hK.out _ _ ⟨(blk_cell BK24105.out 0).trans rfl, (blk_cell BK24105.out 1).trans rfl, (blk_cell BK24105.out 2).trans rfl, (blk_cell BK24105.out 3).trans rfl, (blk_cell BK24105.out 4).trans rfl, (blk_cell BK24105.out 5).trans rfl⟩ (fun hHeld => ?_)
      clear hK K
      refine norm_ (a' := ?_) ?_ ?_
      rotate_left
      · show Act.put _ (some 22) _ = _
        simp only [Act.put, List.setIfInBounds_toArray, List.set_cons_zero, List.set_cons_succ, i64_w, i32_w]
        rfl
      refine pure_ (i := 6) (N := some 16) (v := ?_) (a' := ?_) #[true, true, true, true, true, true, true, false, false, true, false, false] rfl rfl (any_of HT_.out (by kernel_rfl)) (fun _ _ _ h => h) (Or.inl ⟨by rfl, ?_⟩) ?_ ?_
      rotate_left
      · intro w'
        go_simp
        first | with_reducible rfl | (rw [if_neg (by decide)])
      rotate_left
      · simp only [Act.put, List.setIfInBounds_toArray, List.set_cons_zero, List.set_cons_succ, i64_w, i32_w]
        rfl
      refine pure_ (i := 7) (N := some 23) (v := ?_) (a' := ?_) #[true, true, true, true, true, true, true, true, false, true, false, false] rfl rfl (any_of HT_.out (by kernel_rfl)) (fun _ _ _ h => h) (Or.inl ⟨by rfl, ?_⟩) ?_ ?_
      rotate_left
      · intro w'
        go_simp
        first | with_reducible rfl | (rw [if_neg (by decide)])
      rotate_left
      · simp only [Act.put, List.setIfInBounds_toArray, List.set_cons_zero, List.set_cons_succ, i64_w, i32_w]
        rfl
      refine pure_ (i := 8) (N := some 24) (v := ?_) (a' := ?_) #[true, true, true, true, true, true, true, true, true, true, false, false] rfl rfl (any_of HT_.out (by kernel_rfl)) (fun _ _ _ h => h) (Or.inl ⟨by rfl, ?_⟩) ?_ ?_
      rotate_left
      · intro w'
        go_simp
        first | with_reducible rfl | (rw [if_neg (by decide)])
      rotate_left
      · simp only [Act.put, List.setIfInBounds_toArray, List.set_cons_zero, List.set_cons_succ, i64_w, i32_w]
        rfl
      exact norm_ (by simp only [putAll, Act.put, List.setIfInBounds_toArray, List.set_cons_zero, List.set_cons_succ]) (hCont (v24113, gb24116) _ ⟨hHeld, (pR_ HO24104.out), (pR_ HO24114.out), (pB_ BK24105.out), (pB_ BK24116.out), GW24116.out, GE24116.out, NB24105_24116.out, NB24116_24105.out, (pH_ HB.out)⟩)
    skip
    refine box_step ?hg (N := 5) ?hd (cs := #[.int .i64 0, .int .i64 0, .int .i64 0, .int .i64 0, .int .i64 0, .slice none 0 0]) (t := 29) ?hr ?_; (case hd => rfl); (case hg => rfl); (case hr => first | (go_simp; done) | (go_simp; rfl))
    intro gb24116 hg w28 hbox hb
    have BK24116 := Aside0.mk (hbox)
    have GW24116 := Aside0.mk ((by rw [hg]; exact (below_size (pH_ HB.out)) : w.heap.size ≤ gb24116))
    have GE24116 := Aside0.mk ((by rw [hg]; exact (below_size (pH_ HB.out)) : w.heap.size ≤ gb24116))
    have NB24105_24116 := Aside0.mk (ltB_ hg BK24105.out)
    have NB24116_24105 := Aside0.mk (ltB_ hg BK24105.out).symm
    replace HO24104 := Aside0.mk (Kd.R_below (pR_ HO24104.out) hb)
    replace BK24105 := Aside0.mk (blk_below (pB_ BK24105.out) hb)
    replace HB := Aside0.mk (below_step (pH_ HB.out) hb)
    clear hb hbox hg
    refine hK.out _ _ ⟨(blk_cell BK24105.out 0).trans rfl, (blk_cell BK24105.out 1).trans rfl, (blk_cell BK24105.out 2).trans rfl, (blk_cell BK24105.out 3).trans rfl, (blk_cell BK24105.out 4).trans rfl, (blk_cell BK24105.out 5).trans rfl⟩ (fun hHeld => ?_)
    clear hK K
    refine norm_ (a' := ?_) ?_ ?_
    rotate_left
    · show Act.put _ (some 5) _ = _
      simp only [Act.put, List.setIfInBounds_toArray, List.set_cons_zero, List.set_cons_succ, i64_w, i32_w]
      rfl
    refine one_ (i := 4) (N := some 21) #[true, true, true, true, true, false, false, false, false, true, false, false] rfl rfl (one_of HT_.out (by kernel_rfl)) (by decide) (fun K hK => ?_)
    refine goes_ Try.func34 (by kernel_rfl) rfl #[.string (((⟨#[49, 49, 48, 48, 48, 48, 48, 48, 48, 48, 48, 48, 48, 48, 48, 49, 48, 49, 48, 48, 48, 49, 49, 48]⟩ : ByteArray) ++ (⟨#[49, 48]⟩ : ByteArray)) ++ (⟨#[48, 48, 48, 48, 48, 49, 49, 49]⟩ : ByteArray))] (by rfl) rfl rfl (by (try simp only [List.map_toArray, List.map_cons, List.map_nil]); first | done | rfl | (simp only [List.length_drop, List.length_take]; rfl)) ?_
    with_reducible refine (plaitingref2_Wrap.calls k (((⟨#[49, 49, 48, 48, 48, 48, 48, 48, 48, 48, 48, 48, 48, 48, 48, 49, 48, 49, 48, 48, 48, 49, 49, 48]⟩ : ByteArray) ++ (⟨#[49, 48]⟩ : ByteArray)) ++ (⟨#[48, 48, 48, 48, 48, 49, 49, 49]⟩ : ByteArray)) t24106 _ A6.out).mono ?_
    rintro e w' ⟨rfl, ⟨nd, rfl⟩⟩
    refine ⟨_, rfl, ?_⟩
    refine hK.out _ _ ⟨(blk_cell BK24105.out 0).trans rfl, (blk_cell BK24105.out 1).trans rfl, (blk_cell BK24105.out 2).trans rfl, (blk_cell BK24105.out 3).trans rfl, (blk_cell BK24105.out 4).trans rfl, (blk_cell BK24105.out 5).trans rfl⟩ (fun hHeld => ?_)
    clear hK K
    refine norm_ (a' := ?_) ?_ ?_
    rotate_left
    · show Act.put _ (some 21) _ = _
      simp only [Act.put, List.setIfInBounds_toArray, List.set_cons_zero, List.set_cons_succ, i64_w, i32_w]
      rfl
    refine one_ (i := 5) (N := some 22) #[true, true, true, true, true, true, false, false, false, true, false, false] rfl rfl (one_of HT_.out (by kernel_rfl)) (by decide) (fun K hK => ?_)
    refine goes_ Try.func35 (by kernel_rfl) rfl #[.agg #[.int .i64 6, .int .i64 4, .int .i64 0, .int .i64 0, .int .i64 0, .slice Ao23 y24102.length co23], .string t24106] (by rfl) rfl rfl (by (try simp only [List.map_toArray, List.map_cons, List.map_nil]); first | done | rfl | (simp only [List.length_drop, List.length_take]; rfl)) ?_
    with_reducible refine (frame_Read.calls 6 4 0 0 0 _ _ y24102 t24106 t24107 t24108 t24109 t24110 t24111 t24112 t24115 _ ?side1 ?side2 A7.out).mono ?_
    (case side1 => repeat (first | exact (Kd.R_reads' HO24104.out).2.2 | (with_reducible refine Kd.C_alloc ?_ _) | (with_reducible refine Kd.C_drewN ?_ _) | (with_reducible refine Kd.C_drew ?_)))
    (case side2 => exact (Kd.R_reads' HO24104.out).2.1)
    rintro e w29 ⟨v24113, rfl, ho0, hb⟩
    refine ⟨_, rfl, ?_⟩
    have HO24114 := Aside0.mk (Kd.R_lower ho0 (below_size (pH_ HB.out)))
    replace HO24104 := Aside0.mk (Kd.R_below (pR_ HO24104.out) hb)
    replace BK24105 := Aside0.mk (blk_below (pB_ BK24105.out) hb)
    replace BK24116 := Aside0.mk (blk_below (pB_ BK24116.out) hb)
    replace HB := Aside0.mk (below_step (pH_ HB.out) hb)
    (try clear hb)
    (try clear hb2)
    (try clear hk)
    (try clear hi)
    (try clear ho0)
    refine hK.out _ _ ⟨(blk_cell BK24105.out 0).trans rfl, (blk_cell BK24105.out 1).trans rfl, (blk_cell BK24105.out 2).trans rfl, (blk_cell BK24105.out 3).trans rfl, (blk_cell BK24105.out 4).trans rfl, (blk_cell BK24105.out 5).trans rfl⟩ (fun hHeld => ?_)
    clear hK K
    refine norm_ (a' := ?_) ?_ ?_
    rotate_left
    · show Act.put _ (some 22) _ = _
      simp only [Act.put, List.setIfInBounds_toArray, List.set_cons_zero, List.set_cons_succ, i64_w, i32_w]
      rfl
    refine pure_ (i := 6) (N := some 16) (v := ?_) (a' := ?_) #[true, true, true, true, true, true, true, false, false, true, false, false] rfl rfl (any_of HT_.out (by kernel_rfl)) (fun _ _ _ h => h) (Or.inl ⟨by rfl, ?_⟩) ?_ ?_
    rotate_left
    · intro w'
      go_simp
      first | with_reducible rfl | (rw [if_neg (by decide)])
    rotate_left
    · simp only [Act.put, List.setIfInBounds_toArray, List.set_cons_zero, List.set_cons_succ, i64_w, i32_w]
      rfl
    refine pure_ (i := 7) (N := some 23) (v := ?_) (a' := ?_) #[true, true, true, true, true, true, true, true, false, true, false, false] rfl rfl (any_of HT_.out (by kernel_rfl)) (fun _ _ _ h => h) (Or.inl ⟨by rfl, ?_⟩) ?_ ?_
    rotate_left
    · intro w'
      go_simp
      first | with_reducible rfl | (rw [if_neg (by decide)])
    rotate_left
    · simp only [Act.put, List.setIfInBounds_toArray, List.set_cons_zero, List.set_cons_succ, i64_w, i32_w]
      rfl
    refine pure_ (i := 8) (N := some 24) (v := ?_) (a' := ?_) #[true, true, true, true, true, true, true, true, true, true, false, false] rfl rfl (any_of HT_.out (by kernel_rfl)) (fun _ _ _ h => h) (Or.inl ⟨by rfl, ?_⟩) ?_ ?_
    rotate_left
    · intro w'
      go_simp
      first | with_reducible rfl | (rw [if_neg (by decide)])
    rotate_left
    · simp only [Act.put, List.setIfInBounds_toArray, List.set_cons_zero, List.set_cons_succ, i64_w, i32_w]
      rfl
    exact norm_ (by simp only [putAll, Act.put, List.setIfInBounds_toArray, List.set_cons_zero, List.set_cons_succ]) (hCont (v24113, gb24116) _ ⟨hHeld, (pR_ HO24104.out), (pR_ HO24114.out), (pB_ BK24105.out), (pB_ BK24116.out), GW24116.out, GE24116.out, NB24105_24116.out, NB24116_24105.out, (pH_ HB.out)⟩)
  rintro ⟨v24113, gb24116⟩ w30 ⟨hS_, h0_, h1_, h2_, h3_, h4_, h5_, h6_, h7_, h8_⟩
  have n0_ : Aside0 (Kd.R (Kd.int .i64) 3 w30 w.heap.size (fun _ => True) (.slice Ao23 y24102.length co23) y24102) := ⟨h0_⟩
  have n1_ : Aside0 (Kd.R k26 26 w30 w.heap.size (fun _ => True) v24113 t24112) := ⟨h1_⟩
  have n2_ : Aside0 (w30.heap[gb24105]? = some (.cells #[.int .i64 6, .int .i64 4, .int .i64 0, .int .i64 0, .int .i64 0, .slice Ao23 y24102.length co23] 24 (0, 0))) := ⟨h2_⟩
  have n3_ : Aside0 (w30.heap[gb24116]? = some (.cells #[.int .i64 0, .int .i64 0, .int .i64 0, .int .i64 0, .int .i64 0, .slice none 0 0] 29 (0, 0))) := ⟨h3_⟩
  have n4_ : Aside0 (w.heap.size ≤ gb24116) := ⟨h4_⟩
  have n5_ : Aside0 (w.heap.size ≤ gb24116) := ⟨h5_⟩
  have n6_ : Aside0 (gb24105 ≠ gb24116) := ⟨h6_⟩
  have n7_ : Aside0 (gb24116 ≠ gb24105) := ⟨h7_⟩
  have n8_ : Aside0 (Below w.heap.size w w30) := ⟨h8_⟩
  clear HO24104
  clear BK24105
  clear HB
  clear h0_ h1_ h2_ h3_ h4_ h5_ h6_ h7_ h8_
  have HO24104 := n0_
  have HO24114 := n1_
  have BK24105 := n2_
  have BK24116 := n3_
  have GW24116 := n4_
  have GE24116 := n5_
  have NB24105_24116 := n6_
  have NB24116_24105 := n7_
  have HB := n8_
  clear n0_ n1_ n2_ n3_ n4_ n5_ n6_ n7_ n8_
  have hHeld : w30.cell? ⟨gb24105, 0, none⟩ = some (.int .i64 6) ∧ w30.cell? ⟨gb24105, 1, none⟩ = some (.int .i64 4) ∧ w30.cell? ⟨gb24105, 2, none⟩ = some (.int .i64 0) ∧ w30.cell? ⟨gb24105, 3, none⟩ = some (.int .i64 0) ∧ w30.cell? ⟨gb24105, 4, none⟩ = some (.int .i64 0) ∧ w30.cell? ⟨gb24105, 5, none⟩ = some (.slice Ao23 y24102.length co23) := hS_
  obtain ⟨Ao36, co36, eo36⟩ := Kd.R_slice HO24114.out
  (first | subst eo36 | (injection eo36 with f1_ f2_ f3_; have f4_ := f1_.symm; have f5_ := f3_.symm; clear f1_ f2_ f3_; subst f4_; subst f5_))
  refine norm_ (a' := ?_) ?_ ?_
  rotate_left
  · simp only [putAll, Act.put, List.setIfInBounds_toArray, List.set_cons_zero, List.set_cons_succ]
    rfl
  refine one_ (i := 10) (N := none) #[true, true, true, true, true, true, true, true, true, true, true, false] rfl rfl (one_of HT_.out (by kernel_rfl)) (by decide) (fun K hK => ?_)
  have hs31 : w30.cell? ⟨gb24116, 0, none⟩ = some (.int .i64 0) := (blk_cell BK24116.out 0).trans rfl
  have hfs31 := blk_frozen BK24116.out 0
  have hns31_0 := NB24105_24116.out
  have hms31_0 := NB24116_24105.out
  have hs32 : w30.cell? ⟨gb24116, 1, none⟩ = some (.int .i64 0) := (blk_cell BK24116.out 1).trans rfl
  have hfs32 := blk_frozen BK24116.out 1
  have hns32_0 := NB24105_24116.out
  have hms32_0 := NB24116_24105.out
  have hs33 : w30.cell? ⟨gb24116, 2, none⟩ = some (.int .i64 0) := (blk_cell BK24116.out 2).trans rfl
  have hfs33 := blk_frozen BK24116.out 2
  have hns33_0 := NB24105_24116.out
  have hms33_0 := NB24116_24105.out
  have hs34 : w30.cell? ⟨gb24116, 3, none⟩ = some (.int .i64 0) := (blk_cell BK24116.out 3).trans rfl
  have hfs34 := blk_frozen BK24116.out 3
  have hns34_0 := NB24105_24116.out
  have hms34_0 := NB24116_24105.out
  have hs35 : w30.cell? ⟨gb24116, 4, none⟩ = some (.int .i64 0) := (blk_cell BK24116.out 4).trans rfl
  have hfs35 := blk_frozen BK24116.out 4
  have hns35_0 := NB24105_24116.out
  have hms35_0 := NB24116_24105.out
  have hs37 : w30.cell? ⟨gb24116, 5, none⟩ = some (.slice none 0 0) := (blk_cell BK24116.out 5).trans rfl
  have hfs37 := blk_frozen BK24116.out 5
  have hns37_0 := NB24105_24116.out
  have hms37_0 := NB24116_24105.out
  refine skip_ (w1 := ?_) (by rfl) rfl ?_ ?_
  rotate_left
  · go_simp
    rfl
  refine hK.out _ _ ⟨((cell_far (p := ⟨gb24116, _, none⟩) NB24105_24116.out _).trans (((cell_far (p := ⟨gb24116, _, none⟩) NB24105_24116.out _).trans (((cell_far (p := ⟨gb24116, _, none⟩) NB24105_24116.out _).trans (((cell_far (p := ⟨gb24116, _, none⟩) NB24105_24116.out _).trans (((cell_far (p := ⟨gb24116, _, none⟩) NB24105_24116.out _).trans (((cell_far (p := ⟨gb24116, _, none⟩) NB24105_24116.out _).trans (hHeld.1)))))))))))), ((cell_far (p := ⟨gb24116, _, none⟩) NB24105_24116.out _).trans (((cell_far (p := ⟨gb24116, _, none⟩) NB24105_24116.out _).trans (((cell_far (p := ⟨gb24116, _, none⟩) NB24105_24116.out _).trans (((cell_far (p := ⟨gb24116, _, none⟩) NB24105_24116.out _).trans (((cell_far (p := ⟨gb24116, _, none⟩) NB24105_24116.out _).trans (((cell_far (p := ⟨gb24116, _, none⟩) NB24105_24116.out _).trans (hHeld.2.1)))))))))))), ((cell_far (p := ⟨gb24116, _, none⟩) NB24105_24116.out _).trans (((cell_far (p := ⟨gb24116, _, none⟩) NB24105_24116.out _).trans (((cell_far (p := ⟨gb24116, _, none⟩) NB24105_24116.out _).trans (((cell_far (p := ⟨gb24116, _, none⟩) NB24105_24116.out _).trans (((cell_far (p := ⟨gb24116, _, none⟩) NB24105_24116.out _).trans (((cell_far (p := ⟨gb24116, _, none⟩) NB24105_24116.out _).trans (hHeld.2.2.1)))))))))))), ((cell_far (p := ⟨gb24116, _, none⟩) NB24105_24116.out _).trans (((cell_far (p := ⟨gb24116, _, none⟩) NB24105_24116.out _).trans (((cell_far (p := ⟨gb24116, _, none⟩) NB24105_24116.out _).trans (((cell_far (p := ⟨gb24116, _, none⟩) NB24105_24116.out _).trans (((cell_far (p := ⟨gb24116, _, none⟩) NB24105_24116.out _).trans (((cell_far (p := ⟨gb24116, _, none⟩) NB24105_24116.out _).trans (hHeld.2.2.2.1)))))))))))), ((cell_far (p := ⟨gb24116, _, none⟩) NB24105_24116.out _).trans (((cell_far (p := ⟨gb24116, _, none⟩) NB24105_24116.out _).trans (((cell_far (p := ⟨gb24116, _, none⟩) NB24105_24116.out _).trans (((cell_far (p := ⟨gb24116, _, none⟩) NB24105_24116.out _).trans (((cell_far (p := ⟨gb24116, _, none⟩) NB24105_24116.out _).trans (((cell_far (p := ⟨gb24116, _, none⟩) NB24105_24116.out _).trans (hHeld.2.2.2.2.1)))))))))))), ((cell_far (p := ⟨gb24116, _, none⟩) NB24105_24116.out _).trans (((cell_far (p := ⟨gb24116, _, none⟩) NB24105_24116.out _).trans (((cell_far (p := ⟨gb24116, _, none⟩) NB24105_24116.out _).trans (((cell_far (p := ⟨gb24116, _, none⟩) NB24105_24116.out _).trans (((cell_far (p := ⟨gb24116, _, none⟩) NB24105_24116.out _).trans (((cell_far (p := ⟨gb24116, _, none⟩) NB24105_24116.out _).trans (hHeld.2.2.2.2.2))))))))))))⟩ (fun hHeld => ?_)
  clear hK K
  refine pure_ (i := 11) (N := some 6) (v := ?_) (a' := ?_) #[true, true, true, true, true, true, true, true, true, true, true, true] rfl rfl (any_of HT_.out (by kernel_rfl)) (fun _ _ _ h => h) (Or.inl ⟨by rfl, ?_⟩) ?_ ?_
  rotate_left
  · intro w'
    go_simp
    first | with_reducible rfl | (rw [if_neg (by decide)])
  rotate_left
  · simp only [Act.put, List.setIfInBounds_toArray, List.set_cons_zero, List.set_cons_succ, i64_w, i32_w]
    rfl
  refine done_ (done_of HT_.out (by kernel_rfl)) ?_
  try go_wp2_with (first | ((with_reducible refine gate_dst (N := 35) rfl ?_); refine Kd.R_lit Kd.string _ 9 ?hg (N := 35) ?hd (xs := ([(⟨#[48, 48, 48, 48, 48, 48, 48, 48, 48, 48, 48, 48, 48, 48, 48, 49, 48, 49, 48, 48, 48, 49, 49, 48, 48, 48, 48, 48, 48, 48, 48, 48, 48, 48]⟩ : ByteArray), (⟨#[49, 49, 48, 48, 48, 48, 48, 48, 48, 48, 48, 48, 48, 48, 48, 49, 48, 49, 48, 48, 48, 49, 49, 48]⟩ : ByteArray) ++ (⟨#[49, 49, 48, 48, 48, 48, 48, 48, 48, 48]⟩ : ByteArray), (⟨#[49, 49, 48, 48, 48, 48, 48, 48, 48, 48, 48, 48, 48, 48, 48, 49, 48, 49, 48, 48, 48, 49, 49, 48]⟩ : ByteArray) ++ (⟨#[48, 48, 48, 48, 48, 48, 48, 48, 48, 48]⟩ : ByteArray), (⟨#[49, 49, 48, 48, 48, 48, 48, 48, 48, 48, 48, 48, 48, 48, 48, 49, 48, 49, 48, 48, 48, 49, 49, 48]⟩ : ByteArray) ++ (⟨#[48, 49, 48, 48, 48, 48, 48, 48, 48, 49]⟩ : ByteArray), (⟨#[49, 49, 48, 48, 48, 48, 48, 48, 48, 48, 48, 48, 48, 48, 48, 49, 48, 49, 48, 48, 48, 49, 49, 48]⟩ : ByteArray) ++ (⟨#[49, 48, 48, 48, 48, 48, 48, 49, 49, 49, 48]⟩ : ByteArray), (⟨#[49, 49, 48, 48, 48, 48, 48, 48, 48, 48, 48, 48, 48, 48, 48, 49, 48, 49, 48, 48, 48, 49, 49, 48]⟩ : ByteArray) ++ (⟨#[49, 48, 48, 48, 48, 48, 48, 49, 49]⟩ : ByteArray), (⟨#[48, 49, 48, 48, 48, 48, 48, 48, 48, 48, 48, 48, 48, 48, 48, 49, 48, 49, 48, 48, 48, 49, 49, 48, 48, 48, 48, 48, 48, 48, 48, 48, 48, 48]⟩ : ByteArray), (⟨#[49, 49, 48, 48, 48, 48, 48, 48, 48, 48, 48, 48, 48, 48, 48, 49, 48, 49, 48, 48, 48, 49, 49, 49, 49, 48, 48, 48, 48, 48, 48, 49, 49, 49]⟩ : ByteArray), (⟨#[48, 49, 48, 48, 48, 48, 48, 48, 48, 48, 48, 48, 48, 48, 48, 49, 48, 49, 48, 48, 48, 48, 48, 49, 48, 48, 48, 48, 48, 48, 48, 48, 48, 48]⟩ : ByteArray), (⟨#[49, 49, 48, 48, 48, 48, 48, 48, 48, 48, 48, 48, 48, 48, 48, 49, 48, 49, 48, 48, 48, 48, 48, 49, 49, 48, 48, 48, 48, 48, 48, 49, 49, 49]⟩ : ByteArray)] : List ByteArray)) (inner := [.string (⟨#[48, 48, 48, 48, 48, 48, 48, 48, 48, 48, 48, 48, 48, 48, 48, 49, 48, 49, 48, 48, 48, 49, 49, 48, 48, 48, 48, 48, 48, 48, 48, 48, 48, 48]⟩ : ByteArray), .string ((⟨#[49, 49, 48, 48, 48, 48, 48, 48, 48, 48, 48, 48, 48, 48, 48, 49, 48, 49, 48, 48, 48, 49, 49, 48]⟩ : ByteArray) ++ (⟨#[49, 49, 48, 48, 48, 48, 48, 48, 48, 48]⟩ : ByteArray)), .string ((⟨#[49, 49, 48, 48, 48, 48, 48, 48, 48, 48, 48, 48, 48, 48, 48, 49, 48, 49, 48, 48, 48, 49, 49, 48]⟩ : ByteArray) ++ (⟨#[48, 48, 48, 48, 48, 48, 48, 48, 48, 48]⟩ : ByteArray)), .string ((⟨#[49, 49, 48, 48, 48, 48, 48, 48, 48, 48, 48, 48, 48, 48, 48, 49, 48, 49, 48, 48, 48, 49, 49, 48]⟩ : ByteArray) ++ (⟨#[48, 49, 48, 48, 48, 48, 48, 48, 48, 49]⟩ : ByteArray)), .string ((⟨#[49, 49, 48, 48, 48, 48, 48, 48, 48, 48, 48, 48, 48, 48, 48, 49, 48, 49, 48, 48, 48, 49, 49, 48]⟩ : ByteArray) ++ (⟨#[49, 48, 48, 48, 48, 48, 48, 49, 49, 49, 48]⟩ : ByteArray)), .string ((⟨#[49, 49, 48, 48, 48, 48, 48, 48, 48, 48, 48, 48, 48, 48, 48, 49, 48, 49, 48, 48, 48, 49, 49, 48]⟩ : ByteArray) ++ (⟨#[49, 48, 48, 48, 48, 48, 48, 49, 49]⟩ : ByteArray)), .string (⟨#[48, 49, 48, 48, 48, 48, 48, 48, 48, 48, 48, 48, 48, 48, 48, 49, 48, 49, 48, 48, 48, 49, 49, 48, 48, 48, 48, 48, 48, 48, 48, 48, 48, 48]⟩ : ByteArray), .string (⟨#[49, 49, 48, 48, 48, 48, 48, 48, 48, 48, 48, 48, 48, 48, 48, 49, 48, 49, 48, 48, 48, 49, 49, 49, 49, 48, 48, 48, 48, 48, 48, 49, 49, 49]⟩ : ByteArray), .string (⟨#[48, 49, 48, 48, 48, 48, 48, 48, 48, 48, 48, 48, 48, 48, 48, 49, 48, 49, 48, 48, 48, 48, 48, 49, 48, 48, 48, 48, 48, 48, 48, 48, 48, 48]⟩ : ByteArray), .string (⟨#[49, 49, 48, 48, 48, 48, 48, 48, 48, 48, 48, 48, 48, 48, 48, 49, 48, 49, 48, 48, 48, 48, 48, 49, 49, 48, 48, 48, 48, 48, 48, 49, 49, 49]⟩ : ByteArray)]) (ok := fun _ => True) (okp := fun _ => True) ?hr ?hp (fun _ hk => hk) trivial (Below.refl _ _) (Nat.le_refl _) (by simp) ?_; (case hd => rfl); (case hg => rfl); (case hr => first | (go_simp; done) | (go_simp; rfl)); (case hp => exact (Reps.one (show Kd.M Kd.string _ _ _ (⟨#[48, 48, 48, 48, 48, 48, 48, 48, 48, 48, 48, 48, 48, 48, 48, 49, 48, 49, 48, 48, 48, 49, 49, 48, 48, 48, 48, 48, 48, 48, 48, 48, 48, 48]⟩ : ByteArray) [.string (⟨#[48, 48, 48, 48, 48, 48, 48, 48, 48, 48, 48, 48, 48, 48, 48, 49, 48, 49, 48, 48, 48, 49, 49, 48, 48, 48, 48, 48, 48, 48, 48, 48, 48, 48]⟩ : ByteArray)] from rfl) (Reps.one (show Kd.M Kd.string _ _ _ ((⟨#[49, 49, 48, 48, 48, 48, 48, 48, 48, 48, 48, 48, 48, 48, 48, 49, 48, 49, 48, 48, 48, 49, 49, 48]⟩ : ByteArray) ++ (⟨#[49, 49, 48, 48, 48, 48, 48, 48, 48, 48]⟩ : ByteArray)) [.string ((⟨#[49, 49, 48, 48, 48, 48, 48, 48, 48, 48, 48, 48, 48, 48, 48, 49, 48, 49, 48, 48, 48, 49, 49, 48]⟩ : ByteArray) ++ (⟨#[49, 49, 48, 48, 48, 48, 48, 48, 48, 48]⟩ : ByteArray))] from rfl) (Reps.one (show Kd.M Kd.string _ _ _ ((⟨#[49, 49, 48, 48, 48, 48, 48, 48, 48, 48, 48, 48, 48, 48, 48, 49, 48, 49, 48, 48, 48, 49, 49, 48]⟩ : ByteArray) ++ (⟨#[48, 48, 48, 48, 48, 48, 48, 48, 48, 48]⟩ : ByteArray)) [.string ((⟨#[49, 49, 48, 48, 48, 48, 48, 48, 48, 48, 48, 48, 48, 48, 48, 49, 48, 49, 48, 48, 48, 49, 49, 48]⟩ : ByteArray) ++ (⟨#[48, 48, 48, 48, 48, 48, 48, 48, 48, 48]⟩ : ByteArray))] from rfl) (Reps.one (show Kd.M Kd.string _ _ _ ((⟨#[49, 49, 48, 48, 48, 48, 48, 48, 48, 48, 48, 48, 48, 48, 48, 49, 48, 49, 48, 48, 48, 49, 49, 48]⟩ : ByteArray) ++ (⟨#[48, 49, 48, 48, 48, 48, 48, 48, 48, 49]⟩ : ByteArray)) [.string ((⟨#[49, 49, 48, 48, 48, 48, 48, 48, 48, 48, 48, 48, 48, 48, 48, 49, 48, 49, 48, 48, 48, 49, 49, 48]⟩ : ByteArray) ++ (⟨#[48, 49, 48, 48, 48, 48, 48, 48, 48, 49]⟩ : ByteArray))] from rfl) (Reps.one (show Kd.M Kd.string _ _ _ ((⟨#[49, 49, 48, 48, 48, 48, 48, 48, 48, 48, 48, 48, 48, 48, 48, 49, 48, 49, 48, 48, 48, 49, 49, 48]⟩ : ByteArray) ++ (⟨#[49, 48, 48, 48, 48, 48, 48, 49, 49, 49, 48]⟩ : ByteArray)) [.string ((⟨#[49, 49, 48, 48, 48, 48, 48, 48, 48, 48, 48, 48, 48, 48, 48, 49, 48, 49, 48, 48, 48, 49, 49, 48]⟩ : ByteArray) ++ (⟨#[49, 48, 48, 48, 48, 48, 48, 49, 49, 49, 48]⟩ : ByteArray))] from rfl) (Reps.one (show Kd.M Kd.string _ _ _ ((⟨#[49, 49, 48, 48, 48, 48, 48, 48, 48, 48, 48, 48, 48, 48, 48, 49, 48, 49, 48, 48, 48, 49, 49, 48]⟩ : ByteArray) ++ (⟨#[49, 48, 48, 48, 48, 48, 48, 49, 49]⟩ : ByteArray)) [.string ((⟨#[49, 49, 48, 48, 48, 48, 48, 48, 48, 48, 48, 48, 48, 48, 48, 49, 48, 49, 48, 48, 48, 49, 49, 48]⟩ : ByteArray) ++ (⟨#[49, 48, 48, 48, 48, 48, 48, 49, 49]⟩ : ByteArray))] from rfl) (Reps.one (show Kd.M Kd.string _ _ _ (⟨#[48, 49, 48, 48, 48, 48, 48, 48, 48, 48, 48, 48, 48, 48, 48, 49, 48, 49, 48, 48, 48, 49, 49, 48, 48, 48, 48, 48, 48, 48, 48, 48, 48, 48]⟩ : ByteArray) [.string (⟨#[48, 49, 48, 48, 48, 48, 48, 48, 48, 48, 48, 48, 48, 48, 48, 49, 48, 49, 48, 48, 48, 49, 49, 48, 48, 48, 48, 48, 48, 48, 48, 48, 48, 48]⟩ : ByteArray)] from rfl) (Reps.one (show Kd.M Kd.string _ _ _ (⟨#[49, 49, 48, 48, 48, 48, 48, 48, 48, 48, 48, 48, 48, 48, 48, 49, 48, 49, 48, 48, 48, 49, 49, 49, 49, 48, 48, 48, 48, 48, 48, 49, 49, 49]⟩ : ByteArray) [.string (⟨#[49, 49, 48, 48, 48, 48, 48, 48, 48, 48, 48, 48, 48, 48, 48, 49, 48, 49, 48, 48, 48, 49, 49, 49, 49, 48, 48, 48, 48, 48, 48, 49, 49, 49]⟩ : ByteArray)] from rfl) (Reps.one (show Kd.M Kd.string _ _ _ (⟨#[48, 49, 48, 48, 48, 48, 48, 48, 48, 48, 48, 48, 48, 48, 48, 49, 48, 49, 48, 48, 48, 48, 48, 49, 48, 48, 48, 48, 48, 48, 48, 48, 48, 48]⟩ : ByteArray) [.string (⟨#[48, 49, 48, 48, 48, 48, 48, 48, 48, 48, 48, 48, 48, 48, 48, 49, 48, 49, 48, 48, 48, 48, 48, 49, 48, 48, 48, 48, 48, 48, 48, 48, 48, 48]⟩ : ByteArray)] from rfl) (Reps.one (show Kd.M Kd.string _ _ _ (⟨#[49, 49, 48, 48, 48, 48, 48, 48, 48, 48, 48, 48, 48, 48, 48, 49, 48, 49, 48, 48, 48, 48, 48, 49, 49, 48, 48, 48, 48, 48, 48, 49, 49, 49]⟩ : ByteArray) [.string (⟨#[49, 49, 48, 48, 48, 48, 48, 48, 48, 48, 48, 48, 48, 48, 48, 49, 48, 49, 48, 48, 48, 48, 48, 49, 49, 48, 48, 48, 48, 48, 48, 49, 49, 49]⟩ : ByteArray)] from rfl) (Reps.none _ _)))))))))))); intro v24118 w38 ho39 hb hg_ hnew_; clear hg_ hnew_; (first | rw [← Ny24117.out] at ho39 | (simp only [Int.reduceToNat] at ho39; rw [← Ny24117.out] at ho39)); have HO24119 := Aside0.mk (Kd.R_lower ho39 (below_size (pH_ HB.out))); replace HO24104 := Aside0.mk (Kd.R_below (by (with_reducible repeat (first | apply Kd.R_alloc | apply Kd.R_drewN | apply Kd.R_drew)); exact (Kd.R_mono (Kd.R_far (p := ⟨gb24116, 5, none⟩) (Kd.R_far (p := ⟨gb24116, 4, none⟩) (Kd.R_far (p := ⟨gb24116, 3, none⟩) (Kd.R_far (p := ⟨gb24116, 2, none⟩) (Kd.R_far (p := ⟨gb24116, 1, none⟩) (Kd.R_far (p := ⟨gb24116, 0, none⟩) (Kd.R_types HO24104.out BK24116.out (by decide)) (fun _ hk => hk.2) (.int .i64 t24107)) (fun _ hk => hk.2) (.int .i64 t24108)) (fun _ hk => hk.2) (.int .i64 t24109)) (fun _ hk => hk.2) (.int .i64 t24110)) (fun _ hk => hk.2) (.int .i64 t24111)) (fun _ hk => hk.2) (.slice Ao36 t24112.length co36)) (fun _ h_ => h_.1))) hb); replace HO24114 := Aside0.mk (Kd.R_below (by (with_reducible repeat (first | apply Kd.R_alloc | apply Kd.R_drewN | apply Kd.R_drew)); exact (Kd.R_mono (Kd.R_far (p := ⟨gb24116, 5, none⟩) (Kd.R_far (p := ⟨gb24116, 4, none⟩) (Kd.R_far (p := ⟨gb24116, 3, none⟩) (Kd.R_far (p := ⟨gb24116, 2, none⟩) (Kd.R_far (p := ⟨gb24116, 1, none⟩) (Kd.R_far (p := ⟨gb24116, 0, none⟩) (Kd.R_types HO24114.out BK24116.out (by decide)) (fun _ hk => hk.2) (.int .i64 t24107)) (fun _ hk => hk.2) (.int .i64 t24108)) (fun _ hk => hk.2) (.int .i64 t24109)) (fun _ hk => hk.2) (.int .i64 t24110)) (fun _ hk => hk.2) (.int .i64 t24111)) (fun _ hk => hk.2) (.slice Ao36 t24112.length co36)) (fun _ h_ => h_.1))) hb); replace BK24105 := Aside0.mk (blk_below (g := gb24105) (o := .cells #[.int .i64 6, .int .i64 4, .int .i64 0, .int .i64 0, .int .i64 0, .slice Ao23 y24102.length co23] 24 (0, 0)) (by (with_reducible repeat (first | refine blk_drewN ?_ _ | refine blk_drew ?_ | refine blk_alloc ?_ _)); refine blk_far ?_ NB24105_24116.out _; (with_reducible repeat (first | refine blk_drewN ?_ _ | refine blk_drew ?_ | refine blk_alloc ?_ _)); refine blk_far ?_ NB24105_24116.out _; (with_reducible repeat (first | refine blk_drewN ?_ _ | refine blk_drew ?_ | refine blk_alloc ?_ _)); refine blk_far ?_ NB24105_24116.out _; (with_reducible repeat (first | refine blk_drewN ?_ _ | refine blk_drew ?_ | refine blk_alloc ?_ _)); refine blk_far ?_ NB24105_24116.out _; (with_reducible repeat (first | refine blk_drewN ?_ _ | refine blk_drew ?_ | refine blk_alloc ?_ _)); refine blk_far ?_ NB24105_24116.out _; (with_reducible repeat (first | refine blk_drewN ?_ _ | refine blk_drew ?_ | refine blk_alloc ?_ _)); refine blk_far ?_ NB24105_24116.out _; (with_reducible repeat (first | refine blk_drewN ?_ _ | refine blk_drew ?_ | refine blk_alloc ?_ _)); exact BK24105.out) hb); replace BK24116 := Aside0.mk (blk_below (g := gb24116) (o := .cells #[.int .i64 t24107, .int .i64 t24108, .int .i64 t24109, .int .i64 t24110, .int .i64 t24111, .slice Ao36 t24112.length co36] 29 (0, 0)) (by (with_reducible repeat (first | refine blk_drewN ?_ _ | refine blk_drew ?_ | refine blk_alloc ?_ _)); refine blk_put (cs := #[.int .i64 t24107, .int .i64 t24108, .int .i64 t24109, .int .i64 t24110, .int .i64 t24111, .slice none 0 0]) ?_ 5 _ rfl; (with_reducible repeat (first | refine blk_drewN ?_ _ | refine blk_drew ?_ | refine blk_alloc ?_ _)); refine blk_put (cs := #[.int .i64 t24107, .int .i64 t24108, .int .i64 t24109, .int .i64 t24110, .int .i64 0, .slice none 0 0]) ?_ 4 _ rfl; (with_reducible repeat (first | refine blk_drewN ?_ _ | refine blk_drew ?_ | refine blk_alloc ?_ _)); refine blk_put (cs := #[.int .i64 t24107, .int .i64 t24108, .int .i64 t24109, .int .i64 0, .int .i64 0, .slice none 0 0]) ?_ 3 _ rfl; (with_reducible repeat (first | refine blk_drewN ?_ _ | refine blk_drew ?_ | refine blk_alloc ?_ _)); refine blk_put (cs := #[.int .i64 t24107, .int .i64 t24108, .int .i64 0, .int .i64 0, .int .i64 0, .slice none 0 0]) ?_ 2 _ rfl; (with_reducible repeat (first | refine blk_drewN ?_ _ | refine blk_drew ?_ | refine blk_alloc ?_ _)); refine blk_put (cs := #[.int .i64 t24107, .int .i64 0, .int .i64 0, .int .i64 0, .int .i64 0, .slice none 0 0]) ?_ 1 _ rfl; (with_reducible repeat (first | refine blk_drewN ?_ _ | refine blk_drew ?_ | refine blk_alloc ?_ _)); refine blk_put (cs := #[.int .i64 0, .int .i64 0, .int .i64 0, .int .i64 0, .int .i64 0, .slice none 0 0]) ?_ 0 _ rfl; (with_reducible repeat (first | refine blk_drewN ?_ _ | refine blk_drew ?_ | refine blk_alloc ?_ _)); exact BK24116.out) hb); replace HB := Aside0.mk (below_step (pH_ HB.out) hb); clear hb ho39) | ((with_reducible refine gate_dst (N := 36) rfl ?_); refine Kd.R_lit (Kd.int .i64) _ 34 ?hg (N := 36) ?hd (xs := ([6, 1, 1, 1, 2, 3, 6, 1, 0, 2] : List Int)) (inner := [.int .i64 6, .int .i64 1, .int .i64 1, .int .i64 1, .int .i64 2, .int .i64 3, .int .i64 6, .int .i64 1, .int .i64 0, .int .i64 2]) (ok := fun _ => True) (okp := fun _ => True) ?hr ?hp (fun _ hk => hk) trivial (Below.refl _ _) (Nat.le_refl _) (by simp) ?_; (case hd => rfl); (case hg => rfl); (case hr => first | (go_simp; done) | (go_simp; rfl)); (case hp => exact (Reps.one (show Kd.M (Kd.int .i64) _ _ _ 6 [.int .i64 6] from rfl) (Reps.one (show Kd.M (Kd.int .i64) _ _ _ 1 [.int .i64 1] from rfl) (Reps.one (show Kd.M (Kd.int .i64) _ _ _ 1 [.int .i64 1] from rfl) (Reps.one (show Kd.M (Kd.int .i64) _ _ _ 1 [.int .i64 1] from rfl) (Reps.one (show Kd.M (Kd.int .i64) _ _ _ 2 [.int .i64 2] from rfl) (Reps.one (show Kd.M (Kd.int .i64) _ _ _ 3 [.int .i64 3] from rfl) (Reps.one (show Kd.M (Kd.int .i64) _ _ _ 6 [.int .i64 6] from rfl) (Reps.one (show Kd.M (Kd.int .i64) _ _ _ 1 [.int .i64 1] from rfl) (Reps.one (show Kd.M (Kd.int .i64) _ _ _ 0 [.int .i64 0] from rfl) (Reps.one (show Kd.M (Kd.int .i64) _ _ _ 2 [.int .i64 2] from rfl) (Reps.none _ _)))))))))))); intro v24121 w40 ho41 hb hg_ hnew_; clear hg_ hnew_; (first | rw [← Ny24120.out] at ho41 | (simp only [Int.reduceToNat] at ho41; rw [← Ny24120.out] at ho41)); have HO24122 := Aside0.mk (Kd.R_lower ho41 (below_size (pH_ HB.out))); replace HO24104 := Aside0.mk (Kd.R_below (pR_ HO24104.out) hb); replace HO24114 := Aside0.mk (Kd.R_below (pR_ HO24114.out) hb); replace HO24119 := Aside0.mk (Kd.R_below (pR_ HO24119.out) hb); replace BK24105 := Aside0.mk (blk_below (pB_ BK24105.out) hb); replace BK24116 := Aside0.mk (blk_below (pB_ BK24116.out) hb); replace HB := Aside0.mk (below_step (pH_ HB.out) hb); clear hb ho41; obtain ⟨Ao42, co42, eo42⟩ := Kd.R_slice HO24119.out; subst eo42) | ((with_reducible refine gate_callee (f := 24) rfl ?_); refine goesL_ (some 40) rfl rfl Try.func24 (by kernel_rfl) rfl #[.int .i64 a0, .int .i64 (y24117.length : Int)] rfl (by (try simp only [List.map_toArray, List.map_cons, List.map_nil]); first | done | rfl | (simp only [List.length_drop, List.length_take]; rfl)) ?_; (with_reducible refine (plaitinglaw5_within.calls a0 (y24117.length : Int) t24123 _ A11.out).mono ?_); rintro e w' ⟨rfl, ⟨nd, rfl⟩⟩; refine ⟨_, rfl, ?_⟩; (try (rw [drewN_self w40]; generalize hq_ : World.drewN w40 _ = w40; have n0_ : Aside0 (Kd.R (Kd.int .i64) 3 w40 w.heap.size (fun _ => True) (.slice Ao23 y24102.length co23) y24102) := ⟨by rw [← hq_]; exact (pR_ HO24104.out)⟩; have n1_ : Aside0 (Kd.R k26 26 w40 w.heap.size (fun _ => True) (.slice Ao36 t24112.length co36) t24112) := ⟨by rw [← hq_]; exact (pR_ HO24114.out)⟩; have n2_ : Aside0 (Kd.R Kd.string 9 w40 w.heap.size (fun _ => True) (.slice Ao42 y24117.length co42) y24117) := ⟨by rw [← hq_]; exact (pR_ HO24119.out)⟩; have n3_ : Aside0 (Kd.R (Kd.int .i64) 34 w40 w.heap.size (fun _ => True) v24121 y24120) := ⟨by rw [← hq_]; exact (pR_ HO24122.out)⟩; have n4_ : Aside0 (w40.heap[gb24105]? = some (.cells #[.int .i64 6, .int .i64 4, .int .i64 0, .int .i64 0, .int .i64 0, .slice Ao23 y24102.length co23] 24 (0, 0))) := ⟨by rw [← hq_]; exact (pB_ BK24105.out)⟩; have n5_ : Aside0 (w40.heap[gb24116]? = some (.cells #[.int .i64 t24107, .int .i64 t24108, .int .i64 t24109, .int .i64 t24110, .int .i64 t24111, .slice Ao36 t24112.length co36] 29 (0, 0))) := ⟨by rw [← hq_]; exact (pB_ BK24116.out)⟩; have n6_ : Aside0 (Below w.heap.size w w40) := ⟨by rw [← hq_]; exact (pH_ HB.out)⟩; clear HO24104 HO24114 HO24119 HO24122 BK24105 BK24116 HB hq_; have HO24104 := n0_; have HO24114 := n1_; have HO24119 := n2_; have HO24122 := n3_; have BK24105 := n4_; have BK24116 := n5_; have HB := n6_; clear n0_ n1_ n2_ n3_ n4_ n5_ n6_))))
  replace HO24104 := Aside0.mk (Kd.R_drew HO24104.out)
  replace HO24114 := Aside0.mk (Kd.R_drew HO24114.out)
  replace HO24119 := Aside0.mk (Kd.R_drew HO24119.out)
  replace HO24122 := Aside0.mk (Kd.R_drew HO24122.out)
  replace BK24105 := Aside0.mk (blk_drew BK24105.out)
  replace BK24116 := Aside0.mk (blk_drew BK24116.out)
  replace HB := Aside0.mk (below_drew1 HB.out)
  have p24124 : 0 ≤ (t24123 : Int) := of_decide_eq_true (by first | (with_reducible assumption) | assumption)
  have q24124 : t24123 < (y24117.length : Int) := of_decide_eq_true (by first | (with_reducible assumption) | assumption)
  obtain ⟨ad24124, e24124, hx24124_0⟩ := Kd.at_string (Kd.R_reads' HO24119.out).2.2 t24123 p24124 q24124
  cases e24124
  replace p24124 := eq_true p24124
  replace q24124 := eq_true q24124
  refine start_ (n := 13) (S := fun w' => w'.cell? ⟨gb24105, 0, none⟩ = some (.int .i64 6) ∧ w'.cell? ⟨gb24105, 1, none⟩ = some (.int .i64 4) ∧ w'.cell? ⟨gb24105, 2, none⟩ = some (.int .i64 0) ∧ w'.cell? ⟨gb24105, 3, none⟩ = some (.int .i64 0) ∧ w'.cell? ⟨gb24105, 4, none⟩ = some (.int .i64 0) ∧ w'.cell? ⟨gb24105, 5, none⟩ = some (.slice Ao23 y24102.length co23) ∧ w'.cell? (ad24124.add (t24123).toNat) = some (.string (rdOf ByteArray.empty y24117 t24123))) (ds := []) #[false, false, false, false, false, false, false, false, false, false, false, false, false] (by kernel_rfl) rfl rfl ⟨(blk_cell BK24105.out 0).trans rfl, (blk_cell BK24105.out 1).trans rfl, (blk_cell BK24105.out 2).trans rfl, (blk_cell BK24105.out 3).trans rfl, (blk_cell BK24105.out 4).trans rfl, (blk_cell BK24105.out 5).trans rfl, hx24124_0⟩ (fun hHeld => ?_); refine with_tabW plaitinglaw5_FrameKnown.tab9 plaitinglaw5_FrameKnown.bits9 (fun HT_ HW_ => ?_)
  generalize w40.drew = w43 at HO24104 HO24114 HO24119 HO24122 BK24105 BK24116 HB hx24124_0 hHeld ⊢
  refine pure_ (i := 1) (N := some 43) (v := ?_) (a' := ?_) #[false, true, false, false, false, false, false, false, false, false, false, false, false] rfl rfl (any_of HT_.out (by kernel_rfl)) (fun _ _ _ h => h) (Or.inl ⟨by rfl, ?_⟩) ?_ ?_
  rotate_left
  · intro w'
    go_simp
    first | with_reducible rfl | (rw [if_neg (by decide)])
  rotate_left
  · simp only [Act.put, List.setIfInBounds_toArray, List.set_cons_zero, List.set_cons_succ, i64_w, i32_w]
    rfl
  refine pure_ (i := 2) (N := some 44) (v := ?_) (a' := ?_) #[false, true, true, false, false, false, false, false, false, false, false, false, false] rfl rfl (any_of HT_.out (by kernel_rfl)) (fun _ _ _ h => h) (Or.inl ⟨by rfl, ?_⟩) ?_ ?_
  rotate_left
  · intro w'
    go_simp
    first | with_reducible rfl | (rw [if_neg (by decide)])
  rotate_left
  · simp only [Act.put, List.setIfInBounds_toArray, List.set_cons_zero, List.set_cons_succ, i64_w, i32_w]
    rfl
  refine pure_ (i := 3) (N := some 45) (v := ?_) (a' := ?_) #[false, true, true, true, false, false, false, false, false, false, false, false, false] rfl rfl (any_of HT_.out (by kernel_rfl)) (fun _ _ _ h => h) (Or.inl ⟨by rfl, ?_⟩) ?_ ?_
  rotate_left
  · intro w'
    go_simp
    first | with_reducible rfl | (rw [if_neg (by decide)])
  rotate_left
  · simp only [Act.put, List.setIfInBounds_toArray, List.set_cons_zero, List.set_cons_succ, i64_w, i32_w]
    rfl
  refine take_ (i := 0) (N := some 42) (v := ?_) (a' := ?_) #[true, true, true, true, false, false, false, false, false, false, false, false, false] rfl rfl (take_ofW HT_.out HW_.out (by kernel_rfl)) (fun _ _ _ h => h) (Or.inl ⟨by rfl, ?_⟩) hHeld ?_ ?_
  rotate_left
  · rintro w' ⟨s0, s1, s2, s3, s4, s5, s6⟩
    go_simp
    first | with_reducible rfl | (rw [if_neg (by decide)])
  rotate_left
  · simp only [Act.put, List.setIfInBounds_toArray, List.set_cons_zero, List.set_cons_succ, i64_w, i32_w]
    rfl
  refine take_ (i := 4) (N := some 46) (v := ?_) (a' := ?_) #[true, true, true, true, true, false, false, false, false, false, false, false, false] rfl rfl (take_ofW HT_.out HW_.out (by kernel_rfl)) (fun _ _ _ h => h) (Or.inl ⟨by rfl, ?_⟩) hHeld ?_ ?_
  rotate_left
  · rintro w' ⟨s0, s1, s2, s3, s4, s5, s6⟩
    go_simp
    first | with_reducible rfl | (rw [if_neg (by decide)])
  rotate_left
  · simp only [Act.put, List.setIfInBounds_toArray, List.set_cons_zero, List.set_cons_succ, i64_w, i32_w]
    rfl
  refine join_ (σ := Value × Nat) 2 #[true, true, true, true, true, true, true, true, true, true, true, false, false] (fun s_ => [(47, .string t24125), (48, .tuple #[.agg #[.int .i64 t24126, .int .i64 t24127, .int .i64 t24128, .int .i64 t24129, .int .i64 t24130, s_.1], .int .i64 t24134]), (10, .pointer (some ⟨s_.2, 0, none⟩)), (41, .tuple #[.agg #[.int .i64 t24126, .int .i64 t24127, .int .i64 t24128, .int .i64 t24129, .int .i64 t24130, s_.1], .int .i64 t24134]), (49, .agg #[.int .i64 t24126, .int .i64 t24127, .int .i64 t24128, .int .i64 t24129, .int .i64 t24130, s_.1]), (50, .int .i64 t24134)]) (fun s_ w' => (w'.cell? ⟨gb24105, 0, none⟩ = some (.int .i64 6) ∧ w'.cell? ⟨gb24105, 1, none⟩ = some (.int .i64 4) ∧ w'.cell? ⟨gb24105, 2, none⟩ = some (.int .i64 0) ∧ w'.cell? ⟨gb24105, 3, none⟩ = some (.int .i64 0) ∧ w'.cell? ⟨gb24105, 4, none⟩ = some (.int .i64 0) ∧ w'.cell? ⟨gb24105, 5, none⟩ = some (.slice Ao23 y24102.length co23) ∧ w'.cell? (ad24124.add (t24123).toNat) = some (.string (rdOf ByteArray.empty y24117 t24123))) ∧ (Kd.R (Kd.int .i64) 3 w' w.heap.size (fun _ => True) (.slice Ao23 y24102.length co23) y24102) ∧ (Kd.R k26 26 w' w.heap.size (fun k_ => some k_ ≠ (s_.1 : Value).ownBlock) (.slice Ao36 t24112.length co36) t24112) ∧ (Kd.R Kd.string 9 w' w.heap.size (fun _ => True) (.slice (some ad24124) y24117.length co42) y24117) ∧ (Kd.R (Kd.int .i64) 34 w' w.heap.size (fun _ => True) v24121 y24120) ∧ (Kd.R k26 26 w' w.heap.size (fun k_ => some k_ ≠ (.slice Ao36 t24112.length co36 : Value).ownBlock) s_.1 t24131) ∧ (w'.heap[gb24105]? = some (.cells #[.int .i64 6, .int .i64 4, .int .i64 0, .int .i64 0, .int .i64 0, .slice Ao23 y24102.length co23] 24 (0, 0))) ∧ (w'.heap[gb24116]? = some (.cells #[.int .i64 t24107, .int .i64 t24108, .int .i64 t24109, .int .i64 t24110, .int .i64 t24111, .slice Ao36 t24112.length co36] 29 (0, 0))) ∧ (w'.heap[s_.2]? = some (.cells #[.int .i64 0, .int .i64 0, .int .i64 0, .int .i64 0, .int .i64 0, .slice none 0 0] 29 (0, 0))) ∧ (w.heap.size ≤ s_.2) ∧ (w.heap.size ≤ s_.2) ∧ (gb24105 ≠ s_.2) ∧ (s_.2 ≠ gb24105) ∧ (gb24116 ≠ s_.2) ∧ (s_.2 ≠ gb24116) ∧ (Below w.heap.size w w')) ?_ ?_
  rotate_left
  · intro hCont
    refine two_ (i := 5) (j := 10) (Ni := some 47) (Nj := some 10) #[true, true, true, true, true, true, false, false, false, false, false, false, false] #[true, true, true, true, true, false, false, false, false, false, true, false, false] rfl rfl rfl rfl (two_of HT_.out (by kernel_rfl)) (by decide) (by decide) (fun K hK => ?_) (fun K hK => ?_)
    · skip
      refine goes_ Try.func34 (by kernel_rfl) rfl #[.string (rdOf ByteArray.empty y24117 t24123)] (by rfl) rfl rfl (by (try simp only [List.map_toArray, List.map_cons, List.map_nil]); first | done | rfl | (simp only [List.length_drop, List.length_take]; rfl)) ?_
      with_reducible refine (plaitingref2_Wrap.calls k (rdOf ByteArray.empty y24117 t24123) t24125 _ A14.out).mono ?_
      rintro e w' ⟨rfl, ⟨nd, rfl⟩⟩
      refine ⟨_, rfl, ?_⟩
      refine hK.out _ _ ⟨(blk_cell BK24105.out 0).trans rfl, (blk_cell BK24105.out 1).trans rfl, (blk_cell BK24105.out 2).trans rfl, (blk_cell BK24105.out 3).trans rfl, (blk_cell BK24105.out 4).trans rfl, (blk_cell BK24105.out 5).trans rfl, hHeld.2.2.2.2.2.2⟩ (fun hHeld => ?_)
      clear hK K
      refine norm_ (a' := ?_) ?_ ?_
      rotate_left
      · show Act.put _ (some 47) _ = _
        simp only [Act.put, List.setIfInBounds_toArray, List.set_cons_zero, List.set_cons_succ, i64_w, i32_w]
        rfl
      refine two_ (i := 6) (j := 10) (Ni := some 48) (Nj := some 10) #[true, true, true, true, true, true, true, false, false, false, false, false, false] #[true, true, true, true, true, true, false, false, false, false, true, false, false] rfl rfl rfl rfl (two_of HT_.out (by kernel_rfl)) (by decide) (by decide) (fun K hK => ?_) (fun K hK => ?_)
      · skip
        refine goes_ Try.func35 (by kernel_rfl) rfl #[.agg #[.int .i64 6, .int .i64 4, .int .i64 0, .int .i64 0, .int .i64 0, .slice Ao23 y24102.length co23], .string t24125] (by rfl) rfl rfl (by (try simp only [List.map_toArray, List.map_cons, List.map_nil]); first | done | rfl | (simp only [List.length_drop, List.length_take]; rfl)) ?_
        with_reducible refine (frame_Read.calls 6 4 0 0 0 _ _ y24102 t24125 t24126 t24127 t24128 t24129 t24130 t24131 t24134 _ ?side1 ?side2 A15.out).mono ?_
        (case side1 => repeat (first | exact (Kd.R_reads' HO24104.out).2.2 | (with_reducible refine Kd.C_alloc ?_ _) | (with_reducible refine Kd.C_drewN ?_ _) | (with_reducible refine Kd.C_drew ?_)))
        (case side2 => exact (Kd.R_reads' HO24104.out).2.1)
        rintro e w44 ⟨v24132, rfl, ho0, hb⟩
        have HS6_ := (hb.cell (World.block_lt_of_cell? _ _ (hHeld.2.2.2.2.2.2))).trans (hHeld.2.2.2.2.2.2)
        refine ⟨_, rfl, ?_⟩
        have HO24133 := Aside0.mk (Kd.R_lower (Kd.R_new' ho0 (Kd.R_lt (pR_ HO24114.out))) (below_size (pH_ HB.out)))
        replace HO24104 := Aside0.mk (Kd.R_below (pR_ HO24104.out) hb)
        replace HO24114 := Aside0.mk (Kd.R_elder' (pR_ HO24114.out) (Kd.R_base ho0) hb)
        replace HO24119 := Aside0.mk (Kd.R_below (pR_ HO24119.out) hb)
        replace HO24122 := Aside0.mk (Kd.R_below (pR_ HO24122.out) hb)
        replace BK24105 := Aside0.mk (blk_below (pB_ BK24105.out) hb)
        replace BK24116 := Aside0.mk (blk_below (pB_ BK24116.out) hb)
        replace HB := Aside0.mk (below_step (pH_ HB.out) hb)
        (try clear hb)
        (try clear hb2)
        (try clear hk)
        (try clear hi)
        (try clear ho0)
        refine hK.out _ _ ⟨(blk_cell BK24105.out 0).trans rfl, (blk_cell BK24105.out 1).trans rfl, (blk_cell BK24105.out 2).trans rfl, (blk_cell BK24105.out 3).trans rfl, (blk_cell BK24105.out 4).trans rfl, (blk_cell BK24105.out 5).trans rfl, HS6_⟩ (fun hHeld => ?_)
        clear hK K
        refine norm_ (a' := ?_) ?_ ?_
        rotate_left
        · show Act.put _ (some 48) _ = _
          simp only [Act.put, List.setIfInBounds_toArray, List.set_cons_zero, List.set_cons_succ, i64_w, i32_w]
          rfl
        refine pure_ (i := 7) (N := some 41) (v := ?_) (a' := ?_) #[true, true, true, true, true, true, true, true, false, false, false, false, false] rfl rfl (any_of HT_.out (by kernel_rfl)) (fun _ _ _ h => h) (Or.inl ⟨by rfl, ?_⟩) ?_ ?_
        rotate_left
        · intro w'
          go_simp
          first | with_reducible rfl | (rw [if_neg (by decide)])
        rotate_left
        · simp only [Act.put, List.setIfInBounds_toArray, List.set_cons_zero, List.set_cons_succ, i64_w, i32_w]
          rfl
        refine pure_ (i := 8) (N := some 49) (v := ?_) (a' := ?_) #[true, true, true, true, true, true, true, true, true, false, false, false, false] rfl rfl (any_of HT_.out (by kernel_rfl)) (fun _ _ _ h => h) (Or.inl ⟨by rfl, ?_⟩) ?_ ?_
        rotate_left
        · intro w'
          go_simp
          first | with_reducible rfl | (rw [if_neg (by decide)])
        rotate_left
        · simp only [Act.put, List.setIfInBounds_toArray, List.set_cons_zero, List.set_cons_succ, i64_w, i32_w]
          rfl
        refine pure_ (i := 9) (N := some 50) (v := ?_) (a' := ?_) #[true, true, true, true, true, true, true, true, true, true, false, false, false] rfl rfl (any_of HT_.out (by kernel_rfl)) (fun _ _ _ h => h) (Or.inl ⟨by rfl, ?_⟩) ?_ ?_
        rotate_left
        · intro w'
          go_simp
          first | with_reducible rfl | (rw [if_neg (by decide)])
        rotate_left
        · simp only [Act.put, List.setIfInBounds_toArray, List.set_cons_zero, List.set_cons_succ, i64_w, i32_w]
          rfl
        refine one_ (i := 10) (N := some 10) #[true, true, true, true, true, true, true, true, true, true, true, false, false] rfl rfl (one_of HT_.out (by kernel_rfl)) (by decide) (fun K hK => ?_)
        refine box_step ?hg (N := 10) ?hd (cs := #[.int .i64 0, .int .i64 0, .int .i64 0, .int .i64 0, .int .i64 0, .slice none 0 0]) (t := 29) ?hr ?_; (case hd => rfl); (case hg => rfl); (case hr => first | (go_simp; done) | (go_simp; rfl))
        intro gb24135 hg w45 hbox hb
        have HS6_ := (hb.cell (World.block_lt_of_cell? _ _ (hHeld.2.2.2.2.2.2))).trans (hHeld.2.2.2.2.2.2)
        have BK24135 := Aside0.mk (hbox)
        have GW24135 := Aside0.mk ((by rw [hg]; exact (below_size (pH_ HB.out)) : w.heap.size ≤ gb24135))
        have GE24135 := Aside0.mk ((by rw [hg]; exact (below_size (pH_ HB.out)) : w.heap.size ≤ gb24135))
        have NB24105_24135 := Aside0.mk (ltB_ hg BK24105.out)
        have NB24135_24105 := Aside0.mk (ltB_ hg BK24105.out).symm
        have NB24116_24135 := Aside0.mk (ltB_ hg BK24116.out)
        have NB24135_24116 := Aside0.mk (ltB_ hg BK24116.out).symm
        replace HO24104 := Aside0.mk (Kd.R_below (pR_ HO24104.out) hb)
        replace HO24114 := Aside0.mk (Kd.R_below (pR_ HO24114.out) hb)
        replace HO24119 := Aside0.mk (Kd.R_below (pR_ HO24119.out) hb)
        replace HO24122 := Aside0.mk (Kd.R_below (pR_ HO24122.out) hb)
        replace HO24133 := Aside0.mk (Kd.R_below (pR_ HO24133.out) hb)
        replace BK24105 := Aside0.mk (blk_below (pB_ BK24105.out) hb)
        replace BK24116 := Aside0.mk (blk_below (pB_ BK24116.out) hb)
        replace HB := Aside0.mk (below_step (pH_ HB.out) hb)
        clear hb hbox hg
        refine hK.out _ _ ⟨(blk_cell BK24105.out 0).trans rfl, (blk_cell BK24105.out 1).trans rfl, (blk_cell BK24105.out 2).trans rfl, (blk_cell BK24105.out 3).trans rfl, (blk_cell BK24105.out 4).trans rfl, (blk_cell BK24105.out 5).trans rfl, HS6_⟩ (fun hHeld => ?_)
        clear hK K
        refine norm_ (a' := ?_) ?_ ?_
        rotate_left
        · show Act.put _ (some 10) _ = _
          simp only [Act.put, List.setIfInBounds_toArray, List.set_cons_zero, List.set_cons_succ, i64_w, i32_w]
          rfl
        exact norm_ (by simp only [putAll, Act.put, List.setIfInBounds_toArray, List.set_cons_zero, List.set_cons_succ]) (hCont (v24132, gb24135) _ ⟨hHeld, (pR_ HO24104.out), (by (with_reducible repeat (first | apply Kd.R_alloc | apply Kd.R_drewN | apply Kd.R_drew)); exact Kd.R_mono HO24114.out (fun _ hk => hk.2)), (pR_ HO24119.out), (pR_ HO24122.out), (by (with_reducible repeat (first | apply Kd.R_alloc | apply Kd.R_drewN | apply Kd.R_drew)); exact Kd.R_mono HO24133.out (fun _ hk => hk.2)), (pB_ BK24105.out), (pB_ BK24116.out), (pB_ BK24135.out), GW24135.out, GE24135.out, NB24105_24135.out, NB24135_24105.out, NB24116_24135.out, NB24135_24116.out, (pH_ HB.out)⟩)
      skip
      refine box_step ?hg (N := 10) ?hd (cs := #[.int .i64 0, .int .i64 0, .int .i64 0, .int .i64 0, .int .i64 0, .slice none 0 0]) (t := 29) ?hr ?_; (case hd => rfl); (case hg => rfl); (case hr => first | (go_simp; done) | (go_simp; rfl))
      intro gb24135 hg w44 hbox hb
      have HS6_ := (hb.cell (World.block_lt_of_cell? _ _ (hHeld.2.2.2.2.2.2))).trans (hHeld.2.2.2.2.2.2)
      have BK24135 := Aside0.mk (hbox)
      have GW24135 := Aside0.mk ((by rw [hg]; exact (below_size (pH_ HB.out)) : w.heap.size ≤ gb24135))
      have GE24135 := Aside0.mk ((by rw [hg]; exact (below_size (pH_ HB.out)) : w.heap.size ≤ gb24135))
      have NB24105_24135 := Aside0.mk (ltB_ hg BK24105.out)
      have NB24135_24105 := Aside0.mk (ltB_ hg BK24105.out).symm
      have NB24116_24135 := Aside0.mk (ltB_ hg BK24116.out)
      have NB24135_24116 := Aside0.mk (ltB_ hg BK24116.out).symm
      replace HO24104 := Aside0.mk (Kd.R_below (pR_ HO24104.out) hb)
      replace HO24114 := Aside0.mk (Kd.R_below (pR_ HO24114.out) hb)
      replace HO24119 := Aside0.mk (Kd.R_below (pR_ HO24119.out) hb)
      replace HO24122 := Aside0.mk (Kd.R_below (pR_ HO24122.out) hb)
      replace BK24105 := Aside0.mk (blk_below (pB_ BK24105.out) hb)
      replace BK24116 := Aside0.mk (blk_below (pB_ BK24116.out) hb)
      replace HB := Aside0.mk (below_step (pH_ HB.out) hb)
      clear hb hbox hg
      refine hK.out _ _ ⟨(blk_cell BK24105.out 0).trans rfl, (blk_cell BK24105.out 1).trans rfl, (blk_cell BK24105.out 2).trans rfl, (blk_cell BK24105.out 3).trans rfl, (blk_cell BK24105.out 4).trans rfl, (blk_cell BK24105.out 5).trans rfl, HS6_⟩ (fun hHeld => ?_)
      clear hK K
      refine norm_ (a' := ?_) ?_ ?_
      rotate_left
      · show Act.put _ (some 10) _ = _
        simp only [Act.put, List.setIfInBounds_toArray, List.set_cons_zero, List.set_cons_succ, i64_w, i32_w]
        rfl
      refine one_ (i := 6) (N := some 48) #[true, true, true, true, true, true, true, false, false, false, true, false, false] rfl rfl (one_of HT_.out (by kernel_rfl)) (by decide) (fun K hK => ?_)
      refine goes_ Try.func35 (by kernel_rfl) rfl #[.agg #[.int .i64 6, .int .i64 4, .int .i64 0, .int .i64 0, .int .i64 0, .slice Ao23 y24102.length co23], .string t24125] (by rfl) rfl rfl (by (try simp only [List.map_toArray, List.map_cons, List.map_nil]); first | done | rfl | (simp only [List.length_drop, List.length_take]; rfl)) ?_
      with_reducible refine (frame_Read.calls 6 4 0 0 0 _ _ y24102 t24125 t24126 t24127 t24128 t24129 t24130 t24131 t24134 _ ?side1 ?side2 A15.out).mono ?_
      (case side1 => repeat (first | exact (Kd.R_reads' HO24104.out).2.2 | (with_reducible refine Kd.C_alloc ?_ _) | (with_reducible refine Kd.C_drewN ?_ _) | (with_reducible refine Kd.C_drew ?_)))
      (case side2 => exact (Kd.R_reads' HO24104.out).2.1)
      rintro e w45 ⟨v24132, rfl, ho0, hb⟩
      have HS6_ := (hb.cell (World.block_lt_of_cell? _ _ (hHeld.2.2.2.2.2.2))).trans (hHeld.2.2.2.2.2.2)
      refine ⟨_, rfl, ?_⟩
      have HO24133 := Aside0.mk (Kd.R_lower (Kd.R_new' ho0 (Kd.R_lt (pR_ HO24114.out))) (below_size (pH_ HB.out)))
      replace HO24104 := Aside0.mk (Kd.R_below (pR_ HO24104.out) hb)
      replace HO24114 := Aside0.mk (Kd.R_elder' (pR_ HO24114.out) (Kd.R_base ho0) hb)
      replace HO24119 := Aside0.mk (Kd.R_below (pR_ HO24119.out) hb)
      replace HO24122 := Aside0.mk (Kd.R_below (pR_ HO24122.out) hb)
      replace BK24105 := Aside0.mk (blk_below (pB_ BK24105.out) hb)
      replace BK24116 := Aside0.mk (blk_below (pB_ BK24116.out) hb)
      replace BK24135 := Aside0.mk (blk_below (pB_ BK24135.out) hb)
      replace HB := Aside0.mk (below_step (pH_ HB.out) hb)
      (try clear hb)
      (try clear hb2)
      (try clear hk)
      (try clear hi)
      (try clear ho0)
      refine hK.out _ _ ⟨(blk_cell BK24105.out 0).trans rfl, (blk_cell BK24105.out 1).trans rfl, (blk_cell BK24105.out 2).trans rfl, (blk_cell BK24105.out 3).trans rfl, (blk_cell BK24105.out 4).trans rfl, (blk_cell BK24105.out 5).trans rfl, HS6_⟩ (fun hHeld => ?_)
      clear hK K
      refine norm_ (a' := ?_) ?_ ?_
      rotate_left
      · show Act.put _ (some 48) _ = _
        simp only [Act.put, List.setIfInBounds_toArray, List.set_cons_zero, List.set_cons_succ, i64_w, i32_w]
        rfl
      refine pure_ (i := 7) (N := some 41) (v := ?_) (a' := ?_) #[true, true, true, true, true, true, true, true, false, false, true, false, false] rfl rfl (any_of HT_.out (by kernel_rfl)) (fun _ _ _ h => h) (Or.inl ⟨by rfl, ?_⟩) ?_ ?_
      rotate_left
      · intro w'
        go_simp
        first | with_reducible rfl | (rw [if_neg (by decide)])
      rotate_left
      · simp only [Act.put, List.setIfInBounds_toArray, List.set_cons_zero, List.set_cons_succ, i64_w, i32_w]
        rfl
      refine pure_ (i := 8) (N := some 49) (v := ?_) (a' := ?_) #[true, true, true, true, true, true, true, true, true, false, true, false, false] rfl rfl (any_of HT_.out (by kernel_rfl)) (fun _ _ _ h => h) (Or.inl ⟨by rfl, ?_⟩) ?_ ?_
      rotate_left
      · intro w'
        go_simp
        first | with_reducible rfl | (rw [if_neg (by decide)])
      rotate_left
      · simp only [Act.put, List.setIfInBounds_toArray, List.set_cons_zero, List.set_cons_succ, i64_w, i32_w]
        rfl
      refine pure_ (i := 9) (N := some 50) (v := ?_) (a' := ?_) #[true, true, true, true, true, true, true, true, true, true, true, false, false] rfl rfl (any_of HT_.out (by kernel_rfl)) (fun _ _ _ h => h) (Or.inl ⟨by rfl, ?_⟩) ?_ ?_
      rotate_left
      · intro w'
        go_simp
        first | with_reducible rfl | (rw [if_neg (by decide)])
      rotate_left
      · simp only [Act.put, List.setIfInBounds_toArray, List.set_cons_zero, List.set_cons_succ, i64_w, i32_w]
        rfl
      exact norm_ (by simp only [putAll, Act.put, List.setIfInBounds_toArray, List.set_cons_zero, List.set_cons_succ]) (hCont (v24132, gb24135) _ ⟨hHeld, (pR_ HO24104.out), (by (with_reducible repeat (first | apply Kd.R_alloc | apply Kd.R_drewN | apply Kd.R_drew)); exact Kd.R_mono HO24114.out (fun _ hk => hk.2)), (pR_ HO24119.out), (pR_ HO24122.out), (by (with_reducible repeat (first | apply Kd.R_alloc | apply Kd.R_drewN | apply Kd.R_drew)); exact Kd.R_mono HO24133.out (fun _ hk => hk.2)), (pB_ BK24105.out), (pB_ BK24116.out), (pB_ BK24135.out), GW24135.out, GE24135.out, NB24105_24135.out, NB24135_24105.out, NB24116_24135.out, NB24135_24116.out, (pH_ HB.out)⟩)
    skip
    refine box_step ?hg (N := 10) ?hd (cs := #[.int .i64 0, .int .i64 0, .int .i64 0, .int .i64 0, .int .i64 0, .slice none 0 0]) (t := 29) ?hr ?_; (case hd => rfl); (case hg => rfl); (case hr => first | (go_simp; done) | (go_simp; rfl))
    intro gb24135 hg w44 hbox hb
    have HS6_ := (hb.cell (World.block_lt_of_cell? _ _ (hHeld.2.2.2.2.2.2))).trans (hHeld.2.2.2.2.2.2)
    have BK24135 := Aside0.mk (hbox)
    have GW24135 := Aside0.mk ((by rw [hg]; exact (below_size (pH_ HB.out)) : w.heap.size ≤ gb24135))
    have GE24135 := Aside0.mk ((by rw [hg]; exact (below_size (pH_ HB.out)) : w.heap.size ≤ gb24135))
    have NB24105_24135 := Aside0.mk (ltB_ hg BK24105.out)
    have NB24135_24105 := Aside0.mk (ltB_ hg BK24105.out).symm
    have NB24116_24135 := Aside0.mk (ltB_ hg BK24116.out)
    have NB24135_24116 := Aside0.mk (ltB_ hg BK24116.out).symm
    replace HO24104 := Aside0.mk (Kd.R_below (pR_ HO24104.out) hb)
    replace HO24114 := Aside0.mk (Kd.R_below (pR_ HO24114.out) hb)
    replace HO24119 := Aside0.mk (Kd.R_below (pR_ HO24119.out) hb)
    replace HO24122 := Aside0.mk (Kd.R_below (pR_ HO24122.out) hb)
    replace BK24105 := Aside0.mk (blk_below (pB_ BK24105.out) hb)
    replace BK24116 := Aside0.mk (blk_below (pB_ BK24116.out) hb)
    replace HB := Aside0.mk (below_step (pH_ HB.out) hb)
    clear hb hbox hg
    refine hK.out _ _ ⟨(blk_cell BK24105.out 0).trans rfl, (blk_cell BK24105.out 1).trans rfl, (blk_cell BK24105.out 2).trans rfl, (blk_cell BK24105.out 3).trans rfl, (blk_cell BK24105.out 4).trans rfl, (blk_cell BK24105.out 5).trans rfl, HS6_⟩ (fun hHeld => ?_)
    clear hK K
    refine norm_ (a' := ?_) ?_ ?_
    rotate_left
    · show Act.put _ (some 10) _ = _
      simp only [Act.put, List.setIfInBounds_toArray, List.set_cons_zero, List.set_cons_succ, i64_w, i32_w]
      rfl
    refine one_ (i := 5) (N := some 47) #[true, true, true, true, true, true, false, false, false, false, true, false, false] rfl rfl (one_of HT_.out (by kernel_rfl)) (by decide) (fun K hK => ?_)
    refine goes_ Try.func34 (by kernel_rfl) rfl #[.string (rdOf ByteArray.empty y24117 t24123)] (by rfl) rfl rfl (by (try simp only [List.map_toArray, List.map_cons, List.map_nil]); first | done | rfl | (simp only [List.length_drop, List.length_take]; rfl)) ?_
    with_reducible refine (plaitingref2_Wrap.calls k (rdOf ByteArray.empty y24117 t24123) t24125 _ A14.out).mono ?_
    rintro e w' ⟨rfl, ⟨nd, rfl⟩⟩
    refine ⟨_, rfl, ?_⟩
    refine hK.out _ _ ⟨(blk_cell BK24105.out 0).trans rfl, (blk_cell BK24105.out 1).trans rfl, (blk_cell BK24105.out 2).trans rfl, (blk_cell BK24105.out 3).trans rfl, (blk_cell BK24105.out 4).trans rfl, (blk_cell BK24105.out 5).trans rfl, hHeld.2.2.2.2.2.2⟩ (fun hHeld => ?_)
    clear hK K
    refine norm_ (a' := ?_) ?_ ?_
    rotate_left
    · show Act.put _ (some 47) _ = _
      simp only [Act.put, List.setIfInBounds_toArray, List.set_cons_zero, List.set_cons_succ, i64_w, i32_w]
      rfl
    refine one_ (i := 6) (N := some 48) #[true, true, true, true, true, true, true, false, false, false, true, false, false] rfl rfl (one_of HT_.out (by kernel_rfl)) (by decide) (fun K hK => ?_)
    refine goes_ Try.func35 (by kernel_rfl) rfl #[.agg #[.int .i64 6, .int .i64 4, .int .i64 0, .int .i64 0, .int .i64 0, .slice Ao23 y24102.length co23], .string t24125] (by rfl) rfl rfl (by (try simp only [List.map_toArray, List.map_cons, List.map_nil]); first | done | rfl | (simp only [List.length_drop, List.length_take]; rfl)) ?_
    with_reducible refine (frame_Read.calls 6 4 0 0 0 _ _ y24102 t24125 t24126 t24127 t24128 t24129 t24130 t24131 t24134 _ ?side1 ?side2 A15.out).mono ?_
    (case side1 => repeat (first | exact (Kd.R_reads' HO24104.out).2.2 | (with_reducible refine Kd.C_alloc ?_ _) | (with_reducible refine Kd.C_drewN ?_ _) | (with_reducible refine Kd.C_drew ?_)))
    (case side2 => exact (Kd.R_reads' HO24104.out).2.1)
    rintro e w45 ⟨v24132, rfl, ho0, hb⟩
    have HS6_ := (hb.cell (World.block_lt_of_cell? _ _ (hHeld.2.2.2.2.2.2))).trans (hHeld.2.2.2.2.2.2)
    refine ⟨_, rfl, ?_⟩
    have HO24133 := Aside0.mk (Kd.R_lower (Kd.R_new' ho0 (Kd.R_lt (pR_ HO24114.out))) (below_size (pH_ HB.out)))
    replace HO24104 := Aside0.mk (Kd.R_below (pR_ HO24104.out) hb)
    replace HO24114 := Aside0.mk (Kd.R_elder' (pR_ HO24114.out) (Kd.R_base ho0) hb)
    replace HO24119 := Aside0.mk (Kd.R_below (pR_ HO24119.out) hb)
    replace HO24122 := Aside0.mk (Kd.R_below (pR_ HO24122.out) hb)
    replace BK24105 := Aside0.mk (blk_below (pB_ BK24105.out) hb)
    replace BK24116 := Aside0.mk (blk_below (pB_ BK24116.out) hb)
    replace BK24135 := Aside0.mk (blk_below (pB_ BK24135.out) hb)
    replace HB := Aside0.mk (below_step (pH_ HB.out) hb)
    (try clear hb)
    (try clear hb2)
    (try clear hk)
    (try clear hi)
    (try clear ho0)
    refine hK.out _ _ ⟨(blk_cell BK24105.out 0).trans rfl, (blk_cell BK24105.out 1).trans rfl, (blk_cell BK24105.out 2).trans rfl, (blk_cell BK24105.out 3).trans rfl, (blk_cell BK24105.out 4).trans rfl, (blk_cell BK24105.out 5).trans rfl, HS6_⟩ (fun hHeld => ?_)
    clear hK K
    refine norm_ (a' := ?_) ?_ ?_
    rotate_left
    · show Act.put _ (some 48) _ = _
      simp only [Act.put, List.setIfInBounds_toArray, List.set_cons_zero, List.set_cons_succ, i64_w, i32_w]
      rfl
    refine pure_ (i := 7) (N := some 41) (v := ?_) (a' := ?_) #[true, true, true, true, true, true, true, true, false, false, true, false, false] rfl rfl (any_of HT_.out (by kernel_rfl)) (fun _ _ _ h => h) (Or.inl ⟨by rfl, ?_⟩) ?_ ?_
    rotate_left
    · intro w'
      go_simp
      first | with_reducible rfl | (rw [if_neg (by decide)])
    rotate_left
    · simp only [Act.put, List.setIfInBounds_toArray, List.set_cons_zero, List.set_cons_succ, i64_w, i32_w]
      rfl
    refine pure_ (i := 8) (N := some 49) (v := ?_) (a' := ?_) #[true, true, true, true, true, true, true, true, true, false, true, false, false] rfl rfl (any_of HT_.out (by kernel_rfl)) (fun _ _ _ h => h) (Or.inl ⟨by rfl, ?_⟩) ?_ ?_
    rotate_left
    · intro w'
      go_simp
      first | with_reducible rfl | (rw [if_neg (by decide)])
    rotate_left
    · simp only [Act.put, List.setIfInBounds_toArray, List.set_cons_zero, List.set_cons_succ, i64_w, i32_w]
      rfl
    refine pure_ (i := 9) (N := some 50) (v := ?_) (a' := ?_) #[true, true, true, true, true, true, true, true, true, true, true, false, false] rfl rfl (any_of HT_.out (by kernel_rfl)) (fun _ _ _ h => h) (Or.inl ⟨by rfl, ?_⟩) ?_ ?_
    rotate_left
    · intro w'
      go_simp
      first | with_reducible rfl | (rw [if_neg (by decide)])
    rotate_left
    · simp only [Act.put, List.setIfInBounds_toArray, List.set_cons_zero, List.set_cons_succ, i64_w, i32_w]
      rfl
    exact norm_ (by simp only [putAll, Act.put, List.setIfInBounds_toArray, List.set_cons_zero, List.set_cons_succ]) (hCont (v24132, gb24135) _ ⟨hHeld, (pR_ HO24104.out), (by (with_reducible repeat (first | apply Kd.R_alloc | apply Kd.R_drewN | apply Kd.R_drew)); exact Kd.R_mono HO24114.out (fun _ hk => hk.2)), (pR_ HO24119.out), (pR_ HO24122.out), (by (with_reducible repeat (first | apply Kd.R_alloc | apply Kd.R_drewN | apply Kd.R_drew)); exact Kd.R_mono HO24133.out (fun _ hk => hk.2)), (pB_ BK24105.out), (pB_ BK24116.out), (pB_ BK24135.out), GW24135.out, GE24135.out, NB24105_24135.out, NB24135_24105.out, NB24116_24135.out, NB24135_24116.out, (pH_ HB.out)⟩)
  rintro ⟨v24132, gb24135⟩ w46 ⟨hS_, h0_, h1_, h2_, h3_, h4_, h5_, h6_, h7_, h8_, h9_, h10_, h11_, h12_, h13_, h14_⟩
  have n0_ : Aside0 (Kd.R (Kd.int .i64) 3 w46 w.heap.size (fun _ => True) (.slice Ao23 y24102.length co23) y24102) := ⟨h0_⟩
  have n1_ : Aside0 (Kd.R k26 26 w46 w.heap.size (fun k_ => some k_ ≠ (v24132 : Value).ownBlock) (.slice Ao36 t24112.length co36) t24112) := ⟨h1_⟩
  have n2_ : Aside0 (Kd.R Kd.string 9 w46 w.heap.size (fun _ => True) (.slice (some ad24124) y24117.length co42) y24117) := ⟨h2_⟩
  have n3_ : Aside0 (Kd.R (Kd.int .i64) 34 w46 w.heap.size (fun _ => True) v24121 y24120) := ⟨h3_⟩
  have n4_ : Aside0 (Kd.R k26 26 w46 w.heap.size (fun k_ => some k_ ≠ (.slice Ao36 t24112.length co36 : Value).ownBlock) v24132 t24131) := ⟨h4_⟩
  have n5_ : Aside0 (w46.heap[gb24105]? = some (.cells #[.int .i64 6, .int .i64 4, .int .i64 0, .int .i64 0, .int .i64 0, .slice Ao23 y24102.length co23] 24 (0, 0))) := ⟨h5_⟩
  have n6_ : Aside0 (w46.heap[gb24116]? = some (.cells #[.int .i64 t24107, .int .i64 t24108, .int .i64 t24109, .int .i64 t24110, .int .i64 t24111, .slice Ao36 t24112.length co36] 29 (0, 0))) := ⟨h6_⟩
  have n7_ : Aside0 (w46.heap[gb24135]? = some (.cells #[.int .i64 0, .int .i64 0, .int .i64 0, .int .i64 0, .int .i64 0, .slice none 0 0] 29 (0, 0))) := ⟨h7_⟩
  have n8_ : Aside0 (w.heap.size ≤ gb24135) := ⟨h8_⟩
  have n9_ : Aside0 (w.heap.size ≤ gb24135) := ⟨h9_⟩
  have n10_ : Aside0 (gb24105 ≠ gb24135) := ⟨h10_⟩
  have n11_ : Aside0 (gb24135 ≠ gb24105) := ⟨h11_⟩
  have n12_ : Aside0 (gb24116 ≠ gb24135) := ⟨h12_⟩
  have n13_ : Aside0 (gb24135 ≠ gb24116) := ⟨h13_⟩
  have n14_ : Aside0 (Below w.heap.size w w46) := ⟨h14_⟩
  clear HO24104
  clear HO24114
  clear HO24119
  clear HO24122
  clear BK24105
  clear BK24116
  clear HB
  clear h0_ h1_ h2_ h3_ h4_ h5_ h6_ h7_ h8_ h9_ h10_ h11_ h12_ h13_ h14_
  have HO24104 := n0_
  have HO24114 := n1_
  have HO24119 := n2_
  have HO24122 := n3_
  have HO24133 := n4_
  have BK24105 := n5_
  have BK24116 := n6_
  have BK24135 := n7_
  have GW24135 := n8_
  have GE24135 := n9_
  have NB24105_24135 := n10_
  have NB24135_24105 := n11_
  have NB24116_24135 := n12_
  have NB24135_24116 := n13_
  have HB := n14_
  clear n0_ n1_ n2_ n3_ n4_ n5_ n6_ n7_ n8_ n9_ n10_ n11_ n12_ n13_ n14_
  have hHeld : w46.cell? ⟨gb24105, 0, none⟩ = some (.int .i64 6) ∧ w46.cell? ⟨gb24105, 1, none⟩ = some (.int .i64 4) ∧ w46.cell? ⟨gb24105, 2, none⟩ = some (.int .i64 0) ∧ w46.cell? ⟨gb24105, 3, none⟩ = some (.int .i64 0) ∧ w46.cell? ⟨gb24105, 4, none⟩ = some (.int .i64 0) ∧ w46.cell? ⟨gb24105, 5, none⟩ = some (.slice Ao23 y24102.length co23) ∧ w46.cell? (ad24124.add (t24123).toNat) = some (.string (rdOf ByteArray.empty y24117 t24123)) := hS_
  obtain ⟨Ao52, co52, eo52⟩ := Kd.R_slice HO24133.out
  (first | subst eo52 | (injection eo52 with f1_ f2_ f3_; have f4_ := f1_.symm; have f5_ := f3_.symm; clear f1_ f2_ f3_; subst f4_; subst f5_))
  refine norm_ (a' := ?_) ?_ ?_
  rotate_left
  · simp only [putAll, Act.put, List.setIfInBounds_toArray, List.set_cons_zero, List.set_cons_succ]
    rfl
  refine one_ (i := 11) (N := none) #[true, true, true, true, true, true, true, true, true, true, true, true, false] rfl rfl (one_of HT_.out (by kernel_rfl)) (by decide) (fun K hK => ?_)
  have hs47 : w46.cell? ⟨gb24135, 0, none⟩ = some (.int .i64 0) := (blk_cell BK24135.out 0).trans rfl
  have hfs47 := blk_frozen BK24135.out 0
  have hns47_0 := NB24105_24135.out
  have hns47_1 := NB24116_24135.out
  have hms47_0 := NB24135_24105.out
  have hms47_1 := NB24135_24116.out
  have hs48 : w46.cell? ⟨gb24135, 1, none⟩ = some (.int .i64 0) := (blk_cell BK24135.out 1).trans rfl
  have hfs48 := blk_frozen BK24135.out 1
  have hns48_0 := NB24105_24135.out
  have hns48_1 := NB24116_24135.out
  have hms48_0 := NB24135_24105.out
  have hms48_1 := NB24135_24116.out
  have hs49 : w46.cell? ⟨gb24135, 2, none⟩ = some (.int .i64 0) := (blk_cell BK24135.out 2).trans rfl
  have hfs49 := blk_frozen BK24135.out 2
  have hns49_0 := NB24105_24135.out
  have hns49_1 := NB24116_24135.out
  have hms49_0 := NB24135_24105.out
  have hms49_1 := NB24135_24116.out
  have hs50 : w46.cell? ⟨gb24135, 3, none⟩ = some (.int .i64 0) := (blk_cell BK24135.out 3).trans rfl
  have hfs50 := blk_frozen BK24135.out 3
  have hns50_0 := NB24105_24135.out
  have hns50_1 := NB24116_24135.out
  have hms50_0 := NB24135_24105.out
  have hms50_1 := NB24135_24116.out
  have hs51 : w46.cell? ⟨gb24135, 4, none⟩ = some (.int .i64 0) := (blk_cell BK24135.out 4).trans rfl
  have hfs51 := blk_frozen BK24135.out 4
  have hns51_0 := NB24105_24135.out
  have hns51_1 := NB24116_24135.out
  have hms51_0 := NB24135_24105.out
  have hms51_1 := NB24135_24116.out
  have hs53 : w46.cell? ⟨gb24135, 5, none⟩ = some (.slice none 0 0) := (blk_cell BK24135.out 5).trans rfl
  have hfs53 := blk_frozen BK24135.out 5
  have hns53_0 := NB24105_24135.out
  have hns53_1 := NB24116_24135.out
  have hms53_0 := NB24135_24105.out
  have hms53_1 := NB24135_24116.out
  refine skip_ (w1 := ?_) (by rfl) rfl ?_ ?_
  rotate_left
  · go_simp
    rfl
  refine hK.out _ _ ⟨((cell_far (p := ⟨gb24135, _, none⟩) NB24105_24135.out _).trans (((cell_far (p := ⟨gb24135, _, none⟩) NB24105_24135.out _).trans (((cell_far (p := ⟨gb24135, _, none⟩) NB24105_24135.out _).trans (((cell_far (p := ⟨gb24135, _, none⟩) NB24105_24135.out _).trans (((cell_far (p := ⟨gb24135, _, none⟩) NB24105_24135.out _).trans (((cell_far (p := ⟨gb24135, _, none⟩) NB24105_24135.out _).trans (hHeld.1)))))))))))), ((cell_far (p := ⟨gb24135, _, none⟩) NB24105_24135.out _).trans (((cell_far (p := ⟨gb24135, _, none⟩) NB24105_24135.out _).trans (((cell_far (p := ⟨gb24135, _, none⟩) NB24105_24135.out _).trans (((cell_far (p := ⟨gb24135, _, none⟩) NB24105_24135.out _).trans (((cell_far (p := ⟨gb24135, _, none⟩) NB24105_24135.out _).trans (((cell_far (p := ⟨gb24135, _, none⟩) NB24105_24135.out _).trans (hHeld.2.1)))))))))))), ((cell_far (p := ⟨gb24135, _, none⟩) NB24105_24135.out _).trans (((cell_far (p := ⟨gb24135, _, none⟩) NB24105_24135.out _).trans (((cell_far (p := ⟨gb24135, _, none⟩) NB24105_24135.out _).trans (((cell_far (p := ⟨gb24135, _, none⟩) NB24105_24135.out _).trans (((cell_far (p := ⟨gb24135, _, none⟩) NB24105_24135.out _).trans (((cell_far (p := ⟨gb24135, _, none⟩) NB24105_24135.out _).trans (hHeld.2.2.1)))))))))))), ((cell_far (p := ⟨gb24135, _, none⟩) NB24105_24135.out _).trans (((cell_far (p := ⟨gb24135, _, none⟩) NB24105_24135.out _).trans (((cell_far (p := ⟨gb24135, _, none⟩) NB24105_24135.out _).trans (((cell_far (p := ⟨gb24135, _, none⟩) NB24105_24135.out _).trans (((cell_far (p := ⟨gb24135, _, none⟩) NB24105_24135.out _).trans (((cell_far (p := ⟨gb24135, _, none⟩) NB24105_24135.out _).trans (hHeld.2.2.2.1)))))))))))), ((cell_far (p := ⟨gb24135, _, none⟩) NB24105_24135.out _).trans (((cell_far (p := ⟨gb24135, _, none⟩) NB24105_24135.out _).trans (((cell_far (p := ⟨gb24135, _, none⟩) NB24105_24135.out _).trans (((cell_far (p := ⟨gb24135, _, none⟩) NB24105_24135.out _).trans (((cell_far (p := ⟨gb24135, _, none⟩) NB24105_24135.out _).trans (((cell_far (p := ⟨gb24135, _, none⟩) NB24105_24135.out _).trans (hHeld.2.2.2.2.1)))))))))))), ((cell_far (p := ⟨gb24135, _, none⟩) NB24105_24135.out _).trans (((cell_far (p := ⟨gb24135, _, none⟩) NB24105_24135.out _).trans (((cell_far (p := ⟨gb24135, _, none⟩) NB24105_24135.out _).trans (((cell_far (p := ⟨gb24135, _, none⟩) NB24105_24135.out _).trans (((cell_far (p := ⟨gb24135, _, none⟩) NB24105_24135.out _).trans (((cell_far (p := ⟨gb24135, _, none⟩) NB24105_24135.out _).trans (hHeld.2.2.2.2.2.1)))))))))))), ((cell_far (p := ⟨gb24135, _, none⟩) (by first | exact Kd.own_blk (Kd.R_ne HO24119.out BK24135.out (by decide)) | (rw [add_block]; exact Kd.own_blk (Kd.R_ne HO24119.out BK24135.out (by decide))) | (show (Addr.add _ _).block ≠ _; rw [add_block]; exact Kd.own_blk (Kd.R_ne HO24119.out BK24135.out (by decide))) | (dsimp only; exact Kd.own_blk (Kd.R_ne HO24119.out BK24135.out (by decide)))) _).trans (((cell_far (p := ⟨gb24135, _, none⟩) (by first | exact Kd.own_blk (Kd.R_ne HO24119.out BK24135.out (by decide)) | (rw [add_block]; exact Kd.own_blk (Kd.R_ne HO24119.out BK24135.out (by decide))) | (show (Addr.add _ _).block ≠ _; rw [add_block]; exact Kd.own_blk (Kd.R_ne HO24119.out BK24135.out (by decide))) | (dsimp only; exact Kd.own_blk (Kd.R_ne HO24119.out BK24135.out (by decide)))) _).trans (((cell_far (p := ⟨gb24135, _, none⟩) (by first | exact Kd.own_blk (Kd.R_ne HO24119.out BK24135.out (by decide)) | (rw [add_block]; exact Kd.own_blk (Kd.R_ne HO24119.out BK24135.out (by decide))) | (show (Addr.add _ _).block ≠ _; rw [add_block]; exact Kd.own_blk (Kd.R_ne HO24119.out BK24135.out (by decide))) | (dsimp only; exact Kd.own_blk (Kd.R_ne HO24119.out BK24135.out (by decide)))) _).trans (((cell_far (p := ⟨gb24135, _, none⟩) (by first | exact Kd.own_blk (Kd.R_ne HO24119.out BK24135.out (by decide)) | (rw [add_block]; exact Kd.own_blk (Kd.R_ne HO24119.out BK24135.out (by decide))) | (show (Addr.add _ _).block ≠ _; rw [add_block]; exact Kd.own_blk (Kd.R_ne HO24119.out BK24135.out (by decide))) | (dsimp only; exact Kd.own_blk (Kd.R_ne HO24119.out BK24135.out (by decide)))) _).trans (((cell_far (p := ⟨gb24135, _, none⟩) (by first | exact Kd.own_blk (Kd.R_ne HO24119.out BK24135.out (by decide)) | (rw [add_block]; exact Kd.own_blk (Kd.R_ne HO24119.out BK24135.out (by decide))) | (show (Addr.add _ _).block ≠ _; rw [add_block]; exact Kd.own_blk (Kd.R_ne HO24119.out BK24135.out (by decide))) | (dsimp only; exact Kd.own_blk (Kd.R_ne HO24119.out BK24135.out (by decide)))) _).trans (((cell_far (p := ⟨gb24135, _, none⟩) (by first | exact Kd.own_blk (Kd.R_ne HO24119.out BK24135.out (by decide)) | (rw [add_block]; exact Kd.own_blk (Kd.R_ne HO24119.out BK24135.out (by decide))) | (show (Addr.add _ _).block ≠ _; rw [add_block]; exact Kd.own_blk (Kd.R_ne HO24119.out BK24135.out (by decide))) | (dsimp only; exact Kd.own_blk (Kd.R_ne HO24119.out BK24135.out (by decide)))) _).trans (hHeld.2.2.2.2.2.2))))))))))))⟩ (fun hHeld => ?_)
  clear hK K
  refine pure_ (i := 12) (N := some 11) (v := ?_) (a' := ?_) #[true, true, true, true, true, true, true, true, true, true, true, true, true] rfl rfl (any_of HT_.out (by kernel_rfl)) (fun _ _ _ h => h) (Or.inl ⟨by rfl, ?_⟩) ?_ ?_
  rotate_left
  · intro w'
    go_simp
    first | with_reducible rfl | (rw [if_neg (by decide)])
  rotate_left
  · simp only [Act.put, List.setIfInBounds_toArray, List.set_cons_zero, List.set_cons_succ, i64_w, i32_w]
    rfl
  refine done_ (done_of HT_.out (by kernel_rfl)) ?_
  have hnb54 := NB24116_24105.out
  have hnc54 := NB24105_24116.out
  have hnb55 := NB24116_24135.out
  have hnc55 := NB24135_24116.out
  have hcz56_0 : w46.cell? ⟨gb24116, 0, none⟩ = some (.int .i64 t24107) := (blk_cell BK24116.out 0).trans rfl
  have hcz56_1 : w46.cell? ⟨gb24116, 1, none⟩ = some (.int .i64 t24108) := (blk_cell BK24116.out 1).trans rfl
  have hcz56_2 : w46.cell? ⟨gb24116, 2, none⟩ = some (.int .i64 t24109) := (blk_cell BK24116.out 2).trans rfl
  have hcz56_3 : w46.cell? ⟨gb24116, 3, none⟩ = some (.int .i64 t24110) := (blk_cell BK24116.out 3).trans rfl
  have hcz56_4 : w46.cell? ⟨gb24116, 4, none⟩ = some (.int .i64 t24111) := (blk_cell BK24116.out 4).trans rfl
  have hcz56_5 : w46.cell? ⟨gb24116, 5, none⟩ = some (.slice Ao36 t24112.length co36) := (blk_cell BK24116.out 5).trans rfl
  have hfz56_0 := blk_frozen BK24116.out 0
  have hfz56_1 := blk_frozen BK24116.out 1
  have hfz56_2 := blk_frozen BK24116.out 2
  have hfz56_3 := blk_frozen BK24116.out 3
  have hfz56_4 := blk_frozen BK24116.out 4
  have hfz56_5 := blk_frozen BK24116.out 5
  try go_wp2_with (first | (go_at_call 29; (refine (frame_Same.calls k t24107 t24108 t24109 t24110 t24111 _ _ t24112 3 5 6 2 7 _ _ ([] : List (S26)) true _ ?side1 ?side2 ?side3 ?side4 A17.out).mono ?_); (case side1 => refine (Kd.R_reads' (e := 26) (base := w.heap.size) (ok := fun k_ => some k_ ≠ (.slice Ao52 t24131.length co52 : Value).ownBlock) (n := t24112.length) (c := co36) ?_).2.2; exact (by (with_reducible repeat (first | apply Kd.R_alloc | apply Kd.R_drewN | apply Kd.R_drew)); exact (Kd.R_mono (Kd.R_far (p := ⟨gb24135, 5, none⟩) (Kd.R_far (p := ⟨gb24135, 4, none⟩) (Kd.R_far (p := ⟨gb24135, 3, none⟩) (Kd.R_far (p := ⟨gb24135, 2, none⟩) (Kd.R_far (p := ⟨gb24135, 1, none⟩) (Kd.R_far (p := ⟨gb24135, 0, none⟩) (Kd.R_types HO24114.out BK24135.out (by decide)) (fun _ hk => hk.2) (.int .i64 t24126)) (fun _ hk => hk.2) (.int .i64 t24127)) (fun _ hk => hk.2) (.int .i64 t24128)) (fun _ hk => hk.2) (.int .i64 t24129)) (fun _ hk => hk.2) (.int .i64 t24130)) (fun _ hk => hk.2) (.slice Ao52 t24131.length co52)) (fun _ h_ => h_.1)))); (case side2 => exact (Kd.R_reads' HO24114.out).2.1); (case side3 => exact Kd.C_nil _ _); (case side4 => exact Nat.le_refl _); rintro e w57 ⟨rfl, hb⟩; have n0_ := Aside0.mk (Kd.R_below (by (with_reducible repeat (first | apply Kd.R_alloc | apply Kd.R_drewN | apply Kd.R_drew)); exact (Kd.R_mono (Kd.R_far (p := ⟨gb24135, 5, none⟩) (Kd.R_far (p := ⟨gb24135, 4, none⟩) (Kd.R_far (p := ⟨gb24135, 3, none⟩) (Kd.R_far (p := ⟨gb24135, 2, none⟩) (Kd.R_far (p := ⟨gb24135, 1, none⟩) (Kd.R_far (p := ⟨gb24135, 0, none⟩) (Kd.R_types HO24104.out BK24135.out (by decide)) (fun _ hk => hk.2) (.int .i64 t24126)) (fun _ hk => hk.2) (.int .i64 t24127)) (fun _ hk => hk.2) (.int .i64 t24128)) (fun _ hk => hk.2) (.int .i64 t24129)) (fun _ hk => hk.2) (.int .i64 t24130)) (fun _ hk => hk.2) (.slice Ao52 t24131.length co52)) (fun _ h_ => h_.1))) hb); have n1_ := Aside0.mk (Kd.R_below (by (with_reducible repeat (first | apply Kd.R_alloc | apply Kd.R_drewN | apply Kd.R_drew)); exact (Kd.R_mono (Kd.R_far (p := ⟨gb24135, 5, none⟩) (Kd.R_far (p := ⟨gb24135, 4, none⟩) (Kd.R_far (p := ⟨gb24135, 3, none⟩) (Kd.R_far (p := ⟨gb24135, 2, none⟩) (Kd.R_far (p := ⟨gb24135, 1, none⟩) (Kd.R_far (p := ⟨gb24135, 0, none⟩) (Kd.R_types HO24114.out BK24135.out (by decide)) (fun _ hk => hk.2) (.int .i64 t24126)) (fun _ hk => hk.2) (.int .i64 t24127)) (fun _ hk => hk.2) (.int .i64 t24128)) (fun _ hk => hk.2) (.int .i64 t24129)) (fun _ hk => hk.2) (.int .i64 t24130)) (fun _ hk => hk.2) (.slice Ao52 t24131.length co52)) (fun _ h_ => h_.1))) hb); have n2_ := Aside0.mk (Kd.R_below (by (with_reducible repeat (first | apply Kd.R_alloc | apply Kd.R_drewN | apply Kd.R_drew)); exact (Kd.R_mono (Kd.R_far (p := ⟨gb24135, 5, none⟩) (Kd.R_far (p := ⟨gb24135, 4, none⟩) (Kd.R_far (p := ⟨gb24135, 3, none⟩) (Kd.R_far (p := ⟨gb24135, 2, none⟩) (Kd.R_far (p := ⟨gb24135, 1, none⟩) (Kd.R_far (p := ⟨gb24135, 0, none⟩) (Kd.R_types HO24119.out BK24135.out (by decide)) (fun _ hk => hk.2) (.int .i64 t24126)) (fun _ hk => hk.2) (.int .i64 t24127)) (fun _ hk => hk.2) (.int .i64 t24128)) (fun _ hk => hk.2) (.int .i64 t24129)) (fun _ hk => hk.2) (.int .i64 t24130)) (fun _ hk => hk.2) (.slice Ao52 t24131.length co52)) (fun _ h_ => h_.1))) hb); have n3_ := Aside0.mk (Kd.R_below (by (with_reducible repeat (first | apply Kd.R_alloc | apply Kd.R_drewN | apply Kd.R_drew)); exact (Kd.R_mono (Kd.R_far (p := ⟨gb24135, 5, none⟩) (Kd.R_far (p := ⟨gb24135, 4, none⟩) (Kd.R_far (p := ⟨gb24135, 3, none⟩) (Kd.R_far (p := ⟨gb24135, 2, none⟩) (Kd.R_far (p := ⟨gb24135, 1, none⟩) (Kd.R_far (p := ⟨gb24135, 0, none⟩) (Kd.R_types HO24122.out BK24135.out (by decide)) (fun _ hk => hk.2) (.int .i64 t24126)) (fun _ hk => hk.2) (.int .i64 t24127)) (fun _ hk => hk.2) (.int .i64 t24128)) (fun _ hk => hk.2) (.int .i64 t24129)) (fun _ hk => hk.2) (.int .i64 t24130)) (fun _ hk => hk.2) (.slice Ao52 t24131.length co52)) (fun _ h_ => h_.1))) hb); have n4_ := Aside0.mk (Kd.R_below (by (with_reducible repeat (first | apply Kd.R_alloc | apply Kd.R_drewN | apply Kd.R_drew)); exact (Kd.R_mono (Kd.R_far (p := ⟨gb24135, 5, none⟩) (Kd.R_far (p := ⟨gb24135, 4, none⟩) (Kd.R_far (p := ⟨gb24135, 3, none⟩) (Kd.R_far (p := ⟨gb24135, 2, none⟩) (Kd.R_far (p := ⟨gb24135, 1, none⟩) (Kd.R_far (p := ⟨gb24135, 0, none⟩) (Kd.R_types HO24133.out BK24135.out (by decide)) (fun _ hk => hk.2) (.int .i64 t24126)) (fun _ hk => hk.2) (.int .i64 t24127)) (fun _ hk => hk.2) (.int .i64 t24128)) (fun _ hk => hk.2) (.int .i64 t24129)) (fun _ hk => hk.2) (.int .i64 t24130)) (fun _ hk => hk.2) (.slice Ao52 t24131.length co52)) (fun _ h_ => h_.1))) hb); have n5_ := Aside0.mk (blk_below (g := gb24105) (o := .cells #[.int .i64 6, .int .i64 4, .int .i64 0, .int .i64 0, .int .i64 0, .slice Ao23 y24102.length co23] 24 (0, 0)) (by (with_reducible repeat (first | refine blk_drewN ?_ _ | refine blk_drew ?_ | refine blk_alloc ?_ _)); refine blk_far ?_ NB24105_24135.out _; (with_reducible repeat (first | refine blk_drewN ?_ _ | refine blk_drew ?_ | refine blk_alloc ?_ _)); refine blk_far ?_ NB24105_24135.out _; (with_reducible repeat (first | refine blk_drewN ?_ _ | refine blk_drew ?_ | refine blk_alloc ?_ _)); refine blk_far ?_ NB24105_24135.out _; (with_reducible repeat (first | refine blk_drewN ?_ _ | refine blk_drew ?_ | refine blk_alloc ?_ _)); refine blk_far ?_ NB24105_24135.out _; (with_reducible repeat (first | refine blk_drewN ?_ _ | refine blk_drew ?_ | refine blk_alloc ?_ _)); refine blk_far ?_ NB24105_24135.out _; (with_reducible repeat (first | refine blk_drewN ?_ _ | refine blk_drew ?_ | refine blk_alloc ?_ _)); refine blk_far ?_ NB24105_24135.out _; (with_reducible repeat (first | refine blk_drewN ?_ _ | refine blk_drew ?_ | refine blk_alloc ?_ _)); exact BK24105.out) hb); have n6_ := Aside0.mk (blk_below (g := gb24116) (o := .cells #[.int .i64 t24107, .int .i64 t24108, .int .i64 t24109, .int .i64 t24110, .int .i64 t24111, .slice Ao36 t24112.length co36] 29 (0, 0)) (by (with_reducible repeat (first | refine blk_drewN ?_ _ | refine blk_drew ?_ | refine blk_alloc ?_ _)); refine blk_far ?_ NB24116_24135.out _; (with_reducible repeat (first | refine blk_drewN ?_ _ | refine blk_drew ?_ | refine blk_alloc ?_ _)); refine blk_far ?_ NB24116_24135.out _; (with_reducible repeat (first | refine blk_drewN ?_ _ | refine blk_drew ?_ | refine blk_alloc ?_ _)); refine blk_far ?_ NB24116_24135.out _; (with_reducible repeat (first | refine blk_drewN ?_ _ | refine blk_drew ?_ | refine blk_alloc ?_ _)); refine blk_far ?_ NB24116_24135.out _; (with_reducible repeat (first | refine blk_drewN ?_ _ | refine blk_drew ?_ | refine blk_alloc ?_ _)); refine blk_far ?_ NB24116_24135.out _; (with_reducible repeat (first | refine blk_drewN ?_ _ | refine blk_drew ?_ | refine blk_alloc ?_ _)); refine blk_far ?_ NB24116_24135.out _; (with_reducible repeat (first | refine blk_drewN ?_ _ | refine blk_drew ?_ | refine blk_alloc ?_ _)); exact BK24116.out) hb); have n7_ := Aside0.mk (blk_below (g := gb24135) (o := .cells #[.int .i64 t24126, .int .i64 t24127, .int .i64 t24128, .int .i64 t24129, .int .i64 t24130, .slice Ao52 t24131.length co52] 29 (0, 0)) (by (with_reducible repeat (first | refine blk_drewN ?_ _ | refine blk_drew ?_ | refine blk_alloc ?_ _)); refine blk_put (cs := #[.int .i64 t24126, .int .i64 t24127, .int .i64 t24128, .int .i64 t24129, .int .i64 t24130, .slice none 0 0]) ?_ 5 _ rfl; (with_reducible repeat (first | refine blk_drewN ?_ _ | refine blk_drew ?_ | refine blk_alloc ?_ _)); refine blk_put (cs := #[.int .i64 t24126, .int .i64 t24127, .int .i64 t24128, .int .i64 t24129, .int .i64 0, .slice none 0 0]) ?_ 4 _ rfl; (with_reducible repeat (first | refine blk_drewN ?_ _ | refine blk_drew ?_ | refine blk_alloc ?_ _)); refine blk_put (cs := #[.int .i64 t24126, .int .i64 t24127, .int .i64 t24128, .int .i64 0, .int .i64 0, .slice none 0 0]) ?_ 3 _ rfl; (with_reducible repeat (first | refine blk_drewN ?_ _ | refine blk_drew ?_ | refine blk_alloc ?_ _)); refine blk_put (cs := #[.int .i64 t24126, .int .i64 t24127, .int .i64 0, .int .i64 0, .int .i64 0, .slice none 0 0]) ?_ 2 _ rfl; (with_reducible repeat (first | refine blk_drewN ?_ _ | refine blk_drew ?_ | refine blk_alloc ?_ _)); refine blk_put (cs := #[.int .i64 t24126, .int .i64 0, .int .i64 0, .int .i64 0, .int .i64 0, .slice none 0 0]) ?_ 1 _ rfl; (with_reducible repeat (first | refine blk_drewN ?_ _ | refine blk_drew ?_ | refine blk_alloc ?_ _)); refine blk_put (cs := #[.int .i64 0, .int .i64 0, .int .i64 0, .int .i64 0, .int .i64 0, .slice none 0 0]) ?_ 0 _ rfl; (with_reducible repeat (first | refine blk_drewN ?_ _ | refine blk_drew ?_ | refine blk_alloc ?_ _)); exact BK24135.out) hb); have n8_ := Aside0.mk (below_step (pH_ HB.out) hb); clear HO24104; clear HO24114; clear HO24119; clear HO24122; clear HO24133; clear BK24105; clear BK24116; clear BK24135; clear HB; have HO24104 := n0_; have HO24114 := n1_; have HO24119 := n2_; have HO24122 := n3_; have HO24133 := n4_; have BK24105 := n5_; have BK24116 := n6_; have BK24135 := n7_; have HB := n8_; clear n0_ n1_ n2_ n3_ n4_ n5_ n6_ n7_ n8_; (try clear hb); (try clear hb2); (try clear hk); (try clear hi); obtain ⟨Ao58, co58, eo58⟩ := Kd.R_slice HO24122.out; subst eo58; have p24137 : 0 ≤ (t24123 : Int) := of_decide_eq_true (by first | (with_reducible assumption) | assumption); have q24137 : t24123 < (y24120.length : Int) := of_decide_eq_true (by first | (with_reducible assumption) | assumption); obtain ⟨ad24137, e24137, hx24137_0⟩ := Kd.at_int (Kd.R_reads' HO24122.out).2.2 t24123 p24137 q24137; cases e24137; replace p24137 := eq_true p24137; replace q24137 := eq_true q24137))
  go_ret
  exact ⟨by first | rfl | (simp [errW_none, errW_some] <;> rfl) | (simp [*, errW_none, errW_some] <;> rfl), by repeat (first | (with_reducible first | exact HB.out | apply below_alloc | apply pw_below_drewN | apply below_drew1 | refine below_set ?_ GE24105.out | refine below_set ?_ GE24116.out | refine below_set ?_ GE24135.out) | exact HB.out)⟩
def plaitinglaw5_FrameKnown.Pure : Prop := ∀ (a0 : Int), (Lit.int .i64 a0).wf = true → ∃ k, plaitinglaw5_FrameKnown.f k a0 = some true
theorem plaitinglaw5_FrameKnown.walk (P : plaitinglaw5_FrameKnown.Pure) (a0 : Int) (w : World) (w0 : (Lit.int .i64 a0).wf = true) :
    Calls Try.prog 12 #[.int .i64 a0] w fun e w' => e = .returned (.bool true) ∧ Below w.heap.size w w' := by
  obtain ⟨k, h⟩ := P a0 w0
  refine (plaitinglaw5_FrameKnown.calls k a0 true w rfl h).mono ?_
  rintro e w' ⟨rfl, hd⟩
  exact ⟨rfl, hd⟩
end Go.Proofs.Ytcpohmfkmgcjkaa.P
