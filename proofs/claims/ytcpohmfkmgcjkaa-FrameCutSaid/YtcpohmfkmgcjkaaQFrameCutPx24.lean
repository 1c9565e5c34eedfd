/- Printed by a program of this session (myprint) out of the translation: the functions as plain Lean functions, and that the calls compute them. What counts is Lean's check. -/
import Derived.Test.YtcpohmfkmgcjkaaQFrameCutOks
import Derived.Test.YtcpohmfkmgcjkaaQFrameCutPx0
import Derived.Test.YtcpohmfkmgcjkaaQFrameCutPx1
import Derived.Test.YtcpohmfkmgcjkaaQFrameCutPx8
import Derived.Test.YtcpohmfkmgcjkaaQFrameCutPx10
import Derived.Test.YtcpohmfkmgcjkaaQFrameCutPx12
namespace Go.Proofs.Ytcpohmfkmgcjkaa.P
open Go.RowKit Go.Proofs.YtcpohmfkmgcjkaaW.PrintWords Go.Proofs.YtcpohmfkmgcjkaaW.PrintLast Go.Proofs.YtcpohmfkmgcjkaaW.PrintMore
attribute [local go_sem] max2_int min2_int max_two min_two max_three min_three max_four min_four
set_option linter.unusedVariables false
set_option linter.unusedSimpArgs false
attribute [-simp] ByteArray.size_extract ByteArray.size_append ByteArray.extract_append_extract
attribute [-go_sem] ByteArray.size_append'
def plaitinglaw5_FrameCut.f (k : Nat) (a0_0 : Int) (a0_1 : Int) (a0_2 : Int) (a0_3 : Int) (a0_4 : Int) (l0_5 : List Int) (a1_0 : Int) (a1_1 : Int) (a1_2 : Int) (a1_3 : Int) (a1_4 : Int) (l1_5 : List (S26)) (l2 : List Int) (a3 : Int) (a4 : Int) : Option (Bool) := (plaitinglaw5_known.f).bind fun t16103 => (if t16103 = true then ((plaitinglaw3_Make.f k a0_0 a0_1 a0_2 a0_3 a0_4 l0_5).bind fun bt16104 => ((plaitinglaw5_Make.f k bt16104.1 bt16104.2.1 bt16104.2.2.1 bt16104.2.2.2.1 bt16104.2.2.2.2.1 bt16104.2.2.2.2.2 a1_0 a1_1 a1_2 a1_3 a1_4 l1_5 l2).bind fun bt16113 => ((frame_Text.f bt16104.1 bt16104.2.1 bt16104.2.2.1 bt16104.2.2.2.1 bt16104.2.2.2.2.1 bt16104.2.2.2.2.2 bt16113.1 bt16113.2.1 bt16113.2.2.1 bt16113.2.2.2.1 bt16113.2.2.2.2.1 bt16113.2.2.2.2.2).bind fun t16121 => ((plaitinglaw5_within.f a3 (t16121.size : Int)).bind fun t16122 => (if 0 ≤ t16122 then (if t16122 ≤ (t16121.size : Int) then ((frame_Read.f bt16104.1 bt16104.2.1 bt16104.2.2.1 bt16104.2.2.2.1 bt16104.2.2.2.2.1 bt16104.2.2.2.2.2 (t16121.extract 0 (t16122 : Int).toNat)).bind fun bt16123 => ((some (([(⟨#[48]⟩ : ByteArray), (⟨#[49]⟩ : ByteArray), (⟨#[35]⟩ : ByteArray), (⟨#[46]⟩ : ByteArray)] : List ByteArray) : List ByteArray)).bind fun y16133 => ((plaitinglaw5_within.f a4 4).bind fun t16136 => (if 0 ≤ t16136 then (if t16136 < (y16133.length : Int) then (if t16121.size + (rdOf ByteArray.empty y16133 t16136).size ≤ 9223372036854775807 then ((frame_Read.f bt16104.1 bt16104.2.1 bt16104.2.2.1 bt16104.2.2.2.1 bt16104.2.2.2.2.1 bt16104.2.2.2.2.2 (t16121 ++ (rdOf ByteArray.empty y16133 t16136))).bind fun bt16138 => (if bt16123.2.2.2.2.2.2 = 4 then (if bt16123.1 = 0 then (if bt16138.2.2.2.2.2.2 = 4 then (some (decide ((t16121.size : Int) > 0))) else (some false)) else (some false)) else (some false))) else (none)) else (none)) else (none))))) else (none)) else (none)))))) else (some false))
def plaitinglaw5_FrameCut.T5 : Bool × List (List Nat × List Nat) := (true, [([], []), ([], []), ([], []), ([], []), ([3], [3]), ([2, 4], [2, 4]), ([1, 5], [1, 5]), ([0, 6, 5], [0, 6]), ([7], [7]), ([8], [8]), ([8], [8]), ([], []), ([11, 9, 7, 0, 1, 2, 3, 4, 5, 6, 7, 8, 9, 11], [9, 11]), ([10, 12, 0, 1, 2, 3, 4, 5, 6, 7, 8, 9, 10, 11, 12], [10])])
def plaitinglaw5_FrameCut.B5 : List Nat := [0, 0, 0, 0, 8, 28, 62, 127, 255, 511, 511, 0, 3071, 8191]
theorem plaitinglaw5_FrameCut.tab5 : rtab .any (opsOf Try.f8 5) = plaitinglaw5_FrameCut.T5 := by kernel_rfl
theorem plaitinglaw5_FrameCut.bits5 : waitsOk plaitinglaw5_FrameCut.T5.2 plaitinglaw5_FrameCut.B5 = true := by kernel_rfl
def plaitinglaw5_FrameCut.T6 : Bool × List (List Nat × List Nat) := (true, [([], []), ([], []), ([], []), ([], []), ([3], [3]), ([2, 4], [2, 4]), ([5], [5]), ([1, 6], [1, 6]), ([0, 7, 4], [0, 7]), ([8], [8]), ([9], [9]), ([9], [9]), ([], []), ([12, 10, 8, 0, 1, 2, 3, 4, 5, 6, 7, 8, 9, 10, 12], [10, 12]), ([11, 13, 0, 1, 2, 3, 4, 5, 6, 7, 8, 9, 10, 11, 12, 13], [11])])
def plaitinglaw5_FrameCut.B6 : List Nat := [0, 0, 0, 0, 8, 28, 60, 126, 255, 511, 1023, 1023, 0, 6143, 16383]
theorem plaitinglaw5_FrameCut.tab6 : rtab .any (opsOf Try.f8 6) = plaitinglaw5_FrameCut.T6 := by kernel_rfl
theorem plaitinglaw5_FrameCut.bits6 : waitsOk plaitinglaw5_FrameCut.T6.2 plaitinglaw5_FrameCut.B6 = true := by kernel_rfl
set_option maxHeartbeats 8000000 in
set_option maxRecDepth 100000 in
theorem plaitinglaw5_FrameCut.calls (k : Nat) (a0_0 : Int) (a0_1 : Int) (a0_2 : Int) (a0_3 : Int) (a0_4 : Int) (A0_5 : Option Addr) (c0_5 : Nat) (l0_5 : List Int) (a1_0 : Int) (a1_1 : Int) (a1_2 : Int) (a1_3 : Int) (a1_4 : Int) (A1_5 : Option Addr) (c1_5 : Nat) (l1_5 : List (S26)) (A2 : Option Addr) (c2 : Nat) (l2 : List Int) (a3 : Int) (a4 : Int) (r : Bool) (w : World) (hr0_5 : Kd.C (Kd.int .i64) w A0_5 l0_5.length l0_5) (hc0_5 : l0_5.length ≤ c0_5) (hr1_5 : Kd.C k26 w A1_5 l1_5.length l1_5) (hc1_5 : l1_5.length ≤ c1_5) (hr2 : Kd.C (Kd.int .i64) w A2 l2.length l2) (hc2 : l2.length ≤ c2) (hrt : r = true) (h : plaitinglaw5_FrameCut.f k a0_0 a0_1 a0_2 a0_3 a0_4 l0_5 a1_0 a1_1 a1_2 a1_3 a1_4 l1_5 l2 a3 a4 = some r) :
    Calls Try.prog 8 #[.agg #[.int .i64 a0_0, .int .i64 a0_1, .int .i64 a0_2, .int .i64 a0_3, .int .i64 a0_4, .slice A0_5 l0_5.length c0_5], .agg #[.int .i64 a1_0, .int .i64 a1_1, .int .i64 a1_2, .int .i64 a1_3, .int .i64 a1_4, .slice A1_5 l1_5.length c1_5], .slice A2 l2.length c2, .int .i64 a3, .int .i64 a4] w fun e w' => e = .returned (.bool r) ∧ Below w.heap.size w w' := by
  have HRT := Aside0.mk hrt
  clear hrt
  have hu24 := Try.underlying24
  have hu29 := Try.underlying29
  have HR0_5 := Aside0.mk hr0_5
  have HC0_5 := Aside0.mk hc0_5
  clear hr0_5 hc0_5
  have HR1_5 := Aside0.mk hr1_5
  have HC1_5 := Aside0.mk hc1_5
  clear hr1_5 hc1_5
  have HR2 := Aside0.mk hr2
  have HC2 := Aside0.mk hc2
  clear hr2 hc2
  have HB := Aside0.mk (Below.refl w.heap.size w)
  have H : ((plaitinglaw5_known.f).bind fun t16103 => (if t16103 = true then ((plaitinglaw3_Make.f k a0_0 a0_1 a0_2 a0_3 a0_4 l0_5).bind fun bt16104 => ((plaitinglaw5_Make.f k bt16104.1 bt16104.2.1 bt16104.2.2.1 bt16104.2.2.2.1 bt16104.2.2.2.2.1 bt16104.2.2.2.2.2 a1_0 a1_1 a1_2 a1_3 a1_4 l1_5 l2).bind fun bt16113 => ((frame_Text.f bt16104.1 bt16104.2.1 bt16104.2.2.1 bt16104.2.2.2.1 bt16104.2.2.2.2.1 bt16104.2.2.2.2.2 bt16113.1 bt16113.2.1 bt16113.2.2.1 bt16113.2.2.2.1 bt16113.2.2.2.2.1 bt16113.2.2.2.2.2).bind fun t16121 => ((plaitinglaw5_within.f a3 (t16121.size : Int)).bind fun t16122 => (if 0 ≤ t16122 then (if t16122 ≤ (t16121.size : Int) then ((frame_Read.f bt16104.1 bt16104.2.1 bt16104.2.2.1 bt16104.2.2.2.1 bt16104.2.2.2.2.1 bt16104.2.2.2.2.2 (t16121.extract 0 (t16122 : Int).toNat)).bind fun bt16123 => ((some (([(⟨#[48]⟩ : ByteArray), (⟨#[49]⟩ : ByteArray), (⟨#[35]⟩ : ByteArray), (⟨#[46]⟩ : ByteArray)] : List ByteArray) : List ByteArray)).bind fun y16133 => ((plaitinglaw5_within.f a4 4).bind fun t16136 => (if 0 ≤ t16136 then (if t16136 < (y16133.length : Int) then (if t16121.size + (rdOf ByteArray.empty y16133 t16136).size ≤ 9223372036854775807 then ((frame_Read.f bt16104.1 bt16104.2.1 bt16104.2.2.1 bt16104.2.2.2.1 bt16104.2.2.2.2.1 bt16104.2.2.2.2.2 (t16121 ++ (rdOf ByteArray.empty y16133 t16136))).bind fun bt16138 => (if bt16123.2.2.2.2.2.2 = 4 then (if bt16123.1 = 0 then (if bt16138.2.2.2.2.2.2 = 4 then (some (decide ((t16121.size : Int) > 0))) else (some false)) else (some false)) else (some false))) else (none)) else (none)) else (none))))) else (none)) else (none)))))) else (some false))) = some r := h
  clear h
  replace H := Option.bind_eq_some_iff.mp H
  obtain ⟨t16103, A60, H⟩ := H
  replace H : (if t16103 = true then ((plaitinglaw3_Make.f k a0_0 a0_1 a0_2 a0_3 a0_4 l0_5).bind fun bt16104 => ((plaitinglaw5_Make.f k bt16104.1 bt16104.2.1 bt16104.2.2.1 bt16104.2.2.2.1 bt16104.2.2.2.2.1 bt16104.2.2.2.2.2 a1_0 a1_1 a1_2 a1_3 a1_4 l1_5 l2).bind fun bt16113 => ((frame_Text.f bt16104.1 bt16104.2.1 bt16104.2.2.1 bt16104.2.2.2.1 bt16104.2.2.2.2.1 bt16104.2.2.2.2.2 bt16113.1 bt16113.2.1 bt16113.2.2.1 bt16113.2.2.2.1 bt16113.2.2.2.2.1 bt16113.2.2.2.2.2).bind fun t16121 => ((plaitinglaw5_within.f a3 (t16121.size : Int)).bind fun t16122 => (if 0 ≤ t16122 then (if t16122 ≤ (t16121.size : Int) then ((frame_Read.f bt16104.1 bt16104.2.1 bt16104.2.2.1 bt16104.2.2.2.1 bt16104.2.2.2.2.1 bt16104.2.2.2.2.2 (t16121.extract 0 (t16122 : Int).toNat)).bind fun bt16123 => ((some (([(⟨#[48]⟩ : ByteArray), (⟨#[49]⟩ : ByteArray), (⟨#[35]⟩ : ByteArray), (⟨#[46]⟩ : ByteArray)] : List ByteArray) : List ByteArray)).bind fun y16133 => ((plaitinglaw5_within.f a4 4).bind fun t16136 => (if 0 ≤ t16136 then (if t16136 < (y16133.length : Int) then (if t16121.size + (rdOf ByteArray.empty y16133 t16136).size ≤ 9223372036854775807 then ((frame_Read.f bt16104.1 bt16104.2.1 bt16104.2.2.1 bt16104.2.2.2.1 bt16104.2.2.2.2.1 bt16104.2.2.2.2.2 (t16121 ++ (rdOf ByteArray.empty y16133 t16136))).bind fun bt16138 => (if bt16123.2.2.2.2.2.2 = 4 then (if bt16123.1 = 0 then (if bt16138.2.2.2.2.2.2 = 4 then (some (decide ((t16121.size : Int) > 0))) else (some false)) else (some false)) else (some false))) else (none)) else (none)) else (none))))) else (none)) else (none)))))) else (some false)) = some r := H
  have A6 := Aside0.mk A60
  clear A60
  by_cases c7 : t16103 = true
  rotate_left
  · replace c7 := Bool.eq_false_iff.mpr c7
    subst c7
    have H1 : (some false) = some r := by rw [if_neg (show ¬ (false = true) by decide)] at H; exact H
    clear H
    have H := H1
    clear H1
    exact absurd ((Option.some.inj H).trans HRT.out) (by decide)
  subst c7
  have H1 : ((plaitinglaw3_Make.f k a0_0 a0_1 a0_2 a0_3 a0_4 l0_5).bind fun bt16104 => ((plaitinglaw5_Make.f k bt16104.1 bt16104.2.1 bt16104.2.2.1 bt16104.2.2.2.1 bt16104.2.2.2.2.1 bt16104.2.2.2.2.2 a1_0 a1_1 a1_2 a1_3 a1_4 l1_5 l2).bind fun bt16113 => ((frame_Text.f bt16104.1 bt16104.2.1 bt16104.2.2.1 bt16104.2.2.2.1 bt16104.2.2.2.2.1 bt16104.2.2.2.2.2 bt16113.1 bt16113.2.1 bt16113.2.2.1 bt16113.2.2.2.1 bt16113.2.2.2.2.1 bt16113.2.2.2.2.2).bind fun t16121 => ((plaitinglaw5_within.f a3 (t16121.size : Int)).bind fun t16122 => (if 0 ≤ t16122 then (if t16122 ≤ (t16121.size : Int) then ((frame_Read.f bt16104.1 bt16104.2.1 bt16104.2.2.1 bt16104.2.2.2.1 bt16104.2.2.2.2.1 bt16104.2.2.2.2.2 (t16121.extract 0 (t16122 : Int).toNat)).bind fun bt16123 => ((some (([(⟨#[48]⟩ : ByteArray), (⟨#[49]⟩ : ByteArray), (⟨#[35]⟩ : ByteArray), (⟨#[46]⟩ : ByteArray)] : List ByteArray) : List ByteArray)).bind fun y16133 => ((plaitinglaw5_within.f a4 4).bind fun t16136 => (if 0 ≤ t16136 then (if t16136 < (y16133.length : Int) then (if t16121.size + (rdOf ByteArray.empty y16133 t16136).size ≤ 9223372036854775807 then ((frame_Read.f bt16104.1 bt16104.2.1 bt16104.2.2.1 bt16104.2.2.2.1 bt16104.2.2.2.2.1 bt16104.2.2.2.2.2 (t16121 ++ (rdOf ByteArray.empty y16133 t16136))).bind fun bt16138 => (if bt16123.2.2.2.2.2.2 = 4 then (if bt16123.1 = 0 then (if bt16138.2.2.2.2.2.2 = 4 then (some (decide ((t16121.size : Int) > 0))) else (some false)) else (some false)) else (some false))) else (none)) else (none)) else (none))))) else (none)) else (none)))))) = some r := by rw [if_pos rfl] at H; exact H
  clear H
  have H := H1
  clear H1
  replace H := Option.bind_eq_some_iff.mp H
  obtain ⟨⟨t16104, t16105, t16106, t16107, t16108, t16109⟩, A80, H⟩ := H
  replace H : ((plaitinglaw5_Make.f k t16104 t16105 t16106 t16107 t16108 t16109 a1_0 a1_1 a1_2 a1_3 a1_4 l1_5 l2).bind fun bt16113 => ((frame_Text.f t16104 t16105 t16106 t16107 t16108 t16109 bt16113.1 bt16113.2.1 bt16113.2.2.1 bt16113.2.2.2.1 bt16113.2.2.2.2.1 bt16113.2.2.2.2.2).bind fun t16121 => ((plaitinglaw5_within.f a3 (t16121.size : Int)).bind fun t16122 => (if 0 ≤ t16122 then (if t16122 ≤ (t16121.size : Int) then ((frame_Read.f t16104 t16105 t16106 t16107 t16108 t16109 (t16121.extract 0 (t16122 : Int).toNat)).bind fun bt16123 => ((some (([(⟨#[48]⟩ : ByteArray), (⟨#[49]⟩ : ByteArray), (⟨#[35]⟩ : ByteArray), (⟨#[46]⟩ : ByteArray)] : List ByteArray) : List ByteArray)).bind fun y16133 => ((plaitinglaw5_within.f a4 4).bind fun t16136 => (if 0 ≤ t16136 then (if t16136 < (y16133.length : Int) then (if t16121.size + (rdOf ByteArray.empty y16133 t16136).size ≤ 9223372036854775807 then ((frame_Read.f t16104 t16105 t16106 t16107 t16108 t16109 (t16121 ++ (rdOf ByteArray.empty y16133 t16136))).bind fun bt16138 => (if bt16123.2.2.2.2.2.2 = 4 then (if bt16123.1 = 0 then (if bt16138.2.2.2.2.2.2 = 4 then (some (decide ((t16121.size : Int) > 0))) else (some false)) else (some false)) else (some false))) else (none)) else (none)) else (none))))) else (none)) else (none))))) = some r := H
  have A8 := Aside0.mk A80
  clear A80
  replace H := Option.bind_eq_some_iff.mp H
  obtain ⟨⟨t16113, t16114, t16115, t16116, t16117, t16118⟩, A90, H⟩ := H
  replace H : ((frame_Text.f t16104 t16105 t16106 t16107 t16108 t16109 t16113 t16114 t16115 t16116 t16117 t16118).bind fun t16121 => ((plaitinglaw5_within.f a3 (t16121.size : Int)).bind fun t16122 => (if 0 ≤ t16122 then (if t16122 ≤ (t16121.size : Int) then ((frame_Read.f t16104 t16105 t16106 t16107 t16108 t16109 (t16121.extract 0 (t16122 : Int).toNat)).bind fun bt16123 => ((some (([(⟨#[48]⟩ : ByteArray), (⟨#[49]⟩ : ByteArray), (⟨#[35]⟩ : ByteArray), (⟨#[46]⟩ : ByteArray)] : List ByteArray) : List ByteArray)).bind fun y16133 => ((plaitinglaw5_within.f a4 4).bind fun t16136 => (if 0 ≤ t16136 then (if t16136 < (y16133.length : Int) then (if t16121.size + (rdOf ByteArray.empty y16133 t16136).size ≤ 9223372036854775807 then ((frame_Read.f t16104 t16105 t16106 t16107 t16108 t16109 (t16121 ++ (rdOf ByteArray.empty y16133 t16136))).bind fun bt16138 => (if bt16123.2.2.2.2.2.2 = 4 then (if bt16123.1 = 0 then (if bt16138.2.2.2.2.2.2 = 4 then (some (decide ((t16121.size : Int) > 0))) else (some false)) else (some false)) else (some false))) else (none)) else (none)) else (none))))) else (none)) else (none)))) = some r := H
  have A9 := Aside0.mk A90
  clear A90
  replace H := Option.bind_eq_some_iff.mp H
  obtain ⟨t16121, A100, H⟩ := H
  replace H : ((plaitinglaw5_within.f a3 (t16121.size : Int)).bind fun t16122 => (if 0 ≤ t16122 then (if t16122 ≤ (t16121.size : Int) then ((frame_Read.f t16104 t16105 t16106 t16107 t16108 t16109 (t16121.extract 0 (t16122 : Int).toNat)).bind fun bt16123 => ((some (([(⟨#[48]⟩ : ByteArray), (⟨#[49]⟩ : ByteArray), (⟨#[35]⟩ : ByteArray), (⟨#[46]⟩ : ByteArray)] : List ByteArray) : List ByteArray)).bind fun y16133 => ((plaitinglaw5_within.f a4 4).bind fun t16136 => (if 0 ≤ t16136 then (if t16136 < (y16133.length : Int) then (if t16121.size + (rdOf ByteArray.empty y16133 t16136).size ≤ 9223372036854775807 then ((frame_Read.f t16104 t16105 t16106 t16107 t16108 t16109 (t16121 ++ (rdOf ByteArray.empty y16133 t16136))).bind fun bt16138 => (if bt16123.2.2.2.2.2.2 = 4 then (if bt16123.1 = 0 then (if bt16138.2.2.2.2.2.2 = 4 then (some (decide ((t16121.size : Int) > 0))) else (some false)) else (some false)) else (some false))) else (none)) else (none)) else (none))))) else (none)) else (none))) = some r := H
  have A10 := Aside0.mk A100
  clear A100
  replace H := Option.bind_eq_some_iff.mp H
  obtain ⟨t16122, A110, H⟩ := H
  replace H : (if 0 ≤ t16122 then (if t16122 ≤ (t16121.size : Int) then ((frame_Read.f t16104 t16105 t16106 t16107 t16108 t16109 (t16121.extract 0 (t16122 : Int).toNat)).bind fun bt16123 => ((some (([(⟨#[48]⟩ : ByteArray), (⟨#[49]⟩ : ByteArray), (⟨#[35]⟩ : ByteArray), (⟨#[46]⟩ : ByteArray)] : List ByteArray) : List ByteArray)).bind fun y16133 => ((plaitinglaw5_within.f a4 4).bind fun t16136 => (if 0 ≤ t16136 then (if t16136 < (y16133.length : Int) then (if t16121.size + (rdOf ByteArray.empty y16133 t16136).size ≤ 9223372036854775807 then ((frame_Read.f t16104 t16105 t16106 t16107 t16108 t16109 (t16121 ++ (rdOf ByteArray.empty y16133 t16136))).bind fun bt16138 => (if bt16123.2.2.2.2.2.2 = 4 then (if bt16123.1 = 0 then (if bt16138.2.2.2.2.2.2 = 4 then (some (decide ((t16121.size : Int) > 0))) else (some false)) else (some false)) else (some false))) else (none)) else (none)) else (none))))) else (none)) else (none)) = some r := H
  have A11 := Aside0.mk A110
  clear A110
  by_cases c12 : 0 ≤ t16122
  rotate_left
  · rw [if_neg c12] at H
    exact absurd H (by simp)
  rw [if_pos c12] at H
  have c12b0 := eq_true c12
  have c12b1 : decide (0 ≤ t16122) = true := decide_eq_true c12
  clear c12
  by_cases c13 : t16122 ≤ (t16121.size : Int)
  rotate_left
  · rw [if_neg c13] at H
    exact absurd H (by simp)
  rw [if_pos c13] at H
  have c13b0 := eq_true c13
  have c13b1 : decide (t16122 ≤ (t16121.size : Int)) = true := decide_eq_true c13
  clear c13
  replace H := Option.bind_eq_some_iff.mp H
  obtain ⟨⟨t16123, t16124, t16125, t16126, t16127, t16128, t16131⟩, A140, H⟩ := H
  replace H : ((some (([(⟨#[48]⟩ : ByteArray), (⟨#[49]⟩ : ByteArray), (⟨#[35]⟩ : ByteArray), (⟨#[46]⟩ : ByteArray)] : List ByteArray) : List ByteArray)).bind fun y16133 => ((plaitinglaw5_within.f a4 4).bind fun t16136 => (if 0 ≤ t16136 then (if t16136 < (y16133.length : Int) then (if t16121.size + (rdOf ByteArray.empty y16133 t16136).size ≤ 9223372036854775807 then ((frame_Read.f t16104 t16105 t16106 t16107 t16108 t16109 (t16121 ++ (rdOf ByteArray.empty y16133 t16136))).bind fun bt16138 => (if t16131 = 4 then (if t16123 = 0 then (if bt16138.2.2.2.2.2.2 = 4 then (some (decide ((t16121.size : Int) > 0))) else (some false)) else (some false)) else (some false))) else (none)) else (none)) else (none)))) = some r := H
  have A14 := Aside0.mk A140
  clear A140
  obtain ⟨y16133, hy16133⟩ : ∃ y_ : List ByteArray, y_ = (([(⟨#[48]⟩ : ByteArray), (⟨#[49]⟩ : ByteArray), (⟨#[35]⟩ : ByteArray), (⟨#[46]⟩ : ByteArray)] : List ByteArray)) := ⟨_, rfl⟩
  replace H : ((plaitinglaw5_within.f a4 4).bind fun t16136 => (if 0 ≤ t16136 then (if t16136 < (y16133.length : Int) then (if t16121.size + (rdOf ByteArray.empty y16133 t16136).size ≤ 9223372036854775807 then ((frame_Read.f t16104 t16105 t16106 t16107 t16108 t16109 (t16121 ++ (rdOf ByteArray.empty y16133 t16136))).bind fun bt16138 => (if t16131 = 4 then (if t16123 = 0 then (if bt16138.2.2.2.2.2.2 = 4 then (some (decide ((t16121.size : Int) > 0))) else (some false)) else (some false)) else (some false))) else (none)) else (none)) else (none))) = some r := by first | (rw [hy16133]; with_reducible exact H) | (have H2_ := (Option.bind_some _ _).symm.trans H; rw [hy16133]; with_reducible exact H2_) | (have H2_ := (Option.bind_some _ _).symm.trans H; with_reducible exact H2_) | with_reducible exact H | (rw [hy16133]; exact H) | exact H
  have Ny16133 := Aside0.mk hy16133
  clear hy16133
  replace H := Option.bind_eq_some_iff.mp H
  obtain ⟨t16136, A150, H⟩ := H
  replace H : (if 0 ≤ t16136 then (if t16136 < (y16133.length : Int) then (if t16121.size + (rdOf ByteArray.empty y16133 t16136).size ≤ 9223372036854775807 then ((frame_Read.f t16104 t16105 t16106 t16107 t16108 t16109 (t16121 ++ (rdOf ByteArray.empty y16133 t16136))).bind fun bt16138 => (if t16131 = 4 then (if t16123 = 0 then (if bt16138.2.2.2.2.2.2 = 4 then (some (decide ((t16121.size : Int) > 0))) else (some false)) else (some false)) else (some false))) else (none)) else (none)) else (none)) = some r := H
  have A15 := Aside0.mk A150
  clear A150
  by_cases c16 : 0 ≤ t16136
  rotate_left
  · rw [if_neg c16] at H
    exact absurd H (by simp)
  rw [if_pos c16] at H
  have c16b0 : decide (0 ≤ t16136) = true := decide_eq_true c16
  clear c16
  by_cases c17 : t16136 < (y16133.length : Int)
  rotate_left
  · rw [if_neg c17] at H
    exact absurd H (by simp)
  rw [if_pos c17] at H
  have c17b0 : decide (t16136 < (y16133.length : Int)) = true := decide_eq_true c17
  clear c17
  by_cases c18 : t16121.size + (rdOf ByteArray.empty y16133 t16136).size ≤ 9223372036854775807
  rotate_left
  · rw [if_neg c18] at H
    exact absurd H (by simp)
  rw [if_pos c18] at H
  have c18b0 := eq_true c18
  have c18b1 : decide (t16121.size + (rdOf ByteArray.empty y16133 t16136).size ≤ 9223372036854775807) = true := decide_eq_true c18
  try have c18b2 : (9223372036854775807 < t16121.size + (rdOf ByteArray.empty y16133 t16136).size) = False := eq_false (Nat.not_lt.2 c18)
  replace H := Option.bind_eq_some_iff.mp H
  obtain ⟨⟨t16138, t16139, t16140, t16141, t16142, t16143, t16146⟩, A190, H⟩ := H
  replace H : (if t16131 = 4 then (if t16123 = 0 then (if t16146 = 4 then (some (decide ((t16121.size : Int) > 0))) else (some false)) else (some false)) else (some false)) = some r := H
  have A19 := Aside0.mk A190
  clear A190
  by_cases c20 : t16131 = 4
  rotate_left
  · rw [if_neg c20] at H
    have c20b0 : (t16131 == 4) = false := beq_eq_false_iff_ne.mpr c20
    have c20b1 : (t16131 != 4) = true := bne_iff_ne.mpr c20
    exact absurd ((Option.some.inj H).trans HRT.out) (by decide)
  rw [if_pos c20] at H
  have c20b0 : (t16131 == 4) = true := beq_iff_eq.mpr c20
  have c20b1 : (t16131 != 4) = false := bne_eq_false_iff_eq.mpr c20
  clear c20
  by_cases c21 : t16123 = 0
  rotate_left
  · rw [if_neg c21] at H
    have c21b0 : (t16123 == 0) = false := beq_eq_false_iff_ne.mpr c21
    have c21b1 : (t16123 != 0) = true := bne_iff_ne.mpr c21
    exact absurd ((Option.some.inj H).trans HRT.out) (by decide)
  rw [if_pos c21] at H
  have c21b0 : (t16123 == 0) = true := beq_iff_eq.mpr c21
  have c21b1 : (t16123 != 0) = false := bne_eq_false_iff_eq.mpr c21
  clear c21
  by_cases c22 : t16146 = 4
  rotate_left
  · rw [if_neg c22] at H
    have c22b0 : (t16146 == 4) = false := beq_eq_false_iff_ne.mpr c22
    have c22b1 : (t16146 != 4) = true := bne_iff_ne.mpr c22
    exact absurd ((Option.some.inj H).trans HRT.out) (by decide)
  rw [if_pos c22] at H
  have c22b0 : (t16146 == 4) = true := beq_iff_eq.mpr c22
  have c22b1 : (t16146 != 4) = false := bne_eq_false_iff_eq.mpr c22
  clear c22
  obtain rfl := Option.some.inj H
  go_enter Try.func8, Try.ntmps8
  try go_wp2_with (first | ((with_reducible refine gate_dst (N := 5) rfl ?_); (try (refine gate_guard (by rfl) ?_; dsimp only)); refine box_event ?hg (N := 5) ?hd (cs := #[.int .i64 a0_0, .int .i64 a0_1, .int .i64 a0_2, .int .i64 a0_3, .int .i64 a0_4, .slice A0_5 l0_5.length c0_5]) (t := 24) ?hr ?_; (case hd => rfl); (case hg => rfl); (case hr => first | (go_simp; done) | (go_simp; rfl)); intro gb16101 hg w23 hbox hb; have BK16101 := Aside0.mk (hbox); have GW16101 := Aside0.mk ((by rw [hg]; exact (below_size (pH_ HB.out)) : w.heap.size ≤ gb16101)); have GE16101 := Aside0.mk ((by rw [hg]; exact (below_size (pH_ HB.out)) : w.heap.size ≤ gb16101)); replace HB := Aside0.mk (below_step (pH_ HB.out) hb); clear hb hbox hg) | ((with_reducible refine gate_dst (N := 6) rfl ?_); (try (refine gate_guard (by rfl) ?_; dsimp only)); refine box_event ?hg (N := 6) ?hd (cs := #[.int .i64 a1_0, .int .i64 a1_1, .int .i64 a1_2, .int .i64 a1_3, .int .i64 a1_4, .slice A1_5 l1_5.length c1_5]) (t := 29) ?hr ?_; (case hd => rfl); (case hg => rfl); (case hr => first | (go_simp; done) | (go_simp; rfl)); intro gb16102 hg w24 hbox hb; have BK16102 := Aside0.mk (hbox); have GW16102 := Aside0.mk ((by rw [hg]; exact (below_size (pH_ HB.out)) : w.heap.size ≤ gb16102)); have GE16102 := Aside0.mk ((by rw [hg]; exact (below_size (pH_ HB.out)) : w.heap.size ≤ gb16102)); have NB16101_16102 := Aside0.mk (ltB_ hg BK16101.out); have NB16102_16101 := Aside0.mk (ltB_ hg BK16101.out).symm; replace BK16101 := Aside0.mk (blk_below (pB_ BK16101.out) hb); replace HB := Aside0.mk (below_step (pH_ HB.out) hb); clear hb hbox hg) | ((with_reducible refine gate_callee (f := 18) rfl ?_); refine goesL_ (some 17) rfl rfl Try.func18 (by kernel_rfl) rfl #[] rfl (by (try simp only [List.map_toArray, List.map_cons, List.map_nil]); first | done | rfl | (simp only [List.length_drop, List.length_take]; rfl)) ?_; (with_reducible refine (plaitinglaw5_known.calls  true _ A6.out).mono ?_); rintro e w25 ⟨rfl, hb⟩; refine ⟨_, rfl, ?_⟩; replace BK16101 := Aside0.mk (blk_below (pB_ BK16101.out) hb); replace BK16102 := Aside0.mk (blk_below (pB_ BK16102.out) hb); replace HB := Aside0.mk (below_step (pH_ HB.out) hb); (try clear hb); (try clear hb2); (try clear hk); (try clear hi); have hnb26 := NB16101_16102.out; have hnc26 := NB16102_16101.out; have hcz27_0 : w25.cell? ⟨gb16101, 0, none⟩ = some (.int .i64 a0_0) := (blk_cell BK16101.out 0).trans rfl; have hcz27_1 : w25.cell? ⟨gb16101, 1, none⟩ = some (.int .i64 a0_1) := (blk_cell BK16101.out 1).trans rfl; have hcz27_2 : w25.cell? ⟨gb16101, 2, none⟩ = some (.int .i64 a0_2) := (blk_cell BK16101.out 2).trans rfl; have hcz27_3 : w25.cell? ⟨gb16101, 3, none⟩ = some (.int .i64 a0_3) := (blk_cell BK16101.out 3).trans rfl; have hcz27_4 : w25.cell? ⟨gb16101, 4, none⟩ = some (.int .i64 a0_4) := (blk_cell BK16101.out 4).trans rfl; have hcz27_5 : w25.cell? ⟨gb16101, 5, none⟩ = some (.slice A0_5 l0_5.length c0_5) := (blk_cell BK16101.out 5).trans rfl; have hfz27_0 := blk_frozen BK16101.out 0; have hfz27_1 := blk_frozen BK16101.out 1; have hfz27_2 := blk_frozen BK16101.out 2; have hfz27_3 := blk_frozen BK16101.out 3; have hfz27_4 := blk_frozen BK16101.out 4; have hfz27_5 := blk_frozen BK16101.out 5) | ((with_reducible refine gate_callee (f := 20) rfl ?_); refine goesL_ (some 20) rfl rfl Try.func20 (by kernel_rfl) rfl #[.agg #[.int .i64 a0_0, .int .i64 a0_1, .int .i64 a0_2, .int .i64 a0_3, .int .i64 a0_4, .slice A0_5 l0_5.length c0_5]] rfl (by (try simp only [List.map_toArray, List.map_cons, List.map_nil]); first | done | rfl | (simp only [List.length_drop, List.length_take]; rfl)) ?_; (with_reducible refine (plaitinglaw3_Make.calls k a0_0 a0_1 a0_2 a0_3 a0_4 _ _ l0_5 t16104 t16105 t16106 t16107 t16108 t16109 _ ?side1 ?side2 A8.out).mono ?_); (case side1 => repeat (first | exact (Kd.C_below HR0_5.out HB.out) | (with_reducible refine Kd.C_alloc ?_ _) | (with_reducible refine Kd.C_drewN ?_ _) | (with_reducible refine Kd.C_drew ?_))); (case side2 => exact HC0_5.out); rintro e w28 ⟨v16110, rfl, ho0, hb⟩; refine ⟨_, rfl, ?_⟩; have HO16111 := Aside0.mk (Kd.R_lower ho0 (below_size (pH_ HB.out))); replace BK16101 := Aside0.mk (blk_below (pB_ BK16101.out) hb); replace BK16102 := Aside0.mk (blk_below (pB_ BK16102.out) hb); replace HB := Aside0.mk (below_step (pH_ HB.out) hb); (try clear hb); (try clear hb2); (try clear hk); (try clear hi); (try clear ho0)) | ((with_reducible refine gate_dst (N := 11) rfl ?_); (try (refine gate_guard (by rfl) ?_; dsimp only)); refine box_event ?hg (N := 11) ?hd (cs := #[.int .i64 0, .int .i64 0, .int .i64 0, .int .i64 0, .int .i64 0, .slice none 0 0]) (t := 24) ?hr ?_; (case hd => rfl); (case hg => rfl); (case hr => first | (go_simp; done) | (go_simp; rfl)); intro gb16112 hg w29 hbox hb; have BK16112 := Aside0.mk (hbox); have GW16112 := Aside0.mk ((by rw [hg]; exact (below_size (pH_ HB.out)) : w.heap.size ≤ gb16112)); have GE16112 := Aside0.mk ((by rw [hg]; exact (below_size (pH_ HB.out)) : w.heap.size ≤ gb16112)); have NB16101_16112 := Aside0.mk (ltB_ hg BK16101.out); have NB16112_16101 := Aside0.mk (ltB_ hg BK16101.out).symm; have NB16102_16112 := Aside0.mk (ltB_ hg BK16102.out); have NB16112_16102 := Aside0.mk (ltB_ hg BK16102.out).symm; replace HO16111 := Aside0.mk (Kd.R_below (pR_ HO16111.out) hb); replace BK16101 := Aside0.mk (blk_below (pB_ BK16101.out) hb); replace BK16102 := Aside0.mk (blk_below (pB_ BK16102.out) hb); replace HB := Aside0.mk (below_step (pH_ HB.out) hb); clear hb hbox hg; have hnb30 := NB16112_16101.out; have hnc30 := NB16101_16112.out; have hnb31 := NB16112_16102.out; have hnc31 := NB16102_16112.out; have hcz32_0 : w29.cell? ⟨gb16112, 0, none⟩ = some (.int .i64 0) := (blk_cell BK16112.out 0).trans rfl; have hcz32_1 : w29.cell? ⟨gb16112, 1, none⟩ = some (.int .i64 0) := (blk_cell BK16112.out 1).trans rfl; have hcz32_2 : w29.cell? ⟨gb16112, 2, none⟩ = some (.int .i64 0) := (blk_cell BK16112.out 2).trans rfl; have hcz32_3 : w29.cell? ⟨gb16112, 3, none⟩ = some (.int .i64 0) := (blk_cell BK16112.out 3).trans rfl; have hcz32_4 : w29.cell? ⟨gb16112, 4, none⟩ = some (.int .i64 0) := (blk_cell BK16112.out 4).trans rfl; have hcz32_5 : w29.cell? ⟨gb16112, 5, none⟩ = some (.slice none 0 0) := (blk_cell BK16112.out 5).trans rfl; have hfz32_0 := blk_frozen BK16112.out 0; have hfz32_1 := blk_frozen BK16112.out 1; have hfz32_2 := blk_frozen BK16112.out 2; have hfz32_3 := blk_frozen BK16112.out 3; have hfz32_4 := blk_frozen BK16112.out 4; have hfz32_5 := blk_frozen BK16112.out 5; obtain ⟨Ao33, co33, eo33⟩ := Kd.R_slice HO16111.out; subst eo33))
  have n0_ : Aside0 (Kd.R (Kd.int .i64) 3 ((((((w29.setCell ⟨gb16112, 0, none⟩ (.int .i64 t16104)).setCell ⟨gb16112, 1, none⟩ (.int .i64 t16105)).setCell ⟨gb16112, 2, none⟩ (.int .i64 t16106)).setCell ⟨gb16112, 3, none⟩ (.int .i64 t16107)).setCell ⟨gb16112, 4, none⟩ (.int .i64 t16108)).setCell ⟨gb16112, 5, none⟩ (.slice Ao33 t16109.length co33)) w.heap.size (fun _ => True) (.slice Ao33 t16109.length co33) t16109) := ⟨by (with_reducible repeat (first | apply Kd.R_alloc | apply Kd.R_drewN | apply Kd.R_drew)); exact Kd.R_mono (Kd.R_far (p := ⟨gb16112, 5, none⟩) (Kd.R_far (p := ⟨gb16112, 4, none⟩) (Kd.R_far (p := ⟨gb16112, 3, none⟩) (Kd.R_far (p := ⟨gb16112, 2, none⟩) (Kd.R_far (p := ⟨gb16112, 1, none⟩) (Kd.R_far (p := ⟨gb16112, 0, none⟩) (Kd.R_types HO16111.out BK16112.out (by decide)) (fun _ hk => hk.2) (.int .i64 t16104)) (fun _ hk => hk.2) (.int .i64 t16105)) (fun _ hk => hk.2) (.int .i64 t16106)) (fun _ hk => hk.2) (.int .i64 t16107)) (fun _ hk => hk.2) (.int .i64 t16108)) (fun _ hk => hk.2) (.slice Ao33 t16109.length co33)) (fun _ hk => trivial)⟩
  have n1_ : Aside0 (((((((w29.setCell ⟨gb16112, 0, none⟩ (.int .i64 t16104)).setCell ⟨gb16112, 1, none⟩ (.int .i64 t16105)).setCell ⟨gb16112, 2, none⟩ (.int .i64 t16106)).setCell ⟨gb16112, 3, none⟩ (.int .i64 t16107)).setCell ⟨gb16112, 4, none⟩ (.int .i64 t16108)).setCell ⟨gb16112, 5, none⟩ (.slice Ao33 t16109.length co33)).heap[gb16101]? = some (.cells #[.int .i64 a0_0, .int .i64 a0_1, .int .i64 a0_2, .int .i64 a0_3, .int .i64 a0_4, .slice A0_5 l0_5.length c0_5] 24 (0, 0))) := ⟨by (with_reducible repeat (first | refine blk_drewN ?_ _ | refine blk_drew ?_ | refine blk_alloc ?_ _)); refine blk_far ?_ NB16101_16112.out _; refine blk_far ?_ NB16101_16112.out _; refine blk_far ?_ NB16101_16112.out _; refine blk_far ?_ NB16101_16112.out _; refine blk_far ?_ NB16101_16112.out _; refine blk_far ?_ NB16101_16112.out _; (with_reducible repeat (first | refine blk_drewN ?_ _ | refine blk_drew ?_ | refine blk_alloc ?_ _)); exact BK16101.out⟩
  have n2_ : Aside0 (((((((w29.setCell ⟨gb16112, 0, none⟩ (.int .i64 t16104)).setCell ⟨gb16112, 1, none⟩ (.int .i64 t16105)).setCell ⟨gb16112, 2, none⟩ (.int .i64 t16106)).setCell ⟨gb16112, 3, none⟩ (.int .i64 t16107)).setCell ⟨gb16112, 4, none⟩ (.int .i64 t16108)).setCell ⟨gb16112, 5, none⟩ (.slice Ao33 t16109.length co33)).heap[gb16102]? = some (.cells #[.int .i64 a1_0, .int .i64 a1_1, .int .i64 a1_2, .int .i64 a1_3, .int .i64 a1_4, .slice A1_5 l1_5.length c1_5] 29 (0, 0))) := ⟨by (with_reducible repeat (first | refine blk_drewN ?_ _ | refine blk_drew ?_ | refine blk_alloc ?_ _)); refine blk_far ?_ NB16102_16112.out _; refine blk_far ?_ NB16102_16112.out _; refine blk_far ?_ NB16102_16112.out _; refine blk_far ?_ NB16102_16112.out _; refine blk_far ?_ NB16102_16112.out _; refine blk_far ?_ NB16102_16112.out _; (with_reducible repeat (first | refine blk_drewN ?_ _ | refine blk_drew ?_ | refine blk_alloc ?_ _)); exact BK16102.out⟩
  have n3_ : Aside0 (((((((w29.setCell ⟨gb16112, 0, none⟩ (.int .i64 t16104)).setCell ⟨gb16112, 1, none⟩ (.int .i64 t16105)).setCell ⟨gb16112, 2, none⟩ (.int .i64 t16106)).setCell ⟨gb16112, 3, none⟩ (.int .i64 t16107)).setCell ⟨gb16112, 4, none⟩ (.int .i64 t16108)).setCell ⟨gb16112, 5, none⟩ (.slice Ao33 t16109.length co33)).heap[gb16112]? = some (.cells #[.int .i64 t16104, .int .i64 t16105, .int .i64 t16106, .int .i64 t16107, .int .i64 t16108, .slice Ao33 t16109.length co33] 24 (0, 0))) := ⟨by (with_reducible repeat (first | refine blk_drewN ?_ _ | refine blk_drew ?_ | refine blk_alloc ?_ _)); refine blk_put (cs := #[.int .i64 t16104, .int .i64 t16105, .int .i64 t16106, .int .i64 t16107, .int .i64 t16108, .slice none 0 0]) ?_ 5 _ rfl; refine blk_put (cs := #[.int .i64 t16104, .int .i64 t16105, .int .i64 t16106, .int .i64 t16107, .int .i64 0, .slice none 0 0]) ?_ 4 _ rfl; refine blk_put (cs := #[.int .i64 t16104, .int .i64 t16105, .int .i64 t16106, .int .i64 0, .int .i64 0, .slice none 0 0]) ?_ 3 _ rfl; refine blk_put (cs := #[.int .i64 t16104, .int .i64 t16105, .int .i64 0, .int .i64 0, .int .i64 0, .slice none 0 0]) ?_ 2 _ rfl; refine blk_put (cs := #[.int .i64 t16104, .int .i64 0, .int .i64 0, .int .i64 0, .int .i64 0, .slice none 0 0]) ?_ 1 _ rfl; refine blk_put (cs := #[.int .i64 0, .int .i64 0, .int .i64 0, .int .i64 0, .int .i64 0, .slice none 0 0]) ?_ 0 _ rfl; (with_reducible repeat (first | refine blk_drewN ?_ _ | refine blk_drew ?_ | refine blk_alloc ?_ _)); exact BK16112.out⟩
  have n4_ : Aside0 (Below w.heap.size w ((((((w29.setCell ⟨gb16112, 0, none⟩ (.int .i64 t16104)).setCell ⟨gb16112, 1, none⟩ (.int .i64 t16105)).setCell ⟨gb16112, 2, none⟩ (.int .i64 t16106)).setCell ⟨gb16112, 3, none⟩ (.int .i64 t16107)).setCell ⟨gb16112, 4, none⟩ (.int .i64 t16108)).setCell ⟨gb16112, 5, none⟩ (.slice Ao33 t16109.length co33))) := ⟨by repeat (first | (with_reducible first | exact HB.out | apply below_alloc | apply pw_below_drewN | apply below_drew1 | refine below_set ?_ GE16101.out | refine below_set ?_ GE16102.out | refine below_set ?_ GE16112.out) | exact HB.out)⟩
  (try clear HO16111)
  (try clear BK16101)
  (try clear BK16102)
  (try clear BK16112)
  (try clear HB)
  generalize ((((((w29.setCell ⟨gb16112, 0, none⟩ (.int .i64 t16104)).setCell ⟨gb16112, 1, none⟩ (.int .i64 t16105)).setCell ⟨gb16112, 2, none⟩ (.int .i64 t16106)).setCell ⟨gb16112, 3, none⟩ (.int .i64 t16107)).setCell ⟨gb16112, 4, none⟩ (.int .i64 t16108)).setCell ⟨gb16112, 5, none⟩ (.slice Ao33 t16109.length co33)) = w34 at n0_ n1_ n2_ n3_ n4_ ⊢
  have HO16111 := n0_
  have BK16101 := n1_
  have BK16102 := n2_
  have BK16112 := n3_
  have HB := n4_
  clear n0_ n1_ n2_ n3_ n4_
  replace HO16111 := Aside0.mk (Kd.R_drew HO16111.out)
  replace BK16101 := Aside0.mk (blk_drew BK16101.out)
  replace BK16102 := Aside0.mk (blk_drew BK16102.out)
  replace BK16112 := Aside0.mk (blk_drew BK16112.out)
  replace HB := Aside0.mk (below_drew1 HB.out)
  refine start_ (n := 7) (S := fun w' => w'.cell? ⟨gb16112, 0, none⟩ = some (.int .i64 t16104) ∧ w'.cell? ⟨gb16112, 1, none⟩ = some (.int .i64 t16105) ∧ w'.cell? ⟨gb16112, 2, none⟩ = some (.int .i64 t16106) ∧ w'.cell? ⟨gb16112, 3, none⟩ = some (.int .i64 t16107) ∧ w'.cell? ⟨gb16112, 4, none⟩ = some (.int .i64 t16108) ∧ w'.cell? ⟨gb16112, 5, none⟩ = some (.slice Ao33 t16109.length co33) ∧ w'.cell? ⟨gb16102, 0, none⟩ = some (.int .i64 a1_0) ∧ w'.cell? ⟨gb16102, 1, none⟩ = some (.int .i64 a1_1) ∧ w'.cell? ⟨gb16102, 2, none⟩ = some (.int .i64 a1_2) ∧ w'.cell? ⟨gb16102, 3, none⟩ = some (.int .i64 a1_3) ∧ w'.cell? ⟨gb16102, 4, none⟩ = some (.int .i64 a1_4) ∧ w'.cell? ⟨gb16102, 5, none⟩ = some (.slice A1_5 l1_5.length c1_5)) (ds := []) #[false, false, false, false, false, false, false] (by kernel_rfl) rfl rfl ⟨(blk_cell BK16112.out 0).trans rfl, (blk_cell BK16112.out 1).trans rfl, (blk_cell BK16112.out 2).trans rfl, (blk_cell BK16112.out 3).trans rfl, (blk_cell BK16112.out 4).trans rfl, (blk_cell BK16112.out 5).trans rfl, (blk_cell BK16102.out 0).trans rfl, (blk_cell BK16102.out 1).trans rfl, (blk_cell BK16102.out 2).trans rfl, (blk_cell BK16102.out 3).trans rfl, (blk_cell BK16102.out 4).trans rfl, (blk_cell BK16102.out 5).trans rfl⟩ (fun hHeld => ?_)
  generalize w34.drew = w35 at HO16111 BK16101 BK16102 BK16112 HB hHeld ⊢
  refine pure_ (i := 3) (N := some 24) (v := ?_) (a' := ?_) #[false, false, false, true, false, false, false] rfl rfl (by kernel_rfl) (fun _ _ _ h => h) (Or.inl ⟨by rfl, ?_⟩) ?_ ?_
  rotate_left
  · intro w'
    go_simp
    with_reducible rfl
  rotate_left
  · simp only [Act.put, List.setIfInBounds_toArray, List.set_cons_zero, List.set_cons_succ, i64_w, i32_w]
    rfl
  refine take_ (i := 0) (N := some 21) (v := ?_) (a' := ?_) #[true, false, false, true, false, false, false] rfl rfl (by kernel_rfl) (fun _ _ _ h => h) (Or.inl ⟨by rfl, ?_⟩) hHeld ?_ ?_
  rotate_left
  · rintro w' ⟨s0, s1, s2, s3, s4, s5, s6, s7, s8, s9, s10, s11⟩
    go_simp
    with_reducible rfl
  rotate_left
  · simp only [Act.put, List.setIfInBounds_toArray, List.set_cons_zero, List.set_cons_succ, i64_w, i32_w]
    rfl
  refine take_ (i := 1) (N := some 22) (v := ?_) (a' := ?_) #[true, true, false, true, false, false, false] rfl rfl (by kernel_rfl) (fun _ _ _ h => h) (Or.inl ⟨by rfl, ?_⟩) hHeld ?_ ?_
  rotate_left
  · rintro w' ⟨s0, s1, s2, s3, s4, s5, s6, s7, s8, s9, s10, s11⟩
    go_simp
    with_reducible rfl
  rotate_left
  · simp only [Act.put, List.setIfInBounds_toArray, List.set_cons_zero, List.set_cons_succ, i64_w, i32_w]
    rfl
  refine take_ (i := 2) (N := some 23) (v := ?_) (a' := ?_) #[true, true, true, true, false, false, false] rfl rfl (by kernel_rfl) (fun _ _ _ h => h) (Or.inl ⟨by rfl, ?_⟩) hHeld ?_ ?_
  rotate_left
  · rintro w' ⟨s0, s1, s2, s3, s4, s5, s6, s7, s8, s9, s10, s11⟩
    go_simp
    with_reducible rfl
  rotate_left
  · simp only [Act.put, List.setIfInBounds_toArray, List.set_cons_zero, List.set_cons_succ, i64_w, i32_w]
    rfl
  refine one_ (i := 4) (N := some 25) #[true, true, true, true, true, false, false] rfl rfl (by kernel_rfl) (by decide) (fun K hK => ?_)
  refine goes_ Try.func21 (by kernel_rfl) rfl #[.agg #[.int .i64 t16104, .int .i64 t16105, .int .i64 t16106, .int .i64 t16107, .int .i64 t16108, .slice Ao33 t16109.length co33], .agg #[.int .i64 a1_0, .int .i64 a1_1, .int .i64 a1_2, .int .i64 a1_3, .int .i64 a1_4, .slice A1_5 l1_5.length c1_5], .slice A2 l2.length c2] (by rfl) rfl rfl (by (try simp only [List.map_toArray, List.map_cons, List.map_nil]); first | done | rfl | (simp only [List.length_drop, List.length_take]; rfl)) ?_
  with_reducible refine (plaitinglaw5_Make.calls k t16104 t16105 t16106 t16107 t16108 _ _ t16109 a1_0 a1_1 a1_2 a1_3 a1_4 _ _ l1_5 _ _ l2 t16113 t16114 t16115 t16116 t16117 t16118 _ ?side1 ?side2 ?side3 ?side4 ?side5 ?side6 A9.out).mono ?_
  (case side1 => repeat (first | exact (Kd.R_reads' HO16111.out).2.2 | (with_reducible refine Kd.C_alloc ?_ _) | (with_reducible refine Kd.C_drewN ?_ _) | (with_reducible refine Kd.C_drew ?_)))
  (case side2 => exact (Kd.R_reads' HO16111.out).2.1)
  (case side3 => repeat (first | exact (Kd.C_below HR1_5.out HB.out) | (with_reducible refine Kd.C_alloc ?_ _) | (with_reducible refine Kd.C_drewN ?_ _) | (with_reducible refine Kd.C_drew ?_)))
  (case side4 => exact HC1_5.out)
  (case side5 => repeat (first | exact (Kd.C_below HR2.out HB.out) | (with_reducible refine Kd.C_alloc ?_ _) | (with_reducible refine Kd.C_drewN ?_ _) | (with_reducible refine Kd.C_drew ?_)))
  (case side6 => exact HC2.out)
  rintro e w36 ⟨v16119, rfl, ho0, hb⟩
  refine ⟨_, rfl, ?_⟩
  have HO16120 := Aside0.mk (Kd.R_lower ho0 (below_size (pH_ HB.out)))
  replace HO16111 := Aside0.mk (Kd.R_below (pR_ HO16111.out) hb)
  replace BK16101 := Aside0.mk (blk_below (pB_ BK16101.out) hb)
  replace BK16102 := Aside0.mk (blk_below (pB_ BK16102.out) hb)
  replace BK16112 := Aside0.mk (blk_below (pB_ BK16112.out) hb)
  replace HB := Aside0.mk (below_step (pH_ HB.out) hb)
  (try clear hb)
  (try clear hb2)
  (try clear hk)
  (try clear hi)
  (try clear ho0)
  obtain ⟨Ao37, co37, eo37⟩ := Kd.R_slice HO16120.out
  (first | subst eo37 | (injection eo37 with f1_ f2_ f3_; have f4_ := f1_.symm; have f5_ := f3_.symm; clear f1_ f2_ f3_; subst f4_; subst f5_))
  refine hK.out _ _ ⟨(blk_cell BK16112.out 0).trans rfl, (blk_cell BK16112.out 1).trans rfl, (blk_cell BK16112.out 2).trans rfl, (blk_cell BK16112.out 3).trans rfl, (blk_cell BK16112.out 4).trans rfl, (blk_cell BK16112.out 5).trans rfl, (blk_cell BK16102.out 0).trans rfl, (blk_cell BK16102.out 1).trans rfl, (blk_cell BK16102.out 2).trans rfl, (blk_cell BK16102.out 3).trans rfl, (blk_cell BK16102.out 4).trans rfl, (blk_cell BK16102.out 5).trans rfl⟩ (fun hHeld => ?_)
  clear hK K
  refine norm_ (a' := ?_) ?_ ?_
  rotate_left
  · show Act.put _ (some 25) _ = _
    simp only [Act.put, List.setIfInBounds_toArray, List.set_cons_zero, List.set_cons_succ, i64_w, i32_w]
    rfl
  refine one_ (i := 5) (N := some 26) #[true, true, true, true, true, true, false] rfl rfl (by kernel_rfl) (by decide) (fun K hK => ?_)
  refine goes_ Try.func26 (by kernel_rfl) rfl #[.agg #[.int .i64 t16104, .int .i64 t16105, .int .i64 t16106, .int .i64 t16107, .int .i64 t16108, .slice Ao33 t16109.length co33], .agg #[.int .i64 t16113, .int .i64 t16114, .int .i64 t16115, .int .i64 t16116, .int .i64 t16117, .slice Ao37 t16118.length co37]] (by rfl) rfl rfl (by (try simp only [List.map_toArray, List.map_cons, List.map_nil]); first | done | rfl | (simp only [List.length_drop, List.length_take]; rfl)) ?_
  with_reducible refine (frame_Text.calls t16104 t16105 t16106 t16107 t16108 _ _ t16109 t16113 t16114 t16115 t16116 t16117 _ _ t16118 t16121 _ ?side1 ?side2 ?side3 ?side4 A10.out).mono ?_
  (case side1 => repeat (first | exact (Kd.R_reads' HO16111.out).2.2 | (with_reducible refine Kd.C_alloc ?_ _) | (with_reducible refine Kd.C_drewN ?_ _) | (with_reducible refine Kd.C_drew ?_)))
  (case side2 => exact (Kd.R_reads' HO16111.out).2.1)
  (case side3 => repeat (first | exact (Kd.R_reads' HO16120.out).2.2 | (with_reducible refine Kd.C_alloc ?_ _) | (with_reducible refine Kd.C_drewN ?_ _) | (with_reducible refine Kd.C_drew ?_)))
  (case side4 => exact (Kd.R_reads' HO16120.out).2.1)
  rintro e w38 ⟨rfl, hb⟩
  refine ⟨_, rfl, ?_⟩
  replace HO16111 := Aside0.mk (Kd.R_below (pR_ HO16111.out) hb)
  replace HO16120 := Aside0.mk (Kd.R_below (pR_ HO16120.out) hb)
  replace BK16101 := Aside0.mk (blk_below (pB_ BK16101.out) hb)
  replace BK16102 := Aside0.mk (blk_below (pB_ BK16102.out) hb)
  replace BK16112 := Aside0.mk (blk_below (pB_ BK16112.out) hb)
  replace HB := Aside0.mk (below_step (pH_ HB.out) hb)
  (try clear hb)
  (try clear hb2)
  (try clear hk)
  (try clear hi)
  refine hK.out _ _ ⟨(blk_cell BK16112.out 0).trans rfl, (blk_cell BK16112.out 1).trans rfl, (blk_cell BK16112.out 2).trans rfl, (blk_cell BK16112.out 3).trans rfl, (blk_cell BK16112.out 4).trans rfl, (blk_cell BK16112.out 5).trans rfl, (blk_cell BK16102.out 0).trans rfl, (blk_cell BK16102.out 1).trans rfl, (blk_cell BK16102.out 2).trans rfl, (blk_cell BK16102.out 3).trans rfl, (blk_cell BK16102.out 4).trans rfl, (blk_cell BK16102.out 5).trans rfl⟩ (fun hHeld => ?_)
  clear hK K
  refine norm_ (a' := ?_) ?_ ?_
  rotate_left
  · show Act.put _ (some 26) _ = _
    simp only [Act.put, List.setIfInBounds_toArray, List.set_cons_zero, List.set_cons_succ, i64_w, i32_w]
    rfl
  refine pure_ (i := 6) (N := some 12) (v := ?_) (a' := ?_) #[true, true, true, true, true, true, true] rfl rfl (by kernel_rfl) (fun _ _ _ h => h) (Or.inl ⟨by rfl, ?_⟩) ?_ ?_
  rotate_left
  · intro w'
    go_simp
    with_reducible rfl
  rotate_left
  · simp only [Act.put, List.setIfInBounds_toArray, List.set_cons_zero, List.set_cons_succ, i64_w, i32_w]
    rfl
  refine done_ (by kernel_rfl) ?_
  try go_wp2
  replace HO16111 := Aside0.mk (Kd.R_drew HO16111.out)
  replace HO16120 := Aside0.mk (Kd.R_drew HO16120.out)
  replace BK16101 := Aside0.mk (blk_drew BK16101.out)
  replace BK16102 := Aside0.mk (blk_drew BK16102.out)
  replace BK16112 := Aside0.mk (blk_drew BK16112.out)
  replace HB := Aside0.mk (below_drew1 HB.out)
  refine start_ (n := 14) (S := fun w' => w'.cell? ⟨gb16112, 0, none⟩ = some (.int .i64 t16104) ∧ w'.cell? ⟨gb16112, 1, none⟩ = some (.int .i64 t16105) ∧ w'.cell? ⟨gb16112, 2, none⟩ = some (.int .i64 t16106) ∧ w'.cell? ⟨gb16112, 3, none⟩ = some (.int .i64 t16107) ∧ w'.cell? ⟨gb16112, 4, none⟩ = some (.int .i64 t16108) ∧ w'.cell? ⟨gb16112, 5, none⟩ = some (.slice Ao33 t16109.length co33)) (ds := []) #[false, false, false, false, false, false, false, false, false, false, false, false, false, false] (by kernel_rfl) rfl rfl ⟨(blk_cell BK16112.out 0).trans rfl, (blk_cell BK16112.out 1).trans rfl, (blk_cell BK16112.out 2).trans rfl, (blk_cell BK16112.out 3).trans rfl, (blk_cell BK16112.out 4).trans rfl, (blk_cell BK16112.out 5).trans rfl⟩ (fun hHeld => ?_); refine with_tabW plaitinglaw5_FrameCut.tab5 plaitinglaw5_FrameCut.bits5 (fun HT_ HW_ => ?_)
  generalize w38.drew = w39 at HO16111 HO16120 BK16101 BK16102 BK16112 HB hHeld ⊢
  refine pure_ (i := 1) (N := some 29) (v := ?_) (a' := ?_) #[false, true, false, false, false, false, false, false, false, false, false, false, false, false] rfl rfl (any_of HT_.out (by kernel_rfl)) (fun _ _ _ h => h) (Or.inl ⟨by rfl, ?_⟩) ?_ ?_
  rotate_left
  · intro w'
    go_simp
    with_reducible rfl
  rotate_left
  · simp only [Act.put, List.setIfInBounds_toArray, List.set_cons_zero, List.set_cons_succ, i64_w, i32_w]
    rfl
  refine pure_ (i := 2) (N := some 30) (v := ?_) (a' := ?_) #[false, true, true, false, false, false, false, false, false, false, false, false, false, false] rfl rfl (any_of HT_.out (by kernel_rfl)) (fun _ _ _ h => h) (Or.inl ⟨by rfl, ?_⟩) ?_ ?_
  rotate_left
  · intro w'
    go_simp
    with_reducible rfl
  rotate_left
  · simp only [Act.put, List.setIfInBounds_toArray, List.set_cons_zero, List.set_cons_succ, i64_w, i32_w]
    rfl
  refine pure_ (i := 3) (N := some 31) (v := ?_) (a' := ?_) #[false, true, true, true, false, false, false, false, false, false, false, false, false, false] rfl rfl (any_of HT_.out (by kernel_rfl)) (fun _ _ _ h => h) (Or.inl ⟨by rfl, ?_⟩) ?_ ?_
  rotate_left
  · intro w'
    go_simp
    with_reducible rfl
  rotate_left
  · simp only [Act.put, List.setIfInBounds_toArray, List.set_cons_zero, List.set_cons_succ, i64_w, i32_w]
    rfl
  refine pure_ (i := 4) (N := some 32) (v := ?_) (a' := ?_) #[false, true, true, true, true, false, false, false, false, false, false, false, false, false] rfl rfl (any_of HT_.out (by kernel_rfl)) (fun _ _ _ h => h) (Or.inl ⟨by rfl, ?_⟩) ?_ ?_
  rotate_left
  · intro w'
    go_simp
    with_reducible rfl
  rotate_left
  · simp only [Act.put, List.setIfInBounds_toArray, List.set_cons_zero, List.set_cons_succ, i64_w, i32_w]
    rfl
  refine take_ (i := 0) (N := some 28) (v := ?_) (a' := ?_) #[true, true, true, true, true, false, false, false, false, false, false, false, false, false] rfl rfl (take_ofW HT_.out HW_.out (by kernel_rfl)) (fun _ _ _ h => h) (Or.inl ⟨by rfl, ?_⟩) hHeld ?_ ?_
  rotate_left
  · rintro w' ⟨s0, s1, s2, s3, s4, s5⟩
    go_simp
    with_reducible rfl
  rotate_left
  · simp only [Act.put, List.setIfInBounds_toArray, List.set_cons_zero, List.set_cons_succ, i64_w, i32_w]
    rfl
  refine join_ (σ := Value × Nat) 2 #[true, true, true, true, true, true, true, true, true, true, true, true, false, false] (fun s_ => [(33, .int .i64 t16122), (35, .tuple #[.agg #[.int .i64 t16123, .int .i64 t16124, .int .i64 t16125, .int .i64 t16126, .int .i64 t16127, s_.1], .int .i64 t16131]), (13, .pointer (some ⟨s_.2, 0, none⟩)), (34, .string (t16121.extract 0 (t16122 : Int).toNat)), (27, .tuple #[.agg #[.int .i64 t16123, .int .i64 t16124, .int .i64 t16125, .int .i64 t16126, .int .i64 t16127, s_.1], .int .i64 t16131]), (36, .agg #[.int .i64 t16123, .int .i64 t16124, .int .i64 t16125, .int .i64 t16126, .int .i64 t16127, s_.1]), (37, .int .i64 t16131)]) (fun s_ w' => (w'.cell? ⟨gb16112, 0, none⟩ = some (.int .i64 t16104) ∧ w'.cell? ⟨gb16112, 1, none⟩ = some (.int .i64 t16105) ∧ w'.cell? ⟨gb16112, 2, none⟩ = some (.int .i64 t16106) ∧ w'.cell? ⟨gb16112, 3, none⟩ = some (.int .i64 t16107) ∧ w'.cell? ⟨gb16112, 4, none⟩ = some (.int .i64 t16108) ∧ w'.cell? ⟨gb16112, 5, none⟩ = some (.slice Ao33 t16109.length co33)) ∧ (Kd.R (Kd.int .i64) 3 w' w.heap.size (fun _ => True) (.slice Ao33 t16109.length co33) t16109) ∧ (Kd.R k26 26 w' w.heap.size (fun k_ => some k_ ≠ (s_.1 : Value).ownBlock) (.slice Ao37 t16118.length co37) t16118) ∧ (Kd.R k26 26 w' w.heap.size (fun k_ => some k_ ≠ (.slice Ao37 t16118.length co37 : Value).ownBlock) s_.1 t16128) ∧ (w'.heap[gb16101]? = some (.cells #[.int .i64 a0_0, .int .i64 a0_1, .int .i64 a0_2, .int .i64 a0_3, .int .i64 a0_4, .slice A0_5 l0_5.length c0_5] 24 (0, 0))) ∧ (w'.heap[gb16102]? = some (.cells #[.int .i64 a1_0, .int .i64 a1_1, .int .i64 a1_2, .int .i64 a1_3, .int .i64 a1_4, .slice A1_5 l1_5.length c1_5] 29 (0, 0))) ∧ (w'.heap[gb16112]? = some (.cells #[.int .i64 t16104, .int .i64 t16105, .int .i64 t16106, .int .i64 t16107, .int .i64 t16108, .slice Ao33 t16109.length co33] 24 (0, 0))) ∧ (w'.heap[s_.2]? = some (.cells #[.int .i64 0, .int .i64 0, .int .i64 0, .int .i64 0, .int .i64 0, .slice none 0 0] 29 (0, 0))) ∧ (w.heap.size ≤ s_.2) ∧ (w.heap.size ≤ s_.2) ∧ (gb16101 ≠ s_.2) ∧ (s_.2 ≠ gb16101) ∧ (gb16102 ≠ s_.2) ∧ (s_.2 ≠ gb16102) ∧ (gb16112 ≠ s_.2) ∧ (s_.2 ≠ gb16112) ∧ (Below w.heap.size w w')) ?_ ?_
  rotate_left
  · intro hCont
    refine two_ (i := 5) (j := 11) (Ni := some 33) (Nj := some 13) #[true, true, true, true, true, true, false, false, false, false, false, false, false, false] #[true, true, true, true, true, false, false, false, false, false, false, true, false, false] rfl rfl rfl rfl (two_of HT_.out (by kernel_rfl)) (by decide) (by decide) (fun K hK => ?_) (fun K hK => ?_)
    · skip
      refine goes_ Try.func24 (by kernel_rfl) rfl #[.int .i64 a3, .int .i64 (t16121.size : Int)] (by rfl) rfl rfl (by (try simp only [List.map_toArray, List.map_cons, List.map_nil]); first | done | rfl | (simp only [List.length_drop, List.length_take]; rfl)) ?_
      with_reducible refine (plaitinglaw5_within.calls a3 (t16121.size : Int) t16122 _ A11.out).mono ?_
      rintro e w' ⟨rfl, ⟨nd, rfl⟩⟩
      refine ⟨_, rfl, ?_⟩
      refine hK.out _ _ ⟨(blk_cell BK16112.out 0).trans rfl, (blk_cell BK16112.out 1).trans rfl, (blk_cell BK16112.out 2).trans rfl, (blk_cell BK16112.out 3).trans rfl, (blk_cell BK16112.out 4).trans rfl, (blk_cell BK16112.out 5).trans rfl⟩ (fun hHeld => ?_)
      clear hK K
      refine norm_ (a' := ?_) ?_ ?_
      rotate_left
      · show Act.put _ (some 33) _ = _
        simp only [Act.put, List.setIfInBounds_toArray, List.set_cons_zero, List.set_cons_succ, i64_w, i32_w]
        rfl
      refine pure_ (i := 6) (N := some 34) (v := ?_) (a' := ?_) #[true, true, true, true, true, true, true, false, false, false, false, false, false, false] rfl rfl (any_of HT_.out (by kernel_rfl)) (fun _ _ _ h => h) (Or.inl ⟨by rfl, ?_⟩) ?_ ?_
      rotate_left
      · intro w'
        go_simp
        with_reducible rfl
      rotate_left
      · simp only [Act.put, List.setIfInBounds_toArray, List.set_cons_zero, List.set_cons_succ, i64_w, i32_w]
        rfl
      refine two_ (i := 7) (j := 11) (Ni := some 35) (Nj := some 13) #[true, true, true, true, true, true, true, true, false, false, false, false, false, false] #[true, true, true, true, true, true, true, false, false, false, false, true, false, false] rfl rfl rfl rfl (two_of HT_.out (by kernel_rfl)) (by decide) (by decide) (fun K hK => ?_) (fun K hK => ?_)
      · skip
        refine goes_ Try.func35 (by kernel_rfl) rfl #[.agg #[.int .i64 t16104, .int .i64 t16105, .int .i64 t16106, .int .i64 t16107, .int .i64 t16108, .slice Ao33 t16109.length co33], .string (t16121.extract 0 (t16122 : Int).toNat)] (by rfl) rfl rfl (by (try simp only [List.map_toArray, List.map_cons, List.map_nil]); first | done | rfl | (simp only [List.length_drop, List.length_take]; rfl)) ?_
        with_reducible refine (frame_Read.calls t16104 t16105 t16106 t16107 t16108 _ _ t16109 (t16121.extract 0 (t16122 : Int).toNat) t16123 t16124 t16125 t16126 t16127 t16128 t16131 _ ?side1 ?side2 A14.out).mono ?_
        (case side1 => repeat (first | exact (Kd.R_reads' HO16111.out).2.2 | (with_reducible refine Kd.C_alloc ?_ _) | (with_reducible refine Kd.C_drewN ?_ _) | (with_reducible refine Kd.C_drew ?_)))
        (case side2 => exact (Kd.R_reads' HO16111.out).2.1)
        rintro e w40 ⟨v16129, rfl, ho0, hb⟩
        refine ⟨_, rfl, ?_⟩
        have HO16130 := Aside0.mk (Kd.R_lower (Kd.R_new' ho0 (Kd.R_lt (pR_ HO16120.out))) (below_size (pH_ HB.out)))
        replace HO16111 := Aside0.mk (Kd.R_below (pR_ HO16111.out) hb)
        replace HO16120 := Aside0.mk (Kd.R_elder' (pR_ HO16120.out) (Kd.R_base ho0) hb)
        replace BK16101 := Aside0.mk (blk_below (pB_ BK16101.out) hb)
        replace BK16102 := Aside0.mk (blk_below (pB_ BK16102.out) hb)
        replace BK16112 := Aside0.mk (blk_below (pB_ BK16112.out) hb)
        replace HB := Aside0.mk (below_step (pH_ HB.out) hb)
        (try clear hb)
        (try clear hb2)
        (try clear hk)
        (try clear hi)
        (try clear ho0)
        refine hK.out _ _ ⟨(blk_cell BK16112.out 0).trans rfl, (blk_cell BK16112.out 1).trans rfl, (blk_cell BK16112.out 2).trans rfl, (blk_cell BK16112.out 3).trans rfl, (blk_cell BK16112.out 4).trans rfl, (blk_cell BK16112.out 5).trans rfl⟩ (fun hHeld => ?_)
        clear hK K
        refine norm_ (a' := ?_) ?_ ?_
        rotate_left
        · show Act.put _ (some 35) _ = _
          simp only [Act.put, List.setIfInBounds_toArray, List.set_cons_zero, List.set_cons_succ, i64_w, i32_w]
          rfl
        refine pure_ (i := 8) (N := some 27) (v := ?_) (a' := ?_) #[true, true, true, true, true, true, true, true, true, false, false, false, false, false] rfl rfl (any_of HT_.out (by kernel_rfl)) (fun _ _ _ h => h) (Or.inl ⟨by rfl, ?_⟩) ?_ ?_
        rotate_left
        · intro w'
          go_simp
          with_reducible rfl
        rotate_left
        · simp only [Act.put, List.setIfInBounds_toArray, List.set_cons_zero, List.set_cons_succ, i64_w, i32_w]
          rfl
        refine pure_ (i := 9) (N := some 36) (v := ?_) (a' := ?_) #[true, true, true, true, true, true, true, true, true, true, false, false, false, false] rfl rfl (any_of HT_.out (by kernel_rfl)) (fun _ _ _ h => h) (Or.inl ⟨by rfl, ?_⟩) ?_ ?_
        rotate_left
        · intro w'
          go_simp
          with_reducible rfl
        rotate_left
        · simp only [Act.put, List.setIfInBounds_toArray, List.set_cons_zero, List.set_cons_succ, i64_w, i32_w]
          rfl
        refine pure_ (i := 10) (N := some 37) (v := ?_) (a' := ?_) #[true, true, true, true, true, true, true, true, true, true, true, false, false, false] rfl rfl (any_of HT_.out (by kernel_rfl)) (fun _ _ _ h => h) (Or.inl ⟨by rfl, ?_⟩) ?_ ?_
        rotate_left
        · intro w'
          go_simp
          with_reducible rfl
        rotate_left
        · simp only [Act.put, List.setIfInBounds_toArray, List.set_cons_zero, List.set_cons_succ, i64_w, i32_w]
          rfl
        refine one_ (i := 11) (N := some 13) #[true, true, true, true, true, true, true, true, true, true, true, true, false, false] rfl rfl (one_of HT_.out (by kernel_rfl)) (by decide) (fun K hK => ?_)
        refine box_step ?hg (N := 13) ?hd (cs := #[.int .i64 0, .int .i64 0, .int .i64 0, .int .i64 0, .int .i64 0, .slice none 0 0]) (t := 29) ?hr ?_; (case hd => rfl); (case hg => rfl); (case hr => first | (go_simp; done) | (go_simp; rfl))
        intro gb16132 hg w41 hbox hb
        have BK16132 := Aside0.mk (hbox)
        have GW16132 := Aside0.mk ((by rw [hg]; exact (below_size (pH_ HB.out)) : w.heap.size ≤ gb16132))
        have GE16132 := Aside0.mk ((by rw [hg]; exact (below_size (pH_ HB.out)) : w.heap.size ≤ gb16132))
        have NB16101_16132 := Aside0.mk (ltB_ hg BK16101.out)
        have NB16132_16101 := Aside0.mk (ltB_ hg BK16101.out).symm
        have NB16102_16132 := Aside0.mk (ltB_ hg BK16102.out)
        have NB16132_16102 := Aside0.mk (ltB_ hg BK16102.out).symm
        have NB16112_16132 := Aside0.mk (ltB_ hg BK16112.out)
        have NB16132_16112 := Aside0.mk (ltB_ hg BK16112.out).symm
        replace HO16111 := Aside0.mk (Kd.R_below (pR_ HO16111.out) hb)
        replace HO16120 := Aside0.mk (Kd.R_below (pR_ HO16120.out) hb)
        replace HO16130 := Aside0.mk (Kd.R_below (pR_ HO16130.out) hb)
        replace BK16101 := Aside0.mk (blk_below (pB_ BK16101.out) hb)
        replace BK16102 := Aside0.mk (blk_below (pB_ BK16102.out) hb)
        replace BK16112 := Aside0.mk (blk_below (pB_ BK16112.out) hb)
        replace HB := Aside0.mk (below_step (pH_ HB.out) hb)
        clear hb hbox hg
        refine hK.out _ _ ⟨(blk_cell BK16112.out 0).trans rfl, (blk_cell BK16112.out 1).trans rfl, (blk_cell BK16112.out 2).trans rfl, (blk_cell BK16112.out 3).trans rfl, (blk_cell BK16112.out 4).trans rfl, (blk_cell BK16112.out 5).trans rfl⟩ (fun hHeld => ?_)
        clear hK K
        refine norm_ (a' := ?_) ?_ ?_
        rotate_left
        · show Act.put _ (some 13) _ = _
          simp only [Act.put, List.setIfInBounds_toArray, List.set_cons_zero, List.set_cons_succ, i64_w, i32_w]
          rfl
        exact norm_ (by simp only [putAll, Act.put, List.setIfInBounds_toArray, List.set_cons_zero, List.set_cons_succ]) (hCont (v16129, gb16132) _ ⟨hHeld, (pR_ HO16111.out), (by (with_reducible repeat (first | apply Kd.R_alloc | apply Kd.R_drewN | apply Kd.R_drew)); exact Kd.R_mono HO16120.out (fun _ hk => hk.2)), (by (with_reducible repeat (first | apply Kd.R_alloc | apply Kd.R_drewN | apply Kd.R_drew)); exact Kd.R_mono HO16130.out (fun _ hk => hk.2)), (pB_ BK16101.out), (pB_ BK16102.out), (pB_ BK16112.out), (pB_ BK16132.out), GW16132.out, GE16132.out, NB16101_16132.out, NB16132_16101.out, NB16102_16132.out, NB16132_16102.out, NB16112_16132.out, NB16132_16112.out, (pH_ HB.out)⟩)
      skip
      refine box_step ?hg (N := 13) ?hd (cs := #[.int .i64 0, .int .i64 0, .int .i64 0, .int .i64 0, .int .i64 0, .slice none 0 0]) (t := 29) ?hr ?_; (case hd => rfl); (case hg => rfl); (case hr => first | (go_simp; done) | (go_simp; rfl))
      intro gb16132 hg w40 hbox hb
      have BK16132 := Aside0.mk (hbox)
      have GW16132 := Aside0.mk ((by rw [hg]; exact (below_size (pH_ HB.out)) : w.heap.size ≤ gb16132))
      have GE16132 := Aside0.mk ((by rw [hg]; exact (below_size (pH_ HB.out)) : w.heap.size ≤ gb16132))
      have NB16101_16132 := Aside0.mk (ltB_ hg BK16101.out)
      have NB16132_16101 := Aside0.mk (ltB_ hg BK16101.out).symm
      have NB16102_16132 := Aside0.mk (ltB_ hg BK16102.out)
      have NB16132_16102 := Aside0.mk (ltB_ hg BK16102.out).symm
      have NB16112_16132 := Aside0.mk (ltB_ hg BK16112.out)
      have NB16132_16112 := Aside0.mk (ltB_ hg BK16112.out).symm
      replace HO16111 := Aside0.mk (Kd.R_below (pR_ HO16111.out) hb)
      replace HO16120 := Aside0.mk (Kd.R_below (pR_ HO16120.out) hb)
      replace BK16101 := Aside0.mk (blk_below (pB_ BK16101.out) hb)
      replace BK16102 := Aside0.mk (blk_below (pB_ BK16102.out) hb)
      replace BK16112 := Aside0.mk (blk_below (pB_ BK16112.out) hb)
      replace HB := Aside0.mk (below_step (pH_ HB.out) hb)
      clear hb hbox hg
      refine hK.out _ _ ⟨(blk_cell BK16112.out 0).trans rfl, (blk_cell BK16112.out 1).trans rfl, (blk_cell BK16112.out 2).trans rfl, (blk_cell BK16112.out 3).trans rfl, (blk_cell BK16112.out 4).trans rfl, (blk_cell BK16112.out 5).trans rfl⟩ (fun hHeld => ?_)
      clear hK K
      refine norm_ (a' := ?_) ?_ ?_
      rotate_left
      · show Act.put _ (some 13) _ = _
        simp only [Act.put, List.setIfInBounds_toArray, List.set_cons_zero, List.set_cons_succ, i64_w, i32_w]
        rfl
      refine one_ (i := 7) (N := some 35) #[true, true, true, true, true, true, true, true, false, false, false, true, false, false] rfl rfl (one_of HT_.out (by kernel_rfl)) (by decide) (fun K hK => ?_)
      refine goes_ Try.func35 (by kernel_rfl) rfl #[.agg #[.int .i64 t16104, .int .i64 t16105, .int .i64 t16106, .int .i64 t16107, .int .i64 t16108, .slice Ao33 t16109.length co33], .string (t16121.extract 0 (t16122 : Int).toNat)] (by rfl) rfl rfl (by (try simp only [List.map_toArray, List.map_cons, List.map_nil]); first | done | rfl | (simp only [List.length_drop, List.length_take]; rfl)) ?_
      with_reducible refine (frame_Read.calls t16104 t16105 t16106 t16107 t16108 _ _ t16109 (t16121.extract 0 (t16122 : Int).toNat) t16123 t16124 t16125 t16126 t16127 t16128 t16131 _ ?side1 ?side2 A14.out).mono ?_
      (case side1 => repeat (first | exact (Kd.R_reads' HO16111.out).2.2 | (with_reducible refine Kd.C_alloc ?_ _) | (with_reducible refine Kd.C_drewN ?_ _) | (with_reducible refine Kd.C_drew ?_)))
      (case side2 => exact (Kd.R_reads' HO16111.out).2.1)
      rintro e w41 ⟨v16129, rfl, ho0, hb⟩
      refine ⟨_, rfl, ?_⟩
      have HO16130 := Aside0.mk (Kd.R_lower (Kd.R_new' ho0 (Kd.R_lt (pR_ HO16120.out))) (below_size (pH_ HB.out)))
      replace HO16111 := Aside0.mk (Kd.R_below (pR_ HO16111.out) hb)
      replace HO16120 := Aside0.mk (Kd.R_elder' (pR_ HO16120.out) (Kd.R_base ho0) hb)
      replace BK16101 := Aside0.mk (blk_below (pB_ BK16101.out) hb)
      replace BK16102 := Aside0.mk (blk_below (pB_ BK16102.out) hb)
      replace BK16112 := Aside0.mk (blk_below (pB_ BK16112.out) hb)
      replace BK16132 := Aside0.mk (blk_below (pB_ BK16132.out) hb)
      replace HB := Aside0.mk (below_step (pH_ HB.out) hb)
      (try clear hb)
      (try clear hb2)
      (try clear hk)
      (try clear hi)
      (try clear ho0)
      refine hK.out _ _ ⟨(blk_cell BK16112.out 0).trans rfl, (blk_cell BK16112.out 1).trans rfl, (blk_cell BK16112.out 2).trans rfl, (blk_cell BK16112.out 3).trans rfl, (blk_cell BK16112.out 4).trans rfl, (blk_cell BK16112.out 5).trans rfl⟩ (fun hHeld => ?_)
      clear hK K
      refine norm_ (a' := ?_) ?_ ?_
      rotate_left
      · show Act.put _ (some 35) _ = _
        simp only [Act.put, List.setIfInBounds_toArray, List.set_cons_zero, List.set_cons_succ, i64_w, i32_w]
        rfl
      refine pure_ (i := 8) (N := some 27) (v := ?_) (a' := ?_) #[true, true, true, true, true, true, true, true, true, false, false, true, false, false] rfl rfl (any_of HT_.out (by kernel_rfl)) (fun _ _ _ h => h) (Or.inl ⟨by rfl, ?_⟩) ?_ ?_
      rotate_left
      · intro w'
        go_simp
        with_reducible rfl
      rotate_left
      · simp only [Act.put, List.setIfInBounds_toArray, List.set_cons_zero, List.set_cons_succ, i64_w, i32_w]
        rfl
      refine pure_ (i := 9) (N := some 36) (v := ?_) (a' := ?_) #[true, true, true, true, true, true, true, true, true, true, false, true, false, false] rfl rfl (any_of HT_.out (by kernel_rfl)) (fun _ _ _ h => h) (Or.inl ⟨by rfl, ?_⟩) ?_ ?_
      rotate_left
      · intro w'
        go_simp
        with_reducible rfl
      rotate_left
      · simp only [Act.put, List.setIfInBounds_toArray, List.set_cons_zero, List.set_cons_succ, i64_w, i32_w]
        rfl
      refine pure_ (i := 10) (N := some 37) (v := ?_) (a' := ?_) #[true, true, true, true, true, true, true, true, true, true, true, true, false, false] rfl rfl (any_of HT_.out (by kernel_rfl)) (fun _ _ _ h => h) (Or.inl ⟨by rfl, ?_⟩) ?_ ?_
      rotate_left
      · intro w'
        go_simp
        with_reducible rfl
      rotate_left
      · simp only [Act.put, List.setIfInBounds_toArray, List.set_cons_zero, List.set_cons_succ, i64_w, i32_w]
        rfl
      exact norm_ (by simp only [putAll, Act.put, List.setIfInBounds_toArray, List.set_cons_zero, List.set_cons_succ]) (hCont (v16129, gb16132) _ ⟨hHeld, (pR_ HO16111.out), (by (with_reducible repeat (first | apply Kd.R_alloc | apply Kd.R_drewN | apply Kd.R_drew)); exact Kd.R_mono HO16120.out (fun _ hk => hk.2)), (by (with_reducible repeat (first | apply Kd.R_alloc | apply Kd.R_drewN | apply Kd.R_drew)); exact Kd.R_mono HO16130.out (fun _ hk => hk.2)), (pB_ BK16101.out), (pB_ BK16102.out), (pB_ BK16112.out), (pB_ BK16132.out), GW16132.out, GE16132.out, NB16101_16132.out, NB16132_16101.out, NB16102_16132.out, NB16132_16102.out, NB16112_16132.out, NB16132_16112.out, (pH_ HB.out)⟩)
    skip
    refine box_step ?hg (N := 13) ?hd (cs := #[.int .i64 0, .int .i64 0, .int .i64 0, .int .i64 0, .int .i64 0, .slice none 0 0]) (t := 29) ?hr ?_; (case hd => rfl); (case hg => rfl); (case hr => first | (go_simp; done) | (go_simp; rfl))
    intro gb16132 hg w40 hbox hb
    have BK16132 := Aside0.mk (hbox)
    have GW16132 := Aside0.mk ((by rw [hg]; exact (below_size (pH_ HB.out)) : w.heap.size ≤ gb16132))
    have GE16132 := Aside0.mk ((by rw [hg]; exact (below_size (pH_ HB.out)) : w.heap.size ≤ gb16132))
    have NB16101_16132 := Aside0.mk (ltB_ hg BK16101.out)
    have NB16132_16101 := Aside0.mk (ltB_ hg BK16101.out).symm
    have NB16102_16132 := Aside0.mk (ltB_ hg BK16102.out)
    have NB16132_16102 := Aside0.mk (ltB_ hg BK16102.out).symm
    have NB16112_16132 := Aside0.mk (ltB_ hg BK16112.out)
    have NB16132_16112 := Aside0.mk (ltB_ hg BK16112.out).symm
    replace HO16111 := Aside0.mk (Kd.R_below (pR_ HO16111.out) hb)
    replace HO16120 := Aside0.mk (Kd.R_below (pR_ HO16120.out) hb)
    replace BK16101 := Aside0.mk (blk_below (pB_ BK16101.out) hb)
    replace BK16102 := Aside0.mk (blk_below (pB_ BK16102.out) hb)
    replace BK16112 := Aside0.mk (blk_below (pB_ BK16112.out) hb)
    replace HB := Aside0.mk (below_step (pH_ HB.out) hb)
    clear hb hbox hg
    refine hK.out _ _ ⟨(blk_cell BK16112.out 0).trans rfl, (blk_cell BK16112.out 1).trans rfl, (blk_cell BK16112.out 2).trans rfl, (blk_cell BK16112.out 3).trans rfl, (blk_cell BK16112.out 4).trans rfl, (blk_cell BK16112.out 5).trans rfl⟩ (fun hHeld => ?_)
    clear hK K
    refine norm_ (a' := ?_) ?_ ?_
    rotate_left
    · show Act.put _ (some 13) _ = _
      simp only [Act.put, List.setIfInBounds_toArray, List.set_cons_zero, List.set_cons_succ, i64_w, i32_w]
      rfl
    refine one_ (i := 5) (N := some 33) #[true, true, true, true, true, true, false, false, false, false, false, true, false, false] rfl rfl (one_of HT_.out (by kernel_rfl)) (by decide) (fun K hK => ?_)
    refine goes_ Try.func24 (by kernel_rfl) rfl #[.int .i64 a3, .int .i64 (t16121.size : Int)] (by rfl) rfl rfl (by (try simp only [List.map_toArray, List.map_cons, List.map_nil]); first | done | rfl | (simp only [List.length_drop, List.length_take]; rfl)) ?_
    with_reducible refine (plaitinglaw5_within.calls a3 (t16121.size : Int) t16122 _ A11.out).mono ?_
    rintro e w' ⟨rfl, ⟨nd, rfl⟩⟩
    refine ⟨_, rfl, ?_⟩
    refine hK.out _ _ ⟨(blk_cell BK16112.out 0).trans rfl, (blk_cell BK16112.out 1).trans rfl, (blk_cell BK16112.out 2).trans rfl, (blk_cell BK16112.out 3).trans rfl, (blk_cell BK16112.out 4).trans rfl, (blk_cell BK16112.out 5).trans rfl⟩ (fun hHeld => ?_)
    clear hK K
    refine norm_ (a' := ?_) ?_ ?_
    rotate_left
    · show Act.put _ (some 33) _ = _
      simp only [Act.put, List.setIfInBounds_toArray, List.set_cons_zero, List.set_cons_succ, i64_w, i32_w]
      rfl
    refine pure_ (i := 6) (N := some 34) (v := ?_) (a' := ?_) #[true, true, true, true, true, true, true, false, false, false, false, true, false, false] rfl rfl (any_of HT_.out (by kernel_rfl)) (fun _ _ _ h => h) (Or.inl ⟨by rfl, ?_⟩) ?_ ?_
    rotate_left
    · intro w'
      go_simp
      with_reducible rfl
    rotate_left
    · simp only [Act.put, List.setIfInBounds_toArray, List.set_cons_zero, List.set_cons_succ, i64_w, i32_w]
      rfl
    refine one_ (i := 7) (N := some 35) #[true, true, true, true, true, true, true, true, false, false, false, true, false, false] rfl rfl (one_of HT_.out (by kernel_rfl)) (by decide) (fun K hK => ?_)
    refine goes_ Try.func35 (by kernel_rfl) rfl #[.agg #[.int .i64 t16104, .int .i64 t16105, .int .i64 t16106, .int .i64 t16107, .int .i64 t16108, .slice Ao33 t16109.length co33], .string (t16121.extract 0 (t16122 : Int).toNat)] (by rfl) rfl rfl (by (try simp only [List.map_toArray, List.map_cons, List.map_nil]); first | done | rfl | (simp only [List.length_drop, List.length_take]; rfl)) ?_
    with_reducible refine (frame_Read.calls t16104 t16105 t16106 t16107 t16108 _ _ t16109 (t16121.extract 0 (t16122 : Int).toNat) t16123 t16124 t16125 t16126 t16127 t16128 t16131 _ ?side1 ?side2 A14.out).mono ?_
    (case side1 => repeat (first | exact (Kd.R_reads' HO16111.out).2.2 | (with_reducible refine Kd.C_alloc ?_ _) | (with_reducible refine Kd.C_drewN ?_ _) | (with_reducible refine Kd.C_drew ?_)))
    (case side2 => exact (Kd.R_reads' HO16111.out).2.1)
    rintro e w41 ⟨v16129, rfl, ho0, hb⟩
    refine ⟨_, rfl, ?_⟩
    have HO16130 := Aside0.mk (Kd.R_lower (Kd.R_new' ho0 (Kd.R_lt (pR_ HO16120.out))) (below_size (pH_ HB.out)))
    replace HO16111 := Aside0.mk (Kd.R_below (pR_ HO16111.out) hb)
    replace HO16120 := Aside0.mk (Kd.R_elder' (pR_ HO16120.out) (Kd.R_base ho0) hb)
    replace BK16101 := Aside0.mk (blk_below (pB_ BK16101.out) hb)
    replace BK16102 := Aside0.mk (blk_below (pB_ BK16102.out) hb)
    replace BK16112 := Aside0.mk (blk_below (pB_ BK16112.out) hb)
    replace BK16132 := Aside0.mk (blk_below (pB_ BK16132.out) hb)
    replace HB := Aside0.mk (below_step (pH_ HB.out) hb)
    (try clear hb)
    (try clear hb2)
    (try clear hk)
    (try clear hi)
    (try clear ho0)
    refine hK.out _ _ ⟨(blk_cell BK16112.out 0).trans rfl, (blk_cell BK16112.out 1).trans rfl, (blk_cell BK16112.out 2).trans rfl, (blk_cell BK16112.out 3).trans rfl, (blk_cell BK16112.out 4).trans rfl, (blk_cell BK16112.out 5).trans rfl⟩ (fun hHeld => ?_)
    clear hK K
    refine norm_ (a' := ?_) ?_ ?_
    rotate_left
    · show Act.put _ (some 35) _ = _
      simp only [Act.put, List.setIfInBounds_toArray, List.set_cons_zero, List.set_cons_succ, i64_w, i32_w]
      rfl
    refine pure_ (i := 8) (N := some 27) (v := ?_) (a' := ?_) #[true, true, true, true, true, true, true, true, true, false, false, true, false, false] rfl rfl (any_of HT_.out (by kernel_rfl)) (fun _ _ _ h => h) (Or.inl ⟨by rfl, ?_⟩) ?_ ?_
    rotate_left
    · intro w'
      go_simp
      with_reducible rfl
    rotate_left
    · simp only [Act.put, List.setIfInBounds_toArray, List.set_cons_zero, List.set_cons_succ, i64_w, i32_w]
      rfl
    refine pure_ (i := 9) (N := some 36) (v := ?_) (a' := ?_) #[true, true, true, true, true, true, true, true, true, true, false, true, false, false] rfl rfl (any_of HT_.out (by kernel_rfl)) (fun _ _ _ h => h) (Or.inl ⟨by rfl, ?_⟩) ?_ ?_
    rotate_left
    · intro w'
      go_simp
      with_reducible rfl
    rotate_left
    · simp only [Act.put, List.setIfInBounds_toArray, List.set_cons_zero, List.set_cons_succ, i64_w, i32_w]
      rfl
    refine pure_ (i := 10) (N := some 37) (v := ?_) (a' := ?_) #[true, true, true, true, true, true, true, true, true, true, true, true, false, false] rfl rfl (any_of HT_.out (by kernel_rfl)) (fun _ _ _ h => h) (Or.inl ⟨by rfl, ?_⟩) ?_ ?_
    rotate_left
    · intro w'
      go_simp
      with_reducible rfl
    rotate_left
    · simp only [Act.put, List.setIfInBounds_toArray, List.set_cons_zero, List.set_cons_succ, i64_w, i32_w]
      rfl
    exact norm_ (by simp only [putAll, Act.put, List.setIfInBounds_toArray, List.set_cons_zero, List.set_cons_succ]) (hCont (v16129, gb16132) _ ⟨hHeld, (pR_ HO16111.out), (by (with_reducible repeat (first | apply Kd.R_alloc | apply Kd.R_drewN | apply Kd.R_drew)); exact Kd.R_mono HO16120.out (fun _ hk => hk.2)), (by (with_reducible repeat (first | apply Kd.R_alloc | apply Kd.R_drewN | apply Kd.R_drew)); exact Kd.R_mono HO16130.out (fun _ hk => hk.2)), (pB_ BK16101.out), (pB_ BK16102.out), (pB_ BK16112.out), (pB_ BK16132.out), GW16132.out, GE16132.out, NB16101_16132.out, NB16132_16101.out, NB16102_16132.out, NB16132_16102.out, NB16112_16132.out, NB16132_16112.out, (pH_ HB.out)⟩)
  rintro ⟨v16129, gb16132⟩ w42 ⟨hS_, h0_, h1_, h2_, h3_, h4_, h5_, h6_, h7_, h8_, h9_, h10_, h11_, h12_, h13_, h14_, h15_⟩
  have n0_ : Aside0 (Kd.R (Kd.int .i64) 3 w42 w.heap.size (fun _ => True) (.slice Ao33 t16109.length co33) t16109) := ⟨h0_⟩
  have n1_ : Aside0 (Kd.R k26 26 w42 w.heap.size (fun k_ => some k_ ≠ (v16129 : Value).ownBlock) (.slice Ao37 t16118.length co37) t16118) := ⟨h1_⟩
  have n2_ : Aside0 (Kd.R k26 26 w42 w.heap.size (fun k_ => some k_ ≠ (.slice Ao37 t16118.length co37 : Value).ownBlock) v16129 t16128) := ⟨h2_⟩
  have n3_ : Aside0 (w42.heap[gb16101]? = some (.cells #[.int .i64 a0_0, .int .i64 a0_1, .int .i64 a0_2, .int .i64 a0_3, .int .i64 a0_4, .slice A0_5 l0_5.length c0_5] 24 (0, 0))) := ⟨h3_⟩
  have n4_ : Aside0 (w42.heap[gb16102]? = some (.cells #[.int .i64 a1_0, .int .i64 a1_1, .int .i64 a1_2, .int .i64 a1_3, .int .i64 a1_4, .slice A1_5 l1_5.length c1_5] 29 (0, 0))) := ⟨h4_⟩
  have n5_ : Aside0 (w42.heap[gb16112]? = some (.cells #[.int .i64 t16104, .int .i64 t16105, .int .i64 t16106, .int .i64 t16107, .int .i64 t16108, .slice Ao33 t16109.length co33] 24 (0, 0))) := ⟨h5_⟩
  have n6_ : Aside0 (w42.heap[gb16132]? = some (.cells #[.int .i64 0, .int .i64 0, .int .i64 0, .int .i64 0, .int .i64 0, .slice none 0 0] 29 (0, 0))) := ⟨h6_⟩
  have n7_ : Aside0 (w.heap.size ≤ gb16132) := ⟨h7_⟩
  have n8_ : Aside0 (w.heap.size ≤ gb16132) := ⟨h8_⟩
  have n9_ : Aside0 (gb16101 ≠ gb16132) := ⟨h9_⟩
  have n10_ : Aside0 (gb16132 ≠ gb16101) := ⟨h10_⟩
  have n11_ : Aside0 (gb16102 ≠ gb16132) := ⟨h11_⟩
  have n12_ : Aside0 (gb16132 ≠ gb16102) := ⟨h12_⟩
  have n13_ : Aside0 (gb16112 ≠ gb16132) := ⟨h13_⟩
  have n14_ : Aside0 (gb16132 ≠ gb16112) := ⟨h14_⟩
  have n15_ : Aside0 (Below w.heap.size w w42) := ⟨h15_⟩
  clear HO16111
  clear HO16120
  clear BK16101
  clear BK16102
  clear BK16112
  clear HB
  clear h0_ h1_ h2_ h3_ h4_ h5_ h6_ h7_ h8_ h9_ h10_ h11_ h12_ h13_ h14_ h15_
  have HO16111 := n0_
  have HO16120 := n1_
  have HO16130 := n2_
  have BK16101 := n3_
  have BK16102 := n4_
  have BK16112 := n5_
  have BK16132 := n6_
  have GW16132 := n7_
  have GE16132 := n8_
  have NB16101_16132 := n9_
  have NB16132_16101 := n10_
  have NB16102_16132 := n11_
  have NB16132_16102 := n12_
  have NB16112_16132 := n13_
  have NB16132_16112 := n14_
  have HB := n15_
  clear n0_ n1_ n2_ n3_ n4_ n5_ n6_ n7_ n8_ n9_ n10_ n11_ n12_ n13_ n14_ n15_
  have hHeld : w42.cell? ⟨gb16112, 0, none⟩ = some (.int .i64 t16104) ∧ w42.cell? ⟨gb16112, 1, none⟩ = some (.int .i64 t16105) ∧ w42.cell? ⟨gb16112, 2, none⟩ = some (.int .i64 t16106) ∧ w42.cell? ⟨gb16112, 3, none⟩ = some (.int .i64 t16107) ∧ w42.cell? ⟨gb16112, 4, none⟩ = some (.int .i64 t16108) ∧ w42.cell? ⟨gb16112, 5, none⟩ = some (.slice Ao33 t16109.length co33) := hS_
  obtain ⟨Ao48, co48, eo48⟩ := Kd.R_slice HO16130.out
  (first | subst eo48 | (injection eo48 with f1_ f2_ f3_; have f4_ := f1_.symm; have f5_ := f3_.symm; clear f1_ f2_ f3_; subst f4_; subst f5_))
  refine norm_ (a' := ?_) ?_ ?_
  rotate_left
  · simp only [putAll, Act.put, List.setIfInBounds_toArray, List.set_cons_zero, List.set_cons_succ]
    rfl
  refine one_ (i := 12) (N := none) #[true, true, true, true, true, true, true, true, true, true, true, true, true, false] rfl rfl (one_of HT_.out (by kernel_rfl)) (by decide) (fun K hK => ?_)
  have hs43 : w42.cell? ⟨gb16132, 0, none⟩ = some (.int .i64 0) := (blk_cell BK16132.out 0).trans rfl
  have hfs43 := blk_frozen BK16132.out 0
  have hns43_0 := NB16101_16132.out
  have hns43_1 := NB16102_16132.out
  have hns43_2 := NB16112_16132.out
  have hms43_0 := NB16132_16101.out
  have hms43_1 := NB16132_16102.out
  have hms43_2 := NB16132_16112.out
  have hs44 : w42.cell? ⟨gb16132, 1, none⟩ = some (.int .i64 0) := (blk_cell BK16132.out 1).trans rfl
  have hfs44 := blk_frozen BK16132.out 1
  have hns44_0 := NB16101_16132.out
  have hns44_1 := NB16102_16132.out
  have hns44_2 := NB16112_16132.out
  have hms44_0 := NB16132_16101.out
  have hms44_1 := NB16132_16102.out
  have hms44_2 := NB16132_16112.out
  have hs45 : w42.cell? ⟨gb16132, 2, none⟩ = some (.int .i64 0) := (blk_cell BK16132.out 2).trans rfl
  have hfs45 := blk_frozen BK16132.out 2
  have hns45_0 := NB16101_16132.out
  have hns45_1 := NB16102_16132.out
  have hns45_2 := NB16112_16132.out
  have hms45_0 := NB16132_16101.out
  have hms45_1 := NB16132_16102.out
  have hms45_2 := NB16132_16112.out
  have hs46 : w42.cell? ⟨gb16132, 3, none⟩ = some (.int .i64 0) := (blk_cell BK16132.out 3).trans rfl
  have hfs46 := blk_frozen BK16132.out 3
  have hns46_0 := NB16101_16132.out
  have hns46_1 := NB16102_16132.out
  have hns46_2 := NB16112_16132.out
  have hms46_0 := NB16132_16101.out
  have hms46_1 := NB16132_16102.out
  have hms46_2 := NB16132_16112.out
  have hs47 : w42.cell? ⟨gb16132, 4, none⟩ = some (.int .i64 0) := (blk_cell BK16132.out 4).trans rfl
  have hfs47 := blk_frozen BK16132.out 4
  have hns47_0 := NB16101_16132.out
  have hns47_1 := NB16102_16132.out
  have hns47_2 := NB16112_16132.out
  have hms47_0 := NB16132_16101.out
  have hms47_1 := NB16132_16102.out
  have hms47_2 := NB16132_16112.out
  have hs49 : w42.cell? ⟨gb16132, 5, none⟩ = some (.slice none 0 0) := (blk_cell BK16132.out 5).trans rfl
  have hfs49 := blk_frozen BK16132.out 5
  have hns49_0 := NB16101_16132.out
  have hns49_1 := NB16102_16132.out
  have hns49_2 := NB16112_16132.out
  have hms49_0 := NB16132_16101.out
  have hms49_1 := NB16132_16102.out
  have hms49_2 := NB16132_16112.out
  refine skip_ (w1 := ?_) (by rfl) rfl ?_ ?_
  rotate_left
  · go_simp
    rfl
  refine hK.out _ _ ⟨((cell_far (p := ⟨gb16132, _, none⟩) NB16112_16132.out _).trans (((cell_far (p := ⟨gb16132, _, none⟩) NB16112_16132.out _).trans (((cell_far (p := ⟨gb16132, _, none⟩) NB16112_16132.out _).trans (((cell_far (p := ⟨gb16132, _, none⟩) NB16112_16132.out _).trans (((cell_far (p := ⟨gb16132, _, none⟩) NB16112_16132.out _).trans (((cell_far (p := ⟨gb16132, _, none⟩) NB16112_16132.out _).trans (hHeld.1)))))))))))), ((cell_far (p := ⟨gb16132, _, none⟩) NB16112_16132.out _).trans (((cell_far (p := ⟨gb16132, _, none⟩) NB16112_16132.out _).trans (((cell_far (p := ⟨gb16132, _, none⟩) NB16112_16132.out _).trans (((cell_far (p := ⟨gb16132, _, none⟩) NB16112_16132.out _).trans (((cell_far (p := ⟨gb16132, _, none⟩) NB16112_16132.out _).trans (((cell_far (p := ⟨gb16132, _, none⟩) NB16112_16132.out _).trans (hHeld.2.1)))))))))))), ((cell_far (p := ⟨gb16132, _, none⟩) NB16112_16132.out _).trans (((cell_far (p := ⟨gb16132, _, none⟩) NB16112_16132.out _).trans (((cell_far (p := ⟨gb16132, _, none⟩) NB16112_16132.out _).trans (((cell_far (p := ⟨gb16132, _, none⟩) NB16112_16132.out _).trans (((cell_far (p := ⟨gb16132, _, none⟩) NB16112_16132.out _).trans (((cell_far (p := ⟨gb16132, _, none⟩) NB16112_16132.out _).trans (hHeld.2.2.1)))))))))))), ((cell_far (p := ⟨gb16132, _, none⟩) NB16112_16132.out _).trans (((cell_far (p := ⟨gb16132, _, none⟩) NB16112_16132.out _).trans (((cell_far (p := ⟨gb16132, _, none⟩) NB16112_16132.out _).trans (((cell_far (p := ⟨gb16132, _, none⟩) NB16112_16132.out _).trans (((cell_far (p := ⟨gb16132, _, none⟩) NB16112_16132.out _).trans (((cell_far (p := ⟨gb16132, _, none⟩) NB16112_16132.out _).trans (hHeld.2.2.2.1)))))))))))), ((cell_far (p := ⟨gb16132, _, none⟩) NB16112_16132.out _).trans (((cell_far (p := ⟨gb16132, _, none⟩) NB16112_16132.out _).trans (((cell_far (p := ⟨gb16132, _, none⟩) NB16112_16132.out _).trans (((cell_far (p := ⟨gb16132, _, none⟩) NB16112_16132.out _).trans (((cell_far (p := ⟨gb16132, _, none⟩) NB16112_16132.out _).trans (((cell_far (p := ⟨gb16132, _, none⟩) NB16112_16132.out _).trans (hHeld.2.2.2.2.1)))))))))))), ((cell_far (p := ⟨gb16132, _, none⟩) NB16112_16132.out _).trans (((cell_far (p := ⟨gb16132, _, none⟩) NB16112_16132.out _).trans (((cell_far (p := ⟨gb16132, _, none⟩) NB16112_16132.out _).trans (((cell_far (p := ⟨gb16132, _, none⟩) NB16112_16132.out _).trans (((cell_far (p := ⟨gb16132, _, none⟩) NB16112_16132.out _).trans (((cell_far (p := ⟨gb16132, _, none⟩) NB16112_16132.out _).trans (hHeld.2.2.2.2.2))))))))))))⟩ (fun hHeld => ?_)
  clear hK K
  refine pure_ (i := 13) (N := some 14) (v := ?_) (a' := ?_) #[true, true, true, true, true, true, true, true, true, true, true, true, true, true] rfl rfl (any_of HT_.out (by kernel_rfl)) (fun _ _ _ h => h) (Or.inl ⟨by rfl, ?_⟩) ?_ ?_
  rotate_left
  · intro w'
    go_simp
    with_reducible rfl
  rotate_left
  · simp only [Act.put, List.setIfInBounds_toArray, List.set_cons_zero, List.set_cons_succ, i64_w, i32_w]
    rfl
  refine done_ (done_of HT_.out (by kernel_rfl)) ?_
  try go_wp2
  have pi16137 : (0 ≤ (t16136 : Int)) = True := eq_true (of_decide_eq_true (by first | (with_reducible assumption) | assumption))
  have qi16137 : (t16136 < (y16133.length : Int)) = True := eq_true (of_decide_eq_true (by first | (with_reducible assumption) | assumption))
  have n0_ : Aside0 (Kd.R (Kd.int .i64) 3 ((((((w42.setCell ⟨gb16132, 0, none⟩ (.int .i64 t16123)).setCell ⟨gb16132, 1, none⟩ (.int .i64 t16124)).setCell ⟨gb16132, 2, none⟩ (.int .i64 t16125)).setCell ⟨gb16132, 3, none⟩ (.int .i64 t16126)).setCell ⟨gb16132, 4, none⟩ (.int .i64 t16127)).setCell ⟨gb16132, 5, none⟩ (.slice Ao48 t16128.length co48)) w.heap.size (fun _ => True) (.slice Ao33 t16109.length co33) t16109) := ⟨by (with_reducible repeat (first | apply Kd.R_alloc | apply Kd.R_drewN | apply Kd.R_drew)); exact Kd.R_mono (Kd.R_far (p := ⟨gb16132, 5, none⟩) (Kd.R_far (p := ⟨gb16132, 4, none⟩) (Kd.R_far (p := ⟨gb16132, 3, none⟩) (Kd.R_far (p := ⟨gb16132, 2, none⟩) (Kd.R_far (p := ⟨gb16132, 1, none⟩) (Kd.R_far (p := ⟨gb16132, 0, none⟩) (Kd.R_types HO16111.out BK16132.out (by decide)) (fun _ hk => hk.2) (.int .i64 t16123)) (fun _ hk => hk.2) (.int .i64 t16124)) (fun _ hk => hk.2) (.int .i64 t16125)) (fun _ hk => hk.2) (.int .i64 t16126)) (fun _ hk => hk.2) (.int .i64 t16127)) (fun _ hk => hk.2) (.slice Ao48 t16128.length co48)) (fun _ hk => trivial)⟩
  have n1_ : Aside0 (Kd.R k26 26 ((((((w42.setCell ⟨gb16132, 0, none⟩ (.int .i64 t16123)).setCell ⟨gb16132, 1, none⟩ (.int .i64 t16124)).setCell ⟨gb16132, 2, none⟩ (.int .i64 t16125)).setCell ⟨gb16132, 3, none⟩ (.int .i64 t16126)).setCell ⟨gb16132, 4, none⟩ (.int .i64 t16127)).setCell ⟨gb16132, 5, none⟩ (.slice Ao48 t16128.length co48)) w.heap.size (fun k_ => some k_ ≠ (.slice Ao48 t16128.length co48 : Value).ownBlock) (.slice Ao37 t16118.length co37) t16118) := ⟨by (with_reducible repeat (first | apply Kd.R_alloc | apply Kd.R_drewN | apply Kd.R_drew)); exact Kd.R_mono (Kd.R_far (p := ⟨gb16132, 5, none⟩) (Kd.R_far (p := ⟨gb16132, 4, none⟩) (Kd.R_far (p := ⟨gb16132, 3, none⟩) (Kd.R_far (p := ⟨gb16132, 2, none⟩) (Kd.R_far (p := ⟨gb16132, 1, none⟩) (Kd.R_far (p := ⟨gb16132, 0, none⟩) (Kd.R_types HO16120.out BK16132.out (by decide)) (fun _ hk => hk.2) (.int .i64 t16123)) (fun _ hk => hk.2) (.int .i64 t16124)) (fun _ hk => hk.2) (.int .i64 t16125)) (fun _ hk => hk.2) (.int .i64 t16126)) (fun _ hk => hk.2) (.int .i64 t16127)) (fun _ hk => hk.2) (.slice Ao48 t16128.length co48)) (fun _ hk => hk.1)⟩
  have n2_ : Aside0 (Kd.R k26 26 ((((((w42.setCell ⟨gb16132, 0, none⟩ (.int .i64 t16123)).setCell ⟨gb16132, 1, none⟩ (.int .i64 t16124)).setCell ⟨gb16132, 2, none⟩ (.int .i64 t16125)).setCell ⟨gb16132, 3, none⟩ (.int .i64 t16126)).setCell ⟨gb16132, 4, none⟩ (.int .i64 t16127)).setCell ⟨gb16132, 5, none⟩ (.slice Ao48 t16128.length co48)) w.heap.size (fun k_ => some k_ ≠ (.slice Ao37 t16118.length co37 : Value).ownBlock) (.slice Ao48 t16128.length co48) t16128) := ⟨by (with_reducible repeat (first | apply Kd.R_alloc | apply Kd.R_drewN | apply Kd.R_drew)); exact Kd.R_mono (Kd.R_far (p := ⟨gb16132, 5, none⟩) (Kd.R_far (p := ⟨gb16132, 4, none⟩) (Kd.R_far (p := ⟨gb16132, 3, none⟩) (Kd.R_far (p := ⟨gb16132, 2, none⟩) (Kd.R_far (p := ⟨gb16132, 1, none⟩) (Kd.R_far (p := ⟨gb16132, 0, none⟩) (Kd.R_types HO16130.out BK16132.out (by decide)) (fun _ hk => hk.2) (.int .i64 t16123)) (fun _ hk => hk.2) (.int .i64 t16124)) (fun _ hk => hk.2) (.int .i64 t16125)) (fun _ hk => hk.2) (.int .i64 t16126)) (fun _ hk => hk.2) (.int .i64 t16127)) (fun _ hk => hk.2) (.slice Ao48 t16128.length co48)) (fun _ hk => hk.1)⟩
  have n3_ : Aside0 (((((((w42.setCell ⟨gb16132, 0, none⟩ (.int .i64 t16123)).setCell ⟨gb16132, 1, none⟩ (.int .i64 t16124)).setCell ⟨gb16132, 2, none⟩ (.int .i64 t16125)).setCell ⟨gb16132, 3, none⟩ (.int .i64 t16126)).setCell ⟨gb16132, 4, none⟩ (.int .i64 t16127)).setCell ⟨gb16132, 5, none⟩ (.slice Ao48 t16128.length co48)).heap[gb16101]? = some (.cells #[.int .i64 a0_0, .int .i64 a0_1, .int .i64 a0_2, .int .i64 a0_3, .int .i64 a0_4, .slice A0_5 l0_5.length c0_5] 24 (0, 0))) := ⟨by (with_reducible repeat (first | refine blk_drewN ?_ _ | refine blk_drew ?_ | refine blk_alloc ?_ _)); refine blk_far ?_ NB16101_16132.out _; refine blk_far ?_ NB16101_16132.out _; refine blk_far ?_ NB16101_16132.out _; refine blk_far ?_ NB16101_16132.out _; refine blk_far ?_ NB16101_16132.out _; refine blk_far ?_ NB16101_16132.out _; (with_reducible repeat (first | refine blk_drewN ?_ _ | refine blk_drew ?_ | refine blk_alloc ?_ _)); exact BK16101.out⟩
  have n4_ : Aside0 (((((((w42.setCell ⟨gb16132, 0, none⟩ (.int .i64 t16123)).setCell ⟨gb16132, 1, none⟩ (.int .i64 t16124)).setCell ⟨gb16132, 2, none⟩ (.int .i64 t16125)).setCell ⟨gb16132, 3, none⟩ (.int .i64 t16126)).setCell ⟨gb16132, 4, none⟩ (.int .i64 t16127)).setCell ⟨gb16132, 5, none⟩ (.slice Ao48 t16128.length co48)).heap[gb16102]? = some (.cells #[.int .i64 a1_0, .int .i64 a1_1, .int .i64 a1_2, .int .i64 a1_3, .int .i64 a1_4, .slice A1_5 l1_5.length c1_5] 29 (0, 0))) := ⟨by (with_reducible repeat (first | refine blk_drewN ?_ _ | refine blk_drew ?_ | refine blk_alloc ?_ _)); refine blk_far ?_ NB16102_16132.out _; refine blk_far ?_ NB16102_16132.out _; refine blk_far ?_ NB16102_16132.out _; refine blk_far ?_ NB16102_16132.out _; refine blk_far ?_ NB16102_16132.out _; refine blk_far ?_ NB16102_16132.out _; (with_reducible repeat (first | refine blk_drewN ?_ _ | refine blk_drew ?_ | refine blk_alloc ?_ _)); exact BK16102.out⟩
  have n5_ : Aside0 (((((((w42.setCell ⟨gb16132, 0, none⟩ (.int .i64 t16123)).setCell ⟨gb16132, 1, none⟩ (.int .i64 t16124)).setCell ⟨gb16132, 2, none⟩ (.int .i64 t16125)).setCell ⟨gb16132, 3, none⟩ (.int .i64 t16126)).setCell ⟨gb16132, 4, none⟩ (.int .i64 t16127)).setCell ⟨gb16132, 5, none⟩ (.slice Ao48 t16128.length co48)).heap[gb16112]? = some (.cells #[.int .i64 t16104, .int .i64 t16105, .int .i64 t16106, .int .i64 t16107, .int .i64 t16108, .slice Ao33 t16109.length co33] 24 (0, 0))) := ⟨by (with_reducible repeat (first | refine blk_drewN ?_ _ | refine blk_drew ?_ | refine blk_alloc ?_ _)); refine blk_far ?_ NB16112_16132.out _; refine blk_far ?_ NB16112_16132.out _; refine blk_far ?_ NB16112_16132.out _; refine blk_far ?_ NB16112_16132.out _; refine blk_far ?_ NB16112_16132.out _; refine blk_far ?_ NB16112_16132.out _; (with_reducible repeat (first | refine blk_drewN ?_ _ | refine blk_drew ?_ | refine blk_alloc ?_ _)); exact BK16112.out⟩
  have n6_ : Aside0 (((((((w42.setCell ⟨gb16132, 0, none⟩ (.int .i64 t16123)).setCell ⟨gb16132, 1, none⟩ (.int .i64 t16124)).setCell ⟨gb16132, 2, none⟩ (.int .i64 t16125)).setCell ⟨gb16132, 3, none⟩ (.int .i64 t16126)).setCell ⟨gb16132, 4, none⟩ (.int .i64 t16127)).setCell ⟨gb16132, 5, none⟩ (.slice Ao48 t16128.length co48)).heap[gb16132]? = some (.cells #[.int .i64 t16123, .int .i64 t16124, .int .i64 t16125, .int .i64 t16126, .int .i64 t16127, .slice Ao48 t16128.length co48] 29 (0, 0))) := ⟨by (with_reducible repeat (first | refine blk_drewN ?_ _ | refine blk_drew ?_ | refine blk_alloc ?_ _)); refine blk_put (cs := #[.int .i64 t16123, .int .i64 t16124, .int .i64 t16125, .int .i64 t16126, .int .i64 t16127, .slice none 0 0]) ?_ 5 _ rfl; refine blk_put (cs := #[.int .i64 t16123, .int .i64 t16124, .int .i64 t16125, .int .i64 t16126, .int .i64 0, .slice none 0 0]) ?_ 4 _ rfl; refine blk_put (cs := #[.int .i64 t16123, .int .i64 t16124, .int .i64 t16125, .int .i64 0, .int .i64 0, .slice none 0 0]) ?_ 3 _ rfl; refine blk_put (cs := #[.int .i64 t16123, .int .i64 t16124, .int .i64 0, .int .i64 0, .int .i64 0, .slice none 0 0]) ?_ 2 _ rfl; refine blk_put (cs := #[.int .i64 t16123, .int .i64 0, .int .i64 0, .int .i64 0, .int .i64 0, .slice none 0 0]) ?_ 1 _ rfl; refine blk_put (cs := #[.int .i64 0, .int .i64 0, .int .i64 0, .int .i64 0, .int .i64 0, .slice none 0 0]) ?_ 0 _ rfl; (with_reducible repeat (first | refine blk_drewN ?_ _ | refine blk_drew ?_ | refine blk_alloc ?_ _)); exact BK16132.out⟩
  have n7_ : Aside0 (Below w.heap.size w ((((((w42.setCell ⟨gb16132, 0, none⟩ (.int .i64 t16123)).setCell ⟨gb16132, 1, none⟩ (.int .i64 t16124)).setCell ⟨gb16132, 2, none⟩ (.int .i64 t16125)).setCell ⟨gb16132, 3, none⟩ (.int .i64 t16126)).setCell ⟨gb16132, 4, none⟩ (.int .i64 t16127)).setCell ⟨gb16132, 5, none⟩ (.slice Ao48 t16128.length co48))) := ⟨by repeat (first | (with_reducible first | exact HB.out | apply below_alloc | apply pw_below_drewN | apply below_drew1 | refine below_set ?_ GE16101.out | refine below_set ?_ GE16102.out | refine below_set ?_ GE16112.out | refine below_set ?_ GE16132.out) | exact HB.out)⟩
  (try clear HO16111)
  (try clear HO16120)
  (try clear HO16130)
  (try clear BK16101)
  (try clear BK16102)
  (try clear BK16112)
  (try clear BK16132)
  (try clear HB)
  generalize ((((((w42.setCell ⟨gb16132, 0, none⟩ (.int .i64 t16123)).setCell ⟨gb16132, 1, none⟩ (.int .i64 t16124)).setCell ⟨gb16132, 2, none⟩ (.int .i64 t16125)).setCell ⟨gb16132, 3, none⟩ (.int .i64 t16126)).setCell ⟨gb16132, 4, none⟩ (.int .i64 t16127)).setCell ⟨gb16132, 5, none⟩ (.slice Ao48 t16128.length co48)) = w50 at n0_ n1_ n2_ n3_ n4_ n5_ n6_ n7_ ⊢
  have HO16111 := n0_
  have HO16120 := n1_
  have HO16130 := n2_
  have BK16101 := n3_
  have BK16102 := n4_
  have BK16112 := n5_
  have BK16132 := n6_
  have HB := n7_
  clear n0_ n1_ n2_ n3_ n4_ n5_ n6_ n7_
  replace HO16111 := Aside0.mk (Kd.R_drew HO16111.out)
  replace HO16120 := Aside0.mk (Kd.R_drew HO16120.out)
  replace HO16130 := Aside0.mk (Kd.R_drew HO16130.out)
  replace BK16101 := Aside0.mk (blk_drew BK16101.out)
  replace BK16102 := Aside0.mk (blk_drew BK16102.out)
  replace BK16112 := Aside0.mk (blk_drew BK16112.out)
  replace BK16132 := Aside0.mk (blk_drew BK16132.out)
  replace HB := Aside0.mk (below_drew1 HB.out)
  refine start_ (n := 15) (S := fun w' => w'.cell? ⟨gb16112, 0, none⟩ = some (.int .i64 t16104) ∧ w'.cell? ⟨gb16112, 1, none⟩ = some (.int .i64 t16105) ∧ w'.cell? ⟨gb16112, 2, none⟩ = some (.int .i64 t16106) ∧ w'.cell? ⟨gb16112, 3, none⟩ = some (.int .i64 t16107) ∧ w'.cell? ⟨gb16112, 4, none⟩ = some (.int .i64 t16108) ∧ w'.cell? ⟨gb16112, 5, none⟩ = some (.slice Ao33 t16109.length co33)) (ds := []) #[false, false, false, false, false, false, false, false, false, false, false, false, false, false, false] (by kernel_rfl) rfl rfl ⟨(blk_cell BK16112.out 0).trans rfl, (blk_cell BK16112.out 1).trans rfl, (blk_cell BK16112.out 2).trans rfl, (blk_cell BK16112.out 3).trans rfl, (blk_cell BK16112.out 4).trans rfl, (blk_cell BK16112.out 5).trans rfl⟩ (fun hHeld => ?_); refine with_tabW plaitinglaw5_FrameCut.tab6 plaitinglaw5_FrameCut.bits6 (fun HT_ HW_ => ?_)
  generalize w50.drew = w51 at HO16111 HO16120 HO16130 BK16101 BK16102 BK16112 BK16132 HB hHeld ⊢
  refine pure_ (i := 1) (N := some 40) (v := ?_) (a' := ?_) #[false, true, false, false, false, false, false, false, false, false, false, false, false, false, false] rfl rfl (any_of HT_.out (by kernel_rfl)) (fun _ _ _ h => h) (Or.inl ⟨by rfl, ?_⟩) ?_ ?_
  rotate_left
  · intro w'
    go_simp
    with_reducible rfl
  rotate_left
  · simp only [Act.put, List.setIfInBounds_toArray, List.set_cons_zero, List.set_cons_succ, i64_w, i32_w]
    rfl
  refine pure_ (i := 3) (N := some 42) (v := ?_) (a' := ?_) #[false, true, false, true, false, false, false, false, false, false, false, false, false, false, false] rfl rfl (any_of HT_.out (by kernel_rfl)) (fun _ _ _ h => h) (Or.inl ⟨by rfl, ?_⟩) ?_ ?_
  rotate_left
  · intro w'
    go_simp
    with_reducible rfl
  rotate_left
  · simp only [Act.put, List.setIfInBounds_toArray, List.set_cons_zero, List.set_cons_succ, i64_w, i32_w]
    rfl
  refine take_ (i := 0) (N := some 39) (v := ?_) (a' := ?_) #[true, true, false, true, false, false, false, false, false, false, false, false, false, false, false] rfl rfl (take_ofW HT_.out HW_.out (by kernel_rfl)) (fun _ _ _ h => h) (Or.inl ⟨by rfl, ?_⟩) hHeld ?_ ?_
  rotate_left
  · rintro w' ⟨s0, s1, s2, s3, s4, s5⟩
    go_simp
    with_reducible rfl
  rotate_left
  · simp only [Act.put, List.setIfInBounds_toArray, List.set_cons_zero, List.set_cons_succ, i64_w, i32_w]
    rfl
  refine join_ (σ := Value × Addr × Value × Nat) 2 #[true, true, true, true, true, true, true, true, true, true, true, true, true, false, false] (fun s_ => [(41, s_.1), (43, .int .i64 t16136), (45, .string (rdOf ByteArray.empty y16133 t16136)), (47, .tuple #[.agg #[.int .i64 t16138, .int .i64 t16139, .int .i64 t16140, .int .i64 t16141, .int .i64 t16142, s_.2.2.1], .int .i64 t16146]), (15, .pointer (some ⟨s_.2.2.2, 0, none⟩)), (44, .pointer (some (s_.2.1.add (t16136).toNat))), (46, .string (t16121 ++ (rdOf ByteArray.empty y16133 t16136))), (38, .tuple #[.agg #[.int .i64 t16138, .int .i64 t16139, .int .i64 t16140, .int .i64 t16141, .int .i64 t16142, s_.2.2.1], .int .i64 t16146]), (48, .agg #[.int .i64 t16138, .int .i64 t16139, .int .i64 t16140, .int .i64 t16141, .int .i64 t16142, s_.2.2.1]), (49, .int .i64 t16146)]) (fun s_ w' => (w'.cell? ⟨gb16112, 0, none⟩ = some (.int .i64 t16104) ∧ w'.cell? ⟨gb16112, 1, none⟩ = some (.int .i64 t16105) ∧ w'.cell? ⟨gb16112, 2, none⟩ = some (.int .i64 t16106) ∧ w'.cell? ⟨gb16112, 3, none⟩ = some (.int .i64 t16107) ∧ w'.cell? ⟨gb16112, 4, none⟩ = some (.int .i64 t16108) ∧ w'.cell? ⟨gb16112, 5, none⟩ = some (.slice Ao33 t16109.length co33)) ∧ (Kd.R (Kd.int .i64) 3 w' w.heap.size (fun _ => True) (.slice Ao33 t16109.length co33) t16109) ∧ (Kd.R k26 26 w' w.heap.size (fun k_ => some k_ ≠ (.slice Ao48 t16128.length co48 : Value).ownBlock ∧ some k_ ≠ (s_.2.2.1 : Value).ownBlock) (.slice Ao37 t16118.length co37) t16118) ∧ (Kd.R k26 26 w' w.heap.size (fun k_ => some k_ ≠ (.slice Ao37 t16118.length co37 : Value).ownBlock ∧ some k_ ≠ (s_.2.2.1 : Value).ownBlock) (.slice Ao48 t16128.length co48) t16128) ∧ (Kd.R Kd.string 9 w' w.heap.size (fun _ => True) s_.1 y16133) ∧ (Kd.R k26 26 w' w.heap.size (fun k_ => some k_ ≠ (.slice Ao37 t16118.length co37 : Value).ownBlock ∧ some k_ ≠ (.slice Ao48 t16128.length co48 : Value).ownBlock) s_.2.2.1 t16143) ∧ (∃ c_, (s_.1 : Value) = .slice (some s_.2.1) y16133.length c_) ∧ (w'.heap[gb16101]? = some (.cells #[.int .i64 a0_0, .int .i64 a0_1, .int .i64 a0_2, .int .i64 a0_3, .int .i64 a0_4, .slice A0_5 l0_5.length c0_5] 24 (0, 0))) ∧ (w'.heap[gb16102]? = some (.cells #[.int .i64 a1_0, .int .i64 a1_1, .int .i64 a1_2, .int .i64 a1_3, .int .i64 a1_4, .slice A1_5 l1_5.length c1_5] 29 (0, 0))) ∧ (w'.heap[gb16112]? = some (.cells #[.int .i64 t16104, .int .i64 t16105, .int .i64 t16106, .int .i64 t16107, .int .i64 t16108, .slice Ao33 t16109.length co33] 24 (0, 0))) ∧ (w'.heap[gb16132]? = some (.cells #[.int .i64 t16123, .int .i64 t16124, .int .i64 t16125, .int .i64 t16126, .int .i64 t16127, .slice Ao48 t16128.length co48] 29 (0, 0))) ∧ (w'.heap[s_.2.2.2]? = some (.cells #[.int .i64 0, .int .i64 0, .int .i64 0, .int .i64 0, .int .i64 0, .slice none 0 0] 29 (0, 0))) ∧ (w.heap.size ≤ s_.2.2.2) ∧ (w.heap.size ≤ s_.2.2.2) ∧ (gb16101 ≠ s_.2.2.2) ∧ (s_.2.2.2 ≠ gb16101) ∧ (gb16102 ≠ s_.2.2.2) ∧ (s_.2.2.2 ≠ gb16102) ∧ (gb16112 ≠ s_.2.2.2) ∧ (s_.2.2.2 ≠ gb16112) ∧ (gb16132 ≠ s_.2.2.2) ∧ (s_.2.2.2 ≠ gb16132) ∧ (Below w.heap.size w w')) ?_ ?_
  rotate_left
  · intro hJ2_4_6_8_12
    refine join_ (σ := Value × Addr × Value) 3 #[true, true, true, true, true, true, true, true, true, true, true, true, false, false, false] (fun s_ => [(41, s_.1), (43, .int .i64 t16136), (45, .string (rdOf ByteArray.empty y16133 t16136)), (47, .tuple #[.agg #[.int .i64 t16138, .int .i64 t16139, .int .i64 t16140, .int .i64 t16141, .int .i64 t16142, s_.2.2], .int .i64 t16146]), (44, .pointer (some (s_.2.1.add (t16136).toNat))), (46, .string (t16121 ++ (rdOf ByteArray.empty y16133 t16136))), (38, .tuple #[.agg #[.int .i64 t16138, .int .i64 t16139, .int .i64 t16140, .int .i64 t16141, .int .i64 t16142, s_.2.2], .int .i64 t16146]), (48, .agg #[.int .i64 t16138, .int .i64 t16139, .int .i64 t16140, .int .i64 t16141, .int .i64 t16142, s_.2.2]), (49, .int .i64 t16146)]) (fun s_ w' => (w'.cell? ⟨gb16112, 0, none⟩ = some (.int .i64 t16104) ∧ w'.cell? ⟨gb16112, 1, none⟩ = some (.int .i64 t16105) ∧ w'.cell? ⟨gb16112, 2, none⟩ = some (.int .i64 t16106) ∧ w'.cell? ⟨gb16112, 3, none⟩ = some (.int .i64 t16107) ∧ w'.cell? ⟨gb16112, 4, none⟩ = some (.int .i64 t16108) ∧ w'.cell? ⟨gb16112, 5, none⟩ = some (.slice Ao33 t16109.length co33)) ∧ (Kd.R (Kd.int .i64) 3 w' w.heap.size (fun _ => True) (.slice Ao33 t16109.length co33) t16109) ∧ (Kd.R k26 26 w' w.heap.size (fun k_ => some k_ ≠ (.slice Ao48 t16128.length co48 : Value).ownBlock ∧ some k_ ≠ (s_.2.2 : Value).ownBlock) (.slice Ao37 t16118.length co37) t16118) ∧ (Kd.R k26 26 w' w.heap.size (fun k_ => some k_ ≠ (.slice Ao37 t16118.length co37 : Value).ownBlock ∧ some k_ ≠ (s_.2.2 : Value).ownBlock) (.slice Ao48 t16128.length co48) t16128) ∧ (Kd.R Kd.string 9 w' w.heap.size (fun _ => True) s_.1 y16133) ∧ (Kd.R k26 26 w' w.heap.size (fun k_ => some k_ ≠ (.slice Ao37 t16118.length co37 : Value).ownBlock ∧ some k_ ≠ (.slice Ao48 t16128.length co48 : Value).ownBlock) s_.2.2 t16143) ∧ (∃ c_, (s_.1 : Value) = .slice (some s_.2.1) y16133.length c_) ∧ (w'.heap[gb16101]? = some (.cells #[.int .i64 a0_0, .int .i64 a0_1, .int .i64 a0_2, .int .i64 a0_3, .int .i64 a0_4, .slice A0_5 l0_5.length c0_5] 24 (0, 0))) ∧ (w'.heap[gb16102]? = some (.cells #[.int .i64 a1_0, .int .i64 a1_1, .int .i64 a1_2, .int .i64 a1_3, .int .i64 a1_4, .slice A1_5 l1_5.length c1_5] 29 (0, 0))) ∧ (w'.heap[gb16112]? = some (.cells #[.int .i64 t16104, .int .i64 t16105, .int .i64 t16106, .int .i64 t16107, .int .i64 t16108, .slice Ao33 t16109.length co33] 24 (0, 0))) ∧ (w'.heap[gb16132]? = some (.cells #[.int .i64 t16123, .int .i64 t16124, .int .i64 t16125, .int .i64 t16126, .int .i64 t16127, .slice Ao48 t16128.length co48] 29 (0, 0))) ∧ (Below w.heap.size w w')) ?_ ?_
    rotate_left
    · intro hJ2_4_6_8
      refine join_ (σ := Value × Addr × Nat) 6 #[true, true, true, true, true, true, true, true, false, false, false, false, true, false, false] (fun s_ => [(41, s_.1), (43, .int .i64 t16136), (45, .string (rdOf ByteArray.empty y16133 t16136)), (15, .pointer (some ⟨s_.2.2, 0, none⟩)), (44, .pointer (some (s_.2.1.add (t16136).toNat))), (46, .string (t16121 ++ (rdOf ByteArray.empty y16133 t16136)))]) (fun s_ w' => (w'.cell? ⟨gb16112, 0, none⟩ = some (.int .i64 t16104) ∧ w'.cell? ⟨gb16112, 1, none⟩ = some (.int .i64 t16105) ∧ w'.cell? ⟨gb16112, 2, none⟩ = some (.int .i64 t16106) ∧ w'.cell? ⟨gb16112, 3, none⟩ = some (.int .i64 t16107) ∧ w'.cell? ⟨gb16112, 4, none⟩ = some (.int .i64 t16108) ∧ w'.cell? ⟨gb16112, 5, none⟩ = some (.slice Ao33 t16109.length co33)) ∧ (Kd.R (Kd.int .i64) 3 w' w.heap.size (fun _ => True) (.slice Ao33 t16109.length co33) t16109) ∧ (Kd.R k26 26 w' w.heap.size (fun k_ => some k_ ≠ (.slice Ao48 t16128.length co48 : Value).ownBlock) (.slice Ao37 t16118.length co37) t16118) ∧ (Kd.R k26 26 w' w.heap.size (fun k_ => some k_ ≠ (.slice Ao37 t16118.length co37 : Value).ownBlock) (.slice Ao48 t16128.length co48) t16128) ∧ (Kd.R Kd.string 9 w' w.heap.size (fun _ => True) s_.1 y16133) ∧ (∃ c_, (s_.1 : Value) = .slice (some s_.2.1) y16133.length c_) ∧ (w'.heap[gb16101]? = some (.cells #[.int .i64 a0_0, .int .i64 a0_1, .int .i64 a0_2, .int .i64 a0_3, .int .i64 a0_4, .slice A0_5 l0_5.length c0_5] 24 (0, 0))) ∧ (w'.heap[gb16102]? = some (.cells #[.int .i64 a1_0, .int .i64 a1_1, .int .i64 a1_2, .int .i64 a1_3, .int .i64 a1_4, .slice A1_5 l1_5.length c1_5] 29 (0, 0))) ∧ (w'.heap[gb16112]? = some (.cells #[.int .i64 t16104, .int .i64 t16105, .int .i64 t16106, .int .i64 t16107, .int .i64 t16108, .slice Ao33 t16109.length co33] 24 (0, 0))) ∧ (w'.heap[gb16132]? = some (.cells #[.int .i64 t16123, .int .i64 t16124, .int .i64 t16125, .int .i64 t16126, .int .i64 t16127, .slice Ao48 t16128.length co48] 29 (0, 0))) ∧ (w'.heap[s_.2.2]? = some (.cells #[.int .i64 0, .int .i64 0, .int .i64 0, .int .i64 0, .int .i64 0, .slice none 0 0] 29 (0, 0))) ∧ (w.heap.size ≤ s_.2.2) ∧ (w.heap.size ≤ s_.2.2) ∧ (gb16101 ≠ s_.2.2) ∧ (s_.2.2 ≠ gb16101) ∧ (gb16102 ≠ s_.2.2) ∧ (s_.2.2 ≠ gb16102) ∧ (gb16112 ≠ s_.2.2) ∧ (s_.2.2 ≠ gb16112) ∧ (gb16132 ≠ s_.2.2) ∧ (s_.2.2 ≠ gb16132) ∧ (Below w.heap.size w w')) ?_ ?_
      rotate_left
      · intro hJ2_4_6_12
        refine join_ (σ := Value × Addr) 7 #[true, true, true, true, true, true, true, true, false, false, false, false, false, false, false] (fun s_ => [(41, s_.1), (43, .int .i64 t16136), (45, .string (rdOf ByteArray.empty y16133 t16136)), (44, .pointer (some (s_.2.add (t16136).toNat))), (46, .string (t16121 ++ (rdOf ByteArray.empty y16133 t16136)))]) (fun s_ w' => (w'.cell? ⟨gb16112, 0, none⟩ = some (.int .i64 t16104) ∧ w'.cell? ⟨gb16112, 1, none⟩ = some (.int .i64 t16105) ∧ w'.cell? ⟨gb16112, 2, none⟩ = some (.int .i64 t16106) ∧ w'.cell? ⟨gb16112, 3, none⟩ = some (.int .i64 t16107) ∧ w'.cell? ⟨gb16112, 4, none⟩ = some (.int .i64 t16108) ∧ w'.cell? ⟨gb16112, 5, none⟩ = some (.slice Ao33 t16109.length co33)) ∧ (Kd.R (Kd.int .i64) 3 w' w.heap.size (fun _ => True) (.slice Ao33 t16109.length co33) t16109) ∧ (Kd.R k26 26 w' w.heap.size (fun k_ => some k_ ≠ (.slice Ao48 t16128.length co48 : Value).ownBlock) (.slice Ao37 t16118.length co37) t16118) ∧ (Kd.R k26 26 w' w.heap.size (fun k_ => some k_ ≠ (.slice Ao37 t16118.length co37 : Value).ownBlock) (.slice Ao48 t16128.length co48) t16128) ∧ (Kd.R Kd.string 9 w' w.heap.size (fun _ => True) s_.1 y16133) ∧ (∃ c_, (s_.1 : Value) = .slice (some s_.2) y16133.length c_) ∧ (w'.heap[gb16101]? = some (.cells #[.int .i64 a0_0, .int .i64 a0_1, .int .i64 a0_2, .int .i64 a0_3, .int .i64 a0_4, .slice A0_5 l0_5.length c0_5] 24 (0, 0))) ∧ (w'.heap[gb16102]? = some (.cells #[.int .i64 a1_0, .int .i64 a1_1, .int .i64 a1_2, .int .i64 a1_3, .int .i64 a1_4, .slice A1_5 l1_5.length c1_5] 29 (0, 0))) ∧ (w'.heap[gb16112]? = some (.cells #[.int .i64 t16104, .int .i64 t16105, .int .i64 t16106, .int .i64 t16107, .int .i64 t16108, .slice Ao33 t16109.length co33] 24 (0, 0))) ∧ (w'.heap[gb16132]? = some (.cells #[.int .i64 t16123, .int .i64 t16124, .int .i64 t16125, .int .i64 t16126, .int .i64 t16127, .slice Ao48 t16128.length co48] 29 (0, 0))) ∧ (Below w.heap.size w w')) ?_ ?_
        rotate_left
        · intro hJ2_4_6
          refine join_ (σ := Value × Addr × Nat) 8 #[true, true, true, true, true, true, false, false, false, false, false, false, true, false, false] (fun s_ => [(41, s_.1), (43, .int .i64 t16136), (15, .pointer (some ⟨s_.2.2, 0, none⟩)), (44, .pointer (some (s_.2.1.add (t16136).toNat)))]) (fun s_ w' => (w'.cell? ⟨gb16112, 0, none⟩ = some (.int .i64 t16104) ∧ w'.cell? ⟨gb16112, 1, none⟩ = some (.int .i64 t16105) ∧ w'.cell? ⟨gb16112, 2, none⟩ = some (.int .i64 t16106) ∧ w'.cell? ⟨gb16112, 3, none⟩ = some (.int .i64 t16107) ∧ w'.cell? ⟨gb16112, 4, none⟩ = some (.int .i64 t16108) ∧ w'.cell? ⟨gb16112, 5, none⟩ = some (.slice Ao33 t16109.length co33)) ∧ (Kd.R (Kd.int .i64) 3 w' w.heap.size (fun _ => True) (.slice Ao33 t16109.length co33) t16109) ∧ (Kd.R k26 26 w' w.heap.size (fun k_ => some k_ ≠ (.slice Ao48 t16128.length co48 : Value).ownBlock) (.slice Ao37 t16118.length co37) t16118) ∧ (Kd.R k26 26 w' w.heap.size (fun k_ => some k_ ≠ (.slice Ao37 t16118.length co37 : Value).ownBlock) (.slice Ao48 t16128.length co48) t16128) ∧ (Kd.R Kd.string 9 w' w.heap.size (fun _ => True) s_.1 y16133) ∧ (∃ c_, (s_.1 : Value) = .slice (some s_.2.1) y16133.length c_) ∧ (w'.heap[gb16101]? = some (.cells #[.int .i64 a0_0, .int .i64 a0_1, .int .i64 a0_2, .int .i64 a0_3, .int .i64 a0_4, .slice A0_5 l0_5.length c0_5] 24 (0, 0))) ∧ (w'.heap[gb16102]? = some (.cells #[.int .i64 a1_0, .int .i64 a1_1, .int .i64 a1_2, .int .i64 a1_3, .int .i64 a1_4, .slice A1_5 l1_5.length c1_5] 29 (0, 0))) ∧ (w'.heap[gb16112]? = some (.cells #[.int .i64 t16104, .int .i64 t16105, .int .i64 t16106, .int .i64 t16107, .int .i64 t16108, .slice Ao33 t16109.length co33] 24 (0, 0))) ∧ (w'.heap[gb16132]? = some (.cells #[.int .i64 t16123, .int .i64 t16124, .int .i64 t16125, .int .i64 t16126, .int .i64 t16127, .slice Ao48 t16128.length co48] 29 (0, 0))) ∧ (w'.heap[s_.2.2]? = some (.cells #[.int .i64 0, .int .i64 0, .int .i64 0, .int .i64 0, .int .i64 0, .slice none 0 0] 29 (0, 0))) ∧ (w.heap.size ≤ s_.2.2) ∧ (w.heap.size ≤ s_.2.2) ∧ (gb16101 ≠ s_.2.2) ∧ (s_.2.2 ≠ gb16101) ∧ (gb16102 ≠ s_.2.2) ∧ (s_.2.2 ≠ gb16102) ∧ (gb16112 ≠ s_.2.2) ∧ (s_.2.2 ≠ gb16112) ∧ (gb16132 ≠ s_.2.2) ∧ (s_.2.2 ≠ gb16132) ∧ (Below w.heap.size w w')) ?_ ?_
          rotate_left
          · intro hJ2_4_12
            refine join_ (σ := Value × Addr) 9 #[true, true, true, true, true, true, false, false, false, false, false, false, false, false, false] (fun s_ => [(41, s_.1), (43, .int .i64 t16136), (44, .pointer (some (s_.2.add (t16136).toNat)))]) (fun s_ w' => (w'.cell? ⟨gb16112, 0, none⟩ = some (.int .i64 t16104) ∧ w'.cell? ⟨gb16112, 1, none⟩ = some (.int .i64 t16105) ∧ w'.cell? ⟨gb16112, 2, none⟩ = some (.int .i64 t16106) ∧ w'.cell? ⟨gb16112, 3, none⟩ = some (.int .i64 t16107) ∧ w'.cell? ⟨gb16112, 4, none⟩ = some (.int .i64 t16108) ∧ w'.cell? ⟨gb16112, 5, none⟩ = some (.slice Ao33 t16109.length co33)) ∧ (Kd.R (Kd.int .i64) 3 w' w.heap.size (fun _ => True) (.slice Ao33 t16109.length co33) t16109) ∧ (Kd.R k26 26 w' w.heap.size (fun k_ => some k_ ≠ (.slice Ao48 t16128.length co48 : Value).ownBlock) (.slice Ao37 t16118.length co37) t16118) ∧ (Kd.R k26 26 w' w.heap.size (fun k_ => some k_ ≠ (.slice Ao37 t16118.length co37 : Value).ownBlock) (.slice Ao48 t16128.length co48) t16128) ∧ (Kd.R Kd.string 9 w' w.heap.size (fun _ => True) s_.1 y16133) ∧ (∃ c_, (s_.1 : Value) = .slice (some s_.2) y16133.length c_) ∧ (w'.heap[gb16101]? = some (.cells #[.int .i64 a0_0, .int .i64 a0_1, .int .i64 a0_2, .int .i64 a0_3, .int .i64 a0_4, .slice A0_5 l0_5.length c0_5] 24 (0, 0))) ∧ (w'.heap[gb16102]? = some (.cells #[.int .i64 a1_0, .int .i64 a1_1, .int .i64 a1_2, .int .i64 a1_3, .int .i64 a1_4, .slice A1_5 l1_5.length c1_5] 29 (0, 0))) ∧ (w'.heap[gb16112]? = some (.cells #[.int .i64 t16104, .int .i64 t16105, .int .i64 t16106, .int .i64 t16107, .int .i64 t16108, .slice Ao33 t16109.length co33] 24 (0, 0))) ∧ (w'.heap[gb16132]? = some (.cells #[.int .i64 t16123, .int .i64 t16124, .int .i64 t16125, .int .i64 t16126, .int .i64 t16127, .slice Ao48 t16128.length co48] 29 (0, 0))) ∧ (Below w.heap.size w w')) ?_ ?_
            rotate_left
            · intro hJ2_4
              refine join_ (σ := Value × Addr × Nat) 10 #[true, true, true, true, false, false, false, false, false, false, false, false, true, false, false] (fun s_ => [(41, s_.1), (15, .pointer (some ⟨s_.2.2, 0, none⟩))]) (fun s_ w' => (w'.cell? ⟨gb16112, 0, none⟩ = some (.int .i64 t16104) ∧ w'.cell? ⟨gb16112, 1, none⟩ = some (.int .i64 t16105) ∧ w'.cell? ⟨gb16112, 2, none⟩ = some (.int .i64 t16106) ∧ w'.cell? ⟨gb16112, 3, none⟩ = some (.int .i64 t16107) ∧ w'.cell? ⟨gb16112, 4, none⟩ = some (.int .i64 t16108) ∧ w'.cell? ⟨gb16112, 5, none⟩ = some (.slice Ao33 t16109.length co33)) ∧ (Kd.R (Kd.int .i64) 3 w' w.heap.size (fun _ => True) (.slice Ao33 t16109.length co33) t16109) ∧ (Kd.R k26 26 w' w.heap.size (fun k_ => some k_ ≠ (.slice Ao48 t16128.length co48 : Value).ownBlock) (.slice Ao37 t16118.length co37) t16118) ∧ (Kd.R k26 26 w' w.heap.size (fun k_ => some k_ ≠ (.slice Ao37 t16118.length co37 : Value).ownBlock) (.slice Ao48 t16128.length co48) t16128) ∧ (Kd.R Kd.string 9 w' w.heap.size (fun _ => True) s_.1 y16133) ∧ (∃ c_, (s_.1 : Value) = .slice (some s_.2.1) y16133.length c_) ∧ (w'.heap[gb16101]? = some (.cells #[.int .i64 a0_0, .int .i64 a0_1, .int .i64 a0_2, .int .i64 a0_3, .int .i64 a0_4, .slice A0_5 l0_5.length c0_5] 24 (0, 0))) ∧ (w'.heap[gb16102]? = some (.cells #[.int .i64 a1_0, .int .i64 a1_1, .int .i64 a1_2, .int .i64 a1_3, .int .i64 a1_4, .slice A1_5 l1_5.length c1_5] 29 (0, 0))) ∧ (w'.heap[gb16112]? = some (.cells #[.int .i64 t16104, .int .i64 t16105, .int .i64 t16106, .int .i64 t16107, .int .i64 t16108, .slice Ao33 t16109.length co33] 24 (0, 0))) ∧ (w'.heap[gb16132]? = some (.cells #[.int .i64 t16123, .int .i64 t16124, .int .i64 t16125, .int .i64 t16126, .int .i64 t16127, .slice Ao48 t16128.length co48] 29 (0, 0))) ∧ (w'.heap[s_.2.2]? = some (.cells #[.int .i64 0, .int .i64 0, .int .i64 0, .int .i64 0, .int .i64 0, .slice none 0 0] 29 (0, 0))) ∧ (w.heap.size ≤ s_.2.2) ∧ (w.heap.size ≤ s_.2.2) ∧ (gb16101 ≠ s_.2.2) ∧ (s_.2.2 ≠ gb16101) ∧ (gb16102 ≠ s_.2.2) ∧ (s_.2.2 ≠ gb16102) ∧ (gb16112 ≠ s_.2.2) ∧ (s_.2.2 ≠ gb16112) ∧ (gb16132 ≠ s_.2.2) ∧ (s_.2.2 ≠ gb16132) ∧ (Below w.heap.size w w')) ?_ ?_
              rotate_left
              · intro hJ2_12
                refine join_ (σ := Nat) 10 #[true, true, false, true, true, false, false, false, false, false, false, false, true, false, false] (fun s_ => [(43, .int .i64 t16136), (15, .pointer (some ⟨s_, 0, none⟩))]) (fun s_ w' => (w'.cell? ⟨gb16112, 0, none⟩ = some (.int .i64 t16104) ∧ w'.cell? ⟨gb16112, 1, none⟩ = some (.int .i64 t16105) ∧ w'.cell? ⟨gb16112, 2, none⟩ = some (.int .i64 t16106) ∧ w'.cell? ⟨gb16112, 3, none⟩ = some (.int .i64 t16107) ∧ w'.cell? ⟨gb16112, 4, none⟩ = some (.int .i64 t16108) ∧ w'.cell? ⟨gb16112, 5, none⟩ = some (.slice Ao33 t16109.length co33)) ∧ (Kd.R (Kd.int .i64) 3 w' w.heap.size (fun _ => True) (.slice Ao33 t16109.length co33) t16109) ∧ (Kd.R k26 26 w' w.heap.size (fun k_ => some k_ ≠ (.slice Ao48 t16128.length co48 : Value).ownBlock) (.slice Ao37 t16118.length co37) t16118) ∧ (Kd.R k26 26 w' w.heap.size (fun k_ => some k_ ≠ (.slice Ao37 t16118.length co37 : Value).ownBlock) (.slice Ao48 t16128.length co48) t16128) ∧ (w'.heap[gb16101]? = some (.cells #[.int .i64 a0_0, .int .i64 a0_1, .int .i64 a0_2, .int .i64 a0_3, .int .i64 a0_4, .slice A0_5 l0_5.length c0_5] 24 (0, 0))) ∧ (w'.heap[gb16102]? = some (.cells #[.int .i64 a1_0, .int .i64 a1_1, .int .i64 a1_2, .int .i64 a1_3, .int .i64 a1_4, .slice A1_5 l1_5.length c1_5] 29 (0, 0))) ∧ (w'.heap[gb16112]? = some (.cells #[.int .i64 t16104, .int .i64 t16105, .int .i64 t16106, .int .i64 t16107, .int .i64 t16108, .slice Ao33 t16109.length co33] 24 (0, 0))) ∧ (w'.heap[gb16132]? = some (.cells #[.int .i64 t16123, .int .i64 t16124, .int .i64 t16125, .int .i64 t16126, .int .i64 t16127, .slice Ao48 t16128.length co48] 29 (0, 0))) ∧ (w'.heap[s_]? = some (.cells #[.int .i64 0, .int .i64 0, .int .i64 0, .int .i64 0, .int .i64 0, .slice none 0 0] 29 (0, 0))) ∧ (w.heap.size ≤ s_) ∧ (w.heap.size ≤ s_) ∧ (gb16101 ≠ s_) ∧ (s_ ≠ gb16101) ∧ (gb16102 ≠ s_) ∧ (s_ ≠ gb16102) ∧ (gb16112 ≠ s_) ∧ (s_ ≠ gb16112) ∧ (gb16132 ≠ s_) ∧ (s_ ≠ gb16132) ∧ (Below w.heap.size w w')) ?_ ?_
                rotate_left
                · intro hJ4_12
                  refine join_ (σ := Value × Addr) 11 #[true, true, true, true, false, false, false, false, false, false, false, false, false, false, false] (fun s_ => [(41, s_.1)]) (fun s_ w' => (w'.cell? ⟨gb16112, 0, none⟩ = some (.int .i64 t16104) ∧ w'.cell? ⟨gb16112, 1, none⟩ = some (.int .i64 t16105) ∧ w'.cell? ⟨gb16112, 2, none⟩ = some (.int .i64 t16106) ∧ w'.cell? ⟨gb16112, 3, none⟩ = some (.int .i64 t16107) ∧ w'.cell? ⟨gb16112, 4, none⟩ = some (.int .i64 t16108) ∧ w'.cell? ⟨gb16112, 5, none⟩ = some (.slice Ao33 t16109.length co33)) ∧ (Kd.R (Kd.int .i64) 3 w' w.heap.size (fun _ => True) (.slice Ao33 t16109.length co33) t16109) ∧ (Kd.R k26 26 w' w.heap.size (fun k_ => some k_ ≠ (.slice Ao48 t16128.length co48 : Value).ownBlock) (.slice Ao37 t16118.length co37) t16118) ∧ (Kd.R k26 26 w' w.heap.size (fun k_ => some k_ ≠ (.slice Ao37 t16118.length co37 : Value).ownBlock) (.slice Ao48 t16128.length co48) t16128) ∧ (Kd.R Kd.string 9 w' w.heap.size (fun _ => True) s_.1 y16133) ∧ (∃ c_, (s_.1 : Value) = .slice (some s_.2) y16133.length c_) ∧ (w'.heap[gb16101]? = some (.cells #[.int .i64 a0_0, .int .i64 a0_1, .int .i64 a0_2, .int .i64 a0_3, .int .i64 a0_4, .slice A0_5 l0_5.length c0_5] 24 (0, 0))) ∧ (w'.heap[gb16102]? = some (.cells #[.int .i64 a1_0, .int .i64 a1_1, .int .i64 a1_2, .int .i64 a1_3, .int .i64 a1_4, .slice A1_5 l1_5.length c1_5] 29 (0, 0))) ∧ (w'.heap[gb16112]? = some (.cells #[.int .i64 t16104, .int .i64 t16105, .int .i64 t16106, .int .i64 t16107, .int .i64 t16108, .slice Ao33 t16109.length co33] 24 (0, 0))) ∧ (w'.heap[gb16132]? = some (.cells #[.int .i64 t16123, .int .i64 t16124, .int .i64 t16125, .int .i64 t16126, .int .i64 t16127, .slice Ao48 t16128.length co48] 29 (0, 0))) ∧ (Below w.heap.size w w')) ?_ ?_
                  rotate_left
                  · intro hJ2
                    refine join_ (σ := Unit) 11 #[true, true, false, true, true, false, false, false, false, false, false, false, false, false, false] (fun s_ => [(43, .int .i64 t16136)]) (fun s_ w' => (w'.cell? ⟨gb16112, 0, none⟩ = some (.int .i64 t16104) ∧ w'.cell? ⟨gb16112, 1, none⟩ = some (.int .i64 t16105) ∧ w'.cell? ⟨gb16112, 2, none⟩ = some (.int .i64 t16106) ∧ w'.cell? ⟨gb16112, 3, none⟩ = some (.int .i64 t16107) ∧ w'.cell? ⟨gb16112, 4, none⟩ = some (.int .i64 t16108) ∧ w'.cell? ⟨gb16112, 5, none⟩ = some (.slice Ao33 t16109.length co33)) ∧ (Kd.R (Kd.int .i64) 3 w' w.heap.size (fun _ => True) (.slice Ao33 t16109.length co33) t16109) ∧ (Kd.R k26 26 w' w.heap.size (fun k_ => some k_ ≠ (.slice Ao48 t16128.length co48 : Value).ownBlock) (.slice Ao37 t16118.length co37) t16118) ∧ (Kd.R k26 26 w' w.heap.size (fun k_ => some k_ ≠ (.slice Ao37 t16118.length co37 : Value).ownBlock) (.slice Ao48 t16128.length co48) t16128) ∧ (w'.heap[gb16101]? = some (.cells #[.int .i64 a0_0, .int .i64 a0_1, .int .i64 a0_2, .int .i64 a0_3, .int .i64 a0_4, .slice A0_5 l0_5.length c0_5] 24 (0, 0))) ∧ (w'.heap[gb16102]? = some (.cells #[.int .i64 a1_0, .int .i64 a1_1, .int .i64 a1_2, .int .i64 a1_3, .int .i64 a1_4, .slice A1_5 l1_5.length c1_5] 29 (0, 0))) ∧ (w'.heap[gb16112]? = some (.cells #[.int .i64 t16104, .int .i64 t16105, .int .i64 t16106, .int .i64 t16107, .int .i64 t16108, .slice Ao33 t16109.length co33] 24 (0, 0))) ∧ (w'.heap[gb16132]? = some (.cells #[.int .i64 t16123, .int .i64 t16124, .int .i64 t16125, .int .i64 t16126, .int .i64 t16127, .slice Ao48 t16128.length co48] 29 (0, 0))) ∧ (Below w.heap.size w w')) ?_ ?_
                    rotate_left
                    · intro hJ4
                      refine join_ (σ := Nat) 11 #[true, true, false, true, false, false, false, false, false, false, false, false, true, false, false] (fun s_ => [(15, .pointer (some ⟨s_, 0, none⟩))]) (fun s_ w' => (w'.cell? ⟨gb16112, 0, none⟩ = some (.int .i64 t16104) ∧ w'.cell? ⟨gb16112, 1, none⟩ = some (.int .i64 t16105) ∧ w'.cell? ⟨gb16112, 2, none⟩ = some (.int .i64 t16106) ∧ w'.cell? ⟨gb16112, 3, none⟩ = some (.int .i64 t16107) ∧ w'.cell? ⟨gb16112, 4, none⟩ = some (.int .i64 t16108) ∧ w'.cell? ⟨gb16112, 5, none⟩ = some (.slice Ao33 t16109.length co33)) ∧ (Kd.R (Kd.int .i64) 3 w' w.heap.size (fun _ => True) (.slice Ao33 t16109.length co33) t16109) ∧ (Kd.R k26 26 w' w.heap.size (fun k_ => some k_ ≠ (.slice Ao48 t16128.length co48 : Value).ownBlock) (.slice Ao37 t16118.length co37) t16118) ∧ (Kd.R k26 26 w' w.heap.size (fun k_ => some k_ ≠ (.slice Ao37 t16118.length co37 : Value).ownBlock) (.slice Ao48 t16128.length co48) t16128) ∧ (w'.heap[gb16101]? = some (.cells #[.int .i64 a0_0, .int .i64 a0_1, .int .i64 a0_2, .int .i64 a0_3, .int .i64 a0_4, .slice A0_5 l0_5.length c0_5] 24 (0, 0))) ∧ (w'.heap[gb16102]? = some (.cells #[.int .i64 a1_0, .int .i64 a1_1, .int .i64 a1_2, .int .i64 a1_3, .int .i64 a1_4, .slice A1_5 l1_5.length c1_5] 29 (0, 0))) ∧ (w'.heap[gb16112]? = some (.cells #[.int .i64 t16104, .int .i64 t16105, .int .i64 t16106, .int .i64 t16107, .int .i64 t16108, .slice Ao33 t16109.length co33] 24 (0, 0))) ∧ (w'.heap[gb16132]? = some (.cells #[.int .i64 t16123, .int .i64 t16124, .int .i64 t16125, .int .i64 t16126, .int .i64 t16127, .slice Ao48 t16128.length co48] 29 (0, 0))) ∧ (w'.heap[s_]? = some (.cells #[.int .i64 0, .int .i64 0, .int .i64 0, .int .i64 0, .int .i64 0, .slice none 0 0] 29 (0, 0))) ∧ (w.heap.size ≤ s_) ∧ (w.heap.size ≤ s_) ∧ (gb16101 ≠ s_) ∧ (s_ ≠ gb16101) ∧ (gb16102 ≠ s_) ∧ (s_ ≠ gb16102) ∧ (gb16112 ≠ s_) ∧ (s_ ≠ gb16112) ∧ (gb16132 ≠ s_) ∧ (s_ ≠ gb16132) ∧ (Below w.heap.size w w')) ?_ ?_
                      rotate_left
                      · intro hJ12
                        refine three_ (i := 2) (j := 4) (k := 12) (Ni := some 41) (Nj := some 43) (Nk := some 15) #[true, true, true, true, false, false, false, false, false, false, false, false, false, false, false] #[true, true, false, true, true, false, false, false, false, false, false, false, false, false, false] #[true, true, false, true, false, false, false, false, false, false, false, false, true, false, false] rfl rfl rfl rfl rfl rfl (three_of HT_.out (by kernel_rfl)) (by decide) (by decide) (by decide) (fun K hK => ?_) (fun K hK => ?_) (fun K hK => ?_)
                        · skip
                          refine Kd.R_lit_step Kd.string _ 9 ?hg (N := 41) ?hd (xs := ([(⟨#[48]⟩ : ByteArray), (⟨#[49]⟩ : ByteArray), (⟨#[35]⟩ : ByteArray), (⟨#[46]⟩ : ByteArray)] : List ByteArray)) (inner := [.string (⟨#[48]⟩ : ByteArray), .string (⟨#[49]⟩ : ByteArray), .string (⟨#[35]⟩ : ByteArray), .string (⟨#[46]⟩ : ByteArray)]) (ok := fun _ => True) (okp := fun _ => True) ?hr ?hp (fun _ hk => hk) trivial (Below.refl _ _) (Nat.le_refl _) (by simp) ?_; (case hd => rfl); (case hg => rfl); (case hr => first | (go_simp; done) | (go_simp; rfl)); (case hp => exact (Reps.one (show Kd.M Kd.string _ _ _ (⟨#[48]⟩ : ByteArray) [.string (⟨#[48]⟩ : ByteArray)] from rfl) (Reps.one (show Kd.M Kd.string _ _ _ (⟨#[49]⟩ : ByteArray) [.string (⟨#[49]⟩ : ByteArray)] from rfl) (Reps.one (show Kd.M Kd.string _ _ _ (⟨#[35]⟩ : ByteArray) [.string (⟨#[35]⟩ : ByteArray)] from rfl) (Reps.one (show Kd.M Kd.string _ _ _ (⟨#[46]⟩ : ByteArray) [.string (⟨#[46]⟩ : ByteArray)] from rfl) (Reps.none _ _))))))
                          intro v16134 w52 ho53 hb hg_ hnew_
                          clear hg_ hnew_
                          (first | rw [← Ny16133.out] at ho53 | (simp only [Int.reduceToNat] at ho53; rw [← Ny16133.out] at ho53))
                          have HO16135 := Aside0.mk (Kd.R_lower ho53 (below_size (pH_ HB.out)))
                          replace HO16111 := Aside0.mk (Kd.R_below (pR_ HO16111.out) hb)
                          replace HO16120 := Aside0.mk (Kd.R_below (pR_ HO16120.out) hb)
                          replace HO16130 := Aside0.mk (Kd.R_below (pR_ HO16130.out) hb)
                          replace BK16101 := Aside0.mk (blk_below (pB_ BK16101.out) hb)
                          replace BK16102 := Aside0.mk (blk_below (pB_ BK16102.out) hb)
                          replace BK16112 := Aside0.mk (blk_below (pB_ BK16112.out) hb)
                          replace BK16132 := Aside0.mk (blk_below (pB_ BK16132.out) hb)
                          replace HB := Aside0.mk (below_step (pH_ HB.out) hb)
                          clear hb ho53
                          obtain ⟨Ao54, co54, eo54⟩ := Kd.R_slice HO16135.out
                          subst eo54
                          obtain ⟨ado54, fo54, _⟩ := Kd.at_string (Kd.R_reads' HO16135.out).2.2 0 (by decide) (by rw [Ny16133.out]; simp)
                          cases fo54
                          refine hK.out _ _ ⟨(blk_cell BK16112.out 0).trans rfl, (blk_cell BK16112.out 1).trans rfl, (blk_cell BK16112.out 2).trans rfl, (blk_cell BK16112.out 3).trans rfl, (blk_cell BK16112.out 4).trans rfl, (blk_cell BK16112.out 5).trans rfl⟩ (fun hHeld => ?_)
                          clear hK K
                          refine norm_ (a' := ?_) ?_ ?_
                          rotate_left
                          · show Act.put _ (some 41) _ = _
                            simp only [Act.put, List.setIfInBounds_toArray, List.set_cons_zero, List.set_cons_succ, i64_w, i32_w]
                            rfl
                          exact norm2_ (hJ2 (.slice (some ado54) y16133.length co54, ado54) _ ⟨hHeld, (pR_ HO16111.out), (pR_ HO16120.out), (pR_ HO16130.out), (pR_ HO16135.out), ⟨_, rfl⟩, (pB_ BK16101.out), (pB_ BK16102.out), (pB_ BK16112.out), (pB_ BK16132.out), (pH_ HB.out)⟩)
                        · skip
                          refine goes_ Try.func24 (by kernel_rfl) rfl #[.int .i64 a4, .int .i64 4] (by rfl) rfl rfl (by (try simp only [List.map_toArray, List.map_cons, List.map_nil]); first | done | rfl | (simp only [List.length_drop, List.length_take]; rfl)) ?_
                          with_reducible refine (plaitinglaw5_within.calls a4 4 t16136 _ A15.out).mono ?_
                          rintro e w' ⟨rfl, ⟨nd, rfl⟩⟩
                          refine ⟨_, rfl, ?_⟩
                          refine hK.out _ _ ⟨(blk_cell BK16112.out 0).trans rfl, (blk_cell BK16112.out 1).trans rfl, (blk_cell BK16112.out 2).trans rfl, (blk_cell BK16112.out 3).trans rfl, (blk_cell BK16112.out 4).trans rfl, (blk_cell BK16112.out 5).trans rfl⟩ (fun hHeld => ?_)
                          clear hK K
                          refine norm_ (a' := ?_) ?_ ?_
                          rotate_left
                          · show Act.put _ (some 43) _ = _
                            simp only [Act.put, List.setIfInBounds_toArray, List.set_cons_zero, List.set_cons_succ, i64_w, i32_w]
                            rfl
                          exact norm2_ (hJ4 () _ ⟨hHeld, (pR_ HO16111.out), (pR_ HO16120.out), (pR_ HO16130.out), (pB_ BK16101.out), (pB_ BK16102.out), (pB_ BK16112.out), (pB_ BK16132.out), (pH_ HB.out)⟩)
                        skip
                        refine box_step ?hg (N := 15) ?hd (cs := #[.int .i64 0, .int .i64 0, .int .i64 0, .int .i64 0, .int .i64 0, .slice none 0 0]) (t := 29) ?hr ?_; (case hd => rfl); (case hg => rfl); (case hr => first | (go_simp; done) | (go_simp; rfl))
                        intro gb16147 hg w52 hbox hb
                        have BK16147 := Aside0.mk (hbox)
                        have GW16147 := Aside0.mk ((by rw [hg]; exact (below_size (pH_ HB.out)) : w.heap.size ≤ gb16147))
                        have GE16147 := Aside0.mk ((by rw [hg]; exact (below_size (pH_ HB.out)) : w.heap.size ≤ gb16147))
                        have NB16101_16147 := Aside0.mk (ltB_ hg BK16101.out)
                        have NB16147_16101 := Aside0.mk (ltB_ hg BK16101.out).symm
                        have NB16102_16147 := Aside0.mk (ltB_ hg BK16102.out)
                        have NB16147_16102 := Aside0.mk (ltB_ hg BK16102.out).symm
                        have NB16112_16147 := Aside0.mk (ltB_ hg BK16112.out)
                        have NB16147_16112 := Aside0.mk (ltB_ hg BK16112.out).symm
                        have NB16132_16147 := Aside0.mk (ltB_ hg BK16132.out)
                        have NB16147_16132 := Aside0.mk (ltB_ hg BK16132.out).symm
                        replace HO16111 := Aside0.mk (Kd.R_below (pR_ HO16111.out) hb)
                        replace HO16120 := Aside0.mk (Kd.R_below (pR_ HO16120.out) hb)
                        replace HO16130 := Aside0.mk (Kd.R_below (pR_ HO16130.out) hb)
                        replace BK16101 := Aside0.mk (blk_below (pB_ BK16101.out) hb)
                        replace BK16102 := Aside0.mk (blk_below (pB_ BK16102.out) hb)
                        replace BK16112 := Aside0.mk (blk_below (pB_ BK16112.out) hb)
                        replace BK16132 := Aside0.mk (blk_below (pB_ BK16132.out) hb)
                        replace HB := Aside0.mk (below_step (pH_ HB.out) hb)
                        clear hb hbox hg
                        refine hK.out _ _ ⟨(blk_cell BK16112.out 0).trans rfl, (blk_cell BK16112.out 1).trans rfl, (blk_cell BK16112.out 2).trans rfl, (blk_cell BK16112.out 3).trans rfl, (blk_cell BK16112.out 4).trans rfl, (blk_cell BK16112.out 5).trans rfl⟩ (fun hHeld => ?_)
                        clear hK K
                        refine norm_ (a' := ?_) ?_ ?_
                        rotate_left
                        · show Act.put _ (some 15) _ = _
                          simp only [Act.put, List.setIfInBounds_toArray, List.set_cons_zero, List.set_cons_succ, i64_w, i32_w]
                          rfl
                        exact norm2_ (hJ12 (gb16147) _ ⟨hHeld, (pR_ HO16111.out), (pR_ HO16120.out), (pR_ HO16130.out), (pB_ BK16101.out), (pB_ BK16102.out), (pB_ BK16112.out), (pB_ BK16132.out), (pB_ BK16147.out), GW16147.out, GE16147.out, NB16101_16147.out, NB16147_16101.out, NB16102_16147.out, NB16147_16102.out, NB16112_16147.out, NB16147_16112.out, NB16132_16147.out, NB16147_16132.out, (pH_ HB.out)⟩)
                      skip
                      rintro gb16147 w53 ⟨hS_, h0_, h1_, h2_, h3_, h4_, h5_, h6_, h7_, h8_, h9_, h10_, h11_, h12_, h13_, h14_, h15_, h16_, h17_, h18_⟩
                      have n0_ : Aside0 (Kd.R (Kd.int .i64) 3 w53 w.heap.size (fun _ => True) (.slice Ao33 t16109.length co33) t16109) := ⟨h0_⟩
                      have n1_ : Aside0 (Kd.R k26 26 w53 w.heap.size (fun k_ => some k_ ≠ (.slice Ao48 t16128.length co48 : Value).ownBlock) (.slice Ao37 t16118.length co37) t16118) := ⟨h1_⟩
                      have n2_ : Aside0 (Kd.R k26 26 w53 w.heap.size (fun k_ => some k_ ≠ (.slice Ao37 t16118.length co37 : Value).ownBlock) (.slice Ao48 t16128.length co48) t16128) := ⟨h2_⟩
                      have n3_ : Aside0 (w53.heap[gb16101]? = some (.cells #[.int .i64 a0_0, .int .i64 a0_1, .int .i64 a0_2, .int .i64 a0_3, .int .i64 a0_4, .slice A0_5 l0_5.length c0_5] 24 (0, 0))) := ⟨h3_⟩
                      have n4_ : Aside0 (w53.heap[gb16102]? = some (.cells #[.int .i64 a1_0, .int .i64 a1_1, .int .i64 a1_2, .int .i64 a1_3, .int .i64 a1_4, .slice A1_5 l1_5.length c1_5] 29 (0, 0))) := ⟨h4_⟩
                      have n5_ : Aside0 (w53.heap[gb16112]? = some (.cells #[.int .i64 t16104, .int .i64 t16105, .int .i64 t16106, .int .i64 t16107, .int .i64 t16108, .slice Ao33 t16109.length co33] 24 (0, 0))) := ⟨h5_⟩
                      have n6_ : Aside0 (w53.heap[gb16132]? = some (.cells #[.int .i64 t16123, .int .i64 t16124, .int .i64 t16125, .int .i64 t16126, .int .i64 t16127, .slice Ao48 t16128.length co48] 29 (0, 0))) := ⟨h6_⟩
                      have n7_ : Aside0 (w53.heap[gb16147]? = some (.cells #[.int .i64 0, .int .i64 0, .int .i64 0, .int .i64 0, .int .i64 0, .slice none 0 0] 29 (0, 0))) := ⟨h7_⟩
                      have n8_ : Aside0 (w.heap.size ≤ gb16147) := ⟨h8_⟩
                      have n9_ : Aside0 (w.heap.size ≤ gb16147) := ⟨h9_⟩
                      have n10_ : Aside0 (gb16101 ≠ gb16147) := ⟨h10_⟩
                      have n11_ : Aside0 (gb16147 ≠ gb16101) := ⟨h11_⟩
                      have n12_ : Aside0 (gb16102 ≠ gb16147) := ⟨h12_⟩
                      have n13_ : Aside0 (gb16147 ≠ gb16102) := ⟨h13_⟩
                      have n14_ : Aside0 (gb16112 ≠ gb16147) := ⟨h14_⟩
                      have n15_ : Aside0 (gb16147 ≠ gb16112) := ⟨h15_⟩
                      have n16_ : Aside0 (gb16132 ≠ gb16147) := ⟨h16_⟩
                      have n17_ : Aside0 (gb16147 ≠ gb16132) := ⟨h17_⟩
                      have n18_ : Aside0 (Below w.heap.size w w53) := ⟨h18_⟩
                      clear HO16111
                      clear HO16120
                      clear HO16130
                      clear BK16101
                      clear BK16102
                      clear BK16112
                      clear BK16132
                      clear HB
                      clear h0_ h1_ h2_ h3_ h4_ h5_ h6_ h7_ h8_ h9_ h10_ h11_ h12_ h13_ h14_ h15_ h16_ h17_ h18_
                      have HO16111 := n0_
                      have HO16120 := n1_
                      have HO16130 := n2_
                      have BK16101 := n3_
                      have BK16102 := n4_
                      have BK16112 := n5_
                      have BK16132 := n6_
                      have BK16147 := n7_
                      have GW16147 := n8_
                      have GE16147 := n9_
                      have NB16101_16147 := n10_
                      have NB16147_16101 := n11_
                      have NB16102_16147 := n12_
                      have NB16147_16102 := n13_
                      have NB16112_16147 := n14_
                      have NB16147_16112 := n15_
                      have NB16132_16147 := n16_
                      have NB16147_16132 := n17_
                      have HB := n18_
                      clear n0_ n1_ n2_ n3_ n4_ n5_ n6_ n7_ n8_ n9_ n10_ n11_ n12_ n13_ n14_ n15_ n16_ n17_ n18_
                      have hHeld : w53.cell? ⟨gb16112, 0, none⟩ = some (.int .i64 t16104) ∧ w53.cell? ⟨gb16112, 1, none⟩ = some (.int .i64 t16105) ∧ w53.cell? ⟨gb16112, 2, none⟩ = some (.int .i64 t16106) ∧ w53.cell? ⟨gb16112, 3, none⟩ = some (.int .i64 t16107) ∧ w53.cell? ⟨gb16112, 4, none⟩ = some (.int .i64 t16108) ∧ w53.cell? ⟨gb16112, 5, none⟩ = some (.slice Ao33 t16109.length co33) := hS_
                      refine norm_ (a' := ?_) ?_ ?_
                      rotate_left
                      · simp only [putAll, Act.put, List.setIfInBounds_toArray, List.set_cons_zero, List.set_cons_succ]
                        rfl
                      refine two_ (i := 2) (j := 4) (Ni := some 41) (Nj := some 43) #[true, true, true, true, false, false, false, false, false, false, false, false, true, false, false] #[true, true, false, true, true, false, false, false, false, false, false, false, true, false, false] rfl rfl rfl rfl (two_of HT_.out (by kernel_rfl)) (by decide) (by decide) (fun K hK => ?_) (fun K hK => ?_)
                      · skip
                        refine Kd.R_lit_step Kd.string _ 9 ?hg (N := 41) ?hd (xs := ([(⟨#[48]⟩ : ByteArray), (⟨#[49]⟩ : ByteArray), (⟨#[35]⟩ : ByteArray), (⟨#[46]⟩ : ByteArray)] : List ByteArray)) (inner := [.string (⟨#[48]⟩ : ByteArray), .string (⟨#[49]⟩ : ByteArray), .string (⟨#[35]⟩ : ByteArray), .string (⟨#[46]⟩ : ByteArray)]) (ok := fun _ => True) (okp := fun _ => True) ?hr ?hp (fun _ hk => hk) trivial (Below.refl _ _) (Nat.le_refl _) (by simp) ?_; (case hd => rfl); (case hg => rfl); (case hr => first | (go_simp; done) | (go_simp; rfl)); (case hp => exact (Reps.one (show Kd.M Kd.string _ _ _ (⟨#[48]⟩ : ByteArray) [.string (⟨#[48]⟩ : ByteArray)] from rfl) (Reps.one (show Kd.M Kd.string _ _ _ (⟨#[49]⟩ : ByteArray) [.string (⟨#[49]⟩ : ByteArray)] from rfl) (Reps.one (show Kd.M Kd.string _ _ _ (⟨#[35]⟩ : ByteArray) [.string (⟨#[35]⟩ : ByteArray)] from rfl) (Reps.one (show Kd.M Kd.string _ _ _ (⟨#[46]⟩ : ByteArray) [.string (⟨#[46]⟩ : ByteArray)] from rfl) (Reps.none _ _))))))
                        intro v16134 w54 ho55 hb hg_ hnew_
                        clear hg_ hnew_
                        (first | rw [← Ny16133.out] at ho55 | (simp only [Int.reduceToNat] at ho55; rw [← Ny16133.out] at ho55))
                        have HO16135 := Aside0.mk (Kd.R_lower ho55 (below_size (pH_ HB.out)))
                        replace HO16111 := Aside0.mk (Kd.R_below (pR_ HO16111.out) hb)
                        replace HO16120 := Aside0.mk (Kd.R_below (pR_ HO16120.out) hb)
                        replace HO16130 := Aside0.mk (Kd.R_below (pR_ HO16130.out) hb)
                        replace BK16101 := Aside0.mk (blk_below (pB_ BK16101.out) hb)
                        replace BK16102 := Aside0.mk (blk_below (pB_ BK16102.out) hb)
                        replace BK16112 := Aside0.mk (blk_below (pB_ BK16112.out) hb)
                        replace BK16132 := Aside0.mk (blk_below (pB_ BK16132.out) hb)
                        replace BK16147 := Aside0.mk (blk_below (pB_ BK16147.out) hb)
                        replace HB := Aside0.mk (below_step (pH_ HB.out) hb)
                        clear hb ho55
                        obtain ⟨Ao56, co56, eo56⟩ := Kd.R_slice HO16135.out
                        subst eo56
                        obtain ⟨ado56, fo56, _⟩ := Kd.at_string (Kd.R_reads' HO16135.out).2.2 0 (by decide) (by rw [Ny16133.out]; simp)
                        cases fo56
                        refine hK.out _ _ ⟨(blk_cell BK16112.out 0).trans rfl, (blk_cell BK16112.out 1).trans rfl, (blk_cell BK16112.out 2).trans rfl, (blk_cell BK16112.out 3).trans rfl, (blk_cell BK16112.out 4).trans rfl, (blk_cell BK16112.out 5).trans rfl⟩ (fun hHeld => ?_)
                        clear hK K
                        refine norm_ (a' := ?_) ?_ ?_
                        rotate_left
                        · show Act.put _ (some 41) _ = _
                          simp only [Act.put, List.setIfInBounds_toArray, List.set_cons_zero, List.set_cons_succ, i64_w, i32_w]
                          rfl
                        exact norm2_ (hJ2_12 (.slice (some ado56) y16133.length co56, ado56, gb16147) _ ⟨hHeld, (pR_ HO16111.out), (pR_ HO16120.out), (pR_ HO16130.out), (pR_ HO16135.out), ⟨_, rfl⟩, (pB_ BK16101.out), (pB_ BK16102.out), (pB_ BK16112.out), (pB_ BK16132.out), (pB_ BK16147.out), GW16147.out, GE16147.out, NB16101_16147.out, NB16147_16101.out, NB16102_16147.out, NB16147_16102.out, NB16112_16147.out, NB16147_16112.out, NB16132_16147.out, NB16147_16132.out, (pH_ HB.out)⟩)
                      skip
                      refine goes_ Try.func24 (by kernel_rfl) rfl #[.int .i64 a4, .int .i64 4] (by rfl) rfl rfl (by (try simp only [List.map_toArray, List.map_cons, List.map_nil]); first | done | rfl | (simp only [List.length_drop, List.length_take]; rfl)) ?_
                      with_reducible refine (plaitinglaw5_within.calls a4 4 t16136 _ A15.out).mono ?_
                      rintro e w' ⟨rfl, ⟨nd, rfl⟩⟩
                      refine ⟨_, rfl, ?_⟩
                      refine hK.out _ _ ⟨(blk_cell BK16112.out 0).trans rfl, (blk_cell BK16112.out 1).trans rfl, (blk_cell BK16112.out 2).trans rfl, (blk_cell BK16112.out 3).trans rfl, (blk_cell BK16112.out 4).trans rfl, (blk_cell BK16112.out 5).trans rfl⟩ (fun hHeld => ?_)
                      clear hK K
                      refine norm_ (a' := ?_) ?_ ?_
                      rotate_left
                      · show Act.put _ (some 43) _ = _
                        simp only [Act.put, List.setIfInBounds_toArray, List.set_cons_zero, List.set_cons_succ, i64_w, i32_w]
                        rfl
                      exact norm2_ (hJ4_12 (gb16147) _ ⟨hHeld, (pR_ HO16111.out), (pR_ HO16120.out), (pR_ HO16130.out), (pB_ BK16101.out), (pB_ BK16102.out), (pB_ BK16112.out), (pB_ BK16132.out), (pB_ BK16147.out), GW16147.out, GE16147.out, NB16101_16147.out, NB16147_16101.out, NB16102_16147.out, NB16147_16102.out, NB16112_16147.out, NB16147_16112.out, NB16132_16147.out, NB16147_16132.out, (pH_ HB.out)⟩)
                    skip
                    rintro _ w52 ⟨hS_, h0_, h1_, h2_, h3_, h4_, h5_, h6_, h7_⟩
                    have n0_ : Aside0 (Kd.R (Kd.int .i64) 3 w52 w.heap.size (fun _ => True) (.slice Ao33 t16109.length co33) t16109) := ⟨h0_⟩
                    have n1_ : Aside0 (Kd.R k26 26 w52 w.heap.size (fun k_ => some k_ ≠ (.slice Ao48 t16128.length co48 : Value).ownBlock) (.slice Ao37 t16118.length co37) t16118) := ⟨h1_⟩
                    have n2_ : Aside0 (Kd.R k26 26 w52 w.heap.size (fun k_ => some k_ ≠ (.slice Ao37 t16118.length co37 : Value).ownBlock) (.slice Ao48 t16128.length co48) t16128) := ⟨h2_⟩
                    have n3_ : Aside0 (w52.heap[gb16101]? = some (.cells #[.int .i64 a0_0, .int .i64 a0_1, .int .i64 a0_2, .int .i64 a0_3, .int .i64 a0_4, .slice A0_5 l0_5.length c0_5] 24 (0, 0))) := ⟨h3_⟩
                    have n4_ : Aside0 (w52.heap[gb16102]? = some (.cells #[.int .i64 a1_0, .int .i64 a1_1, .int .i64 a1_2, .int .i64 a1_3, .int .i64 a1_4, .slice A1_5 l1_5.length c1_5] 29 (0, 0))) := ⟨h4_⟩
                    have n5_ : Aside0 (w52.heap[gb16112]? = some (.cells #[.int .i64 t16104, .int .i64 t16105, .int .i64 t16106, .int .i64 t16107, .int .i64 t16108, .slice Ao33 t16109.length co33] 24 (0, 0))) := ⟨h5_⟩
                    have n6_ : Aside0 (w52.heap[gb16132]? = some (.cells #[.int .i64 t16123, .int .i64 t16124, .int .i64 t16125, .int .i64 t16126, .int .i64 t16127, .slice Ao48 t16128.length co48] 29 (0, 0))) := ⟨h6_⟩
                    have n7_ : Aside0 (Below w.heap.size w w52) := ⟨h7_⟩
                    clear HO16111
                    clear HO16120
                    clear HO16130
                    clear BK16101
                    clear BK16102
                    clear BK16112
                    clear BK16132
                    clear HB
                    clear h0_ h1_ h2_ h3_ h4_ h5_ h6_ h7_
                    have HO16111 := n0_
                    have HO16120 := n1_
                    have HO16130 := n2_
                    have BK16101 := n3_
                    have BK16102 := n4_
                    have BK16112 := n5_
                    have BK16132 := n6_
                    have HB := n7_
                    clear n0_ n1_ n2_ n3_ n4_ n5_ n6_ n7_
                    have hHeld : w52.cell? ⟨gb16112, 0, none⟩ = some (.int .i64 t16104) ∧ w52.cell? ⟨gb16112, 1, none⟩ = some (.int .i64 t16105) ∧ w52.cell? ⟨gb16112, 2, none⟩ = some (.int .i64 t16106) ∧ w52.cell? ⟨gb16112, 3, none⟩ = some (.int .i64 t16107) ∧ w52.cell? ⟨gb16112, 4, none⟩ = some (.int .i64 t16108) ∧ w52.cell? ⟨gb16112, 5, none⟩ = some (.slice Ao33 t16109.length co33) := hS_
                    refine norm_ (a' := ?_) ?_ ?_
                    rotate_left
                    · simp only [putAll, Act.put, List.setIfInBounds_toArray, List.set_cons_zero, List.set_cons_succ]
                      rfl
                    refine two_ (i := 2) (j := 12) (Ni := some 41) (Nj := some 15) #[true, true, true, true, true, false, false, false, false, false, false, false, false, false, false] #[true, true, false, true, true, false, false, false, false, false, false, false, true, false, false] rfl rfl rfl rfl (two_of HT_.out (by kernel_rfl)) (by decide) (by decide) (fun K hK => ?_) (fun K hK => ?_)
                    · skip
                      refine Kd.R_lit_step Kd.string _ 9 ?hg (N := 41) ?hd (xs := ([(⟨#[48]⟩ : ByteArray), (⟨#[49]⟩ : ByteArray), (⟨#[35]⟩ : ByteArray), (⟨#[46]⟩ : ByteArray)] : List ByteArray)) (inner := [.string (⟨#[48]⟩ : ByteArray), .string (⟨#[49]⟩ : ByteArray), .string (⟨#[35]⟩ : ByteArray), .string (⟨#[46]⟩ : ByteArray)]) (ok := fun _ => True) (okp := fun _ => True) ?hr ?hp (fun _ hk => hk) trivial (Below.refl _ _) (Nat.le_refl _) (by simp) ?_; (case hd => rfl); (case hg => rfl); (case hr => first | (go_simp; done) | (go_simp; rfl)); (case hp => exact (Reps.one (show Kd.M Kd.string _ _ _ (⟨#[48]⟩ : ByteArray) [.string (⟨#[48]⟩ : ByteArray)] from rfl) (Reps.one (show Kd.M Kd.string _ _ _ (⟨#[49]⟩ : ByteArray) [.string (⟨#[49]⟩ : ByteArray)] from rfl) (Reps.one (show Kd.M Kd.string _ _ _ (⟨#[35]⟩ : ByteArray) [.string (⟨#[35]⟩ : ByteArray)] from rfl) (Reps.one (show Kd.M Kd.string _ _ _ (⟨#[46]⟩ : ByteArray) [.string (⟨#[46]⟩ : ByteArray)] from rfl) (Reps.none _ _))))))
                      intro v16134 w53 ho54 hb hg_ hnew_
                      clear hg_ hnew_
                      (first | rw [← Ny16133.out] at ho54 | (simp only [Int.reduceToNat] at ho54; rw [← Ny16133.out] at ho54))
                      have HO16135 := Aside0.mk (Kd.R_lower ho54 (below_size (pH_ HB.out)))
                      replace HO16111 := Aside0.mk (Kd.R_below (pR_ HO16111.out) hb)
                      replace HO16120 := Aside0.mk (Kd.R_below (pR_ HO16120.out) hb)
                      replace HO16130 := Aside0.mk (Kd.R_below (pR_ HO16130.out) hb)
                      replace BK16101 := Aside0.mk (blk_below (pB_ BK16101.out) hb)
                      replace BK16102 := Aside0.mk (blk_below (pB_ BK16102.out) hb)
                      replace BK16112 := Aside0.mk (blk_below (pB_ BK16112.out) hb)
                      replace BK16132 := Aside0.mk (blk_below (pB_ BK16132.out) hb)
                      replace HB := Aside0.mk (below_step (pH_ HB.out) hb)
                      clear hb ho54
                      obtain ⟨Ao55, co55, eo55⟩ := Kd.R_slice HO16135.out
                      subst eo55
                      obtain ⟨ado55, fo55, _⟩ := Kd.at_string (Kd.R_reads' HO16135.out).2.2 0 (by decide) (by rw [Ny16133.out]; simp)
                      cases fo55
                      refine hK.out _ _ ⟨(blk_cell BK16112.out 0).trans rfl, (blk_cell BK16112.out 1).trans rfl, (blk_cell BK16112.out 2).trans rfl, (blk_cell BK16112.out 3).trans rfl, (blk_cell BK16112.out 4).trans rfl, (blk_cell BK16112.out 5).trans rfl⟩ (fun hHeld => ?_)
                      clear hK K
                      refine norm_ (a' := ?_) ?_ ?_
                      rotate_left
                      · show Act.put _ (some 41) _ = _
                        simp only [Act.put, List.setIfInBounds_toArray, List.set_cons_zero, List.set_cons_succ, i64_w, i32_w]
                        rfl
                      refine pure_ (i := 5) (N := some 44) (v := ?_) (a' := ?_) #[true, true, true, true, true, true, false, false, false, false, false, false, false, false, false] rfl rfl (any_of HT_.out (by kernel_rfl)) (fun _ _ _ h => h) (Or.inl ⟨by rfl, ?_⟩) ?_ ?_
                      rotate_left
                      · intro w'
                        go_simp
                        with_reducible rfl
                      rotate_left
                      · simp only [Act.put, List.setIfInBounds_toArray, List.set_cons_zero, List.set_cons_succ, i64_w, i32_w]
                        rfl
                      exact norm2_ (hJ2_4 (.slice (some ado55) y16133.length co55, ado55) _ ⟨hHeld, (pR_ HO16111.out), (pR_ HO16120.out), (pR_ HO16130.out), (pR_ HO16135.out), ⟨_, rfl⟩, (pB_ BK16101.out), (pB_ BK16102.out), (pB_ BK16112.out), (pB_ BK16132.out), (pH_ HB.out)⟩)
                    skip
                    refine box_step ?hg (N := 15) ?hd (cs := #[.int .i64 0, .int .i64 0, .int .i64 0, .int .i64 0, .int .i64 0, .slice none 0 0]) (t := 29) ?hr ?_; (case hd => rfl); (case hg => rfl); (case hr => first | (go_simp; done) | (go_simp; rfl))
                    intro gb16147 hg w53 hbox hb
                    have BK16147 := Aside0.mk (hbox)
                    have GW16147 := Aside0.mk ((by rw [hg]; exact (below_size (pH_ HB.out)) : w.heap.size ≤ gb16147))
                    have GE16147 := Aside0.mk ((by rw [hg]; exact (below_size (pH_ HB.out)) : w.heap.size ≤ gb16147))
                    have NB16101_16147 := Aside0.mk (ltB_ hg BK16101.out)
                    have NB16147_16101 := Aside0.mk (ltB_ hg BK16101.out).symm
                    have NB16102_16147 := Aside0.mk (ltB_ hg BK16102.out)
                    have NB16147_16102 := Aside0.mk (ltB_ hg BK16102.out).symm
                    have NB16112_16147 := Aside0.mk (ltB_ hg BK16112.out)
                    have NB16147_16112 := Aside0.mk (ltB_ hg BK16112.out).symm
                    have NB16132_16147 := Aside0.mk (ltB_ hg BK16132.out)
                    have NB16147_16132 := Aside0.mk (ltB_ hg BK16132.out).symm
                    replace HO16111 := Aside0.mk (Kd.R_below (pR_ HO16111.out) hb)
                    replace HO16120 := Aside0.mk (Kd.R_below (pR_ HO16120.out) hb)
                    replace HO16130 := Aside0.mk (Kd.R_below (pR_ HO16130.out) hb)
                    replace BK16101 := Aside0.mk (blk_below (pB_ BK16101.out) hb)
                    replace BK16102 := Aside0.mk (blk_below (pB_ BK16102.out) hb)
                    replace BK16112 := Aside0.mk (blk_below (pB_ BK16112.out) hb)
                    replace BK16132 := Aside0.mk (blk_below (pB_ BK16132.out) hb)
                    replace HB := Aside0.mk (below_step (pH_ HB.out) hb)
                    clear hb hbox hg
                    refine hK.out _ _ ⟨(blk_cell BK16112.out 0).trans rfl, (blk_cell BK16112.out 1).trans rfl, (blk_cell BK16112.out 2).trans rfl, (blk_cell BK16112.out 3).trans rfl, (blk_cell BK16112.out 4).trans rfl, (blk_cell BK16112.out 5).trans rfl⟩ (fun hHeld => ?_)
                    clear hK K
                    refine norm_ (a' := ?_) ?_ ?_
                    rotate_left
                    · show Act.put _ (some 15) _ = _
                      simp only [Act.put, List.setIfInBounds_toArray, List.set_cons_zero, List.set_cons_succ, i64_w, i32_w]
                      rfl
                    exact norm2_ (hJ4_12 (gb16147) _ ⟨hHeld, (pR_ HO16111.out), (pR_ HO16120.out), (pR_ HO16130.out), (pB_ BK16101.out), (pB_ BK16102.out), (pB_ BK16112.out), (pB_ BK16132.out), (pB_ BK16147.out), GW16147.out, GE16147.out, NB16101_16147.out, NB16147_16101.out, NB16102_16147.out, NB16147_16102.out, NB16112_16147.out, NB16147_16112.out, NB16132_16147.out, NB16147_16132.out, (pH_ HB.out)⟩)
                  skip
                  rintro ⟨v16134, adz_v16134⟩ w55 ⟨hS_, h0_, h1_, h2_, h3_, h4_, h5_, h6_, h7_, h8_, h9_⟩
                  have n0_ : Aside0 (Kd.R (Kd.int .i64) 3 w55 w.heap.size (fun _ => True) (.slice Ao33 t16109.length co33) t16109) := ⟨h0_⟩
                  have n1_ : Aside0 (Kd.R k26 26 w55 w.heap.size (fun k_ => some k_ ≠ (.slice Ao48 t16128.length co48 : Value).ownBlock) (.slice Ao37 t16118.length co37) t16118) := ⟨h1_⟩
                  have n2_ : Aside0 (Kd.R k26 26 w55 w.heap.size (fun k_ => some k_ ≠ (.slice Ao37 t16118.length co37 : Value).ownBlock) (.slice Ao48 t16128.length co48) t16128) := ⟨h2_⟩
                  have n3_ : Aside0 (Kd.R Kd.string 9 w55 w.heap.size (fun _ => True) v16134 y16133) := ⟨h3_⟩
                  have n4_ : Aside0 (∃ c_, (v16134 : Value) = .slice (some adz_v16134) y16133.length c_) := ⟨h4_⟩
                  have n5_ : Aside0 (w55.heap[gb16101]? = some (.cells #[.int .i64 a0_0, .int .i64 a0_1, .int .i64 a0_2, .int .i64 a0_3, .int .i64 a0_4, .slice A0_5 l0_5.length c0_5] 24 (0, 0))) := ⟨h5_⟩
                  have n6_ : Aside0 (w55.heap[gb16102]? = some (.cells #[.int .i64 a1_0, .int .i64 a1_1, .int .i64 a1_2, .int .i64 a1_3, .int .i64 a1_4, .slice A1_5 l1_5.length c1_5] 29 (0, 0))) := ⟨h6_⟩
                  have n7_ : Aside0 (w55.heap[gb16112]? = some (.cells #[.int .i64 t16104, .int .i64 t16105, .int .i64 t16106, .int .i64 t16107, .int .i64 t16108, .slice Ao33 t16109.length co33] 24 (0, 0))) := ⟨h7_⟩
                  have n8_ : Aside0 (w55.heap[gb16132]? = some (.cells #[.int .i64 t16123, .int .i64 t16124, .int .i64 t16125, .int .i64 t16126, .int .i64 t16127, .slice Ao48 t16128.length co48] 29 (0, 0))) := ⟨h8_⟩
                  have n9_ : Aside0 (Below w.heap.size w w55) := ⟨h9_⟩
                  clear HO16111
                  clear HO16120
                  clear HO16130
                  clear BK16101
                  clear BK16102
                  clear BK16112
                  clear BK16132
                  clear HB
                  clear h0_ h1_ h2_ h3_ h4_ h5_ h6_ h7_ h8_ h9_
                  have HO16111 := n0_
                  have HO16120 := n1_
                  have HO16130 := n2_
                  have HO16135 := n3_
                  have HA_HO16135 := n4_
                  have BK16101 := n5_
                  have BK16102 := n6_
                  have BK16112 := n7_
                  have BK16132 := n8_
                  have HB := n9_
                  clear n0_ n1_ n2_ n3_ n4_ n5_ n6_ n7_ n8_ n9_
                  have hHeld : w55.cell? ⟨gb16112, 0, none⟩ = some (.int .i64 t16104) ∧ w55.cell? ⟨gb16112, 1, none⟩ = some (.int .i64 t16105) ∧ w55.cell? ⟨gb16112, 2, none⟩ = some (.int .i64 t16106) ∧ w55.cell? ⟨gb16112, 3, none⟩ = some (.int .i64 t16107) ∧ w55.cell? ⟨gb16112, 4, none⟩ = some (.int .i64 t16108) ∧ w55.cell? ⟨gb16112, 5, none⟩ = some (.slice Ao33 t16109.length co33) := hS_
                  obtain ⟨co56, eo56⟩ := HA_HO16135.out
                  clear HA_HO16135
                  subst eo56
                  refine norm_ (a' := ?_) ?_ ?_
                  rotate_left
                  · simp only [putAll, Act.put, List.setIfInBounds_toArray, List.set_cons_zero, List.set_cons_succ]
                    rfl
                  refine two_ (i := 4) (j := 12) (Ni := some 43) (Nj := some 15) #[true, true, true, true, true, false, false, false, false, false, false, false, false, false, false] #[true, true, true, true, false, false, false, false, false, false, false, false, true, false, false] rfl rfl rfl rfl (two_of HT_.out (by kernel_rfl)) (by decide) (by decide) (fun K hK => ?_) (fun K hK => ?_)
                  · skip
                    refine goes_ Try.func24 (by kernel_rfl) rfl #[.int .i64 a4, .int .i64 4] (by rfl) rfl rfl (by (try simp only [List.map_toArray, List.map_cons, List.map_nil]); first | done | rfl | (simp only [List.length_drop, List.length_take]; rfl)) ?_
                    with_reducible refine (plaitinglaw5_within.calls a4 4 t16136 _ A15.out).mono ?_
                    rintro e w' ⟨rfl, ⟨nd, rfl⟩⟩
                    refine ⟨_, rfl, ?_⟩
                    refine hK.out _ _ ⟨(blk_cell BK16112.out 0).trans rfl, (blk_cell BK16112.out 1).trans rfl, (blk_cell BK16112.out 2).trans rfl, (blk_cell BK16112.out 3).trans rfl, (blk_cell BK16112.out 4).trans rfl, (blk_cell BK16112.out 5).trans rfl⟩ (fun hHeld => ?_)
                    clear hK K
                    refine norm_ (a' := ?_) ?_ ?_
                    rotate_left
                    · show Act.put _ (some 43) _ = _
                      simp only [Act.put, List.setIfInBounds_toArray, List.set_cons_zero, List.set_cons_succ, i64_w, i32_w]
                      rfl
                    refine pure_ (i := 5) (N := some 44) (v := ?_) (a' := ?_) #[true, true, true, true, true, true, false, false, false, false, false, false, false, false, false] rfl rfl (any_of HT_.out (by kernel_rfl)) (fun _ _ _ h => h) (Or.inl ⟨by rfl, ?_⟩) ?_ ?_
                    rotate_left
                    · intro w'
                      go_simp
                      with_reducible rfl
                    rotate_left
                    · simp only [Act.put, List.setIfInBounds_toArray, List.set_cons_zero, List.set_cons_succ, i64_w, i32_w]
                      rfl
                    exact norm2_ (hJ2_4 (.slice (some adz_v16134) y16133.length co56, adz_v16134) _ ⟨hHeld, (pR_ HO16111.out), (pR_ HO16120.out), (pR_ HO16130.out), (pR_ HO16135.out), ⟨_, rfl⟩, (pB_ BK16101.out), (pB_ BK16102.out), (pB_ BK16112.out), (pB_ BK16132.out), (pH_ HB.out)⟩)
                  skip
                  refine box_step ?hg (N := 15) ?hd (cs := #[.int .i64 0, .int .i64 0, .int .i64 0, .int .i64 0, .int .i64 0, .slice none 0 0]) (t := 29) ?hr ?_; (case hd => rfl); (case hg => rfl); (case hr => first | (go_simp; done) | (go_simp; rfl))
                  intro gb16147 hg w57 hbox hb
                  have BK16147 := Aside0.mk (hbox)
                  have GW16147 := Aside0.mk ((by rw [hg]; exact (below_size (pH_ HB.out)) : w.heap.size ≤ gb16147))
                  have GE16147 := Aside0.mk ((by rw [hg]; exact (below_size (pH_ HB.out)) : w.heap.size ≤ gb16147))
                  have NB16101_16147 := Aside0.mk (ltB_ hg BK16101.out)
                  have NB16147_16101 := Aside0.mk (ltB_ hg BK16101.out).symm
                  have NB16102_16147 := Aside0.mk (ltB_ hg BK16102.out)
                  have NB16147_16102 := Aside0.mk (ltB_ hg BK16102.out).symm
                  have NB16112_16147 := Aside0.mk (ltB_ hg BK16112.out)
                  have NB16147_16112 := Aside0.mk (ltB_ hg BK16112.out).symm
                  have NB16132_16147 := Aside0.mk (ltB_ hg BK16132.out)
                  have NB16147_16132 := Aside0.mk (ltB_ hg BK16132.out).symm
                  replace HO16111 := Aside0.mk (Kd.R_below (pR_ HO16111.out) hb)
                  replace HO16120 := Aside0.mk (Kd.R_below (pR_ HO16120.out) hb)
                  replace HO16130 := Aside0.mk (Kd.R_below (pR_ HO16130.out) hb)
                  replace HO16135 := Aside0.mk (Kd.R_below (pR_ HO16135.out) hb)
                  replace BK16101 := Aside0.mk (blk_below (pB_ BK16101.out) hb)
                  replace BK16102 := Aside0.mk (blk_below (pB_ BK16102.out) hb)
                  replace BK16112 := Aside0.mk (blk_below (pB_ BK16112.out) hb)
                  replace BK16132 := Aside0.mk (blk_below (pB_ BK16132.out) hb)
                  replace HB := Aside0.mk (below_step (pH_ HB.out) hb)
                  clear hb hbox hg
                  refine hK.out _ _ ⟨(blk_cell BK16112.out 0).trans rfl, (blk_cell BK16112.out 1).trans rfl, (blk_cell BK16112.out 2).trans rfl, (blk_cell BK16112.out 3).trans rfl, (blk_cell BK16112.out 4).trans rfl, (blk_cell BK16112.out 5).trans rfl⟩ (fun hHeld => ?_)
                  clear hK K
                  refine norm_ (a' := ?_) ?_ ?_
                  rotate_left
                  · show Act.put _ (some 15) _ = _
                    simp only [Act.put, List.setIfInBounds_toArray, List.set_cons_zero, List.set_cons_succ, i64_w, i32_w]
                    rfl
                  exact norm2_ (hJ2_12 (.slice (some adz_v16134) y16133.length co56, adz_v16134, gb16147) _ ⟨hHeld, (pR_ HO16111.out), (pR_ HO16120.out), (pR_ HO16130.out), (pR_ HO16135.out), ⟨_, rfl⟩, (pB_ BK16101.out), (pB_ BK16102.out), (pB_ BK16112.out), (pB_ BK16132.out), (pB_ BK16147.out), GW16147.out, GE16147.out, NB16101_16147.out, NB16147_16101.out, NB16102_16147.out, NB16147_16102.out, NB16112_16147.out, NB16147_16112.out, NB16132_16147.out, NB16147_16132.out, (pH_ HB.out)⟩)
                skip
                rintro gb16147 w53 ⟨hS_, h0_, h1_, h2_, h3_, h4_, h5_, h6_, h7_, h8_, h9_, h10_, h11_, h12_, h13_, h14_, h15_, h16_, h17_, h18_⟩
                have n0_ : Aside0 (Kd.R (Kd.int .i64) 3 w53 w.heap.size (fun _ => True) (.slice Ao33 t16109.length co33) t16109) := ⟨h0_⟩
                have n1_ : Aside0 (Kd.R k26 26 w53 w.heap.size (fun k_ => some k_ ≠ (.slice Ao48 t16128.length co48 : Value).ownBlock) (.slice Ao37 t16118.length co37) t16118) := ⟨h1_⟩
                have n2_ : Aside0 (Kd.R k26 26 w53 w.heap.size (fun k_ => some k_ ≠ (.slice Ao37 t16118.length co37 : Value).ownBlock) (.slice Ao48 t16128.length co48) t16128) := ⟨h2_⟩
                have n3_ : Aside0 (w53.heap[gb16101]? = some (.cells #[.int .i64 a0_0, .int .i64 a0_1, .int .i64 a0_2, .int .i64 a0_3, .int .i64 a0_4, .slice A0_5 l0_5.length c0_5] 24 (0, 0))) := ⟨h3_⟩
                have n4_ : Aside0 (w53.heap[gb16102]? = some (.cells #[.int .i64 a1_0, .int .i64 a1_1, .int .i64 a1_2, .int .i64 a1_3, .int .i64 a1_4, .slice A1_5 l1_5.length c1_5] 29 (0, 0))) := ⟨h4_⟩
                have n5_ : Aside0 (w53.heap[gb16112]? = some (.cells #[.int .i64 t16104, .int .i64 t16105, .int .i64 t16106, .int .i64 t16107, .int .i64 t16108, .slice Ao33 t16109.length co33] 24 (0, 0))) := ⟨h5_⟩
                have n6_ : Aside0 (w53.heap[gb16132]? = some (.cells #[.int .i64 t16123, .int .i64 t16124, .int .i64 t16125, .int .i64 t16126, .int .i64 t16127, .slice Ao48 t16128.length co48] 29 (0, 0))) := ⟨h6_⟩
                have n7_ : Aside0 (w53.heap[gb16147]? = some (.cells #[.int .i64 0, .int .i64 0, .int .i64 0, .int .i64 0, .int .i64 0, .slice none 0 0] 29 (0, 0))) := ⟨h7_⟩
                have n8_ : Aside0 (w.heap.size ≤ gb16147) := ⟨h8_⟩
                have n9_ : Aside0 (w.heap.size ≤ gb16147) := ⟨h9_⟩
                have n10_ : Aside0 (gb16101 ≠ gb16147) := ⟨h10_⟩
                have n11_ : Aside0 (gb16147 ≠ gb16101) := ⟨h11_⟩
                have n12_ : Aside0 (gb16102 ≠ gb16147) := ⟨h12_⟩
                have n13_ : Aside0 (gb16147 ≠ gb16102) := ⟨h13_⟩
                have n14_ : Aside0 (gb16112 ≠ gb16147) := ⟨h14_⟩
                have n15_ : Aside0 (gb16147 ≠ gb16112) := ⟨h15_⟩
                have n16_ : Aside0 (gb16132 ≠ gb16147) := ⟨h16_⟩
                have n17_ : Aside0 (gb16147 ≠ gb16132) := ⟨h17_⟩
                have n18_ : Aside0 (Below w.heap.size w w53) := ⟨h18_⟩
                clear HO16111
                clear HO16120
                clear HO16130
                clear BK16101
                clear BK16102
                clear BK16112
                clear BK16132
                clear HB
                clear h0_ h1_ h2_ h3_ h4_ h5_ h6_ h7_ h8_ h9_ h10_ h11_ h12_ h13_ h14_ h15_ h16_ h17_ h18_
                have HO16111 := n0_
                have HO16120 := n1_
                have HO16130 := n2_
                have BK16101 := n3_
                have BK16102 := n4_
                have BK16112 := n5_
                have BK16132 := n6_
                have BK16147 := n7_
                have GW16147 := n8_
                have GE16147 := n9_
                have NB16101_16147 := n10_
                have NB16147_16101 := n11_
                have NB16102_16147 := n12_
                have NB16147_16102 := n13_
                have NB16112_16147 := n14_
                have NB16147_16112 := n15_
                have NB16132_16147 := n16_
                have NB16147_16132 := n17_
                have HB := n18_
                clear n0_ n1_ n2_ n3_ n4_ n5_ n6_ n7_ n8_ n9_ n10_ n11_ n12_ n13_ n14_ n15_ n16_ n17_ n18_
                have hHeld : w53.cell? ⟨gb16112, 0, none⟩ = some (.int .i64 t16104) ∧ w53.cell? ⟨gb16112, 1, none⟩ = some (.int .i64 t16105) ∧ w53.cell? ⟨gb16112, 2, none⟩ = some (.int .i64 t16106) ∧ w53.cell? ⟨gb16112, 3, none⟩ = some (.int .i64 t16107) ∧ w53.cell? ⟨gb16112, 4, none⟩ = some (.int .i64 t16108) ∧ w53.cell? ⟨gb16112, 5, none⟩ = some (.slice Ao33 t16109.length co33) := hS_
                refine norm_ (a' := ?_) ?_ ?_
                rotate_left
                · simp only [putAll, Act.put, List.setIfInBounds_toArray, List.set_cons_zero, List.set_cons_succ]
                  rfl
                refine one_ (i := 2) (N := some 41) #[true, true, true, true, true, false, false, false, false, false, false, false, true, false, false] rfl rfl (one_of HT_.out (by kernel_rfl)) (by decide) (fun K hK => ?_)
                refine Kd.R_lit_step Kd.string _ 9 ?hg (N := 41) ?hd (xs := ([(⟨#[48]⟩ : ByteArray), (⟨#[49]⟩ : ByteArray), (⟨#[35]⟩ : ByteArray), (⟨#[46]⟩ : ByteArray)] : List ByteArray)) (inner := [.string (⟨#[48]⟩ : ByteArray), .string (⟨#[49]⟩ : ByteArray), .string (⟨#[35]⟩ : ByteArray), .string (⟨#[46]⟩ : ByteArray)]) (ok := fun _ => True) (okp := fun _ => True) ?hr ?hp (fun _ hk => hk) trivial (Below.refl _ _) (Nat.le_refl _) (by simp) ?_; (case hd => rfl); (case hg => rfl); (case hr => first | (go_simp; done) | (go_simp; rfl)); (case hp => exact (Reps.one (show Kd.M Kd.string _ _ _ (⟨#[48]⟩ : ByteArray) [.string (⟨#[48]⟩ : ByteArray)] from rfl) (Reps.one (show Kd.M Kd.string _ _ _ (⟨#[49]⟩ : ByteArray) [.string (⟨#[49]⟩ : ByteArray)] from rfl) (Reps.one (show Kd.M Kd.string _ _ _ (⟨#[35]⟩ : ByteArray) [.string (⟨#[35]⟩ : ByteArray)] from rfl) (Reps.one (show Kd.M Kd.string _ _ _ (⟨#[46]⟩ : ByteArray) [.string (⟨#[46]⟩ : ByteArray)] from rfl) (Reps.none _ _))))))
                intro v16134 w54 ho55 hb hg_ hnew_
                clear hg_ hnew_
                (first | rw [← Ny16133.out] at ho55 | (simp only [Int.reduceToNat] at ho55; rw [← Ny16133.out] at ho55))
                have HO16135 := Aside0.mk (Kd.R_lower ho55 (below_size (pH_ HB.out)))
                replace HO16111 := Aside0.mk (Kd.R_below (pR_ HO16111.out) hb)
                replace HO16120 := Aside0.mk (Kd.R_below (pR_ HO16120.out) hb)
                replace HO16130 := Aside0.mk (Kd.R_below (pR_ HO16130.out) hb)
                replace BK16101 := Aside0.mk (blk_below (pB_ BK16101.out) hb)
                replace BK16102 := Aside0.mk (blk_below (pB_ BK16102.out) hb)
                replace BK16112 := Aside0.mk (blk_below (pB_ BK16112.out) hb)
                replace BK16132 := Aside0.mk (blk_below (pB_ BK16132.out) hb)
                replace BK16147 := Aside0.mk (blk_below (pB_ BK16147.out) hb)
                replace HB := Aside0.mk (below_step (pH_ HB.out) hb)
                clear hb ho55
                obtain ⟨Ao56, co56, eo56⟩ := Kd.R_slice HO16135.out
                subst eo56
                obtain ⟨ado56, fo56, _⟩ := Kd.at_string (Kd.R_reads' HO16135.out).2.2 0 (by decide) (by rw [Ny16133.out]; simp)
                cases fo56
                refine hK.out _ _ ⟨(blk_cell BK16112.out 0).trans rfl, (blk_cell BK16112.out 1).trans rfl, (blk_cell BK16112.out 2).trans rfl, (blk_cell BK16112.out 3).trans rfl, (blk_cell BK16112.out 4).trans rfl, (blk_cell BK16112.out 5).trans rfl⟩ (fun hHeld => ?_)
                clear hK K
                refine norm_ (a' := ?_) ?_ ?_
                rotate_left
                · show Act.put _ (some 41) _ = _
                  simp only [Act.put, List.setIfInBounds_toArray, List.set_cons_zero, List.set_cons_succ, i64_w, i32_w]
                  rfl
                refine pure_ (i := 5) (N := some 44) (v := ?_) (a' := ?_) #[true, true, true, true, true, true, false, false, false, false, false, false, true, false, false] rfl rfl (any_of HT_.out (by kernel_rfl)) (fun _ _ _ h => h) (Or.inl ⟨by rfl, ?_⟩) ?_ ?_
                rotate_left
                · intro w'
                  go_simp
                  with_reducible rfl
                rotate_left
                · simp only [Act.put, List.setIfInBounds_toArray, List.set_cons_zero, List.set_cons_succ, i64_w, i32_w]
                  rfl
                exact norm2_ (hJ2_4_12 (.slice (some ado56) y16133.length co56, ado56, gb16147) _ ⟨hHeld, (pR_ HO16111.out), (pR_ HO16120.out), (pR_ HO16130.out), (pR_ HO16135.out), ⟨_, rfl⟩, (pB_ BK16101.out), (pB_ BK16102.out), (pB_ BK16112.out), (pB_ BK16132.out), (pB_ BK16147.out), GW16147.out, GE16147.out, NB16101_16147.out, NB16147_16101.out, NB16102_16147.out, NB16147_16102.out, NB16112_16147.out, NB16147_16112.out, NB16132_16147.out, NB16147_16132.out, (pH_ HB.out)⟩)
              skip
              rintro ⟨v16134, adz_v16134, gb16147⟩ w56 ⟨hS_, h0_, h1_, h2_, h3_, h4_, h5_, h6_, h7_, h8_, h9_, h10_, h11_, h12_, h13_, h14_, h15_, h16_, h17_, h18_, h19_, h20_⟩
              have n0_ : Aside0 (Kd.R (Kd.int .i64) 3 w56 w.heap.size (fun _ => True) (.slice Ao33 t16109.length co33) t16109) := ⟨h0_⟩
              have n1_ : Aside0 (Kd.R k26 26 w56 w.heap.size (fun k_ => some k_ ≠ (.slice Ao48 t16128.length co48 : Value).ownBlock) (.slice Ao37 t16118.length co37) t16118) := ⟨h1_⟩
              have n2_ : Aside0 (Kd.R k26 26 w56 w.heap.size (fun k_ => some k_ ≠ (.slice Ao37 t16118.length co37 : Value).ownBlock) (.slice Ao48 t16128.length co48) t16128) := ⟨h2_⟩
              have n3_ : Aside0 (Kd.R Kd.string 9 w56 w.heap.size (fun _ => True) v16134 y16133) := ⟨h3_⟩
              have n4_ : Aside0 (∃ c_, (v16134 : Value) = .slice (some adz_v16134) y16133.length c_) := ⟨h4_⟩
              have n5_ : Aside0 (w56.heap[gb16101]? = some (.cells #[.int .i64 a0_0, .int .i64 a0_1, .int .i64 a0_2, .int .i64 a0_3, .int .i64 a0_4, .slice A0_5 l0_5.length c0_5] 24 (0, 0))) := ⟨h5_⟩
              have n6_ : Aside0 (w56.heap[gb16102]? = some (.cells #[.int .i64 a1_0, .int .i64 a1_1, .int .i64 a1_2, .int .i64 a1_3, .int .i64 a1_4, .slice A1_5 l1_5.length c1_5] 29 (0, 0))) := ⟨h6_⟩
              have n7_ : Aside0 (w56.heap[gb16112]? = some (.cells #[.int .i64 t16104, .int .i64 t16105, .int .i64 t16106, .int .i64 t16107, .int .i64 t16108, .slice Ao33 t16109.length co33] 24 (0, 0))) := ⟨h7_⟩
              have n8_ : Aside0 (w56.heap[gb16132]? = some (.cells #[.int .i64 t16123, .int .i64 t16124, .int .i64 t16125, .int .i64 t16126, .int .i64 t16127, .slice Ao48 t16128.length co48] 29 (0, 0))) := ⟨h8_⟩
              have n9_ : Aside0 (w56.heap[gb16147]? = some (.cells #[.int .i64 0, .int .i64 0, .int .i64 0, .int .i64 0, .int .i64 0, .slice none 0 0] 29 (0, 0))) := ⟨h9_⟩
              have n10_ : Aside0 (w.heap.size ≤ gb16147) := ⟨h10_⟩
              have n11_ : Aside0 (w.heap.size ≤ gb16147) := ⟨h11_⟩
              have n12_ : Aside0 (gb16101 ≠ gb16147) := ⟨h12_⟩
              have n13_ : Aside0 (gb16147 ≠ gb16101) := ⟨h13_⟩
              have n14_ : Aside0 (gb16102 ≠ gb16147) := ⟨h14_⟩
              have n15_ : Aside0 (gb16147 ≠ gb16102) := ⟨h15_⟩
              have n16_ : Aside0 (gb16112 ≠ gb16147) := ⟨h16_⟩
              have n17_ : Aside0 (gb16147 ≠ gb16112) := ⟨h17_⟩
              have n18_ : Aside0 (gb16132 ≠ gb16147) := ⟨h18_⟩
              have n19_ : Aside0 (gb16147 ≠ gb16132) := ⟨h19_⟩
              have n20_ : Aside0 (Below w.heap.size w w56) := ⟨h20_⟩
              clear HO16111
              clear HO16120
              clear HO16130
              clear BK16101
              clear BK16102
              clear BK16112
              clear BK16132
              clear HB
              clear h0_ h1_ h2_ h3_ h4_ h5_ h6_ h7_ h8_ h9_ h10_ h11_ h12_ h13_ h14_ h15_ h16_ h17_ h18_ h19_ h20_
              have HO16111 := n0_
              have HO16120 := n1_
              have HO16130 := n2_
              have HO16135 := n3_
              have HA_HO16135 := n4_
              have BK16101 := n5_
              have BK16102 := n6_
              have BK16112 := n7_
              have BK16132 := n8_
              have BK16147 := n9_
              have GW16147 := n10_
              have GE16147 := n11_
              have NB16101_16147 := n12_
              have NB16147_16101 := n13_
              have NB16102_16147 := n14_
              have NB16147_16102 := n15_
              have NB16112_16147 := n16_
              have NB16147_16112 := n17_
              have NB16132_16147 := n18_
              have NB16147_16132 := n19_
              have HB := n20_
              clear n0_ n1_ n2_ n3_ n4_ n5_ n6_ n7_ n8_ n9_ n10_ n11_ n12_ n13_ n14_ n15_ n16_ n17_ n18_ n19_ n20_
              have hHeld : w56.cell? ⟨gb16112, 0, none⟩ = some (.int .i64 t16104) ∧ w56.cell? ⟨gb16112, 1, none⟩ = some (.int .i64 t16105) ∧ w56.cell? ⟨gb16112, 2, none⟩ = some (.int .i64 t16106) ∧ w56.cell? ⟨gb16112, 3, none⟩ = some (.int .i64 t16107) ∧ w56.cell? ⟨gb16112, 4, none⟩ = some (.int .i64 t16108) ∧ w56.cell? ⟨gb16112, 5, none⟩ = some (.slice Ao33 t16109.length co33) := hS_
              obtain ⟨co57, eo57⟩ := HA_HO16135.out
              clear HA_HO16135
              subst eo57
              refine norm_ (a' := ?_) ?_ ?_
              rotate_left
              · simp only [putAll, Act.put, List.setIfInBounds_toArray, List.set_cons_zero, List.set_cons_succ]
                rfl
              refine one_ (i := 4) (N := some 43) #[true, true, true, true, true, false, false, false, false, false, false, false, true, false, false] rfl rfl (one_of HT_.out (by kernel_rfl)) (by decide) (fun K hK => ?_)
              refine goes_ Try.func24 (by kernel_rfl) rfl #[.int .i64 a4, .int .i64 4] (by rfl) rfl rfl (by (try simp only [List.map_toArray, List.map_cons, List.map_nil]); first | done | rfl | (simp only [List.length_drop, List.length_take]; rfl)) ?_
              with_reducible refine (plaitinglaw5_within.calls a4 4 t16136 _ A15.out).mono ?_
              rintro e w' ⟨rfl, ⟨nd, rfl⟩⟩
              refine ⟨_, rfl, ?_⟩
              refine hK.out _ _ ⟨(blk_cell BK16112.out 0).trans rfl, (blk_cell BK16112.out 1).trans rfl, (blk_cell BK16112.out 2).trans rfl, (blk_cell BK16112.out 3).trans rfl, (blk_cell BK16112.out 4).trans rfl, (blk_cell BK16112.out 5).trans rfl⟩ (fun hHeld => ?_)
              clear hK K
              refine norm_ (a' := ?_) ?_ ?_
              rotate_left
              · show Act.put _ (some 43) _ = _
                simp only [Act.put, List.setIfInBounds_toArray, List.set_cons_zero, List.set_cons_succ, i64_w, i32_w]
                rfl
              refine pure_ (i := 5) (N := some 44) (v := ?_) (a' := ?_) #[true, true, true, true, true, true, false, false, false, false, false, false, true, false, false] rfl rfl (any_of HT_.out (by kernel_rfl)) (fun _ _ _ h => h) (Or.inl ⟨by rfl, ?_⟩) ?_ ?_
              rotate_left
              · intro w'
                go_simp
                with_reducible rfl
              rotate_left
              · simp only [Act.put, List.setIfInBounds_toArray, List.set_cons_zero, List.set_cons_succ, i64_w, i32_w]
                rfl
              exact norm2_ (hJ2_4_12 (.slice (some adz_v16134) y16133.length co57, adz_v16134, gb16147) _ ⟨hHeld, (pR_ HO16111.out), (pR_ HO16120.out), (pR_ HO16130.out), (pR_ HO16135.out), ⟨_, rfl⟩, (pB_ BK16101.out), (pB_ BK16102.out), (pB_ BK16112.out), (pB_ BK16132.out), (pB_ BK16147.out), GW16147.out, GE16147.out, NB16101_16147.out, NB16147_16101.out, NB16102_16147.out, NB16147_16102.out, NB16112_16147.out, NB16147_16112.out, NB16132_16147.out, NB16147_16132.out, (pH_ HB.out)⟩)
            skip
            rintro ⟨v16134, adz_v16134⟩ w55 ⟨hS_, h0_, h1_, h2_, h3_, h4_, h5_, h6_, h7_, h8_, h9_⟩
            have n0_ : Aside0 (Kd.R (Kd.int .i64) 3 w55 w.heap.size (fun _ => True) (.slice Ao33 t16109.length co33) t16109) := ⟨h0_⟩
            have n1_ : Aside0 (Kd.R k26 26 w55 w.heap.size (fun k_ => some k_ ≠ (.slice Ao48 t16128.length co48 : Value).ownBlock) (.slice Ao37 t16118.length co37) t16118) := ⟨h1_⟩
            have n2_ : Aside0 (Kd.R k26 26 w55 w.heap.size (fun k_ => some k_ ≠ (.slice Ao37 t16118.length co37 : Value).ownBlock) (.slice Ao48 t16128.length co48) t16128) := ⟨h2_⟩
            have n3_ : Aside0 (Kd.R Kd.string 9 w55 w.heap.size (fun _ => True) v16134 y16133) := ⟨h3_⟩
            have n4_ : Aside0 (∃ c_, (v16134 : Value) = .slice (some adz_v16134) y16133.length c_) := ⟨h4_⟩
            have n5_ : Aside0 (w55.heap[gb16101]? = some (.cells #[.int .i64 a0_0, .int .i64 a0_1, .int .i64 a0_2, .int .i64 a0_3, .int .i64 a0_4, .slice A0_5 l0_5.length c0_5] 24 (0, 0))) := ⟨h5_⟩
            have n6_ : Aside0 (w55.heap[gb16102]? = some (.cells #[.int .i64 a1_0, .int .i64 a1_1, .int .i64 a1_2, .int .i64 a1_3, .int .i64 a1_4, .slice A1_5 l1_5.length c1_5] 29 (0, 0))) := ⟨h6_⟩
            have n7_ : Aside0 (w55.heap[gb16112]? = some (.cells #[.int .i64 t16104, .int .i64 t16105, .int .i64 t16106, .int .i64 t16107, .int .i64 t16108, .slice Ao33 t16109.length co33] 24 (0, 0))) := ⟨h7_⟩
            have n8_ : Aside0 (w55.heap[gb16132]? = some (.cells #[.int .i64 t16123, .int .i64 t16124, .int .i64 t16125, .int .i64 t16126, .int .i64 t16127, .slice Ao48 t16128.length co48] 29 (0, 0))) := ⟨h8_⟩
            have n9_ : Aside0 (Below w.heap.size w w55) := ⟨h9_⟩
            clear HO16111
            clear HO16120
            clear HO16130
            clear BK16101
            clear BK16102
            clear BK16112
            clear BK16132
            clear HB
            clear h0_ h1_ h2_ h3_ h4_ h5_ h6_ h7_ h8_ h9_
            have HO16111 := n0_
            have HO16120 := n1_
            have HO16130 := n2_
            have HO16135 := n3_
            have HA_HO16135 := n4_
            have BK16101 := n5_
            have BK16102 := n6_
            have BK16112 := n7_
            have BK16132 := n8_
            have HB := n9_
            clear n0_ n1_ n2_ n3_ n4_ n5_ n6_ n7_ n8_ n9_
            have hHeld : w55.cell? ⟨gb16112, 0, none⟩ = some (.int .i64 t16104) ∧ w55.cell? ⟨gb16112, 1, none⟩ = some (.int .i64 t16105) ∧ w55.cell? ⟨gb16112, 2, none⟩ = some (.int .i64 t16106) ∧ w55.cell? ⟨gb16112, 3, none⟩ = some (.int .i64 t16107) ∧ w55.cell? ⟨gb16112, 4, none⟩ = some (.int .i64 t16108) ∧ w55.cell? ⟨gb16112, 5, none⟩ = some (.slice Ao33 t16109.length co33) := hS_
            obtain ⟨co56, eo56⟩ := HA_HO16135.out
            clear HA_HO16135
            subst eo56
            refine norm_ (a' := ?_) ?_ ?_
            rotate_left
            · simp only [putAll, Act.put, List.setIfInBounds_toArray, List.set_cons_zero, List.set_cons_succ]
              rfl
            refine two_ (i := 6) (j := 12) (Ni := some 45) (Nj := some 15) #[true, true, true, true, true, true, true, false, false, false, false, false, false, false, false] #[true, true, true, true, true, true, false, false, false, false, false, false, true, false, false] rfl rfl rfl rfl (two_of HT_.out (by kernel_rfl)) (by decide) (by decide) (fun K hK => ?_) (fun K hK => ?_)
            · skip
              (have p16137 : 0 ≤ (t16136 : Int) := of_decide_eq_true (by first | (with_reducible assumption) | assumption); have q16137 : t16136 < (y16133.length : Int) := of_decide_eq_true (by first | (with_reducible assumption) | assumption); obtain ⟨ad16137, e16137, hx16137_0⟩ := Kd.at_string (Kd.R_reads' HO16135.out).2.2 t16136 p16137 q16137; obtain rfl : adz_v16134 = ad16137 := (by injection e16137))
              refine value_ (w1 := ?_) (v := ?_) (by rfl) rfl ?_ ?_
              rotate_left 2
              · go_simp
                constructor
                · rfl
                rfl
              clear hx16137_0
              refine hK.out _ _ ⟨(blk_cell BK16112.out 0).trans rfl, (blk_cell BK16112.out 1).trans rfl, (blk_cell BK16112.out 2).trans rfl, (blk_cell BK16112.out 3).trans rfl, (blk_cell BK16112.out 4).trans rfl, (blk_cell BK16112.out 5).trans rfl⟩ (fun hHeld => ?_)
              clear hK K
              refine norm_ (a' := ?_) ?_ ?_
              rotate_left
              · show Act.put _ (some 45) _ = _
                simp only [Act.put, List.setIfInBounds_toArray, List.set_cons_zero, List.set_cons_succ, i64_w, i32_w]
                rfl
              refine pure_ (i := 7) (N := some 46) (v := ?_) (a' := ?_) #[true, true, true, true, true, true, true, true, false, false, false, false, false, false, false] rfl rfl (any_of HT_.out (by kernel_rfl)) (fun _ _ _ h => h) (Or.inl ⟨by rfl, ?_⟩) ?_ ?_
              rotate_left
              · intro w'
                go_simp
                with_reducible rfl
              rotate_left
              · simp only [Act.put, List.setIfInBounds_toArray, List.set_cons_zero, List.set_cons_succ, i64_w, i32_w]
                rfl
              exact norm2_ (hJ2_4_6 (.slice (some adz_v16134) y16133.length co56, adz_v16134) _ ⟨hHeld, (pR_ HO16111.out), (pR_ HO16120.out), (pR_ HO16130.out), (pR_ HO16135.out), ⟨_, rfl⟩, (pB_ BK16101.out), (pB_ BK16102.out), (pB_ BK16112.out), (pB_ BK16132.out), (pH_ HB.out)⟩)
            skip
            refine box_step ?hg (N := 15) ?hd (cs := #[.int .i64 0, .int .i64 0, .int .i64 0, .int .i64 0, .int .i64 0, .slice none 0 0]) (t := 29) ?hr ?_; (case hd => rfl); (case hg => rfl); (case hr => first | (go_simp; done) | (go_simp; rfl))
            intro gb16147 hg w57 hbox hb
            have BK16147 := Aside0.mk (hbox)
            have GW16147 := Aside0.mk ((by rw [hg]; exact (below_size (pH_ HB.out)) : w.heap.size ≤ gb16147))
            have GE16147 := Aside0.mk ((by rw [hg]; exact (below_size (pH_ HB.out)) : w.heap.size ≤ gb16147))
            have NB16101_16147 := Aside0.mk (ltB_ hg BK16101.out)
            have NB16147_16101 := Aside0.mk (ltB_ hg BK16101.out).symm
            have NB16102_16147 := Aside0.mk (ltB_ hg BK16102.out)
            have NB16147_16102 := Aside0.mk (ltB_ hg BK16102.out).symm
            have NB16112_16147 := Aside0.mk (ltB_ hg BK16112.out)
            have NB16147_16112 := Aside0.mk (ltB_ hg BK16112.out).symm
            have NB16132_16147 := Aside0.mk (ltB_ hg BK16132.out)
            have NB16147_16132 := Aside0.mk (ltB_ hg BK16132.out).symm
            replace HO16111 := Aside0.mk (Kd.R_below (pR_ HO16111.out) hb)
            replace HO16120 := Aside0.mk (Kd.R_below (pR_ HO16120.out) hb)
            replace HO16130 := Aside0.mk (Kd.R_below (pR_ HO16130.out) hb)
            replace HO16135 := Aside0.mk (Kd.R_below (pR_ HO16135.out) hb)
            replace BK16101 := Aside0.mk (blk_below (pB_ BK16101.out) hb)
            replace BK16102 := Aside0.mk (blk_below (pB_ BK16102.out) hb)
            replace BK16112 := Aside0.mk (blk_below (pB_ BK16112.out) hb)
            replace BK16132 := Aside0.mk (blk_below (pB_ BK16132.out) hb)
            replace HB := Aside0.mk (below_step (pH_ HB.out) hb)
            clear hb hbox hg
            refine hK.out _ _ ⟨(blk_cell BK16112.out 0).trans rfl, (blk_cell BK16112.out 1).trans rfl, (blk_cell BK16112.out 2).trans rfl, (blk_cell BK16112.out 3).trans rfl, (blk_cell BK16112.out 4).trans rfl, (blk_cell BK16112.out 5).trans rfl⟩ (fun hHeld => ?_)
            clear hK K
            refine norm_ (a' := ?_) ?_ ?_
            rotate_left
            · show Act.put _ (some 15) _ = _
              simp only [Act.put, List.setIfInBounds_toArray, List.set_cons_zero, List.set_cons_succ, i64_w, i32_w]
              rfl
            exact norm2_ (hJ2_4_12 (.slice (some adz_v16134) y16133.length co56, adz_v16134, gb16147) _ ⟨hHeld, (pR_ HO16111.out), (pR_ HO16120.out), (pR_ HO16130.out), (pR_ HO16135.out), ⟨_, rfl⟩, (pB_ BK16101.out), (pB_ BK16102.out), (pB_ BK16112.out), (pB_ BK16132.out), (pB_ BK16147.out), GW16147.out, GE16147.out, NB16101_16147.out, NB16147_16101.out, NB16102_16147.out, NB16147_16102.out, NB16112_16147.out, NB16147_16112.out, NB16132_16147.out, NB16147_16132.out, (pH_ HB.out)⟩)
          skip
          rintro ⟨v16134, adz_v16134, gb16147⟩ w56 ⟨hS_, h0_, h1_, h2_, h3_, h4_, h5_, h6_, h7_, h8_, h9_, h10_, h11_, h12_, h13_, h14_, h15_, h16_, h17_, h18_, h19_, h20_⟩
          have n0_ : Aside0 (Kd.R (Kd.int .i64) 3 w56 w.heap.size (fun _ => True) (.slice Ao33 t16109.length co33) t16109) := ⟨h0_⟩
          have n1_ : Aside0 (Kd.R k26 26 w56 w.heap.size (fun k_ => some k_ ≠ (.slice Ao48 t16128.length co48 : Value).ownBlock) (.slice Ao37 t16118.length co37) t16118) := ⟨h1_⟩
          have n2_ : Aside0 (Kd.R k26 26 w56 w.heap.size (fun k_ => some k_ ≠ (.slice Ao37 t16118.length co37 : Value).ownBlock) (.slice Ao48 t16128.length co48) t16128) := ⟨h2_⟩
          have n3_ : Aside0 (Kd.R Kd.string 9 w56 w.heap.size (fun _ => True) v16134 y16133) := ⟨h3_⟩
          have n4_ : Aside0 (∃ c_, (v16134 : Value) = .slice (some adz_v16134) y16133.length c_) := ⟨h4_⟩
          have n5_ : Aside0 (w56.heap[gb16101]? = some (.cells #[.int .i64 a0_0, .int .i64 a0_1, .int .i64 a0_2, .int .i64 a0_3, .int .i64 a0_4, .slice A0_5 l0_5.length c0_5] 24 (0, 0))) := ⟨h5_⟩
          have n6_ : Aside0 (w56.heap[gb16102]? = some (.cells #[.int .i64 a1_0, .int .i64 a1_1, .int .i64 a1_2, .int .i64 a1_3, .int .i64 a1_4, .slice A1_5 l1_5.length c1_5] 29 (0, 0))) := ⟨h6_⟩
          have n7_ : Aside0 (w56.heap[gb16112]? = some (.cells #[.int .i64 t16104, .int .i64 t16105, .int .i64 t16106, .int .i64 t16107, .int .i64 t16108, .slice Ao33 t16109.length co33] 24 (0, 0))) := ⟨h7_⟩
          have n8_ : Aside0 (w56.heap[gb16132]? = some (.cells #[.int .i64 t16123, .int .i64 t16124, .int .i64 t16125, .int .i64 t16126, .int .i64 t16127, .slice Ao48 t16128.length co48] 29 (0, 0))) := ⟨h8_⟩
          have n9_ : Aside0 (w56.heap[gb16147]? = some (.cells #[.int .i64 0, .int .i64 0, .int .i64 0, .int .i64 0, .int .i64 0, .slice none 0 0] 29 (0, 0))) := ⟨h9_⟩
          have n10_ : Aside0 (w.heap.size ≤ gb16147) := ⟨h10_⟩
          have n11_ : Aside0 (w.heap.size ≤ gb16147) := ⟨h11_⟩
          have n12_ : Aside0 (gb16101 ≠ gb16147) := ⟨h12_⟩
          have n13_ : Aside0 (gb16147 ≠ gb16101) := ⟨h13_⟩
          have n14_ : Aside0 (gb16102 ≠ gb16147) := ⟨h14_⟩
          have n15_ : Aside0 (gb16147 ≠ gb16102) := ⟨h15_⟩
          have n16_ : Aside0 (gb16112 ≠ gb16147) := ⟨h16_⟩
          have n17_ : Aside0 (gb16147 ≠ gb16112) := ⟨h17_⟩
          have n18_ : Aside0 (gb16132 ≠ gb16147) := ⟨h18_⟩
          have n19_ : Aside0 (gb16147 ≠ gb16132) := ⟨h19_⟩
          have n20_ : Aside0 (Below w.heap.size w w56) := ⟨h20_⟩
          clear HO16111
          clear HO16120
          clear HO16130
          clear BK16101
          clear BK16102
          clear BK16112
          clear BK16132
          clear HB
          clear h0_ h1_ h2_ h3_ h4_ h5_ h6_ h7_ h8_ h9_ h10_ h11_ h12_ h13_ h14_ h15_ h16_ h17_ h18_ h19_ h20_
          have HO16111 := n0_
          have HO16120 := n1_
          have HO16130 := n2_
          have HO16135 := n3_
          have HA_HO16135 := n4_
          have BK16101 := n5_
          have BK16102 := n6_
          have BK16112 := n7_
          have BK16132 := n8_
          have BK16147 := n9_
          have GW16147 := n10_
          have GE16147 := n11_
          have NB16101_16147 := n12_
          have NB16147_16101 := n13_
          have NB16102_16147 := n14_
          have NB16147_16102 := n15_
          have NB16112_16147 := n16_
          have NB16147_16112 := n17_
          have NB16132_16147 := n18_
          have NB16147_16132 := n19_
          have HB := n20_
          clear n0_ n1_ n2_ n3_ n4_ n5_ n6_ n7_ n8_ n9_ n10_ n11_ n12_ n13_ n14_ n15_ n16_ n17_ n18_ n19_ n20_
          have hHeld : w56.cell? ⟨gb16112, 0, none⟩ = some (.int .i64 t16104) ∧ w56.cell? ⟨gb16112, 1, none⟩ = some (.int .i64 t16105) ∧ w56.cell? ⟨gb16112, 2, none⟩ = some (.int .i64 t16106) ∧ w56.cell? ⟨gb16112, 3, none⟩ = some (.int .i64 t16107) ∧ w56.cell? ⟨gb16112, 4, none⟩ = some (.int .i64 t16108) ∧ w56.cell? ⟨gb16112, 5, none⟩ = some (.slice Ao33 t16109.length co33) := hS_
          obtain ⟨co57, eo57⟩ := HA_HO16135.out
          clear HA_HO16135
          subst eo57
          refine norm_ (a' := ?_) ?_ ?_
          rotate_left
          · simp only [putAll, Act.put, List.setIfInBounds_toArray, List.set_cons_zero, List.set_cons_succ]
            rfl
          refine one_ (i := 6) (N := some 45) #[true, true, true, true, true, true, true, false, false, false, false, false, true, false, false] rfl rfl (one_of HT_.out (by kernel_rfl)) (by decide) (fun K hK => ?_)
          (have p16137 : 0 ≤ (t16136 : Int) := of_decide_eq_true (by first | (with_reducible assumption) | assumption); have q16137 : t16136 < (y16133.length : Int) := of_decide_eq_true (by first | (with_reducible assumption) | assumption); obtain ⟨ad16137, e16137, hx16137_0⟩ := Kd.at_string (Kd.R_reads' HO16135.out).2.2 t16136 p16137 q16137; obtain rfl : adz_v16134 = ad16137 := (by injection e16137))
          refine value_ (w1 := ?_) (v := ?_) (by rfl) rfl ?_ ?_
          rotate_left 2
          · go_simp
            constructor
            · rfl
            rfl
          clear hx16137_0
          refine hK.out _ _ ⟨(blk_cell BK16112.out 0).trans rfl, (blk_cell BK16112.out 1).trans rfl, (blk_cell BK16112.out 2).trans rfl, (blk_cell BK16112.out 3).trans rfl, (blk_cell BK16112.out 4).trans rfl, (blk_cell BK16112.out 5).trans rfl⟩ (fun hHeld => ?_)
          clear hK K
          refine norm_ (a' := ?_) ?_ ?_
          rotate_left
          · show Act.put _ (some 45) _ = _
            simp only [Act.put, List.setIfInBounds_toArray, List.set_cons_zero, List.set_cons_succ, i64_w, i32_w]
            rfl
          refine pure_ (i := 7) (N := some 46) (v := ?_) (a' := ?_) #[true, true, true, true, true, true, true, true, false, false, false, false, true, false, false] rfl rfl (any_of HT_.out (by kernel_rfl)) (fun _ _ _ h => h) (Or.inl ⟨by rfl, ?_⟩) ?_ ?_
          rotate_left
          · intro w'
            go_simp
            with_reducible rfl
          rotate_left
          · simp only [Act.put, List.setIfInBounds_toArray, List.set_cons_zero, List.set_cons_succ, i64_w, i32_w]
            rfl
          exact norm2_ (hJ2_4_6_12 (.slice (some adz_v16134) y16133.length co57, adz_v16134, gb16147) _ ⟨hHeld, (pR_ HO16111.out), (pR_ HO16120.out), (pR_ HO16130.out), (pR_ HO16135.out), ⟨_, rfl⟩, (pB_ BK16101.out), (pB_ BK16102.out), (pB_ BK16112.out), (pB_ BK16132.out), (pB_ BK16147.out), GW16147.out, GE16147.out, NB16101_16147.out, NB16147_16101.out, NB16102_16147.out, NB16147_16102.out, NB16112_16147.out, NB16147_16112.out, NB16132_16147.out, NB16147_16132.out, (pH_ HB.out)⟩)
        skip
        rintro ⟨v16134, adz_v16134⟩ w55 ⟨hS_, h0_, h1_, h2_, h3_, h4_, h5_, h6_, h7_, h8_, h9_⟩
        have n0_ : Aside0 (Kd.R (Kd.int .i64) 3 w55 w.heap.size (fun _ => True) (.slice Ao33 t16109.length co33) t16109) := ⟨h0_⟩
        have n1_ : Aside0 (Kd.R k26 26 w55 w.heap.size (fun k_ => some k_ ≠ (.slice Ao48 t16128.length co48 : Value).ownBlock) (.slice Ao37 t16118.length co37) t16118) := ⟨h1_⟩
        have n2_ : Aside0 (Kd.R k26 26 w55 w.heap.size (fun k_ => some k_ ≠ (.slice Ao37 t16118.length co37 : Value).ownBlock) (.slice Ao48 t16128.length co48) t16128) := ⟨h2_⟩
        have n3_ : Aside0 (Kd.R Kd.string 9 w55 w.heap.size (fun _ => True) v16134 y16133) := ⟨h3_⟩
        have n4_ : Aside0 (∃ c_, (v16134 : Value) = .slice (some adz_v16134) y16133.length c_) := ⟨h4_⟩
        have n5_ : Aside0 (w55.heap[gb16101]? = some (.cells #[.int .i64 a0_0, .int .i64 a0_1, .int .i64 a0_2, .int .i64 a0_3, .int .i64 a0_4, .slice A0_5 l0_5.length c0_5] 24 (0, 0))) := ⟨h5_⟩
        have n6_ : Aside0 (w55.heap[gb16102]? = some (.cells #[.int .i64 a1_0, .int .i64 a1_1, .int .i64 a1_2, .int .i64 a1_3, .int .i64 a1_4, .slice A1_5 l1_5.length c1_5] 29 (0, 0))) := ⟨h6_⟩
        have n7_ : Aside0 (w55.heap[gb16112]? = some (.cells #[.int .i64 t16104, .int .i64 t16105, .int .i64 t16106, .int .i64 t16107, .int .i64 t16108, .slice Ao33 t16109.length co33] 24 (0, 0))) := ⟨h7_⟩
        have n8_ : Aside0 (w55.heap[gb16132]? = some (.cells #[.int .i64 t16123, .int .i64 t16124, .int .i64 t16125, .int .i64 t16126, .int .i64 t16127, .slice Ao48 t16128.length co48] 29 (0, 0))) := ⟨h8_⟩
        have n9_ : Aside0 (Below w.heap.size w w55) := ⟨h9_⟩
        clear HO16111
        clear HO16120
        clear HO16130
        clear BK16101
        clear BK16102
        clear BK16112
        clear BK16132
        clear HB
        clear h0_ h1_ h2_ h3_ h4_ h5_ h6_ h7_ h8_ h9_
        have HO16111 := n0_
        have HO16120 := n1_
        have HO16130 := n2_
        have HO16135 := n3_
        have HA_HO16135 := n4_
        have BK16101 := n5_
        have BK16102 := n6_
        have BK16112 := n7_
        have BK16132 := n8_
        have HB := n9_
        clear n0_ n1_ n2_ n3_ n4_ n5_ n6_ n7_ n8_ n9_
        have hHeld : w55.cell? ⟨gb16112, 0, none⟩ = some (.int .i64 t16104) ∧ w55.cell? ⟨gb16112, 1, none⟩ = some (.int .i64 t16105) ∧ w55.cell? ⟨gb16112, 2, none⟩ = some (.int .i64 t16106) ∧ w55.cell? ⟨gb16112, 3, none⟩ = some (.int .i64 t16107) ∧ w55.cell? ⟨gb16112, 4, none⟩ = some (.int .i64 t16108) ∧ w55.cell? ⟨gb16112, 5, none⟩ = some (.slice Ao33 t16109.length co33) := hS_
        obtain ⟨co56, eo56⟩ := HA_HO16135.out
        clear HA_HO16135
        subst eo56
        refine norm_ (a' := ?_) ?_ ?_
        rotate_left
        · simp only [putAll, Act.put, List.setIfInBounds_toArray, List.set_cons_zero, List.set_cons_succ]
          rfl
        refine two_ (i := 8) (j := 12) (Ni := some 47) (Nj := some 15) #[true, true, true, true, true, true, true, true, true, false, false, false, false, false, false] #[true, true, true, true, true, true, true, true, false, false, false, false, true, false, false] rfl rfl rfl rfl (two_of HT_.out (by kernel_rfl)) (by decide) (by decide) (fun K hK => ?_) (fun K hK => ?_)
        · skip
          refine goes_ Try.func35 (by kernel_rfl) rfl #[.agg #[.int .i64 t16104, .int .i64 t16105, .int .i64 t16106, .int .i64 t16107, .int .i64 t16108, .slice Ao33 t16109.length co33], .string (t16121 ++ (rdOf ByteArray.empty y16133 t16136))] (by rfl) rfl rfl (by (try simp only [List.map_toArray, List.map_cons, List.map_nil]); first | done | rfl | (simp only [List.length_drop, List.length_take]; rfl)) ?_
          with_reducible refine (frame_Read.calls t16104 t16105 t16106 t16107 t16108 _ _ t16109 (t16121 ++ (rdOf ByteArray.empty y16133 t16136)) t16138 t16139 t16140 t16141 t16142 t16143 t16146 _ ?side1 ?side2 A19.out).mono ?_
          (case side1 => repeat (first | exact (Kd.R_reads' HO16111.out).2.2 | (with_reducible refine Kd.C_alloc ?_ _) | (with_reducible refine Kd.C_drewN ?_ _) | (with_reducible refine Kd.C_drew ?_)))
          (case side2 => exact (Kd.R_reads' HO16111.out).2.1)
          rintro e w57 ⟨v16144, rfl, ho0, hb⟩
          refine ⟨_, rfl, ?_⟩
          have HO16145 := Aside0.mk (Kd.R_lower (Kd.R_new' (Kd.R_new' ho0 (Kd.R_lt (pR_ HO16120.out))) (Kd.R_lt (pR_ HO16130.out))) (below_size (pH_ HB.out)))
          replace HO16111 := Aside0.mk (Kd.R_below (pR_ HO16111.out) hb)
          replace HO16120 := Aside0.mk (Kd.R_elder' (pR_ HO16120.out) (Kd.R_base ho0) hb)
          replace HO16130 := Aside0.mk (Kd.R_elder' (pR_ HO16130.out) (Kd.R_base ho0) hb)
          replace HO16135 := Aside0.mk (Kd.R_below (pR_ HO16135.out) hb)
          replace BK16101 := Aside0.mk (blk_below (pB_ BK16101.out) hb)
          replace BK16102 := Aside0.mk (blk_below (pB_ BK16102.out) hb)
          replace BK16112 := Aside0.mk (blk_below (pB_ BK16112.out) hb)
          replace BK16132 := Aside0.mk (blk_below (pB_ BK16132.out) hb)
          replace HB := Aside0.mk (below_step (pH_ HB.out) hb)
          (try clear hb)
          (try clear hb2)
          (try clear hk)
          (try clear hi)
          (try clear ho0)
          refine hK.out _ _ ⟨(blk_cell BK16112.out 0).trans rfl, (blk_cell BK16112.out 1).trans rfl, (blk_cell BK16112.out 2).trans rfl, (blk_cell BK16112.out 3).trans rfl, (blk_cell BK16112.out 4).trans rfl, (blk_cell BK16112.out 5).trans rfl⟩ (fun hHeld => ?_)
          clear hK K
          refine norm_ (a' := ?_) ?_ ?_
          rotate_left
          · show Act.put _ (some 47) _ = _
            simp only [Act.put, List.setIfInBounds_toArray, List.set_cons_zero, List.set_cons_succ, i64_w, i32_w]
            rfl
          refine pure_ (i := 9) (N := some 38) (v := ?_) (a' := ?_) #[true, true, true, true, true, true, true, true, true, true, false, false, false, false, false] rfl rfl (any_of HT_.out (by kernel_rfl)) (fun _ _ _ h => h) (Or.inl ⟨by rfl, ?_⟩) ?_ ?_
          rotate_left
          · intro w'
            go_simp
            with_reducible rfl
          rotate_left
          · simp only [Act.put, List.setIfInBounds_toArray, List.set_cons_zero, List.set_cons_succ, i64_w, i32_w]
            rfl
          refine pure_ (i := 10) (N := some 48) (v := ?_) (a' := ?_) #[true, true, true, true, true, true, true, true, true, true, true, false, false, false, false] rfl rfl (any_of HT_.out (by kernel_rfl)) (fun _ _ _ h => h) (Or.inl ⟨by rfl, ?_⟩) ?_ ?_
          rotate_left
          · intro w'
            go_simp
            with_reducible rfl
          rotate_left
          · simp only [Act.put, List.setIfInBounds_toArray, List.set_cons_zero, List.set_cons_succ, i64_w, i32_w]
            rfl
          refine pure_ (i := 11) (N := some 49) (v := ?_) (a' := ?_) #[true, true, true, true, true, true, true, true, true, true, true, true, false, false, false] rfl rfl (any_of HT_.out (by kernel_rfl)) (fun _ _ _ h => h) (Or.inl ⟨by rfl, ?_⟩) ?_ ?_
          rotate_left
          · intro w'
            go_simp
            with_reducible rfl
          rotate_left
          · simp only [Act.put, List.setIfInBounds_toArray, List.set_cons_zero, List.set_cons_succ, i64_w, i32_w]
            rfl
          exact norm2_ (hJ2_4_6_8 (.slice (some adz_v16134) y16133.length co56, adz_v16134, v16144) _ ⟨hHeld, (pR_ HO16111.out), (pR_ HO16120.out), (pR_ HO16130.out), (pR_ HO16135.out), (by (with_reducible repeat (first | apply Kd.R_alloc | apply Kd.R_drewN | apply Kd.R_drew)); exact Kd.R_mono HO16145.out (fun _ hk => ⟨hk.1.2, hk.2⟩)), ⟨_, rfl⟩, (pB_ BK16101.out), (pB_ BK16102.out), (pB_ BK16112.out), (pB_ BK16132.out), (pH_ HB.out)⟩)
        skip
        refine box_step ?hg (N := 15) ?hd (cs := #[.int .i64 0, .int .i64 0, .int .i64 0, .int .i64 0, .int .i64 0, .slice none 0 0]) (t := 29) ?hr ?_; (case hd => rfl); (case hg => rfl); (case hr => first | (go_simp; done) | (go_simp; rfl))
        intro gb16147 hg w57 hbox hb
        have BK16147 := Aside0.mk (hbox)
        have GW16147 := Aside0.mk ((by rw [hg]; exact (below_size (pH_ HB.out)) : w.heap.size ≤ gb16147))
        have GE16147 := Aside0.mk ((by rw [hg]; exact (below_size (pH_ HB.out)) : w.heap.size ≤ gb16147))
        have NB16101_16147 := Aside0.mk (ltB_ hg BK16101.out)
        have NB16147_16101 := Aside0.mk (ltB_ hg BK16101.out).symm
        have NB16102_16147 := Aside0.mk (ltB_ hg BK16102.out)
        have NB16147_16102 := Aside0.mk (ltB_ hg BK16102.out).symm
        have NB16112_16147 := Aside0.mk (ltB_ hg BK16112.out)
        have NB16147_16112 := Aside0.mk (ltB_ hg BK16112.out).symm
        have NB16132_16147 := Aside0.mk (ltB_ hg BK16132.out)
        have NB16147_16132 := Aside0.mk (ltB_ hg BK16132.out).symm
        replace HO16111 := Aside0.mk (Kd.R_below (pR_ HO16111.out) hb)
        replace HO16120 := Aside0.mk (Kd.R_below (pR_ HO16120.out) hb)
        replace HO16130 := Aside0.mk (Kd.R_below (pR_ HO16130.out) hb)
        replace HO16135 := Aside0.mk (Kd.R_below (pR_ HO16135.out) hb)
        replace BK16101 := Aside0.mk (blk_below (pB_ BK16101.out) hb)
        replace BK16102 := Aside0.mk (blk_below (pB_ BK16102.out) hb)
        replace BK16112 := Aside0.mk (blk_below (pB_ BK16112.out) hb)
        replace BK16132 := Aside0.mk (blk_below (pB_ BK16132.out) hb)
        replace HB := Aside0.mk (below_step (pH_ HB.out) hb)
        clear hb hbox hg
        refine hK.out _ _ ⟨(blk_cell BK16112.out 0).trans rfl, (blk_cell BK16112.out 1).trans rfl, (blk_cell BK16112.out 2).trans rfl, (blk_cell BK16112.out 3).trans rfl, (blk_cell BK16112.out 4).trans rfl, (blk_cell BK16112.out 5).trans rfl⟩ (fun hHeld => ?_)
        clear hK K
        refine norm_ (a' := ?_) ?_ ?_
        rotate_left
        · show Act.put _ (some 15) _ = _
          simp only [Act.put, List.setIfInBounds_toArray, List.set_cons_zero, List.set_cons_succ, i64_w, i32_w]
          rfl
        exact norm2_ (hJ2_4_6_12 (.slice (some adz_v16134) y16133.length co56, adz_v16134, gb16147) _ ⟨hHeld, (pR_ HO16111.out), (pR_ HO16120.out), (pR_ HO16130.out), (pR_ HO16135.out), ⟨_, rfl⟩, (pB_ BK16101.out), (pB_ BK16102.out), (pB_ BK16112.out), (pB_ BK16132.out), (pB_ BK16147.out), GW16147.out, GE16147.out, NB16101_16147.out, NB16147_16101.out, NB16102_16147.out, NB16147_16102.out, NB16112_16147.out, NB16147_16112.out, NB16132_16147.out, NB16147_16132.out, (pH_ HB.out)⟩)
      skip
      rintro ⟨v16134, adz_v16134, gb16147⟩ w56 ⟨hS_, h0_, h1_, h2_, h3_, h4_, h5_, h6_, h7_, h8_, h9_, h10_, h11_, h12_, h13_, h14_, h15_, h16_, h17_, h18_, h19_, h20_⟩
      have n0_ : Aside0 (Kd.R (Kd.int .i64) 3 w56 w.heap.size (fun _ => True) (.slice Ao33 t16109.length co33) t16109) := ⟨h0_⟩
      have n1_ : Aside0 (Kd.R k26 26 w56 w.heap.size (fun k_ => some k_ ≠ (.slice Ao48 t16128.length co48 : Value).ownBlock) (.slice Ao37 t16118.length co37) t16118) := ⟨h1_⟩
      have n2_ : Aside0 (Kd.R k26 26 w56 w.heap.size (fun k_ => some k_ ≠ (.slice Ao37 t16118.length co37 : Value).ownBlock) (.slice Ao48 t16128.length co48) t16128) := ⟨h2_⟩
      have n3_ : Aside0 (Kd.R Kd.string 9 w56 w.heap.size (fun _ => True) v16134 y16133) := ⟨h3_⟩
      have n4_ : Aside0 (∃ c_, (v16134 : Value) = .slice (some adz_v16134) y16133.length c_) := ⟨h4_⟩
      have n5_ : Aside0 (w56.heap[gb16101]? = some (.cells #[.int .i64 a0_0, .int .i64 a0_1, .int .i64 a0_2, .int .i64 a0_3, .int .i64 a0_4, .slice A0_5 l0_5.length c0_5] 24 (0, 0))) := ⟨h5_⟩
      have n6_ : Aside0 (w56.heap[gb16102]? = some (.cells #[.int .i64 a1_0, .int .i64 a1_1, .int .i64 a1_2, .int .i64 a1_3, .int .i64 a1_4, .slice A1_5 l1_5.length c1_5] 29 (0, 0))) := ⟨h6_⟩
      have n7_ : Aside0 (w56.heap[gb16112]? = some (.cells #[.int .i64 t16104, .int .i64 t16105, .int .i64 t16106, .int .i64 t16107, .int .i64 t16108, .slice Ao33 t16109.length co33] 24 (0, 0))) := ⟨h7_⟩
      have n8_ : Aside0 (w56.heap[gb16132]? = some (.cells #[.int .i64 t16123, .int .i64 t16124, .int .i64 t16125, .int .i64 t16126, .int .i64 t16127, .slice Ao48 t16128.length co48] 29 (0, 0))) := ⟨h8_⟩
      have n9_ : Aside0 (w56.heap[gb16147]? = some (.cells #[.int .i64 0, .int .i64 0, .int .i64 0, .int .i64 0, .int .i64 0, .slice none 0 0] 29 (0, 0))) := ⟨h9_⟩
      have n10_ : Aside0 (w.heap.size ≤ gb16147) := ⟨h10_⟩
      have n11_ : Aside0 (w.heap.size ≤ gb16147) := ⟨h11_⟩
      have n12_ : Aside0 (gb16101 ≠ gb16147) := ⟨h12_⟩
      have n13_ : Aside0 (gb16147 ≠ gb16101) := ⟨h13_⟩
      have n14_ : Aside0 (gb16102 ≠ gb16147) := ⟨h14_⟩
      have n15_ : Aside0 (gb16147 ≠ gb16102) := ⟨h15_⟩
      have n16_ : Aside0 (gb16112 ≠ gb16147) := ⟨h16_⟩
      have n17_ : Aside0 (gb16147 ≠ gb16112) := ⟨h17_⟩
      have n18_ : Aside0 (gb16132 ≠ gb16147) := ⟨h18_⟩
      have n19_ : Aside0 (gb16147 ≠ gb16132) := ⟨h19_⟩
      have n20_ : Aside0 (Below w.heap.size w w56) := ⟨h20_⟩
      clear HO16111
      clear HO16120
      clear HO16130
      clear BK16101
      clear BK16102
      clear BK16112
      clear BK16132
      clear HB
      clear h0_ h1_ h2_ h3_ h4_ h5_ h6_ h7_ h8_ h9_ h10_ h11_ h12_ h13_ h14_ h15_ h16_ h17_ h18_ h19_ h20_
      have HO16111 := n0_
      have HO16120 := n1_
      have HO16130 := n2_
      have HO16135 := n3_
      have HA_HO16135 := n4_
      have BK16101 := n5_
      have BK16102 := n6_
      have BK16112 := n7_
      have BK16132 := n8_
      have BK16147 := n9_
      have GW16147 := n10_
      have GE16147 := n11_
      have NB16101_16147 := n12_
      have NB16147_16101 := n13_
      have NB16102_16147 := n14_
      have NB16147_16102 := n15_
      have NB16112_16147 := n16_
      have NB16147_16112 := n17_
      have NB16132_16147 := n18_
      have NB16147_16132 := n19_
      have HB := n20_
      clear n0_ n1_ n2_ n3_ n4_ n5_ n6_ n7_ n8_ n9_ n10_ n11_ n12_ n13_ n14_ n15_ n16_ n17_ n18_ n19_ n20_
      have hHeld : w56.cell? ⟨gb16112, 0, none⟩ = some (.int .i64 t16104) ∧ w56.cell? ⟨gb16112, 1, none⟩ = some (.int .i64 t16105) ∧ w56.cell? ⟨gb16112, 2, none⟩ = some (.int .i64 t16106) ∧ w56.cell? ⟨gb16112, 3, none⟩ = some (.int .i64 t16107) ∧ w56.cell? ⟨gb16112, 4, none⟩ = some (.int .i64 t16108) ∧ w56.cell? ⟨gb16112, 5, none⟩ = some (.slice Ao33 t16109.length co33) := hS_
      obtain ⟨co57, eo57⟩ := HA_HO16135.out
      clear HA_HO16135
      subst eo57
      refine norm_ (a' := ?_) ?_ ?_
      rotate_left
      · simp only [putAll, Act.put, List.setIfInBounds_toArray, List.set_cons_zero, List.set_cons_succ]
        rfl
      refine one_ (i := 8) (N := some 47) #[true, true, true, true, true, true, true, true, true, false, false, false, true, false, false] rfl rfl (one_of HT_.out (by kernel_rfl)) (by decide) (fun K hK => ?_)
      refine goes_ Try.func35 (by kernel_rfl) rfl #[.agg #[.int .i64 t16104, .int .i64 t16105, .int .i64 t16106, .int .i64 t16107, .int .i64 t16108, .slice Ao33 t16109.length co33], .string (t16121 ++ (rdOf ByteArray.empty y16133 t16136))] (by rfl) rfl rfl (by (try simp only [List.map_toArray, List.map_cons, List.map_nil]); first | done | rfl | (simp only [List.length_drop, List.length_take]; rfl)) ?_
      with_reducible refine (frame_Read.calls t16104 t16105 t16106 t16107 t16108 _ _ t16109 (t16121 ++ (rdOf ByteArray.empty y16133 t16136)) t16138 t16139 t16140 t16141 t16142 t16143 t16146 _ ?side1 ?side2 A19.out).mono ?_
      (case side1 => repeat (first | exact (Kd.R_reads' HO16111.out).2.2 | (with_reducible refine Kd.C_alloc ?_ _) | (with_reducible refine Kd.C_drewN ?_ _) | (with_reducible refine Kd.C_drew ?_)))
      (case side2 => exact (Kd.R_reads' HO16111.out).2.1)
      rintro e w58 ⟨v16144, rfl, ho0, hb⟩
      refine ⟨_, rfl, ?_⟩
      have HO16145 := Aside0.mk (Kd.R_lower (Kd.R_new' (Kd.R_new' ho0 (Kd.R_lt (pR_ HO16120.out))) (Kd.R_lt (pR_ HO16130.out))) (below_size (pH_ HB.out)))
      replace HO16111 := Aside0.mk (Kd.R_below (pR_ HO16111.out) hb)
      replace HO16120 := Aside0.mk (Kd.R_elder' (pR_ HO16120.out) (Kd.R_base ho0) hb)
      replace HO16130 := Aside0.mk (Kd.R_elder' (pR_ HO16130.out) (Kd.R_base ho0) hb)
      replace HO16135 := Aside0.mk (Kd.R_below (pR_ HO16135.out) hb)
      replace BK16101 := Aside0.mk (blk_below (pB_ BK16101.out) hb)
      replace BK16102 := Aside0.mk (blk_below (pB_ BK16102.out) hb)
      replace BK16112 := Aside0.mk (blk_below (pB_ BK16112.out) hb)
      replace BK16132 := Aside0.mk (blk_below (pB_ BK16132.out) hb)
      replace BK16147 := Aside0.mk (blk_below (pB_ BK16147.out) hb)
      replace HB := Aside0.mk (below_step (pH_ HB.out) hb)
      (try clear hb)
      (try clear hb2)
      (try clear hk)
      (try clear hi)
      (try clear ho0)
      refine hK.out _ _ ⟨(blk_cell BK16112.out 0).trans rfl, (blk_cell BK16112.out 1).trans rfl, (blk_cell BK16112.out 2).trans rfl, (blk_cell BK16112.out 3).trans rfl, (blk_cell BK16112.out 4).trans rfl, (blk_cell BK16112.out 5).trans rfl⟩ (fun hHeld => ?_)
      clear hK K
      refine norm_ (a' := ?_) ?_ ?_
      rotate_left
      · show Act.put _ (some 47) _ = _
        simp only [Act.put, List.setIfInBounds_toArray, List.set_cons_zero, List.set_cons_succ, i64_w, i32_w]
        rfl
      refine pure_ (i := 9) (N := some 38) (v := ?_) (a' := ?_) #[true, true, true, true, true, true, true, true, true, true, false, false, true, false, false] rfl rfl (any_of HT_.out (by kernel_rfl)) (fun _ _ _ h => h) (Or.inl ⟨by rfl, ?_⟩) ?_ ?_
      rotate_left
      · intro w'
        go_simp
        with_reducible rfl
      rotate_left
      · simp only [Act.put, List.setIfInBounds_toArray, List.set_cons_zero, List.set_cons_succ, i64_w, i32_w]
        rfl
      refine pure_ (i := 10) (N := some 48) (v := ?_) (a' := ?_) #[true, true, true, true, true, true, true, true, true, true, true, false, true, false, false] rfl rfl (any_of HT_.out (by kernel_rfl)) (fun _ _ _ h => h) (Or.inl ⟨by rfl, ?_⟩) ?_ ?_
      rotate_left
      · intro w'
        go_simp
        with_reducible rfl
      rotate_left
      · simp only [Act.put, List.setIfInBounds_toArray, List.set_cons_zero, List.set_cons_succ, i64_w, i32_w]
        rfl
      refine pure_ (i := 11) (N := some 49) (v := ?_) (a' := ?_) #[true, true, true, true, true, true, true, true, true, true, true, true, true, false, false] rfl rfl (any_of HT_.out (by kernel_rfl)) (fun _ _ _ h => h) (Or.inl ⟨by rfl, ?_⟩) ?_ ?_
      rotate_left
      · intro w'
        go_simp
        with_reducible rfl
      rotate_left
      · simp only [Act.put, List.setIfInBounds_toArray, List.set_cons_zero, List.set_cons_succ, i64_w, i32_w]
        rfl
      exact norm2_ (hJ2_4_6_8_12 (.slice (some adz_v16134) y16133.length co57, adz_v16134, v16144, gb16147) _ ⟨hHeld, (pR_ HO16111.out), (pR_ HO16120.out), (pR_ HO16130.out), (pR_ HO16135.out), (by (with_reducible repeat (first | apply Kd.R_alloc | apply Kd.R_drewN | apply Kd.R_drew)); exact Kd.R_mono HO16145.out (fun _ hk => ⟨hk.1.2, hk.2⟩)), ⟨_, rfl⟩, (pB_ BK16101.out), (pB_ BK16102.out), (pB_ BK16112.out), (pB_ BK16132.out), (pB_ BK16147.out), GW16147.out, GE16147.out, NB16101_16147.out, NB16147_16101.out, NB16102_16147.out, NB16147_16102.out, NB16112_16147.out, NB16147_16112.out, NB16132_16147.out, NB16147_16132.out, (pH_ HB.out)⟩)
    skip
    rintro ⟨v16134, adz_v16134, v16144⟩ w56 ⟨hS_, h0_, h1_, h2_, h3_, h4_, h5_, h6_, h7_, h8_, h9_, h10_⟩
    have n0_ : Aside0 (Kd.R (Kd.int .i64) 3 w56 w.heap.size (fun _ => True) (.slice Ao33 t16109.length co33) t16109) := ⟨h0_⟩
    have n1_ : Aside0 (Kd.R k26 26 w56 w.heap.size (fun k_ => some k_ ≠ (.slice Ao48 t16128.length co48 : Value).ownBlock ∧ some k_ ≠ (v16144 : Value).ownBlock) (.slice Ao37 t16118.length co37) t16118) := ⟨h1_⟩
    have n2_ : Aside0 (Kd.R k26 26 w56 w.heap.size (fun k_ => some k_ ≠ (.slice Ao37 t16118.length co37 : Value).ownBlock ∧ some k_ ≠ (v16144 : Value).ownBlock) (.slice Ao48 t16128.length co48) t16128) := ⟨h2_⟩
    have n3_ : Aside0 (Kd.R Kd.string 9 w56 w.heap.size (fun _ => True) v16134 y16133) := ⟨h3_⟩
    have n4_ : Aside0 (Kd.R k26 26 w56 w.heap.size (fun k_ => some k_ ≠ (.slice Ao37 t16118.length co37 : Value).ownBlock ∧ some k_ ≠ (.slice Ao48 t16128.length co48 : Value).ownBlock) v16144 t16143) := ⟨h4_⟩
    have n5_ : Aside0 (∃ c_, (v16134 : Value) = .slice (some adz_v16134) y16133.length c_) := ⟨h5_⟩
    have n6_ : Aside0 (w56.heap[gb16101]? = some (.cells #[.int .i64 a0_0, .int .i64 a0_1, .int .i64 a0_2, .int .i64 a0_3, .int .i64 a0_4, .slice A0_5 l0_5.length c0_5] 24 (0, 0))) := ⟨h6_⟩
    have n7_ : Aside0 (w56.heap[gb16102]? = some (.cells #[.int .i64 a1_0, .int .i64 a1_1, .int .i64 a1_2, .int .i64 a1_3, .int .i64 a1_4, .slice A1_5 l1_5.length c1_5] 29 (0, 0))) := ⟨h7_⟩
    have n8_ : Aside0 (w56.heap[gb16112]? = some (.cells #[.int .i64 t16104, .int .i64 t16105, .int .i64 t16106, .int .i64 t16107, .int .i64 t16108, .slice Ao33 t16109.length co33] 24 (0, 0))) := ⟨h8_⟩
    have n9_ : Aside0 (w56.heap[gb16132]? = some (.cells #[.int .i64 t16123, .int .i64 t16124, .int .i64 t16125, .int .i64 t16126, .int .i64 t16127, .slice Ao48 t16128.length co48] 29 (0, 0))) := ⟨h9_⟩
    have n10_ : Aside0 (Below w.heap.size w w56) := ⟨h10_⟩
    clear HO16111
    clear HO16120
    clear HO16130
    clear BK16101
    clear BK16102
    clear BK16112
    clear BK16132
    clear HB
    clear h0_ h1_ h2_ h3_ h4_ h5_ h6_ h7_ h8_ h9_ h10_
    have HO16111 := n0_
    have HO16120 := n1_
    have HO16130 := n2_
    have HO16135 := n3_
    have HO16145 := n4_
    have HA_HO16135 := n5_
    have BK16101 := n6_
    have BK16102 := n7_
    have BK16112 := n8_
    have BK16132 := n9_
    have HB := n10_
    clear n0_ n1_ n2_ n3_ n4_ n5_ n6_ n7_ n8_ n9_ n10_
    have hHeld : w56.cell? ⟨gb16112, 0, none⟩ = some (.int .i64 t16104) ∧ w56.cell? ⟨gb16112, 1, none⟩ = some (.int .i64 t16105) ∧ w56.cell? ⟨gb16112, 2, none⟩ = some (.int .i64 t16106) ∧ w56.cell? ⟨gb16112, 3, none⟩ = some (.int .i64 t16107) ∧ w56.cell? ⟨gb16112, 4, none⟩ = some (.int .i64 t16108) ∧ w56.cell? ⟨gb16112, 5, none⟩ = some (.slice Ao33 t16109.length co33) := hS_
    obtain ⟨co57, eo57⟩ := HA_HO16135.out
    clear HA_HO16135
    subst eo57
    refine norm_ (a' := ?_) ?_ ?_
    rotate_left
    · simp only [putAll, Act.put, List.setIfInBounds_toArray, List.set_cons_zero, List.set_cons_succ]
      rfl
    refine one_ (i := 12) (N := some 15) #[true, true, true, true, true, true, true, true, true, true, true, true, true, false, false] rfl rfl (one_of HT_.out (by kernel_rfl)) (by decide) (fun K hK => ?_)
    refine box_step ?hg (N := 15) ?hd (cs := #[.int .i64 0, .int .i64 0, .int .i64 0, .int .i64 0, .int .i64 0, .slice none 0 0]) (t := 29) ?hr ?_; (case hd => rfl); (case hg => rfl); (case hr => first | (go_simp; done) | (go_simp; rfl))
    intro gb16147 hg w58 hbox hb
    have BK16147 := Aside0.mk (hbox)
    have GW16147 := Aside0.mk ((by rw [hg]; exact (below_size (pH_ HB.out)) : w.heap.size ≤ gb16147))
    have GE16147 := Aside0.mk ((by rw [hg]; exact (below_size (pH_ HB.out)) : w.heap.size ≤ gb16147))
    have NB16101_16147 := Aside0.mk (ltB_ hg BK16101.out)
    have NB16147_16101 := Aside0.mk (ltB_ hg BK16101.out).symm
    have NB16102_16147 := Aside0.mk (ltB_ hg BK16102.out)
    have NB16147_16102 := Aside0.mk (ltB_ hg BK16102.out).symm
    have NB16112_16147 := Aside0.mk (ltB_ hg BK16112.out)
    have NB16147_16112 := Aside0.mk (ltB_ hg BK16112.out).symm
    have NB16132_16147 := Aside0.mk (ltB_ hg BK16132.out)
    have NB16147_16132 := Aside0.mk (ltB_ hg BK16132.out).symm
    replace HO16111 := Aside0.mk (Kd.R_below (pR_ HO16111.out) hb)
    replace HO16120 := Aside0.mk (Kd.R_below (pR_ HO16120.out) hb)
    replace HO16130 := Aside0.mk (Kd.R_below (pR_ HO16130.out) hb)
    replace HO16135 := Aside0.mk (Kd.R_below (pR_ HO16135.out) hb)
    replace HO16145 := Aside0.mk (Kd.R_below (pR_ HO16145.out) hb)
    replace BK16101 := Aside0.mk (blk_below (pB_ BK16101.out) hb)
    replace BK16102 := Aside0.mk (blk_below (pB_ BK16102.out) hb)
    replace BK16112 := Aside0.mk (blk_below (pB_ BK16112.out) hb)
    replace BK16132 := Aside0.mk (blk_below (pB_ BK16132.out) hb)
    replace HB := Aside0.mk (below_step (pH_ HB.out) hb)
    clear hb hbox hg
    refine hK.out _ _ ⟨(blk_cell BK16112.out 0).trans rfl, (blk_cell BK16112.out 1).trans rfl, (blk_cell BK16112.out 2).trans rfl, (blk_cell BK16112.out 3).trans rfl, (blk_cell BK16112.out 4).trans rfl, (blk_cell BK16112.out 5).trans rfl⟩ (fun hHeld => ?_)
    clear hK K
    refine norm_ (a' := ?_) ?_ ?_
    rotate_left
    · show Act.put _ (some 15) _ = _
      simp only [Act.put, List.setIfInBounds_toArray, List.set_cons_zero, List.set_cons_succ, i64_w, i32_w]
      rfl
    exact norm2_ (hJ2_4_6_8_12 (.slice (some adz_v16134) y16133.length co57, adz_v16134, v16144, gb16147) _ ⟨hHeld, (pR_ HO16111.out), (pR_ HO16120.out), (pR_ HO16130.out), (pR_ HO16135.out), (pR_ HO16145.out), ⟨_, rfl⟩, (pB_ BK16101.out), (pB_ BK16102.out), (pB_ BK16112.out), (pB_ BK16132.out), (pB_ BK16147.out), GW16147.out, GE16147.out, NB16101_16147.out, NB16147_16101.out, NB16102_16147.out, NB16147_16102.out, NB16112_16147.out, NB16147_16112.out, NB16132_16147.out, NB16147_16132.out, (pH_ HB.out)⟩)
  rintro ⟨v16134, adz_v16134, v16144, gb16147⟩ w57 ⟨hS_, h0_, h1_, h2_, h3_, h4_, h5_, h6_, h7_, h8_, h9_, h10_, h11_, h12_, h13_, h14_, h15_, h16_, h17_, h18_, h19_, h20_, h21_⟩
  have n0_ : Aside0 (Kd.R (Kd.int .i64) 3 w57 w.heap.size (fun _ => True) (.slice Ao33 t16109.length co33) t16109) := ⟨h0_⟩
  have n1_ : Aside0 (Kd.R k26 26 w57 w.heap.size (fun k_ => some k_ ≠ (.slice Ao48 t16128.length co48 : Value).ownBlock ∧ some k_ ≠ (v16144 : Value).ownBlock) (.slice Ao37 t16118.length co37) t16118) := ⟨h1_⟩
  have n2_ : Aside0 (Kd.R k26 26 w57 w.heap.size (fun k_ => some k_ ≠ (.slice Ao37 t16118.length co37 : Value).ownBlock ∧ some k_ ≠ (v16144 : Value).ownBlock) (.slice Ao48 t16128.length co48) t16128) := ⟨h2_⟩
  have n3_ : Aside0 (Kd.R Kd.string 9 w57 w.heap.size (fun _ => True) v16134 y16133) := ⟨h3_⟩
  have n4_ : Aside0 (Kd.R k26 26 w57 w.heap.size (fun k_ => some k_ ≠ (.slice Ao37 t16118.length co37 : Value).ownBlock ∧ some k_ ≠ (.slice Ao48 t16128.length co48 : Value).ownBlock) v16144 t16143) := ⟨h4_⟩
  have n5_ : Aside0 (∃ c_, (v16134 : Value) = .slice (some adz_v16134) y16133.length c_) := ⟨h5_⟩
  have n6_ : Aside0 (w57.heap[gb16101]? = some (.cells #[.int .i64 a0_0, .int .i64 a0_1, .int .i64 a0_2, .int .i64 a0_3, .int .i64 a0_4, .slice A0_5 l0_5.length c0_5] 24 (0, 0))) := ⟨h6_⟩
  have n7_ : Aside0 (w57.heap[gb16102]? = some (.cells #[.int .i64 a1_0, .int .i64 a1_1, .int .i64 a1_2, .int .i64 a1_3, .int .i64 a1_4, .slice A1_5 l1_5.length c1_5] 29 (0, 0))) := ⟨h7_⟩
  have n8_ : Aside0 (w57.heap[gb16112]? = some (.cells #[.int .i64 t16104, .int .i64 t16105, .int .i64 t16106, .int .i64 t16107, .int .i64 t16108, .slice Ao33 t16109.length co33] 24 (0, 0))) := ⟨h8_⟩
  have n9_ : Aside0 (w57.heap[gb16132]? = some (.cells #[.int .i64 t16123, .int .i64 t16124, .int .i64 t16125, .int .i64 t16126, .int .i64 t16127, .slice Ao48 t16128.length co48] 29 (0, 0))) := ⟨h9_⟩
  have n10_ : Aside0 (w57.heap[gb16147]? = some (.cells #[.int .i64 0, .int .i64 0, .int .i64 0, .int .i64 0, .int .i64 0, .slice none 0 0] 29 (0, 0))) := ⟨h10_⟩
  have n11_ : Aside0 (w.heap.size ≤ gb16147) := ⟨h11_⟩
  have n12_ : Aside0 (w.heap.size ≤ gb16147) := ⟨h12_⟩
  have n13_ : Aside0 (gb16101 ≠ gb16147) := ⟨h13_⟩
  have n14_ : Aside0 (gb16147 ≠ gb16101) := ⟨h14_⟩
  have n15_ : Aside0 (gb16102 ≠ gb16147) := ⟨h15_⟩
  have n16_ : Aside0 (gb16147 ≠ gb16102) := ⟨h16_⟩
  have n17_ : Aside0 (gb16112 ≠ gb16147) := ⟨h17_⟩
  have n18_ : Aside0 (gb16147 ≠ gb16112) := ⟨h18_⟩
  have n19_ : Aside0 (gb16132 ≠ gb16147) := ⟨h19_⟩
  have n20_ : Aside0 (gb16147 ≠ gb16132) := ⟨h20_⟩
  have n21_ : Aside0 (Below w.heap.size w w57) := ⟨h21_⟩
  clear HO16111
  clear HO16120
  clear HO16130
  clear BK16101
  clear BK16102
  clear BK16112
  clear BK16132
  clear HB
  clear h0_ h1_ h2_ h3_ h4_ h5_ h6_ h7_ h8_ h9_ h10_ h11_ h12_ h13_ h14_ h15_ h16_ h17_ h18_ h19_ h20_ h21_
  have HO16111 := n0_
  have HO16120 := n1_
  have HO16130 := n2_
  have HO16135 := n3_
  have HO16145 := n4_
  have HA_HO16135 := n5_
  have BK16101 := n6_
  have BK16102 := n7_
  have BK16112 := n8_
  have BK16132 := n9_
  have BK16147 := n10_
  have GW16147 := n11_
  have GE16147 := n12_
  have NB16101_16147 := n13_
  have NB16147_16101 := n14_
  have NB16102_16147 := n15_
  have NB16147_16102 := n16_
  have NB16112_16147 := n17_
  have NB16147_16112 := n18_
  have NB16132_16147 := n19_
  have NB16147_16132 := n20_
  have HB := n21_
  clear n0_ n1_ n2_ n3_ n4_ n5_ n6_ n7_ n8_ n9_ n10_ n11_ n12_ n13_ n14_ n15_ n16_ n17_ n18_ n19_ n20_ n21_
  have hHeld : w57.cell? ⟨gb16112, 0, none⟩ = some (.int .i64 t16104) ∧ w57.cell? ⟨gb16112, 1, none⟩ = some (.int .i64 t16105) ∧ w57.cell? ⟨gb16112, 2, none⟩ = some (.int .i64 t16106) ∧ w57.cell? ⟨gb16112, 3, none⟩ = some (.int .i64 t16107) ∧ w57.cell? ⟨gb16112, 4, none⟩ = some (.int .i64 t16108) ∧ w57.cell? ⟨gb16112, 5, none⟩ = some (.slice Ao33 t16109.length co33) := hS_
  obtain ⟨co58, eo58⟩ := HA_HO16135.out
  clear HA_HO16135
  subst eo58
  obtain ⟨Ao64, co64, eo64⟩ := Kd.R_slice HO16145.out
  (first | subst eo64 | (injection eo64 with f1_ f2_ f3_; have f4_ := f1_.symm; have f5_ := f3_.symm; clear f1_ f2_ f3_; subst f4_; subst f5_))
  refine norm_ (a' := ?_) ?_ ?_
  rotate_left
  · simp only [putAll, Act.put, List.setIfInBounds_toArray, List.set_cons_zero, List.set_cons_succ]
    rfl
  refine one_ (i := 13) (N := none) #[true, true, true, true, true, true, true, true, true, true, true, true, true, true, false] rfl rfl (one_of HT_.out (by kernel_rfl)) (by decide) (fun K hK => ?_)
  have hs59 : w57.cell? ⟨gb16147, 0, none⟩ = some (.int .i64 0) := (blk_cell BK16147.out 0).trans rfl
  have hfs59 := blk_frozen BK16147.out 0
  have hns59_0 := NB16101_16147.out
  have hns59_1 := NB16102_16147.out
  have hns59_2 := NB16112_16147.out
  have hns59_3 := NB16132_16147.out
  have hms59_0 := NB16147_16101.out
  have hms59_1 := NB16147_16102.out
  have hms59_2 := NB16147_16112.out
  have hms59_3 := NB16147_16132.out
  have hs60 : w57.cell? ⟨gb16147, 1, none⟩ = some (.int .i64 0) := (blk_cell BK16147.out 1).trans rfl
  have hfs60 := blk_frozen BK16147.out 1
  have hns60_0 := NB16101_16147.out
  have hns60_1 := NB16102_16147.out
  have hns60_2 := NB16112_16147.out
  have hns60_3 := NB16132_16147.out
  have hms60_0 := NB16147_16101.out
  have hms60_1 := NB16147_16102.out
  have hms60_2 := NB16147_16112.out
  have hms60_3 := NB16147_16132.out
  have hs61 : w57.cell? ⟨gb16147, 2, none⟩ = some (.int .i64 0) := (blk_cell BK16147.out 2).trans rfl
  have hfs61 := blk_frozen BK16147.out 2
  have hns61_0 := NB16101_16147.out
  have hns61_1 := NB16102_16147.out
  have hns61_2 := NB16112_16147.out
  have hns61_3 := NB16132_16147.out
  have hms61_0 := NB16147_16101.out
  have hms61_1 := NB16147_16102.out
  have hms61_2 := NB16147_16112.out
  have hms61_3 := NB16147_16132.out
  have hs62 : w57.cell? ⟨gb16147, 3, none⟩ = some (.int .i64 0) := (blk_cell BK16147.out 3).trans rfl
  have hfs62 := blk_frozen BK16147.out 3
  have hns62_0 := NB16101_16147.out
  have hns62_1 := NB16102_16147.out
  have hns62_2 := NB16112_16147.out
  have hns62_3 := NB16132_16147.out
  have hms62_0 := NB16147_16101.out
  have hms62_1 := NB16147_16102.out
  have hms62_2 := NB16147_16112.out
  have hms62_3 := NB16147_16132.out
  have hs63 : w57.cell? ⟨gb16147, 4, none⟩ = some (.int .i64 0) := (blk_cell BK16147.out 4).trans rfl
  have hfs63 := blk_frozen BK16147.out 4
  have hns63_0 := NB16101_16147.out
  have hns63_1 := NB16102_16147.out
  have hns63_2 := NB16112_16147.out
  have hns63_3 := NB16132_16147.out
  have hms63_0 := NB16147_16101.out
  have hms63_1 := NB16147_16102.out
  have hms63_2 := NB16147_16112.out
  have hms63_3 := NB16147_16132.out
  have hs65 : w57.cell? ⟨gb16147, 5, none⟩ = some (.slice none 0 0) := (blk_cell BK16147.out 5).trans rfl
  have hfs65 := blk_frozen BK16147.out 5
  have hns65_0 := NB16101_16147.out
  have hns65_1 := NB16102_16147.out
  have hns65_2 := NB16112_16147.out
  have hns65_3 := NB16132_16147.out
  have hms65_0 := NB16147_16101.out
  have hms65_1 := NB16147_16102.out
  have hms65_2 := NB16147_16112.out
  have hms65_3 := NB16147_16132.out
  refine skip_ (w1 := ?_) (by rfl) rfl ?_ ?_
  rotate_left
  · go_simp
    rfl
  refine hK.out _ _ ⟨((cell_far (p := ⟨gb16147, _, none⟩) NB16112_16147.out _).trans (((cell_far (p := ⟨gb16147, _, none⟩) NB16112_16147.out _).trans (((cell_far (p := ⟨gb16147, _, none⟩) NB16112_16147.out _).trans (((cell_far (p := ⟨gb16147, _, none⟩) NB16112_16147.out _).trans (((cell_far (p := ⟨gb16147, _, none⟩) NB16112_16147.out _).trans (((cell_far (p := ⟨gb16147, _, none⟩) NB16112_16147.out _).trans (hHeld.1)))))))))))), ((cell_far (p := ⟨gb16147, _, none⟩) NB16112_16147.out _).trans (((cell_far (p := ⟨gb16147, _, none⟩) NB16112_16147.out _).trans (((cell_far (p := ⟨gb16147, _, none⟩) NB16112_16147.out _).trans (((cell_far (p := ⟨gb16147, _, none⟩) NB16112_16147.out _).trans (((cell_far (p := ⟨gb16147, _, none⟩) NB16112_16147.out _).trans (((cell_far (p := ⟨gb16147, _, none⟩) NB16112_16147.out _).trans (hHeld.2.1)))))))))))), ((cell_far (p := ⟨gb16147, _, none⟩) NB16112_16147.out _).trans (((cell_far (p := ⟨gb16147, _, none⟩) NB16112_16147.out _).trans (((cell_far (p := ⟨gb16147, _, none⟩) NB16112_16147.out _).trans (((cell_far (p := ⟨gb16147, _, none⟩) NB16112_16147.out _).trans (((cell_far (p := ⟨gb16147, _, none⟩) NB16112_16147.out _).trans (((cell_far (p := ⟨gb16147, _, none⟩) NB16112_16147.out _).trans (hHeld.2.2.1)))))))))))), ((cell_far (p := ⟨gb16147, _, none⟩) NB16112_16147.out _).trans (((cell_far (p := ⟨gb16147, _, none⟩) NB16112_16147.out _).trans (((cell_far (p := ⟨gb16147, _, none⟩) NB16112_16147.out _).trans (((cell_far (p := ⟨gb16147, _, none⟩) NB16112_16147.out _).trans (((cell_far (p := ⟨gb16147, _, none⟩) NB16112_16147.out _).trans (((cell_far (p := ⟨gb16147, _, none⟩) NB16112_16147.out _).trans (hHeld.2.2.2.1)))))))))))), ((cell_far (p := ⟨gb16147, _, none⟩) NB16112_16147.out _).trans (((cell_far (p := ⟨gb16147, _, none⟩) NB16112_16147.out _).trans (((cell_far (p := ⟨gb16147, _, none⟩) NB16112_16147.out _).trans (((cell_far (p := ⟨gb16147, _, none⟩) NB16112_16147.out _).trans (((cell_far (p := ⟨gb16147, _, none⟩) NB16112_16147.out _).trans (((cell_far (p := ⟨gb16147, _, none⟩) NB16112_16147.out _).trans (hHeld.2.2.2.2.1)))))))))))), ((cell_far (p := ⟨gb16147, _, none⟩) NB16112_16147.out _).trans (((cell_far (p := ⟨gb16147, _, none⟩) NB16112_16147.out _).trans (((cell_far (p := ⟨gb16147, _, none⟩) NB16112_16147.out _).trans (((cell_far (p := ⟨gb16147, _, none⟩) NB16112_16147.out _).trans (((cell_far (p := ⟨gb16147, _, none⟩) NB16112_16147.out _).trans (((cell_far (p := ⟨gb16147, _, none⟩) NB16112_16147.out _).trans (hHeld.2.2.2.2.2))))))))))))⟩ (fun hHeld => ?_)
  clear hK K
  refine pure_ (i := 14) (N := some 16) (v := ?_) (a' := ?_) #[true, true, true, true, true, true, true, true, true, true, true, true, true, true, true] rfl rfl (any_of HT_.out (by kernel_rfl)) (fun _ _ _ h => h) (Or.inl ⟨by rfl, ?_⟩) ?_ ?_
  rotate_left
  · intro w'
    go_simp
    with_reducible rfl
  rotate_left
  · simp only [Act.put, List.setIfInBounds_toArray, List.set_cons_zero, List.set_cons_succ, i64_w, i32_w]
    rfl
  refine done_ (done_of HT_.out (by kernel_rfl)) ?_
  have hnb66 := NB16132_16101.out
  have hnc66 := NB16101_16132.out
  have hnb67 := NB16132_16102.out
  have hnc67 := NB16102_16132.out
  have hnb68 := NB16132_16112.out
  have hnc68 := NB16112_16132.out
  have hnb69 := NB16132_16147.out
  have hnc69 := NB16147_16132.out
  have hcz70_0 : w57.cell? ⟨gb16132, 0, none⟩ = some (.int .i64 t16123) := (blk_cell BK16132.out 0).trans rfl
  have hcz70_1 : w57.cell? ⟨gb16132, 1, none⟩ = some (.int .i64 t16124) := (blk_cell BK16132.out 1).trans rfl
  have hcz70_2 : w57.cell? ⟨gb16132, 2, none⟩ = some (.int .i64 t16125) := (blk_cell BK16132.out 2).trans rfl
  have hcz70_3 : w57.cell? ⟨gb16132, 3, none⟩ = some (.int .i64 t16126) := (blk_cell BK16132.out 3).trans rfl
  have hcz70_4 : w57.cell? ⟨gb16132, 4, none⟩ = some (.int .i64 t16127) := (blk_cell BK16132.out 4).trans rfl
  have hcz70_5 : w57.cell? ⟨gb16132, 5, none⟩ = some (.slice Ao48 t16128.length co48) := (blk_cell BK16132.out 5).trans rfl
  have hfz70_0 := blk_frozen BK16132.out 0
  have hfz70_1 := blk_frozen BK16132.out 1
  have hfz70_2 := blk_frozen BK16132.out 2
  have hfz70_3 := blk_frozen BK16132.out 3
  have hfz70_4 := blk_frozen BK16132.out 4
  have hfz70_5 := blk_frozen BK16132.out 5
  try go_wp2
  go_ret
  exact ⟨by first | rfl | (simp [errW_none, errW_some] <;> rfl) | (simp [*, errW_none, errW_some] <;> rfl), by repeat (first | (with_reducible first | exact HB.out | apply below_alloc | apply pw_below_drewN | apply below_drew1 | refine below_set ?_ GE16101.out | refine below_set ?_ GE16102.out | refine below_set ?_ GE16112.out | refine below_set ?_ GE16132.out | refine below_set ?_ GE16147.out) | exact HB.out)⟩
def plaitinglaw5_FrameCut.Pure : Prop := ∀ (a0_0 : Int) (a0_1 : Int) (a0_2 : Int) (a0_3 : Int) (a0_4 : Int) (l0_5 : List Int) (a1_0 : Int) (a1_1 : Int) (a1_2 : Int) (a1_3 : Int) (a1_4 : Int) (l1_5 : List (S26)) (l2 : List Int) (a3 : Int) (a4 : Int), ((Lit.int .i64 a0_0).wf = true) → ((Lit.int .i64 a0_1).wf = true) → ((Lit.int .i64 a0_2).wf = true) → ((Lit.int .i64 a0_3).wf = true) → ((Lit.int .i64 a0_4).wf = true) → (l0_5.length ≤ maxLen ∧ ∀ y_ ∈ l0_5, (Lit.int .i64 y_).wf = true) → ((Lit.int .i64 a1_0).wf = true) → ((Lit.int .i64 a1_1).wf = true) → ((Lit.int .i64 a1_2).wf = true) → ((Lit.int .i64 a1_3).wf = true) → ((Lit.int .i64 a1_4).wf = true) → (l1_5.length ≤ maxLen ∧ ∀ y_ ∈ l1_5, ok26 y_) → (l2.length ≤ maxLen) → (l2.length * 8 ≤ 140737488351232) → (∀ y_ ∈ l2, (Lit.int .i64 y_).wf = true) → ((Lit.int .i64 a3).wf = true) → ((Lit.int .i64 a4).wf = true) → ∃ k, plaitinglaw5_FrameCut.f k a0_0 a0_1 a0_2 a0_3 a0_4 l0_5 a1_0 a1_1 a1_2 a1_3 a1_4 l1_5 l2 a3 a4 = some true
theorem plaitinglaw5_FrameCut.walk (P : plaitinglaw5_FrameCut.Pure) (a0_0 : Int) (a0_1 : Int) (a0_2 : Int) (a0_3 : Int) (a0_4 : Int) (A0_5 : Option Addr) (c0_5 : Nat) (l0_5 : List Int) (a1_0 : Int) (a1_1 : Int) (a1_2 : Int) (a1_3 : Int) (a1_4 : Int) (A1_5 : Option Addr) (c1_5 : Nat) (l1_5 : List (S26)) (A2 : Option Addr) (c2 : Nat) (l2 : List Int) (a3 : Int) (a4 : Int) (w : World) (q0 : (Lit.int .i64 a0_0).wf = true) (q1 : (Lit.int .i64 a0_1).wf = true) (q2 : (Lit.int .i64 a0_2).wf = true) (q3 : (Lit.int .i64 a0_3).wf = true) (q4 : (Lit.int .i64 a0_4).wf = true) (q5 : l0_5.length ≤ maxLen ∧ ∀ y_ ∈ l0_5, (Lit.int .i64 y_).wf = true) (q6 : (Lit.int .i64 a1_0).wf = true) (q7 : (Lit.int .i64 a1_1).wf = true) (q8 : (Lit.int .i64 a1_2).wf = true) (q9 : (Lit.int .i64 a1_3).wf = true) (q10 : (Lit.int .i64 a1_4).wf = true) (q11 : l1_5.length ≤ maxLen ∧ ∀ y_ ∈ l1_5, ok26 y_) (q12 : l2.length ≤ maxLen) (q13 : l2.length * 8 ≤ 140737488351232) (q14 : ∀ y_ ∈ l2, (Lit.int .i64 y_).wf = true) (q15 : (Lit.int .i64 a3).wf = true) (q16 : (Lit.int .i64 a4).wf = true) (hr0_5 : Kd.C (Kd.int .i64) w A0_5 l0_5.length l0_5) (hc0_5 : l0_5.length ≤ c0_5) (hr1_5 : Kd.C k26 w A1_5 l1_5.length l1_5) (hc1_5 : l1_5.length ≤ c1_5) (hr2 : Kd.C (Kd.int .i64) w A2 l2.length l2) (hc2 : l2.length ≤ c2) :
    Calls Try.prog 8 #[.agg #[.int .i64 a0_0, .int .i64 a0_1, .int .i64 a0_2, .int .i64 a0_3, .int .i64 a0_4, .slice A0_5 l0_5.length c0_5], .agg #[.int .i64 a1_0, .int .i64 a1_1, .int .i64 a1_2, .int .i64 a1_3, .int .i64 a1_4, .slice A1_5 l1_5.length c1_5], .slice A2 l2.length c2, .int .i64 a3, .int .i64 a4] w fun e w' => e = .returned (.bool true) ∧ Below w.heap.size w w' := by
  obtain ⟨k, h⟩ := P a0_0 a0_1 a0_2 a0_3 a0_4 l0_5 a1_0 a1_1 a1_2 a1_3 a1_4 l1_5 l2 a3 a4 q0 q1 q2 q3 q4 q5 q6 q7 q8 q9 q10 q11 q12 q13 q14 q15 q16
  refine (plaitinglaw5_FrameCut.calls k a0_0 a0_1 a0_2 a0_3 a0_4 A0_5 c0_5 l0_5 a1_0 a1_1 a1_2 a1_3 a1_4 A1_5 c1_5 l1_5 A2 c2 l2 a3 a4 true w hr0_5 hc0_5 hr1_5 hc1_5 hr2 hc2 rfl h).mono ?_
  rintro e w' ⟨rfl, hd⟩
  exact ⟨rfl, hd⟩
end Go.Proofs.Ytcpohmfkmgcjkaa.P
